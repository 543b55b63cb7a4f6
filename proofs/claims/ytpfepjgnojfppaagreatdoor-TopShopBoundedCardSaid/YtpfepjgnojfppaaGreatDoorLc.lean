import Derived.Test.YtpfepjgnojfppaaGreatDoorGs
import Derived.Test.YtpfepjgnojfppaaGreatDoorKt
import Derived.Test.YtpfepjgnojfppaaGreatDoorLb
import Derived.Test.YtpfepjgnojfppaaGreatDoorTz
namespace Go.Proofs.YtpfepjgnojfppaaGreatDoor
open Go.Ab
theorem split_app {c : UInt8} : ∀ {w : List UInt8} (l : List UInt8), c ∉ w → splitC c (w ++ c :: l) = w :: splitC c l
  | [], l, _ => by rw [List.nil_append, splitC, if_pos rfl]
  | b :: w, l, h => by
    have h1 : b ≠ c := fun e => h (e ▸ List.mem_cons_self)
    exact split_cons h1 (split_app l fun e => h (List.mem_cons_of_mem _ e))
theorem split_word {c : UInt8} : ∀ {w : List UInt8}, c ∉ w → splitC c w = [w]
  | [], _ => rfl
  | b :: w, h => split_cons (fun e => h (by rw [e]; exact List.mem_cons_self)) (split_word fun e => h (List.mem_cons_of_mem _ e))
theorem join2 (x y : List UInt8) (r : List (List UInt8)) (sep : List UInt8) : Lib.join (x :: y :: r) sep = x ++ (sep ++ Lib.join (y :: r) sep) := by
  rw [Lib.join_cons, Lib.join_cons]
  simp [Lib.joinTail]
theorem split_join {c : UInt8} : ∀ {ws : List (List UInt8)}, ws ≠ [] → (∀ w ∈ ws, c ∉ w) → splitC c (Lib.join ws [c]) = ws
  | [], h, _ => absurd rfl h
  | [w], _, h => by rw [Lib.join_one]; exact split_word (h w List.mem_cons_self)
  | w :: v :: ws, _, h => by
    rw [join2, List.singleton_append, split_app _ (h w List.mem_cons_self), split_join (by simp) (fun x hx => h x (List.mem_cons_of_mem _ hx))]
theorem not_join {b : UInt8} {sep : List UInt8} (h0 : b ∉ sep) : ∀ {ws : List (List UInt8)}, (∀ w ∈ ws, b ∉ w) → b ∉ Lib.join ws sep
  | [], _ => by rw [Lib.join_nil]; simp
  | [w], h => by rw [Lib.join_one]; exact h w List.mem_cons_self
  | w :: v :: ws, h => by
    rw [join2]
    simp only [List.mem_append, not_or]
    exact ⟨h w List.mem_cons_self, h0, not_join h0 fun x hx => h x (List.mem_cons_of_mem _ hx)⟩
def gath {α β : Type} (f : α → Option β) : List α → Option (List β)
  | [] => some []
  | a :: l => match f a with
    | none => none
    | some b => (gath f l).map (b :: ·)
section
variable {α β τ : Type} {f : α → Option β}
theorem gath_map {g : β → α} : ∀ {l : List β}, (∀ x ∈ l, f (g x) = some x) → gath f (l.map g) = some l
  | [], _ => rfl
  | x :: l, h => by
    simp only [List.map_cons, gath, h x List.mem_cons_self]
    rw [gath_map fun y hy => h y (List.mem_cons_of_mem _ hy)]
    rfl
theorem gath_len : ∀ {l : List α} {bs : List β}, gath f l = some bs → bs.length = l.length
  | [], bs, h => by simp only [gath, Option.some.injEq] at h; subst h; rfl
  | a :: l, bs, h => by
    simp only [gath] at h
    split at h
    · cases h
    · rw [Option.map_eq_some_iff] at h
      obtain ⟨r, h1, rfl⟩ := h
      rw [List.length_cons, List.length_cons, gath_len h1]
theorem gath_it {step : List β × τ → α → (List β × τ) × Option Code} {upd : τ → β → τ} {bad : List β × τ → Prop} (hs : ∀ q x b, f x = some b → step q x = ((q.1 ++ [b], upd q.2 b), none)) (hn : ∀ q x, f x = none → ∃ q', step q x = (q', some .ret) ∧ bad q') :
    ∀ (L : List α) (q0 : List β × τ), (∀ bs, gath f L = some bs → iterG (Ab.stepG step) (q0, none) L = (((q0.1 ++ bs, bs.foldl upd q0.2), none), true)) ∧ (gath f L = none → ∃ q', iterG (Ab.stepG step) (q0, none) L = ((q', some .ret), false) ∧ bad q')
  | [], q0 => ⟨fun bs h => by simp only [gath, Option.some.injEq] at h; subst h; simp [iterG], fun h => by cases h⟩
  | a :: l, q0 => by
    cases hf : f a with
    | none =>
      obtain ⟨q', h1, h2⟩ := hn q0 a hf
      refine ⟨fun bs h => by simp [gath, hf] at h, fun _ => ⟨q', ?_, h2⟩⟩
      simp [iterG, Ab.stepG, h1]
    | some b =>
      have h1 := hs q0 a b hf
      obtain ⟨e1, e2⟩ := gath_it hs hn l (q0.1 ++ [b], upd q0.2 b)
      have h3 : iterG (Ab.stepG step) (q0, none) (a :: l) = iterG (Ab.stepG step) ((q0.1 ++ [b], upd q0.2 b), none) l := by
        rw [iterG, show Ab.stepG step (q0, none) a = (((q0.1 ++ [b], upd q0.2 b), none), true) by unfold Ab.stepG; rw [h1]; rfl, if_pos rfl]
      rw [h3]
      constructor
      · intro bs h
        simp only [gath, hf, Option.map_eq_some_iff] at h
        obtain ⟨r, hr, rfl⟩ := h
        rw [e1 r hr]
        simp
      · intro h
        simp only [gath, hf, Option.map_eq_none_iff] at h
        exact e2 h
theorem gath_done {step : List β × τ → α → (List β × τ) × Option Code} {upd : τ → β → τ} {bad : List β × τ → Prop} (hs : ∀ q x b, f x = some b → step q x = ((q.1 ++ [b], upd q.2 b), none)) (hn : ∀ q x, f x = none → ∃ q', step q x = (q', some .ret) ∧ bad q') {L : List α} {q0 q : List β × τ}
    (h : iterG (Ab.stepG step) (q0, none) L = ((q, none), true)) : ∃ bs, gath f L = some bs ∧ q = (q0.1 ++ bs, bs.foldl upd q0.2) := by
  obtain ⟨e1, e2⟩ := gath_it hs hn L q0
  cases hg : gath f L with
  | none =>
    obtain ⟨q', h1, _⟩ := e2 hg
    rw [h1] at h
    cases h
  | some bs =>
    rw [e1 bs hg] at h
    simp only [Prod.mk.injEq, and_true] at h
    exact ⟨bs, rfl, h.symm⟩
theorem gath_stop {step : List β × τ → α → (List β × τ) × Option Code} {upd : τ → β → τ} {bad : List β × τ → Prop} (hs : ∀ q x b, f x = some b → step q x = ((q.1 ++ [b], upd q.2 b), none)) (hn : ∀ q x, f x = none → ∃ q', step q x = (q', some .ret) ∧ bad q') {L : List α} {q0 q : List β × τ} {cd : Code}
    (h : (iterG (Ab.stepG step) (q0, none) L).1 = (q, some cd)) : gath f L = none ∧ bad q ∧ cd = .ret := by
  obtain ⟨e1, e2⟩ := gath_it hs hn L q0
  cases hg : gath f L with
  | none =>
    obtain ⟨q', h1, h2⟩ := e2 hg
    rw [h1] at h
    simp only [Prod.mk.injEq, Option.some.injEq] at h
    obtain ⟨rfl, rfl⟩ := h
    exact ⟨rfl, h2, rfl⟩
  | some bs =>
    rw [e1 bs hg] at h
    cases h
end
def jobNum (a b c : List UInt8) : Bool := natC a 7 && (natC b 7 && natC c 7)
def job1 (p : List UInt8) : Option Job := match splitC 32 p with
  | [n, a, b, c] => if jobNum a b c = true then some ⟨n, decV 0 a, decV 0 b, decV 0 c⟩ else none
  | _ => none
theorem job1_eq {p n a b c : List UInt8} (h : splitC 32 p = [n, a, b, c]) : job1 p = if jobNum a b c = true then some ⟨n, decV 0 a, decV 0 b, decV 0 c⟩ else none := by unfold job1; rw [h]
theorem job1_no {p : List UInt8} (h : (splitC 32 p).length ≠ 4) : job1 p = none := by
  unfold job1
  split
  · rename_i h2; rw [h2] at h; simp at h
  · rfl
theorem cut_no {p : List UInt8} (h : (splitC 32 (cutC 32 p).2.1).length ≠ 3) : job1 p = none := by
  refine job1_no ?_
  rw [cut_split]
  split
  · rw [List.length_cons]; omega
  · simp
theorem cut_3 {p : List UInt8} (h : (splitC 32 (cutC 32 p).2.1).length = 3) : splitC 32 p = (cutC 32 p).1 :: splitC 32 (cutC 32 p).2.1 := by
  rw [cut_split]
  split
  · rfl
  · rename_i h2
    exfalso
    by_cases h3 : 0 ≤ Lib.indexByte p 32
    · exact h2 (by rw [cut_T h3])
    · rw [cut_F h3] at h
      simp [splitC] at h
theorem cut_job {p : List UInt8} {W : List (List UInt8)} (hW : splitC 32 (cutC 32 p).2.1 = W) (h : W.length = 3) (h0 : ∀ (k : Nat) (hk : k < W.length), numOk W[k] 7 = true) : job1 p = some ⟨(cutC 32 p).1, atoiV W[0], atoiV W[1], atoiV W[2]⟩ := by
  have hs := cut_3 (by rw [hW]; exact h)
  rw [hW] at hs
  match W, h with
  | [a, b, c], _ =>
    have g : ∀ {w : List UInt8}, numOk w 7 = true → natC w 7 = true ∧ atoiV w = (decV 0 w : Int) := fun {w} e => by
      have h9 : natC w 7 = true := by rw [← num_nat w (by omega : 7 ≤ 18)]; exact e
      exact ⟨h9, num_val (by omega : 7 ≤ 18) h9⟩
    have g0 := g (h0 0 (by simp))
    have g1 := g (h0 1 (by simp))
    have g2 := g (h0 2 (by simp))
    simp only [List.getElem_cons_zero, List.getElem_cons_succ] at g0 g1 g2 ⊢
    rw [job1_eq hs, if_pos (by unfold jobNum; rw [g0.1, g1.1, g2.1]; rfl), g0.2, g1.2, g2.2]
theorem cut_bad {p : List UInt8} {W : List (List UInt8)} (hW : splitC 32 (cutC 32 p).2.1 = W) (h : W.length = 3) {k : Nat} (hk : k < W.length) (h0 : numOk W[k] 7 = false) : job1 p = none := by
  have hs := cut_3 (by rw [hW]; exact h)
  rw [hW] at hs
  match W, h with
  | [a, b, c], _ =>
    rw [job1_eq hs, if_neg]
    rw [num_nat _ (by omega : 7 ≤ 18)] at h0
    unfold jobNum
    match k, hk with
    | 0, _ => rw [show natC a 7 = false from h0]; simp
    | 1, _ => rw [show natC b 7 = false from h0]; simp
    | 2, _ => rw [show natC c 7 = false from h0]; simp
def jbStep (q : List Job × Int) (p : List UInt8) : (List Job × Int) × Option Code := match job1 p with
  | some j => ((q.1 ++ [j], q.2), none)
  | none => ((q.1, 7), some .ret)
theorem jb_T {q : List Job × Int} {p : List UInt8} {j : Job} (h : job1 p = some j) : jbStep q p = ((q.1 ++ [j], q.2), none) := by unfold jbStep; rw [h]
theorem jb_F {q : List Job × Int} {p : List UInt8} (h : job1 p = none) : jbStep q p = ((q.1, 7), some .ret) := by unfold jbStep; rw [h]
theorem fold_same {β τ : Type} (e : τ) : ∀ l : List β, l.foldl (fun e _ => e) e = e
  | [] => rfl
  | _ :: l => fold_same e l
theorem jb_done {L : List (List UInt8)} {q : List Job × Int} (h : iterG (Ab.stepG jbStep) ((([], 0) : List Job × Int), none) L = ((q, none), true)) : gath job1 L = some q.1 ∧ q.2 = 0 := by
  obtain ⟨bs, h1, rfl⟩ := gath_done (f := job1) (upd := fun e _ => e) (bad := fun q => q.2 = 7) (fun q x b h => jb_T h) (fun q x h => ⟨_, jb_F h, rfl⟩) h
  exact ⟨by simpa using h1, by simpa using fold_same _ bs⟩
theorem jb_stop {L : List (List UInt8)} {q : List Job × Int} {cd : Code} (h : (iterG (Ab.stepG jbStep) ((([], 0) : List Job × Int), none) L).1 = (q, some cd)) : gath job1 L = none ∧ q.2 = 7 ∧ cd = .ret :=
  gath_stop (f := job1) (upd := fun e _ => e) (bad := fun q => q.2 = 7) (fun q x b h => jb_T h) (fun q x h => ⟨_, jb_F h, rfl⟩) h
def parseJ (l : List UInt8) : List Job × Int := if 60000 < l.length then ([], 8) else match gath job1 (splitC 59 l) with
  | none => ([], 7)
  | some js => if (jobsChk js).2 ≠ 0 then ([], (jobsChk js).2) else (js, 0)
theorem parseJ_8 {l : List UInt8} (h : 60000 < l.length) : parseJ l = ([], 8) := if_pos h
theorem parseJ_7 {l : List UInt8} (h : ¬ 60000 < l.length) (hg : gath job1 (splitC 59 l) = none) : parseJ l = ([], 7) := by unfold parseJ; rw [if_neg h, hg]
theorem parseJ_e {l : List UInt8} {js : List Job} (h : ¬ 60000 < l.length) (hg : gath job1 (splitC 59 l) = some js) (h0 : (jobsChk js).2 ≠ 0) : parseJ l = ([], (jobsChk js).2) := by unfold parseJ; rw [if_neg h, hg]; exact if_pos h0
theorem parseJ_0 {l : List UInt8} {js : List Job} (h : ¬ 60000 < l.length) (hg : gath job1 (splitC 59 l) = some js) (h0 : ¬ (jobsChk js).2 ≠ 0) : parseJ l = (js, 0) := by unfold parseJ; rw [if_neg h, hg]; exact if_neg h0
def jobStr (j : Job) : List UInt8 := Lib.join [j.name, Lib.itoa j.setup, Lib.itoa j.ticks, Lib.itoa j.due] [32]
def fmtJobs (l : List Job) : List UInt8 := Lib.join (l.map jobStr) [59]
theorem dec_len : ∀ (k u : Nat), u < 10 ^ (k + 1) → (Lib.decDigits u).length ≤ k + 1
  | 0, u, h => by rw [Lib.decDigits_one (by omega)]; simp
  | k + 1, u, h => by
    by_cases h1 : u < 10
    · rw [Lib.decDigits_one h1]; simp
    · rw [dec_big h1, List.length_append]
      have := dec_len k (u / 10) (by rw [Nat.pow_succ] at h; omega)
      simp only [List.length_cons, List.length_nil]
      omega
theorem itoa_nat {n : Int} {k : Nat} (h0 : 0 ≤ n) (h : n.toNat < 10 ^ (k + 1)) : natC (Lib.itoa n) (k + 1) = true ∧ (decV 0 (Lib.itoa n) : Int) = n := by
  rw [itoa_nn h0]
  refine ⟨natC_canon.2 ⟨dec_canon _, dec_len k _ h⟩, ?_⟩
  rw [dec_val]
  omega
theorem digs_no {l : List UInt8} {b : UInt8} (h : l.all isDig = true) (hb : isDig b = false) : b ∉ l := fun hm => by rw [List.all_eq_true.1 h b hm] at hb; cases hb
theorem itoa_no {n : Int} {b : UInt8} (h0 : 0 ≤ n) (hb : isDig b = false) : b ∉ Lib.itoa n := by rw [itoa_nn h0]; exact digs_no (dec_all _) hb
theorem allGo_all {α : Type} {g : Nat → α → Bool} {P : α → Prop} (hp : ∀ i x, g i x = true → P x) : ∀ (i : Nat) (l : List α), allGo g i l = true → ∀ x ∈ l, P x
  | _, [], _, x, hx => by cases hx
  | i, y :: l, h, x, hx => by
    rw [allGo, Bool.and_eq_true] at h
    rcases List.mem_cons.1 hx with rfl | hx
    · exact hp i _ h.1
    · exact allGo_all hp (i + 1) l h.2 x hx
theorem name_no {s : List UInt8} (h : nameOk s = true) : (32 : UInt8) ∉ s ∧ (59 : UInt8) ∉ s ∧ s ≠ [] ∧ s.length ≤ 12 := by
  unfold nameOk at h
  rw [Bool.and_eq_true, decide_eq_true_eq] at h
  have h1 := allGo_all (P := fun b : UInt8 => b.toNat ≠ 32 ∧ b.toNat ≠ 59) (fun i x hx => by
    unfold nameC at hx
    simp only [Bool.or_eq_true, Bool.and_eq_true, decide_eq_true_eq] at hx
    omega) 0 s h.1
  refine ⟨fun hm => (h1 _ hm).1 rfl, fun hm => (h1 _ hm).2 rfl, fun e => ?_, by omega⟩
  rw [e] at h
  have := h.2
  simp at this
theorem four_len (a b c d : List UInt8) : (Lib.join [a, b, c, d] [32]).length = a.length + b.length + c.length + d.length + 3 := by
  rw [join2, join2, join2, Lib.join_one]
  simp only [List.length_append, List.length_cons, List.length_nil]
  omega
theorem jobs_all {l : List Job} (h : (jobsChk l).2 = 0) : l ≠ [] ∧ l.length ≤ 7 ∧ ∀ j ∈ l, nameOk j.name = true ∧ (0 ≤ j.setup ∧ j.setup ≤ 4) ∧ (1 ≤ j.ticks ∧ j.ticks ≤ 100000) ∧ (0 ≤ j.due ∧ j.due ≤ 100000) := by
  unfold jobsChk at h
  split at h
  · cases h
  · rename_i h1
    split at h
    · cases h
    · rename_i h2
      refine ⟨fun e => h1 (by rw [e]; rfl), by omega, fun j hj => ?_⟩
      obtain ⟨i, hi, rfl⟩ := List.getElem_of_mem hj
      have h3 := jobE_0 (each_zero _ l 0 h i hi)
      exact ⟨h3.1, h3.2.2⟩
theorem jobStr_rt {j : Job} (h : nameOk j.name = true ∧ (0 ≤ j.setup ∧ j.setup ≤ 4) ∧ (1 ≤ j.ticks ∧ j.ticks ≤ 100000) ∧ (0 ≤ j.due ∧ j.due ≤ 100000)) : job1 (jobStr j) = some j ∧ (59 : UInt8) ∉ jobStr j ∧ (jobStr j).length ≤ 36 := by
  obtain ⟨h1, ⟨a1, a2⟩, ⟨b1, b2⟩, c1, c2⟩ := h
  obtain ⟨n1, n2, n3, n4⟩ := name_no h1
  obtain ⟨p1, p2⟩ := itoa_nat (k := 6) a1 (by omega)
  obtain ⟨q1, q2⟩ := itoa_nat (n := j.ticks) (k := 6) (by omega) (by omega)
  obtain ⟨r1, r2⟩ := itoa_nat (k := 6) c1 (by omega)
  have d1 : isDig 32 = false := by decide
  have d2 : isDig 59 = false := by decide
  refine ⟨?_, ?_, ?_⟩
  · show job1 (Lib.join [j.name, Lib.itoa j.setup, Lib.itoa j.ticks, Lib.itoa j.due] [32]) = some j
    rw [job1_eq (n := j.name) (a := Lib.itoa j.setup) (b := Lib.itoa j.ticks) (c := Lib.itoa j.due) (split_join (by simp) ?_), if_pos (by unfold jobNum; rw [p1, q1, r1]; rfl), p2, q2, r2]
    intro w hw
    simp only [List.mem_cons, List.not_mem_nil, or_false] at hw
    rcases hw with rfl | rfl | rfl | rfl
    · exact n1
    · exact itoa_no a1 d1
    · exact itoa_no (by omega) d1
    · exact itoa_no c1 d1
  · refine not_join (by decide) fun w hw => ?_
    simp only [List.mem_cons, List.not_mem_nil, or_false] at hw
    rcases hw with rfl | rfl | rfl | rfl
    · exact n2
    · exact itoa_no a1 d2
    · exact itoa_no (by omega) d2
    · exact itoa_no c1 d2
  · unfold jobStr
    rw [four_len]
    have e1 := (natC_canon.1 p1).2
    have e2 := (natC_canon.1 q1).2
    have e3 := (natC_canon.1 r1).2
    omega
theorem join_bd {l : List (List UInt8)} {sep : List UInt8} {B N : Nat} (h : ∀ w ∈ l, w.length ≤ B) (hN : l.length ≤ N) (hs : sep.length = 1) : (Lib.join l sep).length ≤ N * (B + 1) := by
  have h1 := join_len (sep := sep) h
  rw [hs] at h1
  exact Nat.le_trans h1 (Nat.mul_le_mul_right _ hN)
theorem rt_jobs {l : List Job} (h : (jobsChk l).2 = 0) : parseJ (fmtJobs l) = (l, 0) := by
  obtain ⟨h1, h2, h3⟩ := jobs_all h
  have hl : (fmtJobs l).length ≤ 7 * (36 + 1) := join_bd (fun w hw => by obtain ⟨j, hj, rfl⟩ := List.mem_map.1 hw; exact (jobStr_rt (h3 j hj)).2.2) (by rw [List.length_map]; exact h2) rfl
  refine parseJ_0 (by omega) ?_ (by rw [h]; decide)
  unfold fmtJobs
  rw [split_join (by simpa using h1) fun w hw => by obtain ⟨j, hj, rfl⟩ := List.mem_map.1 hw; exact (jobStr_rt (h3 j hj)).2.1]
  exact gath_map fun j hj => (jobStr_rt (h3 j hj)).1
end Go.Proofs.YtpfepjgnojfppaaGreatDoor
