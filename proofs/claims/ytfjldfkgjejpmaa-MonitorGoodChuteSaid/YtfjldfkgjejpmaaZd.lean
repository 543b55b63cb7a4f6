/-
  The law of the good chute.
-/
import Derived.Test.YtfjldfkgjejpmaaSh
import Derived.Test.YtfjldfkgjejpmaaFz
import Derived.Test.YtfjldfkgjejpmaaZc
namespace Go.Proofs.Ytfjldfkgjejpmaa
open Go.Ab

theorem lkB {a b : Bool} (h : a = b) : some (X.bool a) = some (X.bool b) := by rw [h]
theorem lkI {a b : Int} (h : a = b) : some (X.int .i64 a) = some (X.int .i64 b) := by rw [h]
theorem eachGo_first {α : Type} (g : Nat → α → Int) : ∀ (l : List α) (i : Nat), (eachGo g i l).2 ≠ 0 → ∃ j, ∃ h : j < l.length, eachGo g i l = (((i + j : Nat) : Int), g (i + j) l[j]) ∧ ∀ (k : Nat) (hk : k < j), g (i + k) l[k] = 0
  | [], _, h => absurd rfl h
  | x :: l, i, h => by
    rw [eachGo] at h ⊢
    by_cases hx : g i x ≠ 0
    · rw [if_pos hx]
      exact ⟨0, by simp, rfl, fun k hk => by omega⟩
    · rw [if_neg hx] at h ⊢
      obtain ⟨j, hj, e, hall⟩ := eachGo_first g l (i + 1) h
      refine ⟨j + 1, by simpa using hj, ?_, fun k hk => ?_⟩
      · rw [e]
        simp only [List.getElem_cons_succ]
        rw [show i + 1 + j = i + (j + 1) by omega]
      · cases k with
        | zero => exact Decidable.not_not.1 hx
        | succ k =>
          have := hall k (by omega)
          rw [List.getElem_cons_succ, show i + (k + 1) = i + 1 + k by omega]
          exact this
theorem eachGo_all0 {α : Type} (g : Nat → α → Int) : ∀ (l : List α) (i : Nat), (∀ (j : Nat) (h : j < l.length), g (i + j) l[j] = 0) → eachGo g i l = (0, 0)
  | [], _, _ => rfl
  | x :: l, i, h => by
    have h0 := h 0 (by simp)
    simp only [Nat.add_zero, List.getElem_cons_zero] at h0
    rw [eachGo, if_neg (by rw [h0]; simp)]
    refine eachGo_all0 g l (i + 1) fun j hj => ?_
    have := h (j + 1) (by simpa using hj)
    rw [List.getElem_cons_succ] at this
    rw [← this]
    congr 1
    omega
theorem take_run {l : List Event} (hl : l.length ≤ 60) {i : Nat} (hi : i ≤ l.length) (h : ∀ (j : Nat) (hj : j < l.length), j < i → evErr (l.take j) l[j] = 0) : (runT (l.take i)).2 = 0 := by
  have hlen : (l.take i).length = i := by rw [List.length_take]; omega
  rw [(run_all (l.take i)).1, refRun, if_neg (by omega), eachGo_all0]
  intro j hj
  rw [hlen] at hj
  rw [Nat.zero_add, List.getElem_take]
  unfold refG
  rw [List.take_take, Nat.min_eq_left (by omega)]
  exact h j (by omega) hj
theorem run_bad {l : List Event} (hl : l.length ≤ 60) (h : (runT l).2 ≠ 0) : ∃ j, j < l.length ∧ idxOf l = (j : Int) ∧ cntOf l = ⟨0, 0, 0⟩ ∧ (runT (l.take j)).2 = 0 := by
  have h1 := (run_all l).1
  have h2 : refRun l = eachGo (refG l) 0 l := by rw [refRun, if_neg (by omega)]
  rw [h1, h2] at h
  obtain ⟨j, hj, e, hall⟩ := eachGo_first _ l 0 h
  rw [Nat.zero_add] at e
  refine ⟨j, hj, ?_, ?_, take_run hl (by omega) fun k hk hkj => ?_⟩
  · rw [idx_eq, h2, e]
  · rw [cntOf, h1, h2, if_neg h]
  · have := hall k hkj
    rw [Nat.zero_add] at this
    exact this
structure Hist where
  passed : Bool
  marked : Bool
  left : Nat
  here : Nat
def histStep (n : Int) (H : Hist) (x : Event) : Hist := if x.part ≠ n then H else ⟨H.passed || decide (x.kind = 1), H.marked || decide (x.kind = 2), if x.kind = 3 ∨ x.kind = 4 then H.left + 1 else H.left, H.here + 1⟩
def histT (l : List Event) (n : Int) : Hist := l.foldl (histStep n) ⟨false, false, 0, 0⟩
theorem hist_snoc {l : List Event} {k : Nat} (h : k < l.length) (n : Int) : histT (l.take (k + 1)) n = histStep n (histT (l.take k) n) l[k] := by
  unfold histT
  rw [← take_snoc h, List.foldl_append]
  rfl
theorem hist_bd (l : List Event) (n : Int) : ∀ k, k ≤ l.length → (histT (l.take k) n).left ≤ k ∧ (histT (l.take k) n).here ≤ k
  | 0, _ => ⟨Nat.le_refl _, Nat.le_refl _⟩
  | k + 1, h => by
    have h1 := hist_bd l n k (by omega)
    rw [hist_snoc (by omega)]
    unfold histStep
    split
    · omega
    · refine ⟨?_, by show (histT (l.take k) n).here + 1 ≤ k + 1; omega⟩
      show (if l[k].kind = 3 ∨ l[k].kind = 4 then (histT (l.take k) n).left + 1 else (histT (l.take k) n).left) ≤ k + 1
      split <;> omega
structure HR (p : PartX) (H : Hist) : Prop where
  passed : p.passed = H.passed
  marked : p.marked = H.marked
  left : p.chute = 0 ↔ H.left = 0
  here : H.here = 0 ↔ (p.loaded = false ∧ p.passed = false ∧ p.marked = false ∧ p.chute = 0)
theorem hr_step {p : PartX} {H : Hist} (h : HR p H) {x : Event} (hk : 0 ≤ x.kind ∧ x.kind ≤ 4) (n : Int) : HR (partStep n p x) (histStep n H x) := by
  unfold partStep histStep
  by_cases hp : x.part ≠ n
  · rw [if_pos hp, if_pos hp]; exact h
  · rw [if_neg hp, if_neg hp]
    by_cases k0 : x.kind = 0
    · rw [if_pos k0]
      exact ⟨by simp [h.passed, k0], by simp [h.marked, k0], by simp [h.left, k0], by simp⟩
    · rw [if_neg k0]
      by_cases k1 : x.kind = 1
      · rw [if_pos k1]
        exact ⟨by simp [k1], by simp [h.marked, k1], by simp [h.left, k1], by simp⟩
      · rw [if_neg k1]
        by_cases k2 : x.kind = 2
        · rw [if_pos k2]
          exact ⟨by simp [h.passed, k2], by simp [k2], by simp [h.left, k2], by simp⟩
        · rw [if_neg k2]
          have k3 : x.kind = 3 ∨ x.kind = 4 := by omega
          exact ⟨by simp [h.passed, k1], by simp [h.marked, k2], by simp [k3]; omega, by simp; omega⟩
theorem hr_all (n : Int) : ∀ (l : List Event) (p : PartX) (H : Hist), HR p H → (∀ x ∈ l, 0 ≤ x.kind ∧ x.kind ≤ 4) → HR (l.foldl (partStep n) p) (l.foldl (histStep n) H)
  | [], _, _, h, _ => h
  | x :: l, _, _, h, hk => hr_all n l _ _ (hr_step h (hk x List.mem_cons_self) n) fun y hy => hk y (List.mem_cons_of_mem _ hy)
theorem ev_kind {l : List Event} {x : Event} (h : evErr l x = 0) : (0 ≤ x.kind ∧ x.kind ≤ 4) ∧ (0 ≤ x.part ∧ x.part ≤ 1000000) := by
  unfold evErr at h
  split at h
  · cases h
  · split at h
    · cases h
    · exact ⟨Decidable.not_not.1 ‹_›, Decidable.not_not.1 ‹_›⟩
theorem run_good {l : List Event} (hl : l.length ≤ 60) (h : (runT l).2 = 0) : ∀ (i : Nat) (hi : i < l.length), evErr (l.take i) l[i] = 0 := by
  intro i hi
  have h1 := (run_all l).1
  rw [h1, refRun, if_neg (by omega)] at h
  have h2 : ∀ (m : List Event) (g : Nat → Event → Int) (k : Nat), (eachGo g k m).2 = 0 → ∀ (j : Nat) (hj : j < m.length), g (k + j) m[j] = 0 := by
    intro m g
    induction m with
    | nil => intro k _ j hj; simp at hj
    | cons x m ih =>
      intro k hk j hj
      rw [eachGo] at hk
      by_cases hx : g k x ≠ 0
      · rw [if_pos hx] at hk; exact absurd hk hx
      · rw [if_neg hx] at hk
        cases j with
        | zero => exact Decidable.not_not.1 hx
        | succ j =>
          have := ih (k + 1) hk j (by simpa using hj)
          rw [List.getElem_cons_succ, show k + (j + 1) = k + 1 + j by omega]
          exact this
  have := h2 l (refG l) 0 h i hi
  rw [Nat.zero_add] at this
  exact this
/-- What is true of an event that is accepted. -/
theorem good_step {l : List Event} (hl : l.length ≤ 60) (hall : ∀ (i : Nat) (hi : i < l.length), evErr (l.take i) l[i] = 0) {i : Nat} (hi : i < l.length) :
    (l[i].kind = 0 ↔ ((histT (l.take i) l[i].part).here : Int) = 0) ∧ (histT (l.take i) l[i].part).left = 0 ∧
      (l[i].kind = 3 → leaveE (l.take i) l[i].part = 0 ∧ leaveB (l.take i) l[i].part = true ∧ (histT (l.take i) l[i].part).passed = true ∧ (histT (l.take i) l[i].part).marked = false) := by
  have hr0 := take_run hl (show i ≤ l.length by omega) fun j hj _ => hall j hj
  obtain ⟨hM, _⟩ := (run_all (l.take i)).2 hr0
  have he := hall i hi
  obtain ⟨hk, hp⟩ := ev_kind he
  have hR : HR (partT (l.take i) l[i].part) (histT (l.take i) l[i].part) := by
    refine hr_all l[i].part (l.take i) _ _ ⟨rfl, rfl, by simp, by simp⟩ fun x hx => ?_
    obtain ⟨j, hj, rfl⟩ := List.getElem_of_mem hx
    rw [List.getElem_take]
    rw [List.length_take] at hj
    exact (ev_kind (hall j (by omega))).1
  have hmem := hM.mem l[i].part
  have hnone := hM.none l[i].part
  rw [evErr, if_neg (not_not_intro hk), if_neg (not_not_intro hp)] at he
  generalize hpp : partT (l.take i) l[i].part = p at *
  generalize hHH : histT (l.take i) l[i].part = H at *
  by_cases k0 : l[i].kind = 0
  · rw [if_pos k0] at he
    have hld : p.loaded = false := by
      cases e : p.loaded with
      | false => rfl
      | true => rw [if_pos e] at he; cases he
    have hz := hnone fun e => by have := hmem.1 e; rw [hld] at this; cases this
    have h0 : H.here = 0 := hR.here.2 (by rw [hz]; exact ⟨rfl, rfl, rfl, rfl⟩)
    have h1 : H.left = 0 := hR.left.1 (by rw [hz])
    exact ⟨⟨fun _ => by omega, fun _ => k0⟩, h1, fun e => by omega⟩
  · rw [if_neg k0] at he
    by_cases q : p.loaded = false ∨ p.chute ≠ 0
    · rw [if_pos q] at he; cases he
    · rw [if_neg q] at he
      have hld : p.loaded = true := by
        cases e : p.loaded with
        | true => rfl
        | false => exact absurd (.inl e) q
      have hch : p.chute = 0 := Decidable.not_not.1 fun e => q (.inr e)
      have h0 : H.here ≠ 0 := fun e => by have := (hR.here.1 e).1; rw [hld] at this; cases this
      refine ⟨⟨fun e => absurd e k0, fun e => by omega⟩, hR.left.1 hch, fun k3 => ?_⟩
      rw [if_neg (by rintro (e | e) <;> omega)] at he
      have hlv : leavesT p = true := by
        cases e : leavesT p with
        | true => rfl
        | false => rw [if_pos ⟨k3, e⟩] at he; cases he
      have hE : leaveE (l.take i) l[i].part = 0 := by rw [leaveE, if_neg (by omega), if_pos hp]
      refine ⟨hE, by rw [leave_eq hE, hpp]; exact hlv, ?_, ?_⟩
      · rw [← hR.passed]; unfold leavesT at hlv; simp at hlv; exact hlv.1.2
      · rw [← hR.marked]; unfold leavesT at hlv; simp at hlv; exact hlv.2
def kc (l : List Event) (q : Int) (i : Nat) : Nat := (l.take i).countP fun x => decide (x.kind = q)
theorem kc_snoc {l : List Event} {i : Nat} (h : i < l.length) (q : Int) : kc l q (i + 1) = kc l q i + if l[i].kind = q then 1 else 0 := by
  unfold kc
  rw [← take_snoc h, List.countP_append, List.countP_cons, List.countP_nil, Nat.zero_add]
  simp
theorem kc_le (l : List Event) (q : Int) (i : Nat) : kc l q i ≤ i := by
  unfold kc
  have h1 := List.countP_le_length (p := fun x : Event => decide (x.kind = q)) (l := l.take i)
  rw [List.length_take] at h1
  omega
theorem cnt_kc (l : List Event) : ∀ i, i ≤ l.length → cntAt l i = ⟨(kc l 0 i : Int) - kc l 3 i - kc l 4 i, kc l 3 i, kc l 4 i⟩
  | 0, _ => rfl
  | i + 1, h => by
    rw [cntAt_succ (by omega), cnt_kc l i (by omega), kc_snoc (by omega), kc_snoc (by omega), kc_snoc (by omega)]
    unfold cntStep
    by_cases k0 : l[i].kind = 0
    · rw [if_pos k0, if_pos k0, if_neg (show ¬ l[i].kind = 3 by omega), if_neg (show ¬ l[i].kind = 4 by omega)]
      simp only [Counts.mk.injEq]
      omega
    · rw [if_neg k0, if_neg k0]
      by_cases k3 : l[i].kind = 3
      · rw [if_pos k3, if_pos k3, if_neg (show ¬ l[i].kind = 4 by omega)]
        simp only [Counts.mk.injEq]
        omega
      · rw [if_neg k3, if_neg k3]
        by_cases k4 : l[i].kind = 4
        · rw [if_pos k4, if_pos k4]
          simp only [Counts.mk.injEq]
          omega
        · rw [if_neg k4, if_neg k4]
          simp
theorem good_cnt {l : List Event} (h : (runT l).2 = 0) : cntOf l = ⟨(kc l 0 l.length : Int) - kc l 3 l.length - kc l 4 l.length, kc l 3 l.length, kc l 4 l.length⟩ := by
  rw [cnt_eq, refCnt, ← (run_all l).1, if_pos h, cnt_kc l l.length (Nat.le_refl _)]

set_option maxHeartbeats 1000000 in
theorem law_MonitorGoodChute {l : List Event} : Ct Try.prog 8 [.sl (l.map Event.cs)] (.bool true) := by
  refine Ct.intro (rs := [.tmp 2]) Try.func8 rfl Try.ntmps8 Try.results8 rfl rfl rfl fun w h => ?_
  refine OK.seq ?_
  refine OK.reg ?_
  refine RK.c (S.assign .none rfl .cbool) ?_
  refine RK.nil ?_
  refine Ab.D.code ?_
  refine OK.seq ?_
  refine OK.seq ?_
  refine OK.reg ?_
  refine RK.c (S.call (law_awake) Try.call9 .none rfl .nil rfl) ?_
  refine RK.c (S.not .none rfl (.tmp rfl rfl)) ?_
  refine RK.nil ?_
  refine Ab.D.code ?_
  refine OK.condF rfl rfl rfl ?_
  refine OK.skip ?_
  refine Ab.D.code ?_
  refine OK.seq ?_
  refine OK.seq ?_
  refine OK.reg ?_
  refine RK.c (S.move .none rfl (.tmp rfl rfl)) ?_
  refine RK.c (S.lenM si71 .none rfl (.tmp rfl rfl)) ?_
  refine RK.c (S.gtr .none rfl (.tmp rfl rfl) (.cint rfl)) ?_
  refine RK.nil ?_
  refine Ab.D.code ?_
  refine OK.condD rfl rfl (fun c24 => ?_) (fun c24 => ?_)
  ·
    refine OK.seq ?_
    refine OK.reg ?_
    refine RK.c (S.assign .none rfl .cbool) ?_
    refine RK.nil ?_
    refine Ab.D.code ?_
    refine OK.ret (Ret.r1 (.tmp rfl rfl (.c (.same rfl) rfl) rfl) ?_)
    first | rfl | (refine ret_abs ?_; omega) | (refine ret_dT ?_; rw [hj3]) | (refine ret_dT ?_; omega)
  ·
    have hl60 : l.length ≤ 60 := by omega
    refine OK.skip ?_
    refine Ab.D.code ?_
    refine OK.seq ?_
    refine OK.reg ?_
    refine RK.c (S.move .none rfl (.tmp rfl rfl)) ?_
    refine RK.c (S.call (ref_CopyEvents (by omega)) Try.call39 .none rfl (.cons (.tmp rfl rfl) .nil) rfl) ?_
    refine RK.c (S.call (mon_RunOf) Try.call38 .none rfl (.cons (.tmp rfl rfl) .nil) rfl) ?_
    refine RK.c (S.move .none rfl (.tmp rfl rfl)) ?_
    refine RK.c (S.extract .none rfl (.tmp rfl rfl) rfl rfl) ?_
    refine RK.c (S.extract .none rfl (.tmp rfl rfl) rfl rfl) ?_
    refine RK.c (S.extract .none rfl (.tmp rfl rfl) rfl rfl) ?_
    refine RK.c (S.alloc (k := 3) ze73 rfl .none rfl) ?_
    refine RK.c (S.store ti73 .none (.tmp rfl rfl) (.tmp rfl rfl) rfl rfl rfl rfl rfl rfl) ?_
    refine RK.c (S.assign .none rfl (.tmp rfl rfl)) ?_
    refine RK.c (S.assign .none rfl (.tmp rfl rfl)) ?_
    refine RK.nil ?_
    refine Ab.D.code ?_
    refine OK.seq ?_
    refine OK.seq ?_
    refine OK.reg ?_
    refine RK.c (S.move .none rfl (.tmp rfl rfl)) ?_
    refine RK.c (S.neq .none rfl (.tmp rfl rfl) (.cint rfl)) ?_
    refine RK.nil ?_
    refine Ab.D.code ?_
    refine OK.condD rfl rfl (fun c33 => ?_) (fun c33 => ?_)
    ·
      obtain ⟨j, hj1, hj2, hj3, hj4⟩ := run_bad hl60 c33
      refine OK.seq ?_
      refine OK.seq ?_
      refine OK.reg ?_
      refine RK.c (S.move .none rfl (.tmp rfl rfl)) ?_
      refine RK.c (S.move .none rfl (.tmp rfl rfl)) ?_
      refine RK.c (S.lenM si71 .none rfl (.tmp rfl rfl)) ?_
      refine RK.c (S.sub .none rfl (.tmp rfl rfl) (.cint rfl) (IntWalk.i64_in _ (by omega)) (IntWalk.i64_in _ (by omega))) ?_
      refine RK.c (S.max2 .none rfl (.cint rfl) (.tmp rfl rfl)) ?_
      refine RK.c (S.call (base_Within) Try.call45 .none rfl (.cons (.tmp rfl rfl) (.cons (.cint rfl) (.cons (.tmp rfl rfl) .nil))) rfl) ?_
      refine RK.c (S.notD .none rfl (.tmp rfl rfl)) ?_
      refine RK.nil ?_
      refine Ab.D.code ?_
      refine OK.condD rfl rfl (fun c40 => ?_) (fun c40 => ?_)
      ·
        exfalso
        omega
      ·
        refine OK.skip ?_
        refine Ab.D.code ?_
        refine OK.seq ?_
        refine OK.reg ?_
        refine RK.c (S.move .none rfl (.tmp rfl rfl)) ?_
        refine RK.c (S.move .none rfl (.tmp rfl rfl)) ?_
        refine RK.c (S.slice (hi := j) (l' := l.take j) si71 (fun _ => rfl) .none rfl (.tmp rfl rfl) (.inl ⟨rfl, rfl, rfl⟩) (.inr ⟨_, _, rfl, (.tmp rfl rfl), hj2⟩) (Nat.zero_le _) (by omega) rfl) ?_
        refine RK.c (S.call (ref_CopyEvents (l := l.take j) (by rw [List.length_take]; omega)) Try.call39 .none rfl (.cons (.tmp rfl rfl) .nil) rfl) ?_
        refine RK.c (S.call (ct_res (mon_RunOf (l := l.take j)) (by rw [hj4])) Try.call38 .none rfl (.cons (.tmp rfl rfl) .nil) rfl) ?_
        refine RK.c (S.move .none rfl (.tmp rfl rfl)) ?_
        refine RK.c (S.extract .none rfl (.tmp rfl rfl) rfl rfl) ?_
        refine RK.c (S.extract .none rfl (.tmp rfl rfl) rfl rfl) ?_
        refine RK.c (S.extract .none rfl (.tmp rfl rfl) rfl rfl) ?_
        refine RK.c (S.alloc (k := 6) ze73 rfl .none rfl) ?_
        refine RK.c (S.store ti73 .none (.tmp rfl rfl) (.tmp rfl rfl) rfl rfl rfl rfl rfl rfl) ?_
        refine RK.c (S.assign .none rfl (.tmp rfl rfl)) ?_
        refine RK.c (S.assign .none rfl (.tmp rfl rfl)) ?_
        refine RK.nil ?_
        refine Ab.D.code ?_
        refine OK.seq ?_
        refine OK.reg ?_
        refine RK.c (S.move .none rfl (.tmp rfl rfl)) ?_
        refine RK.c (S.eql .none rfl (.tmp rfl rfl) (.cint rfl)) ?_
        refine RK.c (S.move .none rfl (.tmp rfl rfl)) ?_
        refine RK.splitD (t := 52) rfl (fun g52 => ?_) (fun g52 => ?_)
        ·
          refine RK.c (S.bloadN ti73 (.yes rfl rfl rfl rfl) rfl (.tmp rfl rfl) rfl rfl rfl rfl) ?_
          refine RK.c (S.build bu73 rfl (.yes rfl rfl rfl rfl) rfl .nil rfl rfl) ?_
          refine RK.c (S.aeql [(cntOf l).inside, (cntOf l).good, (cntOf l).bad] [0, 0, 0] eq73 (.yes rfl rfl rfl rfl) rfl (.tmp rfl rfl) (.tmp rfl rfl) rfl rfl rfl rfl) ?_
          refine RK.c (S.pickT .none rfl (.tmp rfl rfl) (.tmp rfl rfl) rfl) ?_
          refine RK.c (S.assign .none rfl (.tmp rfl rfl)) ?_
          refine RK.nil ?_
          refine Ab.D.code ?_
          refine OK.ret (Ret.r1 (.tmp rfl rfl (.c (.same rfl) rfl) rfl) ?_)
          first | rfl | (refine ret_abs ?_; omega) | (refine ret_dT ?_; rw [hj3]) | (refine ret_dT ?_; omega)
        ·
          exact absurd rfl g52
    ·
      have h0 : (runT l).2 = 0 := Decidable.not_not.1 c33
      have hall := run_good hl60 h0
      have hgc := good_cnt h0
      refine OK.skip ?_
      refine Ab.D.code ?_
      refine OK.seq ?_
      refine OK.reg ?_
      refine RK.c (S.assign .none rfl (.cint rfl)) ?_
      refine RK.c (S.assign .none rfl (.cint rfl)) ?_
      refine RK.c (S.assign .none rfl (.cint rfl)) ?_
      refine RK.nil ?_
      refine Ab.D.code ?_
      refine OK.seq ?_
      refine OK.seq ?_
      refine OK.reg ?_
      refine RK.c (S.assign .none rfl (.cint rfl)) ?_
      refine RK.nil ?_
      refine Ab.D.code ?_
      refine OK.block ?_
      refine OK.loop (G := Nat) [3] (fun i => [(0, .sl (l.map Event.cs)), (3, .ptr 3 0), (1003, .box (cntOf l).cs), (9, .int .i64 (kc l 0 i)), (10, .int .i64 (kc l 3 i)), (11, .int .i64 (kc l 4 i)), (12, .int .i64 i)]) (fun i => i ≤ l.length) (fun i => l.length - i) 0 (Nat.zero_le _) ⟨rfl, rfl, rfl, rfl, rfl, rfl, rfl, trivial⟩ (fun _ => rfl) ?_
      rintro i hi
      refine OK.seq ?_
      refine OK.seq ?_
      refine OK.reg ?_
      refine RK.c (S.move .none rfl (.tmp rfl rfl)) ?_
      refine RK.c (S.move .none rfl (.tmp rfl rfl)) ?_
      refine RK.c (S.lenM si71 .none rfl (.tmp rfl rfl)) ?_
      refine RK.c (S.lss .none rfl (.tmp rfl rfl) (.tmp rfl rfl)) ?_
      refine RK.nil ?_
      refine Ab.D.code ?_
      refine OK.condD rfl rfl (fun c60 => ?_) (fun c60 => ?_)
      ·
        have k0l := kc_le l 0 i
        have k3l := kc_le l 3 i
        have k4l := kc_le l 4 i
        refine OK.skip ?_
        refine Ab.D.code ?_
        refine OK.seq ?_
        refine OK.block ?_
        refine OK.seq ?_
        refine OK.reg ?_
        refine RK.c (S.assign .none rfl .cbool) ?_
        refine RK.c (S.assign .none rfl .cbool) ?_
        refine RK.c (S.assign .none rfl (.cint rfl)) ?_
        refine RK.c (S.assign .none rfl (.cint rfl)) ?_
        refine RK.nil ?_
        refine Ab.D.code ?_
        refine OK.seq ?_
        refine OK.seq ?_
        refine OK.reg ?_
        refine RK.c (S.assign .none rfl (.cint rfl)) ?_
        refine RK.nil ?_
        refine Ab.D.code ?_
        refine OK.block ?_
        refine OK.loop (G := Nat) [3] (fun k => [(0, .sl (l.map Event.cs)), (3, .ptr 3 0), (1003, .box (cntOf l).cs), (9, .int .i64 (kc l 0 i)), (10, .int .i64 (kc l 3 i)), (11, .int .i64 (kc l 4 i)), (12, .int .i64 i), (13, .bool (histT (l.take k) l[i].part).passed), (14, .bool (histT (l.take k) l[i].part).marked), (15, .int .i64 (histT (l.take k) l[i].part).left), (16, .int .i64 (histT (l.take k) l[i].part).here), (17, .int .i64 k)]) (fun k => k ≤ i) (fun k => i - k) 0 (Nat.zero_le _) ⟨rfl, rfl, rfl, rfl, rfl, rfl, rfl, rfl, rfl, rfl, rfl, rfl, trivial⟩ (fun _ => rfl) ?_
        rintro k hk
        refine OK.seq ?_
        refine OK.seq ?_
        refine OK.reg ?_
        refine RK.c (S.move .none rfl (.tmp rfl rfl)) ?_
        refine RK.c (S.move .none rfl (.tmp rfl rfl)) ?_
        refine RK.c (S.lss .none rfl (.tmp rfl rfl) (.tmp rfl rfl)) ?_
        refine RK.nil ?_
        refine Ab.D.code ?_
        refine OK.condD rfl rfl (fun c65 => ?_) (fun c65 => ?_)
        ·
          have hbd := hist_bd l l[i].part k (by omega)
          refine OK.skip ?_
          refine Ab.D.code ?_
          refine OK.seq ?_
          refine OK.block ?_
          refine OK.seq ?_
          refine OK.seq ?_
          refine OK.regionDraw follows (.c (S.move .none rfl (.tmp rfl rfl))
            (.c (S.move .none rfl (.tmp rfl rfl))
            (.c (S.indexM (n := k) si71 .none rfl (.tmp rfl rfl) (.tmp rfl rfl) rfl (by omega) rfl)
            (.c (S.field fi89_1 .none rfl (.tmp rfl rfl) rfl)
            (.c (S.load1 ti3 .none rfl (.tmp rfl rfl) rfl)
            (.c (S.move .none rfl (.tmp rfl rfl))
            (.c (S.move .none rfl (.tmp rfl rfl))
            (.c (S.indexM (n := i) si71 .none rfl (.tmp rfl rfl) (.tmp rfl rfl) rfl (by omega) rfl)
            (.c (S.field fi89_1 .none rfl (.tmp rfl rfl) rfl)
            (.c (S.load1 ti3 .none rfl (.tmp rfl rfl) rfl)
            (.c (S.neq .none rfl (.tmp rfl rfl) (.tmp rfl rfl))
            .nil))))))))))) (by kernel_rfl) ?_
          refine Ab.D.code ?_
          refine OK.condD rfl rfl (fun c78 => ?_) (fun c78 => ?_)
          ·
            refine OK.exit rfl ?_
            refine Ab.D.code ?_
            refine OK.reg ?_
            refine RK.c (S.move .none rfl (.tmp rfl rfl)) ?_
            refine RK.c (S.add .none rfl (.tmp rfl rfl) (.cint rfl) (IntWalk.i64_in _ (by omega)) (IntWalk.i64_in _ (by omega))) ?_
            refine RK.c (S.assign .none rfl (.tmp rfl rfl)) ?_
            refine RK.nil ?_
            refine Ab.D.lp ⟨k + 1, (by omega), (by omega), rfl, rfl, rfl, rfl, rfl, rfl, rfl, (lkB (by rw [hist_snoc (show k < l.length by omega)]; unfold histStep; first | rw [if_pos c78] | (rw [if_neg c78]; simp [*]))), (lkB (by rw [hist_snoc (show k < l.length by omega)]; unfold histStep; first | rw [if_pos c78] | (rw [if_neg c78]; simp [*]))), (lkI (by rw [hist_snoc (show k < l.length by omega)]; unfold histStep; first | rw [if_pos c78] | (rw [if_neg c78]; first | (rw [if_pos (show l[k].kind = 3 ∨ l[k].kind = 4 by omega)]; rfl) | rw [if_neg (show ¬ (l[k].kind = 3 ∨ l[k].kind = 4) by omega)]))), (lkI (by rw [hist_snoc (show k < l.length by omega)]; unfold histStep; first | rw [if_pos c78] | (rw [if_neg c78]; rfl))), rfl, trivial⟩
          ·
            refine OK.skip ?_
            refine Ab.D.code ?_
            refine OK.seq ?_
            refine OK.reg ?_
            refine RK.c (S.move .none rfl (.tmp rfl rfl)) ?_
            refine RK.c (S.add .none rfl (.tmp rfl rfl) (.cint rfl) (IntWalk.i64_in _ (by omega)) (IntWalk.i64_in _ (by omega))) ?_
            refine RK.c (S.assign .none rfl (.tmp rfl rfl)) ?_
            refine RK.nil ?_
            refine Ab.D.code ?_
            refine OK.seq ?_
            refine OK.reg ?_
            refine RK.c (S.move .none rfl (.tmp rfl rfl)) ?_
            refine RK.c (S.move .none rfl (.tmp rfl rfl)) ?_
            refine RK.split (t := 82) rfl (fun g82 => ?_) (fun g82 => ?_)
            ·
              refine RK.c (S.skip rfl rfl rfl rfl rfl) ?_
              refine RK.c (S.skip rfl rfl rfl rfl rfl) ?_
              refine RK.c (S.skip rfl rfl rfl rfl rfl) ?_
              refine RK.c (S.skip rfl rfl rfl rfl rfl) ?_
              refine RK.c (S.skip rfl rfl rfl rfl rfl) ?_
              refine RK.c (S.skip rfl rfl rfl rfl rfl) ?_
              refine RK.c (S.pickT .none rfl (.tmp rfl rfl) .cbool rfl) ?_
              refine RK.c (S.assign .none rfl (.tmp rfl rfl)) ?_
              refine RK.nil ?_
              refine Ab.D.code ?_
              refine OK.seq ?_
              refine OK.reg ?_
              refine RK.c (S.move .none rfl (.tmp rfl rfl)) ?_
              refine RK.c (S.move .none rfl (.tmp rfl rfl)) ?_
              refine RK.split (t := 91) rfl (fun g91 => ?_) (fun g91 => ?_)
              ·
                refine RK.c (S.skip rfl rfl rfl rfl rfl) ?_
                refine RK.c (S.skip rfl rfl rfl rfl rfl) ?_
                refine RK.c (S.skip rfl rfl rfl rfl rfl) ?_
                refine RK.c (S.skip rfl rfl rfl rfl rfl) ?_
                refine RK.c (S.skip rfl rfl rfl rfl rfl) ?_
                refine RK.c (S.skip rfl rfl rfl rfl rfl) ?_
                refine RK.c (S.pickT .none rfl (.tmp rfl rfl) .cbool rfl) ?_
                refine RK.c (S.assign .none rfl (.tmp rfl rfl)) ?_
                refine RK.nil ?_
                refine Ab.D.code ?_
                refine OK.seq ?_
                refine OK.reg ?_
                refine RK.c (S.move .none rfl (.tmp rfl rfl)) ?_
                refine RK.c (S.move .none rfl (.tmp rfl rfl)) ?_
                refine RK.c (S.indexM (n := k) si71 .none rfl (.tmp rfl rfl) (.tmp rfl rfl) rfl (by omega) rfl) ?_
                refine RK.c (S.field fi89_0 .none rfl (.tmp rfl rfl) rfl) ?_
                refine RK.c (S.load1 ti3 .none rfl (.tmp rfl rfl) rfl) ?_
                refine RK.c (S.eql .none rfl (.tmp rfl rfl) (.cint rfl)) ?_
                refine RK.c (S.move .none rfl (.tmp rfl rfl)) ?_
                refine RK.splitD (t := 105) rfl (fun g105 => ?_) (fun g105 => ?_)
                ·
                  refine RK.c (S.skip rfl rfl rfl rfl rfl) ?_
                  refine RK.c (S.skip rfl rfl rfl rfl rfl) ?_
                  refine RK.c (S.skip rfl rfl rfl rfl rfl) ?_
                  refine RK.c (S.skip rfl rfl rfl rfl rfl) ?_
                  refine RK.c (S.skip rfl rfl rfl rfl rfl) ?_
                  refine RK.c (S.skip rfl rfl rfl rfl rfl) ?_
                  refine RK.c (S.pickT .none rfl (.tmp rfl rfl) .cbool rfl) ?_
                  refine RK.nil ?_
                  refine Ab.D.code ?_
                  refine OK.condT rfl rfl rfl ?_
                  refine OK.reg ?_
                  refine RK.c (S.move .none rfl (.tmp rfl rfl)) ?_
                  refine RK.c (S.add .none rfl (.tmp rfl rfl) (.cint rfl) (IntWalk.i64_in _ (by omega)) (IntWalk.i64_in _ (by omega))) ?_
                  refine RK.c (S.assign .none rfl (.tmp rfl rfl)) ?_
                  refine RK.nil ?_
                  refine Ab.D.blk ?_
                  refine Ab.D.code ?_
                  refine OK.reg ?_
                  refine RK.c (S.move .none rfl (.tmp rfl rfl)) ?_
                  refine RK.c (S.add .none rfl (.tmp rfl rfl) (.cint rfl) (IntWalk.i64_in _ (by omega)) (IntWalk.i64_in _ (by omega))) ?_
                  refine RK.c (S.assign .none rfl (.tmp rfl rfl)) ?_
                  refine RK.nil ?_
                  refine Ab.D.lp ⟨k + 1, (by omega), (by omega), rfl, rfl, rfl, rfl, rfl, rfl, rfl, (lkB (by rw [hist_snoc (show k < l.length by omega)]; unfold histStep; first | rw [if_pos c78] | (rw [if_neg c78]; simp [*]))), (lkB (by rw [hist_snoc (show k < l.length by omega)]; unfold histStep; first | rw [if_pos c78] | (rw [if_neg c78]; simp [*]))), (lkI (by rw [hist_snoc (show k < l.length by omega)]; unfold histStep; first | rw [if_pos c78] | (rw [if_neg c78]; first | (rw [if_pos (show l[k].kind = 3 ∨ l[k].kind = 4 by omega)]; rfl) | rw [if_neg (show ¬ (l[k].kind = 3 ∨ l[k].kind = 4) by omega)]))), (lkI (by rw [hist_snoc (show k < l.length by omega)]; unfold histStep; first | rw [if_pos c78] | (rw [if_neg c78]; rfl))), rfl, trivial⟩
                ·
                  refine RK.c (S.move (.yes rfl rfl rfl rfl) rfl (.tmp rfl rfl)) ?_
                  refine RK.c (S.move (.yes rfl rfl rfl rfl) rfl (.tmp rfl rfl)) ?_
                  refine RK.c (S.indexM (n := k) si71 (.yes rfl rfl rfl rfl) rfl (.tmp rfl rfl) (.tmp rfl rfl) rfl (by omega) rfl) ?_
                  refine RK.c (S.field fi89_0 (.yes rfl rfl rfl rfl) rfl (.tmp rfl rfl) rfl) ?_
                  refine RK.c (S.load1 ti3 (.yes rfl rfl rfl rfl) rfl (.tmp rfl rfl) rfl) ?_
                  refine RK.c (S.eql (.yes rfl rfl rfl rfl) rfl (.tmp rfl rfl) (.cint rfl)) ?_
                  refine RK.c (S.pickF .none rfl (.tmp rfl rfl) (.tmp rfl rfl) rfl) ?_
                  refine RK.nil ?_
                  refine Ab.D.code ?_
                  refine OK.condD rfl rfl (fun c112 => ?_) (fun c112 => ?_)
                  ·
                    refine OK.reg ?_
                    refine RK.c (S.move .none rfl (.tmp rfl rfl)) ?_
                    refine RK.c (S.add .none rfl (.tmp rfl rfl) (.cint rfl) (IntWalk.i64_in _ (by omega)) (IntWalk.i64_in _ (by omega))) ?_
                    refine RK.c (S.assign .none rfl (.tmp rfl rfl)) ?_
                    refine RK.nil ?_
                    refine Ab.D.blk ?_
                    refine Ab.D.code ?_
                    refine OK.reg ?_
                    refine RK.c (S.move .none rfl (.tmp rfl rfl)) ?_
                    refine RK.c (S.add .none rfl (.tmp rfl rfl) (.cint rfl) (IntWalk.i64_in _ (by omega)) (IntWalk.i64_in _ (by omega))) ?_
                    refine RK.c (S.assign .none rfl (.tmp rfl rfl)) ?_
                    refine RK.nil ?_
                    refine Ab.D.lp ⟨k + 1, (by omega), (by omega), rfl, rfl, rfl, rfl, rfl, rfl, rfl, (lkB (by rw [hist_snoc (show k < l.length by omega)]; unfold histStep; first | rw [if_pos c78] | (rw [if_neg c78]; simp [*]))), (lkB (by rw [hist_snoc (show k < l.length by omega)]; unfold histStep; first | rw [if_pos c78] | (rw [if_neg c78]; simp [*]))), (lkI (by rw [hist_snoc (show k < l.length by omega)]; unfold histStep; first | rw [if_pos c78] | (rw [if_neg c78]; first | (rw [if_pos (show l[k].kind = 3 ∨ l[k].kind = 4 by omega)]; rfl) | rw [if_neg (show ¬ (l[k].kind = 3 ∨ l[k].kind = 4) by omega)]))), (lkI (by rw [hist_snoc (show k < l.length by omega)]; unfold histStep; first | rw [if_pos c78] | (rw [if_neg c78]; rfl))), rfl, trivial⟩
                  ·
                    refine OK.skip ?_
                    refine Ab.D.blk ?_
                    refine Ab.D.code ?_
                    refine OK.reg ?_
                    refine RK.c (S.move .none rfl (.tmp rfl rfl)) ?_
                    refine RK.c (S.add .none rfl (.tmp rfl rfl) (.cint rfl) (IntWalk.i64_in _ (by omega)) (IntWalk.i64_in _ (by omega))) ?_
                    refine RK.c (S.assign .none rfl (.tmp rfl rfl)) ?_
                    refine RK.nil ?_
                    refine Ab.D.lp ⟨k + 1, (by omega), (by omega), rfl, rfl, rfl, rfl, rfl, rfl, rfl, (lkB (by rw [hist_snoc (show k < l.length by omega)]; unfold histStep; first | rw [if_pos c78] | (rw [if_neg c78]; simp [*]))), (lkB (by rw [hist_snoc (show k < l.length by omega)]; unfold histStep; first | rw [if_pos c78] | (rw [if_neg c78]; simp [*]))), (lkI (by rw [hist_snoc (show k < l.length by omega)]; unfold histStep; first | rw [if_pos c78] | (rw [if_neg c78]; first | (rw [if_pos (show l[k].kind = 3 ∨ l[k].kind = 4 by omega)]; rfl) | rw [if_neg (show ¬ (l[k].kind = 3 ∨ l[k].kind = 4) by omega)]))), (lkI (by rw [hist_snoc (show k < l.length by omega)]; unfold histStep; first | rw [if_pos c78] | (rw [if_neg c78]; rfl))), rfl, trivial⟩
              ·
                refine RK.c (S.move (.yes rfl rfl rfl rfl) rfl (.tmp rfl rfl)) ?_
                refine RK.c (S.move (.yes rfl rfl rfl rfl) rfl (.tmp rfl rfl)) ?_
                refine RK.c (S.indexM (n := k) si71 (.yes rfl rfl rfl rfl) rfl (.tmp rfl rfl) (.tmp rfl rfl) rfl (by omega) rfl) ?_
                refine RK.c (S.field fi89_0 (.yes rfl rfl rfl rfl) rfl (.tmp rfl rfl) rfl) ?_
                refine RK.c (S.load1 ti3 (.yes rfl rfl rfl rfl) rfl (.tmp rfl rfl) rfl) ?_
                refine RK.c (S.eql (.yes rfl rfl rfl rfl) rfl (.tmp rfl rfl) (.cint rfl)) ?_
                refine RK.c (S.pickF .none rfl (.tmp rfl rfl) (.tmp rfl rfl) rfl) ?_
                refine RK.c (S.assign .none rfl (.tmp rfl rfl)) ?_
                refine RK.nil ?_
                refine Ab.D.code ?_
                refine OK.seq ?_
                refine OK.reg ?_
                refine RK.c (S.move .none rfl (.tmp rfl rfl)) ?_
                refine RK.c (S.move .none rfl (.tmp rfl rfl)) ?_
                refine RK.c (S.indexM (n := k) si71 .none rfl (.tmp rfl rfl) (.tmp rfl rfl) rfl (by omega) rfl) ?_
                refine RK.c (S.field fi89_0 .none rfl (.tmp rfl rfl) rfl) ?_
                refine RK.c (S.load1 ti3 .none rfl (.tmp rfl rfl) rfl) ?_
                refine RK.c (S.eql .none rfl (.tmp rfl rfl) (.cint rfl)) ?_
                refine RK.c (S.move .none rfl (.tmp rfl rfl)) ?_
                refine RK.splitD (t := 105) rfl (fun g105 => ?_) (fun g105 => ?_)
                ·
                  refine RK.c (S.skip rfl rfl rfl rfl rfl) ?_
                  refine RK.c (S.skip rfl rfl rfl rfl rfl) ?_
                  refine RK.c (S.skip rfl rfl rfl rfl rfl) ?_
                  refine RK.c (S.skip rfl rfl rfl rfl rfl) ?_
                  refine RK.c (S.skip rfl rfl rfl rfl rfl) ?_
                  refine RK.c (S.skip rfl rfl rfl rfl rfl) ?_
                  refine RK.c (S.pickT .none rfl (.tmp rfl rfl) .cbool rfl) ?_
                  refine RK.nil ?_
                  refine Ab.D.code ?_
                  refine OK.condT rfl rfl rfl ?_
                  refine OK.reg ?_
                  refine RK.c (S.move .none rfl (.tmp rfl rfl)) ?_
                  refine RK.c (S.add .none rfl (.tmp rfl rfl) (.cint rfl) (IntWalk.i64_in _ (by omega)) (IntWalk.i64_in _ (by omega))) ?_
                  refine RK.c (S.assign .none rfl (.tmp rfl rfl)) ?_
                  refine RK.nil ?_
                  refine Ab.D.blk ?_
                  refine Ab.D.code ?_
                  refine OK.reg ?_
                  refine RK.c (S.move .none rfl (.tmp rfl rfl)) ?_
                  refine RK.c (S.add .none rfl (.tmp rfl rfl) (.cint rfl) (IntWalk.i64_in _ (by omega)) (IntWalk.i64_in _ (by omega))) ?_
                  refine RK.c (S.assign .none rfl (.tmp rfl rfl)) ?_
                  refine RK.nil ?_
                  refine Ab.D.lp ⟨k + 1, (by omega), (by omega), rfl, rfl, rfl, rfl, rfl, rfl, rfl, (lkB (by rw [hist_snoc (show k < l.length by omega)]; unfold histStep; first | rw [if_pos c78] | (rw [if_neg c78]; simp [*]))), (lkB (by rw [hist_snoc (show k < l.length by omega)]; unfold histStep; first | rw [if_pos c78] | (rw [if_neg c78]; simp [*]))), (lkI (by rw [hist_snoc (show k < l.length by omega)]; unfold histStep; first | rw [if_pos c78] | (rw [if_neg c78]; first | (rw [if_pos (show l[k].kind = 3 ∨ l[k].kind = 4 by omega)]; rfl) | rw [if_neg (show ¬ (l[k].kind = 3 ∨ l[k].kind = 4) by omega)]))), (lkI (by rw [hist_snoc (show k < l.length by omega)]; unfold histStep; first | rw [if_pos c78] | (rw [if_neg c78]; rfl))), rfl, trivial⟩
                ·
                  refine RK.c (S.move (.yes rfl rfl rfl rfl) rfl (.tmp rfl rfl)) ?_
                  refine RK.c (S.move (.yes rfl rfl rfl rfl) rfl (.tmp rfl rfl)) ?_
                  refine RK.c (S.indexM (n := k) si71 (.yes rfl rfl rfl rfl) rfl (.tmp rfl rfl) (.tmp rfl rfl) rfl (by omega) rfl) ?_
                  refine RK.c (S.field fi89_0 (.yes rfl rfl rfl rfl) rfl (.tmp rfl rfl) rfl) ?_
                  refine RK.c (S.load1 ti3 (.yes rfl rfl rfl rfl) rfl (.tmp rfl rfl) rfl) ?_
                  refine RK.c (S.eql (.yes rfl rfl rfl rfl) rfl (.tmp rfl rfl) (.cint rfl)) ?_
                  refine RK.c (S.pickF .none rfl (.tmp rfl rfl) (.tmp rfl rfl) rfl) ?_
                  refine RK.nil ?_
                  refine Ab.D.code ?_
                  refine OK.condD rfl rfl (fun c112 => ?_) (fun c112 => ?_)
                  ·
                    refine OK.reg ?_
                    refine RK.c (S.move .none rfl (.tmp rfl rfl)) ?_
                    refine RK.c (S.add .none rfl (.tmp rfl rfl) (.cint rfl) (IntWalk.i64_in _ (by omega)) (IntWalk.i64_in _ (by omega))) ?_
                    refine RK.c (S.assign .none rfl (.tmp rfl rfl)) ?_
                    refine RK.nil ?_
                    refine Ab.D.blk ?_
                    refine Ab.D.code ?_
                    refine OK.reg ?_
                    refine RK.c (S.move .none rfl (.tmp rfl rfl)) ?_
                    refine RK.c (S.add .none rfl (.tmp rfl rfl) (.cint rfl) (IntWalk.i64_in _ (by omega)) (IntWalk.i64_in _ (by omega))) ?_
                    refine RK.c (S.assign .none rfl (.tmp rfl rfl)) ?_
                    refine RK.nil ?_
                    refine Ab.D.lp ⟨k + 1, (by omega), (by omega), rfl, rfl, rfl, rfl, rfl, rfl, rfl, (lkB (by rw [hist_snoc (show k < l.length by omega)]; unfold histStep; first | rw [if_pos c78] | (rw [if_neg c78]; simp [*]))), (lkB (by rw [hist_snoc (show k < l.length by omega)]; unfold histStep; first | rw [if_pos c78] | (rw [if_neg c78]; simp [*]))), (lkI (by rw [hist_snoc (show k < l.length by omega)]; unfold histStep; first | rw [if_pos c78] | (rw [if_neg c78]; first | (rw [if_pos (show l[k].kind = 3 ∨ l[k].kind = 4 by omega)]; rfl) | rw [if_neg (show ¬ (l[k].kind = 3 ∨ l[k].kind = 4) by omega)]))), (lkI (by rw [hist_snoc (show k < l.length by omega)]; unfold histStep; first | rw [if_pos c78] | (rw [if_neg c78]; rfl))), rfl, trivial⟩
                  ·
                    refine OK.skip ?_
                    refine Ab.D.blk ?_
                    refine Ab.D.code ?_
                    refine OK.reg ?_
                    refine RK.c (S.move .none rfl (.tmp rfl rfl)) ?_
                    refine RK.c (S.add .none rfl (.tmp rfl rfl) (.cint rfl) (IntWalk.i64_in _ (by omega)) (IntWalk.i64_in _ (by omega))) ?_
                    refine RK.c (S.assign .none rfl (.tmp rfl rfl)) ?_
                    refine RK.nil ?_
                    refine Ab.D.lp ⟨k + 1, (by omega), (by omega), rfl, rfl, rfl, rfl, rfl, rfl, rfl, (lkB (by rw [hist_snoc (show k < l.length by omega)]; unfold histStep; first | rw [if_pos c78] | (rw [if_neg c78]; simp [*]))), (lkB (by rw [hist_snoc (show k < l.length by omega)]; unfold histStep; first | rw [if_pos c78] | (rw [if_neg c78]; simp [*]))), (lkI (by rw [hist_snoc (show k < l.length by omega)]; unfold histStep; first | rw [if_pos c78] | (rw [if_neg c78]; first | (rw [if_pos (show l[k].kind = 3 ∨ l[k].kind = 4 by omega)]; rfl) | rw [if_neg (show ¬ (l[k].kind = 3 ∨ l[k].kind = 4) by omega)]))), (lkI (by rw [hist_snoc (show k < l.length by omega)]; unfold histStep; first | rw [if_pos c78] | (rw [if_neg c78]; rfl))), rfl, trivial⟩
            ·
              refine RK.c (S.move (.yes rfl rfl rfl rfl) rfl (.tmp rfl rfl)) ?_
              refine RK.c (S.move (.yes rfl rfl rfl rfl) rfl (.tmp rfl rfl)) ?_
              refine RK.c (S.indexM (n := k) si71 (.yes rfl rfl rfl rfl) rfl (.tmp rfl rfl) (.tmp rfl rfl) rfl (by omega) rfl) ?_
              refine RK.c (S.field fi89_0 (.yes rfl rfl rfl rfl) rfl (.tmp rfl rfl) rfl) ?_
              refine RK.c (S.load1 ti3 (.yes rfl rfl rfl rfl) rfl (.tmp rfl rfl) rfl) ?_
              refine RK.c (S.eql (.yes rfl rfl rfl rfl) rfl (.tmp rfl rfl) (.cint rfl)) ?_
              refine RK.c (S.pickF .none rfl (.tmp rfl rfl) (.tmp rfl rfl) rfl) ?_
              refine RK.c (S.assign .none rfl (.tmp rfl rfl)) ?_
              refine RK.nil ?_
              refine Ab.D.code ?_
              refine OK.seq ?_
              refine OK.reg ?_
              refine RK.c (S.move .none rfl (.tmp rfl rfl)) ?_
              refine RK.c (S.move .none rfl (.tmp rfl rfl)) ?_
              refine RK.split (t := 91) rfl (fun g91 => ?_) (fun g91 => ?_)
              ·
                refine RK.c (S.skip rfl rfl rfl rfl rfl) ?_
                refine RK.c (S.skip rfl rfl rfl rfl rfl) ?_
                refine RK.c (S.skip rfl rfl rfl rfl rfl) ?_
                refine RK.c (S.skip rfl rfl rfl rfl rfl) ?_
                refine RK.c (S.skip rfl rfl rfl rfl rfl) ?_
                refine RK.c (S.skip rfl rfl rfl rfl rfl) ?_
                refine RK.c (S.pickT .none rfl (.tmp rfl rfl) .cbool rfl) ?_
                refine RK.c (S.assign .none rfl (.tmp rfl rfl)) ?_
                refine RK.nil ?_
                refine Ab.D.code ?_
                refine OK.seq ?_
                refine OK.reg ?_
                refine RK.c (S.move .none rfl (.tmp rfl rfl)) ?_
                refine RK.c (S.move .none rfl (.tmp rfl rfl)) ?_
                refine RK.c (S.indexM (n := k) si71 .none rfl (.tmp rfl rfl) (.tmp rfl rfl) rfl (by omega) rfl) ?_
                refine RK.c (S.field fi89_0 .none rfl (.tmp rfl rfl) rfl) ?_
                refine RK.c (S.load1 ti3 .none rfl (.tmp rfl rfl) rfl) ?_
                refine RK.c (S.eql .none rfl (.tmp rfl rfl) (.cint rfl)) ?_
                refine RK.c (S.move .none rfl (.tmp rfl rfl)) ?_
                refine RK.splitD (t := 105) rfl (fun g105 => ?_) (fun g105 => ?_)
                ·
                  refine RK.c (S.skip rfl rfl rfl rfl rfl) ?_
                  refine RK.c (S.skip rfl rfl rfl rfl rfl) ?_
                  refine RK.c (S.skip rfl rfl rfl rfl rfl) ?_
                  refine RK.c (S.skip rfl rfl rfl rfl rfl) ?_
                  refine RK.c (S.skip rfl rfl rfl rfl rfl) ?_
                  refine RK.c (S.skip rfl rfl rfl rfl rfl) ?_
                  refine RK.c (S.pickT .none rfl (.tmp rfl rfl) .cbool rfl) ?_
                  refine RK.nil ?_
                  refine Ab.D.code ?_
                  refine OK.condT rfl rfl rfl ?_
                  refine OK.reg ?_
                  refine RK.c (S.move .none rfl (.tmp rfl rfl)) ?_
                  refine RK.c (S.add .none rfl (.tmp rfl rfl) (.cint rfl) (IntWalk.i64_in _ (by omega)) (IntWalk.i64_in _ (by omega))) ?_
                  refine RK.c (S.assign .none rfl (.tmp rfl rfl)) ?_
                  refine RK.nil ?_
                  refine Ab.D.blk ?_
                  refine Ab.D.code ?_
                  refine OK.reg ?_
                  refine RK.c (S.move .none rfl (.tmp rfl rfl)) ?_
                  refine RK.c (S.add .none rfl (.tmp rfl rfl) (.cint rfl) (IntWalk.i64_in _ (by omega)) (IntWalk.i64_in _ (by omega))) ?_
                  refine RK.c (S.assign .none rfl (.tmp rfl rfl)) ?_
                  refine RK.nil ?_
                  refine Ab.D.lp ⟨k + 1, (by omega), (by omega), rfl, rfl, rfl, rfl, rfl, rfl, rfl, (lkB (by rw [hist_snoc (show k < l.length by omega)]; unfold histStep; first | rw [if_pos c78] | (rw [if_neg c78]; simp [*]))), (lkB (by rw [hist_snoc (show k < l.length by omega)]; unfold histStep; first | rw [if_pos c78] | (rw [if_neg c78]; simp [*]))), (lkI (by rw [hist_snoc (show k < l.length by omega)]; unfold histStep; first | rw [if_pos c78] | (rw [if_neg c78]; first | (rw [if_pos (show l[k].kind = 3 ∨ l[k].kind = 4 by omega)]; rfl) | rw [if_neg (show ¬ (l[k].kind = 3 ∨ l[k].kind = 4) by omega)]))), (lkI (by rw [hist_snoc (show k < l.length by omega)]; unfold histStep; first | rw [if_pos c78] | (rw [if_neg c78]; rfl))), rfl, trivial⟩
                ·
                  refine RK.c (S.move (.yes rfl rfl rfl rfl) rfl (.tmp rfl rfl)) ?_
                  refine RK.c (S.move (.yes rfl rfl rfl rfl) rfl (.tmp rfl rfl)) ?_
                  refine RK.c (S.indexM (n := k) si71 (.yes rfl rfl rfl rfl) rfl (.tmp rfl rfl) (.tmp rfl rfl) rfl (by omega) rfl) ?_
                  refine RK.c (S.field fi89_0 (.yes rfl rfl rfl rfl) rfl (.tmp rfl rfl) rfl) ?_
                  refine RK.c (S.load1 ti3 (.yes rfl rfl rfl rfl) rfl (.tmp rfl rfl) rfl) ?_
                  refine RK.c (S.eql (.yes rfl rfl rfl rfl) rfl (.tmp rfl rfl) (.cint rfl)) ?_
                  refine RK.c (S.pickF .none rfl (.tmp rfl rfl) (.tmp rfl rfl) rfl) ?_
                  refine RK.nil ?_
                  refine Ab.D.code ?_
                  refine OK.condD rfl rfl (fun c112 => ?_) (fun c112 => ?_)
                  ·
                    refine OK.reg ?_
                    refine RK.c (S.move .none rfl (.tmp rfl rfl)) ?_
                    refine RK.c (S.add .none rfl (.tmp rfl rfl) (.cint rfl) (IntWalk.i64_in _ (by omega)) (IntWalk.i64_in _ (by omega))) ?_
                    refine RK.c (S.assign .none rfl (.tmp rfl rfl)) ?_
                    refine RK.nil ?_
                    refine Ab.D.blk ?_
                    refine Ab.D.code ?_
                    refine OK.reg ?_
                    refine RK.c (S.move .none rfl (.tmp rfl rfl)) ?_
                    refine RK.c (S.add .none rfl (.tmp rfl rfl) (.cint rfl) (IntWalk.i64_in _ (by omega)) (IntWalk.i64_in _ (by omega))) ?_
                    refine RK.c (S.assign .none rfl (.tmp rfl rfl)) ?_
                    refine RK.nil ?_
                    refine Ab.D.lp ⟨k + 1, (by omega), (by omega), rfl, rfl, rfl, rfl, rfl, rfl, rfl, (lkB (by rw [hist_snoc (show k < l.length by omega)]; unfold histStep; first | rw [if_pos c78] | (rw [if_neg c78]; simp [*]))), (lkB (by rw [hist_snoc (show k < l.length by omega)]; unfold histStep; first | rw [if_pos c78] | (rw [if_neg c78]; simp [*]))), (lkI (by rw [hist_snoc (show k < l.length by omega)]; unfold histStep; first | rw [if_pos c78] | (rw [if_neg c78]; first | (rw [if_pos (show l[k].kind = 3 ∨ l[k].kind = 4 by omega)]; rfl) | rw [if_neg (show ¬ (l[k].kind = 3 ∨ l[k].kind = 4) by omega)]))), (lkI (by rw [hist_snoc (show k < l.length by omega)]; unfold histStep; first | rw [if_pos c78] | (rw [if_neg c78]; rfl))), rfl, trivial⟩
                  ·
                    refine OK.skip ?_
                    refine Ab.D.blk ?_
                    refine Ab.D.code ?_
                    refine OK.reg ?_
                    refine RK.c (S.move .none rfl (.tmp rfl rfl)) ?_
                    refine RK.c (S.add .none rfl (.tmp rfl rfl) (.cint rfl) (IntWalk.i64_in _ (by omega)) (IntWalk.i64_in _ (by omega))) ?_
                    refine RK.c (S.assign .none rfl (.tmp rfl rfl)) ?_
                    refine RK.nil ?_
                    refine Ab.D.lp ⟨k + 1, (by omega), (by omega), rfl, rfl, rfl, rfl, rfl, rfl, rfl, (lkB (by rw [hist_snoc (show k < l.length by omega)]; unfold histStep; first | rw [if_pos c78] | (rw [if_neg c78]; simp [*]))), (lkB (by rw [hist_snoc (show k < l.length by omega)]; unfold histStep; first | rw [if_pos c78] | (rw [if_neg c78]; simp [*]))), (lkI (by rw [hist_snoc (show k < l.length by omega)]; unfold histStep; first | rw [if_pos c78] | (rw [if_neg c78]; first | (rw [if_pos (show l[k].kind = 3 ∨ l[k].kind = 4 by omega)]; rfl) | rw [if_neg (show ¬ (l[k].kind = 3 ∨ l[k].kind = 4) by omega)]))), (lkI (by rw [hist_snoc (show k < l.length by omega)]; unfold histStep; first | rw [if_pos c78] | (rw [if_neg c78]; rfl))), rfl, trivial⟩
              ·
                refine RK.c (S.move (.yes rfl rfl rfl rfl) rfl (.tmp rfl rfl)) ?_
                refine RK.c (S.move (.yes rfl rfl rfl rfl) rfl (.tmp rfl rfl)) ?_
                refine RK.c (S.indexM (n := k) si71 (.yes rfl rfl rfl rfl) rfl (.tmp rfl rfl) (.tmp rfl rfl) rfl (by omega) rfl) ?_
                refine RK.c (S.field fi89_0 (.yes rfl rfl rfl rfl) rfl (.tmp rfl rfl) rfl) ?_
                refine RK.c (S.load1 ti3 (.yes rfl rfl rfl rfl) rfl (.tmp rfl rfl) rfl) ?_
                refine RK.c (S.eql (.yes rfl rfl rfl rfl) rfl (.tmp rfl rfl) (.cint rfl)) ?_
                refine RK.c (S.pickF .none rfl (.tmp rfl rfl) (.tmp rfl rfl) rfl) ?_
                refine RK.c (S.assign .none rfl (.tmp rfl rfl)) ?_
                refine RK.nil ?_
                refine Ab.D.code ?_
                refine OK.seq ?_
                refine OK.reg ?_
                refine RK.c (S.move .none rfl (.tmp rfl rfl)) ?_
                refine RK.c (S.move .none rfl (.tmp rfl rfl)) ?_
                refine RK.c (S.indexM (n := k) si71 .none rfl (.tmp rfl rfl) (.tmp rfl rfl) rfl (by omega) rfl) ?_
                refine RK.c (S.field fi89_0 .none rfl (.tmp rfl rfl) rfl) ?_
                refine RK.c (S.load1 ti3 .none rfl (.tmp rfl rfl) rfl) ?_
                refine RK.c (S.eql .none rfl (.tmp rfl rfl) (.cint rfl)) ?_
                refine RK.c (S.move .none rfl (.tmp rfl rfl)) ?_
                refine RK.splitD (t := 105) rfl (fun g105 => ?_) (fun g105 => ?_)
                ·
                  refine RK.c (S.skip rfl rfl rfl rfl rfl) ?_
                  refine RK.c (S.skip rfl rfl rfl rfl rfl) ?_
                  refine RK.c (S.skip rfl rfl rfl rfl rfl) ?_
                  refine RK.c (S.skip rfl rfl rfl rfl rfl) ?_
                  refine RK.c (S.skip rfl rfl rfl rfl rfl) ?_
                  refine RK.c (S.skip rfl rfl rfl rfl rfl) ?_
                  refine RK.c (S.pickT .none rfl (.tmp rfl rfl) .cbool rfl) ?_
                  refine RK.nil ?_
                  refine Ab.D.code ?_
                  refine OK.condT rfl rfl rfl ?_
                  refine OK.reg ?_
                  refine RK.c (S.move .none rfl (.tmp rfl rfl)) ?_
                  refine RK.c (S.add .none rfl (.tmp rfl rfl) (.cint rfl) (IntWalk.i64_in _ (by omega)) (IntWalk.i64_in _ (by omega))) ?_
                  refine RK.c (S.assign .none rfl (.tmp rfl rfl)) ?_
                  refine RK.nil ?_
                  refine Ab.D.blk ?_
                  refine Ab.D.code ?_
                  refine OK.reg ?_
                  refine RK.c (S.move .none rfl (.tmp rfl rfl)) ?_
                  refine RK.c (S.add .none rfl (.tmp rfl rfl) (.cint rfl) (IntWalk.i64_in _ (by omega)) (IntWalk.i64_in _ (by omega))) ?_
                  refine RK.c (S.assign .none rfl (.tmp rfl rfl)) ?_
                  refine RK.nil ?_
                  refine Ab.D.lp ⟨k + 1, (by omega), (by omega), rfl, rfl, rfl, rfl, rfl, rfl, rfl, (lkB (by rw [hist_snoc (show k < l.length by omega)]; unfold histStep; first | rw [if_pos c78] | (rw [if_neg c78]; simp [*]))), (lkB (by rw [hist_snoc (show k < l.length by omega)]; unfold histStep; first | rw [if_pos c78] | (rw [if_neg c78]; simp [*]))), (lkI (by rw [hist_snoc (show k < l.length by omega)]; unfold histStep; first | rw [if_pos c78] | (rw [if_neg c78]; first | (rw [if_pos (show l[k].kind = 3 ∨ l[k].kind = 4 by omega)]; rfl) | rw [if_neg (show ¬ (l[k].kind = 3 ∨ l[k].kind = 4) by omega)]))), (lkI (by rw [hist_snoc (show k < l.length by omega)]; unfold histStep; first | rw [if_pos c78] | (rw [if_neg c78]; rfl))), rfl, trivial⟩
                ·
                  refine RK.c (S.move (.yes rfl rfl rfl rfl) rfl (.tmp rfl rfl)) ?_
                  refine RK.c (S.move (.yes rfl rfl rfl rfl) rfl (.tmp rfl rfl)) ?_
                  refine RK.c (S.indexM (n := k) si71 (.yes rfl rfl rfl rfl) rfl (.tmp rfl rfl) (.tmp rfl rfl) rfl (by omega) rfl) ?_
                  refine RK.c (S.field fi89_0 (.yes rfl rfl rfl rfl) rfl (.tmp rfl rfl) rfl) ?_
                  refine RK.c (S.load1 ti3 (.yes rfl rfl rfl rfl) rfl (.tmp rfl rfl) rfl) ?_
                  refine RK.c (S.eql (.yes rfl rfl rfl rfl) rfl (.tmp rfl rfl) (.cint rfl)) ?_
                  refine RK.c (S.pickF .none rfl (.tmp rfl rfl) (.tmp rfl rfl) rfl) ?_
                  refine RK.nil ?_
                  refine Ab.D.code ?_
                  refine OK.condD rfl rfl (fun c112 => ?_) (fun c112 => ?_)
                  ·
                    refine OK.reg ?_
                    refine RK.c (S.move .none rfl (.tmp rfl rfl)) ?_
                    refine RK.c (S.add .none rfl (.tmp rfl rfl) (.cint rfl) (IntWalk.i64_in _ (by omega)) (IntWalk.i64_in _ (by omega))) ?_
                    refine RK.c (S.assign .none rfl (.tmp rfl rfl)) ?_
                    refine RK.nil ?_
                    refine Ab.D.blk ?_
                    refine Ab.D.code ?_
                    refine OK.reg ?_
                    refine RK.c (S.move .none rfl (.tmp rfl rfl)) ?_
                    refine RK.c (S.add .none rfl (.tmp rfl rfl) (.cint rfl) (IntWalk.i64_in _ (by omega)) (IntWalk.i64_in _ (by omega))) ?_
                    refine RK.c (S.assign .none rfl (.tmp rfl rfl)) ?_
                    refine RK.nil ?_
                    refine Ab.D.lp ⟨k + 1, (by omega), (by omega), rfl, rfl, rfl, rfl, rfl, rfl, rfl, (lkB (by rw [hist_snoc (show k < l.length by omega)]; unfold histStep; first | rw [if_pos c78] | (rw [if_neg c78]; simp [*]))), (lkB (by rw [hist_snoc (show k < l.length by omega)]; unfold histStep; first | rw [if_pos c78] | (rw [if_neg c78]; simp [*]))), (lkI (by rw [hist_snoc (show k < l.length by omega)]; unfold histStep; first | rw [if_pos c78] | (rw [if_neg c78]; first | (rw [if_pos (show l[k].kind = 3 ∨ l[k].kind = 4 by omega)]; rfl) | rw [if_neg (show ¬ (l[k].kind = 3 ∨ l[k].kind = 4) by omega)]))), (lkI (by rw [hist_snoc (show k < l.length by omega)]; unfold histStep; first | rw [if_pos c78] | (rw [if_neg c78]; rfl))), rfl, trivial⟩
                  ·
                    refine OK.skip ?_
                    refine Ab.D.blk ?_
                    refine Ab.D.code ?_
                    refine OK.reg ?_
                    refine RK.c (S.move .none rfl (.tmp rfl rfl)) ?_
                    refine RK.c (S.add .none rfl (.tmp rfl rfl) (.cint rfl) (IntWalk.i64_in _ (by omega)) (IntWalk.i64_in _ (by omega))) ?_
                    refine RK.c (S.assign .none rfl (.tmp rfl rfl)) ?_
                    refine RK.nil ?_
                    refine Ab.D.lp ⟨k + 1, (by omega), (by omega), rfl, rfl, rfl, rfl, rfl, rfl, rfl, (lkB (by rw [hist_snoc (show k < l.length by omega)]; unfold histStep; first | rw [if_pos c78] | (rw [if_neg c78]; simp [*]))), (lkB (by rw [hist_snoc (show k < l.length by omega)]; unfold histStep; first | rw [if_pos c78] | (rw [if_neg c78]; simp [*]))), (lkI (by rw [hist_snoc (show k < l.length by omega)]; unfold histStep; first | rw [if_pos c78] | (rw [if_neg c78]; first | (rw [if_pos (show l[k].kind = 3 ∨ l[k].kind = 4 by omega)]; rfl) | rw [if_neg (show ¬ (l[k].kind = 3 ∨ l[k].kind = 4) by omega)]))), (lkI (by rw [hist_snoc (show k < l.length by omega)]; unfold histStep; first | rw [if_pos c78] | (rw [if_neg c78]; rfl))), rfl, trivial⟩
        ·
          have hki : i = k := by omega
          subst hki
          obtain ⟨s1, s2, s3⟩ := good_step hl60 hall (show i < l.length by omega)
          refine OK.exit rfl ?_
          refine Ab.D.code ?_
          refine OK.seq ?_
          refine OK.seq ?_
          refine OK.reg ?_
          refine RK.c (S.move .none rfl (.tmp rfl rfl)) ?_
          refine RK.c (S.move .none rfl (.tmp rfl rfl)) ?_
          refine RK.c (S.indexM (n := i) si71 .none rfl (.tmp rfl rfl) (.tmp rfl rfl) rfl (by omega) rfl) ?_
          refine RK.c (S.field fi89_0 .none rfl (.tmp rfl rfl) rfl) ?_
          refine RK.c (S.load1 ti3 .none rfl (.tmp rfl rfl) rfl) ?_
          refine RK.c (S.eql .none rfl (.tmp rfl rfl) (.cint rfl)) ?_
          refine RK.c (S.move .none rfl (.tmp rfl rfl)) ?_
          refine RK.c (S.eql .none rfl (.tmp rfl rfl) (.cint rfl)) ?_
          refine RK.c (S.bneq Try.underlying4 .none rfl (.tmp rfl rfl) (.tmp rfl rfl)) ?_
          refine RK.c (S.move .none rfl (.tmp rfl rfl)) ?_
          refine RK.splitD (t := 124) rfl (fun g124 => ?_) (fun g124 => ?_)
          ·
            exact absurd (decide_eq_decide.2 s1) g124
          ·
            refine RK.c (S.move (.yes rfl rfl rfl rfl) rfl (.tmp rfl rfl)) ?_
            refine RK.c (S.gtr (.yes rfl rfl rfl rfl) rfl (.tmp rfl rfl) (.cint rfl)) ?_
            refine RK.c (S.pickF .none rfl (.tmp rfl rfl) (.tmp rfl rfl) rfl) ?_
            refine RK.nil ?_
            refine Ab.D.code ?_
            refine OK.condD rfl rfl (fun c127 => ?_) (fun c127 => ?_)
            ·
              exfalso
              omega
            ·
              refine OK.skip ?_
              refine Ab.D.code ?_
              refine OK.seq ?_
              refine OK.reg ?_
              refine RK.c (S.move .none rfl (.tmp rfl rfl)) ?_
              refine RK.c (S.move .none rfl (.tmp rfl rfl)) ?_
              refine RK.c (S.indexM (n := i) si71 .none rfl (.tmp rfl rfl) (.tmp rfl rfl) rfl (by omega) rfl) ?_
              refine RK.c (S.field fi89_0 .none rfl (.tmp rfl rfl) rfl) ?_
              refine RK.c (S.load1 ti3 .none rfl (.tmp rfl rfl) rfl) ?_
              refine RK.nil ?_
              refine Ab.D.code ?_
              refine OK.block ?_
              refine OK.seq ?_
              refine OK.reg ?_
              refine RK.c (S.eql .none rfl (.tmp rfl rfl) (.cint rfl)) ?_
              refine RK.c (S.assign .none rfl (.tmp rfl rfl)) ?_
              refine RK.nil ?_
              refine Ab.D.code ?_
              refine OK.condD rfl rfl (fun c133 => ?_) (fun c133 => ?_)
              ·
                refine OK.reg ?_
                refine RK.c (S.move .none rfl (.tmp rfl rfl)) ?_
                refine RK.c (S.add .none rfl (.tmp rfl rfl) (.cint rfl) (IntWalk.i64_in _ (by omega)) (IntWalk.i64_in _ (by omega))) ?_
                refine RK.c (S.assign .none rfl (.tmp rfl rfl)) ?_
                refine RK.nil ?_
                refine Ab.D.blk ?_
                refine Ab.D.blk ?_
                refine Ab.D.code ?_
                refine OK.reg ?_
                refine RK.c (S.move .none rfl (.tmp rfl rfl)) ?_
                refine RK.c (S.add .none rfl (.tmp rfl rfl) (.cint rfl) (IntWalk.i64_in _ (by omega)) (IntWalk.i64_in _ (by omega))) ?_
                refine RK.c (S.assign .none rfl (.tmp rfl rfl)) ?_
                refine RK.nil ?_
                refine Ab.D.lp ⟨i + 1, (by omega), (by omega), rfl, rfl, rfl, (lkI (by rw [kc_snoc (show i < l.length by omega)]; first | (rw [if_pos (by omega)]; rfl) | (rw [if_neg (by omega)]; rfl))), (lkI (by rw [kc_snoc (show i < l.length by omega)]; first | (rw [if_pos (by omega)]; rfl) | (rw [if_neg (by omega)]; rfl))), (lkI (by rw [kc_snoc (show i < l.length by omega)]; first | (rw [if_pos (by omega)]; rfl) | (rw [if_neg (by omega)]; rfl))), rfl, trivial⟩
              ·
                refine OK.seq ?_
                refine OK.reg ?_
                refine RK.c (S.eql .none rfl (.tmp rfl rfl) (.cint rfl)) ?_
                refine RK.c (S.assign .none rfl (.tmp rfl rfl)) ?_
                refine RK.nil ?_
                refine Ab.D.code ?_
                refine OK.condD rfl rfl (fun c137 => ?_) (fun c137 => ?_)
                ·
                  obtain ⟨v1, v2, v3, v4⟩ := s3 c137
                  refine OK.seq ?_
                  refine OK.reg ?_
                  refine RK.c (S.move .none rfl (.tmp rfl rfl)) ?_
                  refine RK.c (S.add .none rfl (.tmp rfl rfl) (.cint rfl) (IntWalk.i64_in _ (by omega)) (IntWalk.i64_in _ (by omega))) ?_
                  refine RK.c (S.assign .none rfl (.tmp rfl rfl)) ?_
                  refine RK.nil ?_
                  refine Ab.D.code ?_
                  refine OK.seq ?_
                  refine OK.regionDraw follows (.c (S.move .none rfl (.tmp rfl rfl))
                    (.c (S.move .none rfl (.tmp rfl rfl))
                    (.c (S.slice (hi := i) (l' := l.take i) si71 (fun _ => rfl) .none rfl (.tmp rfl rfl) (.inl ⟨rfl, rfl, rfl⟩) (.inr ⟨_, _, rfl, (.tmp rfl rfl), rfl⟩) (Nat.zero_le _) (by omega) rfl)
                    (.c (S.call (ref_CopyEvents (l := l.take i) (by rw [List.length_take]; omega)) Try.call39 .none rfl (.cons (.tmp rfl rfl) .nil) rfl)
                    (.c (S.move .none rfl (.tmp rfl rfl))
                    (.c (S.move .none rfl (.tmp rfl rfl))
                    (.c (S.indexM (n := i) si71 .none rfl (.tmp rfl rfl) (.tmp rfl rfl) rfl (by omega) rfl)
                    (.c (S.field fi89_1 .none rfl (.tmp rfl rfl) rfl)
                    (.c (S.load1 ti3 .none rfl (.tmp rfl rfl) rfl)
                    (.c (S.call (ct_res (mon_MayLeave (l := l.take i) (part := l[i].part)) (by rw [v1, v2])) Try.call40 .none rfl (.cons (.tmp rfl rfl) (.cons (.tmp rfl rfl) .nil)) rfl)
                    (.c (S.move .none rfl (.tmp rfl rfl))
                    (.c (S.extract .none rfl (.tmp rfl rfl) rfl rfl)
                    (.c (S.extract .none rfl (.tmp rfl rfl) rfl rfl)
                    (.c (S.assign .none rfl (.tmp rfl rfl))
                    (.c (S.assign .none rfl (.tmp rfl rfl))
                    .nil))))))))))))))) (by kernel_rfl) ?_
                  refine Ab.D.code ?_
                  refine OK.seq ?_
                  refine OK.reg ?_
                  refine RK.c (S.move .none rfl (.tmp rfl rfl)) ?_
                  refine RK.c (S.neq .none rfl (.tmp rfl rfl) (.cint rfl)) ?_
                  refine RK.c (S.move .none rfl (.tmp rfl rfl)) ?_
                  refine RK.splitD (t := 156) rfl (fun g156 => ?_) (fun g156 => ?_)
                  ·
                    exact absurd rfl g156
                  ·
                    refine RK.c (S.move (.yes rfl rfl rfl rfl) rfl (.tmp rfl rfl)) ?_
                    refine RK.c (S.not (.yes rfl rfl rfl rfl) rfl (.tmp rfl rfl)) ?_
                    refine RK.c (S.pickF .none rfl (.tmp rfl rfl) (.tmp rfl rfl) rfl) ?_
                    refine RK.c (S.move .none rfl (.tmp rfl rfl)) ?_
                    refine RK.split (t := 160) rfl (fun g160 => ?_) (fun g160 => ?_)
                    ·
                      cases g160
                    ·
                      refine RK.c (S.move (.yes rfl rfl rfl rfl) rfl (.tmp rfl rfl)) ?_
                      refine RK.c (S.not (.yes rfl rfl rfl rfl) rfl (.tmp rfl rfl)) ?_
                      refine RK.c (S.pickF .none rfl (.tmp rfl rfl) (.tmp rfl rfl) rfl) ?_
                      refine RK.c (S.move .none rfl (.tmp rfl rfl)) ?_
                      refine RK.split (t := 164) rfl (fun g164 => ?_) (fun g164 => ?_)
                      ·
                        rw [v3] at g164
                        cases g164
                      ·
                        refine RK.c (S.move (.yes rfl rfl rfl rfl) rfl (.tmp rfl rfl)) ?_
                        refine RK.c (S.pickF .none rfl (.tmp rfl rfl) (.tmp rfl rfl) rfl) ?_
                        refine RK.nil ?_
                        refine Ab.D.code ?_
                        refine OK.cond rfl rfl (fun c166 => ?_) (fun c166 => ?_)
                        ·
                          rw [v4] at c166
                          cases c166
                        ·
                          refine OK.skip ?_
                          refine Ab.D.blk ?_
                          refine Ab.D.blk ?_
                          refine Ab.D.code ?_
                          refine OK.reg ?_
                          refine RK.c (S.move .none rfl (.tmp rfl rfl)) ?_
                          refine RK.c (S.add .none rfl (.tmp rfl rfl) (.cint rfl) (IntWalk.i64_in _ (by omega)) (IntWalk.i64_in _ (by omega))) ?_
                          refine RK.c (S.assign .none rfl (.tmp rfl rfl)) ?_
                          refine RK.nil ?_
                          refine Ab.D.lp ⟨i + 1, (by omega), (by omega), rfl, rfl, rfl, (lkI (by rw [kc_snoc (show i < l.length by omega)]; first | (rw [if_pos (by omega)]; rfl) | (rw [if_neg (by omega)]; rfl))), (lkI (by rw [kc_snoc (show i < l.length by omega)]; first | (rw [if_pos (by omega)]; rfl) | (rw [if_neg (by omega)]; rfl))), (lkI (by rw [kc_snoc (show i < l.length by omega)]; first | (rw [if_pos (by omega)]; rfl) | (rw [if_neg (by omega)]; rfl))), rfl, trivial⟩
                ·
                  refine OK.seq ?_
                  refine OK.reg ?_
                  refine RK.c (S.eql .none rfl (.tmp rfl rfl) (.cint rfl)) ?_
                  refine RK.c (S.assign .none rfl (.tmp rfl rfl)) ?_
                  refine RK.nil ?_
                  refine Ab.D.code ?_
                  refine OK.condD rfl rfl (fun c167 => ?_) (fun c167 => ?_)
                  ·
                    refine OK.reg ?_
                    refine RK.c (S.move .none rfl (.tmp rfl rfl)) ?_
                    refine RK.c (S.add .none rfl (.tmp rfl rfl) (.cint rfl) (IntWalk.i64_in _ (by omega)) (IntWalk.i64_in _ (by omega))) ?_
                    refine RK.c (S.assign .none rfl (.tmp rfl rfl)) ?_
                    refine RK.nil ?_
                    refine Ab.D.blk ?_
                    refine Ab.D.blk ?_
                    refine Ab.D.code ?_
                    refine OK.reg ?_
                    refine RK.c (S.move .none rfl (.tmp rfl rfl)) ?_
                    refine RK.c (S.add .none rfl (.tmp rfl rfl) (.cint rfl) (IntWalk.i64_in _ (by omega)) (IntWalk.i64_in _ (by omega))) ?_
                    refine RK.c (S.assign .none rfl (.tmp rfl rfl)) ?_
                    refine RK.nil ?_
                    refine Ab.D.lp ⟨i + 1, (by omega), (by omega), rfl, rfl, rfl, (lkI (by rw [kc_snoc (show i < l.length by omega)]; first | (rw [if_pos (by omega)]; rfl) | (rw [if_neg (by omega)]; rfl))), (lkI (by rw [kc_snoc (show i < l.length by omega)]; first | (rw [if_pos (by omega)]; rfl) | (rw [if_neg (by omega)]; rfl))), (lkI (by rw [kc_snoc (show i < l.length by omega)]; first | (rw [if_pos (by omega)]; rfl) | (rw [if_neg (by omega)]; rfl))), rfl, trivial⟩
                  ·
                    refine OK.skip ?_
                    refine Ab.D.blk ?_
                    refine Ab.D.blk ?_
                    refine Ab.D.code ?_
                    refine OK.reg ?_
                    refine RK.c (S.move .none rfl (.tmp rfl rfl)) ?_
                    refine RK.c (S.add .none rfl (.tmp rfl rfl) (.cint rfl) (IntWalk.i64_in _ (by omega)) (IntWalk.i64_in _ (by omega))) ?_
                    refine RK.c (S.assign .none rfl (.tmp rfl rfl)) ?_
                    refine RK.nil ?_
                    refine Ab.D.lp ⟨i + 1, (by omega), (by omega), rfl, rfl, rfl, (lkI (by rw [kc_snoc (show i < l.length by omega)]; first | (rw [if_pos (by omega)]; rfl) | (rw [if_neg (by omega)]; rfl))), (lkI (by rw [kc_snoc (show i < l.length by omega)]; first | (rw [if_pos (by omega)]; rfl) | (rw [if_neg (by omega)]; rfl))), (lkI (by rw [kc_snoc (show i < l.length by omega)]; first | (rw [if_pos (by omega)]; rfl) | (rw [if_neg (by omega)]; rfl))), rfl, trivial⟩
      ·
        have hil : i = l.length := by omega
        subst hil
        have g1 := congrArg Counts.inside hgc
        have g2 := congrArg Counts.good hgc
        have g3 := congrArg Counts.bad hgc
        simp only at g1 g2 g3
        have k0l := kc_le l 0 l.length
        have k3l := kc_le l 3 l.length
        have k4l := kc_le l 4 l.length
        refine OK.exit rfl ?_
        refine Ab.D.code ?_
        refine OK.seq ?_
        refine OK.reg ?_
        refine RK.c (S.bfield fi73_1 .none rfl (.tmp rfl rfl)) ?_
        refine RK.c (S.bload1 ti3 .none rfl (.tmp rfl rfl) rfl rfl rfl rfl) ?_
        refine RK.c (S.move .none rfl (.tmp rfl rfl)) ?_
        refine RK.c (S.eql .none rfl (.tmp rfl rfl) (.tmp rfl rfl)) ?_
        refine RK.c (S.move .none rfl (.tmp rfl rfl)) ?_
        refine RK.splitD (t := 175) rfl (fun g175 => ?_) (fun g175 => ?_)
        ·
          refine RK.c (S.bfield fi73_2 (.yes rfl rfl rfl rfl) rfl (.tmp rfl rfl)) ?_
          refine RK.c (S.bload1 ti3 (.yes rfl rfl rfl rfl) rfl (.tmp rfl rfl) rfl rfl rfl rfl) ?_
          refine RK.c (S.move (.yes rfl rfl rfl rfl) rfl (.tmp rfl rfl)) ?_
          refine RK.c (S.eql (.yes rfl rfl rfl rfl) rfl (.tmp rfl rfl) (.tmp rfl rfl)) ?_
          refine RK.c (S.pickT .none rfl (.tmp rfl rfl) (.tmp rfl rfl) rfl) ?_
          refine RK.c (S.move .none rfl (.tmp rfl rfl)) ?_
          refine RK.splitD (t := 181) rfl (fun g181 => ?_) (fun g181 => ?_)
          ·
            refine RK.c (S.bfield fi73_0 (.yes rfl rfl rfl rfl) rfl (.tmp rfl rfl)) ?_
            refine RK.c (S.bload1 ti3 (.yes rfl rfl rfl rfl) rfl (.tmp rfl rfl) rfl rfl rfl rfl) ?_
            refine RK.c (S.move (.yes rfl rfl rfl rfl) rfl (.tmp rfl rfl)) ?_
            refine RK.c (S.move (.yes rfl rfl rfl rfl) rfl (.tmp rfl rfl)) ?_
            refine RK.c (S.sub (.yes rfl rfl rfl rfl) rfl (.tmp rfl rfl) (.tmp rfl rfl) (IntWalk.i64_in _ (by omega)) (IntWalk.i64_in _ (by omega))) ?_
            refine RK.c (S.move (.yes rfl rfl rfl rfl) rfl (.tmp rfl rfl)) ?_
            refine RK.c (S.sub (.yes rfl rfl rfl rfl) rfl (.tmp rfl rfl) (.tmp rfl rfl) (IntWalk.i64_in _ (by omega)) (IntWalk.i64_in _ (by omega))) ?_
            refine RK.c (S.eql (.yes rfl rfl rfl rfl) rfl (.tmp rfl rfl) (.tmp rfl rfl)) ?_
            refine RK.c (S.pickT .none rfl (.tmp rfl rfl) (.tmp rfl rfl) rfl) ?_
            refine RK.c (S.assign .none rfl (.tmp rfl rfl)) ?_
            refine RK.nil ?_
            refine Ab.D.code ?_
            refine OK.ret (Ret.r1 (.tmp rfl rfl (.c (.same rfl) rfl) rfl) ?_)
            first | rfl | (refine ret_abs ?_; omega) | (refine ret_dT ?_; rw [hj3]) | (refine ret_dT ?_; omega)
          ·
            exfalso
            omega
        ·
          exfalso
          omega

end Go.Proofs.Ytfjldfkgjejpmaa
