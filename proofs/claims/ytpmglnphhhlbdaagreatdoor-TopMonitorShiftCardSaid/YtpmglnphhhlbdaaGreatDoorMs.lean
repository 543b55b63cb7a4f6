import Derived.Test.YtpmglnphhhlbdaaGreatDoorGs
import Derived.Test.YtpmglnphhhlbdaaGreatDoorMq
import Derived.Test.YtpmglnphhhlbdaaGreatDoorTz
import Derived.Test.YtpmglnphhhlbdaaGreatDoorZb
namespace Go.Proofs.YtpmglnphhhlbdaaGreatDoor
open Go.Ab
theorem framesErr_iff {p : Plan} {l : List Frame} : framesErr p l = 0 ↔ l.length ≤ 40 ∧ (∀ f ∈ l, frameE p f = 0) ∧ ∀ f ∈ l, ∀ g ∈ l, f.tick = g.tick → f.values = g.values := by
  unfold framesErr
  constructor
  · intro h
    split at h
    · cases h
    · have h1 := eachGo_all _ l 0 h
      simp only [Nat.zero_add] at h1
      have h2 : ∀ (i : Nat) (hi : i < l.length), frameE p l[i] = 0 ∧ ∀ (k : Nat) (hk : k < i), l[k].tick = l[i].tick → l[k].values = l[i].values := by
        intro i hi
        have h3 := h1 i hi
        unfold hRec at h3
        split at h3
        · exact absurd h3 ‹_›
        · rename_i h4
          split at h3
          · cases h3
          · rename_i h5
            refine ⟨Decidable.not_not.1 h4, fun k hk ht => ?_⟩
            refine Classical.byContradiction fun hv => h5 (clash_T hi hk ht hv)
      refine ⟨by omega, fun f hf => ?_, fun f hf g hg ht => ?_⟩
      · obtain ⟨i, hi, rfl⟩ := List.getElem_of_mem hf
        exact (h2 i hi).1
      · obtain ⟨i, hi, rfl⟩ := List.getElem_of_mem hf
        obtain ⟨j, hj, rfl⟩ := List.getElem_of_mem hg
        rcases Nat.lt_trichotomy i j with h | h | h
        · exact (h2 j hj).2 i h ht
        · subst h; rfl
        · exact ((h2 i hi).2 j h ht.symm).symm
  · rintro ⟨h1, h2, h3⟩
    rw [if_neg (by omega)]
    have : eachGo (hRec p l) 0 l = (0, 0) := by
      refine eachGo_zero _ _ 0 fun i hi => ?_
      rw [Nat.zero_add]
      unfold hRec
      rw [if_neg (by rw [h2 _ (List.getElem_mem hi)]; simp), if_neg (clash_F hi fun k hk q => q.2 (h3 _ (List.getElem_mem _) _ (List.getElem_mem _) q.1))]
    rw [this]
theorem lastRow_of {l : List Frame} (h3 : ∀ f ∈ l, ∀ g ∈ l, f.tick = g.tick → f.values = g.values) {f : Frame} (hf : f ∈ l) {t : Nat} (ht : f.tick = (t : Int)) : lastRow l t = ⟨true, f.values⟩ :=
  lastRow_all l _ (fun x hx hxt => h3 x hx f hf (by rw [hxt, ht])) (.inr ⟨f, hf, ht⟩)
theorem any_record {p : Plan} {l m : List Frame} (hp : planErr p = 0) (hm : ∀ f, f ∈ m ↔ f ∈ l) (hl : m.length ≤ 40) (h : framesErr p l = 0) : recErr p m = 0 ∧ recErr p l = 0 ∧ recOf p m = recOf p l := by
  obtain ⟨h1, h2, h3⟩ := framesErr_iff.1 h
  have hm0 : framesErr p m = 0 := framesErr_iff.2 ⟨hl, fun f hf => h2 f ((hm f).1 hf), fun f hf g hg => h3 f ((hm f).1 hf) g ((hm g).1 hg)⟩
  have e1 : recErr p m = 0 := by rw [recErr_eq hp, hm0]
  have e2 : recErr p l = 0 := by rw [recErr_eq hp, h]
  refine ⟨e1, e2, ?_⟩
  rw [recOf_eq e1, recOf_eq e2]
  unfold recT
  congr 1
  refine List.map_congr_left fun t _ => ?_
  by_cases hx : ∃ f ∈ l, f.tick = (t : Int)
  · obtain ⟨f, hf, ht⟩ := hx
    rw [lastRow_of h3 hf ht, lastRow_of (fun f hf g hg => h3 f ((hm f).1 hf) g ((hm g).1 hg)) ((hm f).2 hf) ht]
  · rw [lastRow, lastRow, lastRow_none l _ (fun x hx2 ht => hx ⟨x, hx2, ht⟩), lastRow_none m _ (fun x hx2 ht => hx ⟨x, (hm x).1 hx2, ht⟩)]
theorem recT_len (p : Plan) (l : List Frame) : (recT p l).rows.length = p.ticks.toNat := by unfold recT; simp
theorem foldl_row {l : List Frame} {t : Nat} : ∀ (m : List Frame) (r : Row), (∀ f ∈ m, f ∈ l) → (r = ⟨false, []⟩ ∨ ∃ f ∈ l, r = ⟨true, f.values⟩) →
    (m.foldl (fun r f => if f.tick = (t : Int) then ⟨true, f.values⟩ else r) r = ⟨false, []⟩ ∨ ∃ f ∈ l, m.foldl (fun r f => if f.tick = (t : Int) then ⟨true, f.values⟩ else r) r = ⟨true, f.values⟩)
  | [], r, _, h => h
  | f :: m, r, hm, h => by
    rw [List.foldl_cons]
    refine foldl_row m _ (fun g hg => hm g (List.mem_cons_of_mem _ hg)) ?_
    split
    · exact .inr ⟨f, hm f List.mem_cons_self, rfl⟩
    · exact h
theorem lastRow_or (l : List Frame) (t : Nat) : lastRow l t = ⟨false, []⟩ ∨ ∃ f ∈ l, lastRow l t = ⟨true, f.values⟩ := foldl_row l _ (fun _ h => h) (.inl rfl)
theorem recT_ok {p : Plan} {l : List Frame} (hp : planErr p = 0) (h : framesErr p l = 0) : (recChk p (recT p l)).2 = 0 ∧ ∀ (i : Nat) (h : i < (recT p l).rows.length), (recT p l).rows[i].values.length ≤ p.channels.length := by
  obtain ⟨_, h2, _⟩ := framesErr_iff.1 h
  have ht := planErr_ticks hp
  have hrow : ∀ x ∈ (recT p l).rows, rowErr p x = 0 ∧ x.values.length ≤ p.channels.length := fun x hx => by
    unfold recT at hx
    obtain ⟨t, _, rfl⟩ := List.mem_map.1 hx
    rcases lastRow_or l t with e | ⟨f, hf, e⟩
    · rw [e]
      exact ⟨rfl, Nat.zero_le _⟩
    · rw [e]
      have g := h2 f hf
      have g2 := (frameE_0 g).2
      refine ⟨?_, by show f.values.length ≤ _; omega⟩
      unfold frameE at g
      rw [if_neg (not_not_intro (frameE_0 (h2 f hf)).1)] at g
      unfold rowErr
      rw [if_pos rfl]
      exact g
  refine ⟨?_, fun i hi => (hrow _ (List.getElem_mem hi)).2⟩
  unfold recChk
  rw [if_neg (by rw [recT_len]; omega), eachGo_zero _ _ 0 fun i hi => (hrow _ (List.getElem_mem hi)).1]
def backT (l : List Frame) (m : Nat) : List Frame := (l.reverse.take m).flatMap fun f => [f, f]
theorem backT_on {l : List Frame} {m : Nat} (h : m < l.length) (h2 : l.length - 1 - m < l.length) : backT l (m + 1) = backT l m ++ [l[l.length - 1 - m], l[l.length - 1 - m]] := by
  unfold backT
  rw [List.take_succ_eq_append_getElem (by rw [List.length_reverse]; exact h), List.flatMap_append, List.getElem_reverse]
  rfl
theorem backT_len (l : List Frame) (m : Nat) : (backT l m).length ≤ 2 * l.length := by
  have key : ∀ r : List Frame, (r.flatMap fun f => [f, f]).length = 2 * r.length := by
    intro r
    induction r with
    | nil => rfl
    | cons f r ih => rw [List.flatMap_cons, List.length_append, ih, List.length_cons]; simp only [List.length_cons, List.length_nil]; omega
  unfold backT
  rw [key, List.length_take, List.length_reverse]
  omega
theorem backT_mem {l : List Frame} {m : Nat} (h : m = l.length) (f : Frame) : f ∈ backT l m ↔ f ∈ l := by
  unfold backT
  rw [h, ← List.length_reverse, List.take_length, List.mem_flatMap]
  constructor
  · rintro ⟨g, hg, hf⟩
    have e : f = g := by simpa using hf
    subst e
    exact List.mem_reverse.1 hg
  · intro hf
    exact ⟨f, List.mem_reverse.2 hf, by simp⟩
def mAll (l : List Event) : Mach := l.foldl onStep Mach.init
theorem mAll_snoc (l : List Event) (x : Event) : mAll (l ++ [x]) = onStep (mAll l) x := by
  unfold mAll
  rw [List.foldl_append]
  rfl
structure RunOk (l : List Event) : Prop where
  len : l.length ≤ 60
  ok : ∀ (i : Nat) (h : i < l.length), onErr (mAll (l.take i)) l[i] = 0
theorem eachGo_pre {α : Type} (g : Nat → α → Int) (r : List α) : ∀ (l : List α) (i : Nat), (∀ (j : Nat) (h : j < l.length), g (i + j) l[j] = 0) → eachGo g i (l ++ r) = eachGo g (i + l.length) r
  | [], _, _ => rfl
  | x :: l, i, h => by
    have h0 := h 0 (by simp)
    simp only [Nat.add_zero, List.getElem_cons_zero] at h0
    rw [List.cons_append, eachGo, if_neg (by rw [h0]; simp), eachGo_pre g r l (i + 1) fun j hj => by
      have := h (j + 1) (by simpa using hj)
      rw [List.getElem_cons_succ] at this
      rw [← this]
      congr 1
      omega]
    rw [List.length_cons]
    congr 1
    omega
theorem eachM_all {α : Type} (g : Nat → α → Int) : ∀ (l : List α) (i : Nat), (∀ (j : Nat) (h : j < l.length), g (i + j) l[j] = 0) → eachM g i l = i + l.length
  | [], _, _ => rfl
  | x :: l, i, h => by
    have h0 := h 0 (by simp)
    simp only [Nat.add_zero, List.getElem_cons_zero] at h0
    rw [eachM, if_neg (by rw [h0]; simp), eachM_all g l (i + 1) fun j hj => by
      have := h (j + 1) (by simpa using hj)
      rw [List.getElem_cons_succ] at this
      rw [← this]
      congr 1
      omega]
    rw [List.length_cons]
    omega
theorem RunOk.g {l : List Event} (h : RunOk l) : ∀ (j : Nat) (hj : j < l.length), gRun l (0 + j) l[j] = 0 := fun j hj => by
  rw [Nat.zero_add]
  exact h.ok j hj
theorem RunOk.run {l : List Event} (h : RunOk l) : runT l = (0, 0) ∧ runM l = mAll l := by
  have h60 := h.len
  constructor
  · have := eachGo_pre (gRun l) [] l 0 h.g
    rw [List.append_nil] at this
    rw [runT, if_neg (by omega), this]
    rfl
  · rw [runM, if_neg (by omega), eachM_all _ _ _ h.g, Nat.zero_add]
    unfold machAt mAll
    rw [List.take_length]
theorem RunOk.snoc {l : List Event} (h : RunOk l) (hl : l.length < 60) {x : Event} (hx : onErr (mAll l) x = 0) : RunOk (l ++ [x]) := by
  refine ⟨by simp; omega, fun i hi => ?_⟩
  by_cases h1 : i < l.length
  · rw [List.getElem_append_left h1, List.take_append_of_le_length (by omega)]
    exact h.ok i h1
  · have h2 : i = l.length := by simp at hi; omega
    subst h2
    rw [List.take_append_of_le_length (Nat.le_refl _), List.take_length]
    simpa using hx
theorem RunOk.bad {l : List Event} (h : RunOk l) (hl : l.length < 60) {x : Event} (hx : onErr (mAll l) x ≠ 0) : runT (l ++ [x]) = ((l.length : Int), onErr (mAll l) x) := by
  have e : ∀ j, j ≤ l.length → machAt (l ++ [x]) j = mAll (l.take j) := fun j hj => by
    unfold machAt mAll
    rw [List.take_append_of_le_length hj]
  have h1 := eachGo_pre (gRun (l ++ [x])) [x] l 0 fun j hj => by
    unfold gRun
    rw [Nat.zero_add, e j (by omega)]
    exact h.ok j hj
  rw [runT, if_neg (by simp; omega), h1, Nat.zero_add, eachGo]
  have h2 : gRun (l ++ [x]) l.length x = onErr (mAll l) x := by
    unfold gRun
    rw [e _ (Nat.le_refl _), List.take_length]
  rw [h2, if_pos hx]
structure Shift (i g : Nat) (l : List Event) : Prop where
  run : RunOk l
  len : l.length ≤ 3 * i
  keys : ∀ n : Int, n ∈ (mAll l).keys ↔ 1 ≤ n ∧ n ≤ i
  klen : (mAll l).keys.length = i
  good : (mAll l).good = g
  bad : (mAll l).bad + g = i
theorem shift_0 : Shift 0 0 [] := by
  refine ⟨⟨by simp, fun i h => by simp at h⟩, by simp, fun n => ?_, rfl, rfl, rfl⟩
  constructor
  · intro h; cases h
  · intro h; omega
theorem shift_end {i g : Nat} {l : List Event} (h : Shift i g l) : (runT l).2 = 0 ∧ cntOf l = ⟨0, g, (i : Int) - g⟩ := by
  obtain ⟨e1, e2⟩ := h.run.run
  have hk := h.klen
  have hg := h.good
  have hb := h.bad
  refine ⟨by rw [e1], ?_⟩
  rw [cntOf, if_pos (by rw [e1]), e2, hk, hg]
  simp only [Counts.mk.injEq, true_and]
  omega
structure Mid (i g : Nat) (v : Int) (F : List Event) (k : Int) : Prop where
  run : RunOk F
  len : F.length ≤ 3 * i + 2
  may : leaveE F ((i : Int) + 1) = 0 ∧ leaveB F ((i : Int) + 1) = decide (v = 0)
  wrong : v ≠ 0 → runT (F ++ [⟨3, (i : Int) + 1⟩]) = ((F.length : Int), 24)
  next : Shift (i + 1) g (F ++ [⟨k, (i : Int) + 1⟩])
theorem lf_add (m : Mach) (n : Int) : (addKey m n).lf n = ⟨false, false, false⟩ := upd_same _ _ _
theorem lf_set (m : Mach) (n : Int) (L : Life) : (setLife m n L).lf n = L := upd_same _ _ _
structure Has (i g : Nat) (l : List Event) (L : Life) : Prop where
  run : RunOk l
  len : l.length ≤ 3 * i + 2
  keys : ∀ n : Int, n ∈ (mAll l).keys ↔ 1 ≤ n ∧ n ≤ (i : Int) + 1
  klen : (mAll l).keys.length = i + 1
  good : (mAll l).good = g
  bad : (mAll l).bad + g = i
  life : (mAll l).lf ((i : Int) + 1) = L
theorem has_0 {i g : Nat} {l : List Event} (h : Shift i g l) (hi : i < 10) : Has i g (l ++ [⟨0, (i : Int) + 1⟩]) ⟨false, false, false⟩ ∧ (l ++ [(⟨0, (i : Int) + 1⟩ : Event)]).length ≤ 3 * i + 1 := by
  have hlen := h.len
  have hn : ¬ ((i : Int) + 1) ∈ (mAll l).keys := by rw [h.keys]; omega
  have he : onErr (mAll l) ⟨0, (i : Int) + 1⟩ = 0 := by
    rw [on_body (by show (0 : Int) ≤ 0 ∧ (0 : Int) ≤ 4; decide) (by show 0 ≤ (i : Int) + 1 ∧ (i : Int) + 1 ≤ 1000000; omega), if_pos rfl, if_neg hn]
  have hs : mAll (l ++ [⟨0, (i : Int) + 1⟩]) = addKey (mAll l) ((i : Int) + 1) := by
    rw [mAll_snoc, onStep, if_neg (by rw [he]; decide), if_pos rfl]
  refine ⟨⟨h.run.snoc (by omega) he, by simp; omega, fun n => ?_, ?_, ?_, ?_, ?_⟩, by simp; omega⟩
  · rw [hs]
    have hk := h.keys n
    unfold addKey
    simp only [List.mem_append, List.mem_cons, List.not_mem_nil, or_false, hk]
    omega
  · rw [hs]
    have := h.klen
    unfold addKey
    simp only [List.length_append, List.length_cons, List.length_nil]
    omega
  · rw [hs]; exact h.good
  · rw [hs]; exact h.bad
  · rw [hs]; exact lf_add _ _
theorem has_step {i g : Nat} {l : List Event} {L L2 : Life} (h : Has i g l L) (hi : i < 10) (hl : l.length ≤ 3 * i + 1) {k : Int} (he : onErr (mAll l) ⟨k, (i : Int) + 1⟩ = 0) (hs : onStep (mAll l) ⟨k, (i : Int) + 1⟩ = setLife (mAll l) ((i : Int) + 1) L2) : Has i g (l ++ [⟨k, (i : Int) + 1⟩]) L2 := by
  refine ⟨h.run.snoc (by omega) he, by simp; omega, fun n => ?_, ?_, ?_, ?_, ?_⟩
  · rw [mAll_snoc, hs]; exact h.keys n
  · rw [mAll_snoc, hs]; exact h.klen
  · rw [mAll_snoc, hs]; exact h.good
  · rw [mAll_snoc, hs]; exact h.bad
  · rw [mAll_snoc, hs]; exact lf_set _ _ _
theorem has_body {i g : Nat} {l : List Event} {L : Life} (h : Has i g l L) (hi : i < 10) (hL : L.left = false) {k : Int} (hk : 1 ≤ k ∧ k ≤ 4) : onErr (mAll l) ⟨k, (i : Int) + 1⟩ =
    if k = 1 then (if L.passed = true ∨ L.marked = true then 20 else 0) else if k = 2 then (if L.marked = true then 20 else 0) else if k = 3 then (if L.may = true then 0 else 24) else 0 := by
  have hin : ((i : Int) + 1) ∈ (mAll l).keys := by rw [h.keys]; omega
  rw [on_body (x := ⟨k, (i : Int) + 1⟩) (by show 0 ≤ k ∧ k ≤ 4; omega) (by show 0 ≤ (i : Int) + 1 ∧ (i : Int) + 1 ≤ 1000000; omega)]
  show (if k = 0 then _ else if ¬ ((i : Int) + 1) ∈ (mAll l).keys ∨ ((mAll l).lf ((i : Int) + 1)).left = true then (6 : Int) else if k = 1 then (if ((mAll l).lf ((i : Int) + 1)).passed = true ∨ ((mAll l).lf ((i : Int) + 1)).marked = true then 20 else 0) else if k = 2 then (if ((mAll l).lf ((i : Int) + 1)).marked = true then 20 else 0) else if k = 3 then (if ((mAll l).lf ((i : Int) + 1)).may = true then 0 else 24) else 0) = _
  rw [h.life, if_neg (by omega), if_neg (by simp [hin, hL])]
theorem has_leave {i g : Nat} {l : List Event} {L : Life} (h : Has i g l L) (hi : i < 10) : leaveE l ((i : Int) + 1) = 0 ∧ leaveB l ((i : Int) + 1) = L.may := by
  obtain ⟨e1, e2⟩ := h.run.run
  have hin : ((i : Int) + 1) ∈ (mAll l).keys := by rw [h.keys]; omega
  have he : leaveE l ((i : Int) + 1) = 0 := by rw [leaveE, if_neg (by rw [e1]; simp), if_pos (by omega)]
  refine ⟨he, ?_⟩
  rw [leaveB, decide_eq_true he, e2, decide_eq_true hin, h.life]
  rfl
theorem has_good {i g : Nat} {l : List Event} {L : Life} (h : Has i g l L) (hi : i < 10) (hL : L.left = false) (hm : L.may = true) : Mid i (g + 1) 0 l 3 := by
  have hlen := h.len
  have he := has_body h hi hL (k := 3) (by decide)
  rw [if_neg (by decide), if_neg (by decide), if_pos rfl, if_pos hm] at he
  obtain ⟨l1, l2⟩ := has_leave h hi
  refine ⟨h.run, h.len, ⟨l1, by rw [l2, hm]; rfl⟩, fun e => absurd rfl e, ?_⟩
  have hs : mAll (l ++ [⟨3, (i : Int) + 1⟩]) = setCounts (setLife (mAll l) ((i : Int) + 1) ⟨((mAll l).lf ((i : Int) + 1)).passed, ((mAll l).lf ((i : Int) + 1)).marked, true⟩) ((mAll l).good + 1) (mAll l).bad := by
    rw [mAll_snoc, onStep, if_neg (by rw [he]; decide), if_neg (by show ¬ (3 : Int) = 0; decide), if_neg (by show ¬ (3 : Int) = 1; decide), if_neg (by show ¬ (3 : Int) = 2; decide), if_pos rfl]
  have hg := h.good
  have hb := h.bad
  refine ⟨h.run.snoc (by omega) he, by simp; omega, fun n => ?_, ?_, ?_, ?_⟩
  · rw [hs]; have := h.keys n; rw [show ((i + 1 : Nat) : Int) = (i : Int) + 1 from rfl]; exact this
  · rw [hs]; exact h.klen
  · rw [hs]; show (mAll l).good + 1 = g + 1; omega
  · rw [hs]; show (mAll l).bad + (g + 1) = i + 1; omega
theorem has_bad {i g : Nat} {l : List Event} {L : Life} (h : Has i g l L) (hi : i < 10) (hL : L.left = false) (hm : L.may = false) {v : Int} (hv : v ≠ 0) : Mid i g v l 4 := by
  have hlen := h.len
  have he := has_body h hi hL (k := 4) (by decide)
  rw [if_neg (by decide), if_neg (by decide), if_neg (by decide)] at he
  have he3 := has_body h hi hL (k := 3) (by decide)
  rw [if_neg (by decide), if_neg (by decide), if_pos rfl, if_neg (by rw [hm]; decide)] at he3
  obtain ⟨l1, l2⟩ := has_leave h hi
  refine ⟨h.run, h.len, ⟨l1, by rw [l2, hm, decide_eq_false hv]⟩, fun _ => by rw [h.run.bad (by omega) (by rw [he3]; decide), he3], ?_⟩
  have hs : mAll (l ++ [⟨4, (i : Int) + 1⟩]) = setCounts (setLife (mAll l) ((i : Int) + 1) ⟨((mAll l).lf ((i : Int) + 1)).passed, ((mAll l).lf ((i : Int) + 1)).marked, true⟩) (mAll l).good ((mAll l).bad + 1) := by
    rw [mAll_snoc, onStep, if_neg (by rw [he]; decide), if_neg (by show ¬ (4 : Int) = 0; decide), if_neg (by show ¬ (4 : Int) = 1; decide), if_neg (by show ¬ (4 : Int) = 2; decide), if_neg (by show ¬ (4 : Int) = 3; decide)]
  have hg := h.good
  have hb := h.bad
  refine ⟨h.run.snoc (by omega) he, by simp; omega, fun n => ?_, ?_, ?_, ?_⟩
  · rw [hs]; have := h.keys n; rw [show ((i + 1 : Nat) : Int) = (i : Int) + 1 from rfl]; exact this
  · rw [hs]; exact h.klen
  · rw [hs]; exact hg
  · rw [hs]; show (mAll l).bad + 1 + g = i + 1; omega
theorem mid_pass {i g : Nat} {l : List Event} (h : Shift i g l) (hi : i < 10) : Mid i (g + 1) 0 ((l ++ [⟨0, (i : Int) + 1⟩]) ++ [⟨1, (i : Int) + 1⟩]) 3 := by
  obtain ⟨h0, h1⟩ := has_0 h hi
  have he := has_body h0 hi rfl (k := 1) (by decide)
  rw [if_pos rfl, if_neg (by simp)] at he
  refine has_good (L := ⟨true, false, false⟩) (has_step h0 hi h1 he ?_) hi rfl rfl
  rw [onStep, if_neg (by rw [he]; decide), if_neg (by show ¬ (1 : Int) = 0; decide), if_pos rfl, h0.life]
theorem mid_mark {i g : Nat} {l : List Event} (h : Shift i g l) (hi : i < 10) {v : Int} (hv : v ≠ 0) : Mid i g v ((l ++ [⟨0, (i : Int) + 1⟩]) ++ [⟨2, (i : Int) + 1⟩]) 4 := by
  obtain ⟨h0, h1⟩ := has_0 h hi
  have he := has_body h0 hi rfl (k := 2) (by decide)
  rw [if_neg (by decide), if_pos rfl, if_neg (by simp)] at he
  refine has_bad (L := ⟨false, true, false⟩) (has_step h0 hi h1 he ?_) hi rfl rfl hv
  rw [onStep, if_neg (by rw [he]; decide), if_neg (by show ¬ (2 : Int) = 0; decide), if_neg (by show ¬ (2 : Int) = 1; decide), if_pos rfl, h0.life]
theorem mid_lost {i g : Nat} {l : List Event} (h : Shift i g l) (hi : i < 10) {v : Int} (hv : v ≠ 0) : Mid i g v (l ++ [⟨0, (i : Int) + 1⟩]) 4 := has_bad (has_0 h hi).1 hi rfl rfl hv
theorem wrong_idx {i g : Nat} {v k : Int} {F : List Event} (h : Mid i g v F k) (hv : v ≠ 0) : idxOf (F ++ [⟨3, (i : Int) + 1⟩]) = (F.length : Int) ∧ (runT (F ++ [⟨3, (i : Int) + 1⟩])).2 = 24 := by
  have := h.wrong hv
  rw [this]
  refine ⟨?_, rfl⟩
  rw [idxOf, this, if_neg (by show ¬ (24 : Int) = 0; decide)]
theorem verd_0 {x : Envelope} {r : Record} (h : (lostT r).length = 0) : (verdT x r = 0 ↔ (devT x r).length = 0) := by
  unfold verdT
  by_cases h1 : (devT x r).length = 0
  · rw [if_neg (not_not_intro h1), if_neg (not_not_intro h)]
    simp [h1]
  · rw [if_pos h1]
    simp [h1]
theorem verd_1 {x : Envelope} {r : Record} (h : (lostT r).length ≠ 0) : ¬ verdT x r = 0 := by
  unfold verdT
  by_cases h1 : (devT x r).length ≠ 0
  · rw [if_pos h1]; decide
  · rw [if_neg h1, if_pos h]; decide
end Go.Proofs.YtpmglnphhhlbdaaGreatDoor
