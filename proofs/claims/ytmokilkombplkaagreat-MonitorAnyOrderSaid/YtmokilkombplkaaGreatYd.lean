/-
  Any order: the plain law.
-/
import Derived.Test.YtmokilkombplkaaGreatSh
import Derived.Test.YtmokilkombplkaaGreatFx
import Derived.Test.YtmokilkombplkaaGreatYc
import Derived.Test.YtmokilkombplkaaGreatWx
namespace Go.Proofs.YtmokilkombplkaaGreat
open Go.Ab

/-- The frames in the reverse order, each of them twice. -/
def dbl (l : List Frame) : List Frame := l.reverse.flatMap fun f => [f, f]
theorem dbl_mem (l : List Frame) (f : Frame) : f ∈ dbl l ↔ f ∈ l := by
  unfold dbl
  rw [List.mem_flatMap]
  constructor
  · rintro ⟨g, hg, hf⟩
    have e : f = g := by simpa using hf
    subst e
    exact List.mem_reverse.1 hg
  · intro h
    exact ⟨f, List.mem_reverse.2 h, by simp⟩
theorem dbl_len (l : List Frame) : (dbl l).length = 2 * l.length := by
  have : ∀ m : List Frame, (m.flatMap fun f => [f, f]).length = 2 * m.length := by
    intro m
    induction m with
    | nil => rfl
    | cons f m ih => rw [List.flatMap_cons, List.length_append, ih, List.length_cons]; simp only [List.length_cons, List.length_nil]; omega
  unfold dbl
  rw [this, List.length_reverse]
/-- Frames that are accepted: however they are ordered. -/
theorem framesErr_iff {p : Plan} {l : List Frame} : framesErr p l = 0 ↔ l.length ≤ 40 ∧ (∀ f ∈ l, frameE p f = 0) ∧ ∀ f ∈ l, ∀ g ∈ l, f.tick = g.tick → f.values = g.values := by
  unfold framesErr
  constructor
  · intro h
    split at h
    · cases h
    · have h1 := eachGo_all _ l 0 h
      simp only [Nat.zero_add] at h1
      have h2 : ∀ (i : Nat) (hi : i < l.length), frameE p l[i] = 0 ∧ ∀ (k : Nat) (hk : k < i), l[k].tick = l[i].tick → l[k].values = l[i].values := by
        intro i hi
        have h3 := h1 i hi
        unfold hRec at h3
        split at h3
        · exact absurd h3 ‹_›
        · rename_i h4
          split at h3
          · cases h3
          · rename_i h5
            refine ⟨Decidable.not_not.1 h4, fun k hk ht => ?_⟩
            refine Classical.byContradiction fun hv => h5 (clash_T hi hk ht hv)
      refine ⟨by omega, fun f hf => ?_, fun f hf g hg ht => ?_⟩
      · obtain ⟨i, hi, rfl⟩ := List.getElem_of_mem hf
        exact (h2 i hi).1
      · obtain ⟨i, hi, rfl⟩ := List.getElem_of_mem hf
        obtain ⟨j, hj, rfl⟩ := List.getElem_of_mem hg
        rcases Nat.lt_trichotomy i j with h | h | h
        · exact (h2 j hj).2 i h ht
        · subst h; rfl
        · exact ((h2 i hi).2 j h ht.symm).symm
  · rintro ⟨h1, h2, h3⟩
    rw [if_neg (by omega)]
    have : eachGo (hRec p l) 0 l = (0, 0) := by
      refine eachGo_zero _ _ 0 fun i hi => ?_
      rw [Nat.zero_add]
      unfold hRec
      rw [if_neg (by rw [h2 _ (List.getElem_mem hi)]; simp), if_neg (clash_F hi fun k hk q => q.2 (h3 _ (List.getElem_mem _) _ (List.getElem_mem _) q.1))]
    rw [this]
theorem lastRow_of {l : List Frame} (h3 : ∀ f ∈ l, ∀ g ∈ l, f.tick = g.tick → f.values = g.values) {f : Frame} (hf : f ∈ l) {t : Nat} (ht : f.tick = (t : Int)) : lastRow l t = ⟨true, f.values⟩ :=
  lastRow_all l _ (fun x hx hxt => h3 x hx f hf (by rw [hxt, ht])) (.inr ⟨f, hf, ht⟩)
/-- The same frames, however often and in whatever order, give the same record. -/
theorem any_record {p : Plan} {l m : List Frame} (hp : planErr p = 0) (hm : ∀ f, f ∈ m ↔ f ∈ l) (hl : m.length ≤ 40) (h : framesErr p l = 0) : recErr p m = 0 ∧ recErr p l = 0 ∧ recOf p m = recOf p l := by
  obtain ⟨h1, h2, h3⟩ := framesErr_iff.1 h
  have hm0 : framesErr p m = 0 := framesErr_iff.2 ⟨hl, fun f hf => h2 f ((hm f).1 hf), fun f hf g hg => h3 f ((hm f).1 hf) g ((hm g).1 hg)⟩
  have e1 : recErr p m = 0 := by rw [recErr_eq hp, hm0]
  have e2 : recErr p l = 0 := by rw [recErr_eq hp, h]
  refine ⟨e1, e2, ?_⟩
  rw [recOf_eq e1, recOf_eq e2]
  unfold recT
  congr 1
  refine List.map_congr_left fun t _ => ?_
  by_cases hx : ∃ f ∈ l, f.tick = (t : Int)
  · obtain ⟨f, hf, ht⟩ := hx
    rw [lastRow_of h3 hf ht, lastRow_of (fun f hf g hg => h3 f ((hm f).1 hf) g ((hm g).1 hg)) ((hm f).2 hf) ht]
  · rw [lastRow, lastRow, lastRow_none l _ (fun x hx2 ht => hx ⟨x, hx2, ht⟩), lastRow_none m _ (fun x hx2 ht => hx ⟨x, (hm x).1 hx2, ht⟩)]
theorem recsErr_iff {p : Plan} {l : List Record} : recsErr p l = 0 ↔ (1 ≤ l.length ∧ l.length ≤ 20) ∧ ∀ r ∈ l, recsErr1 p r = 0 := by
  unfold recsErr
  constructor
  · intro h
    split at h
    · cases h
    · split at h
      · cases h
      · have h1 := eachGo_all _ l 0 h
        refine ⟨by omega, fun r hr => ?_⟩
        obtain ⟨i, hi, rfl⟩ := List.getElem_of_mem hr
        exact h1 i hi
  · rintro ⟨h1, h2⟩
    rw [if_neg (by omega), if_neg (by omega), eachGo_zero _ _ 0 fun i hi => h2 _ (List.getElem_mem hi)]
theorem openRecs_rev (p : Plan) (l : List Record) : openRecs p l.reverse = 0 ↔ openRecs p l = 0 := by
  unfold openRecs
  by_cases hp : planErr p ≠ 0
  · rw [if_pos hp, if_pos hp]
  · rw [if_neg hp, if_neg hp, recsErr_iff, recsErr_iff, List.length_reverse]
    simp only [List.mem_reverse]
theorem envErr_rev (p : Plan) (l : List Record) (trim : Int) : envErr p l.reverse trim = 0 ↔ envErr p l trim = 0 := by
  have h := openRecs_rev p l
  unfold envErr
  rw [List.length_reverse]
  by_cases h1 : openRecs p l = 0
  · have h2 := h.2 h1
    rw [if_neg (by omega), if_neg (by omega)]
  · have h2 : ¬ openRecs p l.reverse = 0 := fun e => h1 (h.1 e)
    rw [if_pos h1, if_pos h2]
    exact ⟨fun e => absurd e h2, fun e => absurd e h1⟩
theorem sorted_perm {l m : List Int} (h : l.Perm m) : sorted l = sorted m := sorted_eq ((List.mergeSort_perm m _).trans h.symm) (sorted_asc m)
theorem col_perm {l m : List Record} (h : l.Perm m) (t c : Nat) : (col l t c).Perm (col m t c) := h.map _
theorem envT_perm {p : Plan} {l m : List Record} (h : l.Perm m) (trim : Int) : envT p l trim = envT p m trim := by
  have hl := h.length_eq
  unfold envT
  congr 1
  · rw [hl]
  · refine List.map_congr_left fun t _ => ?_
    unfold rowT
    refine List.map_congr_left fun c _ => ?_
    unfold rangeT
    rw [sorted_perm (col_perm h t c), hl]
theorem envOf_rev (p : Plan) (l : List Record) (trim : Int) : envOf p l.reverse trim = envOf p l trim := by
  have h := envErr_rev p l trim
  unfold envOf
  by_cases h1 : envErr p l trim = 0
  · rw [if_pos h1, if_pos (h.2 h1)]
    exact envT_perm (List.reverse_perm l) trim
  · rw [if_neg h1, if_neg (fun e => h1 (h.1 e))]
theorem alErr_rev (p : Plan) (l : List Record) (trim : Int) : alErr p l.reverse trim = 0 ↔ alErr p l trim = 0 := by
  have h := openRecs_rev p l
  unfold alErr
  rw [List.length_reverse]
  by_cases h1 : openRecs p l = 0
  · have h2 := h.2 h1
    rw [if_neg (show ¬ openRecs p l.reverse ≠ 0 by omega), if_neg (show ¬ openRecs p l ≠ 0 by omega)]
  · have h2 : ¬ openRecs p l.reverse = 0 := fun e => h1 (h.1 e)
    rw [if_pos (show openRecs p l.reverse ≠ 0 from h2), if_pos (show openRecs p l ≠ 0 from h1)]
    exact ⟨fun e => absurd e h2, fun e => absurd e h1⟩
theorem isAl_rev {p : Plan} {l : List Record} {trim : Int} {i : Nat} (hi : i < l.length) : isAl p l.reverse trim i = isAl p l trim (l.length - 1 - i) := by
  have hr : (l.reverse).getD i ⟨[]⟩ = l.getD (l.length - 1 - i) ⟨[]⟩ := by
    rw [getD_at (by rw [List.length_reverse]; exact hi), getD_at (by omega), List.getElem_reverse]
  have hperm : (others l.reverse i).Perm (others l (l.length - 1 - i)) := by
    unfold others
    rw [List.take_reverse, List.drop_reverse]
    have e1 : l.length - (i + 1) = l.length - 1 - i := by omega
    have e2 : l.length - i = l.length - 1 - i + 1 := by omega
    rw [e1, e2]
    exact ((List.reverse_perm _).append (List.reverse_perm _)).trans List.perm_append_comm
  unfold isAl
  rw [hr, envT_perm hperm]
theorem range_rev (n : Nat) : (List.range n).reverse = (List.range n).map fun i => n - 1 - i := by
  refine List.ext_getElem (by simp) fun i h1 h2 => ?_
  rw [List.getElem_reverse, List.getElem_range, List.getElem_map, List.getElem_range, List.length_range]
theorem filter_rev (q : Nat → Bool) (n : Nat) : (List.range n).filter (fun i => q (n - 1 - i)) = ((List.range n).filter q).reverse.map fun i => n - 1 - i := by
  rw [← List.filter_reverse, range_rev, List.filter_map, List.map_map]
  have e : (List.range n).filter (q ∘ fun i => n - 1 - i) = (List.range n).filter (fun i => q (n - 1 - i)) := rfl
  rw [e]
  have : ∀ m : List Nat, (∀ i ∈ m, i < n) → m.map ((fun i => n - 1 - i) ∘ fun i => n - 1 - i) = m := by
    intro m hm
    have h1 : m.map ((fun i => n - 1 - i) ∘ fun i => n - 1 - i) = m.map id := List.map_congr_left fun i hi => by
      have := hm i hi
      show n - 1 - (n - 1 - i) = i
      omega
    rw [h1, List.map_id]
  rw [this _ fun i hi => List.mem_range.1 (List.mem_filter.1 hi).1]
def alOf (p : Plan) (l : List Record) (trim : Int) : List Int := if alErr p l trim = 0 then alUp p l trim l.length else []
theorem alUp_mem {p : Plan} {l : List Record} {trim : Int} {n : Nat} : ∀ x ∈ alUp p l trim n, 0 ≤ x ∧ x ≤ (n : Int) - 1 := by
  intro x hx
  obtain ⟨i, hi, rfl⟩ := List.mem_map.1 hx
  have := List.mem_range.1 (List.mem_filter.1 hi).1
  omega
theorem alOf_mem {p : Plan} {l : List Record} {trim : Int} : ∀ x ∈ alOf p l trim, 0 ≤ x ∧ x ≤ (l.length : Int) - 1 := by
  intro x hx
  unfold alOf at hx
  split at hx
  · exact alUp_mem x hx
  · cases hx
/-- The same alarms, in the reverse order. -/
theorem alOf_rev (p : Plan) (l : List Record) (trim : Int) : alOf p l.reverse trim = (alOf p l trim).reverse.map fun x => (l.length : Int) - 1 - x := by
  have h := alErr_rev p l trim
  unfold alOf
  by_cases h1 : alErr p l trim = 0
  · rw [if_pos h1, if_pos (h.2 h1), List.length_reverse]
    unfold alUp
    have e : (List.range l.length).filter (isAl p l.reverse trim) = (List.range l.length).filter (fun i => isAl p l trim (l.length - 1 - i)) := List.filter_congr fun i hi => isAl_rev (List.mem_range.1 hi)
    rw [e, filter_rev (isAl p l trim), List.map_map, ← List.map_reverse, List.map_map]
    refine List.map_congr_left fun i hi => ?_
    have := List.mem_range.1 (List.mem_filter.1 (List.mem_reverse.1 hi)).1
    show ((l.length - 1 - i : Nat) : Int) = (l.length : Int) - 1 - (i : Int)
    omega
  · rw [if_neg h1, if_neg (fun e => h1 (h.1 e))]
    rfl
theorem alOf_at {p : Plan} {l : List Record} {trim : Int} {n : Nat} (hn : n < (alOf p l trim).length) (h2 : (alOf p l trim).length - 1 - n < (alOf p l.reverse trim).length) :
    (alOf p l.reverse trim)[(alOf p l trim).length - 1 - n] = (l.length : Int) - 1 - (alOf p l trim)[n] := by
  have e := alOf_rev p l trim
  have e2 : (alOf p l.reverse trim)[(alOf p l trim).length - 1 - n]? = ((alOf p l trim).reverse.map fun x => (l.length : Int) - 1 - x)[(alOf p l trim).length - 1 - n]? := by rw [e]
  rw [List.getElem?_eq_getElem h2, List.getElem?_map, List.getElem?_reverse (by omega), List.getElem?_eq_getElem (by omega)] at e2
  have e3 := Option.some.inj e2
  rw [e3]
  simp only [show (alOf p l trim).length - 1 - ((alOf p l trim).length - 1 - n) = n by omega]
theorem alOf_len (p : Plan) (l : List Record) (trim : Int) : (alOf p l.reverse trim).length = (alOf p l trim).length := by
  rw [alOf_rev, List.length_map, List.length_reverse]


end Go.Proofs.YtmokilkombplkaaGreat
