import Derived.Test.YtbnimikgjjjcaaaGreatDoorGh
import Derived.Test.YtbnimikgjjjcaaaGreatDoorKp
import Derived.Test.YtbnimikgjjjcaaaGreatDoorTy
namespace Go.Proofs.YtbnimikgjjjcaaaGreatDoor
open Go.Ab
def tickAt (l : List Job) (i : Int) : Int := (jobAt l i).ticks
def selTo (l : List Job) (d : Int) : Nat → List Int
  | 0 => []
  | k + 1 => if dueAt l k ≤ d then selTo l d k ++ [(k : Int)] else selTo l d k
def sumTo (l : List Job) (d : Int) : Nat → Int
  | 0 => 0
  | k + 1 => if dueAt l k ≤ d then sumTo l d k + tickAt l k else sumTo l d k
def bndTo (l : List Job) : Nat → Int × List Int
  | 0 => (-200000, [])
  | k + 1 => if (bndTo l k).1 < sumTo l (dueAt l k) l.length - dueAt l k then (sumTo l (dueAt l k) l.length - dueAt l k, selTo l (dueAt l k) l.length) else bndTo l k
def fromStep (l : List Job) (p : Int × Int) (i : Int) : Int × Int := (p.1 + tickAt l i, maxI p.2 (dueAt l i))
def fromTo (l : List Job) (s : List Int) : Int × Int := s.foldl (fromStep l) (0, 0)
def boundFrom (l : List Job) (s : List Int) : Int := (fromTo l s).1 - (fromTo l s).2
structure JobsOk (l : List Job) : Prop where
  len : 1 ≤ l.length ∧ l.length ≤ 7
  job : ∀ j ∈ l, (1 ≤ j.ticks ∧ j.ticks ≤ 100000) ∧ (0 ≤ j.due ∧ j.due ≤ 100000)
theorem JobsOk.at {l : List Job} (h : JobsOk l) {i : Int} (h0 : 0 ≤ i) (h1 : i < (l.length : Int)) : (1 ≤ tickAt l i ∧ tickAt l i ≤ 100000) ∧ (0 ≤ dueAt l i ∧ dueAt l i ≤ 100000) := by
  unfold tickAt dueAt jobAt
  rw [getD_at (by omega)]
  exact h.job _ (List.getElem_mem (by omega))
theorem from_snoc (l : List Job) (s : List Int) (x : Int) : fromTo l (s ++ [x]) = ((fromTo l s).1 + tickAt l x, maxI (fromTo l s).2 (dueAt l x)) := by
  unfold fromTo
  rw [List.foldl_append]
  rfl
theorem maxI_l (a b : Int) : a ≤ maxI a b := by unfold maxI; split <;> omega
theorem maxI_r (a b : Int) : b ≤ maxI a b := by unfold maxI; split <;> omega
def sumS (l : List Job) : List Int → Int
  | [] => 0
  | x :: s => tickAt l x + sumS l s
theorem from_fold (l : List Job) : ∀ (s : List Int) (p : Int × Int), (s.foldl (fromStep l) p).1 = p.1 + sumS l s ∧ p.2 ≤ (s.foldl (fromStep l) p).2 ∧ (∀ x ∈ s, dueAt l x ≤ (s.foldl (fromStep l) p).2) ∧ ((s.foldl (fromStep l) p).2 = p.2 ∨ ∃ x ∈ s, (s.foldl (fromStep l) p).2 = dueAt l x)
  | [], p => by
    refine ⟨?_, Int.le_refl _, ?_, .inl rfl⟩
    · simp [sumS]
    · intro x hx; cases hx
  | y :: s, p => by
    obtain ⟨h1, h2, h3, h4⟩ := from_fold l s (fromStep l p y)
    have h5 : p.2 ≤ (fromStep l p y).2 := maxI_l _ _
    have h6 : dueAt l y ≤ (fromStep l p y).2 := maxI_r _ _
    rw [List.foldl_cons]
    refine ⟨?_, Int.le_trans h5 h2, fun x hx => ?_, ?_⟩
    · rw [h1]; show p.1 + tickAt l y + sumS l s = p.1 + (tickAt l y + sumS l s); omega
    · rcases List.mem_cons.1 hx with rfl | hx
      · exact Int.le_trans h6 h2
      · exact h3 x hx
    · rcases h4 with h4 | ⟨x, hx, h4⟩
      · rw [h4]
        show maxI p.2 (dueAt l y) = p.2 ∨ ∃ x ∈ y :: s, maxI p.2 (dueAt l y) = dueAt l x
        unfold maxI
        split
        · exact .inr ⟨y, List.mem_cons_self, rfl⟩
        · exact .inl rfl
      · exact .inr ⟨x, List.mem_cons_of_mem _ hx, h4⟩
theorem sumS_erase (l : List Job) : ∀ (s : List Int) (x : Int), x ∈ s → sumS l s = tickAt l x + sumS l (s.erase x)
  | y :: s, x, h => by
    rw [List.erase_cons]
    by_cases e : y = x
    · subst e
      simp [sumS]
    · have hm : x ∈ s := by
        rcases List.mem_cons.1 h with h | h
        · exact absurd h.symm e
        · exact h
      have : (y == x) = false := by simpa using e
      rw [this]
      have h2 := sumS_erase l s x hm
      show tickAt l y + sumS l s = tickAt l x + (tickAt l y + sumS l (s.erase x))
      omega
theorem sum_le {l : List Job} {d : Int} : ∀ (n : Nat), (∀ i : Nat, i < n → 0 ≤ tickAt l i) → ∀ (s : List Int), s.Nodup → (∀ x ∈ s, 0 ≤ x ∧ x < (n : Int) ∧ dueAt l x ≤ d) → sumS l s ≤ sumTo l d n
  | 0, _, s, _, h => by
    cases s with
    | nil => exact Int.le_refl _
    | cons x s => have := h x List.mem_cons_self; omega
  | n + 1, ht, s, hn, h => by
    have htn := ht n (by omega)
    by_cases hm : (n : Int) ∈ s
    · have h1 := sum_le n (fun i hi => ht i (by omega)) (s.erase (n : Int)) (hn.erase _) fun x hx => by
        have h2 := (hn.mem_erase_iff).1 hx
        have h3 := h x h2.2
        have h4 := h2.1
        exact ⟨h3.1, by omega, h3.2.2⟩
      rw [sumS_erase l s _ hm]
      unfold sumTo
      rw [if_pos (h _ hm).2.2]
      omega
    · have h1 := sum_le n (fun i hi => ht i (by omega)) s hn fun x hx => by
        have h3 := h x hx
        have h4 : x ≠ (n : Int) := fun e => hm (e ▸ hx)
        exact ⟨h3.1, by omega, h3.2.2⟩
      unfold sumTo
      split <;> omega
theorem bnd_ge (l : List Job) : ∀ (k j : Nat), j < k → sumTo l (dueAt l j) l.length - dueAt l j ≤ (bndTo l k).1
  | 0, j, h => by omega
  | k + 1, j, h => by
    unfold bndTo
    by_cases e : j = k
    · subst e
      split
      · exact Int.le_refl _
      · omega
    · have := bnd_ge l k j (by omega)
      split
      · show _ ≤ sumTo l (dueAt l k) l.length - dueAt l k
        omega
      · exact this
theorem sel_mem {l : List Job} {d : Int} : ∀ (k : Nat) (x : Int), x ∈ selTo l d k ↔ (0 ≤ x ∧ x < (k : Int) ∧ dueAt l x ≤ d)
  | 0, x => by
    constructor
    · intro h; cases h
    · intro h; omega
  | k + 1, x => by
    unfold selTo
    have ih := sel_mem (l := l) (d := d) k x
    split
    · rename_i hd
      rw [List.mem_append, ih, List.mem_singleton]
      constructor
      · rintro (h | rfl)
        · exact ⟨h.1, by omega, h.2.2⟩
        · exact ⟨by omega, by omega, hd⟩
      · intro h
        by_cases e : x = (k : Int)
        · exact .inr e
        · exact .inl ⟨h.1, by omega, h.2.2⟩
    · rename_i hd
      rw [ih]
      constructor
      · intro h; exact ⟨h.1, by omega, h.2.2⟩
      · intro h
        have : x ≠ (k : Int) := fun e => hd (e ▸ h.2.2)
        exact ⟨h.1, by omega, h.2.2⟩
theorem sel_up {l : List Job} {d : Int} : ∀ (k : Nat), (selTo l d k).Pairwise (· < ·)
  | 0 => List.Pairwise.nil
  | k + 1 => by
    unfold selTo
    split
    · rw [List.pairwise_append]
      refine ⟨sel_up k, List.pairwise_singleton _ _, fun x hx y hy => ?_⟩
      rw [List.mem_singleton] at hy
      subst hy
      exact ((sel_mem k x).1 hx).2.1
    · exact sel_up k
theorem sel_from {l : List Job} {d : Int} : ∀ (k : Nat), (fromTo l (selTo l d k)).1 = sumTo l d k
  | 0 => rfl
  | k + 1 => by
    unfold selTo sumTo
    split
    · rw [from_snoc, sel_from k]
    · exact sel_from k
theorem sel_bound {l : List Job} (hJ : JobsOk l) {j : Nat} (hj : j < l.length) : boundFrom l (selTo l (dueAt l j) l.length) = sumTo l (dueAt l j) l.length - dueAt l j := by
  obtain ⟨h1, h2, h3, h4⟩ := from_fold l (selTo l (dueAt l j) l.length) (0, 0)
  have hm : (j : Int) ∈ selTo l (dueAt l j) l.length := (sel_mem _ _).2 ⟨by omega, by omega, Int.le_refl _⟩
  have h5 := h3 _ hm
  have h6 : (fromTo l (selTo l (dueAt l j) l.length)).2 = dueAt l j := by
    unfold fromTo
    rcases h4 with h4 | ⟨x, hx, h4⟩
    · have := (hJ.at (i := (j : Int)) (by omega) (by omega)).2.1
      omega
    · have := ((sel_mem _ _).1 hx).2.2
      omega
  unfold boundFrom
  rw [sel_from, h6]
theorem sum_nn {l : List Job} {d : Int} : ∀ (n : Nat), (∀ i : Nat, i < n → 0 ≤ tickAt l i) → 0 ≤ sumTo l d n
  | 0, _ => Int.le_refl _
  | n + 1, h => by
    have := sum_nn (l := l) (d := d) n fun i hi => h i (by omega)
    have := h n (by omega)
    unfold sumTo
    split <;> omega
theorem bnd_is {l : List Job} (hJ : JobsOk l) : ∀ (k : Nat), 0 < k → k ≤ l.length → ∃ j, j < k ∧ bndTo l k = (sumTo l (dueAt l j) l.length - dueAt l j, selTo l (dueAt l j) l.length)
  | 0, h, _ => by omega
  | k + 1, _, h => by
    unfold bndTo
    split
    · exact ⟨k, by omega, rfl⟩
    · rename_i hn
      by_cases h0 : k = 0
      · subst h0
        exfalso
        have h1 := sum_nn (l := l) (d := dueAt l 0) l.length fun i hi => by have := (hJ.at (i := (i : Int)) (by omega) (by omega)).1.1; omega
        have h2 := (hJ.at (i := (0 : Nat)) (by omega) (by omega)).2
        unfold bndTo at hn
        simp only [Int.cast_ofNat_Int] at hn h1 h2
        omega
      · obtain ⟨j, hj, e⟩ := bnd_is hJ k (by omega) (by omega)
        exact ⟨j, by omega, e⟩
theorem bnd_set {l : List Job} (hJ : JobsOk l) : (bndTo l l.length).2 ≠ [] ∧ (∀ x ∈ (bndTo l l.length).2, 0 ≤ x ∧ x < (l.length : Int)) ∧ (bndTo l l.length).2.Pairwise (· < ·) ∧ boundFrom l (bndTo l l.length).2 = (bndTo l l.length).1 := by
  obtain ⟨j, hj, e⟩ := bnd_is hJ l.length (by have := hJ.len; omega) (Nat.le_refl _)
  rw [e]
  refine ⟨fun h0 => ?_, fun x hx => ?_, sel_up _, sel_bound hJ hj⟩
  · have : (j : Int) ∈ selTo l (dueAt l j) l.length := (sel_mem _ _).2 ⟨by omega, by omega, Int.le_refl _⟩
    simp only at h0
    rw [h0] at this
    cases this
  · have := (sel_mem _ _).1 hx
    exact ⟨this.1, this.2.1⟩
def stE (n : Nat) (s : List Int) (k : Nat) (x : Int) : Int := firstE [unlessE (decide (0 ≤ x ∧ x ≤ (n : Int) - 1)) 6, unlessE (decide (k = 0) || decide (x > s.getD (k - 1) 0)) 9]
def setE (l : List Job) (s : List Int) : Int := if s.length = 0 then 10 else (eachGo (stE l.length s) 0 s).2
def setChk (l : List Job) (s : List Int) : Int := if (jobsChk l).2 ≠ 0 then (jobsChk l).2 else setE l s
theorem st_6 {n k : Nat} {s : List Int} {x : Int} (h : ¬ (0 ≤ x ∧ x ≤ (n : Int) - 1)) : stE n s k x = 6 := by rw [stE, firstE2, decide_eq_false h]; rfl
theorem st_9 {n k : Nat} {s : List Int} {x : Int} (h : 0 ≤ x ∧ x ≤ (n : Int) - 1) (hk : k ≠ 0) (h2 : ¬ x > s.getD (k - 1) 0) : stE n s k x = 9 := by rw [stE, firstE2, decide_eq_true h, decide_eq_false hk, decide_eq_false h2]; rfl
theorem st_0 {n k : Nat} {s : List Int} {x : Int} (h : 0 ≤ x ∧ x ≤ (n : Int) - 1) (h2 : k = 0 ∨ x > s.getD (k - 1) 0) : stE n s k x = 0 := by
  rw [stE, firstE2, decide_eq_true h]
  rcases h2 with h2 | h2
  · rw [decide_eq_true h2]; rfl
  · rw [decide_eq_true h2, Bool.or_true]; rfl
theorem st_ok {n k : Nat} {s : List Int} {x : Int} (h : stE n s k x = 0) : (0 ≤ x ∧ x ≤ (n : Int) - 1) ∧ (k = 0 ∨ x > s.getD (k - 1) 0) := by
  unfold stE at h
  obtain ⟨h1, h2⟩ := first2_0 h
  refine ⟨of_decide_eq_true (un_0 (by decide) h1), ?_⟩
  have := un_0 (by decide) h2
  simpa using this
theorem set_is {l : List Job} {s : List Int} {k : Nat} {e : Int} (h : s.length ≠ 0) (hg : eachGo (stE l.length s) 0 s = ((k : Int), e)) : setE l s = e := by unfold setE; rw [if_neg h, hg]
theorem set_end {l : List Job} {s : List Int} (h : s.length ≠ 0) (hg : eachGo (stE l.length s) 0 s = (0, 0)) : setE l s = 0 := by unfold setE; rw [if_neg h, hg]
theorem each_0n {α : Type} {g : Nat → α → Int} : ∀ {l : List α} {k : Nat}, (∀ (i : Nat) (h : i < l.length), g (k + i) l[i] = 0) → eachGo g k l = (0, 0)
  | [], _, _ => rfl
  | x :: l, k, h => by
    have h0 := h 0 (by simp)
    simp only [Nat.add_zero, List.getElem_cons_zero] at h0
    rw [eachGo, if_neg (by rw [h0]; decide)]
    exact each_0n fun i hi => by
      have := h (i + 1) (by simpa using hi)
      rw [show k + (i + 1) = k + 1 + i by omega] at this
      simpa using this
theorem set_0 {l : List Job} {s : List Int} (h0 : s ≠ []) (h1 : ∀ x ∈ s, 0 ≤ x ∧ x < (l.length : Int)) (h2 : s.Pairwise (· < ·)) : setE l s = 0 := by
  refine set_end (fun e => h0 (List.length_eq_zero_iff.1 e)) (each_0n fun i hi => ?_)
  rw [Nat.zero_add]
  have := h1 _ (List.getElem_mem hi)
  refine st_0 (by omega) ?_
  by_cases e : i = 0
  · exact .inl e
  · refine .inr ?_
    rw [getD_at (show i - 1 < s.length by omega)]
    exact List.pairwise_iff_getElem.1 h2 (i - 1) i (by omega) hi (by omega)
theorem jobs_fine {l : List Job} (h : (jobsChk l).2 = 0) : JobsOk l := by
  unfold jobsChk at h
  split at h
  · cases h
  · split at h
    · cases h
    · refine ⟨by omega, fun j hj => ?_⟩
      obtain ⟨i, hi, rfl⟩ := List.getElem_of_mem hj
      have h3 := un_0 (by decide) (first3_0 (each_zero _ l 0 h i hi)).2.2
      unfold rightJ at h3
      simp only [Bool.and_eq_true, decide_eq_true_eq] at h3
      omega
theorem from_take {l : List Job} {s : List Int} {k : Nat} (h : k < s.length) : fromTo l (s.take (k + 1)) = ((fromTo l (s.take k)).1 + tickAt l s[k], maxI (fromTo l (s.take k)).2 (dueAt l s[k])) := by
  rw [List.take_succ_eq_append_getElem h, from_snoc]
theorem job_due {l : List Job} {i : Int} {k : Nat} (h : k < l.length) (e : i = (k : Int)) : dueAt l i = l[k].due := by subst e; unfold dueAt jobAt; rw [Int.toNat_natCast, getD_at h]
theorem job_tick {l : List Job} {i : Int} {k : Nat} (h : k < l.length) (e : i = (k : Int)) : tickAt l i = l[k].ticks := by subst e; unfold tickAt jobAt; rw [Int.toNat_natCast, getD_at h]
theorem sel_len (l : List Job) (d : Int) : ∀ k, (selTo l d k).length ≤ k
  | 0 => Nat.le_refl _
  | k + 1 => by
    have := sel_len l d k
    unfold selTo
    split
    · rw [List.length_append, List.length_singleton]; omega
    · omega
theorem sum_bd {l : List Job} (hJ : JobsOk l) (d : Int) : ∀ k, k ≤ l.length → 0 ≤ sumTo l d k ∧ sumTo l d k ≤ 100000 * k
  | 0, _ => by show (0 : Int) ≤ 0 ∧ (0 : Int) ≤ _; omega
  | k + 1, h => by
    have := sum_bd hJ d k (by omega)
    have h2 := (hJ.at (i := (k : Int)) (by omega) (by omega)).1
    unfold sumTo
    split <;> omega
theorem sel_T {l : List Job} {d : Int} {k : Nat} (h : dueAt l k ≤ d) : selTo l d (k + 1) = selTo l d k ++ [(k : Int)] := if_pos h
theorem sel_F {l : List Job} {d : Int} {k : Nat} (h : ¬ dueAt l k ≤ d) : selTo l d (k + 1) = selTo l d k := if_neg h
theorem sum_T {l : List Job} {d : Int} {k : Nat} (h : dueAt l k ≤ d) : sumTo l d (k + 1) = sumTo l d k + tickAt l k := if_pos h
theorem sum_F {l : List Job} {d : Int} {k : Nat} (h : ¬ dueAt l k ≤ d) : sumTo l d (k + 1) = sumTo l d k := if_neg h
theorem bnd_T {l : List Job} {k : Nat} (h : (bndTo l k).1 < sumTo l (dueAt l k) l.length - dueAt l k) : bndTo l (k + 1) = (sumTo l (dueAt l k) l.length - dueAt l k, selTo l (dueAt l k) l.length) := if_pos h
theorem bnd_F {l : List Job} {k : Nat} (h : ¬ (bndTo l k).1 < sumTo l (dueAt l k) l.length - dueAt l k) : bndTo l (k + 1) = bndTo l k := if_neg h
theorem from_t1 {l : List Job} {s : List Int} {k : Nat} (h : k < s.length) : (fromTo l (s.take (k + 1))).1 = (fromTo l (s.take k)).1 + tickAt l s[k] := by rw [from_take h]
theorem from_t2 {l : List Job} {s : List Int} {k : Nat} (h : k < s.length) : (fromTo l (s.take (k + 1))).2 = if (fromTo l (s.take k)).2 < dueAt l s[k] then dueAt l s[k] else (fromTo l (s.take k)).2 := by rw [from_take h]; rfl
def chk2 (l : List Job) (s : List Int) : Int := firstE [(jobsChk l).2, unlessE (decide ((s.length : Int) > 0)) 10]
theorem chk_T {l : List Job} {s : List Int} (h : chk2 l s ≠ 0) : setChk l s = chk2 l s := by
  unfold chk2 at h ⊢
  rw [firstE2] at h ⊢
  unfold setChk
  by_cases h1 : (jobsChk l).2 ≠ 0
  · rw [if_pos h1, if_pos h1]
  · rw [if_neg h1] at h ⊢
    rw [if_neg h1]
    unfold setE
    by_cases h2 : s.length = 0
    · rw [if_pos h2, decide_eq_false (by omega)]; rfl
    · rw [decide_eq_true (by omega)] at h; exact absurd rfl h
theorem chk_F {l : List Job} {s : List Int} (h : chk2 l s = 0) : (jobsChk l).2 = 0 ∧ s.length ≠ 0 := by
  unfold chk2 at h
  obtain ⟨h1, h2⟩ := first2_0 h
  have := of_decide_eq_true (un_0 (by decide) h2)
  exact ⟨h1, by omega⟩
theorem chk_on {l : List Job} {s : List Int} (h : (jobsChk l).2 = 0) : setChk l s = setE l s := by unfold setChk; rw [if_neg (by rw [h]; decide)]
def cbR (l : List Job) (s : List Int) : Int := if setChk l s = 0 then boundFrom l s else 0
def bndR (l : List Job) : Int × List Int := if (jobsChk l).2 = 0 then bndTo l l.length else (0, [])
theorem st_T {n k : Nat} {s : List Int} {x : Int} (hk : k = 0) : stE n s k x = firstE [unlessE (decide (0 ≤ x ∧ x ≤ (n : Int) - 1)) 6, unlessE true 9] := by unfold stE; rw [decide_eq_true hk, Bool.true_or]
theorem st_F {n k : Nat} {s : List Int} {x : Int} (hk : ¬ k = 0) (h : k - 1 < s.length) : stE n s k x = firstE [unlessE (decide (0 ≤ x ∧ x ≤ (n : Int) - 1)) 6, unlessE (decide (x > s[k - 1])) 9] := by unfold stE; rw [decide_eq_false hk, Bool.false_or, getD_at h]
set_option maxHeartbeats 1000000 in
theorem ref9_SetErr {l : List Job} {s : List Int} : Ct Tryz.prog 15 [.sl (l.map Job.cs), .sl (s.map (fun n => [.int .i64 n]))] (.int .i64 (setE l s)) := by
 refine Ct.intro (rs := [.tmp 4]) Tryz.func15 rfl Tryz.ntmps15 Tryz.results15 rfl rfl rfl fun w h => ?_
 refine OK.slLen (rows := l.map Job.cs) (t := 0) rfl rfl fun hlen => ?_
 rw [List.length_map] at hlen
 unfold maxLen at hlen
 refine OK.slLen (rows := s.map (fun n => [.int .i64 n])) (t := 1) rfl rfl fun hlen2 => ?_
 rw [List.length_map] at hlen2
 unfold maxLen at hlen2
 refine OK.seq (OK.reg ?_)
 refine RK.c (S.assign .none rfl (.cint rfl)) ?_
 refine RK.nil (Ab.D.code (OK.seq (OK.seq (OK.reg ?_))))
 refine RK.c (S.move .none rfl (.tmp rfl rfl)) ?_
 refine RK.c (S.lenM si26 .none rfl (.tmp rfl rfl)) ?_
 refine RK.c (S.eql .none rfl (.tmp rfl rfl) (.cint rfl)) ?_
 refine RK.nil (Ab.D.code ?_)
 refine OK.condD rfl rfl (fun c8 => ?_) (fun c8 => ?_)
 ·
  refine OK.seq (OK.reg ?_)
  refine RK.c (S.assign .none rfl (.cint rfl)) ?_
  refine RK.nil (Ab.D.code ?_)
  refine OK.ret (Ret.r1 (.tmp rfl rfl (.c (.same rfl) rfl) rfl) ?_)
  refine ret_i ?_
  rw [setE, if_pos (by omega)]
 ·
  refine OK.skip ?_
  refine Ab.D.code (OK.seq (OK.seq (OK.reg ?_)))
  refine RK.c (S.assign .none rfl (.cint rfl)) ?_
  refine RK.nil (Ab.D.code ?_)
  refine OK.block ?_
  refine OK.loop (G := Nat) [] (fun k => [(0, .sl (l.map Job.cs)), (1, .sl (s.map (fun n => [.int .i64 n]))), (5, .int .i64 k)]) (fun k => k ≤ s.length ∧ eachGo (stE l.length s) 0 s = eachGo (stE l.length s) k (s.drop k)) (fun k => s.length - k) 0 ⟨Nat.zero_le _, rfl⟩ ⟨rfl, rfl, rfl, trivial⟩ (fun _ => rfl) ?_
  rintro k ⟨hk, hg⟩
  refine OK.seq (OK.seq (OK.reg ?_))
  refine RK.c (S.move .none rfl (.tmp rfl rfl)) ?_
  refine RK.c (S.move .none rfl (.tmp rfl rfl)) ?_
  refine RK.c (S.lenM si26 .none rfl (.tmp rfl rfl)) ?_
  refine RK.c (S.lss .none rfl (.tmp rfl rfl) (.tmp rfl rfl)) ?_
  refine RK.nil (Ab.D.code ?_)
  refine OK.condD rfl rfl (fun c12 => ?_) (fun c12 => ?_)
  ·
   have hkl : k < s.length := by omega
   refine OK.skip ?_
   refine Ab.D.code ?_
   refine OK.seq ?_
   refine OK.block ?_
   refine OK.seq (OK.seq (OK.reg ?_))
   refine RK.c (S.move .none rfl (.tmp rfl rfl)) ?_
   refine RK.c (S.move .none rfl (.tmp rfl rfl)) ?_
   refine RK.c (S.indexM (n := k) si26 .none rfl (.tmp rfl rfl) (.tmp rfl rfl) rfl hkl rfl) ?_
   refine RK.c (S.load1 ti3 .none rfl (.tmp rfl rfl) rfl) ?_
   refine RK.c (S.move .none rfl (.tmp rfl rfl)) ?_
   refine RK.c (S.lenM si22 .none rfl (.tmp rfl rfl)) ?_
   refine RK.c (S.sub .none rfl (.tmp rfl rfl) (.cint rfl) (IntWalk.i64_in _ (by omega)) (IntWalk.i64_in _ (by omega))) ?_
   refine RK.c (S.call (base_Within) Tryz.call34 .none rfl (.cons (.tmp rfl rfl) (.cons (.cint rfl) (.cons (.tmp rfl rfl) .nil))) rfl) ?_
   refine RK.c (S.notD .none rfl (.tmp rfl rfl)) ?_
   refine RK.nil (Ab.D.code ?_)
   refine OK.condD rfl rfl (fun c23 => ?_) (fun c23 => ?_)
   ·
    have hin : ¬ (0 ≤ s[k] ∧ s[k] ≤ (l.length : Int) - 1) := by first | omega | simpa using c23
    refine OK.seq (OK.reg ?_)
    refine RK.c (S.assign .none rfl (.cint rfl)) ?_
    refine RK.nil (Ab.D.code ?_)
    refine OK.ret (Ret.r1 (.tmp rfl rfl (.c (.same rfl) rfl) rfl) ?_)
    refine ret_i ?_
    rw [set_is (by omega) (each_at hg hkl (st_6 hin) (by decide))]
   ·
    have hin : 0 ≤ s[k] ∧ s[k] ≤ (l.length : Int) - 1 := by first | omega | simpa using c23
    refine OK.skip ?_
    refine Ab.D.code ?_
    refine OK.seq ?_
    by_cases g26 : (k : Int) > 0
    ·
     have hk1 : k - 1 < s.length := by omega
     refine OK.regionDraw follows (.c (S.move .none rfl (.tmp rfl rfl))
      (.c (S.gtr .none rfl (.tmp rfl rfl) (.cint rfl))
      (.c (S.move .none rfl (.tmp rfl rfl))
      (.c (S.move (.yes rfl rfl rfl (by first | rfl | exact decide_eq_true g26 | exact decide_eq_false g26 | (rw [decide_eq_true g26]; rfl) | (rw [decide_eq_false g26]; rfl) | simp [*])) rfl (.tmp rfl rfl))
      (.c (S.move (.yes rfl rfl rfl (by first | rfl | exact decide_eq_true g26 | exact decide_eq_false g26 | (rw [decide_eq_true g26]; rfl) | (rw [decide_eq_false g26]; rfl) | simp [*])) rfl (.tmp rfl rfl))
      (.c (S.indexM (n := k) si26 (.yes rfl rfl rfl (by first | rfl | exact decide_eq_true g26 | exact decide_eq_false g26 | (rw [decide_eq_true g26]; rfl) | (rw [decide_eq_false g26]; rfl) | simp [*])) rfl (.tmp rfl rfl) (.tmp rfl rfl) rfl hkl rfl)
      (.c (S.load1 ti3 (.yes rfl rfl rfl (by first | rfl | exact decide_eq_true g26 | exact decide_eq_false g26 | (rw [decide_eq_true g26]; rfl) | (rw [decide_eq_false g26]; rfl) | simp [*])) rfl (.tmp rfl rfl) rfl)
      (.c (S.move (.yes rfl rfl rfl (by first | rfl | exact decide_eq_true g26 | exact decide_eq_false g26 | (rw [decide_eq_true g26]; rfl) | (rw [decide_eq_false g26]; rfl) | simp [*])) rfl (.tmp rfl rfl))
      (.c (S.move (.yes rfl rfl rfl (by first | rfl | exact decide_eq_true g26 | exact decide_eq_false g26 | (rw [decide_eq_true g26]; rfl) | (rw [decide_eq_false g26]; rfl) | simp [*])) rfl (.tmp rfl rfl))
      (.c (S.sub (.yes rfl rfl rfl (by first | rfl | exact decide_eq_true g26 | exact decide_eq_false g26 | (rw [decide_eq_true g26]; rfl) | (rw [decide_eq_false g26]; rfl) | simp [*])) rfl (.tmp rfl rfl) (.cint rfl) (IntWalk.i64_in _ (by omega)) (IntWalk.i64_in _ (by omega)))
      (.c (S.indexM (n := k - 1) si26 (.yes rfl rfl rfl (by first | rfl | exact decide_eq_true g26 | exact decide_eq_false g26 | (rw [decide_eq_true g26]; rfl) | (rw [decide_eq_false g26]; rfl) | simp [*])) rfl (.tmp rfl rfl) (.tmp rfl rfl) (by omega) hk1 rfl)
      (.c (S.load1 ti3 (.yes rfl rfl rfl (by first | rfl | exact decide_eq_true g26 | exact decide_eq_false g26 | (rw [decide_eq_true g26]; rfl) | (rw [decide_eq_false g26]; rfl) | simp [*])) rfl (.tmp rfl rfl) rfl)
      (.c (S.leq (.yes rfl rfl rfl (by first | rfl | exact decide_eq_true g26 | exact decide_eq_false g26 | (rw [decide_eq_true g26]; rfl) | (rw [decide_eq_false g26]; rfl) | simp [*])) rfl (.tmp rfl rfl) (.tmp rfl rfl))
      (.c (S.pickT .none rfl (.tmp rfl rfl) (.tmp rfl rfl) (by first | rfl | exact decide_eq_true g26 | exact decide_eq_false g26 | (rw [decide_eq_true g26]; rfl) | (rw [decide_eq_false g26]; rfl) | simp [*]))
      .nil)))))))))))))) (by kernel_rfl) ?_
     refine Ab.D.code ?_
     refine OK.condD rfl rfl (fun c37 => ?_) (fun c37 => ?_)
     ·
      refine OK.seq (OK.reg ?_)
      refine RK.c (S.assign .none rfl (.cint rfl)) ?_
      refine RK.nil (Ab.D.code ?_)
      refine OK.ret (Ret.r1 (.tmp rfl rfl (.c (.same rfl) rfl) rfl) ?_)
      refine ret_i ?_
      rw [set_is (by omega) (each_at hg hkl (st_9 hin (by omega) (by rw [getD_at hk1]; omega)) (by decide))]
     ·
      have hs0 : stE l.length s k s[k] = 0 := st_0 hin (by first | exact .inl (by omega) | (refine .inr ?_; rw [getD_at hk1]; omega))
      refine OK.skip ?_
      refine Ab.D.blk ?_
      refine Ab.D.code (OK.reg ?_)
      refine RK.c (S.move .none rfl (.tmp rfl rfl)) ?_
      refine RK.c (S.add .none rfl (.tmp rfl rfl) (.cint rfl) (IntWalk.i64_in _ (by omega)) (IntWalk.i64_in _ (by omega))) ?_
      refine RK.c (S.assign .none rfl (.tmp rfl rfl)) ?_
      refine RK.nil ?_
      refine Ab.D.lp ⟨k + 1, ⟨by omega, each_on hg (by omega) hs0⟩, (by omega), rfl, rfl, rfl, trivial⟩
    ·
     have hs0 : stE l.length s k s[k] = 0 := st_0 hin (.inl (by omega))
     refine OK.regionDraw follows (.c (S.move .none rfl (.tmp rfl rfl))
      (.c (S.gtr .none rfl (.tmp rfl rfl) (.cint rfl))
      (.c (S.move .none rfl (.tmp rfl rfl))
      (.c (S.skip rfl rfl rfl (by first | rfl | exact decide_eq_true g26 | exact decide_eq_false g26 | (rw [decide_eq_true g26]; rfl) | (rw [decide_eq_false g26]; rfl) | simp [*]) rfl)
      (.c (S.skip rfl rfl rfl (by first | rfl | exact decide_eq_true g26 | exact decide_eq_false g26 | (rw [decide_eq_true g26]; rfl) | (rw [decide_eq_false g26]; rfl) | simp [*]) rfl)
      (.c (S.skip rfl rfl rfl (by first | rfl | exact decide_eq_true g26 | exact decide_eq_false g26 | (rw [decide_eq_true g26]; rfl) | (rw [decide_eq_false g26]; rfl) | simp [*]) rfl)
      (.c (S.skip rfl rfl rfl (by first | rfl | exact decide_eq_true g26 | exact decide_eq_false g26 | (rw [decide_eq_true g26]; rfl) | (rw [decide_eq_false g26]; rfl) | simp [*]) rfl)
      (.c (S.skip rfl rfl rfl (by first | rfl | exact decide_eq_true g26 | exact decide_eq_false g26 | (rw [decide_eq_true g26]; rfl) | (rw [decide_eq_false g26]; rfl) | simp [*]) rfl)
      (.c (S.skip rfl rfl rfl (by first | rfl | exact decide_eq_true g26 | exact decide_eq_false g26 | (rw [decide_eq_true g26]; rfl) | (rw [decide_eq_false g26]; rfl) | simp [*]) rfl)
      (.c (S.skip rfl rfl rfl (by first | rfl | exact decide_eq_true g26 | exact decide_eq_false g26 | (rw [decide_eq_true g26]; rfl) | (rw [decide_eq_false g26]; rfl) | simp [*]) rfl)
      (.c (S.skip rfl rfl rfl (by first | rfl | exact decide_eq_true g26 | exact decide_eq_false g26 | (rw [decide_eq_true g26]; rfl) | (rw [decide_eq_false g26]; rfl) | simp [*]) rfl)
      (.c (S.skip rfl rfl rfl (by first | rfl | exact decide_eq_true g26 | exact decide_eq_false g26 | (rw [decide_eq_true g26]; rfl) | (rw [decide_eq_false g26]; rfl) | simp [*]) rfl)
      (.c (S.skip rfl rfl rfl (by first | rfl | exact decide_eq_true g26 | exact decide_eq_false g26 | (rw [decide_eq_true g26]; rfl) | (rw [decide_eq_false g26]; rfl) | simp [*]) rfl)
      (.c (S.pickF .none rfl (.tmp rfl rfl) .cbool (by first | rfl | exact decide_eq_true g26 | exact decide_eq_false g26 | (rw [decide_eq_true g26]; rfl) | (rw [decide_eq_false g26]; rfl) | simp [*]))
      .nil)))))))))))))) (by kernel_rfl) ?_
     refine Ab.D.code ?_
     refine OK.condF rfl rfl rfl ?_
     refine OK.skip ?_
     refine Ab.D.blk ?_
     refine Ab.D.code (OK.reg ?_)
     refine RK.c (S.move .none rfl (.tmp rfl rfl)) ?_
     refine RK.c (S.add .none rfl (.tmp rfl rfl) (.cint rfl) (IntWalk.i64_in _ (by omega)) (IntWalk.i64_in _ (by omega))) ?_
     refine RK.c (S.assign .none rfl (.tmp rfl rfl)) ?_
     refine RK.nil ?_
     refine Ab.D.lp ⟨k + 1, ⟨by omega, each_on hg (by omega) hs0⟩, (by omega), rfl, rfl, rfl, trivial⟩
  ·
   refine OK.exit rfl ?_
   refine Ab.D.code (OK.seq (OK.reg ?_))
   refine RK.c (S.assign .none rfl (.cint rfl)) ?_
   refine RK.nil (Ab.D.code ?_)
   refine OK.ret (Ret.r1 (.tmp rfl rfl (.c (.same rfl) rfl) rfl) ?_)
   refine ret_i ?_
   rw [set_end (by omega) (each_end hg (by omega))]
set_option maxHeartbeats 1000000 in
theorem shp_BoundOf {l : List Job} : Ct Tryz.prog 14 [.sl (l.map Job.cs)] (.tup [.int .i64 (bndR l).1, ints (bndR l).2, .int .i64 (jobsChk l).2]) := by
 refine Ct.intro (rs := [.tmp 2, .tmp 3, .tmp 4]) Tryz.func14 rfl Tryz.ntmps14 Tryz.results14 rfl rfl rfl fun w h => ?_
 refine OK.seq (OK.reg ?_)
 refine RK.c (S.assign .none rfl (.cint rfl)) ?_
 refine RK.c (S.assign .none rfl .cnil) ?_
 refine RK.c (S.assign .none rfl (.cint rfl)) ?_
 refine RK.nil (Ab.D.code (OK.seq (OK.seq (OK.reg ?_))))
 refine RK.c (S.move .none rfl (.tmp rfl rfl)) ?_
 refine RK.c (S.call (shp_jobsErr) Tryz.call39 .none rfl (.cons (.tmp rfl rfl) .nil) rfl) ?_
 refine RK.c (S.assign .none rfl (.tmp rfl rfl)) ?_
 refine RK.nil (Ab.D.code (OK.seq (OK.reg ?_)))
 refine RK.c (S.move .none rfl (.tmp rfl rfl)) ?_
 refine RK.c (S.neq .none rfl (.tmp rfl rfl) (.cint rfl)) ?_
 refine RK.nil (Ab.D.code ?_)
 refine OK.condD rfl rfl (fun c18 => ?_) (fun c18 => ?_)
 ·
  refine OK.seq (OK.reg ?_)
  refine RK.c (S.move .none rfl (.tmp rfl rfl)) ?_
  refine RK.c (S.assign .none rfl (.cint rfl)) ?_
  refine RK.c (S.assign .none rfl .cnil) ?_
  refine RK.c (S.assign .none rfl (.tmp rfl rfl)) ?_
  refine RK.nil (Ab.D.code ?_)
  refine OK.ret (Ret.r3 (.tmp rfl rfl (.c (.same rfl) rfl) rfl) (.tmp rfl rfl (.c (.same rfl) rfl) rfl) (.tmp rfl rfl (.c (.same rfl) rfl) rfl) ?_)
  rw [show bndR l = (0, []) from if_neg c18]
  rfl
 ·
  have hj0 : (jobsChk l).2 = 0 := Decidable.not_not.1 c18
  have hJ := jobs_fine hj0
  have hJl := hJ.len
  refine OK.skip ?_
  refine Ab.D.code (OK.seq (OK.reg ?_))
  refine RK.c (S.assign .none rfl (.cint rfl)) ?_
  refine RK.nil (Ab.D.code (OK.seq (OK.reg ?_)))
  refine RK.c (S.assign .none rfl .cnil) ?_
  refine RK.nil (Ab.D.code (OK.seq (OK.seq (OK.reg ?_))))
  refine RK.c (S.move .none rfl (.tmp rfl rfl)) ?_
  refine RK.c (S.lenM si22 .none rfl (.tmp rfl rfl)) ?_
  refine RK.c (S.move .none rfl (.cint rfl)) ?_
  refine RK.nil (Ab.D.code ?_)
  refine OK.block ?_
  refine OK.loop (G := Nat) [] (fun k => [(0, .sl (l.map Job.cs)), (6, .int .i64 (bndTo l k).1), (7, ints (bndTo l k).2), (20, .sl (l.map Job.cs)), (21, .int .i64 l.length), (22, .int .i64 k)]) (fun k => k ≤ l.length ∧ -200000 ≤ (bndTo l k).1 ∧ (bndTo l k).1 ≤ 2000000) (fun k => l.length - k) 0 ⟨Nat.zero_le _, Int.le_refl _, by show (-200000 : Int) ≤ 2000000; decide⟩ ⟨rfl, rfl, rfl, rfl, rfl, rfl, trivial⟩ (fun _ => rfl) ?_
  rintro k ⟨hk, hb1, hb2⟩
  refine OK.seq (OK.reg ?_)
  refine RK.c (S.lss .none rfl (.tmp rfl rfl) (.tmp rfl rfl)) ?_
  refine RK.nil (Ab.D.code ?_)
  refine OK.seq ?_
  refine OK.condD rfl rfl (fun c23 => ?_) (fun c23 => ?_)
  ·
   have hkl : k < l.length := by omega
   have hdk := job_due (l := l) hkl rfl
   have hak := hJ.at (i := (k : Int)) (by omega) (by omega)
   refine OK.skip ?_
   refine Ab.D.code ?_
   refine OK.seq ?_
   refine OK.block ?_
   refine OK.seq (OK.reg ?_)
   refine RK.c (S.indexM (n := k) si22 .none rfl (.tmp rfl rfl) (.tmp rfl rfl) rfl hkl rfl) ?_
   refine RK.c (S.loadN ti70 .none rfl (.tmp rfl rfl) rfl rfl) ?_
   refine RK.c (S.alloc (k := 9) ze70 rfl .none rfl) ?_
   refine RK.c (S.store ti70 .none (.tmp rfl rfl) (.tmp rfl rfl) rfl rfl rfl rfl rfl rfl) ?_
   refine RK.nil (Ab.D.code (OK.seq (OK.reg ?_)))
   refine RK.c (S.nilOwn (k := 10) (sz := 1) .none rfl) ?_
   refine RK.nil (Ab.D.code (OK.seq (OK.reg ?_)))
   refine RK.c (S.assign .none rfl (.cint rfl)) ?_
   refine RK.nil (Ab.D.code (OK.seq (OK.seq (OK.reg ?_))))
   refine RK.c (S.move .none rfl (.tmp rfl rfl)) ?_
   refine RK.c (S.lenM si22 .none rfl (.tmp rfl rfl)) ?_
   refine RK.c (S.move .none rfl (.cint rfl)) ?_
   refine RK.nil (Ab.D.code ?_)
   refine OK.block ?_
   refine OK.loop (G := Nat) [9, 10] (fun i => [(0, .sl (l.map Job.cs)), (6, .int .i64 (bndTo l k).1), (7, ints (bndTo l k).2), (9, .ptr 9 0), (1009, .box l[k].cs), (10, .own 10 (selTo l (dueAt l (k : Int)) i).length), (2010, .arr 1 ((selTo l (dueAt l (k : Int)) i).map (fun n => [.int .i64 n]))), (11, .int .i64 (sumTo l (dueAt l (k : Int)) i)), (20, .sl (l.map Job.cs)), (21, .int .i64 l.length), (22, .int .i64 k), (26, .sl (l.map Job.cs)), (27, .int .i64 l.length), (28, .int .i64 i)]) (fun i => i ≤ l.length) (fun i => l.length - i) 0 (Nat.zero_le _) ⟨rfl, rfl, rfl, rfl, rfl, (lk_own (by first | rfl | (simp; done) | (simp; omega))), (lk_arr (by first | rfl | (simp; done) | (simp; omega))), rfl, rfl, rfl, rfl, rfl, rfl, rfl, trivial⟩ (fun _ => rfl) ?_
   rintro i hi
   refine OK.seq (OK.reg ?_)
   refine RK.c (S.lss .none rfl (.tmp rfl rfl) (.tmp rfl rfl)) ?_
   refine RK.nil (Ab.D.code ?_)
   refine OK.seq ?_
   refine OK.condD rfl rfl (fun c29 => ?_) (fun c29 => ?_)
   ·
    have hil : i < l.length := by omega
    have hdi := job_due (l := l) hil rfl
    have hti := job_tick (l := l) hil rfl
    have hsb := sum_bd hJ (dueAt l (k : Int)) i (by omega)
    have hsl := sel_len l (dueAt l (k : Int)) i
    have hai := hJ.at (i := (i : Int)) (by omega) (by omega)
    refine OK.skip ?_
    refine Ab.D.code ?_
    refine OK.seq ?_
    refine OK.block ?_
    refine OK.seq (OK.reg ?_)
    refine RK.c (S.move .none rfl (.tmp rfl rfl)) ?_
    refine RK.c (S.indexM (n := i) si22 .none rfl (.tmp rfl rfl) (.tmp rfl rfl) rfl hil rfl) ?_
    refine RK.c (S.loadN ti70 .none rfl (.tmp rfl rfl) rfl rfl) ?_
    refine RK.c (S.alloc (k := 13) ze70 rfl .none rfl) ?_
    refine RK.c (S.assign .none rfl (.tmp rfl rfl)) ?_
    refine RK.c (S.store ti70 .none (.tmp rfl rfl) (.tmp rfl rfl) rfl rfl rfl rfl rfl rfl) ?_
    refine RK.nil (Ab.D.code (OK.seq (OK.reg ?_)))
    refine RK.c (S.bfield fi70_3 .none rfl (.tmp rfl rfl)) ?_
    refine RK.c (S.bload1 ti3 .none rfl (.tmp rfl rfl) rfl rfl rfl rfl) ?_
    refine RK.c (S.bfield fi70_3 .none rfl (.tmp rfl rfl)) ?_
    refine RK.c (S.bload1 ti3 .none rfl (.tmp rfl rfl) rfl rfl rfl rfl) ?_
    refine RK.c (S.leq .none rfl (.tmp rfl rfl) (.tmp rfl rfl)) ?_
    refine RK.nil (Ab.D.code ?_)
    refine OK.condD rfl rfl (fun c37 => ?_) (fun c37 => ?_)
    ·
     have hd : dueAt l (i : Int) ≤ dueAt l (k : Int) := by omega
     refine OK.regionDraw follows (.c (S.move .none rfl (.tmp rfl rfl))
      (.c (S.move .none rfl (.tmp rfl rfl))
      (.c (S.mkSlice (k := 40) (rows := [[_]]) ai26 .none rfl (.cons (.tmp rfl rfl) .nil) rfl rfl rfl rfl rfl rfl rfl)
      (.c (S.append ai26 .none rfl (.tmp rfl rfl) rfl (by simp) (.tmp rfl rfl) rfl (by first | rfl | (simp; done) | (simp; omega)) (by omega) (by simp only [maxLen]; omega))
      (.c (S.move .none rfl (.tmp rfl rfl))
      (.c (S.bfield fi70_2 .none rfl (.tmp rfl rfl))
      (.c (S.bload1 ti3 .none rfl (.tmp rfl rfl) rfl rfl rfl rfl)
      (.c (S.add .none rfl (.tmp rfl rfl) (.tmp rfl rfl) (IntWalk.i64_in _ (by omega)) (IntWalk.i64_in _ (by omega)))
      (.c (S.assign .none rfl (.tmp rfl rfl))
      (.c (S.assign .none rfl (.tmp rfl rfl))
      .nil)))))))))) (by kernel_rfl) ?_
     refine Ab.D.blk ?_
     refine Ab.D.code (OK.reg ?_)
     refine RK.c (S.add .none rfl (.tmp rfl rfl) (.cint rfl) (IntWalk.i64_in _ (by omega)) (IntWalk.i64_in _ (by omega))) ?_
     refine RK.c (S.move .none rfl (.tmp rfl rfl)) ?_
     refine RK.nil ?_
     refine Ab.D.lp ⟨i + 1, (by omega), (by omega), rfl, rfl, rfl, rfl, rfl, (lk_own (by first | (rw [sel_T hd]; simp; done) | rw [sel_F hd])), (lk_arr (by first | (rw [sel_T hd]; simp; done) | rw [sel_F hd])), (lkI (by first | (rw [sum_T hd, hti]; done) | rw [sum_F hd])), rfl, rfl, rfl, rfl, rfl, rfl, trivial⟩
    ·
     have hd : ¬ dueAt l (i : Int) ≤ dueAt l (k : Int) := by omega
     refine OK.skip ?_
     refine Ab.D.blk ?_
     refine Ab.D.code (OK.reg ?_)
     refine RK.c (S.add .none rfl (.tmp rfl rfl) (.cint rfl) (IntWalk.i64_in _ (by omega)) (IntWalk.i64_in _ (by omega))) ?_
     refine RK.c (S.move .none rfl (.tmp rfl rfl)) ?_
     refine RK.nil ?_
     refine Ab.D.lp ⟨i + 1, (by omega), (by omega), rfl, rfl, rfl, rfl, rfl, (lk_own (by first | (rw [sel_T hd]; simp; done) | rw [sel_F hd])), (lk_arr (by first | (rw [sel_T hd]; simp; done) | rw [sel_F hd])), (lkI (by first | (rw [sum_T hd, hti]; done) | rw [sum_F hd])), rfl, rfl, rfl, rfl, rfl, rfl, trivial⟩
   ·
    have hie : i = l.length := by omega
    subst hie
    have hsb := sum_bd hJ (dueAt l (k : Int)) l.length (by omega)
    refine OK.exit rfl ?_
    refine Ab.D.code (OK.seq (OK.reg ?_))
    refine RK.c (S.move .none rfl (.tmp rfl rfl)) ?_
    refine RK.c (S.bfield fi70_3 .none rfl (.tmp rfl rfl)) ?_
    refine RK.c (S.bload1 ti3 .none rfl (.tmp rfl rfl) rfl rfl rfl rfl) ?_
    refine RK.c (S.sub .none rfl (.tmp rfl rfl) (.tmp rfl rfl) (IntWalk.i64_in _ (by omega)) (IntWalk.i64_in _ (by omega))) ?_
    refine RK.c (S.assign .none rfl (.tmp rfl rfl)) ?_
    refine RK.nil (Ab.D.code (OK.seq (OK.reg ?_)))
    refine RK.c (S.move .none rfl (.tmp rfl rfl)) ?_
    refine RK.c (S.move .none rfl (.tmp rfl rfl)) ?_
    refine RK.c (S.gtr .none rfl (.tmp rfl rfl) (.tmp rfl rfl)) ?_
    refine RK.nil (Ab.D.code ?_)
    refine OK.condD rfl rfl (fun c53 => ?_) (fun c53 => ?_)
    ·
     have hbT : (bndTo l k).1 < sumTo l (dueAt l (k : Int)) l.length - dueAt l (k : Int) := by omega
     refine OK.freeze 10 rfl rfl rfl (by simp) ?_
     refine OK.reg ?_
     refine RK.c (S.move .none rfl (.tmp rfl rfl)) ?_
     refine RK.c (S.move .none rfl (.tmp rfl rfl)) ?_
     refine RK.c (S.assign .none rfl (.tmp rfl rfl)) ?_
     refine RK.c (S.assign .none rfl (.tmp rfl rfl)) ?_
     refine RK.nil ?_
     refine Ab.D.blk ?_
     refine Ab.D.code (OK.reg ?_)
     refine RK.c (S.add .none rfl (.tmp rfl rfl) (.cint rfl) (IntWalk.i64_in _ (by omega)) (IntWalk.i64_in _ (by omega))) ?_
     refine RK.c (S.move .none rfl (.tmp rfl rfl)) ?_
     refine RK.nil ?_
     refine Ab.D.lp ⟨k + 1, ⟨by omega, by first | (rw [bnd_T hbT]; simp only; omega) | (rw [bnd_F hbT]; omega), by first | (rw [bnd_T hbT]; simp only; omega) | (rw [bnd_F hbT]; omega)⟩, (by omega), rfl, (lkI (by first | (rw [bnd_T hbT]; simp only; omega) | rw [bnd_F hbT])), (by first | (rw [bnd_T hbT]; rfl) | (rw [bnd_F hbT]; rfl)), rfl, rfl, rfl, trivial⟩
    ·
     have hbT : ¬ (bndTo l k).1 < sumTo l (dueAt l (k : Int)) l.length - dueAt l (k : Int) := by omega
     refine OK.skip ?_
     refine Ab.D.blk ?_
     refine Ab.D.code (OK.reg ?_)
     refine RK.c (S.add .none rfl (.tmp rfl rfl) (.cint rfl) (IntWalk.i64_in _ (by omega)) (IntWalk.i64_in _ (by omega))) ?_
     refine RK.c (S.move .none rfl (.tmp rfl rfl)) ?_
     refine RK.nil ?_
     refine Ab.D.lp ⟨k + 1, ⟨by omega, by first | (rw [bnd_T hbT]; simp only; omega) | (rw [bnd_F hbT]; omega), by first | (rw [bnd_T hbT]; simp only; omega) | (rw [bnd_F hbT]; omega)⟩, (by omega), rfl, (lkI (by first | (rw [bnd_T hbT]; simp only; omega) | rw [bnd_F hbT])), (by first | (rw [bnd_T hbT]; rfl) | (rw [bnd_F hbT]; rfl)), rfl, rfl, rfl, trivial⟩
  ·
   refine OK.exit rfl ?_
   refine Ab.D.code (OK.seq (OK.reg ?_))
   refine RK.c (S.move .none rfl (.tmp rfl rfl)) ?_
   refine RK.c (S.move .none rfl (.tmp rfl rfl)) ?_
   refine RK.c (S.assign .none rfl (.tmp rfl rfl)) ?_
   refine RK.c (S.assign .none rfl (.tmp rfl rfl)) ?_
   refine RK.c (S.assign .none rfl (.cint rfl)) ?_
   refine RK.nil (Ab.D.code ?_)
   refine OK.ret (Ret.r3 (.tmp rfl rfl (.c (.same rfl) rfl) rfl) (.tmp rfl rfl (.c (.same rfl) rfl) rfl) (.tmp rfl rfl (.c (.same rfl) rfl) rfl) ?_)
   rw [show bndR l = bndTo l l.length from if_pos hj0, hj0, show k = l.length by omega]
   all_goals rfl
set_option maxHeartbeats 1000000 in
theorem shp_CheckBound {l : List Job} {s : List Int} (hs : s.length ≤ 100) : Ct Tryz.prog 16 [.sl (l.map Job.cs), .sl (s.map (fun n => [.int .i64 n]))] (pair (cbR l s, setChk l s)) := by
 refine Ct.intro (rs := [.tmp 4, .tmp 5]) Tryz.func16 rfl Tryz.ntmps16 Tryz.results16 rfl rfl rfl fun w h => ?_
 refine OK.seq (OK.reg ?_)
 refine RK.c (S.assign .none rfl (.cint rfl)) ?_
 refine RK.c (S.assign .none rfl (.cint rfl)) ?_
 refine RK.nil (Ab.D.code (OK.seq (OK.seq (OK.reg ?_))))
 refine RK.c (S.move .none rfl (.tmp rfl rfl)) ?_
 refine RK.c (S.call (shp_jobsErr) Tryz.call39 .none rfl (.cons (.tmp rfl rfl) .nil) rfl) ?_
 refine RK.c (S.move .none rfl (.tmp rfl rfl)) ?_
 refine RK.c (S.lenM si26 .none rfl (.tmp rfl rfl)) ?_
 refine RK.c (S.gtr .none rfl (.tmp rfl rfl) (.cint rfl)) ?_
 refine RK.c (S.call (shop_unless) Tryz.call40 .none rfl (.cons (.tmp rfl rfl) (.cons (.cint rfl) .nil)) rfl) ?_
 refine RK.c (S.mkSlice (k := 18) (rows := [[_], [_]]) ai130 .none rfl (.cons (.tmp rfl rfl) (.cons (.tmp rfl rfl) .nil)) rfl rfl rfl rfl rfl rfl rfl) ?_
 refine RK.c (S.callL (shop_first (l := [_, _])) Tryz.call36 .none rfl (.cons (.tmp rfl rfl) .nil) (.cons (.p (.own rfl rfl) rfl) .nil) rfl) ?_
 refine RK.c (S.assign .none rfl (.tmp rfl rfl)) ?_
 refine RK.nil (Ab.D.code (OK.seq (OK.reg ?_)))
 refine RK.c (S.move .none rfl (.tmp rfl rfl)) ?_
 refine RK.c (S.neq .none rfl (.tmp rfl rfl) (.cint rfl)) ?_
 refine RK.nil (Ab.D.code ?_)
 refine OK.condD rfl rfl (fun c21 => ?_) (fun c21 => ?_)
 ·
  have hsc := chk_T (l := l) (s := s) c21
  refine OK.seq (OK.reg ?_)
  refine RK.c (S.move .none rfl (.tmp rfl rfl)) ?_
  refine RK.c (S.assign .none rfl (.cint rfl)) ?_
  refine RK.c (S.assign .none rfl (.tmp rfl rfl)) ?_
  refine RK.nil (Ab.D.code ?_)
  refine OK.ret (Ret.r2 (.tmp rfl rfl (.c (.same rfl) rfl) rfl) (.tmp rfl rfl (.c (.same rfl) rfl) rfl) ?_)
  refine ret_p ?_
  rw [cbR, if_neg (by rw [hsc]; exact c21), hsc]
  rfl
 ·
  obtain ⟨hj0, hs1⟩ := chk_F (l := l) (s := s) (Decidable.not_not.1 c21)
  have hJ := jobs_fine hj0
  have hJl := hJ.len
  refine OK.skip ?_
  refine Ab.D.code (OK.seq (OK.reg ?_))
  refine RK.c (S.assign .none rfl (.cint rfl)) ?_
  refine RK.c (S.assign .none rfl (.cint rfl)) ?_
  refine RK.nil (Ab.D.code (OK.seq (OK.seq (OK.reg ?_))))
  refine RK.c (S.move .none rfl (.tmp rfl rfl)) ?_
  refine RK.c (S.lenM si26 .none rfl (.tmp rfl rfl)) ?_
  refine RK.c (S.move .none rfl (.cint rfl)) ?_
  refine RK.nil (Ab.D.code ?_)
  refine OK.block ?_
  refine OK.loop (G := Nat) [] (fun k => [(0, .sl (l.map Job.cs)), (1, .sl (s.map (fun n => [.int .i64 n]))), (7, .int .i64 (fromTo l (s.take k)).1), (8, .int .i64 (fromTo l (s.take k)).2), (23, .sl (s.map (fun n => [.int .i64 n]))), (24, .int .i64 s.length), (25, .int .i64 k)]) (fun k => k ≤ s.length ∧ eachGo (stE l.length s) 0 s = eachGo (stE l.length s) k (s.drop k) ∧ ((0 ≤ (fromTo l (s.take k)).1 ∧ (fromTo l (s.take k)).1 ≤ 100000 * k) ∧ 0 ≤ (fromTo l (s.take k)).2 ∧ (fromTo l (s.take k)).2 ≤ 100000)) (fun k => s.length - k) 0 ⟨Nat.zero_le _, rfl, ⟨Int.le_refl _, by show (0 : Int) ≤ 100000 * ((0 : Nat) : Int); decide⟩, Int.le_refl _, by show (0 : Int) ≤ 100000; decide⟩ ⟨rfl, rfl, rfl, rfl, rfl, rfl, rfl, trivial⟩ (fun _ => rfl) ?_
  rintro k ⟨hk, hg, hfb⟩
  refine OK.seq (OK.reg ?_)
  refine RK.c (S.lss .none rfl (.tmp rfl rfl) (.tmp rfl rfl)) ?_
  refine RK.nil (Ab.D.code ?_)
  refine OK.seq ?_
  refine OK.condD rfl rfl (fun c26 => ?_) (fun c26 => ?_)
  ·
   have hkl : k < s.length := by omega
   refine OK.skip ?_
   refine Ab.D.code ?_
   refine OK.seq ?_
   refine OK.block ?_
   refine OK.seq (OK.reg ?_)
   refine RK.c (S.move .none rfl (.tmp rfl rfl)) ?_
   refine RK.c (S.indexM (n := k) si26 .none rfl (.tmp rfl rfl) (.tmp rfl rfl) rfl hkl rfl) ?_
   refine RK.c (S.load1 ti3 .none rfl (.tmp rfl rfl) rfl) ?_
   refine RK.c (S.assign .none rfl (.tmp rfl rfl)) ?_
   refine RK.c (S.assign .none rfl (.tmp rfl rfl)) ?_
   refine RK.nil (Ab.D.code (OK.seq (OK.seq (OK.reg ?_))))
   refine RK.c (S.move .none rfl (.tmp rfl rfl)) ?_
   refine RK.c (S.move .none rfl (.tmp rfl rfl)) ?_
   refine RK.c (S.lenM si22 .none rfl (.tmp rfl rfl)) ?_
   refine RK.c (S.sub .none rfl (.tmp rfl rfl) (.cint rfl) (IntWalk.i64_in _ (by omega)) (IntWalk.i64_in _ (by omega))) ?_
   refine RK.c (S.call (shp_within) Tryz.call41 .none rfl (.cons (.tmp rfl rfl) (.cons (.cint rfl) (.cons (.tmp rfl rfl) .nil))) rfl) ?_
   refine RK.c (S.call (shop_unless) Tryz.call40 .none rfl (.cons (.tmp rfl rfl) (.cons (.cint rfl) .nil)) rfl) ?_
   refine RK.c (S.move .none rfl (.tmp rfl rfl)) ?_
   refine RK.c (S.eql .none rfl (.tmp rfl rfl) (.cint rfl)) ?_
   refine RK.c (S.move .none rfl (.tmp rfl rfl)) ?_
   refine RK.splitD (t := 38) rfl (fun g38 => ?_) (fun g38 => ?_)
   ·
    have hst := st_T (n := l.length) (s := s) (x := s[k]) (show k = 0 by omega)
    refine RK.c (S.skip rfl rfl rfl rfl rfl) ?_
    refine RK.c (S.skip rfl rfl rfl rfl rfl) ?_
    refine RK.c (S.skip rfl rfl rfl rfl rfl) ?_
    refine RK.c (S.skip rfl rfl rfl rfl rfl) ?_
    refine RK.c (S.skip rfl rfl rfl rfl rfl) ?_
    refine RK.c (S.skip rfl rfl rfl rfl rfl) ?_
    refine RK.c (S.skip rfl rfl rfl rfl rfl) ?_
    refine RK.c (S.skip rfl rfl rfl rfl rfl) ?_
    refine RK.c (S.pickT .none rfl (.tmp rfl rfl) .cbool rfl) ?_
    refine RK.c (S.call (shop_unless) Tryz.call40 .none rfl (.cons (.tmp rfl rfl) (.cons (.cint rfl) .nil)) rfl) ?_
    refine RK.c (S.mkSlice (k := 49) (rows := [[_], [_]]) ai130 .none rfl (.cons (.tmp rfl rfl) (.cons (.tmp rfl rfl) .nil)) rfl rfl rfl rfl rfl rfl rfl) ?_
    refine RK.c (S.callL (shop_first (l := [_, _])) Tryz.call36 .none rfl (.cons (.tmp rfl rfl) .nil) (.cons (.p (.own rfl rfl) rfl) .nil) rfl) ?_
    refine RK.c (S.assign .none rfl (.tmp rfl rfl)) ?_
    refine RK.nil (Ab.D.code (OK.seq (OK.reg ?_)))
    refine RK.c (S.move .none rfl (.tmp rfl rfl)) ?_
    refine RK.c (S.neq .none rfl (.tmp rfl rfl) (.cint rfl)) ?_
    refine RK.nil (Ab.D.code ?_)
    refine OK.condD rfl rfl (fun c52 => ?_) (fun c52 => ?_)
    ·
     rw [← hst] at c52 ⊢
     have hsc : setChk l s = stE l.length s k s[k] := by rw [chk_on hj0]; exact set_is hs1 (each_at hg hkl rfl c52)
     refine OK.seq (OK.reg ?_)
     refine RK.c (S.move .none rfl (.tmp rfl rfl)) ?_
     refine RK.c (S.assign .none rfl (.cint rfl)) ?_
     refine RK.c (S.assign .none rfl (.tmp rfl rfl)) ?_
     refine RK.nil (Ab.D.code ?_)
     refine OK.ret (Ret.r2 (.tmp rfl rfl (.c (.same rfl) rfl) rfl) (.tmp rfl rfl (.c (.same rfl) rfl) rfl) ?_)
     refine ret_p ?_
     rw [cbR, if_neg (by rw [hsc]; exact c52), hsc]
    ·
     have hs0 : stE l.length s k s[k] = 0 := by rw [hst]; exact Decidable.not_not.1 c52
     obtain ⟨hr1, hr2⟩ := st_ok hs0
     have hat := hJ.at (i := s[k]) (by omega) (by omega)
     have hjd := job_due (l := l) (i := s[k]) (k := s[k].toNat) (by omega) (by omega)
     have hjt := job_tick (l := l) (i := s[k]) (k := s[k].toNat) (by omega) (by omega)
     have hnb : ((0 ≤ (fromTo l (s.take (k + 1))).1 ∧ (fromTo l (s.take (k + 1))).1 ≤ 100000 * ((k + 1 : Nat) : Int)) ∧ 0 ≤ (fromTo l (s.take (k + 1))).2 ∧ (fromTo l (s.take (k + 1))).2 ≤ 100000) := by rw [from_t1 hkl, from_t2 hkl]; split <;> omega
     refine OK.skip ?_
     refine Ab.D.code ?_
     refine OK.regionDraw follows (.c (S.move .none rfl (.tmp rfl rfl))
      (.c (S.move .none rfl (.tmp rfl rfl))
      (.c (S.move .none rfl (.tmp rfl rfl))
      (.c (S.indexM (n := s[k].toNat) si22 .none rfl (.tmp rfl rfl) (.tmp rfl rfl) (by omega) (by omega) rfl)
      (.c (S.field fi70_2 .none rfl (.tmp rfl rfl) rfl)
      (.c (S.load1 ti3 .none rfl (.tmp rfl rfl) rfl)
      (.c (S.add .none rfl (.tmp rfl rfl) (.tmp rfl rfl) (IntWalk.i64_in _ (by omega)) (IntWalk.i64_in _ (by omega)))
      (.c (S.move .none rfl (.tmp rfl rfl))
      (.c (S.move .none rfl (.tmp rfl rfl))
      (.c (S.move .none rfl (.tmp rfl rfl))
      (.c (S.indexM (n := s[k].toNat) si22 .none rfl (.tmp rfl rfl) (.tmp rfl rfl) (by omega) (by omega) rfl)
      (.c (S.field fi70_3 .none rfl (.tmp rfl rfl) rfl)
      (.c (S.load1 ti3 .none rfl (.tmp rfl rfl) rfl)
      (.c (S.max2 .none rfl (.tmp rfl rfl) (.tmp rfl rfl))
      (.c (S.assign .none rfl (.tmp rfl rfl))
      (.c (S.assign .none rfl (.tmp rfl rfl))
      .nil)))))))))))))))) (by kernel_rfl) ?_
     refine Ab.D.blk ?_
     refine Ab.D.code (OK.reg ?_)
     refine RK.c (S.add .none rfl (.tmp rfl rfl) (.cint rfl) (IntWalk.i64_in _ (by omega)) (IntWalk.i64_in _ (by omega))) ?_
     refine RK.c (S.move .none rfl (.tmp rfl rfl)) ?_
     refine RK.nil ?_
     refine Ab.D.lp ⟨k + 1, ⟨by omega, each_on hg hkl hs0, hnb⟩, (by omega), rfl, rfl, (lkI (by rw [from_t1 hkl, hjt])), (lkI (by rw [from_t2 hkl, hjd])), rfl, rfl, rfl, trivial⟩
   ·
    have hk1 : k - 1 < s.length := by omega
    have hst := st_F (n := l.length) (s := s) (x := s[k]) (show ¬ k = 0 by omega) hk1
    refine RK.c (S.move (.yes rfl rfl rfl rfl) rfl (.tmp rfl rfl)) ?_
    refine RK.c (S.move (.yes rfl rfl rfl rfl) rfl (.tmp rfl rfl)) ?_
    refine RK.c (S.move (.yes rfl rfl rfl rfl) rfl (.tmp rfl rfl)) ?_
    refine RK.c (S.sub (.yes rfl rfl rfl rfl) rfl (.tmp rfl rfl) (.cint rfl) (IntWalk.i64_in _ (by omega)) (IntWalk.i64_in _ (by omega))) ?_
    refine RK.c (S.max2 (.yes rfl rfl rfl rfl) rfl (.cint rfl) (.tmp rfl rfl)) ?_
    refine RK.c (S.indexM (n := k - 1) si26 (.yes rfl rfl rfl rfl) rfl (.tmp rfl rfl) (.tmp rfl rfl) (by omega) hk1 rfl) ?_
    refine RK.c (S.load1 ti3 (.yes rfl rfl rfl rfl) rfl (.tmp rfl rfl) rfl) ?_
    refine RK.c (S.gtr (.yes rfl rfl rfl rfl) rfl (.tmp rfl rfl) (.tmp rfl rfl)) ?_
    refine RK.c (S.pickF .none rfl (.tmp rfl rfl) (.tmp rfl rfl) rfl) ?_
    refine RK.c (S.call (shop_unless) Tryz.call40 .none rfl (.cons (.tmp rfl rfl) (.cons (.cint rfl) .nil)) rfl) ?_
    refine RK.c (S.mkSlice (k := 49) (rows := [[_], [_]]) ai130 .none rfl (.cons (.tmp rfl rfl) (.cons (.tmp rfl rfl) .nil)) rfl rfl rfl rfl rfl rfl rfl) ?_
    refine RK.c (S.callL (shop_first (l := [_, _])) Tryz.call36 .none rfl (.cons (.tmp rfl rfl) .nil) (.cons (.p (.own rfl rfl) rfl) .nil) rfl) ?_
    refine RK.c (S.assign .none rfl (.tmp rfl rfl)) ?_
    refine RK.nil (Ab.D.code (OK.seq (OK.reg ?_)))
    refine RK.c (S.move .none rfl (.tmp rfl rfl)) ?_
    refine RK.c (S.neq .none rfl (.tmp rfl rfl) (.cint rfl)) ?_
    refine RK.nil (Ab.D.code ?_)
    refine OK.condD rfl rfl (fun c52 => ?_) (fun c52 => ?_)
    ·
     rw [← hst] at c52 ⊢
     have hsc : setChk l s = stE l.length s k s[k] := by rw [chk_on hj0]; exact set_is hs1 (each_at hg hkl rfl c52)
     refine OK.seq (OK.reg ?_)
     refine RK.c (S.move .none rfl (.tmp rfl rfl)) ?_
     refine RK.c (S.assign .none rfl (.cint rfl)) ?_
     refine RK.c (S.assign .none rfl (.tmp rfl rfl)) ?_
     refine RK.nil (Ab.D.code ?_)
     refine OK.ret (Ret.r2 (.tmp rfl rfl (.c (.same rfl) rfl) rfl) (.tmp rfl rfl (.c (.same rfl) rfl) rfl) ?_)
     refine ret_p ?_
     rw [cbR, if_neg (by rw [hsc]; exact c52), hsc]
    ·
     have hs0 : stE l.length s k s[k] = 0 := by rw [hst]; exact Decidable.not_not.1 c52
     obtain ⟨hr1, hr2⟩ := st_ok hs0
     have hat := hJ.at (i := s[k]) (by omega) (by omega)
     have hjd := job_due (l := l) (i := s[k]) (k := s[k].toNat) (by omega) (by omega)
     have hjt := job_tick (l := l) (i := s[k]) (k := s[k].toNat) (by omega) (by omega)
     have hnb : ((0 ≤ (fromTo l (s.take (k + 1))).1 ∧ (fromTo l (s.take (k + 1))).1 ≤ 100000 * ((k + 1 : Nat) : Int)) ∧ 0 ≤ (fromTo l (s.take (k + 1))).2 ∧ (fromTo l (s.take (k + 1))).2 ≤ 100000) := by rw [from_t1 hkl, from_t2 hkl]; split <;> omega
     refine OK.skip ?_
     refine Ab.D.code ?_
     refine OK.regionDraw follows (.c (S.move .none rfl (.tmp rfl rfl))
      (.c (S.move .none rfl (.tmp rfl rfl))
      (.c (S.move .none rfl (.tmp rfl rfl))
      (.c (S.indexM (n := s[k].toNat) si22 .none rfl (.tmp rfl rfl) (.tmp rfl rfl) (by omega) (by omega) rfl)
      (.c (S.field fi70_2 .none rfl (.tmp rfl rfl) rfl)
      (.c (S.load1 ti3 .none rfl (.tmp rfl rfl) rfl)
      (.c (S.add .none rfl (.tmp rfl rfl) (.tmp rfl rfl) (IntWalk.i64_in _ (by omega)) (IntWalk.i64_in _ (by omega)))
      (.c (S.move .none rfl (.tmp rfl rfl))
      (.c (S.move .none rfl (.tmp rfl rfl))
      (.c (S.move .none rfl (.tmp rfl rfl))
      (.c (S.indexM (n := s[k].toNat) si22 .none rfl (.tmp rfl rfl) (.tmp rfl rfl) (by omega) (by omega) rfl)
      (.c (S.field fi70_3 .none rfl (.tmp rfl rfl) rfl)
      (.c (S.load1 ti3 .none rfl (.tmp rfl rfl) rfl)
      (.c (S.max2 .none rfl (.tmp rfl rfl) (.tmp rfl rfl))
      (.c (S.assign .none rfl (.tmp rfl rfl))
      (.c (S.assign .none rfl (.tmp rfl rfl))
      .nil)))))))))))))))) (by kernel_rfl) ?_
     refine Ab.D.blk ?_
     refine Ab.D.code (OK.reg ?_)
     refine RK.c (S.add .none rfl (.tmp rfl rfl) (.cint rfl) (IntWalk.i64_in _ (by omega)) (IntWalk.i64_in _ (by omega))) ?_
     refine RK.c (S.move .none rfl (.tmp rfl rfl)) ?_
     refine RK.nil ?_
     refine Ab.D.lp ⟨k + 1, ⟨by omega, each_on hg hkl hs0, hnb⟩, (by omega), rfl, rfl, (lkI (by rw [from_t1 hkl, hjt])), (lkI (by rw [from_t2 hkl, hjd])), rfl, rfl, rfl, trivial⟩
  ·
   have hst : s.take k = s := List.take_of_length_le (by omega)
   rw [hst] at hfb ⊢
   have hsc : setChk l s = 0 := by rw [chk_on hj0]; exact set_end hs1 (each_end hg (by omega))
   refine OK.exit rfl ?_
   refine Ab.D.code (OK.seq (OK.reg ?_))
   refine RK.c (S.move .none rfl (.tmp rfl rfl)) ?_
   refine RK.c (S.move .none rfl (.tmp rfl rfl)) ?_
   refine RK.c (S.sub .none rfl (.tmp rfl rfl) (.tmp rfl rfl) (IntWalk.i64_in _ (by omega)) (IntWalk.i64_in _ (by omega))) ?_
   refine RK.c (S.assign .none rfl (.tmp rfl rfl)) ?_
   refine RK.c (S.assign .none rfl (.cint rfl)) ?_
   refine RK.nil (Ab.D.code ?_)
   refine OK.ret (Ret.r2 (.tmp rfl rfl (.c (.same rfl) rfl) rfl) (.tmp rfl rfl (.c (.same rfl) rfl) rfl) ?_)
   refine ret_p ?_
   rw [cbR, if_pos hsc, hsc]
   rfl
end Go.Proofs.YtbnimikgjjjcaaaGreatDoor
