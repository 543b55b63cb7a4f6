import Derived.Test.YtpfepjgnojfppaaGreatDoorGh
import Derived.Test.YtpfepjgnojfppaaGreatDoorKq
import Derived.Test.YtpfepjgnojfppaaGreatDoorTy
namespace Go.Proofs.YtpfepjgnojfppaaGreatDoor
open Go.Ab
def tickAt (l : List Job) (i : Int) : Int := (jobAt l i).ticks
def selTo (l : List Job) (d : Int) : Nat → List Int
  | 0 => []
  | k + 1 => if dueAt l k ≤ d then selTo l d k ++ [(k : Int)] else selTo l d k
def sumTo (l : List Job) (d : Int) : Nat → Int
  | 0 => 0
  | k + 1 => if dueAt l k ≤ d then sumTo l d k + tickAt l k else sumTo l d k
def bndTo (l : List Job) : Nat → Int × List Int
  | 0 => (-200000, [])
  | k + 1 => if (bndTo l k).1 < sumTo l (dueAt l k) l.length - dueAt l k then (sumTo l (dueAt l k) l.length - dueAt l k, selTo l (dueAt l k) l.length) else bndTo l k
def fromStep (l : List Job) (p : Int × Int) (i : Int) : Int × Int := (p.1 + tickAt l i, maxI p.2 (dueAt l i))
def fromTo (l : List Job) (s : List Int) : Int × Int := s.foldl (fromStep l) (0, 0)
def boundFrom (l : List Job) (s : List Int) : Int := (fromTo l s).1 - (fromTo l s).2
def bitsTo (b : Nat) : Nat → List Int
  | 0 => []
  | k + 1 => if b / 2 ^ k % 2 = 1 then bitsTo b k ++ [(k : Int)] else bitsTo b k
def bndB (l : List Job) : Nat → Int
  | 0 => boundFrom l [0]
  | b + 1 => maxI (bndB l b) (boundFrom l (bitsTo (b + 1) l.length))
structure JobsOk (l : List Job) : Prop where
  len : 1 ≤ l.length ∧ l.length ≤ 7
  job : ∀ j ∈ l, (1 ≤ j.ticks ∧ j.ticks ≤ 100000) ∧ (0 ≤ j.due ∧ j.due ≤ 100000)
theorem JobsOk.at {l : List Job} (h : JobsOk l) {i : Int} (h0 : 0 ≤ i) (h1 : i < (l.length : Int)) : (1 ≤ tickAt l i ∧ tickAt l i ≤ 100000) ∧ (0 ≤ dueAt l i ∧ dueAt l i ≤ 100000) := by
  unfold tickAt dueAt jobAt
  rw [getD_at (by omega)]
  exact h.job _ (List.getElem_mem (by omega))
theorem from_snoc (l : List Job) (s : List Int) (x : Int) : fromTo l (s ++ [x]) = ((fromTo l s).1 + tickAt l x, maxI (fromTo l s).2 (dueAt l x)) := by
  unfold fromTo
  rw [List.foldl_append]
  rfl
theorem maxI_l (a b : Int) : a ≤ maxI a b := by unfold maxI; split <;> omega
theorem maxI_r (a b : Int) : b ≤ maxI a b := by unfold maxI; split <;> omega
theorem maxI_le {a b c : Int} (h1 : a ≤ c) (h2 : b ≤ c) : maxI a b ≤ c := by unfold maxI; split <;> omega
def sumS (l : List Job) : List Int → Int
  | [] => 0
  | x :: s => tickAt l x + sumS l s
theorem from_fold (l : List Job) : ∀ (s : List Int) (p : Int × Int), (s.foldl (fromStep l) p).1 = p.1 + sumS l s ∧ p.2 ≤ (s.foldl (fromStep l) p).2 ∧ (∀ x ∈ s, dueAt l x ≤ (s.foldl (fromStep l) p).2) ∧ ((s.foldl (fromStep l) p).2 = p.2 ∨ ∃ x ∈ s, (s.foldl (fromStep l) p).2 = dueAt l x)
  | [], p => by
    refine ⟨?_, Int.le_refl _, ?_, .inl rfl⟩
    · simp [sumS]
    · intro x hx; cases hx
  | y :: s, p => by
    obtain ⟨h1, h2, h3, h4⟩ := from_fold l s (fromStep l p y)
    have h5 : p.2 ≤ (fromStep l p y).2 := maxI_l _ _
    have h6 : dueAt l y ≤ (fromStep l p y).2 := maxI_r _ _
    rw [List.foldl_cons]
    refine ⟨?_, Int.le_trans h5 h2, fun x hx => ?_, ?_⟩
    · rw [h1]; show p.1 + tickAt l y + sumS l s = p.1 + (tickAt l y + sumS l s); omega
    · rcases List.mem_cons.1 hx with rfl | hx
      · exact Int.le_trans h6 h2
      · exact h3 x hx
    · rcases h4 with h4 | ⟨x, hx, h4⟩
      · rw [h4]
        show maxI p.2 (dueAt l y) = p.2 ∨ ∃ x ∈ y :: s, maxI p.2 (dueAt l y) = dueAt l x
        unfold maxI
        split
        · exact .inr ⟨y, List.mem_cons_self, rfl⟩
        · exact .inl rfl
      · exact .inr ⟨x, List.mem_cons_of_mem _ hx, h4⟩
theorem sumS_erase (l : List Job) : ∀ (s : List Int) (x : Int), x ∈ s → sumS l s = tickAt l x + sumS l (s.erase x)
  | y :: s, x, h => by
    rw [List.erase_cons]
    by_cases e : y = x
    · subst e
      simp [sumS]
    · have hm : x ∈ s := by
        rcases List.mem_cons.1 h with h | h
        · exact absurd h.symm e
        · exact h
      have : (y == x) = false := by simpa using e
      rw [this]
      have h2 := sumS_erase l s x hm
      show tickAt l y + sumS l s = tickAt l x + (tickAt l y + sumS l (s.erase x))
      omega
theorem sum_le {l : List Job} {d : Int} : ∀ (n : Nat), (∀ i : Nat, i < n → 0 ≤ tickAt l i) → ∀ (s : List Int), s.Nodup → (∀ x ∈ s, 0 ≤ x ∧ x < (n : Int) ∧ dueAt l x ≤ d) → sumS l s ≤ sumTo l d n
  | 0, _, s, _, h => by
    cases s with
    | nil => exact Int.le_refl _
    | cons x s => have := h x List.mem_cons_self; omega
  | n + 1, ht, s, hn, h => by
    have htn := ht n (by omega)
    by_cases hm : (n : Int) ∈ s
    · have h1 := sum_le n (fun i hi => ht i (by omega)) (s.erase (n : Int)) (hn.erase _) fun x hx => by
        have h2 := (hn.mem_erase_iff).1 hx
        have h3 := h x h2.2
        have h4 := h2.1
        exact ⟨h3.1, by omega, h3.2.2⟩
      rw [sumS_erase l s _ hm]
      unfold sumTo
      rw [if_pos (h _ hm).2.2]
      omega
    · have h1 := sum_le n (fun i hi => ht i (by omega)) s hn fun x hx => by
        have h3 := h x hx
        have h4 : x ≠ (n : Int) := fun e => hm (e ▸ hx)
        exact ⟨h3.1, by omega, h3.2.2⟩
      unfold sumTo
      split <;> omega
theorem bnd_ge (l : List Job) : ∀ (k j : Nat), j < k → sumTo l (dueAt l j) l.length - dueAt l j ≤ (bndTo l k).1
  | 0, j, h => by omega
  | k + 1, j, h => by
    unfold bndTo
    by_cases e : j = k
    · subst e
      split
      · exact Int.le_refl _
      · omega
    · have := bnd_ge l k j (by omega)
      split
      · show _ ≤ sumTo l (dueAt l k) l.length - dueAt l k
        omega
      · exact this
theorem pre_nodup {n : Nat} {o : List Int} (ho : PreOk n o) : o.Nodup := by
  unfold List.Nodup
  rw [List.pairwise_iff_getElem]
  intro i j hi hj hij
  exact ho.dis i j hi hj hij
theorem bound_le {l : List Job} (hJ : JobsOk l) {s : List Int} (hs : PreOk l.length s) (h0 : s ≠ []) : boundFrom l s ≤ (bndTo l l.length).1 := by
  obtain ⟨h1, h2, h3, h4⟩ := from_fold l s (0, 0)
  have hx : ∃ x ∈ s, (fromTo l s).2 = dueAt l x := by
    rcases h4 with h4 | h4
    · obtain ⟨x, hx⟩ := List.exists_mem_of_ne_nil s h0
      refine ⟨x, hx, ?_⟩
      have h5 := h3 x hx
      have hr := hs.rng x hx
      have h6 := (hJ.at hr.1 hr.2).2.1
      unfold fromTo
      omega
    · exact h4
  obtain ⟨x, hx, hd⟩ := hx
  have hr := hs.rng x hx
  have h5 := sum_le (l := l) (d := dueAt l x) l.length (fun i hi => by have := (hJ.at (i := (i : Int)) (by omega) (by omega)).1.1; omega) s (pre_nodup hs) fun y hy => by
    have hq := hs.rng y hy
    have := h3 y hy
    unfold fromTo at hd
    exact ⟨hq.1, hq.2, by omega⟩
  have h6 := bnd_ge l l.length x.toNat (by omega)
  rw [show ((x.toNat : Nat) : Int) = x by omega] at h6
  have h7 : boundFrom l s = sumS l s - dueAt l x := by
    unfold boundFrom
    rw [hd]
    unfold fromTo
    rw [h1]
    simp
  omega
theorem sel_mem {l : List Job} {d : Int} : ∀ (k : Nat) (x : Int), x ∈ selTo l d k ↔ (0 ≤ x ∧ x < (k : Int) ∧ dueAt l x ≤ d)
  | 0, x => by
    constructor
    · intro h; cases h
    · intro h; omega
  | k + 1, x => by
    unfold selTo
    have ih := sel_mem (l := l) (d := d) k x
    split
    · rename_i hd
      rw [List.mem_append, ih, List.mem_singleton]
      constructor
      · rintro (h | rfl)
        · exact ⟨h.1, by omega, h.2.2⟩
        · exact ⟨by omega, by omega, hd⟩
      · intro h
        by_cases e : x = (k : Int)
        · exact .inr e
        · exact .inl ⟨h.1, by omega, h.2.2⟩
    · rename_i hd
      rw [ih]
      constructor
      · intro h; exact ⟨h.1, by omega, h.2.2⟩
      · intro h
        have : x ≠ (k : Int) := fun e => hd (e ▸ h.2.2)
        exact ⟨h.1, by omega, h.2.2⟩
theorem sel_up {l : List Job} {d : Int} : ∀ (k : Nat), (selTo l d k).Pairwise (· < ·)
  | 0 => List.Pairwise.nil
  | k + 1 => by
    unfold selTo
    split
    · rw [List.pairwise_append]
      refine ⟨sel_up k, List.pairwise_singleton _ _, fun x hx y hy => ?_⟩
      rw [List.mem_singleton] at hy
      subst hy
      exact ((sel_mem k x).1 hx).2.1
    · exact sel_up k
theorem sel_from {l : List Job} {d : Int} : ∀ (k : Nat), (fromTo l (selTo l d k)).1 = sumTo l d k
  | 0 => rfl
  | k + 1 => by
    unfold selTo sumTo
    split
    · rw [from_snoc, sel_from k]
    · exact sel_from k
theorem sel_bound {l : List Job} (hJ : JobsOk l) {j : Nat} (hj : j < l.length) : boundFrom l (selTo l (dueAt l j) l.length) = sumTo l (dueAt l j) l.length - dueAt l j := by
  obtain ⟨h1, h2, h3, h4⟩ := from_fold l (selTo l (dueAt l j) l.length) (0, 0)
  have hm : (j : Int) ∈ selTo l (dueAt l j) l.length := (sel_mem _ _).2 ⟨by omega, by omega, Int.le_refl _⟩
  have h5 := h3 _ hm
  have h6 : (fromTo l (selTo l (dueAt l j) l.length)).2 = dueAt l j := by
    unfold fromTo
    rcases h4 with h4 | ⟨x, hx, h4⟩
    · have := (hJ.at (i := (j : Int)) (by omega) (by omega)).2.1
      omega
    · have := ((sel_mem _ _).1 hx).2.2
      omega
  unfold boundFrom
  rw [sel_from, h6]
theorem sum_nn {l : List Job} {d : Int} : ∀ (n : Nat), (∀ i : Nat, i < n → 0 ≤ tickAt l i) → 0 ≤ sumTo l d n
  | 0, _ => Int.le_refl _
  | n + 1, h => by
    have := sum_nn (l := l) (d := d) n fun i hi => h i (by omega)
    have := h n (by omega)
    unfold sumTo
    split <;> omega
theorem bnd_is {l : List Job} (hJ : JobsOk l) : ∀ (k : Nat), 0 < k → k ≤ l.length → ∃ j, j < k ∧ bndTo l k = (sumTo l (dueAt l j) l.length - dueAt l j, selTo l (dueAt l j) l.length)
  | 0, h, _ => by omega
  | k + 1, _, h => by
    unfold bndTo
    split
    · exact ⟨k, by omega, rfl⟩
    · rename_i hn
      by_cases h0 : k = 0
      · subst h0
        exfalso
        have h1 := sum_nn (l := l) (d := dueAt l 0) l.length fun i hi => by have := (hJ.at (i := (i : Int)) (by omega) (by omega)).1.1; omega
        have h2 := (hJ.at (i := (0 : Nat)) (by omega) (by omega)).2
        unfold bndTo at hn
        simp only [Int.cast_ofNat_Int] at hn h1 h2
        omega
      · obtain ⟨j, hj, e⟩ := bnd_is hJ k (by omega) (by omega)
        exact ⟨j, by omega, e⟩
def encTo (l : List Job) (d : Int) : Nat → Nat
  | 0 => 0
  | k + 1 => if dueAt l k ≤ d then encTo l d k + 2 ^ k else encTo l d k
theorem enc_lt {l : List Job} {d : Int} : ∀ k, encTo l d k < 2 ^ k
  | 0 => by show (0 : Nat) < 2 ^ 0; decide
  | k + 1 => by
    have := enc_lt (l := l) (d := d) k
    unfold encTo
    have h2 : 2 ^ (k + 1) = 2 ^ k + 2 ^ k := by rw [Nat.pow_succ]; omega
    split <;> omega
theorem enc_bit {l : List Job} {d : Int} : ∀ (k i : Nat), i < k → encTo l d k / 2 ^ i % 2 = if dueAt l i ≤ d then 1 else 0
  | 0, i, h => by omega
  | k + 1, i, h => by
    have hp : 0 < 2 ^ i := Nat.pow_pos (by decide)
    by_cases e : i = k
    · subst e
      have hl := enc_lt (l := l) (d := d) i
      unfold encTo
      split
      · rw [Nat.add_div_right _ hp, Nat.div_eq_of_lt hl]
      · rw [Nat.div_eq_of_lt hl]
    · have ih := enc_bit (l := l) (d := d) k i (by omega)
      unfold encTo
      split
      · have h2 : 2 ^ k = 2 ^ i * (2 * 2 ^ (k - i - 1)) := by
          rw [← Nat.pow_succ', ← Nat.pow_add]
          congr 1
          omega
        rw [h2, Nat.add_mul_div_left _ _ hp, Nat.add_mul_mod_self_left]
        exact ih
      · exact ih
theorem bits_enc {l : List Job} {d : Int} (n : Nat) : ∀ k, k ≤ n → bitsTo (encTo l d n) k = selTo l d k
  | 0, _ => rfl
  | k + 1, h => by
    unfold bitsTo selTo
    rw [enc_bit n k (by omega), bits_enc n k (by omega)]
    by_cases e : dueAt l k ≤ d
    · rw [if_pos e, if_pos rfl, if_pos e]
    · rw [if_neg e, if_neg (by decide), if_neg e]
theorem bits_mem {b : Nat} : ∀ (k : Nat) (x : Int), x ∈ bitsTo b k → 0 ≤ x ∧ x < (k : Int)
  | 0, x, h => by cases h
  | k + 1, x, h => by
    unfold bitsTo at h
    split at h
    · rcases List.mem_append.1 h with h | h
      · have := bits_mem k x h; omega
      · rw [List.mem_singleton] at h; omega
    · have := bits_mem k x h; omega
theorem bits_up {b : Nat} : ∀ (k : Nat), (bitsTo b k).Pairwise (· < ·)
  | 0 => List.Pairwise.nil
  | k + 1 => by
    unfold bitsTo
    split
    · rw [List.pairwise_append]
      refine ⟨bits_up k, List.pairwise_singleton _ _, fun x hx y hy => ?_⟩
      rw [List.mem_singleton] at hy
      subst hy
      exact (bits_mem k x hx).2
    · exact bits_up k
theorem bits_nil {b : Nat} : ∀ (k : Nat), bitsTo b k = [] → b % 2 ^ k = 0
  | 0, _ => Nat.mod_one b
  | k + 1, h => by
    unfold bitsTo at h
    split at h
    · simp at h
    · rename_i h1
      have ih := bits_nil k h
      have h2 : b / 2 ^ k % 2 = 0 := by omega
      rw [Nat.pow_succ, Nat.mod_mul, ih, h2]
      rfl
theorem up_pre {n : Nat} {s : List Int} (h : ∀ x ∈ s, 0 ≤ x ∧ x < (n : Int)) (hu : s.Pairwise (· < ·)) : PreOk n s :=
  ⟨h, fun i j hi hj hij => by have := (List.pairwise_iff_getElem.1 hu) i j hi hj hij; omega⟩
theorem bndB_le {l : List Job} (hJ : JobsOk l) : ∀ b, b < 2 ^ l.length → bndB l b ≤ (bndTo l l.length).1
  | 0, _ => bound_le hJ (up_pre (fun x hx => by rw [List.mem_singleton] at hx; have := hJ.len; omega) (List.pairwise_singleton _ _)) (by simp)
  | b + 1, h => by
    unfold bndB
    refine maxI_le (bndB_le hJ b (by omega)) (bound_le hJ (up_pre (fun x hx => bits_mem _ x hx) (bits_up _)) fun e => ?_)
    have := bits_nil _ e
    rw [Nat.mod_eq_of_lt h] at this
    omega
theorem bndB_ge (l : List Job) : ∀ (b k : Nat), 1 ≤ k → k ≤ b → boundFrom l (bitsTo k l.length) ≤ bndB l b
  | 0, k, h1, h => by omega
  | b + 1, k, h1, h => by
    unfold bndB
    by_cases e : k = b + 1
    · subst e; exact maxI_r _ _
    · exact Int.le_trans (bndB_ge l b k h1 (by omega)) (maxI_l _ _)
theorem bound_eq {l : List Job} (hJ : JobsOk l) : bndB l (2 ^ l.length - 1) = (bndTo l l.length).1 := by
  have hp : 0 < 2 ^ l.length := Nat.pow_pos (by decide)
  refine Int.le_antisymm (bndB_le hJ _ (by omega)) ?_
  obtain ⟨j, hj, e⟩ := bnd_is hJ l.length (by have := hJ.len; omega) (Nat.le_refl _)
  have h1 := bits_enc (l := l) (d := dueAt l j) l.length l.length (Nat.le_refl _)
  have h2 := bndB_ge l (2 ^ l.length - 1) (encTo l (dueAt l j) l.length) (by
    have h3 := enc_bit (l := l) (d := dueAt l j) l.length j hj
    rw [if_pos (Int.le_refl _)] at h3
    refine Nat.pos_of_ne_zero fun h4 => ?_
    rw [h4, Nat.zero_div] at h3
    cases h3) (by have := enc_lt (l := l) (d := dueAt l j) l.length; omega)
  rw [h1, sel_bound hJ hj] at h2
  rw [e]
  exact h2
theorem bnd_set {l : List Job} (hJ : JobsOk l) : (bndTo l l.length).2 ≠ [] ∧ (∀ x ∈ (bndTo l l.length).2, 0 ≤ x ∧ x < (l.length : Int)) ∧ (bndTo l l.length).2.Pairwise (· < ·) ∧ boundFrom l (bndTo l l.length).2 = (bndTo l l.length).1 := by
  obtain ⟨j, hj, e⟩ := bnd_is hJ l.length (by have := hJ.len; omega) (Nat.le_refl _)
  rw [e]
  refine ⟨fun h0 => ?_, fun x hx => ?_, sel_up _, sel_bound hJ hj⟩
  · have : (j : Int) ∈ selTo l (dueAt l j) l.length := (sel_mem _ _).2 ⟨by omega, by omega, Int.le_refl _⟩
    simp only at h0
    rw [h0] at this
    cases this
  · have := (sel_mem _ _).1 hx
    exact ⟨this.1, this.2.1⟩
def stE (n : Nat) (s : List Int) (k : Nat) (x : Int) : Int := firstE [unlessE (decide (0 ≤ x ∧ x ≤ (n : Int) - 1)) 6, unlessE (decide (k = 0) || decide (x > s.getD (k - 1) 0)) 9]
def setE (l : List Job) (s : List Int) : Int := if s.length = 0 then 10 else (eachGo (stE l.length s) 0 s).2
def setChk (l : List Job) (s : List Int) : Int := if (jobsChk l).2 ≠ 0 then (jobsChk l).2 else setE l s
theorem st_6 {n k : Nat} {s : List Int} {x : Int} (h : ¬ (0 ≤ x ∧ x ≤ (n : Int) - 1)) : stE n s k x = 6 := by rw [stE, firstE2, decide_eq_false h]; rfl
theorem st_9 {n k : Nat} {s : List Int} {x : Int} (h : 0 ≤ x ∧ x ≤ (n : Int) - 1) (hk : k ≠ 0) (h2 : ¬ x > s.getD (k - 1) 0) : stE n s k x = 9 := by rw [stE, firstE2, decide_eq_true h, decide_eq_false hk, decide_eq_false h2]; rfl
theorem st_0 {n k : Nat} {s : List Int} {x : Int} (h : 0 ≤ x ∧ x ≤ (n : Int) - 1) (h2 : k = 0 ∨ x > s.getD (k - 1) 0) : stE n s k x = 0 := by
  rw [stE, firstE2, decide_eq_true h]
  rcases h2 with h2 | h2
  · rw [decide_eq_true h2]; rfl
  · rw [decide_eq_true h2, Bool.or_true]; rfl
theorem st_ok {n k : Nat} {s : List Int} {x : Int} (h : stE n s k x = 0) : (0 ≤ x ∧ x ≤ (n : Int) - 1) ∧ (k = 0 ∨ x > s.getD (k - 1) 0) := by
  unfold stE at h
  obtain ⟨h1, h2⟩ := first2_0 h
  refine ⟨of_decide_eq_true (un_0 (by decide) h1), ?_⟩
  have := un_0 (by decide) h2
  simpa using this
theorem set_is {l : List Job} {s : List Int} {k : Nat} {e : Int} (h : s.length ≠ 0) (hg : eachGo (stE l.length s) 0 s = ((k : Int), e)) : setE l s = e := by unfold setE; rw [if_neg h, hg]
theorem set_end {l : List Job} {s : List Int} (h : s.length ≠ 0) (hg : eachGo (stE l.length s) 0 s = (0, 0)) : setE l s = 0 := by unfold setE; rw [if_neg h, hg]
theorem set_up {s : List Int} (h : ∀ (k : Nat) (hk : k < s.length), k = 0 ∨ s[k] > s.getD (k - 1) 0) : s.Pairwise (· < ·) := by
  rw [List.pairwise_iff_getElem]
  intro i j hi hj hij
  induction j with
  | zero => omega
  | succ j ih =>
    have h1 := (h (j + 1) hj).resolve_left (by omega)
    rw [show j + 1 - 1 = j by omega, getD_at (show j < s.length by omega)] at h1
    by_cases e : i = j
    · subst e; omega
    · have := ih (by omega) (by omega)
      omega
theorem set_ok {l : List Job} {s : List Int} (h : setE l s = 0) : s ≠ [] ∧ (∀ x ∈ s, 0 ≤ x ∧ x < (l.length : Int)) ∧ s.Pairwise (· < ·) := by
  unfold setE at h
  split at h
  · cases h
  · rename_i h0
    have hz := each_zero _ s 0 h
    refine ⟨fun e => h0 (by rw [e]; rfl), fun x hx => ?_, set_up fun k hk => ?_⟩
    · obtain ⟨i, hi, rfl⟩ := List.getElem_of_mem hx
      have := (st_ok (hz i hi)).1
      omega
    · have := (st_ok (hz k hk)).2
      rwa [Nat.zero_add] at this
theorem each_0n {α : Type} {g : Nat → α → Int} : ∀ {l : List α} {k : Nat}, (∀ (i : Nat) (h : i < l.length), g (k + i) l[i] = 0) → eachGo g k l = (0, 0)
  | [], _, _ => rfl
  | x :: l, k, h => by
    have h0 := h 0 (by simp)
    simp only [Nat.add_zero, List.getElem_cons_zero] at h0
    rw [eachGo, if_neg (by rw [h0]; decide)]
    exact each_0n fun i hi => by
      have := h (i + 1) (by simpa using hi)
      rw [show k + (i + 1) = k + 1 + i by omega] at this
      simpa using this
theorem set_0 {l : List Job} {s : List Int} (h0 : s ≠ []) (h1 : ∀ x ∈ s, 0 ≤ x ∧ x < (l.length : Int)) (h2 : s.Pairwise (· < ·)) : setE l s = 0 := by
  refine set_end (fun e => h0 (List.length_eq_zero_iff.1 e)) (each_0n fun i hi => ?_)
  rw [Nat.zero_add]
  have := h1 _ (List.getElem_mem hi)
  refine st_0 (by omega) ?_
  by_cases e : i = 0
  · exact .inl e
  · refine .inr ?_
    rw [getD_at (show i - 1 < s.length by omega)]
    exact List.pairwise_iff_getElem.1 h2 (i - 1) i (by omega) hi (by omega)
theorem jobs_fine {l : List Job} (h : (jobsChk l).2 = 0) : JobsOk l := by
  unfold jobsChk at h
  split at h
  · cases h
  · split at h
    · cases h
    · refine ⟨by omega, fun j hj => ?_⟩
      obtain ⟨i, hi, rfl⟩ := List.getElem_of_mem hj
      have h3 := un_0 (by decide) (first3_0 (each_zero _ l 0 h i hi)).2.2
      unfold rightJ at h3
      simp only [Bool.and_eq_true, decide_eq_true_eq] at h3
      omega
theorem from_take {l : List Job} {s : List Int} {k : Nat} (h : k < s.length) : fromTo l (s.take (k + 1)) = ((fromTo l (s.take k)).1 + tickAt l s[k], maxI (fromTo l (s.take k)).2 (dueAt l s[k])) := by
  rw [List.take_succ_eq_append_getElem h, from_snoc]
theorem job_due {l : List Job} {i : Int} {k : Nat} (h : k < l.length) (e : i = (k : Int)) : dueAt l i = l[k].due := by subst e; unfold dueAt jobAt; rw [Int.toNat_natCast, getD_at h]
theorem job_tick {l : List Job} {i : Int} {k : Nat} (h : k < l.length) (e : i = (k : Int)) : tickAt l i = l[k].ticks := by subst e; unfold tickAt jobAt; rw [Int.toNat_natCast, getD_at h]
theorem sel_len (l : List Job) (d : Int) : ∀ k, (selTo l d k).length ≤ k
  | 0 => Nat.le_refl _
  | k + 1 => by
    have := sel_len l d k
    unfold selTo
    split
    · rw [List.length_append, List.length_singleton]; omega
    · omega
theorem sum_bd {l : List Job} (hJ : JobsOk l) (d : Int) : ∀ k, k ≤ l.length → 0 ≤ sumTo l d k ∧ sumTo l d k ≤ 100000 * k
  | 0, _ => by show (0 : Int) ≤ 0 ∧ (0 : Int) ≤ _; omega
  | k + 1, h => by
    have := sum_bd hJ d k (by omega)
    have h2 := (hJ.at (i := (k : Int)) (by omega) (by omega)).1
    unfold sumTo
    split <;> omega
theorem bits_len (b : Nat) : ∀ k, (bitsTo b k).length ≤ k
  | 0 => Nat.le_refl _
  | k + 1 => by
    have := bits_len b k
    unfold bitsTo
    split
    · rw [List.length_append, List.length_singleton]; omega
    · omega
theorem from_bd {l : List Job} (hJ : JobsOk l) : ∀ {s : List Int}, (∀ x ∈ s, 0 ≤ x ∧ x < (l.length : Int)) → ∀ k, k ≤ s.length → (0 ≤ (fromTo l (s.take k)).1 ∧ (fromTo l (s.take k)).1 ≤ 100000 * k) ∧ 0 ≤ (fromTo l (s.take k)).2 ∧ (fromTo l (s.take k)).2 ≤ 100000
  | s, _, 0, _ => by
    rw [List.take_zero]
    show (((0 : Int) ≤ 0) ∧ (0 : Int) ≤ _) ∧ (0 : Int) ≤ 0 ∧ (0 : Int) ≤ 100000
    omega
  | s, hs, k + 1, h => by
    have h1 := from_bd hJ hs k (by omega)
    have hr := hs _ (List.getElem_mem (show k < s.length by omega))
    have h2 := hJ.at hr.1 hr.2
    rw [from_take (by omega)]
    unfold maxI
    simp only
    split <;> omega
theorem sel_T {l : List Job} {d : Int} {k : Nat} (h : dueAt l k ≤ d) : selTo l d (k + 1) = selTo l d k ++ [(k : Int)] := if_pos h
theorem sel_F {l : List Job} {d : Int} {k : Nat} (h : ¬ dueAt l k ≤ d) : selTo l d (k + 1) = selTo l d k := if_neg h
theorem sum_T {l : List Job} {d : Int} {k : Nat} (h : dueAt l k ≤ d) : sumTo l d (k + 1) = sumTo l d k + tickAt l k := if_pos h
theorem sum_F {l : List Job} {d : Int} {k : Nat} (h : ¬ dueAt l k ≤ d) : sumTo l d (k + 1) = sumTo l d k := if_neg h
theorem bnd_T {l : List Job} {k : Nat} (h : (bndTo l k).1 < sumTo l (dueAt l k) l.length - dueAt l k) : bndTo l (k + 1) = (sumTo l (dueAt l k) l.length - dueAt l k, selTo l (dueAt l k) l.length) := if_pos h
theorem bnd_F {l : List Job} {k : Nat} (h : ¬ (bndTo l k).1 < sumTo l (dueAt l k) l.length - dueAt l k) : bndTo l (k + 1) = bndTo l k := if_neg h
def pw (l : List Job) : Nat := 2 ^ l.length
def bitAt (a i : Nat) : Nat := a / 2 ^ i
theorem bit_le (a i : Nat) : bitAt a i ≤ a := Nat.div_le_self _ _
theorem pw_bd {l : List Job} (h : l.length ≤ 7) : 1 ≤ pw l ∧ pw l ≤ 128 := ⟨Nat.pow_pos (by decide), Nat.pow_le_pow_right (by decide) h⟩
theorem shl_q {l : List Job} (h : l.length ≤ 7) : IntKind.i64.wrap (1 * 2 ^ ((l.length : Nat) : Int).toNat) = ((pw l : Nat) : Int) := by
  have hb := pw_bd h
  have e : (1 * 2 ^ ((l.length : Nat) : Int).toNat : Int) = ((pw l : Nat) : Int) := by
    unfold pw
    rw [Int.toNat_natCast, Int.one_mul, Int.natCast_pow]
    rfl
  rw [e]
  exact IntWalk.i64_in _ (by omega)
theorem shr_q (a i : Nat) : (a : Int) / 2 ^ ((i : Nat) : Int).toNat = ((bitAt a i : Nat) : Int) := by
  unfold bitAt
  rw [Int.toNat_natCast, Int.natCast_ediv, Int.natCast_pow]
  rfl
theorem bits_T {b k : Nat} (h : bitAt b k % 2 = 1) : bitsTo b (k + 1) = bitsTo b k ++ [(k : Int)] := if_pos h
theorem bits_F {b k : Nat} (h : ¬ bitAt b k % 2 = 1) : bitsTo b (k + 1) = bitsTo b k := if_neg h
theorem from_t1 {l : List Job} {s : List Int} {k : Nat} (h : k < s.length) : (fromTo l (s.take (k + 1))).1 = (fromTo l (s.take k)).1 + tickAt l s[k] := by rw [from_take h]
theorem from_t2 {l : List Job} {s : List Int} {k : Nat} (h : k < s.length) : (fromTo l (s.take (k + 1))).2 = if (fromTo l (s.take k)).2 < dueAt l s[k] then dueAt l s[k] else (fromTo l (s.take k)).2 := by rw [from_take h]; rfl
def chk2 (l : List Job) (s : List Int) : Int := firstE [(jobsChk l).2, unlessE (decide ((s.length : Int) > 0)) 10]
theorem chk_T {l : List Job} {s : List Int} (h : chk2 l s ≠ 0) : setChk l s = chk2 l s := by
  unfold chk2 at h ⊢
  rw [firstE2] at h ⊢
  unfold setChk
  by_cases h1 : (jobsChk l).2 ≠ 0
  · rw [if_pos h1, if_pos h1]
  · rw [if_neg h1] at h ⊢
    rw [if_neg h1]
    unfold setE
    by_cases h2 : s.length = 0
    · rw [if_pos h2, decide_eq_false (by omega)]; rfl
    · rw [decide_eq_true (by omega)] at h; exact absurd rfl h
theorem chk_F {l : List Job} {s : List Int} (h : chk2 l s = 0) : (jobsChk l).2 = 0 ∧ s.length ≠ 0 := by
  unfold chk2 at h
  obtain ⟨h1, h2⟩ := first2_0 h
  have := of_decide_eq_true (un_0 (by decide) h2)
  exact ⟨h1, by omega⟩
theorem chk_on {l : List Job} {s : List Int} (h : (jobsChk l).2 = 0) : setChk l s = setE l s := by unfold setChk; rw [if_neg (by rw [h]; decide)]
def cbR (l : List Job) (s : List Int) : Int := if setChk l s = 0 then boundFrom l s else 0
def bndR (l : List Job) : Int × List Int := if (jobsChk l).2 = 0 then bndTo l l.length else (0, [])
theorem st_T {n k : Nat} {s : List Int} {x : Int} (hk : k = 0) : stE n s k x = firstE [unlessE (decide (0 ≤ x ∧ x ≤ (n : Int) - 1)) 6, unlessE true 9] := by unfold stE; rw [decide_eq_true hk, Bool.true_or]
theorem st_F {n k : Nat} {s : List Int} {x : Int} (hk : ¬ k = 0) (h : k - 1 < s.length) : stE n s k x = firstE [unlessE (decide (0 ≤ x ∧ x ≤ (n : Int) - 1)) 6, unlessE (decide (x > s[k - 1])) 9] := by unfold stE; rw [decide_eq_false hk, Bool.false_or, getD_at h]
set_option maxHeartbeats 1000000 in
theorem ref9_BoundFrom {l : List Job} {s : List Int} (hJ : JobsOk l) (hs : ∀ x ∈ s, 0 ≤ x ∧ x < (l.length : Int)) (hn : s.length ≤ 100) : Ct Tryz.prog 28 [.sl (l.map Job.cs), .sl (s.map (fun n => [.int .i64 n]))] (.int .i64 (boundFrom l s)) := by
  refine Ct.intro (rs := [.tmp 4]) Tryz.func28 rfl Tryz.ntmps28 Tryz.results28 rfl rfl rfl fun w h => ?_
  have hJl := hJ.len
  refine OK.seq ?_
  refine OK.reg ?_
  refine RK.c (S.assign .none rfl (.cint rfl)) ?_
  refine RK.nil ?_
  refine Ab.D.code ?_
  refine OK.seq ?_
  refine OK.reg ?_
  refine RK.c (S.assign .none rfl (.cint rfl)) ?_
  refine RK.c (S.assign .none rfl (.cint rfl)) ?_
  refine RK.nil ?_
  refine Ab.D.code ?_
  refine OK.seq ?_
  refine OK.seq ?_
  refine OK.reg ?_
  refine RK.c (S.assign .none rfl (.cint rfl)) ?_
  refine RK.nil ?_
  refine Ab.D.code ?_
  refine OK.block ?_
  refine OK.loop (G := Nat) [] (fun k => [(0, .sl (l.map Job.cs)), (1, .sl (s.map (fun n => [.int .i64 n]))), (5, .int .i64 (fromTo l (s.take k)).1), (6, .int .i64 (fromTo l (s.take k)).2), (7, .int .i64 k)]) (fun k => k ≤ s.length) (fun k => s.length - k) 0 (Nat.zero_le _) ⟨rfl, rfl, rfl, rfl, rfl, trivial⟩ (fun _ => rfl) ?_
  rintro k hk
  refine OK.seq ?_
  refine OK.seq ?_
  refine OK.reg ?_
  refine RK.c (S.move .none rfl (.tmp rfl rfl)) ?_
  refine RK.c (S.move .none rfl (.tmp rfl rfl)) ?_
  refine RK.c (S.lenM si30 .none rfl (.tmp rfl rfl)) ?_
  refine RK.c (S.lss .none rfl (.tmp rfl rfl) (.tmp rfl rfl)) ?_
  refine RK.nil ?_
  refine Ab.D.code ?_
  refine OK.condD rfl rfl (fun c11 => ?_) (fun c11 => ?_)
  ·
    have hkl : k < s.length := by omega
    have hsr := hs _ (List.getElem_mem hkl)
    have hat := hJ.at hsr.1 hsr.2
    have hfb := from_bd hJ hs k (by omega)
    have hjd := job_due (l := l) (i := s[k]) (k := s[k].toNat) (by omega) (by omega)
    have hjt := job_tick (l := l) (i := s[k]) (k := s[k].toNat) (by omega) (by omega)
    refine OK.skip ?_
    refine Ab.D.code ?_
    refine OK.seq ?_
    refine OK.block ?_
    refine OK.regionDraw follows (.c (S.move .none rfl (.tmp rfl rfl))
      (.c (S.move .none rfl (.tmp rfl rfl))
      (.c (S.move .none rfl (.tmp rfl rfl))
      (.c (S.move .none rfl (.tmp rfl rfl))
      (.c (S.indexM (n := k) si30 .none rfl (.tmp rfl rfl) (.tmp rfl rfl) rfl hkl rfl)
      (.c (S.load1 ti3 .none rfl (.tmp rfl rfl) rfl)
      (.c (S.indexM (n := s[k].toNat) si22 .none rfl (.tmp rfl rfl) (.tmp rfl rfl) (by omega) (by omega) rfl)
      (.c (S.field fi114_2 .none rfl (.tmp rfl rfl) rfl)
      (.c (S.load1 ti3 .none rfl (.tmp rfl rfl) rfl)
      (.c (S.add .none rfl (.tmp rfl rfl) (.tmp rfl rfl) (IntWalk.i64_in _ (by omega)) (IntWalk.i64_in _ (by omega)))
      (.c (S.move .none rfl (.tmp rfl rfl))
      (.c (S.move .none rfl (.tmp rfl rfl))
      (.c (S.move .none rfl (.tmp rfl rfl))
      (.c (S.move .none rfl (.tmp rfl rfl))
      (.c (S.indexM (n := k) si30 .none rfl (.tmp rfl rfl) (.tmp rfl rfl) rfl hkl rfl)
      (.c (S.load1 ti3 .none rfl (.tmp rfl rfl) rfl)
      (.c (S.indexM (n := s[k].toNat) si22 .none rfl (.tmp rfl rfl) (.tmp rfl rfl) (by omega) (by omega) rfl)
      (.c (S.field fi114_3 .none rfl (.tmp rfl rfl) rfl)
      (.c (S.load1 ti3 .none rfl (.tmp rfl rfl) rfl)
      (.c (S.max2 .none rfl (.tmp rfl rfl) (.tmp rfl rfl))
      (.c (S.assign .none rfl (.tmp rfl rfl))
      (.c (S.assign .none rfl (.tmp rfl rfl))
      .nil)))))))))))))))))))))) (by kernel_rfl) ?_
    refine Ab.D.blk ?_
    refine Ab.D.code ?_
    refine OK.reg ?_
    refine RK.c (S.move .none rfl (.tmp rfl rfl)) ?_
    refine RK.c (S.add .none rfl (.tmp rfl rfl) (.cint rfl) (IntWalk.i64_in _ (by omega)) (IntWalk.i64_in _ (by omega))) ?_
    refine RK.c (S.assign .none rfl (.tmp rfl rfl)) ?_
    refine RK.nil ?_
    refine Ab.D.lp ⟨k + 1, (by omega), (by omega), rfl, rfl, (lkI (by rw [from_t1 hkl, hjt])), (lkI (by rw [from_t2 hkl, hjd])), rfl, trivial⟩
  ·
    have hfb := from_bd hJ hs k (by omega)
    have hst : s.take k = s := List.take_of_length_le (by omega)
    rw [hst] at hfb ⊢
    refine OK.exit rfl ?_
    refine Ab.D.code ?_
    refine OK.seq ?_
    refine OK.reg ?_
    refine RK.c (S.move .none rfl (.tmp rfl rfl)) ?_
    refine RK.c (S.move .none rfl (.tmp rfl rfl)) ?_
    refine RK.c (S.sub .none rfl (.tmp rfl rfl) (.tmp rfl rfl) (IntWalk.i64_in _ (by omega)) (IntWalk.i64_in _ (by omega))) ?_
    refine RK.c (S.assign .none rfl (.tmp rfl rfl)) ?_
    refine RK.nil ?_
    refine Ab.D.code ?_
    refine OK.ret (Ret.r1 (.tmp rfl rfl (.c (.same rfl) rfl) rfl) ?_)
    rfl
set_option maxHeartbeats 1000000 in
theorem ref9_Bound {l : List Job} (hJ : JobsOk l) : Ct Tryz.prog 26 [.sl (l.map Job.cs)] (.int .i64 (bndB l (pw l - 1))) := by
  refine Ct.intro (rs := [.tmp 2]) Tryz.func26 rfl Tryz.ntmps26 Tryz.results26 rfl rfl rfl fun w h => ?_
  have hJl := hJ.len
  have hpw := pw_bd (l := l) (by omega)
  refine OK.seq ?_
  refine OK.reg ?_
  refine RK.c (S.assign .none rfl (.cint rfl)) ?_
  refine RK.nil ?_
  refine Ab.D.code ?_
  refine OK.seq ?_
  refine OK.reg ?_
  refine RK.c (S.move .none rfl (.tmp rfl rfl)) ?_
  refine RK.c (S.mkData (rows := [[_]]) ai30 .none rfl (.cons (.cint rfl) .nil) rfl rfl rfl rfl rfl rfl rfl) ?_
  refine RK.c (S.call (ref9_BoundFrom (s := [0]) hJ (by intro x hx; rw [List.mem_singleton] at hx; omega) (by simp)) Tryz.call28 .none rfl (.cons (.tmp rfl rfl) (.cons (.tmp rfl rfl) .nil)) rfl) ?_
  refine RK.c (S.assign .none rfl (.tmp rfl rfl)) ?_
  refine RK.nil ?_
  refine Ab.D.code ?_
  refine OK.seq ?_
  refine OK.seq ?_
  refine OK.reg ?_
  refine RK.c (S.assign .none rfl (.cint rfl)) ?_
  refine RK.nil ?_
  refine Ab.D.code ?_
  refine OK.block ?_
  refine OK.loop (G := Nat) [] (fun b => [(0, .sl (l.map Job.cs)), (3, .int .i64 (bndB l b)), (4, .int .i64 ((b + 1 : Nat) : Int))]) (fun b => b + 1 ≤ pw l) (fun b => pw l - b) 0 (by omega) ⟨rfl, rfl, rfl, trivial⟩ (fun _ => rfl) ?_
  rintro b hb
  refine OK.seq ?_
  refine OK.seq ?_
  refine OK.reg ?_
  refine RK.c (S.move .none rfl (.tmp rfl rfl)) ?_
  refine RK.c (S.move .none rfl (.tmp rfl rfl)) ?_
  refine RK.c (S.lenM si22 .none rfl (.tmp rfl rfl)) ?_
  refine RK.c (S.shl (q := ((pw l : Nat) : Int)) .none rfl (.cint rfl) (.tmp rfl rfl) (by simp only [IntKind.bits]; omega) (shl_q (by omega)) (IntWalk.i64_in _ (by omega))) ?_
  refine RK.c (S.lss .none rfl (.tmp rfl rfl) (.tmp rfl rfl)) ?_
  refine RK.nil ?_
  refine Ab.D.code ?_
  refine OK.condD rfl rfl (fun c14 => ?_) (fun c14 => ?_)
  ·
    refine OK.skip ?_
    refine Ab.D.code ?_
    refine OK.seq ?_
    refine OK.block ?_
    refine OK.seq ?_
    refine OK.reg ?_
    refine RK.c (S.nilOwn (k := 5) (sz := 1) .none rfl) ?_
    refine RK.nil ?_
    refine Ab.D.code ?_
    refine OK.seq ?_
    refine OK.seq ?_
    refine OK.reg ?_
    refine RK.c (S.assign .none rfl (.cint rfl)) ?_
    refine RK.nil ?_
    refine Ab.D.code ?_
    refine OK.block ?_
    refine OK.loop (G := Nat) [5] (fun i => [(0, .sl (l.map Job.cs)), (3, .int .i64 (bndB l b)), (4, .int .i64 ((b + 1 : Nat) : Int)), (5, .own 5 (bitsTo (b + 1) i).length), (2005, .arr 1 ((bitsTo (b + 1) i).map (fun n => [.int .i64 n]))), (6, .int .i64 i)]) (fun i => i ≤ l.length) (fun i => l.length - i) 0 (Nat.zero_le _) ⟨rfl, rfl, rfl, (lk_own (by first | rfl | (simp; done) | (simp; omega))), (lk_arr (by first | rfl | (simp; done) | (simp; omega))), rfl, trivial⟩ (fun _ => rfl) ?_
    rintro i hi
    refine OK.seq ?_
    refine OK.seq ?_
    refine OK.reg ?_
    refine RK.c (S.move .none rfl (.tmp rfl rfl)) ?_
    refine RK.c (S.move .none rfl (.tmp rfl rfl)) ?_
    refine RK.c (S.lenM si22 .none rfl (.tmp rfl rfl)) ?_
    refine RK.c (S.lss .none rfl (.tmp rfl rfl) (.tmp rfl rfl)) ?_
    refine RK.nil ?_
    refine Ab.D.code ?_
    refine OK.condD rfl rfl (fun c20 => ?_) (fun c20 => ?_)
    ·
      have hbl := bit_le (b + 1) i
      have hln := bits_len (b + 1) i
      refine OK.skip ?_
      refine Ab.D.code ?_
      refine OK.seq ?_
      refine OK.block ?_
      refine OK.seq ?_
      refine OK.reg ?_
      refine RK.c (S.move .none rfl (.tmp rfl rfl)) ?_
      refine RK.c (S.move .none rfl (.tmp rfl rfl)) ?_
      refine RK.c (S.shr (q := ((bitAt (b + 1) i : Nat) : Int)) .none rfl (.tmp rfl rfl) (.tmp rfl rfl) (by simp only [IntKind.bits]; omega) (shr_q _ _) (IntWalk.i64_in _ (by omega))) ?_
      refine RK.c (S.and1 (q := ((bitAt (b + 1) i % 2 : Nat) : Int)) .none rfl (.tmp rfl rfl) (.cint rfl) (by omega) (by omega)) ?_
      refine RK.c (S.eql .none rfl (.tmp rfl rfl) (.cint rfl)) ?_
      refine RK.nil ?_
      refine Ab.D.code ?_
      refine OK.condD rfl rfl (fun c27 => ?_) (fun c27 => ?_)
      ·
        have hbt : bitAt (b + 1) i % 2 = 1 := by omega
        refine OK.reg ?_
        refine RK.c (S.move .none rfl (.tmp rfl rfl)) ?_
        refine RK.c (S.move .none rfl (.tmp rfl rfl)) ?_
        refine RK.c (S.mkSlice (k := 30) (rows := [[_]]) ai30 .none rfl (.cons (.tmp rfl rfl) .nil) rfl rfl rfl rfl rfl rfl rfl) ?_
        refine RK.c (S.append ai30 .none rfl (.tmp rfl rfl) rfl (by simp) (.tmp rfl rfl) rfl (by first | rfl | (simp; done) | (simp; omega)) (by omega) (by simp only [maxLen]; omega)) ?_
        refine RK.c (S.assign .none rfl (.tmp rfl rfl)) ?_
        refine RK.nil ?_
        refine Ab.D.blk ?_
        refine Ab.D.code ?_
        refine OK.reg ?_
        refine RK.c (S.move .none rfl (.tmp rfl rfl)) ?_
        refine RK.c (S.add .none rfl (.tmp rfl rfl) (.cint rfl) (IntWalk.i64_in _ (by omega)) (IntWalk.i64_in _ (by omega))) ?_
        refine RK.c (S.assign .none rfl (.tmp rfl rfl)) ?_
        refine RK.nil ?_
        refine Ab.D.lp ⟨i + 1, (by omega), (by omega), rfl, rfl, rfl, (lk_own (by first | (rw [bits_T hbt]; simp; done) | rw [bits_F hbt])), (lk_arr (by first | (rw [bits_T hbt]; simp; done) | rw [bits_F hbt])), rfl, trivial⟩
      ·
        have hbt : ¬ bitAt (b + 1) i % 2 = 1 := by omega
        refine OK.skip ?_
        refine Ab.D.blk ?_
        refine Ab.D.code ?_
        refine OK.reg ?_
        refine RK.c (S.move .none rfl (.tmp rfl rfl)) ?_
        refine RK.c (S.add .none rfl (.tmp rfl rfl) (.cint rfl) (IntWalk.i64_in _ (by omega)) (IntWalk.i64_in _ (by omega))) ?_
        refine RK.c (S.assign .none rfl (.tmp rfl rfl)) ?_
        refine RK.nil ?_
        refine Ab.D.lp ⟨i + 1, (by omega), (by omega), rfl, rfl, rfl, (lk_own (by first | (rw [bits_T hbt]; simp; done) | rw [bits_F hbt])), (lk_arr (by first | (rw [bits_T hbt]; simp; done) | rw [bits_F hbt])), rfl, trivial⟩
    ·
      have hln := bits_len (b + 1) i
      refine OK.exit rfl ?_
      refine Ab.D.code ?_
      refine OK.reg ?_
      refine RK.c (S.move .none rfl (.tmp rfl rfl)) ?_
      refine RK.c (S.move .none rfl (.tmp rfl rfl)) ?_
      refine RK.c (S.move .none rfl (.tmp rfl rfl)) ?_
      refine RK.c (S.callL (ref9_BoundFrom (s := bitsTo (b + 1) i) hJ (fun x hx => by have := bits_mem _ x hx; omega) (by omega)) Tryz.call28 .none rfl (.cons (.tmp rfl rfl) (.cons (.tmp rfl rfl) .nil)) (.cons (.same rfl) (.cons (.p (.own rfl (by simp)) rfl) .nil)) rfl) ?_
      refine RK.c (S.max2 .none rfl (.tmp rfl rfl) (.tmp rfl rfl)) ?_
      refine RK.c (S.assign .none rfl (.tmp rfl rfl)) ?_
      refine RK.nil ?_
      refine Ab.D.blk ?_
      refine Ab.D.code ?_
      refine OK.reg ?_
      refine RK.c (S.move .none rfl (.tmp rfl rfl)) ?_
      refine RK.c (S.add .none rfl (.tmp rfl rfl) (.cint rfl) (IntWalk.i64_in _ (by omega)) (IntWalk.i64_in _ (by omega))) ?_
      refine RK.c (S.assign .none rfl (.tmp rfl rfl)) ?_
      refine RK.nil ?_
      refine Ab.D.lp ⟨b + 1, (by omega), (by omega), rfl, (lkI (by rw [show i = l.length by omega]; rfl)), (lkI (by omega)), trivial⟩
  ·
    refine OK.exit rfl ?_
    refine Ab.D.code ?_
    refine OK.seq ?_
    refine OK.reg ?_
    refine RK.c (S.move .none rfl (.tmp rfl rfl)) ?_
    refine RK.c (S.assign .none rfl (.tmp rfl rfl)) ?_
    refine RK.nil ?_
    refine Ab.D.code ?_
    refine OK.ret (Ret.r1 (.tmp rfl rfl (.c (.same rfl) rfl) rfl) ?_)
    refine ret_i ?_
    rw [show b = pw l - 1 by omega]
set_option maxHeartbeats 1000000 in
theorem ref9_SetErr {l : List Job} {s : List Int} : Ct Tryz.prog 27 [.sl (l.map Job.cs), .sl (s.map (fun n => [.int .i64 n]))] (.int .i64 (setE l s)) := by
  refine Ct.intro (rs := [.tmp 4]) Tryz.func27 rfl Tryz.ntmps27 Tryz.results27 rfl rfl rfl fun w h => ?_
  refine OK.slLen (rows := l.map Job.cs) (t := 0) rfl rfl fun hlen => ?_
  rw [List.length_map] at hlen
  unfold maxLen at hlen
  refine OK.slLen (rows := s.map (fun n => [.int .i64 n])) (t := 1) rfl rfl fun hlen2 => ?_
  rw [List.length_map] at hlen2
  unfold maxLen at hlen2
  refine OK.seq ?_
  refine OK.reg ?_
  refine RK.c (S.assign .none rfl (.cint rfl)) ?_
  refine RK.nil ?_
  refine Ab.D.code ?_
  refine OK.seq ?_
  refine OK.seq ?_
  refine OK.reg ?_
  refine RK.c (S.move .none rfl (.tmp rfl rfl)) ?_
  refine RK.c (S.lenM si30 .none rfl (.tmp rfl rfl)) ?_
  refine RK.c (S.eql .none rfl (.tmp rfl rfl) (.cint rfl)) ?_
  refine RK.nil ?_
  refine Ab.D.code ?_
  refine OK.condD rfl rfl (fun c8 => ?_) (fun c8 => ?_)
  ·
    refine OK.seq ?_
    refine OK.reg ?_
    refine RK.c (S.assign .none rfl (.cint rfl)) ?_
    refine RK.nil ?_
    refine Ab.D.code ?_
    refine OK.ret (Ret.r1 (.tmp rfl rfl (.c (.same rfl) rfl) rfl) ?_)
    refine ret_i ?_
    rw [setE, if_pos (by omega)]
  ·
    refine OK.skip ?_
    refine Ab.D.code ?_
    refine OK.seq ?_
    refine OK.seq ?_
    refine OK.reg ?_
    refine RK.c (S.assign .none rfl (.cint rfl)) ?_
    refine RK.nil ?_
    refine Ab.D.code ?_
    refine OK.block ?_
    refine OK.loop (G := Nat) [] (fun k => [(0, .sl (l.map Job.cs)), (1, .sl (s.map (fun n => [.int .i64 n]))), (5, .int .i64 k)]) (fun k => k ≤ s.length ∧ eachGo (stE l.length s) 0 s = eachGo (stE l.length s) k (s.drop k)) (fun k => s.length - k) 0 ⟨Nat.zero_le _, rfl⟩ ⟨rfl, rfl, rfl, trivial⟩ (fun _ => rfl) ?_
    rintro k ⟨hk, hg⟩
    refine OK.seq ?_
    refine OK.seq ?_
    refine OK.reg ?_
    refine RK.c (S.move .none rfl (.tmp rfl rfl)) ?_
    refine RK.c (S.move .none rfl (.tmp rfl rfl)) ?_
    refine RK.c (S.lenM si30 .none rfl (.tmp rfl rfl)) ?_
    refine RK.c (S.lss .none rfl (.tmp rfl rfl) (.tmp rfl rfl)) ?_
    refine RK.nil ?_
    refine Ab.D.code ?_
    refine OK.condD rfl rfl (fun c12 => ?_) (fun c12 => ?_)
    ·
      have hkl : k < s.length := by omega
      refine OK.skip ?_
      refine Ab.D.code ?_
      refine OK.seq ?_
      refine OK.block ?_
      refine OK.seq ?_
      refine OK.seq ?_
      refine OK.reg ?_
      refine RK.c (S.move .none rfl (.tmp rfl rfl)) ?_
      refine RK.c (S.move .none rfl (.tmp rfl rfl)) ?_
      refine RK.c (S.indexM (n := k) si30 .none rfl (.tmp rfl rfl) (.tmp rfl rfl) rfl hkl rfl) ?_
      refine RK.c (S.load1 ti3 .none rfl (.tmp rfl rfl) rfl) ?_
      refine RK.c (S.move .none rfl (.tmp rfl rfl)) ?_
      refine RK.c (S.lenM si22 .none rfl (.tmp rfl rfl)) ?_
      refine RK.c (S.sub .none rfl (.tmp rfl rfl) (.cint rfl) (IntWalk.i64_in _ (by omega)) (IntWalk.i64_in _ (by omega))) ?_
      refine RK.c (S.call (base_Within) Tryz.call43 .none rfl (.cons (.tmp rfl rfl) (.cons (.cint rfl) (.cons (.tmp rfl rfl) .nil))) rfl) ?_
      refine RK.c (S.notD .none rfl (.tmp rfl rfl)) ?_
      refine RK.nil ?_
      refine Ab.D.code ?_
      refine OK.condD rfl rfl (fun c23 => ?_) (fun c23 => ?_)
      ·
        have hin : ¬ (0 ≤ s[k] ∧ s[k] ≤ (l.length : Int) - 1) := by first | omega | simpa using c23
        refine OK.seq ?_
        refine OK.reg ?_
        refine RK.c (S.assign .none rfl (.cint rfl)) ?_
        refine RK.nil ?_
        refine Ab.D.code ?_
        refine OK.ret (Ret.r1 (.tmp rfl rfl (.c (.same rfl) rfl) rfl) ?_)
        refine ret_i ?_
        rw [set_is (by omega) (each_at hg hkl (st_6 hin) (by decide))]
      ·
        have hin : 0 ≤ s[k] ∧ s[k] ≤ (l.length : Int) - 1 := by first | omega | simpa using c23
        refine OK.skip ?_
        refine Ab.D.code ?_
        refine OK.seq ?_
        by_cases g26 : (k : Int) > 0
        ·
          have hk1 : k - 1 < s.length := by omega
          refine OK.regionDraw follows (.c (S.move .none rfl (.tmp rfl rfl))
            (.c (S.gtr .none rfl (.tmp rfl rfl) (.cint rfl))
            (.c (S.move .none rfl (.tmp rfl rfl))
            (.c (S.move (.yes rfl rfl rfl (by first | rfl | exact decide_eq_true g26 | exact decide_eq_false g26 | (rw [decide_eq_true g26]; rfl) | (rw [decide_eq_false g26]; rfl) | simp [*])) rfl (.tmp rfl rfl))
            (.c (S.move (.yes rfl rfl rfl (by first | rfl | exact decide_eq_true g26 | exact decide_eq_false g26 | (rw [decide_eq_true g26]; rfl) | (rw [decide_eq_false g26]; rfl) | simp [*])) rfl (.tmp rfl rfl))
            (.c (S.indexM (n := k) si30 (.yes rfl rfl rfl (by first | rfl | exact decide_eq_true g26 | exact decide_eq_false g26 | (rw [decide_eq_true g26]; rfl) | (rw [decide_eq_false g26]; rfl) | simp [*])) rfl (.tmp rfl rfl) (.tmp rfl rfl) rfl hkl rfl)
            (.c (S.load1 ti3 (.yes rfl rfl rfl (by first | rfl | exact decide_eq_true g26 | exact decide_eq_false g26 | (rw [decide_eq_true g26]; rfl) | (rw [decide_eq_false g26]; rfl) | simp [*])) rfl (.tmp rfl rfl) rfl)
            (.c (S.move (.yes rfl rfl rfl (by first | rfl | exact decide_eq_true g26 | exact decide_eq_false g26 | (rw [decide_eq_true g26]; rfl) | (rw [decide_eq_false g26]; rfl) | simp [*])) rfl (.tmp rfl rfl))
            (.c (S.move (.yes rfl rfl rfl (by first | rfl | exact decide_eq_true g26 | exact decide_eq_false g26 | (rw [decide_eq_true g26]; rfl) | (rw [decide_eq_false g26]; rfl) | simp [*])) rfl (.tmp rfl rfl))
            (.c (S.sub (.yes rfl rfl rfl (by first | rfl | exact decide_eq_true g26 | exact decide_eq_false g26 | (rw [decide_eq_true g26]; rfl) | (rw [decide_eq_false g26]; rfl) | simp [*])) rfl (.tmp rfl rfl) (.cint rfl) (IntWalk.i64_in _ (by omega)) (IntWalk.i64_in _ (by omega)))
            (.c (S.indexM (n := k - 1) si30 (.yes rfl rfl rfl (by first | rfl | exact decide_eq_true g26 | exact decide_eq_false g26 | (rw [decide_eq_true g26]; rfl) | (rw [decide_eq_false g26]; rfl) | simp [*])) rfl (.tmp rfl rfl) (.tmp rfl rfl) (by omega) hk1 rfl)
            (.c (S.load1 ti3 (.yes rfl rfl rfl (by first | rfl | exact decide_eq_true g26 | exact decide_eq_false g26 | (rw [decide_eq_true g26]; rfl) | (rw [decide_eq_false g26]; rfl) | simp [*])) rfl (.tmp rfl rfl) rfl)
            (.c (S.leq (.yes rfl rfl rfl (by first | rfl | exact decide_eq_true g26 | exact decide_eq_false g26 | (rw [decide_eq_true g26]; rfl) | (rw [decide_eq_false g26]; rfl) | simp [*])) rfl (.tmp rfl rfl) (.tmp rfl rfl))
            (.c (S.pickT .none rfl (.tmp rfl rfl) (.tmp rfl rfl) (by first | rfl | exact decide_eq_true g26 | exact decide_eq_false g26 | (rw [decide_eq_true g26]; rfl) | (rw [decide_eq_false g26]; rfl) | simp [*]))
            .nil)))))))))))))) (by kernel_rfl) ?_
          refine Ab.D.code ?_
          refine OK.condD rfl rfl (fun c37 => ?_) (fun c37 => ?_)
          ·
            refine OK.seq ?_
            refine OK.reg ?_
            refine RK.c (S.assign .none rfl (.cint rfl)) ?_
            refine RK.nil ?_
            refine Ab.D.code ?_
            refine OK.ret (Ret.r1 (.tmp rfl rfl (.c (.same rfl) rfl) rfl) ?_)
            refine ret_i ?_
            rw [set_is (by omega) (each_at hg hkl (st_9 hin (by omega) (by rw [getD_at hk1]; omega)) (by decide))]
          ·
            have hs0 : stE l.length s k s[k] = 0 := st_0 hin (by first | exact .inl (by omega) | (refine .inr ?_; rw [getD_at hk1]; omega))
            refine OK.skip ?_
            refine Ab.D.blk ?_
            refine Ab.D.code ?_
            refine OK.reg ?_
            refine RK.c (S.move .none rfl (.tmp rfl rfl)) ?_
            refine RK.c (S.add .none rfl (.tmp rfl rfl) (.cint rfl) (IntWalk.i64_in _ (by omega)) (IntWalk.i64_in _ (by omega))) ?_
            refine RK.c (S.assign .none rfl (.tmp rfl rfl)) ?_
            refine RK.nil ?_
            refine Ab.D.lp ⟨k + 1, ⟨by omega, each_on hg (by omega) hs0⟩, (by omega), rfl, rfl, rfl, trivial⟩
        ·
          have hs0 : stE l.length s k s[k] = 0 := st_0 hin (.inl (by omega))
          refine OK.regionDraw follows (.c (S.move .none rfl (.tmp rfl rfl))
            (.c (S.gtr .none rfl (.tmp rfl rfl) (.cint rfl))
            (.c (S.move .none rfl (.tmp rfl rfl))
            (.c (S.skip rfl rfl rfl (by first | rfl | exact decide_eq_true g26 | exact decide_eq_false g26 | (rw [decide_eq_true g26]; rfl) | (rw [decide_eq_false g26]; rfl) | simp [*]) rfl)
            (.c (S.skip rfl rfl rfl (by first | rfl | exact decide_eq_true g26 | exact decide_eq_false g26 | (rw [decide_eq_true g26]; rfl) | (rw [decide_eq_false g26]; rfl) | simp [*]) rfl)
            (.c (S.skip rfl rfl rfl (by first | rfl | exact decide_eq_true g26 | exact decide_eq_false g26 | (rw [decide_eq_true g26]; rfl) | (rw [decide_eq_false g26]; rfl) | simp [*]) rfl)
            (.c (S.skip rfl rfl rfl (by first | rfl | exact decide_eq_true g26 | exact decide_eq_false g26 | (rw [decide_eq_true g26]; rfl) | (rw [decide_eq_false g26]; rfl) | simp [*]) rfl)
            (.c (S.skip rfl rfl rfl (by first | rfl | exact decide_eq_true g26 | exact decide_eq_false g26 | (rw [decide_eq_true g26]; rfl) | (rw [decide_eq_false g26]; rfl) | simp [*]) rfl)
            (.c (S.skip rfl rfl rfl (by first | rfl | exact decide_eq_true g26 | exact decide_eq_false g26 | (rw [decide_eq_true g26]; rfl) | (rw [decide_eq_false g26]; rfl) | simp [*]) rfl)
            (.c (S.skip rfl rfl rfl (by first | rfl | exact decide_eq_true g26 | exact decide_eq_false g26 | (rw [decide_eq_true g26]; rfl) | (rw [decide_eq_false g26]; rfl) | simp [*]) rfl)
            (.c (S.skip rfl rfl rfl (by first | rfl | exact decide_eq_true g26 | exact decide_eq_false g26 | (rw [decide_eq_true g26]; rfl) | (rw [decide_eq_false g26]; rfl) | simp [*]) rfl)
            (.c (S.skip rfl rfl rfl (by first | rfl | exact decide_eq_true g26 | exact decide_eq_false g26 | (rw [decide_eq_true g26]; rfl) | (rw [decide_eq_false g26]; rfl) | simp [*]) rfl)
            (.c (S.skip rfl rfl rfl (by first | rfl | exact decide_eq_true g26 | exact decide_eq_false g26 | (rw [decide_eq_true g26]; rfl) | (rw [decide_eq_false g26]; rfl) | simp [*]) rfl)
            (.c (S.pickF .none rfl (.tmp rfl rfl) .cbool (by first | rfl | exact decide_eq_true g26 | exact decide_eq_false g26 | (rw [decide_eq_true g26]; rfl) | (rw [decide_eq_false g26]; rfl) | simp [*]))
            .nil)))))))))))))) (by kernel_rfl) ?_
          refine Ab.D.code ?_
          refine OK.condF rfl rfl rfl ?_
          refine OK.skip ?_
          refine Ab.D.blk ?_
          refine Ab.D.code ?_
          refine OK.reg ?_
          refine RK.c (S.move .none rfl (.tmp rfl rfl)) ?_
          refine RK.c (S.add .none rfl (.tmp rfl rfl) (.cint rfl) (IntWalk.i64_in _ (by omega)) (IntWalk.i64_in _ (by omega))) ?_
          refine RK.c (S.assign .none rfl (.tmp rfl rfl)) ?_
          refine RK.nil ?_
          refine Ab.D.lp ⟨k + 1, ⟨by omega, each_on hg (by omega) hs0⟩, (by omega), rfl, rfl, rfl, trivial⟩
    ·
      refine OK.exit rfl ?_
      refine Ab.D.code ?_
      refine OK.seq ?_
      refine OK.reg ?_
      refine RK.c (S.assign .none rfl (.cint rfl)) ?_
      refine RK.nil ?_
      refine Ab.D.code ?_
      refine OK.ret (Ret.r1 (.tmp rfl rfl (.c (.same rfl) rfl) rfl) ?_)
      refine ret_i ?_
      rw [set_end (by omega) (each_end hg (by omega))]
set_option maxHeartbeats 1000000 in
theorem shp_BoundOf {l : List Job} : Ct Tryz.prog 22 [.sl (l.map Job.cs)] (.tup [.int .i64 (bndR l).1, ints (bndR l).2, .int .i64 (jobsChk l).2]) := by
  refine Ct.intro (rs := [.tmp 2, .tmp 3, .tmp 4]) Tryz.func22 rfl Tryz.ntmps22 Tryz.results22 rfl rfl rfl fun w h => ?_
  refine OK.seq ?_
  refine OK.reg ?_
  refine RK.c (S.assign .none rfl (.cint rfl)) ?_
  refine RK.c (S.assign .none rfl .cnil) ?_
  refine RK.c (S.assign .none rfl (.cint rfl)) ?_
  refine RK.nil ?_
  refine Ab.D.code ?_
  refine OK.seq ?_
  refine OK.seq ?_
  refine OK.reg ?_
  refine RK.c (S.move .none rfl (.tmp rfl rfl)) ?_
  refine RK.c (S.call (shp_jobsErr) Tryz.call84 .none rfl (.cons (.tmp rfl rfl) .nil) rfl) ?_
  refine RK.c (S.assign .none rfl (.tmp rfl rfl)) ?_
  refine RK.nil ?_
  refine Ab.D.code ?_
  refine OK.seq ?_
  refine OK.reg ?_
  refine RK.c (S.move .none rfl (.tmp rfl rfl)) ?_
  refine RK.c (S.neq .none rfl (.tmp rfl rfl) (.cint rfl)) ?_
  refine RK.nil ?_
  refine Ab.D.code ?_
  refine OK.condD rfl rfl (fun c18 => ?_) (fun c18 => ?_)
  ·
    refine OK.seq ?_
    refine OK.reg ?_
    refine RK.c (S.move .none rfl (.tmp rfl rfl)) ?_
    refine RK.c (S.assign .none rfl (.cint rfl)) ?_
    refine RK.c (S.assign .none rfl .cnil) ?_
    refine RK.c (S.assign .none rfl (.tmp rfl rfl)) ?_
    refine RK.nil ?_
    refine Ab.D.code ?_
    refine OK.ret (Ret.r3 (.tmp rfl rfl (.c (.same rfl) rfl) rfl) (.tmp rfl rfl (.c (.same rfl) rfl) rfl) (.tmp rfl rfl (.c (.same rfl) rfl) rfl) ?_)
    rw [show bndR l = (0, []) from if_neg c18]
    rfl
  ·
    have hj0 : (jobsChk l).2 = 0 := Decidable.not_not.1 c18
    have hJ := jobs_fine hj0
    have hJl := hJ.len
    refine OK.skip ?_
    refine Ab.D.code ?_
    refine OK.seq ?_
    refine OK.reg ?_
    refine RK.c (S.assign .none rfl (.cint rfl)) ?_
    refine RK.nil ?_
    refine Ab.D.code ?_
    refine OK.seq ?_
    refine OK.reg ?_
    refine RK.c (S.assign .none rfl .cnil) ?_
    refine RK.nil ?_
    refine Ab.D.code ?_
    refine OK.seq ?_
    refine OK.seq ?_
    refine OK.reg ?_
    refine RK.c (S.move .none rfl (.tmp rfl rfl)) ?_
    refine RK.c (S.lenM si22 .none rfl (.tmp rfl rfl)) ?_
    refine RK.c (S.move .none rfl (.cint rfl)) ?_
    refine RK.nil ?_
    refine Ab.D.code ?_
    refine OK.block ?_
    refine OK.loop (G := Nat) [] (fun k => [(0, .sl (l.map Job.cs)), (6, .int .i64 (bndTo l k).1), (7, ints (bndTo l k).2), (20, .sl (l.map Job.cs)), (21, .int .i64 l.length), (22, .int .i64 k)]) (fun k => k ≤ l.length ∧ -200000 ≤ (bndTo l k).1 ∧ (bndTo l k).1 ≤ 2000000) (fun k => l.length - k) 0 ⟨Nat.zero_le _, Int.le_refl _, by show (-200000 : Int) ≤ 2000000; decide⟩ ⟨rfl, rfl, rfl, rfl, rfl, rfl, trivial⟩ (fun _ => rfl) ?_
    rintro k ⟨hk, hb1, hb2⟩
    refine OK.seq ?_
    refine OK.reg ?_
    refine RK.c (S.lss .none rfl (.tmp rfl rfl) (.tmp rfl rfl)) ?_
    refine RK.nil ?_
    refine Ab.D.code ?_
    refine OK.seq ?_
    refine OK.condD rfl rfl (fun c23 => ?_) (fun c23 => ?_)
    ·
      have hkl : k < l.length := by omega
      have hdk := job_due (l := l) hkl rfl
      have hak := hJ.at (i := (k : Int)) (by omega) (by omega)
      refine OK.skip ?_
      refine Ab.D.code ?_
      refine OK.seq ?_
      refine OK.block ?_
      refine OK.seq ?_
      refine OK.reg ?_
      refine RK.c (S.indexM (n := k) si22 .none rfl (.tmp rfl rfl) (.tmp rfl rfl) rfl hkl rfl) ?_
      refine RK.c (S.loadN ti114 .none rfl (.tmp rfl rfl) rfl rfl) ?_
      refine RK.c (S.alloc (k := 9) ze114 rfl .none rfl) ?_
      refine RK.c (S.store ti114 .none (.tmp rfl rfl) (.tmp rfl rfl) rfl rfl rfl rfl rfl rfl) ?_
      refine RK.nil ?_
      refine Ab.D.code ?_
      refine OK.seq ?_
      refine OK.reg ?_
      refine RK.c (S.nilOwn (k := 10) (sz := 1) .none rfl) ?_
      refine RK.nil ?_
      refine Ab.D.code ?_
      refine OK.seq ?_
      refine OK.reg ?_
      refine RK.c (S.assign .none rfl (.cint rfl)) ?_
      refine RK.nil ?_
      refine Ab.D.code ?_
      refine OK.seq ?_
      refine OK.seq ?_
      refine OK.reg ?_
      refine RK.c (S.move .none rfl (.tmp rfl rfl)) ?_
      refine RK.c (S.lenM si22 .none rfl (.tmp rfl rfl)) ?_
      refine RK.c (S.move .none rfl (.cint rfl)) ?_
      refine RK.nil ?_
      refine Ab.D.code ?_
      refine OK.block ?_
      refine OK.loop (G := Nat) [9, 10] (fun i => [(0, .sl (l.map Job.cs)), (6, .int .i64 (bndTo l k).1), (7, ints (bndTo l k).2), (9, .ptr 9 0), (1009, .box l[k].cs), (10, .own 10 (selTo l (dueAt l (k : Int)) i).length), (2010, .arr 1 ((selTo l (dueAt l (k : Int)) i).map (fun n => [.int .i64 n]))), (11, .int .i64 (sumTo l (dueAt l (k : Int)) i)), (20, .sl (l.map Job.cs)), (21, .int .i64 l.length), (22, .int .i64 k), (26, .sl (l.map Job.cs)), (27, .int .i64 l.length), (28, .int .i64 i)]) (fun i => i ≤ l.length) (fun i => l.length - i) 0 (Nat.zero_le _) ⟨rfl, rfl, rfl, rfl, rfl, (lk_own (by first | rfl | (simp; done) | (simp; omega))), (lk_arr (by first | rfl | (simp; done) | (simp; omega))), rfl, rfl, rfl, rfl, rfl, rfl, rfl, trivial⟩ (fun _ => rfl) ?_
      rintro i hi
      refine OK.seq ?_
      refine OK.reg ?_
      refine RK.c (S.lss .none rfl (.tmp rfl rfl) (.tmp rfl rfl)) ?_
      refine RK.nil ?_
      refine Ab.D.code ?_
      refine OK.seq ?_
      refine OK.condD rfl rfl (fun c29 => ?_) (fun c29 => ?_)
      ·
        have hil : i < l.length := by omega
        have hdi := job_due (l := l) hil rfl
        have hti := job_tick (l := l) hil rfl
        have hsb := sum_bd hJ (dueAt l (k : Int)) i (by omega)
        have hsl := sel_len l (dueAt l (k : Int)) i
        have hai := hJ.at (i := (i : Int)) (by omega) (by omega)
        refine OK.skip ?_
        refine Ab.D.code ?_
        refine OK.seq ?_
        refine OK.block ?_
        refine OK.seq ?_
        refine OK.reg ?_
        refine RK.c (S.move .none rfl (.tmp rfl rfl)) ?_
        refine RK.c (S.indexM (n := i) si22 .none rfl (.tmp rfl rfl) (.tmp rfl rfl) rfl hil rfl) ?_
        refine RK.c (S.loadN ti114 .none rfl (.tmp rfl rfl) rfl rfl) ?_
        refine RK.c (S.alloc (k := 13) ze114 rfl .none rfl) ?_
        refine RK.c (S.assign .none rfl (.tmp rfl rfl)) ?_
        refine RK.c (S.store ti114 .none (.tmp rfl rfl) (.tmp rfl rfl) rfl rfl rfl rfl rfl rfl) ?_
        refine RK.nil ?_
        refine Ab.D.code ?_
        refine OK.seq ?_
        refine OK.reg ?_
        refine RK.c (S.bfield fi114_3 .none rfl (.tmp rfl rfl)) ?_
        refine RK.c (S.bload1 ti3 .none rfl (.tmp rfl rfl) rfl rfl rfl rfl) ?_
        refine RK.c (S.bfield fi114_3 .none rfl (.tmp rfl rfl)) ?_
        refine RK.c (S.bload1 ti3 .none rfl (.tmp rfl rfl) rfl rfl rfl rfl) ?_
        refine RK.c (S.leq .none rfl (.tmp rfl rfl) (.tmp rfl rfl)) ?_
        refine RK.nil ?_
        refine Ab.D.code ?_
        refine OK.condD rfl rfl (fun c37 => ?_) (fun c37 => ?_)
        ·
          have hd : dueAt l (i : Int) ≤ dueAt l (k : Int) := by omega
          refine OK.regionDraw follows (.c (S.move .none rfl (.tmp rfl rfl))
            (.c (S.move .none rfl (.tmp rfl rfl))
            (.c (S.mkSlice (k := 40) (rows := [[_]]) ai30 .none rfl (.cons (.tmp rfl rfl) .nil) rfl rfl rfl rfl rfl rfl rfl)
            (.c (S.append ai30 .none rfl (.tmp rfl rfl) rfl (by simp) (.tmp rfl rfl) rfl (by first | rfl | (simp; done) | (simp; omega)) (by omega) (by simp only [maxLen]; omega))
            (.c (S.move .none rfl (.tmp rfl rfl))
            (.c (S.bfield fi114_2 .none rfl (.tmp rfl rfl))
            (.c (S.bload1 ti3 .none rfl (.tmp rfl rfl) rfl rfl rfl rfl)
            (.c (S.add .none rfl (.tmp rfl rfl) (.tmp rfl rfl) (IntWalk.i64_in _ (by omega)) (IntWalk.i64_in _ (by omega)))
            (.c (S.assign .none rfl (.tmp rfl rfl))
            (.c (S.assign .none rfl (.tmp rfl rfl))
            .nil)))))))))) (by kernel_rfl) ?_
          refine Ab.D.blk ?_
          refine Ab.D.code ?_
          refine OK.reg ?_
          refine RK.c (S.add .none rfl (.tmp rfl rfl) (.cint rfl) (IntWalk.i64_in _ (by omega)) (IntWalk.i64_in _ (by omega))) ?_
          refine RK.c (S.move .none rfl (.tmp rfl rfl)) ?_
          refine RK.nil ?_
          refine Ab.D.lp ⟨i + 1, (by omega), (by omega), rfl, rfl, rfl, rfl, rfl, (lk_own (by first | (rw [sel_T hd]; simp; done) | rw [sel_F hd])), (lk_arr (by first | (rw [sel_T hd]; simp; done) | rw [sel_F hd])), (lkI (by first | (rw [sum_T hd, hti]; done) | rw [sum_F hd])), rfl, rfl, rfl, rfl, rfl, rfl, trivial⟩
        ·
          have hd : ¬ dueAt l (i : Int) ≤ dueAt l (k : Int) := by omega
          refine OK.skip ?_
          refine Ab.D.blk ?_
          refine Ab.D.code ?_
          refine OK.reg ?_
          refine RK.c (S.add .none rfl (.tmp rfl rfl) (.cint rfl) (IntWalk.i64_in _ (by omega)) (IntWalk.i64_in _ (by omega))) ?_
          refine RK.c (S.move .none rfl (.tmp rfl rfl)) ?_
          refine RK.nil ?_
          refine Ab.D.lp ⟨i + 1, (by omega), (by omega), rfl, rfl, rfl, rfl, rfl, (lk_own (by first | (rw [sel_T hd]; simp; done) | rw [sel_F hd])), (lk_arr (by first | (rw [sel_T hd]; simp; done) | rw [sel_F hd])), (lkI (by first | (rw [sum_T hd, hti]; done) | rw [sum_F hd])), rfl, rfl, rfl, rfl, rfl, rfl, trivial⟩
      ·
        have hie : i = l.length := by omega
        subst hie
        have hsb := sum_bd hJ (dueAt l (k : Int)) l.length (by omega)
        refine OK.exit rfl ?_
        refine Ab.D.code ?_
        refine OK.seq ?_
        refine OK.reg ?_
        refine RK.c (S.move .none rfl (.tmp rfl rfl)) ?_
        refine RK.c (S.bfield fi114_3 .none rfl (.tmp rfl rfl)) ?_
        refine RK.c (S.bload1 ti3 .none rfl (.tmp rfl rfl) rfl rfl rfl rfl) ?_
        refine RK.c (S.sub .none rfl (.tmp rfl rfl) (.tmp rfl rfl) (IntWalk.i64_in _ (by omega)) (IntWalk.i64_in _ (by omega))) ?_
        refine RK.c (S.assign .none rfl (.tmp rfl rfl)) ?_
        refine RK.nil ?_
        refine Ab.D.code ?_
        refine OK.seq ?_
        refine OK.reg ?_
        refine RK.c (S.move .none rfl (.tmp rfl rfl)) ?_
        refine RK.c (S.move .none rfl (.tmp rfl rfl)) ?_
        refine RK.c (S.gtr .none rfl (.tmp rfl rfl) (.tmp rfl rfl)) ?_
        refine RK.nil ?_
        refine Ab.D.code ?_
        refine OK.condD rfl rfl (fun c53 => ?_) (fun c53 => ?_)
        ·
          have hbT : (bndTo l k).1 < sumTo l (dueAt l (k : Int)) l.length - dueAt l (k : Int) := by omega
          refine OK.freeze 10 rfl rfl rfl (by simp) ?_
          refine OK.reg ?_
          refine RK.c (S.move .none rfl (.tmp rfl rfl)) ?_
          refine RK.c (S.move .none rfl (.tmp rfl rfl)) ?_
          refine RK.c (S.assign .none rfl (.tmp rfl rfl)) ?_
          refine RK.c (S.assign .none rfl (.tmp rfl rfl)) ?_
          refine RK.nil ?_
          refine Ab.D.blk ?_
          refine Ab.D.code ?_
          refine OK.reg ?_
          refine RK.c (S.add .none rfl (.tmp rfl rfl) (.cint rfl) (IntWalk.i64_in _ (by omega)) (IntWalk.i64_in _ (by omega))) ?_
          refine RK.c (S.move .none rfl (.tmp rfl rfl)) ?_
          refine RK.nil ?_
          refine Ab.D.lp ⟨k + 1, ⟨by omega, by first | (rw [bnd_T hbT]; simp only; omega) | (rw [bnd_F hbT]; omega), by first | (rw [bnd_T hbT]; simp only; omega) | (rw [bnd_F hbT]; omega)⟩, (by omega), rfl, (lkI (by first | (rw [bnd_T hbT]; simp only; omega) | rw [bnd_F hbT])), (by first | (rw [bnd_T hbT]; rfl) | (rw [bnd_F hbT]; rfl)), rfl, rfl, rfl, trivial⟩
        ·
          have hbT : ¬ (bndTo l k).1 < sumTo l (dueAt l (k : Int)) l.length - dueAt l (k : Int) := by omega
          refine OK.skip ?_
          refine Ab.D.blk ?_
          refine Ab.D.code ?_
          refine OK.reg ?_
          refine RK.c (S.add .none rfl (.tmp rfl rfl) (.cint rfl) (IntWalk.i64_in _ (by omega)) (IntWalk.i64_in _ (by omega))) ?_
          refine RK.c (S.move .none rfl (.tmp rfl rfl)) ?_
          refine RK.nil ?_
          refine Ab.D.lp ⟨k + 1, ⟨by omega, by first | (rw [bnd_T hbT]; simp only; omega) | (rw [bnd_F hbT]; omega), by first | (rw [bnd_T hbT]; simp only; omega) | (rw [bnd_F hbT]; omega)⟩, (by omega), rfl, (lkI (by first | (rw [bnd_T hbT]; simp only; omega) | rw [bnd_F hbT])), (by first | (rw [bnd_T hbT]; rfl) | (rw [bnd_F hbT]; rfl)), rfl, rfl, rfl, trivial⟩
    ·
      refine OK.exit rfl ?_
      refine Ab.D.code ?_
      refine OK.seq ?_
      refine OK.reg ?_
      refine RK.c (S.move .none rfl (.tmp rfl rfl)) ?_
      refine RK.c (S.move .none rfl (.tmp rfl rfl)) ?_
      refine RK.c (S.assign .none rfl (.tmp rfl rfl)) ?_
      refine RK.c (S.assign .none rfl (.tmp rfl rfl)) ?_
      refine RK.c (S.assign .none rfl (.cint rfl)) ?_
      refine RK.nil ?_
      refine Ab.D.code ?_
      refine OK.ret (Ret.r3 (.tmp rfl rfl (.c (.same rfl) rfl) rfl) (.tmp rfl rfl (.c (.same rfl) rfl) rfl) (.tmp rfl rfl (.c (.same rfl) rfl) rfl) ?_)
      rw [show bndR l = bndTo l l.length from if_pos hj0, hj0, show k = l.length by omega]
      all_goals rfl
set_option maxHeartbeats 1000000 in
theorem shp_CheckBound {l : List Job} {s : List Int} (hs : s.length ≤ 100) : Ct Tryz.prog 23 [.sl (l.map Job.cs), .sl (s.map (fun n => [.int .i64 n]))] (pair (cbR l s, setChk l s)) := by
  refine Ct.intro (rs := [.tmp 4, .tmp 5]) Tryz.func23 rfl Tryz.ntmps23 Tryz.results23 rfl rfl rfl fun w h => ?_
  refine OK.seq ?_
  refine OK.reg ?_
  refine RK.c (S.assign .none rfl (.cint rfl)) ?_
  refine RK.c (S.assign .none rfl (.cint rfl)) ?_
  refine RK.nil ?_
  refine Ab.D.code ?_
  refine OK.seq ?_
  refine OK.seq ?_
  refine OK.reg ?_
  refine RK.c (S.move .none rfl (.tmp rfl rfl)) ?_
  refine RK.c (S.call (shp_jobsErr) Tryz.call84 .none rfl (.cons (.tmp rfl rfl) .nil) rfl) ?_
  refine RK.c (S.move .none rfl (.tmp rfl rfl)) ?_
  refine RK.c (S.lenM si30 .none rfl (.tmp rfl rfl)) ?_
  refine RK.c (S.gtr .none rfl (.tmp rfl rfl) (.cint rfl)) ?_
  refine RK.c (S.call (shop_unless) Tryz.call86 .none rfl (.cons (.tmp rfl rfl) (.cons (.cint rfl) .nil)) rfl) ?_
  refine RK.c (S.mkSlice (k := 18) (rows := [[_], [_]]) ai191 .none rfl (.cons (.tmp rfl rfl) (.cons (.tmp rfl rfl) .nil)) rfl rfl rfl rfl rfl rfl rfl) ?_
  refine RK.c (S.callL (shop_first (l := [_, _])) Tryz.call85 .none rfl (.cons (.tmp rfl rfl) .nil) (.cons (.p (.own rfl rfl) rfl) .nil) rfl) ?_
  refine RK.c (S.assign .none rfl (.tmp rfl rfl)) ?_
  refine RK.nil ?_
  refine Ab.D.code ?_
  refine OK.seq ?_
  refine OK.reg ?_
  refine RK.c (S.move .none rfl (.tmp rfl rfl)) ?_
  refine RK.c (S.neq .none rfl (.tmp rfl rfl) (.cint rfl)) ?_
  refine RK.nil ?_
  refine Ab.D.code ?_
  refine OK.condD rfl rfl (fun c21 => ?_) (fun c21 => ?_)
  ·
    have hsc := chk_T (l := l) (s := s) c21
    refine OK.seq ?_
    refine OK.reg ?_
    refine RK.c (S.move .none rfl (.tmp rfl rfl)) ?_
    refine RK.c (S.assign .none rfl (.cint rfl)) ?_
    refine RK.c (S.assign .none rfl (.tmp rfl rfl)) ?_
    refine RK.nil ?_
    refine Ab.D.code ?_
    refine OK.ret (Ret.r2 (.tmp rfl rfl (.c (.same rfl) rfl) rfl) (.tmp rfl rfl (.c (.same rfl) rfl) rfl) ?_)
    refine ret_p ?_
    rw [cbR, if_neg (by rw [hsc]; exact c21), hsc]
    rfl
  ·
    obtain ⟨hj0, hs1⟩ := chk_F (l := l) (s := s) (Decidable.not_not.1 c21)
    have hJ := jobs_fine hj0
    have hJl := hJ.len
    refine OK.skip ?_
    refine Ab.D.code ?_
    refine OK.seq ?_
    refine OK.reg ?_
    refine RK.c (S.assign .none rfl (.cint rfl)) ?_
    refine RK.c (S.assign .none rfl (.cint rfl)) ?_
    refine RK.nil ?_
    refine Ab.D.code ?_
    refine OK.seq ?_
    refine OK.seq ?_
    refine OK.reg ?_
    refine RK.c (S.move .none rfl (.tmp rfl rfl)) ?_
    refine RK.c (S.lenM si30 .none rfl (.tmp rfl rfl)) ?_
    refine RK.c (S.move .none rfl (.cint rfl)) ?_
    refine RK.nil ?_
    refine Ab.D.code ?_
    refine OK.block ?_
    refine OK.loop (G := Nat) [] (fun k => [(0, .sl (l.map Job.cs)), (1, .sl (s.map (fun n => [.int .i64 n]))), (7, .int .i64 (fromTo l (s.take k)).1), (8, .int .i64 (fromTo l (s.take k)).2), (23, .sl (s.map (fun n => [.int .i64 n]))), (24, .int .i64 s.length), (25, .int .i64 k)]) (fun k => k ≤ s.length ∧ eachGo (stE l.length s) 0 s = eachGo (stE l.length s) k (s.drop k) ∧ ((0 ≤ (fromTo l (s.take k)).1 ∧ (fromTo l (s.take k)).1 ≤ 100000 * k) ∧ 0 ≤ (fromTo l (s.take k)).2 ∧ (fromTo l (s.take k)).2 ≤ 100000)) (fun k => s.length - k) 0 ⟨Nat.zero_le _, rfl, ⟨Int.le_refl _, by show (0 : Int) ≤ 100000 * ((0 : Nat) : Int); decide⟩, Int.le_refl _, by show (0 : Int) ≤ 100000; decide⟩ ⟨rfl, rfl, rfl, rfl, rfl, rfl, rfl, trivial⟩ (fun _ => rfl) ?_
    rintro k ⟨hk, hg, hfb⟩
    refine OK.seq ?_
    refine OK.reg ?_
    refine RK.c (S.lss .none rfl (.tmp rfl rfl) (.tmp rfl rfl)) ?_
    refine RK.nil ?_
    refine Ab.D.code ?_
    refine OK.seq ?_
    refine OK.condD rfl rfl (fun c26 => ?_) (fun c26 => ?_)
    ·
      have hkl : k < s.length := by omega
      refine OK.skip ?_
      refine Ab.D.code ?_
      refine OK.seq ?_
      refine OK.block ?_
      refine OK.seq ?_
      refine OK.reg ?_
      refine RK.c (S.move .none rfl (.tmp rfl rfl)) ?_
      refine RK.c (S.indexM (n := k) si30 .none rfl (.tmp rfl rfl) (.tmp rfl rfl) rfl hkl rfl) ?_
      refine RK.c (S.load1 ti3 .none rfl (.tmp rfl rfl) rfl) ?_
      refine RK.c (S.assign .none rfl (.tmp rfl rfl)) ?_
      refine RK.c (S.assign .none rfl (.tmp rfl rfl)) ?_
      refine RK.nil ?_
      refine Ab.D.code ?_
      refine OK.seq ?_
      refine OK.seq ?_
      refine OK.reg ?_
      refine RK.c (S.move .none rfl (.tmp rfl rfl)) ?_
      refine RK.c (S.move .none rfl (.tmp rfl rfl)) ?_
      refine RK.c (S.lenM si22 .none rfl (.tmp rfl rfl)) ?_
      refine RK.c (S.sub .none rfl (.tmp rfl rfl) (.cint rfl) (IntWalk.i64_in _ (by omega)) (IntWalk.i64_in _ (by omega))) ?_
      refine RK.c (S.call (shp_within) Tryz.call87 .none rfl (.cons (.tmp rfl rfl) (.cons (.cint rfl) (.cons (.tmp rfl rfl) .nil))) rfl) ?_
      refine RK.c (S.call (shop_unless) Tryz.call86 .none rfl (.cons (.tmp rfl rfl) (.cons (.cint rfl) .nil)) rfl) ?_
      refine RK.c (S.move .none rfl (.tmp rfl rfl)) ?_
      refine RK.c (S.eql .none rfl (.tmp rfl rfl) (.cint rfl)) ?_
      refine RK.c (S.move .none rfl (.tmp rfl rfl)) ?_
      refine RK.splitD (t := 38) rfl (fun g38 => ?_) (fun g38 => ?_)
      ·
        have hst := st_T (n := l.length) (s := s) (x := s[k]) (show k = 0 by omega)
        refine RK.c (S.skip rfl rfl rfl rfl rfl) ?_
        refine RK.c (S.skip rfl rfl rfl rfl rfl) ?_
        refine RK.c (S.skip rfl rfl rfl rfl rfl) ?_
        refine RK.c (S.skip rfl rfl rfl rfl rfl) ?_
        refine RK.c (S.skip rfl rfl rfl rfl rfl) ?_
        refine RK.c (S.skip rfl rfl rfl rfl rfl) ?_
        refine RK.c (S.skip rfl rfl rfl rfl rfl) ?_
        refine RK.c (S.skip rfl rfl rfl rfl rfl) ?_
        refine RK.c (S.pickT .none rfl (.tmp rfl rfl) .cbool rfl) ?_
        refine RK.c (S.call (shop_unless) Tryz.call86 .none rfl (.cons (.tmp rfl rfl) (.cons (.cint rfl) .nil)) rfl) ?_
        refine RK.c (S.mkSlice (k := 49) (rows := [[_], [_]]) ai191 .none rfl (.cons (.tmp rfl rfl) (.cons (.tmp rfl rfl) .nil)) rfl rfl rfl rfl rfl rfl rfl) ?_
        refine RK.c (S.callL (shop_first (l := [_, _])) Tryz.call85 .none rfl (.cons (.tmp rfl rfl) .nil) (.cons (.p (.own rfl rfl) rfl) .nil) rfl) ?_
        refine RK.c (S.assign .none rfl (.tmp rfl rfl)) ?_
        refine RK.nil ?_
        refine Ab.D.code ?_
        refine OK.seq ?_
        refine OK.reg ?_
        refine RK.c (S.move .none rfl (.tmp rfl rfl)) ?_
        refine RK.c (S.neq .none rfl (.tmp rfl rfl) (.cint rfl)) ?_
        refine RK.nil ?_
        refine Ab.D.code ?_
        refine OK.condD rfl rfl (fun c52 => ?_) (fun c52 => ?_)
        ·
          rw [← hst] at c52 ⊢
          have hsc : setChk l s = stE l.length s k s[k] := by rw [chk_on hj0]; exact set_is hs1 (each_at hg hkl rfl c52)
          refine OK.seq ?_
          refine OK.reg ?_
          refine RK.c (S.move .none rfl (.tmp rfl rfl)) ?_
          refine RK.c (S.assign .none rfl (.cint rfl)) ?_
          refine RK.c (S.assign .none rfl (.tmp rfl rfl)) ?_
          refine RK.nil ?_
          refine Ab.D.code ?_
          refine OK.ret (Ret.r2 (.tmp rfl rfl (.c (.same rfl) rfl) rfl) (.tmp rfl rfl (.c (.same rfl) rfl) rfl) ?_)
          refine ret_p ?_
          rw [cbR, if_neg (by rw [hsc]; exact c52), hsc]
        ·
          have hs0 : stE l.length s k s[k] = 0 := by rw [hst]; exact Decidable.not_not.1 c52
          obtain ⟨hr1, hr2⟩ := st_ok hs0
          have hat := hJ.at (i := s[k]) (by omega) (by omega)
          have hjd := job_due (l := l) (i := s[k]) (k := s[k].toNat) (by omega) (by omega)
          have hjt := job_tick (l := l) (i := s[k]) (k := s[k].toNat) (by omega) (by omega)
          have hnb : ((0 ≤ (fromTo l (s.take (k + 1))).1 ∧ (fromTo l (s.take (k + 1))).1 ≤ 100000 * ((k + 1 : Nat) : Int)) ∧ 0 ≤ (fromTo l (s.take (k + 1))).2 ∧ (fromTo l (s.take (k + 1))).2 ≤ 100000) := by rw [from_t1 hkl, from_t2 hkl]; split <;> omega
          refine OK.skip ?_
          refine Ab.D.code ?_
          refine OK.regionDraw follows (.c (S.move .none rfl (.tmp rfl rfl))
            (.c (S.move .none rfl (.tmp rfl rfl))
            (.c (S.move .none rfl (.tmp rfl rfl))
            (.c (S.indexM (n := s[k].toNat) si22 .none rfl (.tmp rfl rfl) (.tmp rfl rfl) (by omega) (by omega) rfl)
            (.c (S.field fi114_2 .none rfl (.tmp rfl rfl) rfl)
            (.c (S.load1 ti3 .none rfl (.tmp rfl rfl) rfl)
            (.c (S.add .none rfl (.tmp rfl rfl) (.tmp rfl rfl) (IntWalk.i64_in _ (by omega)) (IntWalk.i64_in _ (by omega)))
            (.c (S.move .none rfl (.tmp rfl rfl))
            (.c (S.move .none rfl (.tmp rfl rfl))
            (.c (S.move .none rfl (.tmp rfl rfl))
            (.c (S.indexM (n := s[k].toNat) si22 .none rfl (.tmp rfl rfl) (.tmp rfl rfl) (by omega) (by omega) rfl)
            (.c (S.field fi114_3 .none rfl (.tmp rfl rfl) rfl)
            (.c (S.load1 ti3 .none rfl (.tmp rfl rfl) rfl)
            (.c (S.max2 .none rfl (.tmp rfl rfl) (.tmp rfl rfl))
            (.c (S.assign .none rfl (.tmp rfl rfl))
            (.c (S.assign .none rfl (.tmp rfl rfl))
            .nil)))))))))))))))) (by kernel_rfl) ?_
          refine Ab.D.blk ?_
          refine Ab.D.code ?_
          refine OK.reg ?_
          refine RK.c (S.add .none rfl (.tmp rfl rfl) (.cint rfl) (IntWalk.i64_in _ (by omega)) (IntWalk.i64_in _ (by omega))) ?_
          refine RK.c (S.move .none rfl (.tmp rfl rfl)) ?_
          refine RK.nil ?_
          refine Ab.D.lp ⟨k + 1, ⟨by omega, each_on hg hkl hs0, hnb⟩, (by omega), rfl, rfl, (lkI (by rw [from_t1 hkl, hjt])), (lkI (by rw [from_t2 hkl, hjd])), rfl, rfl, rfl, trivial⟩
      ·
        have hk1 : k - 1 < s.length := by omega
        have hst := st_F (n := l.length) (s := s) (x := s[k]) (show ¬ k = 0 by omega) hk1
        refine RK.c (S.move (.yes rfl rfl rfl rfl) rfl (.tmp rfl rfl)) ?_
        refine RK.c (S.move (.yes rfl rfl rfl rfl) rfl (.tmp rfl rfl)) ?_
        refine RK.c (S.move (.yes rfl rfl rfl rfl) rfl (.tmp rfl rfl)) ?_
        refine RK.c (S.sub (.yes rfl rfl rfl rfl) rfl (.tmp rfl rfl) (.cint rfl) (IntWalk.i64_in _ (by omega)) (IntWalk.i64_in _ (by omega))) ?_
        refine RK.c (S.max2 (.yes rfl rfl rfl rfl) rfl (.cint rfl) (.tmp rfl rfl)) ?_
        refine RK.c (S.indexM (n := k - 1) si30 (.yes rfl rfl rfl rfl) rfl (.tmp rfl rfl) (.tmp rfl rfl) (by omega) hk1 rfl) ?_
        refine RK.c (S.load1 ti3 (.yes rfl rfl rfl rfl) rfl (.tmp rfl rfl) rfl) ?_
        refine RK.c (S.gtr (.yes rfl rfl rfl rfl) rfl (.tmp rfl rfl) (.tmp rfl rfl)) ?_
        refine RK.c (S.pickF .none rfl (.tmp rfl rfl) (.tmp rfl rfl) rfl) ?_
        refine RK.c (S.call (shop_unless) Tryz.call86 .none rfl (.cons (.tmp rfl rfl) (.cons (.cint rfl) .nil)) rfl) ?_
        refine RK.c (S.mkSlice (k := 49) (rows := [[_], [_]]) ai191 .none rfl (.cons (.tmp rfl rfl) (.cons (.tmp rfl rfl) .nil)) rfl rfl rfl rfl rfl rfl rfl) ?_
        refine RK.c (S.callL (shop_first (l := [_, _])) Tryz.call85 .none rfl (.cons (.tmp rfl rfl) .nil) (.cons (.p (.own rfl rfl) rfl) .nil) rfl) ?_
        refine RK.c (S.assign .none rfl (.tmp rfl rfl)) ?_
        refine RK.nil ?_
        refine Ab.D.code ?_
        refine OK.seq ?_
        refine OK.reg ?_
        refine RK.c (S.move .none rfl (.tmp rfl rfl)) ?_
        refine RK.c (S.neq .none rfl (.tmp rfl rfl) (.cint rfl)) ?_
        refine RK.nil ?_
        refine Ab.D.code ?_
        refine OK.condD rfl rfl (fun c52 => ?_) (fun c52 => ?_)
        ·
          rw [← hst] at c52 ⊢
          have hsc : setChk l s = stE l.length s k s[k] := by rw [chk_on hj0]; exact set_is hs1 (each_at hg hkl rfl c52)
          refine OK.seq ?_
          refine OK.reg ?_
          refine RK.c (S.move .none rfl (.tmp rfl rfl)) ?_
          refine RK.c (S.assign .none rfl (.cint rfl)) ?_
          refine RK.c (S.assign .none rfl (.tmp rfl rfl)) ?_
          refine RK.nil ?_
          refine Ab.D.code ?_
          refine OK.ret (Ret.r2 (.tmp rfl rfl (.c (.same rfl) rfl) rfl) (.tmp rfl rfl (.c (.same rfl) rfl) rfl) ?_)
          refine ret_p ?_
          rw [cbR, if_neg (by rw [hsc]; exact c52), hsc]
        ·
          have hs0 : stE l.length s k s[k] = 0 := by rw [hst]; exact Decidable.not_not.1 c52
          obtain ⟨hr1, hr2⟩ := st_ok hs0
          have hat := hJ.at (i := s[k]) (by omega) (by omega)
          have hjd := job_due (l := l) (i := s[k]) (k := s[k].toNat) (by omega) (by omega)
          have hjt := job_tick (l := l) (i := s[k]) (k := s[k].toNat) (by omega) (by omega)
          have hnb : ((0 ≤ (fromTo l (s.take (k + 1))).1 ∧ (fromTo l (s.take (k + 1))).1 ≤ 100000 * ((k + 1 : Nat) : Int)) ∧ 0 ≤ (fromTo l (s.take (k + 1))).2 ∧ (fromTo l (s.take (k + 1))).2 ≤ 100000) := by rw [from_t1 hkl, from_t2 hkl]; split <;> omega
          refine OK.skip ?_
          refine Ab.D.code ?_
          refine OK.regionDraw follows (.c (S.move .none rfl (.tmp rfl rfl))
            (.c (S.move .none rfl (.tmp rfl rfl))
            (.c (S.move .none rfl (.tmp rfl rfl))
            (.c (S.indexM (n := s[k].toNat) si22 .none rfl (.tmp rfl rfl) (.tmp rfl rfl) (by omega) (by omega) rfl)
            (.c (S.field fi114_2 .none rfl (.tmp rfl rfl) rfl)
            (.c (S.load1 ti3 .none rfl (.tmp rfl rfl) rfl)
            (.c (S.add .none rfl (.tmp rfl rfl) (.tmp rfl rfl) (IntWalk.i64_in _ (by omega)) (IntWalk.i64_in _ (by omega)))
            (.c (S.move .none rfl (.tmp rfl rfl))
            (.c (S.move .none rfl (.tmp rfl rfl))
            (.c (S.move .none rfl (.tmp rfl rfl))
            (.c (S.indexM (n := s[k].toNat) si22 .none rfl (.tmp rfl rfl) (.tmp rfl rfl) (by omega) (by omega) rfl)
            (.c (S.field fi114_3 .none rfl (.tmp rfl rfl) rfl)
            (.c (S.load1 ti3 .none rfl (.tmp rfl rfl) rfl)
            (.c (S.max2 .none rfl (.tmp rfl rfl) (.tmp rfl rfl))
            (.c (S.assign .none rfl (.tmp rfl rfl))
            (.c (S.assign .none rfl (.tmp rfl rfl))
            .nil)))))))))))))))) (by kernel_rfl) ?_
          refine Ab.D.blk ?_
          refine Ab.D.code ?_
          refine OK.reg ?_
          refine RK.c (S.add .none rfl (.tmp rfl rfl) (.cint rfl) (IntWalk.i64_in _ (by omega)) (IntWalk.i64_in _ (by omega))) ?_
          refine RK.c (S.move .none rfl (.tmp rfl rfl)) ?_
          refine RK.nil ?_
          refine Ab.D.lp ⟨k + 1, ⟨by omega, each_on hg hkl hs0, hnb⟩, (by omega), rfl, rfl, (lkI (by rw [from_t1 hkl, hjt])), (lkI (by rw [from_t2 hkl, hjd])), rfl, rfl, rfl, trivial⟩
    ·
      have hst : s.take k = s := List.take_of_length_le (by omega)
      rw [hst] at hfb ⊢
      have hsc : setChk l s = 0 := by rw [chk_on hj0]; exact set_end hs1 (each_end hg (by omega))
      refine OK.exit rfl ?_
      refine Ab.D.code ?_
      refine OK.seq ?_
      refine OK.reg ?_
      refine RK.c (S.move .none rfl (.tmp rfl rfl)) ?_
      refine RK.c (S.move .none rfl (.tmp rfl rfl)) ?_
      refine RK.c (S.sub .none rfl (.tmp rfl rfl) (.tmp rfl rfl) (IntWalk.i64_in _ (by omega)) (IntWalk.i64_in _ (by omega))) ?_
      refine RK.c (S.assign .none rfl (.tmp rfl rfl)) ?_
      refine RK.c (S.assign .none rfl (.cint rfl)) ?_
      refine RK.nil ?_
      refine Ab.D.code ?_
      refine OK.ret (Ret.r2 (.tmp rfl rfl (.c (.same rfl) rfl) rfl) (.tmp rfl rfl (.c (.same rfl) rfl) rfl) ?_)
      refine ret_p ?_
      rw [cbR, if_pos hsc, hsc]
      rfl
set_option maxHeartbeats 1000000 in
theorem law_ShopBounds {l : List Job} {s : List Int} : Ct Tryz.prog 4 [.sl (l.map Job.cs), .sl (s.map (fun n => [.int .i64 n]))] (.bool true) := by
  refine Ct.intro (rs := [.tmp 4]) Tryz.func4 rfl Tryz.ntmps4 Tryz.results4 rfl rfl rfl fun w h => ?_
  refine OK.seq ?_
  refine OK.reg ?_
  refine RK.c (S.assign .none rfl .cbool) ?_
  refine RK.nil ?_
  refine Ab.D.code ?_
  refine OK.seq ?_
  refine OK.seq ?_
  refine OK.reg ?_
  refine RK.c (S.call (law9_awake) Tryz.call12 .none rfl .nil rfl) ?_
  refine RK.c (S.not .none rfl (.tmp rfl rfl)) ?_
  refine RK.nil ?_
  refine Ab.D.code ?_
  refine OK.condF rfl rfl rfl ?_
  refine OK.skip ?_
  refine Ab.D.code ?_
  refine OK.seq ?_
  refine OK.seq ?_
  refine OK.reg ?_
  refine RK.c (S.move .none rfl (.tmp rfl rfl)) ?_
  refine RK.c (S.call (law9_fewJobs) Tryz.call13 .none rfl (.cons (.tmp rfl rfl) .nil) rfl) ?_
  refine RK.c (S.not .none rfl (.tmp rfl rfl)) ?_
  refine RK.c (S.move .none rfl (.tmp rfl rfl)) ?_
  refine RK.split (t := 17) rfl (fun g17 => ?_) (fun g17 => ?_)
  ·
    refine RK.c (S.skip rfl rfl rfl rfl rfl) ?_
    refine RK.c (S.skip rfl rfl rfl rfl rfl) ?_
    refine RK.c (S.skip rfl rfl rfl rfl rfl) ?_
    refine RK.c (S.pickT .none rfl (.tmp rfl rfl) .cbool rfl) ?_
    refine RK.nil ?_
    refine Ab.D.code ?_
    refine OK.condT rfl rfl rfl ?_
    refine OK.seq ?_
    refine OK.reg ?_
    refine RK.c (S.assign .none rfl .cbool) ?_
    refine RK.nil ?_
    refine Ab.D.code ?_
    refine OK.ret (Ret.r1 (.tmp rfl rfl (.c (.same rfl) rfl) rfl) ?_)
    first | rfl | exact ret_dT rfl | exact ret_dT trivial | exact ret_dT hcb | (refine ret_dT ?_; rw [hcb]; exact hle)
  ·
    refine RK.c (S.move (.yes rfl rfl rfl rfl) rfl (.tmp rfl rfl)) ?_
    refine RK.c (S.lenM si30 (.yes rfl rfl rfl rfl) rfl (.tmp rfl rfl)) ?_
    refine RK.c (S.gtr (.yes rfl rfl rfl rfl) rfl (.tmp rfl rfl) (.cint rfl)) ?_
    refine RK.c (S.pickF .none rfl (.tmp rfl rfl) (.tmp rfl rfl) rfl) ?_
    refine RK.nil ?_
    refine Ab.D.code ?_
    refine OK.condD rfl rfl (fun c21 => ?_) (fun c21 => ?_)
    ·
      refine OK.seq ?_
      refine OK.reg ?_
      refine RK.c (S.assign .none rfl .cbool) ?_
      refine RK.nil ?_
      refine Ab.D.code ?_
      refine OK.ret (Ret.r1 (.tmp rfl rfl (.c (.same rfl) rfl) rfl) ?_)
      first | rfl | exact ret_dT rfl | exact ret_dT trivial | exact ret_dT hcb | (refine ret_dT ?_; rw [hcb]; exact hle)
    ·
      have hfj := few_j (l := l) (by simpa using g17)
      refine OK.skip ?_
      refine Ab.D.code ?_
      refine OK.seq ?_
      refine OK.reg ?_
      refine RK.c (S.move .none rfl (.tmp rfl rfl)) ?_
      refine RK.c (S.call (ref9_CopyJobs (by omega)) Tryz.call17 .none rfl (.cons (.tmp rfl rfl) .nil) rfl) ?_
      refine RK.c (S.call (shp_BoundOf) Tryz.call22 .none rfl (.cons (.tmp rfl rfl) .nil) rfl) ?_
      refine RK.c (S.move .none rfl (.tmp rfl rfl)) ?_
      refine RK.c (S.extract .none rfl (.tmp rfl rfl) rfl rfl) ?_
      refine RK.c (S.extract .none rfl (.tmp rfl rfl) rfl rfl) ?_
      refine RK.c (S.extract .none rfl (.tmp rfl rfl) rfl rfl) ?_
      refine RK.c (S.assign .none rfl (.tmp rfl rfl)) ?_
      refine RK.c (S.assign .none rfl (.tmp rfl rfl)) ?_
      refine RK.c (S.assign .none rfl (.tmp rfl rfl)) ?_
      refine RK.nil ?_
      refine Ab.D.code ?_
      refine OK.seq ?_
      refine OK.reg ?_
      refine RK.c (S.move .none rfl (.tmp rfl rfl)) ?_
      refine RK.c (S.call (ref9_CopyJobs (by omega)) Tryz.call17 .none rfl (.cons (.tmp rfl rfl) .nil) rfl) ?_
      refine RK.c (S.move .none rfl (.tmp rfl rfl)) ?_
      refine RK.c (S.call (base_CopyInts (by omega)) Tryz.call24 .none rfl (.cons (.tmp rfl rfl) .nil) rfl) ?_
      refine RK.c (S.call (shp_CheckBound (by omega)) Tryz.call23 .none rfl (.cons (.tmp rfl rfl) (.cons (.tmp rfl rfl) .nil)) rfl) ?_
      refine RK.c (S.move .none rfl (.tmp rfl rfl)) ?_
      refine RK.c (S.extract .none rfl (.tmp rfl rfl) rfl rfl) ?_
      refine RK.c (S.extract .none rfl (.tmp rfl rfl) rfl rfl) ?_
      refine RK.c (S.assign .none rfl (.tmp rfl rfl)) ?_
      refine RK.c (S.assign .none rfl (.tmp rfl rfl)) ?_
      refine RK.nil ?_
      refine Ab.D.code ?_
      refine OK.seq ?_
      refine OK.seq ?_
      refine OK.reg ?_
      refine RK.c (S.move .none rfl (.tmp rfl rfl)) ?_
      refine RK.c (S.call (ref9_JobsErr) Tryz.call25 .none rfl (.cons (.tmp rfl rfl) .nil) rfl) ?_
      refine RK.c (S.assign .none rfl (.tmp rfl rfl)) ?_
      refine RK.nil ?_
      refine Ab.D.code ?_
      refine OK.seq ?_
      refine OK.reg ?_
      refine RK.c (S.move .none rfl (.tmp rfl rfl)) ?_
      refine RK.c (S.neq .none rfl (.tmp rfl rfl) (.cint rfl)) ?_
      refine RK.nil ?_
      refine Ab.D.code ?_
      refine OK.condD rfl rfl (fun c40 => ?_) (fun c40 => ?_)
      ·
        have hbR : bndR l = (0, []) := if_neg c40
        have hsc : setChk l s = (jobsChk l).2 := if_pos c40
        have hcb : cbR l s = 0 := if_neg (by rw [hsc]; exact c40)
        rw [hbR, hsc, hcb]
        refine OK.seq ?_
        refine OK.reg ?_
        refine RK.c (S.move .none rfl (.tmp rfl rfl)) ?_
        refine RK.c (S.move .none rfl (.tmp rfl rfl)) ?_
        refine RK.c (S.eql .none rfl (.tmp rfl rfl) (.tmp rfl rfl)) ?_
        refine RK.c (S.move .none rfl (.tmp rfl rfl)) ?_
        refine RK.splitD (t := 44) rfl (fun g44 => ?_) (fun g44 => ?_)
        ·
          refine RK.c (S.move (.yes rfl rfl rfl rfl) rfl (.tmp rfl rfl)) ?_
          refine RK.c (S.eql (.yes rfl rfl rfl rfl) rfl (.tmp rfl rfl) (.cint rfl)) ?_
          refine RK.c (S.pickT .none rfl (.tmp rfl rfl) (.tmp rfl rfl) rfl) ?_
          refine RK.c (S.move .none rfl (.tmp rfl rfl)) ?_
          refine RK.splitD (t := 48) rfl (fun g48 => ?_) (fun g48 => ?_)
          ·
            refine RK.c (S.move (.yes rfl rfl rfl rfl) rfl (.tmp rfl rfl)) ?_
            refine RK.c (S.lenM si30 (.yes rfl rfl rfl rfl) rfl (.tmp rfl rfl)) ?_
            refine RK.c (S.eql (.yes rfl rfl rfl rfl) rfl (.tmp rfl rfl) (.cint rfl)) ?_
            refine RK.c (S.pickT .none rfl (.tmp rfl rfl) (.tmp rfl rfl) rfl) ?_
            refine RK.c (S.move .none rfl (.tmp rfl rfl)) ?_
            refine RK.splitD (t := 53) rfl (fun g53 => ?_) (fun g53 => ?_)
            ·
              refine RK.c (S.move (.yes rfl rfl rfl rfl) rfl (.tmp rfl rfl)) ?_
              refine RK.c (S.move (.yes rfl rfl rfl rfl) rfl (.tmp rfl rfl)) ?_
              refine RK.c (S.eql (.yes rfl rfl rfl rfl) rfl (.tmp rfl rfl) (.tmp rfl rfl)) ?_
              refine RK.c (S.pickT .none rfl (.tmp rfl rfl) (.tmp rfl rfl) rfl) ?_
              refine RK.c (S.move .none rfl (.tmp rfl rfl)) ?_
              refine RK.splitD (t := 58) rfl (fun g58 => ?_) (fun g58 => ?_)
              ·
                refine RK.c (S.move (.yes rfl rfl rfl rfl) rfl (.tmp rfl rfl)) ?_
                refine RK.c (S.eql (.yes rfl rfl rfl rfl) rfl (.tmp rfl rfl) (.cint rfl)) ?_
                refine RK.c (S.pickT .none rfl (.tmp rfl rfl) (.tmp rfl rfl) rfl) ?_
                refine RK.c (S.assign .none rfl (.tmp rfl rfl)) ?_
                refine RK.nil ?_
                refine Ab.D.code ?_
                refine OK.ret (Ret.r1 (.tmp rfl rfl (.c (.same rfl) rfl) rfl) ?_)
                first | rfl | exact ret_dT rfl | exact ret_dT trivial | exact ret_dT hcb | (refine ret_dT ?_; rw [hcb]; exact hle)
              ·
                exact absurd rfl g58
            ·
              exact absurd rfl g53
          ·
            exact absurd rfl g48
        ·
          exact absurd rfl g44
      ·
        have hj0 : (jobsChk l).2 = 0 := Decidable.not_not.1 c40
        have hJ := jobs_fine hj0
        have hJl := hJ.len
        have hbR : bndR l = bndTo l l.length := if_pos hj0
        have hsc : setChk l s = setE l s := chk_on hj0
        obtain ⟨q1, q2, q3, q4⟩ := bnd_set hJ
        have hse := set_0 q1 q2 q3
        have hbe : bndB l (pw l - 1) = (bndTo l l.length).1 := bound_eq hJ
        have hbn : (bndTo l l.length).2.length ≤ 100 := by obtain ⟨j, hj, e⟩ := bnd_is hJ l.length (by omega) (Nat.le_refl _); rw [e]; have := sel_len l (dueAt l j) l.length; simp only; omega
        rw [hbR]
        refine OK.skip ?_
        refine Ab.D.code ?_
        refine OK.seq ?_
        refine OK.seq ?_
        refine OK.reg ?_
        refine RK.c (S.move .none rfl (.tmp rfl rfl)) ?_
        refine RK.c (S.neq .none rfl (.tmp rfl rfl) (.cint rfl)) ?_
        refine RK.c (S.move .none rfl (.tmp rfl rfl)) ?_
        refine RK.splitD (t := 64) rfl (fun g64 => ?_) (fun g64 => ?_)
        ·
          exact absurd hj0 g64
        ·
          refine RK.c (S.move (.yes rfl rfl rfl rfl) rfl (.tmp rfl rfl)) ?_
          refine RK.c (S.move (.yes rfl rfl rfl rfl) rfl (.tmp rfl rfl)) ?_
          refine RK.c (S.call (ref9_Bound hJ) Tryz.call26 (.yes rfl rfl rfl rfl) rfl (.cons (.tmp rfl rfl) .nil) rfl) ?_
          refine RK.c (S.neq (.yes rfl rfl rfl rfl) rfl (.tmp rfl rfl) (.tmp rfl rfl)) ?_
          refine RK.c (S.pickF .none rfl (.tmp rfl rfl) (.tmp rfl rfl) rfl) ?_
          refine RK.c (S.move .none rfl (.tmp rfl rfl)) ?_
          refine RK.splitD (t := 70) rfl (fun g70 => ?_) (fun g70 => ?_)
          ·
            exact absurd hbe.symm g70
          ·
            refine RK.c (S.move (.yes rfl rfl rfl rfl) rfl (.tmp rfl rfl)) ?_
            refine RK.c (S.move (.yes rfl rfl rfl rfl) rfl (.tmp rfl rfl)) ?_
            refine RK.c (S.call (ref9_SetErr) Tryz.call27 (.yes rfl rfl rfl rfl) rfl (.cons (.tmp rfl rfl) (.cons (.tmp rfl rfl) .nil)) rfl) ?_
            refine RK.c (S.neq (.yes rfl rfl rfl rfl) rfl (.tmp rfl rfl) (.cint rfl)) ?_
            refine RK.c (S.pickF .none rfl (.tmp rfl rfl) (.tmp rfl rfl) rfl) ?_
            refine RK.c (S.move .none rfl (.tmp rfl rfl)) ?_
            refine RK.splitD (t := 76) rfl (fun g76 => ?_) (fun g76 => ?_)
            ·
              exact absurd hse g76
            ·
              refine RK.c (S.move (.yes rfl rfl rfl rfl) rfl (.tmp rfl rfl)) ?_
              refine RK.c (S.move (.yes rfl rfl rfl rfl) rfl (.tmp rfl rfl)) ?_
              refine RK.c (S.call (ref9_BoundFrom (s := (bndTo l l.length).2) hJ q2 hbn) Tryz.call28 (.yes rfl rfl rfl rfl) rfl (.cons (.tmp rfl rfl) (.cons (.tmp rfl rfl) .nil)) rfl) ?_
              refine RK.c (S.move (.yes rfl rfl rfl rfl) rfl (.tmp rfl rfl)) ?_
              refine RK.c (S.neq (.yes rfl rfl rfl rfl) rfl (.tmp rfl rfl) (.tmp rfl rfl)) ?_
              refine RK.c (S.pickF .none rfl (.tmp rfl rfl) (.tmp rfl rfl) rfl) ?_
              refine RK.nil ?_
              refine Ab.D.code ?_
              refine OK.condD rfl rfl (fun c82 => ?_) (fun c82 => ?_)
              ·
                exact absurd q4 c82
              ·
                refine OK.skip ?_
                refine Ab.D.code ?_
                refine OK.seq ?_
                refine OK.seq ?_
                refine OK.reg ?_
                refine RK.c (S.move .none rfl (.tmp rfl rfl)) ?_
                refine RK.c (S.move .none rfl (.tmp rfl rfl)) ?_
                refine RK.c (S.call (ref9_SetErr) Tryz.call27 .none rfl (.cons (.tmp rfl rfl) (.cons (.tmp rfl rfl) .nil)) rfl) ?_
                refine RK.c (S.assign .none rfl (.tmp rfl rfl)) ?_
                refine RK.nil ?_
                refine Ab.D.code ?_
                refine OK.seq ?_
                refine OK.reg ?_
                refine RK.c (S.move .none rfl (.tmp rfl rfl)) ?_
                refine RK.c (S.neq .none rfl (.tmp rfl rfl) (.cint rfl)) ?_
                refine RK.nil ?_
                refine Ab.D.code ?_
                refine OK.condD rfl rfl (fun c87 => ?_) (fun c87 => ?_)
                ·
                  have hcb : cbR l s = 0 := if_neg (by rw [hsc]; exact c87)
                  refine OK.seq ?_
                  refine OK.reg ?_
                  refine RK.c (S.move .none rfl (.tmp rfl rfl)) ?_
                  refine RK.c (S.move .none rfl (.tmp rfl rfl)) ?_
                  refine RK.c (S.eql .none rfl (.tmp rfl rfl) (.tmp rfl rfl)) ?_
                  refine RK.c (S.move .none rfl (.tmp rfl rfl)) ?_
                  refine RK.splitD (t := 91) rfl (fun g91 => ?_) (fun g91 => ?_)
                  ·
                    refine RK.c (S.move (.yes rfl rfl rfl rfl) rfl (.tmp rfl rfl)) ?_
                    refine RK.c (S.eql (.yes rfl rfl rfl rfl) rfl (.tmp rfl rfl) (.cint rfl)) ?_
                    refine RK.c (S.pickT .none rfl (.tmp rfl rfl) (.tmp rfl rfl) rfl) ?_
                    refine RK.c (S.assign .none rfl (.tmp rfl rfl)) ?_
                    refine RK.nil ?_
                    refine Ab.D.code ?_
                    refine OK.ret (Ret.r1 (.tmp rfl rfl (.c (.same rfl) rfl) rfl) ?_)
                    first | rfl | exact ret_dT rfl | exact ret_dT trivial | exact ret_dT hcb | (refine ret_dT ?_; rw [hcb]; exact hle)
                  ·
                    exact absurd hsc g91
                ·
                  have hs0 : setE l s = 0 := Decidable.not_not.1 c87
                  obtain ⟨u1, u2, u3⟩ := set_ok hs0
                  have hcb : cbR l s = boundFrom l s := if_pos (by rw [hsc]; exact hs0)
                  have hle := bound_le hJ (up_pre u2 u3) u1
                  refine OK.skip ?_
                  refine Ab.D.code ?_
                  refine OK.seq ?_
                  refine OK.reg ?_
                  refine RK.c (S.move .none rfl (.tmp rfl rfl)) ?_
                  refine RK.c (S.eql .none rfl (.tmp rfl rfl) (.cint rfl)) ?_
                  refine RK.c (S.move .none rfl (.tmp rfl rfl)) ?_
                  refine RK.splitD (t := 97) rfl (fun g97 => ?_) (fun g97 => ?_)
                  ·
                    refine RK.c (S.move (.yes rfl rfl rfl rfl) rfl (.tmp rfl rfl)) ?_
                    refine RK.c (S.move (.yes rfl rfl rfl rfl) rfl (.tmp rfl rfl)) ?_
                    refine RK.c (S.move (.yes rfl rfl rfl rfl) rfl (.tmp rfl rfl)) ?_
                    refine RK.c (S.call (ref9_BoundFrom hJ u2 (by omega)) Tryz.call28 (.yes rfl rfl rfl rfl) rfl (.cons (.tmp rfl rfl) (.cons (.tmp rfl rfl) .nil)) rfl) ?_
                    refine RK.c (S.eql (.yes rfl rfl rfl rfl) rfl (.tmp rfl rfl) (.tmp rfl rfl)) ?_
                    refine RK.c (S.pickT .none rfl (.tmp rfl rfl) (.tmp rfl rfl) rfl) ?_
                    refine RK.c (S.move .none rfl (.tmp rfl rfl)) ?_
                    refine RK.splitD (t := 104) rfl (fun g104 => ?_) (fun g104 => ?_)
                    ·
                      refine RK.c (S.move (.yes rfl rfl rfl rfl) rfl (.tmp rfl rfl)) ?_
                      refine RK.c (S.move (.yes rfl rfl rfl rfl) rfl (.tmp rfl rfl)) ?_
                      refine RK.c (S.leq (.yes rfl rfl rfl rfl) rfl (.tmp rfl rfl) (.tmp rfl rfl)) ?_
                      refine RK.c (S.pickT .none rfl (.tmp rfl rfl) (.tmp rfl rfl) rfl) ?_
                      refine RK.c (S.assign .none rfl (.tmp rfl rfl)) ?_
                      refine RK.nil ?_
                      refine Ab.D.code ?_
                      refine OK.ret (Ret.r1 (.tmp rfl rfl (.c (.same rfl) rfl) rfl) ?_)
                      first | rfl | exact ret_dT rfl | exact ret_dT trivial | exact ret_dT hcb | (refine ret_dT ?_; rw [hcb]; exact hle)
                    ·
                      exact absurd hcb g104
                  ·
                    exact absurd (by rw [hsc]; exact hs0) g97
end Go.Proofs.YtpfepjgnojfppaaGreatDoor
