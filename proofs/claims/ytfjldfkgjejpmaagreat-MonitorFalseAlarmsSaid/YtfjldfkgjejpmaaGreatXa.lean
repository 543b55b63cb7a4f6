/-
  False alarms are counted: the plain law.
-/
import Derived.Test.YtfjldfkgjejpmaaGreatSh
import Derived.Test.YtfjldfkgjejpmaaGreatFu
import Derived.Test.YtfjldfkgjejpmaaGreatWy
namespace Go.Proofs.YtfjldfkgjejpmaaGreat
open Go.Ab

/-- If what a test takes is closed downwards, and it takes a number only where at most m are at most as great, it takes at most m. -/
theorem down_few {l : List Int} {g : Int → Bool} {m : Nat} (hd : ∀ v w, v ≤ w → g w = true → g v = true) (hm : ∀ v ∈ l, g v = true → l.countP (fun y => decide (y ≤ v)) ≤ m) : l.countP g ≤ m := by
  have hs := sorted_asc l
  have hc := sorted_cnt l
  have hmem : ∀ v, v ∈ sorted l → v ∈ l := fun v h => (List.mergeSort_perm l _).mem_iff.1 h
  rw [← hc g]
  generalize sorted l = s at hs hc hmem
  rcases Nat.eq_zero_or_pos (s.countP g) with h0 | h0
  · omega
  have hn : s.countP g ≤ s.length := List.countP_le_length
  have hk : s.countP g - 1 < s.length := by omega
  by_cases hg : g s[s.countP g - 1] = true
  · have h1 := (asc_cnt hs hk).2
    have h2 := hm _ (hmem _ (List.getElem_mem hk)) hg
    rw [← hc] at h2
    omega
  · exfalso
    have e : (s.drop (s.countP g - 1)).countP g = 0 := by
      rw [List.countP_eq_zero]
      intro y hy
      obtain ⟨j, hj, rfl⟩ := List.getElem_of_mem hy
      rw [List.length_drop] at hj
      rw [List.getElem_drop]
      intro h3
      exact hg (hd _ _ (asc_le hs (Nat.le_add_right _ j) (by omega)) h3)
    have h4 := List.countP_append (p := g) (l₁ := s.take (s.countP g - 1)) (l₂ := s.drop (s.countP g - 1))
    have h5 := List.countP_le_length (p := g) (l := s.take (s.countP g - 1))
    rw [List.take_append_drop, e] at h4
    rw [List.length_take] at h5
    omega
theorem cnt_range (g : Int → Bool) (l : List Int) : ∀ k, k ≤ l.length → (List.range k).countP (fun i => g (l.getD i 0)) = (l.take k).countP g
  | 0, _ => rfl
  | k + 1, h => by
    rw [List.range_succ, List.countP_append, cnt_range g l k (by omega), cnt_snoc (show k < l.length by omega), List.countP_cons, List.countP_nil, Nat.zero_add, getD_of (by omega)]
theorem union_le {α β : Type} {l : List α} {P : α → Bool} (Q : β → α → Bool) {K : Nat} : ∀ (J : List β), (∀ j ∈ J, l.countP (Q j) ≤ K) → (∀ a ∈ l, P a = true → ∃ j ∈ J, Q j a = true) → l.countP P ≤ J.length * K
  | [], _, h => by
    have : l.countP P = 0 := by
      rw [List.countP_eq_zero]
      intro a ha hp
      obtain ⟨j, hj, _⟩ := h a ha hp
      cases hj
    omega
  | j :: J, hK, h => by
    have h1 := union_le (P := fun a => P a && !Q j a) Q J (fun i hi => hK i (List.mem_cons_of_mem _ hi)) fun a ha hp => by
      rw [Bool.and_eq_true, Bool.not_eq_true'] at hp
      obtain ⟨i, hi, hq⟩ := h a ha hp.1
      rcases List.mem_cons.1 hi with rfl | hi
      · rw [hp.2] at hq; cases hq
      · exact ⟨i, hi, hq⟩
    have h2 := hK j List.mem_cons_self
    have h3 : l.countP P ≤ l.countP (fun a => P a && !Q j a) + l.countP (Q j) := by
      clear h h1 h2 hK
      induction l with
      | nil => simp
      | cons a l ih =>
        rw [List.countP_cons, List.countP_cons, List.countP_cons]
        cases P a <;> cases Q j a <;> simp <;> omega
    rw [List.length_cons, Nat.succ_mul]
    omega
theorem up_few {l : List Int} {g : Int → Bool} {m : Nat} (hd : ∀ v w, v ≤ w → g v = true → g w = true) (hm : ∀ v ∈ l, g v = true → l.countP (fun y => decide (v ≤ y)) ≤ m) : l.countP g ≤ m := by
  have h := down_few (l := l.map fun v => -v) (g := fun v => g (-v)) (m := m) (fun v w h1 h2 => hd _ _ (by omega) h2) (by
    intro v hv hg
    obtain ⟨u, hu, rfl⟩ := List.mem_map.1 hv
    rw [Int.neg_neg] at hg
    have h1 := hm u hu hg
    rw [List.countP_map]
    refine Nat.le_trans (List.countP_mono_left fun y _ hy => ?_) h1
    simp only [Function.comp, decide_eq_true_eq] at hy ⊢
    omega)
  rw [List.countP_map] at h
  have e : (fun v => g (-v)) ∘ (fun v : Int => -v) = g := by funext v; simp
  rwa [e] at h
theorem col_others (l : List Record) (i t c : Nat) : col (others l i) t c = (col l t c).take i ++ (col l t c).drop (i + 1) := by
  simp [col, others, List.map_take, List.map_drop]
theorem cnt_others {l : List Int} {i : Nat} (h : i < l.length) (g : Int → Bool) : (l.take i ++ l.drop (i + 1)).countP g + (if g l[i] = true then 1 else 0) = l.countP g := by
  have h1 : l.take i ++ l[i] :: l.drop (i + 1) = l := by rw [← List.drop_eq_getElem_cons h, List.take_append_drop]
  have h2 := congrArg (List.countP g) h1
  rw [List.countP_append, List.countP_cons] at h2
  rw [List.countP_append]
  omega
def lowB (l : List Record) (trim : Int) (t c : Nat) (v : Int) : Bool := decide ((col l t c).countP (fun y => decide (y ≤ v)) ≤ trim.toNat + 1)
def highB (l : List Record) (trim : Int) (t c : Nat) (v : Int) : Bool := decide ((col l t c).countP (fun y => decide (v ≤ y)) ≤ trim.toNat + 1)
theorem low_few (l : List Record) (trim : Int) (t c : Nat) : (col l t c).countP (lowB l trim t c) ≤ trim.toNat + 1 := by
  refine down_few (fun v w h1 h2 => ?_) fun v _ h => of_decide_eq_true h
  have h3 := of_decide_eq_true h2
  refine decide_eq_true (Nat.le_trans (List.countP_mono_left fun y _ hy => ?_) h3)
  simp only [decide_eq_true_eq] at hy ⊢
  omega
theorem high_few (l : List Record) (trim : Int) (t c : Nat) : (col l t c).countP (highB l trim t c) ≤ trim.toNat + 1 := by
  refine up_few (fun v w h1 h2 => ?_) fun v _ h => of_decide_eq_true h
  have h3 := of_decide_eq_true h2
  refine decide_eq_true (Nat.le_trans (List.countP_mono_left fun y _ hy => ?_) h3)
  simp only [decide_eq_true_eq] at hy ⊢
  omega
theorem low_of {l : List Record} {trim : Int} {i t c : Nat} (hi : i < l.length) (ht : trim.toNat < l.length - 1) (h : (col l t c).getD i 0 < (rangeT (others l i) trim t c).lo) : lowB l trim t c ((col l t c).getD i 0) = true := by
  have hcl := col_len l t c
  have hol := others_len hi
  have hoc := col_len (others l i) t c
  have hsl := sorted_len (col (others l i) t c)
  unfold rangeT at h
  simp only at h
  rw [getD_of (show trim.toNat < (sorted (col (others l i) t c)).length by omega)] at h
  have h1 := (asc_cnt (sorted_asc (col (others l i) t c)) (show trim.toNat < (sorted (col (others l i) t c)).length by omega)).1
  rw [sorted_cnt] at h1
  rw [getD_of (by omega)] at h ⊢
  have h2 : (col (others l i) t c).countP (fun y => decide (y ≤ (col l t c)[i])) ≤ trim.toNat := Nat.le_trans (List.countP_mono_left fun y _ hy => by
    simp only [decide_eq_true_eq] at hy ⊢
    omega) h1
  rw [col_others] at h2
  have h3 := cnt_others (l := col l t c) (i := i) (by omega) fun y => decide (y ≤ (col l t c)[i])
  rw [if_pos (by simp)] at h3
  exact decide_eq_true (by omega)
theorem high_of {l : List Record} {trim : Int} {i t c : Nat} (hi : i < l.length) (h0 : 0 ≤ trim) (ht : trim.toNat < l.length - 1) (h : (rangeT (others l i) trim t c).hi < (col l t c).getD i 0) : highB l trim t c ((col l t c).getD i 0) = true := by
  have hcl := col_len l t c
  have hol := others_len hi
  have hoc := col_len (others l i) t c
  have hsl := sorted_len (col (others l i) t c)
  unfold rangeT at h
  simp only at h
  rw [getD_of (show (others l i).length - 1 - trim.toNat < (sorted (col (others l i) t c)).length by omega)] at h
  have h1 := asc_hi (sorted_asc (col (others l i) t c)) (show (others l i).length - 1 - trim.toNat < (sorted (col (others l i) t c)).length by omega)
  rw [sorted_cnt] at h1
  rw [getD_of (by omega)] at h ⊢
  have h2 : (col (others l i) t c).countP (fun y => decide ((col l t c)[i] ≤ y)) ≤ trim.toNat := Nat.le_trans (Nat.le_trans (List.countP_mono_left fun y _ hy => by
    simp only [decide_eq_true_eq] at hy ⊢
    omega) h1) (by omega)
  rw [col_others] at h2
  have h3 := cnt_others (l := col l t c) (i := i) (by omega) fun y => decide ((col l t c)[i] ≤ y)
  rw [if_pos (by simp)] at h3
  exact decide_eq_true (by omega)
theorem al_cell {p : Plan} {l : List Record} {trim : Int} {i : Nat} (hL : LearnT p l) (hi : i < l.length) (h0 : 0 ≤ trim) (ht : trim.toNat < l.length - 1) (h : isAl p l trim i = true) :
    ∃ t, t < p.ticks.toNat ∧ ∃ c, c < p.channels.length ∧ (lowB l trim t c ((col l t c).getD i 0) = true ∨ highB l trim t c ((col l t c).getD i 0) = true) := by
  refine Classical.byContradiction fun hn => ?_
  have hd : devT (envT p (others l i) trim) l[i] = [] := by
    refine devGo_nil _ 0 fun t ht2 c hc => ?_
    have hr := hL.whole.rows i hi
    have hv := hL.whole.vals i hi t ht2
    have hc2 : c < p.channels.length := by omega
    have htt : t < p.ticks.toNat := by omega
    have e1 : (envT p (others l i) trim).rows.getD t [] = rowT p (others l i) trim t := by rw [getD_at (by rw [env_len]; exact htt), env_get]
    rw [Nat.zero_add, e1, getD_at (by rw [row_len]; exact hc2), row_get]
    have e2 : (col l t c).getD i 0 = l[i].rows[t].values[c] := by rw [getD_of (by rw [col_len]; exact hi), col_get hi ht2 hc]
    have h1 : ¬ (col l t c).getD i 0 < (rangeT (others l i) trim t c).lo := fun h1 => hn ⟨t, htt, c, hc2, .inl (low_of hi ht h1)⟩
    have h2 : ¬ (rangeT (others l i) trim t c).hi < (col l t c).getD i 0 := fun h1 => hn ⟨t, htt, c, hc2, .inr (high_of hi h0 ht h1)⟩
    rw [e2] at h1 h2
    unfold devBy
    rw [if_neg (by omega), if_neg (by omega)]
    rfl
  rw [isAl, getD_at hi, hd] at h
  simp at h
theorem flatMap_len {α β : Type} (f : α → List β) (k : Nat) : ∀ (l : List α), (∀ a, (f a).length = k) → (l.flatMap f).length = l.length * k
  | [], _ => by simp
  | a :: l, h => by rw [List.flatMap_cons, List.length_append, flatMap_len f k l h, h a, List.length_cons, Nat.succ_mul]; omega
def cellsJ (T C : Nat) : List (Nat × Nat × Bool) := (List.range T).flatMap fun t => (List.range C).flatMap fun c => [(t, c, true), (t, c, false)]
theorem cellsJ_len (T C : Nat) : (cellsJ T C).length = T * (C * 2) := by
  unfold cellsJ
  rw [flatMap_len _ (C * 2), List.length_range]
  intro t
  rw [flatMap_len _ 2, List.length_range]
  intro c
  rfl
theorem cellsJ_mem {T C t c : Nat} (ht : t < T) (hc : c < C) (b : Bool) : (t, c, b) ∈ cellsJ T C := by
  unfold cellsJ
  rw [List.mem_flatMap]
  refine ⟨t, List.mem_range.2 ht, ?_⟩
  rw [List.mem_flatMap]
  refine ⟨c, List.mem_range.2 hc, ?_⟩
  cases b <;> simp
theorem al_few {p : Plan} {l : List Record} {trim : Int} (hL : LearnT p l) (h0 : 0 ≤ trim) (ht : trim.toNat < l.length - 1) : (alUp p l trim l.length).length ≤ p.ticks.toNat * (p.channels.length * 2) * (trim.toNat + 1) := by
  unfold alUp
  rw [List.length_map, ← List.countP_eq_length_filter, ← cellsJ_len]
  refine union_le (fun (j : Nat × Nat × Bool) i => (if j.2.2 = true then lowB l trim j.1 j.2.1 else highB l trim j.1 j.2.1) ((col l j.1 j.2.1).getD i 0)) _ (fun j _ => ?_) fun i hi h => ?_
  · obtain ⟨t, c, b⟩ := j
    have e := fun g => cnt_range g (col l t c) l.length (by rw [col_len]; exact Nat.le_refl _)
    have e2 : (col l t c).take l.length = col l t c := List.take_of_length_le (by rw [col_len]; exact Nat.le_refl _)
    cases b
    · show (List.range l.length).countP (fun i => highB l trim t c ((col l t c).getD i 0)) ≤ _
      rw [e, e2]
      exact high_few l trim t c
    · show (List.range l.length).countP (fun i => lowB l trim t c ((col l t c).getD i 0)) ≤ _
      rw [e, e2]
      exact low_few l trim t c
  · obtain ⟨t, h1, c, h2, h3⟩ := al_cell hL (List.mem_range.1 hi) h0 ht h
    rcases h3 with h3 | h3
    · exact ⟨(t, c, true), cellsJ_mem h1 h2 true, h3⟩
    · exact ⟨(t, c, false), cellsJ_mem h1 h2 false, h3⟩
/-- Never more alarms than twice one more than the trim, for each tick and channel. -/
theorem al_bound {p : Plan} {l : List Record} {trim : Int} (hL : LearnT p l) (h0 : 0 ≤ trim) (ht : trim.toNat < l.length - 1) : ((alUp p l trim l.length).length : Int) ≤ 2 * (trim + 1) * (p.channels.length * p.ticks) := by
  have hp := planErr_0 hL.plan
  have h1 := Int.ofNat_le.2 (al_few hL h0 ht)
  have e1 : (trim.toNat : Int) = trim := Int.toNat_of_nonneg h0
  have e2 : (p.ticks.toNat : Int) = p.ticks := Int.toNat_of_nonneg (by omega)
  have e3 : ((p.ticks.toNat * (p.channels.length * 2) * (trim.toNat + 1) : Nat) : Int) = p.ticks * (p.channels.length * 2) * (trim + 1) := by
    rw [Int.natCast_mul, Int.natCast_mul, Int.natCast_mul, Int.natCast_add, e1, e2]
    rfl
  rw [e3] at h1
  have e4 : p.ticks * (p.channels.length * 2) * (trim + 1) = 2 * (trim + 1) * (p.channels.length * p.ticks) := by ac_rfl
  omega
theorem gcdT_nat : ∀ (n m : Nat), gcdT (m : Int) (n : Int) = (Nat.gcd m n : Int) := by
  intro n
  induction n using Nat.strongRecOn with
  | ind n ih =>
    intro m
    rcases Nat.eq_zero_or_pos n with rfl | hn
    · rw [Nat.gcd_zero_right]; exact gcdT_0 _
    · rw [gcdT_step (by omega) (by omega) (by omega)]
      show gcdT (n : Int) ((m % n : Nat) : Int) = _
      rw [ih (m % n) (Nat.mod_lt _ hn) n, Nat.gcd_comm n (m % n), ← Nat.gcd_rec, Nat.gcd_comm]
/-- A fraction in lowest terms. -/
theorem low_gcd {a b : Int} (ha : 0 ≤ a) (hb : 1 ≤ b) : gcdT (a.tdiv (gcdT a b)) (b.tdiv (gcdT a b)) = 1 := by
  obtain ⟨m, rfl⟩ := Int.eq_ofNat_of_zero_le ha
  obtain ⟨n, rfl⟩ := Int.eq_ofNat_of_zero_le (show 0 ≤ b by omega)
  have hn : 0 < n := by omega
  rw [gcdT_nat]
  show gcdT ((m / Nat.gcd m n : Nat) : Int) ((n / Nat.gcd m n : Nat) : Int) = 1
  rw [gcdT_nat, Nat.gcd_div (Nat.gcd_dvd_left m n) (Nat.gcd_dvd_right m n), Nat.div_self (Nat.gcd_pos_of_pos_right m hn)]
  rfl
theorem low_den {a b : Int} (ha : 0 ≤ a) (hb : 1 ≤ b) : 1 ≤ b.tdiv (gcdT a b) := by
  obtain ⟨m, rfl⟩ := Int.eq_ofNat_of_zero_le ha
  obtain ⟨n, rfl⟩ := Int.eq_ofNat_of_zero_le (show 0 ≤ b by omega)
  have hn : 0 < n := by omega
  rw [gcdT_nat]
  show 1 ≤ ((n / Nat.gcd m n : Nat) : Int)
  have := Nat.div_pos (Nat.le_of_dvd hn (Nat.gcd_dvd_right m n)) (Nat.gcd_pos_of_pos_right m hn)
  omega
theorem low_le {a b n : Nat} (hn : 0 < n) (h : a ≤ b) : a / Nat.gcd a n * (n / Nat.gcd b n) ≤ b / Nat.gcd b n * (n / Nat.gcd a n) := by
  have g1 := Nat.gcd_pos_of_pos_right a hn
  have g2 := Nat.gcd_pos_of_pos_right b hn
  have e1 := Nat.mul_div_cancel' (Nat.gcd_dvd_left a n)
  have e2 := Nat.mul_div_cancel' (Nat.gcd_dvd_right a n)
  have e3 := Nat.mul_div_cancel' (Nat.gcd_dvd_left b n)
  have e4 := Nat.mul_div_cancel' (Nat.gcd_dvd_right b n)
  refine Nat.le_of_mul_le_mul_left (c := Nat.gcd a n * Nat.gcd b n) ?_ (Nat.mul_pos g1 g2)
  have h1 : Nat.gcd a n * Nat.gcd b n * (a / Nat.gcd a n * (n / Nat.gcd b n)) = (Nat.gcd a n * (a / Nat.gcd a n)) * (Nat.gcd b n * (n / Nat.gcd b n)) := by ac_rfl
  have h2 : Nat.gcd a n * Nat.gcd b n * (b / Nat.gcd b n * (n / Nat.gcd a n)) = (Nat.gcd b n * (b / Nat.gcd b n)) * (Nat.gcd a n * (n / Nat.gcd a n)) := by ac_rfl
  rw [h1, h2, e1, e2, e3, e4]
  exact Nat.mul_le_mul_right _ h
theorem low_cmp {a b n : Int} (h0 : 0 ≤ a) (h : a ≤ b) (hn : 1 ≤ n) : a.tdiv (gcdT a n) * n.tdiv (gcdT b n) ≤ b.tdiv (gcdT b n) * n.tdiv (gcdT a n) := by
  obtain ⟨a, rfl⟩ := Int.eq_ofNat_of_zero_le h0
  obtain ⟨b, rfl⟩ := Int.eq_ofNat_of_zero_le (show 0 ≤ b by omega)
  obtain ⟨n, rfl⟩ := Int.eq_ofNat_of_zero_le (show 0 ≤ n by omega)
  rw [gcdT_nat, gcdT_nat]
  show ((a / Nat.gcd a n : Nat) : Int) * ((n / Nat.gcd b n : Nat) : Int) ≤ ((b / Nat.gcd b n : Nat) : Int) * ((n / Nat.gcd a n : Nat) : Int)
  rw [← Int.natCast_mul, ← Int.natCast_mul]
  exact Int.ofNat_le.2 (low_le (by omega) (by omega))


end Go.Proofs.YtfjldfkgjejpmaaGreat
