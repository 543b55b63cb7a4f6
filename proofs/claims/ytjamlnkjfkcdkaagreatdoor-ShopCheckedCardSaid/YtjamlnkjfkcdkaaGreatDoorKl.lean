import Derived.Test.YtjamlnkjfkcdkaaGreatDoorKi
import Derived.Test.YtjamlnkjfkcdkaaGreatDoorTz
namespace Go.Proofs.YtjamlnkjfkcdkaaGreatDoor
open Go.Ab
theorem bath_lt {l : List Bath} (h : readE l = 0) : ∀ {j i : Nat}, i < j → (hj : j < l.length) → (hi : i < l.length) → l[i].tick < l[j].tick
  | 0, i, h0, _, _ => by omega
  | j + 1, i, h0, hj, hi => by
    have h1 := ((bath_get h).2.2 (j + 1) hj).2.2
    have h2 : l[j].tick < l[j + 1].tick := by
      rcases h1 with h1 | h1
      · omega
      · simp only [Nat.add_sub_cancel] at h1
        rw [getD_at (by omega)] at h1
        exact h1
    by_cases he : i = j
    · subst he; exact h2
    · have := bath_lt h (j := j) (i := i) (by omega) (by omega) hi
      omega
theorem floor_mul {p w : Int} (hw : 0 < w) : floorT (p * w) w = p := by
  unfold floorT
  rw [Int.mul_tmod_left, if_neg (by omega), Int.mul_tdiv_cancel _ (by omega)]
theorem bath_atT {l : List Bath} (hv : readE l = 0) {i : Nat} (hi : i < l.length) : bathE2 l l[i].tick = 0 ∧ bathT l l[i].tick = l[i].value := by
  obtain ⟨q1, q2, q3⟩ := bath_get hv
  have hle : ∀ {a b : Nat} (ha : a < l.length) (hb : b < l.length), a ≤ b → l[a].tick ≤ l[b].tick := fun {a b} ha hb hab => by
    by_cases e : a = b
    · subst e; omega
    · have := bath_lt hv (show a < b by omega) hb ha; omega
  have hin : inTick l l[i].tick = true := by
    refine decide_eq_true ?_
    rw [show nextTop l = l[l.length - 1] from getD_at (by omega), getD_at (by omega)]
    exact ⟨hle (by omega) hi (by omega), hle hi (by omega) (by omega)⟩
  have he : bathE2 l l[i].tick = 0 := by unfold bathE2; rw [if_neg (by omega), if_pos hin]
  refine ⟨he, ?_⟩
  obtain ⟨k, e1, e2, e3, e4, e5⟩ := bath_ix q1 hin
  rw [getD_at e3] at e4
  have hbt : bathT l l[i].tick = valT l[k] l[k + 1] l[i].tick := by unfold bathT; rw [if_pos he, e2, Nat.add_sub_cancel, getD_at (by omega), getD_at (by omega)]
  have hw := bath_lt hv (show k < k + 1 by omega) e3 (by omega)
  rw [hbt]
  by_cases h0 : i = k + 1
  · subst h0
    have h1 : ∀ p q w : Int, lineT p q w w = q * w := fun p q w => by unfold lineT; rw [Int.sub_mul]; omega
    simp only [valT, h1]
    rw [show ∀ q w : Int, 0 - q * w = -q * w from fun q w => by rw [Int.neg_mul]; omega, floor_mul (by omega), floor_mul (by omega)]
    show (⟨_, 0 - -l[k + 1].value.hi⟩ : Range) = _
    rw [show 0 - -l[k + 1].value.hi = l[k + 1].value.hi by omega]
  · have hik : i = k := by
      by_cases h1 : k + 1 ≤ i
      · exfalso
        have h2 := bath_lt hv (show k + 1 < i by omega) hi e3
        omega
      · by_cases h2 : i = k
        · exact h2
        · exfalso
          have h3 := e5 (k - 1) (by omega)
          rw [getD_at (by omega)] at h3
          simp only [show k - 1 + 1 = k by omega] at h3
          have h4 := bath_lt hv (show i < k by omega) (by omega) hi
          omega
    subst hik
    have h1 : ∀ p q w : Int, lineT p q w 0 = p * w := fun p q w => by unfold lineT; rw [Int.mul_zero]; omega
    simp only [valT, Int.sub_self, h1]
    rw [show ∀ q w : Int, 0 - q * w = -q * w from fun q w => by rw [Int.neg_mul]; omega, floor_mul (by omega), floor_mul (by omega)]
    show (⟨_, 0 - -l[i].value.hi⟩ : Range) = _
    rw [show 0 - -l[i].value.hi = l[i].value.hi by omega]
def beyT (a b : Bath) (r : Range) (t : Int) : Bool :=
  decide (b.value.lo * (b.tick - a.tick) + (b.value.lo - a.value.lo) * (t - b.tick) < r.lo * (b.tick - a.tick)) || decide (b.value.hi * (b.tick - a.tick) + (b.value.hi - a.value.hi) * (t - b.tick) > r.hi * (b.tick - a.tick))
theorem div_more {f A t : Int} (hf : 0 < f) (hA : 0 ≤ A) (ht : A.tdiv f + 1 ≤ t) : A < f * t := by
  rw [Int.tdiv_eq_ediv_of_nonneg hA] at ht
  have h1 := Int.lt_mul_ediv_self_add (x := A) (k := f) hf
  have h2 := Int.mul_le_mul_of_nonneg_left ht (show 0 ≤ f by omega)
  rw [Int.mul_add, Int.mul_one] at h2
  omega
theorem div_less {f A t : Int} (hf : 0 < f) (hA : 0 ≤ A) (ht : t ≤ A.tdiv f) : f * t ≤ A := by
  rw [Int.tdiv_eq_ediv_of_nonneg hA] at ht
  have h1 := Int.mul_ediv_self_le (x := A) (k := f) (by omega)
  have h2 := Int.mul_le_mul_of_nonneg_left ht (show 0 ≤ f by omega)
  omega
theorem lo_of {b r f w t : Int} : b * w + (0 - f) * t < r * w ↔ (b - r) * w < f * t := by
  have h1 := Int.sub_mul b r w
  have h2 := Int.sub_mul 0 f t
  rw [Int.zero_mul] at h2
  omega
theorem hi_of {b r f w t : Int} : b * w + f * t > r * w ↔ (r - b) * w < f * t := by
  have h1 := Int.sub_mul r b w
  omega
theorem fall_no {f A t : Int} (hf : ¬ 0 < f) (hA : 0 ≤ A) (ht : 0 ≤ t) : f * t ≤ A := by
  have := Int.mul_le_mul_of_nonneg_right (show f ≤ 0 by omega) ht
  rw [Int.zero_mul] at this
  omega
theorem beyT_iff {a b : Bath} {r : Range} {t : Int} : beyT a b r t = true ↔ (b.value.lo - r.lo) * (b.tick - a.tick) < fall0 a b * (t - b.tick) ∨ (r.hi - b.value.hi) * (b.tick - a.tick) < fall1 a b * (t - b.tick) := by
  unfold beyT
  rw [Bool.or_eq_true, decide_eq_true_eq, decide_eq_true_eq, hi_of, show b.value.lo - a.value.lo = 0 - fall0 a b by unfold fall0; omega, lo_of]
  rfl
structure NextOk (a b : Bath) (r : Range) : Prop where
  w : 0 < b.tick - a.tick ∧ b.tick - a.tick ≤ 100000
  bt : 0 ≤ b.tick ∧ b.tick ≤ 100000
  x : 0 ≤ b.value.lo - r.lo ∧ b.value.lo - r.lo ≤ 20000
  y : 0 ≤ r.hi - b.value.hi ∧ r.hi - b.value.hi ≤ 20000
theorem next_ok {l : List Bath} {r : Range} (hv : readE l = 0) (hr : limE r = 0) (hx : ¬ ((nextTop l).value.lo - r.lo < 0 ∨ r.hi - (nextTop l).value.hi < 0)) : NextOk (nextLow l) (nextTop l) r := by
  obtain ⟨q1, q2, q3⟩ := bath_get hv
  have h1 := bath_lt hv (show l.length - 2 < l.length - 1 by omega) (by omega) (by omega)
  have ha := q3 (l.length - 2) (by omega)
  have hb := q3 (l.length - 1) (by omega)
  have hlr := lim_ok hr
  rw [show nextTop l = l[l.length - 1] from getD_at (by omega)] at *
  rw [show nextLow l = l[l.length - 2] from getD_at (by omega)]
  obtain ⟨⟨ha1, ha2, ha3⟩, _⟩ := ha
  obtain ⟨⟨hb1, hb2, hb3⟩, _⟩ := hb
  exact ⟨by omega, by omega, by omega, by omega⟩
theorem next_is {l : List Bath} {r : Range} (hv : readE l = 0) (hr : limE r = 0) : nextE l r = 0 ∨ nextE l r = 22 ∨ nextE l r = 12 := by
  unfold nextE
  rw [if_neg (by omega), if_neg (by omega)]
  split
  · exact .inr (.inl rfl)
  · split
    · exact .inr (.inr rfl)
    · exact .inl rfl
theorem next_0 {l : List Bath} {r : Range} (hv : readE l = 0) (hr : limE r = 0) (h : nextE l r = 0) : ¬ ((nextTop l).value.lo - r.lo < 0 ∨ r.hi - (nextTop l).value.hi < 0) ∧ nfound (nextLow l) (nextTop l) 2 = true := by
  unfold nextE at h
  rw [if_neg (by omega), if_neg (by omega)] at h
  split at h
  · cases h
  · rename_i h1
    refine ⟨h1, ?_⟩
    split at h
    · cases h
    · rename_i h2
      cases hn : nfound (nextLow l) (nextTop l) 2 with
      | true => rfl
      | false => exact absurd (by rw [next_none r hn]; rfl) h2
theorem next_T {l : List Bath} {r : Range} (h : nextE l r = 0) (hn : nfound (nextLow l) (nextTop l) 2 = true) : nextT l r = nbest (nextLow l) (nextTop l) r 2 := by
  unfold nextT
  rw [if_pos h, (next_some r hn).2]
theorem nbest_cases {a b : Bath} {r : Range} (hn : nfound a b 2 = true) : (0 < fall0 a b ∧ nbest a b r 2 = nxt0 a b r ∨ 0 < fall1 a b ∧ nbest a b r 2 = nxt1 a b r) ∧ (0 < fall0 a b → nbest a b r 2 ≤ nxt0 a b r) ∧ (0 < fall1 a b → nbest a b r 2 ≤ nxt1 a b r) := by
  simp only [nfound, Bool.or_eq_true, decide_eq_true_eq] at hn
  simp only [nbest, minI]
  by_cases h0 : 0 < fall0 a b <;> by_cases h1 : 0 < fall1 a b
  · rw [if_pos h1, if_pos h0]
    split <;> refine ⟨by simp [*], fun _ => by omega, fun _ => by omega⟩
  · rw [if_neg h1, if_pos h0]; exact ⟨.inl ⟨h0, rfl⟩, fun _ => Int.le_refl _, fun h => absurd h h1⟩
  · rw [if_pos h1, if_neg h0]; exact ⟨.inr ⟨h1, rfl⟩, fun h => absurd h h0, fun _ => Int.le_refl _⟩
  · omega
theorem nxt_bd {a b : Bath} {r : Range} (h : NextOk a b r) : (0 < fall0 a b → b.tick + 1 ≤ nxt0 a b r ∧ nxt0 a b r ≤ 2000100001) ∧ (0 < fall1 a b → b.tick + 1 ≤ nxt1 a b r ∧ nxt1 a b r ≤ 2000100001) := by
  obtain ⟨h1, h2, h3, h4⟩ := h
  constructor
  · intro hf
    have := leave_bd h3 hf ⟨by omega, h1.2⟩
    unfold nxt0 leaveT
    omega
  · intro hf
    have := leave_bd h4 hf ⟨by omega, h1.2⟩
    unfold nxt1 leaveT
    omega
theorem next_chk {l : List Bath} {r : Range} (hv : readE l = 0) (hr : limE r = 0) (he : nextE l r = 0) : ((nextTop l).tick + 1 ≤ nextT l r ∧ nextT l r ≤ 2000100001) ∧ beyT (nextLow l) (nextTop l) r (nextT l r - 1) = false ∧ beyT (nextLow l) (nextTop l) r (nextT l r) = true := by
  obtain ⟨h1, hn⟩ := next_0 hv hr he
  have hok := next_ok hv hr h1
  rw [next_T he hn]
  obtain ⟨c1, c2, c3⟩ := nbest_cases (r := r) hn
  obtain ⟨b1, b2⟩ := nxt_bd hok
  have hA0 := Int.mul_nonneg hok.x.1 (show 0 ≤ (nextTop l).tick - (nextLow l).tick by have := hok.w; omega)
  have hA1 := Int.mul_nonneg hok.y.1 (show 0 ≤ (nextTop l).tick - (nextLow l).tick by have := hok.w; omega)
  have hbd : (nextTop l).tick + 1 ≤ nbest (nextLow l) (nextTop l) r 2 ∧ nbest (nextLow l) (nextTop l) r 2 ≤ 2000100001 := by
    rcases c1 with ⟨c, e⟩ | ⟨c, e⟩
    · rw [e]; exact b1 c
    · rw [e]; exact b2 c
  refine ⟨hbd, ?_, ?_⟩
  · rw [Bool.eq_false_iff]
    intro hb
    rcases beyT_iff.1 hb with hb | hb
    · by_cases hf : 0 < fall0 (nextLow l) (nextTop l)
      · have h4 := c2 hf
        unfold nxt0 leaveT at h4
        have := div_less hf hA0 (t := nbest (nextLow l) (nextTop l) r 2 - 1 - (nextTop l).tick) (by omega)
        omega
      · have := fall_no hf hA0 (t := nbest (nextLow l) (nextTop l) r 2 - 1 - (nextTop l).tick) (by omega)
        omega
    · by_cases hf : 0 < fall1 (nextLow l) (nextTop l)
      · have h4 := c3 hf
        unfold nxt1 leaveT at h4
        have := div_less hf hA1 (t := nbest (nextLow l) (nextTop l) r 2 - 1 - (nextTop l).tick) (by omega)
        omega
      · have := fall_no hf hA1 (t := nbest (nextLow l) (nextTop l) r 2 - 1 - (nextTop l).tick) (by omega)
        omega
  · refine beyT_iff.2 ?_
    rcases c1 with ⟨c, e⟩ | ⟨c, e⟩
    · refine .inl (div_more c hA0 ?_)
      rw [e]; unfold nxt0 leaveT; omega
    · refine .inr (div_more c hA1 ?_)
      rw [e]; unfold nxt1 leaveT; omega
theorem leave_more {last x y f w : Int} (hx : 0 ≤ x) (h : x ≤ y) (hf : 0 < f) (hw : 0 ≤ w) : leaveT last x f w ≤ leaveT last y f w := by
  have h1 := Int.mul_le_mul_of_nonneg_right h hw
  have h2 := Int.mul_nonneg hx hw
  unfold leaveT
  rw [Int.tdiv_eq_ediv_of_nonneg h2, Int.tdiv_eq_ediv_of_nonneg (by omega)]
  have := Int.ediv_le_ediv hf h1
  omega
theorem next_wide {l : List Bath} {r : Range} {m : Int} (hv : readE l = 0) (hr : limE r = 0) (he : nextE l r = 0) (hm : 0 ≤ m) (hr2 : limE ⟨r.lo - m, r.hi + m⟩ = 0) : nextE l ⟨r.lo - m, r.hi + m⟩ = 0 ∧ nextT l r ≤ nextT l ⟨r.lo - m, r.hi + m⟩ := by
  obtain ⟨h1, hn⟩ := next_0 hv hr he
  have hok := next_ok hv hr h1
  have h2 : nextE l ⟨r.lo - m, r.hi + m⟩ = 0 := by
    unfold nextE
    rw [if_neg (by omega), if_neg (by omega), if_neg (by show ¬ ((nextTop l).value.lo - (r.lo - m) < 0 ∨ r.hi + m - (nextTop l).value.hi < 0); omega), if_neg (next_some _ hn).1]
  refine ⟨h2, ?_⟩
  rw [next_T he hn, next_T h2 hn]
  obtain ⟨c1, _⟩ := nbest_cases (r := ⟨r.lo - m, r.hi + m⟩) hn
  obtain ⟨_, c2, c3⟩ := nbest_cases (r := r) hn
  have hw := hok.w
  rcases c1 with ⟨c, e⟩ | ⟨c, e⟩
  · have h3 := leave_more (last := (nextTop l).tick) (f := fall0 (nextLow l) (nextTop l)) (w := (nextTop l).tick - (nextLow l).tick) hok.x.1 (show (nextTop l).value.lo - r.lo ≤ (nextTop l).value.lo - (r.lo - m) by omega) c (by omega)
    have h4 := c2 c
    have h5 : nxt0 (nextLow l) (nextTop l) r ≤ nxt0 (nextLow l) (nextTop l) ⟨r.lo - m, r.hi + m⟩ := h3
    omega
  · have h3 := leave_more (last := (nextTop l).tick) (f := fall1 (nextLow l) (nextTop l)) (w := (nextTop l).tick - (nextLow l).tick) hok.y.1 (show r.hi - (nextTop l).value.hi ≤ r.hi + m - (nextTop l).value.hi by omega) c (by omega)
    have h4 := c3 c
    have h5 : nxt1 (nextLow l) (nextTop l) r ≤ nxt1 (nextLow l) (nextTop l) ⟨r.lo - m, r.hi + m⟩ := h3
    omega
structure BeyOk (a b : Bath) (r : Range) (t : Int) : Prop where
  a1 : (-10000 ≤ a.value.lo ∧ a.value.lo ≤ 10000) ∧ (-10000 ≤ a.value.hi ∧ a.value.hi ≤ 10000)
  b1 : (-10000 ≤ b.value.lo ∧ b.value.lo ≤ 10000) ∧ (-10000 ≤ b.value.hi ∧ b.value.hi ≤ 10000)
  r1 : (-10000 ≤ r.lo ∧ r.lo ≤ 10000) ∧ (-10000 ≤ r.hi ∧ r.hi ≤ 10000)
  at1 : 0 ≤ a.tick ∧ a.tick ≤ 100000
  bt : 0 ≤ b.tick ∧ b.tick ≤ 100000
  w : 0 ≤ b.tick - a.tick ∧ b.tick - a.tick ≤ 100000
  t1 : 0 ≤ t - b.tick ∧ t - b.tick ≤ 2000100001
theorem bey_ok {l : List Bath} {r : Range} (hv : readE l = 0) (hr : limE r = 0) {t : Int} (ht : (nextTop l).tick ≤ t ∧ t ≤ 2000100001) : BeyOk (nextLow l) (nextTop l) r t := by
  obtain ⟨q1, q2, q3⟩ := bath_get hv
  have h1 := bath_lt hv (show l.length - 2 < l.length - 1 by omega) (by omega) (by omega)
  have ha := q3 (l.length - 2) (by omega)
  have hb := q3 (l.length - 1) (by omega)
  have hlr := lim_ok hr
  rw [show nextTop l = l[l.length - 1] from getD_at (by omega)] at *
  rw [show nextLow l = l[l.length - 2] from getD_at (by omega)]
  obtain ⟨⟨ha1, ha2, ha3⟩, _⟩ := ha
  obtain ⟨⟨hb1, hb2, hb3⟩, _⟩ := hb
  exact ⟨⟨ha2, ha3⟩, ⟨hb2, hb3⟩, hlr.1, ha1, hb1, by omega, by omega⟩
theorem law9_beyond {a b : Bath} {r : Range} {t : Int} (h0 : BeyOk a b r t) : Ct Tryz.prog 52 [.agg a.cs, .agg b.cs, .agg r.cs, .int .i64 t] (.bool (beyT a b r t)) := by
  refine Ct.intro (rs := [.tmp 8]) Tryz.func52 rfl Tryz.ntmps52 Tryz.results52 rfl rfl rfl fun w h => ?_
  obtain ⟨⟨a1, a2⟩, ⟨b1, b2⟩, ⟨r1, r2⟩, at1, bt1, w1, t1⟩ := h0
  have m1 := mul_abs (c := b.tick - a.tick) (v := b.value.lo) (C := 100000) (V := 10000) w1 b1
  rw [Int.mul_comm (b.tick - a.tick) b.value.lo] at m1
  have m2 := mul_abs (c := b.tick - a.tick) (v := b.value.hi) (C := 100000) (V := 10000) w1 b2
  rw [Int.mul_comm (b.tick - a.tick) b.value.hi] at m2
  have m3 := mul_abs (c := t - b.tick) (v := b.value.lo - a.value.lo) (C := 2000100001) (V := 20000) t1 (by omega)
  rw [Int.mul_comm (t - b.tick) (b.value.lo - a.value.lo)] at m3
  have m4 := mul_abs (c := t - b.tick) (v := b.value.hi - a.value.hi) (C := 2000100001) (V := 20000) t1 (by omega)
  rw [Int.mul_comm (t - b.tick) (b.value.hi - a.value.hi)] at m4
  have m5 := mul_abs (c := b.tick - a.tick) (v := r.lo) (C := 100000) (V := 10000) w1 r1
  rw [Int.mul_comm (b.tick - a.tick) r.lo] at m5
  have m6 := mul_abs (c := b.tick - a.tick) (v := r.hi) (C := 100000) (V := 10000) w1 r2
  rw [Int.mul_comm (b.tick - a.tick) r.hi] at m6
  refine OK.seq ?_
  refine OK.reg ?_
  refine RK.c (S.box (k := 4) rfl .none rfl (.tmp rfl rfl) rfl) ?_
  refine RK.c (S.box (k := 5) rfl .none rfl (.tmp rfl rfl) rfl) ?_
  refine RK.c (S.box (k := 6) rfl .none rfl (.tmp rfl rfl) rfl) ?_
  refine RK.c (S.assign .none rfl .cbool) ?_
  refine RK.nil ?_
  refine Ab.D.code ?_
  refine OK.seq ?_
  refine OK.regionDraw follows (.c (S.bfield fi88_0 .none rfl (.tmp rfl rfl))
    (.c (S.bload1 ti3 .none rfl (.tmp rfl rfl) rfl rfl rfl rfl)
    (.c (S.bfield fi88_0 .none rfl (.tmp rfl rfl))
    (.c (S.bload1 ti3 .none rfl (.tmp rfl rfl) rfl rfl rfl rfl)
    (.c (S.sub .none rfl (.tmp rfl rfl) (.tmp rfl rfl) (IntWalk.i64_in _ (by omega)) (IntWalk.i64_in _ (by omega)))
    (.c (S.move .none rfl (.tmp rfl rfl))
    (.c (S.bfield fi88_0 .none rfl (.tmp rfl rfl))
    (.c (S.bload1 ti3 .none rfl (.tmp rfl rfl) rfl rfl rfl rfl)
    (.c (S.sub .none rfl (.tmp rfl rfl) (.tmp rfl rfl) (IntWalk.i64_in _ (by omega)) (IntWalk.i64_in _ (by omega)))
    (.c (S.assign .none rfl (.tmp rfl rfl))
    (.c (S.assign .none rfl (.tmp rfl rfl))
    .nil))))))))))) (by kernel_rfl) ?_
  refine Ab.D.code ?_
  refine OK.seq ?_
  refine OK.reg ?_
  refine RK.c (S.bfield fi88_1 .none rfl (.tmp rfl rfl)) ?_
  refine RK.c (S.bfield fi53_0 .none rfl (.tmp rfl rfl)) ?_
  refine RK.c (S.bload1 ti3 .none rfl (.tmp rfl rfl) rfl rfl rfl rfl) ?_
  refine RK.c (S.move .none rfl (.tmp rfl rfl)) ?_
  refine RK.c (S.mul .none rfl (.tmp rfl rfl) (.tmp rfl rfl) (IntWalk.i64_in _ (by omega)) (IntWalk.i64_in _ (by omega))) ?_
  refine RK.c (S.bfield fi88_1 .none rfl (.tmp rfl rfl)) ?_
  refine RK.c (S.bfield fi53_0 .none rfl (.tmp rfl rfl)) ?_
  refine RK.c (S.bload1 ti3 .none rfl (.tmp rfl rfl) rfl rfl rfl rfl) ?_
  refine RK.c (S.bfield fi88_1 .none rfl (.tmp rfl rfl)) ?_
  refine RK.c (S.bfield fi53_0 .none rfl (.tmp rfl rfl)) ?_
  refine RK.c (S.bload1 ti3 .none rfl (.tmp rfl rfl) rfl rfl rfl rfl) ?_
  refine RK.c (S.sub .none rfl (.tmp rfl rfl) (.tmp rfl rfl) (IntWalk.i64_in _ (by omega)) (IntWalk.i64_in _ (by omega))) ?_
  refine RK.c (S.move .none rfl (.tmp rfl rfl)) ?_
  refine RK.c (S.mul .none rfl (.tmp rfl rfl) (.tmp rfl rfl) (IntWalk.i64_in _ (by omega)) (IntWalk.i64_in _ (by omega))) ?_
  refine RK.c (S.add .none rfl (.tmp rfl rfl) (.tmp rfl rfl) (IntWalk.i64_in _ (by omega)) (IntWalk.i64_in _ (by omega))) ?_
  refine RK.c (S.assign .none rfl (.tmp rfl rfl)) ?_
  refine RK.nil ?_
  refine Ab.D.code ?_
  refine OK.seq ?_
  refine OK.reg ?_
  refine RK.c (S.bfield fi88_1 .none rfl (.tmp rfl rfl)) ?_
  refine RK.c (S.bfield fi53_1 .none rfl (.tmp rfl rfl)) ?_
  refine RK.c (S.bload1 ti3 .none rfl (.tmp rfl rfl) rfl rfl rfl rfl) ?_
  refine RK.c (S.move .none rfl (.tmp rfl rfl)) ?_
  refine RK.c (S.mul .none rfl (.tmp rfl rfl) (.tmp rfl rfl) (IntWalk.i64_in _ (by omega)) (IntWalk.i64_in _ (by omega))) ?_
  refine RK.c (S.bfield fi88_1 .none rfl (.tmp rfl rfl)) ?_
  refine RK.c (S.bfield fi53_1 .none rfl (.tmp rfl rfl)) ?_
  refine RK.c (S.bload1 ti3 .none rfl (.tmp rfl rfl) rfl rfl rfl rfl) ?_
  refine RK.c (S.bfield fi88_1 .none rfl (.tmp rfl rfl)) ?_
  refine RK.c (S.bfield fi53_1 .none rfl (.tmp rfl rfl)) ?_
  refine RK.c (S.bload1 ti3 .none rfl (.tmp rfl rfl) rfl rfl rfl rfl) ?_
  refine RK.c (S.sub .none rfl (.tmp rfl rfl) (.tmp rfl rfl) (IntWalk.i64_in _ (by omega)) (IntWalk.i64_in _ (by omega))) ?_
  refine RK.c (S.move .none rfl (.tmp rfl rfl)) ?_
  refine RK.c (S.mul .none rfl (.tmp rfl rfl) (.tmp rfl rfl) (IntWalk.i64_in _ (by omega)) (IntWalk.i64_in _ (by omega))) ?_
  refine RK.c (S.add .none rfl (.tmp rfl rfl) (.tmp rfl rfl) (IntWalk.i64_in _ (by omega)) (IntWalk.i64_in _ (by omega))) ?_
  refine RK.c (S.assign .none rfl (.tmp rfl rfl)) ?_
  refine RK.nil ?_
  refine Ab.D.code ?_
  refine OK.seq ?_
  refine OK.reg ?_
  refine RK.c (S.move .none rfl (.tmp rfl rfl)) ?_
  refine RK.c (S.bfield fi53_0 .none rfl (.tmp rfl rfl)) ?_
  refine RK.c (S.bload1 ti3 .none rfl (.tmp rfl rfl) rfl rfl rfl rfl) ?_
  refine RK.c (S.move .none rfl (.tmp rfl rfl)) ?_
  refine RK.c (S.mul .none rfl (.tmp rfl rfl) (.tmp rfl rfl) (IntWalk.i64_in _ (by omega)) (IntWalk.i64_in _ (by omega))) ?_
  refine RK.c (S.lss .none rfl (.tmp rfl rfl) (.tmp rfl rfl)) ?_
  refine RK.c (S.move .none rfl (.tmp rfl rfl)) ?_
  refine RK.splitD (t := 58) rfl (fun g58 => ?_) (fun g58 => ?_)
  ·
    refine RK.c (S.skip rfl rfl rfl rfl rfl) ?_
    refine RK.c (S.skip rfl rfl rfl rfl rfl) ?_
    refine RK.c (S.skip rfl rfl rfl rfl rfl) ?_
    refine RK.c (S.skip rfl rfl rfl rfl rfl) ?_
    refine RK.c (S.skip rfl rfl rfl rfl rfl) ?_
    refine RK.c (S.skip rfl rfl rfl rfl rfl) ?_
    refine RK.c (S.pickT .none rfl (.tmp rfl rfl) .cbool rfl) ?_
    refine RK.c (S.assign .none rfl (.tmp rfl rfl)) ?_
    refine RK.nil ?_
    refine Ab.D.code ?_
    refine OK.ret (Ret.r1 (.tmp rfl rfl (.c (.same rfl) rfl) rfl) ?_)
    refine ret_b ?_
    unfold beyT
    first | (rw [decide_eq_true g58]; rfl) | (rw [decide_eq_false g58]; rfl)
  ·
    refine RK.c (S.move (.yes rfl rfl rfl rfl) rfl (.tmp rfl rfl)) ?_
    refine RK.c (S.bfield fi53_1 (.yes rfl rfl rfl rfl) rfl (.tmp rfl rfl)) ?_
    refine RK.c (S.bload1 ti3 (.yes rfl rfl rfl rfl) rfl (.tmp rfl rfl) rfl rfl rfl rfl) ?_
    refine RK.c (S.move (.yes rfl rfl rfl rfl) rfl (.tmp rfl rfl)) ?_
    refine RK.c (S.mul (.yes rfl rfl rfl rfl) rfl (.tmp rfl rfl) (.tmp rfl rfl) (IntWalk.i64_in _ (by omega)) (IntWalk.i64_in _ (by omega))) ?_
    refine RK.c (S.gtr (.yes rfl rfl rfl rfl) rfl (.tmp rfl rfl) (.tmp rfl rfl)) ?_
    refine RK.c (S.pickF .none rfl (.tmp rfl rfl) (.tmp rfl rfl) rfl) ?_
    refine RK.c (S.assign .none rfl (.tmp rfl rfl)) ?_
    refine RK.nil ?_
    refine Ab.D.code ?_
    refine OK.ret (Ret.r1 (.tmp rfl rfl (.c (.same rfl) rfl) rfl) ?_)
    refine ret_b ?_
    unfold beyT
    first | (rw [decide_eq_true g58]; rfl) | (rw [decide_eq_false g58]; rfl)
set_option maxHeartbeats 1000000 in
theorem law_ShopChecked {l : List Bath} {r : Range} {m : Int} : Ct Tryz.prog 8 [.sl (l.map Bath.cs), .agg r.cs, .int .i64 m] (.bool true) := by
  refine Ct.intro (rs := [.tmp 6]) Tryz.func8 rfl Tryz.ntmps8 Tryz.results8 rfl rfl rfl fun w h => ?_
  refine OK.seq ?_
  refine OK.reg ?_
  refine RK.c (S.box (k := 4) rfl .none rfl (.tmp rfl rfl) rfl) ?_
  refine RK.c (S.assign .none rfl .cbool) ?_
  refine RK.nil ?_
  refine Ab.D.code ?_
  refine OK.seq ?_
  refine OK.seq ?_
  refine OK.reg ?_
  refine RK.c (S.call (law9_awake) Tryz.call15 .none rfl .nil rfl) ?_
  refine RK.c (S.not .none rfl (.tmp rfl rfl)) ?_
  refine RK.nil ?_
  refine Ab.D.code ?_
  refine OK.condF rfl rfl rfl ?_
  refine OK.skip ?_
  refine Ab.D.code ?_
  refine OK.seq ?_
  refine OK.seq ?_
  refine OK.reg ?_
  refine RK.c (S.move .none rfl (.tmp rfl rfl)) ?_
  refine RK.c (S.call (ref9_BathErr) Tryz.call48 .none rfl (.cons (.tmp rfl rfl) .nil) rfl) ?_
  refine RK.c (S.neq .none rfl (.tmp rfl rfl) (.cint rfl)) ?_
  refine RK.c (S.move .none rfl (.tmp rfl rfl)) ?_
  refine RK.splitD (t := 22) rfl (fun g22 => ?_) (fun g22 => ?_)
  ·
    refine RK.c (S.skip rfl rfl rfl rfl rfl) ?_
    refine RK.c (S.skip rfl rfl rfl rfl rfl) ?_
    refine RK.c (S.skip rfl rfl rfl rfl rfl) ?_
    refine RK.c (S.pickT .none rfl (.tmp rfl rfl) .cbool rfl) ?_
    refine RK.c (S.move .none rfl (.tmp rfl rfl)) ?_
    refine RK.c (S.skip rfl rfl rfl rfl rfl) ?_
    refine RK.c (S.skip rfl rfl rfl rfl rfl) ?_
    refine RK.c (S.skip rfl rfl rfl rfl rfl) ?_
    refine RK.c (S.pickT .none rfl (.tmp rfl rfl) .cbool rfl) ?_
    refine RK.nil ?_
    refine Ab.D.code ?_
    refine OK.condT rfl rfl rfl ?_
    refine OK.seq ?_
    refine OK.reg ?_
    refine RK.c (S.assign .none rfl .cbool) ?_
    refine RK.nil ?_
    refine Ab.D.code ?_
    refine OK.ret (Ret.r1 (.tmp rfl rfl (.c (.same rfl) rfl) rfl) ?_)
    first | rfl | exact ret_dT rfl | exact ret_dT hge | exact ret_dT (by omega)
  ·
    refine RK.c (S.bloadN ti53 (.yes rfl rfl rfl rfl) rfl (.tmp rfl rfl) rfl rfl rfl rfl) ?_
    refine RK.c (S.call (ref9_LimitsErr) Tryz.call34 (.yes rfl rfl rfl rfl) rfl (.cons (.tmp rfl rfl) .nil) rfl) ?_
    refine RK.c (S.neq (.yes rfl rfl rfl rfl) rfl (.tmp rfl rfl) (.cint rfl)) ?_
    refine RK.c (S.pickF .none rfl (.tmp rfl rfl) (.tmp rfl rfl) rfl) ?_
    refine RK.c (S.move .none rfl (.tmp rfl rfl)) ?_
    refine RK.splitD (t := 27) rfl (fun g27 => ?_) (fun g27 => ?_)
    ·
      refine RK.c (S.skip rfl rfl rfl rfl rfl) ?_
      refine RK.c (S.skip rfl rfl rfl rfl rfl) ?_
      refine RK.c (S.skip rfl rfl rfl rfl rfl) ?_
      refine RK.c (S.pickT .none rfl (.tmp rfl rfl) .cbool rfl) ?_
      refine RK.nil ?_
      refine Ab.D.code ?_
      refine OK.condT rfl rfl rfl ?_
      refine OK.seq ?_
      refine OK.reg ?_
      refine RK.c (S.assign .none rfl .cbool) ?_
      refine RK.nil ?_
      refine Ab.D.code ?_
      refine OK.ret (Ret.r1 (.tmp rfl rfl (.c (.same rfl) rfl) rfl) ?_)
      first | rfl | exact ret_dT rfl | exact ret_dT hge | exact ret_dT (by omega)
    ·
      refine RK.c (S.move (.yes rfl rfl rfl rfl) rfl (.tmp rfl rfl)) ?_
      refine RK.c (S.call (base_Within) Tryz.call27 (.yes rfl rfl rfl rfl) rfl (.cons (.tmp rfl rfl) (.cons (.cint rfl) (.cons (.cint rfl) .nil))) rfl) ?_
      refine RK.c (S.notD (.yes rfl rfl rfl rfl) rfl (.tmp rfl rfl)) ?_
      refine RK.c (S.pickF .none rfl (.tmp rfl rfl) (.tmp rfl rfl) rfl) ?_
      refine RK.nil ?_
      refine Ab.D.code ?_
      refine OK.condD rfl rfl (fun c31 => ?_) (fun c31 => ?_)
      ·
        refine OK.seq ?_
        refine OK.reg ?_
        refine RK.c (S.assign .none rfl .cbool) ?_
        refine RK.nil ?_
        refine Ab.D.code ?_
        refine OK.ret (Ret.r1 (.tmp rfl rfl (.c (.same rfl) rfl) rfl) ?_)
        first | rfl | exact ret_dT rfl | exact ret_dT hge | exact ret_dT (by omega)
      ·
        have hv : readE l = 0 := Decidable.not_not.1 g22
        have hr : limE r = 0 := Decidable.not_not.1 g27
        have hm : 0 ≤ m ∧ m ≤ 1000 := Decidable.not_not.1 c31
        obtain ⟨q1, q2, q3⟩ := bath_get hv
        have hgl : nextLow l = l[l.length - 2] := getD_at (by omega)
        have hgt : nextTop l = l[l.length - 1] := getD_at (by omega)
        refine OK.skip ?_
        refine Ab.D.code ?_
        refine OK.seq ?_
        refine OK.seq ?_
        refine OK.reg ?_
        refine RK.c (S.assign .none rfl (.cint rfl)) ?_
        refine RK.nil ?_
        refine Ab.D.code ?_
        refine OK.block ?_
        refine OK.loop (G := Nat) [4] (fun i => [(0, .sl (l.map Bath.cs)), (2, .int .i64 m), (4, .ptr 4 0), (1004, .box r.cs), (7, .int .i64 i)]) (fun i => i ≤ l.length) (fun i => l.length - i) 0 (Nat.zero_le _) ⟨rfl, rfl, rfl, rfl, rfl, trivial⟩ (fun _ => rfl) ?_
        rintro i hi
        refine OK.seq ?_
        refine OK.seq ?_
        refine OK.reg ?_
        refine RK.c (S.move .none rfl (.tmp rfl rfl)) ?_
        refine RK.c (S.move .none rfl (.tmp rfl rfl)) ?_
        refine RK.c (S.lenM si77 .none rfl (.tmp rfl rfl)) ?_
        refine RK.c (S.lss .none rfl (.tmp rfl rfl) (.tmp rfl rfl)) ?_
        refine RK.nil ?_
        refine Ab.D.code ?_
        refine OK.condD rfl rfl (fun c35 => ?_) (fun c35 => ?_)
        ·
          have hil : i < l.length := by omega
          obtain ⟨hbe, hbt⟩ := bath_atT hv hil
          refine OK.skip ?_
          refine Ab.D.code ?_
          refine OK.seq ?_
          refine OK.block ?_
          refine OK.seq ?_
          refine OK.regionDraw follows (.c (S.move .none rfl (.tmp rfl rfl))
            (.c (S.call (ref9_CopyBath (by omega)) Tryz.call46 .none rfl (.cons (.tmp rfl rfl) .nil) rfl)
            (.c (S.move .none rfl (.tmp rfl rfl))
            (.c (S.move .none rfl (.tmp rfl rfl))
            (.c (S.indexM (n := i) si77 .none rfl (.tmp rfl rfl) (.tmp rfl rfl) rfl (by omega) rfl)
            (.c (S.field fi88_0 .none rfl (.tmp rfl rfl) rfl)
            (.c (S.load1 ti3 .none rfl (.tmp rfl rfl) rfl)
            (.c (S.call (shp_BathAt) Tryz.call45 .none rfl (.cons (.tmp rfl rfl) (.cons (.tmp rfl rfl) .nil)) rfl)
            (.c (S.move .none rfl (.tmp rfl rfl))
            (.c (S.extract .none rfl (.tmp rfl rfl) rfl rfl)
            (.c (S.extract .none rfl (.tmp rfl rfl) rfl rfl)
            (.c (S.alloc (k := 8) ze53 rfl .none rfl)
            (.c (S.store ti53 .none (.tmp rfl rfl) (.tmp rfl rfl) rfl rfl rfl rfl rfl rfl)
            (.c (S.assign .none rfl (.tmp rfl rfl))
            .nil)))))))))))))) (by kernel_rfl) ?_
          refine Ab.D.code ?_
          refine OK.seq ?_
          rw [hbe, hbt]
          refine OK.regionDraw follows (.c (S.move .none rfl (.tmp rfl rfl))
            (.c (S.neq .none rfl (.tmp rfl rfl) (.cint rfl))
            (.c (S.move .none rfl (.tmp rfl rfl))
            (.c (S.bloadN ti53 (.yes rfl rfl rfl (by first | rfl | exact decide_eq_false (by omega) | (simp; done))) rfl (.tmp rfl rfl) rfl rfl rfl rfl)
            (.c (S.move (.yes rfl rfl rfl (by first | rfl | exact decide_eq_false (by omega) | (simp; done))) rfl (.tmp rfl rfl))
            (.c (S.move (.yes rfl rfl rfl (by first | rfl | exact decide_eq_false (by omega) | (simp; done))) rfl (.tmp rfl rfl))
            (.c (S.indexM (n := i) si77 (.yes rfl rfl rfl (by first | rfl | exact decide_eq_false (by omega) | (simp; done))) rfl (.tmp rfl rfl) (.tmp rfl rfl) rfl (by omega) rfl)
            (.c (S.field fi88_1 (.yes rfl rfl rfl (by first | rfl | exact decide_eq_false (by omega) | (simp; done))) rfl (.tmp rfl rfl) rfl)
            (.c (S.loadN ti53 (.yes rfl rfl rfl (by first | rfl | exact decide_eq_false (by omega) | (simp; done))) rfl (.tmp rfl rfl) rfl rfl)
            (.c (S.aneq [l[i].value.lo, l[i].value.hi] [l[i].value.lo, l[i].value.hi] eq53 (.yes rfl rfl rfl (by first | rfl | exact decide_eq_false (by omega) | (simp; done))) rfl (.tmp rfl rfl) (.tmp rfl rfl) rfl rfl rfl rfl)
            (.c (S.pickF .none rfl (.tmp rfl rfl) (.tmp rfl rfl) (by first | rfl | exact decide_eq_false (by omega) | (simp; done)))
            .nil))))))))))) (by kernel_rfl) ?_
          refine Ab.D.code ?_
          refine OK.condD rfl rfl (fun c59 => ?_) (fun c59 => ?_)
          ·
            first | exact absurd rfl c59 | exact absurd c59 (by decide)
          ·
            refine OK.skip ?_
            refine Ab.D.blk ?_
            refine Ab.D.code ?_
            refine OK.reg ?_
            refine RK.c (S.move .none rfl (.tmp rfl rfl)) ?_
            refine RK.c (S.add .none rfl (.tmp rfl rfl) (.cint rfl) (IntWalk.i64_in _ (by omega)) (IntWalk.i64_in _ (by omega))) ?_
            refine RK.c (S.assign .none rfl (.tmp rfl rfl)) ?_
            refine RK.nil ?_
            refine Ab.D.lp ⟨i + 1, (by omega), (by omega), rfl, rfl, rfl, rfl, rfl, trivial⟩
        ·
          refine OK.exit rfl ?_
          refine Ab.D.code ?_
          refine OK.seq ?_
          refine OK.regionDraw follows (.c (S.move .none rfl (.tmp rfl rfl))
            (.c (S.call (ref9_CopyBath (by omega)) Tryz.call46 .none rfl (.cons (.tmp rfl rfl) .nil) rfl)
            (.c (S.bloadN ti53 .none rfl (.tmp rfl rfl) rfl rfl rfl rfl)
            (.c (S.call (shp_NextCheck) Tryz.call47 .none rfl (.cons (.tmp rfl rfl) (.cons (.tmp rfl rfl) .nil)) rfl)
            (.c (S.move .none rfl (.tmp rfl rfl))
            (.c (S.extract .none rfl (.tmp rfl rfl) rfl rfl)
            (.c (S.extract .none rfl (.tmp rfl rfl) rfl rfl)
            (.c (S.assign .none rfl (.tmp rfl rfl))
            (.c (S.assign .none rfl (.tmp rfl rfl))
            .nil))))))))) (by kernel_rfl) ?_
          refine Ab.D.code ?_
          refine OK.seq ?_
          refine OK.seq ?_
          refine OK.reg ?_
          refine RK.c (S.move .none rfl (.tmp rfl rfl)) ?_
          refine RK.c (S.neq .none rfl (.tmp rfl rfl) (.cint rfl)) ?_
          refine RK.nil ?_
          refine Ab.D.code ?_
          refine OK.condD rfl rfl (fun c68 => ?_) (fun c68 => ?_)
          ·
            have hes := next_is hv hr
            refine OK.seq ?_
            refine OK.reg ?_
            refine RK.c (S.move .none rfl (.tmp rfl rfl)) ?_
            refine RK.c (S.eql .none rfl (.tmp rfl rfl) (.cint rfl)) ?_
            refine RK.c (S.move .none rfl (.tmp rfl rfl)) ?_
            refine RK.splitD (t := 71) rfl (fun g71 => ?_) (fun g71 => ?_)
            ·
              refine RK.c (S.skip rfl rfl rfl rfl rfl) ?_
              refine RK.c (S.skip rfl rfl rfl rfl rfl) ?_
              refine RK.c (S.pickT .none rfl (.tmp rfl rfl) .cbool rfl) ?_
              refine RK.c (S.assign .none rfl (.tmp rfl rfl)) ?_
              refine RK.nil ?_
              refine Ab.D.code ?_
              refine OK.ret (Ret.r1 (.tmp rfl rfl (.c (.same rfl) rfl) rfl) ?_)
              first | rfl | exact ret_dT rfl | exact ret_dT hge | exact ret_dT (by omega)
            ·
              refine RK.c (S.move (.yes rfl rfl rfl rfl) rfl (.tmp rfl rfl)) ?_
              refine RK.c (S.eql (.yes rfl rfl rfl rfl) rfl (.tmp rfl rfl) (.cint rfl)) ?_
              refine RK.c (S.pickF .none rfl (.tmp rfl rfl) (.tmp rfl rfl) rfl) ?_
              refine RK.c (S.assign .none rfl (.tmp rfl rfl)) ?_
              refine RK.nil ?_
              refine Ab.D.code ?_
              refine OK.ret (Ret.r1 (.tmp rfl rfl (.c (.same rfl) rfl) rfl) ?_)
              first | rfl | exact ret_dT rfl | exact ret_dT hge | exact ret_dT (by omega)
          ·
            have he : nextE l r = 0 := Decidable.not_not.1 c68
            obtain ⟨n1, n2, n3⟩ := next_chk hv hr he
            have hb1 := bey_ok hv hr (t := nextT l r - 1) (by omega)
            have hb2 := bey_ok hv hr (t := nextT l r) (by omega)
            rw [hgt] at n1 n2 n3 hb1 hb2
            rw [hgl] at n2 n3 hb1 hb2
            have hlr := lim_ok hr
            have hbt0 := hb1.bt
            refine OK.skip ?_
            refine Ab.D.code ?_
            refine OK.seq ?_
            refine OK.regionDraw follows (.c (S.move .none rfl (.tmp rfl rfl))
              (.c (S.move .none rfl (.tmp rfl rfl))
              (.c (S.lenM si77 .none rfl (.tmp rfl rfl))
              (.c (S.sub .none rfl (.tmp rfl rfl) (.cint rfl) (IntWalk.i64_in _ (by omega)) (IntWalk.i64_in _ (by omega)))
              (.c (S.indexM (n := l.length - 2) si77 .none rfl (.tmp rfl rfl) (.tmp rfl rfl) (by omega) (by omega) rfl)
              (.c (S.loadN ti88 .none rfl (.tmp rfl rfl) rfl rfl)
              (.c (S.move .none rfl (.tmp rfl rfl))
              (.c (S.move .none rfl (.tmp rfl rfl))
              (.c (S.lenM si77 .none rfl (.tmp rfl rfl))
              (.c (S.sub .none rfl (.tmp rfl rfl) (.cint rfl) (IntWalk.i64_in _ (by omega)) (IntWalk.i64_in _ (by omega)))
              (.c (S.indexM (n := l.length - 1) si77 .none rfl (.tmp rfl rfl) (.tmp rfl rfl) (by omega) (by omega) rfl)
              (.c (S.loadN ti88 .none rfl (.tmp rfl rfl) rfl rfl)
              (.c (S.alloc (k := 12) ze88 rfl .none rfl)
              (.c (S.alloc (k := 13) ze88 rfl .none rfl)
              (.c (S.store ti88 .none (.tmp rfl rfl) (.tmp rfl rfl) rfl rfl rfl rfl rfl rfl)
              (.c (S.store ti88 .none (.tmp rfl rfl) (.tmp rfl rfl) rfl rfl rfl rfl rfl rfl)
              .nil)))))))))))))))) (by kernel_rfl) ?_
            refine Ab.D.code ?_
            refine OK.seq ?_
            refine OK.seq ?_
            refine OK.reg ?_
            refine RK.c (S.move .none rfl (.tmp rfl rfl)) ?_
            refine RK.c (S.bfield fi88_0 .none rfl (.tmp rfl rfl)) ?_
            refine RK.c (S.bload1 ti3 .none rfl (.tmp rfl rfl) rfl rfl rfl rfl) ?_
            refine RK.c (S.add .none rfl (.tmp rfl rfl) (.cint rfl) (IntWalk.i64_in _ (by omega)) (IntWalk.i64_in _ (by omega))) ?_
            refine RK.c (S.call (base_Within) Tryz.call27 .none rfl (.cons (.tmp rfl rfl) (.cons (.tmp rfl rfl) (.cons (.cint rfl) .nil))) rfl) ?_
            refine RK.c (S.notD .none rfl (.tmp rfl rfl)) ?_
            refine RK.c (S.move .none rfl (.tmp rfl rfl)) ?_
            refine RK.splitD (t := 93) rfl (fun g93 => ?_) (fun g93 => ?_)
            ·
              exfalso
              omega
            ·
              refine RK.c (S.bloadN ti88 (.yes rfl rfl rfl rfl) rfl (.tmp rfl rfl) rfl rfl rfl rfl) ?_
              refine RK.c (S.bloadN ti88 (.yes rfl rfl rfl rfl) rfl (.tmp rfl rfl) rfl rfl rfl rfl) ?_
              refine RK.c (S.bloadN ti53 (.yes rfl rfl rfl rfl) rfl (.tmp rfl rfl) rfl rfl rfl rfl) ?_
              refine RK.c (S.move (.yes rfl rfl rfl rfl) rfl (.tmp rfl rfl)) ?_
              refine RK.c (S.sub (.yes rfl rfl rfl rfl) rfl (.tmp rfl rfl) (.cint rfl) (IntWalk.i64_in _ (by omega)) (IntWalk.i64_in _ (by omega))) ?_
              refine RK.c (S.call (law9_beyond hb1) Tryz.call52 (.yes rfl rfl rfl rfl) rfl (.cons (.tmp rfl rfl) (.cons (.tmp rfl rfl) (.cons (.tmp rfl rfl) (.cons (.tmp rfl rfl) .nil)))) rfl) ?_
              refine RK.c (S.pickF .none rfl (.tmp rfl rfl) (.tmp rfl rfl) rfl) ?_
              refine RK.c (S.move .none rfl (.tmp rfl rfl)) ?_
              refine RK.split (t := 101) rfl (fun g101 => ?_) (fun g101 => ?_)
              ·
                first | exact absurd (g101.symm.trans n2) (by decide) | (rw [n2] at g101; cases g101)
              ·
                refine RK.c (S.bloadN ti88 (.yes rfl rfl rfl rfl) rfl (.tmp rfl rfl) rfl rfl rfl rfl) ?_
                refine RK.c (S.bloadN ti88 (.yes rfl rfl rfl rfl) rfl (.tmp rfl rfl) rfl rfl rfl rfl) ?_
                refine RK.c (S.bloadN ti53 (.yes rfl rfl rfl rfl) rfl (.tmp rfl rfl) rfl rfl rfl rfl) ?_
                refine RK.c (S.move (.yes rfl rfl rfl rfl) rfl (.tmp rfl rfl)) ?_
                refine RK.c (S.call (law9_beyond hb2) Tryz.call52 (.yes rfl rfl rfl rfl) rfl (.cons (.tmp rfl rfl) (.cons (.tmp rfl rfl) (.cons (.tmp rfl rfl) (.cons (.tmp rfl rfl) .nil)))) rfl) ?_
                refine RK.c (S.not (.yes rfl rfl rfl rfl) rfl (.tmp rfl rfl)) ?_
                refine RK.c (S.pickF .none rfl (.tmp rfl rfl) (.tmp rfl rfl) rfl) ?_
                refine RK.nil ?_
                refine Ab.D.code ?_
                refine OK.cond rfl rfl (fun c108 => ?_) (fun c108 => ?_)
                ·
                  first | exact absurd n3 (by simpa using c108) | (rw [n3] at c108; cases c108)
                ·
                  refine OK.skip ?_
                  refine Ab.D.code ?_
                  refine OK.seq ?_
                  refine OK.reg ?_
                  refine RK.c (S.bfield fi53_0 .none rfl (.tmp rfl rfl)) ?_
                  refine RK.c (S.bload1 ti3 .none rfl (.tmp rfl rfl) rfl rfl rfl rfl) ?_
                  refine RK.c (S.move .none rfl (.tmp rfl rfl)) ?_
                  refine RK.c (S.sub .none rfl (.tmp rfl rfl) (.tmp rfl rfl) (IntWalk.i64_in _ (by omega)) (IntWalk.i64_in _ (by omega))) ?_
                  refine RK.c (S.bfield fi53_1 .none rfl (.tmp rfl rfl)) ?_
                  refine RK.c (S.bload1 ti3 .none rfl (.tmp rfl rfl) rfl rfl rfl rfl) ?_
                  refine RK.c (S.move .none rfl (.tmp rfl rfl)) ?_
                  refine RK.c (S.add .none rfl (.tmp rfl rfl) (.tmp rfl rfl) (IntWalk.i64_in _ (by omega)) (IntWalk.i64_in _ (by omega))) ?_
                  refine RK.c (S.build bu53 rfl .none rfl (.cons (.tmp rfl rfl) (.cons (.tmp rfl rfl) .nil)) rfl rfl) ?_
                  refine RK.c (S.alloc (k := 14) ze53 rfl .none rfl) ?_
                  refine RK.c (S.store ti53 .none (.tmp rfl rfl) (.tmp rfl rfl) rfl rfl rfl rfl rfl rfl) ?_
                  refine RK.nil ?_
                  refine Ab.D.code ?_
                  refine OK.seq ?_
                  refine OK.seq ?_
                  refine OK.reg ?_
                  refine RK.c (S.bloadN ti53 .none rfl (.tmp rfl rfl) rfl rfl rfl rfl) ?_
                  refine RK.c (S.call (ref9_LimitsErr (r := ⟨r.lo - m, r.hi + m⟩)) Tryz.call34 .none rfl (.cons (.tmp rfl rfl) .nil) rfl) ?_
                  refine RK.c (S.neq .none rfl (.tmp rfl rfl) (.cint rfl)) ?_
                  refine RK.nil ?_
                  refine Ab.D.code ?_
                  refine OK.condD rfl rfl (fun c120 => ?_) (fun c120 => ?_)
                  ·
                    refine OK.seq ?_
                    refine OK.reg ?_
                    refine RK.c (S.assign .none rfl .cbool) ?_
                    refine RK.nil ?_
                    refine Ab.D.code ?_
                    refine OK.ret (Ret.r1 (.tmp rfl rfl (.c (.same rfl) rfl) rfl) ?_)
                    first | rfl | exact ret_dT rfl | exact ret_dT hge | exact ret_dT (by omega)
                  ·
                    have hr2 : limE ⟨r.lo - m, r.hi + m⟩ = 0 := Decidable.not_not.1 c120
                    obtain ⟨e2, hge⟩ := next_wide hv hr he hm.1 hr2
                    refine OK.skip ?_
                    refine Ab.D.code ?_
                    refine OK.seq ?_
                    refine OK.regionDraw follows (.c (S.move .none rfl (.tmp rfl rfl))
                      (.c (S.call (ref9_CopyBath (by omega)) Tryz.call46 .none rfl (.cons (.tmp rfl rfl) .nil) rfl)
                      (.c (S.bloadN ti53 .none rfl (.tmp rfl rfl) rfl rfl rfl rfl)
                      (.c (S.call (shp_NextCheck (l := l) (r := ⟨r.lo - m, r.hi + m⟩)) Tryz.call47 .none rfl (.cons (.tmp rfl rfl) (.cons (.tmp rfl rfl) .nil)) rfl)
                      (.c (S.move .none rfl (.tmp rfl rfl))
                      (.c (S.extract .none rfl (.tmp rfl rfl) rfl rfl)
                      (.c (S.extract .none rfl (.tmp rfl rfl) rfl rfl)
                      (.c (S.assign .none rfl (.tmp rfl rfl))
                      (.c (S.assign .none rfl (.tmp rfl rfl))
                      .nil))))))))) (by kernel_rfl) ?_
                    refine Ab.D.code ?_
                    refine OK.seq ?_
                    refine OK.reg ?_
                    refine RK.c (S.move .none rfl (.tmp rfl rfl)) ?_
                    refine RK.c (S.eql .none rfl (.tmp rfl rfl) (.cint rfl)) ?_
                    refine RK.c (S.move .none rfl (.tmp rfl rfl)) ?_
                    refine RK.splitD (t := 130) rfl (fun g130 => ?_) (fun g130 => ?_)
                    ·
                      refine RK.c (S.move (.yes rfl rfl rfl rfl) rfl (.tmp rfl rfl)) ?_
                      refine RK.c (S.move (.yes rfl rfl rfl rfl) rfl (.tmp rfl rfl)) ?_
                      refine RK.c (S.geq (.yes rfl rfl rfl rfl) rfl (.tmp rfl rfl) (.tmp rfl rfl)) ?_
                      refine RK.c (S.pickT .none rfl (.tmp rfl rfl) (.tmp rfl rfl) rfl) ?_
                      refine RK.c (S.assign .none rfl (.tmp rfl rfl)) ?_
                      refine RK.nil ?_
                      refine Ab.D.code ?_
                      refine OK.ret (Ret.r1 (.tmp rfl rfl (.c (.same rfl) rfl) rfl) ?_)
                      first | rfl | exact ret_dT rfl | exact ret_dT hge | exact ret_dT (by omega)
                    ·
                      exact absurd e2 g130
end Go.Proofs.YtjamlnkjfkcdkaaGreatDoor
