/-
  The shop: the value of a bath; the references of baths; the law of baths.
-/
import Derived.Test.YtjamlnkjfkcdkaaGreatDoorTz
import Derived.Test.YtjamlnkjfkcdkaaGreatDoorKh
namespace Go.Proofs.YtjamlnkjfkcdkaaGreatDoor
open Go.Ab

def floorT (n b : Int) : Int := if n.tmod b < 0 then n.tdiv b - 1 else n.tdiv b
def inTick (l : List Bath) (t : Int) : Bool := decide ((l.getD 0 ⟨0, ⟨0, 0⟩⟩).tick ≤ t ∧ t ≤ (nextTop l).tick)
def bathIx (l : List Bath) (t : Int) : Nat := (1 + idxGo (fun x : Bath => decide (x.tick ≥ t)) 0 (l.drop 1)).toNat
def lineT (p q whole part : Int) : Int := p * whole + (q - p) * part
def valT (a b : Bath) (t : Int) : Range := ⟨floorT (lineT a.value.lo b.value.lo (b.tick - a.tick) (t - a.tick)) (b.tick - a.tick), 0 - floorT (0 - lineT a.value.hi b.value.hi (b.tick - a.tick) (t - a.tick)) (b.tick - a.tick)⟩
def bathE2 (l : List Bath) (t : Int) : Int := if readE l ≠ 0 then readE l else if inTick l t = true then 0 else 2
def bathT (l : List Bath) (t : Int) : Range := if bathE2 l t = 0 then valT (l.getD (bathIx l t - 1) ⟨0, ⟨0, 0⟩⟩) (l.getD (bathIx l t) ⟨0, ⟨0, 0⟩⟩) t else ⟨0, 0⟩
theorem tmod_bd {n b A : Int} (hb : 0 < b) (h : -A ≤ n ∧ n ≤ A) : -A ≤ n.tmod b ∧ n.tmod b ≤ A := by
  have h1 := Int.mul_tdiv_add_tmod n b
  by_cases h0 : 0 ≤ n
  · have h2 := Int.tmod_nonneg b h0
    have h3 : 0 ≤ b * n.tdiv b := Int.mul_nonneg (by omega) (tdiv_bd h0 hb).1
    omega
  · have h2 := Int.tmod_nonneg b (a := -n) (by omega)
    have h3 : 0 ≤ b * (-n).tdiv b := Int.mul_nonneg (by omega) (tdiv_bd (by omega) hb).1
    have h4 := Int.mul_tdiv_add_tmod (-n) b
    rw [Int.neg_tmod] at h2 h4
    omega
theorem floor_bd {n b : Int} (hb : 0 < b) {A : Int} (h : -A ≤ n ∧ n ≤ A) : -A - 1 ≤ floorT n b ∧ floorT n b ≤ A := by
  have h1 : n = b * n.tdiv b + n.tmod b := (Int.mul_tdiv_add_tmod n b).symm
  have h2 : n.tdiv b ≤ A ∧ -A ≤ n.tdiv b := by
    by_cases h0 : 0 ≤ n
    · have := tdiv_bd h0 hb; omega
    · have h3 := tdiv_bd (a := -n) (g := b) (by omega) hb
      rw [Int.neg_tdiv] at h3
      omega
  unfold floorT
  split <;> omega
theorem line_bd {p q w t : Int} (hp : -10000 ≤ p ∧ p ≤ 10000) (hq : -10000 ≤ q ∧ q ≤ 10000) (hw : 0 ≤ w ∧ w ≤ 100000) (ht : 0 ≤ t ∧ t ≤ 100000) : (-1000000000 ≤ p * w ∧ p * w ≤ 1000000000) ∧ (-2000000000 ≤ (q - p) * t ∧ (q - p) * t ≤ 2000000000) ∧ -3000000000 ≤ lineT p q w t ∧ lineT p q w t ≤ 3000000000 := by
  have h1 := mul_abs (c := w) (v := p) (C := 100000) (V := 10000) hw hp
  have h2 := mul_abs (c := t) (v := q - p) (C := 100000) (V := 20000) ht ⟨by omega, by omega⟩
  rw [Int.mul_comm w p] at h1
  rw [Int.mul_comm t (q - p)] at h2
  unfold lineT
  omega
theorem bath_ix {l : List Bath} {t : Int} (h2 : 2 ≤ l.length) (hin : inTick l t = true) : ∃ i : Nat, idxGo (fun x : Bath => decide (x.tick ≥ t)) 0 (l.drop 1) = i ∧ bathIx l t = i + 1 ∧ i + 1 < l.length ∧ t ≤ (l.getD (i + 1) ⟨0, ⟨0, 0⟩⟩).tick ∧ ∀ j, j < i → (l.getD (j + 1) ⟨0, ⟨0, 0⟩⟩).tick < t := by
  have hb := of_decide_eq_true hin
  have ht : nextTop l = l[l.length - 1] := getD_at (by omega)
  have hdl : (l.drop 1).length = l.length - 1 := List.length_drop
  have hany : (l.drop 1).any (fun x : Bath => decide (x.tick ≥ t)) = true := List.any_eq_true.2 ⟨l[l.length - 1], by
    have h3 : (l.drop 1)[l.length - 2]? = some l[l.length - 1] := by rw [List.getElem?_drop, show 1 + (l.length - 2) = l.length - 1 by omega, List.getElem?_eq_getElem (by omega)]
    exact List.mem_of_getElem? h3, decide_eq_true (by rw [ht] at hb; exact hb.2)⟩
  rw [← idxGo_any _ _ 0] at hany
  obtain ⟨i, e, hi, e2, e3⟩ := idxGo_pre.1 (of_decide_eq_true hany)
  rw [Nat.zero_add] at e
  have hg : ∀ j, j < l.length - 1 → ∀ h : j < (l.drop 1).length, (l.drop 1)[j] = l.getD (j + 1) ⟨0, ⟨0, 0⟩⟩ := fun j hj h => by
    rw [getD_at (by omega), List.getElem_drop]
    congr 1
    omega
  refine ⟨i, e, by unfold bathIx; rw [e]; omega, by omega, ?_, fun j hj => ?_⟩
  · have := of_decide_eq_true e2
    rw [hg i (by omega) hi] at this
    omega
  · have := of_decide_eq_false (e3 j hj (by omega))
    rw [hg j (by omega) (by omega)] at this
    omega
theorem bath_prev {l : List Bath} {t : Int} {i : Nat} (hin : inTick l t = true) (h : ∀ j, j < i → (l.getD (j + 1) ⟨0, ⟨0, 0⟩⟩).tick < t) : (l.getD i ⟨0, ⟨0, 0⟩⟩).tick ≤ t := by
  cases i with
  | zero => exact (of_decide_eq_true hin).1
  | succ i => have := h i (by omega); omega
theorem ranges_ne {a b : Range} : ((a.lo, a.hi) = (b.lo, b.hi)) ↔ a = b := by
  cases a; cases b; simp
/-! when it must be checked -/
def fall0 (a b : Bath) : Int := a.value.lo - b.value.lo
def fall1 (a b : Bath) : Int := b.value.hi - a.value.hi
def nxt0 (a b : Bath) (r : Range) : Int := leaveT b.tick (b.value.lo - r.lo) (fall0 a b) (b.tick - a.tick)
def nxt1 (a b : Bath) (r : Range) : Int := leaveT b.tick (r.hi - b.value.hi) (fall1 a b) (b.tick - a.tick)
def nbest (a b : Bath) (r : Range) : Nat → Int
  | 0 => 0
  | 1 => if 0 < fall0 a b then nxt0 a b r else 0
  | _ => if 0 < fall1 a b then (if 0 < fall0 a b then minI (nxt0 a b r) (nxt1 a b r) else nxt1 a b r) else if 0 < fall0 a b then nxt0 a b r else 0
def nfound (a b : Bath) : Nat → Bool
  | 0 => false
  | 1 => decide (0 < fall0 a b)
  | _ => decide (0 < fall0 a b) || decide (0 < fall1 a b)
theorem floor_nn {n b : Int} (h : 0 ≤ n) (hb : 0 < b) : floorT n b = n.tdiv b := by
  have := Int.tmod_nonneg b h
  unfold floorT
  rw [if_neg (by omega)]
theorem ticks_eq (a b : Bath) (r : Range) : nextTicks a b r = (if 0 < fall0 a b then [nxt0 a b r] else []) ++ (if 0 < fall1 a b then [nxt1 a b r] else []) := rfl
theorem nb_0F {a b : Bath} {r : Range} {best : Int} (h : best = nbest a b r 0) (hf : ¬ 0 < fall0 a b) : best = nbest a b r 1 := by rw [h]; simp only [nbest]; rw [if_neg hf]
theorem nb_0T {a b : Bath} {r : Range} (hf : 0 < fall0 a b) : nxt0 a b r = nbest a b r 1 := by simp only [nbest]; rw [if_pos hf]
theorem nb_1F {a b : Bath} {r : Range} {best : Int} (h : best = nbest a b r 1) (hf : ¬ 0 < fall1 a b) : best = nbest a b r 2 := by rw [h]; simp only [nbest]; rw [if_neg hf]
theorem nb_1N {a b : Bath} {r : Range} {found : Bool} (hfo : found = nfound a b 1) (hn : found = false) (hf : 0 < fall1 a b) : nxt1 a b r = nbest a b r 2 := by
  have h0 : ¬ 0 < fall0 a b := of_decide_eq_false (hfo.symm.trans hn)
  simp only [nbest]; rw [if_pos hf, if_neg h0]
theorem nb_1T {a b : Bath} {r : Range} {best : Int} {found : Bool} (h : best = nbest a b r 1) (hfo : found = nfound a b 1) (hn : found = true) (hf : 0 < fall1 a b) (hlt : nxt1 a b r < best) : nxt1 a b r = nbest a b r 2 := by
  have h0 : 0 < fall0 a b := of_decide_eq_true (hfo.symm.trans hn)
  simp only [nbest] at h ⊢
  rw [if_pos h0] at h
  rw [if_pos hf, if_pos h0, minI, if_pos (by omega)]
theorem nb_1K {a b : Bath} {r : Range} {best : Int} {found : Bool} (h : best = nbest a b r 1) (hfo : found = nfound a b 1) (hn : found = true) (hf : 0 < fall1 a b) (hlt : ¬ nxt1 a b r < best) : best = nbest a b r 2 := by
  have h0 : 0 < fall0 a b := of_decide_eq_true (hfo.symm.trans hn)
  simp only [nbest] at h ⊢
  rw [if_pos h0] at h
  rw [if_pos hf, if_pos h0, minI, if_neg (by omega), h]
theorem nf_0F {a b : Bath} {found : Bool} (h : found = nfound a b 0) (hf : ¬ 0 < fall0 a b) : found = nfound a b 1 := by rw [h]; simp only [nfound]; rw [decide_eq_false hf]
theorem nf_0T {a b : Bath} (hf : 0 < fall0 a b) : true = nfound a b 1 := (decide_eq_true hf).symm
theorem nf_1F {a b : Bath} {found : Bool} (h : found = nfound a b 1) (hf : ¬ 0 < fall1 a b) : found = nfound a b 2 := by rw [h]; simp only [nfound]; rw [decide_eq_false hf, Bool.or_false]
theorem nf_1T {a b : Bath} (hf : 0 < fall1 a b) : true = nfound a b 2 := by simp only [nfound]; rw [decide_eq_true hf, Bool.or_true]
theorem nx_eq {last above falls w : Int} (h0 : 0 ≤ above * w) (hf : 0 < falls) : last + (floorT (above * w) falls + 1) = leaveT last above falls w := by
  rw [floor_nn h0 hf, leaveT]; omega
theorem next_none {a b : Bath} (r : Range) (h : nfound a b 2 = false) : nextTicks a b r = [] := by
  simp only [nfound, Bool.or_eq_false_iff, decide_eq_false_iff_not] at h
  rw [ticks_eq]
  rw [if_neg h.1, if_neg h.2]
  rfl
theorem next_some {a b : Bath} (r : Range) (h : nfound a b 2 = true) : (nextTicks a b r).length ≠ 0 ∧ minL (nextTicks a b r) = nbest a b r 2 := by
  simp only [nfound, Bool.or_eq_true, decide_eq_true_eq] at h
  rw [ticks_eq]
  simp only [nbest]
  by_cases h0 : 0 < fall0 a b
  · by_cases h1 : 0 < fall1 a b
    · rw [if_pos h0, if_pos h1, if_pos h1, if_pos h0]; exact ⟨by simp, rfl⟩
    · rw [if_pos h0, if_neg h1, if_neg h1, if_pos h0]; exact ⟨by simp, rfl⟩
  · have h1 : 0 < fall1 a b := h.resolve_left h0
    rw [if_neg h0, if_pos h1, if_pos h1, if_neg h0]
    exact ⟨by simp, rfl⟩
theorem baths_e {l : List Bath} (h : readE l ≠ 0) (t : Int) (r : Range) : bathE2 l t = readE l ∧ bathT l t = ⟨0, 0⟩ ∧ nextE l r = readE l ∧ nextT l r = 0 := by
  have h1 : bathE2 l t = readE l := if_pos h
  have h2 : nextE l r = readE l := if_pos h
  exact ⟨h1, if_neg (by rw [h1]; exact h), h2, if_neg (by rw [h2]; exact h)⟩
theorem baths_0 {l : List Bath} (h : readE l = 0) (t : Int) : (inTick l t = true ∧ bathE2 l t = 0) ∨ (inTick l t = false ∧ bathE2 l t = 2 ∧ bathT l t = ⟨0, 0⟩) := by
  have h0 : bathE2 l t = if inTick l t = true then 0 else 2 := if_neg (by omega)
  cases hi : inTick l t with
  | true => exact .inl ⟨rfl, by rw [h0, if_pos hi]⟩
  | false =>
    have h1 : bathE2 l t = 2 := by rw [h0, if_neg (by rw [hi]; decide)]
    exact .inr ⟨rfl, h1, if_neg (by omega)⟩
theorem nexts_e {l : List Bath} {r : Range} (h : readE l = 0) (h2 : limE r ≠ 0) : nextE l r = limE r ∧ nextT l r = 0 := by
  have h1 : nextE l r = limE r := by unfold nextE; rw [if_neg (by omega), if_pos h2]
  exact ⟨h1, if_neg (by rw [h1]; exact h2)⟩

theorem shp_floor {n b A : Int} (hb : 0 < b) (hn : -A ≤ n ∧ n ≤ A) (hA : A ≤ 1000000000000) : Ct Tryz.prog 125 [.int .i64 n, .int .i64 b] (.int .i64 (floorT n b)) := by
  refine Ct.intro (rs := [.tmp 4]) Tryz.func125 rfl Tryz.ntmps125 Tryz.results125 rfl rfl rfl fun w h => ?_
  have hf := floor_bd hb hn
  have hf0 : floorT n b = if n.tmod b < 0 then n.tdiv b - 1 else n.tdiv b := rfl
  have hq : -A ≤ n.tdiv b ∧ n.tdiv b ≤ A := by
    by_cases h0 : 0 ≤ n
    · have := tdiv_bd h0 hb; omega
    · have h3 := tdiv_bd (a := -n) (g := b) (by omega) hb
      rw [Int.neg_tdiv] at h3
      omega
  have hr : -A ≤ n.tmod b ∧ n.tmod b ≤ A := tmod_bd hb hn
  refine OK.seq ?_
  refine OK.reg ?_
  refine RK.c (S.assign .none rfl (.cint rfl)) ?_
  refine RK.nil ?_
  refine Ab.D.code ?_
  refine OK.seq ?_
  refine OK.reg ?_
  refine RK.c (S.move .none rfl (.tmp rfl rfl)) ?_
  refine RK.c (S.move .none rfl (.tmp rfl rfl)) ?_
  refine RK.c (S.quo .none rfl (.tmp rfl rfl) (.tmp rfl rfl) (by omega) (IntWalk.i64_in _ (by omega)) (IntWalk.i64_in _ (by omega))) ?_
  refine RK.c (S.assign .none rfl (.tmp rfl rfl)) ?_
  refine RK.nil ?_
  refine Ab.D.code ?_
  refine OK.seq ?_
  refine OK.seq ?_
  refine OK.reg ?_
  refine RK.c (S.move .none rfl (.tmp rfl rfl)) ?_
  refine RK.c (S.move .none rfl (.tmp rfl rfl)) ?_
  refine RK.c (S.rem .none rfl (.tmp rfl rfl) (.tmp rfl rfl) (by omega) rfl (IntWalk.i64_in _ (by omega))) ?_
  refine RK.c (S.lss .none rfl (.tmp rfl rfl) (.cint rfl)) ?_
  refine RK.nil ?_
  refine Ab.D.code ?_
  refine OK.condD rfl rfl (fun c12 => ?_) (fun c12 => ?_)
  ·
    refine OK.reg ?_
    refine RK.c (S.move .none rfl (.tmp rfl rfl)) ?_
    refine RK.c (S.sub .none rfl (.tmp rfl rfl) (.cint rfl) (IntWalk.i64_in _ (by omega)) (IntWalk.i64_in _ (by omega))) ?_
    refine RK.c (S.assign .none rfl (.tmp rfl rfl)) ?_
    refine RK.nil ?_
    refine Ab.D.code ?_
    refine OK.seq ?_
    refine OK.reg ?_
    refine RK.c (S.move .none rfl (.tmp rfl rfl)) ?_
    refine RK.c (S.assign .none rfl (.tmp rfl rfl)) ?_
    refine RK.nil ?_
    refine Ab.D.code ?_
    refine OK.ret (Ret.r1 (.tmp rfl rfl (.c (.same rfl) rfl) rfl) ?_)
    rw [hf0, if_pos c12]
  ·
    refine OK.skip ?_
    refine Ab.D.code ?_
    refine OK.seq ?_
    refine OK.reg ?_
    refine RK.c (S.move .none rfl (.tmp rfl rfl)) ?_
    refine RK.c (S.assign .none rfl (.tmp rfl rfl)) ?_
    refine RK.nil ?_
    refine Ab.D.code ?_
    refine OK.ret (Ret.r1 (.tmp rfl rfl (.c (.same rfl) rfl) rfl) ?_)
    rw [hf0, if_neg c12]

theorem base_Floor {n b A : Int} (hb : 0 < b) (hn : -A ≤ n ∧ n ≤ A) (hA : A ≤ 1000000000000) : Ct Tryz.prog 128 [.int .i64 n, .int .i64 b] (.int .i64 (floorT n b)) := by
  refine Ct.intro (rs := [.tmp 4]) Tryz.func128 rfl Tryz.ntmps128 Tryz.results128 rfl rfl rfl fun w h => ?_
  have hf := floor_bd hb hn
  have hf0 : floorT n b = if n.tmod b < 0 then n.tdiv b - 1 else n.tdiv b := rfl
  have hq : -A ≤ n.tdiv b ∧ n.tdiv b ≤ A := by
    by_cases h0 : 0 ≤ n
    · have := tdiv_bd h0 hb; omega
    · have h3 := tdiv_bd (a := -n) (g := b) (by omega) hb
      rw [Int.neg_tdiv] at h3
      omega
  have hr : -A ≤ n.tmod b ∧ n.tmod b ≤ A := tmod_bd hb hn
  refine OK.seq ?_
  refine OK.reg ?_
  refine RK.c (S.assign .none rfl (.cint rfl)) ?_
  refine RK.nil ?_
  refine Ab.D.code ?_
  refine OK.seq ?_
  refine OK.reg ?_
  refine RK.c (S.move .none rfl (.tmp rfl rfl)) ?_
  refine RK.c (S.move .none rfl (.tmp rfl rfl)) ?_
  refine RK.c (S.quo .none rfl (.tmp rfl rfl) (.tmp rfl rfl) (by omega) (IntWalk.i64_in _ (by omega)) (IntWalk.i64_in _ (by omega))) ?_
  refine RK.c (S.assign .none rfl (.tmp rfl rfl)) ?_
  refine RK.nil ?_
  refine Ab.D.code ?_
  refine OK.seq ?_
  refine OK.seq ?_
  refine OK.reg ?_
  refine RK.c (S.move .none rfl (.tmp rfl rfl)) ?_
  refine RK.c (S.move .none rfl (.tmp rfl rfl)) ?_
  refine RK.c (S.rem .none rfl (.tmp rfl rfl) (.tmp rfl rfl) (by omega) rfl (IntWalk.i64_in _ (by omega))) ?_
  refine RK.c (S.lss .none rfl (.tmp rfl rfl) (.cint rfl)) ?_
  refine RK.nil ?_
  refine Ab.D.code ?_
  refine OK.condD rfl rfl (fun c12 => ?_) (fun c12 => ?_)
  ·
    refine OK.reg ?_
    refine RK.c (S.move .none rfl (.tmp rfl rfl)) ?_
    refine RK.c (S.sub .none rfl (.tmp rfl rfl) (.cint rfl) (IntWalk.i64_in _ (by omega)) (IntWalk.i64_in _ (by omega))) ?_
    refine RK.c (S.assign .none rfl (.tmp rfl rfl)) ?_
    refine RK.nil ?_
    refine Ab.D.code ?_
    refine OK.seq ?_
    refine OK.reg ?_
    refine RK.c (S.move .none rfl (.tmp rfl rfl)) ?_
    refine RK.c (S.assign .none rfl (.tmp rfl rfl)) ?_
    refine RK.nil ?_
    refine Ab.D.code ?_
    refine OK.ret (Ret.r1 (.tmp rfl rfl (.c (.same rfl) rfl) rfl) ?_)
    rw [hf0, if_pos c12]
  ·
    refine OK.skip ?_
    refine Ab.D.code ?_
    refine OK.seq ?_
    refine OK.reg ?_
    refine RK.c (S.move .none rfl (.tmp rfl rfl)) ?_
    refine RK.c (S.assign .none rfl (.tmp rfl rfl)) ?_
    refine RK.nil ?_
    refine Ab.D.code ?_
    refine OK.ret (Ret.r1 (.tmp rfl rfl (.c (.same rfl) rfl) rfl) ?_)
    rw [hf0, if_neg c12]

theorem base_Ceil {n b A : Int} (hb : 0 < b) (hn : -A ≤ n ∧ n ≤ A) (hA : A ≤ 1000000000000) : Ct Tryz.prog 71 [.int .i64 n, .int .i64 b] (.int .i64 (0 - floorT (0 - n) b)) := by
  refine Ct.intro (rs := [.tmp 4]) Tryz.func71 rfl Tryz.ntmps71 Tryz.results71 rfl rfl rfl fun w h => ?_
  have hf := floor_bd (n := 0 - n) hb (A := A) (by omega)
  refine OK.seq ?_
  refine OK.reg ?_
  refine RK.c (S.assign .none rfl (.cint rfl)) ?_
  refine RK.nil ?_
  refine Ab.D.code ?_
  refine OK.seq ?_
  refine OK.reg ?_
  refine RK.c (S.move .none rfl (.tmp rfl rfl)) ?_
  refine RK.c (S.neg .none rfl (.tmp rfl rfl) (IntWalk.i64_in _ (by omega)) (IntWalk.i64_in _ (by omega))) ?_
  refine RK.c (S.move .none rfl (.tmp rfl rfl)) ?_
  refine RK.c (S.call (base_Floor (A := A) hb (by omega) hA) Tryz.call128 .none rfl (.cons (.tmp rfl rfl) (.cons (.tmp rfl rfl) .nil)) rfl) ?_
  refine RK.c (S.neg .none rfl (.tmp rfl rfl) (IntWalk.i64_in _ (by omega)) (IntWalk.i64_in _ (by omega))) ?_
  refine RK.c (S.assign .none rfl (.tmp rfl rfl)) ?_
  refine RK.nil ?_
  refine Ab.D.code ?_
  refine OK.ret (Ret.r1 (.tmp rfl rfl (.c (.same rfl) rfl) rfl) ?_)
  rfl

theorem shp_reached {x : Bath} {t : Int} : Ct Tryz.prog 123 [.agg x.cs, .eptr [.int .i64 t]] (.bool (decide (x.tick ≥ t))) := by
  refine Ct.intro (rs := [.tmp 3]) Tryz.func123 rfl Tryz.ntmps123 Tryz.results123 rfl rfl rfl fun w h => ?_
  refine OK.seq ?_
  refine OK.reg ?_
  refine RK.c (S.box (k := 2) rfl .none rfl (.tmp rfl rfl) rfl) ?_
  refine RK.c (S.assign .none rfl .cbool) ?_
  refine RK.nil ?_
  refine Ab.D.code ?_
  refine OK.seq ?_
  refine OK.reg ?_
  refine RK.c (S.bfield fi88_0 .none rfl (.tmp rfl rfl)) ?_
  refine RK.c (S.bload1 ti3 .none rfl (.tmp rfl rfl) rfl rfl rfl rfl) ?_
  refine RK.c (S.load1 ti3 .none rfl (.tmp rfl rfl) rfl) ?_
  refine RK.c (S.geq .none rfl (.tmp rfl rfl) (.tmp rfl rfl)) ?_
  refine RK.c (S.assign .none rfl (.tmp rfl rfl)) ?_
  refine RK.nil ?_
  refine Ab.D.code ?_
  refine OK.ret (Ret.r1 (.tmp rfl rfl (.c (.same rfl) rfl) rfl) ?_)
  rfl

theorem shp_line {a b : Bath} {t p q : Int} (hp : -10000 ≤ p ∧ p ≤ 10000) (hq : -10000 ≤ q ∧ q ≤ 10000) (hw : 0 ≤ b.tick - a.tick ∧ b.tick - a.tick ≤ 100000) (ht : 0 ≤ t - a.tick ∧ t - a.tick ≤ 100000) (ha : 0 ≤ a.tick ∧ a.tick ≤ 100000) : Ct Tryz.prog 124 [.int .i64 p, .int .i64 q, .eptr b.cs, .eptr a.cs, .eptr [.int .i64 t]] (.tup [.int .i64 (lineT p q (b.tick - a.tick) (t - a.tick)), .int .i64 (b.tick - a.tick)]) := by
  refine Ct.intro (rs := [.tmp 7, .tmp 8]) Tryz.func124 rfl Tryz.ntmps124 Tryz.results124 rfl rfl rfl fun w h => ?_
  obtain ⟨hl1, hl2, hl3⟩ := line_bd hp hq hw ht
  have hl4 : lineT p q (b.tick - a.tick) (t - a.tick) = p * (b.tick - a.tick) + (q - p) * (t - a.tick) := rfl
  refine OK.seq ?_
  refine OK.reg ?_
  refine RK.c (S.assign .none rfl (.cint rfl)) ?_
  refine RK.c (S.assign .none rfl (.cint rfl)) ?_
  refine RK.nil ?_
  refine Ab.D.code ?_
  refine OK.seq ?_
  refine OK.regionDraw follows (.c (S.move .none rfl (.tmp rfl rfl))
    (.c (S.field fi88_0 .none rfl (.tmp rfl rfl) rfl)
    (.c (S.load1 ti3 .none rfl (.tmp rfl rfl) rfl)
    (.c (S.field fi88_0 .none rfl (.tmp rfl rfl) rfl)
    (.c (S.load1 ti3 .none rfl (.tmp rfl rfl) rfl)
    (.c (S.sub .none rfl (.tmp rfl rfl) (.tmp rfl rfl) (IntWalk.i64_in _ (by omega)) (IntWalk.i64_in _ (by omega)))
    (.c (S.mul .none rfl (.tmp rfl rfl) (.tmp rfl rfl) (IntWalk.i64_in _ (by omega)) (IntWalk.i64_in _ (by omega)))
    (.c (S.move .none rfl (.tmp rfl rfl))
    (.c (S.move .none rfl (.tmp rfl rfl))
    (.c (S.sub .none rfl (.tmp rfl rfl) (.tmp rfl rfl) (IntWalk.i64_in _ (by omega)) (IntWalk.i64_in _ (by omega)))
    (.c (S.load1 ti3 .none rfl (.tmp rfl rfl) rfl)
    (.c (S.field fi88_0 .none rfl (.tmp rfl rfl) rfl)
    (.c (S.load1 ti3 .none rfl (.tmp rfl rfl) rfl)
    (.c (S.sub .none rfl (.tmp rfl rfl) (.tmp rfl rfl) (IntWalk.i64_in _ (by omega)) (IntWalk.i64_in _ (by omega)))
    (.c (S.mul .none rfl (.tmp rfl rfl) (.tmp rfl rfl) (IntWalk.i64_in _ (by omega)) (IntWalk.i64_in _ (by omega)))
    (.c (S.add .none rfl (.tmp rfl rfl) (.tmp rfl rfl) (IntWalk.i64_in _ (by omega)) (IntWalk.i64_in _ (by omega)))
    (.c (S.field fi88_0 .none rfl (.tmp rfl rfl) rfl)
    (.c (S.load1 ti3 .none rfl (.tmp rfl rfl) rfl)
    (.c (S.field fi88_0 .none rfl (.tmp rfl rfl) rfl)
    (.c (S.load1 ti3 .none rfl (.tmp rfl rfl) rfl)
    (.c (S.sub .none rfl (.tmp rfl rfl) (.tmp rfl rfl) (IntWalk.i64_in _ (by omega)) (IntWalk.i64_in _ (by omega)))
    (.c (S.assign .none rfl (.tmp rfl rfl))
    (.c (S.assign .none rfl (.tmp rfl rfl))
    .nil))))))))))))))))))))))) (by kernel_rfl) ?_
  refine Ab.D.code ?_
  refine OK.ret (Ret.r2 (.tmp rfl rfl (.c (.same rfl) rfl) rfl) (.tmp rfl rfl (.c (.same rfl) rfl) rfl) ?_)
  rfl

set_option maxHeartbeats 1000000 in
theorem shp_BathAt {l : List Bath} {t : Int} : Ct Tryz.prog 45 [.sl (l.map Bath.cs), .int .i64 t] (.tup [.agg (bathT l t).cs, .int .i64 (bathE2 l t)]) := by
  refine Ct.intro (rs := [.cell 4 53, .tmp 5]) Tryz.func45 rfl Tryz.ntmps45 Tryz.results45 rfl rfl rfl fun w h => ?_
  refine OK.slLen (rows := l.map Bath.cs) (t := 0) rfl rfl fun hlen => ?_
  rw [List.length_map] at hlen
  unfold maxLen at hlen
  refine OK.seq ?_
  refine OK.reg ?_
  refine RK.c (S.box (k := 3) rfl .none rfl (.tmp rfl rfl) rfl) ?_
  refine RK.c (S.alloc (k := 4) ze53 rfl .none rfl) ?_
  refine RK.c (S.assign .none rfl (.cint rfl)) ?_
  refine RK.nil ?_
  refine Ab.D.code ?_
  refine OK.seq ?_
  refine OK.seq ?_
  refine OK.reg ?_
  refine RK.c (S.move .none rfl (.tmp rfl rfl)) ?_
  refine RK.c (S.call (shp_readingsErr) Tryz.call120 .none rfl (.cons (.tmp rfl rfl) .nil) rfl) ?_
  refine RK.c (S.assign .none rfl (.tmp rfl rfl)) ?_
  refine RK.nil ?_
  refine Ab.D.code ?_
  refine OK.seq ?_
  refine OK.reg ?_
  refine RK.c (S.move .none rfl (.tmp rfl rfl)) ?_
  refine RK.c (S.neq .none rfl (.tmp rfl rfl) (.cint rfl)) ?_
  refine RK.nil ?_
  refine Ab.D.code ?_
  refine OK.condD rfl rfl (fun c18 => ?_) (fun c18 => ?_)
  ·
    refine OK.seq ?_
    refine OK.reg ?_
    refine RK.c (S.build bu53 rfl .none rfl .nil rfl rfl) ?_
    refine RK.c (S.move .none rfl (.tmp rfl rfl)) ?_
    refine RK.c (S.store ti53 .none (.tmp rfl rfl) (.tmp rfl rfl) rfl rfl rfl rfl rfl rfl) ?_
    refine RK.c (S.assign .none rfl (.tmp rfl rfl)) ?_
    refine RK.nil ?_
    refine Ab.D.code ?_
    refine OK.ret (Ret.r2 (.cellN rfl rfl rfl rfl ti53 rfl (.k (.same rfl) (.k (.same rfl) .z))) (.tmp rfl rfl (.c (.same rfl) rfl) rfl) ?_)
    have he : bathE2 l t = readE l := by unfold bathE2; rw [if_pos c18]
    rw [bathT, if_neg (by rw [he]; exact c18), he]
    rfl
  ·
    have hv : readE l = 0 := Decidable.not_not.1 c18
    obtain ⟨q1, q2, q3⟩ := bath_get hv
    have hg0 : (l.getD 0 ⟨0, ⟨0, 0⟩⟩) = l[0] := getD_at (by omega)
    have hgt : nextTop l = l[l.length - 1] := getD_at (by omega)
    have hiE : inTick l t = decide (l[0].tick ≤ t ∧ t ≤ l[l.length - 1].tick) := by unfold inTick; rw [hg0, hgt]
    refine OK.skip ?_
    refine Ab.D.code ?_
    refine OK.seq ?_
    refine OK.seq ?_
    refine OK.regionDraw follows (.c (S.bload1 ti3 .none rfl (.tmp rfl rfl) rfl rfl rfl rfl)
      (.c (S.move .none rfl (.tmp rfl rfl))
      (.c (S.indexM (n := 0) si77 .none rfl (.tmp rfl rfl) (.cint rfl) rfl (by omega) rfl)
      (.c (S.field fi88_0 .none rfl (.tmp rfl rfl) rfl)
      (.c (S.load1 ti3 .none rfl (.tmp rfl rfl) rfl)
      (.c (S.move .none rfl (.tmp rfl rfl))
      (.c (S.move .none rfl (.tmp rfl rfl))
      (.c (S.lenM si77 .none rfl (.tmp rfl rfl))
      (.c (S.sub .none rfl (.tmp rfl rfl) (.cint rfl) (IntWalk.i64_in _ (by omega)) (IntWalk.i64_in _ (by omega)))
      (.c (S.indexM (n := l.length - 1) si77 .none rfl (.tmp rfl rfl) (.tmp rfl rfl) (by omega) (by omega) rfl)
      (.c (S.field fi88_0 .none rfl (.tmp rfl rfl) rfl)
      (.c (S.load1 ti3 .none rfl (.tmp rfl rfl) rfl)
      (.c (S.call (shp_within) Tryz.call121 .none rfl (.cons (.tmp rfl rfl) (.cons (.tmp rfl rfl) (.cons (.tmp rfl rfl) .nil))) rfl)
      (.c (S.notD .none rfl (.tmp rfl rfl))
      .nil)))))))))))))) (by kernel_rfl) ?_
    refine Ab.D.code ?_
    refine OK.condD rfl rfl (fun c34 => ?_) (fun c34 => ?_)
    ·
      refine OK.seq ?_
      refine OK.reg ?_
      refine RK.c (S.build bu53 rfl .none rfl .nil rfl rfl) ?_
      refine RK.c (S.store ti53 .none (.tmp rfl rfl) (.tmp rfl rfl) rfl rfl rfl rfl rfl rfl) ?_
      refine RK.c (S.assign .none rfl (.cint rfl)) ?_
      refine RK.nil ?_
      refine Ab.D.code ?_
      refine OK.ret (Ret.r2 (.cellN rfl rfl rfl rfl ti53 rfl (.k (.same rfl) (.k (.same rfl) .z))) (.tmp rfl rfl (.c (.same rfl) rfl) rfl) ?_)
      have he : bathE2 l t = 2 := by unfold bathE2; rw [if_neg (by omega), hiE, decide_eq_false c34]; rfl
      rw [bathT, if_neg (by omega), he]
      rfl
    ·
      have hin : inTick l t = true := by rw [hiE]; exact decide_eq_true (Decidable.not_not.1 c34)
      obtain ⟨i, e1, e2, e3, e4, e5⟩ := bath_ix q1 hin
      have e6 := bath_prev hin e5
      rw [getD_at (by omega)] at e4 e6
      have hA := q3 i (by omega)
      have hB := q3 (i + 1) (by omega)
      have hord : l[i].tick < l[i + 1].tick := by
        rcases hB.2.2 with h | h
        · omega
        · rw [Nat.add_sub_cancel, getD_at (by omega)] at h; exact h
      obtain ⟨hA1, hA2, hA3⟩ := hA
      obtain ⟨hB1, hB2, hB3⟩ := hB
      have hl1 := line_bd (p := l[i].value.lo) (q := l[i + 1].value.lo) (w := l[i + 1].tick - l[i].tick) (t := t - l[i].tick) (by omega) (by omega) (by omega) (by omega)
      have hl2 := line_bd (p := l[i].value.hi) (q := l[i + 1].value.hi) (w := l[i + 1].tick - l[i].tick) (t := t - l[i].tick) (by omega) (by omega) (by omega) (by omega)
      have hf2 := floor_bd (n := 0 - lineT l[i].value.hi l[i + 1].value.hi (l[i + 1].tick - l[i].tick) (t - l[i].tick)) (b := l[i + 1].tick - l[i].tick) (by omega) (A := 3000000000) (by omega)
      have he : bathE2 l t = 0 := by unfold bathE2; rw [if_neg (by omega), if_pos hin]
      have hbt : bathT l t = valT l[i] l[i + 1] t := by unfold bathT; rw [if_pos he, e2, Nat.add_sub_cancel, getD_at (by omega), getD_at (by omega)]
      refine OK.skip ?_
      refine Ab.D.code ?_
      refine OK.seq ?_
      refine OK.reg ?_
      refine RK.c (S.move .none rfl (.tmp rfl rfl)) ?_
      refine RK.c (S.slice (lo := 1) (l' := l.drop 1) si77 (fun _ => rfl) .none rfl (.tmp rfl rfl) (.inr ⟨_, _, rfl, (.cint rfl), rfl⟩) (.inl ⟨rfl, rfl, rfl⟩) (by omega) (by omega) (by simp)) ?_
      refine RK.c (S.makeFunc1 .none rfl (.tmp rfl rfl) rfl) ?_
      refine RK.c (S.callL (indexFunc_Bath (l := l.drop 1) (g := fun x : Bath => decide (x.tick ≥ t)) (caps := [.eptr [.int .i64 t]]) (fun x _ => shp_reached) Tryz.call123 ⟨rfl, rfl⟩) Tryz.call122 .none rfl (.cons (.tmp rfl rfl) (.cons (.tmp rfl rfl) .nil)) (.cons (.same rfl) (.cons (.fn (.cons (.ptr rfl rfl rfl rfl) .nil)) .nil)) rfl) ?_
      refine RK.c (S.add .none rfl (.cint rfl) (.tmp rfl rfl) (IntWalk.i64_in _ (by have := (idxGo_lt (fun x : Bath => decide (x.tick ≥ t)) (l.drop 1) 0); simp only [List.length_drop] at this; omega)) (IntWalk.i64_in _ (by have := (idxGo_lt (fun x : Bath => decide (x.tick ≥ t)) (l.drop 1) 0); simp only [List.length_drop] at this; omega))) ?_
      refine RK.c (S.assign .none rfl (.tmp rfl rfl)) ?_
      refine RK.nil ?_
      refine Ab.D.code ?_
      refine OK.seq ?_
      rw [e1]
      refine OK.regionDraw follows (.c (S.move .none rfl (.tmp rfl rfl))
        (.c (S.move .none rfl (.tmp rfl rfl))
        (.c (S.sub .none rfl (.tmp rfl rfl) (.cint rfl) (IntWalk.i64_in _ (by omega)) (IntWalk.i64_in _ (by omega)))
        (.c (S.indexM (n := i) si77 .none rfl (.tmp rfl rfl) (.tmp rfl rfl) (by omega) (by omega) rfl)
        (.c (S.loadN ti88 .none rfl (.tmp rfl rfl) rfl rfl)
        (.c (S.move .none rfl (.tmp rfl rfl))
        (.c (S.move .none rfl (.tmp rfl rfl))
        (.c (S.indexM (n := i + 1) si77 .none rfl (.tmp rfl rfl) (.tmp rfl rfl) (by omega) (by omega) rfl)
        (.c (S.loadN ti88 .none rfl (.tmp rfl rfl) rfl rfl)
        (.c (S.alloc (k := 8) ze88 rfl .none rfl)
        (.c (S.alloc (k := 9) ze88 rfl .none rfl)
        (.c (S.store ti88 .none (.tmp rfl rfl) (.tmp rfl rfl) rfl rfl rfl rfl rfl rfl)
        (.c (S.store ti88 .none (.tmp rfl rfl) (.tmp rfl rfl) rfl rfl rfl rfl rfl rfl)
        .nil))))))))))))) (by kernel_rfl) ?_
      refine Ab.D.code ?_
      refine OK.seq ?_
      refine OK.reg ?_
      refine RK.c (S.makeFunc3 .none rfl (.tmp rfl rfl) (.tmp rfl rfl) (.tmp rfl rfl) rfl rfl rfl) ?_
      refine RK.c (S.assign .none rfl (.tmp rfl rfl)) ?_
      refine RK.nil ?_
      refine Ab.D.code ?_
      refine OK.seq ?_
      refine OK.reg ?_
      refine RK.c (S.move .none rfl (.tmp rfl rfl)) ?_
      refine RK.c (S.bfield fi88_1 .none rfl (.tmp rfl rfl)) ?_
      refine RK.c (S.bfield fi53_0 .none rfl (.tmp rfl rfl)) ?_
      refine RK.c (S.bload1 ti3 .none rfl (.tmp rfl rfl) rfl rfl rfl rfl) ?_
      refine RK.c (S.bfield fi88_1 .none rfl (.tmp rfl rfl)) ?_
      refine RK.c (S.bfield fi53_0 .none rfl (.tmp rfl rfl)) ?_
      refine RK.c (S.bload1 ti3 .none rfl (.tmp rfl rfl) rfl rfl rfl rfl) ?_
      refine RK.c (S.callvL (shp_line (a := l[i]) (b := l[i + 1]) (t := t) (by omega) (by omega) (by omega) (by omega) (by omega)) Tryz.call124 .none rfl (.tmp rfl rfl) (.cons (.tmp rfl rfl) (.cons (.tmp rfl rfl) .nil)) (.cons (.same rfl) (.cons (.same rfl) .nil)) (.cons (.ptr rfl rfl rfl rfl) (.cons (.ptr rfl rfl rfl rfl) (.cons (.ptr rfl rfl rfl rfl) .nil))) rfl rfl) ?_
      refine RK.c (S.move .none rfl (.tmp rfl rfl)) ?_
      refine RK.c (S.extract .none rfl (.tmp rfl rfl) rfl rfl) ?_
      refine RK.c (S.extract .none rfl (.tmp rfl rfl) rfl rfl) ?_
      refine RK.c (S.assign .none rfl (.tmp rfl rfl)) ?_
      refine RK.c (S.assign .none rfl (.tmp rfl rfl)) ?_
      refine RK.nil ?_
      refine Ab.D.code ?_
      refine OK.seq ?_
      refine OK.reg ?_
      refine RK.c (S.move .none rfl (.tmp rfl rfl)) ?_
      refine RK.c (S.bfield fi88_1 .none rfl (.tmp rfl rfl)) ?_
      refine RK.c (S.bfield fi53_1 .none rfl (.tmp rfl rfl)) ?_
      refine RK.c (S.bload1 ti3 .none rfl (.tmp rfl rfl) rfl rfl rfl rfl) ?_
      refine RK.c (S.bfield fi88_1 .none rfl (.tmp rfl rfl)) ?_
      refine RK.c (S.bfield fi53_1 .none rfl (.tmp rfl rfl)) ?_
      refine RK.c (S.bload1 ti3 .none rfl (.tmp rfl rfl) rfl rfl rfl rfl) ?_
      refine RK.c (S.callvL (shp_line (a := l[i]) (b := l[i + 1]) (t := t) (by omega) (by omega) (by omega) (by omega) (by omega)) Tryz.call124 .none rfl (.tmp rfl rfl) (.cons (.tmp rfl rfl) (.cons (.tmp rfl rfl) .nil)) (.cons (.same rfl) (.cons (.same rfl) .nil)) (.cons (.ptr rfl rfl rfl rfl) (.cons (.ptr rfl rfl rfl rfl) (.cons (.ptr rfl rfl rfl rfl) .nil))) rfl rfl) ?_
      refine RK.c (S.move .none rfl (.tmp rfl rfl)) ?_
      refine RK.c (S.extract .none rfl (.tmp rfl rfl) rfl rfl) ?_
      refine RK.c (S.extract .none rfl (.tmp rfl rfl) rfl rfl) ?_
      refine RK.c (S.assign .none rfl (.tmp rfl rfl)) ?_
      refine RK.c (S.assign .none rfl (.tmp rfl rfl)) ?_
      refine RK.nil ?_
      refine Ab.D.code ?_
      refine OK.seq ?_
      refine OK.reg ?_
      refine RK.c (S.move .none rfl (.tmp rfl rfl)) ?_
      refine RK.c (S.move .none rfl (.tmp rfl rfl)) ?_
      refine RK.c (S.call (shp_floor (A := 3000000000) (by omega) (by omega) (by omega)) Tryz.call125 .none rfl (.cons (.tmp rfl rfl) (.cons (.tmp rfl rfl) .nil)) rfl) ?_
      refine RK.c (S.move .none rfl (.tmp rfl rfl)) ?_
      refine RK.c (S.neg .none rfl (.tmp rfl rfl) (IntWalk.i64_in _ (by omega)) (IntWalk.i64_in _ (by omega))) ?_
      refine RK.c (S.move .none rfl (.tmp rfl rfl)) ?_
      refine RK.c (S.call (shp_floor (A := 3000000000) (by omega) (by omega) (by omega)) Tryz.call125 .none rfl (.cons (.tmp rfl rfl) (.cons (.tmp rfl rfl) .nil)) rfl) ?_
      refine RK.c (S.neg .none rfl (.tmp rfl rfl) (IntWalk.i64_in _ (by omega)) (IntWalk.i64_in _ (by omega))) ?_
      refine RK.c (S.build bu53 rfl .none rfl (.cons (.tmp rfl rfl) (.cons (.tmp rfl rfl) .nil)) rfl rfl) ?_
      refine RK.c (S.store ti53 .none (.tmp rfl rfl) (.tmp rfl rfl) rfl rfl rfl rfl rfl rfl) ?_
      refine RK.c (S.assign .none rfl (.cint rfl)) ?_
      refine RK.nil ?_
      refine Ab.D.code ?_
      refine OK.ret (Ret.r2 (.cellN rfl rfl rfl rfl ti53 rfl (.k (.same rfl) (.k (.same rfl) .z))) (.tmp rfl rfl (.c (.same rfl) rfl) rfl) ?_)
      rw [hbt, he]
      rfl

theorem ref9_BathErr {l : List Bath} : Ct Tryz.prog 48 [.sl (l.map Bath.cs)] (.int .i64 (readE l)) := by
  refine Ct.intro (rs := [.tmp 2]) Tryz.func48 rfl Tryz.ntmps48 Tryz.results48 rfl rfl rfl fun w h => ?_
  refine OK.seq ?_
  refine OK.reg ?_
  refine RK.c (S.assign .none rfl (.cint rfl)) ?_
  refine RK.nil ?_
  refine Ab.D.code ?_
  refine OK.seq ?_
  refine OK.seq ?_
  refine OK.reg ?_
  refine RK.c (S.move .none rfl (.tmp rfl rfl)) ?_
  refine RK.c (S.lenM si77 .none rfl (.tmp rfl rfl)) ?_
  refine RK.c (S.lss .none rfl (.tmp rfl rfl) (.cint rfl)) ?_
  refine RK.nil ?_
  refine Ab.D.code ?_
  refine OK.condD rfl rfl (fun c6 => ?_) (fun c6 => ?_)
  ·
    refine OK.seq ?_
    refine OK.reg ?_
    refine RK.c (S.assign .none rfl (.cint rfl)) ?_
    refine RK.nil ?_
    refine Ab.D.code ?_
    refine OK.ret (Ret.r1 (.tmp rfl rfl (.c (.same rfl) rfl) rfl) ?_)
    refine ret_i ?_
    rw [readE, if_pos (by omega)]
  ·
    refine OK.skip ?_
    refine Ab.D.code ?_
    refine OK.seq ?_
    refine OK.seq ?_
    refine OK.reg ?_
    refine RK.c (S.move .none rfl (.tmp rfl rfl)) ?_
    refine RK.c (S.lenM si77 .none rfl (.tmp rfl rfl)) ?_
    refine RK.c (S.gtr .none rfl (.tmp rfl rfl) (.cint rfl)) ?_
    refine RK.nil ?_
    refine Ab.D.code ?_
    refine OK.condD rfl rfl (fun c9 => ?_) (fun c9 => ?_)
    ·
      refine OK.seq ?_
      refine OK.reg ?_
      refine RK.c (S.assign .none rfl (.cint rfl)) ?_
      refine RK.nil ?_
      refine Ab.D.code ?_
      refine OK.ret (Ret.r1 (.tmp rfl rfl (.c (.same rfl) rfl) rfl) ?_)
      refine ret_i ?_
      rw [readE, if_neg (by omega), if_pos (by omega)]
    ·
      refine OK.skip ?_
      refine Ab.D.code ?_
      refine OK.seq ?_
      refine OK.seq ?_
      refine OK.reg ?_
      refine RK.c (S.assign .none rfl (.cint rfl)) ?_
      refine RK.nil ?_
      refine Ab.D.code ?_
      refine OK.block ?_
      refine OK.loop (G := Nat) [] (fun i => [(0, .sl (l.map Bath.cs)), (3, .int .i64 i)]) (fun i => i ≤ l.length ∧ eachGo (bathE l) 0 l = eachGo (bathE l) i (l.drop i)) (fun i => l.length - i) 0 ⟨Nat.zero_le _, rfl⟩ ⟨rfl, rfl, trivial⟩ (fun _ => rfl) ?_
      rintro i ⟨hi, hg⟩
      refine OK.seq ?_
      refine OK.seq ?_
      refine OK.reg ?_
      refine RK.c (S.move .none rfl (.tmp rfl rfl)) ?_
      refine RK.c (S.move .none rfl (.tmp rfl rfl)) ?_
      refine RK.c (S.lenM si77 .none rfl (.tmp rfl rfl)) ?_
      refine RK.c (S.lss .none rfl (.tmp rfl rfl) (.tmp rfl rfl)) ?_
      refine RK.nil ?_
      refine Ab.D.code ?_
      refine OK.condD rfl rfl (fun c13 => ?_) (fun c13 => ?_)
      ·
        have hgd : l.getD (i - 1) ⟨0, ⟨0, 0⟩⟩ = l[i - 1] := getD_at (by omega)
        refine OK.skip ?_
        refine Ab.D.code ?_
        refine OK.seq ?_
        refine OK.block ?_
        refine OK.seq ?_
        refine OK.seq ?_
        refine OK.reg ?_
        refine RK.c (S.move .none rfl (.tmp rfl rfl)) ?_
        refine RK.c (S.move .none rfl (.tmp rfl rfl)) ?_
        refine RK.c (S.indexM (n := i) si77 .none rfl (.tmp rfl rfl) (.tmp rfl rfl) rfl (by omega) rfl) ?_
        refine RK.c (S.field fi88_0 .none rfl (.tmp rfl rfl) rfl) ?_
        refine RK.c (S.load1 ti3 .none rfl (.tmp rfl rfl) rfl) ?_
        refine RK.c (S.call (ref9_isTicks) Tryz.call117 .none rfl (.cons (.tmp rfl rfl) .nil) rfl) ?_
        refine RK.c (S.notD .none rfl (.tmp rfl rfl)) ?_
        refine RK.c (S.move .none rfl (.tmp rfl rfl)) ?_
        refine RK.splitD (t := 23) rfl (fun g23 => ?_) (fun g23 => ?_)
        ·
          refine RK.c (S.skip rfl rfl rfl rfl rfl) ?_
          refine RK.c (S.skip rfl rfl rfl rfl rfl) ?_
          refine RK.c (S.skip rfl rfl rfl rfl rfl) ?_
          refine RK.c (S.skip rfl rfl rfl rfl rfl) ?_
          refine RK.c (S.skip rfl rfl rfl rfl rfl) ?_
          refine RK.c (S.skip rfl rfl rfl rfl rfl) ?_
          refine RK.c (S.skip rfl rfl rfl rfl rfl) ?_
          refine RK.c (S.skip rfl rfl rfl rfl rfl) ?_
          refine RK.c (S.pickT .none rfl (.tmp rfl rfl) .cbool rfl) ?_
          refine RK.c (S.move .none rfl (.tmp rfl rfl)) ?_
          refine RK.c (S.skip rfl rfl rfl rfl rfl) ?_
          refine RK.c (S.skip rfl rfl rfl rfl rfl) ?_
          refine RK.c (S.skip rfl rfl rfl rfl rfl) ?_
          refine RK.c (S.skip rfl rfl rfl rfl rfl) ?_
          refine RK.c (S.skip rfl rfl rfl rfl rfl) ?_
          refine RK.c (S.skip rfl rfl rfl rfl rfl) ?_
          refine RK.c (S.skip rfl rfl rfl rfl rfl) ?_
          refine RK.c (S.skip rfl rfl rfl rfl rfl) ?_
          refine RK.c (S.pickT .none rfl (.tmp rfl rfl) .cbool rfl) ?_
          refine RK.nil ?_
          refine Ab.D.code ?_
          refine OK.condT rfl rfl rfl ?_
          refine OK.seq ?_
          refine OK.reg ?_
          refine RK.c (S.assign .none rfl (.cint rfl)) ?_
          refine RK.nil ?_
          refine Ab.D.code ?_
          refine OK.ret (Ret.r1 (.tmp rfl rfl (.c (.same rfl) rfl) rfl) ?_)
          refine ret_i ?_
          have hbe : bathE l i l[i] = 2 := by unfold bathE; rw [if_pos (by omega)]
          rw [readE, if_neg (by omega), if_neg (by omega), hg, eachGo_drop _ (by omega), hbe]
          rfl
        ·
          refine RK.c (S.move (.yes rfl rfl rfl rfl) rfl (.tmp rfl rfl)) ?_
          refine RK.c (S.move (.yes rfl rfl rfl rfl) rfl (.tmp rfl rfl)) ?_
          refine RK.c (S.indexM (n := i) si77 (.yes rfl rfl rfl rfl) rfl (.tmp rfl rfl) (.tmp rfl rfl) rfl (by omega) rfl) ?_
          refine RK.c (S.field fi88_1 (.yes rfl rfl rfl rfl) rfl (.tmp rfl rfl) rfl) ?_
          refine RK.c (S.field fi53_0 (.yes rfl rfl rfl rfl) rfl (.tmp rfl rfl) rfl) ?_
          refine RK.c (S.load1 ti3 (.yes rfl rfl rfl rfl) rfl (.tmp rfl rfl) rfl) ?_
          refine RK.c (S.call (ref9_isValue) Tryz.call109 (.yes rfl rfl rfl rfl) rfl (.cons (.tmp rfl rfl) .nil) rfl) ?_
          refine RK.c (S.notD (.yes rfl rfl rfl rfl) rfl (.tmp rfl rfl)) ?_
          refine RK.c (S.pickF .none rfl (.tmp rfl rfl) (.tmp rfl rfl) rfl) ?_
          refine RK.c (S.move .none rfl (.tmp rfl rfl)) ?_
          refine RK.splitD (t := 33) rfl (fun g33 => ?_) (fun g33 => ?_)
          ·
            refine RK.c (S.skip rfl rfl rfl rfl rfl) ?_
            refine RK.c (S.skip rfl rfl rfl rfl rfl) ?_
            refine RK.c (S.skip rfl rfl rfl rfl rfl) ?_
            refine RK.c (S.skip rfl rfl rfl rfl rfl) ?_
            refine RK.c (S.skip rfl rfl rfl rfl rfl) ?_
            refine RK.c (S.skip rfl rfl rfl rfl rfl) ?_
            refine RK.c (S.skip rfl rfl rfl rfl rfl) ?_
            refine RK.c (S.skip rfl rfl rfl rfl rfl) ?_
            refine RK.c (S.pickT .none rfl (.tmp rfl rfl) .cbool rfl) ?_
            refine RK.nil ?_
            refine Ab.D.code ?_
            refine OK.condT rfl rfl rfl ?_
            refine OK.seq ?_
            refine OK.reg ?_
            refine RK.c (S.assign .none rfl (.cint rfl)) ?_
            refine RK.nil ?_
            refine Ab.D.code ?_
            refine OK.ret (Ret.r1 (.tmp rfl rfl (.c (.same rfl) rfl) rfl) ?_)
            refine ret_i ?_
            first
            | (have hbe : bathE l i l[i] = 2 := by (unfold bathE; rw [if_pos (by omega)])
               rw [readE, if_neg (by omega), if_neg (by omega), hg, eachGo_drop _ (by omega), hbe]
               rfl)
            | (have hbe : bathE l i l[i] = 9 := by (unfold bathE; rw [if_neg (by omega), if_neg (by rw [hgd]; omega)])
               rw [readE, if_neg (by omega), if_neg (by omega), hg, eachGo_drop _ (by omega), hbe]
               rfl)
          ·
            refine RK.c (S.move (.yes rfl rfl rfl rfl) rfl (.tmp rfl rfl)) ?_
            refine RK.c (S.move (.yes rfl rfl rfl rfl) rfl (.tmp rfl rfl)) ?_
            refine RK.c (S.indexM (n := i) si77 (.yes rfl rfl rfl rfl) rfl (.tmp rfl rfl) (.tmp rfl rfl) rfl (by omega) rfl) ?_
            refine RK.c (S.field fi88_1 (.yes rfl rfl rfl rfl) rfl (.tmp rfl rfl) rfl) ?_
            refine RK.c (S.field fi53_1 (.yes rfl rfl rfl rfl) rfl (.tmp rfl rfl) rfl) ?_
            refine RK.c (S.load1 ti3 (.yes rfl rfl rfl rfl) rfl (.tmp rfl rfl) rfl) ?_
            refine RK.c (S.call (ref9_isValue) Tryz.call109 (.yes rfl rfl rfl rfl) rfl (.cons (.tmp rfl rfl) .nil) rfl) ?_
            refine RK.c (S.notD (.yes rfl rfl rfl rfl) rfl (.tmp rfl rfl)) ?_
            refine RK.c (S.pickF .none rfl (.tmp rfl rfl) (.tmp rfl rfl) rfl) ?_
            refine RK.nil ?_
            refine Ab.D.code ?_
            refine OK.condD rfl rfl (fun c42 => ?_) (fun c42 => ?_)
            ·
              refine OK.seq ?_
              refine OK.reg ?_
              refine RK.c (S.assign .none rfl (.cint rfl)) ?_
              refine RK.nil ?_
              refine Ab.D.code ?_
              refine OK.ret (Ret.r1 (.tmp rfl rfl (.c (.same rfl) rfl) rfl) ?_)
              refine ret_i ?_
              first
              | (have hbe : bathE l i l[i] = 2 := by (unfold bathE; rw [if_pos (by omega)])
                 rw [readE, if_neg (by omega), if_neg (by omega), hg, eachGo_drop _ (by omega), hbe]
                 rfl)
              | (have hbe : bathE l i l[i] = 9 := by (unfold bathE; rw [if_neg (by omega), if_neg (by rw [hgd]; omega)])
                 rw [readE, if_neg (by omega), if_neg (by omega), hg, eachGo_drop _ (by omega), hbe]
                 rfl)
            ·
              refine OK.skip ?_
              refine Ab.D.code ?_
              refine OK.seq ?_
              by_cases g56 : l[i].value.lo > l[i].value.hi
              ·
                refine OK.regionDraw follows (.c (S.move .none rfl (.tmp rfl rfl))
                  (.c (S.move .none rfl (.tmp rfl rfl))
                  (.c (S.indexM (n := i) si77 .none rfl (.tmp rfl rfl) (.tmp rfl rfl) rfl (by omega) rfl)
                  (.c (S.field fi88_1 .none rfl (.tmp rfl rfl) rfl)
                  (.c (S.field fi53_0 .none rfl (.tmp rfl rfl) rfl)
                  (.c (S.load1 ti3 .none rfl (.tmp rfl rfl) rfl)
                  (.c (S.move .none rfl (.tmp rfl rfl))
                  (.c (S.move .none rfl (.tmp rfl rfl))
                  (.c (S.indexM (n := i) si77 .none rfl (.tmp rfl rfl) (.tmp rfl rfl) rfl (by omega) rfl)
                  (.c (S.field fi88_1 .none rfl (.tmp rfl rfl) rfl)
                  (.c (S.field fi53_1 .none rfl (.tmp rfl rfl) rfl)
                  (.c (S.load1 ti3 .none rfl (.tmp rfl rfl) rfl)
                  (.c (S.gtr .none rfl (.tmp rfl rfl) (.tmp rfl rfl))
                  (.c (S.move .none rfl (.tmp rfl rfl))
                  (.c (S.skip rfl rfl rfl (by first | rfl | exact decide_eq_true g56 | exact decide_eq_false g56 | (rw [decide_eq_true g56]; rfl) | (rw [decide_eq_false g56]; rfl) | simp [*]) rfl)
                  (.c (S.skip rfl rfl rfl (by first | rfl | exact decide_eq_true g56 | exact decide_eq_false g56 | (rw [decide_eq_true g56]; rfl) | (rw [decide_eq_false g56]; rfl) | simp [*]) rfl)
                  (.c (S.skip rfl rfl rfl (by first | rfl | exact decide_eq_true g56 | exact decide_eq_false g56 | (rw [decide_eq_true g56]; rfl) | (rw [decide_eq_false g56]; rfl) | simp [*]) rfl)
                  (.c (S.skipU rfl rfl rfl rfl)
                  (.c (S.skipU rfl rfl rfl rfl)
                  (.c (S.skipU rfl rfl rfl rfl)
                  (.c (S.skipU rfl rfl rfl rfl)
                  (.c (S.skipU rfl rfl rfl rfl)
                  (.c (S.skipU rfl rfl rfl rfl)
                  (.c (S.skipU rfl rfl rfl rfl)
                  (.c (S.skipU rfl rfl rfl rfl)
                  (.c (S.skipU rfl rfl rfl rfl)
                  (.c (S.skipU rfl rfl rfl rfl)
                  (.c (S.skipU rfl rfl rfl rfl)
                  (.c (S.skipU rfl rfl rfl rfl)
                  (.c (S.skip rfl rfl rfl (by first | rfl | exact decide_eq_true g56 | exact decide_eq_false g56 | (rw [decide_eq_true g56]; rfl) | (rw [decide_eq_false g56]; rfl) | simp [*]) rfl)
                  (.c (S.pickT .none rfl (.tmp rfl rfl) .cbool (by first | rfl | exact decide_eq_true g56 | exact decide_eq_false g56 | (rw [decide_eq_true g56]; rfl) | (rw [decide_eq_false g56]; rfl) | simp [*]))
                  .nil))))))))))))))))))))))))))))))) (by kernel_rfl) ?_
                refine Ab.D.code ?_
                refine OK.condT rfl rfl rfl ?_
                refine OK.seq ?_
                refine OK.reg ?_
                refine RK.c (S.assign .none rfl (.cint rfl)) ?_
                refine RK.nil ?_
                refine Ab.D.code ?_
                refine OK.ret (Ret.r1 (.tmp rfl rfl (.c (.same rfl) rfl) rfl) ?_)
                refine ret_i ?_
                first
                | (have hbe : bathE l i l[i] = 2 := by (unfold bathE; rw [if_pos (by omega)])
                   rw [readE, if_neg (by omega), if_neg (by omega), hg, eachGo_drop _ (by omega), hbe]
                   rfl)
                | (have hbe : bathE l i l[i] = 9 := by (unfold bathE; rw [if_neg (by omega), if_neg (by rw [hgd]; omega)])
                   rw [readE, if_neg (by omega), if_neg (by omega), hg, eachGo_drop _ (by omega), hbe]
                   rfl)
              ·
                by_cases g59 : (i : Int) > 0
                ·
                  refine OK.regionDraw follows (.c (S.move .none rfl (.tmp rfl rfl))
                    (.c (S.move .none rfl (.tmp rfl rfl))
                    (.c (S.indexM (n := i) si77 .none rfl (.tmp rfl rfl) (.tmp rfl rfl) rfl (by omega) rfl)
                    (.c (S.field fi88_1 .none rfl (.tmp rfl rfl) rfl)
                    (.c (S.field fi53_0 .none rfl (.tmp rfl rfl) rfl)
                    (.c (S.load1 ti3 .none rfl (.tmp rfl rfl) rfl)
                    (.c (S.move .none rfl (.tmp rfl rfl))
                    (.c (S.move .none rfl (.tmp rfl rfl))
                    (.c (S.indexM (n := i) si77 .none rfl (.tmp rfl rfl) (.tmp rfl rfl) rfl (by omega) rfl)
                    (.c (S.field fi88_1 .none rfl (.tmp rfl rfl) rfl)
                    (.c (S.field fi53_1 .none rfl (.tmp rfl rfl) rfl)
                    (.c (S.load1 ti3 .none rfl (.tmp rfl rfl) rfl)
                    (.c (S.gtr .none rfl (.tmp rfl rfl) (.tmp rfl rfl))
                    (.c (S.move .none rfl (.tmp rfl rfl))
                    (.c (S.move (.yes rfl rfl rfl (by first | rfl | exact decide_eq_true g56 | exact decide_eq_false g56 | (rw [decide_eq_true g56]; rfl) | (rw [decide_eq_false g56]; rfl) | simp [*])) rfl (.tmp rfl rfl))
                    (.c (S.gtr (.yes rfl rfl rfl (by first | rfl | exact decide_eq_true g56 | exact decide_eq_false g56 | (rw [decide_eq_true g56]; rfl) | (rw [decide_eq_false g56]; rfl) | simp [*])) rfl (.tmp rfl rfl) (.cint rfl))
                    (.c (S.move (.yes rfl rfl rfl (by first | rfl | exact decide_eq_true g56 | exact decide_eq_false g56 | (rw [decide_eq_true g56]; rfl) | (rw [decide_eq_false g56]; rfl) | simp [*])) rfl (.tmp rfl rfl))
                    (.c (S.move (.yes rfl rfl rfl (by first | rfl | exact decide_eq_true g59 | exact decide_eq_false g59 | (rw [decide_eq_true g59]; rfl) | (rw [decide_eq_false g59]; rfl) | simp [*])) rfl (.tmp rfl rfl))
                    (.c (S.move (.yes rfl rfl rfl (by first | rfl | exact decide_eq_true g59 | exact decide_eq_false g59 | (rw [decide_eq_true g59]; rfl) | (rw [decide_eq_false g59]; rfl) | simp [*])) rfl (.tmp rfl rfl))
                    (.c (S.indexM (n := i) si77 (.yes rfl rfl rfl (by first | rfl | exact decide_eq_true g59 | exact decide_eq_false g59 | (rw [decide_eq_true g59]; rfl) | (rw [decide_eq_false g59]; rfl) | simp [*])) rfl (.tmp rfl rfl) (.tmp rfl rfl) rfl (by omega) rfl)
                    (.c (S.field fi88_0 (.yes rfl rfl rfl (by first | rfl | exact decide_eq_true g59 | exact decide_eq_false g59 | (rw [decide_eq_true g59]; rfl) | (rw [decide_eq_false g59]; rfl) | simp [*])) rfl (.tmp rfl rfl) rfl)
                    (.c (S.load1 ti3 (.yes rfl rfl rfl (by first | rfl | exact decide_eq_true g59 | exact decide_eq_false g59 | (rw [decide_eq_true g59]; rfl) | (rw [decide_eq_false g59]; rfl) | simp [*])) rfl (.tmp rfl rfl) rfl)
                    (.c (S.move (.yes rfl rfl rfl (by first | rfl | exact decide_eq_true g59 | exact decide_eq_false g59 | (rw [decide_eq_true g59]; rfl) | (rw [decide_eq_false g59]; rfl) | simp [*])) rfl (.tmp rfl rfl))
                    (.c (S.move (.yes rfl rfl rfl (by first | rfl | exact decide_eq_true g59 | exact decide_eq_false g59 | (rw [decide_eq_true g59]; rfl) | (rw [decide_eq_false g59]; rfl) | simp [*])) rfl (.tmp rfl rfl))
                    (.c (S.sub (.yes rfl rfl rfl (by first | rfl | exact decide_eq_true g59 | exact decide_eq_false g59 | (rw [decide_eq_true g59]; rfl) | (rw [decide_eq_false g59]; rfl) | simp [*])) rfl (.tmp rfl rfl) (.cint rfl) (IntWalk.i64_in _ (by omega)) (IntWalk.i64_in _ (by omega)))
                    (.c (S.indexM (n := i - 1) si77 (.yes rfl rfl rfl (by first | rfl | exact decide_eq_true g59 | exact decide_eq_false g59 | (rw [decide_eq_true g59]; rfl) | (rw [decide_eq_false g59]; rfl) | simp [*])) rfl (.tmp rfl rfl) (.tmp rfl rfl) (by omega) (by omega) rfl)
                    (.c (S.field fi88_0 (.yes rfl rfl rfl (by first | rfl | exact decide_eq_true g59 | exact decide_eq_false g59 | (rw [decide_eq_true g59]; rfl) | (rw [decide_eq_false g59]; rfl) | simp [*])) rfl (.tmp rfl rfl) rfl)
                    (.c (S.load1 ti3 (.yes rfl rfl rfl (by first | rfl | exact decide_eq_true g59 | exact decide_eq_false g59 | (rw [decide_eq_true g59]; rfl) | (rw [decide_eq_false g59]; rfl) | simp [*])) rfl (.tmp rfl rfl) rfl)
                    (.c (S.leq (.yes rfl rfl rfl (by first | rfl | exact decide_eq_true g59 | exact decide_eq_false g59 | (rw [decide_eq_true g59]; rfl) | (rw [decide_eq_false g59]; rfl) | simp [*])) rfl (.tmp rfl rfl) (.tmp rfl rfl))
                    (.c (S.pickT (.yes rfl rfl rfl (by first | rfl | exact decide_eq_true g56 | exact decide_eq_false g56 | (rw [decide_eq_true g56]; rfl) | (rw [decide_eq_false g56]; rfl) | simp [*])) rfl (.tmp rfl rfl) (.tmp rfl rfl) (by first | rfl | exact decide_eq_true g59 | exact decide_eq_false g59 | (rw [decide_eq_true g59]; rfl) | (rw [decide_eq_false g59]; rfl) | simp [*]))
                    (.c (S.pickF .none rfl (.tmp rfl rfl) (.tmp rfl rfl) (by first | rfl | exact decide_eq_true g56 | exact decide_eq_false g56 | (rw [decide_eq_true g56]; rfl) | (rw [decide_eq_false g56]; rfl) | simp [*]))
                    .nil))))))))))))))))))))))))))))))) (by kernel_rfl) ?_
                  refine Ab.D.code ?_
                  refine OK.condD rfl rfl (fun c73 => ?_) (fun c73 => ?_)
                  ·
                    refine OK.seq ?_
                    refine OK.reg ?_
                    refine RK.c (S.assign .none rfl (.cint rfl)) ?_
                    refine RK.nil ?_
                    refine Ab.D.code ?_
                    refine OK.ret (Ret.r1 (.tmp rfl rfl (.c (.same rfl) rfl) rfl) ?_)
                    refine ret_i ?_
                    first
                    | (have hbe : bathE l i l[i] = 2 := by (unfold bathE; rw [if_pos (by omega)])
                       rw [readE, if_neg (by omega), if_neg (by omega), hg, eachGo_drop _ (by omega), hbe]
                       rfl)
                    | (have hbe : bathE l i l[i] = 9 := by (unfold bathE; rw [if_neg (by omega), if_neg (by rw [hgd]; omega)])
                       rw [readE, if_neg (by omega), if_neg (by omega), hg, eachGo_drop _ (by omega), hbe]
                       rfl)
                  ·
                    refine OK.skip ?_
                    refine Ab.D.blk ?_
                    refine Ab.D.code ?_
                    refine OK.reg ?_
                    refine RK.c (S.move .none rfl (.tmp rfl rfl)) ?_
                    refine RK.c (S.add .none rfl (.tmp rfl rfl) (.cint rfl) (IntWalk.i64_in _ (by omega)) (IntWalk.i64_in _ (by omega))) ?_
                    refine RK.c (S.assign .none rfl (.tmp rfl rfl)) ?_
                    refine RK.nil ?_
                    refine Ab.D.lp ⟨i + 1, ⟨by omega, ?_⟩, (by omega), rfl, rfl, trivial⟩
                    have hbe : bathE l i l[i] = 0 := by unfold bathE; rw [if_neg (by omega), if_pos ⟨by omega, by first | (left; omega) | (right; rw [hgd]; omega)⟩]
                    rw [hg, eachGo_drop _ (by omega), if_neg (by omega)]
                ·
                  refine OK.regionDraw follows (.c (S.move .none rfl (.tmp rfl rfl))
                    (.c (S.move .none rfl (.tmp rfl rfl))
                    (.c (S.indexM (n := i) si77 .none rfl (.tmp rfl rfl) (.tmp rfl rfl) rfl (by omega) rfl)
                    (.c (S.field fi88_1 .none rfl (.tmp rfl rfl) rfl)
                    (.c (S.field fi53_0 .none rfl (.tmp rfl rfl) rfl)
                    (.c (S.load1 ti3 .none rfl (.tmp rfl rfl) rfl)
                    (.c (S.move .none rfl (.tmp rfl rfl))
                    (.c (S.move .none rfl (.tmp rfl rfl))
                    (.c (S.indexM (n := i) si77 .none rfl (.tmp rfl rfl) (.tmp rfl rfl) rfl (by omega) rfl)
                    (.c (S.field fi88_1 .none rfl (.tmp rfl rfl) rfl)
                    (.c (S.field fi53_1 .none rfl (.tmp rfl rfl) rfl)
                    (.c (S.load1 ti3 .none rfl (.tmp rfl rfl) rfl)
                    (.c (S.gtr .none rfl (.tmp rfl rfl) (.tmp rfl rfl))
                    (.c (S.move .none rfl (.tmp rfl rfl))
                    (.c (S.move (.yes rfl rfl rfl (by first | rfl | exact decide_eq_true g56 | exact decide_eq_false g56 | (rw [decide_eq_true g56]; rfl) | (rw [decide_eq_false g56]; rfl) | simp [*])) rfl (.tmp rfl rfl))
                    (.c (S.gtr (.yes rfl rfl rfl (by first | rfl | exact decide_eq_true g56 | exact decide_eq_false g56 | (rw [decide_eq_true g56]; rfl) | (rw [decide_eq_false g56]; rfl) | simp [*])) rfl (.tmp rfl rfl) (.cint rfl))
                    (.c (S.move (.yes rfl rfl rfl (by first | rfl | exact decide_eq_true g56 | exact decide_eq_false g56 | (rw [decide_eq_true g56]; rfl) | (rw [decide_eq_false g56]; rfl) | simp [*])) rfl (.tmp rfl rfl))
                    (.c (S.skip rfl rfl rfl (by first | rfl | exact decide_eq_true g59 | exact decide_eq_false g59 | (rw [decide_eq_true g59]; rfl) | (rw [decide_eq_false g59]; rfl) | simp [*]) rfl)
                    (.c (S.skip rfl rfl rfl (by first | rfl | exact decide_eq_true g59 | exact decide_eq_false g59 | (rw [decide_eq_true g59]; rfl) | (rw [decide_eq_false g59]; rfl) | simp [*]) rfl)
                    (.c (S.skip rfl rfl rfl (by first | rfl | exact decide_eq_true g59 | exact decide_eq_false g59 | (rw [decide_eq_true g59]; rfl) | (rw [decide_eq_false g59]; rfl) | simp [*]) rfl)
                    (.c (S.skip rfl rfl rfl (by first | rfl | exact decide_eq_true g59 | exact decide_eq_false g59 | (rw [decide_eq_true g59]; rfl) | (rw [decide_eq_false g59]; rfl) | simp [*]) rfl)
                    (.c (S.skip rfl rfl rfl (by first | rfl | exact decide_eq_true g59 | exact decide_eq_false g59 | (rw [decide_eq_true g59]; rfl) | (rw [decide_eq_false g59]; rfl) | simp [*]) rfl)
                    (.c (S.skip rfl rfl rfl (by first | rfl | exact decide_eq_true g59 | exact decide_eq_false g59 | (rw [decide_eq_true g59]; rfl) | (rw [decide_eq_false g59]; rfl) | simp [*]) rfl)
                    (.c (S.skip rfl rfl rfl (by first | rfl | exact decide_eq_true g59 | exact decide_eq_false g59 | (rw [decide_eq_true g59]; rfl) | (rw [decide_eq_false g59]; rfl) | simp [*]) rfl)
                    (.c (S.skip rfl rfl rfl (by first | rfl | exact decide_eq_true g59 | exact decide_eq_false g59 | (rw [decide_eq_true g59]; rfl) | (rw [decide_eq_false g59]; rfl) | simp [*]) rfl)
                    (.c (S.skip rfl rfl rfl (by first | rfl | exact decide_eq_true g59 | exact decide_eq_false g59 | (rw [decide_eq_true g59]; rfl) | (rw [decide_eq_false g59]; rfl) | simp [*]) rfl)
                    (.c (S.skip rfl rfl rfl (by first | rfl | exact decide_eq_true g59 | exact decide_eq_false g59 | (rw [decide_eq_true g59]; rfl) | (rw [decide_eq_false g59]; rfl) | simp [*]) rfl)
                    (.c (S.skip rfl rfl rfl (by first | rfl | exact decide_eq_true g59 | exact decide_eq_false g59 | (rw [decide_eq_true g59]; rfl) | (rw [decide_eq_false g59]; rfl) | simp [*]) rfl)
                    (.c (S.skip rfl rfl rfl (by first | rfl | exact decide_eq_true g59 | exact decide_eq_false g59 | (rw [decide_eq_true g59]; rfl) | (rw [decide_eq_false g59]; rfl) | simp [*]) rfl)
                    (.c (S.pickF (.yes rfl rfl rfl (by first | rfl | exact decide_eq_true g56 | exact decide_eq_false g56 | (rw [decide_eq_true g56]; rfl) | (rw [decide_eq_false g56]; rfl) | simp [*])) rfl (.tmp rfl rfl) .cbool (by first | rfl | exact decide_eq_true g59 | exact decide_eq_false g59 | (rw [decide_eq_true g59]; rfl) | (rw [decide_eq_false g59]; rfl) | simp [*]))
                    (.c (S.pickF .none rfl (.tmp rfl rfl) (.tmp rfl rfl) (by first | rfl | exact decide_eq_true g56 | exact decide_eq_false g56 | (rw [decide_eq_true g56]; rfl) | (rw [decide_eq_false g56]; rfl) | simp [*]))
                    .nil))))))))))))))))))))))))))))))) (by kernel_rfl) ?_
                  refine Ab.D.code ?_
                  refine OK.condF rfl rfl rfl ?_
                  refine OK.skip ?_
                  refine Ab.D.blk ?_
                  refine Ab.D.code ?_
                  refine OK.reg ?_
                  refine RK.c (S.move .none rfl (.tmp rfl rfl)) ?_
                  refine RK.c (S.add .none rfl (.tmp rfl rfl) (.cint rfl) (IntWalk.i64_in _ (by omega)) (IntWalk.i64_in _ (by omega))) ?_
                  refine RK.c (S.assign .none rfl (.tmp rfl rfl)) ?_
                  refine RK.nil ?_
                  refine Ab.D.lp ⟨i + 1, ⟨by omega, ?_⟩, (by omega), rfl, rfl, trivial⟩
                  have hbe : bathE l i l[i] = 0 := by unfold bathE; rw [if_neg (by omega), if_pos ⟨by omega, by first | (left; omega) | (right; rw [hgd]; omega)⟩]
                  rw [hg, eachGo_drop _ (by omega), if_neg (by omega)]
      ·
        refine OK.exit rfl ?_
        refine Ab.D.code ?_
        refine OK.seq ?_
        refine OK.reg ?_
        refine RK.c (S.assign .none rfl (.cint rfl)) ?_
        refine RK.nil ?_
        refine Ab.D.code ?_
        refine OK.ret (Ret.r1 (.tmp rfl rfl (.c (.same rfl) rfl) rfl) ?_)
        refine ret_i ?_
        rw [readE, if_neg (by omega), if_neg (by omega), hg, show i = l.length by omega, List.drop_length]
        rfl

theorem ref9_IsWithin {l : List Bath} {t : Int} (h2 : 2 ≤ l.length) : Ct Tryz.prog 49 [.sl (l.map Bath.cs), .int .i64 t] (.bool (inTick l t)) := by
  refine Ct.intro (rs := [.tmp 4]) Tryz.func49 rfl Tryz.ntmps49 Tryz.results49 rfl rfl rfl fun w h => ?_
  refine OK.slLen (rows := l.map Bath.cs) (t := 0) rfl rfl fun hlen => ?_
  rw [List.length_map] at hlen
  unfold maxLen at hlen
  refine OK.seq ?_
  refine OK.reg ?_
  refine RK.c (S.assign .none rfl .cbool) ?_
  refine RK.nil ?_
  refine Ab.D.code ?_
  refine OK.seq ?_
  refine OK.regionDraw follows (.c (S.move .none rfl (.tmp rfl rfl))
    (.c (S.move .none rfl (.tmp rfl rfl))
    (.c (S.indexM (n := 0) si77 .none rfl (.tmp rfl rfl) (.cint rfl) rfl (by omega) rfl)
    (.c (S.field fi88_0 .none rfl (.tmp rfl rfl) rfl)
    (.c (S.load1 ti3 .none rfl (.tmp rfl rfl) rfl)
    (.c (S.move .none rfl (.tmp rfl rfl))
    (.c (S.move .none rfl (.tmp rfl rfl))
    (.c (S.lenM si77 .none rfl (.tmp rfl rfl))
    (.c (S.sub .none rfl (.tmp rfl rfl) (.cint rfl) (IntWalk.i64_in _ (by omega)) (IntWalk.i64_in _ (by omega)))
    (.c (S.indexM (n := l.length - 1) si77 .none rfl (.tmp rfl rfl) (.tmp rfl rfl) (by omega) (by omega) rfl)
    (.c (S.field fi88_0 .none rfl (.tmp rfl rfl) rfl)
    (.c (S.load1 ti3 .none rfl (.tmp rfl rfl) rfl)
    (.c (S.call (base_Within) Tryz.call27 .none rfl (.cons (.tmp rfl rfl) (.cons (.tmp rfl rfl) (.cons (.tmp rfl rfl) .nil))) rfl)
    (.c (S.assign .none rfl (.tmp rfl rfl))
    .nil)))))))))))))) (by kernel_rfl) ?_
  refine Ab.D.code ?_
  refine OK.ret (Ret.r1 (.tmp rfl rfl (.c (.same rfl) rfl) rfl) ?_)
  exact ret_b (by unfold inTick; rw [getD_at (by omega), show nextTop l = l[l.length - 1] from getD_at (by omega)])

set_option maxHeartbeats 1000000 in
theorem ref9_Bath {l : List Bath} {t : Int} (hv : readE l = 0) (hin : inTick l t = true) : Ct Tryz.prog 50 [.sl (l.map Bath.cs), .int .i64 t] (.agg (bathT l t).cs) := by
  refine Ct.intro (rs := [.cell 4 53]) Tryz.func50 rfl Tryz.ntmps50 Tryz.results50 rfl rfl rfl fun w h => ?_
  obtain ⟨q1, q2, q3⟩ := bath_get hv
  obtain ⟨i, e1, e2, e3, e4, e5⟩ := bath_ix q1 hin
  have e6 := bath_prev hin e5
  rw [getD_at (by omega)] at e4 e6
  have hA := q3 i (by omega)
  have hB := q3 (i + 1) (by omega)
  have hord : l[i].tick < l[i + 1].tick := by
    rcases hB.2.2 with h | h
    · omega
    · rw [Nat.add_sub_cancel, getD_at (by omega)] at h; exact h
  obtain ⟨hA1, hA2, hA3⟩ := hA
  obtain ⟨hB1, hB2, hB3⟩ := hB
  have hl1 := line_bd (p := l[i].value.lo) (q := l[i + 1].value.lo) (w := l[i + 1].tick - l[i].tick) (t := t - l[i].tick) (by omega) (by omega) (by omega) (by omega)
  have hl2 := line_bd (p := l[i].value.hi) (q := l[i + 1].value.hi) (w := l[i + 1].tick - l[i].tick) (t := t - l[i].tick) (by omega) (by omega) (by omega) (by omega)
  have hu1 : lineT l[i].value.lo l[i + 1].value.lo (l[i + 1].tick - l[i].tick) (t - l[i].tick) = l[i].value.lo * (l[i + 1].tick - l[i].tick) + (l[i + 1].value.lo - l[i].value.lo) * (t - l[i].tick) := rfl
  have hu2 : lineT l[i].value.hi l[i + 1].value.hi (l[i + 1].tick - l[i].tick) (t - l[i].tick) = l[i].value.hi * (l[i + 1].tick - l[i].tick) + (l[i + 1].value.hi - l[i].value.hi) * (t - l[i].tick) := rfl
  have he : bathE2 l t = 0 := by unfold bathE2; rw [if_neg (by omega), if_pos hin]
  have hbt : bathT l t = valT l[i] l[i + 1] t := by unfold bathT; rw [if_pos he, e2, Nat.add_sub_cancel, getD_at (by omega), getD_at (by omega)]
  refine OK.seq ?_
  refine OK.reg ?_
  refine RK.c (S.alloc (k := 4) ze53 rfl .none rfl) ?_
  refine RK.nil ?_
  refine Ab.D.code ?_
  refine OK.seq ?_
  refine OK.reg ?_
  refine RK.c (S.assign .none rfl (.cint rfl)) ?_
  refine RK.nil ?_
  refine Ab.D.code ?_
  refine OK.seq ?_
  refine OK.block ?_
  refine OK.loop (G := Nat) [4] (fun k => [(0, .sl (l.map Bath.cs)), (1, .int .i64 t), (4, .ptr 4 0), (1004, .box [.int .i64 0, .int .i64 0]), (5, .int .i64 k)]) (fun k => 1 ≤ k ∧ k ≤ i + 1) (fun k => i + 2 - k) 1 ⟨Nat.le_refl _, by omega⟩ ⟨rfl, rfl, rfl, rfl, rfl, trivial⟩ (fun _ => rfl) ?_
  rintro k ⟨hk1, hk2⟩
  refine OK.seq ?_
  refine OK.seq ?_
  refine OK.reg ?_
  refine RK.c (S.move .none rfl (.tmp rfl rfl)) ?_
  refine RK.c (S.move .none rfl (.tmp rfl rfl)) ?_
  refine RK.c (S.indexM (n := k) si77 .none rfl (.tmp rfl rfl) (.tmp rfl rfl) rfl (by omega) rfl) ?_
  refine RK.c (S.field fi88_0 .none rfl (.tmp rfl rfl) rfl) ?_
  refine RK.c (S.load1 ti3 .none rfl (.tmp rfl rfl) rfl) ?_
  refine RK.c (S.move .none rfl (.tmp rfl rfl)) ?_
  refine RK.c (S.lss .none rfl (.tmp rfl rfl) (.tmp rfl rfl)) ?_
  refine RK.nil ?_
  refine Ab.D.code ?_
  refine OK.condD rfl rfl (fun c16 => ?_) (fun c16 => ?_)
  ·
    refine OK.skip ?_
    refine Ab.D.code ?_
    refine OK.block ?_
    refine OK.reg ?_
    refine RK.c (S.move .none rfl (.tmp rfl rfl)) ?_
    refine RK.c (S.add .none rfl (.tmp rfl rfl) (.cint rfl) (IntWalk.i64_in _ (by omega)) (IntWalk.i64_in _ (by omega))) ?_
    refine RK.c (S.assign .none rfl (.tmp rfl rfl)) ?_
    refine RK.nil ?_
    refine Ab.D.blk ?_
    refine Ab.D.lp ⟨k + 1, ⟨by omega, ?_⟩, (by omega), rfl, rfl, rfl, rfl, rfl, trivial⟩
    refine Decidable.byContradiction fun hn => ?_
    have hki : k = i + 1 := by omega
    subst hki
    omega
  ·
    have hki : k = i + 1 := Decidable.byContradiction fun hne => c16 (by have := e5 (k - 1) (by omega); rw [getD_at (by omega)] at this; simp only [show k - 1 + 1 = k by omega] at this; exact this)
    subst hki
    refine OK.exit rfl ?_
    refine Ab.D.code ?_
    refine OK.seq ?_
    refine OK.regionDraw follows (.c (S.move .none rfl (.tmp rfl rfl))
      (.c (S.move .none rfl (.tmp rfl rfl))
      (.c (S.sub .none rfl (.tmp rfl rfl) (.cint rfl) (IntWalk.i64_in _ (by omega)) (IntWalk.i64_in _ (by omega)))
      (.c (S.indexM (n := i) si77 .none rfl (.tmp rfl rfl) (.tmp rfl rfl) (by omega) (by omega) rfl)
      (.c (S.loadN ti88 .none rfl (.tmp rfl rfl) rfl rfl)
      (.c (S.move .none rfl (.tmp rfl rfl))
      (.c (S.move .none rfl (.tmp rfl rfl))
      (.c (S.indexM (n := i + 1) si77 .none rfl (.tmp rfl rfl) (.tmp rfl rfl) rfl (by omega) rfl)
      (.c (S.loadN ti88 .none rfl (.tmp rfl rfl) rfl rfl)
      (.c (S.alloc (k := 6) ze88 rfl .none rfl)
      (.c (S.alloc (k := 7) ze88 rfl .none rfl)
      (.c (S.store ti88 .none (.tmp rfl rfl) (.tmp rfl rfl) rfl rfl rfl rfl rfl rfl)
      (.c (S.store ti88 .none (.tmp rfl rfl) (.tmp rfl rfl) rfl rfl rfl rfl rfl rfl)
      .nil))))))))))))) (by kernel_rfl) ?_
    refine Ab.D.code ?_
    refine OK.seq ?_
    refine OK.regionDraw follows (.c (S.bfield fi88_0 .none rfl (.tmp rfl rfl))
      (.c (S.bload1 ti3 .none rfl (.tmp rfl rfl) rfl rfl rfl rfl)
      (.c (S.bfield fi88_0 .none rfl (.tmp rfl rfl))
      (.c (S.bload1 ti3 .none rfl (.tmp rfl rfl) rfl rfl rfl rfl)
      (.c (S.sub .none rfl (.tmp rfl rfl) (.tmp rfl rfl) (IntWalk.i64_in _ (by omega)) (IntWalk.i64_in _ (by omega)))
      (.c (S.move .none rfl (.tmp rfl rfl))
      (.c (S.bfield fi88_0 .none rfl (.tmp rfl rfl))
      (.c (S.bload1 ti3 .none rfl (.tmp rfl rfl) rfl rfl rfl rfl)
      (.c (S.sub .none rfl (.tmp rfl rfl) (.tmp rfl rfl) (IntWalk.i64_in _ (by omega)) (IntWalk.i64_in _ (by omega)))
      (.c (S.assign .none rfl (.tmp rfl rfl))
      (.c (S.assign .none rfl (.tmp rfl rfl))
      .nil))))))))))) (by kernel_rfl) ?_
    refine Ab.D.code ?_
    refine OK.seq ?_
    refine OK.regionDraw follows (.c (S.bfield fi88_1 .none rfl (.tmp rfl rfl))
      (.c (S.bfield fi53_0 .none rfl (.tmp rfl rfl))
      (.c (S.bload1 ti3 .none rfl (.tmp rfl rfl) rfl rfl rfl rfl)
      (.c (S.move .none rfl (.tmp rfl rfl))
      (.c (S.mul .none rfl (.tmp rfl rfl) (.tmp rfl rfl) (IntWalk.i64_in _ (by omega)) (IntWalk.i64_in _ (by omega)))
      (.c (S.bfield fi88_1 .none rfl (.tmp rfl rfl))
      (.c (S.bfield fi53_0 .none rfl (.tmp rfl rfl))
      (.c (S.bload1 ti3 .none rfl (.tmp rfl rfl) rfl rfl rfl rfl)
      (.c (S.bfield fi88_1 .none rfl (.tmp rfl rfl))
      (.c (S.bfield fi53_0 .none rfl (.tmp rfl rfl))
      (.c (S.bload1 ti3 .none rfl (.tmp rfl rfl) rfl rfl rfl rfl)
      (.c (S.sub .none rfl (.tmp rfl rfl) (.tmp rfl rfl) (IntWalk.i64_in _ (by omega)) (IntWalk.i64_in _ (by omega)))
      (.c (S.move .none rfl (.tmp rfl rfl))
      (.c (S.mul .none rfl (.tmp rfl rfl) (.tmp rfl rfl) (IntWalk.i64_in _ (by omega)) (IntWalk.i64_in _ (by omega)))
      (.c (S.add .none rfl (.tmp rfl rfl) (.tmp rfl rfl) (IntWalk.i64_in _ (by omega)) (IntWalk.i64_in _ (by omega)))
      (.c (S.move .none rfl (.tmp rfl rfl))
      (.c (S.call (base_Floor (A := 3000000000) (by omega) (by omega) (by omega)) Tryz.call128 .none rfl (.cons (.tmp rfl rfl) (.cons (.tmp rfl rfl) .nil)) rfl)
      (.c (S.bfield fi88_1 .none rfl (.tmp rfl rfl))
      (.c (S.bfield fi53_1 .none rfl (.tmp rfl rfl))
      (.c (S.bload1 ti3 .none rfl (.tmp rfl rfl) rfl rfl rfl rfl)
      (.c (S.move .none rfl (.tmp rfl rfl))
      (.c (S.mul .none rfl (.tmp rfl rfl) (.tmp rfl rfl) (IntWalk.i64_in _ (by omega)) (IntWalk.i64_in _ (by omega)))
      (.c (S.bfield fi88_1 .none rfl (.tmp rfl rfl))
      (.c (S.bfield fi53_1 .none rfl (.tmp rfl rfl))
      (.c (S.bload1 ti3 .none rfl (.tmp rfl rfl) rfl rfl rfl rfl)
      (.c (S.bfield fi88_1 .none rfl (.tmp rfl rfl))
      (.c (S.bfield fi53_1 .none rfl (.tmp rfl rfl))
      (.c (S.bload1 ti3 .none rfl (.tmp rfl rfl) rfl rfl rfl rfl)
      (.c (S.sub .none rfl (.tmp rfl rfl) (.tmp rfl rfl) (IntWalk.i64_in _ (by omega)) (IntWalk.i64_in _ (by omega)))
      (.c (S.move .none rfl (.tmp rfl rfl))
      (.c (S.mul .none rfl (.tmp rfl rfl) (.tmp rfl rfl) (IntWalk.i64_in _ (by omega)) (IntWalk.i64_in _ (by omega)))
      (.c (S.add .none rfl (.tmp rfl rfl) (.tmp rfl rfl) (IntWalk.i64_in _ (by omega)) (IntWalk.i64_in _ (by omega)))
      (.c (S.move .none rfl (.tmp rfl rfl))
      (.c (S.call (base_Ceil (A := 3000000000) (by omega) (by omega) (by omega)) Tryz.call71 .none rfl (.cons (.tmp rfl rfl) (.cons (.tmp rfl rfl) .nil)) rfl)
      (.c (S.build bu53 rfl .none rfl (.cons (.tmp rfl rfl) (.cons (.tmp rfl rfl) .nil)) rfl rfl)
      (.c (S.store ti53 .none (.tmp rfl rfl) (.tmp rfl rfl) rfl rfl rfl rfl rfl rfl)
      .nil)))))))))))))))))))))))))))))))))))) (by kernel_rfl) ?_
    refine Ab.D.code ?_
    refine OK.ret (Ret.r1 (.cellN rfl rfl rfl rfl ti53 rfl (.k (.same rfl) (.k (.same rfl) .z))) ?_)
    rw [hbt]
    rfl

set_option maxHeartbeats 1000000 in
theorem ref9_Next {l : List Bath} {r : Range} (hv : readE l = 0) (hr : limE r = 0) : Ct Tryz.prog 51 [.sl (l.map Bath.cs), .agg r.cs] (.tup [.int .i64 (nextT l r), .int .i64 (nextE l r)]) := by
  refine Ct.intro (rs := [.tmp 4, .tmp 5]) Tryz.func51 rfl Tryz.ntmps51 Tryz.results51 rfl rfl rfl fun w h => ?_
  obtain ⟨q1, q2, q3⟩ := bath_get hv
  have ha := q3 (l.length - 2) (by omega)
  have hb := q3 (l.length - 1) (by omega)
  have hlr := lim_ok hr
  have hgl : nextLow l = l[l.length - 2] := getD_at (by omega)
  have hgt : nextTop l = l[l.length - 1] := getD_at (by omega)
  have hord : l[l.length - 2].tick < l[l.length - 1].tick := by
    rcases hb.2.2 with e | e
    · omega
    · simp only [show l.length - 1 - 1 = l.length - 2 by omega] at e
      rw [getD_at (by omega)] at e
      exact e
  have hf0 : fall0 l[l.length - 2] l[l.length - 1] = l[l.length - 2].value.lo - l[l.length - 1].value.lo := rfl
  have hf1 : fall1 l[l.length - 2] l[l.length - 1] = l[l.length - 1].value.hi - l[l.length - 2].value.hi := rfl
  refine OK.seq ?_
  refine OK.reg ?_
  refine RK.c (S.box (k := 3) rfl .none rfl (.tmp rfl rfl) rfl) ?_
  refine RK.c (S.assign .none rfl (.cint rfl)) ?_
  refine RK.c (S.assign .none rfl (.cint rfl)) ?_
  refine RK.nil ?_
  refine Ab.D.code ?_
  refine OK.seq ?_
  refine OK.regionDraw follows (.c (S.move .none rfl (.tmp rfl rfl))
    (.c (S.move .none rfl (.tmp rfl rfl))
    (.c (S.lenM si77 .none rfl (.tmp rfl rfl))
    (.c (S.sub .none rfl (.tmp rfl rfl) (.cint rfl) (IntWalk.i64_in _ (by omega)) (IntWalk.i64_in _ (by omega)))
    (.c (S.indexM (n := l.length - 2) si77 .none rfl (.tmp rfl rfl) (.tmp rfl rfl) (by omega) (by omega) rfl)
    (.c (S.loadN ti88 .none rfl (.tmp rfl rfl) rfl rfl)
    (.c (S.move .none rfl (.tmp rfl rfl))
    (.c (S.move .none rfl (.tmp rfl rfl))
    (.c (S.lenM si77 .none rfl (.tmp rfl rfl))
    (.c (S.sub .none rfl (.tmp rfl rfl) (.cint rfl) (IntWalk.i64_in _ (by omega)) (IntWalk.i64_in _ (by omega)))
    (.c (S.indexM (n := l.length - 1) si77 .none rfl (.tmp rfl rfl) (.tmp rfl rfl) (by omega) (by omega) rfl)
    (.c (S.loadN ti88 .none rfl (.tmp rfl rfl) rfl rfl)
    (.c (S.alloc (k := 6) ze88 rfl .none rfl)
    (.c (S.alloc (k := 7) ze88 rfl .none rfl)
    (.c (S.store ti88 .none (.tmp rfl rfl) (.tmp rfl rfl) rfl rfl rfl rfl rfl rfl)
    (.c (S.store ti88 .none (.tmp rfl rfl) (.tmp rfl rfl) rfl rfl rfl rfl rfl rfl)
    .nil)))))))))))))))) (by kernel_rfl) ?_
  refine Ab.D.code ?_
  refine OK.seq ?_
  refine OK.seq ?_
  refine OK.reg ?_
  refine RK.c (S.bfield fi88_1 .none rfl (.tmp rfl rfl)) ?_
  refine RK.c (S.bfield fi53_0 .none rfl (.tmp rfl rfl)) ?_
  refine RK.c (S.bload1 ti3 .none rfl (.tmp rfl rfl) rfl rfl rfl rfl) ?_
  refine RK.c (S.bfield fi53_0 .none rfl (.tmp rfl rfl)) ?_
  refine RK.c (S.bload1 ti3 .none rfl (.tmp rfl rfl) rfl rfl rfl rfl) ?_
  refine RK.c (S.lss .none rfl (.tmp rfl rfl) (.tmp rfl rfl)) ?_
  refine RK.c (S.move .none rfl (.tmp rfl rfl)) ?_
  refine RK.splitD (t := 33) rfl (fun g33 => ?_) (fun g33 => ?_)
  ·
    refine RK.c (S.skip rfl rfl rfl rfl rfl) ?_
    refine RK.c (S.skip rfl rfl rfl rfl rfl) ?_
    refine RK.c (S.skip rfl rfl rfl rfl rfl) ?_
    refine RK.c (S.skip rfl rfl rfl rfl rfl) ?_
    refine RK.c (S.skip rfl rfl rfl rfl rfl) ?_
    refine RK.c (S.skip rfl rfl rfl rfl rfl) ?_
    refine RK.c (S.pickT .none rfl (.tmp rfl rfl) .cbool rfl) ?_
    refine RK.nil ?_
    refine Ab.D.code ?_
    refine OK.condT rfl rfl rfl ?_
    refine OK.seq ?_
    refine OK.reg ?_
    refine RK.c (S.assign .none rfl (.cint rfl)) ?_
    refine RK.c (S.assign .none rfl (.cint rfl)) ?_
    refine RK.nil ?_
    refine Ab.D.code ?_
    refine OK.ret (Ret.r2 (.tmp rfl rfl (.c (.same rfl) rfl) rfl) (.tmp rfl rfl (.c (.same rfl) rfl) rfl) ?_)
    have he : nextE l r = 22 := by unfold nextE; rw [if_neg (by omega), if_neg (by omega), hgt, if_pos (by omega)]
    rw [nextT, if_neg (by omega), he]
  ·
    refine RK.c (S.bfield fi88_1 (.yes rfl rfl rfl rfl) rfl (.tmp rfl rfl)) ?_
    refine RK.c (S.bfield fi53_1 (.yes rfl rfl rfl rfl) rfl (.tmp rfl rfl)) ?_
    refine RK.c (S.bload1 ti3 (.yes rfl rfl rfl rfl) rfl (.tmp rfl rfl) rfl rfl rfl rfl) ?_
    refine RK.c (S.bfield fi53_1 (.yes rfl rfl rfl rfl) rfl (.tmp rfl rfl)) ?_
    refine RK.c (S.bload1 ti3 (.yes rfl rfl rfl rfl) rfl (.tmp rfl rfl) rfl rfl rfl rfl) ?_
    refine RK.c (S.gtr (.yes rfl rfl rfl rfl) rfl (.tmp rfl rfl) (.tmp rfl rfl)) ?_
    refine RK.c (S.pickF .none rfl (.tmp rfl rfl) (.tmp rfl rfl) rfl) ?_
    refine RK.nil ?_
    refine Ab.D.code ?_
    refine OK.condD rfl rfl (fun c40 => ?_) (fun c40 => ?_)
    ·
      refine OK.seq ?_
      refine OK.reg ?_
      refine RK.c (S.assign .none rfl (.cint rfl)) ?_
      refine RK.c (S.assign .none rfl (.cint rfl)) ?_
      refine RK.nil ?_
      refine Ab.D.code ?_
      refine OK.ret (Ret.r2 (.tmp rfl rfl (.c (.same rfl) rfl) rfl) (.tmp rfl rfl (.c (.same rfl) rfl) rfl) ?_)
      have he : nextE l r = 22 := by unfold nextE; rw [if_neg (by omega), if_neg (by omega), hgt, if_pos (by omega)]
      rw [nextT, if_neg (by omega), he]
    ·
      refine OK.skip ?_
      refine Ab.D.code ?_
      refine OK.seq ?_
      refine OK.reg ?_
      refine RK.c (S.bfield fi88_0 .none rfl (.tmp rfl rfl)) ?_
      refine RK.c (S.bload1 ti3 .none rfl (.tmp rfl rfl) rfl rfl rfl rfl) ?_
      refine RK.c (S.bfield fi88_0 .none rfl (.tmp rfl rfl)) ?_
      refine RK.c (S.bload1 ti3 .none rfl (.tmp rfl rfl) rfl rfl rfl rfl) ?_
      refine RK.c (S.sub .none rfl (.tmp rfl rfl) (.tmp rfl rfl) (IntWalk.i64_in _ (by omega)) (IntWalk.i64_in _ (by omega))) ?_
      refine RK.c (S.assign .none rfl (.tmp rfl rfl)) ?_
      refine RK.nil ?_
      refine Ab.D.code ?_
      refine OK.seq ?_
      refine OK.reg ?_
      refine RK.c (S.assign .none rfl (.cint rfl)) ?_
      refine RK.c (S.assign .none rfl .cbool) ?_
      refine RK.nil ?_
      refine Ab.D.code ?_
      refine OK.seq ?_
      refine OK.reg ?_
      refine RK.c (S.bfield fi88_1 .none rfl (.tmp rfl rfl)) ?_
      refine RK.c (S.bfield fi53_0 .none rfl (.tmp rfl rfl)) ?_
      refine RK.c (S.bload1 ti3 .none rfl (.tmp rfl rfl) rfl rfl rfl rfl) ?_
      refine RK.c (S.bfield fi53_0 .none rfl (.tmp rfl rfl)) ?_
      refine RK.c (S.bload1 ti3 .none rfl (.tmp rfl rfl) rfl rfl rfl rfl) ?_
      refine RK.c (S.sub .none rfl (.tmp rfl rfl) (.tmp rfl rfl) (IntWalk.i64_in _ (by omega)) (IntWalk.i64_in _ (by omega))) ?_
      refine RK.c (S.bfield fi53_1 .none rfl (.tmp rfl rfl)) ?_
      refine RK.c (S.bload1 ti3 .none rfl (.tmp rfl rfl) rfl rfl rfl rfl) ?_
      refine RK.c (S.bfield fi88_1 .none rfl (.tmp rfl rfl)) ?_
      refine RK.c (S.bfield fi53_1 .none rfl (.tmp rfl rfl)) ?_
      refine RK.c (S.bload1 ti3 .none rfl (.tmp rfl rfl) rfl rfl rfl rfl) ?_
      refine RK.c (S.sub .none rfl (.tmp rfl rfl) (.tmp rfl rfl) (IntWalk.i64_in _ (by omega)) (IntWalk.i64_in _ (by omega))) ?_
      refine RK.c (S.build bu182 rfl .none rfl (.cons (.tmp rfl rfl) (.cons (.tmp rfl rfl) .nil)) rfl rfl) ?_
      refine RK.c (S.alloc (k := 11) ze182 rfl .none rfl) ?_
      refine RK.c (S.store ti182 .none (.tmp rfl rfl) (.tmp rfl rfl) rfl rfl rfl rfl rfl rfl) ?_
      refine RK.nil ?_
      refine Ab.D.code ?_
      refine OK.seq ?_
      refine OK.reg ?_
      refine RK.c (S.bfield fi88_1 .none rfl (.tmp rfl rfl)) ?_
      refine RK.c (S.bfield fi53_0 .none rfl (.tmp rfl rfl)) ?_
      refine RK.c (S.bload1 ti3 .none rfl (.tmp rfl rfl) rfl rfl rfl rfl) ?_
      refine RK.c (S.bfield fi88_1 .none rfl (.tmp rfl rfl)) ?_
      refine RK.c (S.bfield fi53_0 .none rfl (.tmp rfl rfl)) ?_
      refine RK.c (S.bload1 ti3 .none rfl (.tmp rfl rfl) rfl rfl rfl rfl) ?_
      refine RK.c (S.sub .none rfl (.tmp rfl rfl) (.tmp rfl rfl) (IntWalk.i64_in _ (by omega)) (IntWalk.i64_in _ (by omega))) ?_
      refine RK.c (S.bfield fi88_1 .none rfl (.tmp rfl rfl)) ?_
      refine RK.c (S.bfield fi53_1 .none rfl (.tmp rfl rfl)) ?_
      refine RK.c (S.bload1 ti3 .none rfl (.tmp rfl rfl) rfl rfl rfl rfl) ?_
      refine RK.c (S.bfield fi88_1 .none rfl (.tmp rfl rfl)) ?_
      refine RK.c (S.bfield fi53_1 .none rfl (.tmp rfl rfl)) ?_
      refine RK.c (S.bload1 ti3 .none rfl (.tmp rfl rfl) rfl rfl rfl rfl) ?_
      refine RK.c (S.sub .none rfl (.tmp rfl rfl) (.tmp rfl rfl) (IntWalk.i64_in _ (by omega)) (IntWalk.i64_in _ (by omega))) ?_
      refine RK.c (S.build bu182 rfl .none rfl (.cons (.tmp rfl rfl) (.cons (.tmp rfl rfl) .nil)) rfl rfl) ?_
      refine RK.c (S.alloc (k := 12) ze182 rfl .none rfl) ?_
      refine RK.c (S.store ti182 .none (.tmp rfl rfl) (.tmp rfl rfl) rfl rfl rfl rfl rfl rfl) ?_
      refine RK.nil ?_
      refine Ab.D.code ?_
      refine OK.seq ?_
      refine OK.seq ?_
      refine OK.reg ?_
      refine RK.c (S.assign .none rfl (.cint rfl)) ?_
      refine RK.nil ?_
      refine Ab.D.code ?_
      refine OK.block ?_
      refine OK.loop3 [3, 6, 7, 11, 12] (fun (k : Nat) (best : Int) (found : Bool) => [(3, .ptr 3 0), (1003, .box r.cs), (6, .ptr 6 0), (1006, .box l[l.length - 2].cs), (7, .ptr 7 0), (1007, .box l[l.length - 1].cs), (8, .int .i64 (l[l.length - 1].tick - l[l.length - 2].tick)), (9, .int .i64 best), (10, .bool found), (11, .ptr 11 0), (1011, .box [.int .i64 (l[l.length - 1].value.lo - r.lo), .int .i64 (r.hi - l[l.length - 1].value.hi)]), (12, .ptr 12 0), (1012, .box [.int .i64 (l[l.length - 2].value.lo - l[l.length - 1].value.lo), .int .i64 (l[l.length - 1].value.hi - l[l.length - 2].value.hi)]), (13, .int .i64 k)]) (fun k best found => k ≤ 2 ∧ best = nbest l[l.length - 2] l[l.length - 1] r k ∧ found = nfound l[l.length - 2] l[l.length - 1] k) (fun k best found => 2 - k) (0) (0) (false) ⟨by omega, rfl, rfl⟩ ⟨rfl, rfl, rfl, rfl, rfl, rfl, rfl, rfl, rfl, rfl, rfl, rfl, rfl, rfl, trivial⟩ (fun _ _ _ => rfl) ?_
      rintro k best found ⟨hk, hbe, hfo⟩
      obtain rfl | rfl | rfl : k = 0 ∨ k = 1 ∨ k = 2 := by omega
      ·
        refine OK.seq ?_
        refine OK.seq ?_
        refine OK.reg ?_
        refine RK.c (S.move .none rfl (.tmp rfl rfl)) ?_
        refine RK.c (S.lss .none rfl (.tmp rfl rfl) (.cint rfl)) ?_
        refine RK.nil ?_
        refine Ab.D.code ?_
        refine OK.condD rfl rfl (fun c75 => ?_) (fun c75 => ?_)
        ·
          refine OK.skip ?_
          refine Ab.D.code ?_
          refine OK.seq ?_
          refine OK.block ?_
          refine OK.seq ?_
          refine OK.seq ?_
          refine OK.reg ?_
          refine RK.c (S.move .none rfl (.tmp rfl rfl)) ?_
          refine RK.c (S.bindex (i := 0) Tryz.underlying182 Tryz.sizeOf3 .none rfl (.tmp rfl rfl) (.tmp rfl rfl) rfl (by decide)) ?_
          refine RK.c (S.bload1 ti3 .none rfl (.tmp rfl rfl) rfl rfl rfl rfl) ?_
          refine RK.c (S.leq .none rfl (.tmp rfl rfl) (.cint rfl)) ?_
          refine RK.nil ?_
          refine Ab.D.code ?_
          refine OK.condD rfl rfl (fun c81 => ?_) (fun c81 => ?_)
          ·
            refine OK.exit rfl ?_
            refine Ab.D.code ?_
            refine OK.reg ?_
            refine RK.c (S.move .none rfl (.tmp rfl rfl)) ?_
            refine RK.c (S.add .none rfl (.tmp rfl rfl) (.cint rfl) (IntWalk.i64_in _ (by omega)) (IntWalk.i64_in _ (by omega))) ?_
            refine RK.c (S.assign .none rfl (.tmp rfl rfl)) ?_
            refine RK.nil ?_
            refine Ab.D.lp ⟨1, best, found, ⟨by omega, ?_, ?_⟩, (by omega), rfl, rfl, rfl, rfl, rfl, rfl, rfl, rfl, rfl, rfl, rfl, rfl, rfl, rfl, trivial⟩
            · first | exact nb_0F hbe (by omega) | exact hnx.trans (nb_0T (by omega)) | exact nb_1F hbe (by omega) | exact hnx.trans (nb_1N hfo (by simpa using g94) (by omega)) | exact hnx.trans (nb_1T hbe hfo (by simpa using g94) (by omega) (by omega)) | exact nb_1K hbe hfo (by simpa using g94) (by omega) (by omega)
            · first | exact nf_0F hfo (by omega) | exact nf_0T (by omega) | exact nf_1F hfo (by omega) | exact nf_1T (by omega) | (rw [show found = true by simpa using g94]; exact nf_1T (by omega))
          ·
            have hlb := leave_bd (above := l[l.length - 1].value.lo - r.lo) (falls := l[l.length - 2].value.lo - l[l.length - 1].value.lo) (ticks := l[l.length - 1].tick - l[l.length - 2].tick) (by omega) (by omega) (by omega)
            have hnx := nx_eq (last := l[l.length - 1].tick) hlb.1.1 (show 0 < l[l.length - 2].value.lo - l[l.length - 1].value.lo by omega)
            have hn0 : leaveT l[l.length - 1].tick (l[l.length - 1].value.lo - r.lo) (l[l.length - 2].value.lo - l[l.length - 1].value.lo) (l[l.length - 1].tick - l[l.length - 2].tick) = nxt0 l[l.length - 2] l[l.length - 1] r := rfl
            rw [hn0] at hnx
            have hfb := floor_bd (n := (l[l.length - 1].value.lo - r.lo) * (l[l.length - 1].tick - l[l.length - 2].tick)) (b := l[l.length - 2].value.lo - l[l.length - 1].value.lo) (by omega) (A := 2000000000) (by omega)
            refine OK.skip ?_
            refine Ab.D.code ?_
            refine OK.seq ?_
            refine OK.regionDraw follows (.c (S.move .none rfl (.tmp rfl rfl))
              (.c (S.bindex (i := 0) Tryz.underlying182 Tryz.sizeOf3 .none rfl (.tmp rfl rfl) (.tmp rfl rfl) rfl (by decide))
              (.c (S.bload1 ti3 .none rfl (.tmp rfl rfl) rfl rfl rfl rfl)
              (.c (S.move .none rfl (.tmp rfl rfl))
              (.c (S.mul .none rfl (.tmp rfl rfl) (.tmp rfl rfl) (IntWalk.i64_in _ (by omega)) (IntWalk.i64_in _ (by omega)))
              (.c (S.move .none rfl (.tmp rfl rfl))
              (.c (S.bindex (i := 0) Tryz.underlying182 Tryz.sizeOf3 .none rfl (.tmp rfl rfl) (.tmp rfl rfl) rfl (by decide))
              (.c (S.bload1 ti3 .none rfl (.tmp rfl rfl) rfl rfl rfl rfl)
              (.c (S.call (base_Floor (A := 2000000000) (by omega) (by omega) (by omega)) Tryz.call128 .none rfl (.cons (.tmp rfl rfl) (.cons (.tmp rfl rfl) .nil)) rfl)
              (.c (S.add .none rfl (.tmp rfl rfl) (.cint rfl) (IntWalk.i64_in _ (by omega)) (IntWalk.i64_in _ (by omega)))
              (.c (S.assign .none rfl (.tmp rfl rfl))
              .nil))))))))))) (by kernel_rfl) ?_
            refine Ab.D.code ?_
            refine OK.seq ?_
            refine OK.reg ?_
            refine RK.c (S.move .none rfl (.tmp rfl rfl)) ?_
            refine RK.c (S.not .none rfl (.tmp rfl rfl)) ?_
            refine RK.c (S.move .none rfl (.tmp rfl rfl)) ?_
            refine RK.split (t := 94) rfl (fun g94 => ?_) (fun g94 => ?_)
            ·
              refine RK.c (S.skip rfl rfl rfl rfl rfl) ?_
              refine RK.c (S.skip rfl rfl rfl rfl rfl) ?_
              refine RK.c (S.skip rfl rfl rfl rfl rfl) ?_
              refine RK.c (S.skip rfl rfl rfl rfl rfl) ?_
              refine RK.c (S.skip rfl rfl rfl rfl rfl) ?_
              refine RK.c (S.skip rfl rfl rfl rfl rfl) ?_
              refine RK.c (S.pickT .none rfl (.tmp rfl rfl) .cbool rfl) ?_
              refine RK.nil ?_
              refine Ab.D.code ?_
              refine OK.condT rfl rfl rfl ?_
              refine OK.reg ?_
              refine RK.c (S.bfield fi88_0 .none rfl (.tmp rfl rfl)) ?_
              refine RK.c (S.bload1 ti3 .none rfl (.tmp rfl rfl) rfl rfl rfl rfl) ?_
              refine RK.c (S.move .none rfl (.tmp rfl rfl)) ?_
              refine RK.c (S.add .none rfl (.tmp rfl rfl) (.tmp rfl rfl) (IntWalk.i64_in _ (by omega)) (IntWalk.i64_in _ (by omega))) ?_
              refine RK.c (S.assign .none rfl (.tmp rfl rfl)) ?_
              refine RK.c (S.assign .none rfl .cbool) ?_
              refine RK.nil ?_
              refine Ab.D.blk ?_
              refine Ab.D.code ?_
              refine OK.reg ?_
              refine RK.c (S.move .none rfl (.tmp rfl rfl)) ?_
              refine RK.c (S.add .none rfl (.tmp rfl rfl) (.cint rfl) (IntWalk.i64_in _ (by omega)) (IntWalk.i64_in _ (by omega))) ?_
              refine RK.c (S.assign .none rfl (.tmp rfl rfl)) ?_
              refine RK.nil ?_
              refine Ab.D.lp ⟨1, (l[l.length - 1].tick + (floorT ((l[l.length - 1].value.lo - r.lo) * (l[l.length - 1].tick - l[l.length - 2].tick)) (l[l.length - 2].value.lo - l[l.length - 1].value.lo) + 1)), true, ⟨by omega, ?_, ?_⟩, (by omega), rfl, rfl, rfl, rfl, rfl, rfl, rfl, rfl, rfl, rfl, rfl, rfl, rfl, rfl, trivial⟩
              · first | exact nb_0F hbe (by omega) | exact hnx.trans (nb_0T (by omega)) | exact nb_1F hbe (by omega) | exact hnx.trans (nb_1N hfo (by simpa using g94) (by omega)) | exact hnx.trans (nb_1T hbe hfo (by simpa using g94) (by omega) (by omega)) | exact nb_1K hbe hfo (by simpa using g94) (by omega) (by omega)
              · first | exact nf_0F hfo (by omega) | exact nf_0T (by omega) | exact nf_1F hfo (by omega) | exact nf_1T (by omega) | (rw [show found = true by simpa using g94]; exact nf_1T (by omega))
            ·
              exact absurd ((show found = true by simpa using g94).symm.trans hfo) (by simp [nfound])
        ·
          exfalso
          omega
      ·
        refine OK.seq ?_
        refine OK.seq ?_
        refine OK.reg ?_
        refine RK.c (S.move .none rfl (.tmp rfl rfl)) ?_
        refine RK.c (S.lss .none rfl (.tmp rfl rfl) (.cint rfl)) ?_
        refine RK.nil ?_
        refine Ab.D.code ?_
        refine OK.condD rfl rfl (fun c75 => ?_) (fun c75 => ?_)
        ·
          refine OK.skip ?_
          refine Ab.D.code ?_
          refine OK.seq ?_
          refine OK.block ?_
          refine OK.seq ?_
          refine OK.seq ?_
          refine OK.reg ?_
          refine RK.c (S.move .none rfl (.tmp rfl rfl)) ?_
          refine RK.c (S.bindex (i := 1) Tryz.underlying182 Tryz.sizeOf3 .none rfl (.tmp rfl rfl) (.tmp rfl rfl) rfl (by decide)) ?_
          refine RK.c (S.bload1 ti3 .none rfl (.tmp rfl rfl) rfl rfl rfl rfl) ?_
          refine RK.c (S.leq .none rfl (.tmp rfl rfl) (.cint rfl)) ?_
          refine RK.nil ?_
          refine Ab.D.code ?_
          refine OK.condD rfl rfl (fun c81 => ?_) (fun c81 => ?_)
          ·
            refine OK.exit rfl ?_
            refine Ab.D.code ?_
            refine OK.reg ?_
            refine RK.c (S.move .none rfl (.tmp rfl rfl)) ?_
            refine RK.c (S.add .none rfl (.tmp rfl rfl) (.cint rfl) (IntWalk.i64_in _ (by omega)) (IntWalk.i64_in _ (by omega))) ?_
            refine RK.c (S.assign .none rfl (.tmp rfl rfl)) ?_
            refine RK.nil ?_
            refine Ab.D.lp ⟨2, best, found, ⟨by omega, ?_, ?_⟩, (by omega), rfl, rfl, rfl, rfl, rfl, rfl, rfl, rfl, rfl, rfl, rfl, rfl, rfl, rfl, trivial⟩
            · first | exact nb_0F hbe (by omega) | exact hnx.trans (nb_0T (by omega)) | exact nb_1F hbe (by omega) | exact hnx.trans (nb_1N hfo (by simpa using g94) (by omega)) | exact hnx.trans (nb_1T hbe hfo (by simpa using g94) (by omega) (by omega)) | exact nb_1K hbe hfo (by simpa using g94) (by omega) (by omega)
            · first | exact nf_0F hfo (by omega) | exact nf_0T (by omega) | exact nf_1F hfo (by omega) | exact nf_1T (by omega) | (rw [show found = true by simpa using g94]; exact nf_1T (by omega))
          ·
            have hlb := leave_bd (above := r.hi - l[l.length - 1].value.hi) (falls := l[l.length - 1].value.hi - l[l.length - 2].value.hi) (ticks := l[l.length - 1].tick - l[l.length - 2].tick) (by omega) (by omega) (by omega)
            have hnx := nx_eq (last := l[l.length - 1].tick) hlb.1.1 (show 0 < l[l.length - 1].value.hi - l[l.length - 2].value.hi by omega)
            have hn1 : leaveT l[l.length - 1].tick (r.hi - l[l.length - 1].value.hi) (l[l.length - 1].value.hi - l[l.length - 2].value.hi) (l[l.length - 1].tick - l[l.length - 2].tick) = nxt1 l[l.length - 2] l[l.length - 1] r := rfl
            rw [hn1] at hnx
            have hfb := floor_bd (n := (r.hi - l[l.length - 1].value.hi) * (l[l.length - 1].tick - l[l.length - 2].tick)) (b := l[l.length - 1].value.hi - l[l.length - 2].value.hi) (by omega) (A := 2000000000) (by omega)
            refine OK.skip ?_
            refine Ab.D.code ?_
            refine OK.seq ?_
            refine OK.regionDraw follows (.c (S.move .none rfl (.tmp rfl rfl))
              (.c (S.bindex (i := 1) Tryz.underlying182 Tryz.sizeOf3 .none rfl (.tmp rfl rfl) (.tmp rfl rfl) rfl (by decide))
              (.c (S.bload1 ti3 .none rfl (.tmp rfl rfl) rfl rfl rfl rfl)
              (.c (S.move .none rfl (.tmp rfl rfl))
              (.c (S.mul .none rfl (.tmp rfl rfl) (.tmp rfl rfl) (IntWalk.i64_in _ (by omega)) (IntWalk.i64_in _ (by omega)))
              (.c (S.move .none rfl (.tmp rfl rfl))
              (.c (S.bindex (i := 1) Tryz.underlying182 Tryz.sizeOf3 .none rfl (.tmp rfl rfl) (.tmp rfl rfl) rfl (by decide))
              (.c (S.bload1 ti3 .none rfl (.tmp rfl rfl) rfl rfl rfl rfl)
              (.c (S.call (base_Floor (A := 2000000000) (by omega) (by omega) (by omega)) Tryz.call128 .none rfl (.cons (.tmp rfl rfl) (.cons (.tmp rfl rfl) .nil)) rfl)
              (.c (S.add .none rfl (.tmp rfl rfl) (.cint rfl) (IntWalk.i64_in _ (by omega)) (IntWalk.i64_in _ (by omega)))
              (.c (S.assign .none rfl (.tmp rfl rfl))
              .nil))))))))))) (by kernel_rfl) ?_
            refine Ab.D.code ?_
            refine OK.seq ?_
            refine OK.reg ?_
            refine RK.c (S.move .none rfl (.tmp rfl rfl)) ?_
            refine RK.c (S.not .none rfl (.tmp rfl rfl)) ?_
            refine RK.c (S.move .none rfl (.tmp rfl rfl)) ?_
            refine RK.split (t := 94) rfl (fun g94 => ?_) (fun g94 => ?_)
            ·
              refine RK.c (S.skip rfl rfl rfl rfl rfl) ?_
              refine RK.c (S.skip rfl rfl rfl rfl rfl) ?_
              refine RK.c (S.skip rfl rfl rfl rfl rfl) ?_
              refine RK.c (S.skip rfl rfl rfl rfl rfl) ?_
              refine RK.c (S.skip rfl rfl rfl rfl rfl) ?_
              refine RK.c (S.skip rfl rfl rfl rfl rfl) ?_
              refine RK.c (S.pickT .none rfl (.tmp rfl rfl) .cbool rfl) ?_
              refine RK.nil ?_
              refine Ab.D.code ?_
              refine OK.condT rfl rfl rfl ?_
              refine OK.reg ?_
              refine RK.c (S.bfield fi88_0 .none rfl (.tmp rfl rfl)) ?_
              refine RK.c (S.bload1 ti3 .none rfl (.tmp rfl rfl) rfl rfl rfl rfl) ?_
              refine RK.c (S.move .none rfl (.tmp rfl rfl)) ?_
              refine RK.c (S.add .none rfl (.tmp rfl rfl) (.tmp rfl rfl) (IntWalk.i64_in _ (by omega)) (IntWalk.i64_in _ (by omega))) ?_
              refine RK.c (S.assign .none rfl (.tmp rfl rfl)) ?_
              refine RK.c (S.assign .none rfl .cbool) ?_
              refine RK.nil ?_
              refine Ab.D.blk ?_
              refine Ab.D.code ?_
              refine OK.reg ?_
              refine RK.c (S.move .none rfl (.tmp rfl rfl)) ?_
              refine RK.c (S.add .none rfl (.tmp rfl rfl) (.cint rfl) (IntWalk.i64_in _ (by omega)) (IntWalk.i64_in _ (by omega))) ?_
              refine RK.c (S.assign .none rfl (.tmp rfl rfl)) ?_
              refine RK.nil ?_
              refine Ab.D.lp ⟨2, (l[l.length - 1].tick + (floorT ((r.hi - l[l.length - 1].value.hi) * (l[l.length - 1].tick - l[l.length - 2].tick)) (l[l.length - 1].value.hi - l[l.length - 2].value.hi) + 1)), true, ⟨by omega, ?_, ?_⟩, (by omega), rfl, rfl, rfl, rfl, rfl, rfl, rfl, rfl, rfl, rfl, rfl, rfl, rfl, rfl, trivial⟩
              · first | exact nb_0F hbe (by omega) | exact hnx.trans (nb_0T (by omega)) | exact nb_1F hbe (by omega) | exact hnx.trans (nb_1N hfo (by simpa using g94) (by omega)) | exact hnx.trans (nb_1T hbe hfo (by simpa using g94) (by omega) (by omega)) | exact nb_1K hbe hfo (by simpa using g94) (by omega) (by omega)
              · first | exact nf_0F hfo (by omega) | exact nf_0T (by omega) | exact nf_1F hfo (by omega) | exact nf_1T (by omega) | (rw [show found = true by simpa using g94]; exact nf_1T (by omega))
            ·
              refine RK.c (S.bfield fi88_0 (.yes rfl rfl rfl rfl) rfl (.tmp rfl rfl)) ?_
              refine RK.c (S.bload1 ti3 (.yes rfl rfl rfl rfl) rfl (.tmp rfl rfl) rfl rfl rfl rfl) ?_
              refine RK.c (S.move (.yes rfl rfl rfl rfl) rfl (.tmp rfl rfl)) ?_
              refine RK.c (S.add (.yes rfl rfl rfl rfl) rfl (.tmp rfl rfl) (.tmp rfl rfl) (IntWalk.i64_in _ (by omega)) (IntWalk.i64_in _ (by omega))) ?_
              refine RK.c (S.move (.yes rfl rfl rfl rfl) rfl (.tmp rfl rfl)) ?_
              refine RK.c (S.lss (.yes rfl rfl rfl rfl) rfl (.tmp rfl rfl) (.tmp rfl rfl)) ?_
              refine RK.c (S.pickF .none rfl (.tmp rfl rfl) (.tmp rfl rfl) rfl) ?_
              refine RK.nil ?_
              refine Ab.D.code ?_
              refine OK.condD rfl rfl (fun c101 => ?_) (fun c101 => ?_)
              ·
                refine OK.reg ?_
                refine RK.c (S.bfield fi88_0 .none rfl (.tmp rfl rfl)) ?_
                refine RK.c (S.bload1 ti3 .none rfl (.tmp rfl rfl) rfl rfl rfl rfl) ?_
                refine RK.c (S.move .none rfl (.tmp rfl rfl)) ?_
                refine RK.c (S.add .none rfl (.tmp rfl rfl) (.tmp rfl rfl) (IntWalk.i64_in _ (by omega)) (IntWalk.i64_in _ (by omega))) ?_
                refine RK.c (S.assign .none rfl (.tmp rfl rfl)) ?_
                refine RK.c (S.assign .none rfl .cbool) ?_
                refine RK.nil ?_
                refine Ab.D.blk ?_
                refine Ab.D.code ?_
                refine OK.reg ?_
                refine RK.c (S.move .none rfl (.tmp rfl rfl)) ?_
                refine RK.c (S.add .none rfl (.tmp rfl rfl) (.cint rfl) (IntWalk.i64_in _ (by omega)) (IntWalk.i64_in _ (by omega))) ?_
                refine RK.c (S.assign .none rfl (.tmp rfl rfl)) ?_
                refine RK.nil ?_
                refine Ab.D.lp ⟨2, (l[l.length - 1].tick + (floorT ((r.hi - l[l.length - 1].value.hi) * (l[l.length - 1].tick - l[l.length - 2].tick)) (l[l.length - 1].value.hi - l[l.length - 2].value.hi) + 1)), true, ⟨by omega, ?_, ?_⟩, (by omega), rfl, rfl, rfl, rfl, rfl, rfl, rfl, rfl, rfl, rfl, rfl, rfl, rfl, rfl, trivial⟩
                · first | exact nb_0F hbe (by omega) | exact hnx.trans (nb_0T (by omega)) | exact nb_1F hbe (by omega) | exact hnx.trans (nb_1N hfo (by simpa using g94) (by omega)) | exact hnx.trans (nb_1T hbe hfo (by simpa using g94) (by omega) (by omega)) | exact nb_1K hbe hfo (by simpa using g94) (by omega) (by omega)
                · first | exact nf_0F hfo (by omega) | exact nf_0T (by omega) | exact nf_1F hfo (by omega) | exact nf_1T (by omega) | (rw [show found = true by simpa using g94]; exact nf_1T (by omega))
              ·
                refine OK.skip ?_
                refine Ab.D.blk ?_
                refine Ab.D.code ?_
                refine OK.reg ?_
                refine RK.c (S.move .none rfl (.tmp rfl rfl)) ?_
                refine RK.c (S.add .none rfl (.tmp rfl rfl) (.cint rfl) (IntWalk.i64_in _ (by omega)) (IntWalk.i64_in _ (by omega))) ?_
                refine RK.c (S.assign .none rfl (.tmp rfl rfl)) ?_
                refine RK.nil ?_
                refine Ab.D.lp ⟨2, best, found, ⟨by omega, ?_, ?_⟩, (by omega), rfl, rfl, rfl, rfl, rfl, rfl, rfl, rfl, rfl, rfl, rfl, rfl, rfl, rfl, trivial⟩
                · first | exact nb_0F hbe (by omega) | exact hnx.trans (nb_0T (by omega)) | exact nb_1F hbe (by omega) | exact hnx.trans (nb_1N hfo (by simpa using g94) (by omega)) | exact hnx.trans (nb_1T hbe hfo (by simpa using g94) (by omega) (by omega)) | exact nb_1K hbe hfo (by simpa using g94) (by omega) (by omega)
                · first | exact nf_0F hfo (by omega) | exact nf_0T (by omega) | exact nf_1F hfo (by omega) | exact nf_1T (by omega) | (rw [show found = true by simpa using g94]; exact nf_1T (by omega))
        ·
          exfalso
          omega
      ·
        refine OK.seq ?_
        refine OK.seq ?_
        refine OK.reg ?_
        refine RK.c (S.move .none rfl (.tmp rfl rfl)) ?_
        refine RK.c (S.lss .none rfl (.tmp rfl rfl) (.cint rfl)) ?_
        refine RK.nil ?_
        refine Ab.D.code ?_
        refine OK.condD rfl rfl (fun c75 => ?_) (fun c75 => ?_)
        ·
          exfalso
          omega
        ·
          refine OK.exit rfl ?_
          refine Ab.D.code ?_
          refine OK.seq ?_
          refine OK.seq ?_
          refine OK.reg ?_
          refine RK.c (S.move .none rfl (.tmp rfl rfl)) ?_
          refine RK.c (S.not .none rfl (.tmp rfl rfl)) ?_
          refine RK.nil ?_
          refine Ab.D.code ?_
          refine OK.cond rfl rfl (fun c107 => ?_) (fun c107 => ?_)
          ·
            refine OK.seq ?_
            refine OK.reg ?_
            refine RK.c (S.assign .none rfl (.cint rfl)) ?_
            refine RK.c (S.assign .none rfl (.cint rfl)) ?_
            refine RK.nil ?_
            refine Ab.D.code ?_
            refine OK.ret (Ret.r2 (.tmp rfl rfl (.c (.same rfl) rfl) rfl) (.tmp rfl rfl (.c (.same rfl) rfl) rfl) ?_)
            have hnf : found = false := by simpa using c107
            have hnt := next_none r (hfo.symm.trans hnf)
            have he : nextE l r = 12 := by unfold nextE; rw [if_neg (by omega), if_neg (by omega), hgl, hgt, if_neg (by omega), hnt]; rfl
            rw [nextT, if_neg (by omega), he]
          ·
            refine OK.skip ?_
            refine Ab.D.code ?_
            refine OK.seq ?_
            refine OK.reg ?_
            refine RK.c (S.move .none rfl (.tmp rfl rfl)) ?_
            refine RK.c (S.assign .none rfl (.tmp rfl rfl)) ?_
            refine RK.c (S.assign .none rfl (.cint rfl)) ?_
            refine RK.nil ?_
            refine Ab.D.code ?_
            refine OK.ret (Ret.r2 (.tmp rfl rfl (.c (.same rfl) rfl) rfl) (.tmp rfl rfl (.c (.same rfl) rfl) rfl) ?_)
            have hnf : found = true := by simpa using c107
            obtain ⟨hn1, hn2⟩ := next_some r (hfo.symm.trans hnf)
            have he : nextE l r = 0 := by unfold nextE; rw [if_neg (by omega), if_neg (by omega), hgl, hgt, if_neg (by omega), if_neg hn1]
            rw [nextT, if_pos he, hgl, hgt, hn2, ← hbe, he]

set_option maxHeartbeats 1000000 in
theorem law_ShopBaths {l : List Bath} {t : Int} {r : Range} : Ct Tryz.prog 7 [.sl (l.map Bath.cs), .int .i64 t, .agg r.cs] (.bool true) := by
  refine Ct.intro (rs := [.tmp 6]) Tryz.func7 rfl Tryz.ntmps7 Tryz.results7 rfl rfl rfl fun w h => ?_
  refine OK.seq ?_
  refine OK.reg ?_
  refine RK.c (S.box (k := 5) rfl .none rfl (.tmp rfl rfl) rfl) ?_
  refine RK.c (S.assign .none rfl .cbool) ?_
  refine RK.nil ?_
  refine Ab.D.code ?_
  refine OK.seq ?_
  refine OK.seq ?_
  refine OK.reg ?_
  refine RK.c (S.call (law9_awake) Tryz.call15 .none rfl .nil rfl) ?_
  refine RK.c (S.not .none rfl (.tmp rfl rfl)) ?_
  refine RK.nil ?_
  refine Ab.D.code ?_
  refine OK.condF rfl rfl rfl ?_
  refine OK.skip ?_
  refine Ab.D.code ?_
  refine OK.seq ?_
  refine OK.seq ?_
  refine OK.reg ?_
  refine RK.c (S.move .none rfl (.tmp rfl rfl)) ?_
  refine RK.c (S.lenM si77 .none rfl (.tmp rfl rfl)) ?_
  refine RK.c (S.gtr .none rfl (.tmp rfl rfl) (.cint rfl)) ?_
  refine RK.nil ?_
  refine Ab.D.code ?_
  refine OK.condD rfl rfl (fun c20 => ?_) (fun c20 => ?_)
  ·
    refine OK.seq ?_
    refine OK.reg ?_
    refine RK.c (S.assign .none rfl .cbool) ?_
    refine RK.nil ?_
    refine Ab.D.code ?_
    refine OK.ret (Ret.r1 (.tmp rfl rfl (.c (.same rfl) rfl) rfl) ?_)
    first | rfl | exact ret_dT rfl | exact ret_dT trivial
  ·
    refine OK.skip ?_
    refine Ab.D.code ?_
    refine OK.seq ?_
    refine OK.reg ?_
    refine RK.c (S.move .none rfl (.tmp rfl rfl)) ?_
    refine RK.c (S.call (ref9_CopyBath (by omega)) Tryz.call46 .none rfl (.cons (.tmp rfl rfl) .nil) rfl) ?_
    refine RK.c (S.move .none rfl (.tmp rfl rfl)) ?_
    refine RK.c (S.call (shp_BathAt) Tryz.call45 .none rfl (.cons (.tmp rfl rfl) (.cons (.tmp rfl rfl) .nil)) rfl) ?_
    refine RK.c (S.move .none rfl (.tmp rfl rfl)) ?_
    refine RK.c (S.extract .none rfl (.tmp rfl rfl) rfl rfl) ?_
    refine RK.c (S.extract .none rfl (.tmp rfl rfl) rfl rfl) ?_
    refine RK.c (S.alloc (k := 7) ze53 rfl .none rfl) ?_
    refine RK.c (S.store ti53 .none (.tmp rfl rfl) (.tmp rfl rfl) rfl rfl rfl rfl rfl rfl) ?_
    refine RK.c (S.assign .none rfl (.tmp rfl rfl)) ?_
    refine RK.nil ?_
    refine Ab.D.code ?_
    refine OK.seq ?_
    refine OK.regionDraw follows (.c (S.move .none rfl (.tmp rfl rfl))
      (.c (S.call (ref9_CopyBath (by omega)) Tryz.call46 .none rfl (.cons (.tmp rfl rfl) .nil) rfl)
      (.c (S.bloadN ti53 .none rfl (.tmp rfl rfl) rfl rfl rfl rfl)
      (.c (S.call (shp_NextCheck) Tryz.call47 .none rfl (.cons (.tmp rfl rfl) (.cons (.tmp rfl rfl) .nil)) rfl)
      (.c (S.move .none rfl (.tmp rfl rfl))
      (.c (S.extract .none rfl (.tmp rfl rfl) rfl rfl)
      (.c (S.extract .none rfl (.tmp rfl rfl) rfl rfl)
      (.c (S.assign .none rfl (.tmp rfl rfl))
      (.c (S.assign .none rfl (.tmp rfl rfl))
      .nil))))))))) (by kernel_rfl) ?_
    refine Ab.D.code ?_
    refine OK.seq ?_
    refine OK.seq ?_
    refine OK.reg ?_
    refine RK.c (S.move .none rfl (.tmp rfl rfl)) ?_
    refine RK.c (S.call (ref9_BathErr) Tryz.call48 .none rfl (.cons (.tmp rfl rfl) .nil) rfl) ?_
    refine RK.c (S.assign .none rfl (.tmp rfl rfl)) ?_
    refine RK.nil ?_
    refine Ab.D.code ?_
    refine OK.seq ?_
    refine OK.reg ?_
    refine RK.c (S.move .none rfl (.tmp rfl rfl)) ?_
    refine RK.c (S.neq .none rfl (.tmp rfl rfl) (.cint rfl)) ?_
    refine RK.nil ?_
    refine Ab.D.code ?_
    refine OK.condD rfl rfl (fun c38 => ?_) (fun c38 => ?_)
    ·
      obtain ⟨h1, h2, h3, h4⟩ := baths_e c38 t r
      rw [h2, h4]
      refine OK.seq ?_
      refine OK.reg ?_
      refine RK.c (S.move .none rfl (.tmp rfl rfl)) ?_
      refine RK.c (S.move .none rfl (.tmp rfl rfl)) ?_
      refine RK.c (S.eql .none rfl (.tmp rfl rfl) (.tmp rfl rfl)) ?_
      refine RK.c (S.move .none rfl (.tmp rfl rfl)) ?_
      refine RK.splitD (t := 42) rfl (fun g42 => ?_) (fun g42 => ?_)
      ·
        refine RK.c (S.bloadN ti53 (.yes rfl rfl rfl rfl) rfl (.tmp rfl rfl) rfl rfl rfl rfl) ?_
        refine RK.c (S.build bu53 rfl (.yes rfl rfl rfl rfl) rfl .nil rfl rfl) ?_
        refine RK.c (S.aeql [0, 0] [0, 0] eq53 (.yes rfl rfl rfl rfl) rfl (.tmp rfl rfl) (.tmp rfl rfl) rfl rfl rfl rfl) ?_
        refine RK.c (S.pickT .none rfl (.tmp rfl rfl) (.tmp rfl rfl) rfl) ?_
        refine RK.c (S.move .none rfl (.tmp rfl rfl)) ?_
        refine RK.splitD (t := 47) rfl (fun g47 => ?_) (fun g47 => ?_)
        ·
          refine RK.c (S.move (.yes rfl rfl rfl rfl) rfl (.tmp rfl rfl)) ?_
          refine RK.c (S.move (.yes rfl rfl rfl rfl) rfl (.tmp rfl rfl)) ?_
          refine RK.c (S.eql (.yes rfl rfl rfl rfl) rfl (.tmp rfl rfl) (.tmp rfl rfl)) ?_
          refine RK.c (S.pickT .none rfl (.tmp rfl rfl) (.tmp rfl rfl) rfl) ?_
          refine RK.c (S.move .none rfl (.tmp rfl rfl)) ?_
          refine RK.splitD (t := 52) rfl (fun g52 => ?_) (fun g52 => ?_)
          ·
            refine RK.c (S.move (.yes rfl rfl rfl rfl) rfl (.tmp rfl rfl)) ?_
            refine RK.c (S.eql (.yes rfl rfl rfl rfl) rfl (.tmp rfl rfl) (.cint rfl)) ?_
            refine RK.c (S.pickT .none rfl (.tmp rfl rfl) (.tmp rfl rfl) rfl) ?_
            refine RK.c (S.assign .none rfl (.tmp rfl rfl)) ?_
            refine RK.nil ?_
            refine Ab.D.code ?_
            refine OK.ret (Ret.r1 (.tmp rfl rfl (.c (.same rfl) rfl) rfl) ?_)
            first | rfl | exact ret_dT rfl | exact ret_dT trivial
          ·
            exact absurd h3 g52
        ·
          exact absurd rfl g47
      ·
        exact absurd h1 g42
    ·
      have hv : readE l = 0 := Decidable.not_not.1 c38
      have hq := bath_get hv
      refine OK.skip ?_
      refine Ab.D.code ?_
      refine OK.seq ?_
      refine OK.reg ?_
      refine RK.c (S.move .none rfl (.tmp rfl rfl)) ?_
      refine RK.c (S.move .none rfl (.tmp rfl rfl)) ?_
      refine RK.c (S.call (ref9_IsWithin hq.1) Tryz.call49 .none rfl (.cons (.tmp rfl rfl) (.cons (.tmp rfl rfl) .nil)) rfl) ?_
      refine RK.c (S.assign .none rfl (.tmp rfl rfl)) ?_
      refine RK.nil ?_
      refine Ab.D.code ?_
      refine OK.seq ?_
      refine OK.seq ?_
      rcases baths_0 hv t with ⟨hi, he2⟩ | ⟨hi, he2, hbt⟩
      ·
        rw [hi, he2]
        refine OK.regionDraw follows (.c (S.move .none rfl (.tmp rfl rfl))
          (.c (S.not .none rfl (.tmp rfl rfl))
          (.c (S.move .none rfl (.tmp rfl rfl))
          (.c (S.skip rfl rfl rfl (by first | rfl | exact decide_eq_true g61 | exact decide_eq_false g61 | (rw [decide_eq_true g61]; rfl) | (rw [decide_eq_false g61]; rfl) | simp [*]) rfl)
          (.c (S.skip rfl rfl rfl (by first | rfl | exact decide_eq_true g61 | exact decide_eq_false g61 | (rw [decide_eq_true g61]; rfl) | (rw [decide_eq_false g61]; rfl) | simp [*]) rfl)
          (.c (S.skip rfl rfl rfl (by first | rfl | exact decide_eq_true g61 | exact decide_eq_false g61 | (rw [decide_eq_true g61]; rfl) | (rw [decide_eq_false g61]; rfl) | simp [*]) rfl)
          (.c (S.skipU rfl rfl rfl rfl)
          (.c (S.skipU rfl rfl rfl rfl)
          (.c (S.skipU rfl rfl rfl rfl)
          (.c (S.skip rfl rfl rfl (by first | rfl | exact decide_eq_true g61 | exact decide_eq_false g61 | (rw [decide_eq_true g61]; rfl) | (rw [decide_eq_false g61]; rfl) | simp [*]) rfl)
          (.c (S.pickF .none rfl (.tmp rfl rfl) .cbool (by first | rfl | exact decide_eq_true g61 | exact decide_eq_false g61 | (rw [decide_eq_true g61]; rfl) | (rw [decide_eq_false g61]; rfl) | simp [*]))
          (.c (S.move .none rfl (.tmp rfl rfl))
          (.c (S.move (.yes rfl rfl rfl (by first | rfl | exact decide_eq_true g70 | exact decide_eq_false g70 | (rw [decide_eq_true g70]; rfl) | (rw [decide_eq_false g70]; rfl) | simp [*])) rfl (.tmp rfl rfl))
          (.c (S.move (.yes rfl rfl rfl (by first | rfl | exact decide_eq_true g70 | exact decide_eq_false g70 | (rw [decide_eq_true g70]; rfl) | (rw [decide_eq_false g70]; rfl) | simp [*])) rfl (.tmp rfl rfl))
          (.c (S.move (.yes rfl rfl rfl (by first | rfl | exact decide_eq_true g72 | exact decide_eq_false g72 | (rw [decide_eq_true g72]; rfl) | (rw [decide_eq_false g72]; rfl) | simp [*])) rfl (.tmp rfl rfl))
          (.c (S.neq (.yes rfl rfl rfl (by first | rfl | exact decide_eq_true g72 | exact decide_eq_false g72 | (rw [decide_eq_true g72]; rfl) | (rw [decide_eq_false g72]; rfl) | simp [*])) rfl (.tmp rfl rfl) (.cint rfl))
          (.c (S.move (.yes rfl rfl rfl (by first | rfl | exact decide_eq_true g72 | exact decide_eq_false g72 | (rw [decide_eq_true g72]; rfl) | (rw [decide_eq_false g72]; rfl) | simp [*])) rfl (.tmp rfl rfl))
          (.c (S.bloadN ti53 (.yes rfl rfl rfl (by first | rfl | exact decide_eq_true g75 | exact decide_eq_false g75 | (rw [decide_eq_true g75]; rfl) | (rw [decide_eq_false g75]; rfl) | simp [*])) rfl (.tmp rfl rfl) rfl rfl rfl rfl)
          (.c (S.move (.yes rfl rfl rfl (by first | rfl | exact decide_eq_true g75 | exact decide_eq_false g75 | (rw [decide_eq_true g75]; rfl) | (rw [decide_eq_false g75]; rfl) | simp [*])) rfl (.tmp rfl rfl))
          (.c (S.move (.yes rfl rfl rfl (by first | rfl | exact decide_eq_true g75 | exact decide_eq_false g75 | (rw [decide_eq_true g75]; rfl) | (rw [decide_eq_false g75]; rfl) | simp [*])) rfl (.tmp rfl rfl))
          (.c (S.call (ref9_Bath hv hi) Tryz.call50 (.yes rfl rfl rfl (by first | rfl | exact decide_eq_true g75 | exact decide_eq_false g75 | (rw [decide_eq_true g75]; rfl) | (rw [decide_eq_false g75]; rfl) | simp [*])) rfl (.cons (.tmp rfl rfl) (.cons (.tmp rfl rfl) .nil)) rfl)
          (.c (S.aneq [(bathT l t).lo, (bathT l t).hi] [(bathT l t).lo, (bathT l t).hi] eq53 (.yes rfl rfl rfl (by first | rfl | exact decide_eq_true g75 | exact decide_eq_false g75 | (rw [decide_eq_true g75]; rfl) | (rw [decide_eq_false g75]; rfl) | simp [*])) rfl (.tmp rfl rfl) (.tmp rfl rfl) rfl rfl rfl rfl)
          (.c (S.pickF (.yes rfl rfl rfl (by first | rfl | exact decide_eq_true g72 | exact decide_eq_false g72 | (rw [decide_eq_true g72]; rfl) | (rw [decide_eq_false g72]; rfl) | simp [*])) rfl (.tmp rfl rfl) (.tmp rfl rfl) (by first | rfl | exact decide_eq_true g75 | exact decide_eq_false g75 | (rw [decide_eq_true g75]; rfl) | (rw [decide_eq_false g75]; rfl) | simp [*]))
          (.c (S.pickT (.yes rfl rfl rfl (by first | rfl | exact decide_eq_true g70 | exact decide_eq_false g70 | (rw [decide_eq_true g70]; rfl) | (rw [decide_eq_false g70]; rfl) | simp [*])) rfl (.tmp rfl rfl) (.tmp rfl rfl) (by first | rfl | exact decide_eq_true g72 | exact decide_eq_false g72 | (rw [decide_eq_true g72]; rfl) | (rw [decide_eq_false g72]; rfl) | simp [*]))
          (.c (S.pickF .none rfl (.tmp rfl rfl) (.tmp rfl rfl) (by first | rfl | exact decide_eq_true g70 | exact decide_eq_false g70 | (rw [decide_eq_true g70]; rfl) | (rw [decide_eq_false g70]; rfl) | simp [*]))
          .nil))))))))))))))))))))))))) (by kernel_rfl) ?_
        refine Ab.D.code ?_
        refine OK.condD rfl rfl (fun c83 => ?_) (fun c83 => ?_)
        ·
          first | exact absurd rfl c83 | exact absurd c83 (by decide)
        ·
          refine OK.skip ?_
          refine Ab.D.code ?_
          refine OK.seq ?_
          refine OK.seq ?_
          refine OK.reg ?_
          refine RK.c (S.bloadN ti53 .none rfl (.tmp rfl rfl) rfl rfl rfl rfl) ?_
          refine RK.c (S.call (ref9_LimitsErr) Tryz.call34 .none rfl (.cons (.tmp rfl rfl) .nil) rfl) ?_
          refine RK.c (S.assign .none rfl (.tmp rfl rfl)) ?_
          refine RK.nil ?_
          refine Ab.D.code ?_
          refine OK.seq ?_
          refine OK.reg ?_
          refine RK.c (S.move .none rfl (.tmp rfl rfl)) ?_
          refine RK.c (S.neq .none rfl (.tmp rfl rfl) (.cint rfl)) ?_
          refine RK.nil ?_
          refine Ab.D.code ?_
          refine OK.condD rfl rfl (fun c87 => ?_) (fun c87 => ?_)
          ·
            obtain ⟨h5, h6⟩ := nexts_e hv c87
            rw [h6]
            refine OK.seq ?_
            refine OK.reg ?_
            refine RK.c (S.move .none rfl (.tmp rfl rfl)) ?_
            refine RK.c (S.move .none rfl (.tmp rfl rfl)) ?_
            refine RK.c (S.eql .none rfl (.tmp rfl rfl) (.tmp rfl rfl)) ?_
            refine RK.c (S.move .none rfl (.tmp rfl rfl)) ?_
            refine RK.splitD (t := 91) rfl (fun g91 => ?_) (fun g91 => ?_)
            ·
              refine RK.c (S.move (.yes rfl rfl rfl rfl) rfl (.tmp rfl rfl)) ?_
              refine RK.c (S.eql (.yes rfl rfl rfl rfl) rfl (.tmp rfl rfl) (.cint rfl)) ?_
              refine RK.c (S.pickT .none rfl (.tmp rfl rfl) (.tmp rfl rfl) rfl) ?_
              refine RK.c (S.assign .none rfl (.tmp rfl rfl)) ?_
              refine RK.nil ?_
              refine Ab.D.code ?_
              refine OK.ret (Ret.r1 (.tmp rfl rfl (.c (.same rfl) rfl) rfl) ?_)
              first | rfl | exact ret_dT rfl | exact ret_dT trivial
            ·
              exact absurd h5 g91
          ·
            have hr : limE r = 0 := Decidable.not_not.1 c87
            refine OK.skip ?_
            refine Ab.D.code ?_
            refine OK.seq ?_
            refine OK.reg ?_
            refine RK.c (S.move .none rfl (.tmp rfl rfl)) ?_
            refine RK.c (S.bloadN ti53 .none rfl (.tmp rfl rfl) rfl rfl rfl rfl) ?_
            refine RK.c (S.call (ref9_Next hv hr) Tryz.call51 .none rfl (.cons (.tmp rfl rfl) (.cons (.tmp rfl rfl) .nil)) rfl) ?_
            refine RK.c (S.move .none rfl (.tmp rfl rfl)) ?_
            refine RK.c (S.extract .none rfl (.tmp rfl rfl) rfl rfl) ?_
            refine RK.c (S.extract .none rfl (.tmp rfl rfl) rfl rfl) ?_
            refine RK.c (S.assign .none rfl (.tmp rfl rfl)) ?_
            refine RK.c (S.assign .none rfl (.tmp rfl rfl)) ?_
            refine RK.nil ?_
            refine Ab.D.code ?_
            refine OK.seq ?_
            refine OK.reg ?_
            refine RK.c (S.move .none rfl (.tmp rfl rfl)) ?_
            refine RK.c (S.move .none rfl (.tmp rfl rfl)) ?_
            refine RK.c (S.eql .none rfl (.tmp rfl rfl) (.tmp rfl rfl)) ?_
            refine RK.c (S.move .none rfl (.tmp rfl rfl)) ?_
            refine RK.splitD (t := 104) rfl (fun g104 => ?_) (fun g104 => ?_)
            ·
              refine RK.c (S.move (.yes rfl rfl rfl rfl) rfl (.tmp rfl rfl)) ?_
              refine RK.c (S.move (.yes rfl rfl rfl rfl) rfl (.tmp rfl rfl)) ?_
              refine RK.c (S.eql (.yes rfl rfl rfl rfl) rfl (.tmp rfl rfl) (.tmp rfl rfl)) ?_
              refine RK.c (S.pickT .none rfl (.tmp rfl rfl) (.tmp rfl rfl) rfl) ?_
              refine RK.c (S.assign .none rfl (.tmp rfl rfl)) ?_
              refine RK.nil ?_
              refine Ab.D.code ?_
              refine OK.ret (Ret.r1 (.tmp rfl rfl (.c (.same rfl) rfl) rfl) ?_)
              first | rfl | exact ret_dT rfl | exact ret_dT trivial
            ·
              exact absurd rfl g104
      ·
        rw [hi, he2, hbt]
        refine OK.regionDraw follows (.c (S.move .none rfl (.tmp rfl rfl))
          (.c (S.not .none rfl (.tmp rfl rfl))
          (.c (S.move .none rfl (.tmp rfl rfl))
          (.c (S.move (.yes rfl rfl rfl (by first | rfl | exact decide_eq_true g61 | exact decide_eq_false g61 | (rw [decide_eq_true g61]; rfl) | (rw [decide_eq_false g61]; rfl) | simp [*])) rfl (.tmp rfl rfl))
          (.c (S.neq (.yes rfl rfl rfl (by first | rfl | exact decide_eq_true g61 | exact decide_eq_false g61 | (rw [decide_eq_true g61]; rfl) | (rw [decide_eq_false g61]; rfl) | simp [*])) rfl (.tmp rfl rfl) (.cint rfl))
          (.c (S.move (.yes rfl rfl rfl (by first | rfl | exact decide_eq_true g61 | exact decide_eq_false g61 | (rw [decide_eq_true g61]; rfl) | (rw [decide_eq_false g61]; rfl) | simp [*])) rfl (.tmp rfl rfl))
          (.c (S.bloadN ti53 (.yes rfl rfl rfl (by first | rfl | exact decide_eq_true g64 | exact decide_eq_false g64 | (rw [decide_eq_true g64]; rfl) | (rw [decide_eq_false g64]; rfl) | simp [*])) rfl (.tmp rfl rfl) rfl rfl rfl rfl)
          (.c (S.build bu53 rfl (.yes rfl rfl rfl (by first | rfl | exact decide_eq_true g64 | exact decide_eq_false g64 | (rw [decide_eq_true g64]; rfl) | (rw [decide_eq_false g64]; rfl) | simp [*])) rfl .nil rfl rfl)
          (.c (S.aneq [0, 0] [0, 0] eq53 (.yes rfl rfl rfl (by first | rfl | exact decide_eq_true g64 | exact decide_eq_false g64 | (rw [decide_eq_true g64]; rfl) | (rw [decide_eq_false g64]; rfl) | simp [*])) rfl (.tmp rfl rfl) (.tmp rfl rfl) rfl rfl rfl rfl)
          (.c (S.pickF (.yes rfl rfl rfl (by first | rfl | exact decide_eq_true g61 | exact decide_eq_false g61 | (rw [decide_eq_true g61]; rfl) | (rw [decide_eq_false g61]; rfl) | simp [*])) rfl (.tmp rfl rfl) (.tmp rfl rfl) (by first | rfl | exact decide_eq_true g64 | exact decide_eq_false g64 | (rw [decide_eq_true g64]; rfl) | (rw [decide_eq_false g64]; rfl) | simp [*]))
          (.c (S.pickT .none rfl (.tmp rfl rfl) (.tmp rfl rfl) (by first | rfl | exact decide_eq_true g61 | exact decide_eq_false g61 | (rw [decide_eq_true g61]; rfl) | (rw [decide_eq_false g61]; rfl) | simp [*]))
          (.c (S.move .none rfl (.tmp rfl rfl))
          (.c (S.move (.yes rfl rfl rfl (by first | rfl | exact decide_eq_true g70 | exact decide_eq_false g70 | (rw [decide_eq_true g70]; rfl) | (rw [decide_eq_false g70]; rfl) | simp [*])) rfl (.tmp rfl rfl))
          (.c (S.move (.yes rfl rfl rfl (by first | rfl | exact decide_eq_true g70 | exact decide_eq_false g70 | (rw [decide_eq_true g70]; rfl) | (rw [decide_eq_false g70]; rfl) | simp [*])) rfl (.tmp rfl rfl))
          (.c (S.skip rfl rfl rfl (by first | rfl | exact decide_eq_true g72 | exact decide_eq_false g72 | (rw [decide_eq_true g72]; rfl) | (rw [decide_eq_false g72]; rfl) | simp [*]) rfl)
          (.c (S.skip rfl rfl rfl (by first | rfl | exact decide_eq_true g72 | exact decide_eq_false g72 | (rw [decide_eq_true g72]; rfl) | (rw [decide_eq_false g72]; rfl) | simp [*]) rfl)
          (.c (S.skip rfl rfl rfl (by first | rfl | exact decide_eq_true g72 | exact decide_eq_false g72 | (rw [decide_eq_true g72]; rfl) | (rw [decide_eq_false g72]; rfl) | simp [*]) rfl)
          (.c (S.skipU rfl rfl rfl rfl)
          (.c (S.skipU rfl rfl rfl rfl)
          (.c (S.skipU rfl rfl rfl rfl)
          (.c (S.skipU rfl rfl rfl rfl)
          (.c (S.skipU rfl rfl rfl rfl)
          (.c (S.skip rfl rfl rfl (by first | rfl | exact decide_eq_true g72 | exact decide_eq_false g72 | (rw [decide_eq_true g72]; rfl) | (rw [decide_eq_false g72]; rfl) | simp [*]) rfl)
          (.c (S.pickF (.yes rfl rfl rfl (by first | rfl | exact decide_eq_true g70 | exact decide_eq_false g70 | (rw [decide_eq_true g70]; rfl) | (rw [decide_eq_false g70]; rfl) | simp [*])) rfl (.tmp rfl rfl) .cbool (by first | rfl | exact decide_eq_true g72 | exact decide_eq_false g72 | (rw [decide_eq_true g72]; rfl) | (rw [decide_eq_false g72]; rfl) | simp [*]))
          (.c (S.pickF .none rfl (.tmp rfl rfl) (.tmp rfl rfl) (by first | rfl | exact decide_eq_true g70 | exact decide_eq_false g70 | (rw [decide_eq_true g70]; rfl) | (rw [decide_eq_false g70]; rfl) | simp [*]))
          .nil))))))))))))))))))))))))) (by kernel_rfl) ?_
        refine Ab.D.code ?_
        refine OK.condF rfl rfl rfl ?_
        refine OK.skip ?_
        refine Ab.D.code ?_
        refine OK.seq ?_
        refine OK.seq ?_
        refine OK.reg ?_
        refine RK.c (S.bloadN ti53 .none rfl (.tmp rfl rfl) rfl rfl rfl rfl) ?_
        refine RK.c (S.call (ref9_LimitsErr) Tryz.call34 .none rfl (.cons (.tmp rfl rfl) .nil) rfl) ?_
        refine RK.c (S.assign .none rfl (.tmp rfl rfl)) ?_
        refine RK.nil ?_
        refine Ab.D.code ?_
        refine OK.seq ?_
        refine OK.reg ?_
        refine RK.c (S.move .none rfl (.tmp rfl rfl)) ?_
        refine RK.c (S.neq .none rfl (.tmp rfl rfl) (.cint rfl)) ?_
        refine RK.nil ?_
        refine Ab.D.code ?_
        refine OK.condD rfl rfl (fun c87 => ?_) (fun c87 => ?_)
        ·
          obtain ⟨h5, h6⟩ := nexts_e hv c87
          rw [h6]
          refine OK.seq ?_
          refine OK.reg ?_
          refine RK.c (S.move .none rfl (.tmp rfl rfl)) ?_
          refine RK.c (S.move .none rfl (.tmp rfl rfl)) ?_
          refine RK.c (S.eql .none rfl (.tmp rfl rfl) (.tmp rfl rfl)) ?_
          refine RK.c (S.move .none rfl (.tmp rfl rfl)) ?_
          refine RK.splitD (t := 91) rfl (fun g91 => ?_) (fun g91 => ?_)
          ·
            refine RK.c (S.move (.yes rfl rfl rfl rfl) rfl (.tmp rfl rfl)) ?_
            refine RK.c (S.eql (.yes rfl rfl rfl rfl) rfl (.tmp rfl rfl) (.cint rfl)) ?_
            refine RK.c (S.pickT .none rfl (.tmp rfl rfl) (.tmp rfl rfl) rfl) ?_
            refine RK.c (S.assign .none rfl (.tmp rfl rfl)) ?_
            refine RK.nil ?_
            refine Ab.D.code ?_
            refine OK.ret (Ret.r1 (.tmp rfl rfl (.c (.same rfl) rfl) rfl) ?_)
            first | rfl | exact ret_dT rfl | exact ret_dT trivial
          ·
            exact absurd h5 g91
        ·
          have hr : limE r = 0 := Decidable.not_not.1 c87
          refine OK.skip ?_
          refine Ab.D.code ?_
          refine OK.seq ?_
          refine OK.reg ?_
          refine RK.c (S.move .none rfl (.tmp rfl rfl)) ?_
          refine RK.c (S.bloadN ti53 .none rfl (.tmp rfl rfl) rfl rfl rfl rfl) ?_
          refine RK.c (S.call (ref9_Next hv hr) Tryz.call51 .none rfl (.cons (.tmp rfl rfl) (.cons (.tmp rfl rfl) .nil)) rfl) ?_
          refine RK.c (S.move .none rfl (.tmp rfl rfl)) ?_
          refine RK.c (S.extract .none rfl (.tmp rfl rfl) rfl rfl) ?_
          refine RK.c (S.extract .none rfl (.tmp rfl rfl) rfl rfl) ?_
          refine RK.c (S.assign .none rfl (.tmp rfl rfl)) ?_
          refine RK.c (S.assign .none rfl (.tmp rfl rfl)) ?_
          refine RK.nil ?_
          refine Ab.D.code ?_
          refine OK.seq ?_
          refine OK.reg ?_
          refine RK.c (S.move .none rfl (.tmp rfl rfl)) ?_
          refine RK.c (S.move .none rfl (.tmp rfl rfl)) ?_
          refine RK.c (S.eql .none rfl (.tmp rfl rfl) (.tmp rfl rfl)) ?_
          refine RK.c (S.move .none rfl (.tmp rfl rfl)) ?_
          refine RK.splitD (t := 104) rfl (fun g104 => ?_) (fun g104 => ?_)
          ·
            refine RK.c (S.move (.yes rfl rfl rfl rfl) rfl (.tmp rfl rfl)) ?_
            refine RK.c (S.move (.yes rfl rfl rfl rfl) rfl (.tmp rfl rfl)) ?_
            refine RK.c (S.eql (.yes rfl rfl rfl rfl) rfl (.tmp rfl rfl) (.tmp rfl rfl)) ?_
            refine RK.c (S.pickT .none rfl (.tmp rfl rfl) (.tmp rfl rfl) rfl) ?_
            refine RK.c (S.assign .none rfl (.tmp rfl rfl)) ?_
            refine RK.nil ?_
            refine Ab.D.code ?_
            refine OK.ret (Ret.r1 (.tmp rfl rfl (.c (.same rfl) rfl) rfl) ?_)
            first | rfl | exact ret_dT rfl | exact ret_dT trivial
          ·
            exact absurd rfl g104

end Go.Proofs.YtjamlnkjfkcdkaaGreatDoor
