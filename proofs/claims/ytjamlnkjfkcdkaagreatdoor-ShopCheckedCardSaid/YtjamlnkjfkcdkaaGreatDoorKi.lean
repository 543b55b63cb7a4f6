import Derived.Test.YtjamlnkjfkcdkaaGreatDoorKh
import Derived.Test.YtjamlnkjfkcdkaaGreatDoorTz
namespace Go.Proofs.YtjamlnkjfkcdkaaGreatDoor
open Go.Ab
def floorT (n b : Int) : Int := if n.tmod b < 0 then n.tdiv b - 1 else n.tdiv b
def inTick (l : List Bath) (t : Int) : Bool := decide ((l.getD 0 ⟨0, ⟨0, 0⟩⟩).tick ≤ t ∧ t ≤ (nextTop l).tick)
def bathIx (l : List Bath) (t : Int) : Nat := (1 + idxGo (fun x : Bath => decide (x.tick ≥ t)) 0 (l.drop 1)).toNat
def lineT (p q whole part : Int) : Int := p * whole + (q - p) * part
def valT (a b : Bath) (t : Int) : Range := ⟨floorT (lineT a.value.lo b.value.lo (b.tick - a.tick) (t - a.tick)) (b.tick - a.tick), 0 - floorT (0 - lineT a.value.hi b.value.hi (b.tick - a.tick) (t - a.tick)) (b.tick - a.tick)⟩
def bathE2 (l : List Bath) (t : Int) : Int := if readE l ≠ 0 then readE l else if inTick l t = true then 0 else 2
def bathT (l : List Bath) (t : Int) : Range := if bathE2 l t = 0 then valT (l.getD (bathIx l t - 1) ⟨0, ⟨0, 0⟩⟩) (l.getD (bathIx l t) ⟨0, ⟨0, 0⟩⟩) t else ⟨0, 0⟩
theorem tmod_bd {n b A : Int} (hb : 0 < b) (h : -A ≤ n ∧ n ≤ A) : -A ≤ n.tmod b ∧ n.tmod b ≤ A := by
  have h1 := Int.mul_tdiv_add_tmod n b
  by_cases h0 : 0 ≤ n
  · have h2 := Int.tmod_nonneg b h0
    have h3 : 0 ≤ b * n.tdiv b := Int.mul_nonneg (by omega) (tdiv_bd h0 hb).1
    omega
  · have h2 := Int.tmod_nonneg b (a := -n) (by omega)
    have h3 : 0 ≤ b * (-n).tdiv b := Int.mul_nonneg (by omega) (tdiv_bd (by omega) hb).1
    have h4 := Int.mul_tdiv_add_tmod (-n) b
    rw [Int.neg_tmod] at h2 h4
    omega
theorem floor_bd {n b : Int} (hb : 0 < b) {A : Int} (h : -A ≤ n ∧ n ≤ A) : -A - 1 ≤ floorT n b ∧ floorT n b ≤ A := by
  have h1 : n = b * n.tdiv b + n.tmod b := (Int.mul_tdiv_add_tmod n b).symm
  have h2 : n.tdiv b ≤ A ∧ -A ≤ n.tdiv b := by
    by_cases h0 : 0 ≤ n
    · have := tdiv_bd h0 hb; omega
    · have h3 := tdiv_bd (a := -n) (g := b) (by omega) hb
      rw [Int.neg_tdiv] at h3
      omega
  unfold floorT
  split <;> omega
theorem line_bd {p q w t : Int} (hp : -10000 ≤ p ∧ p ≤ 10000) (hq : -10000 ≤ q ∧ q ≤ 10000) (hw : 0 ≤ w ∧ w ≤ 100000) (ht : 0 ≤ t ∧ t ≤ 100000) : (-1000000000 ≤ p * w ∧ p * w ≤ 1000000000) ∧ (-2000000000 ≤ (q - p) * t ∧ (q - p) * t ≤ 2000000000) ∧ -3000000000 ≤ lineT p q w t ∧ lineT p q w t ≤ 3000000000 := by
  have h1 := mul_abs (c := w) (v := p) (C := 100000) (V := 10000) hw hp
  have h2 := mul_abs (c := t) (v := q - p) (C := 100000) (V := 20000) ht ⟨by omega, by omega⟩
  rw [Int.mul_comm w p] at h1
  rw [Int.mul_comm t (q - p)] at h2
  unfold lineT
  omega
theorem bath_ix {l : List Bath} {t : Int} (h2 : 2 ≤ l.length) (hin : inTick l t = true) : ∃ i : Nat, idxGo (fun x : Bath => decide (x.tick ≥ t)) 0 (l.drop 1) = i ∧ bathIx l t = i + 1 ∧ i + 1 < l.length ∧ t ≤ (l.getD (i + 1) ⟨0, ⟨0, 0⟩⟩).tick ∧ ∀ j, j < i → (l.getD (j + 1) ⟨0, ⟨0, 0⟩⟩).tick < t := by
  have hb := of_decide_eq_true hin
  have ht : nextTop l = l[l.length - 1] := getD_at (by omega)
  have hdl : (l.drop 1).length = l.length - 1 := List.length_drop
  have hany : (l.drop 1).any (fun x : Bath => decide (x.tick ≥ t)) = true := List.any_eq_true.2 ⟨l[l.length - 1], by
    have h3 : (l.drop 1)[l.length - 2]? = some l[l.length - 1] := by rw [List.getElem?_drop, show 1 + (l.length - 2) = l.length - 1 by omega, List.getElem?_eq_getElem (by omega)]
    exact List.mem_of_getElem? h3, decide_eq_true (by rw [ht] at hb; exact hb.2)⟩
  rw [← idxGo_any _ _ 0] at hany
  obtain ⟨i, e, hi, e2, e3⟩ := idxGo_pre.1 (of_decide_eq_true hany)
  rw [Nat.zero_add] at e
  have hg : ∀ j, j < l.length - 1 → ∀ h : j < (l.drop 1).length, (l.drop 1)[j] = l.getD (j + 1) ⟨0, ⟨0, 0⟩⟩ := fun j hj h => by
    rw [getD_at (by omega), List.getElem_drop]
    congr 1
    omega
  refine ⟨i, e, by unfold bathIx; rw [e]; omega, by omega, ?_, fun j hj => ?_⟩
  · have := of_decide_eq_true e2
    rw [hg i (by omega) hi] at this
    omega
  · have := of_decide_eq_false (e3 j hj (by omega))
    rw [hg j (by omega) (by omega)] at this
    omega
theorem bath_prev {l : List Bath} {t : Int} {i : Nat} (hin : inTick l t = true) (h : ∀ j, j < i → (l.getD (j + 1) ⟨0, ⟨0, 0⟩⟩).tick < t) : (l.getD i ⟨0, ⟨0, 0⟩⟩).tick ≤ t := by
  cases i with
  | zero => exact (of_decide_eq_true hin).1
  | succ i => have := h i (by omega); omega
def fall0 (a b : Bath) : Int := a.value.lo - b.value.lo
def fall1 (a b : Bath) : Int := b.value.hi - a.value.hi
def nxt0 (a b : Bath) (r : Range) : Int := leaveT b.tick (b.value.lo - r.lo) (fall0 a b) (b.tick - a.tick)
def nxt1 (a b : Bath) (r : Range) : Int := leaveT b.tick (r.hi - b.value.hi) (fall1 a b) (b.tick - a.tick)
def nbest (a b : Bath) (r : Range) : Nat → Int
  | 0 => 0
  | 1 => if 0 < fall0 a b then nxt0 a b r else 0
  | _ => if 0 < fall1 a b then (if 0 < fall0 a b then minI (nxt0 a b r) (nxt1 a b r) else nxt1 a b r) else if 0 < fall0 a b then nxt0 a b r else 0
def nfound (a b : Bath) : Nat → Bool
  | 0 => false
  | 1 => decide (0 < fall0 a b)
  | _ => decide (0 < fall0 a b) || decide (0 < fall1 a b)
theorem ticks_eq (a b : Bath) (r : Range) : nextTicks a b r = (if 0 < fall0 a b then [nxt0 a b r] else []) ++ (if 0 < fall1 a b then [nxt1 a b r] else []) := rfl
theorem next_none {a b : Bath} (r : Range) (h : nfound a b 2 = false) : nextTicks a b r = [] := by
  simp only [nfound, Bool.or_eq_false_iff, decide_eq_false_iff_not] at h
  rw [ticks_eq]
  rw [if_neg h.1, if_neg h.2]
  rfl
theorem next_some {a b : Bath} (r : Range) (h : nfound a b 2 = true) : (nextTicks a b r).length ≠ 0 ∧ minL (nextTicks a b r) = nbest a b r 2 := by
  simp only [nfound, Bool.or_eq_true, decide_eq_true_eq] at h
  rw [ticks_eq]
  simp only [nbest]
  by_cases h0 : 0 < fall0 a b
  · by_cases h1 : 0 < fall1 a b
    · rw [if_pos h0, if_pos h1, if_pos h1, if_pos h0]; exact ⟨by simp, rfl⟩
    · rw [if_pos h0, if_neg h1, if_neg h1, if_pos h0]; exact ⟨by simp, rfl⟩
  · have h1 : 0 < fall1 a b := h.resolve_left h0
    rw [if_neg h0, if_pos h1, if_pos h1, if_neg h0]
    exact ⟨by simp, rfl⟩
theorem shp_floor {n b A : Int} (hb : 0 < b) (hn : -A ≤ n ∧ n ≤ A) (hA : A ≤ 1000000000000) : Ct Tryz.prog 125 [.int .i64 n, .int .i64 b] (.int .i64 (floorT n b)) := by
  refine Ct.intro (rs := [.tmp 4]) Tryz.func125 rfl Tryz.ntmps125 Tryz.results125 rfl rfl rfl fun w h => ?_
  have hf := floor_bd hb hn
  have hf0 : floorT n b = if n.tmod b < 0 then n.tdiv b - 1 else n.tdiv b := rfl
  have hq : -A ≤ n.tdiv b ∧ n.tdiv b ≤ A := by
    by_cases h0 : 0 ≤ n
    · have := tdiv_bd h0 hb; omega
    · have h3 := tdiv_bd (a := -n) (g := b) (by omega) hb
      rw [Int.neg_tdiv] at h3
      omega
  have hr : -A ≤ n.tmod b ∧ n.tmod b ≤ A := tmod_bd hb hn
  refine OK.seq ?_
  refine OK.reg ?_
  refine RK.c (S.assign .none rfl (.cint rfl)) ?_
  refine RK.nil ?_
  refine Ab.D.code ?_
  refine OK.seq ?_
  refine OK.reg ?_
  refine RK.c (S.move .none rfl (.tmp rfl rfl)) ?_
  refine RK.c (S.move .none rfl (.tmp rfl rfl)) ?_
  refine RK.c (S.quo .none rfl (.tmp rfl rfl) (.tmp rfl rfl) (by omega) (IntWalk.i64_in _ (by omega)) (IntWalk.i64_in _ (by omega))) ?_
  refine RK.c (S.assign .none rfl (.tmp rfl rfl)) ?_
  refine RK.nil ?_
  refine Ab.D.code ?_
  refine OK.seq ?_
  refine OK.seq ?_
  refine OK.reg ?_
  refine RK.c (S.move .none rfl (.tmp rfl rfl)) ?_
  refine RK.c (S.move .none rfl (.tmp rfl rfl)) ?_
  refine RK.c (S.rem .none rfl (.tmp rfl rfl) (.tmp rfl rfl) (by omega) rfl (IntWalk.i64_in _ (by omega))) ?_
  refine RK.c (S.lss .none rfl (.tmp rfl rfl) (.cint rfl)) ?_
  refine RK.nil ?_
  refine Ab.D.code ?_
  refine OK.condD rfl rfl (fun c12 => ?_) (fun c12 => ?_)
  ·
    refine OK.reg ?_
    refine RK.c (S.move .none rfl (.tmp rfl rfl)) ?_
    refine RK.c (S.sub .none rfl (.tmp rfl rfl) (.cint rfl) (IntWalk.i64_in _ (by omega)) (IntWalk.i64_in _ (by omega))) ?_
    refine RK.c (S.assign .none rfl (.tmp rfl rfl)) ?_
    refine RK.nil ?_
    refine Ab.D.code ?_
    refine OK.seq ?_
    refine OK.reg ?_
    refine RK.c (S.move .none rfl (.tmp rfl rfl)) ?_
    refine RK.c (S.assign .none rfl (.tmp rfl rfl)) ?_
    refine RK.nil ?_
    refine Ab.D.code ?_
    refine OK.ret (Ret.r1 (.tmp rfl rfl (.c (.same rfl) rfl) rfl) ?_)
    rw [hf0, if_pos c12]
  ·
    refine OK.skip ?_
    refine Ab.D.code ?_
    refine OK.seq ?_
    refine OK.reg ?_
    refine RK.c (S.move .none rfl (.tmp rfl rfl)) ?_
    refine RK.c (S.assign .none rfl (.tmp rfl rfl)) ?_
    refine RK.nil ?_
    refine Ab.D.code ?_
    refine OK.ret (Ret.r1 (.tmp rfl rfl (.c (.same rfl) rfl) rfl) ?_)
    rw [hf0, if_neg c12]
theorem shp_reached {x : Bath} {t : Int} : Ct Tryz.prog 123 [.agg x.cs, .eptr [.int .i64 t]] (.bool (decide (x.tick ≥ t))) := by
  refine Ct.intro (rs := [.tmp 3]) Tryz.func123 rfl Tryz.ntmps123 Tryz.results123 rfl rfl rfl fun w h => ?_
  refine OK.seq ?_
  refine OK.reg ?_
  refine RK.c (S.box (k := 2) rfl .none rfl (.tmp rfl rfl) rfl) ?_
  refine RK.c (S.assign .none rfl .cbool) ?_
  refine RK.nil ?_
  refine Ab.D.code ?_
  refine OK.seq ?_
  refine OK.reg ?_
  refine RK.c (S.bfield fi88_0 .none rfl (.tmp rfl rfl)) ?_
  refine RK.c (S.bload1 ti3 .none rfl (.tmp rfl rfl) rfl rfl rfl rfl) ?_
  refine RK.c (S.load1 ti3 .none rfl (.tmp rfl rfl) rfl) ?_
  refine RK.c (S.geq .none rfl (.tmp rfl rfl) (.tmp rfl rfl)) ?_
  refine RK.c (S.assign .none rfl (.tmp rfl rfl)) ?_
  refine RK.nil ?_
  refine Ab.D.code ?_
  refine OK.ret (Ret.r1 (.tmp rfl rfl (.c (.same rfl) rfl) rfl) ?_)
  rfl
theorem shp_line {a b : Bath} {t p q : Int} (hp : -10000 ≤ p ∧ p ≤ 10000) (hq : -10000 ≤ q ∧ q ≤ 10000) (hw : 0 ≤ b.tick - a.tick ∧ b.tick - a.tick ≤ 100000) (ht : 0 ≤ t - a.tick ∧ t - a.tick ≤ 100000) (ha : 0 ≤ a.tick ∧ a.tick ≤ 100000) : Ct Tryz.prog 124 [.int .i64 p, .int .i64 q, .eptr b.cs, .eptr a.cs, .eptr [.int .i64 t]] (.tup [.int .i64 (lineT p q (b.tick - a.tick) (t - a.tick)), .int .i64 (b.tick - a.tick)]) := by
  refine Ct.intro (rs := [.tmp 7, .tmp 8]) Tryz.func124 rfl Tryz.ntmps124 Tryz.results124 rfl rfl rfl fun w h => ?_
  obtain ⟨hl1, hl2, hl3⟩ := line_bd hp hq hw ht
  have hl4 : lineT p q (b.tick - a.tick) (t - a.tick) = p * (b.tick - a.tick) + (q - p) * (t - a.tick) := rfl
  refine OK.seq ?_
  refine OK.reg ?_
  refine RK.c (S.assign .none rfl (.cint rfl)) ?_
  refine RK.c (S.assign .none rfl (.cint rfl)) ?_
  refine RK.nil ?_
  refine Ab.D.code ?_
  refine OK.seq ?_
  refine OK.regionDraw follows (.c (S.move .none rfl (.tmp rfl rfl))
    (.c (S.field fi88_0 .none rfl (.tmp rfl rfl) rfl)
    (.c (S.load1 ti3 .none rfl (.tmp rfl rfl) rfl)
    (.c (S.field fi88_0 .none rfl (.tmp rfl rfl) rfl)
    (.c (S.load1 ti3 .none rfl (.tmp rfl rfl) rfl)
    (.c (S.sub .none rfl (.tmp rfl rfl) (.tmp rfl rfl) (IntWalk.i64_in _ (by omega)) (IntWalk.i64_in _ (by omega)))
    (.c (S.mul .none rfl (.tmp rfl rfl) (.tmp rfl rfl) (IntWalk.i64_in _ (by omega)) (IntWalk.i64_in _ (by omega)))
    (.c (S.move .none rfl (.tmp rfl rfl))
    (.c (S.move .none rfl (.tmp rfl rfl))
    (.c (S.sub .none rfl (.tmp rfl rfl) (.tmp rfl rfl) (IntWalk.i64_in _ (by omega)) (IntWalk.i64_in _ (by omega)))
    (.c (S.load1 ti3 .none rfl (.tmp rfl rfl) rfl)
    (.c (S.field fi88_0 .none rfl (.tmp rfl rfl) rfl)
    (.c (S.load1 ti3 .none rfl (.tmp rfl rfl) rfl)
    (.c (S.sub .none rfl (.tmp rfl rfl) (.tmp rfl rfl) (IntWalk.i64_in _ (by omega)) (IntWalk.i64_in _ (by omega)))
    (.c (S.mul .none rfl (.tmp rfl rfl) (.tmp rfl rfl) (IntWalk.i64_in _ (by omega)) (IntWalk.i64_in _ (by omega)))
    (.c (S.add .none rfl (.tmp rfl rfl) (.tmp rfl rfl) (IntWalk.i64_in _ (by omega)) (IntWalk.i64_in _ (by omega)))
    (.c (S.field fi88_0 .none rfl (.tmp rfl rfl) rfl)
    (.c (S.load1 ti3 .none rfl (.tmp rfl rfl) rfl)
    (.c (S.field fi88_0 .none rfl (.tmp rfl rfl) rfl)
    (.c (S.load1 ti3 .none rfl (.tmp rfl rfl) rfl)
    (.c (S.sub .none rfl (.tmp rfl rfl) (.tmp rfl rfl) (IntWalk.i64_in _ (by omega)) (IntWalk.i64_in _ (by omega)))
    (.c (S.assign .none rfl (.tmp rfl rfl))
    (.c (S.assign .none rfl (.tmp rfl rfl))
    .nil))))))))))))))))))))))) (by kernel_rfl) ?_
  refine Ab.D.code ?_
  refine OK.ret (Ret.r2 (.tmp rfl rfl (.c (.same rfl) rfl) rfl) (.tmp rfl rfl (.c (.same rfl) rfl) rfl) ?_)
  rfl
set_option maxHeartbeats 1000000 in
theorem shp_BathAt {l : List Bath} {t : Int} : Ct Tryz.prog 45 [.sl (l.map Bath.cs), .int .i64 t] (.tup [.agg (bathT l t).cs, .int .i64 (bathE2 l t)]) := by
  refine Ct.intro (rs := [.cell 4 53, .tmp 5]) Tryz.func45 rfl Tryz.ntmps45 Tryz.results45 rfl rfl rfl fun w h => ?_
  refine OK.slLen (rows := l.map Bath.cs) (t := 0) rfl rfl fun hlen => ?_
  rw [List.length_map] at hlen
  unfold maxLen at hlen
  refine OK.seq ?_
  refine OK.reg ?_
  refine RK.c (S.box (k := 3) rfl .none rfl (.tmp rfl rfl) rfl) ?_
  refine RK.c (S.alloc (k := 4) ze53 rfl .none rfl) ?_
  refine RK.c (S.assign .none rfl (.cint rfl)) ?_
  refine RK.nil ?_
  refine Ab.D.code ?_
  refine OK.seq ?_
  refine OK.seq ?_
  refine OK.reg ?_
  refine RK.c (S.move .none rfl (.tmp rfl rfl)) ?_
  refine RK.c (S.call (shp_readingsErr) Tryz.call120 .none rfl (.cons (.tmp rfl rfl) .nil) rfl) ?_
  refine RK.c (S.assign .none rfl (.tmp rfl rfl)) ?_
  refine RK.nil ?_
  refine Ab.D.code ?_
  refine OK.seq ?_
  refine OK.reg ?_
  refine RK.c (S.move .none rfl (.tmp rfl rfl)) ?_
  refine RK.c (S.neq .none rfl (.tmp rfl rfl) (.cint rfl)) ?_
  refine RK.nil ?_
  refine Ab.D.code ?_
  refine OK.condD rfl rfl (fun c18 => ?_) (fun c18 => ?_)
  ·
    refine OK.seq ?_
    refine OK.reg ?_
    refine RK.c (S.build bu53 rfl .none rfl .nil rfl rfl) ?_
    refine RK.c (S.move .none rfl (.tmp rfl rfl)) ?_
    refine RK.c (S.store ti53 .none (.tmp rfl rfl) (.tmp rfl rfl) rfl rfl rfl rfl rfl rfl) ?_
    refine RK.c (S.assign .none rfl (.tmp rfl rfl)) ?_
    refine RK.nil ?_
    refine Ab.D.code ?_
    refine OK.ret (Ret.r2 (.cellN rfl rfl rfl rfl ti53 rfl (.k (.same rfl) (.k (.same rfl) .z))) (.tmp rfl rfl (.c (.same rfl) rfl) rfl) ?_)
    have he : bathE2 l t = readE l := by unfold bathE2; rw [if_pos c18]
    rw [bathT, if_neg (by rw [he]; exact c18), he]
    rfl
  ·
    have hv : readE l = 0 := Decidable.not_not.1 c18
    obtain ⟨q1, q2, q3⟩ := bath_get hv
    have hg0 : (l.getD 0 ⟨0, ⟨0, 0⟩⟩) = l[0] := getD_at (by omega)
    have hgt : nextTop l = l[l.length - 1] := getD_at (by omega)
    have hiE : inTick l t = decide (l[0].tick ≤ t ∧ t ≤ l[l.length - 1].tick) := by unfold inTick; rw [hg0, hgt]
    refine OK.skip ?_
    refine Ab.D.code ?_
    refine OK.seq ?_
    refine OK.seq ?_
    refine OK.regionDraw follows (.c (S.bload1 ti3 .none rfl (.tmp rfl rfl) rfl rfl rfl rfl)
      (.c (S.move .none rfl (.tmp rfl rfl))
      (.c (S.indexM (n := 0) si77 .none rfl (.tmp rfl rfl) (.cint rfl) rfl (by omega) rfl)
      (.c (S.field fi88_0 .none rfl (.tmp rfl rfl) rfl)
      (.c (S.load1 ti3 .none rfl (.tmp rfl rfl) rfl)
      (.c (S.move .none rfl (.tmp rfl rfl))
      (.c (S.move .none rfl (.tmp rfl rfl))
      (.c (S.lenM si77 .none rfl (.tmp rfl rfl))
      (.c (S.sub .none rfl (.tmp rfl rfl) (.cint rfl) (IntWalk.i64_in _ (by omega)) (IntWalk.i64_in _ (by omega)))
      (.c (S.indexM (n := l.length - 1) si77 .none rfl (.tmp rfl rfl) (.tmp rfl rfl) (by omega) (by omega) rfl)
      (.c (S.field fi88_0 .none rfl (.tmp rfl rfl) rfl)
      (.c (S.load1 ti3 .none rfl (.tmp rfl rfl) rfl)
      (.c (S.call (shp_within) Tryz.call121 .none rfl (.cons (.tmp rfl rfl) (.cons (.tmp rfl rfl) (.cons (.tmp rfl rfl) .nil))) rfl)
      (.c (S.notD .none rfl (.tmp rfl rfl))
      .nil)))))))))))))) (by kernel_rfl) ?_
    refine Ab.D.code ?_
    refine OK.condD rfl rfl (fun c34 => ?_) (fun c34 => ?_)
    ·
      refine OK.seq ?_
      refine OK.reg ?_
      refine RK.c (S.build bu53 rfl .none rfl .nil rfl rfl) ?_
      refine RK.c (S.store ti53 .none (.tmp rfl rfl) (.tmp rfl rfl) rfl rfl rfl rfl rfl rfl) ?_
      refine RK.c (S.assign .none rfl (.cint rfl)) ?_
      refine RK.nil ?_
      refine Ab.D.code ?_
      refine OK.ret (Ret.r2 (.cellN rfl rfl rfl rfl ti53 rfl (.k (.same rfl) (.k (.same rfl) .z))) (.tmp rfl rfl (.c (.same rfl) rfl) rfl) ?_)
      have he : bathE2 l t = 2 := by unfold bathE2; rw [if_neg (by omega), hiE, decide_eq_false c34]; rfl
      rw [bathT, if_neg (by omega), he]
      rfl
    ·
      have hin : inTick l t = true := by rw [hiE]; exact decide_eq_true (Decidable.not_not.1 c34)
      obtain ⟨i, e1, e2, e3, e4, e5⟩ := bath_ix q1 hin
      have e6 := bath_prev hin e5
      rw [getD_at (by omega)] at e4 e6
      have hA := q3 i (by omega)
      have hB := q3 (i + 1) (by omega)
      have hord : l[i].tick < l[i + 1].tick := by
        rcases hB.2.2 with h | h
        · omega
        · rw [Nat.add_sub_cancel, getD_at (by omega)] at h; exact h
      obtain ⟨hA1, hA2, hA3⟩ := hA
      obtain ⟨hB1, hB2, hB3⟩ := hB
      have hl1 := line_bd (p := l[i].value.lo) (q := l[i + 1].value.lo) (w := l[i + 1].tick - l[i].tick) (t := t - l[i].tick) (by omega) (by omega) (by omega) (by omega)
      have hl2 := line_bd (p := l[i].value.hi) (q := l[i + 1].value.hi) (w := l[i + 1].tick - l[i].tick) (t := t - l[i].tick) (by omega) (by omega) (by omega) (by omega)
      have hf2 := floor_bd (n := 0 - lineT l[i].value.hi l[i + 1].value.hi (l[i + 1].tick - l[i].tick) (t - l[i].tick)) (b := l[i + 1].tick - l[i].tick) (by omega) (A := 3000000000) (by omega)
      have he : bathE2 l t = 0 := by unfold bathE2; rw [if_neg (by omega), if_pos hin]
      have hbt : bathT l t = valT l[i] l[i + 1] t := by unfold bathT; rw [if_pos he, e2, Nat.add_sub_cancel, getD_at (by omega), getD_at (by omega)]
      refine OK.skip ?_
      refine Ab.D.code ?_
      refine OK.seq ?_
      refine OK.reg ?_
      refine RK.c (S.move .none rfl (.tmp rfl rfl)) ?_
      refine RK.c (S.slice (lo := 1) (l' := l.drop 1) si77 (fun _ => rfl) .none rfl (.tmp rfl rfl) (.inr ⟨_, _, rfl, (.cint rfl), rfl⟩) (.inl ⟨rfl, rfl, rfl⟩) (by omega) (by omega) (by simp)) ?_
      refine RK.c (S.makeFunc1 .none rfl (.tmp rfl rfl) rfl) ?_
      refine RK.c (S.callL (indexFunc_Bath (l := l.drop 1) (g := fun x : Bath => decide (x.tick ≥ t)) (caps := [.eptr [.int .i64 t]]) (fun x _ => shp_reached) Tryz.call123 ⟨rfl, rfl⟩) Tryz.call122 .none rfl (.cons (.tmp rfl rfl) (.cons (.tmp rfl rfl) .nil)) (.cons (.same rfl) (.cons (.fn (.cons (.ptr rfl rfl rfl rfl) .nil)) .nil)) rfl) ?_
      refine RK.c (S.add .none rfl (.cint rfl) (.tmp rfl rfl) (IntWalk.i64_in _ (by have := (idxGo_lt (fun x : Bath => decide (x.tick ≥ t)) (l.drop 1) 0); simp only [List.length_drop] at this; omega)) (IntWalk.i64_in _ (by have := (idxGo_lt (fun x : Bath => decide (x.tick ≥ t)) (l.drop 1) 0); simp only [List.length_drop] at this; omega))) ?_
      refine RK.c (S.assign .none rfl (.tmp rfl rfl)) ?_
      refine RK.nil ?_
      refine Ab.D.code ?_
      refine OK.seq ?_
      rw [e1]
      refine OK.regionDraw follows (.c (S.move .none rfl (.tmp rfl rfl))
        (.c (S.move .none rfl (.tmp rfl rfl))
        (.c (S.sub .none rfl (.tmp rfl rfl) (.cint rfl) (IntWalk.i64_in _ (by omega)) (IntWalk.i64_in _ (by omega)))
        (.c (S.indexM (n := i) si77 .none rfl (.tmp rfl rfl) (.tmp rfl rfl) (by omega) (by omega) rfl)
        (.c (S.loadN ti88 .none rfl (.tmp rfl rfl) rfl rfl)
        (.c (S.move .none rfl (.tmp rfl rfl))
        (.c (S.move .none rfl (.tmp rfl rfl))
        (.c (S.indexM (n := i + 1) si77 .none rfl (.tmp rfl rfl) (.tmp rfl rfl) (by omega) (by omega) rfl)
        (.c (S.loadN ti88 .none rfl (.tmp rfl rfl) rfl rfl)
        (.c (S.alloc (k := 8) ze88 rfl .none rfl)
        (.c (S.alloc (k := 9) ze88 rfl .none rfl)
        (.c (S.store ti88 .none (.tmp rfl rfl) (.tmp rfl rfl) rfl rfl rfl rfl rfl rfl)
        (.c (S.store ti88 .none (.tmp rfl rfl) (.tmp rfl rfl) rfl rfl rfl rfl rfl rfl)
        .nil))))))))))))) (by kernel_rfl) ?_
      refine Ab.D.code ?_
      refine OK.seq ?_
      refine OK.reg ?_
      refine RK.c (S.makeFunc3 .none rfl (.tmp rfl rfl) (.tmp rfl rfl) (.tmp rfl rfl) rfl rfl rfl) ?_
      refine RK.c (S.assign .none rfl (.tmp rfl rfl)) ?_
      refine RK.nil ?_
      refine Ab.D.code ?_
      refine OK.seq ?_
      refine OK.reg ?_
      refine RK.c (S.move .none rfl (.tmp rfl rfl)) ?_
      refine RK.c (S.bfield fi88_1 .none rfl (.tmp rfl rfl)) ?_
      refine RK.c (S.bfield fi53_0 .none rfl (.tmp rfl rfl)) ?_
      refine RK.c (S.bload1 ti3 .none rfl (.tmp rfl rfl) rfl rfl rfl rfl) ?_
      refine RK.c (S.bfield fi88_1 .none rfl (.tmp rfl rfl)) ?_
      refine RK.c (S.bfield fi53_0 .none rfl (.tmp rfl rfl)) ?_
      refine RK.c (S.bload1 ti3 .none rfl (.tmp rfl rfl) rfl rfl rfl rfl) ?_
      refine RK.c (S.callvL (shp_line (a := l[i]) (b := l[i + 1]) (t := t) (by omega) (by omega) (by omega) (by omega) (by omega)) Tryz.call124 .none rfl (.tmp rfl rfl) (.cons (.tmp rfl rfl) (.cons (.tmp rfl rfl) .nil)) (.cons (.same rfl) (.cons (.same rfl) .nil)) (.cons (.ptr rfl rfl rfl rfl) (.cons (.ptr rfl rfl rfl rfl) (.cons (.ptr rfl rfl rfl rfl) .nil))) rfl rfl) ?_
      refine RK.c (S.move .none rfl (.tmp rfl rfl)) ?_
      refine RK.c (S.extract .none rfl (.tmp rfl rfl) rfl rfl) ?_
      refine RK.c (S.extract .none rfl (.tmp rfl rfl) rfl rfl) ?_
      refine RK.c (S.assign .none rfl (.tmp rfl rfl)) ?_
      refine RK.c (S.assign .none rfl (.tmp rfl rfl)) ?_
      refine RK.nil ?_
      refine Ab.D.code ?_
      refine OK.seq ?_
      refine OK.reg ?_
      refine RK.c (S.move .none rfl (.tmp rfl rfl)) ?_
      refine RK.c (S.bfield fi88_1 .none rfl (.tmp rfl rfl)) ?_
      refine RK.c (S.bfield fi53_1 .none rfl (.tmp rfl rfl)) ?_
      refine RK.c (S.bload1 ti3 .none rfl (.tmp rfl rfl) rfl rfl rfl rfl) ?_
      refine RK.c (S.bfield fi88_1 .none rfl (.tmp rfl rfl)) ?_
      refine RK.c (S.bfield fi53_1 .none rfl (.tmp rfl rfl)) ?_
      refine RK.c (S.bload1 ti3 .none rfl (.tmp rfl rfl) rfl rfl rfl rfl) ?_
      refine RK.c (S.callvL (shp_line (a := l[i]) (b := l[i + 1]) (t := t) (by omega) (by omega) (by omega) (by omega) (by omega)) Tryz.call124 .none rfl (.tmp rfl rfl) (.cons (.tmp rfl rfl) (.cons (.tmp rfl rfl) .nil)) (.cons (.same rfl) (.cons (.same rfl) .nil)) (.cons (.ptr rfl rfl rfl rfl) (.cons (.ptr rfl rfl rfl rfl) (.cons (.ptr rfl rfl rfl rfl) .nil))) rfl rfl) ?_
      refine RK.c (S.move .none rfl (.tmp rfl rfl)) ?_
      refine RK.c (S.extract .none rfl (.tmp rfl rfl) rfl rfl) ?_
      refine RK.c (S.extract .none rfl (.tmp rfl rfl) rfl rfl) ?_
      refine RK.c (S.assign .none rfl (.tmp rfl rfl)) ?_
      refine RK.c (S.assign .none rfl (.tmp rfl rfl)) ?_
      refine RK.nil ?_
      refine Ab.D.code ?_
      refine OK.seq ?_
      refine OK.reg ?_
      refine RK.c (S.move .none rfl (.tmp rfl rfl)) ?_
      refine RK.c (S.move .none rfl (.tmp rfl rfl)) ?_
      refine RK.c (S.call (shp_floor (A := 3000000000) (by omega) (by omega) (by omega)) Tryz.call125 .none rfl (.cons (.tmp rfl rfl) (.cons (.tmp rfl rfl) .nil)) rfl) ?_
      refine RK.c (S.move .none rfl (.tmp rfl rfl)) ?_
      refine RK.c (S.neg .none rfl (.tmp rfl rfl) (IntWalk.i64_in _ (by omega)) (IntWalk.i64_in _ (by omega))) ?_
      refine RK.c (S.move .none rfl (.tmp rfl rfl)) ?_
      refine RK.c (S.call (shp_floor (A := 3000000000) (by omega) (by omega) (by omega)) Tryz.call125 .none rfl (.cons (.tmp rfl rfl) (.cons (.tmp rfl rfl) .nil)) rfl) ?_
      refine RK.c (S.neg .none rfl (.tmp rfl rfl) (IntWalk.i64_in _ (by omega)) (IntWalk.i64_in _ (by omega))) ?_
      refine RK.c (S.build bu53 rfl .none rfl (.cons (.tmp rfl rfl) (.cons (.tmp rfl rfl) .nil)) rfl rfl) ?_
      refine RK.c (S.store ti53 .none (.tmp rfl rfl) (.tmp rfl rfl) rfl rfl rfl rfl rfl rfl) ?_
      refine RK.c (S.assign .none rfl (.cint rfl)) ?_
      refine RK.nil ?_
      refine Ab.D.code ?_
      refine OK.ret (Ret.r2 (.cellN rfl rfl rfl rfl ti53 rfl (.k (.same rfl) (.k (.same rfl) .z))) (.tmp rfl rfl (.c (.same rfl) rfl) rfl) ?_)
      rw [hbt, he]
      rfl
theorem ref9_BathErr {l : List Bath} : Ct Tryz.prog 48 [.sl (l.map Bath.cs)] (.int .i64 (readE l)) := by
  refine Ct.intro (rs := [.tmp 2]) Tryz.func48 rfl Tryz.ntmps48 Tryz.results48 rfl rfl rfl fun w h => ?_
  refine OK.seq ?_
  refine OK.reg ?_
  refine RK.c (S.assign .none rfl (.cint rfl)) ?_
  refine RK.nil ?_
  refine Ab.D.code ?_
  refine OK.seq ?_
  refine OK.seq ?_
  refine OK.reg ?_
  refine RK.c (S.move .none rfl (.tmp rfl rfl)) ?_
  refine RK.c (S.lenM si77 .none rfl (.tmp rfl rfl)) ?_
  refine RK.c (S.lss .none rfl (.tmp rfl rfl) (.cint rfl)) ?_
  refine RK.nil ?_
  refine Ab.D.code ?_
  refine OK.condD rfl rfl (fun c6 => ?_) (fun c6 => ?_)
  ·
    refine OK.seq ?_
    refine OK.reg ?_
    refine RK.c (S.assign .none rfl (.cint rfl)) ?_
    refine RK.nil ?_
    refine Ab.D.code ?_
    refine OK.ret (Ret.r1 (.tmp rfl rfl (.c (.same rfl) rfl) rfl) ?_)
    refine ret_i ?_
    rw [readE, if_pos (by omega)]
  ·
    refine OK.skip ?_
    refine Ab.D.code ?_
    refine OK.seq ?_
    refine OK.seq ?_
    refine OK.reg ?_
    refine RK.c (S.move .none rfl (.tmp rfl rfl)) ?_
    refine RK.c (S.lenM si77 .none rfl (.tmp rfl rfl)) ?_
    refine RK.c (S.gtr .none rfl (.tmp rfl rfl) (.cint rfl)) ?_
    refine RK.nil ?_
    refine Ab.D.code ?_
    refine OK.condD rfl rfl (fun c9 => ?_) (fun c9 => ?_)
    ·
      refine OK.seq ?_
      refine OK.reg ?_
      refine RK.c (S.assign .none rfl (.cint rfl)) ?_
      refine RK.nil ?_
      refine Ab.D.code ?_
      refine OK.ret (Ret.r1 (.tmp rfl rfl (.c (.same rfl) rfl) rfl) ?_)
      refine ret_i ?_
      rw [readE, if_neg (by omega), if_pos (by omega)]
    ·
      refine OK.skip ?_
      refine Ab.D.code ?_
      refine OK.seq ?_
      refine OK.seq ?_
      refine OK.reg ?_
      refine RK.c (S.assign .none rfl (.cint rfl)) ?_
      refine RK.nil ?_
      refine Ab.D.code ?_
      refine OK.block ?_
      refine OK.loop (G := Nat) [] (fun i => [(0, .sl (l.map Bath.cs)), (3, .int .i64 i)]) (fun i => i ≤ l.length ∧ eachGo (bathE l) 0 l = eachGo (bathE l) i (l.drop i)) (fun i => l.length - i) 0 ⟨Nat.zero_le _, rfl⟩ ⟨rfl, rfl, trivial⟩ (fun _ => rfl) ?_
      rintro i ⟨hi, hg⟩
      refine OK.seq ?_
      refine OK.seq ?_
      refine OK.reg ?_
      refine RK.c (S.move .none rfl (.tmp rfl rfl)) ?_
      refine RK.c (S.move .none rfl (.tmp rfl rfl)) ?_
      refine RK.c (S.lenM si77 .none rfl (.tmp rfl rfl)) ?_
      refine RK.c (S.lss .none rfl (.tmp rfl rfl) (.tmp rfl rfl)) ?_
      refine RK.nil ?_
      refine Ab.D.code ?_
      refine OK.condD rfl rfl (fun c13 => ?_) (fun c13 => ?_)
      ·
        have hgd : l.getD (i - 1) ⟨0, ⟨0, 0⟩⟩ = l[i - 1] := getD_at (by omega)
        refine OK.skip ?_
        refine Ab.D.code ?_
        refine OK.seq ?_
        refine OK.block ?_
        refine OK.seq ?_
        refine OK.seq ?_
        refine OK.reg ?_
        refine RK.c (S.move .none rfl (.tmp rfl rfl)) ?_
        refine RK.c (S.move .none rfl (.tmp rfl rfl)) ?_
        refine RK.c (S.indexM (n := i) si77 .none rfl (.tmp rfl rfl) (.tmp rfl rfl) rfl (by omega) rfl) ?_
        refine RK.c (S.field fi88_0 .none rfl (.tmp rfl rfl) rfl) ?_
        refine RK.c (S.load1 ti3 .none rfl (.tmp rfl rfl) rfl) ?_
        refine RK.c (S.call (ref9_isTicks) Tryz.call117 .none rfl (.cons (.tmp rfl rfl) .nil) rfl) ?_
        refine RK.c (S.notD .none rfl (.tmp rfl rfl)) ?_
        refine RK.c (S.move .none rfl (.tmp rfl rfl)) ?_
        refine RK.splitD (t := 23) rfl (fun g23 => ?_) (fun g23 => ?_)
        ·
          refine RK.c (S.skip rfl rfl rfl rfl rfl) ?_
          refine RK.c (S.skip rfl rfl rfl rfl rfl) ?_
          refine RK.c (S.skip rfl rfl rfl rfl rfl) ?_
          refine RK.c (S.skip rfl rfl rfl rfl rfl) ?_
          refine RK.c (S.skip rfl rfl rfl rfl rfl) ?_
          refine RK.c (S.skip rfl rfl rfl rfl rfl) ?_
          refine RK.c (S.skip rfl rfl rfl rfl rfl) ?_
          refine RK.c (S.skip rfl rfl rfl rfl rfl) ?_
          refine RK.c (S.pickT .none rfl (.tmp rfl rfl) .cbool rfl) ?_
          refine RK.c (S.move .none rfl (.tmp rfl rfl)) ?_
          refine RK.c (S.skip rfl rfl rfl rfl rfl) ?_
          refine RK.c (S.skip rfl rfl rfl rfl rfl) ?_
          refine RK.c (S.skip rfl rfl rfl rfl rfl) ?_
          refine RK.c (S.skip rfl rfl rfl rfl rfl) ?_
          refine RK.c (S.skip rfl rfl rfl rfl rfl) ?_
          refine RK.c (S.skip rfl rfl rfl rfl rfl) ?_
          refine RK.c (S.skip rfl rfl rfl rfl rfl) ?_
          refine RK.c (S.skip rfl rfl rfl rfl rfl) ?_
          refine RK.c (S.pickT .none rfl (.tmp rfl rfl) .cbool rfl) ?_
          refine RK.nil ?_
          refine Ab.D.code ?_
          refine OK.condT rfl rfl rfl ?_
          refine OK.seq ?_
          refine OK.reg ?_
          refine RK.c (S.assign .none rfl (.cint rfl)) ?_
          refine RK.nil ?_
          refine Ab.D.code ?_
          refine OK.ret (Ret.r1 (.tmp rfl rfl (.c (.same rfl) rfl) rfl) ?_)
          refine ret_i ?_
          have hbe : bathE l i l[i] = 2 := by unfold bathE; rw [if_pos (by omega)]
          rw [readE, if_neg (by omega), if_neg (by omega), hg, eachGo_drop _ (by omega), hbe]
          rfl
        ·
          refine RK.c (S.move (.yes rfl rfl rfl rfl) rfl (.tmp rfl rfl)) ?_
          refine RK.c (S.move (.yes rfl rfl rfl rfl) rfl (.tmp rfl rfl)) ?_
          refine RK.c (S.indexM (n := i) si77 (.yes rfl rfl rfl rfl) rfl (.tmp rfl rfl) (.tmp rfl rfl) rfl (by omega) rfl) ?_
          refine RK.c (S.field fi88_1 (.yes rfl rfl rfl rfl) rfl (.tmp rfl rfl) rfl) ?_
          refine RK.c (S.field fi53_0 (.yes rfl rfl rfl rfl) rfl (.tmp rfl rfl) rfl) ?_
          refine RK.c (S.load1 ti3 (.yes rfl rfl rfl rfl) rfl (.tmp rfl rfl) rfl) ?_
          refine RK.c (S.call (ref9_isValue) Tryz.call109 (.yes rfl rfl rfl rfl) rfl (.cons (.tmp rfl rfl) .nil) rfl) ?_
          refine RK.c (S.notD (.yes rfl rfl rfl rfl) rfl (.tmp rfl rfl)) ?_
          refine RK.c (S.pickF .none rfl (.tmp rfl rfl) (.tmp rfl rfl) rfl) ?_
          refine RK.c (S.move .none rfl (.tmp rfl rfl)) ?_
          refine RK.splitD (t := 33) rfl (fun g33 => ?_) (fun g33 => ?_)
          ·
            refine RK.c (S.skip rfl rfl rfl rfl rfl) ?_
            refine RK.c (S.skip rfl rfl rfl rfl rfl) ?_
            refine RK.c (S.skip rfl rfl rfl rfl rfl) ?_
            refine RK.c (S.skip rfl rfl rfl rfl rfl) ?_
            refine RK.c (S.skip rfl rfl rfl rfl rfl) ?_
            refine RK.c (S.skip rfl rfl rfl rfl rfl) ?_
            refine RK.c (S.skip rfl rfl rfl rfl rfl) ?_
            refine RK.c (S.skip rfl rfl rfl rfl rfl) ?_
            refine RK.c (S.pickT .none rfl (.tmp rfl rfl) .cbool rfl) ?_
            refine RK.nil ?_
            refine Ab.D.code ?_
            refine OK.condT rfl rfl rfl ?_
            refine OK.seq ?_
            refine OK.reg ?_
            refine RK.c (S.assign .none rfl (.cint rfl)) ?_
            refine RK.nil ?_
            refine Ab.D.code ?_
            refine OK.ret (Ret.r1 (.tmp rfl rfl (.c (.same rfl) rfl) rfl) ?_)
            refine ret_i ?_
            first
            | (have hbe : bathE l i l[i] = 2 := by (unfold bathE; rw [if_pos (by omega)])
               rw [readE, if_neg (by omega), if_neg (by omega), hg, eachGo_drop _ (by omega), hbe]
               rfl)
            | (have hbe : bathE l i l[i] = 9 := by (unfold bathE; rw [if_neg (by omega), if_neg (by rw [hgd]; omega)])
               rw [readE, if_neg (by omega), if_neg (by omega), hg, eachGo_drop _ (by omega), hbe]
               rfl)
          ·
            refine RK.c (S.move (.yes rfl rfl rfl rfl) rfl (.tmp rfl rfl)) ?_
            refine RK.c (S.move (.yes rfl rfl rfl rfl) rfl (.tmp rfl rfl)) ?_
            refine RK.c (S.indexM (n := i) si77 (.yes rfl rfl rfl rfl) rfl (.tmp rfl rfl) (.tmp rfl rfl) rfl (by omega) rfl) ?_
            refine RK.c (S.field fi88_1 (.yes rfl rfl rfl rfl) rfl (.tmp rfl rfl) rfl) ?_
            refine RK.c (S.field fi53_1 (.yes rfl rfl rfl rfl) rfl (.tmp rfl rfl) rfl) ?_
            refine RK.c (S.load1 ti3 (.yes rfl rfl rfl rfl) rfl (.tmp rfl rfl) rfl) ?_
            refine RK.c (S.call (ref9_isValue) Tryz.call109 (.yes rfl rfl rfl rfl) rfl (.cons (.tmp rfl rfl) .nil) rfl) ?_
            refine RK.c (S.notD (.yes rfl rfl rfl rfl) rfl (.tmp rfl rfl)) ?_
            refine RK.c (S.pickF .none rfl (.tmp rfl rfl) (.tmp rfl rfl) rfl) ?_
            refine RK.nil ?_
            refine Ab.D.code ?_
            refine OK.condD rfl rfl (fun c42 => ?_) (fun c42 => ?_)
            ·
              refine OK.seq ?_
              refine OK.reg ?_
              refine RK.c (S.assign .none rfl (.cint rfl)) ?_
              refine RK.nil ?_
              refine Ab.D.code ?_
              refine OK.ret (Ret.r1 (.tmp rfl rfl (.c (.same rfl) rfl) rfl) ?_)
              refine ret_i ?_
              first
              | (have hbe : bathE l i l[i] = 2 := by (unfold bathE; rw [if_pos (by omega)])
                 rw [readE, if_neg (by omega), if_neg (by omega), hg, eachGo_drop _ (by omega), hbe]
                 rfl)
              | (have hbe : bathE l i l[i] = 9 := by (unfold bathE; rw [if_neg (by omega), if_neg (by rw [hgd]; omega)])
                 rw [readE, if_neg (by omega), if_neg (by omega), hg, eachGo_drop _ (by omega), hbe]
                 rfl)
            ·
              refine OK.skip ?_
              refine Ab.D.code ?_
              refine OK.seq ?_
              by_cases g56 : l[i].value.lo > l[i].value.hi
              ·
                refine OK.regionDraw follows (.c (S.move .none rfl (.tmp rfl rfl))
                  (.c (S.move .none rfl (.tmp rfl rfl))
                  (.c (S.indexM (n := i) si77 .none rfl (.tmp rfl rfl) (.tmp rfl rfl) rfl (by omega) rfl)
                  (.c (S.field fi88_1 .none rfl (.tmp rfl rfl) rfl)
                  (.c (S.field fi53_0 .none rfl (.tmp rfl rfl) rfl)
                  (.c (S.load1 ti3 .none rfl (.tmp rfl rfl) rfl)
                  (.c (S.move .none rfl (.tmp rfl rfl))
                  (.c (S.move .none rfl (.tmp rfl rfl))
                  (.c (S.indexM (n := i) si77 .none rfl (.tmp rfl rfl) (.tmp rfl rfl) rfl (by omega) rfl)
                  (.c (S.field fi88_1 .none rfl (.tmp rfl rfl) rfl)
                  (.c (S.field fi53_1 .none rfl (.tmp rfl rfl) rfl)
                  (.c (S.load1 ti3 .none rfl (.tmp rfl rfl) rfl)
                  (.c (S.gtr .none rfl (.tmp rfl rfl) (.tmp rfl rfl))
                  (.c (S.move .none rfl (.tmp rfl rfl))
                  (.c (S.skip rfl rfl rfl (by first | rfl | exact decide_eq_true g56 | exact decide_eq_false g56 | (rw [decide_eq_true g56]; rfl) | (rw [decide_eq_false g56]; rfl) | simp [*]) rfl)
                  (.c (S.skip rfl rfl rfl (by first | rfl | exact decide_eq_true g56 | exact decide_eq_false g56 | (rw [decide_eq_true g56]; rfl) | (rw [decide_eq_false g56]; rfl) | simp [*]) rfl)
                  (.c (S.skip rfl rfl rfl (by first | rfl | exact decide_eq_true g56 | exact decide_eq_false g56 | (rw [decide_eq_true g56]; rfl) | (rw [decide_eq_false g56]; rfl) | simp [*]) rfl)
                  (.c (S.skipU rfl rfl rfl rfl)
                  (.c (S.skipU rfl rfl rfl rfl)
                  (.c (S.skipU rfl rfl rfl rfl)
                  (.c (S.skipU rfl rfl rfl rfl)
                  (.c (S.skipU rfl rfl rfl rfl)
                  (.c (S.skipU rfl rfl rfl rfl)
                  (.c (S.skipU rfl rfl rfl rfl)
                  (.c (S.skipU rfl rfl rfl rfl)
                  (.c (S.skipU rfl rfl rfl rfl)
                  (.c (S.skipU rfl rfl rfl rfl)
                  (.c (S.skipU rfl rfl rfl rfl)
                  (.c (S.skipU rfl rfl rfl rfl)
                  (.c (S.skip rfl rfl rfl (by first | rfl | exact decide_eq_true g56 | exact decide_eq_false g56 | (rw [decide_eq_true g56]; rfl) | (rw [decide_eq_false g56]; rfl) | simp [*]) rfl)
                  (.c (S.pickT .none rfl (.tmp rfl rfl) .cbool (by first | rfl | exact decide_eq_true g56 | exact decide_eq_false g56 | (rw [decide_eq_true g56]; rfl) | (rw [decide_eq_false g56]; rfl) | simp [*]))
                  .nil))))))))))))))))))))))))))))))) (by kernel_rfl) ?_
                refine Ab.D.code ?_
                refine OK.condT rfl rfl rfl ?_
                refine OK.seq ?_
                refine OK.reg ?_
                refine RK.c (S.assign .none rfl (.cint rfl)) ?_
                refine RK.nil ?_
                refine Ab.D.code ?_
                refine OK.ret (Ret.r1 (.tmp rfl rfl (.c (.same rfl) rfl) rfl) ?_)
                refine ret_i ?_
                first
                | (have hbe : bathE l i l[i] = 2 := by (unfold bathE; rw [if_pos (by omega)])
                   rw [readE, if_neg (by omega), if_neg (by omega), hg, eachGo_drop _ (by omega), hbe]
                   rfl)
                | (have hbe : bathE l i l[i] = 9 := by (unfold bathE; rw [if_neg (by omega), if_neg (by rw [hgd]; omega)])
                   rw [readE, if_neg (by omega), if_neg (by omega), hg, eachGo_drop _ (by omega), hbe]
                   rfl)
              ·
                by_cases g59 : (i : Int) > 0
                ·
                  refine OK.regionDraw follows (.c (S.move .none rfl (.tmp rfl rfl))
                    (.c (S.move .none rfl (.tmp rfl rfl))
                    (.c (S.indexM (n := i) si77 .none rfl (.tmp rfl rfl) (.tmp rfl rfl) rfl (by omega) rfl)
                    (.c (S.field fi88_1 .none rfl (.tmp rfl rfl) rfl)
                    (.c (S.field fi53_0 .none rfl (.tmp rfl rfl) rfl)
                    (.c (S.load1 ti3 .none rfl (.tmp rfl rfl) rfl)
                    (.c (S.move .none rfl (.tmp rfl rfl))
                    (.c (S.move .none rfl (.tmp rfl rfl))
                    (.c (S.indexM (n := i) si77 .none rfl (.tmp rfl rfl) (.tmp rfl rfl) rfl (by omega) rfl)
                    (.c (S.field fi88_1 .none rfl (.tmp rfl rfl) rfl)
                    (.c (S.field fi53_1 .none rfl (.tmp rfl rfl) rfl)
                    (.c (S.load1 ti3 .none rfl (.tmp rfl rfl) rfl)
                    (.c (S.gtr .none rfl (.tmp rfl rfl) (.tmp rfl rfl))
                    (.c (S.move .none rfl (.tmp rfl rfl))
                    (.c (S.move (.yes rfl rfl rfl (by first | rfl | exact decide_eq_true g56 | exact decide_eq_false g56 | (rw [decide_eq_true g56]; rfl) | (rw [decide_eq_false g56]; rfl) | simp [*])) rfl (.tmp rfl rfl))
                    (.c (S.gtr (.yes rfl rfl rfl (by first | rfl | exact decide_eq_true g56 | exact decide_eq_false g56 | (rw [decide_eq_true g56]; rfl) | (rw [decide_eq_false g56]; rfl) | simp [*])) rfl (.tmp rfl rfl) (.cint rfl))
                    (.c (S.move (.yes rfl rfl rfl (by first | rfl | exact decide_eq_true g56 | exact decide_eq_false g56 | (rw [decide_eq_true g56]; rfl) | (rw [decide_eq_false g56]; rfl) | simp [*])) rfl (.tmp rfl rfl))
                    (.c (S.move (.yes rfl rfl rfl (by first | rfl | exact decide_eq_true g59 | exact decide_eq_false g59 | (rw [decide_eq_true g59]; rfl) | (rw [decide_eq_false g59]; rfl) | simp [*])) rfl (.tmp rfl rfl))
                    (.c (S.move (.yes rfl rfl rfl (by first | rfl | exact decide_eq_true g59 | exact decide_eq_false g59 | (rw [decide_eq_true g59]; rfl) | (rw [decide_eq_false g59]; rfl) | simp [*])) rfl (.tmp rfl rfl))
                    (.c (S.indexM (n := i) si77 (.yes rfl rfl rfl (by first | rfl | exact decide_eq_true g59 | exact decide_eq_false g59 | (rw [decide_eq_true g59]; rfl) | (rw [decide_eq_false g59]; rfl) | simp [*])) rfl (.tmp rfl rfl) (.tmp rfl rfl) rfl (by omega) rfl)
                    (.c (S.field fi88_0 (.yes rfl rfl rfl (by first | rfl | exact decide_eq_true g59 | exact decide_eq_false g59 | (rw [decide_eq_true g59]; rfl) | (rw [decide_eq_false g59]; rfl) | simp [*])) rfl (.tmp rfl rfl) rfl)
                    (.c (S.load1 ti3 (.yes rfl rfl rfl (by first | rfl | exact decide_eq_true g59 | exact decide_eq_false g59 | (rw [decide_eq_true g59]; rfl) | (rw [decide_eq_false g59]; rfl) | simp [*])) rfl (.tmp rfl rfl) rfl)
                    (.c (S.move (.yes rfl rfl rfl (by first | rfl | exact decide_eq_true g59 | exact decide_eq_false g59 | (rw [decide_eq_true g59]; rfl) | (rw [decide_eq_false g59]; rfl) | simp [*])) rfl (.tmp rfl rfl))
                    (.c (S.move (.yes rfl rfl rfl (by first | rfl | exact decide_eq_true g59 | exact decide_eq_false g59 | (rw [decide_eq_true g59]; rfl) | (rw [decide_eq_false g59]; rfl) | simp [*])) rfl (.tmp rfl rfl))
                    (.c (S.sub (.yes rfl rfl rfl (by first | rfl | exact decide_eq_true g59 | exact decide_eq_false g59 | (rw [decide_eq_true g59]; rfl) | (rw [decide_eq_false g59]; rfl) | simp [*])) rfl (.tmp rfl rfl) (.cint rfl) (IntWalk.i64_in _ (by omega)) (IntWalk.i64_in _ (by omega)))
                    (.c (S.indexM (n := i - 1) si77 (.yes rfl rfl rfl (by first | rfl | exact decide_eq_true g59 | exact decide_eq_false g59 | (rw [decide_eq_true g59]; rfl) | (rw [decide_eq_false g59]; rfl) | simp [*])) rfl (.tmp rfl rfl) (.tmp rfl rfl) (by omega) (by omega) rfl)
                    (.c (S.field fi88_0 (.yes rfl rfl rfl (by first | rfl | exact decide_eq_true g59 | exact decide_eq_false g59 | (rw [decide_eq_true g59]; rfl) | (rw [decide_eq_false g59]; rfl) | simp [*])) rfl (.tmp rfl rfl) rfl)
                    (.c (S.load1 ti3 (.yes rfl rfl rfl (by first | rfl | exact decide_eq_true g59 | exact decide_eq_false g59 | (rw [decide_eq_true g59]; rfl) | (rw [decide_eq_false g59]; rfl) | simp [*])) rfl (.tmp rfl rfl) rfl)
                    (.c (S.leq (.yes rfl rfl rfl (by first | rfl | exact decide_eq_true g59 | exact decide_eq_false g59 | (rw [decide_eq_true g59]; rfl) | (rw [decide_eq_false g59]; rfl) | simp [*])) rfl (.tmp rfl rfl) (.tmp rfl rfl))
                    (.c (S.pickT (.yes rfl rfl rfl (by first | rfl | exact decide_eq_true g56 | exact decide_eq_false g56 | (rw [decide_eq_true g56]; rfl) | (rw [decide_eq_false g56]; rfl) | simp [*])) rfl (.tmp rfl rfl) (.tmp rfl rfl) (by first | rfl | exact decide_eq_true g59 | exact decide_eq_false g59 | (rw [decide_eq_true g59]; rfl) | (rw [decide_eq_false g59]; rfl) | simp [*]))
                    (.c (S.pickF .none rfl (.tmp rfl rfl) (.tmp rfl rfl) (by first | rfl | exact decide_eq_true g56 | exact decide_eq_false g56 | (rw [decide_eq_true g56]; rfl) | (rw [decide_eq_false g56]; rfl) | simp [*]))
                    .nil))))))))))))))))))))))))))))))) (by kernel_rfl) ?_
                  refine Ab.D.code ?_
                  refine OK.condD rfl rfl (fun c73 => ?_) (fun c73 => ?_)
                  ·
                    refine OK.seq ?_
                    refine OK.reg ?_
                    refine RK.c (S.assign .none rfl (.cint rfl)) ?_
                    refine RK.nil ?_
                    refine Ab.D.code ?_
                    refine OK.ret (Ret.r1 (.tmp rfl rfl (.c (.same rfl) rfl) rfl) ?_)
                    refine ret_i ?_
                    first
                    | (have hbe : bathE l i l[i] = 2 := by (unfold bathE; rw [if_pos (by omega)])
                       rw [readE, if_neg (by omega), if_neg (by omega), hg, eachGo_drop _ (by omega), hbe]
                       rfl)
                    | (have hbe : bathE l i l[i] = 9 := by (unfold bathE; rw [if_neg (by omega), if_neg (by rw [hgd]; omega)])
                       rw [readE, if_neg (by omega), if_neg (by omega), hg, eachGo_drop _ (by omega), hbe]
                       rfl)
                  ·
                    refine OK.skip ?_
                    refine Ab.D.blk ?_
                    refine Ab.D.code ?_
                    refine OK.reg ?_
                    refine RK.c (S.move .none rfl (.tmp rfl rfl)) ?_
                    refine RK.c (S.add .none rfl (.tmp rfl rfl) (.cint rfl) (IntWalk.i64_in _ (by omega)) (IntWalk.i64_in _ (by omega))) ?_
                    refine RK.c (S.assign .none rfl (.tmp rfl rfl)) ?_
                    refine RK.nil ?_
                    refine Ab.D.lp ⟨i + 1, ⟨by omega, ?_⟩, (by omega), rfl, rfl, trivial⟩
                    have hbe : bathE l i l[i] = 0 := by unfold bathE; rw [if_neg (by omega), if_pos ⟨by omega, by first | (left; omega) | (right; rw [hgd]; omega)⟩]
                    rw [hg, eachGo_drop _ (by omega), if_neg (by omega)]
                ·
                  refine OK.regionDraw follows (.c (S.move .none rfl (.tmp rfl rfl))
                    (.c (S.move .none rfl (.tmp rfl rfl))
                    (.c (S.indexM (n := i) si77 .none rfl (.tmp rfl rfl) (.tmp rfl rfl) rfl (by omega) rfl)
                    (.c (S.field fi88_1 .none rfl (.tmp rfl rfl) rfl)
                    (.c (S.field fi53_0 .none rfl (.tmp rfl rfl) rfl)
                    (.c (S.load1 ti3 .none rfl (.tmp rfl rfl) rfl)
                    (.c (S.move .none rfl (.tmp rfl rfl))
                    (.c (S.move .none rfl (.tmp rfl rfl))
                    (.c (S.indexM (n := i) si77 .none rfl (.tmp rfl rfl) (.tmp rfl rfl) rfl (by omega) rfl)
                    (.c (S.field fi88_1 .none rfl (.tmp rfl rfl) rfl)
                    (.c (S.field fi53_1 .none rfl (.tmp rfl rfl) rfl)
                    (.c (S.load1 ti3 .none rfl (.tmp rfl rfl) rfl)
                    (.c (S.gtr .none rfl (.tmp rfl rfl) (.tmp rfl rfl))
                    (.c (S.move .none rfl (.tmp rfl rfl))
                    (.c (S.move (.yes rfl rfl rfl (by first | rfl | exact decide_eq_true g56 | exact decide_eq_false g56 | (rw [decide_eq_true g56]; rfl) | (rw [decide_eq_false g56]; rfl) | simp [*])) rfl (.tmp rfl rfl))
                    (.c (S.gtr (.yes rfl rfl rfl (by first | rfl | exact decide_eq_true g56 | exact decide_eq_false g56 | (rw [decide_eq_true g56]; rfl) | (rw [decide_eq_false g56]; rfl) | simp [*])) rfl (.tmp rfl rfl) (.cint rfl))
                    (.c (S.move (.yes rfl rfl rfl (by first | rfl | exact decide_eq_true g56 | exact decide_eq_false g56 | (rw [decide_eq_true g56]; rfl) | (rw [decide_eq_false g56]; rfl) | simp [*])) rfl (.tmp rfl rfl))
                    (.c (S.skip rfl rfl rfl (by first | rfl | exact decide_eq_true g59 | exact decide_eq_false g59 | (rw [decide_eq_true g59]; rfl) | (rw [decide_eq_false g59]; rfl) | simp [*]) rfl)
                    (.c (S.skip rfl rfl rfl (by first | rfl | exact decide_eq_true g59 | exact decide_eq_false g59 | (rw [decide_eq_true g59]; rfl) | (rw [decide_eq_false g59]; rfl) | simp [*]) rfl)
                    (.c (S.skip rfl rfl rfl (by first | rfl | exact decide_eq_true g59 | exact decide_eq_false g59 | (rw [decide_eq_true g59]; rfl) | (rw [decide_eq_false g59]; rfl) | simp [*]) rfl)
                    (.c (S.skip rfl rfl rfl (by first | rfl | exact decide_eq_true g59 | exact decide_eq_false g59 | (rw [decide_eq_true g59]; rfl) | (rw [decide_eq_false g59]; rfl) | simp [*]) rfl)
                    (.c (S.skip rfl rfl rfl (by first | rfl | exact decide_eq_true g59 | exact decide_eq_false g59 | (rw [decide_eq_true g59]; rfl) | (rw [decide_eq_false g59]; rfl) | simp [*]) rfl)
                    (.c (S.skip rfl rfl rfl (by first | rfl | exact decide_eq_true g59 | exact decide_eq_false g59 | (rw [decide_eq_true g59]; rfl) | (rw [decide_eq_false g59]; rfl) | simp [*]) rfl)
                    (.c (S.skip rfl rfl rfl (by first | rfl | exact decide_eq_true g59 | exact decide_eq_false g59 | (rw [decide_eq_true g59]; rfl) | (rw [decide_eq_false g59]; rfl) | simp [*]) rfl)
                    (.c (S.skip rfl rfl rfl (by first | rfl | exact decide_eq_true g59 | exact decide_eq_false g59 | (rw [decide_eq_true g59]; rfl) | (rw [decide_eq_false g59]; rfl) | simp [*]) rfl)
                    (.c (S.skip rfl rfl rfl (by first | rfl | exact decide_eq_true g59 | exact decide_eq_false g59 | (rw [decide_eq_true g59]; rfl) | (rw [decide_eq_false g59]; rfl) | simp [*]) rfl)
                    (.c (S.skip rfl rfl rfl (by first | rfl | exact decide_eq_true g59 | exact decide_eq_false g59 | (rw [decide_eq_true g59]; rfl) | (rw [decide_eq_false g59]; rfl) | simp [*]) rfl)
                    (.c (S.skip rfl rfl rfl (by first | rfl | exact decide_eq_true g59 | exact decide_eq_false g59 | (rw [decide_eq_true g59]; rfl) | (rw [decide_eq_false g59]; rfl) | simp [*]) rfl)
                    (.c (S.skip rfl rfl rfl (by first | rfl | exact decide_eq_true g59 | exact decide_eq_false g59 | (rw [decide_eq_true g59]; rfl) | (rw [decide_eq_false g59]; rfl) | simp [*]) rfl)
                    (.c (S.pickF (.yes rfl rfl rfl (by first | rfl | exact decide_eq_true g56 | exact decide_eq_false g56 | (rw [decide_eq_true g56]; rfl) | (rw [decide_eq_false g56]; rfl) | simp [*])) rfl (.tmp rfl rfl) .cbool (by first | rfl | exact decide_eq_true g59 | exact decide_eq_false g59 | (rw [decide_eq_true g59]; rfl) | (rw [decide_eq_false g59]; rfl) | simp [*]))
                    (.c (S.pickF .none rfl (.tmp rfl rfl) (.tmp rfl rfl) (by first | rfl | exact decide_eq_true g56 | exact decide_eq_false g56 | (rw [decide_eq_true g56]; rfl) | (rw [decide_eq_false g56]; rfl) | simp [*]))
                    .nil))))))))))))))))))))))))))))))) (by kernel_rfl) ?_
                  refine Ab.D.code ?_
                  refine OK.condF rfl rfl rfl ?_
                  refine OK.skip ?_
                  refine Ab.D.blk ?_
                  refine Ab.D.code ?_
                  refine OK.reg ?_
                  refine RK.c (S.move .none rfl (.tmp rfl rfl)) ?_
                  refine RK.c (S.add .none rfl (.tmp rfl rfl) (.cint rfl) (IntWalk.i64_in _ (by omega)) (IntWalk.i64_in _ (by omega))) ?_
                  refine RK.c (S.assign .none rfl (.tmp rfl rfl)) ?_
                  refine RK.nil ?_
                  refine Ab.D.lp ⟨i + 1, ⟨by omega, ?_⟩, (by omega), rfl, rfl, trivial⟩
                  have hbe : bathE l i l[i] = 0 := by unfold bathE; rw [if_neg (by omega), if_pos ⟨by omega, by first | (left; omega) | (right; rw [hgd]; omega)⟩]
                  rw [hg, eachGo_drop _ (by omega), if_neg (by omega)]
      ·
        refine OK.exit rfl ?_
        refine Ab.D.code ?_
        refine OK.seq ?_
        refine OK.reg ?_
        refine RK.c (S.assign .none rfl (.cint rfl)) ?_
        refine RK.nil ?_
        refine Ab.D.code ?_
        refine OK.ret (Ret.r1 (.tmp rfl rfl (.c (.same rfl) rfl) rfl) ?_)
        refine ret_i ?_
        rw [readE, if_neg (by omega), if_neg (by omega), hg, show i = l.length by omega, List.drop_length]
        rfl
end Go.Proofs.YtjamlnkjfkcdkaaGreatDoor
