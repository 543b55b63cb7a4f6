import Derived.Test.YtbnimikgjjjcaaaGreatDoorGs
import Derived.Test.YtbnimikgjjjcaaaGreatDoorKb
namespace Go.Proofs.YtbnimikgjjjcaaaGreatDoor
open Go.Ab
def w64 (n : Int) : Int := IntKind.i64.wrap n
theorem w64_w (n : Int) : IntKind.i64.wrap (w64 n) = w64 n := by unfold w64; rw [IntKind.wrap_i64, IntKind.wrap_i64]; omega
theorem w64_in {n : Int} (h : -9223372036854775808 ≤ n ∧ n ≤ 9223372036854775807) : w64 n = n := IntWalk.i64_in n h
def sumW (l : List Int) : Int := l.foldl (fun s n => w64 (s + n)) 0
def sqW (l : List Int) : Int := l.foldl (fun s n => w64 (s + w64 (n * n))) 0
def chartW (l : List Int) : Chart := ⟨l.length, sumW l, sqW l⟩
theorem sumW_take {l : List Int} {i : Nat} (h : i < l.length) : sumW (l.take (i + 1)) = w64 (sumW (l.take i) + l[i]) := by
  rw [sumW, List.take_succ_eq_append_getElem h, List.foldl_append]; rfl
theorem sqW_take {l : List Int} {i : Nat} (h : i < l.length) : sqW (l.take (i + 1)) = w64 (sqW (l.take i) + w64 (l[i] * l[i])) := by
  rw [sqW, List.take_succ_eq_append_getElem h, List.foldl_append]; rfl
def AllV (l : List Int) : Prop := ∀ n ∈ l, -10000 ≤ n ∧ n ≤ 10000
theorem chartW_at {l : List Int} (hv : AllV l) (hn : l.length ≤ 100) : ∀ i, i ≤ l.length → sumW (l.take i) = sumT (l.take i) ∧ sqW (l.take i) = sqT (l.take i)
  | 0, _ => ⟨rfl, rfl⟩
  | i + 1, h => by
    have hi : i < l.length := by omega
    obtain ⟨h1, h2⟩ := chartW_at hv hn i (by omega)
    have hb := sums_bd (l := l.take i) fun n hm => hv n (List.mem_of_mem_take hm)
    have hl : (l.take i).length ≤ i := List.length_take_le i l
    have hx := hv l[i] (List.getElem_mem hi)
    have hq := sq_bd hx
    refine ⟨?_, ?_⟩
    · rw [sumW_take hi, sum_take hi, h1, w64_in (by omega)]
    · rw [sqW_take hi, sq_take hi, h2, w64_in (n := l[i] * l[i]) (by omega), w64_in (by omega)]
theorem chartW_eq {l : List Int} (hv : AllV l) (hn : l.length ≤ 100) : chartW l = chartT l := by
  obtain ⟨h1, h2⟩ := chartW_at hv hn l.length (Nat.le_refl _)
  rw [List.take_length] at h1 h2
  rw [chartW, chartT, h1, h2]
theorem mul_abs {c v C V : Int} (hc : 0 ≤ c ∧ c ≤ C) (hv : -V ≤ v ∧ v ≤ V) : -(C * V) ≤ c * v ∧ c * v ≤ C * V := by
  have h0 : 0 ≤ V := by omega
  have h1 := Int.mul_le_mul_of_nonneg_left hv.2 hc.1
  have h2 := Int.mul_le_mul_of_nonneg_left hv.1 hc.1
  have h3 := Int.mul_le_mul_of_nonneg_right hc.2 h0
  rw [Int.mul_neg] at h2
  omega
theorem mul_sq {n A : Int} (h : -A ≤ n ∧ n ≤ A) : 0 ≤ n * n ∧ n * n ≤ A * A := by
  have h0 : 0 ≤ A := by omega
  by_cases hn : 0 ≤ n
  · exact ⟨Int.mul_nonneg hn hn, Int.mul_le_mul h.2 h.2 hn h0⟩
  · have h1 : 0 ≤ -n * -n := Int.mul_nonneg (by omega) (by omega)
    have h2 : -n * -n ≤ A * A := Int.mul_le_mul (by omega) (by omega) (by omega) h0
    rw [Int.neg_mul_neg] at h1 h2
    exact ⟨h1, h2⟩
def ChartB (c : Chart) : Prop := (1 ≤ c.count ∧ c.count ≤ 40) ∧ (-400000 ≤ c.sum ∧ c.sum ≤ 400000) ∧ (0 ≤ c.squares ∧ c.squares ≤ 4000000000)
theorem spread_bd {c : Chart} (h : ChartB c) : (0 ≤ c.count * c.squares ∧ c.count * c.squares ≤ 160000000000) ∧ (0 ≤ c.sum * c.sum ∧ c.sum * c.sum ≤ 160000000000) ∧ -160000000000 ≤ spreadT c ∧ spreadT c ≤ 160000000000 := by
  obtain ⟨h1, h2, h3⟩ := h
  have h4 := mul_abs (c := c.count) (v := c.squares) (C := 40) (V := 4000000000) ⟨by omega, h1.2⟩ ⟨by omega, h3.2⟩
  have h5 := mul_sq h2
  have h6 := Int.mul_nonneg (a := c.count) (b := c.squares) (by omega) h3.1
  unfold spreadT
  omega
theorem off_bd {c : Chart} (h : ChartB c) {v : Int} (hv : -10000 ≤ v ∧ v ≤ 10000) : (-400000 ≤ c.count * v ∧ c.count * v ≤ 400000) ∧ -800000 ≤ offT c v ∧ offT c v ≤ 800000 := by
  obtain ⟨h1, h2, h3⟩ := h
  have h4 := mul_abs (c := c.count) (v := v) (C := 40) (V := 10000) ⟨by omega, h1.2⟩ hv
  unfold offT
  omega
theorem vals_ok {l : List Int} (h : valsE l = 0) : 1 ≤ l.length ∧ l.length ≤ 40 ∧ AllV l := by
  unfold valsE at h
  split at h
  · cases h
  · split at h
    · cases h
    · split at h
      · rename_i h1 h2 h3
        refine ⟨by omega, by omega, fun n hn => ?_⟩
        have h4 := List.all_eq_true.1 h3 n hn
        unfold isVal9 at h4
        simpa using h4
      · cases h
theorem chart_bd {l : List Int} (h : valsE l = 0) : ChartB (chartT l) := by
  obtain ⟨h1, h2, h3⟩ := vals_ok h
  have h4 := sums_bd h3
  refine ⟨?_, ?_, ?_⟩
  · show 1 ≤ (l.length : Int) ∧ (l.length : Int) ≤ 40; omega
  · show -400000 ≤ sumT l ∧ sumT l ≤ 400000; omega
  · show 0 ≤ sqT l ∧ sqT l ≤ 4000000000; omega
theorem lim_ok {r : Range} (h : limE r = 0) : ((-10000 ≤ r.lo ∧ r.lo ≤ 10000) ∧ (-10000 ≤ r.hi ∧ r.hi ≤ 10000)) ∧ r.lo ≤ r.hi := by
  unfold limE at h
  split at h
  · cases h
  · rename_i h1
    split at h
    · rename_i h2; exact ⟨Decidable.not_not.1 h1, h2⟩
    · cases h
theorem gcd_pos {a b : Int} (ha : 0 ≤ a) (hb : 0 < b) : 0 < gcdT a b := by
  have h3 : 0 ≤ a.tmod b := Int.tmod_nonneg b ha
  have h4 : a.tmod b < b := Int.tmod_lt_of_pos a hb
  rw [gcdT_step ha (by omega) (by omega)]
  exact gcdT_pos _ b _ hb h3 (Nat.lt_succ_self _)
theorem tdiv_bd {a g : Int} (ha : 0 ≤ a) (hg : 0 < g) : 0 ≤ a.tdiv g ∧ a.tdiv g ≤ a := by
  rw [Int.tdiv_eq_ediv_of_nonneg ha]
  exact ⟨Int.ediv_nonneg ha (by omega), Int.ediv_le_self g ha⟩
def minI (a b : Int) : Int := if b < a then b else a
def capM (l : List Int) (r : Range) : Int := if 0 < minI (0 - offT (chartT l) r.lo) (offT (chartT l) r.hi) then minI (0 - offT (chartT l) r.lo) (offT (chartT l) r.hi) else 0
def capF (l : List Int) (r : Range) : Frac := ⟨(capM l r * capM l r).tdiv (gcdT (capM l r * capM l r) (9 * spreadT (chartT l))), (9 * spreadT (chartT l)).tdiv (gcdT (capM l r * capM l r) (9 * spreadT (chartT l)))⟩
def capE (l : List Int) (r : Range) : Int :=
  if valsE l ≠ 0 then valsE l else if limE r ≠ 0 then limE r else if ¬ 0 < spreadT (chartT l) then 11 else if 1000000000 < (capF l r).num ∨ 1000000000 < (capF l r).den then 8 else 0
def capT (l : List Int) (r : Range) : Frac := if capE l r = 0 then capF l r else ⟨0, 0⟩
theorem cap_bd {l : List Int} {r : Range} (hv : valsE l = 0) (hr : limE r = 0) : (0 ≤ capM l r ∧ capM l r ≤ 800000) ∧ 0 ≤ capM l r * capM l r ∧ capM l r * capM l r ≤ 640000000000 := by
  have h1 := off_bd (chart_bd hv) (lim_ok hr).1.1
  have h2 := off_bd (chart_bd hv) (lim_ok hr).1.2
  have h3 : 0 ≤ capM l r ∧ capM l r ≤ 800000 := by unfold capM minI; omega
  have h4 := mul_sq (n := capM l r) (A := 800000) (by omega)
  exact ⟨h3, by omega⟩
theorem bath_get {l : List Bath} (h : readE l = 0) : 2 ≤ l.length ∧ l.length ≤ 20 ∧ ∀ (i : Nat) (h : i < l.length), ((0 ≤ l[i].tick ∧ l[i].tick ≤ 100000) ∧ (-10000 ≤ l[i].value.lo ∧ l[i].value.lo ≤ 10000) ∧ (-10000 ≤ l[i].value.hi ∧ l[i].value.hi ≤ 10000)) ∧ l[i].value.lo ≤ l[i].value.hi ∧ (i = 0 ∨ (l.getD (i - 1) ⟨0, ⟨0, 0⟩⟩).tick < l[i].tick) := by
  unfold readE at h
  split at h
  · cases h
  · split at h
    · cases h
    · rename_i h1 h2
      refine ⟨by omega, by omega, ?_⟩
      have key : ∀ (m : List Bath) (k : Nat), (eachGo (bathE l) k m).2 = 0 → ∀ (i : Nat) (hi : i < m.length), bathE l (k + i) m[i] = 0 := by
        intro m
        induction m with
        | nil => intro k _ i hi; simp at hi
        | cons x m ih =>
          intro k hk i hi
          rw [eachGo] at hk
          split at hk
          · contradiction
          · rename_i h3
            cases i with
            | zero => simpa using h3
            | succ i => have := ih (k + 1) hk i (by simpa using hi); simpa [Nat.add_comm, Nat.add_left_comm] using this
      intro i hi
      have h3 := key l 0 h i hi
      rw [Nat.zero_add] at h3
      unfold bathE at h3
      split at h3
      · cases h3
      · rename_i h4
        split at h3
        · rename_i h5; exact ⟨Decidable.not_not.1 h4, h5⟩
        · cases h3
def minL : List Int → Int
  | [] => 0
  | x :: l => l.foldl minI x
theorem minL_take {l : List Int} {i : Nat} (h0 : 0 < i) (h : i < l.length) : minL (l.take (i + 1)) = minI (minL (l.take i)) l[i] := by
  rw [List.take_succ_eq_append_getElem h]
  match l, i, h0, h with
  | x :: l, i + 1, _, _ => simp only [List.take_succ_cons, List.cons_append, minL, List.foldl_append]; rfl
def nextLow (l : List Bath) : Bath := l.getD (l.length - 2) ⟨0, ⟨0, 0⟩⟩
def nextTop (l : List Bath) : Bath := l.getD (l.length - 1) ⟨0, ⟨0, 0⟩⟩
def nextTicks (a b : Bath) (r : Range) : List Int :=
  (if 0 < a.value.lo - b.value.lo then [leaveT b.tick (b.value.lo - r.lo) (a.value.lo - b.value.lo) (b.tick - a.tick)] else []) ++
  (if 0 < b.value.hi - a.value.hi then [leaveT b.tick (r.hi - b.value.hi) (b.value.hi - a.value.hi) (b.tick - a.tick)] else [])
def nextE (l : List Bath) (r : Range) : Int :=
  if readE l ≠ 0 then readE l else if limE r ≠ 0 then limE r else
  if (nextTop l).value.lo - r.lo < 0 ∨ r.hi - (nextTop l).value.hi < 0 then 22 else if (nextTicks (nextLow l) (nextTop l) r).length = 0 then 12 else 0
def nextT (l : List Bath) (r : Range) : Int := if nextE l r = 0 then minL (nextTicks (nextLow l) (nextTop l) r) else 0
theorem leave_bd {above falls ticks : Int} (ha : 0 ≤ above ∧ above ≤ 20000) (hf : 0 < falls) (ht : 0 ≤ ticks ∧ ticks ≤ 100000) : (0 ≤ above * ticks ∧ above * ticks ≤ 2000000000) ∧ 0 ≤ (above * ticks).tdiv falls ∧ (above * ticks).tdiv falls ≤ 2000000000 := by
  have h1 := mul_abs (c := above) (v := ticks) (C := 20000) (V := 100000) ha ⟨by omega, ht.2⟩
  have h2 := Int.mul_nonneg ha.1 ht.1
  have h3 := tdiv_bd h2 hf
  omega
theorem shp_learned {l : List Int} : Ct Tryz.prog 51 [ints l] (.agg (chartW l).cs) := by
 refine Ct.intro (rs := [.cell 2 112]) Tryz.func51 rfl Tryz.ntmps51 Tryz.results51 rfl rfl rfl fun w h => ?_
 refine OK.slLen (rows := l.map (fun n => [.int .i64 n])) (t := 0) rfl rfl fun hlen => ?_
 rw [List.length_map] at hlen
 unfold maxLen at hlen
 refine OK.seq (OK.reg ?_)
 refine RK.c (S.alloc (k := 2) ze112 rfl .none rfl) ?_
 refine RK.nil (Ab.D.code (OK.seq (OK.reg ?_)))
 refine RK.c (S.move .none rfl (.tmp rfl rfl)) ?_
 refine RK.c (S.lenM si26 .none rfl (.tmp rfl rfl)) ?_
 refine RK.c (S.build bu110 rfl .none rfl (.cons (.tmp rfl rfl) .nil) rfl rfl) ?_
 refine RK.c (S.build bu112 rfl .none rfl (.cons (.tmp rfl rfl) .nil) rfl rfl) ?_
 refine RK.c (S.alloc (k := 3) ze112 rfl .none rfl) ?_
 refine RK.c (S.store ti112 .none (.tmp rfl rfl) (.tmp rfl rfl) rfl rfl rfl rfl rfl rfl) ?_
 refine RK.nil (Ab.D.code (OK.seq (OK.seq (OK.reg ?_))))
 refine RK.c (S.move .none rfl (.tmp rfl rfl)) ?_
 refine RK.c (S.lenM si26 .none rfl (.tmp rfl rfl)) ?_
 refine RK.c (S.move .none rfl (.cint rfl)) ?_
 refine RK.nil (Ab.D.code ?_)
 refine OK.block ?_
 refine OK.loop (G := Nat) [2, 3] (fun i => [(2, .ptr 2 0), (1002, .box [.int .i64 0, .int .i64 0, .int .i64 0]), (3, .ptr 3 0), (1003, .box [.int .i64 l.length, .int .i64 (sumW (l.take i)), .int .i64 (sqW (l.take i))]), (10, ints l), (11, .int .i64 l.length), (12, .int .i64 i)]) (fun i => i ≤ l.length) (fun i => l.length - i) 0 (Nat.zero_le _) ⟨rfl, rfl, rfl, rfl, rfl, rfl, rfl, trivial⟩ (fun _ => rfl) ?_
 rintro i hi
 refine OK.seq (OK.reg ?_)
 refine RK.c (S.lss .none rfl (.tmp rfl rfl) (.tmp rfl rfl)) ?_
 refine RK.nil (Ab.D.code ?_)
 refine OK.seq ?_
 refine OK.condD rfl rfl (fun c13 => ?_) (fun c13 => ?_)
 ·
  refine OK.skip ?_
  refine Ab.D.code ?_
  refine OK.seq ?_
  refine OK.block ?_
  refine OK.seq (OK.reg ?_)
  refine RK.c (S.indexM si26 .none rfl (.tmp rfl rfl) (.tmp rfl rfl) rfl (by omega) rfl) ?_
  refine RK.c (S.load1 ti3 .none rfl (.tmp rfl rfl) rfl) ?_
  refine RK.c (S.assign .none rfl (.tmp rfl rfl)) ?_
  refine RK.nil (Ab.D.code (OK.seq (OK.reg ?_)))
  refine RK.c (S.bfield fi112_0 .none rfl (.tmp rfl rfl)) ?_
  refine RK.c (S.bfield fi110_1 .none rfl (.tmp rfl rfl)) ?_
  refine RK.c (S.bload1 ti3 .none rfl (.tmp rfl rfl) rfl rfl rfl rfl) ?_
  refine RK.c (S.move .none rfl (.tmp rfl rfl)) ?_
  refine RK.c (S.add (q := w64 (sumW (l.take i) + l[i])) .none rfl (.tmp rfl rfl) (.tmp rfl rfl) rfl (w64_w _)) ?_
  refine RK.c (S.bfield fi112_0 .none rfl (.tmp rfl rfl)) ?_
  refine RK.c (S.bfield fi110_1 .none rfl (.tmp rfl rfl)) ?_
  refine RK.c (S.store ti3 .none (.tmp rfl rfl) (.tmp rfl rfl) rfl rfl rfl rfl rfl rfl) ?_
  refine RK.nil (Ab.D.code (OK.reg ?_))
  refine RK.c (S.bfield fi112_0 .none rfl (.tmp rfl rfl)) ?_
  refine RK.c (S.bfield fi110_2 .none rfl (.tmp rfl rfl)) ?_
  refine RK.c (S.bload1 ti3 .none rfl (.tmp rfl rfl) rfl rfl rfl rfl) ?_
  refine RK.c (S.move .none rfl (.tmp rfl rfl)) ?_
  refine RK.c (S.move .none rfl (.tmp rfl rfl)) ?_
  refine RK.c (S.mul (q := w64 (l[i] * l[i])) .none rfl (.tmp rfl rfl) (.tmp rfl rfl) rfl (w64_w _)) ?_
  refine RK.c (S.add (q := w64 (sqW (l.take i) + w64 (l[i] * l[i]))) .none rfl (.tmp rfl rfl) (.tmp rfl rfl) rfl (w64_w _)) ?_
  refine RK.c (S.bfield fi112_0 .none rfl (.tmp rfl rfl)) ?_
  refine RK.c (S.bfield fi110_2 .none rfl (.tmp rfl rfl)) ?_
  refine RK.c (S.store ti3 .none (.tmp rfl rfl) (.tmp rfl rfl) rfl rfl rfl rfl rfl rfl) ?_
  refine RK.nil ?_
  refine Ab.D.blk ?_
  refine Ab.D.code (OK.reg ?_)
  refine RK.c (S.add .none rfl (.tmp rfl rfl) (.cint rfl) (IntWalk.i64_in _ (by omega)) (IntWalk.i64_in _ (by omega))) ?_
  refine RK.c (S.move .none rfl (.tmp rfl rfl)) ?_
  refine RK.nil ?_
  refine Ab.D.lp ⟨i + 1, (by omega), (by omega), rfl, rfl, rfl, (show _ = some (X.box [.int .i64 l.length, .int .i64 (sumW (l.take (i + 1))), .int .i64 (sqW (l.take (i + 1)))]) by rw [sumW_take (by omega), sqW_take (by omega)]; rfl), rfl, rfl, rfl, trivial⟩
 ·
  refine OK.exit rfl ?_
  refine Ab.D.code (OK.seq (OK.reg ?_))
  refine RK.c (S.bloadN ti112 .none rfl (.tmp rfl rfl) rfl rfl rfl rfl) ?_
  refine RK.c (S.store ti112 .none (.tmp rfl rfl) (.tmp rfl rfl) rfl rfl rfl rfl rfl rfl) ?_
  refine RK.nil (Ab.D.code ?_)
  refine OK.ret (Ret.r1 (.cellN rfl rfl rfl rfl ti112 rfl (.k (.same rfl) (.k (.same rfl) (.k (.same rfl) .z)))) ?_)
  rw [show i = l.length by omega, List.take_length]
  rfl
theorem shp_spread {c : Chart} (hB : ChartB c) : Ct Tryz.prog 52 [.agg c.cs] (.int .i64 (spreadT c)) := by
 refine Ct.intro (rs := [.tmp 2]) Tryz.func52 rfl Tryz.ntmps52 Tryz.results52 rfl rfl rfl fun w h => ?_
 have hb := spread_bd hB
 refine OK.seq (OK.reg ?_)
 refine RK.c (S.box (k := 1) rfl .none rfl (.tmp rfl rfl) rfl) ?_
 refine RK.c (S.assign .none rfl (.cint rfl)) ?_
 refine RK.nil (Ab.D.code (OK.seq (OK.reg ?_)))
 refine RK.c (S.bfield fi112_0 .none rfl (.tmp rfl rfl)) ?_
 refine RK.c (S.bfield fi110_0 .none rfl (.tmp rfl rfl)) ?_
 refine RK.c (S.bload1 ti3 .none rfl (.tmp rfl rfl) rfl rfl rfl rfl) ?_
 refine RK.c (S.bfield fi112_0 .none rfl (.tmp rfl rfl)) ?_
 refine RK.c (S.bfield fi110_2 .none rfl (.tmp rfl rfl)) ?_
 refine RK.c (S.bload1 ti3 .none rfl (.tmp rfl rfl) rfl rfl rfl rfl) ?_
 refine RK.c (S.mul .none rfl (.tmp rfl rfl) (.tmp rfl rfl) (IntWalk.i64_in _ (by omega)) (IntWalk.i64_in _ (by omega))) ?_
 refine RK.c (S.bfield fi112_0 .none rfl (.tmp rfl rfl)) ?_
 refine RK.c (S.bfield fi110_1 .none rfl (.tmp rfl rfl)) ?_
 refine RK.c (S.bload1 ti3 .none rfl (.tmp rfl rfl) rfl rfl rfl rfl) ?_
 refine RK.c (S.bfield fi112_0 .none rfl (.tmp rfl rfl)) ?_
 refine RK.c (S.bfield fi110_1 .none rfl (.tmp rfl rfl)) ?_
 refine RK.c (S.bload1 ti3 .none rfl (.tmp rfl rfl) rfl rfl rfl rfl) ?_
 refine RK.c (S.mul .none rfl (.tmp rfl rfl) (.tmp rfl rfl) (IntWalk.i64_in _ (by omega)) (IntWalk.i64_in _ (by omega))) ?_
 refine RK.c (S.sub .none rfl (.tmp rfl rfl) (.tmp rfl rfl) (IntWalk.i64_in _ (by unfold spreadT at hb; omega)) (IntWalk.i64_in _ (by unfold spreadT at hb; omega))) ?_
 refine RK.c (S.assign .none rfl (.tmp rfl rfl)) ?_
 refine RK.nil (Ab.D.code ?_)
 refine OK.ret (Ret.r1 (.tmp rfl rfl (.c (.same rfl) rfl) rfl) ?_)
 rfl
theorem shp_off {c : Chart} {v : Int} (hB : ChartB c) (hv : -10000 ≤ v ∧ v ≤ 10000) : Ct Tryz.prog 53 [.agg c.cs, .int .i64 v] (.int .i64 (offT c v)) := by
 refine Ct.intro (rs := [.tmp 4]) Tryz.func53 rfl Tryz.ntmps53 Tryz.results53 rfl rfl rfl fun w h => ?_
 have hb := off_bd hB hv
 refine OK.seq (OK.reg ?_)
 refine RK.c (S.box (k := 2) rfl .none rfl (.tmp rfl rfl) rfl) ?_
 refine RK.c (S.assign .none rfl (.cint rfl)) ?_
 refine RK.nil (Ab.D.code (OK.seq (OK.reg ?_)))
 refine RK.c (S.bfield fi112_0 .none rfl (.tmp rfl rfl)) ?_
 refine RK.c (S.bfield fi110_0 .none rfl (.tmp rfl rfl)) ?_
 refine RK.c (S.bload1 ti3 .none rfl (.tmp rfl rfl) rfl rfl rfl rfl) ?_
 refine RK.c (S.move .none rfl (.tmp rfl rfl)) ?_
 refine RK.c (S.mul .none rfl (.tmp rfl rfl) (.tmp rfl rfl) (IntWalk.i64_in _ (by omega)) (IntWalk.i64_in _ (by omega))) ?_
 refine RK.c (S.bfield fi112_0 .none rfl (.tmp rfl rfl)) ?_
 refine RK.c (S.bfield fi110_1 .none rfl (.tmp rfl rfl)) ?_
 refine RK.c (S.bload1 ti3 .none rfl (.tmp rfl rfl) rfl rfl rfl rfl) ?_
 refine RK.c (S.sub .none rfl (.tmp rfl rfl) (.tmp rfl rfl) (IntWalk.i64_in _ (by unfold offT at hb; omega)) (IntWalk.i64_in _ (by unfold offT at hb; omega))) ?_
 refine RK.c (S.assign .none rfl (.tmp rfl rfl)) ?_
 refine RK.nil (Ab.D.code ?_)
 refine OK.ret (Ret.r1 (.tmp rfl rfl (.c (.same rfl) rfl) rfl) ?_)
 rfl
theorem shp_CapabilityOf {l : List Int} {r : Range} : Ct Tryz.prog 22 [ints l, .agg r.cs] (.tup [.agg (capT l r).cs, .int .i64 (capE l r)]) := by
  refine Ct.intro (rs := [.cell 4 58, .tmp 5]) Tryz.func22 rfl Tryz.ntmps22 Tryz.results22 rfl rfl rfl fun w h => ?_
  refine OK.seq (OK.reg ?_)
  refine RK.c (S.box (k := 3) rfl .none rfl (.tmp rfl rfl) rfl) ?_
  refine RK.c (S.alloc (k := 4) ze58 rfl .none rfl) ?_
  refine RK.c (S.assign .none rfl (.cint rfl)) ?_
  refine RK.nil (Ab.D.code ?_)
  refine OK.seq ?_
  refine OK.regionDraw follows (.c (S.move .none rfl (.tmp rfl rfl))
    (.c (S.call (shp_valuesErr) Tryz.call49 .none rfl (.cons (.tmp rfl rfl) .nil) rfl)
    (.c (S.bloadN ti62 .none rfl (.tmp rfl rfl) rfl rfl rfl rfl)
    (.c (S.call (shp_limitsErr) Tryz.call50 .none rfl (.cons (.tmp rfl rfl) .nil) rfl)
    (.c (S.mkSlice (k := 17) (rows := [[_], [_]]) ai130 .none rfl (.cons (.tmp rfl rfl) (.cons (.tmp rfl rfl) .nil)) rfl rfl rfl rfl rfl rfl rfl)
    (.c (S.callL (shop_first (l := [_, _])) Tryz.call36 .none rfl (.cons (.tmp rfl rfl) .nil) (.cons (.p (.own rfl rfl) rfl) .nil) rfl)
    (.c (S.assign .none rfl (.tmp rfl rfl))
    .nil))))))) (by kernel_rfl) ?_
  refine Ab.D.code (OK.seq (OK.reg ?_))
  refine RK.c (S.move .none rfl (.tmp rfl rfl)) ?_
  refine RK.c (S.call (shp_learned) Tryz.call51 .none rfl (.cons (.tmp rfl rfl) .nil) rfl) ?_
  refine RK.c (S.alloc (k := 7) ze112 rfl .none rfl) ?_
  refine RK.c (S.store ti112 .none (.tmp rfl rfl) (.tmp rfl rfl) rfl rfl rfl rfl rfl rfl) ?_
  refine RK.nil (Ab.D.code (OK.seq (OK.seq (OK.reg ?_))))
  refine RK.c (S.move .none rfl (.tmp rfl rfl)) ?_
  refine RK.c (S.eql .none rfl (.tmp rfl rfl) (.cint rfl)) ?_
  refine RK.nil (Ab.D.code ?_)
  refine OK.condD rfl rfl (fun c22 => ?_) (fun c22 => ?_)
  ·
    rw [firstE2] at c22
    have hv : valsE l = 0 := by split at c22 <;> omega
    have hr : limE r = 0 := by rw [if_neg (by omega)] at c22; exact c22
    have hcb := chart_bd hv
    have hlr := lim_ok hr
    have hsb := spread_bd hcb
    obtain ⟨hm1, hm2⟩ := cap_bd hv hr
    have hww : chartW l = chartT l := by obtain ⟨q1, q2, q3⟩ := vals_ok hv; exact chartW_eq q3 (by omega)
    rw [hww]
    refine OK.reg ?_
    refine RK.c (S.bloadN ti112 .none rfl (.tmp rfl rfl) rfl rfl rfl rfl) ?_
    refine RK.c (S.call (shp_spread hcb) Tryz.call52 .none rfl (.cons (.tmp rfl rfl) .nil) rfl) ?_
    refine RK.c (S.gtr .none rfl (.tmp rfl rfl) (.cint rfl)) ?_
    refine RK.c (S.call (shop_unless) Tryz.call40 .none rfl (.cons (.tmp rfl rfl) (.cons (.cint rfl) .nil)) rfl) ?_
    refine RK.c (S.assign .none rfl (.tmp rfl rfl)) ?_
    refine RK.nil (Ab.D.code (OK.seq (OK.seq (OK.reg ?_))))
    refine RK.c (S.move .none rfl (.tmp rfl rfl)) ?_
    refine RK.c (S.neq .none rfl (.tmp rfl rfl) (.cint rfl)) ?_
    refine RK.nil (Ab.D.code ?_)
    refine OK.condD rfl rfl (fun c28 => ?_) (fun c28 => ?_)
    ·
      refine OK.seq (OK.reg ?_)
      refine RK.c (S.build bu58 rfl .none rfl .nil rfl rfl) ?_
      refine RK.c (S.move .none rfl (.tmp rfl rfl)) ?_
      refine RK.c (S.store ti58 .none (.tmp rfl rfl) (.tmp rfl rfl) rfl rfl rfl rfl rfl rfl) ?_
      refine RK.c (S.assign .none rfl (.tmp rfl rfl)) ?_
      refine RK.nil (Ab.D.code ?_)
      refine OK.ret (Ret.r2 (.cellN rfl rfl rfl rfl ti58 rfl (.k (.same rfl) (.k (.same rfl) .z))) (.tmp rfl rfl (.c (.same rfl) rfl) rfl) ?_)
      have hns : ¬ 0 < spreadT (chartT l) := fun q => c28 (by rw [decide_eq_true q]; rfl)
      have he : capE l r = 11 := by unfold capE; rw [if_neg (by omega), if_neg (by omega), if_pos hns]
      rw [capT, if_neg (by omega), he, decide_eq_false hns]
      rfl
    ·
      have hsp : 0 < spreadT (chartT l) := Decidable.byContradiction fun q => c28 (by rw [decide_eq_false q]; decide)
      have hgp := gcd_pos (a := capM l r * capM l r) (b := 9 * spreadT (chartT l)) hm2.1 (by omega)
      have hd1 := tdiv_bd hm2.1 hgp
      have hd2 := tdiv_bd (a := 9 * spreadT (chartT l)) (by omega) hgp
      have ho1 := off_bd hcb hlr.1.1
      have ho2 := off_bd hcb hlr.1.2
      refine OK.skip ?_
      refine Ab.D.code ?_
      refine OK.seq ?_
      refine OK.regionDraw follows (.c (S.bloadN ti112 .none rfl (.tmp rfl rfl) rfl rfl rfl rfl)
        (.c (S.bfield fi62_0 .none rfl (.tmp rfl rfl))
        (.c (S.bload1 ti3 .none rfl (.tmp rfl rfl) rfl rfl rfl rfl)
        (.c (S.call (shp_off hcb hlr.1.1) Tryz.call53 .none rfl (.cons (.tmp rfl rfl) (.cons (.tmp rfl rfl) .nil)) rfl)
        (.c (S.neg .none rfl (.tmp rfl rfl) (IntWalk.i64_in _ (by omega)) (IntWalk.i64_in _ (by omega)))
        (.c (S.bloadN ti112 .none rfl (.tmp rfl rfl) rfl rfl rfl rfl)
        (.c (S.bfield fi62_1 .none rfl (.tmp rfl rfl))
        (.c (S.bload1 ti3 .none rfl (.tmp rfl rfl) rfl rfl rfl rfl)
        (.c (S.call (shp_off hcb hlr.1.2) Tryz.call53 .none rfl (.cons (.tmp rfl rfl) (.cons (.tmp rfl rfl) .nil)) rfl)
        (.c (S.min2 .none rfl (.tmp rfl rfl) (.tmp rfl rfl))
        (.c (S.max2 .none rfl (.cint rfl) (.tmp rfl rfl))
        (.c (S.assign .none rfl (.tmp rfl rfl))
        .nil)))))))))))) (by kernel_rfl) ?_
      refine Ab.D.code (OK.seq (OK.reg ?_))
      refine RK.c (S.move .none rfl (.tmp rfl rfl)) ?_
      refine RK.c (S.move .none rfl (.tmp rfl rfl)) ?_
      refine RK.c (S.mul (q := capM l r * capM l r) .none rfl (.tmp rfl rfl) (.tmp rfl rfl) (IntWalk.i64_in (capM l r * capM l r) (by omega)) (IntWalk.i64_in _ (by omega))) ?_
      refine RK.c (S.bloadN ti112 .none rfl (.tmp rfl rfl) rfl rfl rfl rfl) ?_
      refine RK.c (S.call (shp_spread hcb) Tryz.call52 .none rfl (.cons (.tmp rfl rfl) .nil) rfl) ?_
      refine RK.c (S.mul .none rfl (.cint rfl) (.tmp rfl rfl) (IntWalk.i64_in _ (by omega)) (IntWalk.i64_in _ (by omega))) ?_
      refine RK.c (S.assign .none rfl (.tmp rfl rfl)) ?_
      refine RK.c (S.assign .none rfl (.tmp rfl rfl)) ?_
      refine RK.nil (Ab.D.code (OK.seq (OK.reg ?_)))
      refine RK.c (S.move .none rfl (.tmp rfl rfl)) ?_
      refine RK.c (S.move .none rfl (.tmp rfl rfl)) ?_
      refine RK.c (S.call (shp_divisor (a := capM l r * capM l r) (b := 9 * spreadT (chartT l)) (by omega) (by omega)) Tryz.call54 .none rfl (.cons (.tmp rfl rfl) (.cons (.tmp rfl rfl) .nil)) rfl) ?_
      refine RK.c (S.assign .none rfl (.tmp rfl rfl)) ?_
      refine RK.nil (Ab.D.code ?_)
      refine OK.seq ?_
      refine OK.regionDraw follows (.c (S.move .none rfl (.tmp rfl rfl))
        (.c (S.move .none rfl (.tmp rfl rfl))
        (.c (S.quo (q := (capF l r).num) .none rfl (.tmp rfl rfl) (.tmp rfl rfl) (by omega) (IntWalk.i64_in _ (by show _ ≤ (capM l r * capM l r).tdiv _ ∧ _; omega)) (IntWalk.i64_in _ (by show _ ≤ (capM l r * capM l r).tdiv _ ∧ (capM l r * capM l r).tdiv _ ≤ _; omega)))
        (.c (S.move .none rfl (.tmp rfl rfl))
        (.c (S.move .none rfl (.tmp rfl rfl))
        (.c (S.quo (q := (capF l r).den) .none rfl (.tmp rfl rfl) (.tmp rfl rfl) (by omega) (IntWalk.i64_in _ (by omega)) (IntWalk.i64_in _ (by show _ ≤ (9 * spreadT (chartT l)).tdiv _ ∧ (9 * spreadT (chartT l)).tdiv _ ≤ _; omega)))
        (.c (S.build bu58 rfl .none rfl (.cons (.tmp rfl rfl) (.cons (.tmp rfl rfl) .nil)) rfl rfl)
        (.c (S.alloc (k := 12) ze58 rfl .none rfl)
        (.c (S.store ti58 .none (.tmp rfl rfl) (.tmp rfl rfl) rfl rfl rfl rfl rfl rfl)
        .nil))))))))) (by kernel_rfl) ?_
      refine Ab.D.code (OK.seq (OK.seq (OK.reg ?_)))
      refine RK.c (S.bfield fi58_0 .none rfl (.tmp rfl rfl)) ?_
      refine RK.c (S.bload1 ti3 .none rfl (.tmp rfl rfl) rfl rfl rfl rfl) ?_
      refine RK.c (S.gtr .none rfl (.tmp rfl rfl) (.cint rfl)) ?_
      refine RK.c (S.move .none rfl (.tmp rfl rfl)) ?_
      refine RK.splitD (t := 61) rfl (fun g61 => ?_) (fun g61 => ?_)
      ·
        refine RK.c (S.skip rfl rfl rfl rfl rfl) ?_
        refine RK.c (S.skip rfl rfl rfl rfl rfl) ?_
        refine RK.c (S.skip rfl rfl rfl rfl rfl) ?_
        refine RK.c (S.pickT .none rfl (.tmp rfl rfl) .cbool rfl) ?_
        refine RK.nil (Ab.D.code ?_)
        refine OK.condT rfl rfl rfl ?_
        refine OK.seq (OK.reg ?_)
        refine RK.c (S.build bu58 rfl .none rfl .nil rfl rfl) ?_
        refine RK.c (S.store ti58 .none (.tmp rfl rfl) (.tmp rfl rfl) rfl rfl rfl rfl rfl rfl) ?_
        refine RK.c (S.assign .none rfl (.cint rfl)) ?_
        refine RK.nil (Ab.D.code ?_)
        refine OK.ret (Ret.r2 (.cellN rfl rfl rfl rfl ti58 rfl (.k (.same rfl) (.k (.same rfl) .z))) (.tmp rfl rfl (.c (.same rfl) rfl) rfl) ?_)
        have he : capE l r = 8 := by unfold capE; rw [if_neg (by omega), if_neg (by omega), if_neg (by omega), if_pos (.inl (by omega))]
        rw [capT, if_neg (by omega), he]
        rfl
      ·
        refine RK.c (S.bfield fi58_1 (.yes rfl rfl rfl rfl) rfl (.tmp rfl rfl)) ?_
        refine RK.c (S.bload1 ti3 (.yes rfl rfl rfl rfl) rfl (.tmp rfl rfl) rfl rfl rfl rfl) ?_
        refine RK.c (S.gtr (.yes rfl rfl rfl rfl) rfl (.tmp rfl rfl) (.cint rfl)) ?_
        refine RK.c (S.pickF .none rfl (.tmp rfl rfl) (.tmp rfl rfl) rfl) ?_
        refine RK.nil (Ab.D.code ?_)
        refine OK.condD rfl rfl (fun c65 => ?_) (fun c65 => ?_)
        ·
          refine OK.seq (OK.reg ?_)
          refine RK.c (S.build bu58 rfl .none rfl .nil rfl rfl) ?_
          refine RK.c (S.store ti58 .none (.tmp rfl rfl) (.tmp rfl rfl) rfl rfl rfl rfl rfl rfl) ?_
          refine RK.c (S.assign .none rfl (.cint rfl)) ?_
          refine RK.nil (Ab.D.code ?_)
          refine OK.ret (Ret.r2 (.cellN rfl rfl rfl rfl ti58 rfl (.k (.same rfl) (.k (.same rfl) .z))) (.tmp rfl rfl (.c (.same rfl) rfl) rfl) ?_)
          have he : capE l r = 8 := by unfold capE; rw [if_neg (by omega), if_neg (by omega), if_neg (by omega), if_pos (.inr (by omega))]
          rw [capT, if_neg (by omega), he]
          rfl
        ·
          refine OK.skip ?_
          refine Ab.D.code (OK.seq (OK.reg ?_))
          refine RK.c (S.bloadN ti58 .none rfl (.tmp rfl rfl) rfl rfl rfl rfl) ?_
          refine RK.c (S.store ti58 .none (.tmp rfl rfl) (.tmp rfl rfl) rfl rfl rfl rfl rfl rfl) ?_
          refine RK.c (S.assign .none rfl (.cint rfl)) ?_
          refine RK.nil (Ab.D.code ?_)
          refine OK.ret (Ret.r2 (.cellN rfl rfl rfl rfl ti58 rfl (.k (.same rfl) (.k (.same rfl) .z))) (.tmp rfl rfl (.c (.same rfl) rfl) rfl) ?_)
          have he : capE l r = 0 := by unfold capE; rw [if_neg (by omega), if_neg (by omega), if_neg (by omega), if_neg (by omega)]
          rw [capT, if_pos he, he]
          rfl
  ·
    refine OK.skip ?_
    refine Ab.D.code (OK.seq (OK.seq (OK.reg ?_)))
    refine RK.c (S.move .none rfl (.tmp rfl rfl)) ?_
    refine RK.c (S.neq .none rfl (.tmp rfl rfl) (.cint rfl)) ?_
    refine RK.nil (Ab.D.code ?_)
    refine OK.condD rfl rfl (fun c28 => ?_) (fun c28 => ?_)
    ·
      refine OK.seq (OK.reg ?_)
      refine RK.c (S.build bu58 rfl .none rfl .nil rfl rfl) ?_
      refine RK.c (S.move .none rfl (.tmp rfl rfl)) ?_
      refine RK.c (S.store ti58 .none (.tmp rfl rfl) (.tmp rfl rfl) rfl rfl rfl rfl rfl rfl) ?_
      refine RK.c (S.assign .none rfl (.tmp rfl rfl)) ?_
      refine RK.nil (Ab.D.code ?_)
      refine OK.ret (Ret.r2 (.cellN rfl rfl rfl rfl ti58 rfl (.k (.same rfl) (.k (.same rfl) .z))) (.tmp rfl rfl (.c (.same rfl) rfl) rfl) ?_)
      have he : capE l r = firstE [valsE l, limE r] := by
        rw [firstE2] at c22 ⊢
        unfold capE
        by_cases q : valsE l ≠ 0
        · rw [if_pos q, if_pos q]
        · rw [if_neg q] at c22
          rw [if_neg q, if_neg q, if_pos c22]
      rw [capT, if_neg (by rw [he]; exact c22), he]
      rfl
    ·
      exact absurd (Decidable.not_not.1 c28) c22
set_option maxHeartbeats 1000000 in
theorem shp_readingsErr {l : List Bath} : Ct Tryz.prog 55 [.sl (l.map Bath.cs)] (.int .i64 (readE l)) := by
 refine Ct.intro (rs := [.tmp 2]) Tryz.func55 rfl Tryz.ntmps55 Tryz.results55 rfl rfl rfl fun w h => ?_
 refine OK.slLen (rows := l.map Bath.cs) (t := 0) rfl rfl fun hlen => ?_
 rw [List.length_map] at hlen
 unfold maxLen at hlen
 refine OK.seq (OK.reg ?_)
 refine RK.c (S.assign .none rfl (.cint rfl)) ?_
 refine RK.nil (Ab.D.code (OK.seq (OK.seq (OK.reg ?_))))
 refine RK.c (S.move .none rfl (.tmp rfl rfl)) ?_
 refine RK.c (S.lenM si66 .none rfl (.tmp rfl rfl)) ?_
 refine RK.c (S.gtr .none rfl (.tmp rfl rfl) (.cint rfl)) ?_
 refine RK.c (S.call (shop_unless) Tryz.call40 .none rfl (.cons (.tmp rfl rfl) (.cons (.cint rfl) .nil)) rfl) ?_
 refine RK.c (S.move .none rfl (.tmp rfl rfl)) ?_
 refine RK.c (S.lenM si66 .none rfl (.tmp rfl rfl)) ?_
 refine RK.c (S.leq .none rfl (.tmp rfl rfl) (.cint rfl)) ?_
 refine RK.c (S.call (shop_unless) Tryz.call40 .none rfl (.cons (.tmp rfl rfl) (.cons (.cint rfl) .nil)) rfl) ?_
 refine RK.c (S.mkSlice (k := 16) (rows := [[_], [_]]) ai130 .none rfl (.cons (.tmp rfl rfl) (.cons (.tmp rfl rfl) .nil)) rfl rfl rfl rfl rfl rfl rfl) ?_
 refine RK.c (S.callL (shop_first (l := [_, _])) Tryz.call36 .none rfl (.cons (.tmp rfl rfl) .nil) (.cons (.p (.own rfl rfl) rfl) .nil) rfl) ?_
 refine RK.c (S.assign .none rfl (.tmp rfl rfl)) ?_
 refine RK.nil (Ab.D.code (OK.seq (OK.reg ?_)))
 refine RK.c (S.move .none rfl (.tmp rfl rfl)) ?_
 refine RK.c (S.neq .none rfl (.tmp rfl rfl) (.cint rfl)) ?_
 refine RK.nil (Ab.D.code ?_)
 refine OK.condD rfl rfl (fun c19 => ?_) (fun c19 => ?_)
 ·
  refine OK.seq (OK.reg ?_)
  refine RK.c (S.move .none rfl (.tmp rfl rfl)) ?_
  refine RK.c (S.assign .none rfl (.tmp rfl rfl)) ?_
  refine RK.nil (Ab.D.code ?_)
  refine OK.ret (Ret.r1 (.tmp rfl rfl (.c (.same rfl) rfl) rfl) ?_)
  refine ret_i ?_
  rw [firstE2] at c19 ⊢
  simp only [unlessE, decide_eq_true_eq, readE] at *
  repeat' split at c19
  all_goals (repeat' split)
  all_goals (first | rfl | omega | contradiction)
 ·
  rw [firstE2] at c19
  have hl2 : 2 ≤ l.length ∧ l.length ≤ 20 := by
   unfold unlessE at c19
   simp only [decide_eq_true_eq, ne_eq, Decidable.not_not] at c19
   repeat' split at c19
   all_goals omega
  have he : readE l = (eachGo (bathE l) 0 l).2 := by rw [readE, if_neg (by omega), if_neg (by omega)]
  refine OK.skip ?_
  refine Ab.D.code (OK.seq (OK.seq (OK.reg ?_)))
  refine RK.c (S.move .none rfl (.tmp rfl rfl)) ?_
  refine RK.c (S.lenM si66 .none rfl (.tmp rfl rfl)) ?_
  refine RK.c (S.move .none rfl (.cint rfl)) ?_
  refine RK.nil (Ab.D.code ?_)
  refine OK.block ?_
  refine OK.loop (G := Nat) [] (fun i => [(0, .sl (l.map Bath.cs)), (21, .sl (l.map Bath.cs)), (22, .int .i64 l.length), (23, .int .i64 i)]) (fun i => i ≤ l.length ∧ eachGo (bathE l) 0 l = eachGo (bathE l) i (l.drop i)) (fun i => l.length - i) 0 ⟨Nat.zero_le _, rfl⟩ ⟨rfl, rfl, rfl, rfl, trivial⟩ (fun _ => rfl) ?_
  rintro i ⟨hi, hg⟩
  refine OK.seq (OK.reg ?_)
  refine RK.c (S.lss .none rfl (.tmp rfl rfl) (.tmp rfl rfl)) ?_
  refine RK.nil (Ab.D.code ?_)
  refine OK.seq ?_
  refine OK.condD rfl rfl (fun c24 => ?_) (fun c24 => ?_)
  ·
   have hgd : l.getD (i - 1) ⟨0, ⟨0, 0⟩⟩ = l[i - 1] := getD_at (by omega)
   refine OK.skip ?_
   refine Ab.D.code ?_
   refine OK.seq ?_
   refine OK.block ?_
   refine OK.seq (OK.reg ?_)
   refine RK.c (S.move .none rfl (.tmp rfl rfl)) ?_
   refine RK.c (S.indexM si66 .none rfl (.tmp rfl rfl) (.tmp rfl rfl) rfl (by omega) rfl) ?_
   refine RK.c (S.loadN ti65 .none rfl (.tmp rfl rfl) rfl rfl) ?_
   refine RK.c (S.alloc (k := 5) ze65 rfl .none rfl) ?_
   refine RK.c (S.assign .none rfl (.tmp rfl rfl)) ?_
   refine RK.c (S.store ti65 .none (.tmp rfl rfl) (.tmp rfl rfl) rfl rfl rfl rfl rfl rfl) ?_
   refine RK.nil (Ab.D.code ?_)
   refine OK.join (G := Bool) [5] (fun b => [(0, .sl (l.map Bath.cs)), (21, .sl (l.map Bath.cs)), (22, .int .i64 l.length), (23, .int .i64 i), (5, .ptr 5 0), (1005, .box l[i].cs), (6, .bool b)]) (fun b => (i = 0 ∨ (l.getD (i - 1) ⟨0, ⟨0, 0⟩⟩).tick < l[i].tick) = (b = true)) (fun _ => rfl) ?_ ?_
   ·
    by_cases g30 : (i : Int) = 0
    ·
     refine OK.regionDraw follows (.c (S.move .none rfl (.tmp rfl rfl))
      (.c (S.eql .none rfl (.tmp rfl rfl) (.cint rfl))
      (.c (S.move .none rfl (.tmp rfl rfl))
      (.c (S.skip rfl rfl rfl (by first | rfl | exact decide_eq_true g30 | exact decide_eq_false g30 | (rw [decide_eq_true g30]; rfl) | (rw [decide_eq_false g30]; rfl) | simp [*]) rfl)
      (.c (S.skip rfl rfl rfl (by first | rfl | exact decide_eq_true g30 | exact decide_eq_false g30 | (rw [decide_eq_true g30]; rfl) | (rw [decide_eq_false g30]; rfl) | simp [*]) rfl)
      (.c (S.skip rfl rfl rfl (by first | rfl | exact decide_eq_true g30 | exact decide_eq_false g30 | (rw [decide_eq_true g30]; rfl) | (rw [decide_eq_false g30]; rfl) | simp [*]) rfl)
      (.c (S.skip rfl rfl rfl (by first | rfl | exact decide_eq_true g30 | exact decide_eq_false g30 | (rw [decide_eq_true g30]; rfl) | (rw [decide_eq_false g30]; rfl) | simp [*]) rfl)
      (.c (S.skip rfl rfl rfl (by first | rfl | exact decide_eq_true g30 | exact decide_eq_false g30 | (rw [decide_eq_true g30]; rfl) | (rw [decide_eq_false g30]; rfl) | simp [*]) rfl)
      (.c (S.skip rfl rfl rfl (by first | rfl | exact decide_eq_true g30 | exact decide_eq_false g30 | (rw [decide_eq_true g30]; rfl) | (rw [decide_eq_false g30]; rfl) | simp [*]) rfl)
      (.c (S.skip rfl rfl rfl (by first | rfl | exact decide_eq_true g30 | exact decide_eq_false g30 | (rw [decide_eq_true g30]; rfl) | (rw [decide_eq_false g30]; rfl) | simp [*]) rfl)
      (.c (S.skip rfl rfl rfl (by first | rfl | exact decide_eq_true g30 | exact decide_eq_false g30 | (rw [decide_eq_true g30]; rfl) | (rw [decide_eq_false g30]; rfl) | simp [*]) rfl)
      (.c (S.skip rfl rfl rfl (by first | rfl | exact decide_eq_true g30 | exact decide_eq_false g30 | (rw [decide_eq_true g30]; rfl) | (rw [decide_eq_false g30]; rfl) | simp [*]) rfl)
      (.c (S.pickT .none rfl (.tmp rfl rfl) .cbool (by first | rfl | exact decide_eq_true g30 | exact decide_eq_false g30 | (rw [decide_eq_true g30]; rfl) | (rw [decide_eq_false g30]; rfl) | simp [*]))
      (.c (S.assign .none rfl (.tmp rfl rfl))
      .nil)))))))))))))) (by kernel_rfl) ?_
     refine Ab.D.lp ⟨_, ?_, rfl, rfl, rfl, rfl, rfl, rfl, rfl, trivial⟩
     rw [hgd]
     first | (refine propext ⟨fun _ => rfl, fun _ => ?_⟩; left; omega; done) | (rw [decide_eq_true_eq]; exact propext ⟨fun h => h.resolve_left (by omega), .inr⟩)
    ·
     refine OK.regionDraw follows (.c (S.move .none rfl (.tmp rfl rfl))
      (.c (S.eql .none rfl (.tmp rfl rfl) (.cint rfl))
      (.c (S.move .none rfl (.tmp rfl rfl))
      (.c (S.bfield fi65_0 (.yes rfl rfl rfl (by first | rfl | exact decide_eq_true g30 | exact decide_eq_false g30 | (rw [decide_eq_true g30]; rfl) | (rw [decide_eq_false g30]; rfl) | simp [*])) rfl (.tmp rfl rfl))
      (.c (S.bload1 ti3 (.yes rfl rfl rfl (by first | rfl | exact decide_eq_true g30 | exact decide_eq_false g30 | (rw [decide_eq_true g30]; rfl) | (rw [decide_eq_false g30]; rfl) | simp [*])) rfl (.tmp rfl rfl) rfl rfl rfl rfl)
      (.c (S.move (.yes rfl rfl rfl (by first | rfl | exact decide_eq_true g30 | exact decide_eq_false g30 | (rw [decide_eq_true g30]; rfl) | (rw [decide_eq_false g30]; rfl) | simp [*])) rfl (.tmp rfl rfl))
      (.c (S.move (.yes rfl rfl rfl (by first | rfl | exact decide_eq_true g30 | exact decide_eq_false g30 | (rw [decide_eq_true g30]; rfl) | (rw [decide_eq_false g30]; rfl) | simp [*])) rfl (.tmp rfl rfl))
      (.c (S.sub (.yes rfl rfl rfl (by first | rfl | exact decide_eq_true g30 | exact decide_eq_false g30 | (rw [decide_eq_true g30]; rfl) | (rw [decide_eq_false g30]; rfl) | simp [*])) rfl (.tmp rfl rfl) (.cint rfl) (IntWalk.i64_in _ (by omega)) (IntWalk.i64_in _ (by omega)))
      (.c (S.indexM (n := i - 1) si66 (.yes rfl rfl rfl (by first | rfl | exact decide_eq_true g30 | exact decide_eq_false g30 | (rw [decide_eq_true g30]; rfl) | (rw [decide_eq_false g30]; rfl) | simp [*])) rfl (.tmp rfl rfl) (.tmp rfl rfl) (by omega) (by omega) rfl)
      (.c (S.field fi65_0 (.yes rfl rfl rfl (by first | rfl | exact decide_eq_true g30 | exact decide_eq_false g30 | (rw [decide_eq_true g30]; rfl) | (rw [decide_eq_false g30]; rfl) | simp [*])) rfl (.tmp rfl rfl) rfl)
      (.c (S.load1 ti3 (.yes rfl rfl rfl (by first | rfl | exact decide_eq_true g30 | exact decide_eq_false g30 | (rw [decide_eq_true g30]; rfl) | (rw [decide_eq_false g30]; rfl) | simp [*])) rfl (.tmp rfl rfl) rfl)
      (.c (S.gtr (.yes rfl rfl rfl (by first | rfl | exact decide_eq_true g30 | exact decide_eq_false g30 | (rw [decide_eq_true g30]; rfl) | (rw [decide_eq_false g30]; rfl) | simp [*])) rfl (.tmp rfl rfl) (.tmp rfl rfl))
      (.c (S.pickF .none rfl (.tmp rfl rfl) (.tmp rfl rfl) (by first | rfl | exact decide_eq_true g30 | exact decide_eq_false g30 | (rw [decide_eq_true g30]; rfl) | (rw [decide_eq_false g30]; rfl) | simp [*]))
      (.c (S.assign .none rfl (.tmp rfl rfl))
      .nil)))))))))))))) (by kernel_rfl) ?_
     refine Ab.D.lp ⟨_, ?_, rfl, rfl, rfl, rfl, rfl, rfl, rfl, trivial⟩
     rw [hgd]
     first | (refine propext ⟨fun _ => rfl, fun _ => ?_⟩; left; omega; done) | (rw [decide_eq_true_eq]; exact propext ⟨fun h => h.resolve_left (by omega), .inr⟩)
   ·
    rintro b hb
    refine OK.join (G := Int) [] (fun n => [(0, .sl (l.map Bath.cs)), (21, .sl (l.map Bath.cs)), (22, .int .i64 l.length), (23, .int .i64 i), (7, .int .i64 n)]) (fun n => n = bathE l i l[i]) (fun _ => rfl) ?_ ?_
    ·
     by_cases g44 : 0 ≤ l[i].tick ∧ l[i].tick ≤ 100000
     ·
      by_cases g50 : -10000 ≤ l[i].value.lo ∧ l[i].value.lo ≤ 10000
      ·
       by_cases g64 : l[i].value.lo ≤ l[i].value.hi
       ·
        refine OK.regionDraw follows (.c (S.bfield fi65_0 .none rfl (.tmp rfl rfl))
         (.c (S.bload1 ti3 .none rfl (.tmp rfl rfl) rfl rfl rfl rfl)
         (.c (S.call (shp_isTicks) Tryz.call88 .none rfl (.cons (.tmp rfl rfl) (.cons (.cint rfl) .nil)) rfl)
         (.c (S.move .none rfl (.tmp rfl rfl))
         (.c (S.bfield fi65_1 (.yes rfl rfl rfl (by first | rfl | exact decide_eq_true g44 | exact decide_eq_false g44 | (rw [decide_eq_true g44]; rfl) | (rw [decide_eq_false g44]; rfl) | simp [*])) rfl (.tmp rfl rfl))
         (.c (S.bfield fi62_0 (.yes rfl rfl rfl (by first | rfl | exact decide_eq_true g44 | exact decide_eq_false g44 | (rw [decide_eq_true g44]; rfl) | (rw [decide_eq_false g44]; rfl) | simp [*])) rfl (.tmp rfl rfl))
         (.c (S.bload1 ti3 (.yes rfl rfl rfl (by first | rfl | exact decide_eq_true g44 | exact decide_eq_false g44 | (rw [decide_eq_true g44]; rfl) | (rw [decide_eq_false g44]; rfl) | simp [*])) rfl (.tmp rfl rfl) rfl rfl rfl rfl)
         (.c (S.call (shp_isValue) Tryz.call87 (.yes rfl rfl rfl (by first | rfl | exact decide_eq_true g44 | exact decide_eq_false g44 | (rw [decide_eq_true g44]; rfl) | (rw [decide_eq_false g44]; rfl) | simp [*])) rfl (.cons (.tmp rfl rfl) .nil) rfl)
         (.c (S.pickT .none rfl (.tmp rfl rfl) (.tmp rfl rfl) (by first | rfl | exact decide_eq_true g44 | exact decide_eq_false g44 | (rw [decide_eq_true g44]; rfl) | (rw [decide_eq_false g44]; rfl) | simp [*]))
         (.c (S.move .none rfl (.tmp rfl rfl))
         (.c (S.bfield fi65_1 (.yes rfl rfl rfl (by first | rfl | exact decide_eq_true g50 | exact decide_eq_false g50 | (rw [decide_eq_true g50]; rfl) | (rw [decide_eq_false g50]; rfl) | simp [*])) rfl (.tmp rfl rfl))
         (.c (S.bfield fi62_1 (.yes rfl rfl rfl (by first | rfl | exact decide_eq_true g50 | exact decide_eq_false g50 | (rw [decide_eq_true g50]; rfl) | (rw [decide_eq_false g50]; rfl) | simp [*])) rfl (.tmp rfl rfl))
         (.c (S.bload1 ti3 (.yes rfl rfl rfl (by first | rfl | exact decide_eq_true g50 | exact decide_eq_false g50 | (rw [decide_eq_true g50]; rfl) | (rw [decide_eq_false g50]; rfl) | simp [*])) rfl (.tmp rfl rfl) rfl rfl rfl rfl)
         (.c (S.call (shp_isValue) Tryz.call87 (.yes rfl rfl rfl (by first | rfl | exact decide_eq_true g50 | exact decide_eq_false g50 | (rw [decide_eq_true g50]; rfl) | (rw [decide_eq_false g50]; rfl) | simp [*])) rfl (.cons (.tmp rfl rfl) .nil) rfl)
         (.c (S.pickT .none rfl (.tmp rfl rfl) (.tmp rfl rfl) (by first | rfl | exact decide_eq_true g50 | exact decide_eq_false g50 | (rw [decide_eq_true g50]; rfl) | (rw [decide_eq_false g50]; rfl) | simp [*]))
         (.c (S.call (shop_unless) Tryz.call40 .none rfl (.cons (.tmp rfl rfl) (.cons (.cint rfl) .nil)) rfl)
         (.c (S.bfield fi65_1 .none rfl (.tmp rfl rfl))
         (.c (S.bfield fi62_0 .none rfl (.tmp rfl rfl))
         (.c (S.bload1 ti3 .none rfl (.tmp rfl rfl) rfl rfl rfl rfl)
         (.c (S.bfield fi65_1 .none rfl (.tmp rfl rfl))
         (.c (S.bfield fi62_1 .none rfl (.tmp rfl rfl))
         (.c (S.bload1 ti3 .none rfl (.tmp rfl rfl) rfl rfl rfl rfl)
         (.c (S.leq .none rfl (.tmp rfl rfl) (.tmp rfl rfl))
         (.c (S.move .none rfl (.tmp rfl rfl))
         (.c (S.move (.yes rfl rfl rfl (by first | rfl | exact decide_eq_true g64 | exact decide_eq_false g64 | (rw [decide_eq_true g64]; rfl) | (rw [decide_eq_false g64]; rfl) | simp [*])) rfl (.tmp rfl rfl))
         (.c (S.pickT .none rfl (.tmp rfl rfl) (.tmp rfl rfl) (by first | rfl | exact decide_eq_true g64 | exact decide_eq_false g64 | (rw [decide_eq_true g64]; rfl) | (rw [decide_eq_false g64]; rfl) | simp [*]))
         (.c (S.call (shop_unless) Tryz.call40 .none rfl (.cons (.tmp rfl rfl) (.cons (.cint rfl) .nil)) rfl)
         (.c (S.mkSlice (k := 68) (rows := [[_], [_]]) ai130 .none rfl (.cons (.tmp rfl rfl) (.cons (.tmp rfl rfl) .nil)) rfl rfl rfl rfl rfl rfl rfl)
         (.c (S.callL (shop_first (l := [_, _])) Tryz.call36 .none rfl (.cons (.tmp rfl rfl) .nil) (.cons (.p (.own rfl rfl) rfl) .nil) rfl)
         (.c (S.assign .none rfl (.tmp rfl rfl))
         .nil)))))))))))))))))))))))))))))) (by kernel_rfl) ?_
        refine Ab.D.lp ⟨_, ?_, rfl, rfl, rfl, rfl, rfl, trivial⟩
        rw [firstE2]
        simp only [bathE, unlessE, hb]
        try simp only [decide_eq_true_eq]
        repeat' split
        all_goals (first | rfl | omega | contradiction | (exfalso; simp_all; done) | (exfalso; simp_all; omega))
       ·
        refine OK.regionDraw follows (.c (S.bfield fi65_0 .none rfl (.tmp rfl rfl))
         (.c (S.bload1 ti3 .none rfl (.tmp rfl rfl) rfl rfl rfl rfl)
         (.c (S.call (shp_isTicks) Tryz.call88 .none rfl (.cons (.tmp rfl rfl) (.cons (.cint rfl) .nil)) rfl)
         (.c (S.move .none rfl (.tmp rfl rfl))
         (.c (S.bfield fi65_1 (.yes rfl rfl rfl (by first | rfl | exact decide_eq_true g44 | exact decide_eq_false g44 | (rw [decide_eq_true g44]; rfl) | (rw [decide_eq_false g44]; rfl) | simp [*])) rfl (.tmp rfl rfl))
         (.c (S.bfield fi62_0 (.yes rfl rfl rfl (by first | rfl | exact decide_eq_true g44 | exact decide_eq_false g44 | (rw [decide_eq_true g44]; rfl) | (rw [decide_eq_false g44]; rfl) | simp [*])) rfl (.tmp rfl rfl))
         (.c (S.bload1 ti3 (.yes rfl rfl rfl (by first | rfl | exact decide_eq_true g44 | exact decide_eq_false g44 | (rw [decide_eq_true g44]; rfl) | (rw [decide_eq_false g44]; rfl) | simp [*])) rfl (.tmp rfl rfl) rfl rfl rfl rfl)
         (.c (S.call (shp_isValue) Tryz.call87 (.yes rfl rfl rfl (by first | rfl | exact decide_eq_true g44 | exact decide_eq_false g44 | (rw [decide_eq_true g44]; rfl) | (rw [decide_eq_false g44]; rfl) | simp [*])) rfl (.cons (.tmp rfl rfl) .nil) rfl)
         (.c (S.pickT .none rfl (.tmp rfl rfl) (.tmp rfl rfl) (by first | rfl | exact decide_eq_true g44 | exact decide_eq_false g44 | (rw [decide_eq_true g44]; rfl) | (rw [decide_eq_false g44]; rfl) | simp [*]))
         (.c (S.move .none rfl (.tmp rfl rfl))
         (.c (S.bfield fi65_1 (.yes rfl rfl rfl (by first | rfl | exact decide_eq_true g50 | exact decide_eq_false g50 | (rw [decide_eq_true g50]; rfl) | (rw [decide_eq_false g50]; rfl) | simp [*])) rfl (.tmp rfl rfl))
         (.c (S.bfield fi62_1 (.yes rfl rfl rfl (by first | rfl | exact decide_eq_true g50 | exact decide_eq_false g50 | (rw [decide_eq_true g50]; rfl) | (rw [decide_eq_false g50]; rfl) | simp [*])) rfl (.tmp rfl rfl))
         (.c (S.bload1 ti3 (.yes rfl rfl rfl (by first | rfl | exact decide_eq_true g50 | exact decide_eq_false g50 | (rw [decide_eq_true g50]; rfl) | (rw [decide_eq_false g50]; rfl) | simp [*])) rfl (.tmp rfl rfl) rfl rfl rfl rfl)
         (.c (S.call (shp_isValue) Tryz.call87 (.yes rfl rfl rfl (by first | rfl | exact decide_eq_true g50 | exact decide_eq_false g50 | (rw [decide_eq_true g50]; rfl) | (rw [decide_eq_false g50]; rfl) | simp [*])) rfl (.cons (.tmp rfl rfl) .nil) rfl)
         (.c (S.pickT .none rfl (.tmp rfl rfl) (.tmp rfl rfl) (by first | rfl | exact decide_eq_true g50 | exact decide_eq_false g50 | (rw [decide_eq_true g50]; rfl) | (rw [decide_eq_false g50]; rfl) | simp [*]))
         (.c (S.call (shop_unless) Tryz.call40 .none rfl (.cons (.tmp rfl rfl) (.cons (.cint rfl) .nil)) rfl)
         (.c (S.bfield fi65_1 .none rfl (.tmp rfl rfl))
         (.c (S.bfield fi62_0 .none rfl (.tmp rfl rfl))
         (.c (S.bload1 ti3 .none rfl (.tmp rfl rfl) rfl rfl rfl rfl)
         (.c (S.bfield fi65_1 .none rfl (.tmp rfl rfl))
         (.c (S.bfield fi62_1 .none rfl (.tmp rfl rfl))
         (.c (S.bload1 ti3 .none rfl (.tmp rfl rfl) rfl rfl rfl rfl)
         (.c (S.leq .none rfl (.tmp rfl rfl) (.tmp rfl rfl))
         (.c (S.move .none rfl (.tmp rfl rfl))
         (.c (S.skip rfl rfl rfl (by first | rfl | exact decide_eq_true g64 | exact decide_eq_false g64 | (rw [decide_eq_true g64]; rfl) | (rw [decide_eq_false g64]; rfl) | simp [*]) rfl)
         (.c (S.pickF .none rfl (.tmp rfl rfl) .cbool (by first | rfl | exact decide_eq_true g64 | exact decide_eq_false g64 | (rw [decide_eq_true g64]; rfl) | (rw [decide_eq_false g64]; rfl) | simp [*]))
         (.c (S.call (shop_unless) Tryz.call40 .none rfl (.cons (.tmp rfl rfl) (.cons (.cint rfl) .nil)) rfl)
         (.c (S.mkSlice (k := 68) (rows := [[_], [_]]) ai130 .none rfl (.cons (.tmp rfl rfl) (.cons (.tmp rfl rfl) .nil)) rfl rfl rfl rfl rfl rfl rfl)
         (.c (S.callL (shop_first (l := [_, _])) Tryz.call36 .none rfl (.cons (.tmp rfl rfl) .nil) (.cons (.p (.own rfl rfl) rfl) .nil) rfl)
         (.c (S.assign .none rfl (.tmp rfl rfl))
         .nil)))))))))))))))))))))))))))))) (by kernel_rfl) ?_
        refine Ab.D.lp ⟨_, ?_, rfl, rfl, rfl, rfl, rfl, trivial⟩
        rw [firstE2]
        simp only [bathE, unlessE, hb]
        try simp only [decide_eq_true_eq]
        repeat' split
        all_goals (first | rfl | omega | contradiction | (exfalso; simp_all; done) | (exfalso; simp_all; omega))
      ·
       by_cases g64 : l[i].value.lo ≤ l[i].value.hi
       ·
        refine OK.regionDraw follows (.c (S.bfield fi65_0 .none rfl (.tmp rfl rfl))
         (.c (S.bload1 ti3 .none rfl (.tmp rfl rfl) rfl rfl rfl rfl)
         (.c (S.call (shp_isTicks) Tryz.call88 .none rfl (.cons (.tmp rfl rfl) (.cons (.cint rfl) .nil)) rfl)
         (.c (S.move .none rfl (.tmp rfl rfl))
         (.c (S.bfield fi65_1 (.yes rfl rfl rfl (by first | rfl | exact decide_eq_true g44 | exact decide_eq_false g44 | (rw [decide_eq_true g44]; rfl) | (rw [decide_eq_false g44]; rfl) | simp [*])) rfl (.tmp rfl rfl))
         (.c (S.bfield fi62_0 (.yes rfl rfl rfl (by first | rfl | exact decide_eq_true g44 | exact decide_eq_false g44 | (rw [decide_eq_true g44]; rfl) | (rw [decide_eq_false g44]; rfl) | simp [*])) rfl (.tmp rfl rfl))
         (.c (S.bload1 ti3 (.yes rfl rfl rfl (by first | rfl | exact decide_eq_true g44 | exact decide_eq_false g44 | (rw [decide_eq_true g44]; rfl) | (rw [decide_eq_false g44]; rfl) | simp [*])) rfl (.tmp rfl rfl) rfl rfl rfl rfl)
         (.c (S.call (shp_isValue) Tryz.call87 (.yes rfl rfl rfl (by first | rfl | exact decide_eq_true g44 | exact decide_eq_false g44 | (rw [decide_eq_true g44]; rfl) | (rw [decide_eq_false g44]; rfl) | simp [*])) rfl (.cons (.tmp rfl rfl) .nil) rfl)
         (.c (S.pickT .none rfl (.tmp rfl rfl) (.tmp rfl rfl) (by first | rfl | exact decide_eq_true g44 | exact decide_eq_false g44 | (rw [decide_eq_true g44]; rfl) | (rw [decide_eq_false g44]; rfl) | simp [*]))
         (.c (S.move .none rfl (.tmp rfl rfl))
         (.c (S.skip rfl rfl rfl (by first | rfl | exact decide_eq_true g50 | exact decide_eq_false g50 | (rw [decide_eq_true g50]; rfl) | (rw [decide_eq_false g50]; rfl) | simp [*]) rfl)
         (.c (S.skip rfl rfl rfl (by first | rfl | exact decide_eq_true g50 | exact decide_eq_false g50 | (rw [decide_eq_true g50]; rfl) | (rw [decide_eq_false g50]; rfl) | simp [*]) rfl)
         (.c (S.skip rfl rfl rfl (by first | rfl | exact decide_eq_true g50 | exact decide_eq_false g50 | (rw [decide_eq_true g50]; rfl) | (rw [decide_eq_false g50]; rfl) | simp [*]) rfl)
         (.c (S.skip rfl rfl rfl (by first | rfl | exact decide_eq_true g50 | exact decide_eq_false g50 | (rw [decide_eq_true g50]; rfl) | (rw [decide_eq_false g50]; rfl) | simp [*]) rfl)
         (.c (S.pickF .none rfl (.tmp rfl rfl) .cbool (by first | rfl | exact decide_eq_true g50 | exact decide_eq_false g50 | (rw [decide_eq_true g50]; rfl) | (rw [decide_eq_false g50]; rfl) | simp [*]))
         (.c (S.call (shop_unless) Tryz.call40 .none rfl (.cons (.tmp rfl rfl) (.cons (.cint rfl) .nil)) rfl)
         (.c (S.bfield fi65_1 .none rfl (.tmp rfl rfl))
         (.c (S.bfield fi62_0 .none rfl (.tmp rfl rfl))
         (.c (S.bload1 ti3 .none rfl (.tmp rfl rfl) rfl rfl rfl rfl)
         (.c (S.bfield fi65_1 .none rfl (.tmp rfl rfl))
         (.c (S.bfield fi62_1 .none rfl (.tmp rfl rfl))
         (.c (S.bload1 ti3 .none rfl (.tmp rfl rfl) rfl rfl rfl rfl)
         (.c (S.leq .none rfl (.tmp rfl rfl) (.tmp rfl rfl))
         (.c (S.move .none rfl (.tmp rfl rfl))
         (.c (S.move (.yes rfl rfl rfl (by first | rfl | exact decide_eq_true g64 | exact decide_eq_false g64 | (rw [decide_eq_true g64]; rfl) | (rw [decide_eq_false g64]; rfl) | simp [*])) rfl (.tmp rfl rfl))
         (.c (S.pickT .none rfl (.tmp rfl rfl) (.tmp rfl rfl) (by first | rfl | exact decide_eq_true g64 | exact decide_eq_false g64 | (rw [decide_eq_true g64]; rfl) | (rw [decide_eq_false g64]; rfl) | simp [*]))
         (.c (S.call (shop_unless) Tryz.call40 .none rfl (.cons (.tmp rfl rfl) (.cons (.cint rfl) .nil)) rfl)
         (.c (S.mkSlice (k := 68) (rows := [[_], [_]]) ai130 .none rfl (.cons (.tmp rfl rfl) (.cons (.tmp rfl rfl) .nil)) rfl rfl rfl rfl rfl rfl rfl)
         (.c (S.callL (shop_first (l := [_, _])) Tryz.call36 .none rfl (.cons (.tmp rfl rfl) .nil) (.cons (.p (.own rfl rfl) rfl) .nil) rfl)
         (.c (S.assign .none rfl (.tmp rfl rfl))
         .nil)))))))))))))))))))))))))))))) (by kernel_rfl) ?_
        refine Ab.D.lp ⟨_, ?_, rfl, rfl, rfl, rfl, rfl, trivial⟩
        rw [firstE2]
        simp only [bathE, unlessE, hb]
        try simp only [decide_eq_true_eq]
        repeat' split
        all_goals (first | rfl | omega | contradiction | (exfalso; simp_all; done) | (exfalso; simp_all; omega))
       ·
        refine OK.regionDraw follows (.c (S.bfield fi65_0 .none rfl (.tmp rfl rfl))
         (.c (S.bload1 ti3 .none rfl (.tmp rfl rfl) rfl rfl rfl rfl)
         (.c (S.call (shp_isTicks) Tryz.call88 .none rfl (.cons (.tmp rfl rfl) (.cons (.cint rfl) .nil)) rfl)
         (.c (S.move .none rfl (.tmp rfl rfl))
         (.c (S.bfield fi65_1 (.yes rfl rfl rfl (by first | rfl | exact decide_eq_true g44 | exact decide_eq_false g44 | (rw [decide_eq_true g44]; rfl) | (rw [decide_eq_false g44]; rfl) | simp [*])) rfl (.tmp rfl rfl))
         (.c (S.bfield fi62_0 (.yes rfl rfl rfl (by first | rfl | exact decide_eq_true g44 | exact decide_eq_false g44 | (rw [decide_eq_true g44]; rfl) | (rw [decide_eq_false g44]; rfl) | simp [*])) rfl (.tmp rfl rfl))
         (.c (S.bload1 ti3 (.yes rfl rfl rfl (by first | rfl | exact decide_eq_true g44 | exact decide_eq_false g44 | (rw [decide_eq_true g44]; rfl) | (rw [decide_eq_false g44]; rfl) | simp [*])) rfl (.tmp rfl rfl) rfl rfl rfl rfl)
         (.c (S.call (shp_isValue) Tryz.call87 (.yes rfl rfl rfl (by first | rfl | exact decide_eq_true g44 | exact decide_eq_false g44 | (rw [decide_eq_true g44]; rfl) | (rw [decide_eq_false g44]; rfl) | simp [*])) rfl (.cons (.tmp rfl rfl) .nil) rfl)
         (.c (S.pickT .none rfl (.tmp rfl rfl) (.tmp rfl rfl) (by first | rfl | exact decide_eq_true g44 | exact decide_eq_false g44 | (rw [decide_eq_true g44]; rfl) | (rw [decide_eq_false g44]; rfl) | simp [*]))
         (.c (S.move .none rfl (.tmp rfl rfl))
         (.c (S.skip rfl rfl rfl (by first | rfl | exact decide_eq_true g50 | exact decide_eq_false g50 | (rw [decide_eq_true g50]; rfl) | (rw [decide_eq_false g50]; rfl) | simp [*]) rfl)
         (.c (S.skip rfl rfl rfl (by first | rfl | exact decide_eq_true g50 | exact decide_eq_false g50 | (rw [decide_eq_true g50]; rfl) | (rw [decide_eq_false g50]; rfl) | simp [*]) rfl)
         (.c (S.skip rfl rfl rfl (by first | rfl | exact decide_eq_true g50 | exact decide_eq_false g50 | (rw [decide_eq_true g50]; rfl) | (rw [decide_eq_false g50]; rfl) | simp [*]) rfl)
         (.c (S.skip rfl rfl rfl (by first | rfl | exact decide_eq_true g50 | exact decide_eq_false g50 | (rw [decide_eq_true g50]; rfl) | (rw [decide_eq_false g50]; rfl) | simp [*]) rfl)
         (.c (S.pickF .none rfl (.tmp rfl rfl) .cbool (by first | rfl | exact decide_eq_true g50 | exact decide_eq_false g50 | (rw [decide_eq_true g50]; rfl) | (rw [decide_eq_false g50]; rfl) | simp [*]))
         (.c (S.call (shop_unless) Tryz.call40 .none rfl (.cons (.tmp rfl rfl) (.cons (.cint rfl) .nil)) rfl)
         (.c (S.bfield fi65_1 .none rfl (.tmp rfl rfl))
         (.c (S.bfield fi62_0 .none rfl (.tmp rfl rfl))
         (.c (S.bload1 ti3 .none rfl (.tmp rfl rfl) rfl rfl rfl rfl)
         (.c (S.bfield fi65_1 .none rfl (.tmp rfl rfl))
         (.c (S.bfield fi62_1 .none rfl (.tmp rfl rfl))
         (.c (S.bload1 ti3 .none rfl (.tmp rfl rfl) rfl rfl rfl rfl)
         (.c (S.leq .none rfl (.tmp rfl rfl) (.tmp rfl rfl))
         (.c (S.move .none rfl (.tmp rfl rfl))
         (.c (S.skip rfl rfl rfl (by first | rfl | exact decide_eq_true g64 | exact decide_eq_false g64 | (rw [decide_eq_true g64]; rfl) | (rw [decide_eq_false g64]; rfl) | simp [*]) rfl)
         (.c (S.pickF .none rfl (.tmp rfl rfl) .cbool (by first | rfl | exact decide_eq_true g64 | exact decide_eq_false g64 | (rw [decide_eq_true g64]; rfl) | (rw [decide_eq_false g64]; rfl) | simp [*]))
         (.c (S.call (shop_unless) Tryz.call40 .none rfl (.cons (.tmp rfl rfl) (.cons (.cint rfl) .nil)) rfl)
         (.c (S.mkSlice (k := 68) (rows := [[_], [_]]) ai130 .none rfl (.cons (.tmp rfl rfl) (.cons (.tmp rfl rfl) .nil)) rfl rfl rfl rfl rfl rfl rfl)
         (.c (S.callL (shop_first (l := [_, _])) Tryz.call36 .none rfl (.cons (.tmp rfl rfl) .nil) (.cons (.p (.own rfl rfl) rfl) .nil) rfl)
         (.c (S.assign .none rfl (.tmp rfl rfl))
         .nil)))))))))))))))))))))))))))))) (by kernel_rfl) ?_
        refine Ab.D.lp ⟨_, ?_, rfl, rfl, rfl, rfl, rfl, trivial⟩
        rw [firstE2]
        simp only [bathE, unlessE, hb]
        try simp only [decide_eq_true_eq]
        repeat' split
        all_goals (first | rfl | omega | contradiction | (exfalso; simp_all; done) | (exfalso; simp_all; omega))
     ·
      by_cases g64 : l[i].value.lo ≤ l[i].value.hi
      ·
       refine OK.regionDraw follows (.c (S.bfield fi65_0 .none rfl (.tmp rfl rfl))
        (.c (S.bload1 ti3 .none rfl (.tmp rfl rfl) rfl rfl rfl rfl)
        (.c (S.call (shp_isTicks) Tryz.call88 .none rfl (.cons (.tmp rfl rfl) (.cons (.cint rfl) .nil)) rfl)
        (.c (S.move .none rfl (.tmp rfl rfl))
        (.c (S.skip rfl rfl rfl (by first | rfl | exact decide_eq_true g44 | exact decide_eq_false g44 | (rw [decide_eq_true g44]; rfl) | (rw [decide_eq_false g44]; rfl) | simp [*]) rfl)
        (.c (S.skip rfl rfl rfl (by first | rfl | exact decide_eq_true g44 | exact decide_eq_false g44 | (rw [decide_eq_true g44]; rfl) | (rw [decide_eq_false g44]; rfl) | simp [*]) rfl)
        (.c (S.skip rfl rfl rfl (by first | rfl | exact decide_eq_true g44 | exact decide_eq_false g44 | (rw [decide_eq_true g44]; rfl) | (rw [decide_eq_false g44]; rfl) | simp [*]) rfl)
        (.c (S.skip rfl rfl rfl (by first | rfl | exact decide_eq_true g44 | exact decide_eq_false g44 | (rw [decide_eq_true g44]; rfl) | (rw [decide_eq_false g44]; rfl) | simp [*]) rfl)
        (.c (S.pickF .none rfl (.tmp rfl rfl) .cbool (by first | rfl | exact decide_eq_true g44 | exact decide_eq_false g44 | (rw [decide_eq_true g44]; rfl) | (rw [decide_eq_false g44]; rfl) | simp [*]))
        (.c (S.move .none rfl (.tmp rfl rfl))
        (.c (S.skip rfl rfl rfl (by first | rfl | exact decide_eq_true g50 | exact decide_eq_false g50 | (rw [decide_eq_true g50]; rfl) | (rw [decide_eq_false g50]; rfl) | simp [*]) rfl)
        (.c (S.skip rfl rfl rfl (by first | rfl | exact decide_eq_true g50 | exact decide_eq_false g50 | (rw [decide_eq_true g50]; rfl) | (rw [decide_eq_false g50]; rfl) | simp [*]) rfl)
        (.c (S.skip rfl rfl rfl (by first | rfl | exact decide_eq_true g50 | exact decide_eq_false g50 | (rw [decide_eq_true g50]; rfl) | (rw [decide_eq_false g50]; rfl) | simp [*]) rfl)
        (.c (S.skip rfl rfl rfl (by first | rfl | exact decide_eq_true g50 | exact decide_eq_false g50 | (rw [decide_eq_true g50]; rfl) | (rw [decide_eq_false g50]; rfl) | simp [*]) rfl)
        (.c (S.pickF .none rfl (.tmp rfl rfl) .cbool (by first | rfl | exact decide_eq_true g50 | exact decide_eq_false g50 | (rw [decide_eq_true g50]; rfl) | (rw [decide_eq_false g50]; rfl) | simp [*]))
        (.c (S.call (shop_unless) Tryz.call40 .none rfl (.cons (.tmp rfl rfl) (.cons (.cint rfl) .nil)) rfl)
        (.c (S.bfield fi65_1 .none rfl (.tmp rfl rfl))
        (.c (S.bfield fi62_0 .none rfl (.tmp rfl rfl))
        (.c (S.bload1 ti3 .none rfl (.tmp rfl rfl) rfl rfl rfl rfl)
        (.c (S.bfield fi65_1 .none rfl (.tmp rfl rfl))
        (.c (S.bfield fi62_1 .none rfl (.tmp rfl rfl))
        (.c (S.bload1 ti3 .none rfl (.tmp rfl rfl) rfl rfl rfl rfl)
        (.c (S.leq .none rfl (.tmp rfl rfl) (.tmp rfl rfl))
        (.c (S.move .none rfl (.tmp rfl rfl))
        (.c (S.move (.yes rfl rfl rfl (by first | rfl | exact decide_eq_true g64 | exact decide_eq_false g64 | (rw [decide_eq_true g64]; rfl) | (rw [decide_eq_false g64]; rfl) | simp [*])) rfl (.tmp rfl rfl))
        (.c (S.pickT .none rfl (.tmp rfl rfl) (.tmp rfl rfl) (by first | rfl | exact decide_eq_true g64 | exact decide_eq_false g64 | (rw [decide_eq_true g64]; rfl) | (rw [decide_eq_false g64]; rfl) | simp [*]))
        (.c (S.call (shop_unless) Tryz.call40 .none rfl (.cons (.tmp rfl rfl) (.cons (.cint rfl) .nil)) rfl)
        (.c (S.mkSlice (k := 68) (rows := [[_], [_]]) ai130 .none rfl (.cons (.tmp rfl rfl) (.cons (.tmp rfl rfl) .nil)) rfl rfl rfl rfl rfl rfl rfl)
        (.c (S.callL (shop_first (l := [_, _])) Tryz.call36 .none rfl (.cons (.tmp rfl rfl) .nil) (.cons (.p (.own rfl rfl) rfl) .nil) rfl)
        (.c (S.assign .none rfl (.tmp rfl rfl))
        .nil)))))))))))))))))))))))))))))) (by kernel_rfl) ?_
       refine Ab.D.lp ⟨_, ?_, rfl, rfl, rfl, rfl, rfl, trivial⟩
       rw [firstE2]
       simp only [bathE, unlessE, hb]
       try simp only [decide_eq_true_eq]
       repeat' split
       all_goals (first | rfl | omega | contradiction | (exfalso; simp_all; done) | (exfalso; simp_all; omega))
      ·
       refine OK.regionDraw follows (.c (S.bfield fi65_0 .none rfl (.tmp rfl rfl))
        (.c (S.bload1 ti3 .none rfl (.tmp rfl rfl) rfl rfl rfl rfl)
        (.c (S.call (shp_isTicks) Tryz.call88 .none rfl (.cons (.tmp rfl rfl) (.cons (.cint rfl) .nil)) rfl)
        (.c (S.move .none rfl (.tmp rfl rfl))
        (.c (S.skip rfl rfl rfl (by first | rfl | exact decide_eq_true g44 | exact decide_eq_false g44 | (rw [decide_eq_true g44]; rfl) | (rw [decide_eq_false g44]; rfl) | simp [*]) rfl)
        (.c (S.skip rfl rfl rfl (by first | rfl | exact decide_eq_true g44 | exact decide_eq_false g44 | (rw [decide_eq_true g44]; rfl) | (rw [decide_eq_false g44]; rfl) | simp [*]) rfl)
        (.c (S.skip rfl rfl rfl (by first | rfl | exact decide_eq_true g44 | exact decide_eq_false g44 | (rw [decide_eq_true g44]; rfl) | (rw [decide_eq_false g44]; rfl) | simp [*]) rfl)
        (.c (S.skip rfl rfl rfl (by first | rfl | exact decide_eq_true g44 | exact decide_eq_false g44 | (rw [decide_eq_true g44]; rfl) | (rw [decide_eq_false g44]; rfl) | simp [*]) rfl)
        (.c (S.pickF .none rfl (.tmp rfl rfl) .cbool (by first | rfl | exact decide_eq_true g44 | exact decide_eq_false g44 | (rw [decide_eq_true g44]; rfl) | (rw [decide_eq_false g44]; rfl) | simp [*]))
        (.c (S.move .none rfl (.tmp rfl rfl))
        (.c (S.skip rfl rfl rfl (by first | rfl | exact decide_eq_true g50 | exact decide_eq_false g50 | (rw [decide_eq_true g50]; rfl) | (rw [decide_eq_false g50]; rfl) | simp [*]) rfl)
        (.c (S.skip rfl rfl rfl (by first | rfl | exact decide_eq_true g50 | exact decide_eq_false g50 | (rw [decide_eq_true g50]; rfl) | (rw [decide_eq_false g50]; rfl) | simp [*]) rfl)
        (.c (S.skip rfl rfl rfl (by first | rfl | exact decide_eq_true g50 | exact decide_eq_false g50 | (rw [decide_eq_true g50]; rfl) | (rw [decide_eq_false g50]; rfl) | simp [*]) rfl)
        (.c (S.skip rfl rfl rfl (by first | rfl | exact decide_eq_true g50 | exact decide_eq_false g50 | (rw [decide_eq_true g50]; rfl) | (rw [decide_eq_false g50]; rfl) | simp [*]) rfl)
        (.c (S.pickF .none rfl (.tmp rfl rfl) .cbool (by first | rfl | exact decide_eq_true g50 | exact decide_eq_false g50 | (rw [decide_eq_true g50]; rfl) | (rw [decide_eq_false g50]; rfl) | simp [*]))
        (.c (S.call (shop_unless) Tryz.call40 .none rfl (.cons (.tmp rfl rfl) (.cons (.cint rfl) .nil)) rfl)
        (.c (S.bfield fi65_1 .none rfl (.tmp rfl rfl))
        (.c (S.bfield fi62_0 .none rfl (.tmp rfl rfl))
        (.c (S.bload1 ti3 .none rfl (.tmp rfl rfl) rfl rfl rfl rfl)
        (.c (S.bfield fi65_1 .none rfl (.tmp rfl rfl))
        (.c (S.bfield fi62_1 .none rfl (.tmp rfl rfl))
        (.c (S.bload1 ti3 .none rfl (.tmp rfl rfl) rfl rfl rfl rfl)
        (.c (S.leq .none rfl (.tmp rfl rfl) (.tmp rfl rfl))
        (.c (S.move .none rfl (.tmp rfl rfl))
        (.c (S.skip rfl rfl rfl (by first | rfl | exact decide_eq_true g64 | exact decide_eq_false g64 | (rw [decide_eq_true g64]; rfl) | (rw [decide_eq_false g64]; rfl) | simp [*]) rfl)
        (.c (S.pickF .none rfl (.tmp rfl rfl) .cbool (by first | rfl | exact decide_eq_true g64 | exact decide_eq_false g64 | (rw [decide_eq_true g64]; rfl) | (rw [decide_eq_false g64]; rfl) | simp [*]))
        (.c (S.call (shop_unless) Tryz.call40 .none rfl (.cons (.tmp rfl rfl) (.cons (.cint rfl) .nil)) rfl)
        (.c (S.mkSlice (k := 68) (rows := [[_], [_]]) ai130 .none rfl (.cons (.tmp rfl rfl) (.cons (.tmp rfl rfl) .nil)) rfl rfl rfl rfl rfl rfl rfl)
        (.c (S.callL (shop_first (l := [_, _])) Tryz.call36 .none rfl (.cons (.tmp rfl rfl) .nil) (.cons (.p (.own rfl rfl) rfl) .nil) rfl)
        (.c (S.assign .none rfl (.tmp rfl rfl))
        .nil)))))))))))))))))))))))))))))) (by kernel_rfl) ?_
       refine Ab.D.lp ⟨_, ?_, rfl, rfl, rfl, rfl, rfl, trivial⟩
       rw [firstE2]
       simp only [bathE, unlessE, hb]
       try simp only [decide_eq_true_eq]
       repeat' split
       all_goals (first | rfl | omega | contradiction | (exfalso; simp_all; done) | (exfalso; simp_all; omega))
    ·
     rintro n hbe
     refine OK.seq (OK.reg ?_)
     refine RK.c (S.move .none rfl (.tmp rfl rfl)) ?_
     refine RK.c (S.neq .none rfl (.tmp rfl rfl) (.cint rfl)) ?_
     refine RK.nil (Ab.D.code ?_)
     refine OK.condD rfl rfl (fun c71 => ?_) (fun c71 => ?_)
     ·
      refine OK.seq (OK.reg ?_)
      refine RK.c (S.move .none rfl (.tmp rfl rfl)) ?_
      refine RK.c (S.assign .none rfl (.tmp rfl rfl)) ?_
      refine RK.nil (Ab.D.code ?_)
      refine OK.ret (Ret.r1 (.tmp rfl rfl (.c (.same rfl) rfl) rfl) ?_)
      refine ret_i ?_
      rw [he, hg, eachGo_drop _ (by omega), ← hbe, if_pos c71]
     ·
      refine OK.skip ?_
      refine Ab.D.blk ?_
      refine Ab.D.code (OK.reg ?_)
      refine RK.c (S.add .none rfl (.tmp rfl rfl) (.cint rfl) (IntWalk.i64_in _ (by omega)) (IntWalk.i64_in _ (by omega))) ?_
      refine RK.c (S.move .none rfl (.tmp rfl rfl)) ?_
      refine RK.nil ?_
      refine Ab.D.lp ⟨i + 1, ⟨by omega, ?_⟩, (by omega), rfl, rfl, rfl, rfl, trivial⟩
      rw [hg, eachGo_drop _ (by omega), if_neg (by rw [← hbe]; exact c71)]
  ·
   refine OK.exit rfl ?_
   refine Ab.D.code (OK.seq (OK.reg ?_))
   refine RK.c (S.assign .none rfl (.cint rfl)) ?_
   refine RK.nil (Ab.D.code ?_)
   refine OK.ret (Ret.r1 (.tmp rfl rfl (.c (.same rfl) rfl) rfl) ?_)
   refine ret_i ?_
   rw [he, hg, show i = l.length by omega, List.drop_length]
   rfl
theorem shp_leaves {last above falls ticks : Int} (hl : 0 ≤ last ∧ last ≤ 100000) (ha : 0 ≤ above ∧ above ≤ 20000) (hf : -20000 ≤ falls ∧ falls ≤ 20000) (ht : 0 ≤ ticks ∧ ticks ≤ 100000) : Ct Tryz.prog 56 [.int .i64 last, .int .i64 above, .int .i64 falls, .int .i64 ticks] (.tup [.int .i64 (if 0 < falls then leaveT last above falls ticks else 0), .bool (decide (0 < falls))]) := by
 refine Ct.intro (rs := [.tmp 8, .tmp 9]) Tryz.func56 rfl Tryz.ntmps56 Tryz.results56 rfl rfl rfl fun w h => ?_
 refine OK.seq (OK.reg ?_)
 refine RK.c (S.assign .none rfl (.cint rfl)) ?_
 refine RK.c (S.assign .none rfl .cbool) ?_
 refine RK.nil (Ab.D.code (OK.seq (OK.seq (OK.reg ?_))))
 refine RK.c (S.move .none rfl (.tmp rfl rfl)) ?_
 refine RK.c (S.leq .none rfl (.tmp rfl rfl) (.cint rfl)) ?_
 refine RK.nil (Ab.D.code ?_)
 refine OK.condD rfl rfl (fun c11 => ?_) (fun c11 => ?_)
 ·
  refine OK.seq (OK.reg ?_)
  refine RK.c (S.assign .none rfl (.cint rfl)) ?_
  refine RK.c (S.assign .none rfl .cbool) ?_
  refine RK.nil (Ab.D.code ?_)
  refine OK.ret (Ret.r2 (.tmp rfl rfl (.c (.same rfl) rfl) rfl) (.tmp rfl rfl (.c (.same rfl) rfl) rfl) ?_)
  rw [if_neg (by omega), decide_eq_false (by omega)]
 ·
  have hb := leave_bd ha (show 0 < falls by omega) ht
  refine OK.skip ?_
  refine Ab.D.code (OK.seq (OK.reg ?_))
  refine RK.c (S.move .none rfl (.tmp rfl rfl)) ?_
  refine RK.c (S.move .none rfl (.tmp rfl rfl)) ?_
  refine RK.c (S.move .none rfl (.tmp rfl rfl)) ?_
  refine RK.c (S.mul .none rfl (.tmp rfl rfl) (.tmp rfl rfl) (IntWalk.i64_in _ (by omega)) (IntWalk.i64_in _ (by omega))) ?_
  refine RK.c (S.move .none rfl (.tmp rfl rfl)) ?_
  refine RK.c (S.quo .none rfl (.tmp rfl rfl) (.tmp rfl rfl) (by omega) (IntWalk.i64_in _ (by omega)) (IntWalk.i64_in _ (by omega))) ?_
  refine RK.c (S.add .none rfl (.tmp rfl rfl) (.tmp rfl rfl) (IntWalk.i64_in _ (by omega)) (IntWalk.i64_in _ (by omega))) ?_
  refine RK.c (S.add .none rfl (.tmp rfl rfl) (.cint rfl) (IntWalk.i64_in _ (by omega)) (IntWalk.i64_in _ (by omega))) ?_
  refine RK.c (S.assign .none rfl (.tmp rfl rfl)) ?_
  refine RK.c (S.assign .none rfl .cbool) ?_
  refine RK.nil (Ab.D.code ?_)
  refine OK.ret (Ret.r2 (.tmp rfl rfl (.c (.same rfl) rfl) rfl) (.tmp rfl rfl (.c (.same rfl) rfl) rfl) ?_)
  rw [if_pos (by omega), decide_eq_true (by omega)]
  rfl
theorem lib_MinInts {l : List Int} (h0 : 0 < l.length) : Ct Tryz.prog 57 [ints l] (.int .i64 (minL l)) := by
 refine Ct.intro (rs := [.tmp 2]) Tryz.func57 rfl Tryz.ntmps57 Tryz.results57 rfl rfl rfl fun w h => ?_
 refine OK.slLen (rows := l.map (fun n => [.int .i64 n])) (t := 0) rfl rfl fun hlen => ?_
 rw [List.length_map] at hlen
 unfold maxLen at hlen
 refine OK.seq (OK.reg ?_)
 refine RK.c (S.assign .none rfl (.cint rfl)) ?_
 refine RK.nil (Ab.D.code (OK.seq (OK.seq (OK.reg ?_))))
 refine RK.c (S.move .none rfl (.tmp rfl rfl)) ?_
 refine RK.c (S.lenM si26 .none rfl (.tmp rfl rfl)) ?_
 refine RK.c (S.lss .none rfl (.tmp rfl rfl) (.cint rfl)) ?_
 refine RK.nil (Ab.D.code ?_)
 refine OK.condD rfl rfl (fun c7 => ?_) (fun c7 => ?_)
 ·
  exfalso
  omega
 ·
  refine OK.skip ?_
  refine Ab.D.code (OK.seq (OK.reg ?_))
  refine RK.c (S.move .none rfl (.tmp rfl rfl)) ?_
  refine RK.c (S.indexM (n := 0) si26 .none rfl (.tmp rfl rfl) (.cint rfl) rfl h0 rfl) ?_
  refine RK.c (S.load1 ti3 .none rfl (.tmp rfl rfl) rfl) ?_
  refine RK.c (S.assign .none rfl (.tmp rfl rfl)) ?_
  refine RK.nil (Ab.D.code (OK.seq (OK.seq (OK.reg ?_))))
  refine RK.c (S.assign .none rfl (.cint rfl)) ?_
  refine RK.nil (Ab.D.code ?_)
  refine OK.block ?_
  refine OK.loop (G := Nat) [] (fun i => [(0, ints l), (3, .int .i64 (minL (l.take i))), (4, .int .i64 i)]) (fun i => 1 ≤ i ∧ i ≤ l.length) (fun i => l.length - i) 1 ⟨Nat.le_refl _, h0⟩ ⟨rfl, (lkI (by match l, h0 with | x :: l, _ => rfl)), rfl, trivial⟩ (fun _ => rfl) ?_
  rintro i ⟨hi0, hi⟩
  refine OK.seq (OK.seq (OK.reg ?_))
  refine RK.c (S.move .none rfl (.tmp rfl rfl)) ?_
  refine RK.c (S.move .none rfl (.tmp rfl rfl)) ?_
  refine RK.c (S.lenM si26 .none rfl (.tmp rfl rfl)) ?_
  refine RK.c (S.lss .none rfl (.tmp rfl rfl) (.tmp rfl rfl)) ?_
  refine RK.nil (Ab.D.code ?_)
  refine OK.condD rfl rfl (fun c15 => ?_) (fun c15 => ?_)
  ·
   refine OK.skip ?_
   refine Ab.D.code ?_
   refine OK.seq ?_
   refine OK.block ?_
   refine OK.reg ?_
   refine RK.c (S.move .none rfl (.tmp rfl rfl)) ?_
   refine RK.c (S.move .none rfl (.tmp rfl rfl)) ?_
   refine RK.c (S.move .none rfl (.tmp rfl rfl)) ?_
   refine RK.c (S.indexM si26 .none rfl (.tmp rfl rfl) (.tmp rfl rfl) rfl (by omega) rfl) ?_
   refine RK.c (S.load1 ti3 .none rfl (.tmp rfl rfl) rfl) ?_
   refine RK.c (S.min2 .none rfl (.tmp rfl rfl) (.tmp rfl rfl)) ?_
   refine RK.c (S.assign .none rfl (.tmp rfl rfl)) ?_
   refine RK.nil ?_
   refine Ab.D.blk ?_
   refine Ab.D.code (OK.reg ?_)
   refine RK.c (S.move .none rfl (.tmp rfl rfl)) ?_
   refine RK.c (S.add .none rfl (.tmp rfl rfl) (.cint rfl) (IntWalk.i64_in _ (by omega)) (IntWalk.i64_in _ (by omega))) ?_
   refine RK.c (S.assign .none rfl (.tmp rfl rfl)) ?_
   refine RK.nil ?_
   refine Ab.D.lp ⟨i + 1, ⟨by omega, by omega⟩, (by omega), rfl, (lkI (by rw [minL_take (by omega) (by omega)]; rfl)), rfl, trivial⟩
  ·
   refine OK.exit rfl ?_
   refine Ab.D.code (OK.seq (OK.reg ?_))
   refine RK.c (S.move .none rfl (.tmp rfl rfl)) ?_
   refine RK.c (S.assign .none rfl (.tmp rfl rfl)) ?_
   refine RK.nil (Ab.D.code ?_)
   refine OK.ret (Ret.r1 (.tmp rfl rfl (.c (.same rfl) rfl) rfl) ?_)
   rw [show i = l.length by omega, List.take_length]
set_option maxHeartbeats 1000000 in
theorem shp_NextCheck {l : List Bath} {r : Range} : Ct Tryz.prog 23 [.sl (l.map Bath.cs), .agg r.cs] (.tup [.int .i64 (nextT l r), .int .i64 (nextE l r)]) := by
  refine Ct.intro (rs := [.tmp 4, .tmp 5]) Tryz.func23 rfl Tryz.ntmps23 Tryz.results23 rfl rfl rfl fun w h => ?_
  refine OK.slLen (rows := l.map Bath.cs) (t := 0) rfl rfl fun hlen => ?_
  rw [List.length_map] at hlen
  unfold maxLen at hlen
  refine OK.seq (OK.reg ?_)
  refine RK.c (S.box (k := 3) rfl .none rfl (.tmp rfl rfl) rfl) ?_
  refine RK.c (S.assign .none rfl (.cint rfl)) ?_
  refine RK.c (S.assign .none rfl (.cint rfl)) ?_
  refine RK.nil (Ab.D.code ?_)
  refine OK.seq ?_
  refine OK.seq ?_
  refine OK.regionDraw follows (.c (S.move .none rfl (.tmp rfl rfl))
    (.c (S.call (shp_readingsErr) Tryz.call55 .none rfl (.cons (.tmp rfl rfl) .nil) rfl)
    (.c (S.bloadN ti62 .none rfl (.tmp rfl rfl) rfl rfl rfl rfl)
    (.c (S.call (shp_limitsErr) Tryz.call50 .none rfl (.cons (.tmp rfl rfl) .nil) rfl)
    (.c (S.mkSlice (k := 20) (rows := [[_], [_]]) ai130 .none rfl (.cons (.tmp rfl rfl) (.cons (.tmp rfl rfl) .nil)) rfl rfl rfl rfl rfl rfl rfl)
    (.c (S.callL (shop_first (l := [_, _])) Tryz.call36 .none rfl (.cons (.tmp rfl rfl) .nil) (.cons (.p (.own rfl rfl) rfl) .nil) rfl)
    (.c (S.assign .none rfl (.tmp rfl rfl))
    .nil))))))) (by kernel_rfl) ?_
  refine Ab.D.code (OK.seq (OK.reg ?_))
  refine RK.c (S.move .none rfl (.tmp rfl rfl)) ?_
  refine RK.c (S.neq .none rfl (.tmp rfl rfl) (.cint rfl)) ?_
  refine RK.nil (Ab.D.code ?_)
  refine OK.condD rfl rfl (fun c23 => ?_) (fun c23 => ?_)
  ·
    refine OK.seq (OK.reg ?_)
    refine RK.c (S.move .none rfl (.tmp rfl rfl)) ?_
    refine RK.c (S.assign .none rfl (.cint rfl)) ?_
    refine RK.c (S.assign .none rfl (.tmp rfl rfl)) ?_
    refine RK.nil (Ab.D.code ?_)
    refine OK.ret (Ret.r2 (.tmp rfl rfl (.c (.same rfl) rfl) rfl) (.tmp rfl rfl (.c (.same rfl) rfl) rfl) ?_)
    have he : nextE l r = firstE [readE l, limE r] := by
      rw [firstE2] at c23 ⊢
      unfold nextE
      by_cases q : readE l ≠ 0
      · rw [if_pos q, if_pos q]
      · rw [if_neg q] at c23
        rw [if_neg q, if_neg q, if_pos c23]
    rw [nextT, if_neg (by rw [he]; exact c23), he]
  ·
    rw [firstE2] at c23
    have hv : readE l = 0 := by split at c23 <;> omega
    have hr : limE r = 0 := by rw [if_neg (by omega)] at c23; omega
    obtain ⟨q1, q2, q3⟩ := bath_get hv
    have ha := q3 (l.length - 2) (by omega)
    have hb := q3 (l.length - 1) (by omega)
    have hlr := lim_ok hr
    have hgl : nextLow l = l[l.length - 2] := getD_at (by omega)
    have hgt : nextTop l = l[l.length - 1] := getD_at (by omega)
    have hord : l[l.length - 2].tick < l[l.length - 1].tick := by
      rcases hb.2.2 with e | e
      · omega
      · simp only [show l.length - 1 - 1 = l.length - 2 by omega] at e
        rw [getD_at (by omega)] at e
        exact e
    refine OK.skip ?_
    refine Ab.D.code ?_
    refine OK.seq ?_
    refine OK.regionDraw follows (.c (S.move .none rfl (.tmp rfl rfl))
      (.c (S.move .none rfl (.tmp rfl rfl))
      (.c (S.lenM si66 .none rfl (.tmp rfl rfl))
      (.c (S.sub .none rfl (.tmp rfl rfl) (.cint rfl) (IntWalk.i64_in _ (by omega)) (IntWalk.i64_in _ (by omega)))
      (.c (S.indexM (n := l.length - 2) si66 .none rfl (.tmp rfl rfl) (.tmp rfl rfl) (by omega) (by omega) rfl)
      (.c (S.loadN ti65 .none rfl (.tmp rfl rfl) rfl rfl)
      (.c (S.move .none rfl (.tmp rfl rfl))
      (.c (S.move .none rfl (.tmp rfl rfl))
      (.c (S.lenM si66 .none rfl (.tmp rfl rfl))
      (.c (S.sub .none rfl (.tmp rfl rfl) (.cint rfl) (IntWalk.i64_in _ (by omega)) (IntWalk.i64_in _ (by omega)))
      (.c (S.indexM (n := l.length - 1) si66 .none rfl (.tmp rfl rfl) (.tmp rfl rfl) (by omega) (by omega) rfl)
      (.c (S.loadN ti65 .none rfl (.tmp rfl rfl) rfl rfl)
      (.c (S.alloc (k := 7) ze65 rfl .none rfl)
      (.c (S.alloc (k := 8) ze65 rfl .none rfl)
      (.c (S.store ti65 .none (.tmp rfl rfl) (.tmp rfl rfl) rfl rfl rfl rfl rfl rfl)
      (.c (S.store ti65 .none (.tmp rfl rfl) (.tmp rfl rfl) rfl rfl rfl rfl rfl rfl)
      .nil)))))))))))))))) (by kernel_rfl) ?_
    refine Ab.D.code ?_
    refine OK.seq ?_
    refine OK.regionDraw follows (.c (S.bfield fi65_1 .none rfl (.tmp rfl rfl))
      (.c (S.bfield fi62_0 .none rfl (.tmp rfl rfl))
      (.c (S.bload1 ti3 .none rfl (.tmp rfl rfl) rfl rfl rfl rfl)
      (.c (S.bfield fi62_0 .none rfl (.tmp rfl rfl))
      (.c (S.bload1 ti3 .none rfl (.tmp rfl rfl) rfl rfl rfl rfl)
      (.c (S.sub .none rfl (.tmp rfl rfl) (.tmp rfl rfl) (IntWalk.i64_in _ (by omega)) (IntWalk.i64_in _ (by omega)))
      (.c (S.bfield fi62_1 .none rfl (.tmp rfl rfl))
      (.c (S.bload1 ti3 .none rfl (.tmp rfl rfl) rfl rfl rfl rfl)
      (.c (S.bfield fi65_1 .none rfl (.tmp rfl rfl))
      (.c (S.bfield fi62_1 .none rfl (.tmp rfl rfl))
      (.c (S.bload1 ti3 .none rfl (.tmp rfl rfl) rfl rfl rfl rfl)
      (.c (S.sub .none rfl (.tmp rfl rfl) (.tmp rfl rfl) (IntWalk.i64_in _ (by omega)) (IntWalk.i64_in _ (by omega)))
      (.c (S.assign .none rfl (.tmp rfl rfl))
      (.c (S.assign .none rfl (.tmp rfl rfl))
      .nil)))))))))))))) (by kernel_rfl) ?_
    refine Ab.D.code (OK.seq (OK.seq (OK.reg ?_)))
    refine RK.c (S.move .none rfl (.tmp rfl rfl)) ?_
    refine RK.c (S.lss .none rfl (.tmp rfl rfl) (.cint rfl)) ?_
    refine RK.c (S.move .none rfl (.tmp rfl rfl)) ?_
    refine RK.splitD (t := 51) rfl (fun g51 => ?_) (fun g51 => ?_)
    ·
      refine RK.c (S.skip rfl rfl rfl rfl rfl) ?_
      refine RK.c (S.skip rfl rfl rfl rfl rfl) ?_
      refine RK.c (S.pickT .none rfl (.tmp rfl rfl) .cbool rfl) ?_
      refine RK.nil (Ab.D.code ?_)
      refine OK.condT rfl rfl rfl ?_
      refine OK.seq (OK.reg ?_)
      refine RK.c (S.assign .none rfl (.cint rfl)) ?_
      refine RK.c (S.assign .none rfl (.cint rfl)) ?_
      refine RK.nil (Ab.D.code ?_)
      refine OK.ret (Ret.r2 (.tmp rfl rfl (.c (.same rfl) rfl) rfl) (.tmp rfl rfl (.c (.same rfl) rfl) rfl) ?_)
      have he : nextE l r = 22 := by unfold nextE; rw [if_neg (by omega), if_neg (by omega), hgt, if_pos (by omega)]
      rw [nextT, if_neg (by omega), he]
    ·
      refine RK.c (S.move (.yes rfl rfl rfl rfl) rfl (.tmp rfl rfl)) ?_
      refine RK.c (S.lss (.yes rfl rfl rfl rfl) rfl (.tmp rfl rfl) (.cint rfl)) ?_
      refine RK.c (S.pickF .none rfl (.tmp rfl rfl) (.tmp rfl rfl) rfl) ?_
      refine RK.nil (Ab.D.code ?_)
      refine OK.condD rfl rfl (fun c54 => ?_) (fun c54 => ?_)
      ·
        refine OK.seq (OK.reg ?_)
        refine RK.c (S.assign .none rfl (.cint rfl)) ?_
        refine RK.c (S.assign .none rfl (.cint rfl)) ?_
        refine RK.nil (Ab.D.code ?_)
        refine OK.ret (Ret.r2 (.tmp rfl rfl (.c (.same rfl) rfl) rfl) (.tmp rfl rfl (.c (.same rfl) rfl) rfl) ?_)
        have he : nextE l r = 22 := by unfold nextE; rw [if_neg (by omega), if_neg (by omega), hgt, if_pos (by omega)]
        rw [nextT, if_neg (by omega), he]
      ·
        refine OK.skip ?_
        refine Ab.D.code (OK.seq (OK.reg ?_))
        refine RK.c (S.nilOwn (k := 11) (sz := 1) .none rfl) ?_
        refine RK.nil (Ab.D.code (OK.seq (OK.seq (OK.reg ?_))))
        refine RK.c (S.bfield fi65_0 .none rfl (.tmp rfl rfl)) ?_
        refine RK.c (S.bload1 ti3 .none rfl (.tmp rfl rfl) rfl rfl rfl rfl) ?_
        refine RK.c (S.move .none rfl (.tmp rfl rfl)) ?_
        refine RK.c (S.bfield fi65_1 .none rfl (.tmp rfl rfl)) ?_
        refine RK.c (S.bfield fi62_0 .none rfl (.tmp rfl rfl)) ?_
        refine RK.c (S.bload1 ti3 .none rfl (.tmp rfl rfl) rfl rfl rfl rfl) ?_
        refine RK.c (S.bfield fi65_1 .none rfl (.tmp rfl rfl)) ?_
        refine RK.c (S.bfield fi62_0 .none rfl (.tmp rfl rfl)) ?_
        refine RK.c (S.bload1 ti3 .none rfl (.tmp rfl rfl) rfl rfl rfl rfl) ?_
        refine RK.c (S.sub .none rfl (.tmp rfl rfl) (.tmp rfl rfl) (IntWalk.i64_in _ (by omega)) (IntWalk.i64_in _ (by omega))) ?_
        refine RK.c (S.bfield fi65_0 .none rfl (.tmp rfl rfl)) ?_
        refine RK.c (S.bload1 ti3 .none rfl (.tmp rfl rfl) rfl rfl rfl rfl) ?_
        refine RK.c (S.bfield fi65_0 .none rfl (.tmp rfl rfl)) ?_
        refine RK.c (S.bload1 ti3 .none rfl (.tmp rfl rfl) rfl rfl rfl rfl) ?_
        refine RK.c (S.sub .none rfl (.tmp rfl rfl) (.tmp rfl rfl) (IntWalk.i64_in _ (by omega)) (IntWalk.i64_in _ (by omega))) ?_
        refine RK.c (S.call (shp_leaves (by omega) (by omega) (by omega) (by omega)) Tryz.call56 .none rfl (.cons (.tmp rfl rfl) (.cons (.tmp rfl rfl) (.cons (.tmp rfl rfl) (.cons (.tmp rfl rfl) .nil)))) rfl) ?_
        refine RK.c (S.move .none rfl (.tmp rfl rfl)) ?_
        refine RK.c (S.extract .none rfl (.tmp rfl rfl) rfl rfl) ?_
        refine RK.c (S.extract .none rfl (.tmp rfl rfl) rfl rfl) ?_
        refine RK.c (S.assign .none rfl (.tmp rfl rfl)) ?_
        refine RK.c (S.assign .none rfl (.tmp rfl rfl)) ?_
        refine RK.nil (Ab.D.code (OK.seq (OK.reg ?_)))
        refine RK.c (S.move .none rfl (.tmp rfl rfl)) ?_
        refine RK.nil (Ab.D.code ?_)
        refine OK.condD rfl rfl (fun c74 => ?_) (fun c74 => ?_)
        ·
          refine OK.reg ?_
          refine RK.c (S.move .none rfl (.tmp rfl rfl)) ?_
          refine RK.c (S.move .none rfl (.tmp rfl rfl)) ?_
          refine RK.c (S.mkSlice (k := 77) (rows := [[_]]) ai26 .none rfl (.cons (.tmp rfl rfl) .nil) rfl rfl rfl rfl rfl rfl rfl) ?_
          refine RK.c (S.append ai26 .none rfl (.tmp rfl rfl) rfl (by first | rfl | (simp; done) | (simp; omega)) (.tmp rfl rfl) rfl (by first | rfl | (simp; done) | (simp; omega)) (by omega) (by simp only [maxLen]; omega)) ?_
          refine RK.c (S.assign .none rfl (.tmp rfl rfl)) ?_
          refine RK.nil (Ab.D.code (OK.seq (OK.seq (OK.reg ?_))))
          refine RK.c (S.bfield fi65_0 .none rfl (.tmp rfl rfl)) ?_
          refine RK.c (S.bload1 ti3 .none rfl (.tmp rfl rfl) rfl rfl rfl rfl) ?_
          refine RK.c (S.move .none rfl (.tmp rfl rfl)) ?_
          refine RK.c (S.bfield fi65_1 .none rfl (.tmp rfl rfl)) ?_
          refine RK.c (S.bfield fi62_1 .none rfl (.tmp rfl rfl)) ?_
          refine RK.c (S.bload1 ti3 .none rfl (.tmp rfl rfl) rfl rfl rfl rfl) ?_
          refine RK.c (S.bfield fi65_1 .none rfl (.tmp rfl rfl)) ?_
          refine RK.c (S.bfield fi62_1 .none rfl (.tmp rfl rfl)) ?_
          refine RK.c (S.bload1 ti3 .none rfl (.tmp rfl rfl) rfl rfl rfl rfl) ?_
          refine RK.c (S.sub .none rfl (.tmp rfl rfl) (.tmp rfl rfl) (IntWalk.i64_in _ (by omega)) (IntWalk.i64_in _ (by omega))) ?_
          refine RK.c (S.bfield fi65_0 .none rfl (.tmp rfl rfl)) ?_
          refine RK.c (S.bload1 ti3 .none rfl (.tmp rfl rfl) rfl rfl rfl rfl) ?_
          refine RK.c (S.bfield fi65_0 .none rfl (.tmp rfl rfl)) ?_
          refine RK.c (S.bload1 ti3 .none rfl (.tmp rfl rfl) rfl rfl rfl rfl) ?_
          refine RK.c (S.sub .none rfl (.tmp rfl rfl) (.tmp rfl rfl) (IntWalk.i64_in _ (by omega)) (IntWalk.i64_in _ (by omega))) ?_
          refine RK.c (S.call (shp_leaves (by omega) (by omega) (by omega) (by omega)) Tryz.call56 .none rfl (.cons (.tmp rfl rfl) (.cons (.tmp rfl rfl) (.cons (.tmp rfl rfl) (.cons (.tmp rfl rfl) .nil)))) rfl) ?_
          refine RK.c (S.move .none rfl (.tmp rfl rfl)) ?_
          refine RK.c (S.extract .none rfl (.tmp rfl rfl) rfl rfl) ?_
          refine RK.c (S.extract .none rfl (.tmp rfl rfl) rfl rfl) ?_
          refine RK.c (S.assign .none rfl (.tmp rfl rfl)) ?_
          refine RK.c (S.assign .none rfl (.tmp rfl rfl)) ?_
          refine RK.nil (Ab.D.code (OK.seq (OK.reg ?_)))
          refine RK.c (S.move .none rfl (.tmp rfl rfl)) ?_
          refine RK.nil (Ab.D.code ?_)
          refine OK.condD rfl rfl (fun c98 => ?_) (fun c98 => ?_)
          ·
            refine OK.reg ?_
            refine RK.c (S.move .none rfl (.tmp rfl rfl)) ?_
            refine RK.c (S.move .none rfl (.tmp rfl rfl)) ?_
            refine RK.c (S.mkSlice (k := 101) (rows := [[_]]) ai26 .none rfl (.cons (.tmp rfl rfl) .nil) rfl rfl rfl rfl rfl rfl rfl) ?_
            refine RK.c (S.append ai26 .none rfl (.tmp rfl rfl) rfl (by first | rfl | (simp; done) | (simp; omega)) (.tmp rfl rfl) rfl (by first | rfl | (simp; done) | (simp; omega)) (by omega) (by simp only [maxLen]; omega)) ?_
            refine RK.c (S.assign .none rfl (.tmp rfl rfl)) ?_
            refine RK.nil (Ab.D.code (OK.seq (OK.seq (OK.reg ?_))))
            refine RK.c (S.move .none rfl (.tmp rfl rfl)) ?_
            refine RK.c (S.lenOwn si26 .none rfl (.tmp rfl rfl) rfl rfl) ?_
            refine RK.c (S.eql .none rfl (.tmp rfl rfl) (.cint rfl)) ?_
            refine RK.nil (Ab.D.code ?_)
            refine OK.condD rfl rfl (fun c105 => ?_) (fun c105 => ?_)
            ·
              exfalso
              omega
            ·
              refine OK.skip ?_
              refine Ab.D.code (OK.seq (OK.reg ?_))
              refine RK.c (S.move .none rfl (.tmp rfl rfl)) ?_
              refine RK.c (S.callL ((by first | exact lib_MinInts (l := [(if 0 < l[l.length - 2].value.lo - l[l.length - 1].value.lo then leaveT l[l.length - 1].tick (l[l.length - 1].value.lo - r.lo) (l[l.length - 2].value.lo - l[l.length - 1].value.lo) (l[l.length - 1].tick - l[l.length - 2].tick) else 0), (if 0 < l[l.length - 1].value.hi - l[l.length - 2].value.hi then leaveT l[l.length - 1].tick (r.hi - l[l.length - 1].value.hi) (l[l.length - 1].value.hi - l[l.length - 2].value.hi) (l[l.length - 1].tick - l[l.length - 2].tick) else 0)]) (Nat.succ_pos _) | exact lib_MinInts (l := [(if 0 < l[l.length - 2].value.lo - l[l.length - 1].value.lo then leaveT l[l.length - 1].tick (l[l.length - 1].value.lo - r.lo) (l[l.length - 2].value.lo - l[l.length - 1].value.lo) (l[l.length - 1].tick - l[l.length - 2].tick) else 0)]) (Nat.succ_pos _) | exact lib_MinInts (l := [(if 0 < l[l.length - 1].value.hi - l[l.length - 2].value.hi then leaveT l[l.length - 1].tick (r.hi - l[l.length - 1].value.hi) (l[l.length - 1].value.hi - l[l.length - 2].value.hi) (l[l.length - 1].tick - l[l.length - 2].tick) else 0)]) (Nat.succ_pos _))) Tryz.call57 .none rfl (.cons (.tmp rfl rfl) .nil) (.cons (.p (.own rfl rfl) rfl) .nil) rfl) ?_
              refine RK.c (S.assign .none rfl (.tmp rfl rfl)) ?_
              refine RK.c (S.assign .none rfl (.cint rfl)) ?_
              refine RK.nil (Ab.D.code ?_)
              refine OK.ret (Ret.r2 (.tmp rfl rfl (.c (.same rfl) rfl) rfl) (.tmp rfl rfl (.c (.same rfl) rfl) rfl) ?_)
              have hnt : nextTicks (nextLow l) (nextTop l) r = [leaveT l[l.length - 1].tick (l[l.length - 1].value.lo - r.lo) (l[l.length - 2].value.lo - l[l.length - 1].value.lo) (l[l.length - 1].tick - l[l.length - 2].tick), leaveT l[l.length - 1].tick (r.hi - l[l.length - 1].value.hi) (l[l.length - 1].value.hi - l[l.length - 2].value.hi) (l[l.length - 1].tick - l[l.length - 2].tick)] := by rw [hgl, hgt, nextTicks, if_pos c74, if_pos c98]; rfl
              have he : nextE l r = 0 := by unfold nextE; rw [if_neg (by omega), if_neg (by omega), hnt, hgt, if_neg (by omega), if_neg (by simp)]
              rw [if_pos c74, if_pos c98, nextT, if_pos he, hnt, he]
          ·
            refine OK.skip ?_
            refine Ab.D.code (OK.seq (OK.seq (OK.reg ?_)))
            refine RK.c (S.move .none rfl (.tmp rfl rfl)) ?_
            refine RK.c (S.lenOwn si26 .none rfl (.tmp rfl rfl) rfl rfl) ?_
            refine RK.c (S.eql .none rfl (.tmp rfl rfl) (.cint rfl)) ?_
            refine RK.nil (Ab.D.code ?_)
            refine OK.condD rfl rfl (fun c105 => ?_) (fun c105 => ?_)
            ·
              exfalso
              omega
            ·
              refine OK.skip ?_
              refine Ab.D.code (OK.seq (OK.reg ?_))
              refine RK.c (S.move .none rfl (.tmp rfl rfl)) ?_
              refine RK.c (S.callL ((by first | exact lib_MinInts (l := [(if 0 < l[l.length - 2].value.lo - l[l.length - 1].value.lo then leaveT l[l.length - 1].tick (l[l.length - 1].value.lo - r.lo) (l[l.length - 2].value.lo - l[l.length - 1].value.lo) (l[l.length - 1].tick - l[l.length - 2].tick) else 0), (if 0 < l[l.length - 1].value.hi - l[l.length - 2].value.hi then leaveT l[l.length - 1].tick (r.hi - l[l.length - 1].value.hi) (l[l.length - 1].value.hi - l[l.length - 2].value.hi) (l[l.length - 1].tick - l[l.length - 2].tick) else 0)]) (Nat.succ_pos _) | exact lib_MinInts (l := [(if 0 < l[l.length - 2].value.lo - l[l.length - 1].value.lo then leaveT l[l.length - 1].tick (l[l.length - 1].value.lo - r.lo) (l[l.length - 2].value.lo - l[l.length - 1].value.lo) (l[l.length - 1].tick - l[l.length - 2].tick) else 0)]) (Nat.succ_pos _) | exact lib_MinInts (l := [(if 0 < l[l.length - 1].value.hi - l[l.length - 2].value.hi then leaveT l[l.length - 1].tick (r.hi - l[l.length - 1].value.hi) (l[l.length - 1].value.hi - l[l.length - 2].value.hi) (l[l.length - 1].tick - l[l.length - 2].tick) else 0)]) (Nat.succ_pos _))) Tryz.call57 .none rfl (.cons (.tmp rfl rfl) .nil) (.cons (.p (.own rfl rfl) rfl) .nil) rfl) ?_
              refine RK.c (S.assign .none rfl (.tmp rfl rfl)) ?_
              refine RK.c (S.assign .none rfl (.cint rfl)) ?_
              refine RK.nil (Ab.D.code ?_)
              refine OK.ret (Ret.r2 (.tmp rfl rfl (.c (.same rfl) rfl) rfl) (.tmp rfl rfl (.c (.same rfl) rfl) rfl) ?_)
              have hnt : nextTicks (nextLow l) (nextTop l) r = [leaveT l[l.length - 1].tick (l[l.length - 1].value.lo - r.lo) (l[l.length - 2].value.lo - l[l.length - 1].value.lo) (l[l.length - 1].tick - l[l.length - 2].tick)] := by rw [hgl, hgt, nextTicks, if_pos c74, if_neg c98]; rfl
              have he : nextE l r = 0 := by unfold nextE; rw [if_neg (by omega), if_neg (by omega), hnt, hgt, if_neg (by omega), if_neg (by simp)]
              rw [if_pos c74, nextT, if_pos he, hnt, he]
        ·
          refine OK.skip ?_
          refine Ab.D.code (OK.seq (OK.seq (OK.reg ?_)))
          refine RK.c (S.bfield fi65_0 .none rfl (.tmp rfl rfl)) ?_
          refine RK.c (S.bload1 ti3 .none rfl (.tmp rfl rfl) rfl rfl rfl rfl) ?_
          refine RK.c (S.move .none rfl (.tmp rfl rfl)) ?_
          refine RK.c (S.bfield fi65_1 .none rfl (.tmp rfl rfl)) ?_
          refine RK.c (S.bfield fi62_1 .none rfl (.tmp rfl rfl)) ?_
          refine RK.c (S.bload1 ti3 .none rfl (.tmp rfl rfl) rfl rfl rfl rfl) ?_
          refine RK.c (S.bfield fi65_1 .none rfl (.tmp rfl rfl)) ?_
          refine RK.c (S.bfield fi62_1 .none rfl (.tmp rfl rfl)) ?_
          refine RK.c (S.bload1 ti3 .none rfl (.tmp rfl rfl) rfl rfl rfl rfl) ?_
          refine RK.c (S.sub .none rfl (.tmp rfl rfl) (.tmp rfl rfl) (IntWalk.i64_in _ (by omega)) (IntWalk.i64_in _ (by omega))) ?_
          refine RK.c (S.bfield fi65_0 .none rfl (.tmp rfl rfl)) ?_
          refine RK.c (S.bload1 ti3 .none rfl (.tmp rfl rfl) rfl rfl rfl rfl) ?_
          refine RK.c (S.bfield fi65_0 .none rfl (.tmp rfl rfl)) ?_
          refine RK.c (S.bload1 ti3 .none rfl (.tmp rfl rfl) rfl rfl rfl rfl) ?_
          refine RK.c (S.sub .none rfl (.tmp rfl rfl) (.tmp rfl rfl) (IntWalk.i64_in _ (by omega)) (IntWalk.i64_in _ (by omega))) ?_
          refine RK.c (S.call (shp_leaves (by omega) (by omega) (by omega) (by omega)) Tryz.call56 .none rfl (.cons (.tmp rfl rfl) (.cons (.tmp rfl rfl) (.cons (.tmp rfl rfl) (.cons (.tmp rfl rfl) .nil)))) rfl) ?_
          refine RK.c (S.move .none rfl (.tmp rfl rfl)) ?_
          refine RK.c (S.extract .none rfl (.tmp rfl rfl) rfl rfl) ?_
          refine RK.c (S.extract .none rfl (.tmp rfl rfl) rfl rfl) ?_
          refine RK.c (S.assign .none rfl (.tmp rfl rfl)) ?_
          refine RK.c (S.assign .none rfl (.tmp rfl rfl)) ?_
          refine RK.nil (Ab.D.code (OK.seq (OK.reg ?_)))
          refine RK.c (S.move .none rfl (.tmp rfl rfl)) ?_
          refine RK.nil (Ab.D.code ?_)
          refine OK.condD rfl rfl (fun c98 => ?_) (fun c98 => ?_)
          ·
            refine OK.reg ?_
            refine RK.c (S.move .none rfl (.tmp rfl rfl)) ?_
            refine RK.c (S.move .none rfl (.tmp rfl rfl)) ?_
            refine RK.c (S.mkSlice (k := 101) (rows := [[_]]) ai26 .none rfl (.cons (.tmp rfl rfl) .nil) rfl rfl rfl rfl rfl rfl rfl) ?_
            refine RK.c (S.append ai26 .none rfl (.tmp rfl rfl) rfl (by first | rfl | (simp; done) | (simp; omega)) (.tmp rfl rfl) rfl (by first | rfl | (simp; done) | (simp; omega)) (by omega) (by simp only [maxLen]; omega)) ?_
            refine RK.c (S.assign .none rfl (.tmp rfl rfl)) ?_
            refine RK.nil (Ab.D.code (OK.seq (OK.seq (OK.reg ?_))))
            refine RK.c (S.move .none rfl (.tmp rfl rfl)) ?_
            refine RK.c (S.lenOwn si26 .none rfl (.tmp rfl rfl) rfl rfl) ?_
            refine RK.c (S.eql .none rfl (.tmp rfl rfl) (.cint rfl)) ?_
            refine RK.nil (Ab.D.code ?_)
            refine OK.condD rfl rfl (fun c105 => ?_) (fun c105 => ?_)
            ·
              exfalso
              omega
            ·
              refine OK.skip ?_
              refine Ab.D.code (OK.seq (OK.reg ?_))
              refine RK.c (S.move .none rfl (.tmp rfl rfl)) ?_
              refine RK.c (S.callL ((by first | exact lib_MinInts (l := [(if 0 < l[l.length - 2].value.lo - l[l.length - 1].value.lo then leaveT l[l.length - 1].tick (l[l.length - 1].value.lo - r.lo) (l[l.length - 2].value.lo - l[l.length - 1].value.lo) (l[l.length - 1].tick - l[l.length - 2].tick) else 0), (if 0 < l[l.length - 1].value.hi - l[l.length - 2].value.hi then leaveT l[l.length - 1].tick (r.hi - l[l.length - 1].value.hi) (l[l.length - 1].value.hi - l[l.length - 2].value.hi) (l[l.length - 1].tick - l[l.length - 2].tick) else 0)]) (Nat.succ_pos _) | exact lib_MinInts (l := [(if 0 < l[l.length - 2].value.lo - l[l.length - 1].value.lo then leaveT l[l.length - 1].tick (l[l.length - 1].value.lo - r.lo) (l[l.length - 2].value.lo - l[l.length - 1].value.lo) (l[l.length - 1].tick - l[l.length - 2].tick) else 0)]) (Nat.succ_pos _) | exact lib_MinInts (l := [(if 0 < l[l.length - 1].value.hi - l[l.length - 2].value.hi then leaveT l[l.length - 1].tick (r.hi - l[l.length - 1].value.hi) (l[l.length - 1].value.hi - l[l.length - 2].value.hi) (l[l.length - 1].tick - l[l.length - 2].tick) else 0)]) (Nat.succ_pos _))) Tryz.call57 .none rfl (.cons (.tmp rfl rfl) .nil) (.cons (.p (.own rfl rfl) rfl) .nil) rfl) ?_
              refine RK.c (S.assign .none rfl (.tmp rfl rfl)) ?_
              refine RK.c (S.assign .none rfl (.cint rfl)) ?_
              refine RK.nil (Ab.D.code ?_)
              refine OK.ret (Ret.r2 (.tmp rfl rfl (.c (.same rfl) rfl) rfl) (.tmp rfl rfl (.c (.same rfl) rfl) rfl) ?_)
              have hnt : nextTicks (nextLow l) (nextTop l) r = [leaveT l[l.length - 1].tick (r.hi - l[l.length - 1].value.hi) (l[l.length - 1].value.hi - l[l.length - 2].value.hi) (l[l.length - 1].tick - l[l.length - 2].tick)] := by rw [hgl, hgt, nextTicks, if_neg c74, if_pos c98]; rfl
              have he : nextE l r = 0 := by unfold nextE; rw [if_neg (by omega), if_neg (by omega), hnt, hgt, if_neg (by omega), if_neg (by simp)]
              rw [if_pos c98, nextT, if_pos he, hnt, he]
          ·
            refine OK.skip ?_
            refine Ab.D.code (OK.seq (OK.seq (OK.reg ?_)))
            refine RK.c (S.move .none rfl (.tmp rfl rfl)) ?_
            refine RK.c (S.lenOwn si26 .none rfl (.tmp rfl rfl) rfl rfl) ?_
            refine RK.c (S.eql .none rfl (.tmp rfl rfl) (.cint rfl)) ?_
            refine RK.nil (Ab.D.code ?_)
            refine OK.condD rfl rfl (fun c105 => ?_) (fun c105 => ?_)
            ·
              refine OK.seq (OK.reg ?_)
              refine RK.c (S.assign .none rfl (.cint rfl)) ?_
              refine RK.c (S.assign .none rfl (.cint rfl)) ?_
              refine RK.nil (Ab.D.code ?_)
              refine OK.ret (Ret.r2 (.tmp rfl rfl (.c (.same rfl) rfl) rfl) (.tmp rfl rfl (.c (.same rfl) rfl) rfl) ?_)
              have hnt : nextTicks (nextLow l) (nextTop l) r = [] := by rw [hgl, hgt, nextTicks, if_neg c74, if_neg c98]; rfl
              have he : nextE l r = 12 := by unfold nextE; rw [if_neg (by omega), if_neg (by omega), hnt, hgt, if_neg (by omega)]; rfl
              rw [nextT, if_neg (by omega), he]
            ·
              exfalso
              omega
end Go.Proofs.YtbnimikgjjjcaaaGreatDoor
