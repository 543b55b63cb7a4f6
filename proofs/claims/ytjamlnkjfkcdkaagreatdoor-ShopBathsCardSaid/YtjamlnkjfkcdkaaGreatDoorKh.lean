/-
  The shop: copies; the references of values, limits, charts and capabilities; the law of capabilities.
-/
import Derived.Test.YtjamlnkjfkcdkaaGreatDoorKg
import Derived.Test.YtjamlnkjfkcdkaaGreatDoorKz
namespace Go.Proofs.YtjamlnkjfkcdkaaGreatDoor
open Go.Ab
theorem gcdT_nat : ∀ (n m : Nat), gcdT (m : Int) (n : Int) = (Nat.gcd m n : Int) := by
  intro n
  induction n using Nat.strongRecOn with
  | ind n ih =>
    intro m
    rcases Nat.eq_zero_or_pos n with rfl | hn
    · rw [Nat.gcd_zero_right]; exact gcdT_0 _
    · rw [gcdT_step (by omega) (by omega) (by omega)]
      show gcdT (n : Int) ((m % n : Nat) : Int) = _
      rw [ih (m % n) (Nat.mod_lt _ hn) n, Nat.gcd_comm n (m % n), ← Nat.gcd_rec, Nat.gcd_comm]
/-- A fraction in lowest terms. -/
theorem low_gcd {a b : Int} (ha : 0 ≤ a) (hb : 1 ≤ b) : gcdT (a.tdiv (gcdT a b)) (b.tdiv (gcdT a b)) = 1 := by
  obtain ⟨m, rfl⟩ := Int.eq_ofNat_of_zero_le ha
  obtain ⟨n, rfl⟩ := Int.eq_ofNat_of_zero_le (show 0 ≤ b by omega)
  have hn : 0 < n := by omega
  rw [gcdT_nat]
  show gcdT ((m / Nat.gcd m n : Nat) : Int) ((n / Nat.gcd m n : Nat) : Int) = 1
  rw [gcdT_nat, Nat.gcd_div (Nat.gcd_dvd_left m n) (Nat.gcd_dvd_right m n), Nat.div_self (Nat.gcd_pos_of_pos_right m hn)]
  rfl
theorem low_den {a b : Int} (ha : 0 ≤ a) (hb : 1 ≤ b) : 1 ≤ b.tdiv (gcdT a b) := by
  obtain ⟨m, rfl⟩ := Int.eq_ofNat_of_zero_le ha
  obtain ⟨n, rfl⟩ := Int.eq_ofNat_of_zero_le (show 0 ≤ b by omega)
  have hn : 0 < n := by omega
  rw [gcdT_nat]
  show 1 ≤ ((n / Nat.gcd m n : Nat) : Int)
  have := Nat.div_pos (Nat.le_of_dvd hn (Nat.gcd_dvd_right m n)) (Nat.gcd_pos_of_pos_right m hn)
  omega

theorem ret_dT {p : Prop} [Decidable p] (h : p) : X.bool (decide p) = X.bool true := by rw [decide_eq_true h]
theorem ret_abs {x y : X} (h : False) : x = y := h.elim
theorem sq_dist (x : Int) : ∀ l : List Int, 0 ≤ sqT l - 2 * sumT l * x + l.length * (x * x)
  | [] => by simp [sqT, sumT]
  | y :: l => by
    have h1 := sq_dist x l
    have h2 : 0 ≤ (y - x) * (y - x) := by
      by_cases h : 0 ≤ y - x
      · exact Int.mul_nonneg h h
      · have := Int.mul_nonneg (a := -(y - x)) (b := -(y - x)) (by omega) (by omega)
        rwa [Int.neg_mul_neg] at this
    have h3 : sqT (y :: l) = y * y + sqT l := by simp [sqT]
    have h4 : sumT (y :: l) = y + sumT l := by simp [sumT]
    rw [h3, h4, List.length_cons]
    have h5 : (y * y + sqT l) - 2 * (y + sumT l) * x + ((l.length + 1 : Nat) : Int) * (x * x) = (sqT l - 2 * sumT l * x + l.length * (x * x)) + (y - x) * (y - x) := by
      push_cast
      grind
    omega
/-- The spread of values is never below 0. -/
theorem spread_nn : ∀ l : List Int, 0 ≤ spreadT (chartT l)
  | [] => by simp [spreadT, chartT, sumT, sqT]
  | y :: l => by
    have h1 := spread_nn l
    have h2 := sq_dist y l
    have h3 : sqT (y :: l) = y * y + sqT l := by simp [sqT]
    have h4 : sumT (y :: l) = y + sumT l := by simp [sumT]
    unfold spreadT chartT at *
    simp only [h3, h4, List.length_cons] at *
    have h5 : ((l.length + 1 : Nat) : Int) * (y * y + sqT l) - (y + sumT l) * (y + sumT l) = ((l.length : Int) * sqT l - sumT l * sumT l) + (sqT l - 2 * sumT l * y + l.length * (y * y)) := by
      push_cast
      grind
    omega
theorem capM_eq (l : List Int) (r : Range) : (if 0 < (if (chartT l).count * r.hi - (chartT l).sum < (chartT l).sum - (chartT l).count * r.lo then (chartT l).count * r.hi - (chartT l).sum else (chartT l).sum - (chartT l).count * r.lo) then (if (chartT l).count * r.hi - (chartT l).sum < (chartT l).sum - (chartT l).count * r.lo then (chartT l).count * r.hi - (chartT l).sum else (chartT l).sum - (chartT l).count * r.lo) else 0) = capM l r := by
  unfold capM minI offT
  have h1 : 0 - ((chartT l).count * r.lo - (chartT l).sum) = (chartT l).sum - (chartT l).count * r.lo := by omega
  rw [h1]
def capsE (l : List Int) (r : Range) : Int := if valsE l = 0 then limE r else valsE l
theorem caps_ne {l : List Int} {r : Range} (h : capsE l r ≠ 0) : capE l r = capsE l r ∧ capT l r = ⟨0, 0⟩ := by
  have he : capE l r = capsE l r := by
    unfold capsE at *
    unfold capE
    by_cases q : valsE l = 0
    · rw [if_pos q] at h ⊢; rw [if_neg (by omega), if_pos h]
    · rw [if_neg q] at h ⊢; rw [if_pos q]
  exact ⟨he, if_neg (by rw [he]; exact h)⟩
theorem all_drop9 (g : Int → Bool) {l : List Int} {i : Nat} (h : i < l.length) : (l.drop i).all g = (g l[i] && (l.drop (i + 1)).all g) := by rw [List.drop_eq_getElem_cons h, List.all_cons]


theorem base_CopyInts {l : List Int} (hlen : l.length ≤ 100000) : Ct Tryz.prog 32 [.sl (l.map (fun n => [.int .i64 n]))] (.sl (l.map (fun n => [.int .i64 n]))) := by
  refine Ct.intro (rs := [.tmp 2]) Tryz.func32 rfl Tryz.ntmps32 Tryz.results32 rfl rfl rfl fun w h => ?_
  refine OK.seq ?_
  refine OK.reg ?_
  refine RK.c (S.assign .none rfl .cnil) ?_
  refine RK.nil ?_
  refine Ab.D.code ?_
  refine OK.seq ?_
  refine OK.reg ?_
  refine RK.c (S.mkSlice (k := 3) (rows := []) ai30 .none rfl .nil rfl rfl rfl rfl rfl rfl rfl) ?_
  refine RK.c (S.move .none rfl (.tmp rfl rfl)) ?_
  refine RK.c (S.appendSl ai30 .none rfl (.tmp rfl rfl) rfl (by first | rfl | (simp; done) | (simp; omega)) (.tmp rfl rfl) (by intro q hq; obtain ⟨b, _, rfl⟩ := List.mem_map.1 hq; rfl) rfl (by simp only [List.length_map]; omega) (by simp only [maxLen, List.length_map]; omega)) ?_
  refine RK.c (S.assign .none rfl (.tmp rfl rfl)) ?_
  refine RK.nil ?_
  refine Ab.D.code ?_
  refine OK.ret (Ret.r1 (.tmp rfl rfl (.c (.own rfl rfl (by first | rfl | (simp; done) | (simp; omega))) rfl) rfl) ?_)
  rfl

theorem ref9_CopyJobs {l : List Job} (hlen : l.length ≤ 100000) : Ct Tryz.prog 20 [.sl (l.map Job.cs)] (.sl (l.map Job.cs)) := by
  refine Ct.intro (rs := [.tmp 2]) Tryz.func20 rfl Tryz.ntmps20 Tryz.results20 rfl rfl rfl fun w h => ?_
  refine OK.seq ?_
  refine OK.reg ?_
  refine RK.c (S.assign .none rfl .cnil) ?_
  refine RK.nil ?_
  refine Ab.D.code ?_
  refine OK.seq ?_
  refine OK.reg ?_
  refine RK.c (S.mkSlice (k := 3) (rows := []) ai22 .none rfl .nil rfl rfl rfl rfl rfl rfl rfl) ?_
  refine RK.c (S.move .none rfl (.tmp rfl rfl)) ?_
  refine RK.c (S.appendSl ai22 .none rfl (.tmp rfl rfl) rfl (by first | rfl | (simp; done) | (simp; omega)) (.tmp rfl rfl) (by intro q hq; obtain ⟨b, _, rfl⟩ := List.mem_map.1 hq; rfl) rfl (by simp only [List.length_map]; omega) (by simp only [maxLen, List.length_map]; omega)) ?_
  refine RK.c (S.assign .none rfl (.tmp rfl rfl)) ?_
  refine RK.nil ?_
  refine Ab.D.code ?_
  refine OK.ret (Ret.r1 (.tmp rfl rfl (.c (.own rfl rfl (by first | rfl | (simp; done) | (simp; omega))) rfl) rfl) ?_)
  rfl

theorem ref9_CopyLots {l : List Lot} (hlen : l.length ≤ 100000) : Ct Tryz.prog 62 [.sl (l.map Lot.cs)] (.sl (l.map Lot.cs)) := by
  refine Ct.intro (rs := [.tmp 2]) Tryz.func62 rfl Tryz.ntmps62 Tryz.results62 rfl rfl rfl fun w h => ?_
  refine OK.seq ?_
  refine OK.reg ?_
  refine RK.c (S.assign .none rfl .cnil) ?_
  refine RK.nil ?_
  refine Ab.D.code ?_
  refine OK.seq ?_
  refine OK.reg ?_
  refine RK.c (S.mkSlice (k := 3) (rows := []) ai97 .none rfl .nil rfl rfl rfl rfl rfl rfl rfl) ?_
  refine RK.c (S.move .none rfl (.tmp rfl rfl)) ?_
  refine RK.c (S.appendSl ai97 .none rfl (.tmp rfl rfl) rfl (by first | rfl | (simp; done) | (simp; omega)) (.tmp rfl rfl) (by intro q hq; obtain ⟨b, _, rfl⟩ := List.mem_map.1 hq; rfl) rfl (by simp only [List.length_map]; omega) (by simp only [maxLen, List.length_map]; omega)) ?_
  refine RK.c (S.assign .none rfl (.tmp rfl rfl)) ?_
  refine RK.nil ?_
  refine Ab.D.code ?_
  refine OK.ret (Ret.r1 (.tmp rfl rfl (.c (.own rfl rfl (by first | rfl | (simp; done) | (simp; omega))) rfl) rfl) ?_)
  rfl

theorem ref9_CopyRuns {l : List Run} (hlen : l.length ≤ 100000) : Ct Tryz.prog 29 [.sl (l.map Run.cs)] (.sl (l.map Run.cs)) := by
  refine Ct.intro (rs := [.tmp 2]) Tryz.func29 rfl Tryz.ntmps29 Tryz.results29 rfl rfl rfl fun w h => ?_
  refine OK.seq ?_
  refine OK.reg ?_
  refine RK.c (S.assign .none rfl .cnil) ?_
  refine RK.nil ?_
  refine Ab.D.code ?_
  refine OK.seq ?_
  refine OK.reg ?_
  refine RK.c (S.mkSlice (k := 3) (rows := []) ai41 .none rfl .nil rfl rfl rfl rfl rfl rfl rfl) ?_
  refine RK.c (S.move .none rfl (.tmp rfl rfl)) ?_
  refine RK.c (S.appendSl ai41 .none rfl (.tmp rfl rfl) rfl (by first | rfl | (simp; done) | (simp; omega)) (.tmp rfl rfl) (by intro q hq; obtain ⟨b, _, rfl⟩ := List.mem_map.1 hq; rfl) rfl (by simp only [List.length_map]; omega) (by simp only [maxLen, List.length_map]; omega)) ?_
  refine RK.c (S.assign .none rfl (.tmp rfl rfl)) ?_
  refine RK.nil ?_
  refine Ab.D.code ?_
  refine OK.ret (Ret.r1 (.tmp rfl rfl (.c (.own rfl rfl (by first | rfl | (simp; done) | (simp; omega))) rfl) rfl) ?_)
  rfl

theorem ref9_CopyBath {l : List Bath} (hlen : l.length ≤ 100000) : Ct Tryz.prog 46 [.sl (l.map Bath.cs)] (.sl (l.map Bath.cs)) := by
  refine Ct.intro (rs := [.tmp 2]) Tryz.func46 rfl Tryz.ntmps46 Tryz.results46 rfl rfl rfl fun w h => ?_
  refine OK.seq ?_
  refine OK.reg ?_
  refine RK.c (S.assign .none rfl .cnil) ?_
  refine RK.nil ?_
  refine Ab.D.code ?_
  refine OK.seq ?_
  refine OK.reg ?_
  refine RK.c (S.mkSlice (k := 3) (rows := []) ai77 .none rfl .nil rfl rfl rfl rfl rfl rfl rfl) ?_
  refine RK.c (S.move .none rfl (.tmp rfl rfl)) ?_
  refine RK.c (S.appendSl ai77 .none rfl (.tmp rfl rfl) rfl (by first | rfl | (simp; done) | (simp; omega)) (.tmp rfl rfl) (by intro q hq; obtain ⟨b, _, rfl⟩ := List.mem_map.1 hq; rfl) rfl (by simp only [List.length_map]; omega) (by simp only [maxLen, List.length_map]; omega)) ?_
  refine RK.c (S.assign .none rfl (.tmp rfl rfl)) ?_
  refine RK.nil ?_
  refine Ab.D.code ?_
  refine OK.ret (Ret.r1 (.tmp rfl rfl (.c (.own rfl rfl (by first | rfl | (simp; done) | (simp; omega))) rfl) rfl) ?_)
  rfl

theorem base_CopyLists {l : List (List Int)} (hlen : l.length ≤ 100000) (hr : ∀ r ∈ l, r.length ≤ 100000) : Ct Tryz.prog 95 [.sl (l.map fun l => [.sl (l.map fun n => [.int .i64 n])])] (.sl (l.map fun l => [.sl (l.map fun n => [.int .i64 n])])) := by
  refine Ct.intro (rs := [.tmp 2]) Tryz.func95 rfl Tryz.ntmps95 Tryz.results95 rfl rfl rfl fun w h => ?_
  refine OK.seq ?_
  refine OK.reg ?_
  refine RK.c (S.assign .none rfl .cnil) ?_
  refine RK.nil ?_
  refine Ab.D.code ?_
  refine OK.seq ?_
  refine OK.reg ?_
  refine RK.c (S.nilOwn (k := 3) (sz := 1) .none rfl) ?_
  refine RK.nil ?_
  refine Ab.D.code ?_
  refine OK.seq ?_
  refine OK.seq ?_
  refine OK.reg ?_
  refine RK.c (S.assign .none rfl (.cint rfl)) ?_
  refine RK.nil ?_
  refine Ab.D.code ?_
  refine OK.block ?_
  refine OK.loop (G := Nat) [3] (fun i => [(0, .sl (l.map fun l => [.sl (l.map fun n => [.int .i64 n])])), (3, .own 3 i), (2003, .arr 1 ((l.take i).map fun l => [.sl (l.map fun n => [.int .i64 n])])), (4, .int .i64 i)]) (fun i => i ≤ l.length) (fun i => l.length - i) 0 (Nat.zero_le _) ⟨rfl, (lk_own (by first | rfl | (simp; done) | (simp; omega))), (lk_arr (by first | rfl | (simp; done) | (simp; omega))), rfl, trivial⟩ (fun _ => rfl) ?_
  rintro i hi
  refine OK.seq ?_
  refine OK.seq ?_
  refine OK.reg ?_
  refine RK.c (S.move .none rfl (.tmp rfl rfl)) ?_
  refine RK.c (S.move .none rfl (.tmp rfl rfl)) ?_
  refine RK.c (S.lenM si23 .none rfl (.tmp rfl rfl)) ?_
  refine RK.c (S.lss .none rfl (.tmp rfl rfl) (.tmp rfl rfl)) ?_
  refine RK.nil ?_
  refine Ab.D.code ?_
  refine OK.condD rfl rfl (fun c8 => ?_) (fun c8 => ?_)
  ·
    have hri := hr l[i] (List.getElem_mem (by omega))
    refine OK.skip ?_
    refine Ab.D.code ?_
    refine OK.seq ?_
    refine OK.block ?_
    refine OK.reg ?_
    refine RK.c (S.move .none rfl (.tmp rfl rfl)) ?_
    refine RK.c (S.move .none rfl (.tmp rfl rfl)) ?_
    refine RK.c (S.move .none rfl (.tmp rfl rfl)) ?_
    refine RK.c (S.indexM (n := i) si23 .none rfl (.tmp rfl rfl) (.tmp rfl rfl) rfl (by omega) rfl) ?_
    refine RK.c (S.load1 ti30 .none rfl (.tmp rfl rfl) rfl) ?_
    refine RK.c (S.call (base_CopyInts (by omega)) Tryz.call32 .none rfl (.cons (.tmp rfl rfl) .nil) rfl) ?_
    refine RK.c (S.mkSlice (k := 17) (rows := [[_]]) ai23 .none rfl (.cons (.tmp rfl rfl) .nil) rfl rfl rfl rfl rfl rfl rfl) ?_
    refine RK.c (S.append ai23 .none rfl (.tmp rfl rfl) rfl (by simp; omega) (.tmp rfl rfl) rfl (by first | rfl | (simp; done) | (simp; omega)) (by omega) (by simp only [maxLen]; omega)) ?_
    refine RK.c (S.assign .none rfl (.tmp rfl rfl)) ?_
    refine RK.nil ?_
    refine Ab.D.blk ?_
    refine Ab.D.code ?_
    refine OK.reg ?_
    refine RK.c (S.move .none rfl (.tmp rfl rfl)) ?_
    refine RK.c (S.add .none rfl (.tmp rfl rfl) (.cint rfl) (IntWalk.i64_in _ (by omega)) (IntWalk.i64_in _ (by omega))) ?_
    refine RK.c (S.assign .none rfl (.tmp rfl rfl)) ?_
    refine RK.nil ?_
    refine Ab.D.lp ⟨i + 1, (by omega), (by omega), rfl, (lk_own (by omega)), (lk_arr (by rw [List.take_succ_eq_append_getElem (by omega), List.map_append]; rfl)), rfl, trivial⟩
  ·
    refine OK.exit rfl ?_
    refine Ab.D.code ?_
    refine OK.seq ?_
    refine OK.reg ?_
    refine RK.c (S.move .none rfl (.tmp rfl rfl)) ?_
    refine RK.c (S.assign .none rfl (.tmp rfl rfl)) ?_
    refine RK.nil ?_
    refine Ab.D.code ?_
    refine OK.ret (Ret.r1 (.tmp rfl rfl (.c (.own rfl rfl (by first | rfl | (simp; done) | (simp; omega))) rfl) rfl) ?_)
    rw [show i = l.length by omega, List.take_length]

theorem ref9_CopyChanges {c : Changes} (hlen : c.ticks.length ≤ 100000) (hr : ∀ r ∈ c.ticks, r.length ≤ 100000) : Ct Tryz.prog 21 [.agg c.cs] (.agg c.cs) := by
  refine Ct.intro (rs := [.cell 2 25]) Tryz.func21 rfl Tryz.ntmps21 Tryz.results21 rfl rfl rfl fun w h => ?_
  refine OK.seq ?_
  refine OK.reg ?_
  refine RK.c (S.box (k := 1) rfl .none rfl (.tmp rfl rfl) rfl) ?_
  refine RK.c (S.alloc (k := 2) ze25 rfl .none rfl) ?_
  refine RK.nil ?_
  refine Ab.D.code ?_
  refine OK.seq ?_
  refine OK.regionDraw follows (.c (S.bfield fi25_0 .none rfl (.tmp rfl rfl))
    (.c (S.bload1 ti3 .none rfl (.tmp rfl rfl) rfl rfl rfl rfl)
    (.c (S.bfield fi25_1 .none rfl (.tmp rfl rfl))
    (.c (S.bload1 ti23 .none rfl (.tmp rfl rfl) rfl rfl rfl rfl)
    (.c (S.call (base_CopyLists hlen hr) Tryz.call95 .none rfl (.cons (.tmp rfl rfl) .nil) rfl)
    (.c (S.build bu25 rfl .none rfl (.cons (.tmp rfl rfl) (.cons (.tmp rfl rfl) .nil)) rfl rfl)
    (.c (S.store ti25 .none (.tmp rfl rfl) (.tmp rfl rfl) rfl rfl rfl rfl rfl rfl)
    .nil))))))) (by kernel_rfl) ?_
  refine Ab.D.code ?_
  refine OK.ret (Ret.r1 (.cellN rfl rfl rfl rfl ti25 rfl (.k (.same rfl) (.k (.same rfl) .z))) ?_)
  rfl

theorem ref9_CopyBaskets {l : List Basket} (hlen : l.length ≤ 100000) (hr : ∀ b ∈ l, b.shares.length ≤ 100000) : Ct Tryz.prog 64 [.sl (l.map Basket.cs)] (.sl (l.map Basket.cs)) := by
  refine Ct.intro (rs := [.tmp 2]) Tryz.func64 rfl Tryz.ntmps64 Tryz.results64 rfl rfl rfl fun w h => ?_
  refine OK.seq ?_
  refine OK.reg ?_
  refine RK.c (S.assign .none rfl .cnil) ?_
  refine RK.nil ?_
  refine Ab.D.code ?_
  refine OK.seq ?_
  refine OK.reg ?_
  refine RK.c (S.nilOwn (k := 3) (sz := 1) .none rfl) ?_
  refine RK.nil ?_
  refine Ab.D.code ?_
  refine OK.seq ?_
  refine OK.seq ?_
  refine OK.reg ?_
  refine RK.c (S.assign .none rfl (.cint rfl)) ?_
  refine RK.nil ?_
  refine Ab.D.code ?_
  refine OK.block ?_
  refine OK.loop (G := Nat) [3] (fun i => [(0, .sl (l.map Basket.cs)), (3, .own 3 i), (2003, .arr 1 ((l.take i).map Basket.cs)), (4, .int .i64 i)]) (fun i => i ≤ l.length) (fun i => l.length - i) 0 (Nat.zero_le _) ⟨rfl, (lk_own (by first | rfl | (simp; done) | (simp; omega))), (lk_arr (by first | rfl | (simp; done) | (simp; omega))), rfl, trivial⟩ (fun _ => rfl) ?_
  rintro i hi
  refine OK.seq ?_
  refine OK.seq ?_
  refine OK.reg ?_
  refine RK.c (S.move .none rfl (.tmp rfl rfl)) ?_
  refine RK.c (S.move .none rfl (.tmp rfl rfl)) ?_
  refine RK.c (S.lenM si98 .none rfl (.tmp rfl rfl)) ?_
  refine RK.c (S.lss .none rfl (.tmp rfl rfl) (.tmp rfl rfl)) ?_
  refine RK.nil ?_
  refine Ab.D.code ?_
  refine OK.condD rfl rfl (fun c8 => ?_) (fun c8 => ?_)
  ·
    have hri := hr l[i] (List.getElem_mem (by omega))
    refine OK.skip ?_
    refine Ab.D.code ?_
    refine OK.seq ?_
    refine OK.block ?_
    refine OK.reg ?_
    refine RK.c (S.move .none rfl (.tmp rfl rfl)) ?_
    refine RK.c (S.mkSlice (k := 12) (rows := []) ai116 .none rfl .nil rfl rfl rfl rfl rfl rfl rfl) ?_
    refine RK.c (S.move .none rfl (.tmp rfl rfl)) ?_
    refine RK.c (S.move .none rfl (.tmp rfl rfl)) ?_
    refine RK.c (S.indexM (n := i) si98 .none rfl (.tmp rfl rfl) (.tmp rfl rfl) rfl (by omega) rfl) ?_
    refine RK.c (S.field fi118_0 .none rfl (.tmp rfl rfl) rfl) ?_
    refine RK.c (S.load1 ti116 .none rfl (.tmp rfl rfl) rfl) ?_
    refine RK.c (S.appendSl ai116 .none rfl (.tmp rfl rfl) rfl (by first | rfl | (simp; done) | (simp; omega)) (.tmp rfl rfl) (by intro q hq; obtain ⟨b, _, rfl⟩ := List.mem_map.1 hq; rfl) rfl (by simp only [List.length_map]; omega) (by simp only [maxLen, List.length_map]; omega)) ?_
    refine RK.c (S.build bu118 rfl .none rfl (.cons (.tmp rfl rfl) .nil) rfl rfl) ?_
    refine RK.c (S.mkSliceN (k := 20) (mid := [_]) ai98 .none rfl (.cons (.tmp rfl rfl) .nil) rfl rfl rfl rfl rfl) ?_
    refine RK.c (S.appendNN ai98 .none rfl (.tmp rfl rfl) rfl (by simp; omega) (.tmp rfl rfl) rfl rfl (by omega) (by simp only [maxLen]; omega)) ?_
    refine RK.c (S.assign .none rfl (.tmp rfl rfl)) ?_
    refine RK.nil ?_
    refine Ab.D.blk ?_
    refine Ab.D.code ?_
    refine OK.freezeArr 3 0 rfl rfl rfl (by simp) rfl rfl ?_
    refine OK.arrClose 3 (rows := (l.take i).map Basket.cs ++ [l[i].cs]) rfl rfl rfl ?_
    refine OK.reg ?_
    refine RK.c (S.move .none rfl (.tmp rfl rfl)) ?_
    refine RK.c (S.add .none rfl (.tmp rfl rfl) (.cint rfl) (IntWalk.i64_in _ (by omega)) (IntWalk.i64_in _ (by omega))) ?_
    refine RK.c (S.assign .none rfl (.tmp rfl rfl)) ?_
    refine RK.nil ?_
    refine Ab.D.lp ⟨i + 1, (by omega), (by omega), rfl, (lk_own (by simp)), (lk_arr (by rw [List.take_succ_eq_append_getElem (by omega), List.map_append]; rfl)), rfl, trivial⟩
  ·
    refine OK.exit rfl ?_
    refine Ab.D.code ?_
    refine OK.seq ?_
    refine OK.reg ?_
    refine RK.c (S.move .none rfl (.tmp rfl rfl)) ?_
    refine RK.c (S.assign .none rfl (.tmp rfl rfl)) ?_
    refine RK.nil ?_
    refine Ab.D.code ?_
    refine OK.ret (Ret.r1 (.tmp rfl rfl (.c (.own rfl rfl (by first | rfl | (simp; done) | (simp; omega))) rfl) rfl) ?_)
    rw [show i = l.length by omega, List.take_length]

theorem ref9_isTicks {n : Int} : Ct Tryz.prog 117 [.int .i64 n] (.bool (decide (0 ≤ n ∧ n ≤ 100000))) := by
  refine Ct.intro (rs := [.tmp 2]) Tryz.func117 rfl Tryz.ntmps117 Tryz.results117 rfl rfl rfl fun w h => ?_
  refine OK.seq ?_
  refine OK.reg ?_
  refine RK.c (S.assign .none rfl .cbool) ?_
  refine RK.nil ?_
  refine Ab.D.code ?_
  refine OK.seq ?_
  refine OK.reg ?_
  refine RK.c (S.move .none rfl (.tmp rfl rfl)) ?_
  refine RK.c (S.call (base_Within) Tryz.call27 .none rfl (.cons (.tmp rfl rfl) (.cons (.cint rfl) (.cons (.cint rfl) .nil))) rfl) ?_
  refine RK.c (S.assign .none rfl (.tmp rfl rfl)) ?_
  refine RK.nil ?_
  refine Ab.D.code ?_
  refine OK.ret (Ret.r1 (.tmp rfl rfl (.c (.same rfl) rfl) rfl) ?_)
  rfl

theorem ref9_isPower {n : Int} : Ct Tryz.prog 118 [.int .i64 n] (.bool (decide (1 ≤ n ∧ n ≤ 100000))) := by
  refine Ct.intro (rs := [.tmp 2]) Tryz.func118 rfl Tryz.ntmps118 Tryz.results118 rfl rfl rfl fun w h => ?_
  refine OK.seq ?_
  refine OK.reg ?_
  refine RK.c (S.assign .none rfl .cbool) ?_
  refine RK.nil ?_
  refine Ab.D.code ?_
  refine OK.seq ?_
  refine OK.reg ?_
  refine RK.c (S.move .none rfl (.tmp rfl rfl)) ?_
  refine RK.c (S.call (base_Within) Tryz.call27 .none rfl (.cons (.tmp rfl rfl) (.cons (.cint rfl) (.cons (.cint rfl) .nil))) rfl) ?_
  refine RK.c (S.assign .none rfl (.tmp rfl rfl)) ?_
  refine RK.nil ?_
  refine Ab.D.code ?_
  refine OK.ret (Ret.r1 (.tmp rfl rfl (.c (.same rfl) rfl) rfl) ?_)
  rfl

theorem ref9_isValue {n : Int} : Ct Tryz.prog 109 [.int .i64 n] (.bool (decide (-10000 ≤ n ∧ n ≤ 10000))) := by
  refine Ct.intro (rs := [.tmp 2]) Tryz.func109 rfl Tryz.ntmps109 Tryz.results109 rfl rfl rfl fun w h => ?_
  refine OK.seq ?_
  refine OK.reg ?_
  refine RK.c (S.assign .none rfl .cbool) ?_
  refine RK.nil ?_
  refine Ab.D.code ?_
  refine OK.seq ?_
  refine OK.reg ?_
  refine RK.c (S.move .none rfl (.tmp rfl rfl)) ?_
  refine RK.c (S.call (base_Within) Tryz.call27 .none rfl (.cons (.tmp rfl rfl) (.cons (.cint rfl) (.cons (.cint rfl) .nil))) rfl) ?_
  refine RK.c (S.assign .none rfl (.tmp rfl rfl)) ?_
  refine RK.nil ?_
  refine Ab.D.code ?_
  refine OK.ret (Ret.r1 (.tmp rfl rfl (.c (.same rfl) rfl) rfl) ?_)
  rfl

theorem ref9_ValuesErr {l : List Int} : Ct Tryz.prog 33 [ints l] (.int .i64 (valsE l)) := by
  refine Ct.intro (rs := [.tmp 2]) Tryz.func33 rfl Tryz.ntmps33 Tryz.results33 rfl rfl rfl fun w h => ?_
  refine OK.seq ?_
  refine OK.reg ?_
  refine RK.c (S.assign .none rfl (.cint rfl)) ?_
  refine RK.nil ?_
  refine Ab.D.code ?_
  refine OK.seq ?_
  refine OK.seq ?_
  refine OK.reg ?_
  refine RK.c (S.move .none rfl (.tmp rfl rfl)) ?_
  refine RK.c (S.lenM si30 .none rfl (.tmp rfl rfl)) ?_
  refine RK.c (S.eql .none rfl (.tmp rfl rfl) (.cint rfl)) ?_
  refine RK.nil ?_
  refine Ab.D.code ?_
  refine OK.condD rfl rfl (fun c6 => ?_) (fun c6 => ?_)
  ·
    refine OK.seq ?_
    refine OK.reg ?_
    refine RK.c (S.assign .none rfl (.cint rfl)) ?_
    refine RK.nil ?_
    refine Ab.D.code ?_
    refine OK.ret (Ret.r1 (.tmp rfl rfl (.c (.same rfl) rfl) rfl) ?_)
    refine ret_i ?_
    rw [valsE, if_pos (by omega)]
  ·
    refine OK.skip ?_
    refine Ab.D.code ?_
    refine OK.seq ?_
    refine OK.seq ?_
    refine OK.reg ?_
    refine RK.c (S.move .none rfl (.tmp rfl rfl)) ?_
    refine RK.c (S.lenM si30 .none rfl (.tmp rfl rfl)) ?_
    refine RK.c (S.gtr .none rfl (.tmp rfl rfl) (.cint rfl)) ?_
    refine RK.nil ?_
    refine Ab.D.code ?_
    refine OK.condD rfl rfl (fun c9 => ?_) (fun c9 => ?_)
    ·
      refine OK.seq ?_
      refine OK.reg ?_
      refine RK.c (S.assign .none rfl (.cint rfl)) ?_
      refine RK.nil ?_
      refine Ab.D.code ?_
      refine OK.ret (Ret.r1 (.tmp rfl rfl (.c (.same rfl) rfl) rfl) ?_)
      refine ret_i ?_
      rw [valsE, if_neg (by omega), if_pos (by omega)]
    ·
      refine OK.skip ?_
      refine Ab.D.code ?_
      refine OK.seq ?_
      refine OK.seq ?_
      refine OK.reg ?_
      refine RK.c (S.assign .none rfl (.cint rfl)) ?_
      refine RK.nil ?_
      refine Ab.D.code ?_
      refine OK.block ?_
      refine OK.loop (G := Nat) [] (fun i => [(0, ints l), (3, .int .i64 i)]) (fun i => i ≤ l.length ∧ l.all isVal9 = (l.drop i).all isVal9) (fun i => l.length - i) 0 ⟨Nat.zero_le _, rfl⟩ ⟨rfl, rfl, trivial⟩ (fun _ => rfl) ?_
      rintro i ⟨hi, hg⟩
      refine OK.seq ?_
      refine OK.seq ?_
      refine OK.reg ?_
      refine RK.c (S.move .none rfl (.tmp rfl rfl)) ?_
      refine RK.c (S.move .none rfl (.tmp rfl rfl)) ?_
      refine RK.c (S.lenM si30 .none rfl (.tmp rfl rfl)) ?_
      refine RK.c (S.lss .none rfl (.tmp rfl rfl) (.tmp rfl rfl)) ?_
      refine RK.nil ?_
      refine Ab.D.code ?_
      refine OK.condD rfl rfl (fun c13 => ?_) (fun c13 => ?_)
      ·
        refine OK.skip ?_
        refine Ab.D.code ?_
        refine OK.seq ?_
        refine OK.block ?_
        refine OK.seq ?_
        refine OK.reg ?_
        refine RK.c (S.move .none rfl (.tmp rfl rfl)) ?_
        refine RK.c (S.move .none rfl (.tmp rfl rfl)) ?_
        refine RK.c (S.indexM (n := i) si30 .none rfl (.tmp rfl rfl) (.tmp rfl rfl) rfl (by omega) rfl) ?_
        refine RK.c (S.load1 ti3 .none rfl (.tmp rfl rfl) rfl) ?_
        refine RK.c (S.call (ref9_isValue) Tryz.call109 .none rfl (.cons (.tmp rfl rfl) .nil) rfl) ?_
        refine RK.c (S.notD .none rfl (.tmp rfl rfl)) ?_
        refine RK.nil ?_
        refine Ab.D.code ?_
        refine OK.condD rfl rfl (fun c21 => ?_) (fun c21 => ?_)
        ·
          refine OK.seq ?_
          refine OK.reg ?_
          refine RK.c (S.assign .none rfl (.cint rfl)) ?_
          refine RK.nil ?_
          refine Ab.D.code ?_
          refine OK.ret (Ret.r1 (.tmp rfl rfl (.c (.same rfl) rfl) rfl) ?_)
          refine ret_i ?_
          rw [valsE, if_neg (by omega), if_neg (by omega), hg, all_drop9 _ (by omega), show isVal9 l[i] = false from decide_eq_false (by omega), Bool.false_and]
          rfl
        ·
          refine OK.skip ?_
          refine Ab.D.blk ?_
          refine Ab.D.code ?_
          refine OK.reg ?_
          refine RK.c (S.move .none rfl (.tmp rfl rfl)) ?_
          refine RK.c (S.add .none rfl (.tmp rfl rfl) (.cint rfl) (IntWalk.i64_in _ (by omega)) (IntWalk.i64_in _ (by omega))) ?_
          refine RK.c (S.assign .none rfl (.tmp rfl rfl)) ?_
          refine RK.nil ?_
          refine Ab.D.lp ⟨i + 1, ⟨by omega, ?_⟩, (by omega), rfl, rfl, trivial⟩
          rw [hg, all_drop9 _ (by omega), show isVal9 l[i] = true from decide_eq_true (by omega), Bool.true_and]
      ·
        refine OK.exit rfl ?_
        refine Ab.D.code ?_
        refine OK.seq ?_
        refine OK.reg ?_
        refine RK.c (S.assign .none rfl (.cint rfl)) ?_
        refine RK.nil ?_
        refine Ab.D.code ?_
        refine OK.ret (Ret.r1 (.tmp rfl rfl (.c (.same rfl) rfl) rfl) ?_)
        refine ret_i ?_
        rw [valsE, if_neg (by omega), if_neg (by omega), hg, show i = l.length by omega, List.drop_length]
        rfl

theorem ref9_LimitsErr {r : Range} : Ct Tryz.prog 34 [.agg r.cs] (.int .i64 (limE r)) := by
  refine Ct.intro (rs := [.tmp 2]) Tryz.func34 rfl Tryz.ntmps34 Tryz.results34 rfl rfl rfl fun w h => ?_
  refine OK.seq ?_
  refine OK.reg ?_
  refine RK.c (S.box (k := 1) rfl .none rfl (.tmp rfl rfl) rfl) ?_
  refine RK.c (S.assign .none rfl (.cint rfl)) ?_
  refine RK.nil ?_
  refine Ab.D.code ?_
  refine OK.seq ?_
  refine OK.seq ?_
  refine OK.reg ?_
  refine RK.c (S.bfield fi53_0 .none rfl (.tmp rfl rfl)) ?_
  refine RK.c (S.bload1 ti3 .none rfl (.tmp rfl rfl) rfl rfl rfl rfl) ?_
  refine RK.c (S.call (ref9_isValue) Tryz.call109 .none rfl (.cons (.tmp rfl rfl) .nil) rfl) ?_
  refine RK.c (S.notD .none rfl (.tmp rfl rfl)) ?_
  refine RK.c (S.move .none rfl (.tmp rfl rfl)) ?_
  refine RK.splitD (t := 7) rfl (fun g7 => ?_) (fun g7 => ?_)
  ·
    refine RK.c (S.skip rfl rfl rfl rfl rfl) ?_
    refine RK.c (S.skip rfl rfl rfl rfl rfl) ?_
    refine RK.c (S.skip rfl rfl rfl rfl rfl) ?_
    refine RK.c (S.skip rfl rfl rfl rfl rfl) ?_
    refine RK.c (S.pickT .none rfl (.tmp rfl rfl) .cbool rfl) ?_
    refine RK.nil ?_
    refine Ab.D.code ?_
    refine OK.condT rfl rfl rfl ?_
    refine OK.seq ?_
    refine OK.reg ?_
    refine RK.c (S.assign .none rfl (.cint rfl)) ?_
    refine RK.nil ?_
    refine Ab.D.code ?_
    refine OK.ret (Ret.r1 (.tmp rfl rfl (.c (.same rfl) rfl) rfl) ?_)
    refine ret_i ?_
    unfold limE
    (repeat' split) <;> omega
  ·
    refine RK.c (S.bfield fi53_1 (.yes rfl rfl rfl rfl) rfl (.tmp rfl rfl)) ?_
    refine RK.c (S.bload1 ti3 (.yes rfl rfl rfl rfl) rfl (.tmp rfl rfl) rfl rfl rfl rfl) ?_
    refine RK.c (S.call (ref9_isValue) Tryz.call109 (.yes rfl rfl rfl rfl) rfl (.cons (.tmp rfl rfl) .nil) rfl) ?_
    refine RK.c (S.notD (.yes rfl rfl rfl rfl) rfl (.tmp rfl rfl)) ?_
    refine RK.c (S.pickF .none rfl (.tmp rfl rfl) (.tmp rfl rfl) rfl) ?_
    refine RK.nil ?_
    refine Ab.D.code ?_
    refine OK.condD rfl rfl (fun c12 => ?_) (fun c12 => ?_)
    ·
      refine OK.seq ?_
      refine OK.reg ?_
      refine RK.c (S.assign .none rfl (.cint rfl)) ?_
      refine RK.nil ?_
      refine Ab.D.code ?_
      refine OK.ret (Ret.r1 (.tmp rfl rfl (.c (.same rfl) rfl) rfl) ?_)
      refine ret_i ?_
      unfold limE
      (repeat' split) <;> omega
    ·
      refine OK.skip ?_
      refine Ab.D.code ?_
      refine OK.seq ?_
      refine OK.seq ?_
      refine OK.reg ?_
      refine RK.c (S.bfield fi53_0 .none rfl (.tmp rfl rfl)) ?_
      refine RK.c (S.bload1 ti3 .none rfl (.tmp rfl rfl) rfl rfl rfl rfl) ?_
      refine RK.c (S.bfield fi53_1 .none rfl (.tmp rfl rfl)) ?_
      refine RK.c (S.bload1 ti3 .none rfl (.tmp rfl rfl) rfl rfl rfl rfl) ?_
      refine RK.c (S.gtr .none rfl (.tmp rfl rfl) (.tmp rfl rfl)) ?_
      refine RK.nil ?_
      refine Ab.D.code ?_
      refine OK.condD rfl rfl (fun c17 => ?_) (fun c17 => ?_)
      ·
        refine OK.seq ?_
        refine OK.reg ?_
        refine RK.c (S.assign .none rfl (.cint rfl)) ?_
        refine RK.nil ?_
        refine Ab.D.code ?_
        refine OK.ret (Ret.r1 (.tmp rfl rfl (.c (.same rfl) rfl) rfl) ?_)
        refine ret_i ?_
        unfold limE
        (repeat' split) <;> omega
      ·
        refine OK.skip ?_
        refine Ab.D.code ?_
        refine OK.seq ?_
        refine OK.reg ?_
        refine RK.c (S.assign .none rfl (.cint rfl)) ?_
        refine RK.nil ?_
        refine Ab.D.code ?_
        refine OK.ret (Ret.r1 (.tmp rfl rfl (.c (.same rfl) rfl) rfl) ?_)
        refine ret_i ?_
        unfold limE
        (repeat' split) <;> omega

theorem ref9_Chart {l : List Int} (hv : AllV l) (hn : l.length ≤ 100) : Ct Tryz.prog 83 [ints l] (.agg (chartT l).cs) := by
  refine Ct.intro (rs := [.cell 2 131]) Tryz.func83 rfl Tryz.ntmps83 Tryz.results83 rfl rfl rfl fun w h => ?_
  refine OK.seq ?_
  refine OK.reg ?_
  refine RK.c (S.alloc (k := 2) ze131 rfl .none rfl) ?_
  refine RK.nil ?_
  refine Ab.D.code ?_
  refine OK.seq ?_
  refine OK.reg ?_
  refine RK.c (S.move .none rfl (.tmp rfl rfl)) ?_
  refine RK.c (S.lenM si30 .none rfl (.tmp rfl rfl)) ?_
  refine RK.c (S.build bu131 rfl .none rfl (.cons (.tmp rfl rfl) .nil) rfl rfl) ?_
  refine RK.c (S.alloc (k := 3) ze131 rfl .none rfl) ?_
  refine RK.c (S.store ti131 .none (.tmp rfl rfl) (.tmp rfl rfl) rfl rfl rfl rfl rfl rfl) ?_
  refine RK.nil ?_
  refine Ab.D.code ?_
  refine OK.seq ?_
  refine OK.seq ?_
  refine OK.reg ?_
  refine RK.c (S.assign .none rfl (.cint rfl)) ?_
  refine RK.nil ?_
  refine Ab.D.code ?_
  refine OK.block ?_
  refine OK.loop (G := Nat) [2, 3] (fun i => [(0, ints l), (2, .ptr 2 0), (1002, .box [.int .i64 0, .int .i64 0, .int .i64 0]), (3, .ptr 3 0), (1003, .box [.int .i64 l.length, .int .i64 (sumT (l.take i)), .int .i64 (sqT (l.take i))]), (4, .int .i64 i)]) (fun i => i ≤ l.length) (fun i => l.length - i) 0 (Nat.zero_le _) ⟨rfl, rfl, rfl, rfl, rfl, rfl, trivial⟩ (fun _ => rfl) ?_
  rintro i hi
  refine OK.seq ?_
  refine OK.seq ?_
  refine OK.reg ?_
  refine RK.c (S.move .none rfl (.tmp rfl rfl)) ?_
  refine RK.c (S.move .none rfl (.tmp rfl rfl)) ?_
  refine RK.c (S.lenM si30 .none rfl (.tmp rfl rfl)) ?_
  refine RK.c (S.lss .none rfl (.tmp rfl rfl) (.tmp rfl rfl)) ?_
  refine RK.nil ?_
  refine Ab.D.code ?_
  refine OK.condD rfl rfl (fun c11 => ?_) (fun c11 => ?_)
  ·
    have hb := sums_bd (l := l.take i) fun n hm => hv n (List.mem_of_mem_take hm)
    have hll : (l.take i).length ≤ i := List.length_take_le i l
    have hx := hv l[i] (List.getElem_mem (by omega))
    have hq := sq_bd hx
    refine OK.skip ?_
    refine Ab.D.code ?_
    refine OK.seq ?_
    refine OK.block ?_
    refine OK.regionDraw follows (.c (S.bfield fi131_1 .none rfl (.tmp rfl rfl))
      (.c (S.bload1 ti3 .none rfl (.tmp rfl rfl) rfl rfl rfl rfl)
      (.c (S.move .none rfl (.tmp rfl rfl))
      (.c (S.move .none rfl (.tmp rfl rfl))
      (.c (S.indexM (n := i) si30 .none rfl (.tmp rfl rfl) (.tmp rfl rfl) rfl (by omega) rfl)
      (.c (S.load1 ti3 .none rfl (.tmp rfl rfl) rfl)
      (.c (S.add .none rfl (.tmp rfl rfl) (.tmp rfl rfl) (IntWalk.i64_in _ (by omega)) (IntWalk.i64_in _ (by omega)))
      (.c (S.bfield fi131_2 .none rfl (.tmp rfl rfl))
      (.c (S.bload1 ti3 .none rfl (.tmp rfl rfl) rfl rfl rfl rfl)
      (.c (S.move .none rfl (.tmp rfl rfl))
      (.c (S.move .none rfl (.tmp rfl rfl))
      (.c (S.indexM (n := i) si30 .none rfl (.tmp rfl rfl) (.tmp rfl rfl) rfl (by omega) rfl)
      (.c (S.load1 ti3 .none rfl (.tmp rfl rfl) rfl)
      (.c (S.move .none rfl (.tmp rfl rfl))
      (.c (S.move .none rfl (.tmp rfl rfl))
      (.c (S.indexM (n := i) si30 .none rfl (.tmp rfl rfl) (.tmp rfl rfl) rfl (by omega) rfl)
      (.c (S.load1 ti3 .none rfl (.tmp rfl rfl) rfl)
      (.c (S.mul .none rfl (.tmp rfl rfl) (.tmp rfl rfl) (IntWalk.i64_in _ (by omega)) (IntWalk.i64_in _ (by omega)))
      (.c (S.add .none rfl (.tmp rfl rfl) (.tmp rfl rfl) (IntWalk.i64_in _ (by omega)) (IntWalk.i64_in _ (by omega)))
      (.c (S.bfield fi131_1 .none rfl (.tmp rfl rfl))
      (.c (S.store ti3 .none (.tmp rfl rfl) (.tmp rfl rfl) rfl rfl rfl rfl rfl rfl)
      (.c (S.bfield fi131_2 .none rfl (.tmp rfl rfl))
      (.c (S.store ti3 .none (.tmp rfl rfl) (.tmp rfl rfl) rfl rfl rfl rfl rfl rfl)
      .nil))))))))))))))))))))))) (by kernel_rfl) ?_
    refine Ab.D.blk ?_
    refine Ab.D.code ?_
    refine OK.reg ?_
    refine RK.c (S.move .none rfl (.tmp rfl rfl)) ?_
    refine RK.c (S.add .none rfl (.tmp rfl rfl) (.cint rfl) (IntWalk.i64_in _ (by omega)) (IntWalk.i64_in _ (by omega))) ?_
    refine RK.c (S.assign .none rfl (.tmp rfl rfl)) ?_
    refine RK.nil ?_
    refine Ab.D.lp ⟨i + 1, (by omega), (by omega), rfl, rfl, rfl, rfl, (show _ = some (X.box [.int .i64 l.length, .int .i64 (sumT (l.take (i + 1))), .int .i64 (sqT (l.take (i + 1)))]) by rw [sum_take (by omega), sq_take (by omega)]; rfl), rfl, trivial⟩
  ·
    refine OK.exit rfl ?_
    refine Ab.D.code ?_
    refine OK.seq ?_
    refine OK.reg ?_
    refine RK.c (S.bloadN ti131 .none rfl (.tmp rfl rfl) rfl rfl rfl rfl) ?_
    refine RK.c (S.store ti131 .none (.tmp rfl rfl) (.tmp rfl rfl) rfl rfl rfl rfl rfl rfl) ?_
    refine RK.nil ?_
    refine Ab.D.code ?_
    refine OK.ret (Ret.r1 (.cellN rfl rfl rfl rfl ti131 rfl (.k (.same rfl) (.k (.same rfl) (.k (.same rfl) .z)))) ?_)
    rw [show i = l.length by omega, List.take_length]
    rfl

theorem ref9_Spread {c : Chart} (hB : ChartB c) : Ct Tryz.prog 110 [.agg c.cs] (.int .i64 (spreadT c)) := by
  refine Ct.intro (rs := [.tmp 2]) Tryz.func110 rfl Tryz.ntmps110 Tryz.results110 rfl rfl rfl fun w h => ?_
  have hb := spread_bd hB
  refine OK.seq ?_
  refine OK.reg ?_
  refine RK.c (S.box (k := 1) rfl .none rfl (.tmp rfl rfl) rfl) ?_
  refine RK.c (S.assign .none rfl (.cint rfl)) ?_
  refine RK.nil ?_
  refine Ab.D.code ?_
  refine OK.seq ?_
  refine OK.reg ?_
  refine RK.c (S.bfield fi131_0 .none rfl (.tmp rfl rfl)) ?_
  refine RK.c (S.bload1 ti3 .none rfl (.tmp rfl rfl) rfl rfl rfl rfl) ?_
  refine RK.c (S.bfield fi131_2 .none rfl (.tmp rfl rfl)) ?_
  refine RK.c (S.bload1 ti3 .none rfl (.tmp rfl rfl) rfl rfl rfl rfl) ?_
  refine RK.c (S.mul .none rfl (.tmp rfl rfl) (.tmp rfl rfl) (IntWalk.i64_in _ (by omega)) (IntWalk.i64_in _ (by omega))) ?_
  refine RK.c (S.bfield fi131_1 .none rfl (.tmp rfl rfl)) ?_
  refine RK.c (S.bload1 ti3 .none rfl (.tmp rfl rfl) rfl rfl rfl rfl) ?_
  refine RK.c (S.bfield fi131_1 .none rfl (.tmp rfl rfl)) ?_
  refine RK.c (S.bload1 ti3 .none rfl (.tmp rfl rfl) rfl rfl rfl rfl) ?_
  refine RK.c (S.mul .none rfl (.tmp rfl rfl) (.tmp rfl rfl) (IntWalk.i64_in _ (by omega)) (IntWalk.i64_in _ (by omega))) ?_
  refine RK.c (S.sub .none rfl (.tmp rfl rfl) (.tmp rfl rfl) (IntWalk.i64_in _ (by unfold spreadT at hb; omega)) (IntWalk.i64_in _ (by unfold spreadT at hb; omega))) ?_
  refine RK.c (S.assign .none rfl (.tmp rfl rfl)) ?_
  refine RK.nil ?_
  refine Ab.D.code ?_
  refine OK.ret (Ret.r1 (.tmp rfl rfl (.c (.same rfl) rfl) rfl) ?_)
  rfl

theorem base9_Size {n : Int} (hn : 0 ≤ n ∧ n ≤ 10000000000000) : Ct Tryz.prog 188 [.int .i64 n] (.int .i64 n) := by
  refine Ct.intro (rs := [.tmp 2]) Tryz.func188 rfl Tryz.ntmps188 Tryz.results188 rfl rfl rfl fun w h => ?_
  refine OK.seq ?_
  refine OK.reg ?_
  refine RK.c (S.assign .none rfl (.cint rfl)) ?_
  refine RK.nil ?_
  refine Ab.D.code ?_
  refine OK.seq ?_
  refine OK.reg ?_
  refine RK.c (S.move .none rfl (.tmp rfl rfl)) ?_
  refine RK.c (S.move .none rfl (.tmp rfl rfl)) ?_
  refine RK.c (S.neg .none rfl (.tmp rfl rfl) (IntWalk.i64_in _ (by omega)) (IntWalk.i64_in _ (by omega))) ?_
  refine RK.c (S.max2 .none rfl (.tmp rfl rfl) (.tmp rfl rfl)) ?_
  refine RK.c (S.assign .none rfl (.tmp rfl rfl)) ?_
  refine RK.nil ?_
  refine Ab.D.code ?_
  refine OK.ret (Ret.r1 (.tmp rfl rfl (.c (.same rfl) rfl) rfl) ?_)
  refine ret_i ?_
  split <;> omega

theorem base9_Gcd {a b : Int} (ha : 0 ≤ a ∧ a ≤ 10000000000000) (hb : 0 ≤ b ∧ b ≤ 10000000000000) : Ct Tryz.prog 161 [.int .i64 a, .int .i64 b] (.int .i64 (gcdT a b)) := by
  refine Ct.intro (rs := [.tmp 4]) Tryz.func161 rfl Tryz.ntmps161 Tryz.results161 rfl rfl rfl fun w h => ?_
  refine OK.seq ?_
  refine OK.reg ?_
  refine RK.c (S.assign .none rfl (.cint rfl)) ?_
  refine RK.nil ?_
  refine Ab.D.code ?_
  refine OK.seq ?_
  refine OK.block ?_
  refine OK.loop2 [] (fun (x : Int) (y : Int) => [(0, .int .i64 x), (1, .int .i64 y)]) (fun x y => (0 ≤ x ∧ x ≤ 10000000000000) ∧ (0 ≤ y ∧ y ≤ 10000000000000) ∧ gcdT a b = gcdT x y) (fun x y => y.toNat) (a) (b) ⟨ha, hb, rfl⟩ ⟨rfl, rfl, trivial⟩ (fun _ _ => rfl) ?_
  rintro x y ⟨hx, hy, hg⟩
  refine OK.seq ?_
  refine OK.seq ?_
  refine OK.reg ?_
  refine RK.c (S.move .none rfl (.tmp rfl rfl)) ?_
  refine RK.c (S.neq .none rfl (.tmp rfl rfl) (.cint rfl)) ?_
  refine RK.nil ?_
  refine Ab.D.code ?_
  refine OK.condD rfl rfl (fun c6 => ?_) (fun c6 => ?_)
  ·
    have h3 : 0 ≤ x.tmod y := Int.tmod_nonneg y hx.1
    have h4 : x.tmod y < y := Int.tmod_lt_of_pos x (by omega)
    refine OK.skip ?_
    refine Ab.D.code ?_
    refine OK.block ?_
    refine OK.regionDraw follows (.c (S.move .none rfl (.tmp rfl rfl))
      (.c (S.move .none rfl (.tmp rfl rfl))
      (.c (S.move .none rfl (.tmp rfl rfl))
      (.c (S.rem .none rfl (.tmp rfl rfl) (.tmp rfl rfl) c6 rfl (IntWalk.i64_in _ (by omega)))
      (.c (S.assign .none rfl (.tmp rfl rfl))
      (.c (S.assign .none rfl (.tmp rfl rfl))
      .nil)))))) (by kernel_rfl) ?_
    refine Ab.D.blk ?_
    refine Ab.D.lp ⟨y, x.tmod y, ⟨hy, ⟨h3, by omega⟩, ?_⟩, (by omega), rfl, rfl, trivial⟩
    rw [hg, gcdT_step hx.1 hy.1 c6]
  ·
    refine OK.exit rfl ?_
    refine Ab.D.code ?_
    refine OK.seq ?_
    refine OK.reg ?_
    refine RK.c (S.move .none rfl (.tmp rfl rfl)) ?_
    refine RK.c (S.call (base9_Size hx) Tryz.call188 .none rfl (.cons (.tmp rfl rfl) .nil) rfl) ?_
    refine RK.c (S.assign .none rfl (.tmp rfl rfl)) ?_
    refine RK.nil ?_
    refine Ab.D.code ?_
    refine OK.ret (Ret.r1 (.tmp rfl rfl (.c (.same rfl) rfl) rfl) ?_)
    have : y = 0 := by omega
    subst this
    rw [hg, gcdT_0]

theorem base9_Lowest {a b : Int} (ha : 0 ≤ a ∧ a ≤ 10000000000000) (hb : 1 ≤ b ∧ b ≤ 10000000000000) : Ct Tryz.prog 111 [.int .i64 a, .int .i64 b] (.agg (Frac.cs ⟨a.tdiv (gcdT a b), b.tdiv (gcdT a b)⟩)) := by
  refine Ct.intro (rs := [.cell 4 55]) Tryz.func111 rfl Tryz.ntmps111 Tryz.results111 rfl rfl rfl fun w h => ?_
  have hgp := gcd_pos (a := a) (b := b) ha.1 (by omega)
  have ht1 := tdiv_bd ha.1 hgp
  have ht2 := tdiv_bd (a := b) (by omega) hgp
  refine OK.seq ?_
  refine OK.reg ?_
  refine RK.c (S.alloc (k := 4) ze55 rfl .none rfl) ?_
  refine RK.nil ?_
  refine Ab.D.code ?_
  refine OK.seq ?_
  refine OK.reg ?_
  refine RK.c (S.move .none rfl (.tmp rfl rfl)) ?_
  refine RK.c (S.move .none rfl (.tmp rfl rfl)) ?_
  refine RK.c (S.call (base9_Gcd ⟨by omega, by omega⟩ ⟨by omega, by omega⟩) Tryz.call161 .none rfl (.cons (.tmp rfl rfl) (.cons (.tmp rfl rfl) .nil)) rfl) ?_
  refine RK.c (S.assign .none rfl (.tmp rfl rfl)) ?_
  refine RK.nil ?_
  refine Ab.D.code ?_
  refine OK.seq ?_
  refine OK.seq ?_
  refine OK.reg ?_
  refine RK.c (S.move .none rfl (.tmp rfl rfl)) ?_
  refine RK.c (S.lss .none rfl (.tmp rfl rfl) (.cint rfl)) ?_
  refine RK.nil ?_
  refine Ab.D.code ?_
  refine OK.condD rfl rfl (fun c10 => ?_) (fun c10 => ?_)
  ·
    exfalso
    omega
  ·
    refine OK.skip ?_
    refine Ab.D.code ?_
    refine OK.seq ?_
    refine OK.regionDraw follows (.c (S.move .none rfl (.tmp rfl rfl))
      (.c (S.move .none rfl (.tmp rfl rfl))
      (.c (S.quo .none rfl (.tmp rfl rfl) (.tmp rfl rfl) (by omega) (IntWalk.i64_in _ (by omega)) (IntWalk.i64_in _ (by omega)))
      (.c (S.move .none rfl (.tmp rfl rfl))
      (.c (S.move .none rfl (.tmp rfl rfl))
      (.c (S.quo .none rfl (.tmp rfl rfl) (.tmp rfl rfl) (by omega) (IntWalk.i64_in _ (by omega)) (IntWalk.i64_in _ (by omega)))
      (.c (S.build bu55 rfl .none rfl (.cons (.tmp rfl rfl) (.cons (.tmp rfl rfl) .nil)) rfl rfl)
      (.c (S.store ti55 .none (.tmp rfl rfl) (.tmp rfl rfl) rfl rfl rfl rfl rfl rfl)
      .nil)))))))) (by kernel_rfl) ?_
    refine Ab.D.code ?_
    refine OK.ret (Ret.r1 (.cellN rfl rfl rfl rfl ti55 rfl (.k (.same rfl) (.k (.same rfl) .z))) ?_)
    rfl

theorem base9_IsSmall {f : Frac} : Ct Tryz.prog 112 [.agg f.cs] (.bool (decide ((-1000000000 ≤ f.num ∧ f.num ≤ 1000000000) ∧ (1 ≤ f.den ∧ f.den ≤ 1000000000)))) := by
  refine Ct.intro (rs := [.tmp 2]) Tryz.func112 rfl Tryz.ntmps112 Tryz.results112 rfl rfl rfl fun w h => ?_
  refine OK.seq ?_
  refine OK.reg ?_
  refine RK.c (S.box (k := 1) rfl .none rfl (.tmp rfl rfl) rfl) ?_
  refine RK.c (S.assign .none rfl .cbool) ?_
  refine RK.nil ?_
  refine Ab.D.code ?_
  refine OK.seq ?_
  refine OK.reg ?_
  refine RK.c (S.bfield fi55_0 .none rfl (.tmp rfl rfl)) ?_
  refine RK.c (S.bload1 ti3 .none rfl (.tmp rfl rfl) rfl rfl rfl rfl) ?_
  refine RK.c (S.call (base_Within) Tryz.call27 .none rfl (.cons (.tmp rfl rfl) (.cons (.cint rfl) (.cons (.cint rfl) .nil))) rfl) ?_
  refine RK.c (S.move .none rfl (.tmp rfl rfl)) ?_
  refine RK.splitD (t := 6) rfl (fun g6 => ?_) (fun g6 => ?_)
  ·
    refine RK.c (S.bfield fi55_1 (.yes rfl rfl rfl rfl) rfl (.tmp rfl rfl)) ?_
    refine RK.c (S.bload1 ti3 (.yes rfl rfl rfl rfl) rfl (.tmp rfl rfl) rfl rfl rfl rfl) ?_
    refine RK.c (S.call (base_Within) Tryz.call27 (.yes rfl rfl rfl rfl) rfl (.cons (.tmp rfl rfl) (.cons (.cint rfl) (.cons (.cint rfl) .nil))) rfl) ?_
    refine RK.c (S.pickT .none rfl (.tmp rfl rfl) (.tmp rfl rfl) rfl) ?_
    refine RK.c (S.assign .none rfl (.tmp rfl rfl)) ?_
    refine RK.nil ?_
    refine Ab.D.code ?_
    refine OK.ret (Ret.r1 (.tmp rfl rfl (.c (.same rfl) rfl) rfl) ?_)
    exact ret_D ⟨fun h => ⟨g6, h⟩, fun h => h.2⟩
  ·
    refine RK.c (S.skip rfl rfl rfl rfl rfl) ?_
    refine RK.c (S.skip rfl rfl rfl rfl rfl) ?_
    refine RK.c (S.skip rfl rfl rfl rfl rfl) ?_
    refine RK.c (S.pickF .none rfl (.tmp rfl rfl) .cbool rfl) ?_
    refine RK.c (S.assign .none rfl (.tmp rfl rfl)) ?_
    refine RK.nil ?_
    refine Ab.D.code ?_
    refine OK.ret (Ret.r1 (.tmp rfl rfl (.c (.same rfl) rfl) rfl) ?_)
    exact ret_F (fun h => g6 h.1)

theorem ref9_Capability {l : List Int} {r : Range} (hv : valsE l = 0) (hr : limE r = 0) : Ct Tryz.prog 35 [ints l, .agg r.cs] (.tup [.agg (capT l r).cs, .int .i64 (capE l r)]) := by
  refine Ct.intro (rs := [.cell 4 55, .tmp 5]) Tryz.func35 rfl Tryz.ntmps35 Tryz.results35 rfl rfl rfl fun w h => ?_
  have hcb := chart_bd hv
  have hlr := lim_ok hr
  have hsb := spread_bd hcb
  obtain ⟨hm1, hm2⟩ := cap_bd hv hr
  obtain ⟨q1, q2, q3⟩ := vals_ok hv
  have hnn := spread_nn l
  have ho1 := off_bd hcb hlr.1.1
  have ho2 := off_bd hcb hlr.1.2
  refine OK.seq ?_
  refine OK.reg ?_
  refine RK.c (S.box (k := 3) rfl .none rfl (.tmp rfl rfl) rfl) ?_
  refine RK.c (S.alloc (k := 4) ze55 rfl .none rfl) ?_
  refine RK.c (S.assign .none rfl (.cint rfl)) ?_
  refine RK.nil ?_
  refine Ab.D.code ?_
  refine OK.seq ?_
  refine OK.reg ?_
  refine RK.c (S.move .none rfl (.tmp rfl rfl)) ?_
  refine RK.c (S.call (ref9_Chart (by assumption) (by omega)) Tryz.call83 .none rfl (.cons (.tmp rfl rfl) .nil) rfl) ?_
  refine RK.c (S.alloc (k := 6) ze131 rfl .none rfl) ?_
  refine RK.c (S.store ti131 .none (.tmp rfl rfl) (.tmp rfl rfl) rfl rfl rfl rfl rfl rfl) ?_
  refine RK.nil ?_
  refine Ab.D.code ?_
  refine OK.seq ?_
  refine OK.seq ?_
  refine OK.reg ?_
  refine RK.c (S.bloadN ti131 .none rfl (.tmp rfl rfl) rfl rfl rfl rfl) ?_
  refine RK.c (S.call (ref9_Spread hcb) Tryz.call110 .none rfl (.cons (.tmp rfl rfl) .nil) rfl) ?_
  refine RK.c (S.eql .none rfl (.tmp rfl rfl) (.cint rfl)) ?_
  refine RK.nil ?_
  refine Ab.D.code ?_
  refine OK.condD rfl rfl (fun c13 => ?_) (fun c13 => ?_)
  ·
    refine OK.seq ?_
    refine OK.reg ?_
    refine RK.c (S.build bu55 rfl .none rfl .nil rfl rfl) ?_
    refine RK.c (S.store ti55 .none (.tmp rfl rfl) (.tmp rfl rfl) rfl rfl rfl rfl rfl rfl) ?_
    refine RK.c (S.assign .none rfl (.cint rfl)) ?_
    refine RK.nil ?_
    refine Ab.D.code ?_
    refine OK.ret (Ret.r2 (.cellN rfl rfl rfl rfl ti55 rfl (.k (.same rfl) (.k (.same rfl) .z))) (.tmp rfl rfl (.c (.same rfl) rfl) rfl) ?_)
    have he : capE l r = 11 := by unfold capE; rw [if_neg (by omega), if_neg (by omega), if_pos (by omega)]
    rw [capT, if_neg (by omega), he]
    rfl
  ·
    have hsp : 0 < spreadT (chartT l) := by omega
    have hgp := gcd_pos (a := capM l r * capM l r) (b := 9 * spreadT (chartT l)) hm2.1 (by omega)
    have hd1 := tdiv_bd hm2.1 hgp
    have hd2 := tdiv_bd (a := 9 * spreadT (chartT l)) (by omega) hgp
    have hd3 : 1 ≤ (9 * spreadT (chartT l)).tdiv (gcdT (capM l r * capM l r) (9 * spreadT (chartT l))) := low_den hm2.1 (by omega)
    have hcb2 := hcb.2.1
    refine OK.skip ?_
    refine Ab.D.code ?_
    refine OK.seq ?_
    refine OK.reg ?_
    refine RK.c (S.bfield fi131_1 .none rfl (.tmp rfl rfl)) ?_
    refine RK.c (S.bload1 ti3 .none rfl (.tmp rfl rfl) rfl rfl rfl rfl) ?_
    refine RK.c (S.bfield fi131_0 .none rfl (.tmp rfl rfl)) ?_
    refine RK.c (S.bload1 ti3 .none rfl (.tmp rfl rfl) rfl rfl rfl rfl) ?_
    refine RK.c (S.bfield fi53_0 .none rfl (.tmp rfl rfl)) ?_
    refine RK.c (S.bload1 ti3 .none rfl (.tmp rfl rfl) rfl rfl rfl rfl) ?_
    refine RK.c (S.mul .none rfl (.tmp rfl rfl) (.tmp rfl rfl) (IntWalk.i64_in _ (by omega)) (IntWalk.i64_in _ (by omega))) ?_
    refine RK.c (S.sub .none rfl (.tmp rfl rfl) (.tmp rfl rfl) (IntWalk.i64_in _ (by omega)) (IntWalk.i64_in _ (by omega))) ?_
    refine RK.c (S.bfield fi131_0 .none rfl (.tmp rfl rfl)) ?_
    refine RK.c (S.bload1 ti3 .none rfl (.tmp rfl rfl) rfl rfl rfl rfl) ?_
    refine RK.c (S.bfield fi53_1 .none rfl (.tmp rfl rfl)) ?_
    refine RK.c (S.bload1 ti3 .none rfl (.tmp rfl rfl) rfl rfl rfl rfl) ?_
    refine RK.c (S.mul .none rfl (.tmp rfl rfl) (.tmp rfl rfl) (IntWalk.i64_in _ (by omega)) (IntWalk.i64_in _ (by omega))) ?_
    refine RK.c (S.bfield fi131_1 .none rfl (.tmp rfl rfl)) ?_
    refine RK.c (S.bload1 ti3 .none rfl (.tmp rfl rfl) rfl rfl rfl rfl) ?_
    refine RK.c (S.sub .none rfl (.tmp rfl rfl) (.tmp rfl rfl) (IntWalk.i64_in _ (by omega)) (IntWalk.i64_in _ (by omega))) ?_
    refine RK.c (S.min2 .none rfl (.tmp rfl rfl) (.tmp rfl rfl)) ?_
    refine RK.c (S.max2 .none rfl (.cint rfl) (.tmp rfl rfl)) ?_
    refine RK.c (S.assign .none rfl (.tmp rfl rfl)) ?_
    refine RK.nil ?_
    refine Ab.D.code ?_
    refine OK.seq ?_
    rw [capM_eq]
    refine OK.reg ?_
    refine RK.c (S.move .none rfl (.tmp rfl rfl)) ?_
    refine RK.c (S.move .none rfl (.tmp rfl rfl)) ?_
    refine RK.c (S.mul (q := capM l r * capM l r) .none rfl (.tmp rfl rfl) (.tmp rfl rfl) (IntWalk.i64_in (capM l r * capM l r) (by omega)) (IntWalk.i64_in _ (by omega))) ?_
    refine RK.c (S.bloadN ti131 .none rfl (.tmp rfl rfl) rfl rfl rfl rfl) ?_
    refine RK.c (S.call (ref9_Spread hcb) Tryz.call110 .none rfl (.cons (.tmp rfl rfl) .nil) rfl) ?_
    refine RK.c (S.mul .none rfl (.cint rfl) (.tmp rfl rfl) (IntWalk.i64_in _ (by omega)) (IntWalk.i64_in _ (by omega))) ?_
    refine RK.c (S.call (base9_Lowest (a := capM l r * capM l r) (b := 9 * spreadT (chartT l)) (by omega) (by omega)) Tryz.call111 .none rfl (.cons (.tmp rfl rfl) (.cons (.tmp rfl rfl) .nil)) rfl) ?_
    refine RK.c (S.alloc (k := 8) ze55 rfl .none rfl) ?_
    refine RK.c (S.store ti55 .none (.tmp rfl rfl) (.tmp rfl rfl) rfl rfl rfl rfl rfl rfl) ?_
    refine RK.nil ?_
    refine Ab.D.code ?_
    refine OK.seq ?_
    refine OK.seq ?_
    refine OK.reg ?_
    refine RK.c (S.bloadN ti55 .none rfl (.tmp rfl rfl) rfl rfl rfl rfl) ?_
    refine RK.c (S.call (base9_IsSmall (f := capF l r)) Tryz.call112 .none rfl (.cons (.tmp rfl rfl) .nil) rfl) ?_
    refine RK.c (S.notD .none rfl (.tmp rfl rfl)) ?_
    refine RK.nil ?_
    refine Ab.D.code ?_
    refine OK.condD rfl rfl (fun c42 => ?_) (fun c42 => ?_)
    ·
      refine OK.seq ?_
      refine OK.reg ?_
      refine RK.c (S.build bu55 rfl .none rfl .nil rfl rfl) ?_
      refine RK.c (S.store ti55 .none (.tmp rfl rfl) (.tmp rfl rfl) rfl rfl rfl rfl rfl rfl) ?_
      refine RK.c (S.assign .none rfl (.cint rfl)) ?_
      refine RK.nil ?_
      refine Ab.D.code ?_
      refine OK.ret (Ret.r2 (.cellN rfl rfl rfl rfl ti55 rfl (.k (.same rfl) (.k (.same rfl) .z))) (.tmp rfl rfl (.c (.same rfl) rfl) rfl) ?_)
      have he : capE l r = 8 := by unfold capE; rw [if_neg (by omega), if_neg (by omega), if_neg (by omega), if_pos (Decidable.byContradiction fun q => c42 ⟨⟨by show _ ≤ Int.tdiv _ _; omega, by omega⟩, by show _ ≤ Int.tdiv _ _; omega, by omega⟩)]
      rw [capT, if_neg (by omega), he]
      rfl
    ·
      refine OK.skip ?_
      refine Ab.D.code ?_
      refine OK.seq ?_
      refine OK.reg ?_
      refine RK.c (S.bloadN ti55 .none rfl (.tmp rfl rfl) rfl rfl rfl rfl) ?_
      refine RK.c (S.store ti55 .none (.tmp rfl rfl) (.tmp rfl rfl) rfl rfl rfl rfl rfl rfl) ?_
      refine RK.c (S.assign .none rfl (.cint rfl)) ?_
      refine RK.nil ?_
      refine Ab.D.code ?_
      refine OK.ret (Ret.r2 (.cellN rfl rfl rfl rfl ti55 rfl (.k (.same rfl) (.k (.same rfl) .z))) (.tmp rfl rfl (.c (.same rfl) rfl) rfl) ?_)
      have he : capE l r = 0 := by unfold capE; rw [if_neg (by omega), if_neg (by omega), if_neg (by omega), if_neg (by omega)]
      rw [capT, if_pos he, he]
      rfl

theorem law_ShopCapability {l : List Int} {r : Range} : Ct Tryz.prog 5 [ints l, .agg r.cs] (.bool true) := by
  refine Ct.intro (rs := [.tmp 4]) Tryz.func5 rfl Tryz.ntmps5 Tryz.results5 rfl rfl rfl fun w h => ?_
  refine OK.seq ?_
  refine OK.reg ?_
  refine RK.c (S.box (k := 3) rfl .none rfl (.tmp rfl rfl) rfl) ?_
  refine RK.c (S.assign .none rfl .cbool) ?_
  refine RK.nil ?_
  refine Ab.D.code ?_
  refine OK.seq ?_
  refine OK.seq ?_
  refine OK.reg ?_
  refine RK.c (S.call (law9_awake) Tryz.call15 .none rfl .nil rfl) ?_
  refine RK.c (S.not .none rfl (.tmp rfl rfl)) ?_
  refine RK.nil ?_
  refine Ab.D.code ?_
  refine OK.condF rfl rfl rfl ?_
  refine OK.skip ?_
  refine Ab.D.code ?_
  refine OK.seq ?_
  refine OK.seq ?_
  refine OK.reg ?_
  refine RK.c (S.move .none rfl (.tmp rfl rfl)) ?_
  refine RK.c (S.lenM si30 .none rfl (.tmp rfl rfl)) ?_
  refine RK.c (S.gtr .none rfl (.tmp rfl rfl) (.cint rfl)) ?_
  refine RK.nil ?_
  refine Ab.D.code ?_
  refine OK.condD rfl rfl (fun c13 => ?_) (fun c13 => ?_)
  ·
    refine OK.seq ?_
    refine OK.reg ?_
    refine RK.c (S.assign .none rfl .cbool) ?_
    refine RK.nil ?_
    refine Ab.D.code ?_
    refine OK.ret (Ret.r1 (.tmp rfl rfl (.c (.same rfl) rfl) rfl) ?_)
    first | rfl | exact ret_dT rfl | exact ret_dT trivial
  ·
    refine OK.skip ?_
    refine Ab.D.code ?_
    refine OK.seq ?_
    refine OK.regionDraw follows (.c (S.move .none rfl (.tmp rfl rfl))
      (.c (S.call (base_CopyInts (by omega)) Tryz.call32 .none rfl (.cons (.tmp rfl rfl) .nil) rfl)
      (.c (S.bloadN ti53 .none rfl (.tmp rfl rfl) rfl rfl rfl rfl)
      (.c (S.call (shp_CapabilityOf) Tryz.call31 .none rfl (.cons (.tmp rfl rfl) (.cons (.tmp rfl rfl) .nil)) rfl)
      (.c (S.move .none rfl (.tmp rfl rfl))
      (.c (S.extract .none rfl (.tmp rfl rfl) rfl rfl)
      (.c (S.extract .none rfl (.tmp rfl rfl) rfl rfl)
      (.c (S.alloc (k := 5) ze55 rfl .none rfl)
      (.c (S.store ti55 .none (.tmp rfl rfl) (.tmp rfl rfl) rfl rfl rfl rfl rfl rfl)
      (.c (S.assign .none rfl (.tmp rfl rfl))
      .nil)))))))))) (by kernel_rfl) ?_
    refine Ab.D.code ?_
    refine OK.seq ?_
    refine OK.reg ?_
    refine RK.c (S.move .none rfl (.tmp rfl rfl)) ?_
    refine RK.c (S.call (ref9_ValuesErr) Tryz.call33 .none rfl (.cons (.tmp rfl rfl) .nil) rfl) ?_
    refine RK.c (S.assign .none rfl (.tmp rfl rfl)) ?_
    refine RK.nil ?_
    refine Ab.D.code ?_
    refine OK.seq ?_
    refine OK.seq ?_
    refine OK.reg ?_
    refine RK.c (S.move .none rfl (.tmp rfl rfl)) ?_
    refine RK.c (S.eql .none rfl (.tmp rfl rfl) (.cint rfl)) ?_
    refine RK.nil ?_
    refine Ab.D.code ?_
    refine OK.condD rfl rfl (fun c24 => ?_) (fun c24 => ?_)
    ·
      have hd : limE r = capsE l r := by unfold capsE; rw [if_pos c24]
      refine OK.reg ?_
      refine RK.c (S.bloadN ti53 .none rfl (.tmp rfl rfl) rfl rfl rfl rfl) ?_
      refine RK.c (S.call (ref9_LimitsErr) Tryz.call34 .none rfl (.cons (.tmp rfl rfl) .nil) rfl) ?_
      refine RK.c (S.assign .none rfl (.tmp rfl rfl)) ?_
      refine RK.nil ?_
      refine Ab.D.code ?_
      refine OK.seq ?_
      refine OK.seq ?_
      refine OK.reg ?_
      refine RK.c (S.move .none rfl (.tmp rfl rfl)) ?_
      refine RK.c (S.neq .none rfl (.tmp rfl rfl) (.cint rfl)) ?_
      refine RK.nil ?_
      refine Ab.D.code ?_
      refine OK.condD rfl rfl (fun c28 => ?_) (fun c28 => ?_)
      ·
        obtain ⟨hce, hct⟩ := caps_ne (show capsE l r ≠ 0 by omega)
        rw [hct]
        refine OK.seq ?_
        refine OK.reg ?_
        refine RK.c (S.move .none rfl (.tmp rfl rfl)) ?_
        refine RK.c (S.move .none rfl (.tmp rfl rfl)) ?_
        refine RK.c (S.eql .none rfl (.tmp rfl rfl) (.tmp rfl rfl)) ?_
        refine RK.c (S.move .none rfl (.tmp rfl rfl)) ?_
        refine RK.splitD (t := 32) rfl (fun g32 => ?_) (fun g32 => ?_)
        ·
          refine RK.c (S.bloadN ti55 (.yes rfl rfl rfl rfl) rfl (.tmp rfl rfl) rfl rfl rfl rfl) ?_
          refine RK.c (S.build bu55 rfl (.yes rfl rfl rfl rfl) rfl .nil rfl rfl) ?_
          refine RK.c (S.aeql [0, 0] [0, 0] eq55 (.yes rfl rfl rfl rfl) rfl (.tmp rfl rfl) (.tmp rfl rfl) rfl rfl rfl rfl) ?_
          refine RK.c (S.pickT .none rfl (.tmp rfl rfl) (.tmp rfl rfl) rfl) ?_
          refine RK.c (S.assign .none rfl (.tmp rfl rfl)) ?_
          refine RK.nil ?_
          refine Ab.D.code ?_
          refine OK.ret (Ret.r1 (.tmp rfl rfl (.c (.same rfl) rfl) rfl) ?_)
          first | rfl | exact ret_dT rfl | exact ret_dT trivial
        ·
          exact absurd (hce.trans hd.symm) g32
      ·
        refine OK.skip ?_
        refine Ab.D.code ?_
        refine OK.seq ?_
        refine OK.reg ?_
        refine RK.c (S.move .none rfl (.tmp rfl rfl)) ?_
        refine RK.c (S.bloadN ti53 .none rfl (.tmp rfl rfl) rfl rfl rfl rfl) ?_
        refine RK.c (S.call (ref9_Capability (by omega) (by omega)) Tryz.call35 .none rfl (.cons (.tmp rfl rfl) (.cons (.tmp rfl rfl) .nil)) rfl) ?_
        refine RK.c (S.move .none rfl (.tmp rfl rfl)) ?_
        refine RK.c (S.extract .none rfl (.tmp rfl rfl) rfl rfl) ?_
        refine RK.c (S.extract .none rfl (.tmp rfl rfl) rfl rfl) ?_
        refine RK.c (S.alloc (k := 8) ze55 rfl .none rfl) ?_
        refine RK.c (S.store ti55 .none (.tmp rfl rfl) (.tmp rfl rfl) rfl rfl rfl rfl rfl rfl) ?_
        refine RK.c (S.assign .none rfl (.tmp rfl rfl)) ?_
        refine RK.nil ?_
        refine Ab.D.code ?_
        refine OK.seq ?_
        refine OK.reg ?_
        refine RK.c (S.move .none rfl (.tmp rfl rfl)) ?_
        refine RK.c (S.move .none rfl (.tmp rfl rfl)) ?_
        refine RK.c (S.eql .none rfl (.tmp rfl rfl) (.tmp rfl rfl)) ?_
        refine RK.c (S.move .none rfl (.tmp rfl rfl)) ?_
        refine RK.splitD (t := 46) rfl (fun g46 => ?_) (fun g46 => ?_)
        ·
          refine RK.c (S.bloadN ti55 (.yes rfl rfl rfl rfl) rfl (.tmp rfl rfl) rfl rfl rfl rfl) ?_
          refine RK.c (S.bloadN ti55 (.yes rfl rfl rfl rfl) rfl (.tmp rfl rfl) rfl rfl rfl rfl) ?_
          refine RK.c (S.aeql [(capT l r).num, (capT l r).den] [(capT l r).num, (capT l r).den] eq55 (.yes rfl rfl rfl rfl) rfl (.tmp rfl rfl) (.tmp rfl rfl) rfl rfl rfl rfl) ?_
          refine RK.c (S.pickT .none rfl (.tmp rfl rfl) (.tmp rfl rfl) rfl) ?_
          refine RK.c (S.assign .none rfl (.tmp rfl rfl)) ?_
          refine RK.nil ?_
          refine Ab.D.code ?_
          refine OK.ret (Ret.r1 (.tmp rfl rfl (.c (.same rfl) rfl) rfl) ?_)
          first | rfl | exact ret_dT rfl | exact ret_dT trivial
        ·
          exact absurd rfl g46
    ·
      have hd : valsE l = capsE l r := by unfold capsE; rw [if_neg c24]
      refine OK.skip ?_
      refine Ab.D.code ?_
      refine OK.seq ?_
      refine OK.seq ?_
      refine OK.reg ?_
      refine RK.c (S.move .none rfl (.tmp rfl rfl)) ?_
      refine RK.c (S.neq .none rfl (.tmp rfl rfl) (.cint rfl)) ?_
      refine RK.nil ?_
      refine Ab.D.code ?_
      refine OK.condD rfl rfl (fun c28 => ?_) (fun c28 => ?_)
      ·
        obtain ⟨hce, hct⟩ := caps_ne (show capsE l r ≠ 0 by omega)
        rw [hct]
        refine OK.seq ?_
        refine OK.reg ?_
        refine RK.c (S.move .none rfl (.tmp rfl rfl)) ?_
        refine RK.c (S.move .none rfl (.tmp rfl rfl)) ?_
        refine RK.c (S.eql .none rfl (.tmp rfl rfl) (.tmp rfl rfl)) ?_
        refine RK.c (S.move .none rfl (.tmp rfl rfl)) ?_
        refine RK.splitD (t := 32) rfl (fun g32 => ?_) (fun g32 => ?_)
        ·
          refine RK.c (S.bloadN ti55 (.yes rfl rfl rfl rfl) rfl (.tmp rfl rfl) rfl rfl rfl rfl) ?_
          refine RK.c (S.build bu55 rfl (.yes rfl rfl rfl rfl) rfl .nil rfl rfl) ?_
          refine RK.c (S.aeql [0, 0] [0, 0] eq55 (.yes rfl rfl rfl rfl) rfl (.tmp rfl rfl) (.tmp rfl rfl) rfl rfl rfl rfl) ?_
          refine RK.c (S.pickT .none rfl (.tmp rfl rfl) (.tmp rfl rfl) rfl) ?_
          refine RK.c (S.assign .none rfl (.tmp rfl rfl)) ?_
          refine RK.nil ?_
          refine Ab.D.code ?_
          refine OK.ret (Ret.r1 (.tmp rfl rfl (.c (.same rfl) rfl) rfl) ?_)
          first | rfl | exact ret_dT rfl | exact ret_dT trivial
        ·
          exact absurd (hce.trans hd.symm) g32
      ·
        refine OK.skip ?_
        refine Ab.D.code ?_
        refine OK.seq ?_
        refine OK.reg ?_
        refine RK.c (S.move .none rfl (.tmp rfl rfl)) ?_
        refine RK.c (S.bloadN ti53 .none rfl (.tmp rfl rfl) rfl rfl rfl rfl) ?_
        refine RK.c (S.call (ref9_Capability (by omega) (by omega)) Tryz.call35 .none rfl (.cons (.tmp rfl rfl) (.cons (.tmp rfl rfl) .nil)) rfl) ?_
        refine RK.c (S.move .none rfl (.tmp rfl rfl)) ?_
        refine RK.c (S.extract .none rfl (.tmp rfl rfl) rfl rfl) ?_
        refine RK.c (S.extract .none rfl (.tmp rfl rfl) rfl rfl) ?_
        refine RK.c (S.alloc (k := 8) ze55 rfl .none rfl) ?_
        refine RK.c (S.store ti55 .none (.tmp rfl rfl) (.tmp rfl rfl) rfl rfl rfl rfl rfl rfl) ?_
        refine RK.c (S.assign .none rfl (.tmp rfl rfl)) ?_
        refine RK.nil ?_
        refine Ab.D.code ?_
        refine OK.seq ?_
        refine OK.reg ?_
        refine RK.c (S.move .none rfl (.tmp rfl rfl)) ?_
        refine RK.c (S.move .none rfl (.tmp rfl rfl)) ?_
        refine RK.c (S.eql .none rfl (.tmp rfl rfl) (.tmp rfl rfl)) ?_
        refine RK.c (S.move .none rfl (.tmp rfl rfl)) ?_
        refine RK.splitD (t := 46) rfl (fun g46 => ?_) (fun g46 => ?_)
        ·
          refine RK.c (S.bloadN ti55 (.yes rfl rfl rfl rfl) rfl (.tmp rfl rfl) rfl rfl rfl rfl) ?_
          refine RK.c (S.bloadN ti55 (.yes rfl rfl rfl rfl) rfl (.tmp rfl rfl) rfl rfl rfl rfl) ?_
          refine RK.c (S.aeql [(capT l r).num, (capT l r).den] [(capT l r).num, (capT l r).den] eq55 (.yes rfl rfl rfl rfl) rfl (.tmp rfl rfl) (.tmp rfl rfl) rfl rfl rfl rfl) ?_
          refine RK.c (S.pickT .none rfl (.tmp rfl rfl) (.tmp rfl rfl) rfl) ?_
          refine RK.c (S.assign .none rfl (.tmp rfl rfl)) ?_
          refine RK.nil ?_
          refine Ab.D.code ?_
          refine OK.ret (Ret.r1 (.tmp rfl rfl (.c (.same rfl) rfl) rfl) ?_)
          first | rfl | exact ret_dT rfl | exact ret_dT trivial
        ·
          exact absurd rfl g46

end Go.Proofs.YtjamlnkjfkcdkaaGreatDoor
