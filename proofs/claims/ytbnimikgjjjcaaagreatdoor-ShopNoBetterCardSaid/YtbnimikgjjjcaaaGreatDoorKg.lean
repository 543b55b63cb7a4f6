import Derived.Test.YtbnimikgjjjcaaaGreatDoorFs
import Derived.Test.YtbnimikgjjjcaaaGreatDoorGh
import Derived.Test.YtbnimikgjjjcaaaGreatDoorKa
import Derived.Test.YtbnimikgjjjcaaaGreatDoorKc
import Derived.Test.YtbnimikgjjjcaaaGreatDoorKf
namespace Go.Proofs.YtbnimikgjjjcaaaGreatDoor
open Go.Ab
theorem ct_res {P : Program} {f : Nat} {args : List X} {r r' : X} (h : Ct P f args r) (e : r = r') : Ct P f args r' := e ▸ h
theorem sorted_eq {l m : List Int} (hp : m.Perm l) (hs : m.Pairwise (fun x y => x ≤ y)) : sorted l = m := by
  unfold sorted
  have h1 : (l.mergeSort fun x y => decide (x ≤ y)).Pairwise (fun x y => x ≤ y) := by
    have := List.pairwise_mergeSort (le := fun x y : Int => decide (x ≤ y)) (by intro a b c h1 h2; simp only [decide_eq_true_eq] at *; omega) (by intro a b; simp only [Bool.or_eq_true, decide_eq_true_eq]; omega) l
    exact this.imp (by simp)
  exact ((List.mergeSort_perm l _).trans hp.symm).eq_of_pairwise (fun a b _ _ h1 h2 => by omega) h1 hs
theorem joinI : JoinI Tryz.prog 59 := ⟨fun a c sep w => Tryz.strings_Join_none a c sep w, fun bk o c xs sep w h1 h2 h3 h4 h5 => Tryz.strings_Join bk o c xs sep w h1 h2 h3 h4 h5⟩
theorem dig_len {n : Nat} (h : n < 100) : (Lib.decDigits n).length ≤ 2 := by
  by_cases h1 : n < 10
  · rw [Lib.decDigits_one h1]; simp
  · rw [Lib.decDigits_two h1 h]; simp
theorem itoa_small {n : Int} (h : 0 ≤ n ∧ n < 100) : Ct Tryz.prog 58 [.int .i64 n] (.str (Lib.decDigits n.toNat)) := by
  refine Ab.Ct.ofCalls fun m w vs hw ha => ?_
  obtain ⟨v1, vs', rfl, h1, h2⟩ := ha.cons_left
  have := h2.nil_left
  subst this
  have h1' : RepD m (.int .i64 n) v1 := h1
  cases h1'
  have hc := Tryz.strconv_Itoa_small n.toNat (by omega) w
  rw [Int.toNat_of_nonneg h.1] at hc
  refine hc.mono ?_
  rintro e w' ⟨rfl, rfl⟩
  exact ⟨_, rfl, Go.RowKit.Below.refl _ _, .str _ (by have := dig_len (n := n.toNat) (by omega); unfold maxLen; omega)⟩
def fmtShare (s : Share) : List UInt8 := s.lot ++ [120] ++ Lib.decDigits s.parts.toNat
def fmtBasket (b : Basket) : List UInt8 := Lib.join (b.shares.map fmtShare) [32]
def fmtBaskets (l : List Basket) : List UInt8 := Lib.join (l.map fmtBasket) [59]
structure FmtOk (l : List Basket) : Prop where
  len : l.length ≤ 100
  sh : ∀ b ∈ l, b.shares.length ≤ 100
  it : ∀ b ∈ l, ∀ s ∈ b.shares, s.lot.length ≤ 1000 ∧ 0 ≤ s.parts ∧ s.parts < 100
theorem fmtShare_len {s : Share} (h : s.lot.length ≤ 1000 ∧ 0 ≤ s.parts ∧ s.parts < 100) : (fmtShare s).length ≤ 1003 := by
  have := dig_len (n := s.parts.toNat) (by omega)
  unfold fmtShare
  simp only [List.length_append, List.length_cons, List.length_nil]
  omega
theorem fmtBasket_len {l : List Basket} (h : FmtOk l) {b : Basket} (hb : b ∈ l) : (fmtBasket b).length ≤ 100400 := by
  have h1 := join_len (B := 1003) (sep := [32]) (l := b.shares.map fmtShare) fun s hs => by
    obtain ⟨x, hx, rfl⟩ := List.mem_map.1 hs
    exact fmtShare_len (h.it b hb x hx)
  have h2 := h.sh b hb
  rw [List.length_map] at h1
  have h3 : b.shares.length * (1003 + [(32 : UInt8)].length) ≤ 100 * 1004 := Nat.mul_le_mul_right 1004 h2
  exact Nat.le_trans h1 h3
theorem fmtBaskets_len {l : List Basket} (h : FmtOk l) : (fmtBaskets l).length ≤ 10040100 := by
  have h1 := join_len (B := 100400) (sep := [59]) (l := l.map fmtBasket) fun s hs => by
    obtain ⟨x, hx, rfl⟩ := List.mem_map.1 hs
    exact fmtBasket_len h hx
  have h2 := h.len
  rw [List.length_map] at h1
  have h3 : l.length * (100400 + [(59 : UInt8)].length) ≤ 100 * 100401 := Nat.mul_le_mul_right 100401 h2
  exact Nat.le_trans h1 h3
def jobsX : List Job := [⟨[97], 0, 5, 6⟩, ⟨[98], 1, 4, 9⟩, ⟨[99], 0, 3, 14⟩]
def chgX : Changes := ⟨0, [[0, 2], [2, 0]]⟩
def lotsX : List Lot := [⟨[112], [104], 5⟩, ⟨[113], [107], 3⟩, ⟨[114], [104], 4⟩]
def basksX : List Basket := [⟨[⟨[112], 5⟩, ⟨[114], 1⟩]⟩, ⟨[⟨[114], 3⟩]⟩, ⟨[⟨[113], 3⟩]⟩]
def runsX : List Run := [⟨0, 4, 10⟩, ⟨2, 3, 7⟩, ⟨9, 1, 12⟩]
def bathX : List Bath := [⟨0, ⟨100, 110⟩⟩, ⟨10, ⟨90, 95⟩⟩]
theorem aw_best : Ct Tryz.prog 8 [.sl (jobsX.map Job.cs), .agg chgX.cs] (.tup [ints [0, 1, 2], .int .i64 2, .int .i64 2, .int .i64 0]) := by
  have h1 : bothE jobsX chgX = 0 := by decide +kernel
  have h2 : (bestT jobsX chgX).1 = [0, 1, 2] ∧ (bestT jobsX chgX).2.late = 2 ∧ (bestT jobsX chgX).2.changes = 2 := by decide +kernel
  refine ct_res (shp_BestOf (l := jobsX) (c := chgX)) ?_
  rw [if_pos h1, if_pos h1, if_pos h1, h1, h2.1, h2.2.1, h2.2.2]
theorem aw_baskets : Ct Tryz.prog 19 [.sl (lotsX.map Lot.cs), .int .i64 6] (.tup [.sl (basksX.map Basket.cs), .int .i64 0]) := by
  have h1 : basketsE lotsX 6 = 0 := by decide +kernel
  have h2 : basketsT lotsX 6 = basksX := by decide +kernel
  refine ct_res (shp_BasketsOf (l := lotsX) (cap := 6)) ?_
  rw [if_pos h1, h1, h2]
theorem earl_a : earlT [] ⟨0, 4, 10⟩ 15 = 0 := by
  unfold earlT
  rw [show sorted (ticksT [] ⟨0, 4, 10⟩) = [0] from sorted_eq (by decide) (by decide)]
  decide +kernel
theorem earl_b : earlT [⟨0, 4, 10⟩] ⟨2, 3, 7⟩ 15 = 4 := by
  unfold earlT
  rw [show sorted (ticksT [⟨0, 4, 10⟩] ⟨2, 3, 7⟩) = [2, 4] from sorted_eq (by decide) (by decide)]
  decide +kernel
theorem earl_c : earlT [⟨0, 4, 10⟩, ⟨4, 3, 7⟩] ⟨9, 1, 12⟩ 15 = 9 := by
  unfold earlT
  rw [show sorted (ticksT [⟨0, 4, 10⟩, ⟨4, 3, 7⟩] ⟨9, 1, 12⟩) = [9] from sorted_eq (by decide) (by decide)]
  decide +kernel
theorem aw_placed : Ct Tryz.prog 21 [.sl (runsX.map Run.cs), .int .i64 15] (.tup [ints [0, 4, 9], .int .i64 0]) := by
  have h1 : placedE runsX 15 = 0 := by decide +kernel
  have h2 : placedT runsX 15 = [0, 4, 9] := by
    simp only [placedT, placedR, runsX, placeGo, List.nil_append, earl_a, List.cons_append, earl_b, earl_c]
    rfl
  refine ct_res (shp_Placed (l := runsX) (peak := 15)) ?_
  rw [if_pos h1, h1, h2]
theorem aw_cap : Ct Tryz.prog 22 [ints [9, 10, 11], .agg (Range.cs ⟨7, 12⟩)] (.tup [.agg (Frac.cs ⟨2, 3⟩), .int .i64 0]) := by
  have h1 : capE [9, 10, 11] ⟨7, 12⟩ = 0 := by decide +kernel
  have h2 : capT [9, 10, 11] ⟨7, 12⟩ = ⟨2, 3⟩ := by decide +kernel
  refine ct_res (shp_CapabilityOf (l := [9, 10, 11]) (r := ⟨7, 12⟩)) ?_
  rw [h1, h2]
theorem aw_next : Ct Tryz.prog 23 [.sl (bathX.map Bath.cs), .agg (Range.cs ⟨80, 120⟩)] (.tup [.int .i64 21, .int .i64 0]) := by
  have h1 : nextE bathX ⟨80, 120⟩ = 0 := by decide +kernel
  have h2 : nextT bathX ⟨80, 120⟩ = 21 := by decide +kernel
  refine ct_res (shp_NextCheck (l := bathX) (r := ⟨80, 120⟩)) ?_
  rw [h1, h2]
theorem aw_i1 : Ct Tryz.prog 24 [ints [0, 1, 2], ints [0, 1, 2]] (.bool true) := ct_res (base_Ints (a := [0, 1, 2]) (b := [0, 1, 2])) (by rw [decide_eq_true rfl])
theorem aw_i2 : Ct Tryz.prog 24 [ints [0, 4, 9], ints [0, 4, 9]] (.bool true) := ct_res (base_Ints (a := [0, 4, 9]) (b := [0, 4, 9])) (by rw [decide_eq_true rfl])
theorem fmtX : fmtBaskets basksX = [112, 120, 53, 32, 114, 120, 49, 59, 114, 120, 51, 59, 113, 120, 51] := by
  have d1 : Lib.decDigits 1 = [49] := by rw [Lib.decDigits_one (by decide)]; rfl
  have d3 : Lib.decDigits 3 = [51] := by rw [Lib.decDigits_one (by decide)]; rfl
  have d5 : Lib.decDigits 5 = [53] := by rw [Lib.decDigits_one (by decide)]; rfl
  simp only [fmtBaskets, fmtBasket, fmtShare, basksX, List.map_cons, List.map_nil, show (5 : Int).toNat = 5 from rfl, show (1 : Int).toNat = 1 from rfl, show (3 : Int).toNat = 3 from rfl, d1, d3, d5]
  decide +kernel
theorem shp_FormatSmall {l : List Basket} (h0 : FmtOk l) : Ct Tryz.prog 25 [.sl (l.map Basket.cs)] (.str (fmtBaskets l)) := by
 refine Ct.intro (rs := [.tmp 2]) Tryz.func25 rfl Tryz.ntmps25 Tryz.results25 rfl rfl rfl fun w h => ?_
 have hlen := h0.len
 refine OK.seq (OK.reg ?_)
 refine RK.c (S.assign .none rfl (.cstr (l := []) rfl (by decide))) ?_
 refine RK.nil (Ab.D.code (OK.seq (OK.reg ?_)))
 refine RK.c (S.nilOwn (k := 3) (sz := 1) .none rfl) ?_
 refine RK.nil (Ab.D.code (OK.seq (OK.seq (OK.reg ?_))))
 refine RK.c (S.move .none rfl (.tmp rfl rfl)) ?_
 refine RK.c (S.lenM si47 .none rfl (.tmp rfl rfl)) ?_
 refine RK.c (S.move .none rfl (.cint rfl)) ?_
 refine RK.nil (Ab.D.code ?_)
 refine OK.block ?_
 refine OK.loop (G := Nat) [3] (fun i => [(3, .own 3 i), (2003, .arr 1 (((l.take i).map fmtBasket).map fun s => [.str s])), (9, .sl (l.map Basket.cs)), (10, .int .i64 l.length), (11, .int .i64 i)]) (fun i => i ≤ l.length) (fun i => l.length - i) 0 (Nat.zero_le _) ⟨(lk_own (by first | rfl | (simp; done) | (simp; omega))), (lk_arr (by first | rfl | (simp; done) | (simp; omega))), rfl, rfl, rfl, trivial⟩ (fun _ => rfl) ?_
 rintro i hi
 refine OK.seq (OK.reg ?_)
 refine RK.c (S.lss .none rfl (.tmp rfl rfl) (.tmp rfl rfl)) ?_
 refine RK.nil (Ab.D.code ?_)
 refine OK.seq ?_
 refine OK.condD rfl rfl (fun c12 => ?_) (fun c12 => ?_)
 ·
  have hil : i < l.length := by omega
  have hbm := List.getElem_mem hil
  have hsl := h0.sh _ hbm
  have hbl := fmtBasket_len h0 hbm
  refine OK.skip ?_
  refine Ab.D.code ?_
  refine OK.seq ?_
  refine OK.block ?_
  refine OK.seq (OK.reg ?_)
  refine RK.c (S.indexM si47 .none rfl (.tmp rfl rfl) (.tmp rfl rfl) rfl (by omega) rfl) ?_
  refine RK.c (S.loadN ti99 .none rfl (.tmp rfl rfl) rfl rfl) ?_
  refine RK.c (S.alloc (k := 5) ze99 rfl .none rfl) ?_
  refine RK.c (S.store ti99 .none (.tmp rfl rfl) (.tmp rfl rfl) rfl rfl rfl rfl rfl rfl) ?_
  refine RK.nil (Ab.D.code (OK.seq (OK.reg ?_)))
  refine RK.c (S.nilOwn (k := 6) (sz := 1) .none rfl) ?_
  refine RK.nil (Ab.D.code (OK.seq (OK.seq (OK.reg ?_))))
  refine RK.c (S.bfield fi99_0 .none rfl (.tmp rfl rfl)) ?_
  refine RK.c (S.bload1 ti97 .none rfl (.tmp rfl rfl) rfl rfl rfl rfl) ?_
  refine RK.c (S.lenM si97 .none rfl (.tmp rfl rfl)) ?_
  refine RK.c (S.move .none rfl (.cint rfl)) ?_
  refine RK.nil (Ab.D.code ?_)
  refine OK.block ?_
  refine OK.loop (G := Nat) [3, 6] (fun k => [(3, .own 3 i), (2003, .arr 1 (((l.take i).map fmtBasket).map fun s => [.str s])), (9, .sl (l.map Basket.cs)), (10, .int .i64 l.length), (11, .int .i64 i), (6, .own 6 k), (2006, .arr 1 (((l[i].shares.take k).map fmtShare).map fun s => [.str s])), (16, .sl (l[i].shares.map Share.cs)), (17, .int .i64 l[i].shares.length), (18, .int .i64 k)]) (fun k => k ≤ l[i].shares.length) (fun k => l[i].shares.length - k) 0 (Nat.zero_le _) ⟨(lk_own (by first | rfl | (simp; done) | (simp; omega))), (lk_arr (by first | rfl | (simp; done) | (simp; omega))), rfl, rfl, rfl, (lk_own (by first | rfl | (simp; done) | (simp; omega))), (lk_arr (by first | rfl | (simp; done) | (simp; omega))), rfl, rfl, rfl, trivial⟩ (fun _ => rfl) ?_
  rintro k hk
  refine OK.seq (OK.reg ?_)
  refine RK.c (S.lss .none rfl (.tmp rfl rfl) (.tmp rfl rfl)) ?_
  refine RK.nil (Ab.D.code ?_)
  refine OK.seq ?_
  refine OK.condD rfl rfl (fun c19 => ?_) (fun c19 => ?_)
  ·
   have hsb := h0.it _ hbm l[i].shares[k] (List.getElem_mem (by omega))
   have hdl := dig_len (n := l[i].shares[k].parts.toNat) (by omega)
   refine OK.skip ?_
   refine Ab.D.code ?_
   refine OK.seq ?_
   refine OK.block ?_
   refine OK.seq (OK.reg ?_)
   refine RK.c (S.indexM si97 .none rfl (.tmp rfl rfl) (.tmp rfl rfl) rfl (by omega) rfl) ?_
   refine RK.c (S.loadN ti102 .none rfl (.tmp rfl rfl) rfl rfl) ?_
   refine RK.c (S.alloc (k := 8) ze102 rfl .none rfl) ?_
   refine RK.c (S.store ti102 .none (.tmp rfl rfl) (.tmp rfl rfl) rfl rfl rfl rfl rfl rfl) ?_
   refine RK.nil (Ab.D.code ?_)
   refine OK.regionDraw follows (.c (S.move .none rfl (.tmp rfl rfl))
    (.c (S.bfield fi102_0 .none rfl (.tmp rfl rfl))
    (.c (S.bload1 ti9 .none rfl (.tmp rfl rfl) rfl rfl rfl rfl)
    (.c (S.sadd .none rfl (.tmp rfl rfl) (.cstr (l := [120]) rfl (by decide)) (by simp only [List.length_append, List.length_cons, List.length_nil]; omega))
    (.c (S.bfield fi102_1 .none rfl (.tmp rfl rfl))
    (.c (S.bload1 ti3 .none rfl (.tmp rfl rfl) rfl rfl rfl rfl)
    (.c (S.call (itoa_small hsb.2) Tryz.call58 .none rfl (.cons (.tmp rfl rfl) .nil) rfl)
    (.c (S.sadd .none rfl (.tmp rfl rfl) (.tmp rfl rfl) (by simp only [List.length_append, List.length_cons, List.length_nil]; omega))
    (.c (S.mkSlice (k := 30) (rows := [[_]]) ai121 .none rfl (.cons (.tmp rfl rfl) .nil) rfl rfl rfl rfl rfl rfl rfl)
    (.c (S.append ai121 .none rfl (.tmp rfl rfl) rfl (by simp; omega) (.tmp rfl rfl) rfl (by first | rfl | (simp; done) | (simp; omega)) (by omega) (by simp only [maxLen]; omega))
    (.c (S.assign .none rfl (.tmp rfl rfl))
    .nil))))))))))) (by kernel_rfl) ?_
   refine Ab.D.blk ?_
   refine Ab.D.code (OK.reg ?_)
   refine RK.c (S.add .none rfl (.tmp rfl rfl) (.cint rfl) (IntWalk.i64_in _ (by omega)) (IntWalk.i64_in _ (by omega))) ?_
   refine RK.c (S.move .none rfl (.tmp rfl rfl)) ?_
   refine RK.nil ?_
   refine Ab.D.lp ⟨k + 1, (by omega), (by omega), (lk_own (by first | rfl | (simp; done) | (simp; omega))), (lk_arr (by first | rfl | (simp; done) | (simp; omega))), rfl, rfl, rfl, (lk_own (by omega)), (lk_arr (by rw [List.take_succ_eq_append_getElem (by omega), List.map_append, List.map_append]; rfl)), rfl, rfl, rfl, trivial⟩
  ·
   refine OK.exit rfl ?_
   refine Ab.D.code ?_
   rw [show k = l[i].shares.length by omega, List.take_length]
   refine OK.reg ?_
   refine RK.c (S.move .none rfl (.tmp rfl rfl)) ?_
   refine RK.c (S.move .none rfl (.tmp rfl rfl)) ?_
   refine RK.c (S.callL (joinI.ct (l := l[i].shares.map fmtShare) (sep := [32]) (by rw [List.length_map]; omega) (by show (fmtBasket l[i]).length ≤ _; omega)) Tryz.call59 .none rfl (.cons (.tmp rfl rfl) (.cons (.cstr (l := [32]) rfl (by decide)) .nil)) (.cons (.p (.own rfl (by simp)) rfl) (.cons (.same rfl) .nil)) rfl) ?_
   refine RK.c (S.mkSlice (k := 36) (rows := [[_]]) ai121 .none rfl (.cons (.tmp rfl rfl) .nil) rfl rfl rfl rfl rfl rfl rfl) ?_
   refine RK.c (S.append ai121 .none rfl (.tmp rfl rfl) rfl (by simp; omega) (.tmp rfl rfl) rfl (by first | rfl | (simp; done) | (simp; omega)) (by omega) (by simp only [maxLen]; omega)) ?_
   refine RK.c (S.assign .none rfl (.tmp rfl rfl)) ?_
   refine RK.nil ?_
   refine Ab.D.blk ?_
   refine Ab.D.code (OK.reg ?_)
   refine RK.c (S.add .none rfl (.tmp rfl rfl) (.cint rfl) (IntWalk.i64_in _ (by omega)) (IntWalk.i64_in _ (by omega))) ?_
   refine RK.c (S.move .none rfl (.tmp rfl rfl)) ?_
   refine RK.nil ?_
   refine Ab.D.lp ⟨i + 1, (by omega), (by omega), (lk_own (by omega)), (lk_arr (by rw [List.take_succ_eq_append_getElem (by omega), List.map_append, List.map_append]; rfl)), rfl, rfl, rfl, trivial⟩
 ·
  refine OK.exit rfl ?_
  refine Ab.D.code ?_
  refine OK.seq ?_
  rw [show i = l.length by omega, List.take_length]
  refine OK.reg ?_
  refine RK.c (S.move .none rfl (.tmp rfl rfl)) ?_
  refine RK.c (S.callL (joinI.ct (l := l.map fmtBasket) (sep := [59]) (by rw [List.length_map]; omega) (by have := fmtBaskets_len h0; show (fmtBaskets l).length ≤ _; omega)) Tryz.call59 .none rfl (.cons (.tmp rfl rfl) (.cons (.cstr (l := [59]) rfl (by decide)) .nil)) (.cons (.p (.own rfl (by simp)) rfl) (.cons (.same rfl) .nil)) rfl) ?_
  refine RK.c (S.assign .none rfl (.tmp rfl rfl)) ?_
  refine RK.nil (Ab.D.code ?_)
  refine OK.ret (Ret.r1 (.tmp rfl rfl (.c (.same rfl) rfl) rfl) ?_)
  rfl
theorem aw_fmt : Ct Tryz.prog 25 [.sl (basksX.map Basket.cs)] (.str [112, 120, 53, 32, 114, 120, 49, 59, 114, 120, 51, 59, 113, 120, 51]) := ct_res (shp_FormatSmall (l := basksX) ⟨by decide, by decide, by decide⟩) (by rw [fmtX])
theorem law_Jobs  : Ct Tryz.prog 17 [] (.sl (jobsX.map Job.cs)) := by
 refine Ct.intro (rs := [.tmp 0]) Tryz.func17 rfl Tryz.ntmps17 Tryz.results17 rfl rfl rfl fun w h => ?_
 refine OK.seq (OK.reg ?_)
 refine RK.c (S.assign .none rfl .cnil) ?_
 refine RK.nil (Ab.D.code (OK.seq (OK.reg ?_)))
 refine RK.c (S.build bu70 rfl .none rfl (.cons (.cstr (l := [97]) rfl (by decide)) (.cons (.cint rfl) (.cons (.cint rfl) .nil))) rfl rfl) ?_
 refine RK.c (S.build bu70 rfl .none rfl (.cons (.cstr (l := [98]) rfl (by decide)) (.cons (.cint rfl) (.cons (.cint rfl) (.cons (.cint rfl) .nil)))) rfl rfl) ?_
 refine RK.c (S.build bu70 rfl .none rfl (.cons (.cstr (l := [99]) rfl (by decide)) (.cons (.cint rfl) (.cons (.cint rfl) .nil))) rfl rfl) ?_
 refine RK.c (S.mkData (rows := [[_, _, _, _], [_, _, _, _], [_, _, _, _]]) ai22 .none rfl (.cons (.tmp rfl rfl) (.cons (.tmp rfl rfl) (.cons (.tmp rfl rfl) .nil))) rfl rfl rfl rfl rfl rfl rfl) ?_
 refine RK.c (S.assign .none rfl (.tmp rfl rfl)) ?_
 refine RK.nil (Ab.D.code ?_)
 refine OK.ret (Ret.r1 (.tmp rfl rfl (.c (.same rfl) rfl) rfl) ?_)
 rfl
theorem law_Changes  : Ct Tryz.prog 18 [] (.agg chgX.cs) := by
 refine Ct.intro (rs := [.cell 0 25]) Tryz.func18 rfl Tryz.ntmps18 Tryz.results18 rfl rfl rfl fun w h => ?_
 refine OK.seq (OK.reg ?_)
 refine RK.c (S.alloc (k := 0) ze25 rfl .none rfl) ?_
 refine RK.nil (Ab.D.code (OK.seq (OK.reg ?_)))
 refine RK.c (S.mkData (rows := [[_], [_]]) ai26 .none rfl (.cons (.cint rfl) (.cons (.cint rfl) .nil)) rfl rfl rfl rfl rfl rfl rfl) ?_
 refine RK.c (S.mkData (rows := [[_], [_]]) ai26 .none rfl (.cons (.cint rfl) (.cons (.cint rfl) .nil)) rfl rfl rfl rfl rfl rfl rfl) ?_
 refine RK.c (S.mkData (rows := [[_], [_]]) ai23 .none rfl (.cons (.tmp rfl rfl) (.cons (.tmp rfl rfl) .nil)) rfl rfl rfl rfl rfl rfl rfl) ?_
 refine RK.c (S.build bu25 rfl .none rfl (.cons (.tmp rfl rfl) .nil) rfl rfl) ?_
 refine RK.c (S.store ti25 .none (.tmp rfl rfl) (.tmp rfl rfl) rfl rfl rfl rfl rfl rfl) ?_
 refine RK.nil (Ab.D.code ?_)
 refine OK.ret (Ret.r1 (.cellN rfl rfl rfl rfl ti25 rfl (.k (.same rfl) (.k (.same rfl) .z))) ?_)
 rfl
theorem law_Lots  : Ct Tryz.prog 20 [] (.sl (lotsX.map Lot.cs)) := by
 refine Ct.intro (rs := [.tmp 0]) Tryz.func20 rfl Tryz.ntmps20 Tryz.results20 rfl rfl rfl fun w h => ?_
 refine OK.seq (OK.reg ?_)
 refine RK.c (S.assign .none rfl .cnil) ?_
 refine RK.nil (Ab.D.code (OK.seq (OK.reg ?_)))
 refine RK.c (S.build bu96 rfl .none rfl (.cons (.cstr (l := [112]) rfl (by decide)) (.cons (.cstr (l := [104]) rfl (by decide)) (.cons (.cint rfl) .nil))) rfl rfl) ?_
 refine RK.c (S.build bu96 rfl .none rfl (.cons (.cstr (l := [113]) rfl (by decide)) (.cons (.cstr (l := [107]) rfl (by decide)) (.cons (.cint rfl) .nil))) rfl rfl) ?_
 refine RK.c (S.build bu96 rfl .none rfl (.cons (.cstr (l := [114]) rfl (by decide)) (.cons (.cstr (l := [104]) rfl (by decide)) (.cons (.cint rfl) .nil))) rfl rfl) ?_
 refine RK.c (S.mkData (rows := [[_, _, _], [_, _, _], [_, _, _]]) ai50 .none rfl (.cons (.tmp rfl rfl) (.cons (.tmp rfl rfl) (.cons (.tmp rfl rfl) .nil))) rfl rfl rfl rfl rfl rfl rfl) ?_
 refine RK.c (S.assign .none rfl (.tmp rfl rfl)) ?_
 refine RK.nil (Ab.D.code ?_)
 refine OK.ret (Ret.r1 (.tmp rfl rfl (.c (.same rfl) rfl) rfl) ?_)
 rfl
theorem law9_awake  : Ct Tryz.prog 4 [] (.bool true) := by
 refine Ct.intro (rs := [.tmp 0]) Tryz.func4 rfl Tryz.ntmps4 Tryz.results4 rfl rfl rfl fun w h => ?_
 refine OK.seq (OK.reg ?_)
 refine RK.c (S.assign .none rfl .cbool) ?_
 refine RK.nil (Ab.D.code (OK.seq (OK.reg ?_)))
 refine RK.c (S.call (law_Jobs) Tryz.call17 .none rfl .nil rfl) ?_
 refine RK.c (S.call (law_Changes) Tryz.call18 .none rfl .nil rfl) ?_
 refine RK.c (S.call (aw_best) Tryz.call8 .none rfl (.cons (.tmp rfl rfl) (.cons (.tmp rfl rfl) .nil)) rfl) ?_
 refine RK.c (S.move .none rfl (.tmp rfl rfl)) ?_
 refine RK.c (S.extract .none rfl (.tmp rfl rfl) rfl rfl) ?_
 refine RK.c (S.extract .none rfl (.tmp rfl rfl) rfl rfl) ?_
 refine RK.c (S.extract .none rfl (.tmp rfl rfl) rfl rfl) ?_
 refine RK.c (S.extract .none rfl (.tmp rfl rfl) rfl rfl) ?_
 refine RK.c (S.assign .none rfl (.tmp rfl rfl)) ?_
 refine RK.c (S.assign .none rfl (.tmp rfl rfl)) ?_
 refine RK.c (S.assign .none rfl (.tmp rfl rfl)) ?_
 refine RK.c (S.assign .none rfl (.tmp rfl rfl)) ?_
 refine RK.nil (Ab.D.code (OK.seq (OK.reg ?_)))
 refine RK.c (S.call (law_Lots) Tryz.call20 .none rfl .nil rfl) ?_
 refine RK.c (S.call (aw_baskets) Tryz.call19 .none rfl (.cons (.tmp rfl rfl) (.cons (.cint rfl) .nil)) rfl) ?_
 refine RK.c (S.move .none rfl (.tmp rfl rfl)) ?_
 refine RK.c (S.extract .none rfl (.tmp rfl rfl) rfl rfl) ?_
 refine RK.c (S.extract .none rfl (.tmp rfl rfl) rfl rfl) ?_
 refine RK.c (S.assign .none rfl (.tmp rfl rfl)) ?_
 refine RK.c (S.assign .none rfl (.tmp rfl rfl)) ?_
 refine RK.nil (Ab.D.code (OK.seq (OK.reg ?_)))
 refine RK.c (S.build bu55 rfl .none rfl (.cons (.cint rfl) (.cons (.cint rfl) .nil)) rfl rfl) ?_
 refine RK.c (S.build bu55 rfl .none rfl (.cons (.cint rfl) (.cons (.cint rfl) (.cons (.cint rfl) .nil))) rfl rfl) ?_
 refine RK.c (S.build bu55 rfl .none rfl (.cons (.cint rfl) (.cons (.cint rfl) (.cons (.cint rfl) .nil))) rfl rfl) ?_
 refine RK.c (S.mkData (rows := [[_, _, _], [_, _, _], [_, _, _]]) ai56 .none rfl (.cons (.tmp rfl rfl) (.cons (.tmp rfl rfl) (.cons (.tmp rfl rfl) .nil))) rfl rfl rfl rfl rfl rfl rfl) ?_
 refine RK.c (S.call (aw_placed) Tryz.call21 .none rfl (.cons (.tmp rfl rfl) (.cons (.cint rfl) .nil)) rfl) ?_
 refine RK.c (S.move .none rfl (.tmp rfl rfl)) ?_
 refine RK.c (S.extract .none rfl (.tmp rfl rfl) rfl rfl) ?_
 refine RK.c (S.extract .none rfl (.tmp rfl rfl) rfl rfl) ?_
 refine RK.c (S.assign .none rfl (.tmp rfl rfl)) ?_
 refine RK.c (S.assign .none rfl (.tmp rfl rfl)) ?_
 refine RK.nil (Ab.D.code (OK.seq (OK.reg ?_)))
 refine RK.c (S.mkData (rows := [[_], [_], [_]]) ai26 .none rfl (.cons (.cint rfl) (.cons (.cint rfl) (.cons (.cint rfl) .nil))) rfl rfl rfl rfl rfl rfl rfl) ?_
 refine RK.c (S.build bu62 rfl .none rfl (.cons (.cint rfl) (.cons (.cint rfl) .nil)) rfl rfl) ?_
 refine RK.c (S.call (aw_cap) Tryz.call22 .none rfl (.cons (.tmp rfl rfl) (.cons (.tmp rfl rfl) .nil)) rfl) ?_
 refine RK.c (S.move .none rfl (.tmp rfl rfl)) ?_
 refine RK.c (S.extract .none rfl (.tmp rfl rfl) rfl rfl) ?_
 refine RK.c (S.extract .none rfl (.tmp rfl rfl) rfl rfl) ?_
 refine RK.c (S.alloc (k := 9) ze58 rfl .none rfl) ?_
 refine RK.c (S.store ti58 .none (.tmp rfl rfl) (.tmp rfl rfl) rfl rfl rfl rfl rfl rfl) ?_
 refine RK.c (S.assign .none rfl (.tmp rfl rfl)) ?_
 refine RK.nil (Ab.D.code (OK.seq (OK.reg ?_)))
 refine RK.c (S.build bu62 rfl .none rfl (.cons (.cint rfl) (.cons (.cint rfl) .nil)) rfl rfl) ?_
 refine RK.c (S.build bu65 rfl .none rfl (.cons (.tmp rfl rfl) .nil) rfl rfl) ?_
 refine RK.c (S.build bu62 rfl .none rfl (.cons (.cint rfl) (.cons (.cint rfl) .nil)) rfl rfl) ?_
 refine RK.c (S.build bu65 rfl .none rfl (.cons (.cint rfl) (.cons (.tmp rfl rfl) .nil)) rfl rfl) ?_
 refine RK.c (S.mkData (rows := [[_, _, _], [_, _, _]]) ai66 .none rfl (.cons (.tmp rfl rfl) (.cons (.tmp rfl rfl) .nil)) rfl rfl rfl rfl rfl rfl rfl) ?_
 refine RK.c (S.build bu62 rfl .none rfl (.cons (.cint rfl) (.cons (.cint rfl) .nil)) rfl rfl) ?_
 refine RK.c (S.call (aw_next) Tryz.call23 .none rfl (.cons (.tmp rfl rfl) (.cons (.tmp rfl rfl) .nil)) rfl) ?_
 refine RK.c (S.move .none rfl (.tmp rfl rfl)) ?_
 refine RK.c (S.extract .none rfl (.tmp rfl rfl) rfl rfl) ?_
 refine RK.c (S.extract .none rfl (.tmp rfl rfl) rfl rfl) ?_
 refine RK.c (S.assign .none rfl (.tmp rfl rfl)) ?_
 refine RK.c (S.assign .none rfl (.tmp rfl rfl)) ?_
 refine RK.nil (Ab.D.code (OK.seq (OK.reg ?_)))
 refine RK.c (S.move .none rfl (.tmp rfl rfl)) ?_
 refine RK.c (S.eql .none rfl (.tmp rfl rfl) (.cint rfl)) ?_
 refine RK.c (S.move .none rfl (.tmp rfl rfl)) ?_
 refine RK.c (S.move (.yes rfl rfl rfl rfl) rfl (.tmp rfl rfl)) ?_
 refine RK.c (S.mkData (rows := [[_], [_], [_]]) ai26 (.yes rfl rfl rfl rfl) rfl (.cons (.cint rfl) (.cons (.cint rfl) (.cons (.cint rfl) .nil))) rfl rfl rfl rfl rfl rfl rfl) ?_
 refine RK.c (S.call (aw_i1) Tryz.call24 (.yes rfl rfl rfl rfl) rfl (.cons (.tmp rfl rfl) (.cons (.tmp rfl rfl) .nil)) rfl) ?_
 refine RK.c (S.pickT .none rfl (.tmp rfl rfl) (.tmp rfl rfl) rfl) ?_
 refine RK.c (S.move .none rfl (.tmp rfl rfl)) ?_
 refine RK.c (S.move (.yes rfl rfl rfl rfl) rfl (.tmp rfl rfl)) ?_
 refine RK.c (S.eql (.yes rfl rfl rfl rfl) rfl (.tmp rfl rfl) (.cint rfl)) ?_
 refine RK.c (S.pickT .none rfl (.tmp rfl rfl) (.tmp rfl rfl) rfl) ?_
 refine RK.c (S.move .none rfl (.tmp rfl rfl)) ?_
 refine RK.c (S.move (.yes rfl rfl rfl rfl) rfl (.tmp rfl rfl)) ?_
 refine RK.c (S.eql (.yes rfl rfl rfl rfl) rfl (.tmp rfl rfl) (.cint rfl)) ?_
 refine RK.c (S.pickT .none rfl (.tmp rfl rfl) (.tmp rfl rfl) rfl) ?_
 refine RK.c (S.move .none rfl (.tmp rfl rfl)) ?_
 refine RK.c (S.move (.yes rfl rfl rfl rfl) rfl (.tmp rfl rfl)) ?_
 refine RK.c (S.eql (.yes rfl rfl rfl rfl) rfl (.tmp rfl rfl) (.cint rfl)) ?_
 refine RK.c (S.pickT .none rfl (.tmp rfl rfl) (.tmp rfl rfl) rfl) ?_
 refine RK.c (S.move .none rfl (.tmp rfl rfl)) ?_
 refine RK.c (S.move (.yes rfl rfl rfl rfl) rfl (.tmp rfl rfl)) ?_
 refine RK.c (S.call (aw_fmt) Tryz.call25 (.yes rfl rfl rfl rfl) rfl (.cons (.tmp rfl rfl) .nil) rfl) ?_
 refine RK.c (S.seql (.yes rfl rfl rfl rfl) rfl (.tmp rfl rfl) (.cstr (l := [112, 120, 53, 32, 114, 120, 49, 59, 114, 120, 51, 59, 113, 120, 51]) rfl (by decide))) ?_
 refine RK.c (S.pickT .none rfl (.tmp rfl rfl) (.tmp rfl rfl) rfl) ?_
 refine RK.c (S.move .none rfl (.tmp rfl rfl)) ?_
 refine RK.c (S.move (.yes rfl rfl rfl rfl) rfl (.tmp rfl rfl)) ?_
 refine RK.c (S.eql (.yes rfl rfl rfl rfl) rfl (.tmp rfl rfl) (.cint rfl)) ?_
 refine RK.c (S.pickT .none rfl (.tmp rfl rfl) (.tmp rfl rfl) rfl) ?_
 refine RK.c (S.move .none rfl (.tmp rfl rfl)) ?_
 refine RK.c (S.move (.yes rfl rfl rfl rfl) rfl (.tmp rfl rfl)) ?_
 refine RK.c (S.mkData (rows := [[_], [_], [_]]) ai26 (.yes rfl rfl rfl rfl) rfl (.cons (.cint rfl) (.cons (.cint rfl) (.cons (.cint rfl) .nil))) rfl rfl rfl rfl rfl rfl rfl) ?_
 refine RK.c (S.call (aw_i2) Tryz.call24 (.yes rfl rfl rfl rfl) rfl (.cons (.tmp rfl rfl) (.cons (.tmp rfl rfl) .nil)) rfl) ?_
 refine RK.c (S.pickT .none rfl (.tmp rfl rfl) (.tmp rfl rfl) rfl) ?_
 refine RK.c (S.move .none rfl (.tmp rfl rfl)) ?_
 refine RK.c (S.move (.yes rfl rfl rfl rfl) rfl (.tmp rfl rfl)) ?_
 refine RK.c (S.eql (.yes rfl rfl rfl rfl) rfl (.tmp rfl rfl) (.cint rfl)) ?_
 refine RK.c (S.pickT .none rfl (.tmp rfl rfl) (.tmp rfl rfl) rfl) ?_
 refine RK.c (S.move .none rfl (.tmp rfl rfl)) ?_
 refine RK.c (S.bloadN ti58 (.yes rfl rfl rfl rfl) rfl (.tmp rfl rfl) rfl rfl rfl rfl) ?_
 refine RK.c (S.build bu58 rfl (.yes rfl rfl rfl rfl) rfl (.cons (.cint rfl) (.cons (.cint rfl) .nil)) rfl rfl) ?_
 refine RK.c (S.aeql [2, 3] [2, 3] eq58 (.yes rfl rfl rfl rfl) rfl (.tmp rfl rfl) (.tmp rfl rfl) rfl rfl rfl rfl) ?_
 refine RK.c (S.pickT .none rfl (.tmp rfl rfl) (.tmp rfl rfl) rfl) ?_
 refine RK.c (S.move .none rfl (.tmp rfl rfl)) ?_
 refine RK.c (S.move (.yes rfl rfl rfl rfl) rfl (.tmp rfl rfl)) ?_
 refine RK.c (S.eql (.yes rfl rfl rfl rfl) rfl (.tmp rfl rfl) (.cint rfl)) ?_
 refine RK.c (S.pickT .none rfl (.tmp rfl rfl) (.tmp rfl rfl) rfl) ?_
 refine RK.c (S.move .none rfl (.tmp rfl rfl)) ?_
 refine RK.c (S.move (.yes rfl rfl rfl rfl) rfl (.tmp rfl rfl)) ?_
 refine RK.c (S.eql (.yes rfl rfl rfl rfl) rfl (.tmp rfl rfl) (.cint rfl)) ?_
 refine RK.c (S.pickT .none rfl (.tmp rfl rfl) (.tmp rfl rfl) rfl) ?_
 refine RK.c (S.assign .none rfl (.tmp rfl rfl)) ?_
 refine RK.nil (Ab.D.code ?_)
 refine OK.ret (Ret.r1 (.tmp rfl rfl (.c (.same rfl) rfl) rfl) ?_)
 rfl
end Go.Proofs.YtbnimikgjjjcaaaGreatDoor
namespace Go.Proofs.YtbnimikgjjjcaaaGreatDoor
open Go.Ab
theorem sh_ints {x : X} (h : Shape (.sl (.int .i64)) [x]) : ∃ l : List Int, x = ints l := by
  obtain ⟨rows, h1, hr⟩ := h
  cases h1
  obtain ⟨l, rfl⟩ := rows_of (f := fun n => [X.int .i64 n]) (fun r h => by obtain ⟨s, rfl⟩ := hr r h; exact ⟨s, rfl⟩)
  exact ⟨l, rfl⟩
theorem sh_job {xs : List X} (h : Shape (.st (.cons .str (.cons (.int .i64) (.cons (.int .i64) (.cons (.int .i64) .nil))))) xs) : ∃ p : Job, xs = p.cs := by
  obtain ⟨a, b, rfl, ⟨n1, rfl⟩, c, d, rfl, ⟨n2, rfl⟩, e, f, rfl, ⟨n3, rfl⟩, e2, f2, rfl, ⟨n4, rfl⟩, rfl⟩ := h
  exact ⟨⟨n1, n2, n3, n4⟩, rfl⟩
theorem sh_jobs {x : X} (h : Shape (.sl (.st (.cons .str (.cons (.int .i64) (.cons (.int .i64) (.cons (.int .i64) .nil)))))) [x]) : ∃ l : List Job, x = .sl (l.map Job.cs) := by
  obtain ⟨rows, h1, hr⟩ := h
  cases h1
  obtain ⟨l, rfl⟩ := rows_of (f := Job.cs) (fun r h => sh_job (hr r h))
  exact ⟨l, rfl⟩
theorem sh_row9 {xs : List X} (h : Shape (.sl (.int .i64)) xs) : ∃ l : List Int, xs = [.sl (l.map fun n => [.int .i64 n])] := by
  obtain ⟨rows, rfl, hr⟩ := h
  obtain ⟨l, rfl⟩ := rows_of (f := fun n => [X.int .i64 n]) (fun r h => by obtain ⟨s, rfl⟩ := hr r h; exact ⟨s, rfl⟩)
  exact ⟨l, rfl⟩
theorem sh_changes {xs : List X} (h : Shape (.cons (.int .i64) (.cons (.sl (.sl (.int .i64))) .nil)) xs) : ∃ c : Changes, xs = c.cs := by
  obtain ⟨a, b, rfl, ⟨n, rfl⟩, c, d, rfl, ⟨rows, rfl, hr⟩, rfl⟩ := h
  obtain ⟨l, rfl⟩ := rows_of (f := fun l : List Int => [X.sl (l.map fun n => [X.int .i64 n])]) (fun r h => sh_row9 (hr r h))
  exact ⟨⟨n, l⟩, rfl⟩
end Go.Proofs.YtbnimikgjjjcaaaGreatDoor
namespace Go.Proofs.YtbnimikgjjjcaaaGreatDoor
open Go.Ab
theorem ret_dT {p : Prop} [Decidable p] (h : p) : X.bool (decide p) = X.bool true := by rw [decide_eq_true h]
theorem base_CopyInts {l : List Int} (hlen : l.length ≤ 100000) : Ct Tryz.prog 13 [.sl (l.map (fun n => [.int .i64 n]))] (.sl (l.map (fun n => [.int .i64 n]))) := by
 refine Ct.intro (rs := [.tmp 2]) Tryz.func13 rfl Tryz.ntmps13 Tryz.results13 rfl rfl rfl fun w h => ?_
 refine OK.seq (OK.reg ?_)
 refine RK.c (S.assign .none rfl .cnil) ?_
 refine RK.nil (Ab.D.code (OK.seq (OK.reg ?_)))
 refine RK.c (S.mkSlice (k := 3) (rows := []) ai26 .none rfl .nil rfl rfl rfl rfl rfl rfl rfl) ?_
 refine RK.c (S.move .none rfl (.tmp rfl rfl)) ?_
 refine RK.c (S.appendSl ai26 .none rfl (.tmp rfl rfl) rfl (by first | rfl | (simp; done) | (simp; omega)) (.tmp rfl rfl) (by intro q hq; obtain ⟨b, _, rfl⟩ := List.mem_map.1 hq; rfl) rfl (by simp only [List.length_map]; omega) (by simp only [maxLen, List.length_map]; omega)) ?_
 refine RK.c (S.assign .none rfl (.tmp rfl rfl)) ?_
 refine RK.nil (Ab.D.code ?_)
 refine OK.ret (Ret.r1 (.tmp rfl rfl (.c (.own rfl rfl (by first | rfl | (simp; done) | (simp; omega))) rfl) rfl) ?_)
 rfl
theorem ref9_CopyJobs {l : List Job} (hlen : l.length ≤ 100000) : Ct Tryz.prog 9 [.sl (l.map Job.cs)] (.sl (l.map Job.cs)) := by
 refine Ct.intro (rs := [.tmp 2]) Tryz.func9 rfl Tryz.ntmps9 Tryz.results9 rfl rfl rfl fun w h => ?_
 refine OK.seq (OK.reg ?_)
 refine RK.c (S.assign .none rfl .cnil) ?_
 refine RK.nil (Ab.D.code (OK.seq (OK.reg ?_)))
 refine RK.c (S.mkSlice (k := 3) (rows := []) ai22 .none rfl .nil rfl rfl rfl rfl rfl rfl rfl) ?_
 refine RK.c (S.move .none rfl (.tmp rfl rfl)) ?_
 refine RK.c (S.appendSl ai22 .none rfl (.tmp rfl rfl) rfl (by first | rfl | (simp; done) | (simp; omega)) (.tmp rfl rfl) (by intro q hq; obtain ⟨b, _, rfl⟩ := List.mem_map.1 hq; rfl) rfl (by simp only [List.length_map]; omega) (by simp only [maxLen, List.length_map]; omega)) ?_
 refine RK.c (S.assign .none rfl (.tmp rfl rfl)) ?_
 refine RK.nil (Ab.D.code ?_)
 refine OK.ret (Ret.r1 (.tmp rfl rfl (.c (.own rfl rfl (by first | rfl | (simp; done) | (simp; omega))) rfl) rfl) ?_)
 rfl
theorem base_CopyLists {l : List (List Int)} (hlen : l.length ≤ 100000) (hr : ∀ r ∈ l, r.length ≤ 100000) : Ct Tryz.prog 33 [.sl (l.map fun l => [.sl (l.map fun n => [.int .i64 n])])] (.sl (l.map fun l => [.sl (l.map fun n => [.int .i64 n])])) := by
 refine Ct.intro (rs := [.tmp 2]) Tryz.func33 rfl Tryz.ntmps33 Tryz.results33 rfl rfl rfl fun w h => ?_
 refine OK.seq (OK.reg ?_)
 refine RK.c (S.assign .none rfl .cnil) ?_
 refine RK.nil (Ab.D.code (OK.seq (OK.reg ?_)))
 refine RK.c (S.nilOwn (k := 3) (sz := 1) .none rfl) ?_
 refine RK.nil (Ab.D.code (OK.seq (OK.seq (OK.reg ?_))))
 refine RK.c (S.assign .none rfl (.cint rfl)) ?_
 refine RK.nil (Ab.D.code ?_)
 refine OK.block ?_
 refine OK.loop (G := Nat) [3] (fun i => [(0, .sl (l.map fun l => [.sl (l.map fun n => [.int .i64 n])])), (3, .own 3 i), (2003, .arr 1 ((l.take i).map fun l => [.sl (l.map fun n => [.int .i64 n])])), (4, .int .i64 i)]) (fun i => i ≤ l.length) (fun i => l.length - i) 0 (Nat.zero_le _) ⟨rfl, (lk_own (by first | rfl | (simp; done) | (simp; omega))), (lk_arr (by first | rfl | (simp; done) | (simp; omega))), rfl, trivial⟩ (fun _ => rfl) ?_
 rintro i hi
 refine OK.seq (OK.seq (OK.reg ?_))
 refine RK.c (S.move .none rfl (.tmp rfl rfl)) ?_
 refine RK.c (S.move .none rfl (.tmp rfl rfl)) ?_
 refine RK.c (S.lenM si23 .none rfl (.tmp rfl rfl)) ?_
 refine RK.c (S.lss .none rfl (.tmp rfl rfl) (.tmp rfl rfl)) ?_
 refine RK.nil (Ab.D.code ?_)
 refine OK.condD rfl rfl (fun c8 => ?_) (fun c8 => ?_)
 ·
  have hri := hr l[i] (List.getElem_mem (by omega))
  refine OK.skip ?_
  refine Ab.D.code ?_
  refine OK.seq ?_
  refine OK.block ?_
  refine OK.reg ?_
  refine RK.c (S.move .none rfl (.tmp rfl rfl)) ?_
  refine RK.c (S.move .none rfl (.tmp rfl rfl)) ?_
  refine RK.c (S.move .none rfl (.tmp rfl rfl)) ?_
  refine RK.c (S.indexM (n := i) si23 .none rfl (.tmp rfl rfl) (.tmp rfl rfl) rfl (by omega) rfl) ?_
  refine RK.c (S.load1 ti26 .none rfl (.tmp rfl rfl) rfl) ?_
  refine RK.c (S.call (base_CopyInts (by omega)) Tryz.call13 .none rfl (.cons (.tmp rfl rfl) .nil) rfl) ?_
  refine RK.c (S.mkSlice (k := 17) (rows := [[_]]) ai23 .none rfl (.cons (.tmp rfl rfl) .nil) rfl rfl rfl rfl rfl rfl rfl) ?_
  refine RK.c (S.append ai23 .none rfl (.tmp rfl rfl) rfl (by simp; omega) (.tmp rfl rfl) rfl (by first | rfl | (simp; done) | (simp; omega)) (by omega) (by simp only [maxLen]; omega)) ?_
  refine RK.c (S.assign .none rfl (.tmp rfl rfl)) ?_
  refine RK.nil ?_
  refine Ab.D.blk ?_
  refine Ab.D.code (OK.reg ?_)
  refine RK.c (S.move .none rfl (.tmp rfl rfl)) ?_
  refine RK.c (S.add .none rfl (.tmp rfl rfl) (.cint rfl) (IntWalk.i64_in _ (by omega)) (IntWalk.i64_in _ (by omega))) ?_
  refine RK.c (S.assign .none rfl (.tmp rfl rfl)) ?_
  refine RK.nil ?_
  refine Ab.D.lp ⟨i + 1, (by omega), (by omega), rfl, (lk_own (by omega)), (lk_arr (by rw [List.take_succ_eq_append_getElem (by omega), List.map_append]; rfl)), rfl, trivial⟩
 ·
  refine OK.exit rfl ?_
  refine Ab.D.code (OK.seq (OK.reg ?_))
  refine RK.c (S.move .none rfl (.tmp rfl rfl)) ?_
  refine RK.c (S.assign .none rfl (.tmp rfl rfl)) ?_
  refine RK.nil (Ab.D.code ?_)
  refine OK.ret (Ret.r1 (.tmp rfl rfl (.c (.own rfl rfl (by first | rfl | (simp; done) | (simp; omega))) rfl) rfl) ?_)
  rw [show i = l.length by omega, List.take_length]
theorem ref9_CopyChanges {c : Changes} (hlen : c.ticks.length ≤ 100000) (hr : ∀ r ∈ c.ticks, r.length ≤ 100000) : Ct Tryz.prog 10 [.agg c.cs] (.agg c.cs) := by
 refine Ct.intro (rs := [.cell 2 25]) Tryz.func10 rfl Tryz.ntmps10 Tryz.results10 rfl rfl rfl fun w h => ?_
 refine OK.seq (OK.reg ?_)
 refine RK.c (S.box (k := 1) rfl .none rfl (.tmp rfl rfl) rfl) ?_
 refine RK.c (S.alloc (k := 2) ze25 rfl .none rfl) ?_
 refine RK.nil (Ab.D.code ?_)
 refine OK.seq ?_
 refine OK.regionDraw follows (.c (S.bfield fi25_0 .none rfl (.tmp rfl rfl))
  (.c (S.bload1 ti3 .none rfl (.tmp rfl rfl) rfl rfl rfl rfl)
  (.c (S.bfield fi25_1 .none rfl (.tmp rfl rfl))
  (.c (S.bload1 ti23 .none rfl (.tmp rfl rfl) rfl rfl rfl rfl)
  (.c (S.call (base_CopyLists hlen hr) Tryz.call33 .none rfl (.cons (.tmp rfl rfl) .nil) rfl)
  (.c (S.build bu25 rfl .none rfl (.cons (.tmp rfl rfl) (.cons (.tmp rfl rfl) .nil)) rfl rfl)
  (.c (S.store ti25 .none (.tmp rfl rfl) (.tmp rfl rfl) rfl rfl rfl rfl rfl rfl)
  .nil))))))) (by kernel_rfl) ?_
 refine Ab.D.code ?_
 refine OK.ret (Ret.r1 (.cellN rfl rfl rfl rfl ti25 rfl (.k (.same rfl) (.k (.same rfl) .z))) ?_)
 rfl
theorem ref9_isTicks {n : Int} : Ct Tryz.prog 61 [.int .i64 n] (.bool (decide (0 ≤ n ∧ n ≤ 100000))) := by
 refine Ct.intro (rs := [.tmp 2]) Tryz.func61 rfl Tryz.ntmps61 Tryz.results61 rfl rfl rfl fun w h => ?_
 refine OK.seq (OK.reg ?_)
 refine RK.c (S.assign .none rfl .cbool) ?_
 refine RK.nil (Ab.D.code (OK.seq (OK.reg ?_)))
 refine RK.c (S.move .none rfl (.tmp rfl rfl)) ?_
 refine RK.c (S.call (base_Within) Tryz.call34 .none rfl (.cons (.tmp rfl rfl) (.cons (.cint rfl) (.cons (.cint rfl) .nil))) rfl) ?_
 refine RK.c (S.assign .none rfl (.tmp rfl rfl)) ?_
 refine RK.nil (Ab.D.code ?_)
 refine OK.ret (Ret.r1 (.tmp rfl rfl (.c (.same rfl) rfl) rfl) ?_)
 rfl
end Go.Proofs.YtbnimikgjjjcaaaGreatDoor
