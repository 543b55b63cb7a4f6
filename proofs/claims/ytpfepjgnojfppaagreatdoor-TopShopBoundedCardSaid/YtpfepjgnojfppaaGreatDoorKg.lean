import Derived.Test.YtpfepjgnojfppaaGreatDoorGh
import Derived.Test.YtpfepjgnojfppaaGreatDoorGs
import Derived.Test.YtpfepjgnojfppaaGreatDoorKb
import Derived.Test.YtpfepjgnojfppaaGreatDoorKf
namespace Go.Proofs.YtpfepjgnojfppaaGreatDoor
open Go.Ab
theorem ct_res {P : Program} {f : Nat} {args : List X} {r r' : X} (h : Ct P f args r) (e : r = r') : Ct P f args r' := e ▸ h
theorem joinI : JoinI Tryz.prog 113 := ⟨fun a c sep w => Tryz.strings_Join_none a c sep w, fun bk o c xs sep w h1 h2 h3 h4 h5 => Tryz.strings_Join bk o c xs sep w h1 h2 h3 h4 h5⟩
theorem dig_len {n : Nat} (h : n < 100) : (Lib.decDigits n).length ≤ 2 := by
  by_cases h1 : n < 10
  · rw [Lib.decDigits_one h1]; simp
  · rw [Lib.decDigits_two h1 h]; simp
theorem itoa_small {n : Int} (h : 0 ≤ n ∧ n < 100) : Ct Tryz.prog 112 [.int .i64 n] (.str (Lib.decDigits n.toNat)) := by
  refine Ab.Ct.ofCalls fun m w vs hw ha => ?_
  obtain ⟨v1, vs', rfl, h1, h2⟩ := ha.cons_left
  have := h2.nil_left
  subst this
  have h1' : RepD m (.int .i64 n) v1 := h1
  cases h1'
  have hc := Tryz.strconv_Itoa_small n.toNat (by omega) w
  rw [Int.toNat_of_nonneg h.1] at hc
  refine hc.mono ?_
  rintro e w' ⟨rfl, rfl⟩
  exact ⟨_, rfl, Go.RowKit.Below.refl _ _, .str _ (by have := dig_len (n := n.toNat) (by omega); unfold maxLen; omega)⟩
def fmtShare (s : Share) : List UInt8 := s.lot ++ [120] ++ Lib.decDigits s.parts.toNat
def fmtBasket (b : Basket) : List UInt8 := Lib.join (b.shares.map fmtShare) [32]
def fmtBaskets (l : List Basket) : List UInt8 := Lib.join (l.map fmtBasket) [59]
structure FmtOk (l : List Basket) : Prop where
  len : l.length ≤ 100
  sh : ∀ b ∈ l, b.shares.length ≤ 100
  it : ∀ b ∈ l, ∀ s ∈ b.shares, s.lot.length ≤ 1000 ∧ 0 ≤ s.parts ∧ s.parts < 100
theorem fmtShare_len {s : Share} (h : s.lot.length ≤ 1000 ∧ 0 ≤ s.parts ∧ s.parts < 100) : (fmtShare s).length ≤ 1003 := by
  have := dig_len (n := s.parts.toNat) (by omega)
  unfold fmtShare
  simp only [List.length_append, List.length_cons, List.length_nil]
  omega
theorem fmtBasket_len {l : List Basket} (h : FmtOk l) {b : Basket} (hb : b ∈ l) : (fmtBasket b).length ≤ 100400 := by
  have h1 := join_len (B := 1003) (sep := [32]) (l := b.shares.map fmtShare) fun s hs => by
    obtain ⟨x, hx, rfl⟩ := List.mem_map.1 hs
    exact fmtShare_len (h.it b hb x hx)
  have h2 := h.sh b hb
  rw [List.length_map] at h1
  have h3 : b.shares.length * (1003 + [(32 : UInt8)].length) ≤ 100 * 1004 := Nat.mul_le_mul_right 1004 h2
  exact Nat.le_trans h1 h3
theorem fmtBaskets_len {l : List Basket} (h : FmtOk l) : (fmtBaskets l).length ≤ 10040100 := by
  have h1 := join_len (B := 100400) (sep := [59]) (l := l.map fmtBasket) fun s hs => by
    obtain ⟨x, hx, rfl⟩ := List.mem_map.1 hs
    exact fmtBasket_len h hx
  have h2 := h.len
  rw [List.length_map] at h1
  have h3 : l.length * (100400 + [(59 : UInt8)].length) ≤ 100 * 100401 := Nat.mul_le_mul_right 100401 h2
  exact Nat.le_trans h1 h3
def jobsX : List Job := [⟨[97], 0, 5, 6⟩, ⟨[98], 1, 4, 9⟩, ⟨[99], 0, 3, 14⟩]
def chgX : Changes := ⟨0, [[0, 2], [2, 0]]⟩
def lotsX : List Lot := [⟨[112], [104], 5⟩, ⟨[113], [107], 3⟩, ⟨[114], [104], 4⟩]
def basksX : List Basket := [⟨[⟨[112], 5⟩, ⟨[114], 1⟩]⟩, ⟨[⟨[114], 3⟩]⟩, ⟨[⟨[113], 3⟩]⟩]
theorem aw_best : Ct Tryz.prog 16 [.sl (jobsX.map Job.cs), .agg chgX.cs] (.tup [ints [0, 1, 2], .int .i64 2, .int .i64 2, .int .i64 0]) := by
  have h1 : bothE jobsX chgX = 0 := by decide +kernel
  have h2 : (bestT jobsX chgX).1 = [0, 1, 2] ∧ (bestT jobsX chgX).2.late = 2 ∧ (bestT jobsX chgX).2.changes = 2 := by decide +kernel
  refine ct_res (shp_BestOf (l := jobsX) (c := chgX)) ?_
  rw [if_pos h1, if_pos h1, if_pos h1, h1, h2.1, h2.2.1, h2.2.2]
theorem aw_baskets : Ct Tryz.prog 31 [.sl (lotsX.map Lot.cs), .int .i64 6] (.tup [.sl (basksX.map Basket.cs), .int .i64 0]) := by
  have h1 : basketsE lotsX 6 = 0 := by decide +kernel
  have h2 : basketsT lotsX 6 = basksX := by decide +kernel
  refine ct_res (shp_BasketsOf (l := lotsX) (cap := 6)) ?_
  rw [if_pos h1, h1, h2]
theorem aw_i1 : Ct Tryz.prog 21 [ints [0, 1, 2], ints [0, 1, 2]] (.bool true) := ct_res (base_Ints (a := [0, 1, 2]) (b := [0, 1, 2])) (by rw [decide_eq_true rfl])
theorem fmtX : fmtBaskets basksX = [112, 120, 53, 32, 114, 120, 49, 59, 114, 120, 51, 59, 113, 120, 51] := by
  have d1 : Lib.decDigits 1 = [49] := by rw [Lib.decDigits_one (by decide)]; rfl
  have d3 : Lib.decDigits 3 = [51] := by rw [Lib.decDigits_one (by decide)]; rfl
  have d5 : Lib.decDigits 5 = [53] := by rw [Lib.decDigits_one (by decide)]; rfl
  simp only [fmtBaskets, fmtBasket, fmtShare, basksX, List.map_cons, List.map_nil, show (5 : Int).toNat = 5 from rfl, show (1 : Int).toNat = 1 from rfl, show (3 : Int).toNat = 3 from rfl, d1, d3, d5]
  decide +kernel
theorem shp_FormatSmall {l : List Basket} (h0 : FmtOk l) : Ct Tryz.prog 59 [.sl (l.map Basket.cs)] (.str (fmtBaskets l)) := by
 refine Ct.intro (rs := [.tmp 2]) Tryz.func59 rfl Tryz.ntmps59 Tryz.results59 rfl rfl rfl fun w h => ?_
 have hlen := h0.len
 refine OK.seq (OK.reg ?_)
 refine RK.c (S.assign .none rfl (.cstr (l := []) rfl (by decide))) ?_
 refine RK.nil (Ab.D.code (OK.seq (OK.reg ?_)))
 refine RK.c (S.nilOwn (k := 3) (sz := 1) .none rfl) ?_
 refine RK.nil (Ab.D.code (OK.seq (OK.seq (OK.reg ?_))))
 refine RK.c (S.move .none rfl (.tmp rfl rfl)) ?_
 refine RK.c (S.lenM si50 .none rfl (.tmp rfl rfl)) ?_
 refine RK.c (S.move .none rfl (.cint rfl)) ?_
 refine RK.nil (Ab.D.code ?_)
 refine OK.block ?_
 refine OK.loop (G := Nat) [3] (fun i => [(3, .own 3 i), (2003, .arr 1 (((l.take i).map fmtBasket).map fun s => [.str s])), (9, .sl (l.map Basket.cs)), (10, .int .i64 l.length), (11, .int .i64 i)]) (fun i => i ≤ l.length) (fun i => l.length - i) 0 (Nat.zero_le _) ⟨(lk_own (by first | rfl | (simp; done) | (simp; omega))), (lk_arr (by first | rfl | (simp; done) | (simp; omega))), rfl, rfl, rfl, trivial⟩ (fun _ => rfl) ?_
 rintro i hi
 refine OK.seq (OK.reg ?_)
 refine RK.c (S.lss .none rfl (.tmp rfl rfl) (.tmp rfl rfl)) ?_
 refine RK.nil (Ab.D.code ?_)
 refine OK.seq ?_
 refine OK.condD rfl rfl (fun c12 => ?_) (fun c12 => ?_)
 ·
  have hil : i < l.length := by omega
  have hbm := List.getElem_mem hil
  have hsl := h0.sh _ hbm
  have hbl := fmtBasket_len h0 hbm
  refine OK.skip ?_
  refine Ab.D.code ?_
  refine OK.seq ?_
  refine OK.block ?_
  refine OK.seq (OK.reg ?_)
  refine RK.c (S.indexM si50 .none rfl (.tmp rfl rfl) (.tmp rfl rfl) rfl (by omega) rfl) ?_
  refine RK.c (S.loadN ti71 .none rfl (.tmp rfl rfl) rfl rfl) ?_
  refine RK.c (S.alloc (k := 5) ze71 rfl .none rfl) ?_
  refine RK.c (S.store ti71 .none (.tmp rfl rfl) (.tmp rfl rfl) rfl rfl rfl rfl rfl rfl) ?_
  refine RK.nil (Ab.D.code (OK.seq (OK.reg ?_)))
  refine RK.c (S.nilOwn (k := 6) (sz := 1) .none rfl) ?_
  refine RK.nil (Ab.D.code (OK.seq (OK.seq (OK.reg ?_))))
  refine RK.c (S.bfield fi71_0 .none rfl (.tmp rfl rfl)) ?_
  refine RK.c (S.bload1 ti69 .none rfl (.tmp rfl rfl) rfl rfl rfl rfl) ?_
  refine RK.c (S.lenM si69 .none rfl (.tmp rfl rfl)) ?_
  refine RK.c (S.move .none rfl (.cint rfl)) ?_
  refine RK.nil (Ab.D.code ?_)
  refine OK.block ?_
  refine OK.loop (G := Nat) [3, 6] (fun k => [(3, .own 3 i), (2003, .arr 1 (((l.take i).map fmtBasket).map fun s => [.str s])), (9, .sl (l.map Basket.cs)), (10, .int .i64 l.length), (11, .int .i64 i), (6, .own 6 k), (2006, .arr 1 (((l[i].shares.take k).map fmtShare).map fun s => [.str s])), (16, .sl (l[i].shares.map Share.cs)), (17, .int .i64 l[i].shares.length), (18, .int .i64 k)]) (fun k => k ≤ l[i].shares.length) (fun k => l[i].shares.length - k) 0 (Nat.zero_le _) ⟨(lk_own (by first | rfl | (simp; done) | (simp; omega))), (lk_arr (by first | rfl | (simp; done) | (simp; omega))), rfl, rfl, rfl, (lk_own (by first | rfl | (simp; done) | (simp; omega))), (lk_arr (by first | rfl | (simp; done) | (simp; omega))), rfl, rfl, rfl, trivial⟩ (fun _ => rfl) ?_
  rintro k hk
  refine OK.seq (OK.reg ?_)
  refine RK.c (S.lss .none rfl (.tmp rfl rfl) (.tmp rfl rfl)) ?_
  refine RK.nil (Ab.D.code ?_)
  refine OK.seq ?_
  refine OK.condD rfl rfl (fun c19 => ?_) (fun c19 => ?_)
  ·
   have hsb := h0.it _ hbm l[i].shares[k] (List.getElem_mem (by omega))
   have hdl := dig_len (n := l[i].shares[k].parts.toNat) (by omega)
   refine OK.skip ?_
   refine Ab.D.code ?_
   refine OK.seq ?_
   refine OK.block ?_
   refine OK.seq (OK.reg ?_)
   refine RK.c (S.indexM si69 .none rfl (.tmp rfl rfl) (.tmp rfl rfl) rfl (by omega) rfl) ?_
   refine RK.c (S.loadN ti73 .none rfl (.tmp rfl rfl) rfl rfl) ?_
   refine RK.c (S.alloc (k := 8) ze73 rfl .none rfl) ?_
   refine RK.c (S.store ti73 .none (.tmp rfl rfl) (.tmp rfl rfl) rfl rfl rfl rfl rfl rfl) ?_
   refine RK.nil (Ab.D.code ?_)
   refine OK.regionDraw follows (.c (S.move .none rfl (.tmp rfl rfl))
    (.c (S.bfield fi73_0 .none rfl (.tmp rfl rfl))
    (.c (S.bload1 ti9 .none rfl (.tmp rfl rfl) rfl rfl rfl rfl)
    (.c (S.sadd .none rfl (.tmp rfl rfl) (.cstr (l := [120]) rfl (by decide)) (by simp only [List.length_append, List.length_cons, List.length_nil]; omega))
    (.c (S.bfield fi73_1 .none rfl (.tmp rfl rfl))
    (.c (S.bload1 ti3 .none rfl (.tmp rfl rfl) rfl rfl rfl rfl)
    (.c (S.call (itoa_small hsb.2) Tryz.call112 .none rfl (.cons (.tmp rfl rfl) .nil) rfl)
    (.c (S.sadd .none rfl (.tmp rfl rfl) (.tmp rfl rfl) (by simp only [List.length_append, List.length_cons, List.length_nil]; omega))
    (.c (S.mkSlice (k := 30) (rows := [[_]]) ai64 .none rfl (.cons (.tmp rfl rfl) .nil) rfl rfl rfl rfl rfl rfl rfl)
    (.c (S.append ai64 .none rfl (.tmp rfl rfl) rfl (by simp; omega) (.tmp rfl rfl) rfl (by first | rfl | (simp; done) | (simp; omega)) (by omega) (by simp only [maxLen]; omega))
    (.c (S.assign .none rfl (.tmp rfl rfl))
    .nil))))))))))) (by kernel_rfl) ?_
   refine Ab.D.blk ?_
   refine Ab.D.code (OK.reg ?_)
   refine RK.c (S.add .none rfl (.tmp rfl rfl) (.cint rfl) (IntWalk.i64_in _ (by omega)) (IntWalk.i64_in _ (by omega))) ?_
   refine RK.c (S.move .none rfl (.tmp rfl rfl)) ?_
   refine RK.nil ?_
   refine Ab.D.lp ⟨k + 1, (by omega), (by omega), (lk_own (by first | rfl | (simp; done) | (simp; omega))), (lk_arr (by first | rfl | (simp; done) | (simp; omega))), rfl, rfl, rfl, (lk_own (by omega)), (lk_arr (by rw [List.take_succ_eq_append_getElem (by omega), List.map_append, List.map_append]; rfl)), rfl, rfl, rfl, trivial⟩
  ·
   refine OK.exit rfl ?_
   refine Ab.D.code ?_
   rw [show k = l[i].shares.length by omega, List.take_length]
   refine OK.reg ?_
   refine RK.c (S.move .none rfl (.tmp rfl rfl)) ?_
   refine RK.c (S.move .none rfl (.tmp rfl rfl)) ?_
   refine RK.c (S.callL (joinI.ct (l := l[i].shares.map fmtShare) (sep := [32]) (by rw [List.length_map]; omega) (by show (fmtBasket l[i]).length ≤ _; omega)) Tryz.call113 .none rfl (.cons (.tmp rfl rfl) (.cons (.cstr (l := [32]) rfl (by decide)) .nil)) (.cons (.p (.own rfl (by simp)) rfl) (.cons (.same rfl) .nil)) rfl) ?_
   refine RK.c (S.mkSlice (k := 36) (rows := [[_]]) ai64 .none rfl (.cons (.tmp rfl rfl) .nil) rfl rfl rfl rfl rfl rfl rfl) ?_
   refine RK.c (S.append ai64 .none rfl (.tmp rfl rfl) rfl (by simp; omega) (.tmp rfl rfl) rfl (by first | rfl | (simp; done) | (simp; omega)) (by omega) (by simp only [maxLen]; omega)) ?_
   refine RK.c (S.assign .none rfl (.tmp rfl rfl)) ?_
   refine RK.nil ?_
   refine Ab.D.blk ?_
   refine Ab.D.code (OK.reg ?_)
   refine RK.c (S.add .none rfl (.tmp rfl rfl) (.cint rfl) (IntWalk.i64_in _ (by omega)) (IntWalk.i64_in _ (by omega))) ?_
   refine RK.c (S.move .none rfl (.tmp rfl rfl)) ?_
   refine RK.nil ?_
   refine Ab.D.lp ⟨i + 1, (by omega), (by omega), (lk_own (by omega)), (lk_arr (by rw [List.take_succ_eq_append_getElem (by omega), List.map_append, List.map_append]; rfl)), rfl, rfl, rfl, trivial⟩
 ·
  refine OK.exit rfl ?_
  refine Ab.D.code ?_
  refine OK.seq ?_
  rw [show i = l.length by omega, List.take_length]
  refine OK.reg ?_
  refine RK.c (S.move .none rfl (.tmp rfl rfl)) ?_
  refine RK.c (S.callL (joinI.ct (l := l.map fmtBasket) (sep := [59]) (by rw [List.length_map]; omega) (by have := fmtBaskets_len h0; show (fmtBaskets l).length ≤ _; omega)) Tryz.call113 .none rfl (.cons (.tmp rfl rfl) (.cons (.cstr (l := [59]) rfl (by decide)) .nil)) (.cons (.p (.own rfl (by simp)) rfl) (.cons (.same rfl) .nil)) rfl) ?_
  refine RK.c (S.assign .none rfl (.tmp rfl rfl)) ?_
  refine RK.nil (Ab.D.code ?_)
  refine OK.ret (Ret.r1 (.tmp rfl rfl (.c (.same rfl) rfl) rfl) ?_)
  rfl
theorem aw_fmt : Ct Tryz.prog 59 [.sl (basksX.map Basket.cs)] (.str [112, 120, 53, 32, 114, 120, 49, 59, 114, 120, 51, 59, 113, 120, 51]) := ct_res (shp_FormatSmall (l := basksX) ⟨by decide, by decide, by decide⟩) (by rw [fmtX])
theorem law_Jobs  : Ct Tryz.prog 73 [] (.sl (jobsX.map Job.cs)) := by
 refine Ct.intro (rs := [.tmp 0]) Tryz.func73 rfl Tryz.ntmps73 Tryz.results73 rfl rfl rfl fun w h => ?_
 refine OK.seq (OK.reg ?_)
 refine RK.c (S.assign .none rfl .cnil) ?_
 refine RK.nil (Ab.D.code (OK.seq (OK.reg ?_)))
 refine RK.c (S.build bu114 rfl .none rfl (.cons (.cstr (l := [97]) rfl (by decide)) (.cons (.cint rfl) (.cons (.cint rfl) .nil))) rfl rfl) ?_
 refine RK.c (S.build bu114 rfl .none rfl (.cons (.cstr (l := [98]) rfl (by decide)) (.cons (.cint rfl) (.cons (.cint rfl) (.cons (.cint rfl) .nil)))) rfl rfl) ?_
 refine RK.c (S.build bu114 rfl .none rfl (.cons (.cstr (l := [99]) rfl (by decide)) (.cons (.cint rfl) (.cons (.cint rfl) .nil))) rfl rfl) ?_
 refine RK.c (S.mkData (rows := [[_, _, _, _], [_, _, _, _], [_, _, _, _]]) ai22 .none rfl (.cons (.tmp rfl rfl) (.cons (.tmp rfl rfl) (.cons (.tmp rfl rfl) .nil))) rfl rfl rfl rfl rfl rfl rfl) ?_
 refine RK.c (S.assign .none rfl (.tmp rfl rfl)) ?_
 refine RK.nil (Ab.D.code ?_)
 refine OK.ret (Ret.r1 (.tmp rfl rfl (.c (.same rfl) rfl) rfl) ?_)
 rfl
theorem law_Changes  : Ct Tryz.prog 74 [] (.agg chgX.cs) := by
 refine Ct.intro (rs := [.cell 0 25]) Tryz.func74 rfl Tryz.ntmps74 Tryz.results74 rfl rfl rfl fun w h => ?_
 refine OK.seq (OK.reg ?_)
 refine RK.c (S.alloc (k := 0) ze25 rfl .none rfl) ?_
 refine RK.nil (Ab.D.code (OK.seq (OK.reg ?_)))
 refine RK.c (S.mkData (rows := [[_], [_]]) ai30 .none rfl (.cons (.cint rfl) (.cons (.cint rfl) .nil)) rfl rfl rfl rfl rfl rfl rfl) ?_
 refine RK.c (S.mkData (rows := [[_], [_]]) ai30 .none rfl (.cons (.cint rfl) (.cons (.cint rfl) .nil)) rfl rfl rfl rfl rfl rfl rfl) ?_
 refine RK.c (S.mkData (rows := [[_], [_]]) ai23 .none rfl (.cons (.tmp rfl rfl) (.cons (.tmp rfl rfl) .nil)) rfl rfl rfl rfl rfl rfl rfl) ?_
 refine RK.c (S.build bu25 rfl .none rfl (.cons (.tmp rfl rfl) .nil) rfl rfl) ?_
 refine RK.c (S.store ti25 .none (.tmp rfl rfl) (.tmp rfl rfl) rfl rfl rfl rfl rfl rfl) ?_
 refine RK.nil (Ab.D.code ?_)
 refine OK.ret (Ret.r1 (.cellN rfl rfl rfl rfl ti25 rfl (.k (.same rfl) (.k (.same rfl) .z))) ?_)
 rfl
theorem law_Lots  : Ct Tryz.prog 75 [] (.sl (lotsX.map Lot.cs)) := by
 refine Ct.intro (rs := [.tmp 0]) Tryz.func75 rfl Tryz.ntmps75 Tryz.results75 rfl rfl rfl fun w h => ?_
 refine OK.seq (OK.reg ?_)
 refine RK.c (S.assign .none rfl .cnil) ?_
 refine RK.nil (Ab.D.code (OK.seq (OK.reg ?_)))
 refine RK.c (S.build bu66 rfl .none rfl (.cons (.cstr (l := [112]) rfl (by decide)) (.cons (.cstr (l := [104]) rfl (by decide)) (.cons (.cint rfl) .nil))) rfl rfl) ?_
 refine RK.c (S.build bu66 rfl .none rfl (.cons (.cstr (l := [113]) rfl (by decide)) (.cons (.cstr (l := [107]) rfl (by decide)) (.cons (.cint rfl) .nil))) rfl rfl) ?_
 refine RK.c (S.build bu66 rfl .none rfl (.cons (.cstr (l := [114]) rfl (by decide)) (.cons (.cstr (l := [104]) rfl (by decide)) (.cons (.cint rfl) .nil))) rfl rfl) ?_
 refine RK.c (S.mkData (rows := [[_, _, _], [_, _, _], [_, _, _]]) ai49 .none rfl (.cons (.tmp rfl rfl) (.cons (.tmp rfl rfl) (.cons (.tmp rfl rfl) .nil))) rfl rfl rfl rfl rfl rfl rfl) ?_
 refine RK.c (S.assign .none rfl (.tmp rfl rfl)) ?_
 refine RK.nil (Ab.D.code ?_)
 refine OK.ret (Ret.r1 (.tmp rfl rfl (.c (.same rfl) rfl) rfl) ?_)
 rfl
end Go.Proofs.YtpfepjgnojfppaaGreatDoor
