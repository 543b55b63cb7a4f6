import Derived.Test.YtpfepjgnojfppaaGreatDoorKm
import Derived.Test.YtpfepjgnojfppaaGreatDoorTy
namespace Go.Proofs.YtpfepjgnojfppaaGreatDoor
open Go.Ab
theorem sum_snoc (l : List Int) (x : Int) : (l ++ [x]).sum = l.sum + x := by
  induction l with
  | nil => simp
  | cons y l ih => rw [List.cons_append, List.sum_cons, List.sum_cons, ih]; omega
theorem sum_rev (l : List Int) : l.reverse.sum = l.sum := by
  induction l with
  | nil => rfl
  | cons y l ih => rw [List.reverse_cons, sum_snoc, List.sum_cons, ih]; omega
theorem chart_rev (l : List Int) : chartT l.reverse = chartT l := by
  unfold chartT sumT sqT
  rw [List.length_reverse, sum_rev, List.map_reverse, sum_rev]
theorem vals_rev (l : List Int) : valsE l.reverse = valsE l := by
  unfold valsE
  rw [List.length_reverse, List.all_reverse]
def movT (l : List Int) (m : Int) : List Int := l.map fun v => v + m
theorem mov_len (l : List Int) (m : Int) : (movT l m).length = l.length := List.length_map ..
theorem mov_sum (l : List Int) (m : Int) : sumT (movT l m) = sumT l + l.length * m := by
  unfold sumT movT
  induction l with
  | nil => simp
  | cons y l ih => simp only [List.map_cons, List.sum_cons, List.length_cons, ih]; push_cast; rw [Int.add_mul]; omega
theorem mov_sq (l : List Int) (m : Int) : sqT (movT l m) = sqT l + 2 * m * sumT l + l.length * (m * m) := by
  unfold sqT sumT movT
  induction l with
  | nil => simp
  | cons y l ih => simp only [List.map_cons, List.sum_cons, List.length_cons, ih]; push_cast; grind
theorem mov_spread (l : List Int) (m : Int) : spreadT (chartT (movT l m)) = spreadT (chartT l) := by
  unfold spreadT chartT
  simp only [mov_len, mov_sum, mov_sq]
  grind
theorem mov_off (l : List Int) (m v : Int) : offT (chartT (movT l m)) (v + m) = offT (chartT l) v := by
  unfold offT chartT
  simp only [mov_len, mov_sum]
  rw [Int.mul_add]; omega
theorem mov_getD {l : List Int} {m : Int} {i : Nat} (h : i < l.length) : (movT l m).getD i 0 = l.getD i 0 + m := by
  rw [getD_at (by rw [mov_len]; exact h), getD_at h]
  exact List.getElem_map ..
theorem mov_take (l : List Int) (m : Int) (i : Nat) : (movT l m).take i = movT (l.take i) m := by unfold movT; rw [List.map_take]
theorem tail_mov {l : List Int} {m : Int} {n : Nat} {g g2 : Nat → Int → Bool} (h : ∀ i, i < l.length → g2 i (l.getD i 0 + m) = g i (l.getD i 0)) : tailT (movT l m) n g2 = tailT l n g := by
  unfold tailT
  rw [mov_len]
  by_cases hn : n ≤ l.length
  · rw [decide_eq_true hn, Bool.true_and, Bool.true_and]
    refine allTo_congr fun j hj => ?_
    rw [mov_getD (by omega)]
    exact h _ (by omega)
  · rw [decide_eq_false hn]; rfl
theorem sig_mov {l : List Int} {m : Int} {c c2 : Chart} (ho : ∀ v, offT c2 (v + m) = offT c v) (hs : spreadT c2 = spreadT c) (hn : 0 < l.length) : sigT c2 (movT l m) = sigT c l := by
  have h1 : outT c2 ((movT l m).getD ((movT l m).length - 1) 0) = outT c (l.getD (l.length - 1) 0) := by
    unfold outT
    rw [mov_len, mov_getD (by omega), ho, hs]
  have h2 : sideT c2 (movT l m) = sideT c l := by
    unfold sideT
    rw [tail_mov (g := upT c) (fun i _ => by unfold upT; rw [ho]), tail_mov (g := dnT c) (fun i _ => by unfold dnT; rw [ho])]
  have h3 : trendT (movT l m) = trendT l := by
    unfold trendT
    rw [mov_len, tail_mov (g := riT l (l.length - 5)) (fun i hi => by unfold riT; rw [mov_getD (by omega)]; congr 1; exact decide_eq_decide.2 (by omega)), tail_mov (g := faT l (l.length - 5)) (fun i hi => by unfold faT; rw [mov_getD (by omega)]; congr 1; exact decide_eq_decide.2 (by omega))]
  unfold sigT
  rw [h1, h2, h3]
theorem sigs_mov (l : List Int) (m : Int) : sigsTo (chartT (movT l m)) (movT l m) l.length = sigsTo (chartT l) l l.length := by
  unfold sigsTo
  refine List.map_congr_left fun k hk => ?_
  have := List.mem_range.1 hk
  rw [mov_take]
  exact sig_mov (mov_off l m) (mov_spread l m) (by simp; omega)
theorem capM_mov (l : List Int) (r : Range) (m : Int) : capM (movT l m) ⟨r.lo + m, r.hi + m⟩ = capM l r := by
  unfold capM
  simp only [mov_off]
theorem cap_mov {l : List Int} {r : Range} {m : Int} (hv : valsE l = 0) (hr : limE r = 0) (hv2 : valsE (movT l m) = 0) (hr2 : limE ⟨r.lo + m, r.hi + m⟩ = 0) : capE (movT l m) ⟨r.lo + m, r.hi + m⟩ = capE l r ∧ capT (movT l m) ⟨r.lo + m, r.hi + m⟩ = capT l r := by
  have hF : capF (movT l m) ⟨r.lo + m, r.hi + m⟩ = capF l r := by unfold capF; rw [capM_mov, mov_spread]
  have hE : capE (movT l m) ⟨r.lo + m, r.hi + m⟩ = capE l r := by
    unfold capE
    rw [if_neg (by omega), if_neg (by omega), if_neg (show ¬ valsE l ≠ 0 by omega), if_neg (show ¬ limE r ≠ 0 by omega), hF, mov_spread]
  exact ⟨hE, by unfold capT; rw [hE, hF]⟩
theorem chart_0 {l : List Int} (hv : valsE l = 0) : charE (chartT l) = 0 := by
  have h1 := chart_bd hv
  unfold charE
  rw [if_neg (fun q => q h1), if_pos (spread_nn l)]
theorem sig_ok {l : List Int} (hv : valsE l = 0) : sigE (chartT l) l = 0 ∧ sigR (chartT l) l = sigsTo (chartT l) l l.length := by
  have h1 : sigE (chartT l) l = 0 := by unfold sigE; rw [if_neg (by rw [chart_0 hv]; decide), hv]
  exact ⟨h1, if_pos h1⟩
set_option maxHeartbeats 1000000 in
theorem law_ShopSameChart {l : List Int} {r : Range} {m : Int} : Ct Tryz.prog 8 [ints l, .agg r.cs, .int .i64 m] (.bool true) := by
  refine Ct.intro (rs := [.tmp 6]) Tryz.func8 rfl Tryz.ntmps8 Tryz.results8 rfl rfl rfl fun w h => ?_
  refine OK.seq ?_
  refine OK.reg ?_
  refine RK.c (S.box (k := 4) rfl .none rfl (.tmp rfl rfl) rfl) ?_
  refine RK.c (S.assign .none rfl .cbool) ?_
  refine RK.nil ?_
  refine Ab.D.code ?_
  refine OK.seq ?_
  refine OK.seq ?_
  refine OK.reg ?_
  refine RK.c (S.call (law9_awake) Tryz.call12 .none rfl .nil rfl) ?_
  refine RK.c (S.not .none rfl (.tmp rfl rfl)) ?_
  refine RK.nil ?_
  refine Ab.D.code ?_
  refine OK.condF rfl rfl rfl ?_
  refine OK.skip ?_
  refine Ab.D.code ?_
  refine OK.seq ?_
  refine OK.seq ?_
  refine OK.reg ?_
  refine RK.c (S.move .none rfl (.tmp rfl rfl)) ?_
  refine RK.c (S.call (ref9_ValuesErr) Tryz.call52 .none rfl (.cons (.tmp rfl rfl) .nil) rfl) ?_
  refine RK.c (S.neq .none rfl (.tmp rfl rfl) (.cint rfl)) ?_
  refine RK.c (S.move .none rfl (.tmp rfl rfl)) ?_
  refine RK.splitD (t := 30) rfl (fun g30 => ?_) (fun g30 => ?_)
  ·
    refine RK.c (S.skip rfl rfl rfl rfl rfl) ?_
    refine RK.c (S.skip rfl rfl rfl rfl rfl) ?_
    refine RK.c (S.skip rfl rfl rfl rfl rfl) ?_
    refine RK.c (S.pickT .none rfl (.tmp rfl rfl) .cbool rfl) ?_
    refine RK.c (S.move .none rfl (.tmp rfl rfl)) ?_
    refine RK.c (S.skip rfl rfl rfl rfl rfl) ?_
    refine RK.c (S.skip rfl rfl rfl rfl rfl) ?_
    refine RK.c (S.skip rfl rfl rfl rfl rfl) ?_
    refine RK.c (S.pickT .none rfl (.tmp rfl rfl) .cbool rfl) ?_
    refine RK.nil ?_
    refine Ab.D.code ?_
    refine OK.condT rfl rfl rfl ?_
    refine OK.seq ?_
    refine OK.reg ?_
    refine RK.c (S.assign .none rfl .cbool) ?_
    refine RK.nil ?_
    refine Ab.D.code ?_
    refine OK.ret (Ret.r1 (.tmp rfl rfl (.c (.same rfl) rfl) rfl) ?_)
    first | rfl | exact ret_dT rfl | exact ret_dT trivial
  ·
    refine RK.c (S.bloadN ti87 (.yes rfl rfl rfl rfl) rfl (.tmp rfl rfl) rfl rfl rfl rfl) ?_
    refine RK.c (S.call (ref9_LimitsErr) Tryz.call53 (.yes rfl rfl rfl rfl) rfl (.cons (.tmp rfl rfl) .nil) rfl) ?_
    refine RK.c (S.neq (.yes rfl rfl rfl rfl) rfl (.tmp rfl rfl) (.cint rfl)) ?_
    refine RK.c (S.pickF .none rfl (.tmp rfl rfl) (.tmp rfl rfl) rfl) ?_
    refine RK.c (S.move .none rfl (.tmp rfl rfl)) ?_
    refine RK.splitD (t := 35) rfl (fun g35 => ?_) (fun g35 => ?_)
    ·
      refine RK.c (S.skip rfl rfl rfl rfl rfl) ?_
      refine RK.c (S.skip rfl rfl rfl rfl rfl) ?_
      refine RK.c (S.skip rfl rfl rfl rfl rfl) ?_
      refine RK.c (S.pickT .none rfl (.tmp rfl rfl) .cbool rfl) ?_
      refine RK.nil ?_
      refine Ab.D.code ?_
      refine OK.condT rfl rfl rfl ?_
      refine OK.seq ?_
      refine OK.reg ?_
      refine RK.c (S.assign .none rfl .cbool) ?_
      refine RK.nil ?_
      refine Ab.D.code ?_
      refine OK.ret (Ret.r1 (.tmp rfl rfl (.c (.same rfl) rfl) rfl) ?_)
      first | rfl | exact ret_dT rfl | exact ret_dT trivial
    ·
      refine RK.c (S.move (.yes rfl rfl rfl rfl) rfl (.tmp rfl rfl)) ?_
      refine RK.c (S.call (base_Within) Tryz.call43 (.yes rfl rfl rfl rfl) rfl (.cons (.tmp rfl rfl) (.cons (.cint rfl) (.cons (.cint rfl) .nil))) rfl) ?_
      refine RK.c (S.notD (.yes rfl rfl rfl rfl) rfl (.tmp rfl rfl)) ?_
      refine RK.c (S.pickF .none rfl (.tmp rfl rfl) (.tmp rfl rfl) rfl) ?_
      refine RK.nil ?_
      refine Ab.D.code ?_
      refine OK.condD rfl rfl (fun c39 => ?_) (fun c39 => ?_)
      ·
        refine OK.seq ?_
        refine OK.reg ?_
        refine RK.c (S.assign .none rfl .cbool) ?_
        refine RK.nil ?_
        refine Ab.D.code ?_
        refine OK.ret (Ret.r1 (.tmp rfl rfl (.c (.same rfl) rfl) rfl) ?_)
        first | rfl | exact ret_dT rfl | exact ret_dT trivial
      ·
        have hv : valsE l = 0 := Decidable.not_not.1 g30
        have hr : limE r = 0 := Decidable.not_not.1 g35
        have hm : -1000 ≤ m ∧ m ≤ 1000 := Decidable.not_not.1 c39
        obtain ⟨hv1, hv2, hv3⟩ := vals_ok hv
        have hlr := lim_ok hr
        have hml := mov_len l m
        have hrl : l.reverse.length = l.length := List.length_reverse
        refine OK.skip ?_
        refine Ab.D.code ?_
        refine OK.seq ?_
        refine OK.reg ?_
        refine RK.c (S.nilOwn (k := 7) (sz := 1) .none rfl) ?_
        refine RK.c (S.nilOwn (k := 8) (sz := 1) .none rfl) ?_
        refine RK.nil ?_
        refine Ab.D.code ?_
        refine OK.seq ?_
        refine OK.seq ?_
        refine OK.reg ?_
        refine RK.c (S.assign .none rfl (.cint rfl)) ?_
        refine RK.nil ?_
        refine Ab.D.code ?_
        refine OK.block ?_
        refine OK.loop (G := Nat) [4, 7, 8] (fun i => [(0, .sl (l.map (fun n => [.int .i64 n]))), (2, .int .i64 m), (4, .ptr 4 0), (1004, .box r.cs), (7, .own 7 i), (2007, .arr 1 ((l.reverse.take i).map (fun n => [.int .i64 n]))), (8, .own 8 i), (2008, .arr 1 (((movT l m).take i).map (fun n => [.int .i64 n]))), (9, .int .i64 i)]) (fun i => i ≤ l.length) (fun i => l.length - i) 0 (Nat.zero_le _) ⟨rfl, rfl, rfl, rfl, (lk_own (by first | rfl | (simp; done) | (simp; omega))), (lk_arr (by first | rfl | (simp; done) | (simp; omega))), (lk_own (by first | rfl | (simp; done) | (simp; omega))), (lk_arr (by first | rfl | (simp; done) | (simp; omega))), rfl, trivial⟩ (fun _ => rfl) ?_
        rintro i hi
        refine OK.seq ?_
        refine OK.seq ?_
        refine OK.reg ?_
        refine RK.c (S.move .none rfl (.tmp rfl rfl)) ?_
        refine RK.c (S.move .none rfl (.tmp rfl rfl)) ?_
        refine RK.c (S.lenM si30 .none rfl (.tmp rfl rfl)) ?_
        refine RK.c (S.lss .none rfl (.tmp rfl rfl) (.tmp rfl rfl)) ?_
        refine RK.nil ?_
        refine Ab.D.code ?_
        refine OK.condD rfl rfl (fun c43 => ?_) (fun c43 => ?_)
        ·
          have hil : i < l.length := by omega
          have hlv := hv3.get hil
          refine OK.skip ?_
          refine Ab.D.code ?_
          refine OK.seq ?_
          refine OK.block ?_
          refine OK.regionDraw follows (.c (S.move .none rfl (.tmp rfl rfl))
            (.c (S.move .none rfl (.tmp rfl rfl))
            (.c (S.move .none rfl (.tmp rfl rfl))
            (.c (S.lenM si30 .none rfl (.tmp rfl rfl))
            (.c (S.sub .none rfl (.tmp rfl rfl) (.cint rfl) (IntWalk.i64_in _ (by omega)) (IntWalk.i64_in _ (by omega)))
            (.c (S.move .none rfl (.tmp rfl rfl))
            (.c (S.sub .none rfl (.tmp rfl rfl) (.tmp rfl rfl) (IntWalk.i64_in _ (by omega)) (IntWalk.i64_in _ (by omega)))
            (.c (S.indexM (n := l.length - 1 - i) si30 .none rfl (.tmp rfl rfl) (.tmp rfl rfl) (by omega) (by omega) rfl)
            (.c (S.load1 ti3 .none rfl (.tmp rfl rfl) rfl)
            (.c (S.mkSlice (k := 55) (rows := [[_]]) ai30 .none rfl (.cons (.tmp rfl rfl) .nil) rfl rfl rfl rfl rfl rfl rfl)
            (.c (S.append ai30 .none rfl (.tmp rfl rfl) rfl (by simp; omega) (.tmp rfl rfl) rfl (by first | rfl | (simp; done) | (simp; omega)) (by omega) (by simp only [maxLen]; omega))
            (.c (S.move .none rfl (.tmp rfl rfl))
            (.c (S.move .none rfl (.tmp rfl rfl))
            (.c (S.move .none rfl (.tmp rfl rfl))
            (.c (S.indexM (n := i) si30 .none rfl (.tmp rfl rfl) (.tmp rfl rfl) rfl hil rfl)
            (.c (S.load1 ti3 .none rfl (.tmp rfl rfl) rfl)
            (.c (S.move .none rfl (.tmp rfl rfl))
            (.c (S.add .none rfl (.tmp rfl rfl) (.tmp rfl rfl) (IntWalk.i64_in _ (by omega)) (IntWalk.i64_in _ (by omega)))
            (.c (S.mkSlice (k := 64) (rows := [[_]]) ai30 .none rfl (.cons (.tmp rfl rfl) .nil) rfl rfl rfl rfl rfl rfl rfl)
            (.c (S.append ai30 .none rfl (.tmp rfl rfl) rfl (by simp; omega) (.tmp rfl rfl) rfl (by first | rfl | (simp; done) | (simp; omega)) (by omega) (by simp only [maxLen]; omega))
            (.c (S.assign .none rfl (.tmp rfl rfl))
            (.c (S.assign .none rfl (.tmp rfl rfl))
            .nil)))))))))))))))))))))) (by kernel_rfl) ?_
          refine Ab.D.blk ?_
          refine Ab.D.code ?_
          refine OK.reg ?_
          refine RK.c (S.move .none rfl (.tmp rfl rfl)) ?_
          refine RK.c (S.add .none rfl (.tmp rfl rfl) (.cint rfl) (IntWalk.i64_in _ (by omega)) (IntWalk.i64_in _ (by omega))) ?_
          refine RK.c (S.assign .none rfl (.tmp rfl rfl)) ?_
          refine RK.nil ?_
          refine Ab.D.lp ⟨i + 1, (by omega), (by omega), rfl, rfl, rfl, rfl, (lk_own (by omega)), (lk_arr (by rw [List.take_succ_eq_append_getElem (by omega), List.getElem_reverse, List.map_append]; rfl)), (lk_own (by omega)), (lk_arr (by rw [List.take_succ_eq_append_getElem (by omega), List.map_append]; simp [movT])), rfl, trivial⟩
        ·
          have hie : i = l.length := by omega
          subst hie
          have ht1 : l.reverse.take l.length = l.reverse := List.take_of_length_le (by omega)
          have ht2 : (movT l m).take l.length = movT l m := List.take_of_length_le (by omega)
          rw [ht1, ht2]
          have hco : chartO l = chartT l := if_pos hv
          have hvr : valsE l.reverse = 0 := (vals_rev l).trans hv
          have hcr : chartO l.reverse = chartT l := (if_pos hvr).trans (chart_rev l)
          have hc0 := chart_0 hv
          refine OK.exit rfl ?_
          refine Ab.D.code ?_
          refine OK.seq ?_
          refine OK.freeze 7 rfl rfl rfl (by simp) ?_
          refine OK.freeze 8 rfl rfl rfl (by simp [movT]) ?_
          refine OK.reg ?_
          refine RK.c (S.move .none rfl (.tmp rfl rfl)) ?_
          refine RK.c (S.call (base_CopyInts (by omega)) Tryz.call24 .none rfl (.cons (.tmp rfl rfl) .nil) rfl) ?_
          refine RK.c (S.call (shp_ChartOf) Tryz.call54 .none rfl (.cons (.tmp rfl rfl) .nil) rfl) ?_
          refine RK.c (S.move .none rfl (.tmp rfl rfl)) ?_
          refine RK.c (S.extract .none rfl (.tmp rfl rfl) rfl rfl) ?_
          refine RK.c (S.extract .none rfl (.tmp rfl rfl) rfl rfl) ?_
          refine RK.c (S.alloc (k := 10) ze91 rfl .none rfl) ?_
          refine RK.c (S.store ti91 .none (.tmp rfl rfl) (.tmp rfl rfl) rfl rfl rfl rfl rfl rfl) ?_
          refine RK.c (S.assign .none rfl (.tmp rfl rfl)) ?_
          refine RK.nil ?_
          refine Ab.D.code ?_
          refine OK.seq ?_
          refine OK.reg ?_
          refine RK.c (S.move .none rfl (.tmp rfl rfl)) ?_
          refine RK.c (S.call (shp_ChartOf) Tryz.call54 .none rfl (.cons (.tmp rfl rfl) .nil) rfl) ?_
          refine RK.c (S.move .none rfl (.tmp rfl rfl)) ?_
          refine RK.c (S.extract .none rfl (.tmp rfl rfl) rfl rfl) ?_
          refine RK.c (S.extract .none rfl (.tmp rfl rfl) rfl rfl) ?_
          refine RK.c (S.alloc (k := 12) ze91 rfl .none rfl) ?_
          refine RK.c (S.store ti91 .none (.tmp rfl rfl) (.tmp rfl rfl) rfl rfl rfl rfl rfl rfl) ?_
          refine RK.c (S.assign .none rfl (.tmp rfl rfl)) ?_
          refine RK.nil ?_
          refine Ab.D.code ?_
          refine OK.seq ?_
          refine OK.seq ?_
          rw [hco, hcr]
          refine OK.reg ?_
          refine RK.c (S.move .none rfl (.tmp rfl rfl)) ?_
          refine RK.c (S.neq .none rfl (.tmp rfl rfl) (.cint rfl)) ?_
          refine RK.c (S.move .none rfl (.tmp rfl rfl)) ?_
          refine RK.splitD (t := 79) rfl (fun g79 => ?_) (fun g79 => ?_)
          ·
            exact absurd hv g79
          ·
            refine RK.c (S.move (.yes rfl rfl rfl rfl) rfl (.tmp rfl rfl)) ?_
            refine RK.c (S.neq (.yes rfl rfl rfl rfl) rfl (.tmp rfl rfl) (.cint rfl)) ?_
            refine RK.c (S.pickF .none rfl (.tmp rfl rfl) (.tmp rfl rfl) rfl) ?_
            refine RK.c (S.move .none rfl (.tmp rfl rfl)) ?_
            refine RK.splitD (t := 83) rfl (fun g83 => ?_) (fun g83 => ?_)
            ·
              exact absurd hvr g83
            ·
              refine RK.c (S.bloadN ti91 (.yes rfl rfl rfl rfl) rfl (.tmp rfl rfl) rfl rfl rfl rfl) ?_
              refine RK.c (S.bloadN ti91 (.yes rfl rfl rfl rfl) rfl (.tmp rfl rfl) rfl rfl rfl rfl) ?_
              refine RK.c (S.aneq [(chartT l).count, (chartT l).sum, (chartT l).squares] [(chartT l).count, (chartT l).sum, (chartT l).squares] eq91 (.yes rfl rfl rfl rfl) rfl (.tmp rfl rfl) (.tmp rfl rfl) rfl rfl rfl rfl) ?_
              refine RK.c (S.pickF .none rfl (.tmp rfl rfl) (.tmp rfl rfl) rfl) ?_
              refine RK.c (S.move .none rfl (.tmp rfl rfl)) ?_
              refine RK.splitD (t := 88) rfl (fun g88 => ?_) (fun g88 => ?_)
              ·
                exact absurd rfl g88
              ·
                refine RK.c (S.bloadN ti91 (.yes rfl rfl rfl rfl) rfl (.tmp rfl rfl) rfl rfl rfl rfl) ?_
                refine RK.c (S.call (ref9_ChartErr) Tryz.call55 (.yes rfl rfl rfl rfl) rfl (.cons (.tmp rfl rfl) .nil) rfl) ?_
                refine RK.c (S.neq (.yes rfl rfl rfl rfl) rfl (.tmp rfl rfl) (.cint rfl)) ?_
                refine RK.c (S.pickF .none rfl (.tmp rfl rfl) (.tmp rfl rfl) rfl) ?_
                refine RK.nil ?_
                refine Ab.D.code ?_
                refine OK.condD rfl rfl (fun c92 => ?_) (fun c92 => ?_)
                ·
                  exact absurd hc0 c92
                ·
                  refine OK.skip ?_
                  refine Ab.D.code ?_
                  refine OK.seq ?_
                  refine OK.reg ?_
                  refine RK.c (S.bfield fi87_0 .none rfl (.tmp rfl rfl)) ?_
                  refine RK.c (S.bload1 ti3 .none rfl (.tmp rfl rfl) rfl rfl rfl rfl) ?_
                  refine RK.c (S.move .none rfl (.tmp rfl rfl)) ?_
                  refine RK.c (S.add .none rfl (.tmp rfl rfl) (.tmp rfl rfl) (IntWalk.i64_in _ (by omega)) (IntWalk.i64_in _ (by omega))) ?_
                  refine RK.c (S.bfield fi87_1 .none rfl (.tmp rfl rfl)) ?_
                  refine RK.c (S.bload1 ti3 .none rfl (.tmp rfl rfl) rfl rfl rfl rfl) ?_
                  refine RK.c (S.move .none rfl (.tmp rfl rfl)) ?_
                  refine RK.c (S.add .none rfl (.tmp rfl rfl) (.tmp rfl rfl) (IntWalk.i64_in _ (by omega)) (IntWalk.i64_in _ (by omega))) ?_
                  refine RK.c (S.build bu87 rfl .none rfl (.cons (.tmp rfl rfl) (.cons (.tmp rfl rfl) .nil)) rfl rfl) ?_
                  refine RK.c (S.alloc (k := 14) ze87 rfl .none rfl) ?_
                  refine RK.c (S.store ti87 .none (.tmp rfl rfl) (.tmp rfl rfl) rfl rfl rfl rfl rfl rfl) ?_
                  refine RK.nil ?_
                  refine Ab.D.code ?_
                  refine OK.seq ?_
                  refine OK.seq ?_
                  refine OK.reg ?_
                  refine RK.c (S.move .none rfl (.tmp rfl rfl)) ?_
                  refine RK.c (S.call (ref9_ValuesErr) Tryz.call52 .none rfl (.cons (.tmp rfl rfl) .nil) rfl) ?_
                  refine RK.c (S.neq .none rfl (.tmp rfl rfl) (.cint rfl)) ?_
                  refine RK.c (S.move .none rfl (.tmp rfl rfl)) ?_
                  refine RK.splitD (t := 105) rfl (fun g105 => ?_) (fun g105 => ?_)
                  ·
                    refine RK.c (S.skip rfl rfl rfl rfl rfl) ?_
                    refine RK.c (S.skip rfl rfl rfl rfl rfl) ?_
                    refine RK.c (S.skip rfl rfl rfl rfl rfl) ?_
                    refine RK.c (S.pickT .none rfl (.tmp rfl rfl) .cbool rfl) ?_
                    refine RK.nil ?_
                    refine Ab.D.code ?_
                    refine OK.condT rfl rfl rfl ?_
                    refine OK.seq ?_
                    refine OK.reg ?_
                    refine RK.c (S.assign .none rfl .cbool) ?_
                    refine RK.nil ?_
                    refine Ab.D.code ?_
                    refine OK.ret (Ret.r1 (.tmp rfl rfl (.c (.same rfl) rfl) rfl) ?_)
                    first | rfl | exact ret_dT rfl | exact ret_dT trivial
                  ·
                    refine RK.c (S.bloadN ti87 (.yes rfl rfl rfl rfl) rfl (.tmp rfl rfl) rfl rfl rfl rfl) ?_
                    refine RK.c (S.call (ref9_LimitsErr (r := ⟨r.lo + m, r.hi + m⟩)) Tryz.call53 (.yes rfl rfl rfl rfl) rfl (.cons (.tmp rfl rfl) .nil) rfl) ?_
                    refine RK.c (S.neq (.yes rfl rfl rfl rfl) rfl (.tmp rfl rfl) (.cint rfl)) ?_
                    refine RK.c (S.pickF .none rfl (.tmp rfl rfl) (.tmp rfl rfl) rfl) ?_
                    refine RK.nil ?_
                    refine Ab.D.code ?_
                    refine OK.condD rfl rfl (fun c109 => ?_) (fun c109 => ?_)
                    ·
                      refine OK.seq ?_
                      refine OK.reg ?_
                      refine RK.c (S.assign .none rfl .cbool) ?_
                      refine RK.nil ?_
                      refine Ab.D.code ?_
                      refine OK.ret (Ret.r1 (.tmp rfl rfl (.c (.same rfl) rfl) rfl) ?_)
                      first | rfl | exact ret_dT rfl | exact ret_dT trivial
                    ·
                      have hvm : valsE (movT l m) = 0 := Decidable.not_not.1 g105
                      have hrm : limE ⟨r.lo + m, r.hi + m⟩ = 0 := Decidable.not_not.1 c109
                      have hcm : chartO (movT l m) = chartT (movT l m) := if_pos hvm
                      obtain ⟨s1, s2⟩ := sig_ok hv
                      obtain ⟨s3, s4⟩ := sig_ok hvm
                      rw [hml, sigs_mov] at s4
                      obtain ⟨p1, p2⟩ := cap_mov hv hr hvm hrm
                      have hsl := sigsTo_len (chartT l) l l.length
                      refine OK.skip ?_
                      refine Ab.D.code ?_
                      refine OK.seq ?_
                      refine OK.reg ?_
                      refine RK.c (S.move .none rfl (.tmp rfl rfl)) ?_
                      refine RK.c (S.call (base_CopyInts (by omega)) Tryz.call24 .none rfl (.cons (.tmp rfl rfl) .nil) rfl) ?_
                      refine RK.c (S.call (shp_ChartOf) Tryz.call54 .none rfl (.cons (.tmp rfl rfl) .nil) rfl) ?_
                      refine RK.c (S.move .none rfl (.tmp rfl rfl)) ?_
                      refine RK.c (S.extract .none rfl (.tmp rfl rfl) rfl rfl) ?_
                      refine RK.c (S.extract .none rfl (.tmp rfl rfl) rfl rfl) ?_
                      refine RK.c (S.alloc (k := 15) ze91 rfl .none rfl) ?_
                      refine RK.c (S.store ti91 .none (.tmp rfl rfl) (.tmp rfl rfl) rfl rfl rfl rfl rfl rfl) ?_
                      refine RK.c (S.assign .none rfl (.tmp rfl rfl)) ?_
                      refine RK.nil ?_
                      refine Ab.D.code ?_
                      refine OK.seq ?_
                      rw [hcm]
                      refine OK.regionDraw follows (.c (S.bloadN ti91 .none rfl (.tmp rfl rfl) rfl rfl rfl rfl)
                        (.c (S.move .none rfl (.tmp rfl rfl))
                        (.c (S.call (base_CopyInts (by omega)) Tryz.call24 .none rfl (.cons (.tmp rfl rfl) .nil) rfl)
                        (.c (S.call (shp_SignalsOf) Tryz.call56 .none rfl (.cons (.tmp rfl rfl) (.cons (.tmp rfl rfl) .nil)) rfl)
                        (.c (S.move .none rfl (.tmp rfl rfl))
                        (.c (S.extract .none rfl (.tmp rfl rfl) rfl rfl)
                        (.c (S.extract .none rfl (.tmp rfl rfl) rfl rfl)
                        (.c (S.assign .none rfl (.tmp rfl rfl))
                        (.c (S.assign .none rfl (.tmp rfl rfl))
                        .nil))))))))) (by kernel_rfl) ?_
                      refine Ab.D.code ?_
                      refine OK.seq ?_
                      refine OK.regionDraw follows (.c (S.bloadN ti91 .none rfl (.tmp rfl rfl) rfl rfl rfl rfl)
                        (.c (S.move .none rfl (.tmp rfl rfl))
                        (.c (S.call (base_CopyInts (by omega)) Tryz.call24 .none rfl (.cons (.tmp rfl rfl) .nil) rfl)
                        (.c (S.call (shp_SignalsOf) Tryz.call56 .none rfl (.cons (.tmp rfl rfl) (.cons (.tmp rfl rfl) .nil)) rfl)
                        (.c (S.move .none rfl (.tmp rfl rfl))
                        (.c (S.extract .none rfl (.tmp rfl rfl) rfl rfl)
                        (.c (S.extract .none rfl (.tmp rfl rfl) rfl rfl)
                        (.c (S.assign .none rfl (.tmp rfl rfl))
                        (.c (S.assign .none rfl (.tmp rfl rfl))
                        .nil))))))))) (by kernel_rfl) ?_
                      refine Ab.D.code ?_
                      refine OK.seq ?_
                      refine OK.regionDraw follows (.c (S.move .none rfl (.tmp rfl rfl))
                        (.c (S.call (base_CopyInts (by omega)) Tryz.call24 .none rfl (.cons (.tmp rfl rfl) .nil) rfl)
                        (.c (S.bloadN ti87 .none rfl (.tmp rfl rfl) rfl rfl rfl rfl)
                        (.c (S.call (shp_CapabilityOf) Tryz.call57 .none rfl (.cons (.tmp rfl rfl) (.cons (.tmp rfl rfl) .nil)) rfl)
                        (.c (S.move .none rfl (.tmp rfl rfl))
                        (.c (S.extract .none rfl (.tmp rfl rfl) rfl rfl)
                        (.c (S.extract .none rfl (.tmp rfl rfl) rfl rfl)
                        (.c (S.alloc (k := 21) ze97 rfl .none rfl)
                        (.c (S.store ti97 .none (.tmp rfl rfl) (.tmp rfl rfl) rfl rfl rfl rfl rfl rfl)
                        (.c (S.assign .none rfl (.tmp rfl rfl))
                        .nil)))))))))) (by kernel_rfl) ?_
                      refine Ab.D.code ?_
                      refine OK.seq ?_
                      refine OK.reg ?_
                      refine RK.c (S.move .none rfl (.tmp rfl rfl)) ?_
                      refine RK.c (S.bloadN ti87 .none rfl (.tmp rfl rfl) rfl rfl rfl rfl) ?_
                      refine RK.c (S.call (shp_CapabilityOf (l := movT l m) (r := ⟨r.lo + m, r.hi + m⟩)) Tryz.call57 .none rfl (.cons (.tmp rfl rfl) (.cons (.tmp rfl rfl) .nil)) rfl) ?_
                      refine RK.c (S.move .none rfl (.tmp rfl rfl)) ?_
                      refine RK.c (S.extract .none rfl (.tmp rfl rfl) rfl rfl) ?_
                      refine RK.c (S.extract .none rfl (.tmp rfl rfl) rfl rfl) ?_
                      refine RK.c (S.alloc (k := 23) ze97 rfl .none rfl) ?_
                      refine RK.c (S.store ti97 .none (.tmp rfl rfl) (.tmp rfl rfl) rfl rfl rfl rfl rfl rfl) ?_
                      refine RK.c (S.assign .none rfl (.tmp rfl rfl)) ?_
                      refine RK.nil ?_
                      refine Ab.D.code ?_
                      refine OK.seq ?_
                      rw [s2, s4, p2]
                      refine OK.reg ?_
                      refine RK.c (S.move .none rfl (.tmp rfl rfl)) ?_
                      refine RK.c (S.eql .none rfl (.tmp rfl rfl) (.cint rfl)) ?_
                      refine RK.c (S.move .none rfl (.tmp rfl rfl)) ?_
                      refine RK.splitD (t := 145) rfl (fun g145 => ?_) (fun g145 => ?_)
                      ·
                        refine RK.c (S.move (.yes rfl rfl rfl rfl) rfl (.tmp rfl rfl)) ?_
                        refine RK.c (S.eql (.yes rfl rfl rfl rfl) rfl (.tmp rfl rfl) (.cint rfl)) ?_
                        refine RK.c (S.pickT .none rfl (.tmp rfl rfl) (.tmp rfl rfl) rfl) ?_
                        refine RK.c (S.move .none rfl (.tmp rfl rfl)) ?_
                        refine RK.splitD (t := 149) rfl (fun g149 => ?_) (fun g149 => ?_)
                        ·
                          refine RK.c (S.move (.yes rfl rfl rfl rfl) rfl (.tmp rfl rfl)) ?_
                          refine RK.c (S.eql (.yes rfl rfl rfl rfl) rfl (.tmp rfl rfl) (.cint rfl)) ?_
                          refine RK.c (S.pickT .none rfl (.tmp rfl rfl) (.tmp rfl rfl) rfl) ?_
                          refine RK.c (S.move .none rfl (.tmp rfl rfl)) ?_
                          refine RK.splitD (t := 153) rfl (fun g153 => ?_) (fun g153 => ?_)
                          ·
                            refine RK.c (S.move (.yes rfl rfl rfl rfl) rfl (.tmp rfl rfl)) ?_
                            refine RK.c (S.move (.yes rfl rfl rfl rfl) rfl (.tmp rfl rfl)) ?_
                            refine RK.c (S.call (base_Ints) Tryz.call21 (.yes rfl rfl rfl rfl) rfl (.cons (.tmp rfl rfl) (.cons (.tmp rfl rfl) .nil)) rfl) ?_
                            refine RK.c (S.pickT .none rfl (.tmp rfl rfl) (.tmp rfl rfl) rfl) ?_
                            refine RK.c (S.move .none rfl (.tmp rfl rfl)) ?_
                            refine RK.splitD (t := 158) rfl (fun g158 => ?_) (fun g158 => ?_)
                            ·
                              refine RK.c (S.move (.yes rfl rfl rfl rfl) rfl (.tmp rfl rfl)) ?_
                              refine RK.c (S.lenM si30 (.yes rfl rfl rfl rfl) rfl (.tmp rfl rfl)) ?_
                              refine RK.c (S.move (.yes rfl rfl rfl rfl) rfl (.tmp rfl rfl)) ?_
                              refine RK.c (S.lenM si30 (.yes rfl rfl rfl rfl) rfl (.tmp rfl rfl)) ?_
                              refine RK.c (S.eql (.yes rfl rfl rfl rfl) rfl (.tmp rfl rfl) (.tmp rfl rfl)) ?_
                              refine RK.c (S.pickT .none rfl (.tmp rfl rfl) (.tmp rfl rfl) rfl) ?_
                              refine RK.c (S.move .none rfl (.tmp rfl rfl)) ?_
                              refine RK.splitD (t := 165) rfl (fun g165 => ?_) (fun g165 => ?_)
                              ·
                                refine RK.c (S.move (.yes rfl rfl rfl rfl) rfl (.tmp rfl rfl)) ?_
                                refine RK.c (S.move (.yes rfl rfl rfl rfl) rfl (.tmp rfl rfl)) ?_
                                refine RK.c (S.eql (.yes rfl rfl rfl rfl) rfl (.tmp rfl rfl) (.tmp rfl rfl)) ?_
                                refine RK.c (S.pickT .none rfl (.tmp rfl rfl) (.tmp rfl rfl) rfl) ?_
                                refine RK.c (S.move .none rfl (.tmp rfl rfl)) ?_
                                refine RK.splitD (t := 170) rfl (fun g170 => ?_) (fun g170 => ?_)
                                ·
                                  refine RK.c (S.bloadN ti97 (.yes rfl rfl rfl rfl) rfl (.tmp rfl rfl) rfl rfl rfl rfl) ?_
                                  refine RK.c (S.bloadN ti97 (.yes rfl rfl rfl rfl) rfl (.tmp rfl rfl) rfl rfl rfl rfl) ?_
                                  refine RK.c (S.aeql [(capT l r).num, (capT l r).den] [(capT l r).num, (capT l r).den] eq97 (.yes rfl rfl rfl rfl) rfl (.tmp rfl rfl) (.tmp rfl rfl) rfl rfl rfl rfl) ?_
                                  refine RK.c (S.pickT .none rfl (.tmp rfl rfl) (.tmp rfl rfl) rfl) ?_
                                  refine RK.c (S.assign .none rfl (.tmp rfl rfl)) ?_
                                  refine RK.nil ?_
                                  refine Ab.D.code ?_
                                  refine OK.ret (Ret.r1 (.tmp rfl rfl (.c (.same rfl) rfl) rfl) ?_)
                                  first | rfl | exact ret_dT rfl | exact ret_dT trivial
                                ·
                                  exact absurd p1.symm g170
                              ·
                                exact absurd (by omega) g165
                            ·
                              exact absurd rfl g158
                          ·
                            exact absurd s3 g153
                        ·
                          exact absurd s1 g149
                      ·
                        exact absurd hvm g145
end Go.Proofs.YtpfepjgnojfppaaGreatDoor
