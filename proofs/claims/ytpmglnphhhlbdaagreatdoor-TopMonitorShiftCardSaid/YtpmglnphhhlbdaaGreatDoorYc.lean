import Derived.Test.YtpmglnphhhlbdaaGreatDoorFx
import Derived.Test.YtpmglnphhhlbdaaGreatDoorSh
import Derived.Test.YtpmglnphhhlbdaaGreatDoorWp
namespace Go.Proofs.YtpmglnphhhlbdaaGreatDoor
open Go.Ab
theorem recHead (p : Plan) (l : List Frame) : firstE [planErr p, unlessE (decide ((l.length : Int) ≤ 40)) 8] = if planErr p ≠ 0 then planErr p else if 40 < l.length then 8 else 0 := by
  rw [firstE2]
  by_cases h1 : planErr p ≠ 0
  · rw [if_pos h1, if_pos h1]
  · rw [if_neg h1, if_neg h1]
    by_cases h2 : 40 < l.length
    · rw [unlessE_not (by omega), if_pos h2]
    · rw [unlessE_of (by omega), if_neg h2]
theorem clash_T {l : List Frame} {i k : Nat} (hi : i < l.length) (hk : k < i) (h1 : l[k].tick = l[i].tick) (h2 : ¬ l[k].values = l[i].values) : ((l.take i).any fun x => decide (x.tick = l[i].tick) && !decide (x.values = l[i].values)) = true := by
  rw [List.any_eq_true]
  refine ⟨l[k], ?_, ?_⟩
  · have : (l.take i)[k]'(by rw [List.length_take]; omega) = l[k] := List.getElem_take
    rw [← this]
    exact List.getElem_mem _
  · rw [Bool.and_eq_true, decide_eq_true_eq, Bool.not_eq_true', decide_eq_false_iff_not]
    exact ⟨h1, h2⟩
theorem clash_F {l : List Frame} {i : Nat} (hi : i < l.length) (h : ∀ (k : Nat) (hk : k < i), ¬ (l[k].tick = l[i].tick ∧ ¬ l[k].values = l[i].values)) : ¬ ((l.take i).any fun x => decide (x.tick = l[i].tick) && !decide (x.values = l[i].values)) = true := by
  rw [List.any_eq_true]
  rintro ⟨x, hx, hq⟩
  rw [Bool.and_eq_true, decide_eq_true_eq, Bool.not_eq_true', decide_eq_false_iff_not] at hq
  obtain ⟨k, hk, rfl⟩ := List.getElem_of_mem hx
  rw [List.getElem_take] at hq
  rw [List.length_take] at hk
  exact h k (by omega) hq
theorem mon_RecordOf {p : Plan} {l : List Frame} : Ct Tryz.prog 35 [.agg p.cs, .sl (l.map Frame.cs)] (.tup [.agg (recOf p l).cs, .int .i64 (recErr p l)]) := by
  refine Ct.intro (rs := [.cell 4 75, .tmp 5]) Tryz.func35 rfl Tryz.ntmps35 Tryz.results35 rfl rfl rfl fun w h => ?_
  have hh := recHead p l
  have hre : recErr p l = if planErr p ≠ 0 then planErr p else if 40 < l.length then 8 else (eachGo (gRec p l) 0 l).2 := rfl
  refine OK.seq (OK.reg ?_)
  refine RK.c (S.box (k := 2) rfl .none rfl (.tmp rfl rfl) rfl) ?_
  refine RK.c (S.alloc (k := 4) ze75 rfl .none rfl) ?_
  refine RK.c (S.assign .none rfl (.cint rfl)) ?_
  refine RK.nil (Ab.D.code (OK.seq (OK.reg ?_)))
  refine RK.c (S.bloadN ti24 .none rfl (.tmp rfl rfl) rfl rfl rfl rfl) ?_
  refine RK.c (S.call (mon_open) Tryz.call82 .none rfl (.cons (.tmp rfl rfl) .nil) rfl) ?_
  refine RK.c (S.move .none rfl (.tmp rfl rfl)) ?_
  refine RK.c (S.extract .none rfl (.tmp rfl rfl) rfl rfl) ?_
  refine RK.c (S.extract .none rfl (.tmp rfl rfl) rfl rfl) ?_
  refine RK.c (S.alloc (k := 6) ze150 rfl .none rfl) ?_
  refine RK.c (S.store ti150 .none (.tmp rfl rfl) (.tmp rfl rfl) rfl rfl rfl rfl rfl rfl) ?_
  refine RK.c (S.assign .none rfl (.tmp rfl rfl)) ?_
  refine RK.nil (Ab.D.code (OK.seq (OK.seq (OK.reg ?_))))
  refine RK.c (S.move .none rfl (.tmp rfl rfl)) ?_
  refine RK.c (S.move .none rfl (.tmp rfl rfl)) ?_
  refine RK.c (S.lenM si71 .none rfl (.tmp rfl rfl)) ?_
  refine RK.c (S.leq .none rfl (.tmp rfl rfl) (.cint rfl)) ?_
  refine RK.c (S.call (monitor_unless) Tryz.call84 .none rfl (.cons (.tmp rfl rfl) (.cons (.cint rfl) .nil)) rfl) ?_
  refine RK.c (S.mkSlice (k := 19) (rows := [[_], [_]]) ai209 .none rfl (.cons (.tmp rfl rfl) (.cons (.tmp rfl rfl) .nil)) rfl rfl rfl rfl rfl rfl rfl) ?_
  refine RK.c (S.callL (monitor_first (l := [_, _])) Tryz.call83 .none rfl (.cons (.tmp rfl rfl) .nil) (.cons (.p (.own rfl rfl) rfl) .nil) rfl) ?_
  refine RK.c (S.assign .none rfl (.tmp rfl rfl)) ?_
  refine RK.nil (Ab.D.code (OK.seq (OK.reg ?_)))
  refine RK.c (S.move .none rfl (.tmp rfl rfl)) ?_
  refine RK.c (S.neq .none rfl (.tmp rfl rfl) (.cint rfl)) ?_
  refine RK.nil (Ab.D.code ?_)
  refine OK.condD rfl rfl (fun c22 => ?_) (fun c22 => ?_)
  ·
    have hq : recErr p l = firstE [planErr p, unlessE (decide ((l.length : Int) ≤ 40)) 8] := by
      rw [hh] at c22 ⊢
      rw [hre]
      by_cases h1 : planErr p ≠ 0
      · rw [if_pos h1, if_pos h1]
      · rw [if_neg h1] at c22 ⊢
        by_cases h2 : 40 < l.length
        · rw [if_neg h1, if_pos h2, if_pos h2]
        · rw [if_neg h2] at c22; exact absurd rfl c22
    have hne : ¬ recErr p l = 0 := by rw [hq]; exact c22
    refine OK.seq (OK.reg ?_)
    refine RK.c (S.build bu75 rfl .none rfl .nil rfl rfl) ?_
    refine RK.c (S.move .none rfl (.tmp rfl rfl)) ?_
    refine RK.c (S.store ti75 .none (.tmp rfl rfl) (.tmp rfl rfl) rfl rfl rfl rfl rfl rfl) ?_
    refine RK.c (S.assign .none rfl (.tmp rfl rfl)) ?_
    refine RK.nil (Ab.D.code ?_)
    refine OK.ret (Ret.r2 (.cellN rfl rfl rfl rfl ti75 rfl (.k .nils .z)) (.tmp rfl rfl (.c (.same rfl) rfl) rfl) ?_)
    rw [recOf, if_neg hne, hq]
    rfl
  ·
    have hp0 : planErr p = 0 := by omega
    have hl40 : l.length ≤ 40 := by omega
    have hpp := planErr_0 hp0
    have hq : recErr p l = (eachGo (gRec p l) 0 l).2 := by rw [hre, if_neg (by omega), if_neg (by omega)]
    have hlenN : (rowsAt p l (eachN (gRec p l) 0 l)).length = p.ticks.toNat := rowsAt_len p l _ (by have := eachN_le (gRec p l) l 0; omega)
    have kS : ∀ (i : Nat) (h : i < l.length), CtG Tryz.prog 86 [6, 8, 27] ([.int .i64 i, .agg l[i].cs] ++ [.ptr 6 0, .ptr 8 0]) [(1006, .box p.cs), (1008, .box [.own 27 p.ticks.toNat]), (2027, .arr 2 ((rowsAt p l i).map Row.cs))] [(1006, .box p.cs), (1008, .box [.own 27 p.ticks.toNat]), (2027, .arr 2 ((rowsAt p l (i + 1)).map Row.cs))] (.int .i64 (gRec p l i l[i])) := fun i h => by
      rw [rowsAt_succ p h]
      exact mon_step (rowsAt_len p l i (by omega)) rfl (by omega) (by omega)
    have kE : ∀ (cL : Ctx) (v0 : Value), RepC cL (.fn 86 [.ptr 6 0, .ptr 8 0]) v0 → CtG Tryz.prog 85 [] ([.sl (l.map Frame.cs)] ++ [.cb fun v => v = v0]) [(3000, .res (LentJ [6, 8, 27] [(1006, .box p.cs), (1008, .box [.own 27 p.ticks.toNat]), (2027, .arr 2 ((rowsAt p l 0).map Row.cs))] cL [(1006, .box p.cs), (1008, .box [.own 27 p.ticks.toNat]), (2027, .arr 2 ((rowsAt p l 0).map Row.cs))]))] [(3000, .res (LentJ [6, 8, 27] [(1006, .box p.cs), (1008, .box [.own 27 p.ticks.toNat]), (2027, .arr 2 ((rowsAt p l 0).map Row.cs))] cL [(1006, .box p.cs), (1008, .box [.own 27 p.ticks.toNat]), (2027, .arr 2 ((rowsAt p l (eachN (gRec p l) 0 l)).map Row.cs))]))] (pair (eachGo (gRec p l) 0 l)) := fun cL v0 hv => eachCb_Frame (l := l) (g := gRec p l) (Φ := fun v => v = v0) (J := fun i => LentJ [6, 8, 27] [(1006, .box p.cs), (1008, .box [.own 27 p.ticks.toNat]), (2027, .arr 2 ((rowsAt p l 0).map Row.cs))] cL [(1006, .box p.cs), (1008, .box [.own 27 p.ticks.toNat]), (2027, .arr 2 ((rowsAt p l i).map Row.cs))]) (fun i h v e => by subst e; exact cb_of_G (kS i h) Tryz.call86 rfl hv rfl rfl) (fun i => LentJ.stable rfl)
    refine OK.skip ?_
    refine Ab.D.code (OK.seq (OK.reg ?_))
    refine RK.c (S.bfield fi24_1 .none rfl (.tmp rfl rfl)) ?_
    refine RK.c (S.bload1 ti3 .none rfl (.tmp rfl rfl) rfl rfl rfl rfl) ?_
    refine RK.c (S.make (k := 27) (n := p.ticks.toNat) ai73 (⟨⟨Tryz.t162, _, by kernel_rfl, rfl, fun h => ⟨.bool _, .sl0 none 0 (Nat.zero_le _), trivial⟩⟩⟩ : MkI Tryz.prog 162 [.bool false, .sl []]) .none rfl (.tmp rfl rfl) (.tmp rfl rfl) (by omega) (by omega) (by unfold maxLen; omega)) ?_
    refine RK.c (S.build bu75 rfl .none rfl (.cons (.tmp rfl rfl) .nil) rfl rfl) ?_
    refine RK.c (S.alloc (k := 8) ze75 rfl .none rfl) ?_
    refine RK.c (S.store ti75 .none (.tmp rfl rfl) (.tmp rfl rfl) rfl rfl rfl rfl rfl rfl) ?_
    refine RK.nil (Ab.D.code (OK.seq (OK.reg ?_)))
    refine RK.c (S.move .none rfl (.tmp rfl rfl)) ?_
    refine RK.c (S.makeFunc2 .none rfl (.tmp rfl rfl) (.tmp rfl rfl) rfl rfl) ?_
    refine RK.c (S.callE (fs := [6, 8, 27]) (t := [(1006, .box p.cs), (1008, .box [.own 27 p.ticks.toNat]), (2027, .arr 2 ((rowsAt p l 0).map Row.cs))]) (t' := [(1006, .box p.cs), (1008, .box [.own 27 p.ticks.toNat]), (2027, .arr 2 ((rowsAt p l (eachN (gRec p l) 0 l)).map Row.cs))]) (kE) Tryz.call85 .none rfl (.cons (.tmp rfl rfl) (.cons (.tmp rfl rfl) .nil)) rfl rfl rfl ⟨rfl, rfl, (lk_arr (by rw [rowsAt_0, List.map_replicate]; rfl)), trivial⟩ (by kernel_rfl) (by kernel_rfl) (by kernel_rfl) (by kernel_rfl) (by kernel_rfl) rfl rfl) ?_
    refine RK.c (S.move .none rfl (.tmp rfl rfl)) ?_
    refine RK.c (S.extract .none rfl (.tmp rfl rfl) rfl rfl) ?_
    refine RK.c (S.extract .none rfl (.tmp rfl rfl) rfl rfl) ?_
    refine RK.c (S.assign .none rfl (.tmp rfl rfl)) ?_
    refine RK.nil (Ab.D.code (OK.seq (OK.seq (OK.reg ?_))))
    refine RK.c (S.move .none rfl (.tmp rfl rfl)) ?_
    refine RK.c (S.neq .none rfl (.tmp rfl rfl) (.cint rfl)) ?_
    refine RK.nil (Ab.D.code ?_)
    refine OK.condD rfl rfl (fun c36 => ?_) (fun c36 => ?_)
    ·
      refine OK.seq (OK.reg ?_)
      refine RK.c (S.build bu75 rfl .none rfl .nil rfl rfl) ?_
      refine RK.c (S.move .none rfl (.tmp rfl rfl)) ?_
      refine RK.c (S.store ti75 .none (.tmp rfl rfl) (.tmp rfl rfl) rfl rfl rfl rfl rfl rfl) ?_
      refine RK.c (S.assign .none rfl (.tmp rfl rfl)) ?_
      refine RK.nil (Ab.D.code ?_)
      refine OK.ret (Ret.r2 (.cellN rfl rfl rfl rfl ti75 rfl (.k .nils .z)) (.tmp rfl rfl (.c (.same rfl) rfl) rfl) ?_)
      rw [recOf, if_neg (by rw [hq]; exact c36), hq]
      rfl
    ·
      have he0 : (eachGo (gRec p l) 0 l).2 = 0 := Decidable.not_not.1 c36
      have he : recErr p l = 0 := by omega
      have hN : eachN (gRec p l) 0 l = l.length := by rw [eachN_all _ l 0 he0, Nat.zero_add]
      refine OK.skip ?_
      refine Ab.D.code (OK.seq (OK.reg ?_))
      refine RK.c (S.bloadN ti75 .none rfl (.tmp rfl rfl) rfl rfl rfl rfl) ?_
      refine RK.c (S.store ti75 .none (.tmp rfl rfl) (.tmp rfl rfl) rfl rfl rfl rfl rfl rfl) ?_
      refine RK.c (S.assign .none rfl (.cint rfl)) ?_
      refine RK.nil (Ab.D.code ?_)
      refine OK.ret (Ret.r2 (.cellN rfl rfl rfl rfl ti75 rfl (.k (.own rfl rfl (by first | rfl | (simp; done) | (simp; omega))) .z)) (.tmp rfl rfl (.c (.same rfl) rfl) rfl) ?_)
      rw [recOf, if_pos he, he, hN]
      rfl
theorem ref_FrameErr {p : Plan} {f : Frame} (hpt : 1 ≤ p.ticks ∧ p.ticks ≤ 12) : Ct Tryz.prog 28 [.agg p.cs, .agg f.cs] (.int .i64 (frameE p f)) := by
 refine Ct.intro (rs := [.tmp 4]) Tryz.func28 rfl Tryz.ntmps28 Tryz.results28 rfl rfl rfl fun w h => ?_
 refine OK.aggLen 1 1 (f.values.map fun n => [.int .i64 n]) rfl rfl rfl fun hlen => ?_
 rw [List.length_map] at hlen
 unfold maxLen at hlen
 refine OK.seq (OK.reg ?_)
 refine RK.c (S.box (k := 2) rfl .none rfl (.tmp rfl rfl) rfl) ?_
 refine RK.c (S.box (k := 3) rfl .none rfl (.tmp rfl rfl) rfl) ?_
 refine RK.c (S.assign .none rfl (.cint rfl)) ?_
 refine RK.nil (Ab.D.code (OK.seq (OK.seq (OK.reg ?_))))
 refine RK.c (S.bfield fi27_0 .none rfl (.tmp rfl rfl)) ?_
 refine RK.c (S.bload1 ti3 .none rfl (.tmp rfl rfl) rfl rfl rfl rfl) ?_
 refine RK.c (S.bfield fi24_1 .none rfl (.tmp rfl rfl)) ?_
 refine RK.c (S.bload1 ti3 .none rfl (.tmp rfl rfl) rfl rfl rfl rfl) ?_
 refine RK.c (S.sub .none rfl (.tmp rfl rfl) (.cint rfl) (IntWalk.i64_in _ (by omega)) (IntWalk.i64_in _ (by omega))) ?_
 refine RK.c (S.call (base_Within) Tryz.call74 .none rfl (.cons (.tmp rfl rfl) (.cons (.cint rfl) (.cons (.tmp rfl rfl) .nil))) rfl) ?_
 refine RK.c (S.notD .none rfl (.tmp rfl rfl)) ?_
 refine RK.nil (Ab.D.code ?_)
 refine OK.condD rfl rfl (fun c12 => ?_) (fun c12 => ?_)
 ·
  refine OK.seq (OK.reg ?_)
  refine RK.c (S.assign .none rfl (.cint rfl)) ?_
  refine RK.nil (Ab.D.code ?_)
  refine OK.ret (Ret.r1 (.tmp rfl rfl (.c (.same rfl) rfl) rfl) ?_)
  refine ret_i ?_
  rw [frameE, if_pos c12]
 ·
  have hin : 0 ≤ f.tick ∧ f.tick ≤ p.ticks - 1 := Decidable.not_not.1 c12
  have hfe : frameE p f = valuesErr p f.values := by rw [frameE, if_neg (by simpa using hin)]
  refine OK.skip ?_
  refine Ab.D.code (OK.seq (OK.seq (OK.reg ?_)))
  refine RK.c (S.bfield fi27_1 .none rfl (.tmp rfl rfl)) ?_
  refine RK.c (S.bload1 ti25 .none rfl (.tmp rfl rfl) rfl rfl rfl rfl) ?_
  refine RK.c (S.lenM si25 .none rfl (.tmp rfl rfl)) ?_
  refine RK.c (S.bfield fi24_0 .none rfl (.tmp rfl rfl)) ?_
  refine RK.c (S.bload1 ti22 .none rfl (.tmp rfl rfl) rfl rfl rfl rfl) ?_
  refine RK.c (S.lenM si22 .none rfl (.tmp rfl rfl)) ?_
  refine RK.c (S.neq .none rfl (.tmp rfl rfl) (.tmp rfl rfl)) ?_
  refine RK.nil (Ab.D.code ?_)
  refine OK.condD rfl rfl (fun c19 => ?_) (fun c19 => ?_)
  ·
   refine OK.seq (OK.reg ?_)
   refine RK.c (S.assign .none rfl (.cint rfl)) ?_
   refine RK.nil (Ab.D.code ?_)
   refine OK.ret (Ret.r1 (.tmp rfl rfl (.c (.same rfl) rfl) rfl) ?_)
   refine ret_i ?_
   rw [hfe, valuesErr, if_pos (by omega)]
  ·
   have hvl : f.values.length = p.channels.length := by omega
   refine OK.skip ?_
   refine Ab.D.code (OK.seq (OK.seq (OK.reg ?_)))
   refine RK.c (S.assign .none rfl (.cint rfl)) ?_
   refine RK.nil (Ab.D.code ?_)
   refine OK.block ?_
   refine OK.loop (G := Nat) [2, 3] (fun i => [(2, .ptr 2 0), (1002, .box p.cs), (3, .ptr 3 0), (1003, .box f.cs), (5, .int .i64 i)]) (fun i => i ≤ f.values.length ∧ f.values.all isVal = (f.values.drop i).all isVal) (fun i => f.values.length - i) 0 ⟨Nat.zero_le _, rfl⟩ ⟨rfl, rfl, rfl, rfl, rfl, trivial⟩ (fun _ => rfl) ?_
   rintro i ⟨hi, hg⟩
   refine OK.seq (OK.seq (OK.reg ?_))
   refine RK.c (S.move .none rfl (.tmp rfl rfl)) ?_
   refine RK.c (S.bfield fi27_1 .none rfl (.tmp rfl rfl)) ?_
   refine RK.c (S.bload1 ti25 .none rfl (.tmp rfl rfl) rfl rfl rfl rfl) ?_
   refine RK.c (S.lenM si25 .none rfl (.tmp rfl rfl)) ?_
   refine RK.c (S.lss .none rfl (.tmp rfl rfl) (.tmp rfl rfl)) ?_
   refine RK.nil (Ab.D.code ?_)
   refine OK.condD rfl rfl (fun c24 => ?_) (fun c24 => ?_)
   ·
    refine OK.skip ?_
    refine Ab.D.code ?_
    refine OK.seq ?_
    refine OK.block ?_
    refine OK.seq (OK.reg ?_)
    refine RK.c (S.bfield fi27_1 .none rfl (.tmp rfl rfl)) ?_
    refine RK.c (S.bload1 ti25 .none rfl (.tmp rfl rfl) rfl rfl rfl rfl) ?_
    refine RK.c (S.move .none rfl (.tmp rfl rfl)) ?_
    refine RK.c (S.indexM (n := i) si25 .none rfl (.tmp rfl rfl) (.tmp rfl rfl) rfl (by omega) rfl) ?_
    refine RK.c (S.load1 ti3 .none rfl (.tmp rfl rfl) rfl) ?_
    refine RK.c (S.call (ref_isValue) Tryz.call75 .none rfl (.cons (.tmp rfl rfl) .nil) rfl) ?_
    refine RK.c (S.notD .none rfl (.tmp rfl rfl)) ?_
    refine RK.nil (Ab.D.code ?_)
    refine OK.condD rfl rfl (fun c33 => ?_) (fun c33 => ?_)
    ·
     refine OK.seq (OK.reg ?_)
     refine RK.c (S.assign .none rfl (.cint rfl)) ?_
     refine RK.nil (Ab.D.code ?_)
     refine OK.ret (Ret.r1 (.tmp rfl rfl (.c (.same rfl) rfl) rfl) ?_)
     refine ret_i ?_
     rw [hfe, vals_drop_F (by omega) hvl hg (by simpa using c33)]
    ·
     refine OK.skip ?_
     refine Ab.D.blk ?_
     refine Ab.D.code (OK.reg ?_)
     refine RK.c (S.move .none rfl (.tmp rfl rfl)) ?_
     refine RK.c (S.add .none rfl (.tmp rfl rfl) (.cint rfl) (IntWalk.i64_in _ (by omega)) (IntWalk.i64_in _ (by omega))) ?_
     refine RK.c (S.assign .none rfl (.tmp rfl rfl)) ?_
     refine RK.nil ?_
     refine Ab.D.lp ⟨i + 1, ⟨by omega, vals_drop_T (by omega) hg (by simpa using c33)⟩, (by omega), rfl, rfl, rfl, rfl, rfl, trivial⟩
   ·
    refine OK.exit rfl ?_
    refine Ab.D.code (OK.seq (OK.reg ?_))
    refine RK.c (S.assign .none rfl (.cint rfl)) ?_
    refine RK.nil (Ab.D.code ?_)
    refine OK.ret (Ret.r1 (.tmp rfl rfl (.c (.same rfl) rfl) rfl) ?_)
    refine ret_i ?_
    rw [hfe, valuesErr, if_neg (by omega), hg, show i = f.values.length by omega, List.drop_length]
    rfl
theorem ref_FramesErr {p : Plan} {l : List Frame} (hpt : 1 ≤ p.ticks ∧ p.ticks ≤ 12) : Ct Tryz.prog 34 [.agg p.cs, .sl (l.map Frame.cs)] (.int .i64 (framesErr p l)) := by
  refine Ct.intro (rs := [.tmp 4]) Tryz.func34 rfl Tryz.ntmps34 Tryz.results34 rfl rfl rfl fun w h => ?_
  refine OK.slLen (rows := l.map Frame.cs) (t := 1) rfl rfl fun hlen => ?_
  rw [List.length_map] at hlen
  unfold maxLen at hlen
  refine OK.seq (OK.reg ?_)
  refine RK.c (S.box (k := 2) rfl .none rfl (.tmp rfl rfl) rfl) ?_
  refine RK.c (S.assign .none rfl (.cint rfl)) ?_
  refine RK.nil (Ab.D.code (OK.seq (OK.seq (OK.reg ?_))))
  refine RK.c (S.move .none rfl (.tmp rfl rfl)) ?_
  refine RK.c (S.lenM si71 .none rfl (.tmp rfl rfl)) ?_
  refine RK.c (S.gtr .none rfl (.tmp rfl rfl) (.cint rfl)) ?_
  refine RK.nil (Ab.D.code ?_)
  refine OK.condD rfl rfl (fun c10 => ?_) (fun c10 => ?_)
  ·
    refine OK.seq (OK.reg ?_)
    refine RK.c (S.assign .none rfl (.cint rfl)) ?_
    refine RK.nil (Ab.D.code ?_)
    refine OK.ret (Ret.r1 (.tmp rfl rfl (.c (.same rfl) rfl) rfl) ?_)
    refine ret_i ?_
    rw [framesErr, if_pos (by omega)]
  ·
    have hfe : framesErr p l = (eachGo (hRec p l) 0 l).2 := by rw [framesErr, if_neg (by omega)]
    refine OK.skip ?_
    refine Ab.D.code (OK.seq (OK.seq (OK.reg ?_)))
    refine RK.c (S.assign .none rfl (.cint rfl)) ?_
    refine RK.nil (Ab.D.code ?_)
    refine OK.block ?_
    refine OK.loop (G := Nat) [2] (fun i => [(2, .ptr 2 0), (1002, .box p.cs), (1, .sl (l.map Frame.cs)), (5, .int .i64 i)]) (fun i => i ≤ l.length ∧ eachGo (hRec p l) 0 l = eachGo (hRec p l) i (l.drop i)) (fun i => l.length - i) 0 ⟨Nat.zero_le _, rfl⟩ ⟨rfl, rfl, rfl, rfl, trivial⟩ (fun _ => rfl) ?_
    rintro i ⟨hi, hg⟩
    refine OK.seq (OK.seq (OK.reg ?_))
    refine RK.c (S.move .none rfl (.tmp rfl rfl)) ?_
    refine RK.c (S.move .none rfl (.tmp rfl rfl)) ?_
    refine RK.c (S.lenM si71 .none rfl (.tmp rfl rfl)) ?_
    refine RK.c (S.lss .none rfl (.tmp rfl rfl) (.tmp rfl rfl)) ?_
    refine RK.nil (Ab.D.code ?_)
    refine OK.condD rfl rfl (fun c14 => ?_) (fun c14 => ?_)
    ·
      refine OK.skip ?_
      refine Ab.D.code ?_
      refine OK.seq ?_
      refine OK.block ?_
      refine OK.seq ?_
      refine OK.seq ?_
      refine OK.regionDraw follows (.c (S.bloadN ti24 .none rfl (.tmp rfl rfl) rfl rfl rfl rfl)
        (.c (S.move .none rfl (.tmp rfl rfl))
        (.c (S.move .none rfl (.tmp rfl rfl))
        (.c (S.indexM (n := i) si71 .none rfl (.tmp rfl rfl) (.tmp rfl rfl) rfl (by omega) rfl)
        (.c (S.loadN ti27 .none rfl (.tmp rfl rfl) rfl rfl)
        (.c (S.call (ref_FrameErr hpt) Tryz.call28 .none rfl (.cons (.tmp rfl rfl) (.cons (.tmp rfl rfl) .nil)) rfl)
        (.c (S.assign .none rfl (.tmp rfl rfl))
        .nil))))))) (by kernel_rfl) ?_
      refine Ab.D.code (OK.seq (OK.reg ?_))
      refine RK.c (S.move .none rfl (.tmp rfl rfl)) ?_
      refine RK.c (S.neq .none rfl (.tmp rfl rfl) (.cint rfl)) ?_
      refine RK.nil (Ab.D.code ?_)
      refine OK.condD rfl rfl (fun c24 => ?_) (fun c24 => ?_)
      ·
        refine OK.seq (OK.reg ?_)
        refine RK.c (S.move .none rfl (.tmp rfl rfl)) ?_
        refine RK.c (S.assign .none rfl (.tmp rfl rfl)) ?_
        refine RK.nil (Ab.D.code ?_)
        refine OK.ret (Ret.r1 (.tmp rfl rfl (.c (.same rfl) rfl) rfl) ?_)
        refine ret_i ?_
        rw [hfe, hg, eachGo_drop _ (by omega), hRec, if_pos c24, if_pos c24]
      ·
        refine OK.skip ?_
        refine Ab.D.code (OK.seq (OK.reg ?_))
        refine RK.c (S.assign .none rfl (.cint rfl)) ?_
        refine RK.nil (Ab.D.code ?_)
        refine OK.block ?_
        refine OK.loop (G := Nat) [2] (fun k => [(2, .ptr 2 0), (1002, .box p.cs), (1, .sl (l.map Frame.cs)), (5, .int .i64 i), (7, .int .i64 k)]) (fun k => k ≤ i ∧ ∀ (j : Nat) (hj : j < k) (hjl : j < l.length), ¬ (l[j].tick = l[i].tick ∧ ¬ l[j].values = l[i].values)) (fun k => i - k) 0 ⟨Nat.zero_le _, fun j hj => by omega⟩ ⟨rfl, rfl, rfl, rfl, rfl, trivial⟩ (fun _ => rfl) ?_
        rintro k ⟨hk, hK0⟩
        have hK : ∀ (j : Nat) (hj : j < k), ¬ (l[j].tick = l[i].tick ∧ ¬ l[j].values = l[i].values) := fun j hj => hK0 j hj (by omega)
        refine OK.seq (OK.seq (OK.reg ?_))
        refine RK.c (S.move .none rfl (.tmp rfl rfl)) ?_
        refine RK.c (S.move .none rfl (.tmp rfl rfl)) ?_
        refine RK.c (S.lss .none rfl (.tmp rfl rfl) (.tmp rfl rfl)) ?_
        refine RK.nil (Ab.D.code ?_)
        refine OK.condD rfl rfl (fun c28 => ?_) (fun c28 => ?_)
        ·
          have hkl : k < l.length := by omega
          refine OK.skip ?_
          refine Ab.D.code ?_
          refine OK.seq ?_
          refine OK.block ?_
          refine OK.seq ?_
          by_cases g42 : l[k].tick = l[i].tick
          ·
            refine OK.regionDraw follows (.c (S.move .none rfl (.tmp rfl rfl))
              (.c (S.move .none rfl (.tmp rfl rfl))
              (.c (S.indexM (n := k) si71 .none rfl (.tmp rfl rfl) (.tmp rfl rfl) rfl (by omega) rfl)
              (.c (S.field fi27_0 .none rfl (.tmp rfl rfl) rfl)
              (.c (S.load1 ti3 .none rfl (.tmp rfl rfl) rfl)
              (.c (S.move .none rfl (.tmp rfl rfl))
              (.c (S.move .none rfl (.tmp rfl rfl))
              (.c (S.indexM (n := i) si71 .none rfl (.tmp rfl rfl) (.tmp rfl rfl) rfl (by omega) rfl)
              (.c (S.field fi27_0 .none rfl (.tmp rfl rfl) rfl)
              (.c (S.load1 ti3 .none rfl (.tmp rfl rfl) rfl)
              (.c (S.eql .none rfl (.tmp rfl rfl) (.tmp rfl rfl))
              (.c (S.move .none rfl (.tmp rfl rfl))
              (.c (S.move (.yes rfl rfl rfl (by first | rfl | exact decide_eq_true g42 | exact decide_eq_false g42 | (rw [decide_eq_true g42]; rfl) | (rw [decide_eq_false g42]; rfl) | simp [*])) rfl (.tmp rfl rfl))
              (.c (S.move (.yes rfl rfl rfl (by first | rfl | exact decide_eq_true g42 | exact decide_eq_false g42 | (rw [decide_eq_true g42]; rfl) | (rw [decide_eq_false g42]; rfl) | simp [*])) rfl (.tmp rfl rfl))
              (.c (S.indexM (n := k) si71 (.yes rfl rfl rfl (by first | rfl | exact decide_eq_true g42 | exact decide_eq_false g42 | (rw [decide_eq_true g42]; rfl) | (rw [decide_eq_false g42]; rfl) | simp [*])) rfl (.tmp rfl rfl) (.tmp rfl rfl) rfl (by omega) rfl)
              (.c (S.field fi27_1 (.yes rfl rfl rfl (by first | rfl | exact decide_eq_true g42 | exact decide_eq_false g42 | (rw [decide_eq_true g42]; rfl) | (rw [decide_eq_false g42]; rfl) | simp [*])) rfl (.tmp rfl rfl) rfl)
              (.c (S.load1 ti25 (.yes rfl rfl rfl (by first | rfl | exact decide_eq_true g42 | exact decide_eq_false g42 | (rw [decide_eq_true g42]; rfl) | (rw [decide_eq_false g42]; rfl) | simp [*])) rfl (.tmp rfl rfl) rfl)
              (.c (S.move (.yes rfl rfl rfl (by first | rfl | exact decide_eq_true g42 | exact decide_eq_false g42 | (rw [decide_eq_true g42]; rfl) | (rw [decide_eq_false g42]; rfl) | simp [*])) rfl (.tmp rfl rfl))
              (.c (S.move (.yes rfl rfl rfl (by first | rfl | exact decide_eq_true g42 | exact decide_eq_false g42 | (rw [decide_eq_true g42]; rfl) | (rw [decide_eq_false g42]; rfl) | simp [*])) rfl (.tmp rfl rfl))
              (.c (S.indexM (n := i) si71 (.yes rfl rfl rfl (by first | rfl | exact decide_eq_true g42 | exact decide_eq_false g42 | (rw [decide_eq_true g42]; rfl) | (rw [decide_eq_false g42]; rfl) | simp [*])) rfl (.tmp rfl rfl) (.tmp rfl rfl) rfl (by omega) rfl)
              (.c (S.field fi27_1 (.yes rfl rfl rfl (by first | rfl | exact decide_eq_true g42 | exact decide_eq_false g42 | (rw [decide_eq_true g42]; rfl) | (rw [decide_eq_false g42]; rfl) | simp [*])) rfl (.tmp rfl rfl) rfl)
              (.c (S.load1 ti25 (.yes rfl rfl rfl (by first | rfl | exact decide_eq_true g42 | exact decide_eq_false g42 | (rw [decide_eq_true g42]; rfl) | (rw [decide_eq_false g42]; rfl) | simp [*])) rfl (.tmp rfl rfl) rfl)
              (.c (S.call (base_Ints) Tryz.call52 (.yes rfl rfl rfl (by first | rfl | exact decide_eq_true g42 | exact decide_eq_false g42 | (rw [decide_eq_true g42]; rfl) | (rw [decide_eq_false g42]; rfl) | simp [*])) rfl (.cons (.tmp rfl rfl) (.cons (.tmp rfl rfl) .nil)) rfl)
              (.c (S.notD (.yes rfl rfl rfl (by first | rfl | exact decide_eq_true g42 | exact decide_eq_false g42 | (rw [decide_eq_true g42]; rfl) | (rw [decide_eq_false g42]; rfl) | simp [*])) rfl (.tmp rfl rfl))
              (.c (S.pickT .none rfl (.tmp rfl rfl) (.tmp rfl rfl) (by first | rfl | exact decide_eq_true g42 | exact decide_eq_false g42 | (rw [decide_eq_true g42]; rfl) | (rw [decide_eq_false g42]; rfl) | simp [*]))
              .nil))))))))))))))))))))))))) (by kernel_rfl) ?_
            refine Ab.D.code ?_
            refine OK.condD rfl rfl (fun c55 => ?_) (fun c55 => ?_)
            ·
              refine OK.seq (OK.reg ?_)
              refine RK.c (S.assign .none rfl (.cint rfl)) ?_
              refine RK.nil (Ab.D.code ?_)
              refine OK.ret (Ret.r1 (.tmp rfl rfl (.c (.same rfl) rfl) rfl) ?_)
              refine ret_i ?_
              have e : hRec p l i l[i] = 13 := by rw [hRec, if_neg c24, if_pos (clash_T (by omega) (by omega) g42 c55)]
              rw [hfe, hg, eachGo_drop _ (by omega), e]
              rfl
            ·
              refine OK.skip ?_
              refine Ab.D.blk ?_
              refine Ab.D.code (OK.reg ?_)
              refine RK.c (S.move .none rfl (.tmp rfl rfl)) ?_
              refine RK.c (S.add .none rfl (.tmp rfl rfl) (.cint rfl) (IntWalk.i64_in _ (by omega)) (IntWalk.i64_in _ (by omega))) ?_
              refine RK.c (S.assign .none rfl (.tmp rfl rfl)) ?_
              refine RK.nil ?_
              refine Ab.D.lp ⟨k + 1, ⟨by omega, fun j hj hjl => ?_⟩, (by omega), rfl, rfl, rfl, rfl, rfl, trivial⟩
              rcases Nat.lt_or_ge j k with h5 | h5
              · exact hK j h5
              · have e : j = k := by omega
                subst e
                first | exact fun q => g42 q.1 | exact fun q => q.2 (Decidable.not_not.1 c55)
          ·
            refine OK.regionDraw follows (.c (S.move .none rfl (.tmp rfl rfl))
              (.c (S.move .none rfl (.tmp rfl rfl))
              (.c (S.indexM (n := k) si71 .none rfl (.tmp rfl rfl) (.tmp rfl rfl) rfl (by omega) rfl)
              (.c (S.field fi27_0 .none rfl (.tmp rfl rfl) rfl)
              (.c (S.load1 ti3 .none rfl (.tmp rfl rfl) rfl)
              (.c (S.move .none rfl (.tmp rfl rfl))
              (.c (S.move .none rfl (.tmp rfl rfl))
              (.c (S.indexM (n := i) si71 .none rfl (.tmp rfl rfl) (.tmp rfl rfl) rfl (by omega) rfl)
              (.c (S.field fi27_0 .none rfl (.tmp rfl rfl) rfl)
              (.c (S.load1 ti3 .none rfl (.tmp rfl rfl) rfl)
              (.c (S.eql .none rfl (.tmp rfl rfl) (.tmp rfl rfl))
              (.c (S.move .none rfl (.tmp rfl rfl))
              (.c (S.skip rfl rfl rfl (by first | rfl | exact decide_eq_true g42 | exact decide_eq_false g42 | (rw [decide_eq_true g42]; rfl) | (rw [decide_eq_false g42]; rfl) | simp [*]) rfl)
              (.c (S.skip rfl rfl rfl (by first | rfl | exact decide_eq_true g42 | exact decide_eq_false g42 | (rw [decide_eq_true g42]; rfl) | (rw [decide_eq_false g42]; rfl) | simp [*]) rfl)
              (.c (S.skip rfl rfl rfl (by first | rfl | exact decide_eq_true g42 | exact decide_eq_false g42 | (rw [decide_eq_true g42]; rfl) | (rw [decide_eq_false g42]; rfl) | simp [*]) rfl)
              (.c (S.skip rfl rfl rfl (by first | rfl | exact decide_eq_true g42 | exact decide_eq_false g42 | (rw [decide_eq_true g42]; rfl) | (rw [decide_eq_false g42]; rfl) | simp [*]) rfl)
              (.c (S.skip rfl rfl rfl (by first | rfl | exact decide_eq_true g42 | exact decide_eq_false g42 | (rw [decide_eq_true g42]; rfl) | (rw [decide_eq_false g42]; rfl) | simp [*]) rfl)
              (.c (S.skip rfl rfl rfl (by first | rfl | exact decide_eq_true g42 | exact decide_eq_false g42 | (rw [decide_eq_true g42]; rfl) | (rw [decide_eq_false g42]; rfl) | simp [*]) rfl)
              (.c (S.skip rfl rfl rfl (by first | rfl | exact decide_eq_true g42 | exact decide_eq_false g42 | (rw [decide_eq_true g42]; rfl) | (rw [decide_eq_false g42]; rfl) | simp [*]) rfl)
              (.c (S.skip rfl rfl rfl (by first | rfl | exact decide_eq_true g42 | exact decide_eq_false g42 | (rw [decide_eq_true g42]; rfl) | (rw [decide_eq_false g42]; rfl) | simp [*]) rfl)
              (.c (S.skip rfl rfl rfl (by first | rfl | exact decide_eq_true g42 | exact decide_eq_false g42 | (rw [decide_eq_true g42]; rfl) | (rw [decide_eq_false g42]; rfl) | simp [*]) rfl)
              (.c (S.skip rfl rfl rfl (by first | rfl | exact decide_eq_true g42 | exact decide_eq_false g42 | (rw [decide_eq_true g42]; rfl) | (rw [decide_eq_false g42]; rfl) | simp [*]) rfl)
              (.c (S.skip rfl rfl rfl (by first | rfl | exact decide_eq_true g42 | exact decide_eq_false g42 | (rw [decide_eq_true g42]; rfl) | (rw [decide_eq_false g42]; rfl) | simp [*]) rfl)
              (.c (S.skip rfl rfl rfl (by first | rfl | exact decide_eq_true g42 | exact decide_eq_false g42 | (rw [decide_eq_true g42]; rfl) | (rw [decide_eq_false g42]; rfl) | simp [*]) rfl)
              (.c (S.pickF .none rfl (.tmp rfl rfl) .cbool (by first | rfl | exact decide_eq_true g42 | exact decide_eq_false g42 | (rw [decide_eq_true g42]; rfl) | (rw [decide_eq_false g42]; rfl) | simp [*]))
              .nil))))))))))))))))))))))))) (by kernel_rfl) ?_
            refine Ab.D.code ?_
            refine OK.condF rfl rfl rfl ?_
            refine OK.skip ?_
            refine Ab.D.blk ?_
            refine Ab.D.code (OK.reg ?_)
            refine RK.c (S.move .none rfl (.tmp rfl rfl)) ?_
            refine RK.c (S.add .none rfl (.tmp rfl rfl) (.cint rfl) (IntWalk.i64_in _ (by omega)) (IntWalk.i64_in _ (by omega))) ?_
            refine RK.c (S.assign .none rfl (.tmp rfl rfl)) ?_
            refine RK.nil ?_
            refine Ab.D.lp ⟨k + 1, ⟨by omega, fun j hj hjl => ?_⟩, (by omega), rfl, rfl, rfl, rfl, rfl, trivial⟩
            rcases Nat.lt_or_ge j k with h5 | h5
            · exact hK j h5
            · have e : j = k := by omega
              subst e
              first | exact fun q => g42 q.1 | exact fun q => q.2 (Decidable.not_not.1 c55)
        ·
          have hh0 : hRec p l i l[i] = 0 := by rw [hRec, if_neg c24, if_neg (clash_F (by omega) fun j hj => hK j (by omega))]
          refine OK.exit rfl ?_
          refine Ab.D.blk ?_
          refine Ab.D.code (OK.reg ?_)
          refine RK.c (S.move .none rfl (.tmp rfl rfl)) ?_
          refine RK.c (S.add .none rfl (.tmp rfl rfl) (.cint rfl) (IntWalk.i64_in _ (by omega)) (IntWalk.i64_in _ (by omega))) ?_
          refine RK.c (S.assign .none rfl (.tmp rfl rfl)) ?_
          refine RK.nil ?_
          refine Ab.D.lp ⟨i + 1, ⟨by omega, by rw [hg, eachGo_drop _ (by omega), hh0]; rfl⟩, (by omega), rfl, rfl, rfl, rfl, trivial⟩
    ·
      refine OK.exit rfl ?_
      refine Ab.D.code (OK.seq (OK.reg ?_))
      refine RK.c (S.assign .none rfl (.cint rfl)) ?_
      refine RK.nil (Ab.D.code ?_)
      refine OK.ret (Ret.r1 (.tmp rfl rfl (.c (.same rfl) rfl) rfl) ?_)
      refine ret_i ?_
      rw [hfe, hg, show i = l.length by omega, List.drop_length]
      rfl
theorem ref_Record {p : Plan} {l : List Frame} (hpt : 1 ≤ p.ticks ∧ p.ticks ≤ 12) (hv : ∀ x ∈ l, x.values.length ≤ 100000) : Ct Tryz.prog 37 [.agg p.cs, .sl (l.map Frame.cs)] (.agg (recT p l).cs) := by
 refine Ct.intro (rs := [.cell 4 75]) Tryz.func37 rfl Tryz.ntmps37 Tryz.results37 rfl rfl rfl fun w h => ?_
 refine OK.slLen (rows := l.map Frame.cs) (t := 1) rfl rfl fun hlen => ?_
 rw [List.length_map] at hlen
 unfold maxLen at hlen
 refine OK.seq (OK.reg ?_)
 refine RK.c (S.box (k := 2) rfl .none rfl (.tmp rfl rfl) rfl) ?_
 refine RK.c (S.alloc (k := 4) ze75 rfl .none rfl) ?_
 refine RK.nil (Ab.D.code (OK.seq (OK.reg ?_)))
 refine RK.c (S.alloc (k := 5) ze75 rfl .none rfl) ?_
 refine RK.nil (Ab.D.code (OK.seq (OK.seq (OK.reg ?_))))
 refine RK.c (S.assign .none rfl (.cint rfl)) ?_
 refine RK.nil (Ab.D.code ?_)
 refine OK.block ?_
 refine OK.boxOwn 5 0 890 2 rfl rfl rfl rfl rfl ?_
 refine OK.loop (G := Nat) [2, 4, 5, 890] (fun i => [(1, .sl (l.map Frame.cs)), (2, .ptr 2 0), (1002, .box p.cs), (4, .ptr 4 0), (1004, .box [.nils]), (5, .ptr 5 0), (1005, .box [.own 890 i]), (2890, .arr 2 (((List.range i).map (lastRow l)).map Row.cs)), (6, .int .i64 i)]) (fun i => (i : Int) ≤ p.ticks) (fun i => p.ticks.toNat - i) 0 (by omega) ⟨rfl, rfl, rfl, rfl, rfl, rfl, rfl, (lk_arr (by first | rfl | (simp; done) | (simp; omega))), rfl, trivial⟩ (fun _ => rfl) ?_
 rintro i hi
 refine OK.seq (OK.seq (OK.reg ?_))
 refine RK.c (S.move .none rfl (.tmp rfl rfl)) ?_
 refine RK.c (S.bfield fi24_1 .none rfl (.tmp rfl rfl)) ?_
 refine RK.c (S.bload1 ti3 .none rfl (.tmp rfl rfl) rfl rfl rfl rfl) ?_
 refine RK.c (S.lss .none rfl (.tmp rfl rfl) (.tmp rfl rfl)) ?_
 refine RK.nil (Ab.D.code ?_)
 refine OK.condD rfl rfl (fun c12 => ?_) (fun c12 => ?_)
 ·
  refine OK.skip ?_
  refine Ab.D.code ?_
  refine OK.seq ?_
  refine OK.block ?_
  refine OK.seq (OK.reg ?_)
  refine RK.c (S.build bu162 rfl .none rfl .nil rfl rfl) ?_
  refine RK.c (S.alloc (k := 7) ze162 rfl .none rfl) ?_
  refine RK.c (S.store ti162 .none (.tmp rfl rfl) (.tmp rfl rfl) rfl rfl rfl rfl rfl rfl) ?_
  refine RK.nil (Ab.D.code (OK.seq (OK.seq (OK.reg ?_))))
  refine RK.c (S.assign .none rfl (.cint rfl)) ?_
  refine RK.nil (Ab.D.code ?_)
  refine OK.block ?_
  refine OK.boxNil 7 1 rfl rfl rfl rfl ?_
  refine OK.loop (G := Nat) [2, 4, 5, 890, 7] (fun k => [(1, .sl (l.map Frame.cs)), (2, .ptr 2 0), (1002, .box p.cs), (4, .ptr 4 0), (1004, .box [.nils]), (5, .ptr 5 0), (1005, .box [.own 890 i]), (2890, .arr 2 (((List.range i).map (lastRow l)).map Row.cs)), (6, .int .i64 i), (7, .ptr 7 0), (1007, .box (lastRow (l.take k) i).cs), (8, .int .i64 k)]) (fun k => k ≤ l.length) (fun k => l.length - k) 0 (Nat.zero_le _) ⟨rfl, rfl, rfl, rfl, rfl, rfl, rfl, (lk_arr (by first | rfl | (simp; done) | (simp; omega))), rfl, rfl, rfl, rfl, trivial⟩ (fun _ => rfl) ?_
  rintro k hk
  refine OK.seq (OK.seq (OK.reg ?_))
  refine RK.c (S.move .none rfl (.tmp rfl rfl)) ?_
  refine RK.c (S.move .none rfl (.tmp rfl rfl)) ?_
  refine RK.c (S.lenM si71 .none rfl (.tmp rfl rfl)) ?_
  refine RK.c (S.lss .none rfl (.tmp rfl rfl) (.tmp rfl rfl)) ?_
  refine RK.nil (Ab.D.code ?_)
  refine OK.condD rfl rfl (fun c19 => ?_) (fun c19 => ?_)
  ·
   have hvk := hv l[k] (List.getElem_mem (by omega))
   have hls := lastRow_snoc (t := i) (show k < l.length by omega)
   refine OK.skip ?_
   refine Ab.D.code ?_
   refine OK.seq ?_
   refine OK.block ?_
   refine OK.seq (OK.reg ?_)
   refine RK.c (S.move .none rfl (.tmp rfl rfl)) ?_
   refine RK.c (S.move .none rfl (.tmp rfl rfl)) ?_
   refine RK.c (S.indexM (n := k) si71 .none rfl (.tmp rfl rfl) (.tmp rfl rfl) rfl (by omega) rfl) ?_
   refine RK.c (S.field fi27_0 .none rfl (.tmp rfl rfl) rfl) ?_
   refine RK.c (S.load1 ti3 .none rfl (.tmp rfl rfl) rfl) ?_
   refine RK.c (S.move .none rfl (.tmp rfl rfl)) ?_
   refine RK.c (S.eql .none rfl (.tmp rfl rfl) (.tmp rfl rfl)) ?_
   refine RK.nil (Ab.D.code ?_)
   refine OK.condD rfl rfl (fun c28 => ?_) (fun c28 => ?_)
   ·
    rw [if_pos c28] at hls
    refine OK.reg ?_
    refine RK.c (S.move .none rfl (.tmp rfl rfl)) ?_
    refine RK.c (S.move .none rfl (.tmp rfl rfl)) ?_
    refine RK.c (S.indexM (n := k) si71 .none rfl (.tmp rfl rfl) (.tmp rfl rfl) rfl (by omega) rfl) ?_
    refine RK.c (S.field fi27_1 .none rfl (.tmp rfl rfl) rfl) ?_
    refine RK.c (S.load1 ti25 .none rfl (.tmp rfl rfl) rfl) ?_
    refine RK.c (S.call (base_CopyInts (l := l[k].values) hvk) Tryz.call56 .none rfl (.cons (.tmp rfl rfl) .nil) rfl) ?_
    refine RK.c (S.build bu162 rfl .none rfl (.cons .cbool (.cons (.tmp rfl rfl) .nil)) rfl rfl) ?_
    refine RK.c (S.store ti162 .none (.tmp rfl rfl) (.tmp rfl rfl) rfl rfl rfl rfl rfl rfl) ?_
    refine RK.nil ?_
    refine Ab.D.blk ?_
    refine Ab.D.code (OK.reg ?_)
    refine RK.c (S.move .none rfl (.tmp rfl rfl)) ?_
    refine RK.c (S.add .none rfl (.tmp rfl rfl) (.cint rfl) (IntWalk.i64_in _ (by omega)) (IntWalk.i64_in _ (by omega))) ?_
    refine RK.c (S.assign .none rfl (.tmp rfl rfl)) ?_
    refine RK.nil ?_
    refine Ab.D.lp ⟨k + 1, (by omega), (by omega), rfl, rfl, rfl, rfl, rfl, rfl, rfl, (lk_arr (by first | rfl | (simp; done) | (simp; omega))), rfl, rfl, (show _ = some (X.box (lastRow (l.take (k + 1)) i).cs) by rw [hls]; rfl), rfl, trivial⟩
   ·
    rw [if_neg c28] at hls
    refine OK.skip ?_
    refine Ab.D.blk ?_
    refine Ab.D.code (OK.reg ?_)
    refine RK.c (S.move .none rfl (.tmp rfl rfl)) ?_
    refine RK.c (S.add .none rfl (.tmp rfl rfl) (.cint rfl) (IntWalk.i64_in _ (by omega)) (IntWalk.i64_in _ (by omega))) ?_
    refine RK.c (S.assign .none rfl (.tmp rfl rfl)) ?_
    refine RK.nil ?_
    refine Ab.D.lp ⟨k + 1, (by omega), (by omega), rfl, rfl, rfl, rfl, rfl, rfl, rfl, (lk_arr (by first | rfl | (simp; done) | (simp; omega))), rfl, rfl, (show _ = some (X.box (lastRow (l.take (k + 1)) i).cs) by rw [hls]; rfl), rfl, trivial⟩
  ·
   have hkl : k = l.length := by omega
   subst hkl
   rw [List.take_length] at *
   refine OK.exit rfl ?_
   refine Ab.D.code (OK.reg ?_)
   refine RK.c (S.bfield fi75_0 .none rfl (.tmp rfl rfl)) ?_
   refine RK.c (S.bload1 ti73 .none rfl (.tmp rfl rfl) rfl rfl rfl rfl) ?_
   refine RK.c (S.bloadN ti162 .none rfl (.tmp rfl rfl) rfl rfl rfl rfl) ?_
   refine RK.c (S.mkSlice (k := 39) (rows := [[_, _]]) ai73 .none rfl (.cons (.tmp rfl rfl) .nil) rfl rfl rfl rfl rfl rfl rfl) ?_
   refine RK.c (S.append ai73 .none rfl (.tmp rfl rfl) rfl (by simp) (.tmp rfl rfl) rfl (by first | rfl | (simp; done) | (simp; omega)) (by omega) (by simp only [maxLen]; omega)) ?_
   refine RK.c (S.bfield fi75_0 .none rfl (.tmp rfl rfl)) ?_
   refine RK.c (S.store ti73 .none (.tmp rfl rfl) (.tmp rfl rfl) rfl rfl rfl rfl rfl rfl) ?_
   refine RK.nil ?_
   refine Ab.D.blk ?_
   refine Ab.D.code (OK.reg ?_)
   refine RK.c (S.move .none rfl (.tmp rfl rfl)) ?_
   refine RK.c (S.add .none rfl (.tmp rfl rfl) (.cint rfl) (IntWalk.i64_in _ (by omega)) (IntWalk.i64_in _ (by omega))) ?_
   refine RK.c (S.assign .none rfl (.tmp rfl rfl)) ?_
   refine RK.nil ?_
   refine Ab.D.lp ⟨i + 1, (by omega), (by omega), rfl, rfl, rfl, rfl, rfl, rfl, rfl, (lk_arr (by rw [List.range_succ, List.map_append, List.map_append]; rfl)), rfl, trivial⟩
 ·
  refine OK.exit rfl ?_
  refine Ab.D.code (OK.seq (OK.reg ?_))
  refine RK.c (S.bloadN ti75 .none rfl (.tmp rfl rfl) rfl rfl rfl rfl) ?_
  refine RK.c (S.store ti75 .none (.tmp rfl rfl) (.tmp rfl rfl) rfl rfl rfl rfl rfl rfl) ?_
  refine RK.nil (Ab.D.code ?_)
  refine OK.ret (Ret.r1 (.cellN rfl rfl rfl rfl ti75 rfl (.k (.own rfl rfl (by first | rfl | (simp; done) | (simp; omega))) .z)) ?_)
  rw [show i = p.ticks.toNat by omega]
  rfl
theorem ref_SameRecord {a : Record} : Ct Tryz.prog 36 [.agg a.cs, .agg a.cs] (.bool true) := by
 refine Ct.intro (rs := [.tmp 4]) Tryz.func36 rfl Tryz.ntmps36 Tryz.results36 rfl rfl rfl fun w h => ?_
 refine OK.aggLen 0 0 (a.rows.map Row.cs) rfl rfl rfl fun hlen => ?_
 rw [List.length_map] at hlen
 unfold maxLen at hlen
 refine OK.seq (OK.reg ?_)
 refine RK.c (S.box (k := 2) rfl .none rfl (.tmp rfl rfl) rfl) ?_
 refine RK.c (S.box (k := 3) rfl .none rfl (.tmp rfl rfl) rfl) ?_
 refine RK.c (S.assign .none rfl .cbool) ?_
 refine RK.nil (Ab.D.code (OK.seq (OK.seq (OK.reg ?_))))
 refine RK.c (S.bfield fi75_0 .none rfl (.tmp rfl rfl)) ?_
 refine RK.c (S.bload1 ti73 .none rfl (.tmp rfl rfl) rfl rfl rfl rfl) ?_
 refine RK.c (S.lenM si73 .none rfl (.tmp rfl rfl)) ?_
 refine RK.c (S.bfield fi75_0 .none rfl (.tmp rfl rfl)) ?_
 refine RK.c (S.bload1 ti73 .none rfl (.tmp rfl rfl) rfl rfl rfl rfl) ?_
 refine RK.c (S.lenM si73 .none rfl (.tmp rfl rfl)) ?_
 refine RK.c (S.neq .none rfl (.tmp rfl rfl) (.tmp rfl rfl)) ?_
 refine RK.nil (Ab.D.code ?_)
 refine OK.condD rfl rfl (fun c12 => ?_) (fun c12 => ?_)
 ·
  exact absurd rfl c12
 ·
  refine OK.skip ?_
  refine Ab.D.code (OK.seq (OK.seq (OK.reg ?_)))
  refine RK.c (S.assign .none rfl (.cint rfl)) ?_
  refine RK.nil (Ab.D.code ?_)
  refine OK.block ?_
  refine OK.loop (G := Nat) [2, 3] (fun i => [(2, .ptr 2 0), (1002, .box a.cs), (3, .ptr 3 0), (1003, .box a.cs), (5, .int .i64 i)]) (fun i => i ≤ a.rows.length) (fun i => a.rows.length - i) 0 (Nat.zero_le _) ⟨rfl, rfl, rfl, rfl, rfl, trivial⟩ (fun _ => rfl) ?_
  rintro i hi
  refine OK.seq (OK.seq (OK.reg ?_))
  refine RK.c (S.move .none rfl (.tmp rfl rfl)) ?_
  refine RK.c (S.bfield fi75_0 .none rfl (.tmp rfl rfl)) ?_
  refine RK.c (S.bload1 ti73 .none rfl (.tmp rfl rfl) rfl rfl rfl rfl) ?_
  refine RK.c (S.lenM si73 .none rfl (.tmp rfl rfl)) ?_
  refine RK.c (S.lss .none rfl (.tmp rfl rfl) (.tmp rfl rfl)) ?_
  refine RK.nil (Ab.D.code ?_)
  refine OK.condD rfl rfl (fun c17 => ?_) (fun c17 => ?_)
  ·
   refine OK.skip ?_
   refine Ab.D.code ?_
   refine OK.seq ?_
   refine OK.block ?_
   refine OK.seq ?_
   refine OK.regionDraw follows (.c (S.bfield fi75_0 .none rfl (.tmp rfl rfl))
    (.c (S.bload1 ti73 .none rfl (.tmp rfl rfl) rfl rfl rfl rfl)
    (.c (S.move .none rfl (.tmp rfl rfl))
    (.c (S.indexM (n := i) si73 .none rfl (.tmp rfl rfl) (.tmp rfl rfl) rfl (by omega) rfl)
    (.c (S.field fi162_0 .none rfl (.tmp rfl rfl) rfl)
    (.c (S.load1 ti4 .none rfl (.tmp rfl rfl) rfl)
    (.c (S.bfield fi75_0 .none rfl (.tmp rfl rfl))
    (.c (S.bload1 ti73 .none rfl (.tmp rfl rfl) rfl rfl rfl rfl)
    (.c (S.move .none rfl (.tmp rfl rfl))
    (.c (S.indexM (n := i) si73 .none rfl (.tmp rfl rfl) (.tmp rfl rfl) rfl (by omega) rfl)
    (.c (S.field fi162_0 .none rfl (.tmp rfl rfl) rfl)
    (.c (S.load1 ti4 .none rfl (.tmp rfl rfl) rfl)
    (.c (S.bneq Tryz.underlying4 .none rfl (.tmp rfl rfl) (.tmp rfl rfl))
    (.c (S.move .none rfl (.tmp rfl rfl))
    (.c (S.bfield fi75_0 (.yes rfl rfl rfl (decide_eq_false (fun h => h rfl))) rfl (.tmp rfl rfl))
    (.c (S.bload1 ti73 (.yes rfl rfl rfl (decide_eq_false (fun h => h rfl))) rfl (.tmp rfl rfl) rfl rfl rfl rfl)
    (.c (S.move (.yes rfl rfl rfl (decide_eq_false (fun h => h rfl))) rfl (.tmp rfl rfl))
    (.c (S.indexM (n := i) si73 (.yes rfl rfl rfl (decide_eq_false (fun h => h rfl))) rfl (.tmp rfl rfl) (.tmp rfl rfl) rfl (by omega) rfl)
    (.c (S.field fi162_1 (.yes rfl rfl rfl (decide_eq_false (fun h => h rfl))) rfl (.tmp rfl rfl) rfl)
    (.c (S.load1 ti25 (.yes rfl rfl rfl (decide_eq_false (fun h => h rfl))) rfl (.tmp rfl rfl) rfl)
    (.c (S.bfield fi75_0 (.yes rfl rfl rfl (decide_eq_false (fun h => h rfl))) rfl (.tmp rfl rfl))
    (.c (S.bload1 ti73 (.yes rfl rfl rfl (decide_eq_false (fun h => h rfl))) rfl (.tmp rfl rfl) rfl rfl rfl rfl)
    (.c (S.move (.yes rfl rfl rfl (decide_eq_false (fun h => h rfl))) rfl (.tmp rfl rfl))
    (.c (S.indexM (n := i) si73 (.yes rfl rfl rfl (decide_eq_false (fun h => h rfl))) rfl (.tmp rfl rfl) (.tmp rfl rfl) rfl (by omega) rfl)
    (.c (S.field fi162_1 (.yes rfl rfl rfl (decide_eq_false (fun h => h rfl))) rfl (.tmp rfl rfl) rfl)
    (.c (S.load1 ti25 (.yes rfl rfl rfl (decide_eq_false (fun h => h rfl))) rfl (.tmp rfl rfl) rfl)
    (.c (S.call (base_Ints) Tryz.call52 (.yes rfl rfl rfl (decide_eq_false (fun h => h rfl))) rfl (.cons (.tmp rfl rfl) (.cons (.tmp rfl rfl) .nil)) rfl)
    (.c (S.notD (.yes rfl rfl rfl (decide_eq_false (fun h => h rfl))) rfl (.tmp rfl rfl))
    (.c (S.pickF .none rfl (.tmp rfl rfl) (.tmp rfl rfl) (decide_eq_false (fun h => h rfl)))
    .nil))))))))))))))))))))))))))))) (by kernel_rfl) ?_
   refine Ab.D.code ?_
   refine OK.condD rfl rfl (fun c48 => ?_) (fun c48 => ?_)
   ·
    exact absurd rfl c48
   ·
    refine OK.skip ?_
    refine Ab.D.blk ?_
    refine Ab.D.code (OK.reg ?_)
    refine RK.c (S.move .none rfl (.tmp rfl rfl)) ?_
    refine RK.c (S.add .none rfl (.tmp rfl rfl) (.cint rfl) (IntWalk.i64_in _ (by omega)) (IntWalk.i64_in _ (by omega))) ?_
    refine RK.c (S.assign .none rfl (.tmp rfl rfl)) ?_
    refine RK.nil ?_
    refine Ab.D.lp ⟨i + 1, (by omega), (by omega), rfl, rfl, rfl, rfl, rfl, trivial⟩
  ·
   refine OK.exit rfl ?_
   refine Ab.D.code (OK.seq (OK.reg ?_))
   refine RK.c (S.assign .none rfl .cbool) ?_
   refine RK.nil (Ab.D.code ?_)
   refine OK.ret (Ret.r1 (.tmp rfl rfl (.c (.same rfl) rfl) rfl) ?_)
   rfl
theorem ref_CopyFrame {f : Frame} (hv : f.values.length ≤ 100000) : Ct Tryz.prog 12 [.agg f.cs] (.agg f.cs) := by
 refine Ct.intro (rs := [.cell 2 27]) Tryz.func12 rfl Tryz.ntmps12 Tryz.results12 rfl rfl rfl fun w h => ?_
 refine OK.seq (OK.reg ?_)
 refine RK.c (S.box (k := 1) rfl .none rfl (.tmp rfl rfl) rfl) ?_
 refine RK.c (S.alloc (k := 2) ze27 rfl .none rfl) ?_
 refine RK.nil (Ab.D.code ?_)
 refine OK.seq ?_
 refine OK.regionDraw follows (.c (S.bfield fi27_0 .none rfl (.tmp rfl rfl))
  (.c (S.bload1 ti3 .none rfl (.tmp rfl rfl) rfl rfl rfl rfl)
  (.c (S.bfield fi27_1 .none rfl (.tmp rfl rfl))
  (.c (S.bload1 ti25 .none rfl (.tmp rfl rfl) rfl rfl rfl rfl)
  (.c (S.call (base_CopyInts (l := f.values) hv) Tryz.call56 .none rfl (.cons (.tmp rfl rfl) .nil) rfl)
  (.c (S.build bu27 rfl .none rfl (.cons (.tmp rfl rfl) (.cons (.tmp rfl rfl) .nil)) rfl rfl)
  (.c (S.store ti27 .none (.tmp rfl rfl) (.tmp rfl rfl) rfl rfl rfl rfl rfl rfl)
  .nil))))))) (by kernel_rfl) ?_
 refine Ab.D.code ?_
 refine OK.ret (Ret.r1 (.cellN rfl rfl rfl rfl ti27 rfl (.k (.same rfl) (.k (.same rfl) .z))) ?_)
 rfl
end Go.Proofs.YtpmglnphhhlbdaaGreatDoor
