import Derived.Test.YtpmglnphhhlbdaaGreatDoorGs
import Derived.Test.YtpmglnphhhlbdaaGreatDoorMo
import Derived.Test.YtpmglnphhhlbdaaGreatDoorTy
namespace Go.Proofs.YtpmglnphhhlbdaaGreatDoor
open Go.Ab
theorem same_plan {a b : Plan} (h : a.ticks = b.ticks) : decide (a.channels = b.channels) = decide (a = b) := by
  cases a
  cases b
  simp only [Plan.mk.injEq] at *
  simp [h]
theorem diff_plan {a b : Plan} (h : ¬ a.ticks = b.ticks) : false = decide (a = b) := (decide_eq_false fun e => h (by rw [e])).symm
theorem drop1_get {α : Type} {l : List α} {k : Nat} (h : k < (l.drop 1).length) (h2 : k + 1 < l.length) : (l.drop 1)[k] = l[k + 1] := by
  rw [List.getElem_drop]
  congr 1
  omega
theorem chunk2_at {ns : List Int} {j : Nat} {row : List Range} (h : j + 1 < ns.length) (hg : (chunk2 ns).map pairR = row ++ (chunk2 (ns.drop j)).map pairR) : (chunk2 ns).map pairR = (row ++ [⟨ns[j], ns[j + 1]⟩]) ++ (chunk2 (ns.drop (j + 2))).map pairR := by
  rw [hg, chunk2_cons h, List.map_cons]
  have h0 : j < ns.length := by omega
  have e1 := List.drop_eq_getElem_cons h0
  have e2 := List.drop_eq_getElem_cons h
  have e3 : (ns.take (j + 2)).drop j = [ns[j], ns[j + 1]] := by
    rw [List.drop_take, e1, e2, show j + 2 - j = 2 by omega]
    rfl
  rw [e3, List.append_assoc]
  rfl
theorem chunk2_fin {ns : List Int} {j : Nat} {row : List Range} (h : j = ns.length) (hg : (chunk2 ns).map pairR = row ++ (chunk2 (ns.drop j)).map pairR) : (chunk2 ns).map pairR = row := by
  rw [hg, chunk2_end h]
  simp
theorem base_Texts {a b : List (List UInt8)} : Ct Tryz.prog 71 [.sl (a.map fun s => [.str s]), .sl (b.map fun s => [.str s])] (.bool (decide (a = b))) := by
 refine Ct.intro (rs := [.tmp 4]) Tryz.func71 rfl Tryz.ntmps71 Tryz.results71 rfl rfl rfl fun w h => ?_
 refine OK.slLen (rows := a.map (fun s => [.str s])) (t := 0) rfl rfl fun hlen => ?_
 rw [List.length_map] at hlen
 unfold maxLen at hlen
 refine OK.seq (OK.reg ?_)
 refine RK.c (S.assign .none rfl .cbool) ?_
 refine RK.nil (Ab.D.code (OK.seq (OK.seq (OK.reg ?_))))
 refine RK.c (S.move .none rfl (.tmp rfl rfl)) ?_
 refine RK.c (S.lenM si22 .none rfl (.tmp rfl rfl)) ?_
 refine RK.c (S.move .none rfl (.tmp rfl rfl)) ?_
 refine RK.c (S.lenM si22 .none rfl (.tmp rfl rfl)) ?_
 refine RK.c (S.neq .none rfl (.tmp rfl rfl) (.tmp rfl rfl)) ?_
 refine RK.nil (Ab.D.code ?_)
 refine OK.condD rfl rfl (fun c10 => ?_) (fun c10 => ?_)
 ·
  refine OK.seq (OK.reg ?_)
  refine RK.c (S.assign .none rfl .cbool) ?_
  refine RK.nil (Ab.D.code ?_)
  refine OK.ret (Ret.r1 (.tmp rfl rfl (.c (.same rfl) rfl) rfl) ?_)
  exact ret_F (fun e => c10 (by rw [e]))
 ·
  have hl : a.length = b.length := by omega
  refine OK.skip ?_
  refine Ab.D.code (OK.seq (OK.seq (OK.reg ?_)))
  refine RK.c (S.assign .none rfl (.cint rfl)) ?_
  refine RK.nil (Ab.D.code ?_)
  refine OK.block ?_
  refine OK.loop (G := Nat) [] (fun i => [(0, .sl (a.map fun s => [.str s])), (1, .sl (b.map fun s => [.str s])), (5, .int .i64 i)]) (fun i => i ≤ a.length ∧ a.take i = b.take i) (fun i => a.length - i) 0 ⟨Nat.zero_le _, rfl⟩ ⟨rfl, rfl, rfl, trivial⟩ (fun _ => rfl) ?_
  rintro i ⟨hi, ht⟩
  refine OK.seq (OK.seq (OK.reg ?_))
  refine RK.c (S.move .none rfl (.tmp rfl rfl)) ?_
  refine RK.c (S.move .none rfl (.tmp rfl rfl)) ?_
  refine RK.c (S.lenM si22 .none rfl (.tmp rfl rfl)) ?_
  refine RK.c (S.lss .none rfl (.tmp rfl rfl) (.tmp rfl rfl)) ?_
  refine RK.nil (Ab.D.code ?_)
  refine OK.condD rfl rfl (fun c14 => ?_) (fun c14 => ?_)
  ·
   refine OK.skip ?_
   refine Ab.D.code ?_
   refine OK.seq ?_
   refine OK.block ?_
   refine OK.seq ?_
   refine OK.regionDraw follows (.c (S.move .none rfl (.tmp rfl rfl))
    (.c (S.move .none rfl (.tmp rfl rfl))
    (.c (S.indexM si22 .none rfl (.tmp rfl rfl) (.tmp rfl rfl) rfl (by omega) rfl)
    (.c (S.load1 ti9 .none rfl (.tmp rfl rfl) rfl)
    (.c (S.move .none rfl (.tmp rfl rfl))
    (.c (S.move .none rfl (.tmp rfl rfl))
    (.c (S.indexM si22 .none rfl (.tmp rfl rfl) (.tmp rfl rfl) rfl (by omega) rfl)
    (.c (S.load1 ti9 .none rfl (.tmp rfl rfl) rfl)
    (.c (S.sneq .none rfl (.tmp rfl rfl) (.tmp rfl rfl))
    .nil))))))))) (by kernel_rfl) ?_
   refine Ab.D.code ?_
   refine OK.condD rfl rfl (fun c25 => ?_) (fun c25 => ?_)
   ·
    refine OK.seq (OK.reg ?_)
    refine RK.c (S.assign .none rfl .cbool) ?_
    refine RK.nil (Ab.D.code ?_)
    refine OK.ret (Ret.r1 (.tmp rfl rfl (.c (.same rfl) rfl) rfl) ?_)
    exact ret_F (fun e => by subst e; exact c25 rfl)
   ·
    refine OK.skip ?_
    refine Ab.D.blk ?_
    refine Ab.D.code (OK.reg ?_)
    refine RK.c (S.move .none rfl (.tmp rfl rfl)) ?_
    refine RK.c (S.add .none rfl (.tmp rfl rfl) (.cint rfl) (IntWalk.i64_in _ (by omega)) (IntWalk.i64_in _ (by omega))) ?_
    refine RK.c (S.assign .none rfl (.tmp rfl rfl)) ?_
    refine RK.nil ?_
    refine Ab.D.lp ⟨i + 1, ⟨by omega, take_eq_step (by omega) (by omega) ht (Decidable.not_not.1 c25)⟩, (by omega), rfl, rfl, rfl, trivial⟩
  ·
   refine OK.exit rfl ?_
   refine Ab.D.code (OK.seq (OK.reg ?_))
   refine RK.c (S.assign .none rfl .cbool) ?_
   refine RK.nil (Ab.D.code ?_)
   refine OK.ret (Ret.r1 (.tmp rfl rfl (.c (.same rfl) rfl) rfl) ?_)
   exact ret_T (take_eq_all hl (by omega) ht)
theorem ref_SamePlan {a b : Plan} : Ct Tryz.prog 24 [.agg a.cs, .agg b.cs] (.bool (decide (a = b))) := by
 refine Ct.intro (rs := [.tmp 4]) Tryz.func24 rfl Tryz.ntmps24 Tryz.results24 rfl rfl rfl fun w h => ?_
 refine OK.seq (OK.reg ?_)
 refine RK.c (S.box (k := 2) rfl .none rfl (.tmp rfl rfl) rfl) ?_
 refine RK.c (S.box (k := 3) rfl .none rfl (.tmp rfl rfl) rfl) ?_
 refine RK.c (S.assign .none rfl .cbool) ?_
 refine RK.nil (Ab.D.code (OK.seq (OK.reg ?_)))
 refine RK.c (S.bfield fi24_1 .none rfl (.tmp rfl rfl)) ?_
 refine RK.c (S.bload1 ti3 .none rfl (.tmp rfl rfl) rfl rfl rfl rfl) ?_
 refine RK.c (S.bfield fi24_1 .none rfl (.tmp rfl rfl)) ?_
 refine RK.c (S.bload1 ti3 .none rfl (.tmp rfl rfl) rfl rfl rfl rfl) ?_
 refine RK.c (S.eql .none rfl (.tmp rfl rfl) (.tmp rfl rfl)) ?_
 refine RK.c (S.move .none rfl (.tmp rfl rfl)) ?_
 refine RK.splitD (t := 10) rfl (fun g10 => ?_) (fun g10 => ?_)
 ·
  refine RK.c (S.bfield fi24_0 (.yes rfl rfl rfl rfl) rfl (.tmp rfl rfl)) ?_
  refine RK.c (S.bload1 ti22 (.yes rfl rfl rfl rfl) rfl (.tmp rfl rfl) rfl rfl rfl rfl) ?_
  refine RK.c (S.bfield fi24_0 (.yes rfl rfl rfl rfl) rfl (.tmp rfl rfl)) ?_
  refine RK.c (S.bload1 ti22 (.yes rfl rfl rfl rfl) rfl (.tmp rfl rfl) rfl rfl rfl rfl) ?_
  refine RK.c (S.call (base_Texts) Tryz.call71 (.yes rfl rfl rfl rfl) rfl (.cons (.tmp rfl rfl) (.cons (.tmp rfl rfl) .nil)) rfl) ?_
  refine RK.c (S.pickT .none rfl (.tmp rfl rfl) (.tmp rfl rfl) rfl) ?_
  refine RK.c (S.assign .none rfl (.tmp rfl rfl)) ?_
  refine RK.nil (Ab.D.code ?_)
  refine OK.ret (Ret.r1 (.tmp rfl rfl (.c (.same rfl) rfl) rfl) ?_)
  exact ret_b (same_plan g10)
 ·
  refine RK.c (S.skip rfl rfl rfl rfl rfl) ?_
  refine RK.c (S.skip rfl rfl rfl rfl rfl) ?_
  refine RK.c (S.skip rfl rfl rfl rfl rfl) ?_
  refine RK.c (S.skip rfl rfl rfl rfl rfl) ?_
  refine RK.c (S.skip rfl rfl rfl rfl rfl) ?_
  refine RK.c (S.pickF .none rfl (.tmp rfl rfl) .cbool rfl) ?_
  refine RK.c (S.assign .none rfl (.tmp rfl rfl)) ?_
  refine RK.nil (Ab.D.code ?_)
  refine OK.ret (Ret.r1 (.tmp rfl rfl (.c (.same rfl) rfl) rfl) ?_)
  exact ret_b (diff_plan g10)
set_option maxHeartbeats 2000000 in
theorem ref_ParseEnvelope {l : List UInt8} (hl : l.length ≤ 100000 - 1) : Ct Tryz.prog 23 [.str l] (.tup [.agg (parseE l).1.cs, .int .i64 (parseE l).2]) := by
 refine Ct.intro (rs := [.cell 2 30, .tmp 3]) Tryz.func23 rfl Tryz.ntmps23 Tryz.results23 rfl rfl rfl fun w h => ?_
 have hw0 := split_0 59 l
 have hcn := split_cnt (c := 59) (l := l)
 have hwl : ∀ w ∈ splitC 59 l, w.length ≤ 100000 - 1 := fun w hw => by have := split_sub w hw; omega
 have hwl0 := hwl _ (List.getElem_mem hw0)
 have hc0 := split_cnt (c := 32) (l := (splitC 59 l)[0])
 have hdl : ((splitC 59 l).drop 1).length = (splitC 59 l).length - 1 := List.length_drop ..
 refine OK.seq (OK.reg ?_)
 refine RK.c (S.alloc (k := 2) ze30 rfl .none rfl) ?_
 refine RK.c (S.assign .none rfl (.cint rfl)) ?_
 refine RK.nil (Ab.D.code (OK.seq (OK.reg ?_)))
 refine RK.c (S.build bu30 rfl .none rfl .nil rfl rfl) ?_
 refine RK.c (S.alloc (k := 4) ze30 rfl .none rfl) ?_
 refine RK.c (S.store ti30 .none (.tmp rfl rfl) (.tmp rfl rfl) rfl rfl rfl rfl rfl rfl) ?_
 refine RK.nil (Ab.D.code (OK.seq (OK.seq (OK.reg ?_))))
 refine RK.c (S.move .none rfl (.tmp rfl rfl)) ?_
 refine RK.c (S.slen Tryz.underlying9 .none rfl (.tmp rfl rfl)) ?_
 refine RK.c (S.gtr .none rfl (.tmp rfl rfl) (.cint rfl)) ?_
 refine RK.nil (Ab.D.code ?_)
 refine OK.condD rfl rfl (fun c17 => ?_) (fun c17 => ?_)
 ·
  have hpf := parseE_L (l := l) (by omega)
  refine OK.seq (OK.reg ?_)
  refine RK.c (S.bloadN ti30 .none rfl (.tmp rfl rfl) rfl rfl rfl rfl) ?_
  refine RK.c (S.store ti30 .none (.tmp rfl rfl) (.tmp rfl rfl) rfl rfl rfl rfl rfl rfl) ?_
  refine RK.c (S.assign .none rfl (.cint rfl)) ?_
  refine RK.nil (Ab.D.code ?_)
  refine OK.ret (Ret.r2 (.cellN rfl rfl rfl rfl ti30 rfl (.k (.same rfl) (.k (.same rfl) (.k .nils .z)))) (.tmp rfl rfl (.c (.same rfl) rfl) rfl) ?_)
  rw [hpf]
  all_goals rfl
 ·
  have hbig : ¬ 60000 < l.length := by omega
  refine OK.skip ?_
  refine Ab.D.code (OK.seq (OK.reg ?_))
  refine RK.c (S.move .none rfl (.tmp rfl rfl)) ?_
  refine RK.c (S.call (base_Cut (l := l) (c := 59) (by omega)) Tryz.call68 .none rfl (.cons (.tmp rfl rfl) (.cons (.cint rfl) .nil)) rfl) ?_
  refine RK.c (S.assign .none rfl (.tmp rfl rfl)) ?_
  refine RK.nil (Ab.D.code (OK.seq (OK.reg ?_)))
  refine RK.c (S.move .none rfl (.tmp rfl rfl)) ?_
  refine RK.c (S.indexM (n := 0) si22 .none rfl (.tmp rfl rfl) (.cint rfl) rfl hw0 rfl) ?_
  refine RK.c (S.load1 ti9 .none rfl (.tmp rfl rfl) rfl) ?_
  refine RK.c (S.call (base_Cut (l := (splitC 59 l)[0]) (c := 32) (by omega)) Tryz.call68 .none rfl (.cons (.tmp rfl rfl) (.cons (.cint rfl) .nil)) rfl) ?_
  refine RK.c (S.call (ref_numbers (l := splitC 32 (splitC 59 l)[0]) (k := 2) (by omega) (by decide) (fun w hw => by have := split_sub w hw; omega)) Tryz.call69 .none rfl (.cons (.tmp rfl rfl) (.cons (.cint rfl) .nil)) rfl) ?_
  refine RK.c (S.move .none rfl (.tmp rfl rfl)) ?_
  refine RK.c (S.extract .none rfl (.tmp rfl rfl) rfl rfl) ?_
  refine RK.c (S.extract .none rfl (.tmp rfl rfl) rfl rfl) ?_
  refine RK.c (S.assign .none rfl (.tmp rfl rfl)) ?_
  refine RK.c (S.assign .none rfl (.tmp rfl rfl)) ?_
  refine RK.nil (Ab.D.code (OK.seq (OK.seq (OK.reg ?_))))
  refine RK.c (S.move .none rfl (.tmp rfl rfl)) ?_
  refine RK.c (S.not .none rfl (.tmp rfl rfl)) ?_
  refine RK.c (S.move .none rfl (.tmp rfl rfl)) ?_
  refine RK.split (t := 31) rfl (fun g31 => ?_) (fun g31 => ?_)
  ·
   have hgn : gathI 2 0 (splitC 32 (splitC 59 l)[0]) = none := by simpa using g31
   have hpf := parseE_H hbig (headE_I0 hgn)
   refine RK.c (S.skip rfl rfl rfl rfl rfl) ?_
   refine RK.c (S.skip rfl rfl rfl rfl rfl) ?_
   refine RK.c (S.skip rfl rfl rfl rfl rfl) ?_
   refine RK.c (S.pickT .none rfl (.tmp rfl rfl) .cbool rfl) ?_
   refine RK.nil (Ab.D.code ?_)
   refine OK.condT rfl rfl rfl ?_
   refine OK.seq (OK.reg ?_)
   refine RK.c (S.bloadN ti30 .none rfl (.tmp rfl rfl) rfl rfl rfl rfl) ?_
   refine RK.c (S.store ti30 .none (.tmp rfl rfl) (.tmp rfl rfl) rfl rfl rfl rfl rfl rfl) ?_
   refine RK.c (S.assign .none rfl (.cint rfl)) ?_
   refine RK.nil (Ab.D.code ?_)
   refine OK.ret (Ret.r2 (.cellN rfl rfl rfl rfl ti30 rfl (.k (.same rfl) (.k (.same rfl) (.k .nils .z)))) (.tmp rfl rfl (.c (.same rfl) rfl) rfl) ?_)
   rw [hpf]
   all_goals rfl
  ·
   obtain ⟨r, hgs⟩ : ∃ r, gathI 2 0 (splitC 32 (splitC 59 l)[0]) = some r := Option.isSome_iff_exists.1 (by simpa using g31)
   rw [hgs]
   refine RK.c (S.move (.yes rfl rfl rfl rfl) rfl (.tmp rfl rfl)) ?_
   refine RK.c (S.lenM si25 (.yes rfl rfl rfl rfl) rfl (.tmp rfl rfl)) ?_
   refine RK.c (S.neq (.yes rfl rfl rfl rfl) rfl (.tmp rfl rfl) (.cint rfl)) ?_
   refine RK.c (S.pickF .none rfl (.tmp rfl rfl) (.tmp rfl rfl) rfl) ?_
   refine RK.nil (Ab.D.code ?_)
   refine OK.condD rfl rfl (fun c35 => ?_) (fun c35 => ?_)
   ·
    have hr2 : r.length ≠ 2 := by simp at c35; omega
    have hpf := parseE_H hbig (headE_I1 hgs hr2)
    refine OK.seq (OK.reg ?_)
    refine RK.c (S.bloadN ti30 .none rfl (.tmp rfl rfl) rfl rfl rfl rfl) ?_
    refine RK.c (S.store ti30 .none (.tmp rfl rfl) (.tmp rfl rfl) rfl rfl rfl rfl rfl rfl) ?_
    refine RK.c (S.assign .none rfl (.cint rfl)) ?_
    refine RK.nil (Ab.D.code ?_)
    refine OK.ret (Ret.r2 (.cellN rfl rfl rfl rfl ti30 rfl (.k (.same rfl) (.k (.same rfl) (.k .nils .z)))) (.tmp rfl rfl (.c (.same rfl) rfl) rfl) ?_)
    rw [hpf]
    all_goals rfl
   ·
    have hr2 : r.length = 2 := by simp at c35; omega
    obtain ⟨va, vb, rfl, hhd⟩ := headE_I2 hgs hr2
    refine OK.skip ?_
    refine Ab.D.code ?_
    refine OK.seq ?_
    refine OK.regionDraw follows (.c (S.move .none rfl (.tmp rfl rfl))
     (.c (S.indexM (n := 0) si25 .none rfl (.tmp rfl rfl) (.cint rfl) rfl (by simp) rfl)
     (.c (S.load1 ti3 .none rfl (.tmp rfl rfl) rfl)
     (.c (S.move .none rfl (.tmp rfl rfl))
     (.c (S.indexM (n := 1) si25 .none rfl (.tmp rfl rfl) (.cint rfl) rfl (by simp) rfl)
     (.c (S.load1 ti3 .none rfl (.tmp rfl rfl) rfl)
     (.c (S.build bu30 rfl .none rfl (.cons (.tmp rfl rfl) (.cons (.tmp rfl rfl) .nil)) rfl rfl)
     (.c (S.alloc (k := 8) ze30 rfl .none rfl)
     (.c (S.store ti30 .none (.tmp rfl rfl) (.tmp rfl rfl) rfl rfl rfl rfl rfl rfl)
     .nil))))))))) (by kernel_rfl) ?_
    refine Ab.D.code (OK.seq (OK.seq (OK.reg ?_)))
    refine RK.c (S.assign .none rfl (.cint rfl)) ?_
    refine RK.nil (Ab.D.code ?_)
    refine OK.block ?_
    refine OK.boxOwn 8 2 880 1 rfl rfl rfl rfl rfl ?_
    refine OK.loop2 [2, 4, 8, 880] (fun (k : Nat) (out : List (List Range)) => [(2, .ptr 2 0), (1002, .box [.int .i64 0, .int .i64 0, .nils]), (4, .ptr 4 0), (1004, .box [.int .i64 0, .int .i64 0, .nils]), (8, .ptr 8 0), (1008, .box [.int .i64 va, .int .i64 vb, .own 880 out.length]), (2880, .arr 1 (out.map fun l => [X.sl (l.map Range.cs)])), (5, .sl ((splitC 59 l).map fun s => [.str s])), (9, .int .i64 ((k + 1 : Nat) : Int))]) (fun k out => k ≤ ((splitC 59 l).drop 1).length ∧ gath rowE1 ((splitC 59 l).drop 1) = (gath rowE1 (((splitC 59 l).drop 1).drop k)).map (out ++ ·) ∧ out.length ≤ k) (fun k out => ((splitC 59 l).drop 1).length - k) (0) ([]) ⟨Nat.zero_le _, by rw [List.drop_zero]; cases gath rowE1 ((splitC 59 l).drop 1) <;> simp, Nat.le_refl _⟩ ⟨rfl, rfl, rfl, rfl, rfl, rfl, (lk_arr (by first | rfl | (simp; done) | (simp; omega))), rfl, rfl, trivial⟩ (fun _ _ => rfl) ?_
    rintro k out ⟨hk, hg, hol⟩
    refine OK.seq (OK.seq (OK.reg ?_))
    refine RK.c (S.move .none rfl (.tmp rfl rfl)) ?_
    refine RK.c (S.move .none rfl (.tmp rfl rfl)) ?_
    refine RK.c (S.lenM si22 .none rfl (.tmp rfl rfl)) ?_
    refine RK.c (S.lss .none rfl (.tmp rfl rfl) (.tmp rfl rfl)) ?_
    refine RK.nil (Ab.D.code ?_)
    refine OK.condD rfl rfl (fun c47 => ?_) (fun c47 => ?_)
    ·
     have hkl : k < ((splitC 59 l).drop 1).length := by omega
     have hk1 : k + 1 < (splitC 59 l).length := by omega
     have hel := drop1_get hkl hk1
     have hwk := hwl _ (List.getElem_mem hk1)
     have hck := split_cnt (c := 32) (l := (splitC 59 l)[k + 1])
     refine OK.skip ?_
     refine Ab.D.code ?_
     refine OK.seq ?_
     refine OK.block ?_
     refine OK.seq (OK.reg ?_)
     refine RK.c (S.move .none rfl (.tmp rfl rfl)) ?_
     refine RK.c (S.move .none rfl (.tmp rfl rfl)) ?_
     refine RK.c (S.indexM (n := k + 1) si22 .none rfl (.tmp rfl rfl) (.tmp rfl rfl) rfl (by omega) rfl) ?_
     refine RK.c (S.load1 ti9 .none rfl (.tmp rfl rfl) rfl) ?_
     refine RK.c (S.call (base_Cut (l := (splitC 59 l)[k + 1]) (c := 32) (by omega)) Tryz.call68 .none rfl (.cons (.tmp rfl rfl) (.cons (.cint rfl) .nil)) rfl) ?_
     refine RK.c (S.call (ref_numbers (l := (splitC 32 (splitC 59 l)[k + 1])) (k := 0) (by omega) (by decide) (fun w hw => by have := split_sub w hw; omega)) Tryz.call69 .none rfl (.cons (.tmp rfl rfl) (.cons (.cint rfl) .nil)) rfl) ?_
     refine RK.c (S.move .none rfl (.tmp rfl rfl)) ?_
     refine RK.c (S.extract .none rfl (.tmp rfl rfl) rfl rfl) ?_
     refine RK.c (S.extract .none rfl (.tmp rfl rfl) rfl rfl) ?_
     refine RK.c (S.assign .none rfl (.tmp rfl rfl)) ?_
     refine RK.c (S.assign .none rfl (.tmp rfl rfl)) ?_
     refine RK.nil (Ab.D.code (OK.seq (OK.seq (OK.reg ?_))))
     refine RK.c (S.move .none rfl (.tmp rfl rfl)) ?_
     refine RK.c (S.not .none rfl (.tmp rfl rfl)) ?_
     refine RK.c (S.move .none rfl (.tmp rfl rfl)) ?_
     refine RK.split (t := 61) rfl (fun g61 => ?_) (fun g61 => ?_)
     ·
      have hgn : gathI 0 0 (splitC 32 (splitC 59 l)[k + 1]) = none := by simpa using g61
      rw [gathI_far _ 0 (Nat.le_refl _)] at hgn
      have hpf := parseE_N hbig (gath_no hg hkl (by rw [hel]; exact rowE1_N hgn))
      refine RK.c (S.skip rfl rfl rfl rfl rfl) ?_
      refine RK.c (S.skip rfl rfl rfl rfl rfl) ?_
      refine RK.c (S.skip rfl rfl rfl rfl rfl) ?_
      refine RK.c (S.skip rfl rfl rfl rfl rfl) ?_
      refine RK.c (S.pickT .none rfl (.tmp rfl rfl) .cbool rfl) ?_
      refine RK.nil (Ab.D.code ?_)
      refine OK.condT rfl rfl rfl ?_
      refine OK.seq (OK.reg ?_)
      refine RK.c (S.bloadN ti30 .none rfl (.tmp rfl rfl) rfl rfl rfl rfl) ?_
      refine RK.c (S.store ti30 .none (.tmp rfl rfl) (.tmp rfl rfl) rfl rfl rfl rfl rfl rfl) ?_
      refine RK.c (S.assign .none rfl (.cint rfl)) ?_
      refine RK.nil (Ab.D.code ?_)
      refine OK.ret (Ret.r2 (.cellN rfl rfl rfl rfl ti30 rfl (.k (.same rfl) (.k (.same rfl) (.k .nils .z)))) (.tmp rfl rfl (.c (.same rfl) rfl) rfl) ?_)
      rw [hpf]
      all_goals rfl
     ·
      have hsm : (gathI 0 0 (splitC 32 (splitC 59 l)[k + 1])).isSome = true := by simpa using g61
      obtain ⟨ns, hgs⟩ := Option.isSome_iff_exists.1 hsm
      rw [hgs]
      rw [gathI_far _ 0 (Nat.le_refl _)] at hgs
      have hnl := gath_len hgs
      have hns : ns.length ≤ 100000 := by omega
      refine RK.c (S.move (.yes rfl rfl rfl rfl) rfl (.tmp rfl rfl)) ?_
      refine RK.c (S.lenM si25 (.yes rfl rfl rfl rfl) rfl (.tmp rfl rfl)) ?_
      refine RK.c (S.rem (q := ((ns.length % 2 : Nat) : Int)) (.yes rfl rfl rfl rfl) rfl (.tmp rfl rfl) (.cint rfl) (by decide) (by first | exact tmod2 _ | (simp only [List.length_map]; exact tmod2 _)) (IntWalk.i64_in _ (by omega))) ?_
      refine RK.c (S.neq (.yes rfl rfl rfl rfl) rfl (.tmp rfl rfl) (.cint rfl)) ?_
      refine RK.c (S.pickF .none rfl (.tmp rfl rfl) (.tmp rfl rfl) rfl) ?_
      refine RK.nil (Ab.D.code ?_)
      refine OK.condD rfl rfl (fun c66 => ?_) (fun c66 => ?_)
      ·
       have hpf := parseE_N hbig (gath_no hg hkl (by rw [hel]; exact rowE1_O hgs (by omega)))
       refine OK.seq (OK.reg ?_)
       refine RK.c (S.bloadN ti30 .none rfl (.tmp rfl rfl) rfl rfl rfl rfl) ?_
       refine RK.c (S.store ti30 .none (.tmp rfl rfl) (.tmp rfl rfl) rfl rfl rfl rfl rfl rfl) ?_
       refine RK.c (S.assign .none rfl (.cint rfl)) ?_
       refine RK.nil (Ab.D.code ?_)
       refine OK.ret (Ret.r2 (.cellN rfl rfl rfl rfl ti30 rfl (.k (.same rfl) (.k (.same rfl) (.k .nils .z)))) (.tmp rfl rfl (.c (.same rfl) rfl) rfl) ?_)
       rw [hpf]
       all_goals rfl
      ·
       have hev : ns.length % 2 = 0 := by omega
       have hrow := rowE1_S hgs hev
       refine OK.skip ?_
       refine Ab.D.code (OK.seq (OK.reg ?_))
       refine RK.c (S.nilOwn (k := 12) (sz := 2) .none rfl) ?_
       refine RK.nil (Ab.D.code (OK.seq (OK.seq (OK.reg ?_))))
       refine RK.c (S.assign .none rfl (.cint rfl)) ?_
       refine RK.nil (Ab.D.code ?_)
       refine OK.block ?_
       refine OK.loop2 [2, 4, 8, 880, 12] (fun (j : Nat) (row : List Range) => [(2, .ptr 2 0), (1002, .box [.int .i64 0, .int .i64 0, .nils]), (4, .ptr 4 0), (1004, .box [.int .i64 0, .int .i64 0, .nils]), (8, .ptr 8 0), (1008, .box [.int .i64 va, .int .i64 vb, .own 880 out.length]), (2880, .arr 1 (out.map fun l => [X.sl (l.map Range.cs)])), (5, .sl ((splitC 59 l).map fun s => [.str s])), (9, .int .i64 ((k + 1 : Nat) : Int)), (10, ints ns), (12, .own 12 row.length), (2012, .arr 2 (row.map Range.cs)), (13, .int .i64 j)]) (fun j row => j ≤ ns.length ∧ j % 2 = 0 ∧ (chunk2 ns).map pairR = row ++ (chunk2 (ns.drop j)).map pairR ∧ row.length ≤ j) (fun j row => ns.length - j) (0) ([]) ⟨Nat.zero_le _, rfl, by simp, Nat.le_refl _⟩ ⟨rfl, rfl, rfl, rfl, rfl, rfl, (lk_arr (by first | rfl | (simp; done) | (simp; omega))), rfl, rfl, rfl, (lk_own (by first | rfl | (simp; done) | (simp; omega))), (lk_arr (by first | rfl | (simp; done) | (simp; omega))), rfl, trivial⟩ (fun _ _ => rfl) ?_
       rintro j row ⟨hj, hj2, hgr, hrl⟩
       refine OK.seq (OK.seq (OK.reg ?_))
       refine RK.c (S.move .none rfl (.tmp rfl rfl)) ?_
       refine RK.c (S.move .none rfl (.tmp rfl rfl)) ?_
       refine RK.c (S.lenM si25 .none rfl (.tmp rfl rfl)) ?_
       refine RK.c (S.lss .none rfl (.tmp rfl rfl) (.tmp rfl rfl)) ?_
       refine RK.nil (Ab.D.code ?_)
       refine OK.condD rfl rfl (fun c71 => ?_) (fun c71 => ?_)
       ·
        have hj1 : j + 1 < ns.length := by omega
        refine OK.skip ?_
        refine Ab.D.code ?_
        refine OK.seq ?_
        refine OK.block ?_
        refine OK.regionDraw follows (.c (S.move .none rfl (.tmp rfl rfl))
         (.c (S.move .none rfl (.tmp rfl rfl))
         (.c (S.move .none rfl (.tmp rfl rfl))
         (.c (S.indexM (n := j) si25 .none rfl (.tmp rfl rfl) (.tmp rfl rfl) rfl (by omega) rfl)
         (.c (S.load1 ti3 .none rfl (.tmp rfl rfl) rfl)
         (.c (S.move .none rfl (.tmp rfl rfl))
         (.c (S.move .none rfl (.tmp rfl rfl))
         (.c (S.add .none rfl (.tmp rfl rfl) (.cint rfl) (IntWalk.i64_in _ (by omega)) (IntWalk.i64_in _ (by omega)))
         (.c (S.indexM (n := j + 1) si25 .none rfl (.tmp rfl rfl) (.tmp rfl rfl) rfl (by omega) rfl)
         (.c (S.load1 ti3 .none rfl (.tmp rfl rfl) rfl)
         (.c (S.build bu113 rfl .none rfl (.cons (.tmp rfl rfl) (.cons (.tmp rfl rfl) .nil)) rfl rfl)
         (.c (S.mkSlice (k := 85) (rows := [[_, _]]) ai114 .none rfl (.cons (.tmp rfl rfl) .nil) rfl rfl rfl rfl rfl rfl rfl)
         (.c (S.append ai114 .none rfl (.tmp rfl rfl) rfl (by simp) (.tmp rfl rfl) rfl (by first | rfl | (simp; done) | (simp; omega)) (by omega) (by simp only [maxLen]; omega))
         (.c (S.assign .none rfl (.tmp rfl rfl))
         .nil)))))))))))))) (by kernel_rfl) ?_
        refine Ab.D.blk ?_
        refine Ab.D.code (OK.reg ?_)
        refine RK.c (S.move .none rfl (.tmp rfl rfl)) ?_
        refine RK.c (S.add .none rfl (.tmp rfl rfl) (.cint rfl) (IntWalk.i64_in _ (by omega)) (IntWalk.i64_in _ (by omega))) ?_
        refine RK.c (S.assign .none rfl (.tmp rfl rfl)) ?_
        refine RK.nil ?_
        refine Ab.D.lp ⟨j + 2, row ++ [⟨ns[j], ns[j + 1]⟩], ⟨by omega, by omega, chunk2_at hj1 hgr, by simp; omega⟩, (by omega), rfl, rfl, rfl, rfl, rfl, rfl, (lk_arr (by first | rfl | (simp; done) | (simp; omega))), rfl, rfl, rfl, (lk_own (by simp)), (lk_arr (by rw [List.map_append]; rfl)), rfl, trivial⟩
       ·
        have hqq := chunk2_fin (show j = ns.length by omega) hgr
        refine OK.exit rfl ?_
        refine Ab.D.code ?_
        refine OK.freeze 12 rfl rfl rfl (by simp) ?_
        refine OK.reg ?_
        refine RK.c (S.bfield fi30_2 .none rfl (.tmp rfl rfl)) ?_
        refine RK.c (S.bload1 ti28 .none rfl (.tmp rfl rfl) rfl rfl rfl rfl) ?_
        refine RK.c (S.move .none rfl (.tmp rfl rfl)) ?_
        refine RK.c (S.mkSlice (k := 90) (rows := [[_]]) ai28 .none rfl (.cons (.tmp rfl rfl) .nil) rfl rfl rfl rfl rfl rfl rfl) ?_
        refine RK.c (S.append ai28 .none rfl (.tmp rfl rfl) rfl (by simp) (.tmp rfl rfl) rfl (by first | rfl | (simp; done) | (simp; omega)) (by omega) (by simp only [maxLen]; omega)) ?_
        refine RK.c (S.bfield fi30_2 .none rfl (.tmp rfl rfl)) ?_
        refine RK.c (S.store ti28 .none (.tmp rfl rfl) (.tmp rfl rfl) rfl rfl rfl rfl rfl rfl) ?_
        refine RK.nil ?_
        refine Ab.D.blk ?_
        refine Ab.D.code (OK.reg ?_)
        refine RK.c (S.move .none rfl (.tmp rfl rfl)) ?_
        refine RK.c (S.add .none rfl (.tmp rfl rfl) (.cint rfl) (IntWalk.i64_in _ (by omega)) (IntWalk.i64_in _ (by omega))) ?_
        refine RK.c (S.assign .none rfl (.tmp rfl rfl)) ?_
        refine RK.nil ?_
        refine Ab.D.lp ⟨k + 1, out ++ [row], ⟨by omega, gath_on hg hkl (by rw [hel, hrow, hqq]), by simp; omega⟩, (by omega), rfl, rfl, rfl, rfl, rfl, (lkB3 (by simp)), (lk_arr (by rw [List.map_append]; rfl)), rfl, rfl, trivial⟩
    ·
     have hpf := parseE_S hbig hhd (gath_end hg (show k = ((splitC 59 l).drop 1).length by omega))
     refine OK.exit rfl ?_
     refine Ab.D.code (OK.seq (OK.reg ?_))
     refine RK.c (S.bloadN ti30 .none rfl (.tmp rfl rfl) rfl rfl rfl rfl) ?_
     refine RK.c (S.store ti30 .none (.tmp rfl rfl) (.tmp rfl rfl) rfl rfl rfl rfl rfl rfl) ?_
     refine RK.c (S.assign .none rfl (.cint rfl)) ?_
     refine RK.nil (Ab.D.code ?_)
     refine OK.ret (Ret.r2 (.cellN rfl rfl rfl rfl ti30 rfl (.k (.same rfl) (.k (.same rfl) (.k (.own rfl rfl (by first | rfl | (simp; done) | (simp; omega))) .z)))) (.tmp rfl rfl (.c (.same rfl) rfl) rfl) ?_)
     rw [hpf]
     all_goals rfl
end Go.Proofs.YtpmglnphhhlbdaaGreatDoor
namespace Go.Proofs.YtpmglnphhhlbdaaGreatDoor
open Go.Ab
theorem dec_len : ∀ (k u : Nat), u < 10 ^ (k + 1) → (Lib.decDigits u).length ≤ k + 1
  | 0, u, h => by rw [Lib.decDigits_one (by omega)]; simp
  | k + 1, u, h => by
    by_cases h1 : u < 10
    · rw [Lib.decDigits_one h1]; simp
    · rw [dec_big h1, List.length_append]
      have := dec_len k (u / 10) (by rw [Nat.pow_succ] at h; omega)
      simp only [List.length_cons, List.length_nil]
      omega
theorem itoa_nat {n : Int} {k : Nat} (h0 : 0 ≤ n) (h : n.toNat < 10 ^ (k + 1)) : natC (Lib.itoa n) (k + 1) = true ∧ (decV 0 (Lib.itoa n) : Int) = n := by
  rw [itoa_nn h0]
  refine ⟨natC_canon.2 ⟨dec_canon _, dec_len k _ h⟩, ?_⟩
  rw [dec_val]
  omega
theorem allGo_all {α : Type} {g : Nat → α → Bool} {P : α → Prop} (hp : ∀ i x, g i x = true → P x) : ∀ (i : Nat) (l : List α), allGo g i l = true → ∀ x ∈ l, P x
  | _, [], _, x, hx => by cases hx
  | i, y :: l, h, x, hx => by
    rw [allGo, Bool.and_eq_true] at h
    rcases List.mem_cons.1 hx with rfl | hx
    · exact hp i _ h.1
    · exact allGo_all hp (i + 1) l h.2 x hx
theorem name_no {s : List UInt8} (h : nameOk s = true) : (32 : UInt8) ∉ s ∧ (59 : UInt8) ∉ s ∧ s ≠ [] ∧ s.length ≤ 12 := by
  unfold nameOk at h
  rw [Bool.and_eq_true, decide_eq_true_eq] at h
  have h1 := allGo_all (P := fun b : UInt8 => b.toNat ≠ 32 ∧ b.toNat ≠ 59) (fun i x hx => by
    unfold nameC at hx
    simp only [Bool.or_eq_true, Bool.and_eq_true, decide_eq_true_eq] at hx
    omega) 0 s h.1
  refine ⟨fun hm => (h1 _ hm).1 rfl, fun hm => (h1 _ hm).2 rfl, fun e => ?_, by omega⟩
  rw [e] at h
  have := h.2
  simp at this
theorem planErr_ticks {p : Plan} (h : planErr p = 0) : 1 ≤ p.ticks ∧ p.ticks ≤ 12 := by
  obtain ⟨_, _, a, b, _⟩ := planErr_0 h
  exact ⟨a, b⟩
theorem planErr_cols {p : Plan} (h : planErr p = 0) : 1 ≤ p.channels.length ∧ p.channels.length ≤ 4 := by
  obtain ⟨a, b, _⟩ := planErr_0 h
  exact ⟨a, b⟩
theorem planErr_names {p : Plan} (h : planErr p = 0) : ∀ s ∈ p.channels, nameOk s = true := by
  obtain ⟨_, _, _, _, h5⟩ := planErr_0 h
  intro s hs
  obtain ⟨i, hi, rfl⟩ := List.getElem_of_mem hs
  have h6 := eachGo_all _ _ _ h5 i hi
  unfold chanErr at h6
  split at h6
  · cases h6
  · rename_i h7
    simpa using h7
theorem num_itoa {n : Int} (h : -9999999 ≤ n ∧ n ≤ 9999999) : sgnC (Lib.itoa n) 7 = true ∧ sgnV (Lib.itoa n) = n ∧ (Lib.itoa n).length ≤ 8 := by
  by_cases h0 : 0 ≤ n
  · obtain ⟨h1, h2⟩ := itoa_nat (n := n) (k := 6) h0 (by omega)
    have hh : ¬ (Lib.itoa n).head? = some 45 := by rw [itoa_head]; omega
    unfold sgnC sgnV
    rw [if_neg hh, if_neg hh]
    exact ⟨h1, h2, by have := (natC_canon.1 h1).2; omega⟩
  · obtain ⟨u, rfl⟩ : ∃ u : Nat, n = -(u : Int) := ⟨n.natAbs, by omega⟩
    obtain ⟨h1, h2⟩ := itoa_nat (n := (u : Int)) (k := 6) (by omega) (by omega)
    rw [itoa_nn (by omega), Int.toNat_natCast] at h1 h2
    have hh : (Lib.itoa (-(u : Int))).head? = some 45 := (itoa_head _).2 (by omega)
    rw [Lib.itoa_neg u (by omega)] at hh ⊢
    unfold sgnC sgnV
    rw [if_pos hh, if_pos hh]
    have hd : (45 :: Lib.decDigits u).drop 1 = Lib.decDigits u := rfl
    rw [hd, h1, h2, getD_head]
    have h48 : (Lib.decDigits u).getD 0 0 ≠ 48 := fun e => dec_head u (by omega) ((head_getD (dec_pos u)).2 e)
    refine ⟨by rw [decide_eq_true h48]; rfl, rfl, ?_⟩
    have := (natC_canon.1 h1).2
    simp only [List.length_cons]
    omega
theorem num1_itoa {n : Int} (h : -9999999 ≤ n ∧ n ≤ 9999999) : num1 (Lib.itoa n) = some n := by
  obtain ⟨h1, h2, _⟩ := num_itoa h
  rw [num1_T h1, h2]
theorem natI_itoa {n : Int} (h : 0 ≤ n ∧ n ≤ 9999999) : natI (Lib.itoa n) = true := by
  obtain ⟨h1, h2, _⟩ := num_itoa (n := n) ⟨by omega, h.2⟩
  unfold natI
  rw [h1, h2, decide_eq_true h.1]
  rfl
theorem itoa_no {c : UInt8} (hc : c ≠ 45) (hd : isDig c = false) {n : Int} (h : -9999999 ≤ n ∧ n ≤ 9999999) : c ∉ Lib.itoa n := num_no hc hd (num_itoa h).1
theorem nums_split {l : List Int} (h0 : l ≠ []) (h : ∀ n ∈ l, -9999999 ≤ n ∧ n ≤ 9999999) : splitC 32 (numsI l) = l.map Lib.itoa := by
  refine split_join (by simpa using h0) fun w hw => ?_
  obtain ⟨n, hn, rfl⟩ := List.mem_map.1 hw
  exact itoa_no (by decide) (by decide) (h n hn)
theorem nums_gath {l : List Int} (h : ∀ n ∈ l, -9999999 ≤ n ∧ n ≤ 9999999) : gath num1 (l.map Lib.itoa) = some l := gath_map fun n hn => num1_itoa (h n hn)
theorem nums_59 {l : List Int} (h : ∀ n ∈ l, -9999999 ≤ n ∧ n ≤ 9999999) : (59 : UInt8) ∉ numsI l := not_join (by decide) fun w hw => by
  obtain ⟨n, hn, rfl⟩ := List.mem_map.1 hw
  exact itoa_no (by decide) (by decide) (h n hn)
theorem rt_frame {p : Plan} {f : Frame} (hp : planErr p = 0) (h : frameE p f = 0) : parseF (fmtFrame f) = (f, 0) := by
  have ht := planErr_ticks hp
  unfold frameE at h
  split at h
  · cases h
  · rename_i h1
    have h1 := Decidable.not_not.1 h1
    unfold valuesErr at h
    split at h
    · cases h
    · split at h
      · rename_i h3
        have hv : ∀ n ∈ f.values, -9999999 ≤ n ∧ n ≤ 9999999 := fun n hn => by
          have := List.all_eq_true.1 h3 n hn
          unfold isVal at this
          rw [decide_eq_true_eq] at this
          omega
        have hall : ∀ n ∈ f.tick :: f.values, -9999999 ≤ n ∧ n ≤ 9999999 := fun n hn => by
          rcases List.mem_cons.1 hn with rfl | hn
          · omega
          · exact hv n hn
        have hs := nums_split (List.cons_ne_nil _ _) hall
        unfold parseF fmtFrame
        rw [hs, List.map_cons]
        have e1 : (Lib.itoa f.tick :: f.values.map Lib.itoa).getD 0 [] = Lib.itoa f.tick := rfl
        have e2 : (Lib.itoa f.tick :: f.values.map Lib.itoa).drop 1 = f.values.map Lib.itoa := rfl
        rw [e1, e2, if_pos (natI_itoa ⟨h1.1, by omega⟩), nums_gath hv, (num_itoa (n := f.tick) (by omega)).2.1]
      · cases h
theorem rt_plan {p : Plan} (h : planErr p = 0) : parseP (fmtPlan p) = (p, 0) := by
  have ht := planErr_ticks h
  have hc := planErr_names h
  have hs : splitC 32 (fmtPlan p) = Lib.itoa p.ticks :: p.channels := split_join (List.cons_ne_nil _ _) fun w hw => by
    rcases List.mem_cons.1 hw with rfl | hw
    · exact itoa_no (by decide) (by decide) (by omega)
    · exact (name_no (hc w hw)).1
  have e1 : (Lib.itoa p.ticks :: p.channels).getD 0 [] = Lib.itoa p.ticks := rfl
  have e2 : (Lib.itoa p.ticks :: p.channels).drop 1 = p.channels := rfl
  have hn := num_itoa (n := p.ticks) (by omega)
  have hany : ((Lib.itoa p.ticks :: p.channels).any fun w => decide ([] = w)) = false := by
    rw [List.any_eq_false]
    intro w hw he
    rw [decide_eq_true_eq] at he
    subst he
    rcases List.mem_cons.1 hw with he | hw
    · have := hn.1
      rw [← he] at this
      cases this
    · exact (name_no (hc _ hw)).2.2.1 rfl
  unfold parseP
  rw [hs, e1, e2, hn.2.1, if_pos ⟨natI_itoa (by omega), hany⟩]
  rw [show planErr ⟨p.channels, p.ticks⟩ = 0 from h]
  rfl
theorem ends_pairs : ∀ l : List Range, (chunk2 (ends l)).map pairR = l
  | [] => rfl
  | r :: l => by
    rw [ends, chunk2, List.map_cons, ends_pairs l]
    rfl
theorem row_rt {l : List Range} (h0 : l ≠ []) (h : ∀ r ∈ l, rangeErr r = 0) : rowE1 (rowI l) = some l ∧ (59 : UInt8) ∉ rowI l ∧ (rowI l).length ≤ 2 * l.length * 9 := by
  have hall : ∀ n ∈ ends l, -1000000 ≤ n ∧ n ≤ 1000000 := fun n hn => by
    obtain ⟨r, hr, e⟩ := ends_mem hn
    have h1 := h r hr
    unfold rangeErr at h1
    split at h1
    · cases h1
    · rename_i h2
      have h2 := Decidable.not_not.1 h2
      omega
  have hall9 : ∀ n ∈ ends l, -9999999 ≤ n ∧ n ≤ 9999999 := fun n hn => by have := hall n hn; omega
  have hne : ends l ≠ [] := fun e => by
    have := ends_len l
    rw [e] at this
    cases l with
    | nil => exact h0 rfl
    | cons r l => simp at this
  have hg : gath num1 (splitC 32 (rowI l)) = some (ends l) := by
    rw [show rowI l = numsI (ends l) from rfl, nums_split hne hall9]
    exact nums_gath hall9
  refine ⟨?_, nums_59 hall9, ?_⟩
  · rw [rowE1_S hg (by rw [ends_len]; omega), ends_pairs]
  · have := join_bd (l := (ends l).map Lib.itoa) (sep := [32]) (B := 8) (N := 2 * l.length) (fun w hw => by obtain ⟨n, hn, rfl⟩ := List.mem_map.1 hw; exact (num_itoa (hall9 n hn)).2.2) (by rw [List.length_map, ends_len]; omega) rfl
    exact this
theorem rt_env {p : Plan} {x : Envelope} (hp : planErr p = 0) (h : (envChk p x).2 = 0) : parseE (fmtEnv x) = (x, 0) ∧ (fmtEnv x).length ≤ 60000 := by
  have ht := planErr_ticks hp
  have hcl := planErr_cols hp
  unfold envChk at h
  split at h
  · cases h
  · rename_i h1
    have h1 := Decidable.not_not.1 h1
    split at h
    · rename_i h2
      exact absurd h h2
    · rename_i h2
      have h2 := Decidable.not_not.1 h2
      unfold trimErr at h2
      split at h2
      · rename_i h3
        split at h
        · cases h
        · rename_i h4
          have h4 := Decidable.not_not.1 h4
          have hrows := eachGo_all _ _ _ h
          have hr : ∀ l ∈ x.rows, l.length = p.channels.length ∧ ∀ r ∈ l, rangeErr r = 0 := fun l hl => by
            obtain ⟨i, hi, rfl⟩ := List.getElem_of_mem hl
            have g := hrows i hi
            unfold erowErr at g
            split at g
            · cases g
            · rename_i g1
              refine ⟨Decidable.not_not.1 g1, fun r hr => ?_⟩
              obtain ⟨j, hj, rfl⟩ := List.getElem_of_mem hr
              exact eachGo_all _ _ _ g j hj
          have htb : x.trim ≤ 20 := by
            have := Int.tdiv_eq_ediv_of_nonneg (a := x.parts - 1) (b := 2) (by omega)
            omega
          have hall : ∀ n ∈ [x.parts, x.trim], -9999999 ≤ n ∧ n ≤ 9999999 := fun n hn => by
            simp only [List.mem_cons, List.not_mem_nil, or_false] at hn
            omega
          have hrt : ∀ l ∈ x.rows, rowE1 (rowI l) = some l ∧ (59 : UInt8) ∉ rowI l ∧ (rowI l).length ≤ 2 * l.length * 9 := fun l hl => row_rt (fun e => by have := (hr l hl).1; rw [e] at this; simp at this; omega) (hr l hl).2
          have hlen : (fmtEnv x).length ≤ 60000 := by
            have := join_bd (l := numsI [x.parts, x.trim] :: x.rows.map rowI) (sep := [59]) (B := 100) (N := 13) (fun w hw => by
              rcases List.mem_cons.1 hw with rfl | hw
              · exact Nat.le_trans (join_bd (B := 8) (N := 2) (fun w hw => by obtain ⟨n, hn, rfl⟩ := List.mem_map.1 hw; exact (num_itoa (hall n hn)).2.2) (by simp) rfl) (by decide)
              · obtain ⟨l, hl, rfl⟩ := List.mem_map.1 hw
                have g1 := (hrt l hl).2.2
                have g2 := (hr l hl).1
                have g3 : 2 * l.length * 9 ≤ 100 := by omega
                omega) (by simp; omega) rfl
            have e : fmtEnv x = Lib.join (numsI [x.parts, x.trim] :: x.rows.map rowI) [59] := rfl
            rw [e]
            omega
          have hs : splitC 59 (fmtEnv x) = numsI [x.parts, x.trim] :: x.rows.map rowI := split_join (List.cons_ne_nil _ _) fun w hw => by
            rcases List.mem_cons.1 hw with rfl | hw
            · exact nums_59 hall
            · obtain ⟨l, hl, rfl⟩ := List.mem_map.1 hw
              exact (hrt l hl).2.1
          have hh : headE (numsI [x.parts, x.trim]) = some (x.parts, x.trim) := by
            rw [headE_2 (a := Lib.itoa x.parts) (b := Lib.itoa x.trim) (nums_split (List.cons_ne_nil _ _) hall), if_pos ⟨natI_itoa (by omega), natI_itoa (by omega)⟩, (num_itoa (n := x.parts) (by omega)).2.1, (num_itoa (n := x.trim) (by omega)).2.1]
          have hg : gath rowE1 (x.rows.map rowI) = some x.rows := gath_map fun l hl => (hrt l hl).1
          refine ⟨?_, hlen⟩
          unfold parseE
          have e1 : (numsI [x.parts, x.trim] :: x.rows.map rowI).getD 0 [] = numsI [x.parts, x.trim] := rfl
          have e2 : (numsI [x.parts, x.trim] :: x.rows.map rowI).drop 1 = x.rows.map rowI := rfl
          rw [if_neg (by omega), hs, e1, e2, hh, hg]
      · cases h2
theorem fmtFrame_len {p : Plan} {f : Frame} (hp : planErr p = 0) (h : frameE p f = 0) (h6 : f.values.length ≤ 6) : (fmtFrame f).length ≤ 200 := by
  have ht := planErr_ticks hp
  have h1 := (frameE_0 h).1
  have hv : ∀ n ∈ f.tick :: f.values, -9999999 ≤ n ∧ n ≤ 9999999 := fun n hn => by
    rcases List.mem_cons.1 hn with rfl | hn
    · omega
    · unfold frameE at h
      rw [if_neg (not_not_intro h1)] at h
      unfold valuesErr at h
      split at h
      · cases h
      · split at h
        · rename_i h3
          have := List.all_eq_true.1 h3 n hn
          unfold isVal at this
          rw [decide_eq_true_eq] at this
          omega
        · cases h
  exact Nat.le_trans (join_bd (B := 8) (N := 7) (fun w hw => by obtain ⟨n, hn, rfl⟩ := List.mem_map.1 hw; exact (num_itoa (hv n hn)).2.2) (by simp; omega) rfl) (by decide)
end Go.Proofs.YtpmglnphhhlbdaaGreatDoor
