/-
  awake: the examples of the document hold.
-/
import Derived.Test.YtfjldfkgjejpmaaSh
import Derived.Test.YtfjldfkgjejpmaaWn
namespace Go.Proofs.Ytfjldfkgjejpmaa
open Go.Ab

theorem ct_res {P : Program} {f : Nat} {args : List X} {r r' : X} (h : Ct P f args r) (e : r = r') : Ct P f args r' := e ▸ h
theorem tup2 {a a' : X} {e e' : Int} (h1 : a = a') (h2 : e = e') : X.tup [a, .int .i64 e] = X.tup [a', .int .i64 e'] := by rw [h1, h2]
theorem sorted_eq {l m : List Int} (hp : m.Perm l) (hs : m.Pairwise (fun x y => x ≤ y)) : sorted l = m := by
  unfold sorted
  have h1 : (l.mergeSort fun x y => decide (x ≤ y)).Pairwise (fun x y => x ≤ y) := by
    have := List.pairwise_mergeSort (le := fun x y : Int => decide (x ≤ y)) (by intro a b c h1 h2; simp only [decide_eq_true_eq] at *; omega) (by intro a b; simp only [Bool.or_eq_true, decide_eq_true_eq]; omega) l
    exact this.imp (by simp)
  exact ((List.mergeSort_perm l _).trans hp.symm).eq_of_pairwise (fun a b _ _ h1 h2 => by omega) h1 hs
theorem col_00 : sorted (col recsE 0 0) = [10, 11, 13] := sorted_eq (by decide) (by decide)
theorem col_01 : sorted (col recsE 0 1) = [5, 5, 6] := sorted_eq (by decide) (by decide)
theorem col_10 : sorted (col recsE 1 0) = [11, 12, 12] := sorted_eq (by decide) (by decide)
theorem col_11 : sorted (col recsE 1 1) = [4, 5, 5] := sorted_eq (by decide) (by decide)
theorem envE_eq : envOf planE recsE 0 = envE := by
  have e0 : envErr planE recsE 0 = 0 := by decide +kernel
  rw [envOf, if_pos e0, envT]
  have r2 : planE.ticks.toNat = 2 := rfl
  have r3 : planE.channels.length = 2 := rfl
  simp only [rowT, r2, r3, show List.range 2 = [0, 1] from rfl, List.map_cons, List.map_nil, rangeT, col_00, col_01, col_10, col_11]
  rfl
theorem spoiltE_eq : spoilt passesE [4] = [7, 8] := by
  have h : (hits [4] passesE).mergeSort (fun x y => decide (x ≤ y)) = [7, 8] := sorted_eq (l := hits [4] passesE) (by decide) (by decide)
  rw [spoilt, h]
  decide +kernel
theorem aw_env : Ct Try.prog 46 [.agg planE.cs, .sl (recsE.map Record.cs), .int .i64 0] (.tup [.agg envE.cs, .int .i64 0]) :=
  ct_res (mon_EnvelopeOf (p := planE) (l := recsE) (trim := 0)) (tup2 (congrArg (fun x : Envelope => X.agg x.cs) envE_eq) (by decide +kernel))
theorem aw_devs : Ct Try.prog 49 [.agg planE.cs, .agg envE.cs, .agg recE.cs] (.tup [devs [⟨0, 0, 1⟩, ⟨1, 0, -1⟩], .int .i64 0]) :=
  ct_res (mon_DeviationsOf (p := planE) (x := envE) (r := recE)) (tup2 (congrArg devs (by decide +kernel)) (by decide +kernel))
theorem aw_bound : Ct Try.prog 51 [.agg planE.cs, .int .i64 20, .int .i64 0] (.tup [.agg (Frac.cs ⟨8, 21⟩), .int .i64 0]) :=
  ct_res (mon_AlarmBound (p := planE) (parts := 20) (trim := 0)) (tup2 (congrArg (fun x : Frac => X.agg x.cs) (by decide +kernel)) (by decide +kernel))
theorem aw_spoilt : Ct Try.prog 12 [.sl (passesE.map Pass.cs), ints [4]] (.tup [ints [7, 8], .int .i64 0]) :=
  ct_res (mon_SpoiltBy (l := passesE) (ticks := [4])) (tup2 (congrArg ints (by rw [if_pos (by decide +kernel), spoiltE_eq])) (by decide +kernel))
theorem aw_drift : Ct Try.prog 19 [.agg ruleE.cs, ints [10, 13, 13, 9]] (.tup [.int .i64 2, .int .i64 1, .int .i64 0]) :=
  ct_res (mon_FirstDrift (r := ruleE) (l := [10, 13, 13, 9])) (congrArg triple (show driftT ruleE [10, 13, 13, 9] = (2, 1, 0) by decide +kernel))
theorem aw_same : Ct Try.prog 52 [.agg envE.cs, .agg envE.cs] (.bool true) := ct_res (ref_SameEnvelope (a := envE) (b := envE)) (by rw [decide_eq_true rfl])
theorem aw_samed : Ct Try.prog 53 [devs [⟨0, 0, 1⟩, ⟨1, 0, -1⟩], devs [⟨0, 0, 1⟩, ⟨1, 0, -1⟩]] (.bool true) := ct_res (ref_SameDeviations (a := [⟨0, 0, 1⟩, ⟨1, 0, -1⟩]) (b := [⟨0, 0, 1⟩, ⟨1, 0, -1⟩])) (by rw [decide_eq_true rfl])
theorem aw_ints : Ct Try.prog 16 [ints [7, 8], ints [7, 8]] (.bool true) := ct_res (base_Ints (a := [7, 8]) (b := [7, 8])) (by rw [decide_eq_true rfl])

theorem law_awake  : Ct Try.prog 9 [] (.bool true) := by
  refine Ct.intro (rs := [.tmp 0]) Try.func9 rfl Try.ntmps9 Try.results9 rfl rfl rfl fun w h => ?_
  refine OK.seq ?_
  refine OK.reg ?_
  refine RK.c (S.assign .none rfl .cbool) ?_
  refine RK.nil ?_
  refine Ab.D.code ?_
  refine OK.seq ?_
  refine OK.reg ?_
  refine RK.c (S.call (law_Plan) Try.call47 .none rfl .nil rfl) ?_
  refine RK.c (S.call (law_Records) Try.call48 .none rfl .nil rfl) ?_
  refine RK.c (S.call (aw_env) Try.call46 .none rfl (.cons (.tmp rfl rfl) (.cons (.tmp rfl rfl) (.cons (.cint rfl) .nil))) rfl) ?_
  refine RK.c (S.move .none rfl (.tmp rfl rfl)) ?_
  refine RK.c (S.extract .none rfl (.tmp rfl rfl) rfl rfl) ?_
  refine RK.c (S.extract .none rfl (.tmp rfl rfl) rfl rfl) ?_
  refine RK.c (S.alloc (k := 1) ze93 rfl .none rfl) ?_
  refine RK.c (S.store ti93 .none (.tmp rfl rfl) (.tmp rfl rfl) rfl rfl rfl rfl rfl rfl) ?_
  refine RK.c (S.assign .none rfl (.tmp rfl rfl)) ?_
  refine RK.nil ?_
  refine Ab.D.code ?_
  refine OK.seq ?_
  refine OK.regionDraw follows (.c (S.call (law_Plan) Try.call47 .none rfl .nil rfl)
    (.c (S.bloadN ti93 .none rfl (.tmp rfl rfl) rfl rfl rfl rfl)
    (.c (S.mkData (rows := [[_], [_]]) ai23 .none rfl (.cons (.cint rfl) (.cons (.cint rfl) .nil)) rfl rfl rfl rfl rfl rfl rfl)
    (.c (S.mkData (rows := [[_], [_]]) ai23 .none rfl (.cons (.cint rfl) (.cons (.cint rfl) .nil)) rfl rfl rfl rfl rfl rfl rfl)
    (.c (S.mkData (rows := [[_], [_]]) ai152 .none rfl (.cons (.tmp rfl rfl) (.cons (.tmp rfl rfl) .nil)) rfl rfl rfl rfl rfl rfl rfl)
    (.c (S.call (law_Whole (l := [[14, 5], [10, 5]]) (by decide)) Try.call50 .none rfl (.cons (.tmp rfl rfl) .nil) rfl)
    (.c (S.call (aw_devs) Try.call49 .none rfl (.cons (.tmp rfl rfl) (.cons (.tmp rfl rfl) (.cons (.tmp rfl rfl) .nil))) rfl)
    (.c (S.move .none rfl (.tmp rfl rfl))
    (.c (S.extract .none rfl (.tmp rfl rfl) rfl rfl)
    (.c (S.extract .none rfl (.tmp rfl rfl) rfl rfl)
    (.c (S.assign .none rfl (.tmp rfl rfl))
    (.c (S.assign .none rfl (.tmp rfl rfl))
    .nil)))))))))))) (by kernel_rfl) ?_
  refine Ab.D.code ?_
  refine OK.seq ?_
  refine OK.reg ?_
  refine RK.c (S.call (law_Plan) Try.call47 .none rfl .nil rfl) ?_
  refine RK.c (S.call (aw_bound) Try.call51 .none rfl (.cons (.tmp rfl rfl) (.cons (.cint rfl) (.cons (.cint rfl) .nil))) rfl) ?_
  refine RK.c (S.move .none rfl (.tmp rfl rfl)) ?_
  refine RK.c (S.extract .none rfl (.tmp rfl rfl) rfl rfl) ?_
  refine RK.c (S.extract .none rfl (.tmp rfl rfl) rfl rfl) ?_
  refine RK.c (S.alloc (k := 5) ze104 rfl .none rfl) ?_
  refine RK.c (S.store ti104 .none (.tmp rfl rfl) (.tmp rfl rfl) rfl rfl rfl rfl rfl rfl) ?_
  refine RK.c (S.assign .none rfl (.tmp rfl rfl)) ?_
  refine RK.nil ?_
  refine Ab.D.code ?_
  refine OK.seq ?_
  refine OK.reg ?_
  refine RK.c (S.build bu108 rfl .none rfl (.cons (.cint rfl) (.cons (.cint rfl) .nil)) rfl rfl) ?_
  refine RK.c (S.build bu108 rfl .none rfl (.cons (.cint rfl) (.cons (.cint rfl) (.cons (.cint rfl) .nil))) rfl rfl) ?_
  refine RK.c (S.mkData (rows := [[_, _, _], [_, _, _]]) ai22 .none rfl (.cons (.tmp rfl rfl) (.cons (.tmp rfl rfl) .nil)) rfl rfl rfl rfl rfl rfl rfl) ?_
  refine RK.c (S.mkData (rows := [[_]]) ai23 .none rfl (.cons (.cint rfl) .nil) rfl rfl rfl rfl rfl rfl rfl) ?_
  refine RK.c (S.call (aw_spoilt) Try.call12 .none rfl (.cons (.tmp rfl rfl) (.cons (.tmp rfl rfl) .nil)) rfl) ?_
  refine RK.c (S.move .none rfl (.tmp rfl rfl)) ?_
  refine RK.c (S.extract .none rfl (.tmp rfl rfl) rfl rfl) ?_
  refine RK.c (S.extract .none rfl (.tmp rfl rfl) rfl rfl) ?_
  refine RK.c (S.assign .none rfl (.tmp rfl rfl)) ?_
  refine RK.c (S.assign .none rfl (.tmp rfl rfl)) ?_
  refine RK.nil ?_
  refine Ab.D.code ?_
  refine OK.seq ?_
  refine OK.reg ?_
  refine RK.c (S.build bu39 rfl .none rfl (.cons (.cint rfl) (.cons (.cint rfl) (.cons (.cint rfl) .nil))) rfl rfl) ?_
  refine RK.c (S.mkData (rows := [[_], [_], [_], [_]]) ai23 .none rfl (.cons (.cint rfl) (.cons (.cint rfl) (.cons (.cint rfl) (.cons (.cint rfl) .nil)))) rfl rfl rfl rfl rfl rfl rfl) ?_
  refine RK.c (S.call (aw_drift) Try.call19 .none rfl (.cons (.tmp rfl rfl) (.cons (.tmp rfl rfl) .nil)) rfl) ?_
  refine RK.c (S.move .none rfl (.tmp rfl rfl)) ?_
  refine RK.c (S.extract .none rfl (.tmp rfl rfl) rfl rfl) ?_
  refine RK.c (S.extract .none rfl (.tmp rfl rfl) rfl rfl) ?_
  refine RK.c (S.extract .none rfl (.tmp rfl rfl) rfl rfl) ?_
  refine RK.c (S.assign .none rfl (.tmp rfl rfl)) ?_
  refine RK.c (S.assign .none rfl (.tmp rfl rfl)) ?_
  refine RK.c (S.assign .none rfl (.tmp rfl rfl)) ?_
  refine RK.nil ?_
  refine Ab.D.code ?_
  refine OK.seq ?_
  refine OK.reg ?_
  refine RK.c (S.move .none rfl (.tmp rfl rfl)) ?_
  refine RK.c (S.eql .none rfl (.tmp rfl rfl) (.cint rfl)) ?_
  refine RK.c (S.move .none rfl (.tmp rfl rfl)) ?_
  refine RK.c (S.bloadN ti93 (.yes rfl rfl rfl rfl) rfl (.tmp rfl rfl) rfl rfl rfl rfl) ?_
  refine RK.c (S.build bu111 rfl (.yes rfl rfl rfl rfl) rfl (.cons (.cint rfl) (.cons (.cint rfl) .nil)) rfl rfl) ?_
  refine RK.c (S.build bu111 rfl (.yes rfl rfl rfl rfl) rfl (.cons (.cint rfl) (.cons (.cint rfl) .nil)) rfl rfl) ?_
  refine RK.c (S.mkData (rows := [[_, _], [_, _]]) ai112 (.yes rfl rfl rfl rfl) rfl (.cons (.tmp rfl rfl) (.cons (.tmp rfl rfl) .nil)) rfl rfl rfl rfl rfl rfl rfl) ?_
  refine RK.c (S.build bu111 rfl (.yes rfl rfl rfl rfl) rfl (.cons (.cint rfl) (.cons (.cint rfl) .nil)) rfl rfl) ?_
  refine RK.c (S.build bu111 rfl (.yes rfl rfl rfl rfl) rfl (.cons (.cint rfl) (.cons (.cint rfl) .nil)) rfl rfl) ?_
  refine RK.c (S.mkData (rows := [[_, _], [_, _]]) ai112 (.yes rfl rfl rfl rfl) rfl (.cons (.tmp rfl rfl) (.cons (.tmp rfl rfl) .nil)) rfl rfl rfl rfl rfl rfl rfl) ?_
  refine RK.c (S.mkData (rows := [[_], [_]]) ai91 (.yes rfl rfl rfl rfl) rfl (.cons (.tmp rfl rfl) (.cons (.tmp rfl rfl) .nil)) rfl rfl rfl rfl rfl rfl rfl) ?_
  refine RK.c (S.build bu93 rfl (.yes rfl rfl rfl rfl) rfl (.cons (.cint rfl) (.cons (.tmp rfl rfl) .nil)) rfl rfl) ?_
  refine RK.c (S.call (aw_same) Try.call52 (.yes rfl rfl rfl rfl) rfl (.cons (.tmp rfl rfl) (.cons (.tmp rfl rfl) .nil)) rfl) ?_
  refine RK.c (S.pickT .none rfl (.tmp rfl rfl) (.tmp rfl rfl) rfl) ?_
  refine RK.c (S.move .none rfl (.tmp rfl rfl)) ?_
  refine RK.c (S.move (.yes rfl rfl rfl rfl) rfl (.tmp rfl rfl)) ?_
  refine RK.c (S.eql (.yes rfl rfl rfl rfl) rfl (.tmp rfl rfl) (.cint rfl)) ?_
  refine RK.c (S.pickT .none rfl (.tmp rfl rfl) (.tmp rfl rfl) rfl) ?_
  refine RK.c (S.move .none rfl (.tmp rfl rfl)) ?_
  refine RK.c (S.move (.yes rfl rfl rfl rfl) rfl (.tmp rfl rfl)) ?_
  refine RK.c (S.build bu115 rfl (.yes rfl rfl rfl rfl) rfl (.cons (.cint rfl) .nil) rfl rfl) ?_
  refine RK.c (S.build bu115 rfl (.yes rfl rfl rfl rfl) rfl (.cons (.cint rfl) (.cons (.cint rfl) .nil)) rfl rfl) ?_
  refine RK.c (S.mkData (rows := [[_, _, _], [_, _, _]]) ai99 (.yes rfl rfl rfl rfl) rfl (.cons (.tmp rfl rfl) (.cons (.tmp rfl rfl) .nil)) rfl rfl rfl rfl rfl rfl rfl) ?_
  refine RK.c (S.call (aw_samed) Try.call53 (.yes rfl rfl rfl rfl) rfl (.cons (.tmp rfl rfl) (.cons (.tmp rfl rfl) .nil)) rfl) ?_
  refine RK.c (S.pickT .none rfl (.tmp rfl rfl) (.tmp rfl rfl) rfl) ?_
  refine RK.c (S.move .none rfl (.tmp rfl rfl)) ?_
  refine RK.c (S.move (.yes rfl rfl rfl rfl) rfl (.tmp rfl rfl)) ?_
  refine RK.c (S.eql (.yes rfl rfl rfl rfl) rfl (.tmp rfl rfl) (.cint rfl)) ?_
  refine RK.c (S.pickT .none rfl (.tmp rfl rfl) (.tmp rfl rfl) rfl) ?_
  refine RK.c (S.move .none rfl (.tmp rfl rfl)) ?_
  refine RK.c (S.bloadN ti104 (.yes rfl rfl rfl rfl) rfl (.tmp rfl rfl) rfl rfl rfl rfl) ?_
  refine RK.c (S.build bu104 rfl (.yes rfl rfl rfl rfl) rfl (.cons (.cint rfl) (.cons (.cint rfl) .nil)) rfl rfl) ?_
  refine RK.c (S.aeql [8, 21] [8, 21] eq104 (.yes rfl rfl rfl rfl) rfl (.tmp rfl rfl) (.tmp rfl rfl) rfl rfl rfl rfl) ?_
  refine RK.c (S.pickT .none rfl (.tmp rfl rfl) (.tmp rfl rfl) rfl) ?_
  refine RK.c (S.move .none rfl (.tmp rfl rfl)) ?_
  refine RK.c (S.move (.yes rfl rfl rfl rfl) rfl (.tmp rfl rfl)) ?_
  refine RK.c (S.eql (.yes rfl rfl rfl rfl) rfl (.tmp rfl rfl) (.cint rfl)) ?_
  refine RK.c (S.pickT .none rfl (.tmp rfl rfl) (.tmp rfl rfl) rfl) ?_
  refine RK.c (S.move .none rfl (.tmp rfl rfl)) ?_
  refine RK.c (S.move (.yes rfl rfl rfl rfl) rfl (.tmp rfl rfl)) ?_
  refine RK.c (S.mkData (rows := [[_], [_]]) ai23 (.yes rfl rfl rfl rfl) rfl (.cons (.cint rfl) (.cons (.cint rfl) .nil)) rfl rfl rfl rfl rfl rfl rfl) ?_
  refine RK.c (S.call (aw_ints) Try.call16 (.yes rfl rfl rfl rfl) rfl (.cons (.tmp rfl rfl) (.cons (.tmp rfl rfl) .nil)) rfl) ?_
  refine RK.c (S.pickT .none rfl (.tmp rfl rfl) (.tmp rfl rfl) rfl) ?_
  refine RK.c (S.move .none rfl (.tmp rfl rfl)) ?_
  refine RK.c (S.move (.yes rfl rfl rfl rfl) rfl (.tmp rfl rfl)) ?_
  refine RK.c (S.eql (.yes rfl rfl rfl rfl) rfl (.tmp rfl rfl) (.cint rfl)) ?_
  refine RK.c (S.pickT .none rfl (.tmp rfl rfl) (.tmp rfl rfl) rfl) ?_
  refine RK.c (S.move .none rfl (.tmp rfl rfl)) ?_
  refine RK.c (S.move (.yes rfl rfl rfl rfl) rfl (.tmp rfl rfl)) ?_
  refine RK.c (S.eql (.yes rfl rfl rfl rfl) rfl (.tmp rfl rfl) (.cint rfl)) ?_
  refine RK.c (S.pickT .none rfl (.tmp rfl rfl) (.tmp rfl rfl) rfl) ?_
  refine RK.c (S.move .none rfl (.tmp rfl rfl)) ?_
  refine RK.c (S.move (.yes rfl rfl rfl rfl) rfl (.tmp rfl rfl)) ?_
  refine RK.c (S.eql (.yes rfl rfl rfl rfl) rfl (.tmp rfl rfl) (.cint rfl)) ?_
  refine RK.c (S.pickT .none rfl (.tmp rfl rfl) (.tmp rfl rfl) rfl) ?_
  refine RK.c (S.assign .none rfl (.tmp rfl rfl)) ?_
  refine RK.nil ?_
  refine Ab.D.code ?_
  refine OK.ret (Ret.r1 (.tmp rfl rfl (.c (.same rfl) rfl) rfl) ?_)
  rfl

end Go.Proofs.Ytfjldfkgjejpmaa
