/-
  The law of records: which records are valid, with an index, and the ticks that are lost.
-/
import Derived.Test.YtfjldfkgjejpmaaSh
import Derived.Test.YtfjldfkgjejpmaaWo
import Derived.Test.YtfjldfkgjejpmaaWz0
namespace Go.Proofs.Ytfjldfkgjejpmaa
open Go.Ab

theorem few_len {p : Plan} (h : fewT p = true) : p.channels.length ≤ 6 := by
  unfold fewT at h
  simp only [Bool.and_eq_true, decide_eq_true_eq] at h
  exact h.1
theorem short_len {r : Record} (h : shortRec r = true) : r.rows.length ≤ 14 ∧ ∀ (i : Nat) (h : i < r.rows.length), r.rows[i].values.length ≤ 6 := by
  unfold shortRec at h
  simp only [Bool.and_eq_true, decide_eq_true_eq] at h
  refine ⟨h.1, fun i hi => ?_⟩
  have := List.all_eq_true.1 h.2 _ (List.getElem_mem hi)
  unfold shortT at this
  simp only [decide_eq_true_eq] at this
  omega
theorem ret_dT {p : Prop} [Decidable p] (h : p) : X.bool (decide p) = X.bool true := by rw [decide_eq_true h]
theorem ret_abs {x y : X} (h : False) : x = y := h.elim

theorem ref_CopyRecord {r : Record} (hlen : r.rows.length ≤ 100000) (hvl : ∀ (i : Nat) (h : i < r.rows.length), r.rows[i].values.length ≤ 100000) : Ct Try.prog 29 [.agg r.cs] (.agg r.cs) := by
  refine Ct.intro (rs := [.cell 2 56]) Try.func29 rfl Try.ntmps29 Try.results29 rfl rfl rfl fun w h => ?_
  refine OK.seq ?_
  refine OK.reg ?_
  refine RK.c (S.box (k := 1) rfl .none rfl (.tmp rfl rfl) rfl) ?_
  refine RK.c (S.alloc (k := 2) ze56 rfl .none rfl) ?_
  refine RK.nil ?_
  refine Ab.D.code ?_
  refine OK.seq ?_
  refine OK.reg ?_
  refine RK.c (S.alloc (k := 3) ze56 rfl .none rfl) ?_
  refine RK.nil ?_
  refine Ab.D.code ?_
  refine OK.seq ?_
  refine OK.seq ?_
  refine OK.reg ?_
  refine RK.c (S.assign .none rfl (.cint rfl)) ?_
  refine RK.nil ?_
  refine Ab.D.code ?_
  refine OK.block ?_
  refine OK.boxOwn 3 0 890 2 rfl rfl rfl rfl rfl ?_
  refine OK.loop (G := Nat) [1, 2, 3, 890] (fun i => [(1, .ptr 1 0), (1001, .box r.cs), (2, .ptr 2 0), (1002, .box [.nils]), (3, .ptr 3 0), (1003, .box [.own 890 i]), (2890, .arr 2 ((r.rows.take i).map Row.cs)), (4, .int .i64 i)]) (fun i => i ≤ r.rows.length) (fun i => r.rows.length - i) 0 (Nat.zero_le _) ⟨rfl, rfl, rfl, rfl, rfl, rfl, (lk_arr (by first | rfl | (simp; done) | (simp; omega))), rfl, trivial⟩ (fun _ => rfl) ?_
  rintro i hi
  refine OK.seq ?_
  refine OK.seq ?_
  refine OK.reg ?_
  refine RK.c (S.move .none rfl (.tmp rfl rfl)) ?_
  refine RK.c (S.bfield fi56_0 .none rfl (.tmp rfl rfl)) ?_
  refine RK.c (S.bload1 ti54 .none rfl (.tmp rfl rfl) rfl rfl rfl rfl) ?_
  refine RK.c (S.lenM si54 .none rfl (.tmp rfl rfl)) ?_
  refine RK.c (S.lss .none rfl (.tmp rfl rfl) (.tmp rfl rfl)) ?_
  refine RK.nil ?_
  refine Ab.D.code ?_
  refine OK.condD rfl rfl (fun c9 => ?_) (fun c9 => ?_)
  ·
    have hvli := hvl i (by omega)
    refine OK.skip ?_
    refine Ab.D.code ?_
    refine OK.seq ?_
    refine OK.block ?_
    refine OK.regionDraw follows (.c (S.bfield fi56_0 .none rfl (.tmp rfl rfl))
      (.c (S.bload1 ti54 .none rfl (.tmp rfl rfl) rfl rfl rfl rfl)
      (.c (S.bfield fi56_0 .none rfl (.tmp rfl rfl))
      (.c (S.bload1 ti54 .none rfl (.tmp rfl rfl) rfl rfl rfl rfl)
      (.c (S.move .none rfl (.tmp rfl rfl))
      (.c (S.indexM si54 .none rfl (.tmp rfl rfl) (.tmp rfl rfl) rfl (by omega) rfl)
      (.c (S.field fi127_0 .none rfl (.tmp rfl rfl) rfl)
      (.c (S.load1 ti4 .none rfl (.tmp rfl rfl) rfl)
      (.c (S.bfield fi56_0 .none rfl (.tmp rfl rfl))
      (.c (S.bload1 ti54 .none rfl (.tmp rfl rfl) rfl rfl rfl rfl)
      (.c (S.move .none rfl (.tmp rfl rfl))
      (.c (S.indexM si54 .none rfl (.tmp rfl rfl) (.tmp rfl rfl) rfl (by omega) rfl)
      (.c (S.field fi127_1 .none rfl (.tmp rfl rfl) rfl)
      (.c (S.load1 ti23 .none rfl (.tmp rfl rfl) rfl)
      (.c (S.call (base_CopyInts (l := r.rows[i].values) hvli) Try.call13 .none rfl (.cons (.tmp rfl rfl) .nil) rfl)
      (.c (S.build bu127 rfl .none rfl (.cons (.tmp rfl rfl) (.cons (.tmp rfl rfl) .nil)) rfl rfl)
      (.c (S.mkSlice (k := 28) (rows := [[_, _]]) ai54 .none rfl (.cons (.tmp rfl rfl) .nil) rfl rfl rfl rfl rfl rfl rfl)
      (.c (S.append ai54 .none rfl (.tmp rfl rfl) rfl (by simp; omega) (.tmp rfl rfl) rfl (by first | rfl | (simp; done) | (simp; omega)) (by omega) (by simp only [maxLen]; omega))
      (.c (S.bfield fi56_0 .none rfl (.tmp rfl rfl))
      (.c (S.store ti54 .none (.tmp rfl rfl) (.tmp rfl rfl) rfl rfl rfl rfl rfl rfl)
      .nil)))))))))))))))))))) (by kernel_rfl) ?_
    refine Ab.D.blk ?_
    refine Ab.D.code ?_
    refine OK.reg ?_
    refine RK.c (S.move .none rfl (.tmp rfl rfl)) ?_
    refine RK.c (S.add .none rfl (.tmp rfl rfl) (.cint rfl) (IntWalk.i64_in _ (by omega)) (IntWalk.i64_in _ (by omega))) ?_
    refine RK.c (S.assign .none rfl (.tmp rfl rfl)) ?_
    refine RK.nil ?_
    refine Ab.D.lp ⟨i + 1, (by omega), (by omega), rfl, rfl, rfl, rfl, rfl, rfl, (lk_arr (by rw [← take_snoc (by omega)]; simp only [List.map_append, List.map_cons, List.map_nil]; rfl)), rfl, trivial⟩
  ·
    refine OK.exit rfl ?_
    refine Ab.D.code ?_
    refine OK.seq ?_
    refine OK.reg ?_
    refine RK.c (S.bloadN ti56 .none rfl (.tmp rfl rfl) rfl rfl rfl rfl) ?_
    refine RK.c (S.store ti56 .none (.tmp rfl rfl) (.tmp rfl rfl) rfl rfl rfl rfl rfl rfl) ?_
    refine RK.nil ?_
    refine Ab.D.code ?_
    refine OK.ret (Ret.r1 (.cellN rfl rfl rfl rfl ti56 rfl (.k (.own rfl rfl (by first | rfl | (simp; done) | (simp; omega))) .z)) ?_)
    rw [show i = r.rows.length by omega, List.take_length]
    rfl

theorem law_MonitorRecords {p : Plan} {r : Record} : Ct Try.prog 5 [.agg p.cs, .agg r.cs] (.bool true) := by
  refine Ct.intro (rs := [.tmp 4]) Try.func5 rfl Try.ntmps5 Try.results5 rfl rfl rfl fun w h => ?_
  refine OK.seq ?_
  refine OK.reg ?_
  refine RK.c (S.box (k := 2) rfl .none rfl (.tmp rfl rfl) rfl) ?_
  refine RK.c (S.box (k := 3) rfl .none rfl (.tmp rfl rfl) rfl) ?_
  refine RK.c (S.assign .none rfl .cbool) ?_
  refine RK.nil ?_
  refine Ab.D.code ?_
  refine OK.seq ?_
  refine OK.seq ?_
  refine OK.reg ?_
  refine RK.c (S.call (law_awake) Try.call9 .none rfl .nil rfl) ?_
  refine RK.c (S.not .none rfl (.tmp rfl rfl)) ?_
  refine RK.nil ?_
  refine Ab.D.code ?_
  refine OK.condF rfl rfl rfl ?_
  refine OK.skip ?_
  refine Ab.D.code ?_
  refine OK.seq ?_
  refine OK.seq ?_
  refine OK.reg ?_
  refine RK.c (S.bloadN ti53 .none rfl (.tmp rfl rfl) rfl rfl rfl rfl) ?_
  refine RK.c (S.call (law_Few) Try.call25 .none rfl (.cons (.tmp rfl rfl) .nil) rfl) ?_
  refine RK.c (S.not .none rfl (.tmp rfl rfl)) ?_
  refine RK.c (S.move .none rfl (.tmp rfl rfl)) ?_
  refine RK.split (t := 16) rfl (fun g16 => ?_) (fun g16 => ?_)
  ·
    refine RK.c (S.skip rfl rfl rfl rfl rfl) ?_
    refine RK.c (S.skip rfl rfl rfl rfl rfl) ?_
    refine RK.c (S.skip rfl rfl rfl rfl rfl) ?_
    refine RK.c (S.pickT .none rfl (.tmp rfl rfl) .cbool rfl) ?_
    refine RK.nil ?_
    refine Ab.D.code ?_
    refine OK.condT rfl rfl rfl ?_
    refine OK.seq ?_
    refine OK.reg ?_
    refine RK.c (S.assign .none rfl .cbool) ?_
    refine RK.nil ?_
    refine Ab.D.code ?_
    refine OK.ret (Ret.r1 (.tmp rfl rfl (.c (.same rfl) rfl) rfl) ?_)
    first | rfl | (refine ret_abs (g50 ?_); rw [hchk]; done) | (refine ret_abs (c54 ?_); rw [hchk]; done) | (refine ret_abs (g60 ?_); rw [hchk]; done) | exact ret_abs (c56 c40) | (refine ret_dT ?_; rw [hchk, if_neg c56]; rfl) | (refine ret_dT ?_; rw [hchk, if_pos (Decidable.not_not.1 c56)]; done) | (refine ret_abs (g67 ?_); rw [hchk]; exact Decidable.not_not.1 c56)
  ·
    refine RK.c (S.bloadN ti56 (.yes rfl rfl rfl rfl) rfl (.tmp rfl rfl) rfl rfl rfl rfl) ?_
    refine RK.c (S.call (law_shortRecord) Try.call26 (.yes rfl rfl rfl rfl) rfl (.cons (.tmp rfl rfl) .nil) rfl) ?_
    refine RK.c (S.not (.yes rfl rfl rfl rfl) rfl (.tmp rfl rfl)) ?_
    refine RK.c (S.pickF .none rfl (.tmp rfl rfl) (.tmp rfl rfl) rfl) ?_
    refine RK.nil ?_
    refine Ab.D.code ?_
    refine OK.cond rfl rfl (fun c20 => ?_) (fun c20 => ?_)
    ·
      refine OK.seq ?_
      refine OK.reg ?_
      refine RK.c (S.assign .none rfl .cbool) ?_
      refine RK.nil ?_
      refine Ab.D.code ?_
      refine OK.ret (Ret.r1 (.tmp rfl rfl (.c (.same rfl) rfl) rfl) ?_)
      first | rfl | (refine ret_abs (g50 ?_); rw [hchk]; done) | (refine ret_abs (c54 ?_); rw [hchk]; done) | (refine ret_abs (g60 ?_); rw [hchk]; done) | exact ret_abs (c56 c40) | (refine ret_dT ?_; rw [hchk, if_neg c56]; rfl) | (refine ret_dT ?_; rw [hchk, if_pos (Decidable.not_not.1 c56)]; done) | (refine ret_abs (g67 ?_); rw [hchk]; exact Decidable.not_not.1 c56)
    ·
      have hF : fewT p = true := by simpa using g16
      have hS : shortRec r = true := by simpa using c20
      have hp := few_len hF
      obtain ⟨hr, hv⟩ := short_len hS
      have hvl : ∀ (i : Nat) (h : i < r.rows.length), r.rows[i].values.length ≤ 100000 := fun i h => by have := hv i h; omega
      refine OK.skip ?_
      refine Ab.D.code ?_
      refine OK.seq ?_
      refine OK.regionDraw follows (.c (S.bloadN ti53 .none rfl (.tmp rfl rfl) rfl rfl rfl rfl)
        (.c (S.call (ref_CopyPlan (by omega)) Try.call28 .none rfl (.cons (.tmp rfl rfl) .nil) rfl)
        (.c (S.bloadN ti56 .none rfl (.tmp rfl rfl) rfl rfl rfl rfl)
        (.c (S.call (ref_CopyRecord (by omega) hvl) Try.call29 .none rfl (.cons (.tmp rfl rfl) .nil) rfl)
        (.c (S.call (mon_CheckRecord) Try.call27 .none rfl (.cons (.tmp rfl rfl) (.cons (.tmp rfl rfl) .nil)) rfl)
        (.c (S.move .none rfl (.tmp rfl rfl))
        (.c (S.extract .none rfl (.tmp rfl rfl) rfl rfl)
        (.c (S.extract .none rfl (.tmp rfl rfl) rfl rfl)
        (.c (S.assign .none rfl (.tmp rfl rfl))
        (.c (S.assign .none rfl (.tmp rfl rfl))
        .nil)))))))))) (by kernel_rfl) ?_
      refine Ab.D.code ?_
      refine OK.seq ?_
      refine OK.regionDraw follows (.c (S.bloadN ti53 .none rfl (.tmp rfl rfl) rfl rfl rfl rfl)
        (.c (S.call (ref_CopyPlan (by omega)) Try.call28 .none rfl (.cons (.tmp rfl rfl) .nil) rfl)
        (.c (S.bloadN ti56 .none rfl (.tmp rfl rfl) rfl rfl rfl rfl)
        (.c (S.call (ref_CopyRecord (by omega) hvl) Try.call29 .none rfl (.cons (.tmp rfl rfl) .nil) rfl)
        (.c (S.call (mon_LostIn (by omega)) Try.call30 .none rfl (.cons (.tmp rfl rfl) (.cons (.tmp rfl rfl) .nil)) rfl)
        (.c (S.move .none rfl (.tmp rfl rfl))
        (.c (S.extract .none rfl (.tmp rfl rfl) rfl rfl)
        (.c (S.extract .none rfl (.tmp rfl rfl) rfl rfl)
        (.c (S.assign .none rfl (.tmp rfl rfl))
        (.c (S.assign .none rfl (.tmp rfl rfl))
        .nil)))))))))) (by kernel_rfl) ?_
      refine Ab.D.code ?_
      refine OK.seq ?_
      refine OK.reg ?_
      refine RK.c (S.bloadN ti53 .none rfl (.tmp rfl rfl) rfl rfl rfl rfl) ?_
      refine RK.c (S.call (ref_PlanErr) Try.call31 .none rfl (.cons (.tmp rfl rfl) .nil) rfl) ?_
      refine RK.c (S.assign .none rfl (.cint rfl)) ?_
      refine RK.c (S.assign .none rfl (.tmp rfl rfl)) ?_
      refine RK.nil ?_
      refine Ab.D.code ?_
      refine OK.seq ?_
      refine OK.seq ?_
      refine OK.reg ?_
      refine RK.c (S.move .none rfl (.tmp rfl rfl)) ?_
      refine RK.c (S.eql .none rfl (.tmp rfl rfl) (.cint rfl)) ?_
      refine RK.nil ?_
      refine Ab.D.code ?_
      refine OK.condD rfl rfl (fun c40 => ?_) (fun c40 => ?_)
      ·
        have hchk : recordChk p r = recChk p r := by rw [recordChk, if_neg (by simp [c40])]
        refine OK.reg ?_
        refine RK.c (S.bloadN ti53 .none rfl (.tmp rfl rfl) rfl rfl rfl rfl) ?_
        refine RK.c (S.bloadN ti56 .none rfl (.tmp rfl rfl) rfl rfl rfl rfl) ?_
        refine RK.c (S.call (ref_CheckRecord) Try.call32 .none rfl (.cons (.tmp rfl rfl) (.cons (.tmp rfl rfl) .nil)) rfl) ?_
        refine RK.c (S.move .none rfl (.tmp rfl rfl)) ?_
        refine RK.c (S.extract .none rfl (.tmp rfl rfl) rfl rfl) ?_
        refine RK.c (S.extract .none rfl (.tmp rfl rfl) rfl rfl) ?_
        refine RK.c (S.assign .none rfl (.tmp rfl rfl)) ?_
        refine RK.c (S.assign .none rfl (.tmp rfl rfl)) ?_
        refine RK.nil ?_
        refine Ab.D.code ?_
        refine OK.seq ?_
        refine OK.seq ?_
        refine OK.reg ?_
        refine RK.c (S.move .none rfl (.tmp rfl rfl)) ?_
        refine RK.c (S.move .none rfl (.tmp rfl rfl)) ?_
        refine RK.c (S.neq .none rfl (.tmp rfl rfl) (.tmp rfl rfl)) ?_
        refine RK.c (S.move .none rfl (.tmp rfl rfl)) ?_
        refine RK.splitD (t := 50) rfl (fun g50 => ?_) (fun g50 => ?_)
        ·
          refine RK.c (S.skip rfl rfl rfl rfl rfl) ?_
          refine RK.c (S.skip rfl rfl rfl rfl rfl) ?_
          refine RK.c (S.skip rfl rfl rfl rfl rfl) ?_
          refine RK.c (S.pickT .none rfl (.tmp rfl rfl) .cbool rfl) ?_
          refine RK.nil ?_
          refine Ab.D.code ?_
          refine OK.condT rfl rfl rfl ?_
          refine OK.seq ?_
          refine OK.reg ?_
          refine RK.c (S.assign .none rfl .cbool) ?_
          refine RK.nil ?_
          refine Ab.D.code ?_
          refine OK.ret (Ret.r1 (.tmp rfl rfl (.c (.same rfl) rfl) rfl) ?_)
          first | rfl | (refine ret_abs (g50 ?_); rw [hchk]; done) | (refine ret_abs (c54 ?_); rw [hchk]; done) | (refine ret_abs (g60 ?_); rw [hchk]; done) | exact ret_abs (c56 c40) | (refine ret_dT ?_; rw [hchk, if_neg c56]; rfl) | (refine ret_dT ?_; rw [hchk, if_pos (Decidable.not_not.1 c56)]; done) | (refine ret_abs (g67 ?_); rw [hchk]; exact Decidable.not_not.1 c56)
        ·
          refine RK.c (S.move (.yes rfl rfl rfl rfl) rfl (.tmp rfl rfl)) ?_
          refine RK.c (S.move (.yes rfl rfl rfl rfl) rfl (.tmp rfl rfl)) ?_
          refine RK.c (S.neq (.yes rfl rfl rfl rfl) rfl (.tmp rfl rfl) (.tmp rfl rfl)) ?_
          refine RK.c (S.pickF .none rfl (.tmp rfl rfl) (.tmp rfl rfl) rfl) ?_
          refine RK.nil ?_
          refine Ab.D.code ?_
          refine OK.condD rfl rfl (fun c54 => ?_) (fun c54 => ?_)
          ·
            refine OK.seq ?_
            refine OK.reg ?_
            refine RK.c (S.assign .none rfl .cbool) ?_
            refine RK.nil ?_
            refine Ab.D.code ?_
            refine OK.ret (Ret.r1 (.tmp rfl rfl (.c (.same rfl) rfl) rfl) ?_)
            first | rfl | (refine ret_abs (g50 ?_); rw [hchk]; done) | (refine ret_abs (c54 ?_); rw [hchk]; done) | (refine ret_abs (g60 ?_); rw [hchk]; done) | exact ret_abs (c56 c40) | (refine ret_dT ?_; rw [hchk, if_neg c56]; rfl) | (refine ret_dT ?_; rw [hchk, if_pos (Decidable.not_not.1 c56)]; done) | (refine ret_abs (g67 ?_); rw [hchk]; exact Decidable.not_not.1 c56)
          ·
            refine OK.skip ?_
            refine Ab.D.code ?_
            refine OK.seq ?_
            refine OK.seq ?_
            refine OK.reg ?_
            refine RK.c (S.move .none rfl (.tmp rfl rfl)) ?_
            refine RK.c (S.neq .none rfl (.tmp rfl rfl) (.cint rfl)) ?_
            refine RK.nil ?_
            refine Ab.D.code ?_
            refine OK.condD rfl rfl (fun c56 => ?_) (fun c56 => ?_)
            ·
              refine OK.seq ?_
              refine OK.reg ?_
              refine RK.c (S.move .none rfl (.tmp rfl rfl)) ?_
              refine RK.c (S.move .none rfl (.tmp rfl rfl)) ?_
              refine RK.c (S.eql .none rfl (.tmp rfl rfl) (.tmp rfl rfl)) ?_
              refine RK.c (S.move .none rfl (.tmp rfl rfl)) ?_
              refine RK.splitD (t := 60) rfl (fun g60 => ?_) (fun g60 => ?_)
              ·
                refine RK.c (S.move (.yes rfl rfl rfl rfl) rfl (.tmp rfl rfl)) ?_
                refine RK.c (S.lenM si23 (.yes rfl rfl rfl rfl) rfl (.tmp rfl rfl)) ?_
                refine RK.c (S.eql (.yes rfl rfl rfl rfl) rfl (.tmp rfl rfl) (.cint rfl)) ?_
                refine RK.c (S.pickT .none rfl (.tmp rfl rfl) (.tmp rfl rfl) rfl) ?_
                refine RK.c (S.assign .none rfl (.tmp rfl rfl)) ?_
                refine RK.nil ?_
                refine Ab.D.code ?_
                refine OK.ret (Ret.r1 (.tmp rfl rfl (.c (.same rfl) rfl) rfl) ?_)
                first | rfl | (refine ret_abs (g50 ?_); rw [hchk]; done) | (refine ret_abs (c54 ?_); rw [hchk]; done) | (refine ret_abs (g60 ?_); rw [hchk]; done) | exact ret_abs (c56 c40) | (refine ret_dT ?_; rw [hchk, if_neg c56]; rfl) | (refine ret_dT ?_; rw [hchk, if_pos (Decidable.not_not.1 c56)]; done) | (refine ret_abs (g67 ?_); rw [hchk]; exact Decidable.not_not.1 c56)
              ·
                refine RK.c (S.skip rfl rfl rfl rfl rfl) ?_
                refine RK.c (S.skip rfl rfl rfl rfl rfl) ?_
                refine RK.c (S.skip rfl rfl rfl rfl rfl) ?_
                refine RK.c (S.pickF .none rfl (.tmp rfl rfl) .cbool rfl) ?_
                refine RK.c (S.assign .none rfl (.tmp rfl rfl)) ?_
                refine RK.nil ?_
                refine Ab.D.code ?_
                refine OK.ret (Ret.r1 (.tmp rfl rfl (.c (.same rfl) rfl) rfl) ?_)
                first | rfl | (refine ret_abs (g50 ?_); rw [hchk]; done) | (refine ret_abs (c54 ?_); rw [hchk]; done) | (refine ret_abs (g60 ?_); rw [hchk]; done) | exact ret_abs (c56 c40) | (refine ret_dT ?_; rw [hchk, if_neg c56]; rfl) | (refine ret_dT ?_; rw [hchk, if_pos (Decidable.not_not.1 c56)]; done) | (refine ret_abs (g67 ?_); rw [hchk]; exact Decidable.not_not.1 c56)
            ·
              refine OK.skip ?_
              refine Ab.D.code ?_
              refine OK.seq ?_
              refine OK.reg ?_
              refine RK.c (S.move .none rfl (.tmp rfl rfl)) ?_
              refine RK.c (S.eql .none rfl (.tmp rfl rfl) (.cint rfl)) ?_
              refine RK.c (S.move .none rfl (.tmp rfl rfl)) ?_
              refine RK.splitD (t := 67) rfl (fun g67 => ?_) (fun g67 => ?_)
              ·
                refine RK.c (S.move (.yes rfl rfl rfl rfl) rfl (.tmp rfl rfl)) ?_
                refine RK.c (S.bloadN ti56 (.yes rfl rfl rfl rfl) rfl (.tmp rfl rfl) rfl rfl rfl rfl) ?_
                refine RK.c (S.call (ref_Lost (by omega)) Try.call33 (.yes rfl rfl rfl rfl) rfl (.cons (.tmp rfl rfl) .nil) rfl) ?_
                refine RK.c (S.call (base_Ints) Try.call16 (.yes rfl rfl rfl rfl) rfl (.cons (.tmp rfl rfl) (.cons (.tmp rfl rfl) .nil)) rfl) ?_
                refine RK.c (S.pickT .none rfl (.tmp rfl rfl) (.tmp rfl rfl) rfl) ?_
                refine RK.c (S.assign .none rfl (.tmp rfl rfl)) ?_
                refine RK.nil ?_
                refine Ab.D.code ?_
                refine OK.ret (Ret.r1 (.tmp rfl rfl (.c (.same rfl) rfl) rfl) ?_)
                first | rfl | (refine ret_abs (g50 ?_); rw [hchk]; done) | (refine ret_abs (c54 ?_); rw [hchk]; done) | (refine ret_abs (g60 ?_); rw [hchk]; done) | exact ret_abs (c56 c40) | (refine ret_dT ?_; rw [hchk, if_neg c56]; rfl) | (refine ret_dT ?_; rw [hchk, if_pos (Decidable.not_not.1 c56)]; done) | (refine ret_abs (g67 ?_); rw [hchk]; exact Decidable.not_not.1 c56)
              ·
                refine RK.c (S.skip rfl rfl rfl rfl rfl) ?_
                refine RK.c (S.skip rfl rfl rfl rfl rfl) ?_
                refine RK.c (S.skip rfl rfl rfl rfl rfl) ?_
                refine RK.c (S.skip rfl rfl rfl rfl rfl) ?_
                refine RK.c (S.pickF .none rfl (.tmp rfl rfl) .cbool rfl) ?_
                refine RK.c (S.assign .none rfl (.tmp rfl rfl)) ?_
                refine RK.nil ?_
                refine Ab.D.code ?_
                refine OK.ret (Ret.r1 (.tmp rfl rfl (.c (.same rfl) rfl) rfl) ?_)
                first | rfl | (refine ret_abs (g50 ?_); rw [hchk]; done) | (refine ret_abs (c54 ?_); rw [hchk]; done) | (refine ret_abs (g60 ?_); rw [hchk]; done) | exact ret_abs (c56 c40) | (refine ret_dT ?_; rw [hchk, if_neg c56]; rfl) | (refine ret_dT ?_; rw [hchk, if_pos (Decidable.not_not.1 c56)]; done) | (refine ret_abs (g67 ?_); rw [hchk]; exact Decidable.not_not.1 c56)
      ·
        have hchk : recordChk p r = (0, planErr p) := by rw [recordChk, if_pos c40]
        refine OK.skip ?_
        refine Ab.D.code ?_
        refine OK.seq ?_
        refine OK.seq ?_
        refine OK.reg ?_
        refine RK.c (S.move .none rfl (.tmp rfl rfl)) ?_
        refine RK.c (S.move .none rfl (.tmp rfl rfl)) ?_
        refine RK.c (S.neq .none rfl (.tmp rfl rfl) (.tmp rfl rfl)) ?_
        refine RK.c (S.move .none rfl (.tmp rfl rfl)) ?_
        refine RK.splitD (t := 50) rfl (fun g50 => ?_) (fun g50 => ?_)
        ·
          refine RK.c (S.skip rfl rfl rfl rfl rfl) ?_
          refine RK.c (S.skip rfl rfl rfl rfl rfl) ?_
          refine RK.c (S.skip rfl rfl rfl rfl rfl) ?_
          refine RK.c (S.pickT .none rfl (.tmp rfl rfl) .cbool rfl) ?_
          refine RK.nil ?_
          refine Ab.D.code ?_
          refine OK.condT rfl rfl rfl ?_
          refine OK.seq ?_
          refine OK.reg ?_
          refine RK.c (S.assign .none rfl .cbool) ?_
          refine RK.nil ?_
          refine Ab.D.code ?_
          refine OK.ret (Ret.r1 (.tmp rfl rfl (.c (.same rfl) rfl) rfl) ?_)
          first | rfl | (refine ret_abs (g50 ?_); rw [hchk]; done) | (refine ret_abs (c54 ?_); rw [hchk]; done) | (refine ret_abs (g60 ?_); rw [hchk]; done) | exact ret_abs (c56 c40) | (refine ret_dT ?_; rw [hchk, if_neg c56]; rfl) | (refine ret_dT ?_; rw [hchk, if_pos (Decidable.not_not.1 c56)]; done) | (refine ret_abs (g67 ?_); rw [hchk]; exact Decidable.not_not.1 c56)
        ·
          refine RK.c (S.move (.yes rfl rfl rfl rfl) rfl (.tmp rfl rfl)) ?_
          refine RK.c (S.move (.yes rfl rfl rfl rfl) rfl (.tmp rfl rfl)) ?_
          refine RK.c (S.neq (.yes rfl rfl rfl rfl) rfl (.tmp rfl rfl) (.tmp rfl rfl)) ?_
          refine RK.c (S.pickF .none rfl (.tmp rfl rfl) (.tmp rfl rfl) rfl) ?_
          refine RK.nil ?_
          refine Ab.D.code ?_
          refine OK.condD rfl rfl (fun c54 => ?_) (fun c54 => ?_)
          ·
            refine OK.seq ?_
            refine OK.reg ?_
            refine RK.c (S.assign .none rfl .cbool) ?_
            refine RK.nil ?_
            refine Ab.D.code ?_
            refine OK.ret (Ret.r1 (.tmp rfl rfl (.c (.same rfl) rfl) rfl) ?_)
            first | rfl | (refine ret_abs (g50 ?_); rw [hchk]; done) | (refine ret_abs (c54 ?_); rw [hchk]; done) | (refine ret_abs (g60 ?_); rw [hchk]; done) | exact ret_abs (c56 c40) | (refine ret_dT ?_; rw [hchk, if_neg c56]; rfl) | (refine ret_dT ?_; rw [hchk, if_pos (Decidable.not_not.1 c56)]; done) | (refine ret_abs (g67 ?_); rw [hchk]; exact Decidable.not_not.1 c56)
          ·
            refine OK.skip ?_
            refine Ab.D.code ?_
            refine OK.seq ?_
            refine OK.seq ?_
            refine OK.reg ?_
            refine RK.c (S.move .none rfl (.tmp rfl rfl)) ?_
            refine RK.c (S.neq .none rfl (.tmp rfl rfl) (.cint rfl)) ?_
            refine RK.nil ?_
            refine Ab.D.code ?_
            refine OK.condD rfl rfl (fun c56 => ?_) (fun c56 => ?_)
            ·
              refine OK.seq ?_
              refine OK.reg ?_
              refine RK.c (S.move .none rfl (.tmp rfl rfl)) ?_
              refine RK.c (S.move .none rfl (.tmp rfl rfl)) ?_
              refine RK.c (S.eql .none rfl (.tmp rfl rfl) (.tmp rfl rfl)) ?_
              refine RK.c (S.move .none rfl (.tmp rfl rfl)) ?_
              refine RK.splitD (t := 60) rfl (fun g60 => ?_) (fun g60 => ?_)
              ·
                refine RK.c (S.move (.yes rfl rfl rfl rfl) rfl (.tmp rfl rfl)) ?_
                refine RK.c (S.lenM si23 (.yes rfl rfl rfl rfl) rfl (.tmp rfl rfl)) ?_
                refine RK.c (S.eql (.yes rfl rfl rfl rfl) rfl (.tmp rfl rfl) (.cint rfl)) ?_
                refine RK.c (S.pickT .none rfl (.tmp rfl rfl) (.tmp rfl rfl) rfl) ?_
                refine RK.c (S.assign .none rfl (.tmp rfl rfl)) ?_
                refine RK.nil ?_
                refine Ab.D.code ?_
                refine OK.ret (Ret.r1 (.tmp rfl rfl (.c (.same rfl) rfl) rfl) ?_)
                first | rfl | (refine ret_abs (g50 ?_); rw [hchk]; done) | (refine ret_abs (c54 ?_); rw [hchk]; done) | (refine ret_abs (g60 ?_); rw [hchk]; done) | exact ret_abs (c56 c40) | (refine ret_dT ?_; rw [hchk, if_neg c56]; rfl) | (refine ret_dT ?_; rw [hchk, if_pos (Decidable.not_not.1 c56)]; done) | (refine ret_abs (g67 ?_); rw [hchk]; exact Decidable.not_not.1 c56)
              ·
                refine RK.c (S.skip rfl rfl rfl rfl rfl) ?_
                refine RK.c (S.skip rfl rfl rfl rfl rfl) ?_
                refine RK.c (S.skip rfl rfl rfl rfl rfl) ?_
                refine RK.c (S.pickF .none rfl (.tmp rfl rfl) .cbool rfl) ?_
                refine RK.c (S.assign .none rfl (.tmp rfl rfl)) ?_
                refine RK.nil ?_
                refine Ab.D.code ?_
                refine OK.ret (Ret.r1 (.tmp rfl rfl (.c (.same rfl) rfl) rfl) ?_)
                first | rfl | (refine ret_abs (g50 ?_); rw [hchk]; done) | (refine ret_abs (c54 ?_); rw [hchk]; done) | (refine ret_abs (g60 ?_); rw [hchk]; done) | exact ret_abs (c56 c40) | (refine ret_dT ?_; rw [hchk, if_neg c56]; rfl) | (refine ret_dT ?_; rw [hchk, if_pos (Decidable.not_not.1 c56)]; done) | (refine ret_abs (g67 ?_); rw [hchk]; exact Decidable.not_not.1 c56)
            ·
              refine OK.skip ?_
              refine Ab.D.code ?_
              refine OK.seq ?_
              refine OK.reg ?_
              refine RK.c (S.move .none rfl (.tmp rfl rfl)) ?_
              refine RK.c (S.eql .none rfl (.tmp rfl rfl) (.cint rfl)) ?_
              refine RK.c (S.move .none rfl (.tmp rfl rfl)) ?_
              refine RK.splitD (t := 67) rfl (fun g67 => ?_) (fun g67 => ?_)
              ·
                refine RK.c (S.move (.yes rfl rfl rfl rfl) rfl (.tmp rfl rfl)) ?_
                refine RK.c (S.bloadN ti56 (.yes rfl rfl rfl rfl) rfl (.tmp rfl rfl) rfl rfl rfl rfl) ?_
                refine RK.c (S.call (ref_Lost (by omega)) Try.call33 (.yes rfl rfl rfl rfl) rfl (.cons (.tmp rfl rfl) .nil) rfl) ?_
                refine RK.c (S.call (base_Ints) Try.call16 (.yes rfl rfl rfl rfl) rfl (.cons (.tmp rfl rfl) (.cons (.tmp rfl rfl) .nil)) rfl) ?_
                refine RK.c (S.pickT .none rfl (.tmp rfl rfl) (.tmp rfl rfl) rfl) ?_
                refine RK.c (S.assign .none rfl (.tmp rfl rfl)) ?_
                refine RK.nil ?_
                refine Ab.D.code ?_
                refine OK.ret (Ret.r1 (.tmp rfl rfl (.c (.same rfl) rfl) rfl) ?_)
                first | rfl | (refine ret_abs (g50 ?_); rw [hchk]; done) | (refine ret_abs (c54 ?_); rw [hchk]; done) | (refine ret_abs (g60 ?_); rw [hchk]; done) | exact ret_abs (c56 c40) | (refine ret_dT ?_; rw [hchk, if_neg c56]; rfl) | (refine ret_dT ?_; rw [hchk, if_pos (Decidable.not_not.1 c56)]; done) | (refine ret_abs (g67 ?_); rw [hchk]; exact Decidable.not_not.1 c56)
              ·
                refine RK.c (S.skip rfl rfl rfl rfl rfl) ?_
                refine RK.c (S.skip rfl rfl rfl rfl rfl) ?_
                refine RK.c (S.skip rfl rfl rfl rfl rfl) ?_
                refine RK.c (S.skip rfl rfl rfl rfl rfl) ?_
                refine RK.c (S.pickF .none rfl (.tmp rfl rfl) .cbool rfl) ?_
                refine RK.c (S.assign .none rfl (.tmp rfl rfl)) ?_
                refine RK.nil ?_
                refine Ab.D.code ?_
                refine OK.ret (Ret.r1 (.tmp rfl rfl (.c (.same rfl) rfl) rfl) ?_)
                first | rfl | (refine ret_abs (g50 ?_); rw [hchk]; done) | (refine ret_abs (c54 ?_); rw [hchk]; done) | (refine ret_abs (g60 ?_); rw [hchk]; done) | exact ret_abs (c56 c40) | (refine ret_dT ?_; rw [hchk, if_neg c56]; rfl) | (refine ret_dT ?_; rw [hchk, if_pos (Decidable.not_not.1 c56)]; done) | (refine ret_abs (g67 ?_); rw [hchk]; exact Decidable.not_not.1 c56)

end Go.Proofs.Ytfjldfkgjejpmaa
