/-
  The law of alarms.
-/
import Derived.Test.YtfjldfkgjejpmaaGreatSh
import Derived.Test.YtfjldfkgjejpmaaGreatFu
import Derived.Test.YtfjldfkgjejpmaaGreatWx
namespace Go.Proofs.YtfjldfkgjejpmaaGreat
open Go.Ab


set_option maxHeartbeats 1000000 in
theorem law_MonitorAlarms {p : Plan} {x : LearnedX} {parts : Int} : Ct Tryz.prog 6 [.agg p.cs, .agg x.cs, .int .i64 parts] (.bool true) := by
  refine Ct.intro (rs := [.tmp 6]) Tryz.func6 rfl Tryz.ntmps6 Tryz.results6 rfl rfl rfl fun w h => ?_
  refine OK.seq ?_
  refine OK.reg ?_
  refine RK.c (S.box (k := 3) rfl .none rfl (.tmp rfl rfl) rfl) ?_
  refine RK.c (S.box (k := 4) rfl .none rfl (.tmp rfl rfl) rfl) ?_
  refine RK.c (S.assign .none rfl .cbool) ?_
  refine RK.nil ?_
  refine Ab.D.code ?_
  refine OK.seq ?_
  refine OK.seq ?_
  refine OK.reg ?_
  refine RK.c (S.call (law_awake) Tryz.call9 .none rfl .nil rfl) ?_
  refine RK.c (S.not .none rfl (.tmp rfl rfl)) ?_
  refine RK.nil ?_
  refine Ab.D.code ?_
  refine OK.condF rfl rfl rfl ?_
  refine OK.skip ?_
  refine Ab.D.code ?_
  refine OK.seq ?_
  refine OK.seq ?_
  refine OK.reg ?_
  refine RK.c (S.bloadN ti24 .none rfl (.tmp rfl rfl) rfl rfl rfl rfl) ?_
  refine RK.c (S.call (law_Few) Tryz.call10 .none rfl (.cons (.tmp rfl rfl) .nil) rfl) ?_
  refine RK.c (S.not .none rfl (.tmp rfl rfl)) ?_
  refine RK.c (S.move .none rfl (.tmp rfl rfl)) ?_
  refine RK.split (t := 17) rfl (fun g17 => ?_) (fun g17 => ?_)
  ·
    refine RK.c (S.skip rfl rfl rfl rfl rfl) ?_
    refine RK.c (S.skip rfl rfl rfl rfl rfl) ?_
    refine RK.c (S.skip rfl rfl rfl rfl rfl) ?_
    refine RK.c (S.skip rfl rfl rfl rfl rfl) ?_
    refine RK.c (S.pickT .none rfl (.tmp rfl rfl) .cbool rfl) ?_
    refine RK.nil ?_
    refine Ab.D.code ?_
    refine OK.condT rfl rfl rfl ?_
    refine OK.seq ?_
    refine OK.reg ?_
    refine RK.c (S.assign .none rfl .cbool) ?_
    refine RK.nil ?_
    refine Ab.D.code ?_
    refine OK.ret (Ret.r1 (.tmp rfl rfl (.c (.same rfl) rfl) rfl) ?_)
    first | rfl | (refine ret_dT ?_; omega) | (refine ret_abs ?_; omega) | (refine ret_dT ?_; exact hl1) | (refine ret_abs ?_; exact g60 hb1) | (refine ret_abs ?_; exact c81 hb1) | (refine ret_dT ?_; exact hfin)
  ·
    refine RK.c (S.bfield fi27_0 (.yes rfl rfl rfl rfl) rfl (.tmp rfl rfl)) ?_
    refine RK.c (S.bload1 ti25 (.yes rfl rfl rfl rfl) rfl (.tmp rfl rfl) rfl rfl rfl rfl) ?_
    refine RK.c (S.call (law_shortRecords) Tryz.call11 (.yes rfl rfl rfl rfl) rfl (.cons (.tmp rfl rfl) .nil) rfl) ?_
    refine RK.c (S.not (.yes rfl rfl rfl rfl) rfl (.tmp rfl rfl)) ?_
    refine RK.c (S.pickF .none rfl (.tmp rfl rfl) (.tmp rfl rfl) rfl) ?_
    refine RK.nil ?_
    refine Ab.D.code ?_
    refine OK.cond rfl rfl (fun c22 => ?_) (fun c22 => ?_)
    ·
      refine OK.seq ?_
      refine OK.reg ?_
      refine RK.c (S.assign .none rfl .cbool) ?_
      refine RK.nil ?_
      refine Ab.D.code ?_
      refine OK.ret (Ret.r1 (.tmp rfl rfl (.c (.same rfl) rfl) rfl) ?_)
      first | rfl | (refine ret_dT ?_; omega) | (refine ret_abs ?_; omega) | (refine ret_dT ?_; exact hl1) | (refine ret_abs ?_; exact g60 hb1) | (refine ret_abs ?_; exact c81 hb1) | (refine ret_dT ?_; exact hfin)
    ·
      have hF : fewT p = true := by simpa using g17
      have hS : shortRecs x.records = true := by simpa using c22
      have hp := few_len hF
      obtain ⟨hr1, hr2, hr3⟩ := shortRecs_len hS
      have hop : openRecs p x.records = if planErr p ≠ 0 then planErr p else recsErr p x.records := rfl
      have hal : alErr p x.records x.trim = if openRecs p x.records ≠ 0 then openRecs p x.records else if x.records.length = 1 then 12 else trimErr x.trim ((x.records.length : Int) - 1) := rfl
      have hbe : boundErr p parts x.trim = if planErr p ≠ 0 then planErr p else if ¬ (1 ≤ parts ∧ parts ≤ 20) then 2 else trimErr x.trim parts := rfl
      have hb0 : ¬ boundErr p parts x.trim = 0 → [(alarmT p parts x.trim).num, (alarmT p parts x.trim).den] = [0, 0] := fun h => by rw [alarmT, if_neg h]
      have hl0 : ¬ alErr p x.records x.trim = 0 → (if alErr p x.records x.trim = 0 then alUp p x.records x.trim x.records.length else []).length = 0 := fun h => by rw [if_neg h]; rfl
      refine OK.skip ?_
      refine Ab.D.code ?_
      refine OK.seq ?_
      refine OK.regionDraw follows (.c (S.bloadN ti24 .none rfl (.tmp rfl rfl) rfl rfl rfl rfl)
        (.c (S.call (ref_CopyPlan (by omega)) Tryz.call13 .none rfl (.cons (.tmp rfl rfl) .nil) rfl)
        (.c (S.move .none rfl (.tmp rfl rfl))
        (.c (S.bfield fi27_1 .none rfl (.tmp rfl rfl))
        (.c (S.bload1 ti3 .none rfl (.tmp rfl rfl) rfl rfl rfl rfl)
        (.c (S.call (mon_AlarmBound) Tryz.call34 .none rfl (.cons (.tmp rfl rfl) (.cons (.tmp rfl rfl) (.cons (.tmp rfl rfl) .nil))) rfl)
        (.c (S.move .none rfl (.tmp rfl rfl))
        (.c (S.extract .none rfl (.tmp rfl rfl) rfl rfl)
        (.c (S.extract .none rfl (.tmp rfl rfl) rfl rfl)
        (.c (S.alloc (k := 7) ze74 rfl .none rfl)
        (.c (S.store ti74 .none (.tmp rfl rfl) (.tmp rfl rfl) rfl rfl rfl rfl rfl rfl)
        (.c (S.assign .none rfl (.tmp rfl rfl))
        .nil)))))))))))) (by kernel_rfl) ?_
      refine Ab.D.code ?_
      refine OK.seq ?_
      refine OK.regionDraw follows (.c (S.bloadN ti24 .none rfl (.tmp rfl rfl) rfl rfl rfl rfl)
        (.c (S.call (ref_CopyPlan (by omega)) Tryz.call13 .none rfl (.cons (.tmp rfl rfl) .nil) rfl)
        (.c (S.bfield fi27_0 .none rfl (.tmp rfl rfl))
        (.c (S.bload1 ti25 .none rfl (.tmp rfl rfl) rfl rfl rfl rfl)
        (.c (S.call (ref_CopyRecords (by omega) (fun i h => by have := hr2 i h; omega) (fun i h k h2 => by have := hr3 i h k h2; omega)) Tryz.call14 .none rfl (.cons (.tmp rfl rfl) .nil) rfl)
        (.c (S.bfield fi27_1 .none rfl (.tmp rfl rfl))
        (.c (S.bload1 ti3 .none rfl (.tmp rfl rfl) rfl rfl rfl rfl)
        (.c (S.call (mon_AlarmsAmong) Tryz.call35 .none rfl (.cons (.tmp rfl rfl) (.cons (.tmp rfl rfl) (.cons (.tmp rfl rfl) .nil))) rfl)
        (.c (S.move .none rfl (.tmp rfl rfl))
        (.c (S.extract .none rfl (.tmp rfl rfl) rfl rfl)
        (.c (S.extract .none rfl (.tmp rfl rfl) rfl rfl)
        (.c (S.assign .none rfl (.tmp rfl rfl))
        (.c (S.assign .none rfl (.tmp rfl rfl))
        .nil))))))))))))) (by kernel_rfl) ?_
      refine Ab.D.code ?_
      refine OK.seq ?_
      refine OK.reg ?_
      refine RK.c (S.bloadN ti24 .none rfl (.tmp rfl rfl) rfl rfl rfl rfl) ?_
      refine RK.c (S.call (ref_PlanErr) Tryz.call15 .none rfl (.cons (.tmp rfl rfl) .nil) rfl) ?_
      refine RK.c (S.assign .none rfl (.tmp rfl rfl)) ?_
      refine RK.nil ?_
      refine Ab.D.code ?_
      refine OK.seq ?_
      refine OK.seq ?_
      refine OK.reg ?_
      refine RK.c (S.move .none rfl (.tmp rfl rfl)) ?_
      refine RK.c (S.neq .none rfl (.tmp rfl rfl) (.cint rfl)) ?_
      refine RK.nil ?_
      refine Ab.D.code ?_
      refine OK.condD rfl rfl (fun c46 => ?_) (fun c46 => ?_)
      ·
        have hb1 := hb0 (by omega)
        have hl1 := hl0 (by omega)
        refine OK.seq ?_
        refine OK.reg ?_
        refine RK.c (S.move .none rfl (.tmp rfl rfl)) ?_
        refine RK.c (S.move .none rfl (.tmp rfl rfl)) ?_
        refine RK.c (S.eql .none rfl (.tmp rfl rfl) (.tmp rfl rfl)) ?_
        refine RK.c (S.move .none rfl (.tmp rfl rfl)) ?_
        refine RK.splitD (t := 50) rfl (fun g50 => ?_) (fun g50 => ?_)
        ·
          refine RK.c (S.move (.yes rfl rfl rfl rfl) rfl (.tmp rfl rfl)) ?_
          refine RK.c (S.move (.yes rfl rfl rfl rfl) rfl (.tmp rfl rfl)) ?_
          refine RK.c (S.eql (.yes rfl rfl rfl rfl) rfl (.tmp rfl rfl) (.tmp rfl rfl)) ?_
          refine RK.c (S.pickT .none rfl (.tmp rfl rfl) (.tmp rfl rfl) rfl) ?_
          refine RK.c (S.move .none rfl (.tmp rfl rfl)) ?_
          refine RK.splitD (t := 55) rfl (fun g55 => ?_) (fun g55 => ?_)
          ·
            refine RK.c (S.bloadN ti74 (.yes rfl rfl rfl rfl) rfl (.tmp rfl rfl) rfl rfl rfl rfl) ?_
            refine RK.c (S.build bu74 rfl (.yes rfl rfl rfl rfl) rfl .nil rfl rfl) ?_
            refine RK.c (S.aeql [(alarmT p parts x.trim).num, (alarmT p parts x.trim).den] [0, 0] eq74 (.yes rfl rfl rfl rfl) rfl (.tmp rfl rfl) (.tmp rfl rfl) rfl rfl rfl rfl) ?_
            refine RK.c (S.pickT .none rfl (.tmp rfl rfl) (.tmp rfl rfl) rfl) ?_
            refine RK.c (S.move .none rfl (.tmp rfl rfl)) ?_
            refine RK.splitD (t := 60) rfl (fun g60 => ?_) (fun g60 => ?_)
            ·
              refine RK.c (S.move (.yes rfl rfl rfl rfl) rfl (.tmp rfl rfl)) ?_
              refine RK.c (S.lenM si57 (.yes rfl rfl rfl rfl) rfl (.tmp rfl rfl)) ?_
              refine RK.c (S.eql (.yes rfl rfl rfl rfl) rfl (.tmp rfl rfl) (.cint rfl)) ?_
              refine RK.c (S.pickT .none rfl (.tmp rfl rfl) (.tmp rfl rfl) rfl) ?_
              refine RK.c (S.assign .none rfl (.tmp rfl rfl)) ?_
              refine RK.nil ?_
              refine Ab.D.code ?_
              refine OK.ret (Ret.r1 (.tmp rfl rfl (.c (.same rfl) rfl) rfl) ?_)
              first | rfl | (refine ret_dT ?_; omega) | (refine ret_abs ?_; omega) | (refine ret_dT ?_; exact hl1) | (refine ret_abs ?_; exact g60 hb1) | (refine ret_abs ?_; exact c81 hb1) | (refine ret_dT ?_; exact hfin)
            ·
              refine RK.c (S.skip rfl rfl rfl rfl rfl) ?_
              refine RK.c (S.skip rfl rfl rfl rfl rfl) ?_
              refine RK.c (S.skip rfl rfl rfl rfl rfl) ?_
              refine RK.c (S.pickF .none rfl (.tmp rfl rfl) .cbool rfl) ?_
              refine RK.c (S.assign .none rfl (.tmp rfl rfl)) ?_
              refine RK.nil ?_
              refine Ab.D.code ?_
              refine OK.ret (Ret.r1 (.tmp rfl rfl (.c (.same rfl) rfl) rfl) ?_)
              first | rfl | (refine ret_dT ?_; omega) | (refine ret_abs ?_; omega) | (refine ret_dT ?_; exact hl1) | (refine ret_abs ?_; exact g60 hb1) | (refine ret_abs ?_; exact c81 hb1) | (refine ret_dT ?_; exact hfin)
          ·
            refine RK.c (S.skip rfl rfl rfl rfl rfl) ?_
            refine RK.c (S.skip rfl rfl rfl rfl rfl) ?_
            refine RK.c (S.skip rfl rfl rfl rfl rfl) ?_
            refine RK.c (S.pickF .none rfl (.tmp rfl rfl) .cbool rfl) ?_
            refine RK.c (S.move .none rfl (.tmp rfl rfl)) ?_
            refine RK.c (S.skip rfl rfl rfl rfl rfl) ?_
            refine RK.c (S.skip rfl rfl rfl rfl rfl) ?_
            refine RK.c (S.skip rfl rfl rfl rfl rfl) ?_
            refine RK.c (S.pickF .none rfl (.tmp rfl rfl) .cbool rfl) ?_
            refine RK.c (S.assign .none rfl (.tmp rfl rfl)) ?_
            refine RK.nil ?_
            refine Ab.D.code ?_
            refine OK.ret (Ret.r1 (.tmp rfl rfl (.c (.same rfl) rfl) rfl) ?_)
            first | rfl | (refine ret_dT ?_; omega) | (refine ret_abs ?_; omega) | (refine ret_dT ?_; exact hl1) | (refine ret_abs ?_; exact g60 hb1) | (refine ret_abs ?_; exact c81 hb1) | (refine ret_dT ?_; exact hfin)
        ·
          refine RK.c (S.skip rfl rfl rfl rfl rfl) ?_
          refine RK.c (S.skip rfl rfl rfl rfl rfl) ?_
          refine RK.c (S.skip rfl rfl rfl rfl rfl) ?_
          refine RK.c (S.pickF .none rfl (.tmp rfl rfl) .cbool rfl) ?_
          refine RK.c (S.move .none rfl (.tmp rfl rfl)) ?_
          refine RK.c (S.skip rfl rfl rfl rfl rfl) ?_
          refine RK.c (S.skip rfl rfl rfl rfl rfl) ?_
          refine RK.c (S.skip rfl rfl rfl rfl rfl) ?_
          refine RK.c (S.pickF .none rfl (.tmp rfl rfl) .cbool rfl) ?_
          refine RK.c (S.move .none rfl (.tmp rfl rfl)) ?_
          refine RK.c (S.skip rfl rfl rfl rfl rfl) ?_
          refine RK.c (S.skip rfl rfl rfl rfl rfl) ?_
          refine RK.c (S.skip rfl rfl rfl rfl rfl) ?_
          refine RK.c (S.pickF .none rfl (.tmp rfl rfl) .cbool rfl) ?_
          refine RK.c (S.assign .none rfl (.tmp rfl rfl)) ?_
          refine RK.nil ?_
          refine Ab.D.code ?_
          refine OK.ret (Ret.r1 (.tmp rfl rfl (.c (.same rfl) rfl) rfl) ?_)
          first | rfl | (refine ret_dT ?_; omega) | (refine ret_abs ?_; omega) | (refine ret_dT ?_; exact hl1) | (refine ret_abs ?_; exact g60 hb1) | (refine ret_abs ?_; exact c81 hb1) | (refine ret_dT ?_; exact hfin)
      ·
        have hp0 : planErr p = 0 := Decidable.not_not.1 c46
        refine OK.skip ?_
        refine Ab.D.code ?_
        refine OK.seq ?_
        refine OK.seq ?_
        refine OK.reg ?_
        refine RK.c (S.move .none rfl (.tmp rfl rfl)) ?_
        refine RK.c (S.call (base_Within) Tryz.call24 .none rfl (.cons (.tmp rfl rfl) (.cons (.cint rfl) (.cons (.cint rfl) .nil))) rfl) ?_
        refine RK.c (S.notD .none rfl (.tmp rfl rfl)) ?_
        refine RK.c (S.move .none rfl (.tmp rfl rfl)) ?_
        refine RK.splitD (t := 68) rfl (fun g68 => ?_) (fun g68 => ?_)
        ·
          have hb2 : boundErr p parts x.trim = 2 := by omega
          have hb1 := hb0 (by omega)
          refine RK.c (S.skip rfl rfl rfl rfl rfl) ?_
          refine RK.c (S.skip rfl rfl rfl rfl rfl) ?_
          refine RK.c (S.skip rfl rfl rfl rfl rfl) ?_
          refine RK.c (S.skip rfl rfl rfl rfl rfl) ?_
          refine RK.c (S.skip rfl rfl rfl rfl rfl) ?_
          refine RK.c (S.pickT .none rfl (.tmp rfl rfl) .cbool rfl) ?_
          refine RK.nil ?_
          refine Ab.D.code ?_
          refine OK.condT rfl rfl rfl ?_
          refine OK.seq ?_
          refine OK.reg ?_
          refine RK.c (S.move .none rfl (.tmp rfl rfl)) ?_
          refine RK.c (S.neq .none rfl (.tmp rfl rfl) (.cint rfl)) ?_
          refine RK.c (S.move .none rfl (.tmp rfl rfl)) ?_
          refine RK.splitD (t := 77) rfl (fun g77 => ?_) (fun g77 => ?_)
          ·
            refine RK.c (S.skip rfl rfl rfl rfl rfl) ?_
            refine RK.c (S.skip rfl rfl rfl rfl rfl) ?_
            refine RK.c (S.skip rfl rfl rfl rfl rfl) ?_
            refine RK.c (S.pickT .none rfl (.tmp rfl rfl) .cbool rfl) ?_
            refine RK.nil ?_
            refine Ab.D.code ?_
            refine OK.condT rfl rfl rfl ?_
            refine OK.seq ?_
            refine OK.reg ?_
            refine RK.c (S.assign .none rfl .cbool) ?_
            refine RK.nil ?_
            refine Ab.D.code ?_
            refine OK.ret (Ret.r1 (.tmp rfl rfl (.c (.same rfl) rfl) rfl) ?_)
            first | rfl | (refine ret_dT ?_; omega) | (refine ret_abs ?_; omega) | (refine ret_dT ?_; exact hl1) | (refine ret_abs ?_; exact g60 hb1) | (refine ret_abs ?_; exact c81 hb1) | (refine ret_dT ?_; exact hfin)
          ·
            refine RK.c (S.bloadN ti74 (.yes rfl rfl rfl rfl) rfl (.tmp rfl rfl) rfl rfl rfl rfl) ?_
            refine RK.c (S.build bu74 rfl (.yes rfl rfl rfl rfl) rfl .nil rfl rfl) ?_
            refine RK.c (S.aneq [(alarmT p parts x.trim).num, (alarmT p parts x.trim).den] [0, 0] eq74 (.yes rfl rfl rfl rfl) rfl (.tmp rfl rfl) (.tmp rfl rfl) rfl rfl rfl rfl) ?_
            refine RK.c (S.pickF .none rfl (.tmp rfl rfl) (.tmp rfl rfl) rfl) ?_
            refine RK.nil ?_
            refine Ab.D.code ?_
            refine OK.condD rfl rfl (fun c81 => ?_) (fun c81 => ?_)
            ·
              refine OK.seq ?_
              refine OK.reg ?_
              refine RK.c (S.assign .none rfl .cbool) ?_
              refine RK.nil ?_
              refine Ab.D.code ?_
              refine OK.ret (Ret.r1 (.tmp rfl rfl (.c (.same rfl) rfl) rfl) ?_)
              first | rfl | (refine ret_dT ?_; omega) | (refine ret_abs ?_; omega) | (refine ret_dT ?_; exact hl1) | (refine ret_abs ?_; exact g60 hb1) | (refine ret_abs ?_; exact c81 hb1) | (refine ret_dT ?_; exact hfin)
            ·
              refine OK.skip ?_
              refine Ab.D.code ?_
              refine OK.seq ?_
              refine OK.reg ?_
              refine RK.c (S.bloadN ti24 .none rfl (.tmp rfl rfl) rfl rfl rfl rfl) ?_
              refine RK.c (S.bfield fi27_0 .none rfl (.tmp rfl rfl)) ?_
              refine RK.c (S.bload1 ti25 .none rfl (.tmp rfl rfl) rfl rfl rfl rfl) ?_
              refine RK.c (S.call (ref_RecordsErr hp0) Tryz.call16 .none rfl (.cons (.tmp rfl rfl) (.cons (.tmp rfl rfl) .nil)) rfl) ?_
              refine RK.c (S.assign .none rfl (.tmp rfl rfl)) ?_
              refine RK.nil ?_
              refine Ab.D.code ?_
              refine OK.seq ?_
              refine OK.seq ?_
              refine OK.reg ?_
              refine RK.c (S.move .none rfl (.tmp rfl rfl)) ?_
              refine RK.c (S.eql .none rfl (.tmp rfl rfl) (.cint rfl)) ?_
              refine RK.c (S.move .none rfl (.tmp rfl rfl)) ?_
              refine RK.splitD (t := 99) rfl (fun g99 => ?_) (fun g99 => ?_)
              ·
                refine RK.c (S.bfield fi27_0 (.yes rfl rfl rfl rfl) rfl (.tmp rfl rfl)) ?_
                refine RK.c (S.bload1 ti25 (.yes rfl rfl rfl rfl) rfl (.tmp rfl rfl) rfl rfl rfl rfl) ?_
                refine RK.c (S.lenM si25 (.yes rfl rfl rfl rfl) rfl (.tmp rfl rfl)) ?_
                refine RK.c (S.eql (.yes rfl rfl rfl rfl) rfl (.tmp rfl rfl) (.cint rfl)) ?_
                refine RK.c (S.pickT .none rfl (.tmp rfl rfl) (.tmp rfl rfl) rfl) ?_
                refine RK.nil ?_
                refine Ab.D.code ?_
                refine OK.condD rfl rfl (fun c104 => ?_) (fun c104 => ?_)
                ·
                  refine OK.reg ?_
                  refine RK.c (S.assign .none rfl (.cint rfl)) ?_
                  refine RK.nil ?_
                  refine Ab.D.code ?_
                  refine OK.seq ?_
                  refine OK.seq ?_
                  refine OK.reg ?_
                  refine RK.c (S.move .none rfl (.tmp rfl rfl)) ?_
                  refine RK.c (S.eql .none rfl (.tmp rfl rfl) (.cint rfl)) ?_
                  refine RK.nil ?_
                  refine Ab.D.code ?_
                  refine OK.condD rfl rfl (fun c106 => ?_) (fun c106 => ?_)
                  ·
                    refine OK.reg ?_
                    refine RK.c (S.bfield fi27_1 .none rfl (.tmp rfl rfl)) ?_
                    refine RK.c (S.bload1 ti3 .none rfl (.tmp rfl rfl) rfl rfl rfl rfl) ?_
                    refine RK.c (S.bfield fi27_0 .none rfl (.tmp rfl rfl)) ?_
                    refine RK.c (S.bload1 ti25 .none rfl (.tmp rfl rfl) rfl rfl rfl rfl) ?_
                    refine RK.c (S.lenM si25 .none rfl (.tmp rfl rfl)) ?_
                    refine RK.c (S.sub .none rfl (.tmp rfl rfl) (.cint rfl) (IntWalk.i64_in _ (by omega)) (IntWalk.i64_in _ (by omega))) ?_
                    refine RK.c (S.call (ref_TrimErr (by omega)) Tryz.call17 .none rfl (.cons (.tmp rfl rfl) (.cons (.tmp rfl rfl) .nil)) rfl) ?_
                    refine RK.c (S.assign .none rfl (.tmp rfl rfl)) ?_
                    refine RK.nil ?_
                    refine Ab.D.code ?_
                    refine OK.seq ?_
                    refine OK.seq ?_
                    refine OK.reg ?_
                    refine RK.c (S.move .none rfl (.tmp rfl rfl)) ?_
                    refine RK.c (S.neq .none rfl (.tmp rfl rfl) (.cint rfl)) ?_
                    refine RK.nil ?_
                    refine Ab.D.code ?_
                    refine OK.condD rfl rfl (fun c115 => ?_) (fun c115 => ?_)
                    ·
                      have hl1 := hl0 (by omega)
                      refine OK.seq ?_
                      refine OK.reg ?_
                      refine RK.c (S.move .none rfl (.tmp rfl rfl)) ?_
                      refine RK.c (S.move .none rfl (.tmp rfl rfl)) ?_
                      refine RK.c (S.eql .none rfl (.tmp rfl rfl) (.tmp rfl rfl)) ?_
                      refine RK.c (S.move .none rfl (.tmp rfl rfl)) ?_
                      refine RK.splitD (t := 119) rfl (fun g119 => ?_) (fun g119 => ?_)
                      ·
                        refine RK.c (S.move (.yes rfl rfl rfl rfl) rfl (.tmp rfl rfl)) ?_
                        refine RK.c (S.lenM si57 (.yes rfl rfl rfl rfl) rfl (.tmp rfl rfl)) ?_
                        refine RK.c (S.eql (.yes rfl rfl rfl rfl) rfl (.tmp rfl rfl) (.cint rfl)) ?_
                        refine RK.c (S.pickT .none rfl (.tmp rfl rfl) (.tmp rfl rfl) rfl) ?_
                        refine RK.c (S.assign .none rfl (.tmp rfl rfl)) ?_
                        refine RK.nil ?_
                        refine Ab.D.code ?_
                        refine OK.ret (Ret.r1 (.tmp rfl rfl (.c (.same rfl) rfl) rfl) ?_)
                        first | rfl | (refine ret_dT ?_; omega) | (refine ret_abs ?_; omega) | (refine ret_dT ?_; exact hl1) | (refine ret_abs ?_; exact g60 hb1) | (refine ret_abs ?_; exact c81 hb1) | (refine ret_dT ?_; exact hfin)
                      ·
                        refine RK.c (S.skip rfl rfl rfl rfl rfl) ?_
                        refine RK.c (S.skip rfl rfl rfl rfl rfl) ?_
                        refine RK.c (S.skip rfl rfl rfl rfl rfl) ?_
                        refine RK.c (S.pickF .none rfl (.tmp rfl rfl) .cbool rfl) ?_
                        refine RK.c (S.assign .none rfl (.tmp rfl rfl)) ?_
                        refine RK.nil ?_
                        refine Ab.D.code ?_
                        refine OK.ret (Ret.r1 (.tmp rfl rfl (.c (.same rfl) rfl) rfl) ?_)
                        first | rfl | (refine ret_dT ?_; omega) | (refine ret_abs ?_; omega) | (refine ret_dT ?_; exact hl1) | (refine ret_abs ?_; exact g60 hb1) | (refine ret_abs ?_; exact c81 hb1) | (refine ret_dT ?_; exact hfin)
                    ·
                      have he : alErr p x.records x.trim = 0 := by omega
                      have hrz : recsErr p x.records = 0 := by omega
                      have hL := learn_of hp0 hrz
                      have hLl := hL.len
                      have hl2 : 2 ≤ x.records.length := by omega
                      have htz : trimErr x.trim ((x.records.length : Int) - 1) = 0 := by omega
                      have hfin : (if alErr p x.records x.trim = 0 then alUp p x.records x.trim x.records.length else []) = alUp p x.records x.trim x.records.length := if_pos he
                      refine OK.skip ?_
                      refine Ab.D.code ?_
                      refine OK.seq ?_
                      refine OK.reg ?_
                      refine RK.c (S.move .none rfl (.tmp rfl rfl)) ?_
                      refine RK.c (S.eql .none rfl (.tmp rfl rfl) (.cint rfl)) ?_
                      refine RK.c (S.move .none rfl (.tmp rfl rfl)) ?_
                      refine RK.splitD (t := 126) rfl (fun g126 => ?_) (fun g126 => ?_)
                      ·
                        refine RK.c (S.move (.yes rfl rfl rfl rfl) rfl (.tmp rfl rfl)) ?_
                        refine RK.c (S.bloadN ti24 (.yes rfl rfl rfl rfl) rfl (.tmp rfl rfl) rfl rfl rfl rfl) ?_
                        refine RK.c (S.bfield fi27_0 (.yes rfl rfl rfl rfl) rfl (.tmp rfl rfl)) ?_
                        refine RK.c (S.bload1 ti25 (.yes rfl rfl rfl rfl) rfl (.tmp rfl rfl) rfl rfl rfl rfl) ?_
                        refine RK.c (S.bfield fi27_1 (.yes rfl rfl rfl rfl) rfl (.tmp rfl rfl)) ?_
                        refine RK.c (S.bload1 ti3 (.yes rfl rfl rfl rfl) rfl (.tmp rfl rfl) rfl rfl rfl rfl) ?_
                        refine RK.c (S.call (ref_Alarms hL hl2 htz) Tryz.call38 (.yes rfl rfl rfl rfl) rfl (.cons (.tmp rfl rfl) (.cons (.tmp rfl rfl) (.cons (.tmp rfl rfl) .nil))) rfl) ?_
                        refine RK.c (S.call (base_Ints) Tryz.call37 (.yes rfl rfl rfl rfl) rfl (.cons (.tmp rfl rfl) (.cons (.tmp rfl rfl) .nil)) rfl) ?_
                        refine RK.c (S.pickT .none rfl (.tmp rfl rfl) (.tmp rfl rfl) rfl) ?_
                        refine RK.c (S.assign .none rfl (.tmp rfl rfl)) ?_
                        refine RK.nil ?_
                        refine Ab.D.code ?_
                        refine OK.ret (Ret.r1 (.tmp rfl rfl (.c (.same rfl) rfl) rfl) ?_)
                        first | rfl | (refine ret_dT ?_; omega) | (refine ret_abs ?_; omega) | (refine ret_dT ?_; exact hl1) | (refine ret_abs ?_; exact g60 hb1) | (refine ret_abs ?_; exact c81 hb1) | (refine ret_dT ?_; exact hfin)
                      ·
                        refine RK.c (S.skip rfl rfl rfl rfl rfl) ?_
                        refine RK.c (S.skip rfl rfl rfl rfl rfl) ?_
                        refine RK.c (S.skip rfl rfl rfl rfl rfl) ?_
                        refine RK.c (S.skip rfl rfl rfl rfl rfl) ?_
                        refine RK.c (S.skip rfl rfl rfl rfl rfl) ?_
                        refine RK.c (S.skip rfl rfl rfl rfl rfl) ?_
                        refine RK.c (S.skip rfl rfl rfl rfl rfl) ?_
                        refine RK.c (S.skip rfl rfl rfl rfl rfl) ?_
                        refine RK.c (S.pickF .none rfl (.tmp rfl rfl) .cbool rfl) ?_
                        refine RK.c (S.assign .none rfl (.tmp rfl rfl)) ?_
                        refine RK.nil ?_
                        refine Ab.D.code ?_
                        refine OK.ret (Ret.r1 (.tmp rfl rfl (.c (.same rfl) rfl) rfl) ?_)
                        first | rfl | (refine ret_dT ?_; omega) | (refine ret_abs ?_; omega) | (refine ret_dT ?_; exact hl1) | (refine ret_abs ?_; exact g60 hb1) | (refine ret_abs ?_; exact c81 hb1) | (refine ret_dT ?_; exact hfin)
                  ·
                    refine OK.skip ?_
                    refine Ab.D.code ?_
                    refine OK.seq ?_
                    refine OK.seq ?_
                    refine OK.reg ?_
                    refine RK.c (S.move .none rfl (.tmp rfl rfl)) ?_
                    refine RK.c (S.neq .none rfl (.tmp rfl rfl) (.cint rfl)) ?_
                    refine RK.nil ?_
                    refine Ab.D.code ?_
                    refine OK.condD rfl rfl (fun c115 => ?_) (fun c115 => ?_)
                    ·
                      have hl1 := hl0 (by omega)
                      refine OK.seq ?_
                      refine OK.reg ?_
                      refine RK.c (S.move .none rfl (.tmp rfl rfl)) ?_
                      refine RK.c (S.move .none rfl (.tmp rfl rfl)) ?_
                      refine RK.c (S.eql .none rfl (.tmp rfl rfl) (.tmp rfl rfl)) ?_
                      refine RK.c (S.move .none rfl (.tmp rfl rfl)) ?_
                      refine RK.splitD (t := 119) rfl (fun g119 => ?_) (fun g119 => ?_)
                      ·
                        refine RK.c (S.move (.yes rfl rfl rfl rfl) rfl (.tmp rfl rfl)) ?_
                        refine RK.c (S.lenM si57 (.yes rfl rfl rfl rfl) rfl (.tmp rfl rfl)) ?_
                        refine RK.c (S.eql (.yes rfl rfl rfl rfl) rfl (.tmp rfl rfl) (.cint rfl)) ?_
                        refine RK.c (S.pickT .none rfl (.tmp rfl rfl) (.tmp rfl rfl) rfl) ?_
                        refine RK.c (S.assign .none rfl (.tmp rfl rfl)) ?_
                        refine RK.nil ?_
                        refine Ab.D.code ?_
                        refine OK.ret (Ret.r1 (.tmp rfl rfl (.c (.same rfl) rfl) rfl) ?_)
                        first | rfl | (refine ret_dT ?_; omega) | (refine ret_abs ?_; omega) | (refine ret_dT ?_; exact hl1) | (refine ret_abs ?_; exact g60 hb1) | (refine ret_abs ?_; exact c81 hb1) | (refine ret_dT ?_; exact hfin)
                      ·
                        refine RK.c (S.skip rfl rfl rfl rfl rfl) ?_
                        refine RK.c (S.skip rfl rfl rfl rfl rfl) ?_
                        refine RK.c (S.skip rfl rfl rfl rfl rfl) ?_
                        refine RK.c (S.pickF .none rfl (.tmp rfl rfl) .cbool rfl) ?_
                        refine RK.c (S.assign .none rfl (.tmp rfl rfl)) ?_
                        refine RK.nil ?_
                        refine Ab.D.code ?_
                        refine OK.ret (Ret.r1 (.tmp rfl rfl (.c (.same rfl) rfl) rfl) ?_)
                        first | rfl | (refine ret_dT ?_; omega) | (refine ret_abs ?_; omega) | (refine ret_dT ?_; exact hl1) | (refine ret_abs ?_; exact g60 hb1) | (refine ret_abs ?_; exact c81 hb1) | (refine ret_dT ?_; exact hfin)
                    ·
                      have he : alErr p x.records x.trim = 0 := by omega
                      have hrz : recsErr p x.records = 0 := by omega
                      have hL := learn_of hp0 hrz
                      have hLl := hL.len
                      have hl2 : 2 ≤ x.records.length := by omega
                      have htz : trimErr x.trim ((x.records.length : Int) - 1) = 0 := by omega
                      have hfin : (if alErr p x.records x.trim = 0 then alUp p x.records x.trim x.records.length else []) = alUp p x.records x.trim x.records.length := if_pos he
                      refine OK.skip ?_
                      refine Ab.D.code ?_
                      refine OK.seq ?_
                      refine OK.reg ?_
                      refine RK.c (S.move .none rfl (.tmp rfl rfl)) ?_
                      refine RK.c (S.eql .none rfl (.tmp rfl rfl) (.cint rfl)) ?_
                      refine RK.c (S.move .none rfl (.tmp rfl rfl)) ?_
                      refine RK.splitD (t := 126) rfl (fun g126 => ?_) (fun g126 => ?_)
                      ·
                        refine RK.c (S.move (.yes rfl rfl rfl rfl) rfl (.tmp rfl rfl)) ?_
                        refine RK.c (S.bloadN ti24 (.yes rfl rfl rfl rfl) rfl (.tmp rfl rfl) rfl rfl rfl rfl) ?_
                        refine RK.c (S.bfield fi27_0 (.yes rfl rfl rfl rfl) rfl (.tmp rfl rfl)) ?_
                        refine RK.c (S.bload1 ti25 (.yes rfl rfl rfl rfl) rfl (.tmp rfl rfl) rfl rfl rfl rfl) ?_
                        refine RK.c (S.bfield fi27_1 (.yes rfl rfl rfl rfl) rfl (.tmp rfl rfl)) ?_
                        refine RK.c (S.bload1 ti3 (.yes rfl rfl rfl rfl) rfl (.tmp rfl rfl) rfl rfl rfl rfl) ?_
                        refine RK.c (S.call (ref_Alarms hL hl2 htz) Tryz.call38 (.yes rfl rfl rfl rfl) rfl (.cons (.tmp rfl rfl) (.cons (.tmp rfl rfl) (.cons (.tmp rfl rfl) .nil))) rfl) ?_
                        refine RK.c (S.call (base_Ints) Tryz.call37 (.yes rfl rfl rfl rfl) rfl (.cons (.tmp rfl rfl) (.cons (.tmp rfl rfl) .nil)) rfl) ?_
                        refine RK.c (S.pickT .none rfl (.tmp rfl rfl) (.tmp rfl rfl) rfl) ?_
                        refine RK.c (S.assign .none rfl (.tmp rfl rfl)) ?_
                        refine RK.nil ?_
                        refine Ab.D.code ?_
                        refine OK.ret (Ret.r1 (.tmp rfl rfl (.c (.same rfl) rfl) rfl) ?_)
                        first | rfl | (refine ret_dT ?_; omega) | (refine ret_abs ?_; omega) | (refine ret_dT ?_; exact hl1) | (refine ret_abs ?_; exact g60 hb1) | (refine ret_abs ?_; exact c81 hb1) | (refine ret_dT ?_; exact hfin)
                      ·
                        refine RK.c (S.skip rfl rfl rfl rfl rfl) ?_
                        refine RK.c (S.skip rfl rfl rfl rfl rfl) ?_
                        refine RK.c (S.skip rfl rfl rfl rfl rfl) ?_
                        refine RK.c (S.skip rfl rfl rfl rfl rfl) ?_
                        refine RK.c (S.skip rfl rfl rfl rfl rfl) ?_
                        refine RK.c (S.skip rfl rfl rfl rfl rfl) ?_
                        refine RK.c (S.skip rfl rfl rfl rfl rfl) ?_
                        refine RK.c (S.skip rfl rfl rfl rfl rfl) ?_
                        refine RK.c (S.pickF .none rfl (.tmp rfl rfl) .cbool rfl) ?_
                        refine RK.c (S.assign .none rfl (.tmp rfl rfl)) ?_
                        refine RK.nil ?_
                        refine Ab.D.code ?_
                        refine OK.ret (Ret.r1 (.tmp rfl rfl (.c (.same rfl) rfl) rfl) ?_)
                        first | rfl | (refine ret_dT ?_; omega) | (refine ret_abs ?_; omega) | (refine ret_dT ?_; exact hl1) | (refine ret_abs ?_; exact g60 hb1) | (refine ret_abs ?_; exact c81 hb1) | (refine ret_dT ?_; exact hfin)
                ·
                  refine OK.skip ?_
                  refine Ab.D.code ?_
                  refine OK.seq ?_
                  refine OK.seq ?_
                  refine OK.reg ?_
                  refine RK.c (S.move .none rfl (.tmp rfl rfl)) ?_
                  refine RK.c (S.eql .none rfl (.tmp rfl rfl) (.cint rfl)) ?_
                  refine RK.nil ?_
                  refine Ab.D.code ?_
                  refine OK.condD rfl rfl (fun c106 => ?_) (fun c106 => ?_)
                  ·
                    refine OK.reg ?_
                    refine RK.c (S.bfield fi27_1 .none rfl (.tmp rfl rfl)) ?_
                    refine RK.c (S.bload1 ti3 .none rfl (.tmp rfl rfl) rfl rfl rfl rfl) ?_
                    refine RK.c (S.bfield fi27_0 .none rfl (.tmp rfl rfl)) ?_
                    refine RK.c (S.bload1 ti25 .none rfl (.tmp rfl rfl) rfl rfl rfl rfl) ?_
                    refine RK.c (S.lenM si25 .none rfl (.tmp rfl rfl)) ?_
                    refine RK.c (S.sub .none rfl (.tmp rfl rfl) (.cint rfl) (IntWalk.i64_in _ (by omega)) (IntWalk.i64_in _ (by omega))) ?_
                    refine RK.c (S.call (ref_TrimErr (by omega)) Tryz.call17 .none rfl (.cons (.tmp rfl rfl) (.cons (.tmp rfl rfl) .nil)) rfl) ?_
                    refine RK.c (S.assign .none rfl (.tmp rfl rfl)) ?_
                    refine RK.nil ?_
                    refine Ab.D.code ?_
                    refine OK.seq ?_
                    refine OK.seq ?_
                    refine OK.reg ?_
                    refine RK.c (S.move .none rfl (.tmp rfl rfl)) ?_
                    refine RK.c (S.neq .none rfl (.tmp rfl rfl) (.cint rfl)) ?_
                    refine RK.nil ?_
                    refine Ab.D.code ?_
                    refine OK.condD rfl rfl (fun c115 => ?_) (fun c115 => ?_)
                    ·
                      have hl1 := hl0 (by omega)
                      refine OK.seq ?_
                      refine OK.reg ?_
                      refine RK.c (S.move .none rfl (.tmp rfl rfl)) ?_
                      refine RK.c (S.move .none rfl (.tmp rfl rfl)) ?_
                      refine RK.c (S.eql .none rfl (.tmp rfl rfl) (.tmp rfl rfl)) ?_
                      refine RK.c (S.move .none rfl (.tmp rfl rfl)) ?_
                      refine RK.splitD (t := 119) rfl (fun g119 => ?_) (fun g119 => ?_)
                      ·
                        refine RK.c (S.move (.yes rfl rfl rfl rfl) rfl (.tmp rfl rfl)) ?_
                        refine RK.c (S.lenM si57 (.yes rfl rfl rfl rfl) rfl (.tmp rfl rfl)) ?_
                        refine RK.c (S.eql (.yes rfl rfl rfl rfl) rfl (.tmp rfl rfl) (.cint rfl)) ?_
                        refine RK.c (S.pickT .none rfl (.tmp rfl rfl) (.tmp rfl rfl) rfl) ?_
                        refine RK.c (S.assign .none rfl (.tmp rfl rfl)) ?_
                        refine RK.nil ?_
                        refine Ab.D.code ?_
                        refine OK.ret (Ret.r1 (.tmp rfl rfl (.c (.same rfl) rfl) rfl) ?_)
                        first | rfl | (refine ret_dT ?_; omega) | (refine ret_abs ?_; omega) | (refine ret_dT ?_; exact hl1) | (refine ret_abs ?_; exact g60 hb1) | (refine ret_abs ?_; exact c81 hb1) | (refine ret_dT ?_; exact hfin)
                      ·
                        refine RK.c (S.skip rfl rfl rfl rfl rfl) ?_
                        refine RK.c (S.skip rfl rfl rfl rfl rfl) ?_
                        refine RK.c (S.skip rfl rfl rfl rfl rfl) ?_
                        refine RK.c (S.pickF .none rfl (.tmp rfl rfl) .cbool rfl) ?_
                        refine RK.c (S.assign .none rfl (.tmp rfl rfl)) ?_
                        refine RK.nil ?_
                        refine Ab.D.code ?_
                        refine OK.ret (Ret.r1 (.tmp rfl rfl (.c (.same rfl) rfl) rfl) ?_)
                        first | rfl | (refine ret_dT ?_; omega) | (refine ret_abs ?_; omega) | (refine ret_dT ?_; exact hl1) | (refine ret_abs ?_; exact g60 hb1) | (refine ret_abs ?_; exact c81 hb1) | (refine ret_dT ?_; exact hfin)
                    ·
                      have he : alErr p x.records x.trim = 0 := by omega
                      have hrz : recsErr p x.records = 0 := by omega
                      have hL := learn_of hp0 hrz
                      have hLl := hL.len
                      have hl2 : 2 ≤ x.records.length := by omega
                      have htz : trimErr x.trim ((x.records.length : Int) - 1) = 0 := by omega
                      have hfin : (if alErr p x.records x.trim = 0 then alUp p x.records x.trim x.records.length else []) = alUp p x.records x.trim x.records.length := if_pos he
                      refine OK.skip ?_
                      refine Ab.D.code ?_
                      refine OK.seq ?_
                      refine OK.reg ?_
                      refine RK.c (S.move .none rfl (.tmp rfl rfl)) ?_
                      refine RK.c (S.eql .none rfl (.tmp rfl rfl) (.cint rfl)) ?_
                      refine RK.c (S.move .none rfl (.tmp rfl rfl)) ?_
                      refine RK.splitD (t := 126) rfl (fun g126 => ?_) (fun g126 => ?_)
                      ·
                        refine RK.c (S.move (.yes rfl rfl rfl rfl) rfl (.tmp rfl rfl)) ?_
                        refine RK.c (S.bloadN ti24 (.yes rfl rfl rfl rfl) rfl (.tmp rfl rfl) rfl rfl rfl rfl) ?_
                        refine RK.c (S.bfield fi27_0 (.yes rfl rfl rfl rfl) rfl (.tmp rfl rfl)) ?_
                        refine RK.c (S.bload1 ti25 (.yes rfl rfl rfl rfl) rfl (.tmp rfl rfl) rfl rfl rfl rfl) ?_
                        refine RK.c (S.bfield fi27_1 (.yes rfl rfl rfl rfl) rfl (.tmp rfl rfl)) ?_
                        refine RK.c (S.bload1 ti3 (.yes rfl rfl rfl rfl) rfl (.tmp rfl rfl) rfl rfl rfl rfl) ?_
                        refine RK.c (S.call (ref_Alarms hL hl2 htz) Tryz.call38 (.yes rfl rfl rfl rfl) rfl (.cons (.tmp rfl rfl) (.cons (.tmp rfl rfl) (.cons (.tmp rfl rfl) .nil))) rfl) ?_
                        refine RK.c (S.call (base_Ints) Tryz.call37 (.yes rfl rfl rfl rfl) rfl (.cons (.tmp rfl rfl) (.cons (.tmp rfl rfl) .nil)) rfl) ?_
                        refine RK.c (S.pickT .none rfl (.tmp rfl rfl) (.tmp rfl rfl) rfl) ?_
                        refine RK.c (S.assign .none rfl (.tmp rfl rfl)) ?_
                        refine RK.nil ?_
                        refine Ab.D.code ?_
                        refine OK.ret (Ret.r1 (.tmp rfl rfl (.c (.same rfl) rfl) rfl) ?_)
                        first | rfl | (refine ret_dT ?_; omega) | (refine ret_abs ?_; omega) | (refine ret_dT ?_; exact hl1) | (refine ret_abs ?_; exact g60 hb1) | (refine ret_abs ?_; exact c81 hb1) | (refine ret_dT ?_; exact hfin)
                      ·
                        refine RK.c (S.skip rfl rfl rfl rfl rfl) ?_
                        refine RK.c (S.skip rfl rfl rfl rfl rfl) ?_
                        refine RK.c (S.skip rfl rfl rfl rfl rfl) ?_
                        refine RK.c (S.skip rfl rfl rfl rfl rfl) ?_
                        refine RK.c (S.skip rfl rfl rfl rfl rfl) ?_
                        refine RK.c (S.skip rfl rfl rfl rfl rfl) ?_
                        refine RK.c (S.skip rfl rfl rfl rfl rfl) ?_
                        refine RK.c (S.skip rfl rfl rfl rfl rfl) ?_
                        refine RK.c (S.pickF .none rfl (.tmp rfl rfl) .cbool rfl) ?_
                        refine RK.c (S.assign .none rfl (.tmp rfl rfl)) ?_
                        refine RK.nil ?_
                        refine Ab.D.code ?_
                        refine OK.ret (Ret.r1 (.tmp rfl rfl (.c (.same rfl) rfl) rfl) ?_)
                        first | rfl | (refine ret_dT ?_; omega) | (refine ret_abs ?_; omega) | (refine ret_dT ?_; exact hl1) | (refine ret_abs ?_; exact g60 hb1) | (refine ret_abs ?_; exact c81 hb1) | (refine ret_dT ?_; exact hfin)
                  ·
                    refine OK.skip ?_
                    refine Ab.D.code ?_
                    refine OK.seq ?_
                    refine OK.seq ?_
                    refine OK.reg ?_
                    refine RK.c (S.move .none rfl (.tmp rfl rfl)) ?_
                    refine RK.c (S.neq .none rfl (.tmp rfl rfl) (.cint rfl)) ?_
                    refine RK.nil ?_
                    refine Ab.D.code ?_
                    refine OK.condD rfl rfl (fun c115 => ?_) (fun c115 => ?_)
                    ·
                      have hl1 := hl0 (by omega)
                      refine OK.seq ?_
                      refine OK.reg ?_
                      refine RK.c (S.move .none rfl (.tmp rfl rfl)) ?_
                      refine RK.c (S.move .none rfl (.tmp rfl rfl)) ?_
                      refine RK.c (S.eql .none rfl (.tmp rfl rfl) (.tmp rfl rfl)) ?_
                      refine RK.c (S.move .none rfl (.tmp rfl rfl)) ?_
                      refine RK.splitD (t := 119) rfl (fun g119 => ?_) (fun g119 => ?_)
                      ·
                        refine RK.c (S.move (.yes rfl rfl rfl rfl) rfl (.tmp rfl rfl)) ?_
                        refine RK.c (S.lenM si57 (.yes rfl rfl rfl rfl) rfl (.tmp rfl rfl)) ?_
                        refine RK.c (S.eql (.yes rfl rfl rfl rfl) rfl (.tmp rfl rfl) (.cint rfl)) ?_
                        refine RK.c (S.pickT .none rfl (.tmp rfl rfl) (.tmp rfl rfl) rfl) ?_
                        refine RK.c (S.assign .none rfl (.tmp rfl rfl)) ?_
                        refine RK.nil ?_
                        refine Ab.D.code ?_
                        refine OK.ret (Ret.r1 (.tmp rfl rfl (.c (.same rfl) rfl) rfl) ?_)
                        first | rfl | (refine ret_dT ?_; omega) | (refine ret_abs ?_; omega) | (refine ret_dT ?_; exact hl1) | (refine ret_abs ?_; exact g60 hb1) | (refine ret_abs ?_; exact c81 hb1) | (refine ret_dT ?_; exact hfin)
                      ·
                        refine RK.c (S.skip rfl rfl rfl rfl rfl) ?_
                        refine RK.c (S.skip rfl rfl rfl rfl rfl) ?_
                        refine RK.c (S.skip rfl rfl rfl rfl rfl) ?_
                        refine RK.c (S.pickF .none rfl (.tmp rfl rfl) .cbool rfl) ?_
                        refine RK.c (S.assign .none rfl (.tmp rfl rfl)) ?_
                        refine RK.nil ?_
                        refine Ab.D.code ?_
                        refine OK.ret (Ret.r1 (.tmp rfl rfl (.c (.same rfl) rfl) rfl) ?_)
                        first | rfl | (refine ret_dT ?_; omega) | (refine ret_abs ?_; omega) | (refine ret_dT ?_; exact hl1) | (refine ret_abs ?_; exact g60 hb1) | (refine ret_abs ?_; exact c81 hb1) | (refine ret_dT ?_; exact hfin)
                    ·
                      have he : alErr p x.records x.trim = 0 := by omega
                      have hrz : recsErr p x.records = 0 := by omega
                      have hL := learn_of hp0 hrz
                      have hLl := hL.len
                      have hl2 : 2 ≤ x.records.length := by omega
                      have htz : trimErr x.trim ((x.records.length : Int) - 1) = 0 := by omega
                      have hfin : (if alErr p x.records x.trim = 0 then alUp p x.records x.trim x.records.length else []) = alUp p x.records x.trim x.records.length := if_pos he
                      refine OK.skip ?_
                      refine Ab.D.code ?_
                      refine OK.seq ?_
                      refine OK.reg ?_
                      refine RK.c (S.move .none rfl (.tmp rfl rfl)) ?_
                      refine RK.c (S.eql .none rfl (.tmp rfl rfl) (.cint rfl)) ?_
                      refine RK.c (S.move .none rfl (.tmp rfl rfl)) ?_
                      refine RK.splitD (t := 126) rfl (fun g126 => ?_) (fun g126 => ?_)
                      ·
                        refine RK.c (S.move (.yes rfl rfl rfl rfl) rfl (.tmp rfl rfl)) ?_
                        refine RK.c (S.bloadN ti24 (.yes rfl rfl rfl rfl) rfl (.tmp rfl rfl) rfl rfl rfl rfl) ?_
                        refine RK.c (S.bfield fi27_0 (.yes rfl rfl rfl rfl) rfl (.tmp rfl rfl)) ?_
                        refine RK.c (S.bload1 ti25 (.yes rfl rfl rfl rfl) rfl (.tmp rfl rfl) rfl rfl rfl rfl) ?_
                        refine RK.c (S.bfield fi27_1 (.yes rfl rfl rfl rfl) rfl (.tmp rfl rfl)) ?_
                        refine RK.c (S.bload1 ti3 (.yes rfl rfl rfl rfl) rfl (.tmp rfl rfl) rfl rfl rfl rfl) ?_
                        refine RK.c (S.call (ref_Alarms hL hl2 htz) Tryz.call38 (.yes rfl rfl rfl rfl) rfl (.cons (.tmp rfl rfl) (.cons (.tmp rfl rfl) (.cons (.tmp rfl rfl) .nil))) rfl) ?_
                        refine RK.c (S.call (base_Ints) Tryz.call37 (.yes rfl rfl rfl rfl) rfl (.cons (.tmp rfl rfl) (.cons (.tmp rfl rfl) .nil)) rfl) ?_
                        refine RK.c (S.pickT .none rfl (.tmp rfl rfl) (.tmp rfl rfl) rfl) ?_
                        refine RK.c (S.assign .none rfl (.tmp rfl rfl)) ?_
                        refine RK.nil ?_
                        refine Ab.D.code ?_
                        refine OK.ret (Ret.r1 (.tmp rfl rfl (.c (.same rfl) rfl) rfl) ?_)
                        first | rfl | (refine ret_dT ?_; omega) | (refine ret_abs ?_; omega) | (refine ret_dT ?_; exact hl1) | (refine ret_abs ?_; exact g60 hb1) | (refine ret_abs ?_; exact c81 hb1) | (refine ret_dT ?_; exact hfin)
                      ·
                        refine RK.c (S.skip rfl rfl rfl rfl rfl) ?_
                        refine RK.c (S.skip rfl rfl rfl rfl rfl) ?_
                        refine RK.c (S.skip rfl rfl rfl rfl rfl) ?_
                        refine RK.c (S.skip rfl rfl rfl rfl rfl) ?_
                        refine RK.c (S.skip rfl rfl rfl rfl rfl) ?_
                        refine RK.c (S.skip rfl rfl rfl rfl rfl) ?_
                        refine RK.c (S.skip rfl rfl rfl rfl rfl) ?_
                        refine RK.c (S.skip rfl rfl rfl rfl rfl) ?_
                        refine RK.c (S.pickF .none rfl (.tmp rfl rfl) .cbool rfl) ?_
                        refine RK.c (S.assign .none rfl (.tmp rfl rfl)) ?_
                        refine RK.nil ?_
                        refine Ab.D.code ?_
                        refine OK.ret (Ret.r1 (.tmp rfl rfl (.c (.same rfl) rfl) rfl) ?_)
                        first | rfl | (refine ret_dT ?_; omega) | (refine ret_abs ?_; omega) | (refine ret_dT ?_; exact hl1) | (refine ret_abs ?_; exact g60 hb1) | (refine ret_abs ?_; exact c81 hb1) | (refine ret_dT ?_; exact hfin)
              ·
                refine RK.c (S.skip rfl rfl rfl rfl rfl) ?_
                refine RK.c (S.skip rfl rfl rfl rfl rfl) ?_
                refine RK.c (S.skip rfl rfl rfl rfl rfl) ?_
                refine RK.c (S.skip rfl rfl rfl rfl rfl) ?_
                refine RK.c (S.pickF .none rfl (.tmp rfl rfl) .cbool rfl) ?_
                refine RK.nil ?_
                refine Ab.D.code ?_
                refine OK.condF rfl rfl rfl ?_
                refine OK.skip ?_
                refine Ab.D.code ?_
                refine OK.seq ?_
                refine OK.seq ?_
                refine OK.reg ?_
                refine RK.c (S.move .none rfl (.tmp rfl rfl)) ?_
                refine RK.c (S.eql .none rfl (.tmp rfl rfl) (.cint rfl)) ?_
                refine RK.nil ?_
                refine Ab.D.code ?_
                refine OK.condD rfl rfl (fun c106 => ?_) (fun c106 => ?_)
                ·
                  refine OK.reg ?_
                  refine RK.c (S.bfield fi27_1 .none rfl (.tmp rfl rfl)) ?_
                  refine RK.c (S.bload1 ti3 .none rfl (.tmp rfl rfl) rfl rfl rfl rfl) ?_
                  refine RK.c (S.bfield fi27_0 .none rfl (.tmp rfl rfl)) ?_
                  refine RK.c (S.bload1 ti25 .none rfl (.tmp rfl rfl) rfl rfl rfl rfl) ?_
                  refine RK.c (S.lenM si25 .none rfl (.tmp rfl rfl)) ?_
                  refine RK.c (S.sub .none rfl (.tmp rfl rfl) (.cint rfl) (IntWalk.i64_in _ (by omega)) (IntWalk.i64_in _ (by omega))) ?_
                  refine RK.c (S.call (ref_TrimErr (by omega)) Tryz.call17 .none rfl (.cons (.tmp rfl rfl) (.cons (.tmp rfl rfl) .nil)) rfl) ?_
                  refine RK.c (S.assign .none rfl (.tmp rfl rfl)) ?_
                  refine RK.nil ?_
                  refine Ab.D.code ?_
                  refine OK.seq ?_
                  refine OK.seq ?_
                  refine OK.reg ?_
                  refine RK.c (S.move .none rfl (.tmp rfl rfl)) ?_
                  refine RK.c (S.neq .none rfl (.tmp rfl rfl) (.cint rfl)) ?_
                  refine RK.nil ?_
                  refine Ab.D.code ?_
                  refine OK.condD rfl rfl (fun c115 => ?_) (fun c115 => ?_)
                  ·
                    have hl1 := hl0 (by omega)
                    refine OK.seq ?_
                    refine OK.reg ?_
                    refine RK.c (S.move .none rfl (.tmp rfl rfl)) ?_
                    refine RK.c (S.move .none rfl (.tmp rfl rfl)) ?_
                    refine RK.c (S.eql .none rfl (.tmp rfl rfl) (.tmp rfl rfl)) ?_
                    refine RK.c (S.move .none rfl (.tmp rfl rfl)) ?_
                    refine RK.splitD (t := 119) rfl (fun g119 => ?_) (fun g119 => ?_)
                    ·
                      refine RK.c (S.move (.yes rfl rfl rfl rfl) rfl (.tmp rfl rfl)) ?_
                      refine RK.c (S.lenM si57 (.yes rfl rfl rfl rfl) rfl (.tmp rfl rfl)) ?_
                      refine RK.c (S.eql (.yes rfl rfl rfl rfl) rfl (.tmp rfl rfl) (.cint rfl)) ?_
                      refine RK.c (S.pickT .none rfl (.tmp rfl rfl) (.tmp rfl rfl) rfl) ?_
                      refine RK.c (S.assign .none rfl (.tmp rfl rfl)) ?_
                      refine RK.nil ?_
                      refine Ab.D.code ?_
                      refine OK.ret (Ret.r1 (.tmp rfl rfl (.c (.same rfl) rfl) rfl) ?_)
                      first | rfl | (refine ret_dT ?_; omega) | (refine ret_abs ?_; omega) | (refine ret_dT ?_; exact hl1) | (refine ret_abs ?_; exact g60 hb1) | (refine ret_abs ?_; exact c81 hb1) | (refine ret_dT ?_; exact hfin)
                    ·
                      refine RK.c (S.skip rfl rfl rfl rfl rfl) ?_
                      refine RK.c (S.skip rfl rfl rfl rfl rfl) ?_
                      refine RK.c (S.skip rfl rfl rfl rfl rfl) ?_
                      refine RK.c (S.pickF .none rfl (.tmp rfl rfl) .cbool rfl) ?_
                      refine RK.c (S.assign .none rfl (.tmp rfl rfl)) ?_
                      refine RK.nil ?_
                      refine Ab.D.code ?_
                      refine OK.ret (Ret.r1 (.tmp rfl rfl (.c (.same rfl) rfl) rfl) ?_)
                      first | rfl | (refine ret_dT ?_; omega) | (refine ret_abs ?_; omega) | (refine ret_dT ?_; exact hl1) | (refine ret_abs ?_; exact g60 hb1) | (refine ret_abs ?_; exact c81 hb1) | (refine ret_dT ?_; exact hfin)
                  ·
                    have he : alErr p x.records x.trim = 0 := by omega
                    have hrz : recsErr p x.records = 0 := by omega
                    have hL := learn_of hp0 hrz
                    have hLl := hL.len
                    have hl2 : 2 ≤ x.records.length := by omega
                    have htz : trimErr x.trim ((x.records.length : Int) - 1) = 0 := by omega
                    have hfin : (if alErr p x.records x.trim = 0 then alUp p x.records x.trim x.records.length else []) = alUp p x.records x.trim x.records.length := if_pos he
                    refine OK.skip ?_
                    refine Ab.D.code ?_
                    refine OK.seq ?_
                    refine OK.reg ?_
                    refine RK.c (S.move .none rfl (.tmp rfl rfl)) ?_
                    refine RK.c (S.eql .none rfl (.tmp rfl rfl) (.cint rfl)) ?_
                    refine RK.c (S.move .none rfl (.tmp rfl rfl)) ?_
                    refine RK.splitD (t := 126) rfl (fun g126 => ?_) (fun g126 => ?_)
                    ·
                      refine RK.c (S.move (.yes rfl rfl rfl rfl) rfl (.tmp rfl rfl)) ?_
                      refine RK.c (S.bloadN ti24 (.yes rfl rfl rfl rfl) rfl (.tmp rfl rfl) rfl rfl rfl rfl) ?_
                      refine RK.c (S.bfield fi27_0 (.yes rfl rfl rfl rfl) rfl (.tmp rfl rfl)) ?_
                      refine RK.c (S.bload1 ti25 (.yes rfl rfl rfl rfl) rfl (.tmp rfl rfl) rfl rfl rfl rfl) ?_
                      refine RK.c (S.bfield fi27_1 (.yes rfl rfl rfl rfl) rfl (.tmp rfl rfl)) ?_
                      refine RK.c (S.bload1 ti3 (.yes rfl rfl rfl rfl) rfl (.tmp rfl rfl) rfl rfl rfl rfl) ?_
                      refine RK.c (S.call (ref_Alarms hL hl2 htz) Tryz.call38 (.yes rfl rfl rfl rfl) rfl (.cons (.tmp rfl rfl) (.cons (.tmp rfl rfl) (.cons (.tmp rfl rfl) .nil))) rfl) ?_
                      refine RK.c (S.call (base_Ints) Tryz.call37 (.yes rfl rfl rfl rfl) rfl (.cons (.tmp rfl rfl) (.cons (.tmp rfl rfl) .nil)) rfl) ?_
                      refine RK.c (S.pickT .none rfl (.tmp rfl rfl) (.tmp rfl rfl) rfl) ?_
                      refine RK.c (S.assign .none rfl (.tmp rfl rfl)) ?_
                      refine RK.nil ?_
                      refine Ab.D.code ?_
                      refine OK.ret (Ret.r1 (.tmp rfl rfl (.c (.same rfl) rfl) rfl) ?_)
                      first | rfl | (refine ret_dT ?_; omega) | (refine ret_abs ?_; omega) | (refine ret_dT ?_; exact hl1) | (refine ret_abs ?_; exact g60 hb1) | (refine ret_abs ?_; exact c81 hb1) | (refine ret_dT ?_; exact hfin)
                    ·
                      refine RK.c (S.skip rfl rfl rfl rfl rfl) ?_
                      refine RK.c (S.skip rfl rfl rfl rfl rfl) ?_
                      refine RK.c (S.skip rfl rfl rfl rfl rfl) ?_
                      refine RK.c (S.skip rfl rfl rfl rfl rfl) ?_
                      refine RK.c (S.skip rfl rfl rfl rfl rfl) ?_
                      refine RK.c (S.skip rfl rfl rfl rfl rfl) ?_
                      refine RK.c (S.skip rfl rfl rfl rfl rfl) ?_
                      refine RK.c (S.skip rfl rfl rfl rfl rfl) ?_
                      refine RK.c (S.pickF .none rfl (.tmp rfl rfl) .cbool rfl) ?_
                      refine RK.c (S.assign .none rfl (.tmp rfl rfl)) ?_
                      refine RK.nil ?_
                      refine Ab.D.code ?_
                      refine OK.ret (Ret.r1 (.tmp rfl rfl (.c (.same rfl) rfl) rfl) ?_)
                      first | rfl | (refine ret_dT ?_; omega) | (refine ret_abs ?_; omega) | (refine ret_dT ?_; exact hl1) | (refine ret_abs ?_; exact g60 hb1) | (refine ret_abs ?_; exact c81 hb1) | (refine ret_dT ?_; exact hfin)
                ·
                  refine OK.skip ?_
                  refine Ab.D.code ?_
                  refine OK.seq ?_
                  refine OK.seq ?_
                  refine OK.reg ?_
                  refine RK.c (S.move .none rfl (.tmp rfl rfl)) ?_
                  refine RK.c (S.neq .none rfl (.tmp rfl rfl) (.cint rfl)) ?_
                  refine RK.nil ?_
                  refine Ab.D.code ?_
                  refine OK.condD rfl rfl (fun c115 => ?_) (fun c115 => ?_)
                  ·
                    have hl1 := hl0 (by omega)
                    refine OK.seq ?_
                    refine OK.reg ?_
                    refine RK.c (S.move .none rfl (.tmp rfl rfl)) ?_
                    refine RK.c (S.move .none rfl (.tmp rfl rfl)) ?_
                    refine RK.c (S.eql .none rfl (.tmp rfl rfl) (.tmp rfl rfl)) ?_
                    refine RK.c (S.move .none rfl (.tmp rfl rfl)) ?_
                    refine RK.splitD (t := 119) rfl (fun g119 => ?_) (fun g119 => ?_)
                    ·
                      refine RK.c (S.move (.yes rfl rfl rfl rfl) rfl (.tmp rfl rfl)) ?_
                      refine RK.c (S.lenM si57 (.yes rfl rfl rfl rfl) rfl (.tmp rfl rfl)) ?_
                      refine RK.c (S.eql (.yes rfl rfl rfl rfl) rfl (.tmp rfl rfl) (.cint rfl)) ?_
                      refine RK.c (S.pickT .none rfl (.tmp rfl rfl) (.tmp rfl rfl) rfl) ?_
                      refine RK.c (S.assign .none rfl (.tmp rfl rfl)) ?_
                      refine RK.nil ?_
                      refine Ab.D.code ?_
                      refine OK.ret (Ret.r1 (.tmp rfl rfl (.c (.same rfl) rfl) rfl) ?_)
                      first | rfl | (refine ret_dT ?_; omega) | (refine ret_abs ?_; omega) | (refine ret_dT ?_; exact hl1) | (refine ret_abs ?_; exact g60 hb1) | (refine ret_abs ?_; exact c81 hb1) | (refine ret_dT ?_; exact hfin)
                    ·
                      refine RK.c (S.skip rfl rfl rfl rfl rfl) ?_
                      refine RK.c (S.skip rfl rfl rfl rfl rfl) ?_
                      refine RK.c (S.skip rfl rfl rfl rfl rfl) ?_
                      refine RK.c (S.pickF .none rfl (.tmp rfl rfl) .cbool rfl) ?_
                      refine RK.c (S.assign .none rfl (.tmp rfl rfl)) ?_
                      refine RK.nil ?_
                      refine Ab.D.code ?_
                      refine OK.ret (Ret.r1 (.tmp rfl rfl (.c (.same rfl) rfl) rfl) ?_)
                      first | rfl | (refine ret_dT ?_; omega) | (refine ret_abs ?_; omega) | (refine ret_dT ?_; exact hl1) | (refine ret_abs ?_; exact g60 hb1) | (refine ret_abs ?_; exact c81 hb1) | (refine ret_dT ?_; exact hfin)
                  ·
                    have he : alErr p x.records x.trim = 0 := by omega
                    have hrz : recsErr p x.records = 0 := by omega
                    have hL := learn_of hp0 hrz
                    have hLl := hL.len
                    have hl2 : 2 ≤ x.records.length := by omega
                    have htz : trimErr x.trim ((x.records.length : Int) - 1) = 0 := by omega
                    have hfin : (if alErr p x.records x.trim = 0 then alUp p x.records x.trim x.records.length else []) = alUp p x.records x.trim x.records.length := if_pos he
                    refine OK.skip ?_
                    refine Ab.D.code ?_
                    refine OK.seq ?_
                    refine OK.reg ?_
                    refine RK.c (S.move .none rfl (.tmp rfl rfl)) ?_
                    refine RK.c (S.eql .none rfl (.tmp rfl rfl) (.cint rfl)) ?_
                    refine RK.c (S.move .none rfl (.tmp rfl rfl)) ?_
                    refine RK.splitD (t := 126) rfl (fun g126 => ?_) (fun g126 => ?_)
                    ·
                      refine RK.c (S.move (.yes rfl rfl rfl rfl) rfl (.tmp rfl rfl)) ?_
                      refine RK.c (S.bloadN ti24 (.yes rfl rfl rfl rfl) rfl (.tmp rfl rfl) rfl rfl rfl rfl) ?_
                      refine RK.c (S.bfield fi27_0 (.yes rfl rfl rfl rfl) rfl (.tmp rfl rfl)) ?_
                      refine RK.c (S.bload1 ti25 (.yes rfl rfl rfl rfl) rfl (.tmp rfl rfl) rfl rfl rfl rfl) ?_
                      refine RK.c (S.bfield fi27_1 (.yes rfl rfl rfl rfl) rfl (.tmp rfl rfl)) ?_
                      refine RK.c (S.bload1 ti3 (.yes rfl rfl rfl rfl) rfl (.tmp rfl rfl) rfl rfl rfl rfl) ?_
                      refine RK.c (S.call (ref_Alarms hL hl2 htz) Tryz.call38 (.yes rfl rfl rfl rfl) rfl (.cons (.tmp rfl rfl) (.cons (.tmp rfl rfl) (.cons (.tmp rfl rfl) .nil))) rfl) ?_
                      refine RK.c (S.call (base_Ints) Tryz.call37 (.yes rfl rfl rfl rfl) rfl (.cons (.tmp rfl rfl) (.cons (.tmp rfl rfl) .nil)) rfl) ?_
                      refine RK.c (S.pickT .none rfl (.tmp rfl rfl) (.tmp rfl rfl) rfl) ?_
                      refine RK.c (S.assign .none rfl (.tmp rfl rfl)) ?_
                      refine RK.nil ?_
                      refine Ab.D.code ?_
                      refine OK.ret (Ret.r1 (.tmp rfl rfl (.c (.same rfl) rfl) rfl) ?_)
                      first | rfl | (refine ret_dT ?_; omega) | (refine ret_abs ?_; omega) | (refine ret_dT ?_; exact hl1) | (refine ret_abs ?_; exact g60 hb1) | (refine ret_abs ?_; exact c81 hb1) | (refine ret_dT ?_; exact hfin)
                    ·
                      refine RK.c (S.skip rfl rfl rfl rfl rfl) ?_
                      refine RK.c (S.skip rfl rfl rfl rfl rfl) ?_
                      refine RK.c (S.skip rfl rfl rfl rfl rfl) ?_
                      refine RK.c (S.skip rfl rfl rfl rfl rfl) ?_
                      refine RK.c (S.skip rfl rfl rfl rfl rfl) ?_
                      refine RK.c (S.skip rfl rfl rfl rfl rfl) ?_
                      refine RK.c (S.skip rfl rfl rfl rfl rfl) ?_
                      refine RK.c (S.skip rfl rfl rfl rfl rfl) ?_
                      refine RK.c (S.pickF .none rfl (.tmp rfl rfl) .cbool rfl) ?_
                      refine RK.c (S.assign .none rfl (.tmp rfl rfl)) ?_
                      refine RK.nil ?_
                      refine Ab.D.code ?_
                      refine OK.ret (Ret.r1 (.tmp rfl rfl (.c (.same rfl) rfl) rfl) ?_)
                      first | rfl | (refine ret_dT ?_; omega) | (refine ret_abs ?_; omega) | (refine ret_dT ?_; exact hl1) | (refine ret_abs ?_; exact g60 hb1) | (refine ret_abs ?_; exact c81 hb1) | (refine ret_dT ?_; exact hfin)
        ·
          refine RK.c (S.bfield fi27_1 (.yes rfl rfl rfl rfl) rfl (.tmp rfl rfl)) ?_
          refine RK.c (S.bload1 ti3 (.yes rfl rfl rfl rfl) rfl (.tmp rfl rfl) rfl rfl rfl rfl) ?_
          refine RK.c (S.move (.yes rfl rfl rfl rfl) rfl (.tmp rfl rfl)) ?_
          refine RK.c (S.call (ref_TrimErr (by omega)) Tryz.call17 (.yes rfl rfl rfl rfl) rfl (.cons (.tmp rfl rfl) (.cons (.tmp rfl rfl) .nil)) rfl) ?_
          refine RK.c (S.neq (.yes rfl rfl rfl rfl) rfl (.tmp rfl rfl) (.cint rfl)) ?_
          refine RK.c (S.pickF .none rfl (.tmp rfl rfl) (.tmp rfl rfl) rfl) ?_
          refine RK.nil ?_
          refine Ab.D.code ?_
          refine OK.condD rfl rfl (fun c74 => ?_) (fun c74 => ?_)
          ·
            have hb2 : boundErr p parts x.trim = 2 := by
              by_cases h : 1 ≤ parts ∧ parts ≤ 20
              · have := @trimErr_2 x.trim parts
                omega
              · omega
            have hb1 := hb0 (by omega)
            refine OK.seq ?_
            refine OK.reg ?_
            refine RK.c (S.move .none rfl (.tmp rfl rfl)) ?_
            refine RK.c (S.neq .none rfl (.tmp rfl rfl) (.cint rfl)) ?_
            refine RK.c (S.move .none rfl (.tmp rfl rfl)) ?_
            refine RK.splitD (t := 77) rfl (fun g77 => ?_) (fun g77 => ?_)
            ·
              refine RK.c (S.skip rfl rfl rfl rfl rfl) ?_
              refine RK.c (S.skip rfl rfl rfl rfl rfl) ?_
              refine RK.c (S.skip rfl rfl rfl rfl rfl) ?_
              refine RK.c (S.pickT .none rfl (.tmp rfl rfl) .cbool rfl) ?_
              refine RK.nil ?_
              refine Ab.D.code ?_
              refine OK.condT rfl rfl rfl ?_
              refine OK.seq ?_
              refine OK.reg ?_
              refine RK.c (S.assign .none rfl .cbool) ?_
              refine RK.nil ?_
              refine Ab.D.code ?_
              refine OK.ret (Ret.r1 (.tmp rfl rfl (.c (.same rfl) rfl) rfl) ?_)
              first | rfl | (refine ret_dT ?_; omega) | (refine ret_abs ?_; omega) | (refine ret_dT ?_; exact hl1) | (refine ret_abs ?_; exact g60 hb1) | (refine ret_abs ?_; exact c81 hb1) | (refine ret_dT ?_; exact hfin)
            ·
              refine RK.c (S.bloadN ti74 (.yes rfl rfl rfl rfl) rfl (.tmp rfl rfl) rfl rfl rfl rfl) ?_
              refine RK.c (S.build bu74 rfl (.yes rfl rfl rfl rfl) rfl .nil rfl rfl) ?_
              refine RK.c (S.aneq [(alarmT p parts x.trim).num, (alarmT p parts x.trim).den] [0, 0] eq74 (.yes rfl rfl rfl rfl) rfl (.tmp rfl rfl) (.tmp rfl rfl) rfl rfl rfl rfl) ?_
              refine RK.c (S.pickF .none rfl (.tmp rfl rfl) (.tmp rfl rfl) rfl) ?_
              refine RK.nil ?_
              refine Ab.D.code ?_
              refine OK.condD rfl rfl (fun c81 => ?_) (fun c81 => ?_)
              ·
                refine OK.seq ?_
                refine OK.reg ?_
                refine RK.c (S.assign .none rfl .cbool) ?_
                refine RK.nil ?_
                refine Ab.D.code ?_
                refine OK.ret (Ret.r1 (.tmp rfl rfl (.c (.same rfl) rfl) rfl) ?_)
                first | rfl | (refine ret_dT ?_; omega) | (refine ret_abs ?_; omega) | (refine ret_dT ?_; exact hl1) | (refine ret_abs ?_; exact g60 hb1) | (refine ret_abs ?_; exact c81 hb1) | (refine ret_dT ?_; exact hfin)
              ·
                refine OK.skip ?_
                refine Ab.D.code ?_
                refine OK.seq ?_
                refine OK.reg ?_
                refine RK.c (S.bloadN ti24 .none rfl (.tmp rfl rfl) rfl rfl rfl rfl) ?_
                refine RK.c (S.bfield fi27_0 .none rfl (.tmp rfl rfl)) ?_
                refine RK.c (S.bload1 ti25 .none rfl (.tmp rfl rfl) rfl rfl rfl rfl) ?_
                refine RK.c (S.call (ref_RecordsErr hp0) Tryz.call16 .none rfl (.cons (.tmp rfl rfl) (.cons (.tmp rfl rfl) .nil)) rfl) ?_
                refine RK.c (S.assign .none rfl (.tmp rfl rfl)) ?_
                refine RK.nil ?_
                refine Ab.D.code ?_
                refine OK.seq ?_
                refine OK.seq ?_
                refine OK.reg ?_
                refine RK.c (S.move .none rfl (.tmp rfl rfl)) ?_
                refine RK.c (S.eql .none rfl (.tmp rfl rfl) (.cint rfl)) ?_
                refine RK.c (S.move .none rfl (.tmp rfl rfl)) ?_
                refine RK.splitD (t := 99) rfl (fun g99 => ?_) (fun g99 => ?_)
                ·
                  refine RK.c (S.bfield fi27_0 (.yes rfl rfl rfl rfl) rfl (.tmp rfl rfl)) ?_
                  refine RK.c (S.bload1 ti25 (.yes rfl rfl rfl rfl) rfl (.tmp rfl rfl) rfl rfl rfl rfl) ?_
                  refine RK.c (S.lenM si25 (.yes rfl rfl rfl rfl) rfl (.tmp rfl rfl)) ?_
                  refine RK.c (S.eql (.yes rfl rfl rfl rfl) rfl (.tmp rfl rfl) (.cint rfl)) ?_
                  refine RK.c (S.pickT .none rfl (.tmp rfl rfl) (.tmp rfl rfl) rfl) ?_
                  refine RK.nil ?_
                  refine Ab.D.code ?_
                  refine OK.condD rfl rfl (fun c104 => ?_) (fun c104 => ?_)
                  ·
                    refine OK.reg ?_
                    refine RK.c (S.assign .none rfl (.cint rfl)) ?_
                    refine RK.nil ?_
                    refine Ab.D.code ?_
                    refine OK.seq ?_
                    refine OK.seq ?_
                    refine OK.reg ?_
                    refine RK.c (S.move .none rfl (.tmp rfl rfl)) ?_
                    refine RK.c (S.eql .none rfl (.tmp rfl rfl) (.cint rfl)) ?_
                    refine RK.nil ?_
                    refine Ab.D.code ?_
                    refine OK.condD rfl rfl (fun c106 => ?_) (fun c106 => ?_)
                    ·
                      refine OK.reg ?_
                      refine RK.c (S.bfield fi27_1 .none rfl (.tmp rfl rfl)) ?_
                      refine RK.c (S.bload1 ti3 .none rfl (.tmp rfl rfl) rfl rfl rfl rfl) ?_
                      refine RK.c (S.bfield fi27_0 .none rfl (.tmp rfl rfl)) ?_
                      refine RK.c (S.bload1 ti25 .none rfl (.tmp rfl rfl) rfl rfl rfl rfl) ?_
                      refine RK.c (S.lenM si25 .none rfl (.tmp rfl rfl)) ?_
                      refine RK.c (S.sub .none rfl (.tmp rfl rfl) (.cint rfl) (IntWalk.i64_in _ (by omega)) (IntWalk.i64_in _ (by omega))) ?_
                      refine RK.c (S.call (ref_TrimErr (by omega)) Tryz.call17 .none rfl (.cons (.tmp rfl rfl) (.cons (.tmp rfl rfl) .nil)) rfl) ?_
                      refine RK.c (S.assign .none rfl (.tmp rfl rfl)) ?_
                      refine RK.nil ?_
                      refine Ab.D.code ?_
                      refine OK.seq ?_
                      refine OK.seq ?_
                      refine OK.reg ?_
                      refine RK.c (S.move .none rfl (.tmp rfl rfl)) ?_
                      refine RK.c (S.neq .none rfl (.tmp rfl rfl) (.cint rfl)) ?_
                      refine RK.nil ?_
                      refine Ab.D.code ?_
                      refine OK.condD rfl rfl (fun c115 => ?_) (fun c115 => ?_)
                      ·
                        have hl1 := hl0 (by omega)
                        refine OK.seq ?_
                        refine OK.reg ?_
                        refine RK.c (S.move .none rfl (.tmp rfl rfl)) ?_
                        refine RK.c (S.move .none rfl (.tmp rfl rfl)) ?_
                        refine RK.c (S.eql .none rfl (.tmp rfl rfl) (.tmp rfl rfl)) ?_
                        refine RK.c (S.move .none rfl (.tmp rfl rfl)) ?_
                        refine RK.splitD (t := 119) rfl (fun g119 => ?_) (fun g119 => ?_)
                        ·
                          refine RK.c (S.move (.yes rfl rfl rfl rfl) rfl (.tmp rfl rfl)) ?_
                          refine RK.c (S.lenM si57 (.yes rfl rfl rfl rfl) rfl (.tmp rfl rfl)) ?_
                          refine RK.c (S.eql (.yes rfl rfl rfl rfl) rfl (.tmp rfl rfl) (.cint rfl)) ?_
                          refine RK.c (S.pickT .none rfl (.tmp rfl rfl) (.tmp rfl rfl) rfl) ?_
                          refine RK.c (S.assign .none rfl (.tmp rfl rfl)) ?_
                          refine RK.nil ?_
                          refine Ab.D.code ?_
                          refine OK.ret (Ret.r1 (.tmp rfl rfl (.c (.same rfl) rfl) rfl) ?_)
                          first | rfl | (refine ret_dT ?_; omega) | (refine ret_abs ?_; omega) | (refine ret_dT ?_; exact hl1) | (refine ret_abs ?_; exact g60 hb1) | (refine ret_abs ?_; exact c81 hb1) | (refine ret_dT ?_; exact hfin)
                        ·
                          refine RK.c (S.skip rfl rfl rfl rfl rfl) ?_
                          refine RK.c (S.skip rfl rfl rfl rfl rfl) ?_
                          refine RK.c (S.skip rfl rfl rfl rfl rfl) ?_
                          refine RK.c (S.pickF .none rfl (.tmp rfl rfl) .cbool rfl) ?_
                          refine RK.c (S.assign .none rfl (.tmp rfl rfl)) ?_
                          refine RK.nil ?_
                          refine Ab.D.code ?_
                          refine OK.ret (Ret.r1 (.tmp rfl rfl (.c (.same rfl) rfl) rfl) ?_)
                          first | rfl | (refine ret_dT ?_; omega) | (refine ret_abs ?_; omega) | (refine ret_dT ?_; exact hl1) | (refine ret_abs ?_; exact g60 hb1) | (refine ret_abs ?_; exact c81 hb1) | (refine ret_dT ?_; exact hfin)
                      ·
                        have he : alErr p x.records x.trim = 0 := by omega
                        have hrz : recsErr p x.records = 0 := by omega
                        have hL := learn_of hp0 hrz
                        have hLl := hL.len
                        have hl2 : 2 ≤ x.records.length := by omega
                        have htz : trimErr x.trim ((x.records.length : Int) - 1) = 0 := by omega
                        have hfin : (if alErr p x.records x.trim = 0 then alUp p x.records x.trim x.records.length else []) = alUp p x.records x.trim x.records.length := if_pos he
                        refine OK.skip ?_
                        refine Ab.D.code ?_
                        refine OK.seq ?_
                        refine OK.reg ?_
                        refine RK.c (S.move .none rfl (.tmp rfl rfl)) ?_
                        refine RK.c (S.eql .none rfl (.tmp rfl rfl) (.cint rfl)) ?_
                        refine RK.c (S.move .none rfl (.tmp rfl rfl)) ?_
                        refine RK.splitD (t := 126) rfl (fun g126 => ?_) (fun g126 => ?_)
                        ·
                          refine RK.c (S.move (.yes rfl rfl rfl rfl) rfl (.tmp rfl rfl)) ?_
                          refine RK.c (S.bloadN ti24 (.yes rfl rfl rfl rfl) rfl (.tmp rfl rfl) rfl rfl rfl rfl) ?_
                          refine RK.c (S.bfield fi27_0 (.yes rfl rfl rfl rfl) rfl (.tmp rfl rfl)) ?_
                          refine RK.c (S.bload1 ti25 (.yes rfl rfl rfl rfl) rfl (.tmp rfl rfl) rfl rfl rfl rfl) ?_
                          refine RK.c (S.bfield fi27_1 (.yes rfl rfl rfl rfl) rfl (.tmp rfl rfl)) ?_
                          refine RK.c (S.bload1 ti3 (.yes rfl rfl rfl rfl) rfl (.tmp rfl rfl) rfl rfl rfl rfl) ?_
                          refine RK.c (S.call (ref_Alarms hL hl2 htz) Tryz.call38 (.yes rfl rfl rfl rfl) rfl (.cons (.tmp rfl rfl) (.cons (.tmp rfl rfl) (.cons (.tmp rfl rfl) .nil))) rfl) ?_
                          refine RK.c (S.call (base_Ints) Tryz.call37 (.yes rfl rfl rfl rfl) rfl (.cons (.tmp rfl rfl) (.cons (.tmp rfl rfl) .nil)) rfl) ?_
                          refine RK.c (S.pickT .none rfl (.tmp rfl rfl) (.tmp rfl rfl) rfl) ?_
                          refine RK.c (S.assign .none rfl (.tmp rfl rfl)) ?_
                          refine RK.nil ?_
                          refine Ab.D.code ?_
                          refine OK.ret (Ret.r1 (.tmp rfl rfl (.c (.same rfl) rfl) rfl) ?_)
                          first | rfl | (refine ret_dT ?_; omega) | (refine ret_abs ?_; omega) | (refine ret_dT ?_; exact hl1) | (refine ret_abs ?_; exact g60 hb1) | (refine ret_abs ?_; exact c81 hb1) | (refine ret_dT ?_; exact hfin)
                        ·
                          refine RK.c (S.skip rfl rfl rfl rfl rfl) ?_
                          refine RK.c (S.skip rfl rfl rfl rfl rfl) ?_
                          refine RK.c (S.skip rfl rfl rfl rfl rfl) ?_
                          refine RK.c (S.skip rfl rfl rfl rfl rfl) ?_
                          refine RK.c (S.skip rfl rfl rfl rfl rfl) ?_
                          refine RK.c (S.skip rfl rfl rfl rfl rfl) ?_
                          refine RK.c (S.skip rfl rfl rfl rfl rfl) ?_
                          refine RK.c (S.skip rfl rfl rfl rfl rfl) ?_
                          refine RK.c (S.pickF .none rfl (.tmp rfl rfl) .cbool rfl) ?_
                          refine RK.c (S.assign .none rfl (.tmp rfl rfl)) ?_
                          refine RK.nil ?_
                          refine Ab.D.code ?_
                          refine OK.ret (Ret.r1 (.tmp rfl rfl (.c (.same rfl) rfl) rfl) ?_)
                          first | rfl | (refine ret_dT ?_; omega) | (refine ret_abs ?_; omega) | (refine ret_dT ?_; exact hl1) | (refine ret_abs ?_; exact g60 hb1) | (refine ret_abs ?_; exact c81 hb1) | (refine ret_dT ?_; exact hfin)
                    ·
                      refine OK.skip ?_
                      refine Ab.D.code ?_
                      refine OK.seq ?_
                      refine OK.seq ?_
                      refine OK.reg ?_
                      refine RK.c (S.move .none rfl (.tmp rfl rfl)) ?_
                      refine RK.c (S.neq .none rfl (.tmp rfl rfl) (.cint rfl)) ?_
                      refine RK.nil ?_
                      refine Ab.D.code ?_
                      refine OK.condD rfl rfl (fun c115 => ?_) (fun c115 => ?_)
                      ·
                        have hl1 := hl0 (by omega)
                        refine OK.seq ?_
                        refine OK.reg ?_
                        refine RK.c (S.move .none rfl (.tmp rfl rfl)) ?_
                        refine RK.c (S.move .none rfl (.tmp rfl rfl)) ?_
                        refine RK.c (S.eql .none rfl (.tmp rfl rfl) (.tmp rfl rfl)) ?_
                        refine RK.c (S.move .none rfl (.tmp rfl rfl)) ?_
                        refine RK.splitD (t := 119) rfl (fun g119 => ?_) (fun g119 => ?_)
                        ·
                          refine RK.c (S.move (.yes rfl rfl rfl rfl) rfl (.tmp rfl rfl)) ?_
                          refine RK.c (S.lenM si57 (.yes rfl rfl rfl rfl) rfl (.tmp rfl rfl)) ?_
                          refine RK.c (S.eql (.yes rfl rfl rfl rfl) rfl (.tmp rfl rfl) (.cint rfl)) ?_
                          refine RK.c (S.pickT .none rfl (.tmp rfl rfl) (.tmp rfl rfl) rfl) ?_
                          refine RK.c (S.assign .none rfl (.tmp rfl rfl)) ?_
                          refine RK.nil ?_
                          refine Ab.D.code ?_
                          refine OK.ret (Ret.r1 (.tmp rfl rfl (.c (.same rfl) rfl) rfl) ?_)
                          first | rfl | (refine ret_dT ?_; omega) | (refine ret_abs ?_; omega) | (refine ret_dT ?_; exact hl1) | (refine ret_abs ?_; exact g60 hb1) | (refine ret_abs ?_; exact c81 hb1) | (refine ret_dT ?_; exact hfin)
                        ·
                          refine RK.c (S.skip rfl rfl rfl rfl rfl) ?_
                          refine RK.c (S.skip rfl rfl rfl rfl rfl) ?_
                          refine RK.c (S.skip rfl rfl rfl rfl rfl) ?_
                          refine RK.c (S.pickF .none rfl (.tmp rfl rfl) .cbool rfl) ?_
                          refine RK.c (S.assign .none rfl (.tmp rfl rfl)) ?_
                          refine RK.nil ?_
                          refine Ab.D.code ?_
                          refine OK.ret (Ret.r1 (.tmp rfl rfl (.c (.same rfl) rfl) rfl) ?_)
                          first | rfl | (refine ret_dT ?_; omega) | (refine ret_abs ?_; omega) | (refine ret_dT ?_; exact hl1) | (refine ret_abs ?_; exact g60 hb1) | (refine ret_abs ?_; exact c81 hb1) | (refine ret_dT ?_; exact hfin)
                      ·
                        have he : alErr p x.records x.trim = 0 := by omega
                        have hrz : recsErr p x.records = 0 := by omega
                        have hL := learn_of hp0 hrz
                        have hLl := hL.len
                        have hl2 : 2 ≤ x.records.length := by omega
                        have htz : trimErr x.trim ((x.records.length : Int) - 1) = 0 := by omega
                        have hfin : (if alErr p x.records x.trim = 0 then alUp p x.records x.trim x.records.length else []) = alUp p x.records x.trim x.records.length := if_pos he
                        refine OK.skip ?_
                        refine Ab.D.code ?_
                        refine OK.seq ?_
                        refine OK.reg ?_
                        refine RK.c (S.move .none rfl (.tmp rfl rfl)) ?_
                        refine RK.c (S.eql .none rfl (.tmp rfl rfl) (.cint rfl)) ?_
                        refine RK.c (S.move .none rfl (.tmp rfl rfl)) ?_
                        refine RK.splitD (t := 126) rfl (fun g126 => ?_) (fun g126 => ?_)
                        ·
                          refine RK.c (S.move (.yes rfl rfl rfl rfl) rfl (.tmp rfl rfl)) ?_
                          refine RK.c (S.bloadN ti24 (.yes rfl rfl rfl rfl) rfl (.tmp rfl rfl) rfl rfl rfl rfl) ?_
                          refine RK.c (S.bfield fi27_0 (.yes rfl rfl rfl rfl) rfl (.tmp rfl rfl)) ?_
                          refine RK.c (S.bload1 ti25 (.yes rfl rfl rfl rfl) rfl (.tmp rfl rfl) rfl rfl rfl rfl) ?_
                          refine RK.c (S.bfield fi27_1 (.yes rfl rfl rfl rfl) rfl (.tmp rfl rfl)) ?_
                          refine RK.c (S.bload1 ti3 (.yes rfl rfl rfl rfl) rfl (.tmp rfl rfl) rfl rfl rfl rfl) ?_
                          refine RK.c (S.call (ref_Alarms hL hl2 htz) Tryz.call38 (.yes rfl rfl rfl rfl) rfl (.cons (.tmp rfl rfl) (.cons (.tmp rfl rfl) (.cons (.tmp rfl rfl) .nil))) rfl) ?_
                          refine RK.c (S.call (base_Ints) Tryz.call37 (.yes rfl rfl rfl rfl) rfl (.cons (.tmp rfl rfl) (.cons (.tmp rfl rfl) .nil)) rfl) ?_
                          refine RK.c (S.pickT .none rfl (.tmp rfl rfl) (.tmp rfl rfl) rfl) ?_
                          refine RK.c (S.assign .none rfl (.tmp rfl rfl)) ?_
                          refine RK.nil ?_
                          refine Ab.D.code ?_
                          refine OK.ret (Ret.r1 (.tmp rfl rfl (.c (.same rfl) rfl) rfl) ?_)
                          first | rfl | (refine ret_dT ?_; omega) | (refine ret_abs ?_; omega) | (refine ret_dT ?_; exact hl1) | (refine ret_abs ?_; exact g60 hb1) | (refine ret_abs ?_; exact c81 hb1) | (refine ret_dT ?_; exact hfin)
                        ·
                          refine RK.c (S.skip rfl rfl rfl rfl rfl) ?_
                          refine RK.c (S.skip rfl rfl rfl rfl rfl) ?_
                          refine RK.c (S.skip rfl rfl rfl rfl rfl) ?_
                          refine RK.c (S.skip rfl rfl rfl rfl rfl) ?_
                          refine RK.c (S.skip rfl rfl rfl rfl rfl) ?_
                          refine RK.c (S.skip rfl rfl rfl rfl rfl) ?_
                          refine RK.c (S.skip rfl rfl rfl rfl rfl) ?_
                          refine RK.c (S.skip rfl rfl rfl rfl rfl) ?_
                          refine RK.c (S.pickF .none rfl (.tmp rfl rfl) .cbool rfl) ?_
                          refine RK.c (S.assign .none rfl (.tmp rfl rfl)) ?_
                          refine RK.nil ?_
                          refine Ab.D.code ?_
                          refine OK.ret (Ret.r1 (.tmp rfl rfl (.c (.same rfl) rfl) rfl) ?_)
                          first | rfl | (refine ret_dT ?_; omega) | (refine ret_abs ?_; omega) | (refine ret_dT ?_; exact hl1) | (refine ret_abs ?_; exact g60 hb1) | (refine ret_abs ?_; exact c81 hb1) | (refine ret_dT ?_; exact hfin)
                  ·
                    refine OK.skip ?_
                    refine Ab.D.code ?_
                    refine OK.seq ?_
                    refine OK.seq ?_
                    refine OK.reg ?_
                    refine RK.c (S.move .none rfl (.tmp rfl rfl)) ?_
                    refine RK.c (S.eql .none rfl (.tmp rfl rfl) (.cint rfl)) ?_
                    refine RK.nil ?_
                    refine Ab.D.code ?_
                    refine OK.condD rfl rfl (fun c106 => ?_) (fun c106 => ?_)
                    ·
                      refine OK.reg ?_
                      refine RK.c (S.bfield fi27_1 .none rfl (.tmp rfl rfl)) ?_
                      refine RK.c (S.bload1 ti3 .none rfl (.tmp rfl rfl) rfl rfl rfl rfl) ?_
                      refine RK.c (S.bfield fi27_0 .none rfl (.tmp rfl rfl)) ?_
                      refine RK.c (S.bload1 ti25 .none rfl (.tmp rfl rfl) rfl rfl rfl rfl) ?_
                      refine RK.c (S.lenM si25 .none rfl (.tmp rfl rfl)) ?_
                      refine RK.c (S.sub .none rfl (.tmp rfl rfl) (.cint rfl) (IntWalk.i64_in _ (by omega)) (IntWalk.i64_in _ (by omega))) ?_
                      refine RK.c (S.call (ref_TrimErr (by omega)) Tryz.call17 .none rfl (.cons (.tmp rfl rfl) (.cons (.tmp rfl rfl) .nil)) rfl) ?_
                      refine RK.c (S.assign .none rfl (.tmp rfl rfl)) ?_
                      refine RK.nil ?_
                      refine Ab.D.code ?_
                      refine OK.seq ?_
                      refine OK.seq ?_
                      refine OK.reg ?_
                      refine RK.c (S.move .none rfl (.tmp rfl rfl)) ?_
                      refine RK.c (S.neq .none rfl (.tmp rfl rfl) (.cint rfl)) ?_
                      refine RK.nil ?_
                      refine Ab.D.code ?_
                      refine OK.condD rfl rfl (fun c115 => ?_) (fun c115 => ?_)
                      ·
                        have hl1 := hl0 (by omega)
                        refine OK.seq ?_
                        refine OK.reg ?_
                        refine RK.c (S.move .none rfl (.tmp rfl rfl)) ?_
                        refine RK.c (S.move .none rfl (.tmp rfl rfl)) ?_
                        refine RK.c (S.eql .none rfl (.tmp rfl rfl) (.tmp rfl rfl)) ?_
                        refine RK.c (S.move .none rfl (.tmp rfl rfl)) ?_
                        refine RK.splitD (t := 119) rfl (fun g119 => ?_) (fun g119 => ?_)
                        ·
                          refine RK.c (S.move (.yes rfl rfl rfl rfl) rfl (.tmp rfl rfl)) ?_
                          refine RK.c (S.lenM si57 (.yes rfl rfl rfl rfl) rfl (.tmp rfl rfl)) ?_
                          refine RK.c (S.eql (.yes rfl rfl rfl rfl) rfl (.tmp rfl rfl) (.cint rfl)) ?_
                          refine RK.c (S.pickT .none rfl (.tmp rfl rfl) (.tmp rfl rfl) rfl) ?_
                          refine RK.c (S.assign .none rfl (.tmp rfl rfl)) ?_
                          refine RK.nil ?_
                          refine Ab.D.code ?_
                          refine OK.ret (Ret.r1 (.tmp rfl rfl (.c (.same rfl) rfl) rfl) ?_)
                          first | rfl | (refine ret_dT ?_; omega) | (refine ret_abs ?_; omega) | (refine ret_dT ?_; exact hl1) | (refine ret_abs ?_; exact g60 hb1) | (refine ret_abs ?_; exact c81 hb1) | (refine ret_dT ?_; exact hfin)
                        ·
                          refine RK.c (S.skip rfl rfl rfl rfl rfl) ?_
                          refine RK.c (S.skip rfl rfl rfl rfl rfl) ?_
                          refine RK.c (S.skip rfl rfl rfl rfl rfl) ?_
                          refine RK.c (S.pickF .none rfl (.tmp rfl rfl) .cbool rfl) ?_
                          refine RK.c (S.assign .none rfl (.tmp rfl rfl)) ?_
                          refine RK.nil ?_
                          refine Ab.D.code ?_
                          refine OK.ret (Ret.r1 (.tmp rfl rfl (.c (.same rfl) rfl) rfl) ?_)
                          first | rfl | (refine ret_dT ?_; omega) | (refine ret_abs ?_; omega) | (refine ret_dT ?_; exact hl1) | (refine ret_abs ?_; exact g60 hb1) | (refine ret_abs ?_; exact c81 hb1) | (refine ret_dT ?_; exact hfin)
                      ·
                        have he : alErr p x.records x.trim = 0 := by omega
                        have hrz : recsErr p x.records = 0 := by omega
                        have hL := learn_of hp0 hrz
                        have hLl := hL.len
                        have hl2 : 2 ≤ x.records.length := by omega
                        have htz : trimErr x.trim ((x.records.length : Int) - 1) = 0 := by omega
                        have hfin : (if alErr p x.records x.trim = 0 then alUp p x.records x.trim x.records.length else []) = alUp p x.records x.trim x.records.length := if_pos he
                        refine OK.skip ?_
                        refine Ab.D.code ?_
                        refine OK.seq ?_
                        refine OK.reg ?_
                        refine RK.c (S.move .none rfl (.tmp rfl rfl)) ?_
                        refine RK.c (S.eql .none rfl (.tmp rfl rfl) (.cint rfl)) ?_
                        refine RK.c (S.move .none rfl (.tmp rfl rfl)) ?_
                        refine RK.splitD (t := 126) rfl (fun g126 => ?_) (fun g126 => ?_)
                        ·
                          refine RK.c (S.move (.yes rfl rfl rfl rfl) rfl (.tmp rfl rfl)) ?_
                          refine RK.c (S.bloadN ti24 (.yes rfl rfl rfl rfl) rfl (.tmp rfl rfl) rfl rfl rfl rfl) ?_
                          refine RK.c (S.bfield fi27_0 (.yes rfl rfl rfl rfl) rfl (.tmp rfl rfl)) ?_
                          refine RK.c (S.bload1 ti25 (.yes rfl rfl rfl rfl) rfl (.tmp rfl rfl) rfl rfl rfl rfl) ?_
                          refine RK.c (S.bfield fi27_1 (.yes rfl rfl rfl rfl) rfl (.tmp rfl rfl)) ?_
                          refine RK.c (S.bload1 ti3 (.yes rfl rfl rfl rfl) rfl (.tmp rfl rfl) rfl rfl rfl rfl) ?_
                          refine RK.c (S.call (ref_Alarms hL hl2 htz) Tryz.call38 (.yes rfl rfl rfl rfl) rfl (.cons (.tmp rfl rfl) (.cons (.tmp rfl rfl) (.cons (.tmp rfl rfl) .nil))) rfl) ?_
                          refine RK.c (S.call (base_Ints) Tryz.call37 (.yes rfl rfl rfl rfl) rfl (.cons (.tmp rfl rfl) (.cons (.tmp rfl rfl) .nil)) rfl) ?_
                          refine RK.c (S.pickT .none rfl (.tmp rfl rfl) (.tmp rfl rfl) rfl) ?_
                          refine RK.c (S.assign .none rfl (.tmp rfl rfl)) ?_
                          refine RK.nil ?_
                          refine Ab.D.code ?_
                          refine OK.ret (Ret.r1 (.tmp rfl rfl (.c (.same rfl) rfl) rfl) ?_)
                          first | rfl | (refine ret_dT ?_; omega) | (refine ret_abs ?_; omega) | (refine ret_dT ?_; exact hl1) | (refine ret_abs ?_; exact g60 hb1) | (refine ret_abs ?_; exact c81 hb1) | (refine ret_dT ?_; exact hfin)
                        ·
                          refine RK.c (S.skip rfl rfl rfl rfl rfl) ?_
                          refine RK.c (S.skip rfl rfl rfl rfl rfl) ?_
                          refine RK.c (S.skip rfl rfl rfl rfl rfl) ?_
                          refine RK.c (S.skip rfl rfl rfl rfl rfl) ?_
                          refine RK.c (S.skip rfl rfl rfl rfl rfl) ?_
                          refine RK.c (S.skip rfl rfl rfl rfl rfl) ?_
                          refine RK.c (S.skip rfl rfl rfl rfl rfl) ?_
                          refine RK.c (S.skip rfl rfl rfl rfl rfl) ?_
                          refine RK.c (S.pickF .none rfl (.tmp rfl rfl) .cbool rfl) ?_
                          refine RK.c (S.assign .none rfl (.tmp rfl rfl)) ?_
                          refine RK.nil ?_
                          refine Ab.D.code ?_
                          refine OK.ret (Ret.r1 (.tmp rfl rfl (.c (.same rfl) rfl) rfl) ?_)
                          first | rfl | (refine ret_dT ?_; omega) | (refine ret_abs ?_; omega) | (refine ret_dT ?_; exact hl1) | (refine ret_abs ?_; exact g60 hb1) | (refine ret_abs ?_; exact c81 hb1) | (refine ret_dT ?_; exact hfin)
                    ·
                      refine OK.skip ?_
                      refine Ab.D.code ?_
                      refine OK.seq ?_
                      refine OK.seq ?_
                      refine OK.reg ?_
                      refine RK.c (S.move .none rfl (.tmp rfl rfl)) ?_
                      refine RK.c (S.neq .none rfl (.tmp rfl rfl) (.cint rfl)) ?_
                      refine RK.nil ?_
                      refine Ab.D.code ?_
                      refine OK.condD rfl rfl (fun c115 => ?_) (fun c115 => ?_)
                      ·
                        have hl1 := hl0 (by omega)
                        refine OK.seq ?_
                        refine OK.reg ?_
                        refine RK.c (S.move .none rfl (.tmp rfl rfl)) ?_
                        refine RK.c (S.move .none rfl (.tmp rfl rfl)) ?_
                        refine RK.c (S.eql .none rfl (.tmp rfl rfl) (.tmp rfl rfl)) ?_
                        refine RK.c (S.move .none rfl (.tmp rfl rfl)) ?_
                        refine RK.splitD (t := 119) rfl (fun g119 => ?_) (fun g119 => ?_)
                        ·
                          refine RK.c (S.move (.yes rfl rfl rfl rfl) rfl (.tmp rfl rfl)) ?_
                          refine RK.c (S.lenM si57 (.yes rfl rfl rfl rfl) rfl (.tmp rfl rfl)) ?_
                          refine RK.c (S.eql (.yes rfl rfl rfl rfl) rfl (.tmp rfl rfl) (.cint rfl)) ?_
                          refine RK.c (S.pickT .none rfl (.tmp rfl rfl) (.tmp rfl rfl) rfl) ?_
                          refine RK.c (S.assign .none rfl (.tmp rfl rfl)) ?_
                          refine RK.nil ?_
                          refine Ab.D.code ?_
                          refine OK.ret (Ret.r1 (.tmp rfl rfl (.c (.same rfl) rfl) rfl) ?_)
                          first | rfl | (refine ret_dT ?_; omega) | (refine ret_abs ?_; omega) | (refine ret_dT ?_; exact hl1) | (refine ret_abs ?_; exact g60 hb1) | (refine ret_abs ?_; exact c81 hb1) | (refine ret_dT ?_; exact hfin)
                        ·
                          refine RK.c (S.skip rfl rfl rfl rfl rfl) ?_
                          refine RK.c (S.skip rfl rfl rfl rfl rfl) ?_
                          refine RK.c (S.skip rfl rfl rfl rfl rfl) ?_
                          refine RK.c (S.pickF .none rfl (.tmp rfl rfl) .cbool rfl) ?_
                          refine RK.c (S.assign .none rfl (.tmp rfl rfl)) ?_
                          refine RK.nil ?_
                          refine Ab.D.code ?_
                          refine OK.ret (Ret.r1 (.tmp rfl rfl (.c (.same rfl) rfl) rfl) ?_)
                          first | rfl | (refine ret_dT ?_; omega) | (refine ret_abs ?_; omega) | (refine ret_dT ?_; exact hl1) | (refine ret_abs ?_; exact g60 hb1) | (refine ret_abs ?_; exact c81 hb1) | (refine ret_dT ?_; exact hfin)
                      ·
                        have he : alErr p x.records x.trim = 0 := by omega
                        have hrz : recsErr p x.records = 0 := by omega
                        have hL := learn_of hp0 hrz
                        have hLl := hL.len
                        have hl2 : 2 ≤ x.records.length := by omega
                        have htz : trimErr x.trim ((x.records.length : Int) - 1) = 0 := by omega
                        have hfin : (if alErr p x.records x.trim = 0 then alUp p x.records x.trim x.records.length else []) = alUp p x.records x.trim x.records.length := if_pos he
                        refine OK.skip ?_
                        refine Ab.D.code ?_
                        refine OK.seq ?_
                        refine OK.reg ?_
                        refine RK.c (S.move .none rfl (.tmp rfl rfl)) ?_
                        refine RK.c (S.eql .none rfl (.tmp rfl rfl) (.cint rfl)) ?_
                        refine RK.c (S.move .none rfl (.tmp rfl rfl)) ?_
                        refine RK.splitD (t := 126) rfl (fun g126 => ?_) (fun g126 => ?_)
                        ·
                          refine RK.c (S.move (.yes rfl rfl rfl rfl) rfl (.tmp rfl rfl)) ?_
                          refine RK.c (S.bloadN ti24 (.yes rfl rfl rfl rfl) rfl (.tmp rfl rfl) rfl rfl rfl rfl) ?_
                          refine RK.c (S.bfield fi27_0 (.yes rfl rfl rfl rfl) rfl (.tmp rfl rfl)) ?_
                          refine RK.c (S.bload1 ti25 (.yes rfl rfl rfl rfl) rfl (.tmp rfl rfl) rfl rfl rfl rfl) ?_
                          refine RK.c (S.bfield fi27_1 (.yes rfl rfl rfl rfl) rfl (.tmp rfl rfl)) ?_
                          refine RK.c (S.bload1 ti3 (.yes rfl rfl rfl rfl) rfl (.tmp rfl rfl) rfl rfl rfl rfl) ?_
                          refine RK.c (S.call (ref_Alarms hL hl2 htz) Tryz.call38 (.yes rfl rfl rfl rfl) rfl (.cons (.tmp rfl rfl) (.cons (.tmp rfl rfl) (.cons (.tmp rfl rfl) .nil))) rfl) ?_
                          refine RK.c (S.call (base_Ints) Tryz.call37 (.yes rfl rfl rfl rfl) rfl (.cons (.tmp rfl rfl) (.cons (.tmp rfl rfl) .nil)) rfl) ?_
                          refine RK.c (S.pickT .none rfl (.tmp rfl rfl) (.tmp rfl rfl) rfl) ?_
                          refine RK.c (S.assign .none rfl (.tmp rfl rfl)) ?_
                          refine RK.nil ?_
                          refine Ab.D.code ?_
                          refine OK.ret (Ret.r1 (.tmp rfl rfl (.c (.same rfl) rfl) rfl) ?_)
                          first | rfl | (refine ret_dT ?_; omega) | (refine ret_abs ?_; omega) | (refine ret_dT ?_; exact hl1) | (refine ret_abs ?_; exact g60 hb1) | (refine ret_abs ?_; exact c81 hb1) | (refine ret_dT ?_; exact hfin)
                        ·
                          refine RK.c (S.skip rfl rfl rfl rfl rfl) ?_
                          refine RK.c (S.skip rfl rfl rfl rfl rfl) ?_
                          refine RK.c (S.skip rfl rfl rfl rfl rfl) ?_
                          refine RK.c (S.skip rfl rfl rfl rfl rfl) ?_
                          refine RK.c (S.skip rfl rfl rfl rfl rfl) ?_
                          refine RK.c (S.skip rfl rfl rfl rfl rfl) ?_
                          refine RK.c (S.skip rfl rfl rfl rfl rfl) ?_
                          refine RK.c (S.skip rfl rfl rfl rfl rfl) ?_
                          refine RK.c (S.pickF .none rfl (.tmp rfl rfl) .cbool rfl) ?_
                          refine RK.c (S.assign .none rfl (.tmp rfl rfl)) ?_
                          refine RK.nil ?_
                          refine Ab.D.code ?_
                          refine OK.ret (Ret.r1 (.tmp rfl rfl (.c (.same rfl) rfl) rfl) ?_)
                          first | rfl | (refine ret_dT ?_; omega) | (refine ret_abs ?_; omega) | (refine ret_dT ?_; exact hl1) | (refine ret_abs ?_; exact g60 hb1) | (refine ret_abs ?_; exact c81 hb1) | (refine ret_dT ?_; exact hfin)
                ·
                  refine RK.c (S.skip rfl rfl rfl rfl rfl) ?_
                  refine RK.c (S.skip rfl rfl rfl rfl rfl) ?_
                  refine RK.c (S.skip rfl rfl rfl rfl rfl) ?_
                  refine RK.c (S.skip rfl rfl rfl rfl rfl) ?_
                  refine RK.c (S.pickF .none rfl (.tmp rfl rfl) .cbool rfl) ?_
                  refine RK.nil ?_
                  refine Ab.D.code ?_
                  refine OK.condF rfl rfl rfl ?_
                  refine OK.skip ?_
                  refine Ab.D.code ?_
                  refine OK.seq ?_
                  refine OK.seq ?_
                  refine OK.reg ?_
                  refine RK.c (S.move .none rfl (.tmp rfl rfl)) ?_
                  refine RK.c (S.eql .none rfl (.tmp rfl rfl) (.cint rfl)) ?_
                  refine RK.nil ?_
                  refine Ab.D.code ?_
                  refine OK.condD rfl rfl (fun c106 => ?_) (fun c106 => ?_)
                  ·
                    refine OK.reg ?_
                    refine RK.c (S.bfield fi27_1 .none rfl (.tmp rfl rfl)) ?_
                    refine RK.c (S.bload1 ti3 .none rfl (.tmp rfl rfl) rfl rfl rfl rfl) ?_
                    refine RK.c (S.bfield fi27_0 .none rfl (.tmp rfl rfl)) ?_
                    refine RK.c (S.bload1 ti25 .none rfl (.tmp rfl rfl) rfl rfl rfl rfl) ?_
                    refine RK.c (S.lenM si25 .none rfl (.tmp rfl rfl)) ?_
                    refine RK.c (S.sub .none rfl (.tmp rfl rfl) (.cint rfl) (IntWalk.i64_in _ (by omega)) (IntWalk.i64_in _ (by omega))) ?_
                    refine RK.c (S.call (ref_TrimErr (by omega)) Tryz.call17 .none rfl (.cons (.tmp rfl rfl) (.cons (.tmp rfl rfl) .nil)) rfl) ?_
                    refine RK.c (S.assign .none rfl (.tmp rfl rfl)) ?_
                    refine RK.nil ?_
                    refine Ab.D.code ?_
                    refine OK.seq ?_
                    refine OK.seq ?_
                    refine OK.reg ?_
                    refine RK.c (S.move .none rfl (.tmp rfl rfl)) ?_
                    refine RK.c (S.neq .none rfl (.tmp rfl rfl) (.cint rfl)) ?_
                    refine RK.nil ?_
                    refine Ab.D.code ?_
                    refine OK.condD rfl rfl (fun c115 => ?_) (fun c115 => ?_)
                    ·
                      have hl1 := hl0 (by omega)
                      refine OK.seq ?_
                      refine OK.reg ?_
                      refine RK.c (S.move .none rfl (.tmp rfl rfl)) ?_
                      refine RK.c (S.move .none rfl (.tmp rfl rfl)) ?_
                      refine RK.c (S.eql .none rfl (.tmp rfl rfl) (.tmp rfl rfl)) ?_
                      refine RK.c (S.move .none rfl (.tmp rfl rfl)) ?_
                      refine RK.splitD (t := 119) rfl (fun g119 => ?_) (fun g119 => ?_)
                      ·
                        refine RK.c (S.move (.yes rfl rfl rfl rfl) rfl (.tmp rfl rfl)) ?_
                        refine RK.c (S.lenM si57 (.yes rfl rfl rfl rfl) rfl (.tmp rfl rfl)) ?_
                        refine RK.c (S.eql (.yes rfl rfl rfl rfl) rfl (.tmp rfl rfl) (.cint rfl)) ?_
                        refine RK.c (S.pickT .none rfl (.tmp rfl rfl) (.tmp rfl rfl) rfl) ?_
                        refine RK.c (S.assign .none rfl (.tmp rfl rfl)) ?_
                        refine RK.nil ?_
                        refine Ab.D.code ?_
                        refine OK.ret (Ret.r1 (.tmp rfl rfl (.c (.same rfl) rfl) rfl) ?_)
                        first | rfl | (refine ret_dT ?_; omega) | (refine ret_abs ?_; omega) | (refine ret_dT ?_; exact hl1) | (refine ret_abs ?_; exact g60 hb1) | (refine ret_abs ?_; exact c81 hb1) | (refine ret_dT ?_; exact hfin)
                      ·
                        refine RK.c (S.skip rfl rfl rfl rfl rfl) ?_
                        refine RK.c (S.skip rfl rfl rfl rfl rfl) ?_
                        refine RK.c (S.skip rfl rfl rfl rfl rfl) ?_
                        refine RK.c (S.pickF .none rfl (.tmp rfl rfl) .cbool rfl) ?_
                        refine RK.c (S.assign .none rfl (.tmp rfl rfl)) ?_
                        refine RK.nil ?_
                        refine Ab.D.code ?_
                        refine OK.ret (Ret.r1 (.tmp rfl rfl (.c (.same rfl) rfl) rfl) ?_)
                        first | rfl | (refine ret_dT ?_; omega) | (refine ret_abs ?_; omega) | (refine ret_dT ?_; exact hl1) | (refine ret_abs ?_; exact g60 hb1) | (refine ret_abs ?_; exact c81 hb1) | (refine ret_dT ?_; exact hfin)
                    ·
                      have he : alErr p x.records x.trim = 0 := by omega
                      have hrz : recsErr p x.records = 0 := by omega
                      have hL := learn_of hp0 hrz
                      have hLl := hL.len
                      have hl2 : 2 ≤ x.records.length := by omega
                      have htz : trimErr x.trim ((x.records.length : Int) - 1) = 0 := by omega
                      have hfin : (if alErr p x.records x.trim = 0 then alUp p x.records x.trim x.records.length else []) = alUp p x.records x.trim x.records.length := if_pos he
                      refine OK.skip ?_
                      refine Ab.D.code ?_
                      refine OK.seq ?_
                      refine OK.reg ?_
                      refine RK.c (S.move .none rfl (.tmp rfl rfl)) ?_
                      refine RK.c (S.eql .none rfl (.tmp rfl rfl) (.cint rfl)) ?_
                      refine RK.c (S.move .none rfl (.tmp rfl rfl)) ?_
                      refine RK.splitD (t := 126) rfl (fun g126 => ?_) (fun g126 => ?_)
                      ·
                        refine RK.c (S.move (.yes rfl rfl rfl rfl) rfl (.tmp rfl rfl)) ?_
                        refine RK.c (S.bloadN ti24 (.yes rfl rfl rfl rfl) rfl (.tmp rfl rfl) rfl rfl rfl rfl) ?_
                        refine RK.c (S.bfield fi27_0 (.yes rfl rfl rfl rfl) rfl (.tmp rfl rfl)) ?_
                        refine RK.c (S.bload1 ti25 (.yes rfl rfl rfl rfl) rfl (.tmp rfl rfl) rfl rfl rfl rfl) ?_
                        refine RK.c (S.bfield fi27_1 (.yes rfl rfl rfl rfl) rfl (.tmp rfl rfl)) ?_
                        refine RK.c (S.bload1 ti3 (.yes rfl rfl rfl rfl) rfl (.tmp rfl rfl) rfl rfl rfl rfl) ?_
                        refine RK.c (S.call (ref_Alarms hL hl2 htz) Tryz.call38 (.yes rfl rfl rfl rfl) rfl (.cons (.tmp rfl rfl) (.cons (.tmp rfl rfl) (.cons (.tmp rfl rfl) .nil))) rfl) ?_
                        refine RK.c (S.call (base_Ints) Tryz.call37 (.yes rfl rfl rfl rfl) rfl (.cons (.tmp rfl rfl) (.cons (.tmp rfl rfl) .nil)) rfl) ?_
                        refine RK.c (S.pickT .none rfl (.tmp rfl rfl) (.tmp rfl rfl) rfl) ?_
                        refine RK.c (S.assign .none rfl (.tmp rfl rfl)) ?_
                        refine RK.nil ?_
                        refine Ab.D.code ?_
                        refine OK.ret (Ret.r1 (.tmp rfl rfl (.c (.same rfl) rfl) rfl) ?_)
                        first | rfl | (refine ret_dT ?_; omega) | (refine ret_abs ?_; omega) | (refine ret_dT ?_; exact hl1) | (refine ret_abs ?_; exact g60 hb1) | (refine ret_abs ?_; exact c81 hb1) | (refine ret_dT ?_; exact hfin)
                      ·
                        refine RK.c (S.skip rfl rfl rfl rfl rfl) ?_
                        refine RK.c (S.skip rfl rfl rfl rfl rfl) ?_
                        refine RK.c (S.skip rfl rfl rfl rfl rfl) ?_
                        refine RK.c (S.skip rfl rfl rfl rfl rfl) ?_
                        refine RK.c (S.skip rfl rfl rfl rfl rfl) ?_
                        refine RK.c (S.skip rfl rfl rfl rfl rfl) ?_
                        refine RK.c (S.skip rfl rfl rfl rfl rfl) ?_
                        refine RK.c (S.skip rfl rfl rfl rfl rfl) ?_
                        refine RK.c (S.pickF .none rfl (.tmp rfl rfl) .cbool rfl) ?_
                        refine RK.c (S.assign .none rfl (.tmp rfl rfl)) ?_
                        refine RK.nil ?_
                        refine Ab.D.code ?_
                        refine OK.ret (Ret.r1 (.tmp rfl rfl (.c (.same rfl) rfl) rfl) ?_)
                        first | rfl | (refine ret_dT ?_; omega) | (refine ret_abs ?_; omega) | (refine ret_dT ?_; exact hl1) | (refine ret_abs ?_; exact g60 hb1) | (refine ret_abs ?_; exact c81 hb1) | (refine ret_dT ?_; exact hfin)
                  ·
                    refine OK.skip ?_
                    refine Ab.D.code ?_
                    refine OK.seq ?_
                    refine OK.seq ?_
                    refine OK.reg ?_
                    refine RK.c (S.move .none rfl (.tmp rfl rfl)) ?_
                    refine RK.c (S.neq .none rfl (.tmp rfl rfl) (.cint rfl)) ?_
                    refine RK.nil ?_
                    refine Ab.D.code ?_
                    refine OK.condD rfl rfl (fun c115 => ?_) (fun c115 => ?_)
                    ·
                      have hl1 := hl0 (by omega)
                      refine OK.seq ?_
                      refine OK.reg ?_
                      refine RK.c (S.move .none rfl (.tmp rfl rfl)) ?_
                      refine RK.c (S.move .none rfl (.tmp rfl rfl)) ?_
                      refine RK.c (S.eql .none rfl (.tmp rfl rfl) (.tmp rfl rfl)) ?_
                      refine RK.c (S.move .none rfl (.tmp rfl rfl)) ?_
                      refine RK.splitD (t := 119) rfl (fun g119 => ?_) (fun g119 => ?_)
                      ·
                        refine RK.c (S.move (.yes rfl rfl rfl rfl) rfl (.tmp rfl rfl)) ?_
                        refine RK.c (S.lenM si57 (.yes rfl rfl rfl rfl) rfl (.tmp rfl rfl)) ?_
                        refine RK.c (S.eql (.yes rfl rfl rfl rfl) rfl (.tmp rfl rfl) (.cint rfl)) ?_
                        refine RK.c (S.pickT .none rfl (.tmp rfl rfl) (.tmp rfl rfl) rfl) ?_
                        refine RK.c (S.assign .none rfl (.tmp rfl rfl)) ?_
                        refine RK.nil ?_
                        refine Ab.D.code ?_
                        refine OK.ret (Ret.r1 (.tmp rfl rfl (.c (.same rfl) rfl) rfl) ?_)
                        first | rfl | (refine ret_dT ?_; omega) | (refine ret_abs ?_; omega) | (refine ret_dT ?_; exact hl1) | (refine ret_abs ?_; exact g60 hb1) | (refine ret_abs ?_; exact c81 hb1) | (refine ret_dT ?_; exact hfin)
                      ·
                        refine RK.c (S.skip rfl rfl rfl rfl rfl) ?_
                        refine RK.c (S.skip rfl rfl rfl rfl rfl) ?_
                        refine RK.c (S.skip rfl rfl rfl rfl rfl) ?_
                        refine RK.c (S.pickF .none rfl (.tmp rfl rfl) .cbool rfl) ?_
                        refine RK.c (S.assign .none rfl (.tmp rfl rfl)) ?_
                        refine RK.nil ?_
                        refine Ab.D.code ?_
                        refine OK.ret (Ret.r1 (.tmp rfl rfl (.c (.same rfl) rfl) rfl) ?_)
                        first | rfl | (refine ret_dT ?_; omega) | (refine ret_abs ?_; omega) | (refine ret_dT ?_; exact hl1) | (refine ret_abs ?_; exact g60 hb1) | (refine ret_abs ?_; exact c81 hb1) | (refine ret_dT ?_; exact hfin)
                    ·
                      have he : alErr p x.records x.trim = 0 := by omega
                      have hrz : recsErr p x.records = 0 := by omega
                      have hL := learn_of hp0 hrz
                      have hLl := hL.len
                      have hl2 : 2 ≤ x.records.length := by omega
                      have htz : trimErr x.trim ((x.records.length : Int) - 1) = 0 := by omega
                      have hfin : (if alErr p x.records x.trim = 0 then alUp p x.records x.trim x.records.length else []) = alUp p x.records x.trim x.records.length := if_pos he
                      refine OK.skip ?_
                      refine Ab.D.code ?_
                      refine OK.seq ?_
                      refine OK.reg ?_
                      refine RK.c (S.move .none rfl (.tmp rfl rfl)) ?_
                      refine RK.c (S.eql .none rfl (.tmp rfl rfl) (.cint rfl)) ?_
                      refine RK.c (S.move .none rfl (.tmp rfl rfl)) ?_
                      refine RK.splitD (t := 126) rfl (fun g126 => ?_) (fun g126 => ?_)
                      ·
                        refine RK.c (S.move (.yes rfl rfl rfl rfl) rfl (.tmp rfl rfl)) ?_
                        refine RK.c (S.bloadN ti24 (.yes rfl rfl rfl rfl) rfl (.tmp rfl rfl) rfl rfl rfl rfl) ?_
                        refine RK.c (S.bfield fi27_0 (.yes rfl rfl rfl rfl) rfl (.tmp rfl rfl)) ?_
                        refine RK.c (S.bload1 ti25 (.yes rfl rfl rfl rfl) rfl (.tmp rfl rfl) rfl rfl rfl rfl) ?_
                        refine RK.c (S.bfield fi27_1 (.yes rfl rfl rfl rfl) rfl (.tmp rfl rfl)) ?_
                        refine RK.c (S.bload1 ti3 (.yes rfl rfl rfl rfl) rfl (.tmp rfl rfl) rfl rfl rfl rfl) ?_
                        refine RK.c (S.call (ref_Alarms hL hl2 htz) Tryz.call38 (.yes rfl rfl rfl rfl) rfl (.cons (.tmp rfl rfl) (.cons (.tmp rfl rfl) (.cons (.tmp rfl rfl) .nil))) rfl) ?_
                        refine RK.c (S.call (base_Ints) Tryz.call37 (.yes rfl rfl rfl rfl) rfl (.cons (.tmp rfl rfl) (.cons (.tmp rfl rfl) .nil)) rfl) ?_
                        refine RK.c (S.pickT .none rfl (.tmp rfl rfl) (.tmp rfl rfl) rfl) ?_
                        refine RK.c (S.assign .none rfl (.tmp rfl rfl)) ?_
                        refine RK.nil ?_
                        refine Ab.D.code ?_
                        refine OK.ret (Ret.r1 (.tmp rfl rfl (.c (.same rfl) rfl) rfl) ?_)
                        first | rfl | (refine ret_dT ?_; omega) | (refine ret_abs ?_; omega) | (refine ret_dT ?_; exact hl1) | (refine ret_abs ?_; exact g60 hb1) | (refine ret_abs ?_; exact c81 hb1) | (refine ret_dT ?_; exact hfin)
                      ·
                        refine RK.c (S.skip rfl rfl rfl rfl rfl) ?_
                        refine RK.c (S.skip rfl rfl rfl rfl rfl) ?_
                        refine RK.c (S.skip rfl rfl rfl rfl rfl) ?_
                        refine RK.c (S.skip rfl rfl rfl rfl rfl) ?_
                        refine RK.c (S.skip rfl rfl rfl rfl rfl) ?_
                        refine RK.c (S.skip rfl rfl rfl rfl rfl) ?_
                        refine RK.c (S.skip rfl rfl rfl rfl rfl) ?_
                        refine RK.c (S.skip rfl rfl rfl rfl rfl) ?_
                        refine RK.c (S.pickF .none rfl (.tmp rfl rfl) .cbool rfl) ?_
                        refine RK.c (S.assign .none rfl (.tmp rfl rfl)) ?_
                        refine RK.nil ?_
                        refine Ab.D.code ?_
                        refine OK.ret (Ret.r1 (.tmp rfl rfl (.c (.same rfl) rfl) rfl) ?_)
                        first | rfl | (refine ret_dT ?_; omega) | (refine ret_abs ?_; omega) | (refine ret_dT ?_; exact hl1) | (refine ret_abs ?_; exact g60 hb1) | (refine ret_abs ?_; exact c81 hb1) | (refine ret_dT ?_; exact hfin)
          ·
            have hpt : 1 ≤ parts ∧ parts ≤ 20 := Decidable.not_not.1 g68
            have htp : trimErr x.trim parts = 0 := by omega
            have hb2 : boundErr p parts x.trim = 0 := by omega
            refine OK.seq ?_
            refine OK.regionDraw follows (.c (S.move .none rfl (.tmp rfl rfl))
              (.c (S.neq .none rfl (.tmp rfl rfl) (.cint rfl))
              (.c (S.move .none rfl (.tmp rfl rfl))
              (.c (S.bloadN ti74 (.yes rfl rfl rfl (by simp [*])) rfl (.tmp rfl rfl) rfl rfl rfl rfl)
              (.c (S.bloadN ti24 (.yes rfl rfl rfl (by simp [*])) rfl (.tmp rfl rfl) rfl rfl rfl rfl)
              (.c (S.move (.yes rfl rfl rfl (by simp [*])) rfl (.tmp rfl rfl))
              (.c (S.bfield fi27_1 (.yes rfl rfl rfl (by simp [*])) rfl (.tmp rfl rfl))
              (.c (S.bload1 ti3 (.yes rfl rfl rfl (by simp [*])) rfl (.tmp rfl rfl) rfl rfl rfl rfl)
              (.c (S.call (ref_Bound hp0 hpt htp) Tryz.call36 (.yes rfl rfl rfl (by simp [*])) rfl (.cons (.tmp rfl rfl) (.cons (.tmp rfl rfl) (.cons (.tmp rfl rfl) .nil))) rfl)
              (.c (S.aneq [(alarmT p parts x.trim).num, (alarmT p parts x.trim).den] [(alarmT p parts x.trim).num, (alarmT p parts x.trim).den] eq74 (.yes rfl rfl rfl (by simp [*])) rfl (.tmp rfl rfl) (.tmp rfl rfl) rfl rfl rfl rfl)
              (.c (S.pickF .none rfl (.tmp rfl rfl) (.tmp rfl rfl) (by simp [*]))
              .nil))))))))))) (by kernel_rfl) ?_
            refine Ab.D.code ?_
            refine OK.condD rfl rfl (fun c92 => ?_) (fun c92 => ?_)
            ·
              exact absurd rfl c92
            ·
              refine OK.skip ?_
              refine Ab.D.code ?_
              refine OK.seq ?_
              refine OK.reg ?_
              refine RK.c (S.bloadN ti24 .none rfl (.tmp rfl rfl) rfl rfl rfl rfl) ?_
              refine RK.c (S.bfield fi27_0 .none rfl (.tmp rfl rfl)) ?_
              refine RK.c (S.bload1 ti25 .none rfl (.tmp rfl rfl) rfl rfl rfl rfl) ?_
              refine RK.c (S.call (ref_RecordsErr hp0) Tryz.call16 .none rfl (.cons (.tmp rfl rfl) (.cons (.tmp rfl rfl) .nil)) rfl) ?_
              refine RK.c (S.assign .none rfl (.tmp rfl rfl)) ?_
              refine RK.nil ?_
              refine Ab.D.code ?_
              refine OK.seq ?_
              refine OK.seq ?_
              refine OK.reg ?_
              refine RK.c (S.move .none rfl (.tmp rfl rfl)) ?_
              refine RK.c (S.eql .none rfl (.tmp rfl rfl) (.cint rfl)) ?_
              refine RK.c (S.move .none rfl (.tmp rfl rfl)) ?_
              refine RK.splitD (t := 99) rfl (fun g99 => ?_) (fun g99 => ?_)
              ·
                refine RK.c (S.bfield fi27_0 (.yes rfl rfl rfl rfl) rfl (.tmp rfl rfl)) ?_
                refine RK.c (S.bload1 ti25 (.yes rfl rfl rfl rfl) rfl (.tmp rfl rfl) rfl rfl rfl rfl) ?_
                refine RK.c (S.lenM si25 (.yes rfl rfl rfl rfl) rfl (.tmp rfl rfl)) ?_
                refine RK.c (S.eql (.yes rfl rfl rfl rfl) rfl (.tmp rfl rfl) (.cint rfl)) ?_
                refine RK.c (S.pickT .none rfl (.tmp rfl rfl) (.tmp rfl rfl) rfl) ?_
                refine RK.nil ?_
                refine Ab.D.code ?_
                refine OK.condD rfl rfl (fun c104 => ?_) (fun c104 => ?_)
                ·
                  refine OK.reg ?_
                  refine RK.c (S.assign .none rfl (.cint rfl)) ?_
                  refine RK.nil ?_
                  refine Ab.D.code ?_
                  refine OK.seq ?_
                  refine OK.seq ?_
                  refine OK.reg ?_
                  refine RK.c (S.move .none rfl (.tmp rfl rfl)) ?_
                  refine RK.c (S.eql .none rfl (.tmp rfl rfl) (.cint rfl)) ?_
                  refine RK.nil ?_
                  refine Ab.D.code ?_
                  refine OK.condD rfl rfl (fun c106 => ?_) (fun c106 => ?_)
                  ·
                    refine OK.reg ?_
                    refine RK.c (S.bfield fi27_1 .none rfl (.tmp rfl rfl)) ?_
                    refine RK.c (S.bload1 ti3 .none rfl (.tmp rfl rfl) rfl rfl rfl rfl) ?_
                    refine RK.c (S.bfield fi27_0 .none rfl (.tmp rfl rfl)) ?_
                    refine RK.c (S.bload1 ti25 .none rfl (.tmp rfl rfl) rfl rfl rfl rfl) ?_
                    refine RK.c (S.lenM si25 .none rfl (.tmp rfl rfl)) ?_
                    refine RK.c (S.sub .none rfl (.tmp rfl rfl) (.cint rfl) (IntWalk.i64_in _ (by omega)) (IntWalk.i64_in _ (by omega))) ?_
                    refine RK.c (S.call (ref_TrimErr (by omega)) Tryz.call17 .none rfl (.cons (.tmp rfl rfl) (.cons (.tmp rfl rfl) .nil)) rfl) ?_
                    refine RK.c (S.assign .none rfl (.tmp rfl rfl)) ?_
                    refine RK.nil ?_
                    refine Ab.D.code ?_
                    refine OK.seq ?_
                    refine OK.seq ?_
                    refine OK.reg ?_
                    refine RK.c (S.move .none rfl (.tmp rfl rfl)) ?_
                    refine RK.c (S.neq .none rfl (.tmp rfl rfl) (.cint rfl)) ?_
                    refine RK.nil ?_
                    refine Ab.D.code ?_
                    refine OK.condD rfl rfl (fun c115 => ?_) (fun c115 => ?_)
                    ·
                      have hl1 := hl0 (by omega)
                      refine OK.seq ?_
                      refine OK.reg ?_
                      refine RK.c (S.move .none rfl (.tmp rfl rfl)) ?_
                      refine RK.c (S.move .none rfl (.tmp rfl rfl)) ?_
                      refine RK.c (S.eql .none rfl (.tmp rfl rfl) (.tmp rfl rfl)) ?_
                      refine RK.c (S.move .none rfl (.tmp rfl rfl)) ?_
                      refine RK.splitD (t := 119) rfl (fun g119 => ?_) (fun g119 => ?_)
                      ·
                        refine RK.c (S.move (.yes rfl rfl rfl rfl) rfl (.tmp rfl rfl)) ?_
                        refine RK.c (S.lenM si57 (.yes rfl rfl rfl rfl) rfl (.tmp rfl rfl)) ?_
                        refine RK.c (S.eql (.yes rfl rfl rfl rfl) rfl (.tmp rfl rfl) (.cint rfl)) ?_
                        refine RK.c (S.pickT .none rfl (.tmp rfl rfl) (.tmp rfl rfl) rfl) ?_
                        refine RK.c (S.assign .none rfl (.tmp rfl rfl)) ?_
                        refine RK.nil ?_
                        refine Ab.D.code ?_
                        refine OK.ret (Ret.r1 (.tmp rfl rfl (.c (.same rfl) rfl) rfl) ?_)
                        first | rfl | (refine ret_dT ?_; omega) | (refine ret_abs ?_; omega) | (refine ret_dT ?_; exact hl1) | (refine ret_abs ?_; exact g60 hb1) | (refine ret_abs ?_; exact c81 hb1) | (refine ret_dT ?_; exact hfin)
                      ·
                        refine RK.c (S.skip rfl rfl rfl rfl rfl) ?_
                        refine RK.c (S.skip rfl rfl rfl rfl rfl) ?_
                        refine RK.c (S.skip rfl rfl rfl rfl rfl) ?_
                        refine RK.c (S.pickF .none rfl (.tmp rfl rfl) .cbool rfl) ?_
                        refine RK.c (S.assign .none rfl (.tmp rfl rfl)) ?_
                        refine RK.nil ?_
                        refine Ab.D.code ?_
                        refine OK.ret (Ret.r1 (.tmp rfl rfl (.c (.same rfl) rfl) rfl) ?_)
                        first | rfl | (refine ret_dT ?_; omega) | (refine ret_abs ?_; omega) | (refine ret_dT ?_; exact hl1) | (refine ret_abs ?_; exact g60 hb1) | (refine ret_abs ?_; exact c81 hb1) | (refine ret_dT ?_; exact hfin)
                    ·
                      have he : alErr p x.records x.trim = 0 := by omega
                      have hrz : recsErr p x.records = 0 := by omega
                      have hL := learn_of hp0 hrz
                      have hLl := hL.len
                      have hl2 : 2 ≤ x.records.length := by omega
                      have htz : trimErr x.trim ((x.records.length : Int) - 1) = 0 := by omega
                      have hfin : (if alErr p x.records x.trim = 0 then alUp p x.records x.trim x.records.length else []) = alUp p x.records x.trim x.records.length := if_pos he
                      refine OK.skip ?_
                      refine Ab.D.code ?_
                      refine OK.seq ?_
                      refine OK.reg ?_
                      refine RK.c (S.move .none rfl (.tmp rfl rfl)) ?_
                      refine RK.c (S.eql .none rfl (.tmp rfl rfl) (.cint rfl)) ?_
                      refine RK.c (S.move .none rfl (.tmp rfl rfl)) ?_
                      refine RK.splitD (t := 126) rfl (fun g126 => ?_) (fun g126 => ?_)
                      ·
                        refine RK.c (S.move (.yes rfl rfl rfl rfl) rfl (.tmp rfl rfl)) ?_
                        refine RK.c (S.bloadN ti24 (.yes rfl rfl rfl rfl) rfl (.tmp rfl rfl) rfl rfl rfl rfl) ?_
                        refine RK.c (S.bfield fi27_0 (.yes rfl rfl rfl rfl) rfl (.tmp rfl rfl)) ?_
                        refine RK.c (S.bload1 ti25 (.yes rfl rfl rfl rfl) rfl (.tmp rfl rfl) rfl rfl rfl rfl) ?_
                        refine RK.c (S.bfield fi27_1 (.yes rfl rfl rfl rfl) rfl (.tmp rfl rfl)) ?_
                        refine RK.c (S.bload1 ti3 (.yes rfl rfl rfl rfl) rfl (.tmp rfl rfl) rfl rfl rfl rfl) ?_
                        refine RK.c (S.call (ref_Alarms hL hl2 htz) Tryz.call38 (.yes rfl rfl rfl rfl) rfl (.cons (.tmp rfl rfl) (.cons (.tmp rfl rfl) (.cons (.tmp rfl rfl) .nil))) rfl) ?_
                        refine RK.c (S.call (base_Ints) Tryz.call37 (.yes rfl rfl rfl rfl) rfl (.cons (.tmp rfl rfl) (.cons (.tmp rfl rfl) .nil)) rfl) ?_
                        refine RK.c (S.pickT .none rfl (.tmp rfl rfl) (.tmp rfl rfl) rfl) ?_
                        refine RK.c (S.assign .none rfl (.tmp rfl rfl)) ?_
                        refine RK.nil ?_
                        refine Ab.D.code ?_
                        refine OK.ret (Ret.r1 (.tmp rfl rfl (.c (.same rfl) rfl) rfl) ?_)
                        first | rfl | (refine ret_dT ?_; omega) | (refine ret_abs ?_; omega) | (refine ret_dT ?_; exact hl1) | (refine ret_abs ?_; exact g60 hb1) | (refine ret_abs ?_; exact c81 hb1) | (refine ret_dT ?_; exact hfin)
                      ·
                        refine RK.c (S.skip rfl rfl rfl rfl rfl) ?_
                        refine RK.c (S.skip rfl rfl rfl rfl rfl) ?_
                        refine RK.c (S.skip rfl rfl rfl rfl rfl) ?_
                        refine RK.c (S.skip rfl rfl rfl rfl rfl) ?_
                        refine RK.c (S.skip rfl rfl rfl rfl rfl) ?_
                        refine RK.c (S.skip rfl rfl rfl rfl rfl) ?_
                        refine RK.c (S.skip rfl rfl rfl rfl rfl) ?_
                        refine RK.c (S.skip rfl rfl rfl rfl rfl) ?_
                        refine RK.c (S.pickF .none rfl (.tmp rfl rfl) .cbool rfl) ?_
                        refine RK.c (S.assign .none rfl (.tmp rfl rfl)) ?_
                        refine RK.nil ?_
                        refine Ab.D.code ?_
                        refine OK.ret (Ret.r1 (.tmp rfl rfl (.c (.same rfl) rfl) rfl) ?_)
                        first | rfl | (refine ret_dT ?_; omega) | (refine ret_abs ?_; omega) | (refine ret_dT ?_; exact hl1) | (refine ret_abs ?_; exact g60 hb1) | (refine ret_abs ?_; exact c81 hb1) | (refine ret_dT ?_; exact hfin)
                  ·
                    refine OK.skip ?_
                    refine Ab.D.code ?_
                    refine OK.seq ?_
                    refine OK.seq ?_
                    refine OK.reg ?_
                    refine RK.c (S.move .none rfl (.tmp rfl rfl)) ?_
                    refine RK.c (S.neq .none rfl (.tmp rfl rfl) (.cint rfl)) ?_
                    refine RK.nil ?_
                    refine Ab.D.code ?_
                    refine OK.condD rfl rfl (fun c115 => ?_) (fun c115 => ?_)
                    ·
                      have hl1 := hl0 (by omega)
                      refine OK.seq ?_
                      refine OK.reg ?_
                      refine RK.c (S.move .none rfl (.tmp rfl rfl)) ?_
                      refine RK.c (S.move .none rfl (.tmp rfl rfl)) ?_
                      refine RK.c (S.eql .none rfl (.tmp rfl rfl) (.tmp rfl rfl)) ?_
                      refine RK.c (S.move .none rfl (.tmp rfl rfl)) ?_
                      refine RK.splitD (t := 119) rfl (fun g119 => ?_) (fun g119 => ?_)
                      ·
                        refine RK.c (S.move (.yes rfl rfl rfl rfl) rfl (.tmp rfl rfl)) ?_
                        refine RK.c (S.lenM si57 (.yes rfl rfl rfl rfl) rfl (.tmp rfl rfl)) ?_
                        refine RK.c (S.eql (.yes rfl rfl rfl rfl) rfl (.tmp rfl rfl) (.cint rfl)) ?_
                        refine RK.c (S.pickT .none rfl (.tmp rfl rfl) (.tmp rfl rfl) rfl) ?_
                        refine RK.c (S.assign .none rfl (.tmp rfl rfl)) ?_
                        refine RK.nil ?_
                        refine Ab.D.code ?_
                        refine OK.ret (Ret.r1 (.tmp rfl rfl (.c (.same rfl) rfl) rfl) ?_)
                        first | rfl | (refine ret_dT ?_; omega) | (refine ret_abs ?_; omega) | (refine ret_dT ?_; exact hl1) | (refine ret_abs ?_; exact g60 hb1) | (refine ret_abs ?_; exact c81 hb1) | (refine ret_dT ?_; exact hfin)
                      ·
                        refine RK.c (S.skip rfl rfl rfl rfl rfl) ?_
                        refine RK.c (S.skip rfl rfl rfl rfl rfl) ?_
                        refine RK.c (S.skip rfl rfl rfl rfl rfl) ?_
                        refine RK.c (S.pickF .none rfl (.tmp rfl rfl) .cbool rfl) ?_
                        refine RK.c (S.assign .none rfl (.tmp rfl rfl)) ?_
                        refine RK.nil ?_
                        refine Ab.D.code ?_
                        refine OK.ret (Ret.r1 (.tmp rfl rfl (.c (.same rfl) rfl) rfl) ?_)
                        first | rfl | (refine ret_dT ?_; omega) | (refine ret_abs ?_; omega) | (refine ret_dT ?_; exact hl1) | (refine ret_abs ?_; exact g60 hb1) | (refine ret_abs ?_; exact c81 hb1) | (refine ret_dT ?_; exact hfin)
                    ·
                      have he : alErr p x.records x.trim = 0 := by omega
                      have hrz : recsErr p x.records = 0 := by omega
                      have hL := learn_of hp0 hrz
                      have hLl := hL.len
                      have hl2 : 2 ≤ x.records.length := by omega
                      have htz : trimErr x.trim ((x.records.length : Int) - 1) = 0 := by omega
                      have hfin : (if alErr p x.records x.trim = 0 then alUp p x.records x.trim x.records.length else []) = alUp p x.records x.trim x.records.length := if_pos he
                      refine OK.skip ?_
                      refine Ab.D.code ?_
                      refine OK.seq ?_
                      refine OK.reg ?_
                      refine RK.c (S.move .none rfl (.tmp rfl rfl)) ?_
                      refine RK.c (S.eql .none rfl (.tmp rfl rfl) (.cint rfl)) ?_
                      refine RK.c (S.move .none rfl (.tmp rfl rfl)) ?_
                      refine RK.splitD (t := 126) rfl (fun g126 => ?_) (fun g126 => ?_)
                      ·
                        refine RK.c (S.move (.yes rfl rfl rfl rfl) rfl (.tmp rfl rfl)) ?_
                        refine RK.c (S.bloadN ti24 (.yes rfl rfl rfl rfl) rfl (.tmp rfl rfl) rfl rfl rfl rfl) ?_
                        refine RK.c (S.bfield fi27_0 (.yes rfl rfl rfl rfl) rfl (.tmp rfl rfl)) ?_
                        refine RK.c (S.bload1 ti25 (.yes rfl rfl rfl rfl) rfl (.tmp rfl rfl) rfl rfl rfl rfl) ?_
                        refine RK.c (S.bfield fi27_1 (.yes rfl rfl rfl rfl) rfl (.tmp rfl rfl)) ?_
                        refine RK.c (S.bload1 ti3 (.yes rfl rfl rfl rfl) rfl (.tmp rfl rfl) rfl rfl rfl rfl) ?_
                        refine RK.c (S.call (ref_Alarms hL hl2 htz) Tryz.call38 (.yes rfl rfl rfl rfl) rfl (.cons (.tmp rfl rfl) (.cons (.tmp rfl rfl) (.cons (.tmp rfl rfl) .nil))) rfl) ?_
                        refine RK.c (S.call (base_Ints) Tryz.call37 (.yes rfl rfl rfl rfl) rfl (.cons (.tmp rfl rfl) (.cons (.tmp rfl rfl) .nil)) rfl) ?_
                        refine RK.c (S.pickT .none rfl (.tmp rfl rfl) (.tmp rfl rfl) rfl) ?_
                        refine RK.c (S.assign .none rfl (.tmp rfl rfl)) ?_
                        refine RK.nil ?_
                        refine Ab.D.code ?_
                        refine OK.ret (Ret.r1 (.tmp rfl rfl (.c (.same rfl) rfl) rfl) ?_)
                        first | rfl | (refine ret_dT ?_; omega) | (refine ret_abs ?_; omega) | (refine ret_dT ?_; exact hl1) | (refine ret_abs ?_; exact g60 hb1) | (refine ret_abs ?_; exact c81 hb1) | (refine ret_dT ?_; exact hfin)
                      ·
                        refine RK.c (S.skip rfl rfl rfl rfl rfl) ?_
                        refine RK.c (S.skip rfl rfl rfl rfl rfl) ?_
                        refine RK.c (S.skip rfl rfl rfl rfl rfl) ?_
                        refine RK.c (S.skip rfl rfl rfl rfl rfl) ?_
                        refine RK.c (S.skip rfl rfl rfl rfl rfl) ?_
                        refine RK.c (S.skip rfl rfl rfl rfl rfl) ?_
                        refine RK.c (S.skip rfl rfl rfl rfl rfl) ?_
                        refine RK.c (S.skip rfl rfl rfl rfl rfl) ?_
                        refine RK.c (S.pickF .none rfl (.tmp rfl rfl) .cbool rfl) ?_
                        refine RK.c (S.assign .none rfl (.tmp rfl rfl)) ?_
                        refine RK.nil ?_
                        refine Ab.D.code ?_
                        refine OK.ret (Ret.r1 (.tmp rfl rfl (.c (.same rfl) rfl) rfl) ?_)
                        first | rfl | (refine ret_dT ?_; omega) | (refine ret_abs ?_; omega) | (refine ret_dT ?_; exact hl1) | (refine ret_abs ?_; exact g60 hb1) | (refine ret_abs ?_; exact c81 hb1) | (refine ret_dT ?_; exact hfin)
                ·
                  refine OK.skip ?_
                  refine Ab.D.code ?_
                  refine OK.seq ?_
                  refine OK.seq ?_
                  refine OK.reg ?_
                  refine RK.c (S.move .none rfl (.tmp rfl rfl)) ?_
                  refine RK.c (S.eql .none rfl (.tmp rfl rfl) (.cint rfl)) ?_
                  refine RK.nil ?_
                  refine Ab.D.code ?_
                  refine OK.condD rfl rfl (fun c106 => ?_) (fun c106 => ?_)
                  ·
                    refine OK.reg ?_
                    refine RK.c (S.bfield fi27_1 .none rfl (.tmp rfl rfl)) ?_
                    refine RK.c (S.bload1 ti3 .none rfl (.tmp rfl rfl) rfl rfl rfl rfl) ?_
                    refine RK.c (S.bfield fi27_0 .none rfl (.tmp rfl rfl)) ?_
                    refine RK.c (S.bload1 ti25 .none rfl (.tmp rfl rfl) rfl rfl rfl rfl) ?_
                    refine RK.c (S.lenM si25 .none rfl (.tmp rfl rfl)) ?_
                    refine RK.c (S.sub .none rfl (.tmp rfl rfl) (.cint rfl) (IntWalk.i64_in _ (by omega)) (IntWalk.i64_in _ (by omega))) ?_
                    refine RK.c (S.call (ref_TrimErr (by omega)) Tryz.call17 .none rfl (.cons (.tmp rfl rfl) (.cons (.tmp rfl rfl) .nil)) rfl) ?_
                    refine RK.c (S.assign .none rfl (.tmp rfl rfl)) ?_
                    refine RK.nil ?_
                    refine Ab.D.code ?_
                    refine OK.seq ?_
                    refine OK.seq ?_
                    refine OK.reg ?_
                    refine RK.c (S.move .none rfl (.tmp rfl rfl)) ?_
                    refine RK.c (S.neq .none rfl (.tmp rfl rfl) (.cint rfl)) ?_
                    refine RK.nil ?_
                    refine Ab.D.code ?_
                    refine OK.condD rfl rfl (fun c115 => ?_) (fun c115 => ?_)
                    ·
                      have hl1 := hl0 (by omega)
                      refine OK.seq ?_
                      refine OK.reg ?_
                      refine RK.c (S.move .none rfl (.tmp rfl rfl)) ?_
                      refine RK.c (S.move .none rfl (.tmp rfl rfl)) ?_
                      refine RK.c (S.eql .none rfl (.tmp rfl rfl) (.tmp rfl rfl)) ?_
                      refine RK.c (S.move .none rfl (.tmp rfl rfl)) ?_
                      refine RK.splitD (t := 119) rfl (fun g119 => ?_) (fun g119 => ?_)
                      ·
                        refine RK.c (S.move (.yes rfl rfl rfl rfl) rfl (.tmp rfl rfl)) ?_
                        refine RK.c (S.lenM si57 (.yes rfl rfl rfl rfl) rfl (.tmp rfl rfl)) ?_
                        refine RK.c (S.eql (.yes rfl rfl rfl rfl) rfl (.tmp rfl rfl) (.cint rfl)) ?_
                        refine RK.c (S.pickT .none rfl (.tmp rfl rfl) (.tmp rfl rfl) rfl) ?_
                        refine RK.c (S.assign .none rfl (.tmp rfl rfl)) ?_
                        refine RK.nil ?_
                        refine Ab.D.code ?_
                        refine OK.ret (Ret.r1 (.tmp rfl rfl (.c (.same rfl) rfl) rfl) ?_)
                        first | rfl | (refine ret_dT ?_; omega) | (refine ret_abs ?_; omega) | (refine ret_dT ?_; exact hl1) | (refine ret_abs ?_; exact g60 hb1) | (refine ret_abs ?_; exact c81 hb1) | (refine ret_dT ?_; exact hfin)
                      ·
                        refine RK.c (S.skip rfl rfl rfl rfl rfl) ?_
                        refine RK.c (S.skip rfl rfl rfl rfl rfl) ?_
                        refine RK.c (S.skip rfl rfl rfl rfl rfl) ?_
                        refine RK.c (S.pickF .none rfl (.tmp rfl rfl) .cbool rfl) ?_
                        refine RK.c (S.assign .none rfl (.tmp rfl rfl)) ?_
                        refine RK.nil ?_
                        refine Ab.D.code ?_
                        refine OK.ret (Ret.r1 (.tmp rfl rfl (.c (.same rfl) rfl) rfl) ?_)
                        first | rfl | (refine ret_dT ?_; omega) | (refine ret_abs ?_; omega) | (refine ret_dT ?_; exact hl1) | (refine ret_abs ?_; exact g60 hb1) | (refine ret_abs ?_; exact c81 hb1) | (refine ret_dT ?_; exact hfin)
                    ·
                      have he : alErr p x.records x.trim = 0 := by omega
                      have hrz : recsErr p x.records = 0 := by omega
                      have hL := learn_of hp0 hrz
                      have hLl := hL.len
                      have hl2 : 2 ≤ x.records.length := by omega
                      have htz : trimErr x.trim ((x.records.length : Int) - 1) = 0 := by omega
                      have hfin : (if alErr p x.records x.trim = 0 then alUp p x.records x.trim x.records.length else []) = alUp p x.records x.trim x.records.length := if_pos he
                      refine OK.skip ?_
                      refine Ab.D.code ?_
                      refine OK.seq ?_
                      refine OK.reg ?_
                      refine RK.c (S.move .none rfl (.tmp rfl rfl)) ?_
                      refine RK.c (S.eql .none rfl (.tmp rfl rfl) (.cint rfl)) ?_
                      refine RK.c (S.move .none rfl (.tmp rfl rfl)) ?_
                      refine RK.splitD (t := 126) rfl (fun g126 => ?_) (fun g126 => ?_)
                      ·
                        refine RK.c (S.move (.yes rfl rfl rfl rfl) rfl (.tmp rfl rfl)) ?_
                        refine RK.c (S.bloadN ti24 (.yes rfl rfl rfl rfl) rfl (.tmp rfl rfl) rfl rfl rfl rfl) ?_
                        refine RK.c (S.bfield fi27_0 (.yes rfl rfl rfl rfl) rfl (.tmp rfl rfl)) ?_
                        refine RK.c (S.bload1 ti25 (.yes rfl rfl rfl rfl) rfl (.tmp rfl rfl) rfl rfl rfl rfl) ?_
                        refine RK.c (S.bfield fi27_1 (.yes rfl rfl rfl rfl) rfl (.tmp rfl rfl)) ?_
                        refine RK.c (S.bload1 ti3 (.yes rfl rfl rfl rfl) rfl (.tmp rfl rfl) rfl rfl rfl rfl) ?_
                        refine RK.c (S.call (ref_Alarms hL hl2 htz) Tryz.call38 (.yes rfl rfl rfl rfl) rfl (.cons (.tmp rfl rfl) (.cons (.tmp rfl rfl) (.cons (.tmp rfl rfl) .nil))) rfl) ?_
                        refine RK.c (S.call (base_Ints) Tryz.call37 (.yes rfl rfl rfl rfl) rfl (.cons (.tmp rfl rfl) (.cons (.tmp rfl rfl) .nil)) rfl) ?_
                        refine RK.c (S.pickT .none rfl (.tmp rfl rfl) (.tmp rfl rfl) rfl) ?_
                        refine RK.c (S.assign .none rfl (.tmp rfl rfl)) ?_
                        refine RK.nil ?_
                        refine Ab.D.code ?_
                        refine OK.ret (Ret.r1 (.tmp rfl rfl (.c (.same rfl) rfl) rfl) ?_)
                        first | rfl | (refine ret_dT ?_; omega) | (refine ret_abs ?_; omega) | (refine ret_dT ?_; exact hl1) | (refine ret_abs ?_; exact g60 hb1) | (refine ret_abs ?_; exact c81 hb1) | (refine ret_dT ?_; exact hfin)
                      ·
                        refine RK.c (S.skip rfl rfl rfl rfl rfl) ?_
                        refine RK.c (S.skip rfl rfl rfl rfl rfl) ?_
                        refine RK.c (S.skip rfl rfl rfl rfl rfl) ?_
                        refine RK.c (S.skip rfl rfl rfl rfl rfl) ?_
                        refine RK.c (S.skip rfl rfl rfl rfl rfl) ?_
                        refine RK.c (S.skip rfl rfl rfl rfl rfl) ?_
                        refine RK.c (S.skip rfl rfl rfl rfl rfl) ?_
                        refine RK.c (S.skip rfl rfl rfl rfl rfl) ?_
                        refine RK.c (S.pickF .none rfl (.tmp rfl rfl) .cbool rfl) ?_
                        refine RK.c (S.assign .none rfl (.tmp rfl rfl)) ?_
                        refine RK.nil ?_
                        refine Ab.D.code ?_
                        refine OK.ret (Ret.r1 (.tmp rfl rfl (.c (.same rfl) rfl) rfl) ?_)
                        first | rfl | (refine ret_dT ?_; omega) | (refine ret_abs ?_; omega) | (refine ret_dT ?_; exact hl1) | (refine ret_abs ?_; exact g60 hb1) | (refine ret_abs ?_; exact c81 hb1) | (refine ret_dT ?_; exact hfin)
                  ·
                    refine OK.skip ?_
                    refine Ab.D.code ?_
                    refine OK.seq ?_
                    refine OK.seq ?_
                    refine OK.reg ?_
                    refine RK.c (S.move .none rfl (.tmp rfl rfl)) ?_
                    refine RK.c (S.neq .none rfl (.tmp rfl rfl) (.cint rfl)) ?_
                    refine RK.nil ?_
                    refine Ab.D.code ?_
                    refine OK.condD rfl rfl (fun c115 => ?_) (fun c115 => ?_)
                    ·
                      have hl1 := hl0 (by omega)
                      refine OK.seq ?_
                      refine OK.reg ?_
                      refine RK.c (S.move .none rfl (.tmp rfl rfl)) ?_
                      refine RK.c (S.move .none rfl (.tmp rfl rfl)) ?_
                      refine RK.c (S.eql .none rfl (.tmp rfl rfl) (.tmp rfl rfl)) ?_
                      refine RK.c (S.move .none rfl (.tmp rfl rfl)) ?_
                      refine RK.splitD (t := 119) rfl (fun g119 => ?_) (fun g119 => ?_)
                      ·
                        refine RK.c (S.move (.yes rfl rfl rfl rfl) rfl (.tmp rfl rfl)) ?_
                        refine RK.c (S.lenM si57 (.yes rfl rfl rfl rfl) rfl (.tmp rfl rfl)) ?_
                        refine RK.c (S.eql (.yes rfl rfl rfl rfl) rfl (.tmp rfl rfl) (.cint rfl)) ?_
                        refine RK.c (S.pickT .none rfl (.tmp rfl rfl) (.tmp rfl rfl) rfl) ?_
                        refine RK.c (S.assign .none rfl (.tmp rfl rfl)) ?_
                        refine RK.nil ?_
                        refine Ab.D.code ?_
                        refine OK.ret (Ret.r1 (.tmp rfl rfl (.c (.same rfl) rfl) rfl) ?_)
                        first | rfl | (refine ret_dT ?_; omega) | (refine ret_abs ?_; omega) | (refine ret_dT ?_; exact hl1) | (refine ret_abs ?_; exact g60 hb1) | (refine ret_abs ?_; exact c81 hb1) | (refine ret_dT ?_; exact hfin)
                      ·
                        refine RK.c (S.skip rfl rfl rfl rfl rfl) ?_
                        refine RK.c (S.skip rfl rfl rfl rfl rfl) ?_
                        refine RK.c (S.skip rfl rfl rfl rfl rfl) ?_
                        refine RK.c (S.pickF .none rfl (.tmp rfl rfl) .cbool rfl) ?_
                        refine RK.c (S.assign .none rfl (.tmp rfl rfl)) ?_
                        refine RK.nil ?_
                        refine Ab.D.code ?_
                        refine OK.ret (Ret.r1 (.tmp rfl rfl (.c (.same rfl) rfl) rfl) ?_)
                        first | rfl | (refine ret_dT ?_; omega) | (refine ret_abs ?_; omega) | (refine ret_dT ?_; exact hl1) | (refine ret_abs ?_; exact g60 hb1) | (refine ret_abs ?_; exact c81 hb1) | (refine ret_dT ?_; exact hfin)
                    ·
                      have he : alErr p x.records x.trim = 0 := by omega
                      have hrz : recsErr p x.records = 0 := by omega
                      have hL := learn_of hp0 hrz
                      have hLl := hL.len
                      have hl2 : 2 ≤ x.records.length := by omega
                      have htz : trimErr x.trim ((x.records.length : Int) - 1) = 0 := by omega
                      have hfin : (if alErr p x.records x.trim = 0 then alUp p x.records x.trim x.records.length else []) = alUp p x.records x.trim x.records.length := if_pos he
                      refine OK.skip ?_
                      refine Ab.D.code ?_
                      refine OK.seq ?_
                      refine OK.reg ?_
                      refine RK.c (S.move .none rfl (.tmp rfl rfl)) ?_
                      refine RK.c (S.eql .none rfl (.tmp rfl rfl) (.cint rfl)) ?_
                      refine RK.c (S.move .none rfl (.tmp rfl rfl)) ?_
                      refine RK.splitD (t := 126) rfl (fun g126 => ?_) (fun g126 => ?_)
                      ·
                        refine RK.c (S.move (.yes rfl rfl rfl rfl) rfl (.tmp rfl rfl)) ?_
                        refine RK.c (S.bloadN ti24 (.yes rfl rfl rfl rfl) rfl (.tmp rfl rfl) rfl rfl rfl rfl) ?_
                        refine RK.c (S.bfield fi27_0 (.yes rfl rfl rfl rfl) rfl (.tmp rfl rfl)) ?_
                        refine RK.c (S.bload1 ti25 (.yes rfl rfl rfl rfl) rfl (.tmp rfl rfl) rfl rfl rfl rfl) ?_
                        refine RK.c (S.bfield fi27_1 (.yes rfl rfl rfl rfl) rfl (.tmp rfl rfl)) ?_
                        refine RK.c (S.bload1 ti3 (.yes rfl rfl rfl rfl) rfl (.tmp rfl rfl) rfl rfl rfl rfl) ?_
                        refine RK.c (S.call (ref_Alarms hL hl2 htz) Tryz.call38 (.yes rfl rfl rfl rfl) rfl (.cons (.tmp rfl rfl) (.cons (.tmp rfl rfl) (.cons (.tmp rfl rfl) .nil))) rfl) ?_
                        refine RK.c (S.call (base_Ints) Tryz.call37 (.yes rfl rfl rfl rfl) rfl (.cons (.tmp rfl rfl) (.cons (.tmp rfl rfl) .nil)) rfl) ?_
                        refine RK.c (S.pickT .none rfl (.tmp rfl rfl) (.tmp rfl rfl) rfl) ?_
                        refine RK.c (S.assign .none rfl (.tmp rfl rfl)) ?_
                        refine RK.nil ?_
                        refine Ab.D.code ?_
                        refine OK.ret (Ret.r1 (.tmp rfl rfl (.c (.same rfl) rfl) rfl) ?_)
                        first | rfl | (refine ret_dT ?_; omega) | (refine ret_abs ?_; omega) | (refine ret_dT ?_; exact hl1) | (refine ret_abs ?_; exact g60 hb1) | (refine ret_abs ?_; exact c81 hb1) | (refine ret_dT ?_; exact hfin)
                      ·
                        refine RK.c (S.skip rfl rfl rfl rfl rfl) ?_
                        refine RK.c (S.skip rfl rfl rfl rfl rfl) ?_
                        refine RK.c (S.skip rfl rfl rfl rfl rfl) ?_
                        refine RK.c (S.skip rfl rfl rfl rfl rfl) ?_
                        refine RK.c (S.skip rfl rfl rfl rfl rfl) ?_
                        refine RK.c (S.skip rfl rfl rfl rfl rfl) ?_
                        refine RK.c (S.skip rfl rfl rfl rfl rfl) ?_
                        refine RK.c (S.skip rfl rfl rfl rfl rfl) ?_
                        refine RK.c (S.pickF .none rfl (.tmp rfl rfl) .cbool rfl) ?_
                        refine RK.c (S.assign .none rfl (.tmp rfl rfl)) ?_
                        refine RK.nil ?_
                        refine Ab.D.code ?_
                        refine OK.ret (Ret.r1 (.tmp rfl rfl (.c (.same rfl) rfl) rfl) ?_)
                        first | rfl | (refine ret_dT ?_; omega) | (refine ret_abs ?_; omega) | (refine ret_dT ?_; exact hl1) | (refine ret_abs ?_; exact g60 hb1) | (refine ret_abs ?_; exact c81 hb1) | (refine ret_dT ?_; exact hfin)
              ·
                refine RK.c (S.skip rfl rfl rfl rfl rfl) ?_
                refine RK.c (S.skip rfl rfl rfl rfl rfl) ?_
                refine RK.c (S.skip rfl rfl rfl rfl rfl) ?_
                refine RK.c (S.skip rfl rfl rfl rfl rfl) ?_
                refine RK.c (S.pickF .none rfl (.tmp rfl rfl) .cbool rfl) ?_
                refine RK.nil ?_
                refine Ab.D.code ?_
                refine OK.condF rfl rfl rfl ?_
                refine OK.skip ?_
                refine Ab.D.code ?_
                refine OK.seq ?_
                refine OK.seq ?_
                refine OK.reg ?_
                refine RK.c (S.move .none rfl (.tmp rfl rfl)) ?_
                refine RK.c (S.eql .none rfl (.tmp rfl rfl) (.cint rfl)) ?_
                refine RK.nil ?_
                refine Ab.D.code ?_
                refine OK.condD rfl rfl (fun c106 => ?_) (fun c106 => ?_)
                ·
                  refine OK.reg ?_
                  refine RK.c (S.bfield fi27_1 .none rfl (.tmp rfl rfl)) ?_
                  refine RK.c (S.bload1 ti3 .none rfl (.tmp rfl rfl) rfl rfl rfl rfl) ?_
                  refine RK.c (S.bfield fi27_0 .none rfl (.tmp rfl rfl)) ?_
                  refine RK.c (S.bload1 ti25 .none rfl (.tmp rfl rfl) rfl rfl rfl rfl) ?_
                  refine RK.c (S.lenM si25 .none rfl (.tmp rfl rfl)) ?_
                  refine RK.c (S.sub .none rfl (.tmp rfl rfl) (.cint rfl) (IntWalk.i64_in _ (by omega)) (IntWalk.i64_in _ (by omega))) ?_
                  refine RK.c (S.call (ref_TrimErr (by omega)) Tryz.call17 .none rfl (.cons (.tmp rfl rfl) (.cons (.tmp rfl rfl) .nil)) rfl) ?_
                  refine RK.c (S.assign .none rfl (.tmp rfl rfl)) ?_
                  refine RK.nil ?_
                  refine Ab.D.code ?_
                  refine OK.seq ?_
                  refine OK.seq ?_
                  refine OK.reg ?_
                  refine RK.c (S.move .none rfl (.tmp rfl rfl)) ?_
                  refine RK.c (S.neq .none rfl (.tmp rfl rfl) (.cint rfl)) ?_
                  refine RK.nil ?_
                  refine Ab.D.code ?_
                  refine OK.condD rfl rfl (fun c115 => ?_) (fun c115 => ?_)
                  ·
                    have hl1 := hl0 (by omega)
                    refine OK.seq ?_
                    refine OK.reg ?_
                    refine RK.c (S.move .none rfl (.tmp rfl rfl)) ?_
                    refine RK.c (S.move .none rfl (.tmp rfl rfl)) ?_
                    refine RK.c (S.eql .none rfl (.tmp rfl rfl) (.tmp rfl rfl)) ?_
                    refine RK.c (S.move .none rfl (.tmp rfl rfl)) ?_
                    refine RK.splitD (t := 119) rfl (fun g119 => ?_) (fun g119 => ?_)
                    ·
                      refine RK.c (S.move (.yes rfl rfl rfl rfl) rfl (.tmp rfl rfl)) ?_
                      refine RK.c (S.lenM si57 (.yes rfl rfl rfl rfl) rfl (.tmp rfl rfl)) ?_
                      refine RK.c (S.eql (.yes rfl rfl rfl rfl) rfl (.tmp rfl rfl) (.cint rfl)) ?_
                      refine RK.c (S.pickT .none rfl (.tmp rfl rfl) (.tmp rfl rfl) rfl) ?_
                      refine RK.c (S.assign .none rfl (.tmp rfl rfl)) ?_
                      refine RK.nil ?_
                      refine Ab.D.code ?_
                      refine OK.ret (Ret.r1 (.tmp rfl rfl (.c (.same rfl) rfl) rfl) ?_)
                      first | rfl | (refine ret_dT ?_; omega) | (refine ret_abs ?_; omega) | (refine ret_dT ?_; exact hl1) | (refine ret_abs ?_; exact g60 hb1) | (refine ret_abs ?_; exact c81 hb1) | (refine ret_dT ?_; exact hfin)
                    ·
                      refine RK.c (S.skip rfl rfl rfl rfl rfl) ?_
                      refine RK.c (S.skip rfl rfl rfl rfl rfl) ?_
                      refine RK.c (S.skip rfl rfl rfl rfl rfl) ?_
                      refine RK.c (S.pickF .none rfl (.tmp rfl rfl) .cbool rfl) ?_
                      refine RK.c (S.assign .none rfl (.tmp rfl rfl)) ?_
                      refine RK.nil ?_
                      refine Ab.D.code ?_
                      refine OK.ret (Ret.r1 (.tmp rfl rfl (.c (.same rfl) rfl) rfl) ?_)
                      first | rfl | (refine ret_dT ?_; omega) | (refine ret_abs ?_; omega) | (refine ret_dT ?_; exact hl1) | (refine ret_abs ?_; exact g60 hb1) | (refine ret_abs ?_; exact c81 hb1) | (refine ret_dT ?_; exact hfin)
                  ·
                    have he : alErr p x.records x.trim = 0 := by omega
                    have hrz : recsErr p x.records = 0 := by omega
                    have hL := learn_of hp0 hrz
                    have hLl := hL.len
                    have hl2 : 2 ≤ x.records.length := by omega
                    have htz : trimErr x.trim ((x.records.length : Int) - 1) = 0 := by omega
                    have hfin : (if alErr p x.records x.trim = 0 then alUp p x.records x.trim x.records.length else []) = alUp p x.records x.trim x.records.length := if_pos he
                    refine OK.skip ?_
                    refine Ab.D.code ?_
                    refine OK.seq ?_
                    refine OK.reg ?_
                    refine RK.c (S.move .none rfl (.tmp rfl rfl)) ?_
                    refine RK.c (S.eql .none rfl (.tmp rfl rfl) (.cint rfl)) ?_
                    refine RK.c (S.move .none rfl (.tmp rfl rfl)) ?_
                    refine RK.splitD (t := 126) rfl (fun g126 => ?_) (fun g126 => ?_)
                    ·
                      refine RK.c (S.move (.yes rfl rfl rfl rfl) rfl (.tmp rfl rfl)) ?_
                      refine RK.c (S.bloadN ti24 (.yes rfl rfl rfl rfl) rfl (.tmp rfl rfl) rfl rfl rfl rfl) ?_
                      refine RK.c (S.bfield fi27_0 (.yes rfl rfl rfl rfl) rfl (.tmp rfl rfl)) ?_
                      refine RK.c (S.bload1 ti25 (.yes rfl rfl rfl rfl) rfl (.tmp rfl rfl) rfl rfl rfl rfl) ?_
                      refine RK.c (S.bfield fi27_1 (.yes rfl rfl rfl rfl) rfl (.tmp rfl rfl)) ?_
                      refine RK.c (S.bload1 ti3 (.yes rfl rfl rfl rfl) rfl (.tmp rfl rfl) rfl rfl rfl rfl) ?_
                      refine RK.c (S.call (ref_Alarms hL hl2 htz) Tryz.call38 (.yes rfl rfl rfl rfl) rfl (.cons (.tmp rfl rfl) (.cons (.tmp rfl rfl) (.cons (.tmp rfl rfl) .nil))) rfl) ?_
                      refine RK.c (S.call (base_Ints) Tryz.call37 (.yes rfl rfl rfl rfl) rfl (.cons (.tmp rfl rfl) (.cons (.tmp rfl rfl) .nil)) rfl) ?_
                      refine RK.c (S.pickT .none rfl (.tmp rfl rfl) (.tmp rfl rfl) rfl) ?_
                      refine RK.c (S.assign .none rfl (.tmp rfl rfl)) ?_
                      refine RK.nil ?_
                      refine Ab.D.code ?_
                      refine OK.ret (Ret.r1 (.tmp rfl rfl (.c (.same rfl) rfl) rfl) ?_)
                      first | rfl | (refine ret_dT ?_; omega) | (refine ret_abs ?_; omega) | (refine ret_dT ?_; exact hl1) | (refine ret_abs ?_; exact g60 hb1) | (refine ret_abs ?_; exact c81 hb1) | (refine ret_dT ?_; exact hfin)
                    ·
                      refine RK.c (S.skip rfl rfl rfl rfl rfl) ?_
                      refine RK.c (S.skip rfl rfl rfl rfl rfl) ?_
                      refine RK.c (S.skip rfl rfl rfl rfl rfl) ?_
                      refine RK.c (S.skip rfl rfl rfl rfl rfl) ?_
                      refine RK.c (S.skip rfl rfl rfl rfl rfl) ?_
                      refine RK.c (S.skip rfl rfl rfl rfl rfl) ?_
                      refine RK.c (S.skip rfl rfl rfl rfl rfl) ?_
                      refine RK.c (S.skip rfl rfl rfl rfl rfl) ?_
                      refine RK.c (S.pickF .none rfl (.tmp rfl rfl) .cbool rfl) ?_
                      refine RK.c (S.assign .none rfl (.tmp rfl rfl)) ?_
                      refine RK.nil ?_
                      refine Ab.D.code ?_
                      refine OK.ret (Ret.r1 (.tmp rfl rfl (.c (.same rfl) rfl) rfl) ?_)
                      first | rfl | (refine ret_dT ?_; omega) | (refine ret_abs ?_; omega) | (refine ret_dT ?_; exact hl1) | (refine ret_abs ?_; exact g60 hb1) | (refine ret_abs ?_; exact c81 hb1) | (refine ret_dT ?_; exact hfin)
                ·
                  refine OK.skip ?_
                  refine Ab.D.code ?_
                  refine OK.seq ?_
                  refine OK.seq ?_
                  refine OK.reg ?_
                  refine RK.c (S.move .none rfl (.tmp rfl rfl)) ?_
                  refine RK.c (S.neq .none rfl (.tmp rfl rfl) (.cint rfl)) ?_
                  refine RK.nil ?_
                  refine Ab.D.code ?_
                  refine OK.condD rfl rfl (fun c115 => ?_) (fun c115 => ?_)
                  ·
                    have hl1 := hl0 (by omega)
                    refine OK.seq ?_
                    refine OK.reg ?_
                    refine RK.c (S.move .none rfl (.tmp rfl rfl)) ?_
                    refine RK.c (S.move .none rfl (.tmp rfl rfl)) ?_
                    refine RK.c (S.eql .none rfl (.tmp rfl rfl) (.tmp rfl rfl)) ?_
                    refine RK.c (S.move .none rfl (.tmp rfl rfl)) ?_
                    refine RK.splitD (t := 119) rfl (fun g119 => ?_) (fun g119 => ?_)
                    ·
                      refine RK.c (S.move (.yes rfl rfl rfl rfl) rfl (.tmp rfl rfl)) ?_
                      refine RK.c (S.lenM si57 (.yes rfl rfl rfl rfl) rfl (.tmp rfl rfl)) ?_
                      refine RK.c (S.eql (.yes rfl rfl rfl rfl) rfl (.tmp rfl rfl) (.cint rfl)) ?_
                      refine RK.c (S.pickT .none rfl (.tmp rfl rfl) (.tmp rfl rfl) rfl) ?_
                      refine RK.c (S.assign .none rfl (.tmp rfl rfl)) ?_
                      refine RK.nil ?_
                      refine Ab.D.code ?_
                      refine OK.ret (Ret.r1 (.tmp rfl rfl (.c (.same rfl) rfl) rfl) ?_)
                      first | rfl | (refine ret_dT ?_; omega) | (refine ret_abs ?_; omega) | (refine ret_dT ?_; exact hl1) | (refine ret_abs ?_; exact g60 hb1) | (refine ret_abs ?_; exact c81 hb1) | (refine ret_dT ?_; exact hfin)
                    ·
                      refine RK.c (S.skip rfl rfl rfl rfl rfl) ?_
                      refine RK.c (S.skip rfl rfl rfl rfl rfl) ?_
                      refine RK.c (S.skip rfl rfl rfl rfl rfl) ?_
                      refine RK.c (S.pickF .none rfl (.tmp rfl rfl) .cbool rfl) ?_
                      refine RK.c (S.assign .none rfl (.tmp rfl rfl)) ?_
                      refine RK.nil ?_
                      refine Ab.D.code ?_
                      refine OK.ret (Ret.r1 (.tmp rfl rfl (.c (.same rfl) rfl) rfl) ?_)
                      first | rfl | (refine ret_dT ?_; omega) | (refine ret_abs ?_; omega) | (refine ret_dT ?_; exact hl1) | (refine ret_abs ?_; exact g60 hb1) | (refine ret_abs ?_; exact c81 hb1) | (refine ret_dT ?_; exact hfin)
                  ·
                    have he : alErr p x.records x.trim = 0 := by omega
                    have hrz : recsErr p x.records = 0 := by omega
                    have hL := learn_of hp0 hrz
                    have hLl := hL.len
                    have hl2 : 2 ≤ x.records.length := by omega
                    have htz : trimErr x.trim ((x.records.length : Int) - 1) = 0 := by omega
                    have hfin : (if alErr p x.records x.trim = 0 then alUp p x.records x.trim x.records.length else []) = alUp p x.records x.trim x.records.length := if_pos he
                    refine OK.skip ?_
                    refine Ab.D.code ?_
                    refine OK.seq ?_
                    refine OK.reg ?_
                    refine RK.c (S.move .none rfl (.tmp rfl rfl)) ?_
                    refine RK.c (S.eql .none rfl (.tmp rfl rfl) (.cint rfl)) ?_
                    refine RK.c (S.move .none rfl (.tmp rfl rfl)) ?_
                    refine RK.splitD (t := 126) rfl (fun g126 => ?_) (fun g126 => ?_)
                    ·
                      refine RK.c (S.move (.yes rfl rfl rfl rfl) rfl (.tmp rfl rfl)) ?_
                      refine RK.c (S.bloadN ti24 (.yes rfl rfl rfl rfl) rfl (.tmp rfl rfl) rfl rfl rfl rfl) ?_
                      refine RK.c (S.bfield fi27_0 (.yes rfl rfl rfl rfl) rfl (.tmp rfl rfl)) ?_
                      refine RK.c (S.bload1 ti25 (.yes rfl rfl rfl rfl) rfl (.tmp rfl rfl) rfl rfl rfl rfl) ?_
                      refine RK.c (S.bfield fi27_1 (.yes rfl rfl rfl rfl) rfl (.tmp rfl rfl)) ?_
                      refine RK.c (S.bload1 ti3 (.yes rfl rfl rfl rfl) rfl (.tmp rfl rfl) rfl rfl rfl rfl) ?_
                      refine RK.c (S.call (ref_Alarms hL hl2 htz) Tryz.call38 (.yes rfl rfl rfl rfl) rfl (.cons (.tmp rfl rfl) (.cons (.tmp rfl rfl) (.cons (.tmp rfl rfl) .nil))) rfl) ?_
                      refine RK.c (S.call (base_Ints) Tryz.call37 (.yes rfl rfl rfl rfl) rfl (.cons (.tmp rfl rfl) (.cons (.tmp rfl rfl) .nil)) rfl) ?_
                      refine RK.c (S.pickT .none rfl (.tmp rfl rfl) (.tmp rfl rfl) rfl) ?_
                      refine RK.c (S.assign .none rfl (.tmp rfl rfl)) ?_
                      refine RK.nil ?_
                      refine Ab.D.code ?_
                      refine OK.ret (Ret.r1 (.tmp rfl rfl (.c (.same rfl) rfl) rfl) ?_)
                      first | rfl | (refine ret_dT ?_; omega) | (refine ret_abs ?_; omega) | (refine ret_dT ?_; exact hl1) | (refine ret_abs ?_; exact g60 hb1) | (refine ret_abs ?_; exact c81 hb1) | (refine ret_dT ?_; exact hfin)
                    ·
                      refine RK.c (S.skip rfl rfl rfl rfl rfl) ?_
                      refine RK.c (S.skip rfl rfl rfl rfl rfl) ?_
                      refine RK.c (S.skip rfl rfl rfl rfl rfl) ?_
                      refine RK.c (S.skip rfl rfl rfl rfl rfl) ?_
                      refine RK.c (S.skip rfl rfl rfl rfl rfl) ?_
                      refine RK.c (S.skip rfl rfl rfl rfl rfl) ?_
                      refine RK.c (S.skip rfl rfl rfl rfl rfl) ?_
                      refine RK.c (S.skip rfl rfl rfl rfl rfl) ?_
                      refine RK.c (S.pickF .none rfl (.tmp rfl rfl) .cbool rfl) ?_
                      refine RK.c (S.assign .none rfl (.tmp rfl rfl)) ?_
                      refine RK.nil ?_
                      refine Ab.D.code ?_
                      refine OK.ret (Ret.r1 (.tmp rfl rfl (.c (.same rfl) rfl) rfl) ?_)
                      first | rfl | (refine ret_dT ?_; omega) | (refine ret_abs ?_; omega) | (refine ret_dT ?_; exact hl1) | (refine ret_abs ?_; exact g60 hb1) | (refine ret_abs ?_; exact c81 hb1) | (refine ret_dT ?_; exact hfin)

end Go.Proofs.YtfjldfkgjejpmaaGreat
