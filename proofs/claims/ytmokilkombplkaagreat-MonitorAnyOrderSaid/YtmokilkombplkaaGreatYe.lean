/-
  The law of any order.
-/
import Derived.Test.YtmokilkombplkaaGreatSh
import Derived.Test.YtmokilkombplkaaGreatFx
import Derived.Test.YtmokilkombplkaaGreatYd
namespace Go.Proofs.YtmokilkombplkaaGreat
open Go.Ab

def dblTo (l : List Frame) (k : Nat) : List Frame := (l.reverse.take k).flatMap fun f => [f, f]
theorem dblTo_len {l : List Frame} : ∀ {k : Nat}, k ≤ l.length → (dblTo l k).length = 2 * k := by
  intro k hk
  have : ∀ m : List Frame, (m.flatMap fun f => [f, f]).length = 2 * m.length := by
    intro m
    induction m with
    | nil => rfl
    | cons f m ih => rw [List.flatMap_cons, List.length_append, ih, List.length_cons]; simp only [List.length_cons, List.length_nil]; omega
  unfold dblTo
  rw [this, List.length_take, List.length_reverse, Nat.min_eq_left hk]
theorem rev_snoc {α : Type} {l : List α} {k : Nat} (hk : k < l.length) : l.reverse.take (k + 1) = l.reverse.take k ++ [l[l.length - 1 - k]] := by
  rw [← take_snoc (l := l.reverse) (i := k) (by rw [List.length_reverse]; exact hk), List.getElem_reverse]
theorem dblTo_succ {l : List Frame} {k : Nat} (hk : k < l.length) : dblTo l (k + 1) = dblTo l k ++ [l[l.length - 1 - k], l[l.length - 1 - k]] := by
  unfold dblTo
  rw [rev_snoc hk, List.flatMap_append]
  rfl
theorem dblTo_all (l : List Frame) : dblTo l l.length = dbl l := by
  unfold dblTo dbl
  rw [List.take_of_length_le (by rw [List.length_reverse]; exact Nat.le_refl _)]
theorem rev_all {α : Type} (l : List α) : l.reverse.take l.length = l.reverse := List.take_of_length_le (by rw [List.length_reverse]; exact Nat.le_refl _)
theorem alOf_le (p : Plan) (l : List Record) (trim : Int) : (alOf p l trim).length ≤ l.length := by
  unfold alOf
  split
  · exact alUp_len p l trim l.length
  · exact Nat.zero_le _
theorem short_mem {l : List Record} (h2 : ∀ (i : Nat) (h : i < l.length), l[i].rows.length ≤ 14) (h3 : ∀ (i : Nat) (h : i < l.length) (k : Nat) (h2 : k < l[i].rows.length), l[i].rows[k].values.length ≤ 6) :
    ∀ r ∈ l, r.rows.length ≤ 100000 ∧ ∀ q ∈ r.rows, q.values.length ≤ 100000 := by
  intro r hr
  obtain ⟨i, hi, rfl⟩ := List.getElem_of_mem hr
  refine ⟨by have := h2 i hi; omega, fun q hq => ?_⟩
  obtain ⟨k, hk, rfl⟩ := List.getElem_of_mem hq
  have := h3 i hi k hk
  omega

theorem refR_CopyRecords {l : List Record} (hl : l.length ≤ 100000) (hr : ∀ r ∈ l, r.rows.length ≤ 100000 ∧ ∀ q ∈ r.rows, q.values.length ≤ 100000) : Ct Tryz.prog 15 [.sl (l.map Record.cs)] (.sl (l.map Record.cs)) :=
  ref_CopyRecords hl (fun i hi => (hr _ (List.getElem_mem hi)).1) fun i hi k hk => (hr _ (List.getElem_mem hi)).2 _ (List.getElem_mem hk)
set_option maxHeartbeats 1000000 in
theorem law_MonitorAnyOrder {p : Plan} {l : List Frame} {x : LearnedX} : Ct Tryz.prog 3 [.agg p.cs, .sl (l.map Frame.cs), .agg x.cs] (.bool true) := by
  refine Ct.intro (rs := [.tmp 6]) Tryz.func3 rfl Tryz.ntmps3 Tryz.results3 rfl rfl rfl fun w h => ?_
  refine OK.seq ?_
  refine OK.reg ?_
  refine RK.c (S.box (k := 3) rfl .none rfl (.tmp rfl rfl) rfl) ?_
  refine RK.c (S.box (k := 5) rfl .none rfl (.tmp rfl rfl) rfl) ?_
  refine RK.c (S.assign .none rfl .cbool) ?_
  refine RK.nil ?_
  refine Ab.D.code ?_
  refine OK.seq ?_
  refine OK.seq ?_
  refine OK.reg ?_
  refine RK.c (S.call (law_awake) Tryz.call4 .none rfl .nil rfl) ?_
  refine RK.c (S.not .none rfl (.tmp rfl rfl)) ?_
  refine RK.nil ?_
  refine Ab.D.code ?_
  refine OK.condF rfl rfl rfl ?_
  refine OK.skip ?_
  refine Ab.D.code ?_
  refine OK.seq ?_
  refine OK.seq ?_
  refine OK.reg ?_
  refine RK.c (S.bloadN ti24 .none rfl (.tmp rfl rfl) rfl rfl rfl rfl) ?_
  refine RK.c (S.call (ref_PlanErr) Tryz.call5 .none rfl (.cons (.tmp rfl rfl) .nil) rfl) ?_
  refine RK.c (S.neq .none rfl (.tmp rfl rfl) (.cint rfl)) ?_
  refine RK.c (S.move .none rfl (.tmp rfl rfl)) ?_
  refine RK.splitD (t := 29) rfl (fun g29 => ?_) (fun g29 => ?_)
  ·
    refine RK.c (S.skip rfl rfl rfl rfl rfl) ?_
    refine RK.c (S.skip rfl rfl rfl rfl rfl) ?_
    refine RK.c (S.skip rfl rfl rfl rfl rfl) ?_
    refine RK.c (S.pickT .none rfl (.tmp rfl rfl) .cbool rfl) ?_
    refine RK.c (S.move .none rfl (.tmp rfl rfl)) ?_
    refine RK.c (S.skip rfl rfl rfl rfl rfl) ?_
    refine RK.c (S.skip rfl rfl rfl rfl rfl) ?_
    refine RK.c (S.skip rfl rfl rfl rfl rfl) ?_
    refine RK.c (S.skip rfl rfl rfl rfl rfl) ?_
    refine RK.c (S.pickT .none rfl (.tmp rfl rfl) .cbool rfl) ?_
    refine RK.c (S.move .none rfl (.tmp rfl rfl)) ?_
    refine RK.c (S.skip rfl rfl rfl rfl rfl) ?_
    refine RK.c (S.skip rfl rfl rfl rfl rfl) ?_
    refine RK.c (S.skip rfl rfl rfl rfl rfl) ?_
    refine RK.c (S.skip rfl rfl rfl rfl rfl) ?_
    refine RK.c (S.pickT .none rfl (.tmp rfl rfl) .cbool rfl) ?_
    refine RK.nil ?_
    refine Ab.D.code ?_
    refine OK.condT rfl rfl rfl ?_
    refine OK.seq ?_
    refine OK.reg ?_
    refine RK.c (S.assign .none rfl .cbool) ?_
    refine RK.nil ?_
    refine Ab.D.code ?_
    refine OK.ret (Ret.r1 (.tmp rfl rfl (.c (.same rfl) rfl) rfl) ?_)
    rfl
  ·
    have hp0 : planErr p = 0 := Decidable.not_not.1 g29
    have hpp := planErr_0 hp0
    refine RK.c (S.move (.yes rfl rfl rfl rfl) rfl (.tmp rfl rfl)) ?_
    refine RK.c (S.lenM si25 (.yes rfl rfl rfl rfl) rfl (.tmp rfl rfl)) ?_
    refine RK.c (S.gtr (.yes rfl rfl rfl rfl) rfl (.tmp rfl rfl) (.cint rfl)) ?_
    refine RK.c (S.pickF .none rfl (.tmp rfl rfl) (.tmp rfl rfl) rfl) ?_
    refine RK.c (S.move .none rfl (.tmp rfl rfl)) ?_
    refine RK.splitD (t := 34) rfl (fun g34 => ?_) (fun g34 => ?_)
    ·
      refine RK.c (S.skip rfl rfl rfl rfl rfl) ?_
      refine RK.c (S.skip rfl rfl rfl rfl rfl) ?_
      refine RK.c (S.skip rfl rfl rfl rfl rfl) ?_
      refine RK.c (S.skip rfl rfl rfl rfl rfl) ?_
      refine RK.c (S.pickT .none rfl (.tmp rfl rfl) .cbool rfl) ?_
      refine RK.c (S.move .none rfl (.tmp rfl rfl)) ?_
      refine RK.c (S.skip rfl rfl rfl rfl rfl) ?_
      refine RK.c (S.skip rfl rfl rfl rfl rfl) ?_
      refine RK.c (S.skip rfl rfl rfl rfl rfl) ?_
      refine RK.c (S.skip rfl rfl rfl rfl rfl) ?_
      refine RK.c (S.pickT .none rfl (.tmp rfl rfl) .cbool rfl) ?_
      refine RK.nil ?_
      refine Ab.D.code ?_
      refine OK.condT rfl rfl rfl ?_
      refine OK.seq ?_
      refine OK.reg ?_
      refine RK.c (S.assign .none rfl .cbool) ?_
      refine RK.nil ?_
      refine Ab.D.code ?_
      refine OK.ret (Ret.r1 (.tmp rfl rfl (.c (.same rfl) rfl) rfl) ?_)
      rfl
    ·
      refine RK.c (S.bloadN ti24 (.yes rfl rfl rfl rfl) rfl (.tmp rfl rfl) rfl rfl rfl rfl) ?_
      refine RK.c (S.move (.yes rfl rfl rfl rfl) rfl (.tmp rfl rfl)) ?_
      refine RK.c (S.call (ref_FramesErr (by omega)) Tryz.call6 (.yes rfl rfl rfl rfl) rfl (.cons (.tmp rfl rfl) (.cons (.tmp rfl rfl) .nil)) rfl) ?_
      refine RK.c (S.neq (.yes rfl rfl rfl rfl) rfl (.tmp rfl rfl) (.cint rfl)) ?_
      refine RK.c (S.pickF .none rfl (.tmp rfl rfl) (.tmp rfl rfl) rfl) ?_
      refine RK.c (S.move .none rfl (.tmp rfl rfl)) ?_
      refine RK.splitD (t := 40) rfl (fun g40 => ?_) (fun g40 => ?_)
      ·
        refine RK.c (S.skip rfl rfl rfl rfl rfl) ?_
        refine RK.c (S.skip rfl rfl rfl rfl rfl) ?_
        refine RK.c (S.skip rfl rfl rfl rfl rfl) ?_
        refine RK.c (S.skip rfl rfl rfl rfl rfl) ?_
        refine RK.c (S.pickT .none rfl (.tmp rfl rfl) .cbool rfl) ?_
        refine RK.nil ?_
        refine Ab.D.code ?_
        refine OK.condT rfl rfl rfl ?_
        refine OK.seq ?_
        refine OK.reg ?_
        refine RK.c (S.assign .none rfl .cbool) ?_
        refine RK.nil ?_
        refine Ab.D.code ?_
        refine OK.ret (Ret.r1 (.tmp rfl rfl (.c (.same rfl) rfl) rfl) ?_)
        rfl
      ·
        refine RK.c (S.bfield fi28_0 (.yes rfl rfl rfl rfl) rfl (.tmp rfl rfl)) ?_
        refine RK.c (S.bload1 ti26 (.yes rfl rfl rfl rfl) rfl (.tmp rfl rfl) rfl rfl rfl rfl) ?_
        refine RK.c (S.call (law_shortRecords) Tryz.call7 (.yes rfl rfl rfl rfl) rfl (.cons (.tmp rfl rfl) .nil) rfl) ?_
        refine RK.c (S.not (.yes rfl rfl rfl rfl) rfl (.tmp rfl rfl)) ?_
        refine RK.c (S.pickF .none rfl (.tmp rfl rfl) (.tmp rfl rfl) rfl) ?_
        refine RK.nil ?_
        refine Ab.D.code ?_
        refine OK.cond rfl rfl (fun c45 => ?_) (fun c45 => ?_)
        ·
          refine OK.seq ?_
          refine OK.reg ?_
          refine RK.c (S.assign .none rfl .cbool) ?_
          refine RK.nil ?_
          refine Ab.D.code ?_
          refine OK.ret (Ret.r1 (.tmp rfl rfl (.c (.same rfl) rfl) rfl) ?_)
          rfl
        ·
          have hS : shortRecs x.records = true := by simpa using c45
          obtain ⟨hr1, hr2, hr3⟩ := shortRecs_len hS
          have hms := short_mem hr2 hr3
          have hmr : ∀ r ∈ x.records.reverse, r.rows.length ≤ 100000 ∧ ∀ q ∈ r.rows, q.values.length ≤ 100000 := fun r h => hms r (List.mem_reverse.1 h)
          have hfe : framesErr p l = 0 := Decidable.not_not.1 g40
          obtain ⟨f1, f2, f3⟩ := framesErr_iff.1 hfe
          have hv2 : ∀ y ∈ l, y.values.length ≤ 100000 := fun y hy => by have := (frameE_0 (f2 y hy)).2; omega
          have hdl := dbl_len l
          obtain ⟨e1, e2, e3⟩ := any_record hp0 (dbl_mem l) (by omega) hfe
          obtain ⟨R, hR⟩ : ∃ y, y = recOf p l := ⟨_, rfl⟩
          have kR1 : Ct Tryz.prog 9 [.agg p.cs, .sl (l.map Frame.cs)] (.tup [.agg R.cs, .int .i64 0]) := ct_res (mon_RecordOf (p := p) (l := l)) (by rw [e2, hR])
          have kR2 : Ct Tryz.prog 9 [.agg p.cs, .sl ((dbl l).map Frame.cs)] (.tup [.agg R.cs, .int .i64 0]) := ct_res (mon_RecordOf (p := p) (l := dbl l)) (by rw [e1, e3, hR])
          have hE := envErr_rev p x.records x.trim
          have hA := alErr_rev p x.records x.trim
          have hTl := alOf_len p x.records x.trim
          have hSl := alOf_le p x.records x.trim
          have hSm : ∀ (n : Nat) (h : n < (alOf p x.records x.trim).length), 0 ≤ (alOf p x.records x.trim)[n] ∧ (alOf p x.records x.trim)[n] ≤ (x.records.length : Int) - 1 := fun n h => alOf_mem _ (List.getElem_mem h)
          have hST := fun (n : Nat) (h1 : n < (alOf p x.records x.trim).length) (h2 : (alOf p x.records x.trim).length - 1 - n < (alOf p x.records.reverse x.trim).length) => alOf_at (p := p) h1 h2
          have kE1 : Ct Tryz.prog 14 [.agg p.cs, .sl (x.records.map Record.cs), .int .i64 x.trim] (.tup [.agg (envOf p x.records x.trim).cs, .int .i64 (envErr p x.records x.trim)]) := mon_EnvelopeOf
          have kE2 : Ct Tryz.prog 14 [.agg p.cs, .sl (x.records.reverse.map Record.cs), .int .i64 x.trim] (.tup [.agg (envOf p x.records x.trim).cs, .int .i64 (envErr p x.records.reverse x.trim)]) := ct_res (mon_EnvelopeOf (l := x.records.reverse)) (by rw [envOf_rev])
          have kA1 : Ct Tryz.prog 16 [.agg p.cs, .sl (x.records.map Record.cs), .int .i64 x.trim] (.tup [ints (alOf p x.records x.trim), .int .i64 (alErr p x.records x.trim)]) := mon_AlarmsAmong
          have kA2 : Ct Tryz.prog 16 [.agg p.cs, .sl (x.records.reverse.map Record.cs), .int .i64 x.trim] (.tup [ints (alOf p x.records.reverse x.trim), .int .i64 (alErr p x.records.reverse x.trim)]) := mon_AlarmsAmong (l := x.records.reverse)
          obtain ⟨sA, hSe⟩ : ∃ y, y = alOf p x.records x.trim := ⟨_, rfl⟩
          obtain ⟨sB, hTe⟩ : ∃ y, y = alOf p x.records.reverse x.trim := ⟨_, rfl⟩
          obtain ⟨Y, hYe⟩ : ∃ y, y = envOf p x.records x.trim := ⟨_, rfl⟩
          obtain ⟨eA, heA⟩ : ∃ y, y = envErr p x.records x.trim := ⟨_, rfl⟩
          obtain ⟨eB, heB⟩ : ∃ y, y = envErr p x.records.reverse x.trim := ⟨_, rfl⟩
          obtain ⟨aA, haA⟩ : ∃ y, y = alErr p x.records x.trim := ⟨_, rfl⟩
          obtain ⟨aB, haB⟩ : ∃ y, y = alErr p x.records.reverse x.trim := ⟨_, rfl⟩
          rw [← heA, ← heB] at hE
          rw [← haA, ← haB] at hA
          rw [← hSe, ← hTe] at hTl
          rw [← hSe] at hSm
          rw [← hSe] at hSl
          rw [← hSe, ← hTe] at hST
          rw [← hYe, ← heA] at kE1
          rw [← hYe, ← heB] at kE2
          rw [← hSe, ← haA] at kA1
          rw [← hTe, ← haB] at kA2
          clear hSe hTe hYe heA heB haA haB hR e1 e2 e3
          refine OK.skip ?_
          refine Ab.D.code ?_
          refine OK.seq ?_
          refine OK.reg ?_
          refine RK.c (S.nilOwn (k := 7) (sz := 2) .none rfl) ?_
          refine RK.nil ?_
          refine Ab.D.code ?_
          refine OK.seq ?_
          refine OK.seq ?_
          refine OK.reg ?_
          refine RK.c (S.move .none rfl (.tmp rfl rfl)) ?_
          refine RK.c (S.lenM si25 .none rfl (.tmp rfl rfl)) ?_
          refine RK.c (S.sub .none rfl (.tmp rfl rfl) (.cint rfl) (IntWalk.i64_in _ (by omega)) (IntWalk.i64_in _ (by omega))) ?_
          refine RK.c (S.assign .none rfl (.tmp rfl rfl)) ?_
          refine RK.nil ?_
          refine Ab.D.code ?_
          refine OK.block ?_
          refine OK.loop (G := Nat) [3, 5, 7] (fun k => [(3, .ptr 3 0), (1003, .box p.cs), (5, .ptr 5 0), (1005, .box x.cs), (1, .sl (l.map Frame.cs)), (7, .own 7 (2 * k)), (2007, .arr 2 ((dblTo l k).map Frame.cs)), (8, .int .i64 ((l.length : Int) - 1 - k))]) (fun k => k ≤ l.length) (fun k => l.length - k) 0 (Nat.zero_le _) ⟨rfl, rfl, rfl, rfl, rfl, (lk_own (by first | rfl | (simp; done) | (simp; omega))), (lk_arr (by first | rfl | (simp; done) | (simp; omega))), (lk_int1 (by omega)), trivial⟩ (fun _ => rfl) ?_
          rintro k hk
          refine OK.seq ?_
          refine OK.seq ?_
          refine OK.reg ?_
          refine RK.c (S.move .none rfl (.tmp rfl rfl)) ?_
          refine RK.c (S.geq .none rfl (.tmp rfl rfl) (.cint rfl)) ?_
          refine RK.nil ?_
          refine Ab.D.code ?_
          refine OK.condD rfl rfl (fun c50 => ?_) (fun c50 => ?_)
          ·
            refine OK.skip ?_
            refine Ab.D.code ?_
            refine OK.seq ?_
            refine OK.block ?_
            refine OK.regionDraw follows (.c (S.move .none rfl (.tmp rfl rfl))
              (.c (S.move .none rfl (.tmp rfl rfl))
              (.c (S.move .none rfl (.tmp rfl rfl))
              (.c (S.indexM (n := (l.length - 1 - k)) si25 .none rfl (.tmp rfl rfl) (.tmp rfl rfl) (by omega) (by omega) rfl)
              (.c (S.loadN ti35 .none rfl (.tmp rfl rfl) rfl rfl)
              (.c (S.call (ref_CopyFrame (hv2 _ (List.getElem_mem (by omega)))) Tryz.call8 .none rfl (.cons (.tmp rfl rfl) .nil) rfl)
              (.c (S.move .none rfl (.tmp rfl rfl))
              (.c (S.move .none rfl (.tmp rfl rfl))
              (.c (S.indexM (n := (l.length - 1 - k)) si25 .none rfl (.tmp rfl rfl) (.tmp rfl rfl) (by omega) (by omega) rfl)
              (.c (S.loadN ti35 .none rfl (.tmp rfl rfl) rfl rfl)
              (.c (S.call (ref_CopyFrame (hv2 _ (List.getElem_mem (by omega)))) Tryz.call8 .none rfl (.cons (.tmp rfl rfl) .nil) rfl)
              (.c (S.mkSlice (k := 64) (rows := [[_, _], [_, _]]) ai25 .none rfl (.cons (.tmp rfl rfl) (.cons (.tmp rfl rfl) .nil)) rfl rfl rfl rfl rfl rfl rfl)
              (.c (S.append ai25 .none rfl (.tmp rfl rfl) rfl (by rw [List.length_map, dblTo_len (by omega)]) (.tmp rfl rfl) rfl rfl (by omega) (by simp only [maxLen]; omega))
              (.c (S.assign .none rfl (.tmp rfl rfl))
              .nil)))))))))))))) (by kernel_rfl) ?_
            refine Ab.D.blk ?_
            refine Ab.D.code ?_
            refine OK.reg ?_
            refine RK.c (S.move .none rfl (.tmp rfl rfl)) ?_
            refine RK.c (S.sub .none rfl (.tmp rfl rfl) (.cint rfl) (IntWalk.i64_in _ (by omega)) (IntWalk.i64_in _ (by omega))) ?_
            refine RK.c (S.assign .none rfl (.tmp rfl rfl)) ?_
            refine RK.nil ?_
            refine Ab.D.lp ⟨k + 1, (by omega), (by omega), rfl, rfl, rfl, rfl, rfl, (lk_own1 (by omega)), (lk_arr (by rw [dblTo_succ (by omega), List.map_append]; rfl)), (lk_int1 (by omega)), trivial⟩
          ·
            have hkl : k = l.length := by omega
            subst hkl
            rw [dblTo_all]
            refine OK.exit rfl ?_
            refine Ab.D.code ?_
            refine OK.seq ?_
            refine OK.reg ?_
            refine RK.c (S.bloadN ti24 .none rfl (.tmp rfl rfl) rfl rfl rfl rfl) ?_
            refine RK.c (S.call (ref_CopyPlan (by omega)) Tryz.call10 .none rfl (.cons (.tmp rfl rfl) .nil) rfl) ?_
            refine RK.c (S.move .none rfl (.tmp rfl rfl)) ?_
            refine RK.c (S.call (ref_CopyFrames (by omega) hv2) Tryz.call11 .none rfl (.cons (.tmp rfl rfl) .nil) rfl) ?_
            refine RK.c (S.call (kR1) Tryz.call9 .none rfl (.cons (.tmp rfl rfl) (.cons (.tmp rfl rfl) .nil)) rfl) ?_
            refine RK.c (S.move .none rfl (.tmp rfl rfl)) ?_
            refine RK.c (S.extract .none rfl (.tmp rfl rfl) rfl rfl) ?_
            refine RK.c (S.extract .none rfl (.tmp rfl rfl) rfl rfl) ?_
            refine RK.c (S.alloc (k := 9) ze39 rfl .none rfl) ?_
            refine RK.c (S.store ti39 .none (.tmp rfl rfl) (.tmp rfl rfl) rfl rfl rfl rfl rfl rfl) ?_
            refine RK.c (S.assign .none rfl (.tmp rfl rfl)) ?_
            refine RK.nil ?_
            refine Ab.D.code ?_
            refine OK.seq ?_
            refine OK.freeze 7 rfl rfl rfl (by rw [List.length_map, dbl_len]) ?_
            refine OK.reg ?_
            refine RK.c (S.bloadN ti24 .none rfl (.tmp rfl rfl) rfl rfl rfl rfl) ?_
            refine RK.c (S.call (ref_CopyPlan (by omega)) Tryz.call10 .none rfl (.cons (.tmp rfl rfl) .nil) rfl) ?_
            refine RK.c (S.move .none rfl (.tmp rfl rfl)) ?_
            refine RK.c (S.call (kR2) Tryz.call9 .none rfl (.cons (.tmp rfl rfl) (.cons (.tmp rfl rfl) .nil)) rfl) ?_
            refine RK.c (S.move .none rfl (.tmp rfl rfl)) ?_
            refine RK.c (S.extract .none rfl (.tmp rfl rfl) rfl rfl) ?_
            refine RK.c (S.extract .none rfl (.tmp rfl rfl) rfl rfl) ?_
            refine RK.c (S.alloc (k := 11) ze39 rfl .none rfl) ?_
            refine RK.c (S.store ti39 .none (.tmp rfl rfl) (.tmp rfl rfl) rfl rfl rfl rfl rfl rfl) ?_
            refine RK.c (S.assign .none rfl (.tmp rfl rfl)) ?_
            refine RK.nil ?_
            refine Ab.D.code ?_
            refine OK.seq ?_
            refine OK.seq ?_
            refine OK.reg ?_
            refine RK.c (S.move .none rfl (.tmp rfl rfl)) ?_
            refine RK.c (S.neq .none rfl (.tmp rfl rfl) (.cint rfl)) ?_
            refine RK.c (S.move .none rfl (.tmp rfl rfl)) ?_
            refine RK.splitD (t := 83) rfl (fun g83 => ?_) (fun g83 => ?_)
            ·
              exact absurd rfl g83
            ·
              refine RK.c (S.move (.yes rfl rfl rfl rfl) rfl (.tmp rfl rfl)) ?_
              refine RK.c (S.neq (.yes rfl rfl rfl rfl) rfl (.tmp rfl rfl) (.cint rfl)) ?_
              refine RK.c (S.pickF .none rfl (.tmp rfl rfl) (.tmp rfl rfl) rfl) ?_
              refine RK.c (S.move .none rfl (.tmp rfl rfl)) ?_
              refine RK.splitD (t := 87) rfl (fun g87 => ?_) (fun g87 => ?_)
              ·
                exact absurd rfl g87
              ·
                refine RK.c (S.bloadN ti39 (.yes rfl rfl rfl rfl) rfl (.tmp rfl rfl) rfl rfl rfl rfl) ?_
                refine RK.c (S.bloadN ti39 (.yes rfl rfl rfl rfl) rfl (.tmp rfl rfl) rfl rfl rfl rfl) ?_
                refine RK.c (S.call (ref_SameRecord) Tryz.call12 (.yes rfl rfl rfl rfl) rfl (.cons (.tmp rfl rfl) (.cons (.tmp rfl rfl) .nil)) rfl) ?_
                refine RK.c (S.not (.yes rfl rfl rfl rfl) rfl (.tmp rfl rfl)) ?_
                refine RK.c (S.pickF .none rfl (.tmp rfl rfl) (.tmp rfl rfl) rfl) ?_
                refine RK.nil ?_
                refine Ab.D.code ?_
                refine OK.condF rfl rfl rfl ?_
                refine OK.skip ?_
                refine Ab.D.code ?_
                refine OK.seq ?_
                refine OK.reg ?_
                refine RK.c (S.nilOwn (k := 13) (sz := 1) .none rfl) ?_
                refine RK.nil ?_
                refine Ab.D.code ?_
                refine OK.seq ?_
                refine OK.seq ?_
                refine OK.reg ?_
                refine RK.c (S.bfield fi28_0 .none rfl (.tmp rfl rfl)) ?_
                refine RK.c (S.bload1 ti26 .none rfl (.tmp rfl rfl) rfl rfl rfl rfl) ?_
                refine RK.c (S.lenM si26 .none rfl (.tmp rfl rfl)) ?_
                refine RK.c (S.sub .none rfl (.tmp rfl rfl) (.cint rfl) (IntWalk.i64_in _ (by omega)) (IntWalk.i64_in _ (by omega))) ?_
                refine RK.c (S.assign .none rfl (.tmp rfl rfl)) ?_
                refine RK.nil ?_
                refine Ab.D.code ?_
                refine OK.block ?_
                refine OK.loop (G := Nat) [3, 5, 13] (fun j => [(3, .ptr 3 0), (1003, .box p.cs), (5, .ptr 5 0), (1005, .box x.cs), (13, .own 13 j), (2013, .arr 1 ((x.records.reverse.take j).map Record.cs)), (14, .int .i64 ((x.records.length : Int) - 1 - j))]) (fun j => j ≤ x.records.length) (fun j => x.records.length - j) 0 (Nat.zero_le _) ⟨rfl, rfl, rfl, rfl, (lk_own (by first | rfl | (simp; done) | (simp; omega))), (lk_arr (by first | rfl | (simp; done) | (simp; omega))), (lk_int1 (by omega)), trivial⟩ (fun _ => rfl) ?_
                rintro j hj
                refine OK.seq ?_
                refine OK.seq ?_
                refine OK.reg ?_
                refine RK.c (S.move .none rfl (.tmp rfl rfl)) ?_
                refine RK.c (S.geq .none rfl (.tmp rfl rfl) (.cint rfl)) ?_
                refine RK.nil ?_
                refine Ab.D.code ?_
                refine OK.condD rfl rfl (fun c98 => ?_) (fun c98 => ?_)
                ·
                  refine OK.skip ?_
                  refine Ab.D.code ?_
                  refine OK.seq ?_
                  refine OK.block ?_
                  refine OK.reg ?_
                  refine RK.c (S.move .none rfl (.tmp rfl rfl)) ?_
                  refine RK.c (S.bfield fi28_0 .none rfl (.tmp rfl rfl)) ?_
                  refine RK.c (S.bload1 ti26 .none rfl (.tmp rfl rfl) rfl rfl rfl rfl) ?_
                  refine RK.c (S.move .none rfl (.tmp rfl rfl)) ?_
                  refine RK.c (S.indexM (n := (x.records.length - 1 - j)) si26 .none rfl (.tmp rfl rfl) (.tmp rfl rfl) (by omega) (by omega) rfl) ?_
                  refine RK.c (S.loadN ti39 .none rfl (.tmp rfl rfl) rfl rfl) ?_
                  refine RK.c (S.call (ref_CopyRecord (hms _ (List.getElem_mem (by omega))).1 (fun k h2 => (hms _ (List.getElem_mem (by omega))).2 _ (List.getElem_mem h2))) Tryz.call13 .none rfl (.cons (.tmp rfl rfl) .nil) rfl) ?_
                  refine RK.c (S.mkSlice (k := 108) (rows := [[_]]) ai26 .none rfl (.cons (.tmp rfl rfl) .nil) rfl rfl rfl rfl rfl rfl rfl) ?_
                  refine RK.c (S.append ai26 .none rfl (.tmp rfl rfl) rfl (by simp; omega) (.tmp rfl rfl) rfl (by first | rfl | (simp; done) | (simp; omega)) (by omega) (by simp only [maxLen]; omega)) ?_
                  refine RK.c (S.assign .none rfl (.tmp rfl rfl)) ?_
                  refine RK.nil ?_
                  refine Ab.D.blk ?_
                  refine Ab.D.code ?_
                  refine OK.reg ?_
                  refine RK.c (S.move .none rfl (.tmp rfl rfl)) ?_
                  refine RK.c (S.sub .none rfl (.tmp rfl rfl) (.cint rfl) (IntWalk.i64_in _ (by omega)) (IntWalk.i64_in _ (by omega))) ?_
                  refine RK.c (S.assign .none rfl (.tmp rfl rfl)) ?_
                  refine RK.nil ?_
                  refine Ab.D.lp ⟨j + 1, (by omega), (by omega), rfl, rfl, rfl, rfl, (lk_own (by first | rfl | (simp; done) | (simp; omega))), (lk_arr (by rw [rev_snoc (by omega), List.map_append]; rfl)), (lk_int1 (by omega)), trivial⟩
                ·
                  have hjl : j = x.records.length := by omega
                  subst hjl
                  rw [rev_all]
                  refine OK.exit rfl ?_
                  refine Ab.D.code ?_
                  refine OK.seq ?_
                  refine OK.freeze 13 rfl rfl rfl (by rw [List.length_map, List.length_reverse]) ?_
                  refine OK.regionDraw follows (.c (S.bloadN ti24 .none rfl (.tmp rfl rfl) rfl rfl rfl rfl)
                    (.c (S.call (ref_CopyPlan (by omega)) Tryz.call10 .none rfl (.cons (.tmp rfl rfl) .nil) rfl)
                    (.c (S.bfield fi28_0 .none rfl (.tmp rfl rfl))
                    (.c (S.bload1 ti26 .none rfl (.tmp rfl rfl) rfl rfl rfl rfl)
                    (.c (S.call (refR_CopyRecords (by omega) hms) Tryz.call15 .none rfl (.cons (.tmp rfl rfl) .nil) rfl)
                    (.c (S.bfield fi28_1 .none rfl (.tmp rfl rfl))
                    (.c (S.bload1 ti3 .none rfl (.tmp rfl rfl) rfl rfl rfl rfl)
                    (.c (S.call (kE1) Tryz.call14 .none rfl (.cons (.tmp rfl rfl) (.cons (.tmp rfl rfl) (.cons (.tmp rfl rfl) .nil))) rfl)
                    (.c (S.move .none rfl (.tmp rfl rfl))
                    (.c (S.extract .none rfl (.tmp rfl rfl) rfl rfl)
                    (.c (S.extract .none rfl (.tmp rfl rfl) rfl rfl)
                    (.c (S.alloc (k := 15) ze49 rfl .none rfl)
                    (.c (S.store ti49 .none (.tmp rfl rfl) (.tmp rfl rfl) rfl rfl rfl rfl rfl rfl)
                    (.c (S.assign .none rfl (.tmp rfl rfl))
                    .nil)))))))))))))) (by kernel_rfl) ?_
                  refine Ab.D.code ?_
                  refine OK.seq ?_
                  refine OK.regionDraw follows (.c (S.bloadN ti24 .none rfl (.tmp rfl rfl) rfl rfl rfl rfl)
                    (.c (S.call (ref_CopyPlan (by omega)) Tryz.call10 .none rfl (.cons (.tmp rfl rfl) .nil) rfl)
                    (.c (S.move .none rfl (.tmp rfl rfl))
                    (.c (S.call (refR_CopyRecords (l := x.records.reverse) (by rw [List.length_reverse]; omega) hmr) Tryz.call15 .none rfl (.cons (.tmp rfl rfl) .nil) rfl)
                    (.c (S.bfield fi28_1 .none rfl (.tmp rfl rfl))
                    (.c (S.bload1 ti3 .none rfl (.tmp rfl rfl) rfl rfl rfl rfl)
                    (.c (S.call (kE2) Tryz.call14 .none rfl (.cons (.tmp rfl rfl) (.cons (.tmp rfl rfl) (.cons (.tmp rfl rfl) .nil))) rfl)
                    (.c (S.move .none rfl (.tmp rfl rfl))
                    (.c (S.extract .none rfl (.tmp rfl rfl) rfl rfl)
                    (.c (S.extract .none rfl (.tmp rfl rfl) rfl rfl)
                    (.c (S.alloc (k := 17) ze49 rfl .none rfl)
                    (.c (S.store ti49 .none (.tmp rfl rfl) (.tmp rfl rfl) rfl rfl rfl rfl rfl rfl)
                    (.c (S.assign .none rfl (.tmp rfl rfl))
                    .nil))))))))))))) (by kernel_rfl) ?_
                  refine Ab.D.code ?_
                  refine OK.seq ?_
                  refine OK.regionDraw follows (.c (S.bloadN ti24 .none rfl (.tmp rfl rfl) rfl rfl rfl rfl)
                    (.c (S.call (ref_CopyPlan (by omega)) Tryz.call10 .none rfl (.cons (.tmp rfl rfl) .nil) rfl)
                    (.c (S.bfield fi28_0 .none rfl (.tmp rfl rfl))
                    (.c (S.bload1 ti26 .none rfl (.tmp rfl rfl) rfl rfl rfl rfl)
                    (.c (S.call (refR_CopyRecords (by omega) hms) Tryz.call15 .none rfl (.cons (.tmp rfl rfl) .nil) rfl)
                    (.c (S.bfield fi28_1 .none rfl (.tmp rfl rfl))
                    (.c (S.bload1 ti3 .none rfl (.tmp rfl rfl) rfl rfl rfl rfl)
                    (.c (S.call (kA1) Tryz.call16 .none rfl (.cons (.tmp rfl rfl) (.cons (.tmp rfl rfl) (.cons (.tmp rfl rfl) .nil))) rfl)
                    (.c (S.move .none rfl (.tmp rfl rfl))
                    (.c (S.extract .none rfl (.tmp rfl rfl) rfl rfl)
                    (.c (S.extract .none rfl (.tmp rfl rfl) rfl rfl)
                    (.c (S.assign .none rfl (.tmp rfl rfl))
                    (.c (S.assign .none rfl (.tmp rfl rfl))
                    .nil))))))))))))) (by kernel_rfl) ?_
                  refine Ab.D.code ?_
                  refine OK.seq ?_
                  refine OK.regionDraw follows (.c (S.bloadN ti24 .none rfl (.tmp rfl rfl) rfl rfl rfl rfl)
                    (.c (S.call (ref_CopyPlan (by omega)) Tryz.call10 .none rfl (.cons (.tmp rfl rfl) .nil) rfl)
                    (.c (S.move .none rfl (.tmp rfl rfl))
                    (.c (S.bfield fi28_1 .none rfl (.tmp rfl rfl))
                    (.c (S.bload1 ti3 .none rfl (.tmp rfl rfl) rfl rfl rfl rfl)
                    (.c (S.call (kA2) Tryz.call16 .none rfl (.cons (.tmp rfl rfl) (.cons (.tmp rfl rfl) (.cons (.tmp rfl rfl) .nil))) rfl)
                    (.c (S.move .none rfl (.tmp rfl rfl))
                    (.c (S.extract .none rfl (.tmp rfl rfl) rfl rfl)
                    (.c (S.extract .none rfl (.tmp rfl rfl) rfl rfl)
                    (.c (S.assign .none rfl (.tmp rfl rfl))
                    (.c (S.assign .none rfl (.tmp rfl rfl))
                    .nil))))))))))) (by kernel_rfl) ?_
                  refine Ab.D.code ?_
                  refine OK.seq ?_
                  refine OK.seq ?_
                  refine OK.reg ?_
                  refine RK.c (S.move .none rfl (.tmp rfl rfl)) ?_
                  refine RK.c (S.eql .none rfl (.tmp rfl rfl) (.cint rfl)) ?_
                  refine RK.c (S.move .none rfl (.tmp rfl rfl)) ?_
                  refine RK.c (S.eql .none rfl (.tmp rfl rfl) (.cint rfl)) ?_
                  refine RK.c (S.bneq Tryz.underlying4 .none rfl (.tmp rfl rfl) (.tmp rfl rfl)) ?_
                  refine RK.c (S.move .none rfl (.tmp rfl rfl)) ?_
                  refine RK.splitD (t := 156) rfl (fun g156 => ?_) (fun g156 => ?_)
                  ·
                    exact absurd (decide_eq_decide.2 hE.symm) g156
                  ·
                    refine RK.c (S.move (.yes rfl rfl rfl rfl) rfl (.tmp rfl rfl)) ?_
                    refine RK.c (S.eql (.yes rfl rfl rfl rfl) rfl (.tmp rfl rfl) (.cint rfl)) ?_
                    refine RK.c (S.move (.yes rfl rfl rfl rfl) rfl (.tmp rfl rfl)) ?_
                    refine RK.c (S.eql (.yes rfl rfl rfl rfl) rfl (.tmp rfl rfl) (.cint rfl)) ?_
                    refine RK.c (S.bneq Tryz.underlying4 (.yes rfl rfl rfl rfl) rfl (.tmp rfl rfl) (.tmp rfl rfl)) ?_
                    refine RK.c (S.pickF .none rfl (.tmp rfl rfl) (.tmp rfl rfl) rfl) ?_
                    refine RK.c (S.move .none rfl (.tmp rfl rfl)) ?_
                    refine RK.splitD (t := 163) rfl (fun g163 => ?_) (fun g163 => ?_)
                    ·
                      exact absurd (decide_eq_decide.2 hA.symm) g163
                    ·
                      refine RK.c (S.bloadN ti49 (.yes rfl rfl rfl rfl) rfl (.tmp rfl rfl) rfl rfl rfl rfl) ?_
                      refine RK.c (S.bloadN ti49 (.yes rfl rfl rfl rfl) rfl (.tmp rfl rfl) rfl rfl rfl rfl) ?_
                      refine RK.c (S.call (ref_SameEnvelope (a := Y) (b := Y)) Tryz.call17 (.yes rfl rfl rfl rfl) rfl (.cons (.tmp rfl rfl) (.cons (.tmp rfl rfl) .nil)) rfl) ?_
                      refine RK.c (S.notD (.yes rfl rfl rfl rfl) rfl (.tmp rfl rfl)) ?_
                      refine RK.c (S.pickF .none rfl (.tmp rfl rfl) (.tmp rfl rfl) rfl) ?_
                      refine RK.c (S.move .none rfl (.tmp rfl rfl)) ?_
                      refine RK.splitD (t := 169) rfl (fun g169 => ?_) (fun g169 => ?_)
                      ·
                        exact absurd rfl g169
                      ·
                        refine RK.c (S.move (.yes rfl rfl rfl rfl) rfl (.tmp rfl rfl)) ?_
                        refine RK.c (S.lenM si33 (.yes rfl rfl rfl rfl) rfl (.tmp rfl rfl)) ?_
                        refine RK.c (S.move (.yes rfl rfl rfl rfl) rfl (.tmp rfl rfl)) ?_
                        refine RK.c (S.lenM si33 (.yes rfl rfl rfl rfl) rfl (.tmp rfl rfl)) ?_
                        refine RK.c (S.neq (.yes rfl rfl rfl rfl) rfl (.tmp rfl rfl) (.tmp rfl rfl)) ?_
                        refine RK.c (S.pickF .none rfl (.tmp rfl rfl) (.tmp rfl rfl) rfl) ?_
                        refine RK.nil ?_
                        refine Ab.D.code ?_
                        refine OK.condD rfl rfl (fun c175 => ?_) (fun c175 => ?_)
                        ·
                          exfalso
                          omega
                        ·
                          refine OK.skip ?_
                          refine Ab.D.code ?_
                          refine OK.seq ?_
                          refine OK.seq ?_
                          refine OK.reg ?_
                          refine RK.c (S.assign .none rfl (.cint rfl)) ?_
                          refine RK.nil ?_
                          refine Ab.D.code ?_
                          refine OK.block ?_
                          refine OK.loop (G := Nat) [5] (fun n => [(5, .ptr 5 0), (1005, .box x.cs), (19, ints sA), (21, ints sB), (23, .int .i64 n)]) (fun n => n ≤ sA.length) (fun n => sA.length - n) 0 (Nat.zero_le _) ⟨rfl, rfl, rfl, rfl, rfl, trivial⟩ (fun _ => rfl) ?_
                          rintro n hn
                          refine OK.seq ?_
                          refine OK.seq ?_
                          refine OK.reg ?_
                          refine RK.c (S.move .none rfl (.tmp rfl rfl)) ?_
                          refine RK.c (S.move .none rfl (.tmp rfl rfl)) ?_
                          refine RK.c (S.lenM si33 .none rfl (.tmp rfl rfl)) ?_
                          refine RK.c (S.lss .none rfl (.tmp rfl rfl) (.tmp rfl rfl)) ?_
                          refine RK.nil ?_
                          refine Ab.D.code ?_
                          refine OK.condD rfl rfl (fun c179 => ?_) (fun c179 => ?_)
                          ·
                            have hSn := hSm n (by omega)
                            have hSTn := hST n (by omega) (by omega)
                            refine OK.skip ?_
                            refine Ab.D.code ?_
                            refine OK.seq ?_
                            refine OK.block ?_
                            refine OK.seq ?_
                            by_cases g192 : ¬ (0 ≤ sA[n] ∧ sA[n] ≤ (x.records.length : Int) - 1)
                            ·
                              exact absurd hSn g192
                            ·
                              refine OK.regionDraw follows (.c (S.move .none rfl (.tmp rfl rfl))
                                (.c (S.move .none rfl (.tmp rfl rfl))
                                (.c (S.indexM (n := n) si33 .none rfl (.tmp rfl rfl) (.tmp rfl rfl) rfl (by omega) rfl)
                                (.c (S.load1 ti3 .none rfl (.tmp rfl rfl) rfl)
                                (.c (S.bfield fi28_0 .none rfl (.tmp rfl rfl))
                                (.c (S.bload1 ti26 .none rfl (.tmp rfl rfl) rfl rfl rfl rfl)
                                (.c (S.lenM si26 .none rfl (.tmp rfl rfl))
                                (.c (S.sub .none rfl (.tmp rfl rfl) (.cint rfl) (IntWalk.i64_in _ (by omega)) (IntWalk.i64_in _ (by omega)))
                                (.c (S.call (base_Within) Tryz.call18 .none rfl (.cons (.tmp rfl rfl) (.cons (.cint rfl) (.cons (.tmp rfl rfl) .nil))) rfl)
                                (.c (S.notD .none rfl (.tmp rfl rfl))
                                (.c (S.move .none rfl (.tmp rfl rfl))
                                (.c (S.move (.yes rfl rfl rfl (decide_eq_false g192)) rfl (.tmp rfl rfl))
                                (.c (S.move (.yes rfl rfl rfl (decide_eq_false g192)) rfl (.tmp rfl rfl))
                                (.c (S.lenM si33 (.yes rfl rfl rfl (decide_eq_false g192)) rfl (.tmp rfl rfl))
                                (.c (S.sub (.yes rfl rfl rfl (decide_eq_false g192)) rfl (.tmp rfl rfl) (.cint rfl) (IntWalk.i64_in _ (by omega)) (IntWalk.i64_in _ (by omega)))
                                (.c (S.move (.yes rfl rfl rfl (decide_eq_false g192)) rfl (.tmp rfl rfl))
                                (.c (S.sub (.yes rfl rfl rfl (decide_eq_false g192)) rfl (.tmp rfl rfl) (.tmp rfl rfl) (IntWalk.i64_in _ (by omega)) (IntWalk.i64_in _ (by omega)))
                                (.c (S.indexM (n := (sA.length - 1 - n)) si33 (.yes rfl rfl rfl (decide_eq_false g192)) rfl (.tmp rfl rfl) (.tmp rfl rfl) (by omega) (by omega) rfl)
                                (.c (S.load1 ti3 (.yes rfl rfl rfl (decide_eq_false g192)) rfl (.tmp rfl rfl) rfl)
                                (.c (S.bfield fi28_0 (.yes rfl rfl rfl (decide_eq_false g192)) rfl (.tmp rfl rfl))
                                (.c (S.bload1 ti26 (.yes rfl rfl rfl (decide_eq_false g192)) rfl (.tmp rfl rfl) rfl rfl rfl rfl)
                                (.c (S.lenM si26 (.yes rfl rfl rfl (decide_eq_false g192)) rfl (.tmp rfl rfl))
                                (.c (S.sub (.yes rfl rfl rfl (decide_eq_false g192)) rfl (.tmp rfl rfl) (.cint rfl) (IntWalk.i64_in _ (by omega)) (IntWalk.i64_in _ (by omega)))
                                (.c (S.move (.yes rfl rfl rfl (decide_eq_false g192)) rfl (.tmp rfl rfl))
                                (.c (S.move (.yes rfl rfl rfl (decide_eq_false g192)) rfl (.tmp rfl rfl))
                                (.c (S.indexM (n := n) si33 (.yes rfl rfl rfl (decide_eq_false g192)) rfl (.tmp rfl rfl) (.tmp rfl rfl) rfl (by omega) rfl)
                                (.c (S.load1 ti3 (.yes rfl rfl rfl (decide_eq_false g192)) rfl (.tmp rfl rfl) rfl)
                                (.c (S.sub (.yes rfl rfl rfl (decide_eq_false g192)) rfl (.tmp rfl rfl) (.tmp rfl rfl) (IntWalk.i64_in _ (by omega)) (IntWalk.i64_in _ (by omega)))
                                (.c (S.neq (.yes rfl rfl rfl (decide_eq_false g192)) rfl (.tmp rfl rfl) (.tmp rfl rfl))
                                (.c (S.pickF .none rfl (.tmp rfl rfl) (.tmp rfl rfl) (decide_eq_false g192))
                                .nil)))))))))))))))))))))))))))))) (by kernel_rfl) ?_
                              refine Ab.D.code ?_
                              refine OK.condD rfl rfl (fun c211 => ?_) (fun c211 => ?_)
                              ·
                                exact absurd hSTn c211
                              ·
                                refine OK.skip ?_
                                refine Ab.D.blk ?_
                                refine Ab.D.code ?_
                                refine OK.reg ?_
                                refine RK.c (S.move .none rfl (.tmp rfl rfl)) ?_
                                refine RK.c (S.add .none rfl (.tmp rfl rfl) (.cint rfl) (IntWalk.i64_in _ (by omega)) (IntWalk.i64_in _ (by omega))) ?_
                                refine RK.c (S.assign .none rfl (.tmp rfl rfl)) ?_
                                refine RK.nil ?_
                                refine Ab.D.lp ⟨n + 1, (by omega), (by omega), rfl, rfl, rfl, rfl, rfl, trivial⟩
                          ·
                            refine OK.exit rfl ?_
                            refine Ab.D.code ?_
                            refine OK.seq ?_
                            refine OK.reg ?_
                            refine RK.c (S.assign .none rfl .cbool) ?_
                            refine RK.nil ?_
                            refine Ab.D.code ?_
                            refine OK.ret (Ret.r1 (.tmp rfl rfl (.c (.same rfl) rfl) rfl) ?_)
                            rfl

end Go.Proofs.YtmokilkombplkaaGreat
