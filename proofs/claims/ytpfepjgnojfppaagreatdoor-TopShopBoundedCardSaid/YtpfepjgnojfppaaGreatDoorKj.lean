import Derived.Test.YtpfepjgnojfppaaGreatDoorKh
import Derived.Test.YtpfepjgnojfppaaGreatDoorTz
namespace Go.Proofs.YtpfepjgnojfppaaGreatDoor
open Go.Ab
def peakStep (l : List Run) (q : Int × Int) (r : Run) : Int × Int := if powerT r.start l > q.1 ∨ (powerT r.start l = q.1 ∧ r.start < q.2) then (powerT r.start l, r.start) else q
def peakT (l : List Run) : Int × Int := l.foldl (peakStep l) (0, 0)
def peakTo (l : List Run) (i : Nat) : Int × Int := (l.take i).foldl (peakStep l) (0, 0)
theorem peakTo_succ {l : List Run} {i : Nat} (h : i < l.length) : peakTo l (i + 1) = peakStep l (peakTo l i) l[i] := by
  unfold peakTo
  rw [List.take_succ_eq_append_getElem h, List.foldl_append]
  rfl
theorem peak_T {l : List Run} {i : Nat} (h : i < l.length) (hc : powerT l[i].start l > (peakTo l i).1 ∨ (powerT l[i].start l = (peakTo l i).1 ∧ l[i].start < (peakTo l i).2)) : peakTo l (i + 1) = (powerT l[i].start l, l[i].start) := by rw [peakTo_succ h, peakStep, if_pos hc]
theorem peak_F {l : List Run} {i : Nat} (h : i < l.length) (hc : ¬ (powerT l[i].start l > (peakTo l i).1 ∨ (powerT l[i].start l = (peakTo l i).1 ∧ l[i].start < (peakTo l i).2))) : peakTo l (i + 1) = peakTo l i := by rw [peakTo_succ h, peakStep, if_neg hc]
theorem runE_2 {r : Run} (h : runE r ≠ 0) : runE r = 2 := by
  unfold runE at *
  split at h
  · contradiction
  · rename_i h1; rw [if_neg h1]
theorem RunB.mono {A B : Int} {r : Run} (h : RunB A r) (hAB : A ≤ B) : RunB B r := ⟨by have := h.1; omega, h.2⟩
theorem ref9_RunErr {r : Run} : Ct Tryz.prog 169 [.agg r.cs] (.int .i64 (runE r)) := by
 refine Ct.intro (rs := [.tmp 2]) Tryz.func169 rfl Tryz.ntmps169 Tryz.results169 rfl rfl rfl fun w h => ?_
 refine OK.seq (OK.reg ?_)
 refine RK.c (S.box (k := 1) rfl .none rfl (.tmp rfl rfl) rfl) ?_
 refine RK.c (S.assign .none rfl (.cint rfl)) ?_
 refine RK.nil (Ab.D.code (OK.seq (OK.seq (OK.reg ?_))))
 refine RK.c (S.bfield fi117_0 .none rfl (.tmp rfl rfl)) ?_
 refine RK.c (S.bload1 ti3 .none rfl (.tmp rfl rfl) rfl rfl rfl rfl) ?_
 refine RK.c (S.call (ref9_isTicks) Tryz.call100 .none rfl (.cons (.tmp rfl rfl) .nil) rfl) ?_
 refine RK.c (S.notD .none rfl (.tmp rfl rfl)) ?_
 refine RK.c (S.move .none rfl (.tmp rfl rfl)) ?_
 refine RK.splitD (t := 7) rfl (fun g7 => ?_) (fun g7 => ?_)
 ·
  refine RK.c (S.skip rfl rfl rfl rfl rfl) ?_
  refine RK.c (S.skip rfl rfl rfl rfl rfl) ?_
  refine RK.c (S.skip rfl rfl rfl rfl rfl) ?_
  refine RK.c (S.skip rfl rfl rfl rfl rfl) ?_
  refine RK.c (S.pickT .none rfl (.tmp rfl rfl) .cbool rfl) ?_
  refine RK.c (S.move .none rfl (.tmp rfl rfl)) ?_
  refine RK.c (S.skip rfl rfl rfl rfl rfl) ?_
  refine RK.c (S.skip rfl rfl rfl rfl rfl) ?_
  refine RK.c (S.skip rfl rfl rfl rfl rfl) ?_
  refine RK.c (S.skip rfl rfl rfl rfl rfl) ?_
  refine RK.c (S.pickT .none rfl (.tmp rfl rfl) .cbool rfl) ?_
  refine RK.nil (Ab.D.code ?_)
  refine OK.condT rfl rfl rfl ?_
  refine OK.seq (OK.reg ?_)
  refine RK.c (S.assign .none rfl (.cint rfl)) ?_
  refine RK.nil (Ab.D.code ?_)
  refine OK.ret (Ret.r1 (.tmp rfl rfl (.c (.same rfl) rfl) rfl) ?_)
  refine ret_i ?_
  unfold runE
  (repeat' split) <;> omega
 ·
  refine RK.c (S.bfield fi117_1 (.yes rfl rfl rfl rfl) rfl (.tmp rfl rfl)) ?_
  refine RK.c (S.bload1 ti3 (.yes rfl rfl rfl rfl) rfl (.tmp rfl rfl) rfl rfl rfl rfl) ?_
  refine RK.c (S.call (base_Within) Tryz.call43 (.yes rfl rfl rfl rfl) rfl (.cons (.tmp rfl rfl) (.cons (.cint rfl) (.cons (.cint rfl) .nil))) rfl) ?_
  refine RK.c (S.notD (.yes rfl rfl rfl rfl) rfl (.tmp rfl rfl)) ?_
  refine RK.c (S.pickF .none rfl (.tmp rfl rfl) (.tmp rfl rfl) rfl) ?_
  refine RK.c (S.move .none rfl (.tmp rfl rfl)) ?_
  refine RK.splitD (t := 13) rfl (fun g13 => ?_) (fun g13 => ?_)
  ·
   refine RK.c (S.skip rfl rfl rfl rfl rfl) ?_
   refine RK.c (S.skip rfl rfl rfl rfl rfl) ?_
   refine RK.c (S.skip rfl rfl rfl rfl rfl) ?_
   refine RK.c (S.skip rfl rfl rfl rfl rfl) ?_
   refine RK.c (S.pickT .none rfl (.tmp rfl rfl) .cbool rfl) ?_
   refine RK.nil (Ab.D.code ?_)
   refine OK.condT rfl rfl rfl ?_
   refine OK.seq (OK.reg ?_)
   refine RK.c (S.assign .none rfl (.cint rfl)) ?_
   refine RK.nil (Ab.D.code ?_)
   refine OK.ret (Ret.r1 (.tmp rfl rfl (.c (.same rfl) rfl) rfl) ?_)
   refine ret_i ?_
   unfold runE
   (repeat' split) <;> omega
  ·
   refine RK.c (S.bfield fi117_2 (.yes rfl rfl rfl rfl) rfl (.tmp rfl rfl)) ?_
   refine RK.c (S.bload1 ti3 (.yes rfl rfl rfl rfl) rfl (.tmp rfl rfl) rfl rfl rfl rfl) ?_
   refine RK.c (S.call (ref9_isPower) Tryz.call191 (.yes rfl rfl rfl rfl) rfl (.cons (.tmp rfl rfl) .nil) rfl) ?_
   refine RK.c (S.notD (.yes rfl rfl rfl rfl) rfl (.tmp rfl rfl)) ?_
   refine RK.c (S.pickF .none rfl (.tmp rfl rfl) (.tmp rfl rfl) rfl) ?_
   refine RK.nil (Ab.D.code ?_)
   refine OK.condD rfl rfl (fun c18 => ?_) (fun c18 => ?_)
   ·
    refine OK.seq (OK.reg ?_)
    refine RK.c (S.assign .none rfl (.cint rfl)) ?_
    refine RK.nil (Ab.D.code ?_)
    refine OK.ret (Ret.r1 (.tmp rfl rfl (.c (.same rfl) rfl) rfl) ?_)
    refine ret_i ?_
    unfold runE
    (repeat' split) <;> omega
   ·
    refine OK.skip ?_
    refine Ab.D.code (OK.seq (OK.reg ?_))
    refine RK.c (S.assign .none rfl (.cint rfl)) ?_
    refine RK.nil (Ab.D.code ?_)
    refine OK.ret (Ret.r1 (.tmp rfl rfl (.c (.same rfl) rfl) rfl) ?_)
    refine ret_i ?_
    unfold runE
    (repeat' split) <;> omega
theorem ref9_CheckRuns {l : List Run} : Ct Tryz.prog 122 [.sl (l.map Run.cs)] (pair (runsChk l)) := by
 refine Ct.intro (rs := [.tmp 2, .tmp 3]) Tryz.func122 rfl Tryz.ntmps122 Tryz.results122 rfl rfl rfl fun w h => ?_
 refine OK.seq (OK.reg ?_)
 refine RK.c (S.assign .none rfl (.cint rfl)) ?_
 refine RK.c (S.assign .none rfl (.cint rfl)) ?_
 refine RK.nil (Ab.D.code (OK.seq (OK.seq (OK.reg ?_))))
 refine RK.c (S.move .none rfl (.tmp rfl rfl)) ?_
 refine RK.c (S.lenM si115 .none rfl (.tmp rfl rfl)) ?_
 refine RK.c (S.gtr .none rfl (.tmp rfl rfl) (.cint rfl)) ?_
 refine RK.nil (Ab.D.code ?_)
 refine OK.condD rfl rfl (fun c8 => ?_) (fun c8 => ?_)
 ·
  refine OK.seq (OK.reg ?_)
  refine RK.c (S.assign .none rfl (.cint rfl)) ?_
  refine RK.c (S.assign .none rfl (.cint rfl)) ?_
  refine RK.nil (Ab.D.code ?_)
  refine OK.ret (Ret.r2 (.tmp rfl rfl (.c (.same rfl) rfl) rfl) (.tmp rfl rfl (.c (.same rfl) rfl) rfl) ?_)
  refine ret_p ?_
  rw [runsChk, if_pos (by omega)]
 ·
  refine OK.skip ?_
  refine Ab.D.code (OK.seq (OK.seq (OK.reg ?_)))
  refine RK.c (S.assign .none rfl (.cint rfl)) ?_
  refine RK.nil (Ab.D.code ?_)
  refine OK.block ?_
  refine OK.loop (G := Nat) [] (fun i => [(0, .sl (l.map Run.cs)), (4, .int .i64 i)]) (fun i => i ≤ l.length ∧ idxGo (fun r => decide (runE r ≠ 0)) 0 l = idxGo (fun r => decide (runE r ≠ 0)) i (l.drop i)) (fun i => l.length - i) 0 ⟨Nat.zero_le _, rfl⟩ ⟨rfl, rfl, trivial⟩ (fun _ => rfl) ?_
  rintro i ⟨hi, hg⟩
  refine OK.seq (OK.seq (OK.reg ?_))
  refine RK.c (S.move .none rfl (.tmp rfl rfl)) ?_
  refine RK.c (S.move .none rfl (.tmp rfl rfl)) ?_
  refine RK.c (S.lenM si115 .none rfl (.tmp rfl rfl)) ?_
  refine RK.c (S.lss .none rfl (.tmp rfl rfl) (.tmp rfl rfl)) ?_
  refine RK.nil (Ab.D.code ?_)
  refine OK.condD rfl rfl (fun c12 => ?_) (fun c12 => ?_)
  ·
   refine OK.skip ?_
   refine Ab.D.code ?_
   refine OK.seq ?_
   refine OK.block ?_
   refine OK.seq (OK.reg ?_)
   refine RK.c (S.move .none rfl (.tmp rfl rfl)) ?_
   refine RK.c (S.move .none rfl (.tmp rfl rfl)) ?_
   refine RK.c (S.indexM (n := i) si115 .none rfl (.tmp rfl rfl) (.tmp rfl rfl) rfl (by omega) rfl) ?_
   refine RK.c (S.loadN ti117 .none rfl (.tmp rfl rfl) rfl rfl) ?_
   refine RK.c (S.call (ref9_RunErr) Tryz.call169 .none rfl (.cons (.tmp rfl rfl) .nil) rfl) ?_
   refine RK.c (S.assign .none rfl (.tmp rfl rfl)) ?_
   refine RK.nil (Ab.D.code (OK.seq (OK.reg ?_)))
   refine RK.c (S.move .none rfl (.tmp rfl rfl)) ?_
   refine RK.c (S.neq .none rfl (.tmp rfl rfl) (.cint rfl)) ?_
   refine RK.nil (Ab.D.code ?_)
   refine OK.condD rfl rfl (fun c21 => ?_) (fun c21 => ?_)
   ·
    refine OK.seq (OK.reg ?_)
    refine RK.c (S.move .none rfl (.tmp rfl rfl)) ?_
    refine RK.c (S.move .none rfl (.tmp rfl rfl)) ?_
    refine RK.c (S.assign .none rfl (.tmp rfl rfl)) ?_
    refine RK.c (S.assign .none rfl (.tmp rfl rfl)) ?_
    refine RK.nil (Ab.D.code ?_)
    refine OK.ret (Ret.r2 (.tmp rfl rfl (.c (.same rfl) rfl) rfl) (.tmp rfl rfl (.c (.same rfl) rfl) rfl) ?_)
    refine ret_p ?_
    have h2 := runE_2 c21
    have hix : idxGo (fun r => decide (runE r ≠ 0)) 0 l = i := by rw [hg, idxGo_drop _ (by omega), if_pos (decide_eq_true c21)]
    rw [runsChk, if_neg (by omega), hix, if_pos (by omega), h2]
   ·
    refine OK.skip ?_
    refine Ab.D.blk ?_
    refine Ab.D.code (OK.reg ?_)
    refine RK.c (S.move .none rfl (.tmp rfl rfl)) ?_
    refine RK.c (S.add .none rfl (.tmp rfl rfl) (.cint rfl) (IntWalk.i64_in _ (by omega)) (IntWalk.i64_in _ (by omega))) ?_
    refine RK.c (S.assign .none rfl (.tmp rfl rfl)) ?_
    refine RK.nil ?_
    refine Ab.D.lp ⟨i + 1, ⟨by omega, ?_⟩, (by omega), rfl, rfl, trivial⟩
    rw [hg, idxGo_drop _ (by omega), if_neg (by rw [decide_eq_true_eq]; exact c21)]
  ·
   refine OK.exit rfl ?_
   refine Ab.D.code (OK.seq (OK.reg ?_))
   refine RK.c (S.assign .none rfl (.cint rfl)) ?_
   refine RK.c (S.assign .none rfl (.cint rfl)) ?_
   refine RK.nil (Ab.D.code ?_)
   refine OK.ret (Ret.r2 (.tmp rfl rfl (.c (.same rfl) rfl) rfl) (.tmp rfl rfl (.c (.same rfl) rfl) rfl) ?_)
   refine ret_p ?_
   rw [runsChk, if_neg (by omega), hg, show i = l.length by omega, List.drop_length]
   rfl
theorem ref9_RunsErr {l : List Run} : Ct Tryz.prog 69 [.sl (l.map Run.cs)] (.int .i64 (runsChk l).2) := by
 refine Ct.intro (rs := [.tmp 2]) Tryz.func69 rfl Tryz.ntmps69 Tryz.results69 rfl rfl rfl fun w h => ?_
 refine OK.seq (OK.reg ?_)
 refine RK.c (S.assign .none rfl (.cint rfl)) ?_
 refine RK.nil (Ab.D.code (OK.seq (OK.reg ?_)))
 refine RK.c (S.move .none rfl (.tmp rfl rfl)) ?_
 refine RK.c (S.call (ref9_CheckRuns) Tryz.call122 .none rfl (.cons (.tmp rfl rfl) .nil) rfl) ?_
 refine RK.c (S.move .none rfl (.tmp rfl rfl)) ?_
 refine RK.c (S.extract .none rfl (.tmp rfl rfl) rfl rfl) ?_
 refine RK.c (S.extract .none rfl (.tmp rfl rfl) rfl rfl) ?_
 refine RK.c (S.assign .none rfl (.tmp rfl rfl)) ?_
 refine RK.c (S.assign .none rfl (.tmp rfl rfl)) ?_
 refine RK.nil (Ab.D.code (OK.seq (OK.reg ?_)))
 refine RK.c (S.move .none rfl (.tmp rfl rfl)) ?_
 refine RK.c (S.assign .none rfl (.tmp rfl rfl)) ?_
 refine RK.nil (Ab.D.code ?_)
 refine OK.ret (Ret.r1 (.tmp rfl rfl (.c (.same rfl) rfl) rfl) ?_)
 rfl
theorem shp_PeakOf {l : List Run} : Ct Tryz.prog 70 [.sl (l.map Run.cs)] (.tup [.int .i64 (if (runsChk l).2 = 0 then (peakT l).1 else 0), .int .i64 (if (runsChk l).2 = 0 then (peakT l).2 else 0), .int .i64 (runsChk l).2]) := by
 refine Ct.intro (rs := [.tmp 2, .tmp 3, .tmp 4]) Tryz.func70 rfl Tryz.ntmps70 Tryz.results70 rfl rfl rfl fun w h => ?_
 refine OK.seq (OK.reg ?_)
 refine RK.c (S.assign .none rfl (.cint rfl)) ?_
 refine RK.c (S.assign .none rfl (.cint rfl)) ?_
 refine RK.c (S.assign .none rfl (.cint rfl)) ?_
 refine RK.nil (Ab.D.code (OK.seq (OK.seq (OK.reg ?_))))
 refine RK.c (S.move .none rfl (.tmp rfl rfl)) ?_
 refine RK.c (S.call (shp_CheckRuns) Tryz.call123 .none rfl (.cons (.tmp rfl rfl) .nil) rfl) ?_
 refine RK.c (S.move .none rfl (.tmp rfl rfl)) ?_
 refine RK.c (S.extract .none rfl (.tmp rfl rfl) rfl rfl) ?_
 refine RK.c (S.extract .none rfl (.tmp rfl rfl) rfl rfl) ?_
 refine RK.c (S.assign .none rfl (.tmp rfl rfl)) ?_
 refine RK.c (S.assign .none rfl (.tmp rfl rfl)) ?_
 refine RK.nil (Ab.D.code (OK.seq (OK.reg ?_)))
 refine RK.c (S.move .none rfl (.tmp rfl rfl)) ?_
 refine RK.c (S.neq .none rfl (.tmp rfl rfl) (.cint rfl)) ?_
 refine RK.nil (Ab.D.code ?_)
 refine OK.condD rfl rfl (fun c18 => ?_) (fun c18 => ?_)
 ·
  refine OK.seq (OK.reg ?_)
  refine RK.c (S.move .none rfl (.tmp rfl rfl)) ?_
  refine RK.c (S.assign .none rfl (.cint rfl)) ?_
  refine RK.c (S.assign .none rfl (.cint rfl)) ?_
  refine RK.c (S.assign .none rfl (.tmp rfl rfl)) ?_
  refine RK.nil (Ab.D.code ?_)
  refine OK.ret (Ret.r3 (.tmp rfl rfl (.c (.same rfl) rfl) rfl) (.tmp rfl rfl (.c (.same rfl) rfl) rfl) (.tmp rfl rfl (.c (.same rfl) rfl) rfl) ?_)
  rw [if_neg c18, if_neg c18]
  all_goals rfl
 ·
  have he : (runsChk l).2 = 0 := Decidable.not_not.1 c18
  obtain ⟨hl, hB⟩ := runs_ok he
  have hB9 : ∀ r ∈ l, RunB 1000000000 r := fun r hr => (hB r hr).mono (by omega)
  refine OK.skip ?_
  refine Ab.D.code (OK.seq (OK.reg ?_))
  refine RK.c (S.assign .none rfl (.cint rfl)) ?_
  refine RK.c (S.assign .none rfl (.cint rfl)) ?_
  refine RK.nil (Ab.D.code (OK.seq (OK.seq (OK.reg ?_))))
  refine RK.c (S.move .none rfl (.tmp rfl rfl)) ?_
  refine RK.c (S.lenM si115 .none rfl (.tmp rfl rfl)) ?_
  refine RK.c (S.move .none rfl (.cint rfl)) ?_
  refine RK.nil (Ab.D.code ?_)
  refine OK.block ?_
  refine OK.loop (G := Nat) [] (fun i => [(0, .sl (l.map Run.cs)), (7, .int .i64 (peakTo l i).1), (8, .int .i64 (peakTo l i).2), (20, .sl (l.map Run.cs)), (21, .int .i64 l.length), (22, .int .i64 i)]) (fun i => i ≤ l.length) (fun i => l.length - i) 0 (Nat.zero_le _) ⟨rfl, rfl, rfl, rfl, rfl, rfl, trivial⟩ (fun _ => rfl) ?_
  rintro i hi
  refine OK.seq (OK.reg ?_)
  refine RK.c (S.lss .none rfl (.tmp rfl rfl) (.tmp rfl rfl)) ?_
  refine RK.nil (Ab.D.code ?_)
  refine OK.seq ?_
  refine OK.condD rfl rfl (fun c23 => ?_) (fun c23 => ?_)
  ·
   refine OK.skip ?_
   refine Ab.D.code ?_
   refine OK.seq ?_
   refine OK.block ?_
   refine OK.seq (OK.reg ?_)
   refine RK.c (S.indexM (n := i) si115 .none rfl (.tmp rfl rfl) (.tmp rfl rfl) rfl (by omega) rfl) ?_
   refine RK.c (S.loadN ti117 .none rfl (.tmp rfl rfl) rfl rfl) ?_
   refine RK.c (S.alloc (k := 10) ze117 rfl .none rfl) ?_
   refine RK.c (S.store ti117 .none (.tmp rfl rfl) (.tmp rfl rfl) rfl rfl rfl rfl rfl rfl) ?_
   refine RK.nil (Ab.D.code (OK.seq (OK.reg ?_)))
   refine RK.c (S.move .none rfl (.tmp rfl rfl)) ?_
   refine RK.c (S.bfield fi117_0 .none rfl (.tmp rfl rfl)) ?_
   refine RK.c (S.bload1 ti3 .none rfl (.tmp rfl rfl) rfl rfl rfl rfl) ?_
   refine RK.c (S.call (shp_powerAt (l := l) hB9 (by omega)) Tryz.call124 .none rfl (.cons (.tmp rfl rfl) (.cons (.tmp rfl rfl) .nil)) rfl) ?_
   refine RK.c (S.assign .none rfl (.tmp rfl rfl)) ?_
   refine RK.nil (Ab.D.code (OK.seq (OK.reg ?_)))
   refine RK.c (S.move .none rfl (.tmp rfl rfl)) ?_
   refine RK.c (S.move .none rfl (.tmp rfl rfl)) ?_
   refine RK.c (S.gtr .none rfl (.tmp rfl rfl) (.tmp rfl rfl)) ?_
   refine RK.c (S.move .none rfl (.tmp rfl rfl)) ?_
   refine RK.splitD (t := 33) rfl (fun g33 => ?_) (fun g33 => ?_)
   ·
    have hps := peak_T (l := l) (i := i) (by omega) (.inl g33)
    refine RK.c (S.skip rfl rfl rfl rfl rfl) ?_
    refine RK.c (S.skip rfl rfl rfl rfl rfl) ?_
    refine RK.c (S.skip rfl rfl rfl rfl rfl) ?_
    refine RK.c (S.skip rfl rfl rfl rfl rfl) ?_
    refine RK.c (S.skipU rfl rfl rfl rfl) ?_
    refine RK.c (S.skipU rfl rfl rfl rfl) ?_
    refine RK.c (S.skipU rfl rfl rfl rfl) ?_
    refine RK.c (S.skipU rfl rfl rfl rfl) ?_
    refine RK.c (S.skip rfl rfl rfl rfl rfl) ?_
    refine RK.c (S.pickT .none rfl (.tmp rfl rfl) .cbool rfl) ?_
    refine RK.nil (Ab.D.code ?_)
    refine OK.condT rfl rfl rfl ?_
    refine OK.regionDraw follows (.c (S.move .none rfl (.tmp rfl rfl))
     (.c (S.bfield fi117_0 .none rfl (.tmp rfl rfl))
     (.c (S.bload1 ti3 .none rfl (.tmp rfl rfl) rfl rfl rfl rfl)
     (.c (S.assign .none rfl (.tmp rfl rfl))
     (.c (S.assign .none rfl (.tmp rfl rfl))
     .nil))))) (by kernel_rfl) ?_
    refine Ab.D.blk ?_
    refine Ab.D.code (OK.reg ?_)
    refine RK.c (S.add .none rfl (.tmp rfl rfl) (.cint rfl) (IntWalk.i64_in _ (by omega)) (IntWalk.i64_in _ (by omega))) ?_
    refine RK.c (S.move .none rfl (.tmp rfl rfl)) ?_
    refine RK.nil ?_
    refine Ab.D.lp ⟨i + 1, (by omega), (by omega), rfl, (lkI (by rw [hps])), (lkI (by rw [hps])), rfl, rfl, rfl, trivial⟩
   ·
    refine RK.c (S.move (.yes rfl rfl rfl rfl) rfl (.tmp rfl rfl)) ?_
    refine RK.c (S.move (.yes rfl rfl rfl rfl) rfl (.tmp rfl rfl)) ?_
    refine RK.c (S.eql (.yes rfl rfl rfl rfl) rfl (.tmp rfl rfl) (.tmp rfl rfl)) ?_
    refine RK.c (S.move (.yes rfl rfl rfl rfl) rfl (.tmp rfl rfl)) ?_
    refine RK.splitD (t := 37) rfl (fun g37 => ?_) (fun g37 => ?_)
    ·
     refine RK.c (S.bfield fi117_0 (.yes rfl rfl rfl rfl) rfl (.tmp rfl rfl)) ?_
     refine RK.c (S.bload1 ti3 (.yes rfl rfl rfl rfl) rfl (.tmp rfl rfl) rfl rfl rfl rfl) ?_
     refine RK.c (S.move (.yes rfl rfl rfl rfl) rfl (.tmp rfl rfl)) ?_
     refine RK.c (S.lss (.yes rfl rfl rfl rfl) rfl (.tmp rfl rfl) (.tmp rfl rfl)) ?_
     refine RK.c (S.pickT (.yes rfl rfl rfl rfl) rfl (.tmp rfl rfl) (.tmp rfl rfl) rfl) ?_
     refine RK.c (S.pickF .none rfl (.tmp rfl rfl) (.tmp rfl rfl) rfl) ?_
     refine RK.nil (Ab.D.code ?_)
     refine OK.condD rfl rfl (fun c43 => ?_) (fun c43 => ?_)
     ·
      have hps := peak_T (l := l) (i := i) (by omega) (.inr ⟨g37, c43⟩)
      refine OK.regionDraw follows (.c (S.move .none rfl (.tmp rfl rfl))
       (.c (S.bfield fi117_0 .none rfl (.tmp rfl rfl))
       (.c (S.bload1 ti3 .none rfl (.tmp rfl rfl) rfl rfl rfl rfl)
       (.c (S.assign .none rfl (.tmp rfl rfl))
       (.c (S.assign .none rfl (.tmp rfl rfl))
       .nil))))) (by kernel_rfl) ?_
      refine Ab.D.blk ?_
      refine Ab.D.code (OK.reg ?_)
      refine RK.c (S.add .none rfl (.tmp rfl rfl) (.cint rfl) (IntWalk.i64_in _ (by omega)) (IntWalk.i64_in _ (by omega))) ?_
      refine RK.c (S.move .none rfl (.tmp rfl rfl)) ?_
      refine RK.nil ?_
      refine Ab.D.lp ⟨i + 1, (by omega), (by omega), rfl, (lkI (by rw [hps])), (lkI (by rw [hps])), rfl, rfl, rfl, trivial⟩
     ·
      have hps := peak_F (l := l) (i := i) (by omega) (fun h => h.elim g33 fun h => c43 h.2)
      refine OK.skip ?_
      refine Ab.D.blk ?_
      refine Ab.D.code (OK.reg ?_)
      refine RK.c (S.add .none rfl (.tmp rfl rfl) (.cint rfl) (IntWalk.i64_in _ (by omega)) (IntWalk.i64_in _ (by omega))) ?_
      refine RK.c (S.move .none rfl (.tmp rfl rfl)) ?_
      refine RK.nil ?_
      refine Ab.D.lp ⟨i + 1, (by omega), (by omega), rfl, (lkI (by rw [hps])), (lkI (by rw [hps])), rfl, rfl, rfl, trivial⟩
    ·
     have hps := peak_F (l := l) (i := i) (by omega) (fun h => h.elim g33 fun h => g37 h.1)
     refine RK.c (S.skip rfl rfl rfl rfl rfl) ?_
     refine RK.c (S.skip rfl rfl rfl rfl rfl) ?_
     refine RK.c (S.skip rfl rfl rfl rfl rfl) ?_
     refine RK.c (S.skip rfl rfl rfl rfl rfl) ?_
     refine RK.c (S.pickF (.yes rfl rfl rfl rfl) rfl (.tmp rfl rfl) .cbool rfl) ?_
     refine RK.c (S.pickF .none rfl (.tmp rfl rfl) (.tmp rfl rfl) rfl) ?_
     refine RK.nil (Ab.D.code ?_)
     refine OK.condF rfl rfl rfl ?_
     refine OK.skip ?_
     refine Ab.D.blk ?_
     refine Ab.D.code (OK.reg ?_)
     refine RK.c (S.add .none rfl (.tmp rfl rfl) (.cint rfl) (IntWalk.i64_in _ (by omega)) (IntWalk.i64_in _ (by omega))) ?_
     refine RK.c (S.move .none rfl (.tmp rfl rfl)) ?_
     refine RK.nil ?_
     refine Ab.D.lp ⟨i + 1, (by omega), (by omega), rfl, (lkI (by rw [hps])), (lkI (by rw [hps])), rfl, rfl, rfl, trivial⟩
  ·
   refine OK.exit rfl ?_
   refine Ab.D.code (OK.seq (OK.reg ?_))
   refine RK.c (S.move .none rfl (.tmp rfl rfl)) ?_
   refine RK.c (S.move .none rfl (.tmp rfl rfl)) ?_
   refine RK.c (S.assign .none rfl (.tmp rfl rfl)) ?_
   refine RK.c (S.assign .none rfl (.tmp rfl rfl)) ?_
   refine RK.c (S.assign .none rfl (.cint rfl)) ?_
   refine RK.nil (Ab.D.code ?_)
   refine OK.ret (Ret.r3 (.tmp rfl rfl (.c (.same rfl) rfl) rfl) (.tmp rfl rfl (.c (.same rfl) rfl) rfl) (.tmp rfl rfl (.c (.same rfl) rfl) rfl) ?_)
   rw [if_pos he, if_pos he, he, show i = l.length by omega, show peakTo l l.length = peakT l by unfold peakTo peakT; rw [List.take_length]]
   all_goals rfl
end Go.Proofs.YtpfepjgnojfppaaGreatDoor
