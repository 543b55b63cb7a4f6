import Derived.Test.YtpmglnphhhlbdaaGreatDoorWj
namespace Go.Proofs.YtpmglnphhhlbdaaGreatDoor
open Go.Ab
def rangeErr (x : Range) : Int := if ¬ ((-1000000 ≤ x.lo ∧ x.lo ≤ 1000000) ∧ (-1000000 ≤ x.hi ∧ x.hi ≤ 1000000)) then 2 else if x.lo ≤ x.hi then 0 else 9
def erowErr (p : Plan) (l : List Range) : Int := if l.length ≠ p.channels.length then 10 else (eachGo (fun _ x => rangeErr x) 0 l).2
def envChk (p : Plan) (x : Envelope) : Int × Int :=
  if ¬ (1 ≤ x.parts ∧ x.parts ≤ 20) then (0, 2) else if trimErr x.trim x.parts ≠ 0 then (0, trimErr x.trim x.parts) else if (x.rows.length : Int) ≠ p.ticks then (0, 10) else eachGo (fun _ l => erowErr p l) 0 x.rows
def bothErr (p : Plan) (x : Envelope) (r : Record) : Int := if planErr p ≠ 0 then planErr p else if (envChk p x).2 ≠ 0 then (envChk p x).2 else (recChk p r).2
theorem envHead {p : Plan} {x : Envelope} (h : 1 ≤ x.parts ∧ x.parts ≤ 20) : envChk p x = if firstE [trimErr x.trim x.parts, unlessE (decide ((x.rows.length : Int) = p.ticks)) 10] ≠ 0 then (0, firstE [trimErr x.trim x.parts, unlessE (decide ((x.rows.length : Int) = p.ticks)) 10]) else eachGo (fun _ l => erowErr p l) 0 x.rows := by
  rw [envChk, if_neg (by omega), firstE2, ite_unless]
  by_cases h1 : trimErr x.trim x.parts = 0
  · by_cases h2 : (x.rows.length : Int) = p.ticks
    · simp [h1, h2]
    · simp [h1, h2]
  · simp [h1]
theorem take_eq_step {α : Type} {a b : List α} {i : Nat} (h1 : i < a.length) (h2 : i < b.length) (ht : a.take i = b.take i) (he : a[i] = b[i]) : a.take (i + 1) = b.take (i + 1) := by
  rw [List.take_succ_eq_append_getElem h1, List.take_succ_eq_append_getElem h2, ht, he]
theorem take_eq_all {α : Type} {a b : List α} {i : Nat} (hl : a.length = b.length) (hi : i = a.length) (ht : a.take i = b.take i) : a = b := by
  subst hi
  rwa [List.take_length, hl, List.take_length] at ht
theorem range_ext {x y : Range} (h : [x.lo, x.hi] = [y.lo, y.hi]) : x = y := by
  cases x; cases y; simp at h; simp [h]
theorem dev_ext {x y : Deviation} (h : [x.tick, x.channel, x.by_] = [y.tick, y.channel, y.by_]) : x = y := by
  cases x; cases y; simp at h; simp [h]
def devs (l : List Deviation) : X := .sl (l.map Deviation.cs)
theorem mon_range {i : Nat} {x : Range} : Ct Tryz.prog 161 [.int .i64 i, .agg x.cs] (.int .i64 (rangeErr x)) := by
 refine Ct.intro (rs := [.tmp 4]) Tryz.func161 rfl Tryz.ntmps161 Tryz.results161 rfl rfl rfl fun w h => ?_
 refine OK.seq (OK.reg ?_)
 refine RK.c (S.box (k := 3) rfl .none rfl (.tmp rfl rfl) rfl) ?_
 refine RK.c (S.assign .none rfl (.cint rfl)) ?_
 refine RK.nil (Ab.D.code ?_)
 refine OK.seq ?_
 by_cases g8 : -1000000 ≤ x.lo ∧ x.lo ≤ 1000000
 ·
  refine OK.regionDraw follows (.c (S.bfield fi113_0 .none rfl (.tmp rfl rfl))
   (.c (S.bload1 ti3 .none rfl (.tmp rfl rfl) rfl rfl rfl rfl)
   (.c (S.call (mon_isValue) Tryz.call142 .none rfl (.cons (.tmp rfl rfl) .nil) rfl)
   (.c (S.move .none rfl (.tmp rfl rfl))
   (.c (S.bfield fi113_1 (.yes rfl rfl rfl (by first | rfl | exact decide_eq_true g8 | exact decide_eq_false g8 | (rw [decide_eq_true g8]; rfl) | (rw [decide_eq_false g8]; rfl) | simp [*])) rfl (.tmp rfl rfl))
   (.c (S.bload1 ti3 (.yes rfl rfl rfl (by first | rfl | exact decide_eq_true g8 | exact decide_eq_false g8 | (rw [decide_eq_true g8]; rfl) | (rw [decide_eq_false g8]; rfl) | simp [*])) rfl (.tmp rfl rfl) rfl rfl rfl rfl)
   (.c (S.call (mon_isValue) Tryz.call142 (.yes rfl rfl rfl (by first | rfl | exact decide_eq_true g8 | exact decide_eq_false g8 | (rw [decide_eq_true g8]; rfl) | (rw [decide_eq_false g8]; rfl) | simp [*])) rfl (.cons (.tmp rfl rfl) .nil) rfl)
   (.c (S.pickT .none rfl (.tmp rfl rfl) (.tmp rfl rfl) (by first | rfl | exact decide_eq_true g8 | exact decide_eq_false g8 | (rw [decide_eq_true g8]; rfl) | (rw [decide_eq_false g8]; rfl) | simp [*]))
   (.c (S.call (monitor_unless) Tryz.call84 .none rfl (.cons (.tmp rfl rfl) (.cons (.cint rfl) .nil)) rfl)
   (.c (S.bfield fi113_0 .none rfl (.tmp rfl rfl))
   (.c (S.bload1 ti3 .none rfl (.tmp rfl rfl) rfl rfl rfl rfl)
   (.c (S.bfield fi113_1 .none rfl (.tmp rfl rfl))
   (.c (S.bload1 ti3 .none rfl (.tmp rfl rfl) rfl rfl rfl rfl)
   (.c (S.leq .none rfl (.tmp rfl rfl) (.tmp rfl rfl))
   (.c (S.call (monitor_unless) Tryz.call84 .none rfl (.cons (.tmp rfl rfl) (.cons (.cint rfl) .nil)) rfl)
   (.c (S.mkSlice (k := 20) (rows := [[_], [_]]) ai209 .none rfl (.cons (.tmp rfl rfl) (.cons (.tmp rfl rfl) .nil)) rfl rfl rfl rfl rfl rfl rfl)
   (.c (S.callL (monitor_first (l := [_, _])) Tryz.call83 .none rfl (.cons (.tmp rfl rfl) .nil) (.cons (.p (.own rfl rfl) rfl) .nil) rfl)
   (.c (S.assign .none rfl (.tmp rfl rfl))
   .nil)))))))))))))))))) (by kernel_rfl) ?_
  refine Ab.D.code ?_
  refine OK.ret (Ret.r1 (.tmp rfl rfl (.c (.same rfl) rfl) rfl) ?_)
  refine ret_i ?_
  simp [firstE2, unlessE]
  unfold rangeErr
  repeat' split
  all_goals omega
 ·
  refine OK.regionDraw follows (.c (S.bfield fi113_0 .none rfl (.tmp rfl rfl))
   (.c (S.bload1 ti3 .none rfl (.tmp rfl rfl) rfl rfl rfl rfl)
   (.c (S.call (mon_isValue) Tryz.call142 .none rfl (.cons (.tmp rfl rfl) .nil) rfl)
   (.c (S.move .none rfl (.tmp rfl rfl))
   (.c (S.skip rfl rfl rfl (by first | rfl | exact decide_eq_true g8 | exact decide_eq_false g8 | (rw [decide_eq_true g8]; rfl) | (rw [decide_eq_false g8]; rfl) | simp [*]) rfl)
   (.c (S.skip rfl rfl rfl (by first | rfl | exact decide_eq_true g8 | exact decide_eq_false g8 | (rw [decide_eq_true g8]; rfl) | (rw [decide_eq_false g8]; rfl) | simp [*]) rfl)
   (.c (S.skip rfl rfl rfl (by first | rfl | exact decide_eq_true g8 | exact decide_eq_false g8 | (rw [decide_eq_true g8]; rfl) | (rw [decide_eq_false g8]; rfl) | simp [*]) rfl)
   (.c (S.pickF .none rfl (.tmp rfl rfl) .cbool (by first | rfl | exact decide_eq_true g8 | exact decide_eq_false g8 | (rw [decide_eq_true g8]; rfl) | (rw [decide_eq_false g8]; rfl) | simp [*]))
   (.c (S.call (monitor_unless) Tryz.call84 .none rfl (.cons (.tmp rfl rfl) (.cons (.cint rfl) .nil)) rfl)
   (.c (S.bfield fi113_0 .none rfl (.tmp rfl rfl))
   (.c (S.bload1 ti3 .none rfl (.tmp rfl rfl) rfl rfl rfl rfl)
   (.c (S.bfield fi113_1 .none rfl (.tmp rfl rfl))
   (.c (S.bload1 ti3 .none rfl (.tmp rfl rfl) rfl rfl rfl rfl)
   (.c (S.leq .none rfl (.tmp rfl rfl) (.tmp rfl rfl))
   (.c (S.call (monitor_unless) Tryz.call84 .none rfl (.cons (.tmp rfl rfl) (.cons (.cint rfl) .nil)) rfl)
   (.c (S.mkSlice (k := 20) (rows := [[_], [_]]) ai209 .none rfl (.cons (.tmp rfl rfl) (.cons (.tmp rfl rfl) .nil)) rfl rfl rfl rfl rfl rfl rfl)
   (.c (S.callL (monitor_first (l := [_, _])) Tryz.call83 .none rfl (.cons (.tmp rfl rfl) .nil) (.cons (.p (.own rfl rfl) rfl) .nil) rfl)
   (.c (S.assign .none rfl (.tmp rfl rfl))
   .nil)))))))))))))))))) (by kernel_rfl) ?_
  refine Ab.D.code ?_
  refine OK.ret (Ret.r1 (.tmp rfl rfl (.c (.same rfl) rfl) rfl) ?_)
  refine ret_i ?_
  simp [firstE2, unlessE]
  unfold rangeErr
  repeat' split
  all_goals omega
theorem mon_erow {p : Plan} {i : Nat} {l : List Range} : Ct Tryz.prog 159 [.int .i64 i, .sl (l.map Range.cs), .eptr p.cs] (.int .i64 (erowErr p l)) := by
 refine Ct.intro (rs := [.tmp 5]) Tryz.func159 rfl Tryz.ntmps159 Tryz.results159 rfl rfl rfl fun w h => ?_
 refine OK.seq (OK.reg ?_)
 refine RK.c (S.assign .none rfl (.cint rfl)) ?_
 refine RK.nil (Ab.D.code (OK.seq (OK.seq (OK.reg ?_))))
 refine RK.c (S.move .none rfl (.tmp rfl rfl)) ?_
 refine RK.c (S.lenM si114 .none rfl (.tmp rfl rfl)) ?_
 refine RK.c (S.field fi150_0 .none rfl (.tmp rfl rfl) rfl) ?_
 refine RK.c (S.field fi24_0 .none rfl (.tmp rfl rfl) rfl) ?_
 refine RK.c (S.load1 ti22 .none rfl (.tmp rfl rfl) rfl) ?_
 refine RK.c (S.lenM si22 .none rfl (.tmp rfl rfl)) ?_
 refine RK.c (S.neq .none rfl (.tmp rfl rfl) (.tmp rfl rfl)) ?_
 refine RK.nil (Ab.D.code ?_)
 refine OK.condD rfl rfl (fun c14 => ?_) (fun c14 => ?_)
 ·
  refine OK.seq (OK.reg ?_)
  refine RK.c (S.assign .none rfl (.cint rfl)) ?_
  refine RK.nil (Ab.D.code ?_)
  refine OK.ret (Ret.r1 (.tmp rfl rfl (.c (.same rfl) rfl) rfl) ?_)
  refine ret_i ?_
  rw [erowErr, if_pos (by omega)]
 ·
  refine OK.skip ?_
  refine Ab.D.code (OK.seq (OK.reg ?_))
  refine RK.c (S.move .none rfl (.tmp rfl rfl)) ?_
  refine RK.c (S.call (each_Range (l := l) (g := fun _ x => rangeErr x) (caps := []) (fun i x _ => mon_range) Tryz.call161 ⟨rfl, rfl⟩) Tryz.call160 .none rfl (.cons (.tmp rfl rfl) (.cons .cfn .nil)) rfl) ?_
  refine RK.c (S.move .none rfl (.tmp rfl rfl)) ?_
  refine RK.c (S.extract .none rfl (.tmp rfl rfl) rfl rfl) ?_
  refine RK.c (S.extract .none rfl (.tmp rfl rfl) rfl rfl) ?_
  refine RK.c (S.assign .none rfl (.tmp rfl rfl)) ?_
  refine RK.c (S.assign .none rfl (.tmp rfl rfl)) ?_
  refine RK.nil (Ab.D.code (OK.seq (OK.reg ?_)))
  refine RK.c (S.move .none rfl (.tmp rfl rfl)) ?_
  refine RK.c (S.assign .none rfl (.tmp rfl rfl)) ?_
  refine RK.nil (Ab.D.code ?_)
  refine OK.ret (Ret.r1 (.tmp rfl rfl (.c (.same rfl) rfl) rfl) ?_)
  refine ret_i ?_
  rw [erowErr, if_neg (by omega)]
theorem mon_envelopeErr {p : Plan} {x : Envelope} : Ct Tryz.prog 132 [.agg p.cs, .agg x.cs] (pair (envChk p x)) := by
 refine Ct.intro (rs := [.tmp 4, .tmp 5]) Tryz.func132 rfl Tryz.ntmps132 Tryz.results132 rfl rfl rfl fun w h => ?_
 refine OK.seq (OK.reg ?_)
 refine RK.c (S.box (k := 2) rfl .none rfl (.tmp rfl rfl) rfl) ?_
 refine RK.c (S.box (k := 3) rfl .none rfl (.tmp rfl rfl) rfl) ?_
 refine RK.c (S.assign .none rfl (.cint rfl)) ?_
 refine RK.c (S.assign .none rfl (.cint rfl)) ?_
 refine RK.nil (Ab.D.code (OK.seq (OK.seq (OK.reg ?_))))
 refine RK.c (S.bfield fi30_0 .none rfl (.tmp rfl rfl)) ?_
 refine RK.c (S.bload1 ti3 .none rfl (.tmp rfl rfl) rfl rfl rfl rfl) ?_
 refine RK.c (S.call (mon_within) Tryz.call99 .none rfl (.cons (.tmp rfl rfl) (.cons (.cint rfl) (.cons (.cint rfl) .nil))) rfl) ?_
 refine RK.c (S.notD .none rfl (.tmp rfl rfl)) ?_
 refine RK.nil (Ab.D.code ?_)
 refine OK.condD rfl rfl (fun c10 => ?_) (fun c10 => ?_)
 ·
  have hx : ¬ (1 ≤ x.parts ∧ x.parts ≤ 20) := by simpa using c10
  refine OK.seq (OK.reg ?_)
  refine RK.c (S.assign .none rfl (.cint rfl)) ?_
  refine RK.c (S.assign .none rfl (.cint rfl)) ?_
  refine RK.nil (Ab.D.code ?_)
  refine OK.ret (Ret.r2 (.tmp rfl rfl (.c (.same rfl) rfl) rfl) (.tmp rfl rfl (.c (.same rfl) rfl) rfl) ?_)
  refine ret_p ?_
  rw [envChk, if_pos hx]
 ·
  have hx : 1 ≤ x.parts ∧ x.parts ≤ 20 := by simpa using c10
  refine OK.skip ?_
  refine Ab.D.code ?_
  refine OK.seq ?_
  refine OK.seq ?_
  refine OK.regionDraw follows (.c (S.bfield fi30_1 .none rfl (.tmp rfl rfl))
   (.c (S.bload1 ti3 .none rfl (.tmp rfl rfl) rfl rfl rfl rfl)
   (.c (S.bfield fi30_0 .none rfl (.tmp rfl rfl))
   (.c (S.bload1 ti3 .none rfl (.tmp rfl rfl) rfl rfl rfl rfl)
   (.c (S.call (mon_trimErr (by omega)) Tryz.call80 .none rfl (.cons (.tmp rfl rfl) (.cons (.tmp rfl rfl) .nil)) rfl)
   (.c (S.bfield fi30_2 .none rfl (.tmp rfl rfl))
   (.c (S.bload1 ti28 .none rfl (.tmp rfl rfl) rfl rfl rfl rfl)
   (.c (S.lenM si28 .none rfl (.tmp rfl rfl))
   (.c (S.bfield fi150_0 .none rfl (.tmp rfl rfl))
   (.c (S.bfield fi24_1 .none rfl (.tmp rfl rfl))
   (.c (S.bload1 ti3 .none rfl (.tmp rfl rfl) rfl rfl rfl rfl)
   (.c (S.eql .none rfl (.tmp rfl rfl) (.tmp rfl rfl))
   (.c (S.call (monitor_unless) Tryz.call84 .none rfl (.cons (.tmp rfl rfl) (.cons (.cint rfl) .nil)) rfl)
   (.c (S.mkSlice (k := 24) (rows := [[_], [_]]) ai209 .none rfl (.cons (.tmp rfl rfl) (.cons (.tmp rfl rfl) .nil)) rfl rfl rfl rfl rfl rfl rfl)
   (.c (S.callL (monitor_first (l := [_, _])) Tryz.call83 .none rfl (.cons (.tmp rfl rfl) .nil) (.cons (.p (.own rfl rfl) rfl) .nil) rfl)
   (.c (S.assign .none rfl (.tmp rfl rfl))
   .nil)))))))))))))))) (by kernel_rfl) ?_
  refine Ab.D.code (OK.seq (OK.reg ?_))
  refine RK.c (S.move .none rfl (.tmp rfl rfl)) ?_
  refine RK.c (S.neq .none rfl (.tmp rfl rfl) (.cint rfl)) ?_
  refine RK.nil (Ab.D.code ?_)
  refine OK.condD rfl rfl (fun c27 => ?_) (fun c27 => ?_)
  ·
   refine OK.seq (OK.reg ?_)
   refine RK.c (S.move .none rfl (.tmp rfl rfl)) ?_
   refine RK.c (S.assign .none rfl (.cint rfl)) ?_
   refine RK.c (S.assign .none rfl (.tmp rfl rfl)) ?_
   refine RK.nil (Ab.D.code ?_)
   refine OK.ret (Ret.r2 (.tmp rfl rfl (.c (.same rfl) rfl) rfl) (.tmp rfl rfl (.c (.same rfl) rfl) rfl) ?_)
   refine ret_p ?_
   rw [envHead hx, if_pos c27]
  ·
   refine OK.skip ?_
   refine Ab.D.code (OK.seq (OK.reg ?_))
   refine RK.c (S.bfield fi30_2 .none rfl (.tmp rfl rfl)) ?_
   refine RK.c (S.bload1 ti28 .none rfl (.tmp rfl rfl) rfl rfl rfl rfl) ?_
   refine RK.c (S.makeFunc1 .none rfl (.tmp rfl rfl) rfl) ?_
   refine RK.c (S.callL (each_List_Range (l := x.rows) (g := fun _ l => erowErr p l) (caps := [.eptr p.cs]) (fun i x _ => mon_erow) Tryz.call159 ⟨rfl, rfl⟩) Tryz.call158 .none rfl (.cons (.tmp rfl rfl) (.cons (.tmp rfl rfl) .nil)) (.cons (.same rfl) (.cons (.fn (.cons (.ptr rfl rfl rfl rfl) .nil)) .nil)) rfl) ?_
   refine RK.c (S.extract .none rfl (.tmp rfl rfl) rfl rfl) ?_
   refine RK.c (S.extract .none rfl (.tmp rfl rfl) rfl rfl) ?_
   refine RK.c (S.assign .none rfl (.tmp rfl rfl)) ?_
   refine RK.c (S.assign .none rfl (.tmp rfl rfl)) ?_
   refine RK.nil (Ab.D.code ?_)
   refine OK.ret (Ret.r2 (.tmp rfl rfl (.c (.same rfl) rfl) rfl) (.tmp rfl rfl (.c (.same rfl) rfl) rfl) ?_)
   refine ret_p ?_
   rw [envHead hx, if_neg c27]
theorem mon_openBoth {p : Plan} {x : Envelope} {r : Record} : Ct Tryz.prog 90 [.agg p.cs, .agg x.cs, .agg r.cs] (.int .i64 (bothErr p x r)) := by
 refine Ct.intro (rs := [.tmp 6]) Tryz.func90 rfl Tryz.ntmps90 Tryz.results90 rfl rfl rfl fun w h => ?_
 refine OK.seq (OK.reg ?_)
 refine RK.c (S.box (k := 3) rfl .none rfl (.tmp rfl rfl) rfl) ?_
 refine RK.c (S.box (k := 4) rfl .none rfl (.tmp rfl rfl) rfl) ?_
 refine RK.c (S.box (k := 5) rfl .none rfl (.tmp rfl rfl) rfl) ?_
 refine RK.c (S.assign .none rfl (.cint rfl)) ?_
 refine RK.nil (Ab.D.code (OK.seq (OK.reg ?_)))
 refine RK.c (S.bloadN ti24 .none rfl (.tmp rfl rfl) rfl rfl rfl rfl) ?_
 refine RK.c (S.call (mon_open) Tryz.call82 .none rfl (.cons (.tmp rfl rfl) .nil) rfl) ?_
 refine RK.c (S.move .none rfl (.tmp rfl rfl)) ?_
 refine RK.c (S.extract .none rfl (.tmp rfl rfl) rfl rfl) ?_
 refine RK.c (S.extract .none rfl (.tmp rfl rfl) rfl rfl) ?_
 refine RK.c (S.alloc (k := 7) ze150 rfl .none rfl) ?_
 refine RK.c (S.store ti150 .none (.tmp rfl rfl) (.tmp rfl rfl) rfl rfl rfl rfl rfl rfl) ?_
 refine RK.c (S.assign .none rfl (.tmp rfl rfl)) ?_
 refine RK.nil (Ab.D.code (OK.seq (OK.seq (OK.reg ?_))))
 refine RK.c (S.move .none rfl (.tmp rfl rfl)) ?_
 refine RK.c (S.neq .none rfl (.tmp rfl rfl) (.cint rfl)) ?_
 refine RK.nil (Ab.D.code ?_)
 refine OK.condD rfl rfl (fun c17 => ?_) (fun c17 => ?_)
 ·
  refine OK.seq (OK.reg ?_)
  refine RK.c (S.move .none rfl (.tmp rfl rfl)) ?_
  refine RK.c (S.assign .none rfl (.tmp rfl rfl)) ?_
  refine RK.nil (Ab.D.code ?_)
  refine OK.ret (Ret.r1 (.tmp rfl rfl (.c (.same rfl) rfl) rfl) ?_)
  refine ret_i ?_
  rw [bothErr, if_pos c17]
 ·
  refine OK.skip ?_
  refine Ab.D.code (OK.seq (OK.seq (OK.reg ?_)))
  refine RK.c (S.bloadN ti150 .none rfl (.tmp rfl rfl) rfl rfl rfl rfl) ?_
  refine RK.c (S.bloadN ti30 .none rfl (.tmp rfl rfl) rfl rfl rfl rfl) ?_
  refine RK.c (S.call (mon_envelopeErr) Tryz.call132 .none rfl (.cons (.tmp rfl rfl) (.cons (.tmp rfl rfl) .nil)) rfl) ?_
  refine RK.c (S.move .none rfl (.tmp rfl rfl)) ?_
  refine RK.c (S.extract .none rfl (.tmp rfl rfl) rfl rfl) ?_
  refine RK.c (S.extract .none rfl (.tmp rfl rfl) rfl rfl) ?_
  refine RK.c (S.assign .none rfl (.tmp rfl rfl)) ?_
  refine RK.c (S.assign .none rfl (.tmp rfl rfl)) ?_
  refine RK.nil (Ab.D.code (OK.seq (OK.reg ?_)))
  refine RK.c (S.move .none rfl (.tmp rfl rfl)) ?_
  refine RK.c (S.neq .none rfl (.tmp rfl rfl) (.cint rfl)) ?_
  refine RK.nil (Ab.D.code ?_)
  refine OK.condD rfl rfl (fun c26 => ?_) (fun c26 => ?_)
  ·
   refine OK.seq (OK.reg ?_)
   refine RK.c (S.move .none rfl (.tmp rfl rfl)) ?_
   refine RK.c (S.assign .none rfl (.tmp rfl rfl)) ?_
   refine RK.nil (Ab.D.code ?_)
   refine OK.ret (Ret.r1 (.tmp rfl rfl (.c (.same rfl) rfl) rfl) ?_)
   refine ret_i ?_
   rw [bothErr, if_neg c17, if_pos c26]
  ·
   refine OK.skip ?_
   refine Ab.D.code (OK.seq (OK.reg ?_))
   refine RK.c (S.bloadN ti150 .none rfl (.tmp rfl rfl) rfl rfl rfl rfl) ?_
   refine RK.c (S.bloadN ti75 .none rfl (.tmp rfl rfl) rfl rfl rfl rfl) ?_
   refine RK.c (S.call (mon_recordErr) Tryz.call130 .none rfl (.cons (.tmp rfl rfl) (.cons (.tmp rfl rfl) .nil)) rfl) ?_
   refine RK.c (S.move .none rfl (.tmp rfl rfl)) ?_
   refine RK.c (S.extract .none rfl (.tmp rfl rfl) rfl rfl) ?_
   refine RK.c (S.extract .none rfl (.tmp rfl rfl) rfl rfl) ?_
   refine RK.c (S.assign .none rfl (.tmp rfl rfl)) ?_
   refine RK.nil (Ab.D.code (OK.seq (OK.reg ?_)))
   refine RK.c (S.move .none rfl (.tmp rfl rfl)) ?_
   refine RK.c (S.assign .none rfl (.tmp rfl rfl)) ?_
   refine RK.nil (Ab.D.code ?_)
   refine OK.ret (Ret.r1 (.tmp rfl rfl (.c (.same rfl) rfl) rfl) ?_)
   refine ret_i ?_
   rw [bothErr, if_neg c17, if_neg c26]
theorem base_Ranges {a b : List Range} : Ct Tryz.prog 72 [.sl (a.map Range.cs), .sl (b.map Range.cs)] (.bool (decide (a = b))) := by
 refine Ct.intro (rs := [.tmp 4]) Tryz.func72 rfl Tryz.ntmps72 Tryz.results72 rfl rfl rfl fun w h => ?_
 refine OK.slLen (rows := a.map Range.cs) (t := 0) rfl rfl fun hlen => ?_
 rw [List.length_map] at hlen
 unfold maxLen at hlen
 refine OK.seq (OK.reg ?_)
 refine RK.c (S.assign .none rfl .cbool) ?_
 refine RK.nil (Ab.D.code (OK.seq (OK.seq (OK.reg ?_))))
 refine RK.c (S.move .none rfl (.tmp rfl rfl)) ?_
 refine RK.c (S.lenM si114 .none rfl (.tmp rfl rfl)) ?_
 refine RK.c (S.move .none rfl (.tmp rfl rfl)) ?_
 refine RK.c (S.lenM si114 .none rfl (.tmp rfl rfl)) ?_
 refine RK.c (S.neq .none rfl (.tmp rfl rfl) (.tmp rfl rfl)) ?_
 refine RK.nil (Ab.D.code ?_)
 refine OK.condD rfl rfl (fun c10 => ?_) (fun c10 => ?_)
 ·
  refine OK.seq (OK.reg ?_)
  refine RK.c (S.assign .none rfl .cbool) ?_
  refine RK.nil (Ab.D.code ?_)
  refine OK.ret (Ret.r1 (.tmp rfl rfl (.c (.same rfl) rfl) rfl) ?_)
  exact ret_F (fun e => c10 (by rw [e]))
 ·
  have hl : a.length = b.length := by omega
  refine OK.skip ?_
  refine Ab.D.code (OK.seq (OK.seq (OK.reg ?_)))
  refine RK.c (S.assign .none rfl (.cint rfl)) ?_
  refine RK.nil (Ab.D.code ?_)
  refine OK.block ?_
  refine OK.loop (G := Nat) [] (fun i => [(0, .sl (a.map Range.cs)), (1, .sl (b.map Range.cs)), (5, .int .i64 i)]) (fun i => i ≤ a.length ∧ a.take i = b.take i) (fun i => a.length - i) 0 ⟨Nat.zero_le _, rfl⟩ ⟨rfl, rfl, rfl, trivial⟩ (fun _ => rfl) ?_
  rintro i ⟨hi, ht⟩
  refine OK.seq (OK.seq (OK.reg ?_))
  refine RK.c (S.move .none rfl (.tmp rfl rfl)) ?_
  refine RK.c (S.move .none rfl (.tmp rfl rfl)) ?_
  refine RK.c (S.lenM si114 .none rfl (.tmp rfl rfl)) ?_
  refine RK.c (S.lss .none rfl (.tmp rfl rfl) (.tmp rfl rfl)) ?_
  refine RK.nil (Ab.D.code ?_)
  refine OK.condD rfl rfl (fun c14 => ?_) (fun c14 => ?_)
  ·
   refine OK.skip ?_
   refine Ab.D.code ?_
   refine OK.seq ?_
   refine OK.block ?_
   refine OK.seq ?_
   refine OK.regionDraw follows (.c (S.move .none rfl (.tmp rfl rfl))
    (.c (S.move .none rfl (.tmp rfl rfl))
    (.c (S.indexM si114 .none rfl (.tmp rfl rfl) (.tmp rfl rfl) rfl (by omega) rfl)
    (.c (S.loadN ti113 .none rfl (.tmp rfl rfl) rfl rfl)
    (.c (S.move .none rfl (.tmp rfl rfl))
    (.c (S.move .none rfl (.tmp rfl rfl))
    (.c (S.indexM si114 .none rfl (.tmp rfl rfl) (.tmp rfl rfl) rfl (by omega) rfl)
    (.c (S.loadN ti113 .none rfl (.tmp rfl rfl) rfl rfl)
    (.c (S.aneq [a[i].lo, a[i].hi] [b[i].lo, b[i].hi] eq113 .none rfl (.tmp rfl rfl) (.tmp rfl rfl) rfl rfl rfl rfl)
    .nil))))))))) (by kernel_rfl) ?_
   refine Ab.D.code ?_
   refine OK.condD rfl rfl (fun c25 => ?_) (fun c25 => ?_)
   ·
    refine OK.seq (OK.reg ?_)
    refine RK.c (S.assign .none rfl .cbool) ?_
    refine RK.nil (Ab.D.code ?_)
    refine OK.ret (Ret.r1 (.tmp rfl rfl (.c (.same rfl) rfl) rfl) ?_)
    exact ret_F (fun e => by subst e; exact c25 rfl)
   ·
    refine OK.skip ?_
    refine Ab.D.blk ?_
    refine Ab.D.code (OK.reg ?_)
    refine RK.c (S.move .none rfl (.tmp rfl rfl)) ?_
    refine RK.c (S.add .none rfl (.tmp rfl rfl) (.cint rfl) (IntWalk.i64_in _ (by omega)) (IntWalk.i64_in _ (by omega))) ?_
    refine RK.c (S.assign .none rfl (.tmp rfl rfl)) ?_
    refine RK.nil ?_
    refine Ab.D.lp ⟨i + 1, ⟨by omega, ?_⟩, (by omega), rfl, rfl, rfl, trivial⟩
    simp only [ne_eq, Decidable.not_not] at c25
    exact take_eq_step (by omega) (by omega) ht (range_ext c25)
  ·
   refine OK.exit rfl ?_
   refine Ab.D.code (OK.seq (OK.reg ?_))
   refine RK.c (S.assign .none rfl .cbool) ?_
   refine RK.nil (Ab.D.code ?_)
   refine OK.ret (Ret.r1 (.tmp rfl rfl (.c (.same rfl) rfl) rfl) ?_)
   exact ret_T (take_eq_all hl (by omega) ht)
theorem ref_SameDeviations {a b : List Deviation} : Ct Tryz.prog 51 [.sl (a.map Deviation.cs), .sl (b.map Deviation.cs)] (.bool (decide (a = b))) := by
 refine Ct.intro (rs := [.tmp 4]) Tryz.func51 rfl Tryz.ntmps51 Tryz.results51 rfl rfl rfl fun w h => ?_
 refine OK.slLen (rows := a.map Deviation.cs) (t := 0) rfl rfl fun hlen => ?_
 rw [List.length_map] at hlen
 unfold maxLen at hlen
 refine OK.seq (OK.reg ?_)
 refine RK.c (S.assign .none rfl .cbool) ?_
 refine RK.nil (Ab.D.code (OK.seq (OK.seq (OK.reg ?_))))
 refine RK.c (S.move .none rfl (.tmp rfl rfl)) ?_
 refine RK.c (S.lenM si85 .none rfl (.tmp rfl rfl)) ?_
 refine RK.c (S.move .none rfl (.tmp rfl rfl)) ?_
 refine RK.c (S.lenM si85 .none rfl (.tmp rfl rfl)) ?_
 refine RK.c (S.neq .none rfl (.tmp rfl rfl) (.tmp rfl rfl)) ?_
 refine RK.nil (Ab.D.code ?_)
 refine OK.condD rfl rfl (fun c10 => ?_) (fun c10 => ?_)
 ·
  refine OK.seq (OK.reg ?_)
  refine RK.c (S.assign .none rfl .cbool) ?_
  refine RK.nil (Ab.D.code ?_)
  refine OK.ret (Ret.r1 (.tmp rfl rfl (.c (.same rfl) rfl) rfl) ?_)
  exact ret_F (fun e => c10 (by rw [e]))
 ·
  have hl : a.length = b.length := by omega
  refine OK.skip ?_
  refine Ab.D.code (OK.seq (OK.seq (OK.reg ?_)))
  refine RK.c (S.assign .none rfl (.cint rfl)) ?_
  refine RK.nil (Ab.D.code ?_)
  refine OK.block ?_
  refine OK.loop (G := Nat) [] (fun i => [(0, .sl (a.map Deviation.cs)), (1, .sl (b.map Deviation.cs)), (5, .int .i64 i)]) (fun i => i ≤ a.length ∧ a.take i = b.take i) (fun i => a.length - i) 0 ⟨Nat.zero_le _, rfl⟩ ⟨rfl, rfl, rfl, trivial⟩ (fun _ => rfl) ?_
  rintro i ⟨hi, ht⟩
  refine OK.seq (OK.seq (OK.reg ?_))
  refine RK.c (S.move .none rfl (.tmp rfl rfl)) ?_
  refine RK.c (S.move .none rfl (.tmp rfl rfl)) ?_
  refine RK.c (S.lenM si85 .none rfl (.tmp rfl rfl)) ?_
  refine RK.c (S.lss .none rfl (.tmp rfl rfl) (.tmp rfl rfl)) ?_
  refine RK.nil (Ab.D.code ?_)
  refine OK.condD rfl rfl (fun c14 => ?_) (fun c14 => ?_)
  ·
   refine OK.skip ?_
   refine Ab.D.code ?_
   refine OK.seq ?_
   refine OK.block ?_
   refine OK.seq ?_
   refine OK.regionDraw follows (.c (S.move .none rfl (.tmp rfl rfl))
    (.c (S.move .none rfl (.tmp rfl rfl))
    (.c (S.indexM si85 .none rfl (.tmp rfl rfl) (.tmp rfl rfl) rfl (by omega) rfl)
    (.c (S.loadN ti117 .none rfl (.tmp rfl rfl) rfl rfl)
    (.c (S.move .none rfl (.tmp rfl rfl))
    (.c (S.move .none rfl (.tmp rfl rfl))
    (.c (S.indexM si85 .none rfl (.tmp rfl rfl) (.tmp rfl rfl) rfl (by omega) rfl)
    (.c (S.loadN ti117 .none rfl (.tmp rfl rfl) rfl rfl)
    (.c (S.aneq [a[i].tick, a[i].channel, a[i].by_] [b[i].tick, b[i].channel, b[i].by_] eq117 .none rfl (.tmp rfl rfl) (.tmp rfl rfl) rfl rfl rfl rfl)
    .nil))))))))) (by kernel_rfl) ?_
   refine Ab.D.code ?_
   refine OK.condD rfl rfl (fun c25 => ?_) (fun c25 => ?_)
   ·
    refine OK.seq (OK.reg ?_)
    refine RK.c (S.assign .none rfl .cbool) ?_
    refine RK.nil (Ab.D.code ?_)
    refine OK.ret (Ret.r1 (.tmp rfl rfl (.c (.same rfl) rfl) rfl) ?_)
    exact ret_F (fun e => by subst e; exact c25 rfl)
   ·
    refine OK.skip ?_
    refine Ab.D.blk ?_
    refine Ab.D.code (OK.reg ?_)
    refine RK.c (S.move .none rfl (.tmp rfl rfl)) ?_
    refine RK.c (S.add .none rfl (.tmp rfl rfl) (.cint rfl) (IntWalk.i64_in _ (by omega)) (IntWalk.i64_in _ (by omega))) ?_
    refine RK.c (S.assign .none rfl (.tmp rfl rfl)) ?_
    refine RK.nil ?_
    refine Ab.D.lp ⟨i + 1, ⟨by omega, ?_⟩, (by omega), rfl, rfl, rfl, trivial⟩
    simp only [ne_eq, Decidable.not_not] at c25
    exact take_eq_step (by omega) (by omega) ht (dev_ext c25)
  ·
   refine OK.exit rfl ?_
   refine Ab.D.code (OK.seq (OK.reg ?_))
   refine RK.c (S.assign .none rfl .cbool) ?_
   refine RK.nil (Ab.D.code ?_)
   refine OK.ret (Ret.r1 (.tmp rfl rfl (.c (.same rfl) rfl) rfl) ?_)
   exact ret_T (take_eq_all hl (by omega) ht)
end Go.Proofs.YtpmglnphhhlbdaaGreatDoor
namespace Go.Proofs.YtpmglnphhhlbdaaGreatDoor
open Go.Ab
def devBy (n : Int) (o : Range) : Int := (if 0 < n - o.hi then n - o.hi else 0) + (if n - o.lo < 0 then n - o.lo else 0)
def devOne (t : Nat) (rs : List Range) (c : Nat) (n : Int) : List Deviation := if devBy n (rs.getD c ⟨0, 0⟩) ≠ 0 then [⟨t, c, devBy n (rs.getD c ⟨0, 0⟩)⟩] else []
def devRow (t : Nat) (rs : List Range) : Nat → List Int → List Deviation
  | _, [] => []
  | c, n :: l => devOne t rs c n ++ devRow t rs (c + 1) l
def devGo (x : Envelope) : Nat → List Row → List Deviation
  | _, [] => []
  | t, r :: l => devRow t (x.rows.getD t []) 0 r.values ++ devGo x (t + 1) l
def devT (x : Envelope) (r : Record) : List Deviation := devGo x 0 r.rows
theorem devRow_drop {t : Nat} {rs : List Range} {l : List Int} {j : Nat} (h : j < l.length) : devRow t rs j (l.drop j) = devOne t rs j l[j] ++ devRow t rs (j + 1) (l.drop (j + 1)) := by
  rw [List.drop_eq_getElem_cons h, devRow]
theorem devGo_drop {x : Envelope} {l : List Row} {i : Nat} (h : i < l.length) : devGo x i (l.drop i) = devRow i (x.rows.getD i []) 0 l[i].values ++ devGo x (i + 1) (l.drop (i + 1)) := by
  rw [List.drop_eq_getElem_cons h, devGo]
theorem getD_at {α : Type} {l : List α} {i : Nat} {d : α} (h : i < l.length) : l.getD i d = l[i] := by simp [List.getD, h]
structure FitT (x : Envelope) (r : Record) : Prop where
  rows : ∀ (i : Nat), i < r.rows.length → i < x.rows.length
  cols : ∀ (i : Nat) (h : i < r.rows.length) (h2 : i < x.rows.length) (j : Nat), j < r.rows[i].values.length → j < x.rows[i].length
  val : ∀ (i : Nat) (h : i < r.rows.length) (j : Nat) (h3 : j < r.rows[i].values.length), -1000000 ≤ r.rows[i].values[j] ∧ r.rows[i].values[j] ≤ 1000000
  rng : ∀ (i : Nat) (h2 : i < x.rows.length) (j : Nat) (h3 : j < x.rows[i].length), (-1000000 ≤ x.rows[i][j].lo ∧ x.rows[i][j].lo ≤ 1000000) ∧ (-1000000 ≤ x.rows[i][j].hi ∧ x.rows[i][j].hi ≤ 1000000)
theorem cb_at {P : Program} {σ α : Type} {encs : α → List X} {D pre rest : List α} {d : α} {J : σ → Mem → (Nat → Prop) → World → Prop} {g : σ → α → σ × Bool} {s0 : σ} {Φ : Value → Prop}
    (hcb : ∀ v, Φ v → ∀ (i : Nat) (x : α), D[i]? = some x → (iterG g s0 (D.take i)).2 = true → CbOk P v (encs x) (.bool (g (iterG g s0 (D.take i)).1 x).2) (J (iterG g s0 (D.take i)).1) (J (g (iterG g s0 (D.take i)).1 x).1))
    (hD : D = pre ++ d :: rest) (hrun : (iterG g s0 pre).2 = true) : ∀ v, Φ v → CbOk P v (encs d) (.bool (g (iterG g s0 pre).1 d).2) (J (iterG g s0 pre).1) (J (g (iterG g s0 pre).1 d).1) := by
  intro v hv
  have ht : D.take pre.length = pre := by rw [hD]; simp
  have := hcb v hv pre.length d (by rw [hD]; simp) (by rw [ht]; exact hrun)
  rw [ht] at this
  exact this
theorem iter_stop {σ α : Type} {g : σ → α → σ × Bool} {s0 : σ} {d : α} {rest : List α} : ∀ {pre : List α}, (iterG g s0 pre).2 = true → (g (iterG g s0 pre).1 d).2 = false → iterG g s0 (pre ++ d :: rest) = ((g (iterG g s0 pre).1 d).1, false) := by
  intro pre
  induction pre generalizing s0 with
  | nil =>
    intro _ h2
    simp only [iterG] at h2
    simp only [List.nil_append, iterG, h2]
    simp
  | cons x pre ih =>
    intro h1 h2
    simp only [iterG] at h1 h2
    simp only [List.cons_append, iterG]
    split at h1
    · rename_i hx; simp only [hx, if_true] at h2 ⊢; exact ih h1 h2
    · cases h1
theorem iter_go {σ α : Type} {g : σ → α → σ × Bool} {s0 : σ} {d : α} {pre : List α} (h1 : (iterG g s0 pre).2 = true) (h2 : (g (iterG g s0 pre).1 d).2 = true) : iterG g s0 (pre ++ [d]) = ((g (iterG g s0 pre).1 d).1, true) := by
  rw [iterG_snoc, if_pos h1]
  exact Prod.ext rfl h2
theorem lk_res {J J' : Mem → (Nat → Prop) → World → Prop} (h : J = J') : some (X.res J) = some (X.res J') := by rw [h]
abbrev DevCb (σ : Type) (J : σ → Mem → (Nat → Prop) → World → Prop) (g : σ → Deviation → σ × Bool) (s0 : σ) (Φ : Value → Prop) (D : List Deviation) : Prop :=
  ∀ v, Φ v → ∀ (i : Nat) (x : Deviation), D[i]? = some x → (iterG g s0 (D.take i)).2 = true → CbOk Tryz.prog v [.agg x.cs] (.bool (g (iterG g s0 (D.take i)).1 x).2) (J (iterG g s0 (D.take i)).1) (J (g (iterG g s0 (D.take i)).1 x).1)
theorem devBy_bd {n : Int} {o : Range} (h1 : -1000000 ≤ n ∧ n ≤ 1000000) (h2 : (-1000000 ≤ o.lo ∧ o.lo ≤ 1000000) ∧ (-1000000 ≤ o.hi ∧ o.hi ≤ 1000000)) : -4000000 ≤ devBy n o ∧ devBy n o ≤ 4000000 := by
  unfold devBy
  split <;> split <;> omega
theorem mon_devs1 {x : Envelope} {r : Record} (hf : FitT x r) (hrl : r.rows.length ≤ 100000) (hvl : ∀ (i : Nat) (h : i < r.rows.length), r.rows[i].values.length ≤ 100000) {σ : Type} (J : σ → Mem → (Nat → Prop) → World → Prop) (g : σ → Deviation → σ × Bool) (s0 : σ) (Φ : Value → Prop) (hst : ∀ s, Stable (J s)) (hcb : DevCb σ J g s0 Φ (devT x r)) : CtG Tryz.prog 134 [] [.cb Φ, .eptr r.cs, .eptr x.cs] [(3000, .res (J s0))] [(3000, .res (J (iterG g s0 (devT x r)).1))] (.tup []) := by
 refine CtG.intro (rs := []) Tryz.func134 rfl Tryz.ntmps134 Tryz.results134 rfl rfl rfl rfl fun w h => ?_
 refine OK.seq (OK.reg ?_)
 refine RK.c (S.field fi75_0 .none rfl (.tmp rfl rfl) rfl) ?_
 refine RK.c (S.load1 ti73 .none rfl (.tmp rfl rfl) rfl) ?_
 refine RK.c (S.lenM si73 .none rfl (.tmp rfl rfl)) ?_
 refine RK.c (S.move .none rfl (.cint rfl)) ?_
 refine RK.nil (Ab.D.code ?_)
 refine OK.block ?_
 refine OK.loop2 [] (fun (i : Nat) (pre : List Deviation) => [(0, .cb Φ), (1, .eptr r.cs), (2, .eptr x.cs), (11, .sl (r.rows.map Row.cs)), (12, .int .i64 r.rows.length), (13, .int .i64 i), (3000, .res (J (iterG g s0 pre).1))]) (fun i pre => i ≤ r.rows.length ∧ (iterG g s0 pre).2 = true ∧ devT x r = pre ++ devGo x i (r.rows.drop i)) (fun i pre => r.rows.length - i) (0) ([]) ⟨Nat.zero_le _, rfl, rfl⟩ ⟨rfl, rfl, rfl, rfl, rfl, rfl, rfl, trivial⟩ (fun _ _ => rfl) ?_
 rintro i pre ⟨hi, hrun, hD⟩
 refine OK.seq (OK.reg ?_)
 refine RK.c (S.lss .none rfl (.tmp rfl rfl) (.tmp rfl rfl)) ?_
 refine RK.nil (Ab.D.code ?_)
 refine OK.seq ?_
 refine OK.condD rfl rfl (fun c14 => ?_) (fun c14 => ?_)
 ·
  have hix : i < x.rows.length := hf.rows i (by omega)
  have hvli := hvl i (by omega)
  refine OK.skip ?_
  refine Ab.D.code ?_
  refine OK.seq ?_
  refine OK.block ?_
  refine OK.seq (OK.reg ?_)
  refine RK.c (S.move .none rfl (.tmp rfl rfl)) ?_
  refine RK.c (S.indexM si73 .none rfl (.tmp rfl rfl) (.tmp rfl rfl) rfl (by omega) rfl) ?_
  refine RK.c (S.loadN ti162 .none rfl (.tmp rfl rfl) rfl rfl) ?_
  refine RK.c (S.alloc (k := 5) ze162 rfl .none rfl) ?_
  refine RK.c (S.assign .none rfl (.tmp rfl rfl)) ?_
  refine RK.c (S.store ti162 .none (.tmp rfl rfl) (.tmp rfl rfl) rfl rfl rfl rfl rfl rfl) ?_
  refine RK.nil (Ab.D.code (OK.seq (OK.reg ?_)))
  refine RK.c (S.bfield fi162_1 .none rfl (.tmp rfl rfl)) ?_
  refine RK.c (S.bload1 ti25 .none rfl (.tmp rfl rfl) rfl rfl rfl rfl) ?_
  refine RK.c (S.lenM si25 .none rfl (.tmp rfl rfl)) ?_
  refine RK.c (S.move .none rfl (.cint rfl)) ?_
  refine RK.nil (Ab.D.code ?_)
  refine OK.block ?_
  refine OK.loop2 [] (fun (j : Nat) (pre : List Deviation) => [(0, .cb Φ), (1, .eptr r.cs), (2, .eptr x.cs), (4, .int .i64 i), (11, .sl (r.rows.map Row.cs)), (12, .int .i64 r.rows.length), (13, .int .i64 i), (19, ints r.rows[i].values), (20, .int .i64 r.rows[i].values.length), (21, .int .i64 j), (3000, .res (J (iterG g s0 pre).1))]) (fun j pre => j ≤ r.rows[i].values.length ∧ (iterG g s0 pre).2 = true ∧ devT x r = pre ++ (devRow i (x.rows.getD i []) j (r.rows[i].values.drop j) ++ devGo x (i + 1) (r.rows.drop (i + 1)))) (fun j pre => r.rows[i].values.length - j) (0) (pre) ⟨Nat.zero_le _, hrun, by rw [hD, devGo_drop (by omega)]; rfl⟩ ⟨rfl, rfl, rfl, rfl, rfl, rfl, rfl, rfl, rfl, rfl, rfl, trivial⟩ (fun _ _ => rfl) ?_
  rintro j pre ⟨hj, hrun2, hD2⟩
  refine OK.seq (OK.reg ?_)
  refine RK.c (S.lss .none rfl (.tmp rfl rfl) (.tmp rfl rfl)) ?_
  refine RK.nil (Ab.D.code ?_)
  refine OK.seq ?_
  refine OK.condD rfl rfl (fun c22 => ?_) (fun c22 => ?_)
  ·
   have hjx : j < x.rows[i].length := hf.cols i (by omega) hix j (by omega)
   have hv1 := hf.val i (by omega) j (by omega)
   have hr1 := hf.rng i hix j hjx
   have hbd := devBy_bd hv1 hr1
   have hrow : (x.rows.getD i []) = x.rows[i] := getD_at hix
   have hone : (x.rows[i].getD j ⟨0, 0⟩) = x.rows[i][j] := getD_at hjx
   have hstep : devRow i (x.rows.getD i []) j (r.rows[i].values.drop j) = (if devBy r.rows[i].values[j] x.rows[i][j] ≠ 0 then [⟨i, j, devBy r.rows[i].values[j] x.rows[i][j]⟩] else []) ++ devRow i (x.rows.getD i []) (j + 1) (r.rows[i].values.drop (j + 1)) := by rw [devRow_drop (by omega), devOne, hrow, hone]
   refine OK.skip ?_
   refine Ab.D.code ?_
   refine OK.seq ?_
   refine OK.block ?_
   refine OK.seq (OK.reg ?_)
   refine RK.c (S.move .none rfl (.tmp rfl rfl)) ?_
   refine RK.c (S.indexM (n := j) si25 .none rfl (.tmp rfl rfl) (.tmp rfl rfl) rfl (by omega) rfl) ?_
   refine RK.c (S.load1 ti3 .none rfl (.tmp rfl rfl) rfl) ?_
   refine RK.c (S.assign .none rfl (.tmp rfl rfl)) ?_
   refine RK.c (S.assign .none rfl (.tmp rfl rfl)) ?_
   refine RK.nil (Ab.D.code (OK.seq (OK.reg ?_)))
   refine RK.c (S.field fi30_2 .none rfl (.tmp rfl rfl) rfl) ?_
   refine RK.c (S.load1 ti28 .none rfl (.tmp rfl rfl) rfl) ?_
   refine RK.c (S.move .none rfl (.tmp rfl rfl)) ?_
   refine RK.c (S.indexM (n := i) si28 .none rfl (.tmp rfl rfl) (.tmp rfl rfl) rfl hix rfl) ?_
   refine RK.c (S.load1 ti114 .none rfl (.tmp rfl rfl) rfl) ?_
   refine RK.c (S.move .none rfl (.tmp rfl rfl)) ?_
   refine RK.c (S.indexM (n := j) si114 .none rfl (.tmp rfl rfl) (.tmp rfl rfl) rfl hjx rfl) ?_
   refine RK.c (S.loadN ti113 .none rfl (.tmp rfl rfl) rfl rfl) ?_
   refine RK.c (S.alloc (k := 8) ze113 rfl .none rfl) ?_
   refine RK.c (S.store ti113 .none (.tmp rfl rfl) (.tmp rfl rfl) rfl rfl rfl rfl rfl rfl) ?_
   refine RK.nil (Ab.D.code (OK.seq (OK.reg ?_)))
   refine RK.c (S.move .none rfl (.tmp rfl rfl)) ?_
   refine RK.c (S.bfield fi113_1 .none rfl (.tmp rfl rfl)) ?_
   refine RK.c (S.bload1 ti3 .none rfl (.tmp rfl rfl) rfl rfl rfl rfl) ?_
   refine RK.c (S.sub .none rfl (.tmp rfl rfl) (.tmp rfl rfl) (IntWalk.i64_in _ (by omega)) (IntWalk.i64_in _ (by omega))) ?_
   refine RK.c (S.max2 .none rfl (.cint rfl) (.tmp rfl rfl)) ?_
   refine RK.c (S.move .none rfl (.tmp rfl rfl)) ?_
   refine RK.c (S.bfield fi113_0 .none rfl (.tmp rfl rfl)) ?_
   refine RK.c (S.bload1 ti3 .none rfl (.tmp rfl rfl) rfl rfl rfl rfl) ?_
   refine RK.c (S.sub .none rfl (.tmp rfl rfl) (.tmp rfl rfl) (IntWalk.i64_in _ (by omega)) (IntWalk.i64_in _ (by omega))) ?_
   refine RK.c (S.min2 .none rfl (.cint rfl) (.tmp rfl rfl)) ?_
   refine RK.c (S.add (q := devBy r.rows[i].values[j] x.rows[i][j]) .none rfl (.tmp rfl rfl) (.tmp rfl rfl) (by show IntKind.i64.wrap (devBy _ _) = _; exact IntWalk.i64_in _ (by omega)) (IntWalk.i64_in _ (by omega))) ?_
   refine RK.c (S.assign .none rfl (.tmp rfl rfl)) ?_
   refine RK.nil (Ab.D.code (OK.seq (OK.reg ?_)))
   refine RK.c (S.move .none rfl (.tmp rfl rfl)) ?_
   refine RK.c (S.neq .none rfl (.tmp rfl rfl) (.cint rfl)) ?_
   refine RK.c (S.move .none rfl (.tmp rfl rfl)) ?_
   refine RK.splitD (t := 47) rfl (fun g47 => ?_) (fun g47 => ?_)
   ·
    have hD3 : devT x r = pre ++ ⟨i, j, devBy r.rows[i].values[j] x.rows[i][j]⟩ :: (devRow i (x.rows.getD i []) (j + 1) (r.rows[i].values.drop (j + 1)) ++ devGo x (i + 1) (r.rows.drop (i + 1))) := by rw [hD2, hstep, if_pos g47]; simp
    refine RK.c (S.move (.yes rfl rfl rfl rfl) rfl (.tmp rfl rfl)) ?_
    refine RK.c (S.move (.yes rfl rfl rfl rfl) rfl (.tmp rfl rfl)) ?_
    refine RK.c (S.move (.yes rfl rfl rfl rfl) rfl (.tmp rfl rfl)) ?_
    refine RK.c (S.move (.yes rfl rfl rfl rfl) rfl (.tmp rfl rfl)) ?_
    refine RK.c (S.build bu117 rfl (.yes rfl rfl rfl rfl) rfl (.cons (.tmp rfl rfl) (.cons (.tmp rfl rfl) (.cons (.tmp rfl rfl) .nil))) rfl rfl) ?_
    refine RK.c (S.callcb (J1 := J (g (iterG g s0 pre).1 ⟨i, j, devBy r.rows[i].values[j] x.rows[i][j]⟩).1) (cb_at hcb hD3 hrun2) (hst _) (.yes rfl rfl rfl rfl) rfl (.tmp rfl rfl) (.cons (.tmp rfl rfl) .nil) rfl rfl) ?_
    refine RK.c (S.not (.yes rfl rfl rfl rfl) rfl (.tmp rfl rfl)) ?_
    refine RK.c (S.pickT .none rfl (.tmp rfl rfl) (.tmp rfl rfl) rfl) ?_
    refine RK.nil (Ab.D.code ?_)
    refine OK.cond rfl rfl (fun c55 => ?_) (fun c55 => ?_)
    ·
     have hstop : (g (iterG g s0 pre).1 ⟨i, j, devBy r.rows[i].values[j] x.rows[i][j]⟩).2 = false := by simpa using c55
     exact OK.ret ⟨⟨.inl rfl, [], trivial, rfl⟩, lk_res (by rw [hD3, iter_stop hrun2 hstop]), trivial⟩
    ·
     have hcont : (g (iterG g s0 pre).1 ⟨i, j, devBy r.rows[i].values[j] x.rows[i][j]⟩).2 = true := by simpa using c55
     refine OK.skip ?_
     refine Ab.D.blk ?_
     refine Ab.D.code (OK.reg ?_)
     refine RK.c (S.add .none rfl (.tmp rfl rfl) (.cint rfl) (IntWalk.i64_in _ (by omega)) (IntWalk.i64_in _ (by omega))) ?_
     refine RK.c (S.move .none rfl (.tmp rfl rfl)) ?_
     refine RK.nil ?_
     refine Ab.D.lp ⟨j + 1, pre ++ [(⟨i, j, devBy r.rows[i].values[j] x.rows[i][j]⟩ : Deviation)], ⟨by omega, by first | exact hrun2 | rw [iter_go hrun2 hcont], by first | (rw [hD2, hstep, if_pos g47]; simp) | (rw [hD2, hstep, if_neg g47]; rfl)⟩, (by omega), rfl, rfl, rfl, rfl, rfl, rfl, rfl, rfl, rfl, rfl, (lk_res (by first | rfl | rw [iter_go hrun2 hcont])), trivial⟩
   ·
    refine RK.c (S.skip rfl rfl rfl rfl rfl) ?_
    refine RK.c (S.skip rfl rfl rfl rfl rfl) ?_
    refine RK.c (S.skip rfl rfl rfl rfl rfl) ?_
    refine RK.c (S.skip rfl rfl rfl rfl rfl) ?_
    refine RK.c (S.skip rfl rfl rfl rfl rfl) ?_
    refine RK.c (S.skip rfl rfl rfl rfl rfl) ?_
    refine RK.c (S.skip rfl rfl rfl rfl rfl) ?_
    refine RK.c (S.pickF .none rfl (.tmp rfl rfl) .cbool rfl) ?_
    refine RK.nil (Ab.D.code ?_)
    refine OK.condF rfl rfl rfl ?_
    refine OK.skip ?_
    refine Ab.D.blk ?_
    refine Ab.D.code (OK.reg ?_)
    refine RK.c (S.add .none rfl (.tmp rfl rfl) (.cint rfl) (IntWalk.i64_in _ (by omega)) (IntWalk.i64_in _ (by omega))) ?_
    refine RK.c (S.move .none rfl (.tmp rfl rfl)) ?_
    refine RK.nil ?_
    refine Ab.D.lp ⟨j + 1, pre, ⟨by omega, by first | exact hrun2 | rw [iter_go hrun2 hcont], by first | (rw [hD2, hstep, if_pos g47]; simp) | (rw [hD2, hstep, if_neg g47]; rfl)⟩, (by omega), rfl, rfl, rfl, rfl, rfl, rfl, rfl, rfl, rfl, rfl, (lk_res (by first | rfl | rw [iter_go hrun2 hcont])), trivial⟩
  ·
   refine OK.exit rfl ?_
   refine Ab.D.blk ?_
   refine Ab.D.code (OK.reg ?_)
   refine RK.c (S.add .none rfl (.tmp rfl rfl) (.cint rfl) (IntWalk.i64_in _ (by omega)) (IntWalk.i64_in _ (by omega))) ?_
   refine RK.c (S.move .none rfl (.tmp rfl rfl)) ?_
   refine RK.nil ?_
   refine Ab.D.lp ⟨i + 1, pre, ⟨by omega, hrun2, by rw [hD2, show j = r.rows[i].values.length by omega, List.drop_length]; rfl⟩, (by omega), rfl, rfl, rfl, rfl, rfl, rfl, rfl, trivial⟩
 ·
  refine OK.exit rfl ?_
  exact ⟨⟨.inr rfl, [], trivial, rfl⟩, lk_res (by rw [hD, show i = r.rows.length by omega, List.drop_length, devGo, List.append_nil]), trivial⟩
end Go.Proofs.YtpmglnphhhlbdaaGreatDoor
