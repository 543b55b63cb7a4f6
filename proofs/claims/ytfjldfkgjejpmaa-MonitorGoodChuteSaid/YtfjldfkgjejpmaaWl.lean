/-
  Which envelopes are valid; equality of ranges, envelopes, deviations, passes; examples.
-/
import Derived.Test.YtfjldfkgjejpmaaWk
namespace Go.Proofs.Ytfjldfkgjejpmaa
open Go.Ab

def rangeErr (x : Range) : Int := if ¬ ((-1000000 ≤ x.lo ∧ x.lo ≤ 1000000) ∧ (-1000000 ≤ x.hi ∧ x.hi ≤ 1000000)) then 2 else if x.lo ≤ x.hi then 0 else 9
def erowErr (p : Plan) (l : List Range) : Int := if l.length ≠ p.channels.length then 10 else (eachGo (fun _ x => rangeErr x) 0 l).2
def envChk (p : Plan) (x : Envelope) : Int × Int :=
  if ¬ (1 ≤ x.parts ∧ x.parts ≤ 20) then (0, 2) else if trimErr x.trim x.parts ≠ 0 then (0, trimErr x.trim x.parts) else if (x.rows.length : Int) ≠ p.ticks then (0, 10) else eachGo (fun _ l => erowErr p l) 0 x.rows
def bothErr (p : Plan) (x : Envelope) (r : Record) : Int := if planErr p ≠ 0 then planErr p else if (envChk p x).2 ≠ 0 then (envChk p x).2 else (recChk p r).2
theorem envHead {p : Plan} {x : Envelope} (h : 1 ≤ x.parts ∧ x.parts ≤ 20) : envChk p x = if firstE [trimErr x.trim x.parts, unlessE (decide ((x.rows.length : Int) = p.ticks)) 10] ≠ 0 then (0, firstE [trimErr x.trim x.parts, unlessE (decide ((x.rows.length : Int) = p.ticks)) 10]) else eachGo (fun _ l => erowErr p l) 0 x.rows := by
  rw [envChk, if_neg (by omega), firstE2, ite_unless]
  by_cases h1 : trimErr x.trim x.parts = 0
  · by_cases h2 : (x.rows.length : Int) = p.ticks
    · simp [h1, h2]
    · simp [h1, h2]
  · simp [h1]
theorem take_eq_step {α : Type} {a b : List α} {i : Nat} (h1 : i < a.length) (h2 : i < b.length) (ht : a.take i = b.take i) (he : a[i] = b[i]) : a.take (i + 1) = b.take (i + 1) := by
  rw [List.take_succ_eq_append_getElem h1, List.take_succ_eq_append_getElem h2, ht, he]
theorem take_eq_all {α : Type} {a b : List α} {i : Nat} (hl : a.length = b.length) (hi : i = a.length) (ht : a.take i = b.take i) : a = b := by
  subst hi
  rwa [List.take_length, hl, List.take_length] at ht
theorem range_ext {x y : Range} (h : [x.lo, x.hi] = [y.lo, y.hi]) : x = y := by
  cases x; cases y; simp at h; simp [h]
theorem dev_ext {x y : Deviation} (h : [x.tick, x.channel, x.by_] = [y.tick, y.channel, y.by_]) : x = y := by
  cases x; cases y; simp at h; simp [h]
def devs (l : List Deviation) : X := .sl (l.map Deviation.cs)

theorem mon_range {i : Nat} {x : Range} : Ct Try.prog 125 [.int .i64 i, .agg x.cs] (.int .i64 (rangeErr x)) := by
  refine Ct.intro (rs := [.tmp 4]) Try.func125 rfl Try.ntmps125 Try.results125 rfl rfl rfl fun w h => ?_
  refine OK.seq ?_
  refine OK.reg ?_
  refine RK.c (S.box (k := 3) rfl .none rfl (.tmp rfl rfl) rfl) ?_
  refine RK.c (S.assign .none rfl (.cint rfl)) ?_
  refine RK.nil ?_
  refine Ab.D.code ?_
  refine OK.seq ?_
  by_cases g8 : -1000000 ≤ x.lo ∧ x.lo ≤ 1000000
  ·
    refine OK.regionDraw follows (.c (S.bfield fi111_0 .none rfl (.tmp rfl rfl))
      (.c (S.bload1 ti3 .none rfl (.tmp rfl rfl) rfl rfl rfl rfl)
      (.c (S.call (mon_isValue) Try.call91 .none rfl (.cons (.tmp rfl rfl) .nil) rfl)
      (.c (S.move .none rfl (.tmp rfl rfl))
      (.c (S.bfield fi111_1 (.yes rfl rfl rfl (by simp [*])) rfl (.tmp rfl rfl))
      (.c (S.bload1 ti3 (.yes rfl rfl rfl (by simp [*])) rfl (.tmp rfl rfl) rfl rfl rfl rfl)
      (.c (S.call (mon_isValue) Try.call91 (.yes rfl rfl rfl (by simp [*])) rfl (.cons (.tmp rfl rfl) .nil) rfl)
      (.c (S.pickT .none rfl (.tmp rfl rfl) (.tmp rfl rfl) (by simp [*]))
      (.c (S.call (monitor_unless) Try.call57 .none rfl (.cons (.tmp rfl rfl) (.cons (.cint rfl) .nil)) rfl)
      (.c (S.bfield fi111_0 .none rfl (.tmp rfl rfl))
      (.c (S.bload1 ti3 .none rfl (.tmp rfl rfl) rfl rfl rfl rfl)
      (.c (S.bfield fi111_1 .none rfl (.tmp rfl rfl))
      (.c (S.bload1 ti3 .none rfl (.tmp rfl rfl) rfl rfl rfl rfl)
      (.c (S.leq .none rfl (.tmp rfl rfl) (.tmp rfl rfl))
      (.c (S.call (monitor_unless) Try.call57 .none rfl (.cons (.tmp rfl rfl) (.cons (.cint rfl) .nil)) rfl)
      (.c (S.mkSlice (k := 20) (rows := [[_], [_]]) ai155 .none rfl (.cons (.tmp rfl rfl) (.cons (.tmp rfl rfl) .nil)) rfl rfl rfl rfl rfl rfl rfl)
      (.c (S.callL (monitor_first (l := [_, _])) Try.call56 .none rfl (.cons (.tmp rfl rfl) .nil) (.cons (.p (.own rfl rfl) rfl) .nil) rfl)
      (.c (S.assign .none rfl (.tmp rfl rfl))
      .nil)))))))))))))))))) (by kernel_rfl) ?_
    refine Ab.D.code ?_
    refine OK.ret (Ret.r1 (.tmp rfl rfl (.c (.same rfl) rfl) rfl) ?_)
    refine ret_i ?_
    simp [firstE2, unlessE]
    unfold rangeErr
    repeat' split
    all_goals omega
  ·
    refine OK.regionDraw follows (.c (S.bfield fi111_0 .none rfl (.tmp rfl rfl))
      (.c (S.bload1 ti3 .none rfl (.tmp rfl rfl) rfl rfl rfl rfl)
      (.c (S.call (mon_isValue) Try.call91 .none rfl (.cons (.tmp rfl rfl) .nil) rfl)
      (.c (S.move .none rfl (.tmp rfl rfl))
      (.c (S.skip rfl rfl rfl (by simp [*]) rfl)
      (.c (S.skip rfl rfl rfl (by simp [*]) rfl)
      (.c (S.skip rfl rfl rfl (by simp [*]) rfl)
      (.c (S.pickF .none rfl (.tmp rfl rfl) .cbool (by simp [*]))
      (.c (S.call (monitor_unless) Try.call57 .none rfl (.cons (.tmp rfl rfl) (.cons (.cint rfl) .nil)) rfl)
      (.c (S.bfield fi111_0 .none rfl (.tmp rfl rfl))
      (.c (S.bload1 ti3 .none rfl (.tmp rfl rfl) rfl rfl rfl rfl)
      (.c (S.bfield fi111_1 .none rfl (.tmp rfl rfl))
      (.c (S.bload1 ti3 .none rfl (.tmp rfl rfl) rfl rfl rfl rfl)
      (.c (S.leq .none rfl (.tmp rfl rfl) (.tmp rfl rfl))
      (.c (S.call (monitor_unless) Try.call57 .none rfl (.cons (.tmp rfl rfl) (.cons (.cint rfl) .nil)) rfl)
      (.c (S.mkSlice (k := 20) (rows := [[_], [_]]) ai155 .none rfl (.cons (.tmp rfl rfl) (.cons (.tmp rfl rfl) .nil)) rfl rfl rfl rfl rfl rfl rfl)
      (.c (S.callL (monitor_first (l := [_, _])) Try.call56 .none rfl (.cons (.tmp rfl rfl) .nil) (.cons (.p (.own rfl rfl) rfl) .nil) rfl)
      (.c (S.assign .none rfl (.tmp rfl rfl))
      .nil)))))))))))))))))) (by kernel_rfl) ?_
    refine Ab.D.code ?_
    refine OK.ret (Ret.r1 (.tmp rfl rfl (.c (.same rfl) rfl) rfl) ?_)
    refine ret_i ?_
    simp [firstE2, unlessE]
    unfold rangeErr
    repeat' split
    all_goals omega

theorem mon_erow {p : Plan} {i : Nat} {l : List Range} : Ct Try.prog 123 [.int .i64 i, .sl (l.map Range.cs), .eptr p.cs] (.int .i64 (erowErr p l)) := by
  refine Ct.intro (rs := [.tmp 5]) Try.func123 rfl Try.ntmps123 Try.results123 rfl rfl rfl fun w h => ?_
  refine OK.seq ?_
  refine OK.reg ?_
  refine RK.c (S.assign .none rfl (.cint rfl)) ?_
  refine RK.nil ?_
  refine Ab.D.code ?_
  refine OK.seq ?_
  refine OK.seq ?_
  refine OK.reg ?_
  refine RK.c (S.move .none rfl (.tmp rfl rfl)) ?_
  refine RK.c (S.lenM si112 .none rfl (.tmp rfl rfl)) ?_
  refine RK.c (S.field fi129_0 .none rfl (.tmp rfl rfl) rfl) ?_
  refine RK.c (S.field fi53_0 .none rfl (.tmp rfl rfl) rfl) ?_
  refine RK.c (S.load1 ti51 .none rfl (.tmp rfl rfl) rfl) ?_
  refine RK.c (S.lenM si51 .none rfl (.tmp rfl rfl)) ?_
  refine RK.c (S.neq .none rfl (.tmp rfl rfl) (.tmp rfl rfl)) ?_
  refine RK.nil ?_
  refine Ab.D.code ?_
  refine OK.condD rfl rfl (fun c14 => ?_) (fun c14 => ?_)
  ·
    refine OK.seq ?_
    refine OK.reg ?_
    refine RK.c (S.assign .none rfl (.cint rfl)) ?_
    refine RK.nil ?_
    refine Ab.D.code ?_
    refine OK.ret (Ret.r1 (.tmp rfl rfl (.c (.same rfl) rfl) rfl) ?_)
    refine ret_i ?_
    rw [erowErr, if_pos (by omega)]
  ·
    refine OK.skip ?_
    refine Ab.D.code ?_
    refine OK.seq ?_
    refine OK.reg ?_
    refine RK.c (S.move .none rfl (.tmp rfl rfl)) ?_
    refine RK.c (S.call (each_Range (l := l) (g := fun _ x => rangeErr x) (caps := []) (fun i x _ => mon_range) Try.call125 ⟨rfl, rfl⟩) Try.call124 .none rfl (.cons (.tmp rfl rfl) (.cons .cfn .nil)) rfl) ?_
    refine RK.c (S.move .none rfl (.tmp rfl rfl)) ?_
    refine RK.c (S.extract .none rfl (.tmp rfl rfl) rfl rfl) ?_
    refine RK.c (S.extract .none rfl (.tmp rfl rfl) rfl rfl) ?_
    refine RK.c (S.assign .none rfl (.tmp rfl rfl)) ?_
    refine RK.c (S.assign .none rfl (.tmp rfl rfl)) ?_
    refine RK.nil ?_
    refine Ab.D.code ?_
    refine OK.seq ?_
    refine OK.reg ?_
    refine RK.c (S.move .none rfl (.tmp rfl rfl)) ?_
    refine RK.c (S.assign .none rfl (.tmp rfl rfl)) ?_
    refine RK.nil ?_
    refine Ab.D.code ?_
    refine OK.ret (Ret.r1 (.tmp rfl rfl (.c (.same rfl) rfl) rfl) ?_)
    refine ret_i ?_
    rw [erowErr, if_neg (by omega)]

theorem mon_envelopeErr {p : Plan} {x : Envelope} : Ct Try.prog 103 [.agg p.cs, .agg x.cs] (pair (envChk p x)) := by
  refine Ct.intro (rs := [.tmp 4, .tmp 5]) Try.func103 rfl Try.ntmps103 Try.results103 rfl rfl rfl fun w h => ?_
  refine OK.seq ?_
  refine OK.reg ?_
  refine RK.c (S.box (k := 2) rfl .none rfl (.tmp rfl rfl) rfl) ?_
  refine RK.c (S.box (k := 3) rfl .none rfl (.tmp rfl rfl) rfl) ?_
  refine RK.c (S.assign .none rfl (.cint rfl)) ?_
  refine RK.c (S.assign .none rfl (.cint rfl)) ?_
  refine RK.nil ?_
  refine Ab.D.code ?_
  refine OK.seq ?_
  refine OK.seq ?_
  refine OK.reg ?_
  refine RK.c (S.bfield fi93_0 .none rfl (.tmp rfl rfl)) ?_
  refine RK.c (S.bload1 ti3 .none rfl (.tmp rfl rfl) rfl rfl rfl rfl) ?_
  refine RK.c (S.call (mon_within) Try.call63 .none rfl (.cons (.tmp rfl rfl) (.cons (.cint rfl) (.cons (.cint rfl) .nil))) rfl) ?_
  refine RK.c (S.notD .none rfl (.tmp rfl rfl)) ?_
  refine RK.nil ?_
  refine Ab.D.code ?_
  refine OK.condD rfl rfl (fun c10 => ?_) (fun c10 => ?_)
  ·
    have hx : ¬ (1 ≤ x.parts ∧ x.parts ≤ 20) := by simpa using c10
    refine OK.seq ?_
    refine OK.reg ?_
    refine RK.c (S.assign .none rfl (.cint rfl)) ?_
    refine RK.c (S.assign .none rfl (.cint rfl)) ?_
    refine RK.nil ?_
    refine Ab.D.code ?_
    refine OK.ret (Ret.r2 (.tmp rfl rfl (.c (.same rfl) rfl) rfl) (.tmp rfl rfl (.c (.same rfl) rfl) rfl) ?_)
    refine ret_p ?_
    rw [envChk, if_pos hx]
  ·
    have hx : 1 ≤ x.parts ∧ x.parts ≤ 20 := by simpa using c10
    refine OK.skip ?_
    refine Ab.D.code ?_
    refine OK.seq ?_
    refine OK.seq ?_
    refine OK.regionDraw follows (.c (S.bfield fi93_1 .none rfl (.tmp rfl rfl))
      (.c (S.bload1 ti3 .none rfl (.tmp rfl rfl) rfl rfl rfl rfl)
      (.c (S.bfield fi93_0 .none rfl (.tmp rfl rfl))
      (.c (S.bload1 ti3 .none rfl (.tmp rfl rfl) rfl rfl rfl rfl)
      (.c (S.call (mon_trimErr (by omega)) Try.call81 .none rfl (.cons (.tmp rfl rfl) (.cons (.tmp rfl rfl) .nil)) rfl)
      (.c (S.bfield fi93_2 .none rfl (.tmp rfl rfl))
      (.c (S.bload1 ti91 .none rfl (.tmp rfl rfl) rfl rfl rfl rfl)
      (.c (S.lenM si91 .none rfl (.tmp rfl rfl))
      (.c (S.bfield fi129_0 .none rfl (.tmp rfl rfl))
      (.c (S.bfield fi53_1 .none rfl (.tmp rfl rfl))
      (.c (S.bload1 ti3 .none rfl (.tmp rfl rfl) rfl rfl rfl rfl)
      (.c (S.eql .none rfl (.tmp rfl rfl) (.tmp rfl rfl))
      (.c (S.call (monitor_unless) Try.call57 .none rfl (.cons (.tmp rfl rfl) (.cons (.cint rfl) .nil)) rfl)
      (.c (S.mkSlice (k := 24) (rows := [[_], [_]]) ai155 .none rfl (.cons (.tmp rfl rfl) (.cons (.tmp rfl rfl) .nil)) rfl rfl rfl rfl rfl rfl rfl)
      (.c (S.callL (monitor_first (l := [_, _])) Try.call56 .none rfl (.cons (.tmp rfl rfl) .nil) (.cons (.p (.own rfl rfl) rfl) .nil) rfl)
      (.c (S.assign .none rfl (.tmp rfl rfl))
      .nil)))))))))))))))) (by kernel_rfl) ?_
    refine Ab.D.code ?_
    refine OK.seq ?_
    refine OK.reg ?_
    refine RK.c (S.move .none rfl (.tmp rfl rfl)) ?_
    refine RK.c (S.neq .none rfl (.tmp rfl rfl) (.cint rfl)) ?_
    refine RK.nil ?_
    refine Ab.D.code ?_
    refine OK.condD rfl rfl (fun c27 => ?_) (fun c27 => ?_)
    ·
      refine OK.seq ?_
      refine OK.reg ?_
      refine RK.c (S.move .none rfl (.tmp rfl rfl)) ?_
      refine RK.c (S.assign .none rfl (.cint rfl)) ?_
      refine RK.c (S.assign .none rfl (.tmp rfl rfl)) ?_
      refine RK.nil ?_
      refine Ab.D.code ?_
      refine OK.ret (Ret.r2 (.tmp rfl rfl (.c (.same rfl) rfl) rfl) (.tmp rfl rfl (.c (.same rfl) rfl) rfl) ?_)
      refine ret_p ?_
      rw [envHead hx, if_pos c27]
    ·
      refine OK.skip ?_
      refine Ab.D.code ?_
      refine OK.seq ?_
      refine OK.reg ?_
      refine RK.c (S.bfield fi93_2 .none rfl (.tmp rfl rfl)) ?_
      refine RK.c (S.bload1 ti91 .none rfl (.tmp rfl rfl) rfl rfl rfl rfl) ?_
      refine RK.c (S.makeFunc1 .none rfl (.tmp rfl rfl) rfl) ?_
      refine RK.c (S.callL (each_List_Range (l := x.rows) (g := fun _ l => erowErr p l) (caps := [.eptr p.cs]) (fun i x _ => mon_erow) Try.call123 ⟨rfl, rfl⟩) Try.call122 .none rfl (.cons (.tmp rfl rfl) (.cons (.tmp rfl rfl) .nil)) (.cons (.same rfl) (.cons (.fn (.cons (.ptr rfl rfl rfl rfl) .nil)) .nil)) rfl) ?_
      refine RK.c (S.extract .none rfl (.tmp rfl rfl) rfl rfl) ?_
      refine RK.c (S.extract .none rfl (.tmp rfl rfl) rfl rfl) ?_
      refine RK.c (S.assign .none rfl (.tmp rfl rfl)) ?_
      refine RK.c (S.assign .none rfl (.tmp rfl rfl)) ?_
      refine RK.nil ?_
      refine Ab.D.code ?_
      refine OK.ret (Ret.r2 (.tmp rfl rfl (.c (.same rfl) rfl) rfl) (.tmp rfl rfl (.c (.same rfl) rfl) rfl) ?_)
      refine ret_p ?_
      rw [envHead hx, if_neg c27]

theorem mon_openBoth {p : Plan} {x : Envelope} {r : Record} : Ct Try.prog 83 [.agg p.cs, .agg x.cs, .agg r.cs] (.int .i64 (bothErr p x r)) := by
  refine Ct.intro (rs := [.tmp 6]) Try.func83 rfl Try.ntmps83 Try.results83 rfl rfl rfl fun w h => ?_
  refine OK.seq ?_
  refine OK.reg ?_
  refine RK.c (S.box (k := 3) rfl .none rfl (.tmp rfl rfl) rfl) ?_
  refine RK.c (S.box (k := 4) rfl .none rfl (.tmp rfl rfl) rfl) ?_
  refine RK.c (S.box (k := 5) rfl .none rfl (.tmp rfl rfl) rfl) ?_
  refine RK.c (S.assign .none rfl (.cint rfl)) ?_
  refine RK.nil ?_
  refine Ab.D.code ?_
  refine OK.seq ?_
  refine OK.reg ?_
  refine RK.c (S.bloadN ti53 .none rfl (.tmp rfl rfl) rfl rfl rfl rfl) ?_
  refine RK.c (S.call (mon_open) Try.call70 .none rfl (.cons (.tmp rfl rfl) .nil) rfl) ?_
  refine RK.c (S.move .none rfl (.tmp rfl rfl)) ?_
  refine RK.c (S.extract .none rfl (.tmp rfl rfl) rfl rfl) ?_
  refine RK.c (S.extract .none rfl (.tmp rfl rfl) rfl rfl) ?_
  refine RK.c (S.alloc (k := 7) ze129 rfl .none rfl) ?_
  refine RK.c (S.store ti129 .none (.tmp rfl rfl) (.tmp rfl rfl) rfl rfl rfl rfl rfl rfl) ?_
  refine RK.c (S.assign .none rfl (.tmp rfl rfl)) ?_
  refine RK.nil ?_
  refine Ab.D.code ?_
  refine OK.seq ?_
  refine OK.seq ?_
  refine OK.reg ?_
  refine RK.c (S.move .none rfl (.tmp rfl rfl)) ?_
  refine RK.c (S.neq .none rfl (.tmp rfl rfl) (.cint rfl)) ?_
  refine RK.nil ?_
  refine Ab.D.code ?_
  refine OK.condD rfl rfl (fun c17 => ?_) (fun c17 => ?_)
  ·
    refine OK.seq ?_
    refine OK.reg ?_
    refine RK.c (S.move .none rfl (.tmp rfl rfl)) ?_
    refine RK.c (S.assign .none rfl (.tmp rfl rfl)) ?_
    refine RK.nil ?_
    refine Ab.D.code ?_
    refine OK.ret (Ret.r1 (.tmp rfl rfl (.c (.same rfl) rfl) rfl) ?_)
    refine ret_i ?_
    rw [bothErr, if_pos c17]
  ·
    refine OK.skip ?_
    refine Ab.D.code ?_
    refine OK.seq ?_
    refine OK.seq ?_
    refine OK.reg ?_
    refine RK.c (S.bloadN ti129 .none rfl (.tmp rfl rfl) rfl rfl rfl rfl) ?_
    refine RK.c (S.bloadN ti93 .none rfl (.tmp rfl rfl) rfl rfl rfl rfl) ?_
    refine RK.c (S.call (mon_envelopeErr) Try.call103 .none rfl (.cons (.tmp rfl rfl) (.cons (.tmp rfl rfl) .nil)) rfl) ?_
    refine RK.c (S.move .none rfl (.tmp rfl rfl)) ?_
    refine RK.c (S.extract .none rfl (.tmp rfl rfl) rfl rfl) ?_
    refine RK.c (S.extract .none rfl (.tmp rfl rfl) rfl rfl) ?_
    refine RK.c (S.assign .none rfl (.tmp rfl rfl)) ?_
    refine RK.c (S.assign .none rfl (.tmp rfl rfl)) ?_
    refine RK.nil ?_
    refine Ab.D.code ?_
    refine OK.seq ?_
    refine OK.reg ?_
    refine RK.c (S.move .none rfl (.tmp rfl rfl)) ?_
    refine RK.c (S.neq .none rfl (.tmp rfl rfl) (.cint rfl)) ?_
    refine RK.nil ?_
    refine Ab.D.code ?_
    refine OK.condD rfl rfl (fun c26 => ?_) (fun c26 => ?_)
    ·
      refine OK.seq ?_
      refine OK.reg ?_
      refine RK.c (S.move .none rfl (.tmp rfl rfl)) ?_
      refine RK.c (S.assign .none rfl (.tmp rfl rfl)) ?_
      refine RK.nil ?_
      refine Ab.D.code ?_
      refine OK.ret (Ret.r1 (.tmp rfl rfl (.c (.same rfl) rfl) rfl) ?_)
      refine ret_i ?_
      rw [bothErr, if_neg c17, if_pos c26]
    ·
      refine OK.skip ?_
      refine Ab.D.code ?_
      refine OK.seq ?_
      refine OK.reg ?_
      refine RK.c (S.bloadN ti129 .none rfl (.tmp rfl rfl) rfl rfl rfl rfl) ?_
      refine RK.c (S.bloadN ti56 .none rfl (.tmp rfl rfl) rfl rfl rfl rfl) ?_
      refine RK.c (S.call (mon_recordErr) Try.call71 .none rfl (.cons (.tmp rfl rfl) (.cons (.tmp rfl rfl) .nil)) rfl) ?_
      refine RK.c (S.move .none rfl (.tmp rfl rfl)) ?_
      refine RK.c (S.extract .none rfl (.tmp rfl rfl) rfl rfl) ?_
      refine RK.c (S.extract .none rfl (.tmp rfl rfl) rfl rfl) ?_
      refine RK.c (S.assign .none rfl (.tmp rfl rfl)) ?_
      refine RK.nil ?_
      refine Ab.D.code ?_
      refine OK.seq ?_
      refine OK.reg ?_
      refine RK.c (S.move .none rfl (.tmp rfl rfl)) ?_
      refine RK.c (S.assign .none rfl (.tmp rfl rfl)) ?_
      refine RK.nil ?_
      refine Ab.D.code ?_
      refine OK.ret (Ret.r1 (.tmp rfl rfl (.c (.same rfl) rfl) rfl) ?_)
      refine ret_i ?_
      rw [bothErr, if_neg c17, if_neg c26]

theorem base_Ranges {a b : List Range} : Ct Try.prog 87 [.sl (a.map Range.cs), .sl (b.map Range.cs)] (.bool (decide (a = b))) := by
  refine Ct.intro (rs := [.tmp 4]) Try.func87 rfl Try.ntmps87 Try.results87 rfl rfl rfl fun w h => ?_
  refine OK.slLen (rows := a.map Range.cs) (t := 0) rfl rfl fun hlen => ?_
  rw [List.length_map] at hlen
  unfold maxLen at hlen
  refine OK.seq ?_
  refine OK.reg ?_
  refine RK.c (S.assign .none rfl .cbool) ?_
  refine RK.nil ?_
  refine Ab.D.code ?_
  refine OK.seq ?_
  refine OK.seq ?_
  refine OK.reg ?_
  refine RK.c (S.move .none rfl (.tmp rfl rfl)) ?_
  refine RK.c (S.lenM si112 .none rfl (.tmp rfl rfl)) ?_
  refine RK.c (S.move .none rfl (.tmp rfl rfl)) ?_
  refine RK.c (S.lenM si112 .none rfl (.tmp rfl rfl)) ?_
  refine RK.c (S.neq .none rfl (.tmp rfl rfl) (.tmp rfl rfl)) ?_
  refine RK.nil ?_
  refine Ab.D.code ?_
  refine OK.condD rfl rfl (fun c10 => ?_) (fun c10 => ?_)
  ·
    refine OK.seq ?_
    refine OK.reg ?_
    refine RK.c (S.assign .none rfl .cbool) ?_
    refine RK.nil ?_
    refine Ab.D.code ?_
    refine OK.ret (Ret.r1 (.tmp rfl rfl (.c (.same rfl) rfl) rfl) ?_)
    exact ret_F (fun e => c10 (by rw [e]))
  ·
    have hl : a.length = b.length := by omega
    refine OK.skip ?_
    refine Ab.D.code ?_
    refine OK.seq ?_
    refine OK.seq ?_
    refine OK.reg ?_
    refine RK.c (S.assign .none rfl (.cint rfl)) ?_
    refine RK.nil ?_
    refine Ab.D.code ?_
    refine OK.block ?_
    refine OK.loop (G := Nat) [] (fun i => [(0, .sl (a.map Range.cs)), (1, .sl (b.map Range.cs)), (5, .int .i64 i)]) (fun i => i ≤ a.length ∧ a.take i = b.take i) (fun i => a.length - i) 0 ⟨Nat.zero_le _, rfl⟩ ⟨rfl, rfl, rfl, trivial⟩ (fun _ => rfl) ?_
    rintro i ⟨hi, ht⟩
    refine OK.seq ?_
    refine OK.seq ?_
    refine OK.reg ?_
    refine RK.c (S.move .none rfl (.tmp rfl rfl)) ?_
    refine RK.c (S.move .none rfl (.tmp rfl rfl)) ?_
    refine RK.c (S.lenM si112 .none rfl (.tmp rfl rfl)) ?_
    refine RK.c (S.lss .none rfl (.tmp rfl rfl) (.tmp rfl rfl)) ?_
    refine RK.nil ?_
    refine Ab.D.code ?_
    refine OK.condD rfl rfl (fun c14 => ?_) (fun c14 => ?_)
    ·
      refine OK.skip ?_
      refine Ab.D.code ?_
      refine OK.seq ?_
      refine OK.block ?_
      refine OK.seq ?_
      refine OK.regionDraw follows (.c (S.move .none rfl (.tmp rfl rfl))
        (.c (S.move .none rfl (.tmp rfl rfl))
        (.c (S.indexM si112 .none rfl (.tmp rfl rfl) (.tmp rfl rfl) rfl (by omega) rfl)
        (.c (S.loadN ti111 .none rfl (.tmp rfl rfl) rfl rfl)
        (.c (S.move .none rfl (.tmp rfl rfl))
        (.c (S.move .none rfl (.tmp rfl rfl))
        (.c (S.indexM si112 .none rfl (.tmp rfl rfl) (.tmp rfl rfl) rfl (by omega) rfl)
        (.c (S.loadN ti111 .none rfl (.tmp rfl rfl) rfl rfl)
        (.c (S.aneq [a[i].lo, a[i].hi] [b[i].lo, b[i].hi] eq111 .none rfl (.tmp rfl rfl) (.tmp rfl rfl) rfl rfl rfl rfl)
        .nil))))))))) (by kernel_rfl) ?_
      refine Ab.D.code ?_
      refine OK.condD rfl rfl (fun c25 => ?_) (fun c25 => ?_)
      ·
        refine OK.seq ?_
        refine OK.reg ?_
        refine RK.c (S.assign .none rfl .cbool) ?_
        refine RK.nil ?_
        refine Ab.D.code ?_
        refine OK.ret (Ret.r1 (.tmp rfl rfl (.c (.same rfl) rfl) rfl) ?_)
        exact ret_F (fun e => by subst e; exact c25 rfl)
      ·
        refine OK.skip ?_
        refine Ab.D.blk ?_
        refine Ab.D.code ?_
        refine OK.reg ?_
        refine RK.c (S.move .none rfl (.tmp rfl rfl)) ?_
        refine RK.c (S.add .none rfl (.tmp rfl rfl) (.cint rfl) (IntWalk.i64_in _ (by omega)) (IntWalk.i64_in _ (by omega))) ?_
        refine RK.c (S.assign .none rfl (.tmp rfl rfl)) ?_
        refine RK.nil ?_
        refine Ab.D.lp ⟨i + 1, ⟨by omega, ?_⟩, (by omega), rfl, rfl, rfl, trivial⟩
        simp only [ne_eq, Decidable.not_not] at c25
        exact take_eq_step (by omega) (by omega) ht (range_ext c25)
    ·
      refine OK.exit rfl ?_
      refine Ab.D.code ?_
      refine OK.seq ?_
      refine OK.reg ?_
      refine RK.c (S.assign .none rfl .cbool) ?_
      refine RK.nil ?_
      refine Ab.D.code ?_
      refine OK.ret (Ret.r1 (.tmp rfl rfl (.c (.same rfl) rfl) rfl) ?_)
      exact ret_T (take_eq_all hl (by omega) ht)

theorem ref_SameDeviations {a b : List Deviation} : Ct Try.prog 53 [.sl (a.map Deviation.cs), .sl (b.map Deviation.cs)] (.bool (decide (a = b))) := by
  refine Ct.intro (rs := [.tmp 4]) Try.func53 rfl Try.ntmps53 Try.results53 rfl rfl rfl fun w h => ?_
  refine OK.slLen (rows := a.map Deviation.cs) (t := 0) rfl rfl fun hlen => ?_
  rw [List.length_map] at hlen
  unfold maxLen at hlen
  refine OK.seq ?_
  refine OK.reg ?_
  refine RK.c (S.assign .none rfl .cbool) ?_
  refine RK.nil ?_
  refine Ab.D.code ?_
  refine OK.seq ?_
  refine OK.seq ?_
  refine OK.reg ?_
  refine RK.c (S.move .none rfl (.tmp rfl rfl)) ?_
  refine RK.c (S.lenM si99 .none rfl (.tmp rfl rfl)) ?_
  refine RK.c (S.move .none rfl (.tmp rfl rfl)) ?_
  refine RK.c (S.lenM si99 .none rfl (.tmp rfl rfl)) ?_
  refine RK.c (S.neq .none rfl (.tmp rfl rfl) (.tmp rfl rfl)) ?_
  refine RK.nil ?_
  refine Ab.D.code ?_
  refine OK.condD rfl rfl (fun c10 => ?_) (fun c10 => ?_)
  ·
    refine OK.seq ?_
    refine OK.reg ?_
    refine RK.c (S.assign .none rfl .cbool) ?_
    refine RK.nil ?_
    refine Ab.D.code ?_
    refine OK.ret (Ret.r1 (.tmp rfl rfl (.c (.same rfl) rfl) rfl) ?_)
    exact ret_F (fun e => c10 (by rw [e]))
  ·
    have hl : a.length = b.length := by omega
    refine OK.skip ?_
    refine Ab.D.code ?_
    refine OK.seq ?_
    refine OK.seq ?_
    refine OK.reg ?_
    refine RK.c (S.assign .none rfl (.cint rfl)) ?_
    refine RK.nil ?_
    refine Ab.D.code ?_
    refine OK.block ?_
    refine OK.loop (G := Nat) [] (fun i => [(0, .sl (a.map Deviation.cs)), (1, .sl (b.map Deviation.cs)), (5, .int .i64 i)]) (fun i => i ≤ a.length ∧ a.take i = b.take i) (fun i => a.length - i) 0 ⟨Nat.zero_le _, rfl⟩ ⟨rfl, rfl, rfl, trivial⟩ (fun _ => rfl) ?_
    rintro i ⟨hi, ht⟩
    refine OK.seq ?_
    refine OK.seq ?_
    refine OK.reg ?_
    refine RK.c (S.move .none rfl (.tmp rfl rfl)) ?_
    refine RK.c (S.move .none rfl (.tmp rfl rfl)) ?_
    refine RK.c (S.lenM si99 .none rfl (.tmp rfl rfl)) ?_
    refine RK.c (S.lss .none rfl (.tmp rfl rfl) (.tmp rfl rfl)) ?_
    refine RK.nil ?_
    refine Ab.D.code ?_
    refine OK.condD rfl rfl (fun c14 => ?_) (fun c14 => ?_)
    ·
      refine OK.skip ?_
      refine Ab.D.code ?_
      refine OK.seq ?_
      refine OK.block ?_
      refine OK.seq ?_
      refine OK.regionDraw follows (.c (S.move .none rfl (.tmp rfl rfl))
        (.c (S.move .none rfl (.tmp rfl rfl))
        (.c (S.indexM si99 .none rfl (.tmp rfl rfl) (.tmp rfl rfl) rfl (by omega) rfl)
        (.c (S.loadN ti115 .none rfl (.tmp rfl rfl) rfl rfl)
        (.c (S.move .none rfl (.tmp rfl rfl))
        (.c (S.move .none rfl (.tmp rfl rfl))
        (.c (S.indexM si99 .none rfl (.tmp rfl rfl) (.tmp rfl rfl) rfl (by omega) rfl)
        (.c (S.loadN ti115 .none rfl (.tmp rfl rfl) rfl rfl)
        (.c (S.aneq [a[i].tick, a[i].channel, a[i].by_] [b[i].tick, b[i].channel, b[i].by_] eq115 .none rfl (.tmp rfl rfl) (.tmp rfl rfl) rfl rfl rfl rfl)
        .nil))))))))) (by kernel_rfl) ?_
      refine Ab.D.code ?_
      refine OK.condD rfl rfl (fun c25 => ?_) (fun c25 => ?_)
      ·
        refine OK.seq ?_
        refine OK.reg ?_
        refine RK.c (S.assign .none rfl .cbool) ?_
        refine RK.nil ?_
        refine Ab.D.code ?_
        refine OK.ret (Ret.r1 (.tmp rfl rfl (.c (.same rfl) rfl) rfl) ?_)
        exact ret_F (fun e => by subst e; exact c25 rfl)
      ·
        refine OK.skip ?_
        refine Ab.D.blk ?_
        refine Ab.D.code ?_
        refine OK.reg ?_
        refine RK.c (S.move .none rfl (.tmp rfl rfl)) ?_
        refine RK.c (S.add .none rfl (.tmp rfl rfl) (.cint rfl) (IntWalk.i64_in _ (by omega)) (IntWalk.i64_in _ (by omega))) ?_
        refine RK.c (S.assign .none rfl (.tmp rfl rfl)) ?_
        refine RK.nil ?_
        refine Ab.D.lp ⟨i + 1, ⟨by omega, ?_⟩, (by omega), rfl, rfl, rfl, trivial⟩
        simp only [ne_eq, Decidable.not_not] at c25
        exact take_eq_step (by omega) (by omega) ht (dev_ext c25)
    ·
      refine OK.exit rfl ?_
      refine Ab.D.code ?_
      refine OK.seq ?_
      refine OK.reg ?_
      refine RK.c (S.assign .none rfl .cbool) ?_
      refine RK.nil ?_
      refine Ab.D.code ?_
      refine OK.ret (Ret.r1 (.tmp rfl rfl (.c (.same rfl) rfl) rfl) ?_)
      exact ret_T (take_eq_all hl (by omega) ht)

end Go.Proofs.Ytfjldfkgjejpmaa
