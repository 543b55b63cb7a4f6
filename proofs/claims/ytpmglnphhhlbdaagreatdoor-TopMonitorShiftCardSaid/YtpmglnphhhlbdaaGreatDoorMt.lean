import Derived.Test.YtpmglnphhhlbdaaGreatDoorGs
import Derived.Test.YtpmglnphhhlbdaaGreatDoorMs
import Derived.Test.YtpmglnphhhlbdaaGreatDoorTz
import Derived.Test.YtpmglnphhhlbdaaGreatDoorWz0
namespace Go.Proofs.YtpmglnphhhlbdaaGreatDoor
open Go.Ab
structure ShiftX where
  good : List Record
  trim : Int
  cycles : List (List Frame)
def ShiftX.cs (x : ShiftX) : List X := [.sl (x.good.map Record.cs), .int .i64 x.trim, .sl (x.cycles.map fun l => [.sl (l.map Frame.cs)])]
theorem sh_shift {xs : List X} (h : Shape (.cons (.sl (.st (.cons (.sl (.st (.cons .bool (.cons (.sl (.int .i64)) .nil)))) .nil))) (.cons (.int .i64) (.cons (.sl (.sl (.st (.cons (.int .i64) (.cons (.sl (.int .i64)) .nil))))) .nil))) xs) : ∃ p : ShiftX, xs = p.cs := by
  obtain ⟨a, b, rfl, ⟨rows, rfl, hr⟩, c, d, rfl, ⟨n, rfl⟩, e, f, rfl, ⟨rows2, rfl, hr2⟩, rfl⟩ := h
  obtain ⟨l, rfl⟩ := rows_of (f := Record.cs) (fun r h => sh_record (hr r h))
  obtain ⟨l2, rfl⟩ := rows_of (f := fun l : List Frame => [X.sl (l.map Frame.cs)]) (fun r h => by
    obtain ⟨rows3, h1, hr3⟩ := hr2 r h
    obtain ⟨l3, rfl⟩ := rows_of (f := Frame.cs) (fun r h => sh_frame (hr3 r h))
    exact ⟨l3, h1⟩)
  exact ⟨⟨l, n, l2⟩, rfl⟩
def goodT (p : Plan) (x : ShiftX) : Bool := decide (planErr p = 0) && (decide ((x.good.length : Int) ≤ 8) && (decide (recsErr p x.good = 0) && decide (trimErr x.trim x.good.length = 0)))
theorem good_all {p : Plan} {x : ShiftX} (h : goodT p x = true) : planErr p = 0 ∧ x.good.length ≤ 8 ∧ recsErr p x.good = 0 ∧ trimErr x.trim x.good.length = 0 := by
  unfold goodT at h
  simp only [Bool.and_eq_true, decide_eq_true_eq] at h
  exact ⟨h.1, by omega, h.2.2.1, h.2.2.2⟩
theorem itoa_1 {n : Nat} (h : n < 10) : Lib.itoa (n : Int) = [UInt8.ofNat (48 + n)] := by rw [itoa_nn (by omega), Int.toNat_natCast, Lib.decDigits_one h]
theorem itoa_2 {n : Nat} (h : ¬ n < 10) (h2 : n / 10 < 10) : Lib.itoa (n : Int) = [UInt8.ofNat (48 + n / 10), UInt8.ofNat (48 + n % 10)] := by rw [itoa_nn (by omega), Int.toNat_natCast, dec_big h, Lib.decDigits_one h2]; rfl
theorem fmt_envE : fmtEnv envE = [51, 32, 48, 59, 49, 48, 32, 49, 51, 32, 53, 32, 54, 59, 49, 49, 32, 49, 50, 32, 52, 32, 53] := by
  have e0 : Lib.itoa 0 = [48] := itoa_1 (n := 0) (by decide)
  have e3 : Lib.itoa 3 = [51] := itoa_1 (n := 3) (by decide)
  have e4 : Lib.itoa 4 = [52] := itoa_1 (n := 4) (by decide)
  have e5 : Lib.itoa 5 = [53] := itoa_1 (n := 5) (by decide)
  have e6 : Lib.itoa 6 = [54] := itoa_1 (n := 6) (by decide)
  have e10 : Lib.itoa 10 = [49, 48] := itoa_2 (n := 10) (by decide) (by decide)
  have e11 : Lib.itoa 11 = [49, 49] := itoa_2 (n := 11) (by decide) (by decide)
  have e12 : Lib.itoa 12 = [49, 50] := itoa_2 (n := 12) (by decide) (by decide)
  have e13 : Lib.itoa 13 = [49, 51] := itoa_2 (n := 13) (by decide) (by decide)
  simp only [fmtEnv, envE, rowI, ends, numsI, List.map_cons, List.map_nil, e0, e3, e4, e5, e6, e10, e11, e12, e13]
  rfl
theorem sh_fmt : CtT Tryz.prog 13 [.agg envE.cs] (.str [51, 32, 48, 59, 49, 48, 32, 49, 51, 32, 53, 32, 54, 59, 49, 49, 32, 49, 50, 32, 52, 32, 53]) := by
  rw [← fmt_envE]
  exact mon_FormatEnvelope (x := envE) (by decide) (by decide)
theorem ev_scal (l : List Event) : ∀ q ∈ l.map Event.cs, ∀ x ∈ q, scal1 x = true := by
  intro q hq x hx
  obtain ⟨e, _, rfl⟩ := List.mem_map.1 hq
  simp only [Event.cs, List.mem_cons, List.not_mem_nil, or_false] at hx
  rcases hx with rfl | rfl <;> rfl
theorem verd_0i {x : Envelope} {r : Record} (h : ((lostT r).length : Int) = 0) : (verdT x r = 0 ↔ ((devT x r).length : Int) = 0) := by
  rw [verd_0 (by omega)]
  omega
theorem verd_1i {x : Envelope} {r : Record} (h : ¬ ((lostT r).length : Int) = 0) : ¬ verdT x r = 0 := verd_1 (by omega)
theorem top_shown  : CtT Tryz.prog 30 [] (.bool true) := by
 refine CtT.intro (rs := [.tmp 0]) Tryz.func30 rfl Tryz.ntmps30 Tryz.results30 rfl rfl rfl fun w h hT => ?_
 refine OK.seq (OK.reg ?_)
 refine RK.c (S.assign .none rfl .cbool) ?_
 refine RK.nil (Ab.D.code (OK.seq (OK.reg ?_)))
 refine RK.c (S.call (law_Plan) Tryz.call45 .none rfl .nil rfl) ?_
 refine RK.c (S.call (law_Records) Tryz.call46 .none rfl .nil rfl) ?_
 refine RK.c (S.call (aw_env) Tryz.call32 .none rfl (.cons (.tmp rfl rfl) (.cons (.tmp rfl rfl) (.cons (.cint rfl) .nil))) rfl) ?_
 refine RK.c (S.move .none rfl (.tmp rfl rfl)) ?_
 refine RK.c (S.extract .none rfl (.tmp rfl rfl) rfl rfl) ?_
 refine RK.c (S.extract .none rfl (.tmp rfl rfl) rfl rfl) ?_
 refine RK.c (S.alloc (k := 1) ze30 rfl .none rfl) ?_
 refine RK.c (S.store ti30 .none (.tmp rfl rfl) (.tmp rfl rfl) rfl rfl rfl rfl rfl rfl) ?_
 refine RK.c (S.assign .none rfl (.tmp rfl rfl)) ?_
 refine RK.nil (Ab.D.code (OK.seq (OK.reg ?_)))
 refine RK.c (S.build bu111 rfl .none rfl (.cons (.cint rfl) (.cons (.cint rfl) (.cons (.cint rfl) .nil))) rfl rfl) ?_
 refine RK.c (S.mkData (rows := [[_], [_], [_], [_]]) ai25 .none rfl (.cons (.cint rfl) (.cons (.cint rfl) (.cons (.cint rfl) (.cons (.cint rfl) .nil)))) rfl rfl rfl rfl rfl rfl rfl) ?_
 refine RK.c (S.call (aw_drift) Tryz.call50 .none rfl (.cons (.tmp rfl rfl) (.cons (.tmp rfl rfl) .nil)) rfl) ?_
 refine RK.c (S.move .none rfl (.tmp rfl rfl)) ?_
 refine RK.c (S.extract .none rfl (.tmp rfl rfl) rfl rfl) ?_
 refine RK.c (S.extract .none rfl (.tmp rfl rfl) rfl rfl) ?_
 refine RK.c (S.extract .none rfl (.tmp rfl rfl) rfl rfl) ?_
 refine RK.c (S.assign .none rfl (.tmp rfl rfl)) ?_
 refine RK.c (S.assign .none rfl (.tmp rfl rfl)) ?_
 refine RK.c (S.assign .none rfl (.tmp rfl rfl)) ?_
 refine RK.nil (Ab.D.code (OK.seq (OK.reg ?_)))
 refine RK.c (S.move .none rfl (.tmp rfl rfl)) ?_
 refine RK.c (S.eql .none rfl (.tmp rfl rfl) (.cint rfl)) ?_
 refine RK.c (S.move .none rfl (.tmp rfl rfl)) ?_
 refine RK.c (S.bloadN ti30 (.yes rfl rfl rfl rfl) rfl (.tmp rfl rfl) rfl rfl rfl rfl) ?_
 refine RK.c (S.callT (sh_fmt) hT Tryz.call13 (.yes rfl rfl rfl rfl) rfl (.cons (.tmp rfl rfl) .nil) rfl) ?_
 refine RK.c (S.seql (.yes rfl rfl rfl rfl) rfl (.tmp rfl rfl) (.cstr (l := [51, 32, 48, 59, 49, 48, 32, 49, 51, 32, 53, 32, 54, 59, 49, 49, 32, 49, 50, 32, 52, 32, 53]) rfl (by decide))) ?_
 refine RK.c (S.pickT .none rfl (.tmp rfl rfl) (.tmp rfl rfl) rfl) ?_
 refine RK.c (S.move .none rfl (.tmp rfl rfl)) ?_
 refine RK.c (S.move (.yes rfl rfl rfl rfl) rfl (.tmp rfl rfl)) ?_
 refine RK.c (S.eql (.yes rfl rfl rfl rfl) rfl (.tmp rfl rfl) (.cint rfl)) ?_
 refine RK.c (S.pickT .none rfl (.tmp rfl rfl) (.tmp rfl rfl) rfl) ?_
 refine RK.c (S.move .none rfl (.tmp rfl rfl)) ?_
 refine RK.c (S.move (.yes rfl rfl rfl rfl) rfl (.tmp rfl rfl)) ?_
 refine RK.c (S.eql (.yes rfl rfl rfl rfl) rfl (.tmp rfl rfl) (.cint rfl)) ?_
 refine RK.c (S.pickT .none rfl (.tmp rfl rfl) (.tmp rfl rfl) rfl) ?_
 refine RK.c (S.move .none rfl (.tmp rfl rfl)) ?_
 refine RK.c (S.move (.yes rfl rfl rfl rfl) rfl (.tmp rfl rfl)) ?_
 refine RK.c (S.eql (.yes rfl rfl rfl rfl) rfl (.tmp rfl rfl) (.cint rfl)) ?_
 refine RK.c (S.pickT .none rfl (.tmp rfl rfl) (.tmp rfl rfl) rfl) ?_
 refine RK.c (S.assign .none rfl (.tmp rfl rfl)) ?_
 refine RK.nil (Ab.D.code ?_)
 refine OK.ret (Ret.r1 (.tmp rfl rfl (.c (.same rfl) rfl) rfl) ?_)
 rfl
theorem top_good {p : Plan} {x : ShiftX} : Ct Tryz.prog 31 [.agg p.cs, .agg x.cs] (.bool (goodT p x)) := by
 refine Ct.intro (rs := [.tmp 4]) Tryz.func31 rfl Tryz.ntmps31 Tryz.results31 rfl rfl rfl fun w h => ?_
 refine OK.seq (OK.reg ?_)
 refine RK.c (S.box (k := 2) rfl .none rfl (.tmp rfl rfl) rfl) ?_
 refine RK.c (S.box (k := 3) rfl .none rfl (.tmp rfl rfl) rfl) ?_
 refine RK.c (S.assign .none rfl .cbool) ?_
 refine RK.nil (Ab.D.code (OK.seq (OK.reg ?_)))
 refine RK.c (S.bloadN ti24 .none rfl (.tmp rfl rfl) rfl rfl rfl rfl) ?_
 refine RK.c (S.call (ref_PlanErr (p := p)) Tryz.call27 .none rfl (.cons (.tmp rfl rfl) .nil) rfl) ?_
 refine RK.c (S.eql .none rfl (.tmp rfl rfl) (.cint rfl)) ?_
 refine RK.c (S.move .none rfl (.tmp rfl rfl)) ?_
 refine RK.splitD (t := 8) rfl (fun g8 => ?_) (fun g8 => ?_)
 ·
  have hp0 : planErr p = 0 := g8
  refine RK.c (S.bfield fi66_0 (.yes rfl rfl rfl rfl) rfl (.tmp rfl rfl)) ?_
  refine RK.c (S.bload1 ti63 (.yes rfl rfl rfl rfl) rfl (.tmp rfl rfl) rfl rfl rfl rfl) ?_
  refine RK.c (S.lenM si63 (.yes rfl rfl rfl rfl) rfl (.tmp rfl rfl)) ?_
  refine RK.c (S.leq (.yes rfl rfl rfl rfl) rfl (.tmp rfl rfl) (.cint rfl)) ?_
  refine RK.c (S.pickT .none rfl (.tmp rfl rfl) (.tmp rfl rfl) rfl) ?_
  refine RK.c (S.move .none rfl (.tmp rfl rfl)) ?_
  refine RK.splitD (t := 14) rfl (fun g14 => ?_) (fun g14 => ?_)
  ·
   have hx8 : (x.good.length : Int) ≤ 8 := g14
   refine RK.c (S.bloadN ti24 (.yes rfl rfl rfl rfl) rfl (.tmp rfl rfl) rfl rfl rfl rfl) ?_
   refine RK.c (S.bfield fi66_0 (.yes rfl rfl rfl rfl) rfl (.tmp rfl rfl)) ?_
   refine RK.c (S.bload1 ti63 (.yes rfl rfl rfl rfl) rfl (.tmp rfl rfl) rfl rfl rfl rfl) ?_
   refine RK.c (S.call (ref_RecordsErr (p := p) (l := x.good) hp0) Tryz.call77 (.yes rfl rfl rfl rfl) rfl (.cons (.tmp rfl rfl) (.cons (.tmp rfl rfl) .nil)) rfl) ?_
   refine RK.c (S.eql (.yes rfl rfl rfl rfl) rfl (.tmp rfl rfl) (.cint rfl)) ?_
   refine RK.c (S.pickT .none rfl (.tmp rfl rfl) (.tmp rfl rfl) rfl) ?_
   refine RK.c (S.move .none rfl (.tmp rfl rfl)) ?_
   refine RK.splitD (t := 21) rfl (fun g21 => ?_) (fun g21 => ?_)
   ·
    refine RK.c (S.bfield fi66_1 (.yes rfl rfl rfl rfl) rfl (.tmp rfl rfl)) ?_
    refine RK.c (S.bload1 ti3 (.yes rfl rfl rfl rfl) rfl (.tmp rfl rfl) rfl rfl rfl rfl) ?_
    refine RK.c (S.bfield fi66_0 (.yes rfl rfl rfl rfl) rfl (.tmp rfl rfl)) ?_
    refine RK.c (S.bload1 ti63 (.yes rfl rfl rfl rfl) rfl (.tmp rfl rfl) rfl rfl rfl rfl) ?_
    refine RK.c (S.lenM si63 (.yes rfl rfl rfl rfl) rfl (.tmp rfl rfl)) ?_
    refine RK.c (S.call (ref_TrimErr (by omega)) Tryz.call78 (.yes rfl rfl rfl rfl) rfl (.cons (.tmp rfl rfl) (.cons (.tmp rfl rfl) .nil)) rfl) ?_
    refine RK.c (S.eql (.yes rfl rfl rfl rfl) rfl (.tmp rfl rfl) (.cint rfl)) ?_
    refine RK.c (S.pickT .none rfl (.tmp rfl rfl) (.tmp rfl rfl) rfl) ?_
    refine RK.c (S.assign .none rfl (.tmp rfl rfl)) ?_
    refine RK.nil (Ab.D.code ?_)
    refine OK.ret (Ret.r1 (.tmp rfl rfl (.c (.same rfl) rfl) rfl) ?_)
    exact ret_b (by unfold goodT; rw [decide_eq_true g8, decide_eq_true g14, decide_eq_true g21]; rfl)
   ·
    refine RK.c (S.skip rfl rfl rfl rfl rfl) ?_
    refine RK.c (S.skip rfl rfl rfl rfl rfl) ?_
    refine RK.c (S.skip rfl rfl rfl rfl rfl) ?_
    refine RK.c (S.skip rfl rfl rfl rfl rfl) ?_
    refine RK.c (S.skip rfl rfl rfl rfl rfl) ?_
    refine RK.c (S.skip rfl rfl rfl rfl rfl) ?_
    refine RK.c (S.skip rfl rfl rfl rfl rfl) ?_
    refine RK.c (S.pickF .none rfl (.tmp rfl rfl) .cbool rfl) ?_
    refine RK.c (S.assign .none rfl (.tmp rfl rfl)) ?_
    refine RK.nil (Ab.D.code ?_)
    refine OK.ret (Ret.r1 (.tmp rfl rfl (.c (.same rfl) rfl) rfl) ?_)
    exact ret_b (by unfold goodT; rw [decide_eq_false g21]; simp)
  ·
   refine RK.c (S.skip rfl rfl rfl rfl rfl) ?_
   refine RK.c (S.skip rfl rfl rfl rfl rfl) ?_
   refine RK.c (S.skip rfl rfl rfl rfl rfl) ?_
   refine RK.c (S.skip rfl rfl rfl rfl rfl) ?_
   refine RK.c (S.skip rfl rfl rfl rfl rfl) ?_
   refine RK.c (S.pickF .none rfl (.tmp rfl rfl) .cbool rfl) ?_
   refine RK.c (S.move .none rfl (.tmp rfl rfl)) ?_
   refine RK.c (S.skip rfl rfl rfl rfl rfl) ?_
   refine RK.c (S.skip rfl rfl rfl rfl rfl) ?_
   refine RK.c (S.skip rfl rfl rfl rfl rfl) ?_
   refine RK.c (S.skip rfl rfl rfl rfl rfl) ?_
   refine RK.c (S.skip rfl rfl rfl rfl rfl) ?_
   refine RK.c (S.skip rfl rfl rfl rfl rfl) ?_
   refine RK.c (S.skip rfl rfl rfl rfl rfl) ?_
   refine RK.c (S.pickF .none rfl (.tmp rfl rfl) .cbool rfl) ?_
   refine RK.c (S.assign .none rfl (.tmp rfl rfl)) ?_
   refine RK.nil (Ab.D.code ?_)
   refine OK.ret (Ret.r1 (.tmp rfl rfl (.c (.same rfl) rfl) rfl) ?_)
   exact ret_b (by unfold goodT; rw [decide_eq_false g14]; simp)
 ·
  refine RK.c (S.skip rfl rfl rfl rfl rfl) ?_
  refine RK.c (S.skip rfl rfl rfl rfl rfl) ?_
  refine RK.c (S.skip rfl rfl rfl rfl rfl) ?_
  refine RK.c (S.skip rfl rfl rfl rfl rfl) ?_
  refine RK.c (S.pickF .none rfl (.tmp rfl rfl) .cbool rfl) ?_
  refine RK.c (S.move .none rfl (.tmp rfl rfl)) ?_
  refine RK.c (S.skip rfl rfl rfl rfl rfl) ?_
  refine RK.c (S.skip rfl rfl rfl rfl rfl) ?_
  refine RK.c (S.skip rfl rfl rfl rfl rfl) ?_
  refine RK.c (S.skip rfl rfl rfl rfl rfl) ?_
  refine RK.c (S.skip rfl rfl rfl rfl rfl) ?_
  refine RK.c (S.pickF .none rfl (.tmp rfl rfl) .cbool rfl) ?_
  refine RK.c (S.move .none rfl (.tmp rfl rfl)) ?_
  refine RK.c (S.skip rfl rfl rfl rfl rfl) ?_
  refine RK.c (S.skip rfl rfl rfl rfl rfl) ?_
  refine RK.c (S.skip rfl rfl rfl rfl rfl) ?_
  refine RK.c (S.skip rfl rfl rfl rfl rfl) ?_
  refine RK.c (S.skip rfl rfl rfl rfl rfl) ?_
  refine RK.c (S.skip rfl rfl rfl rfl rfl) ?_
  refine RK.c (S.skip rfl rfl rfl rfl rfl) ?_
  refine RK.c (S.pickF .none rfl (.tmp rfl rfl) .cbool rfl) ?_
  refine RK.c (S.assign .none rfl (.tmp rfl rfl)) ?_
  refine RK.nil (Ab.D.code ?_)
  refine OK.ret (Ret.r1 (.tmp rfl rfl (.c (.same rfl) rfl) rfl) ?_)
  exact ret_b (by unfold goodT; rw [decide_eq_false g8]; simp)
theorem refO_CopyEvents {l : List Event} (hlen : l.length ≤ 100000) : CtO Tryz.prog 43 [.sl (l.map Event.cs)] 2 (l.map Event.cs) := by
 refine CtO.intro Tryz.func43 rfl Tryz.ntmps43 Tryz.results43 rfl rfl rfl fun w h => ?_
 refine OK.seq (OK.reg ?_)
 refine RK.c (S.assign .none rfl .cnil) ?_
 refine RK.nil (Ab.D.code (OK.seq (OK.reg ?_)))
 refine RK.c (S.mkSlice (k := 3) (rows := []) ai70 .none rfl .nil rfl rfl rfl rfl rfl rfl rfl) ?_
 refine RK.c (S.move .none rfl (.tmp rfl rfl)) ?_
 refine RK.c (S.appendSl ai70 .none rfl (.tmp rfl rfl) rfl (by first | rfl | (simp; done) | (simp; omega)) (.tmp rfl rfl) (by intro q hq; obtain ⟨x, _, rfl⟩ := List.mem_map.1 hq; rfl) (List.length_map ..) (by omega) (by simp only [maxLen]; omega)) ?_
 refine RK.c (S.assign .none rfl (.tmp rfl rfl)) ?_
 refine RK.nil (Ab.D.code ?_)
 refine OK.ret (RetO.mk rfl rfl rfl (by first | rfl | (simp; done) | (simp; omega)) ?_)
 rfl
set_option maxHeartbeats 8000000 in
theorem law_TopMonitorShift {p : Plan} {x : ShiftX} : CtT Tryz.prog 4 [.agg p.cs, .agg x.cs] (.bool true) := by
 refine CtT.intro (rs := [.tmp 4]) Tryz.func4 rfl Tryz.ntmps4 Tryz.results4 rfl rfl rfl fun w h hT => ?_
 refine OK.seq (OK.reg ?_)
 refine RK.c (S.box (k := 2) rfl .none rfl (.tmp rfl rfl) rfl) ?_
 refine RK.c (S.box (k := 3) rfl .none rfl (.tmp rfl rfl) rfl) ?_
 refine RK.c (S.assign .none rfl .cbool) ?_
 refine RK.nil (Ab.D.code (OK.seq (OK.seq (OK.reg ?_))))
 refine RK.c (S.callT (top_shown) hT Tryz.call30 .none rfl .nil rfl) ?_
 refine RK.c (S.not .none rfl (.tmp rfl rfl)) ?_
 refine RK.nil (Ab.D.code ?_)
 refine OK.condF rfl rfl rfl ?_
 refine OK.skip ?_
 refine Ab.D.code (OK.seq (OK.seq (OK.reg ?_)))
 refine RK.c (S.bloadN ti24 .none rfl (.tmp rfl rfl) rfl rfl rfl rfl) ?_
 refine RK.c (S.bloadN ti66 .none rfl (.tmp rfl rfl) rfl rfl rfl rfl) ?_
 refine RK.c (S.call (top_good (p := p) (x := x)) Tryz.call31 .none rfl (.cons (.tmp rfl rfl) (.cons (.tmp rfl rfl) .nil)) rfl) ?_
 refine RK.c (S.not .none rfl (.tmp rfl rfl)) ?_
 refine RK.c (S.move .none rfl (.tmp rfl rfl)) ?_
 refine RK.split (t := 39) rfl (fun g39 => ?_) (fun g39 => ?_)
 ·
  refine RK.c (S.skip rfl rfl rfl rfl rfl) ?_
  refine RK.c (S.skip rfl rfl rfl rfl rfl) ?_
  refine RK.c (S.skip rfl rfl rfl rfl rfl) ?_
  refine RK.c (S.skip rfl rfl rfl rfl rfl) ?_
  refine RK.c (S.pickT .none rfl (.tmp rfl rfl) .cbool rfl) ?_
  refine RK.nil (Ab.D.code ?_)
  refine OK.condT rfl rfl rfl ?_
  refine OK.seq (OK.reg ?_)
  refine RK.c (S.assign .none rfl .cbool) ?_
  refine RK.nil (Ab.D.code ?_)
  refine OK.ret (Ret.r1 (.tmp rfl rfl (.c (.same rfl) rfl) rfl) ?_)
  first | rfl | exact ret_b (decide_eq_true rfl) | exact ret_b (decide_eq_true (by rw [hie]))
 ·
  have hgd : goodT p x = true := by simpa using g39
  obtain ⟨h0, h8, hrs, htr0⟩ := good_all hgd
  have hpt := planErr_ticks h0
  have hpc := planErr_cols h0
  have hL := learn_of h0 hrs
  have hLl := hL.len
  have hop : openRecs p x.good = 0 := by rw [openRecs, if_neg (by omega), hrs]
  have e1 : envErr p x.good x.trim = 0 := by rw [envErr, if_neg (by omega), htr0]
  have hv := learn_valid hL htr0
  obtain ⟨O, hO⟩ : ∃ y, y = envT p x.good x.trim := ⟨_, rfl⟩
  have kO : Ct Tryz.prog 32 [.agg p.cs, .sl (x.good.map Record.cs), .int .i64 x.trim] (.tup [.agg O.cs, .int .i64 0]) := ct_res (mon_EnvelopeOf (p := p) (l := x.good) (trim := x.trim)) (by rw [envOf, if_pos e1, e1, hO])
  have kOe : Ct Tryz.prog 29 [.agg p.cs, .agg O.cs] (.int .i64 0) := ct_res (ref_EnvelopeErr (p := p) (x := O)) (by rw [hO, hv])
  have hOv : (envChk p O).2 = 0 := by rw [hO, hv]
  obtain ⟨w1, w2⟩ := W_len (p := p) (W := O.rows) (by omega) (by rw [hO])
  have hwr := hL.whole.rows
  have hwv := hL.whole.vals
  clear hO hv e1 hop hL
  refine RK.c (S.bfield fi66_2 (.yes rfl rfl rfl rfl) rfl (.tmp rfl rfl)) ?_
  refine RK.c (S.bload1 ti64 (.yes rfl rfl rfl rfl) rfl (.tmp rfl rfl) rfl rfl rfl rfl) ?_
  refine RK.c (S.lenM si64 (.yes rfl rfl rfl rfl) rfl (.tmp rfl rfl)) ?_
  refine RK.c (S.gtr (.yes rfl rfl rfl rfl) rfl (.tmp rfl rfl) (.cint rfl)) ?_
  refine RK.c (S.pickF .none rfl (.tmp rfl rfl) (.tmp rfl rfl) rfl) ?_
  refine RK.nil (Ab.D.code ?_)
  refine OK.condD rfl rfl (fun c44 => ?_) (fun c44 => ?_)
  ·
   refine OK.seq (OK.reg ?_)
   refine RK.c (S.assign .none rfl .cbool) ?_
   refine RK.nil (Ab.D.code ?_)
   refine OK.ret (Ret.r1 (.tmp rfl rfl (.c (.same rfl) rfl) rfl) ?_)
   first | rfl | exact ret_b (decide_eq_true rfl) | exact ret_b (decide_eq_true (by rw [hie]))
  ·
   have hc10 : x.cycles.length ≤ 10 := by omega
   refine OK.skip ?_
   refine Ab.D.code ?_
   refine OK.seq ?_
   refine OK.regionDraw follows (.c (S.bloadN ti24 .none rfl (.tmp rfl rfl) rfl rfl rfl rfl)
    (.c (S.call (ref_CopyPlan (p := p) (by omega)) Tryz.call10 .none rfl (.cons (.tmp rfl rfl) .nil) rfl)
    (.c (S.bfield fi66_0 .none rfl (.tmp rfl rfl))
    (.c (S.bload1 ti63 .none rfl (.tmp rfl rfl) rfl rfl rfl rfl)
    (.c (S.call (ref_CopyRecords (l := x.good) (by omega) (fun i h => by have := hwr i h; omega) (fun i h k h2 => by have := hwv i h k h2; omega)) Tryz.call33 .none rfl (.cons (.tmp rfl rfl) .nil) rfl)
    (.c (S.bfield fi66_1 .none rfl (.tmp rfl rfl))
    (.c (S.bload1 ti3 .none rfl (.tmp rfl rfl) rfl rfl rfl rfl)
    (.c (S.call (kO) Tryz.call32 .none rfl (.cons (.tmp rfl rfl) (.cons (.tmp rfl rfl) (.cons (.tmp rfl rfl) .nil))) rfl)
    (.c (S.move .none rfl (.tmp rfl rfl))
    (.c (S.extract .none rfl (.tmp rfl rfl) rfl rfl)
    (.c (S.extract .none rfl (.tmp rfl rfl) rfl rfl)
    (.c (S.alloc (k := 5) ze30 rfl .none rfl)
    (.c (S.store ti30 .none (.tmp rfl rfl) (.tmp rfl rfl) rfl rfl rfl rfl rfl rfl)
    (.c (S.assign .none rfl (.tmp rfl rfl))
    .nil)))))))))))))) (by kernel_rfl) ?_
   refine Ab.D.code (OK.seq (OK.seq (OK.reg ?_)))
   refine RK.c (S.move .none rfl (.tmp rfl rfl)) ?_
   refine RK.c (S.neq .none rfl (.tmp rfl rfl) (.cint rfl)) ?_
   refine RK.c (S.move .none rfl (.tmp rfl rfl)) ?_
   refine RK.c (S.bloadN ti24 (.yes rfl rfl rfl rfl) rfl (.tmp rfl rfl) rfl rfl rfl rfl) ?_
   refine RK.c (S.bloadN ti30 (.yes rfl rfl rfl rfl) rfl (.tmp rfl rfl) rfl rfl rfl rfl) ?_
   refine RK.c (S.call (kOe) Tryz.call29 (.yes rfl rfl rfl rfl) rfl (.cons (.tmp rfl rfl) (.cons (.tmp rfl rfl) .nil)) rfl) ?_
   refine RK.c (S.neq (.yes rfl rfl rfl rfl) rfl (.tmp rfl rfl) (.cint rfl)) ?_
   refine RK.c (S.pickF .none rfl (.tmp rfl rfl) (.tmp rfl rfl) rfl) ?_
   refine RK.nil (Ab.D.code ?_)
   refine OK.condF rfl rfl rfl ?_
   refine OK.skip ?_
   refine Ab.D.code (OK.seq (OK.reg ?_))
   refine RK.c (S.nilOwn (k := 7) (sz := 2) .none rfl) ?_
   refine RK.nil (Ab.D.code (OK.seq (OK.reg ?_)))
   refine RK.c (S.assign .none rfl (.cint rfl)) ?_
   refine RK.nil (Ab.D.code (OK.seq (OK.seq (OK.reg ?_))))
   refine RK.c (S.assign .none rfl (.cint rfl)) ?_
   refine RK.nil (Ab.D.code ?_)
   refine OK.block ?_
   refine OK.loop3 [2, 3, 5, 7] (fun (i : Nat) (g : Nat) (E : List Event) => [(2, .ptr 2 0), (1002, .box p.cs), (3, .ptr 3 0), (1003, .box x.cs), (5, .ptr 5 0), (1005, .box O.cs), (7, .own 7 E.length), (2007, .arr 2 (E.map Event.cs)), (8, .int .i64 (g : Int)), (9, .int .i64 i)]) (fun i g E => i ≤ x.cycles.length ∧ Shift i g E) (fun i g E => x.cycles.length - i) (0) (0) ([]) ⟨Nat.zero_le _, shift_0⟩ ⟨rfl, rfl, rfl, rfl, rfl, rfl, (lk_own (by first | rfl | (simp; done) | (simp; omega))), (lk_arr (by first | rfl | (simp; done) | (simp; omega))), rfl, rfl, trivial⟩ (fun _ _ _ => rfl) ?_
   rintro i g E ⟨hi, hS⟩
   have hgi : g ≤ i := by have := hS.bad; omega
   have hEl : E.length ≤ 30 := by have := hS.len; omega
   refine OK.seq (OK.seq (OK.reg ?_))
   refine RK.c (S.move .none rfl (.tmp rfl rfl)) ?_
   refine RK.c (S.bfield fi66_2 .none rfl (.tmp rfl rfl)) ?_
   refine RK.c (S.bload1 ti64 .none rfl (.tmp rfl rfl) rfl rfl rfl rfl) ?_
   refine RK.c (S.lenM si64 .none rfl (.tmp rfl rfl)) ?_
   refine RK.c (S.lss .none rfl (.tmp rfl rfl) (.tmp rfl rfl)) ?_
   refine RK.nil (Ab.D.code ?_)
   refine OK.condD rfl rfl (fun c68 => ?_) (fun c68 => ?_)
   ·
    have hil : i < x.cycles.length := by omega
    refine OK.skip ?_
    refine Ab.D.code ?_
    refine OK.seq ?_
    refine OK.block ?_
    refine OK.seq ?_
    refine OK.seq ?_
    by_cases g78 : (x.cycles[i].length : Int) > 20
    ·
     refine OK.regionDraw follows (.c (S.bfield fi66_2 .none rfl (.tmp rfl rfl))
      (.c (S.bload1 ti64 .none rfl (.tmp rfl rfl) rfl rfl rfl rfl)
      (.c (S.move .none rfl (.tmp rfl rfl))
      (.c (S.indexM (n := i) si64 .none rfl (.tmp rfl rfl) (.tmp rfl rfl) rfl (by omega) rfl)
      (.c (S.load1 ti71 .none rfl (.tmp rfl rfl) rfl)
      (.c (S.lenM si71 .none rfl (.tmp rfl rfl))
      (.c (S.gtr .none rfl (.tmp rfl rfl) (.cint rfl))
      (.c (S.move .none rfl (.tmp rfl rfl))
      (.c (S.skip rfl rfl rfl (by first | rfl | exact decide_eq_true g78 | exact decide_eq_false g78 | (rw [decide_eq_true g78]; rfl) | (rw [decide_eq_false g78]; rfl) | simp [*]) rfl)
      (.c (S.skip rfl rfl rfl (by first | rfl | exact decide_eq_true g78 | exact decide_eq_false g78 | (rw [decide_eq_true g78]; rfl) | (rw [decide_eq_false g78]; rfl) | simp [*]) rfl)
      (.c (S.skip rfl rfl rfl (by first | rfl | exact decide_eq_true g78 | exact decide_eq_false g78 | (rw [decide_eq_true g78]; rfl) | (rw [decide_eq_false g78]; rfl) | simp [*]) rfl)
      (.c (S.skip rfl rfl rfl (by first | rfl | exact decide_eq_true g78 | exact decide_eq_false g78 | (rw [decide_eq_true g78]; rfl) | (rw [decide_eq_false g78]; rfl) | simp [*]) rfl)
      (.c (S.skip rfl rfl rfl (by first | rfl | exact decide_eq_true g78 | exact decide_eq_false g78 | (rw [decide_eq_true g78]; rfl) | (rw [decide_eq_false g78]; rfl) | simp [*]) rfl)
      (.c (S.skip rfl rfl rfl (by first | rfl | exact decide_eq_true g78 | exact decide_eq_false g78 | (rw [decide_eq_true g78]; rfl) | (rw [decide_eq_false g78]; rfl) | simp [*]) rfl)
      (.c (S.skip rfl rfl rfl (by first | rfl | exact decide_eq_true g78 | exact decide_eq_false g78 | (rw [decide_eq_true g78]; rfl) | (rw [decide_eq_false g78]; rfl) | simp [*]) rfl)
      (.c (S.skip rfl rfl rfl (by first | rfl | exact decide_eq_true g78 | exact decide_eq_false g78 | (rw [decide_eq_true g78]; rfl) | (rw [decide_eq_false g78]; rfl) | simp [*]) rfl)
      (.c (S.pickT .none rfl (.tmp rfl rfl) .cbool (by first | rfl | exact decide_eq_true g78 | exact decide_eq_false g78 | (rw [decide_eq_true g78]; rfl) | (rw [decide_eq_false g78]; rfl) | simp [*]))
      .nil))))))))))))))))) (by kernel_rfl) ?_
     refine Ab.D.code ?_
     refine OK.condT rfl rfl rfl ?_
     refine OK.seq (OK.reg ?_)
     refine RK.c (S.assign .none rfl .cbool) ?_
     refine RK.nil (Ab.D.code ?_)
     refine OK.ret (Ret.r1 (.tmp rfl rfl (.c (.same rfl) rfl) rfl) ?_)
     first | rfl | exact ret_b (decide_eq_true rfl) | exact ret_b (decide_eq_true (by rw [hie]))
    ·
     refine OK.regionDraw follows (.c (S.bfield fi66_2 .none rfl (.tmp rfl rfl))
      (.c (S.bload1 ti64 .none rfl (.tmp rfl rfl) rfl rfl rfl rfl)
      (.c (S.move .none rfl (.tmp rfl rfl))
      (.c (S.indexM (n := i) si64 .none rfl (.tmp rfl rfl) (.tmp rfl rfl) rfl (by omega) rfl)
      (.c (S.load1 ti71 .none rfl (.tmp rfl rfl) rfl)
      (.c (S.lenM si71 .none rfl (.tmp rfl rfl))
      (.c (S.gtr .none rfl (.tmp rfl rfl) (.cint rfl))
      (.c (S.move .none rfl (.tmp rfl rfl))
      (.c (S.bloadN ti24 (.yes rfl rfl rfl (by first | rfl | exact decide_eq_true g78 | exact decide_eq_false g78 | (rw [decide_eq_true g78]; rfl) | (rw [decide_eq_false g78]; rfl) | simp [*])) rfl (.tmp rfl rfl) rfl rfl rfl rfl)
      (.c (S.bfield fi66_2 (.yes rfl rfl rfl (by first | rfl | exact decide_eq_true g78 | exact decide_eq_false g78 | (rw [decide_eq_true g78]; rfl) | (rw [decide_eq_false g78]; rfl) | simp [*])) rfl (.tmp rfl rfl))
      (.c (S.bload1 ti64 (.yes rfl rfl rfl (by first | rfl | exact decide_eq_true g78 | exact decide_eq_false g78 | (rw [decide_eq_true g78]; rfl) | (rw [decide_eq_false g78]; rfl) | simp [*])) rfl (.tmp rfl rfl) rfl rfl rfl rfl)
      (.c (S.move (.yes rfl rfl rfl (by first | rfl | exact decide_eq_true g78 | exact decide_eq_false g78 | (rw [decide_eq_true g78]; rfl) | (rw [decide_eq_false g78]; rfl) | simp [*])) rfl (.tmp rfl rfl))
      (.c (S.indexM (n := i) si64 (.yes rfl rfl rfl (by first | rfl | exact decide_eq_true g78 | exact decide_eq_false g78 | (rw [decide_eq_true g78]; rfl) | (rw [decide_eq_false g78]; rfl) | simp [*])) rfl (.tmp rfl rfl) (.tmp rfl rfl) rfl (by omega) rfl)
      (.c (S.load1 ti71 (.yes rfl rfl rfl (by first | rfl | exact decide_eq_true g78 | exact decide_eq_false g78 | (rw [decide_eq_true g78]; rfl) | (rw [decide_eq_false g78]; rfl) | simp [*])) rfl (.tmp rfl rfl) rfl)
      (.c (S.call (ref_FramesErr (p := p) (l := x.cycles[i]) hpt) Tryz.call34 (.yes rfl rfl rfl (by first | rfl | exact decide_eq_true g78 | exact decide_eq_false g78 | (rw [decide_eq_true g78]; rfl) | (rw [decide_eq_false g78]; rfl) | simp [*])) rfl (.cons (.tmp rfl rfl) (.cons (.tmp rfl rfl) .nil)) rfl)
      (.c (S.neq (.yes rfl rfl rfl (by first | rfl | exact decide_eq_true g78 | exact decide_eq_false g78 | (rw [decide_eq_true g78]; rfl) | (rw [decide_eq_false g78]; rfl) | simp [*])) rfl (.tmp rfl rfl) (.cint rfl))
      (.c (S.pickF .none rfl (.tmp rfl rfl) (.tmp rfl rfl) (by first | rfl | exact decide_eq_true g78 | exact decide_eq_false g78 | (rw [decide_eq_true g78]; rfl) | (rw [decide_eq_false g78]; rfl) | simp [*]))
      .nil))))))))))))))))) (by kernel_rfl) ?_
     refine Ab.D.code ?_
     refine OK.condD rfl rfl (fun c87 => ?_) (fun c87 => ?_)
     ·
      refine OK.seq (OK.reg ?_)
      refine RK.c (S.assign .none rfl .cbool) ?_
      refine RK.nil (Ab.D.code ?_)
      refine OK.ret (Ret.r1 (.tmp rfl rfl (.c (.same rfl) rfl) rfl) ?_)
      first | rfl | exact ret_b (decide_eq_true rfl) | exact ret_b (decide_eq_true (by rw [hie]))
     ·
      have hfe : framesErr p x.cycles[i] = 0 := Decidable.not_not.1 c87
      obtain ⟨hf1, hf2, hf3⟩ := framesErr_iff.1 hfe
      obtain ⟨hro, hrl⟩ := recT_ok h0 hfe
      have hrn := recT_len p x.cycles[i]
      have hfv : ∀ f ∈ x.cycles[i], f.values.length ≤ 6 := fun f hf => by have := (frameE_0 (hf2 f hf)).2; omega
      have hC20 : x.cycles[i].length ≤ 20 := by omega
      refine OK.skip ?_
      refine Ab.D.code (OK.seq (OK.reg ?_))
      refine RK.c (S.nilOwn (k := 10) (sz := 2) .none rfl) ?_
      refine RK.nil (Ab.D.code (OK.seq (OK.seq (OK.reg ?_))))
      refine RK.c (S.bfield fi66_2 .none rfl (.tmp rfl rfl)) ?_
      refine RK.c (S.bload1 ti64 .none rfl (.tmp rfl rfl) rfl rfl rfl rfl) ?_
      refine RK.c (S.move .none rfl (.tmp rfl rfl)) ?_
      refine RK.c (S.indexM (n := i) si64 .none rfl (.tmp rfl rfl) (.tmp rfl rfl) rfl (by omega) rfl) ?_
      refine RK.c (S.load1 ti71 .none rfl (.tmp rfl rfl) rfl) ?_
      refine RK.c (S.lenM si71 .none rfl (.tmp rfl rfl)) ?_
      refine RK.c (S.sub .none rfl (.tmp rfl rfl) (.cint rfl) (IntWalk.i64_in _ (by omega)) (IntWalk.i64_in _ (by omega))) ?_
      refine RK.c (S.assign .none rfl (.tmp rfl rfl)) ?_
      refine RK.nil (Ab.D.code ?_)
      refine OK.block ?_
      refine OK.loop (G := Nat) [2, 3, 5, 7, 10] (fun m => [(2, .ptr 2 0), (1002, .box p.cs), (3, .ptr 3 0), (1003, .box x.cs), (5, .ptr 5 0), (1005, .box O.cs), (7, .own 7 E.length), (2007, .arr 2 (E.map Event.cs)), (8, .int .i64 (g : Int)), (9, .int .i64 i), (10, .own 10 (backT x.cycles[i] m).length), (2010, .arr 2 ((backT x.cycles[i] m).map Frame.cs)), (11, .int .i64 ((x.cycles[i].length : Int) - 1 - m))]) (fun m => m ≤ x.cycles[i].length) (fun m => x.cycles[i].length - m) 0 (Nat.zero_le _) ⟨rfl, rfl, rfl, rfl, rfl, rfl, (lk_own (by first | rfl | (simp; done) | (simp; omega))), (lk_arr (by first | rfl | (simp; done) | (simp; omega))), rfl, rfl, rfl, rfl, (lkI (by omega)), trivial⟩ (fun _ => rfl) ?_
      rintro m hm
      refine OK.seq (OK.seq (OK.reg ?_))
      refine RK.c (S.move .none rfl (.tmp rfl rfl)) ?_
      refine RK.c (S.geq .none rfl (.tmp rfl rfl) (.cint rfl)) ?_
      refine RK.nil (Ab.D.code ?_)
      refine OK.condD rfl rfl (fun c96 => ?_) (fun c96 => ?_)
      ·
       have hm1 : m < x.cycles[i].length := by omega
       have hk1 : x.cycles[i].length - 1 - m < x.cycles[i].length := by omega
       have hbl := backT_len x.cycles[i] m
       have hfm := hf2 _ (List.getElem_mem hk1)
       have hvm := hfv _ (List.getElem_mem hk1)
       have hfl : (fmtFrame x.cycles[i][x.cycles[i].length - 1 - m]).length ≤ 100000 - 1 := by
        have := fmtFrame_len h0 hfm hvm
        omega
       have hPF : CtT Tryz.prog 19 [.str (fmtFrame x.cycles[i][x.cycles[i].length - 1 - m])] (.tup [.agg x.cycles[i][x.cycles[i].length - 1 - m].cs, .int .i64 0]) := by
        have h9 := mon_ParseFrame (l := fmtFrame x.cycles[i][x.cycles[i].length - 1 - m]) hfl
        rw [rt_frame h0 hfm] at h9
        exact h9
       refine OK.skip ?_
       refine Ab.D.code ?_
       refine OK.seq ?_
       refine OK.block ?_
       refine OK.seq (OK.reg ?_)
       refine RK.c (S.bfield fi66_2 .none rfl (.tmp rfl rfl)) ?_
       refine RK.c (S.bload1 ti64 .none rfl (.tmp rfl rfl) rfl rfl rfl rfl) ?_
       refine RK.c (S.move .none rfl (.tmp rfl rfl)) ?_
       refine RK.c (S.indexM (n := i) si64 .none rfl (.tmp rfl rfl) (.tmp rfl rfl) rfl (by omega) rfl) ?_
       refine RK.c (S.load1 ti71 .none rfl (.tmp rfl rfl) rfl) ?_
       refine RK.c (S.move .none rfl (.tmp rfl rfl)) ?_
       refine RK.c (S.indexM (n := (x.cycles[i].length - 1 - m)) si71 .none rfl (.tmp rfl rfl) (.tmp rfl rfl) (by omega) (by omega) rfl) ?_
       refine RK.c (S.loadN ti27 .none rfl (.tmp rfl rfl) rfl rfl) ?_
       refine RK.c (S.call (ref_CopyFrame (f := x.cycles[i][x.cycles[i].length - 1 - m]) (by omega)) Tryz.call12 .none rfl (.cons (.tmp rfl rfl) .nil) rfl) ?_
       refine RK.c (S.callT (mon_FormatFrame (f := x.cycles[i][x.cycles[i].length - 1 - m]) (by omega)) hT Tryz.call11 .none rfl (.cons (.tmp rfl rfl) .nil) rfl) ?_
       refine RK.c (S.callT (hPF) hT Tryz.call19 .none rfl (.cons (.tmp rfl rfl) .nil) rfl) ?_
       refine RK.c (S.move .none rfl (.tmp rfl rfl)) ?_
       refine RK.c (S.extract .none rfl (.tmp rfl rfl) rfl rfl) ?_
       refine RK.c (S.extract .none rfl (.tmp rfl rfl) rfl rfl) ?_
       refine RK.c (S.alloc (k := 12) ze27 rfl .none rfl) ?_
       refine RK.c (S.store ti27 .none (.tmp rfl rfl) (.tmp rfl rfl) rfl rfl rfl rfl rfl rfl) ?_
       refine RK.c (S.assign .none rfl (.tmp rfl rfl)) ?_
       refine RK.nil (Ab.D.code ?_)
       refine OK.seq ?_
       refine OK.seq ?_
       refine OK.regionDraw follows (.c (S.move .none rfl (.tmp rfl rfl))
        (.c (S.neq .none rfl (.tmp rfl rfl) (.cint rfl))
        (.c (S.move .none rfl (.tmp rfl rfl))
        (.c (S.bloadN ti27 (.yes rfl rfl rfl (by first | rfl | exact decide_eq_true g115 | exact decide_eq_false g115 | (rw [decide_eq_true g115]; rfl) | (rw [decide_eq_false g115]; rfl) | simp [*])) rfl (.tmp rfl rfl) rfl rfl rfl rfl)
        (.c (S.bfield fi66_2 (.yes rfl rfl rfl (by first | rfl | exact decide_eq_true g115 | exact decide_eq_false g115 | (rw [decide_eq_true g115]; rfl) | (rw [decide_eq_false g115]; rfl) | simp [*])) rfl (.tmp rfl rfl))
        (.c (S.bload1 ti64 (.yes rfl rfl rfl (by first | rfl | exact decide_eq_true g115 | exact decide_eq_false g115 | (rw [decide_eq_true g115]; rfl) | (rw [decide_eq_false g115]; rfl) | simp [*])) rfl (.tmp rfl rfl) rfl rfl rfl rfl)
        (.c (S.move (.yes rfl rfl rfl (by first | rfl | exact decide_eq_true g115 | exact decide_eq_false g115 | (rw [decide_eq_true g115]; rfl) | (rw [decide_eq_false g115]; rfl) | simp [*])) rfl (.tmp rfl rfl))
        (.c (S.indexM (n := i) si64 (.yes rfl rfl rfl (by first | rfl | exact decide_eq_true g115 | exact decide_eq_false g115 | (rw [decide_eq_true g115]; rfl) | (rw [decide_eq_false g115]; rfl) | simp [*])) rfl (.tmp rfl rfl) (.tmp rfl rfl) rfl (by omega) rfl)
        (.c (S.load1 ti71 (.yes rfl rfl rfl (by first | rfl | exact decide_eq_true g115 | exact decide_eq_false g115 | (rw [decide_eq_true g115]; rfl) | (rw [decide_eq_false g115]; rfl) | simp [*])) rfl (.tmp rfl rfl) rfl)
        (.c (S.move (.yes rfl rfl rfl (by first | rfl | exact decide_eq_true g115 | exact decide_eq_false g115 | (rw [decide_eq_true g115]; rfl) | (rw [decide_eq_false g115]; rfl) | simp [*])) rfl (.tmp rfl rfl))
        (.c (S.indexM (n := (x.cycles[i].length - 1 - m)) si71 (.yes rfl rfl rfl (by first | rfl | exact decide_eq_true g115 | exact decide_eq_false g115 | (rw [decide_eq_true g115]; rfl) | (rw [decide_eq_false g115]; rfl) | simp [*])) rfl (.tmp rfl rfl) (.tmp rfl rfl) (by omega) (by omega) rfl)
        (.c (S.loadN ti27 (.yes rfl rfl rfl (by first | rfl | exact decide_eq_true g115 | exact decide_eq_false g115 | (rw [decide_eq_true g115]; rfl) | (rw [decide_eq_false g115]; rfl) | simp [*])) rfl (.tmp rfl rfl) rfl rfl)
        (.c (S.call (ref_SameFrame (a := x.cycles[i][x.cycles[i].length - 1 - m]) (b := x.cycles[i][x.cycles[i].length - 1 - m])) Tryz.call25 (.yes rfl rfl rfl (by first | rfl | exact decide_eq_true g115 | exact decide_eq_false g115 | (rw [decide_eq_true g115]; rfl) | (rw [decide_eq_false g115]; rfl) | simp [*])) rfl (.cons (.tmp rfl rfl) (.cons (.tmp rfl rfl) .nil)) rfl)
        (.c (S.notD (.yes rfl rfl rfl (by first | rfl | exact decide_eq_true g115 | exact decide_eq_false g115 | (rw [decide_eq_true g115]; rfl) | (rw [decide_eq_false g115]; rfl) | simp [*])) rfl (.tmp rfl rfl))
        (.c (S.pickF .none rfl (.tmp rfl rfl) (.tmp rfl rfl) (by first | rfl | exact decide_eq_true g115 | exact decide_eq_false g115 | (rw [decide_eq_true g115]; rfl) | (rw [decide_eq_false g115]; rfl) | simp [*]))
        .nil))))))))))))))) (by kernel_rfl) ?_
       refine Ab.D.code ?_
       refine OK.condD rfl rfl (fun c127 => ?_) (fun c127 => ?_)
       ·
        exact absurd rfl c127
       ·
        refine OK.skip ?_
        refine Ab.D.code ?_
        refine OK.regionDraw follows (.c (S.move .none rfl (.tmp rfl rfl))
         (.c (S.bloadN ti27 .none rfl (.tmp rfl rfl) rfl rfl rfl rfl)
         (.c (S.bloadN ti27 .none rfl (.tmp rfl rfl) rfl rfl rfl rfl)
         (.c (S.call (ref_CopyFrame (f := x.cycles[i][x.cycles[i].length - 1 - m]) (by omega)) Tryz.call12 .none rfl (.cons (.tmp rfl rfl) .nil) rfl)
         (.c (S.mkSlice (k := 132) (rows := [[_, _], [_, _]]) ai71 .none rfl (.cons (.tmp rfl rfl) (.cons (.tmp rfl rfl) .nil)) rfl rfl rfl rfl rfl rfl rfl)
         (.c (S.append ai71 .none rfl (.tmp rfl rfl) rfl (by simp) (.tmp rfl rfl) rfl (by first | rfl | (simp; done) | (simp; omega)) (by first | omega | (simp; omega)) (by simp only [maxLen]; omega))
         (.c (S.assign .none rfl (.tmp rfl rfl))
         .nil))))))) (by kernel_rfl) ?_
        refine Ab.D.blk ?_
        refine Ab.D.code (OK.reg ?_)
        refine RK.c (S.move .none rfl (.tmp rfl rfl)) ?_
        refine RK.c (S.sub .none rfl (.tmp rfl rfl) (.cint rfl) (IntWalk.i64_in _ (by omega)) (IntWalk.i64_in _ (by omega))) ?_
        refine RK.c (S.assign .none rfl (.tmp rfl rfl)) ?_
        refine RK.nil ?_
        refine Ab.D.lp ⟨m + 1, (by omega), (by omega), rfl, rfl, rfl, rfl, rfl, rfl, (lk_own (by first | rfl | (simp; done) | (simp; omega))), (lk_arr (by first | rfl | (simp; done) | (simp; omega))), rfl, rfl, (lk_own (by rw [backT_on hm1 hk1]; simp)), (lk_arr (by rw [backT_on hm1 hk1, List.map_append]; rfl)), (lkI (by omega)), trivial⟩
      ·
       have hmC : m = x.cycles[i].length := by omega
       have hbl := backT_len x.cycles[i] m
       obtain ⟨ea, eb, ec⟩ := any_record (m := backT x.cycles[i] m) h0 (fun f => backT_mem hmC f) (by omega) hfe
       obtain ⟨R, hR⟩ : ∃ y, y = recT p x.cycles[i] := ⟨_, rfl⟩
       rw [← hR] at hro hrl hrn
       have kR : Ct Tryz.prog 35 [.agg p.cs, .sl ((backT x.cycles[i] m).map Frame.cs)] (.tup [.agg R.cs, .int .i64 0]) := ct_res (mon_RecordOf (p := p) (l := backT x.cycles[i] m)) (by rw [ec, recOf_eq eb, ea, hR])
       have kRr : Ct Tryz.prog 37 [.agg p.cs, .sl (x.cycles[i].map Frame.cs)] (.agg R.cs) := ct_res (ref_Record (p := p) (l := x.cycles[i]) hpt (fun f hf => by have := hfv f hf; omega)) (by rw [hR])
       have hbo : bothErr p O R = 0 := by rw [bothErr, if_neg (by omega), if_neg (by omega)]; exact hro
       have hrc : (recordChk p R).2 = 0 := by rw [recordChk, if_neg (by omega)]; exact hro
       have kV : Ct Tryz.prog 38 [.agg p.cs, .agg O.cs, .agg R.cs] (.tup [.int .i64 (verdT O R), .int .i64 0]) := ct_res (mon_VerdictOf (p := p) (x := O) (r := R)) (by rw [if_pos hbo, hbo])
       have kLo : Ct Tryz.prog 40 [.agg p.cs, .agg R.cs] (.tup [ints (lostT R), .int .i64 0]) := ct_res (mon_LostIn (p := p) (r := R) (by omega)) (by rw [if_pos hrc, hrc])
       have kD : Ct Tryz.prog 41 [.agg p.cs, .agg O.cs, .agg R.cs] (.tup [devs (devT O R), .int .i64 0]) := ct_res (mon_DeviationsOf (p := p) (x := O) (r := R)) (by rw [if_pos hbo, hbo])
       refine OK.exit rfl ?_
       refine Ab.D.code ?_
       refine OK.seq ?_
       refine OK.freeze 10 rfl rfl rfl (by simp) ?_
       refine OK.reg ?_
       refine RK.c (S.bloadN ti24 .none rfl (.tmp rfl rfl) rfl rfl rfl rfl) ?_
       refine RK.c (S.call (ref_CopyPlan (p := p) (by omega)) Tryz.call10 .none rfl (.cons (.tmp rfl rfl) .nil) rfl) ?_
       refine RK.c (S.move .none rfl (.tmp rfl rfl)) ?_
       refine RK.c (S.call (kR) Tryz.call35 .none rfl (.cons (.tmp rfl rfl) (.cons (.tmp rfl rfl) .nil)) rfl) ?_
       refine RK.c (S.move .none rfl (.tmp rfl rfl)) ?_
       refine RK.c (S.extract .none rfl (.tmp rfl rfl) rfl rfl) ?_
       refine RK.c (S.extract .none rfl (.tmp rfl rfl) rfl rfl) ?_
       refine RK.c (S.alloc (k := 14) ze75 rfl .none rfl) ?_
       refine RK.c (S.store ti75 .none (.tmp rfl rfl) (.tmp rfl rfl) rfl rfl rfl rfl rfl rfl) ?_
       refine RK.c (S.assign .none rfl (.tmp rfl rfl)) ?_
       refine RK.nil (Ab.D.code ?_)
       refine OK.seq ?_
       refine OK.seq ?_
       refine OK.regionDraw follows (.c (S.move .none rfl (.tmp rfl rfl))
        (.c (S.neq .none rfl (.tmp rfl rfl) (.cint rfl))
        (.c (S.move .none rfl (.tmp rfl rfl))
        (.c (S.bloadN ti75 (.yes rfl rfl rfl (by first | rfl | exact decide_eq_true g143 | exact decide_eq_false g143 | (rw [decide_eq_true g143]; rfl) | (rw [decide_eq_false g143]; rfl) | simp [*])) rfl (.tmp rfl rfl) rfl rfl rfl rfl)
        (.c (S.bloadN ti24 (.yes rfl rfl rfl (by first | rfl | exact decide_eq_true g143 | exact decide_eq_false g143 | (rw [decide_eq_true g143]; rfl) | (rw [decide_eq_false g143]; rfl) | simp [*])) rfl (.tmp rfl rfl) rfl rfl rfl rfl)
        (.c (S.bfield fi66_2 (.yes rfl rfl rfl (by first | rfl | exact decide_eq_true g143 | exact decide_eq_false g143 | (rw [decide_eq_true g143]; rfl) | (rw [decide_eq_false g143]; rfl) | simp [*])) rfl (.tmp rfl rfl))
        (.c (S.bload1 ti64 (.yes rfl rfl rfl (by first | rfl | exact decide_eq_true g143 | exact decide_eq_false g143 | (rw [decide_eq_true g143]; rfl) | (rw [decide_eq_false g143]; rfl) | simp [*])) rfl (.tmp rfl rfl) rfl rfl rfl rfl)
        (.c (S.move (.yes rfl rfl rfl (by first | rfl | exact decide_eq_true g143 | exact decide_eq_false g143 | (rw [decide_eq_true g143]; rfl) | (rw [decide_eq_false g143]; rfl) | simp [*])) rfl (.tmp rfl rfl))
        (.c (S.indexM (n := i) si64 (.yes rfl rfl rfl (by first | rfl | exact decide_eq_true g143 | exact decide_eq_false g143 | (rw [decide_eq_true g143]; rfl) | (rw [decide_eq_false g143]; rfl) | simp [*])) rfl (.tmp rfl rfl) (.tmp rfl rfl) rfl (by omega) rfl)
        (.c (S.load1 ti71 (.yes rfl rfl rfl (by first | rfl | exact decide_eq_true g143 | exact decide_eq_false g143 | (rw [decide_eq_true g143]; rfl) | (rw [decide_eq_false g143]; rfl) | simp [*])) rfl (.tmp rfl rfl) rfl)
        (.c (S.call (kRr) Tryz.call37 (.yes rfl rfl rfl (by first | rfl | exact decide_eq_true g143 | exact decide_eq_false g143 | (rw [decide_eq_true g143]; rfl) | (rw [decide_eq_false g143]; rfl) | simp [*])) rfl (.cons (.tmp rfl rfl) (.cons (.tmp rfl rfl) .nil)) rfl)
        (.c (S.call (ref_SameRecord (a := R)) Tryz.call36 (.yes rfl rfl rfl (by first | rfl | exact decide_eq_true g143 | exact decide_eq_false g143 | (rw [decide_eq_true g143]; rfl) | (rw [decide_eq_false g143]; rfl) | simp [*])) rfl (.cons (.tmp rfl rfl) (.cons (.tmp rfl rfl) .nil)) rfl)
        (.c (S.not (.yes rfl rfl rfl (by first | rfl | exact decide_eq_true g143 | exact decide_eq_false g143 | (rw [decide_eq_true g143]; rfl) | (rw [decide_eq_false g143]; rfl) | simp [*])) rfl (.tmp rfl rfl))
        (.c (S.pickF .none rfl (.tmp rfl rfl) (.tmp rfl rfl) (by first | rfl | exact decide_eq_true g143 | exact decide_eq_false g143 | (rw [decide_eq_true g143]; rfl) | (rw [decide_eq_false g143]; rfl) | simp [*]))
        .nil)))))))))))))) (by kernel_rfl) ?_
       refine Ab.D.code ?_
       refine OK.condF rfl rfl rfl ?_
       refine OK.skip ?_
       refine Ab.D.code ?_
       refine OK.seq ?_
       refine OK.regionDraw follows (.c (S.bloadN ti24 .none rfl (.tmp rfl rfl) rfl rfl rfl rfl)
        (.c (S.call (ref_CopyPlan (p := p) (by omega)) Tryz.call10 .none rfl (.cons (.tmp rfl rfl) .nil) rfl)
        (.c (S.bloadN ti30 .none rfl (.tmp rfl rfl) rfl rfl rfl rfl)
        (.c (S.call (ref_CopyEnvelope (x := O) (by omega) (fun i h => by have := w2 i h; omega)) Tryz.call14 .none rfl (.cons (.tmp rfl rfl) .nil) rfl)
        (.c (S.bloadN ti75 .none rfl (.tmp rfl rfl) rfl rfl rfl rfl)
        (.c (S.call (ref_CopyRecord (r := R) (by omega) (fun i h => by have := hrl i h; omega)) Tryz.call39 .none rfl (.cons (.tmp rfl rfl) .nil) rfl)
        (.c (S.call (kV) Tryz.call38 .none rfl (.cons (.tmp rfl rfl) (.cons (.tmp rfl rfl) (.cons (.tmp rfl rfl) .nil))) rfl)
        (.c (S.move .none rfl (.tmp rfl rfl))
        (.c (S.extract .none rfl (.tmp rfl rfl) rfl rfl)
        (.c (S.extract .none rfl (.tmp rfl rfl) rfl rfl)
        (.c (S.assign .none rfl (.tmp rfl rfl))
        (.c (S.assign .none rfl (.tmp rfl rfl))
        .nil)))))))))))) (by kernel_rfl) ?_
       refine Ab.D.code ?_
       refine OK.seq ?_
       refine OK.regionDraw follows (.c (S.bloadN ti24 .none rfl (.tmp rfl rfl) rfl rfl rfl rfl)
        (.c (S.call (ref_CopyPlan (p := p) (by omega)) Tryz.call10 .none rfl (.cons (.tmp rfl rfl) .nil) rfl)
        (.c (S.bloadN ti75 .none rfl (.tmp rfl rfl) rfl rfl rfl rfl)
        (.c (S.call (ref_CopyRecord (r := R) (by omega) (fun i h => by have := hrl i h; omega)) Tryz.call39 .none rfl (.cons (.tmp rfl rfl) .nil) rfl)
        (.c (S.call (kLo) Tryz.call40 .none rfl (.cons (.tmp rfl rfl) (.cons (.tmp rfl rfl) .nil)) rfl)
        (.c (S.move .none rfl (.tmp rfl rfl))
        (.c (S.extract .none rfl (.tmp rfl rfl) rfl rfl)
        (.c (S.extract .none rfl (.tmp rfl rfl) rfl rfl)
        (.c (S.assign .none rfl (.tmp rfl rfl))
        (.c (S.assign .none rfl (.tmp rfl rfl))
        .nil)))))))))) (by kernel_rfl) ?_
       refine Ab.D.code ?_
       refine OK.seq ?_
       refine OK.regionDraw follows (.c (S.bloadN ti24 .none rfl (.tmp rfl rfl) rfl rfl rfl rfl)
        (.c (S.call (ref_CopyPlan (p := p) (by omega)) Tryz.call10 .none rfl (.cons (.tmp rfl rfl) .nil) rfl)
        (.c (S.bloadN ti30 .none rfl (.tmp rfl rfl) rfl rfl rfl rfl)
        (.c (S.call (ref_CopyEnvelope (x := O) (by omega) (fun i h => by have := w2 i h; omega)) Tryz.call14 .none rfl (.cons (.tmp rfl rfl) .nil) rfl)
        (.c (S.bloadN ti75 .none rfl (.tmp rfl rfl) rfl rfl rfl rfl)
        (.c (S.call (kD) Tryz.call41 .none rfl (.cons (.tmp rfl rfl) (.cons (.tmp rfl rfl) (.cons (.tmp rfl rfl) .nil))) rfl)
        (.c (S.move .none rfl (.tmp rfl rfl))
        (.c (S.extract .none rfl (.tmp rfl rfl) rfl rfl)
        (.c (S.extract .none rfl (.tmp rfl rfl) rfl rfl)
        (.c (S.assign .none rfl (.tmp rfl rfl))
        (.c (S.assign .none rfl (.tmp rfl rfl))
        .nil))))))))))) (by kernel_rfl) ?_
       refine Ab.D.code ?_
       refine OK.join (G := Unit) [2, 3, 5, 7] (fun _ => [(2, .ptr 2 0), (1002, .box p.cs), (3, .ptr 3 0), (1003, .box x.cs), (5, .ptr 5 0), (1005, .box O.cs), (7, .own 7 E.length), (2007, .arr 2 (E.map Event.cs)), (8, .int .i64 (g : Int)), (9, .int .i64 i), (16, .int .i64 (verdT O R))]) (fun _ => True) (fun _ => rfl) ?_ ?_
       ·
        refine OK.seq (OK.reg ?_)
        refine RK.c (S.move .none rfl (.tmp rfl rfl)) ?_
        refine RK.c (S.neq .none rfl (.tmp rfl rfl) (.cint rfl)) ?_
        refine RK.c (S.move .none rfl (.tmp rfl rfl)) ?_
        refine RK.c (S.move (.yes rfl rfl rfl rfl) rfl (.tmp rfl rfl)) ?_
        refine RK.c (S.neq (.yes rfl rfl rfl rfl) rfl (.tmp rfl rfl) (.cint rfl)) ?_
        refine RK.c (S.pickF .none rfl (.tmp rfl rfl) (.tmp rfl rfl) rfl) ?_
        refine RK.c (S.move .none rfl (.tmp rfl rfl)) ?_
        refine RK.c (S.move (.yes rfl rfl rfl rfl) rfl (.tmp rfl rfl)) ?_
        refine RK.c (S.neq (.yes rfl rfl rfl rfl) rfl (.tmp rfl rfl) (.cint rfl)) ?_
        refine RK.c (S.pickF .none rfl (.tmp rfl rfl) (.tmp rfl rfl) rfl) ?_
        refine RK.c (S.move .none rfl (.tmp rfl rfl)) ?_
        refine RK.c (S.move (.yes rfl rfl rfl rfl) rfl (.tmp rfl rfl)) ?_
        refine RK.c (S.eql (.yes rfl rfl rfl rfl) rfl (.tmp rfl rfl) (.cint rfl)) ?_
        refine RK.c (S.move (.yes rfl rfl rfl rfl) rfl (.tmp rfl rfl)) ?_
        refine RK.c (S.lenM si25 (.yes rfl rfl rfl rfl) rfl (.tmp rfl rfl)) ?_
        refine RK.c (S.eql (.yes rfl rfl rfl rfl) rfl (.tmp rfl rfl) (.cint rfl)) ?_
        refine RK.c (S.move (.yes rfl rfl rfl rfl) rfl (.tmp rfl rfl)) ?_
        refine RK.splitD (t := 198) rfl (fun g198 => ?_) (fun g198 => ?_)
        ·
         refine RK.c (S.move (.yes rfl rfl rfl rfl) rfl (.tmp rfl rfl)) ?_
         refine RK.c (S.lenM si85 (.yes rfl rfl rfl rfl) rfl (.tmp rfl rfl)) ?_
         refine RK.c (S.eql (.yes rfl rfl rfl rfl) rfl (.tmp rfl rfl) (.cint rfl)) ?_
         refine RK.c (S.pickT (.yes rfl rfl rfl rfl) rfl (.tmp rfl rfl) (.tmp rfl rfl) rfl) ?_
         refine RK.c (S.bneq Tryz.underlying4 (.yes rfl rfl rfl rfl) rfl (.tmp rfl rfl) (.tmp rfl rfl)) ?_
         refine RK.c (S.pickF .none rfl (.tmp rfl rfl) (.tmp rfl rfl) rfl) ?_
         refine RK.nil (Ab.D.code ?_)
         refine OK.condD rfl rfl (fun c204 => ?_) (fun c204 => ?_)
         ·
          exact absurd (decide_eq_decide.2 (verd_0i (by first | exact g198 | omega))) c204
         ·
          refine OK.skip ?_
          refine Ab.D.lp ⟨(), trivial, rfl, rfl, rfl, rfl, rfl, rfl, (lk_own (by first | rfl | (simp; done) | (simp; omega))), (lk_arr (by first | rfl | (simp; done) | (simp; omega))), rfl, rfl, rfl, trivial⟩
        ·
         refine RK.c (S.skip rfl rfl rfl rfl rfl) ?_
         refine RK.c (S.skip rfl rfl rfl rfl rfl) ?_
         refine RK.c (S.skip rfl rfl rfl rfl rfl) ?_
         refine RK.c (S.pickF (.yes rfl rfl rfl rfl) rfl (.tmp rfl rfl) .cbool rfl) ?_
         refine RK.c (S.bneq Tryz.underlying4 (.yes rfl rfl rfl rfl) rfl (.tmp rfl rfl) (.tmp rfl rfl)) ?_
         refine RK.c (S.pickF .none rfl (.tmp rfl rfl) (.tmp rfl rfl) rfl) ?_
         refine RK.nil (Ab.D.code ?_)
         refine OK.condD rfl rfl (fun c204 => ?_) (fun c204 => ?_)
         ·
          exact absurd (decide_eq_false (verd_1i (by first | exact g198 | omega))) c204
         ·
          refine OK.skip ?_
          refine Ab.D.lp ⟨(), trivial, rfl, rfl, rfl, rfl, rfl, rfl, (lk_own (by first | rfl | (simp; done) | (simp; omega))), (lk_arr (by first | rfl | (simp; done) | (simp; omega))), rfl, rfl, rfl, trivial⟩
       ·
        rintro _ _
        refine OK.seq (OK.reg ?_)
        refine RK.c (S.move .none rfl (.tmp rfl rfl)) ?_
        refine RK.c (S.add .none rfl (.tmp rfl rfl) (.cint rfl) (IntWalk.i64_in _ (by omega)) (IntWalk.i64_in _ (by omega))) ?_
        refine RK.c (S.assign .none rfl (.tmp rfl rfl)) ?_
        refine RK.nil (Ab.D.code (OK.seq (OK.reg ?_)))
        refine RK.c (S.move .none rfl (.tmp rfl rfl)) ?_
        refine RK.c (S.move .none rfl (.tmp rfl rfl)) ?_
        refine RK.c (S.build bu89 rfl .none rfl (.cons (.cint rfl) (.cons (.tmp rfl rfl) .nil)) rfl rfl) ?_
        refine RK.c (S.mkSlice (k := 210) (rows := [[_, _]]) ai70 .none rfl (.cons (.tmp rfl rfl) .nil) rfl rfl rfl rfl rfl rfl rfl) ?_
        refine RK.c (S.append ai70 .none rfl (.tmp rfl rfl) rfl (by simp) (.tmp rfl rfl) rfl (by first | rfl | (simp; done) | (simp; omega)) (by first | omega | (simp; omega)) (by simp only [maxLen]; omega)) ?_
        refine RK.c (S.assign .none rfl (.tmp rfl rfl)) ?_
        refine RK.nil (Ab.D.code (OK.seq (OK.reg ?_)))
        refine RK.c (S.assign .none rfl (.cint rfl)) ?_
        refine RK.nil (Ab.D.code ?_)
        refine OK.join (G := List Event × Nat × Int) [2, 3, 5, 7] (fun q => [(2, .ptr 2 0), (1002, .box p.cs), (3, .ptr 3 0), (1003, .box x.cs), (5, .ptr 5 0), (1005, .box O.cs), (7, .own 7 q.1.length), (2007, .arr 2 (q.1.map Event.cs)), (8, .int .i64 (q.2.1 : Int)), (9, .int .i64 i), (16, .int .i64 (verdT O R)), (22, .int .i64 ((i : Int) + 1)), (23, .int .i64 q.2.2)]) (fun q => Mid i q.2.1 (verdT O R) q.1 q.2.2) (fun _ => rfl) ?_ ?_
        ·
         refine OK.block ?_
         refine OK.seq (OK.reg ?_)
         refine RK.c (S.move .none rfl (.tmp rfl rfl)) ?_
         refine RK.c (S.eql .none rfl (.tmp rfl rfl) (.cint rfl)) ?_
         refine RK.c (S.assign .none rfl (.tmp rfl rfl)) ?_
         refine RK.nil (Ab.D.code ?_)
         refine OK.condD rfl rfl (fun c212 => ?_) (fun c212 => ?_)
         ·
          have hV0 : verdT O R = 0 := c212
          refine OK.reg ?_
          refine RK.c (S.move .none rfl (.tmp rfl rfl)) ?_
          refine RK.c (S.move .none rfl (.tmp rfl rfl)) ?_
          refine RK.c (S.build bu89 rfl .none rfl (.cons (.cint rfl) (.cons (.tmp rfl rfl) .nil)) rfl rfl) ?_
          refine RK.c (S.mkSlice (k := 218) (rows := [[_, _]]) ai70 .none rfl (.cons (.tmp rfl rfl) .nil) rfl rfl rfl rfl rfl rfl rfl) ?_
          refine RK.c (S.append ai70 .none rfl (.tmp rfl rfl) rfl (by simp) (.tmp rfl rfl) rfl (by first | rfl | (simp; done) | (simp; omega)) (by first | omega | (simp; omega)) (by simp only [maxLen]; omega)) ?_
          refine RK.c (S.move .none rfl (.tmp rfl rfl)) ?_
          refine RK.c (S.add .none rfl (.tmp rfl rfl) (.cint rfl) (IntWalk.i64_in _ (by omega)) (IntWalk.i64_in _ (by omega))) ?_
          refine RK.c (S.assign .none rfl (.tmp rfl rfl)) ?_
          refine RK.c (S.assign .none rfl (.tmp rfl rfl)) ?_
          refine RK.c (S.assign .none rfl (.cint rfl)) ?_
          refine RK.nil ?_
          refine Ab.D.blk ?_
          refine Ab.D.lp ⟨((E ++ [⟨0, (i : Int) + 1⟩]) ++ [⟨1, (i : Int) + 1⟩], g + 1, 3), (by first | (rw [hV0]; exact mid_pass hS (by omega)) | exact mid_mark hS (by omega) (by omega) | exact mid_lost hS (by omega) (by omega)), rfl, rfl, rfl, rfl, rfl, rfl, (lk_own (by first | rfl | (simp; done) | (simp; omega))), (lk_arr (by simp [Event.cs])), rfl, rfl, rfl, rfl, rfl, trivial⟩
         ·
          refine OK.seq (OK.reg ?_)
          refine RK.c (S.move .none rfl (.tmp rfl rfl)) ?_
          refine RK.c (S.eql .none rfl (.tmp rfl rfl) (.cint rfl)) ?_
          refine RK.c (S.assign .none rfl (.tmp rfl rfl)) ?_
          refine RK.nil (Ab.D.code ?_)
          refine OK.condD rfl rfl (fun c222 => ?_) (fun c222 => ?_)
          ·
           refine OK.reg ?_
           refine RK.c (S.move .none rfl (.tmp rfl rfl)) ?_
           refine RK.c (S.move .none rfl (.tmp rfl rfl)) ?_
           refine RK.c (S.build bu89 rfl .none rfl (.cons (.cint rfl) (.cons (.tmp rfl rfl) .nil)) rfl rfl) ?_
           refine RK.c (S.mkSlice (k := 228) (rows := [[_, _]]) ai70 .none rfl (.cons (.tmp rfl rfl) .nil) rfl rfl rfl rfl rfl rfl rfl) ?_
           refine RK.c (S.append ai70 .none rfl (.tmp rfl rfl) rfl (by simp) (.tmp rfl rfl) rfl (by first | rfl | (simp; done) | (simp; omega)) (by first | omega | (simp; omega)) (by simp only [maxLen]; omega)) ?_
           refine RK.c (S.assign .none rfl (.tmp rfl rfl)) ?_
           refine RK.nil ?_
           refine Ab.D.blk ?_
           refine Ab.D.lp ⟨((E ++ [⟨0, (i : Int) + 1⟩]) ++ [⟨2, (i : Int) + 1⟩], g, 4), (by first | (rw [hV0]; exact mid_pass hS (by omega)) | exact mid_mark hS (by omega) (by omega) | exact mid_lost hS (by omega) (by omega)), rfl, rfl, rfl, rfl, rfl, rfl, (lk_own (by first | rfl | (simp; done) | (simp; omega))), (lk_arr (by simp [Event.cs])), rfl, rfl, rfl, rfl, rfl, trivial⟩
          ·
           refine OK.skip ?_
           refine Ab.D.blk ?_
           refine Ab.D.lp ⟨(E ++ [⟨0, (i : Int) + 1⟩], g, 4), (by first | (rw [hV0]; exact mid_pass hS (by omega)) | exact mid_mark hS (by omega) (by omega) | exact mid_lost hS (by omega) (by omega)), rfl, rfl, rfl, rfl, rfl, rfl, (lk_own (by first | rfl | (simp; done) | (simp; omega))), (lk_arr (by simp [Event.cs])), rfl, rfl, rfl, rfl, rfl, trivial⟩
        ·
         rintro q hM
         have hql : q.1.length ≤ 40 := by have := hM.len; omega
         have kM : Ct Tryz.prog 42 [.sl (q.1.map Event.cs), .int .i64 ((i : Int) + 1)] (.tup [.bool (decide (verdT O R = 0)), .int .i64 0]) := ct_res (mon_MayLeave (l := q.1) (part := (i : Int) + 1)) (by rw [hM.may.1, hM.may.2])
         refine OK.seq (OK.seq (OK.reg ?_))
         refine RK.c (S.move .none rfl (.tmp rfl rfl)) ?_
         refine RK.c (S.callOL (k := 232) (refO_CopyEvents (l := q.1) (by omega)) (ev_scal q.1) Tryz.call43 .none rfl (.cons (.tmp rfl rfl) .nil) (.cons (.p (.own rfl (by simp)) rfl) .nil) (List.length_map ..)) ?_
         refine RK.c (S.move .none rfl (.tmp rfl rfl)) ?_
         refine RK.c (S.callL (kM) Tryz.call42 .none rfl (.cons (.tmp rfl rfl) (.cons (.tmp rfl rfl) .nil)) (.cons (.p (.own rfl (by simp)) rfl) (.cons (.same rfl) .nil)) rfl) ?_
         refine RK.c (S.move .none rfl (.tmp rfl rfl)) ?_
         refine RK.c (S.extract .none rfl (.tmp rfl rfl) rfl rfl) ?_
         refine RK.c (S.extract .none rfl (.tmp rfl rfl) rfl rfl) ?_
         refine RK.c (S.assign .none rfl (.tmp rfl rfl)) ?_
         refine RK.c (S.assign .none rfl (.tmp rfl rfl)) ?_
         refine RK.nil (Ab.D.code (OK.seq (OK.reg ?_)))
         refine RK.c (S.move .none rfl (.tmp rfl rfl)) ?_
         refine RK.c (S.neq .none rfl (.tmp rfl rfl) (.cint rfl)) ?_
         refine RK.c (S.move .none rfl (.tmp rfl rfl)) ?_
         refine RK.c (S.move (.yes rfl rfl rfl rfl) rfl (.tmp rfl rfl)) ?_
         refine RK.c (S.move (.yes rfl rfl rfl rfl) rfl (.tmp rfl rfl)) ?_
         refine RK.c (S.eql (.yes rfl rfl rfl rfl) rfl (.tmp rfl rfl) (.cint rfl)) ?_
         refine RK.c (S.bneq Tryz.underlying4 (.yes rfl rfl rfl rfl) rfl (.tmp rfl rfl) (.tmp rfl rfl)) ?_
         refine RK.c (S.pickF .none rfl (.tmp rfl rfl) (.tmp rfl rfl) rfl) ?_
         refine RK.nil (Ab.D.code ?_)
         refine OK.condD rfl rfl (fun c244 => ?_) (fun c244 => ?_)
         ·
          exact absurd rfl c244
         ·
          refine OK.skip ?_
          refine Ab.D.code (OK.seq (OK.reg ?_))
          refine RK.c (S.move .none rfl (.tmp rfl rfl)) ?_
          refine RK.c (S.callOL (k := 246) (refO_CopyEvents (l := q.1) (by omega)) (ev_scal q.1) Tryz.call43 .none rfl (.cons (.tmp rfl rfl) .nil) (.cons (.p (.own rfl (by simp)) rfl) .nil) (List.length_map ..)) ?_
          refine RK.c (S.move .none rfl (.tmp rfl rfl)) ?_
          refine RK.c (S.build bu89 rfl .none rfl (.cons (.cint rfl) (.cons (.tmp rfl rfl) .nil)) rfl rfl) ?_
          refine RK.c (S.mkSlice (k := 249) (rows := [[_, _]]) ai70 .none rfl (.cons (.tmp rfl rfl) .nil) rfl rfl rfl rfl rfl rfl rfl) ?_
          refine RK.c (S.frz (rows' := (q.1 ++ [(⟨3, (i : Int) + 1⟩ : Event)]).map Event.cs) (S.append ai70 .none rfl (.tmp rfl rfl) rfl (by simp) (.tmp rfl rfl) rfl (by first | rfl | (simp; done) | (simp; omega)) (by first | omega | (simp; omega)) (by simp only [maxLen]; omega)) (by simp) (by simp [Event.cs]) rfl rfl) ?_
          refine RK.c (S.assign .none rfl (.tmp rfl rfl)) ?_
          refine RK.nil (Ab.D.code (OK.seq (OK.seq (OK.reg ?_))))
          refine RK.c (S.move .none rfl (.tmp rfl rfl)) ?_
          refine RK.c (S.call (mon_RunOf (l := q.1 ++ [⟨3, (i : Int) + 1⟩])) Tryz.call44 .none rfl (.cons (.tmp rfl rfl) .nil) rfl) ?_
          refine RK.c (S.move .none rfl (.tmp rfl rfl)) ?_
          refine RK.c (S.extract .none rfl (.tmp rfl rfl) rfl rfl) ?_
          refine RK.c (S.extract .none rfl (.tmp rfl rfl) rfl rfl) ?_
          refine RK.c (S.extract .none rfl (.tmp rfl rfl) rfl rfl) ?_
          refine RK.c (S.alloc (k := 27) ze94 rfl .none rfl) ?_
          refine RK.c (S.store ti94 .none (.tmp rfl rfl) (.tmp rfl rfl) rfl rfl rfl rfl rfl rfl) ?_
          refine RK.c (S.assign .none rfl (.tmp rfl rfl)) ?_
          refine RK.c (S.assign .none rfl (.tmp rfl rfl)) ?_
          refine RK.nil (Ab.D.code (OK.seq (OK.reg ?_)))
          refine RK.c (S.move .none rfl (.tmp rfl rfl)) ?_
          refine RK.c (S.neq .none rfl (.tmp rfl rfl) (.cint rfl)) ?_
          refine RK.c (S.move .none rfl (.tmp rfl rfl)) ?_
          refine RK.splitD (t := 259) rfl (fun g259 => ?_) (fun g259 => ?_)
          ·
           have wr := wrong_idx hM g259
           refine RK.c (S.move (.yes rfl rfl rfl rfl) rfl (.tmp rfl rfl)) ?_
           refine RK.c (S.neq (.yes rfl rfl rfl rfl) rfl (.tmp rfl rfl) (.cint rfl)) ?_
           refine RK.c (S.move (.yes rfl rfl rfl rfl) rfl (.tmp rfl rfl)) ?_
           refine RK.splitD (t := 262) rfl (fun g262 => ?_) (fun g262 => ?_)
           ·
            exact absurd wr.2 g262
           ·
            refine RK.c (S.move (.yes rfl rfl rfl rfl) rfl (.tmp rfl rfl)) ?_
            refine RK.c (S.move (.yes rfl rfl rfl rfl) rfl (.tmp rfl rfl)) ?_
            refine RK.c (S.lenOwn si70 (.yes rfl rfl rfl rfl) rfl (.tmp rfl rfl) rfl (List.length_map ..)) ?_
            refine RK.c (S.neq (.yes rfl rfl rfl rfl) rfl (.tmp rfl rfl) (.tmp rfl rfl)) ?_
            refine RK.c (S.pickF (.yes rfl rfl rfl rfl) rfl (.tmp rfl rfl) (.tmp rfl rfl) rfl) ?_
            refine RK.c (S.pickT .none rfl (.tmp rfl rfl) (.tmp rfl rfl) rfl) ?_
            refine RK.nil (Ab.D.code ?_)
            refine OK.condD rfl rfl (fun c268 => ?_) (fun c268 => ?_)
            ·
             exact absurd wr.1 c268
            ·
             refine OK.skip ?_
             refine Ab.D.code (OK.reg ?_)
             refine RK.c (S.move .none rfl (.tmp rfl rfl)) ?_
             refine RK.c (S.move .none rfl (.tmp rfl rfl)) ?_
             refine RK.c (S.move .none rfl (.tmp rfl rfl)) ?_
             refine RK.c (S.build bu89 rfl .none rfl (.cons (.tmp rfl rfl) (.cons (.tmp rfl rfl) .nil)) rfl rfl) ?_
             refine RK.c (S.mkSlice (k := 273) (rows := [[_, _]]) ai70 .none rfl (.cons (.tmp rfl rfl) .nil) rfl rfl rfl rfl rfl rfl rfl) ?_
             refine RK.c (S.append ai70 .none rfl (.tmp rfl rfl) rfl (by simp) (.tmp rfl rfl) rfl (by first | rfl | (simp; done) | (simp; omega)) (by first | omega | (simp; omega)) (by simp only [maxLen]; omega)) ?_
             refine RK.c (S.assign .none rfl (.tmp rfl rfl)) ?_
             refine RK.nil ?_
             refine Ab.D.blk ?_
             refine Ab.D.code (OK.reg ?_)
             refine RK.c (S.move .none rfl (.tmp rfl rfl)) ?_
             refine RK.c (S.add .none rfl (.tmp rfl rfl) (.cint rfl) (IntWalk.i64_in _ (by omega)) (IntWalk.i64_in _ (by omega))) ?_
             refine RK.c (S.assign .none rfl (.tmp rfl rfl)) ?_
             refine RK.nil ?_
             refine Ab.D.lp ⟨i + 1, q.2.1, q.1 ++ [⟨q.2.2, (i : Int) + 1⟩], ⟨by omega, hM.next⟩, (by omega), rfl, rfl, rfl, rfl, rfl, rfl, (lk_own (by simp)), (lk_arr (by simp [Event.cs])), rfl, rfl, trivial⟩
          ·
           refine RK.c (S.skip rfl rfl rfl rfl rfl) ?_
           refine RK.c (S.skip rfl rfl rfl rfl rfl) ?_
           refine RK.c (S.skip rfl rfl rfl rfl rfl) ?_
           refine RK.c (S.skipU rfl rfl rfl rfl) ?_
           refine RK.c (S.skipU rfl rfl rfl rfl) ?_
           refine RK.c (S.skipU rfl rfl rfl rfl) ?_
           refine RK.c (S.skipU rfl rfl rfl rfl) ?_
           refine RK.c (S.skip rfl rfl rfl rfl rfl) ?_
           refine RK.c (S.pickF .none rfl (.tmp rfl rfl) .cbool rfl) ?_
           refine RK.nil (Ab.D.code ?_)
           refine OK.condF rfl rfl rfl ?_
           refine OK.skip ?_
           refine Ab.D.code (OK.reg ?_)
           refine RK.c (S.move .none rfl (.tmp rfl rfl)) ?_
           refine RK.c (S.move .none rfl (.tmp rfl rfl)) ?_
           refine RK.c (S.move .none rfl (.tmp rfl rfl)) ?_
           refine RK.c (S.build bu89 rfl .none rfl (.cons (.tmp rfl rfl) (.cons (.tmp rfl rfl) .nil)) rfl rfl) ?_
           refine RK.c (S.mkSlice (k := 273) (rows := [[_, _]]) ai70 .none rfl (.cons (.tmp rfl rfl) .nil) rfl rfl rfl rfl rfl rfl rfl) ?_
           refine RK.c (S.append ai70 .none rfl (.tmp rfl rfl) rfl (by simp) (.tmp rfl rfl) rfl (by first | rfl | (simp; done) | (simp; omega)) (by first | omega | (simp; omega)) (by simp only [maxLen]; omega)) ?_
           refine RK.c (S.assign .none rfl (.tmp rfl rfl)) ?_
           refine RK.nil ?_
           refine Ab.D.blk ?_
           refine Ab.D.code (OK.reg ?_)
           refine RK.c (S.move .none rfl (.tmp rfl rfl)) ?_
           refine RK.c (S.add .none rfl (.tmp rfl rfl) (.cint rfl) (IntWalk.i64_in _ (by omega)) (IntWalk.i64_in _ (by omega))) ?_
           refine RK.c (S.assign .none rfl (.tmp rfl rfl)) ?_
           refine RK.nil ?_
           refine Ab.D.lp ⟨i + 1, q.2.1, q.1 ++ [⟨q.2.2, (i : Int) + 1⟩], ⟨by omega, hM.next⟩, (by omega), rfl, rfl, rfl, rfl, rfl, rfl, (lk_own (by simp)), (lk_arr (by simp [Event.cs])), rfl, rfl, trivial⟩
   ·
    have hie : i = x.cycles.length := by omega
    obtain ⟨r1, r2⟩ := shift_end hS
    have kF : Ct Tryz.prog 44 [.sl (E.map Event.cs)] (.tup [.agg (Counts.cs ⟨0, g, (i : Int) - g⟩), .int .i64 (idxOf E), .int .i64 0]) := ct_res (mon_RunOf (l := E)) (by rw [r1, r2])
    refine OK.exit rfl ?_
    refine Ab.D.code ?_
    refine OK.seq ?_
    refine OK.freeze 7 rfl rfl rfl (by simp) ?_
    refine OK.reg ?_
    refine RK.c (S.move .none rfl (.tmp rfl rfl)) ?_
    refine RK.c (S.call (kF) Tryz.call44 .none rfl (.cons (.tmp rfl rfl) .nil) rfl) ?_
    refine RK.c (S.move .none rfl (.tmp rfl rfl)) ?_
    refine RK.c (S.extract .none rfl (.tmp rfl rfl) rfl rfl) ?_
    refine RK.c (S.extract .none rfl (.tmp rfl rfl) rfl rfl) ?_
    refine RK.c (S.extract .none rfl (.tmp rfl rfl) rfl rfl) ?_
    refine RK.c (S.alloc (k := 30) ze94 rfl .none rfl) ?_
    refine RK.c (S.store ti94 .none (.tmp rfl rfl) (.tmp rfl rfl) rfl rfl rfl rfl rfl rfl) ?_
    refine RK.c (S.assign .none rfl (.tmp rfl rfl)) ?_
    refine RK.c (S.assign .none rfl (.tmp rfl rfl)) ?_
    refine RK.nil (Ab.D.code (OK.seq (OK.reg ?_)))
    refine RK.c (S.move .none rfl (.tmp rfl rfl)) ?_
    refine RK.c (S.eql .none rfl (.tmp rfl rfl) (.cint rfl)) ?_
    refine RK.c (S.move .none rfl (.tmp rfl rfl)) ?_
    refine RK.c (S.bloadN ti94 (.yes rfl rfl rfl rfl) rfl (.tmp rfl rfl) rfl rfl rfl rfl) ?_
    refine RK.c (S.move (.yes rfl rfl rfl rfl) rfl (.tmp rfl rfl)) ?_
    refine RK.c (S.bfield fi66_2 (.yes rfl rfl rfl rfl) rfl (.tmp rfl rfl)) ?_
    refine RK.c (S.bload1 ti64 (.yes rfl rfl rfl rfl) rfl (.tmp rfl rfl) rfl rfl rfl rfl) ?_
    refine RK.c (S.lenM si64 (.yes rfl rfl rfl rfl) rfl (.tmp rfl rfl)) ?_
    refine RK.c (S.move (.yes rfl rfl rfl rfl) rfl (.tmp rfl rfl)) ?_
    refine RK.c (S.sub (.yes rfl rfl rfl rfl) rfl (.tmp rfl rfl) (.tmp rfl rfl) (IntWalk.i64_in _ (by omega)) (IntWalk.i64_in _ (by omega))) ?_
    refine RK.c (S.build bu94 rfl (.yes rfl rfl rfl rfl) rfl (.cons (.tmp rfl rfl) (.cons (.tmp rfl rfl) .nil)) rfl rfl) ?_
    refine RK.c (S.aeql [0, (g : Int), (i : Int) - g] [0, (g : Int), (x.cycles.length : Int) - g] eq94 (.yes rfl rfl rfl rfl) rfl (.tmp rfl rfl) (.tmp rfl rfl) rfl rfl rfl rfl) ?_
    refine RK.c (S.pickT .none rfl (.tmp rfl rfl) (.tmp rfl rfl) rfl) ?_
    refine RK.c (S.assign .none rfl (.tmp rfl rfl)) ?_
    refine RK.nil (Ab.D.code ?_)
    refine OK.ret (Ret.r1 (.tmp rfl rfl (.c (.same rfl) rfl) rfl) ?_)
    first | rfl | exact ret_b (decide_eq_true rfl) | exact ret_b (decide_eq_true (by rw [hie]))
end Go.Proofs.YtpmglnphhhlbdaaGreatDoor
