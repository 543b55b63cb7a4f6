import Derived.Test.YtpmglnphhhlbdaaGreatDoorGs
import Derived.Test.YtpmglnphhhlbdaaGreatDoorMp
import Derived.Test.YtpmglnphhhlbdaaGreatDoorTy
import Derived.Test.YtpmglnphhhlbdaaGreatDoorWz0
namespace Go.Proofs.YtpmglnphhhlbdaaGreatDoor
open Go.Ab
structure TextsX where
  frame : Frame
  env : Envelope
def TextsX.cs (t : TextsX) : List X := [.int .i64 t.frame.tick, ints t.frame.values, .int .i64 t.env.parts, .int .i64 t.env.trim, .sl (t.env.rows.map fun l => [.sl (l.map Range.cs)])]
theorem sh_texts {xs : List X} (h : Shape (.cons (.st (.cons (.int .i64) (.cons (.sl (.int .i64)) .nil))) (.cons (.st (.cons (.int .i64) (.cons (.int .i64) (.cons (.sl (.sl (.st (.cons (.int .i64) (.cons (.int .i64) .nil))))) .nil)))) .nil)) xs) : ∃ t : TextsX, xs = t.cs := by
  obtain ⟨a, b, rfl, ha, c, d, rfl, hc, rfl⟩ := h
  obtain ⟨f, rfl⟩ := sh_frame ha
  obtain ⟨x, rfl⟩ := sh_envelope hc
  exact ⟨⟨f, x⟩, rfl⟩
theorem sh_str {x : X} (h : Shape .str [x]) : ∃ l : List UInt8, x = .str l := by
  obtain ⟨l, h⟩ := h
  cases h
  exact ⟨l, rfl⟩
theorem short_le {l : List Int} (h : shortT l = true) : l.length ≤ 6 := by
  unfold shortT at h
  rw [decide_eq_true_eq] at h
  omega
theorem few_all {p : Plan} (h : fewT p = true) : p.channels.length ≤ 6 ∧ ∀ s ∈ p.channels, s.length ≤ 20 := by
  unfold fewT at h
  simp only [Bool.and_eq_true, decide_eq_true_eq] at h
  exact ⟨h.1, fun s hs => of_decide_eq_true (List.all_eq_true.1 h.2 s hs)⟩
set_option maxHeartbeats 4000000 in
theorem law_MonitorStrings {p : Plan} {t : TextsX} {s : List UInt8} : CtT Tryz.prog 3 [.agg p.cs, .agg t.cs, .str s] (.bool true) := by
 refine CtT.intro (rs := [.tmp 6]) Tryz.func3 rfl Tryz.ntmps3 Tryz.results3 rfl rfl rfl fun w h hT => ?_
 refine OK.seq (OK.reg ?_)
 refine RK.c (S.box (k := 3) rfl .none rfl (.tmp rfl rfl) rfl) ?_
 refine RK.c (S.box (k := 4) rfl .none rfl (.tmp rfl rfl) rfl) ?_
 refine RK.c (S.assign .none rfl .cbool) ?_
 refine RK.nil (Ab.D.code (OK.seq (OK.seq (OK.reg ?_))))
 refine RK.c (S.call (law_awake) Tryz.call5 .none rfl .nil rfl) ?_
 refine RK.c (S.not .none rfl (.tmp rfl rfl)) ?_
 refine RK.nil (Ab.D.code ?_)
 refine OK.condF rfl rfl rfl ?_
 refine OK.skip ?_
 refine Ab.D.code ?_
 refine OK.join (G := Unit) [3, 4] (fun _ => [(3, .ptr 3 0), (1003, .box p.cs), (4, .ptr 4 0), (1004, .box [.int .i64 t.frame.tick, ints t.frame.values, .int .i64 t.env.parts, .int .i64 t.env.trim, .sl (t.env.rows.map fun l => [X.sl (l.map Range.cs)])]), (2, .str s)]) (fun _ => fewT p = true ∧ t.frame.values.length ≤ 6 ∧ shortEnvT t.env = true ∧ s.length ≤ 300) (fun _ => rfl) ?_ ?_
 ·
  refine OK.seq (OK.reg ?_)
  refine RK.c (S.bloadN ti24 .none rfl (.tmp rfl rfl) rfl rfl rfl rfl) ?_
  refine RK.c (S.call (law_Few (p := p)) Tryz.call6 .none rfl (.cons (.tmp rfl rfl) .nil) rfl) ?_
  refine RK.c (S.not .none rfl (.tmp rfl rfl)) ?_
  refine RK.c (S.move .none rfl (.tmp rfl rfl)) ?_
  refine RK.split (t := 33) rfl (fun g33 => ?_) (fun g33 => ?_)
  ·
   refine RK.c (S.skip rfl rfl rfl rfl rfl) ?_
   refine RK.c (S.skip rfl rfl rfl rfl rfl) ?_
   refine RK.c (S.skip rfl rfl rfl rfl rfl) ?_
   refine RK.c (S.skip rfl rfl rfl rfl rfl) ?_
   refine RK.c (S.skip rfl rfl rfl rfl rfl) ?_
   refine RK.c (S.pickT .none rfl (.tmp rfl rfl) .cbool rfl) ?_
   refine RK.c (S.move .none rfl (.tmp rfl rfl)) ?_
   refine RK.c (S.skip rfl rfl rfl rfl rfl) ?_
   refine RK.c (S.skip rfl rfl rfl rfl rfl) ?_
   refine RK.c (S.skip rfl rfl rfl rfl rfl) ?_
   refine RK.c (S.skip rfl rfl rfl rfl rfl) ?_
   refine RK.c (S.pickT .none rfl (.tmp rfl rfl) .cbool rfl) ?_
   refine RK.c (S.move .none rfl (.tmp rfl rfl)) ?_
   refine RK.c (S.skip rfl rfl rfl rfl rfl) ?_
   refine RK.c (S.skip rfl rfl rfl rfl rfl) ?_
   refine RK.c (S.skip rfl rfl rfl rfl rfl) ?_
   refine RK.c (S.pickT .none rfl (.tmp rfl rfl) .cbool rfl) ?_
   refine RK.nil (Ab.D.code ?_)
   refine OK.condT rfl rfl rfl ?_
   refine OK.seq (OK.reg ?_)
   refine RK.c (S.assign .none rfl .cbool) ?_
   refine RK.nil (Ab.D.code ?_)
   refine OK.ret (Ret.r1 (.tmp rfl rfl (.c (.same rfl) rfl) rfl) ?_)
   first | rfl | exact ret_b (decide_eq_true rfl)
  ·
   have hfw : fewT p = true := by simpa using g33
   refine RK.c (S.bfield fi32_0 (.yes rfl rfl rfl rfl) rfl (.tmp rfl rfl)) ?_
   refine RK.c (S.bfield fi27_1 (.yes rfl rfl rfl rfl) rfl (.tmp rfl rfl)) ?_
   refine RK.c (S.bload1 ti25 (.yes rfl rfl rfl rfl) rfl (.tmp rfl rfl) rfl rfl rfl rfl) ?_
   refine RK.c (S.call (law_short (l := t.frame.values)) Tryz.call7 (.yes rfl rfl rfl rfl) rfl (.cons (.tmp rfl rfl) .nil) rfl) ?_
   refine RK.c (S.not (.yes rfl rfl rfl rfl) rfl (.tmp rfl rfl)) ?_
   refine RK.c (S.pickF .none rfl (.tmp rfl rfl) (.tmp rfl rfl) rfl) ?_
   refine RK.c (S.move .none rfl (.tmp rfl rfl)) ?_
   refine RK.split (t := 40) rfl (fun g40 => ?_) (fun g40 => ?_)
   ·
    refine RK.c (S.skip rfl rfl rfl rfl rfl) ?_
    refine RK.c (S.skip rfl rfl rfl rfl rfl) ?_
    refine RK.c (S.skip rfl rfl rfl rfl rfl) ?_
    refine RK.c (S.skip rfl rfl rfl rfl rfl) ?_
    refine RK.c (S.pickT .none rfl (.tmp rfl rfl) .cbool rfl) ?_
    refine RK.c (S.move .none rfl (.tmp rfl rfl)) ?_
    refine RK.c (S.skip rfl rfl rfl rfl rfl) ?_
    refine RK.c (S.skip rfl rfl rfl rfl rfl) ?_
    refine RK.c (S.skip rfl rfl rfl rfl rfl) ?_
    refine RK.c (S.pickT .none rfl (.tmp rfl rfl) .cbool rfl) ?_
    refine RK.nil (Ab.D.code ?_)
    refine OK.condT rfl rfl rfl ?_
    refine OK.seq (OK.reg ?_)
    refine RK.c (S.assign .none rfl .cbool) ?_
    refine RK.nil (Ab.D.code ?_)
    refine OK.ret (Ret.r1 (.tmp rfl rfl (.c (.same rfl) rfl) rfl) ?_)
    first | rfl | exact ret_b (decide_eq_true rfl)
   ·
    have hfv := short_le (l := t.frame.values) (by simpa using g40)
    refine RK.c (S.bfield fi32_1 (.yes rfl rfl rfl rfl) rfl (.tmp rfl rfl)) ?_
    refine RK.c (S.bloadN ti30 (.yes rfl rfl rfl rfl) rfl (.tmp rfl rfl) rfl rfl rfl rfl) ?_
    refine RK.c (S.call (law_shortEnvelope (x := t.env)) Tryz.call8 (.yes rfl rfl rfl rfl) rfl (.cons (.tmp rfl rfl) .nil) rfl) ?_
    refine RK.c (S.not (.yes rfl rfl rfl rfl) rfl (.tmp rfl rfl)) ?_
    refine RK.c (S.pickF .none rfl (.tmp rfl rfl) (.tmp rfl rfl) rfl) ?_
    refine RK.c (S.move .none rfl (.tmp rfl rfl)) ?_
    refine RK.split (t := 46) rfl (fun g46 => ?_) (fun g46 => ?_)
    ·
     refine RK.c (S.skip rfl rfl rfl rfl rfl) ?_
     refine RK.c (S.skip rfl rfl rfl rfl rfl) ?_
     refine RK.c (S.skip rfl rfl rfl rfl rfl) ?_
     refine RK.c (S.pickT .none rfl (.tmp rfl rfl) .cbool rfl) ?_
     refine RK.nil (Ab.D.code ?_)
     refine OK.condT rfl rfl rfl ?_
     refine OK.seq (OK.reg ?_)
     refine RK.c (S.assign .none rfl .cbool) ?_
     refine RK.nil (Ab.D.code ?_)
     refine OK.ret (Ret.r1 (.tmp rfl rfl (.c (.same rfl) rfl) rfl) ?_)
     first | rfl | exact ret_b (decide_eq_true rfl)
    ·
     have hse : shortEnvT t.env = true := by simpa using g46
     refine RK.c (S.move (.yes rfl rfl rfl rfl) rfl (.tmp rfl rfl)) ?_
     refine RK.c (S.slen Tryz.underlying9 (.yes rfl rfl rfl rfl) rfl (.tmp rfl rfl)) ?_
     refine RK.c (S.gtr (.yes rfl rfl rfl rfl) rfl (.tmp rfl rfl) (.cint rfl)) ?_
     refine RK.c (S.pickF .none rfl (.tmp rfl rfl) (.tmp rfl rfl) rfl) ?_
     refine RK.nil (Ab.D.code ?_)
     refine OK.condD rfl rfl (fun c50 => ?_) (fun c50 => ?_)
     ·
      refine OK.seq (OK.reg ?_)
      refine RK.c (S.assign .none rfl .cbool) ?_
      refine RK.nil (Ab.D.code ?_)
      refine OK.ret (Ret.r1 (.tmp rfl rfl (.c (.same rfl) rfl) rfl) ?_)
      first | rfl | exact ret_b (decide_eq_true rfl)
     ·
      refine OK.skip ?_
      refine Ab.D.lp ⟨(), ⟨hfw, hfv, hse, by omega⟩, rfl, rfl, rfl, rfl, rfl, trivial⟩
 ·
  rintro _ ⟨hfw, hfv, hse, hsl⟩
  obtain ⟨hp6, hp20⟩ := few_all hfw
  obtain ⟨hr14, hr6⟩ := shortEnv_len hse
  have hpc : ∀ s ∈ p.channels, s.length ≤ 1000 := fun w hw => Nat.le_trans (hp20 w hw) (by decide)
  have hrc : ∀ l ∈ t.env.rows, l.length ≤ 100 := fun l hl => by obtain ⟨i, hi, rfl⟩ := List.getElem_of_mem hl; have := hr6 i hi; omega
  have hrv : ∀ (i : Nat) (h : i < t.env.rows.length), t.env.rows[i].length ≤ 100000 := fun i h => by have := hr6 i h; omega
  refine OK.seq ?_
  refine OK.regionDraw follows (.c (S.bloadN ti24 .none rfl (.tmp rfl rfl) rfl rfl rfl rfl)
   (.c (S.call (ref_CopyPlan (p := p) (by omega)) Tryz.call10 .none rfl (.cons (.tmp rfl rfl) .nil) rfl)
   (.c (S.callT (mon_FormatPlan (p := p) (by omega) hpc) hT Tryz.call9 .none rfl (.cons (.tmp rfl rfl) .nil) rfl)
   (.c (S.bfield fi32_0 .none rfl (.tmp rfl rfl))
   (.c (S.bloadN ti27 .none rfl (.tmp rfl rfl) rfl rfl rfl rfl)
   (.c (S.call (ref_CopyFrame (f := t.frame) (by omega)) Tryz.call12 .none rfl (.cons (.tmp rfl rfl) .nil) rfl)
   (.c (S.callT (mon_FormatFrame (f := t.frame) (by omega)) hT Tryz.call11 .none rfl (.cons (.tmp rfl rfl) .nil) rfl)
   (.c (S.bfield fi32_1 .none rfl (.tmp rfl rfl))
   (.c (S.bloadN ti30 .none rfl (.tmp rfl rfl) rfl rfl rfl rfl)
   (.c (S.call (ref_CopyEnvelope (x := t.env) (by omega) hrv) Tryz.call14 .none rfl (.cons (.tmp rfl rfl) .nil) rfl)
   (.c (S.callT (mon_FormatEnvelope (x := t.env) (by omega) hrc) hT Tryz.call13 .none rfl (.cons (.tmp rfl rfl) .nil) rfl)
   (.c (S.assign .none rfl (.tmp rfl rfl))
   (.c (S.assign .none rfl (.tmp rfl rfl))
   (.c (S.assign .none rfl (.tmp rfl rfl))
   .nil)))))))))))))) (by kernel_rfl) ?_
  refine Ab.D.code (OK.seq (OK.seq (OK.reg ?_)))
  refine RK.c (S.move .none rfl (.tmp rfl rfl)) ?_
  refine RK.c (S.bloadN ti24 .none rfl (.tmp rfl rfl) rfl rfl rfl rfl) ?_
  refine RK.c (S.call (ref_FormatPlan (p := p) (by omega) hpc) Tryz.call15 .none rfl (.cons (.tmp rfl rfl) .nil) rfl) ?_
  refine RK.c (S.sneq .none rfl (.tmp rfl rfl) (.tmp rfl rfl)) ?_
  refine RK.c (S.move .none rfl (.tmp rfl rfl)) ?_
  refine RK.splitD (t := 66) rfl (fun g66 => ?_) (fun g66 => ?_)
  ·
   exact absurd rfl g66
  ·
   refine RK.c (S.move (.yes rfl rfl rfl rfl) rfl (.tmp rfl rfl)) ?_
   refine RK.c (S.bfield fi32_0 (.yes rfl rfl rfl rfl) rfl (.tmp rfl rfl)) ?_
   refine RK.c (S.bloadN ti27 (.yes rfl rfl rfl rfl) rfl (.tmp rfl rfl) rfl rfl rfl rfl) ?_
   refine RK.c (S.call (ref_FormatFrame (f := t.frame) (by omega)) Tryz.call16 (.yes rfl rfl rfl rfl) rfl (.cons (.tmp rfl rfl) .nil) rfl) ?_
   refine RK.c (S.sneq (.yes rfl rfl rfl rfl) rfl (.tmp rfl rfl) (.tmp rfl rfl)) ?_
   refine RK.c (S.pickF .none rfl (.tmp rfl rfl) (.tmp rfl rfl) rfl) ?_
   refine RK.c (S.move .none rfl (.tmp rfl rfl)) ?_
   refine RK.splitD (t := 73) rfl (fun g73 => ?_) (fun g73 => ?_)
   ·
    exact absurd rfl g73
   ·
    refine RK.c (S.move (.yes rfl rfl rfl rfl) rfl (.tmp rfl rfl)) ?_
    refine RK.c (S.bfield fi32_1 (.yes rfl rfl rfl rfl) rfl (.tmp rfl rfl)) ?_
    refine RK.c (S.bloadN ti30 (.yes rfl rfl rfl rfl) rfl (.tmp rfl rfl) rfl rfl rfl rfl) ?_
    refine RK.c (S.call (ref_FormatEnvelope (x := t.env) (by omega) hrc) Tryz.call17 (.yes rfl rfl rfl rfl) rfl (.cons (.tmp rfl rfl) .nil) rfl) ?_
    refine RK.c (S.sneq (.yes rfl rfl rfl rfl) rfl (.tmp rfl rfl) (.tmp rfl rfl)) ?_
    refine RK.c (S.pickF .none rfl (.tmp rfl rfl) (.tmp rfl rfl) rfl) ?_
    refine RK.nil (Ab.D.code ?_)
    refine OK.condD rfl rfl (fun c79 => ?_) (fun c79 => ?_)
    ·
     exact absurd rfl c79
    ·
     refine OK.skip ?_
     refine Ab.D.code (OK.seq (OK.reg ?_))
     refine RK.c (S.move .none rfl (.tmp rfl rfl)) ?_
     refine RK.c (S.callT (mon_ParsePlan (l := s) (by omega)) hT Tryz.call18 .none rfl (.cons (.tmp rfl rfl) .nil) rfl) ?_
     refine RK.c (S.move .none rfl (.tmp rfl rfl)) ?_
     refine RK.c (S.extract .none rfl (.tmp rfl rfl) rfl rfl) ?_
     refine RK.c (S.extract .none rfl (.tmp rfl rfl) rfl rfl) ?_
     refine RK.c (S.alloc (k := 10) ze24 rfl .none rfl) ?_
     refine RK.c (S.store ti24 .none (.tmp rfl rfl) (.tmp rfl rfl) rfl rfl rfl rfl rfl rfl) ?_
     refine RK.c (S.assign .none rfl (.tmp rfl rfl)) ?_
     refine RK.nil (Ab.D.code (OK.seq (OK.reg ?_)))
     refine RK.c (S.move .none rfl (.tmp rfl rfl)) ?_
     refine RK.c (S.callT (mon_ParseFrame (l := s) (by omega)) hT Tryz.call19 .none rfl (.cons (.tmp rfl rfl) .nil) rfl) ?_
     refine RK.c (S.move .none rfl (.tmp rfl rfl)) ?_
     refine RK.c (S.extract .none rfl (.tmp rfl rfl) rfl rfl) ?_
     refine RK.c (S.extract .none rfl (.tmp rfl rfl) rfl rfl) ?_
     refine RK.c (S.alloc (k := 12) ze27 rfl .none rfl) ?_
     refine RK.c (S.store ti27 .none (.tmp rfl rfl) (.tmp rfl rfl) rfl rfl rfl rfl rfl rfl) ?_
     refine RK.c (S.assign .none rfl (.tmp rfl rfl)) ?_
     refine RK.nil (Ab.D.code (OK.seq (OK.reg ?_)))
     refine RK.c (S.move .none rfl (.tmp rfl rfl)) ?_
     refine RK.c (S.callT (mon_ParseEnvelope (l := s) (by omega)) hT Tryz.call20 .none rfl (.cons (.tmp rfl rfl) .nil) rfl) ?_
     refine RK.c (S.move .none rfl (.tmp rfl rfl)) ?_
     refine RK.c (S.extract .none rfl (.tmp rfl rfl) rfl rfl) ?_
     refine RK.c (S.extract .none rfl (.tmp rfl rfl) rfl rfl) ?_
     refine RK.c (S.alloc (k := 14) ze30 rfl .none rfl) ?_
     refine RK.c (S.store ti30 .none (.tmp rfl rfl) (.tmp rfl rfl) rfl rfl rfl rfl rfl rfl) ?_
     refine RK.c (S.assign .none rfl (.tmp rfl rfl)) ?_
     refine RK.nil (Ab.D.code (OK.seq (OK.reg ?_)))
     refine RK.c (S.move .none rfl (.tmp rfl rfl)) ?_
     refine RK.c (S.call (ref_ParsePlan (l := s) (by omega)) Tryz.call21 .none rfl (.cons (.tmp rfl rfl) .nil) rfl) ?_
     refine RK.c (S.move .none rfl (.tmp rfl rfl)) ?_
     refine RK.c (S.extract .none rfl (.tmp rfl rfl) rfl rfl) ?_
     refine RK.c (S.extract .none rfl (.tmp rfl rfl) rfl rfl) ?_
     refine RK.c (S.alloc (k := 16) ze24 rfl .none rfl) ?_
     refine RK.c (S.store ti24 .none (.tmp rfl rfl) (.tmp rfl rfl) rfl rfl rfl rfl rfl rfl) ?_
     refine RK.c (S.assign .none rfl (.tmp rfl rfl)) ?_
     refine RK.nil (Ab.D.code (OK.seq (OK.reg ?_)))
     refine RK.c (S.move .none rfl (.tmp rfl rfl)) ?_
     refine RK.c (S.call (ref_ParseFrame (l := s) (by omega)) Tryz.call22 .none rfl (.cons (.tmp rfl rfl) .nil) rfl) ?_
     refine RK.c (S.move .none rfl (.tmp rfl rfl)) ?_
     refine RK.c (S.extract .none rfl (.tmp rfl rfl) rfl rfl) ?_
     refine RK.c (S.extract .none rfl (.tmp rfl rfl) rfl rfl) ?_
     refine RK.c (S.alloc (k := 18) ze27 rfl .none rfl) ?_
     refine RK.c (S.store ti27 .none (.tmp rfl rfl) (.tmp rfl rfl) rfl rfl rfl rfl rfl rfl) ?_
     refine RK.c (S.assign .none rfl (.tmp rfl rfl)) ?_
     refine RK.nil (Ab.D.code (OK.seq (OK.reg ?_)))
     refine RK.c (S.move .none rfl (.tmp rfl rfl)) ?_
     refine RK.c (S.call (ref_ParseEnvelope (l := s) (by omega)) Tryz.call23 .none rfl (.cons (.tmp rfl rfl) .nil) rfl) ?_
     refine RK.c (S.move .none rfl (.tmp rfl rfl)) ?_
     refine RK.c (S.extract .none rfl (.tmp rfl rfl) rfl rfl) ?_
     refine RK.c (S.extract .none rfl (.tmp rfl rfl) rfl rfl) ?_
     refine RK.c (S.alloc (k := 20) ze30 rfl .none rfl) ?_
     refine RK.c (S.store ti30 .none (.tmp rfl rfl) (.tmp rfl rfl) rfl rfl rfl rfl rfl rfl) ?_
     refine RK.c (S.assign .none rfl (.tmp rfl rfl)) ?_
     refine RK.nil (Ab.D.code ?_)
     refine OK.join (G := Unit) [3, 4] (fun _ => [(3, .ptr 3 0), (1003, .box p.cs), (4, .ptr 4 0), (1004, .box [.int .i64 t.frame.tick, ints t.frame.values, .int .i64 t.env.parts, .int .i64 t.env.trim, .sl (t.env.rows.map fun l => [X.sl (l.map Range.cs)])]), (7, .str (fmtPlan p)), (8, .str (fmtFrame t.frame)), (9, .str (fmtEnv t.env))]) (fun _ => True) (fun _ => rfl) ?_ ?_
     ·
      refine OK.seq (OK.reg ?_)
      refine RK.c (S.move .none rfl (.tmp rfl rfl)) ?_
      refine RK.c (S.move .none rfl (.tmp rfl rfl)) ?_
      refine RK.c (S.neq .none rfl (.tmp rfl rfl) (.tmp rfl rfl)) ?_
      refine RK.c (S.move .none rfl (.tmp rfl rfl)) ?_
      refine RK.splitD (t := 113) rfl (fun g113 => ?_) (fun g113 => ?_)
      ·
       exact absurd rfl g113
      ·
       refine RK.c (S.bloadN ti24 (.yes rfl rfl rfl rfl) rfl (.tmp rfl rfl) rfl rfl rfl rfl) ?_
       refine RK.c (S.bloadN ti24 (.yes rfl rfl rfl rfl) rfl (.tmp rfl rfl) rfl rfl rfl rfl) ?_
       refine RK.c (S.call (ref_SamePlan (a := (parseP s).1) (b := (parseP s).1)) Tryz.call24 (.yes rfl rfl rfl rfl) rfl (.cons (.tmp rfl rfl) (.cons (.tmp rfl rfl) .nil)) rfl) ?_
       refine RK.c (S.notD (.yes rfl rfl rfl rfl) rfl (.tmp rfl rfl)) ?_
       refine RK.c (S.pickF .none rfl (.tmp rfl rfl) (.tmp rfl rfl) rfl) ?_
       refine RK.c (S.move .none rfl (.tmp rfl rfl)) ?_
       refine RK.splitD (t := 119) rfl (fun g119 => ?_) (fun g119 => ?_)
       ·
        exact absurd rfl g119
       ·
        refine RK.c (S.move (.yes rfl rfl rfl rfl) rfl (.tmp rfl rfl)) ?_
        refine RK.c (S.move (.yes rfl rfl rfl rfl) rfl (.tmp rfl rfl)) ?_
        refine RK.c (S.neq (.yes rfl rfl rfl rfl) rfl (.tmp rfl rfl) (.tmp rfl rfl)) ?_
        refine RK.c (S.pickF .none rfl (.tmp rfl rfl) (.tmp rfl rfl) rfl) ?_
        refine RK.c (S.move .none rfl (.tmp rfl rfl)) ?_
        refine RK.splitD (t := 124) rfl (fun g124 => ?_) (fun g124 => ?_)
        ·
         exact absurd rfl g124
        ·
         refine RK.c (S.bloadN ti27 (.yes rfl rfl rfl rfl) rfl (.tmp rfl rfl) rfl rfl rfl rfl) ?_
         refine RK.c (S.bloadN ti27 (.yes rfl rfl rfl rfl) rfl (.tmp rfl rfl) rfl rfl rfl rfl) ?_
         refine RK.c (S.call (ref_SameFrame (a := (parseF s).1) (b := (parseF s).1)) Tryz.call25 (.yes rfl rfl rfl rfl) rfl (.cons (.tmp rfl rfl) (.cons (.tmp rfl rfl) .nil)) rfl) ?_
         refine RK.c (S.notD (.yes rfl rfl rfl rfl) rfl (.tmp rfl rfl)) ?_
         refine RK.c (S.pickF .none rfl (.tmp rfl rfl) (.tmp rfl rfl) rfl) ?_
         refine RK.c (S.move .none rfl (.tmp rfl rfl)) ?_
         refine RK.splitD (t := 130) rfl (fun g130 => ?_) (fun g130 => ?_)
         ·
          exact absurd rfl g130
         ·
          refine RK.c (S.move (.yes rfl rfl rfl rfl) rfl (.tmp rfl rfl)) ?_
          refine RK.c (S.move (.yes rfl rfl rfl rfl) rfl (.tmp rfl rfl)) ?_
          refine RK.c (S.neq (.yes rfl rfl rfl rfl) rfl (.tmp rfl rfl) (.tmp rfl rfl)) ?_
          refine RK.c (S.pickF .none rfl (.tmp rfl rfl) (.tmp rfl rfl) rfl) ?_
          refine RK.c (S.move .none rfl (.tmp rfl rfl)) ?_
          refine RK.splitD (t := 135) rfl (fun g135 => ?_) (fun g135 => ?_)
          ·
           exact absurd rfl g135
          ·
           refine RK.c (S.bloadN ti30 (.yes rfl rfl rfl rfl) rfl (.tmp rfl rfl) rfl rfl rfl rfl) ?_
           refine RK.c (S.bloadN ti30 (.yes rfl rfl rfl rfl) rfl (.tmp rfl rfl) rfl rfl rfl rfl) ?_
           refine RK.c (S.call (ref_SameEnvelope (a := (parseE s).1) (b := (parseE s).1)) Tryz.call26 (.yes rfl rfl rfl rfl) rfl (.cons (.tmp rfl rfl) (.cons (.tmp rfl rfl) .nil)) rfl) ?_
           refine RK.c (S.notD (.yes rfl rfl rfl rfl) rfl (.tmp rfl rfl)) ?_
           refine RK.c (S.pickF .none rfl (.tmp rfl rfl) (.tmp rfl rfl) rfl) ?_
           refine RK.nil (Ab.D.code ?_)
           refine OK.condD rfl rfl (fun c140 => ?_) (fun c140 => ?_)
           ·
            exact absurd rfl c140
           ·
            refine OK.skip ?_
            refine Ab.D.lp ⟨(), trivial, rfl, rfl, rfl, rfl, rfl, rfl, rfl, trivial⟩
     ·
      rintro _ _
      refine OK.seq (OK.seq (OK.reg ?_))
      refine RK.c (S.bloadN ti24 .none rfl (.tmp rfl rfl) rfl rfl rfl rfl) ?_
      refine RK.c (S.call (ref_PlanErr (p := p)) Tryz.call27 .none rfl (.cons (.tmp rfl rfl) .nil) rfl) ?_
      refine RK.c (S.neq .none rfl (.tmp rfl rfl) (.cint rfl)) ?_
      refine RK.nil (Ab.D.code ?_)
      refine OK.condD rfl rfl (fun c143 => ?_) (fun c143 => ?_)
      ·
       refine OK.seq (OK.reg ?_)
       refine RK.c (S.assign .none rfl .cbool) ?_
       refine RK.nil (Ab.D.code ?_)
       refine OK.ret (Ret.r1 (.tmp rfl rfl (.c (.same rfl) rfl) rfl) ?_)
       first | rfl | exact ret_b (decide_eq_true rfl)
      ·
       have h0 : planErr p = 0 := Decidable.not_not.1 c143
       have hpt := planErr_ticks h0
       have hpl : (fmtPlan p).length ≤ 100000 - 1 := by
        have := join_bd2 (x := Lib.itoa p.ticks) (r := p.channels) (B := 20) (N := 100) (by have := (num_itoa (n := p.ticks) (by omega)).2.2; omega) hp20 (by omega)
        unfold fmtPlan
        omega
       have hPP : CtT Tryz.prog 18 [.str (fmtPlan p)] (.tup [.agg p.cs, .int .i64 0]) := by
        have h9 := mon_ParsePlan (l := fmtPlan p) hpl
        rw [rt_plan h0] at h9
        exact h9
       refine OK.skip ?_
       refine Ab.D.code (OK.seq (OK.seq (OK.reg ?_)))
       refine RK.c (S.move .none rfl (.tmp rfl rfl)) ?_
       refine RK.c (S.callT (hPP) hT Tryz.call18 .none rfl (.cons (.tmp rfl rfl) .nil) rfl) ?_
       refine RK.c (S.move .none rfl (.tmp rfl rfl)) ?_
       refine RK.c (S.extract .none rfl (.tmp rfl rfl) rfl rfl) ?_
       refine RK.c (S.extract .none rfl (.tmp rfl rfl) rfl rfl) ?_
       refine RK.c (S.alloc (k := 22) ze24 rfl .none rfl) ?_
       refine RK.c (S.store ti24 .none (.tmp rfl rfl) (.tmp rfl rfl) rfl rfl rfl rfl rfl rfl) ?_
       refine RK.c (S.assign .none rfl (.tmp rfl rfl)) ?_
       refine RK.nil (Ab.D.code (OK.seq (OK.reg ?_)))
       refine RK.c (S.move .none rfl (.tmp rfl rfl)) ?_
       refine RK.c (S.neq .none rfl (.tmp rfl rfl) (.cint rfl)) ?_
       refine RK.c (S.move .none rfl (.tmp rfl rfl)) ?_
       refine RK.splitD (t := 151) rfl (fun g151 => ?_) (fun g151 => ?_)
       ·
        exact absurd rfl g151
       ·
        refine RK.c (S.bloadN ti24 (.yes rfl rfl rfl rfl) rfl (.tmp rfl rfl) rfl rfl rfl rfl) ?_
        refine RK.c (S.bloadN ti24 (.yes rfl rfl rfl rfl) rfl (.tmp rfl rfl) rfl rfl rfl rfl) ?_
        refine RK.c (S.call (ref_SamePlan (a := p) (b := p)) Tryz.call24 (.yes rfl rfl rfl rfl) rfl (.cons (.tmp rfl rfl) (.cons (.tmp rfl rfl) .nil)) rfl) ?_
        refine RK.c (S.notD (.yes rfl rfl rfl rfl) rfl (.tmp rfl rfl)) ?_
        refine RK.c (S.pickF .none rfl (.tmp rfl rfl) (.tmp rfl rfl) rfl) ?_
        refine RK.nil (Ab.D.code ?_)
        refine OK.condD rfl rfl (fun c156 => ?_) (fun c156 => ?_)
        ·
         exact absurd rfl c156
        ·
         refine OK.skip ?_
         refine Ab.D.code ?_
         refine OK.join (G := Unit) [3, 4] (fun _ => [(3, .ptr 3 0), (1003, .box p.cs), (4, .ptr 4 0), (1004, .box [.int .i64 t.frame.tick, ints t.frame.values, .int .i64 t.env.parts, .int .i64 t.env.trim, .sl (t.env.rows.map fun l => [X.sl (l.map Range.cs)])]), (9, .str (fmtEnv t.env))]) (fun _ => True) (fun _ => rfl) ?_ ?_
         ·
          refine OK.seq (OK.reg ?_)
          refine RK.c (S.bloadN ti24 .none rfl (.tmp rfl rfl) rfl rfl rfl rfl) ?_
          refine RK.c (S.bfield fi32_0 .none rfl (.tmp rfl rfl)) ?_
          refine RK.c (S.bloadN ti27 .none rfl (.tmp rfl rfl) rfl rfl rfl rfl) ?_
          refine RK.c (S.call (ref_FrameErr (p := p) (f := t.frame) hpt) Tryz.call28 .none rfl (.cons (.tmp rfl rfl) (.cons (.tmp rfl rfl) .nil)) rfl) ?_
          refine RK.c (S.eql .none rfl (.tmp rfl rfl) (.cint rfl)) ?_
          refine RK.nil (Ab.D.code ?_)
          refine OK.condD rfl rfl (fun c161 => ?_) (fun c161 => ?_)
          ·
           have hfl : (fmtFrame t.frame).length ≤ 100000 - 1 := by
            have := fmtFrame_len h0 c161 hfv
            omega
           have hPF : CtT Tryz.prog 19 [.str (fmtFrame t.frame)] (.tup [.agg t.frame.cs, .int .i64 0]) := by
            have h9 := mon_ParseFrame (l := fmtFrame t.frame) hfl
            rw [rt_frame h0 c161] at h9
            exact h9
           refine OK.seq (OK.reg ?_)
           refine RK.c (S.move .none rfl (.tmp rfl rfl)) ?_
           refine RK.c (S.callT (hPF) hT Tryz.call19 .none rfl (.cons (.tmp rfl rfl) .nil) rfl) ?_
           refine RK.c (S.move .none rfl (.tmp rfl rfl)) ?_
           refine RK.c (S.extract .none rfl (.tmp rfl rfl) rfl rfl) ?_
           refine RK.c (S.extract .none rfl (.tmp rfl rfl) rfl rfl) ?_
           refine RK.c (S.alloc (k := 24) ze27 rfl .none rfl) ?_
           refine RK.c (S.store ti27 .none (.tmp rfl rfl) (.tmp rfl rfl) rfl rfl rfl rfl rfl rfl) ?_
           refine RK.c (S.assign .none rfl (.tmp rfl rfl)) ?_
           refine RK.nil (Ab.D.code (OK.seq (OK.reg ?_)))
           refine RK.c (S.move .none rfl (.tmp rfl rfl)) ?_
           refine RK.c (S.neq .none rfl (.tmp rfl rfl) (.cint rfl)) ?_
           refine RK.c (S.move .none rfl (.tmp rfl rfl)) ?_
           refine RK.splitD (t := 169) rfl (fun g169 => ?_) (fun g169 => ?_)
           ·
            exact absurd rfl g169
           ·
            refine RK.c (S.bloadN ti27 (.yes rfl rfl rfl rfl) rfl (.tmp rfl rfl) rfl rfl rfl rfl) ?_
            refine RK.c (S.bfield fi32_0 (.yes rfl rfl rfl rfl) rfl (.tmp rfl rfl)) ?_
            refine RK.c (S.bloadN ti27 (.yes rfl rfl rfl rfl) rfl (.tmp rfl rfl) rfl rfl rfl rfl) ?_
            refine RK.c (S.call (ref_SameFrame (a := t.frame) (b := t.frame)) Tryz.call25 (.yes rfl rfl rfl rfl) rfl (.cons (.tmp rfl rfl) (.cons (.tmp rfl rfl) .nil)) rfl) ?_
            refine RK.c (S.notD (.yes rfl rfl rfl rfl) rfl (.tmp rfl rfl)) ?_
            refine RK.c (S.pickF .none rfl (.tmp rfl rfl) (.tmp rfl rfl) rfl) ?_
            refine RK.nil (Ab.D.code ?_)
            refine OK.condD rfl rfl (fun c175 => ?_) (fun c175 => ?_)
            ·
             exact absurd rfl c175
            ·
             refine OK.skip ?_
             refine Ab.D.lp ⟨(), trivial, rfl, rfl, rfl, rfl, rfl, trivial⟩
          ·
           refine OK.skip ?_
           refine Ab.D.lp ⟨(), trivial, rfl, rfl, rfl, rfl, rfl, trivial⟩
         ·
          rintro _ _
          refine OK.seq (OK.seq (OK.reg ?_))
          refine RK.c (S.bloadN ti24 .none rfl (.tmp rfl rfl) rfl rfl rfl rfl) ?_
          refine RK.c (S.bfield fi32_1 .none rfl (.tmp rfl rfl)) ?_
          refine RK.c (S.bloadN ti30 .none rfl (.tmp rfl rfl) rfl rfl rfl rfl) ?_
          refine RK.c (S.call (ref_EnvelopeErr (p := p) (x := t.env)) Tryz.call29 .none rfl (.cons (.tmp rfl rfl) (.cons (.tmp rfl rfl) .nil)) rfl) ?_
          refine RK.c (S.neq .none rfl (.tmp rfl rfl) (.cint rfl)) ?_
          refine RK.nil (Ab.D.code ?_)
          refine OK.condD rfl rfl (fun c180 => ?_) (fun c180 => ?_)
          ·
           refine OK.seq (OK.reg ?_)
           refine RK.c (S.assign .none rfl .cbool) ?_
           refine RK.nil (Ab.D.code ?_)
           refine OK.ret (Ret.r1 (.tmp rfl rfl (.c (.same rfl) rfl) rfl) ?_)
           first | rfl | exact ret_b (decide_eq_true rfl)
          ·
           obtain ⟨he1, he2⟩ := rt_env h0 (Decidable.not_not.1 c180)
           have hPE : CtT Tryz.prog 20 [.str (fmtEnv t.env)] (.tup [.agg t.env.cs, .int .i64 0]) := by
            have h9 := mon_ParseEnvelope (l := fmtEnv t.env) (by omega)
            rw [he1] at h9
            exact h9
           refine OK.skip ?_
           refine Ab.D.code (OK.seq (OK.reg ?_))
           refine RK.c (S.move .none rfl (.tmp rfl rfl)) ?_
           refine RK.c (S.callT (hPE) hT Tryz.call20 .none rfl (.cons (.tmp rfl rfl) .nil) rfl) ?_
           refine RK.c (S.move .none rfl (.tmp rfl rfl)) ?_
           refine RK.c (S.extract .none rfl (.tmp rfl rfl) rfl rfl) ?_
           refine RK.c (S.extract .none rfl (.tmp rfl rfl) rfl rfl) ?_
           refine RK.c (S.alloc (k := 26) ze30 rfl .none rfl) ?_
           refine RK.c (S.store ti30 .none (.tmp rfl rfl) (.tmp rfl rfl) rfl rfl rfl rfl rfl rfl) ?_
           refine RK.c (S.assign .none rfl (.tmp rfl rfl)) ?_
           refine RK.nil (Ab.D.code (OK.seq (OK.reg ?_)))
           refine RK.c (S.move .none rfl (.tmp rfl rfl)) ?_
           refine RK.c (S.eql .none rfl (.tmp rfl rfl) (.cint rfl)) ?_
           refine RK.c (S.move .none rfl (.tmp rfl rfl)) ?_
           refine RK.splitD (t := 188) rfl (fun g188 => ?_) (fun g188 => ?_)
           ·
            refine RK.c (S.bloadN ti30 (.yes rfl rfl rfl rfl) rfl (.tmp rfl rfl) rfl rfl rfl rfl) ?_
            refine RK.c (S.bfield fi32_1 (.yes rfl rfl rfl rfl) rfl (.tmp rfl rfl)) ?_
            refine RK.c (S.bloadN ti30 (.yes rfl rfl rfl rfl) rfl (.tmp rfl rfl) rfl rfl rfl rfl) ?_
            refine RK.c (S.call (ref_SameEnvelope (a := t.env) (b := t.env)) Tryz.call26 (.yes rfl rfl rfl rfl) rfl (.cons (.tmp rfl rfl) (.cons (.tmp rfl rfl) .nil)) rfl) ?_
            refine RK.c (S.pickT .none rfl (.tmp rfl rfl) (.tmp rfl rfl) rfl) ?_
            refine RK.c (S.assign .none rfl (.tmp rfl rfl)) ?_
            refine RK.nil (Ab.D.code ?_)
            refine OK.ret (Ret.r1 (.tmp rfl rfl (.c (.same rfl) rfl) rfl) ?_)
            first | rfl | exact ret_b (decide_eq_true rfl)
           ·
            exact absurd rfl g188
end Go.Proofs.YtpmglnphhhlbdaaGreatDoor
