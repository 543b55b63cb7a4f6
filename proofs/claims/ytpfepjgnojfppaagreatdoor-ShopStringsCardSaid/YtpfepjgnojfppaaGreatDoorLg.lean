import Derived.Test.YtpfepjgnojfppaaGreatDoorGs
import Derived.Test.YtpfepjgnojfppaaGreatDoorLf
import Derived.Test.YtpfepjgnojfppaaGreatDoorTz
namespace Go.Proofs.YtpfepjgnojfppaaGreatDoor
open Go.Ab
theorem bsk_snoc {l : List Basket} {i : Nat} (hi : i < l.length) (h : ∀ b ∈ l.take i, bskOk b) (h2 : bskOk l[i]) : ∀ b ∈ l.take (i + 1), bskOk b := by
  intro b hb
  rw [List.take_succ_eq_append_getElem hi, List.mem_append, List.mem_singleton] at hb
  rcases hb with hb | rfl
  · exact h b hb
  · exact h2
theorem sh_str {x : X} (h : Shape .str [x]) : ∃ l : List UInt8, x = .str l := by
  obtain ⟨l, h⟩ := h
  cases h
  exact ⟨l, rfl⟩
def shOk (s : Share) : Prop := nameOk s.lot = true ∧ 0 ≤ s.parts ∧ s.parts ≤ 9999
theorem shr_snoc {l : List Share} {i : Nat} (hi : i < l.length) (h : ∀ b ∈ l.take i, shOk b) (h2 : shOk l[i]) : ∀ b ∈ l.take (i + 1), shOk b := by
  intro b hb
  rw [List.take_succ_eq_append_getElem hi, List.mem_append, List.mem_singleton] at hb
  rcases hb with hb | rfl
  · exact h b hb
  · exact h2
set_option maxHeartbeats 4000000 in
theorem law_ShopStrings {js : List Job} {bs : List Basket} {s : List UInt8} : CtT Tryz.prog 10 [.sl (js.map Job.cs), .sl (bs.map Basket.cs), .str s] (.bool true) := by
 refine CtT.intro (rs := [.tmp 6]) Tryz.func10 rfl Tryz.ntmps10 Tryz.results10 rfl rfl rfl fun w h hT => ?_
 refine OK.slRep (t := 0) rfl rfl fun hR => ?_
 have hWj := jobs_rep hR
 clear hR
 refine OK.slRep (t := 1) rfl rfl fun hR => ?_
 have hWb := bask_rep hR
 clear hR
 refine OK.seq (OK.reg ?_)
 refine RK.c (S.assign .none rfl .cbool) ?_
 refine RK.nil (Ab.D.code (OK.seq (OK.seq (OK.reg ?_))))
 refine RK.c (S.call (law9_awake) Tryz.call12 .none rfl .nil rfl) ?_
 refine RK.c (S.not .none rfl (.tmp rfl rfl)) ?_
 refine RK.nil (Ab.D.code ?_)
 refine OK.condF rfl rfl rfl ?_
 refine OK.skip ?_
 refine Ab.D.code ?_
 refine OK.join (G := Unit) [] (fun _ => [(0, .sl (js.map Job.cs)), (1, .sl (bs.map Basket.cs)), (2, .str s)]) (fun _ => fewJ js = true ∧ fewB bs = true ∧ s.length ≤ 60010) (fun _ => rfl) ?_ ?_
 ·
  refine OK.seq (OK.reg ?_)
  refine RK.c (S.move .none rfl (.tmp rfl rfl)) ?_
  refine RK.c (S.call (law9_fewJobs) Tryz.call13 .none rfl (.cons (.tmp rfl rfl) .nil) rfl) ?_
  refine RK.c (S.not .none rfl (.tmp rfl rfl)) ?_
  refine RK.c (S.move .none rfl (.tmp rfl rfl)) ?_
  refine RK.split (t := 28) rfl (fun g28 => ?_) (fun g28 => ?_)
  ·
   refine RK.c (S.skip rfl rfl rfl rfl rfl) ?_
   refine RK.c (S.skip rfl rfl rfl rfl rfl) ?_
   refine RK.c (S.skip rfl rfl rfl rfl rfl) ?_
   refine RK.c (S.pickT .none rfl (.tmp rfl rfl) .cbool rfl) ?_
   refine RK.c (S.move .none rfl (.tmp rfl rfl)) ?_
   refine RK.c (S.skip rfl rfl rfl rfl rfl) ?_
   refine RK.c (S.skip rfl rfl rfl rfl rfl) ?_
   refine RK.c (S.skip rfl rfl rfl rfl rfl) ?_
   refine RK.c (S.skip rfl rfl rfl rfl rfl) ?_
   refine RK.c (S.skipU rfl rfl rfl rfl) ?_
   refine RK.c (S.skipU rfl rfl rfl rfl) ?_
   refine RK.c (S.skipU rfl rfl rfl rfl) ?_
   refine RK.c (S.skip rfl rfl rfl rfl rfl) ?_
   refine RK.c (S.pickT .none rfl (.tmp rfl rfl) .cbool rfl) ?_
   refine RK.c (S.move .none rfl (.tmp rfl rfl)) ?_
   refine RK.c (S.skip rfl rfl rfl rfl rfl) ?_
   refine RK.c (S.skip rfl rfl rfl rfl rfl) ?_
   refine RK.c (S.skip rfl rfl rfl rfl rfl) ?_
   refine RK.c (S.pickT .none rfl (.tmp rfl rfl) .cbool rfl) ?_
   refine RK.nil (Ab.D.code ?_)
   refine OK.condT rfl rfl rfl ?_
   refine OK.seq (OK.reg ?_)
   refine RK.c (S.assign .none rfl .cbool) ?_
   refine RK.nil (Ab.D.code ?_)
   refine OK.ret (Ret.r1 (.tmp rfl rfl (.c (.same rfl) rfl) rfl) ?_)
   first | rfl | exact ret_b (decide_eq_true rfl)
  ·
   have hfj : fewJ js = true := by simpa using g28
   refine RK.c (S.move (.yes rfl rfl rfl rfl) rfl (.tmp rfl rfl)) ?_
   refine RK.c (S.call (law9_fewBaskets) Tryz.call30 (.yes rfl rfl rfl rfl) rfl (.cons (.tmp rfl rfl) .nil) rfl) ?_
   refine RK.c (S.not (.yes rfl rfl rfl rfl) rfl (.tmp rfl rfl)) ?_
   refine RK.c (S.pickF .none rfl (.tmp rfl rfl) (.tmp rfl rfl) rfl) ?_
   refine RK.c (S.move .none rfl (.tmp rfl rfl)) ?_
   refine RK.split (t := 33) rfl (fun g33 => ?_) (fun g33 => ?_)
   ·
    refine RK.c (S.skip rfl rfl rfl rfl rfl) ?_
    refine RK.c (S.skip rfl rfl rfl rfl rfl) ?_
    refine RK.c (S.skip rfl rfl rfl rfl rfl) ?_
    refine RK.c (S.skip rfl rfl rfl rfl rfl) ?_
    refine RK.c (S.skipU rfl rfl rfl rfl) ?_
    refine RK.c (S.skipU rfl rfl rfl rfl) ?_
    refine RK.c (S.skipU rfl rfl rfl rfl) ?_
    refine RK.c (S.skip rfl rfl rfl rfl rfl) ?_
    refine RK.c (S.pickT .none rfl (.tmp rfl rfl) .cbool rfl) ?_
    refine RK.c (S.move .none rfl (.tmp rfl rfl)) ?_
    refine RK.c (S.skip rfl rfl rfl rfl rfl) ?_
    refine RK.c (S.skip rfl rfl rfl rfl rfl) ?_
    refine RK.c (S.skip rfl rfl rfl rfl rfl) ?_
    refine RK.c (S.pickT .none rfl (.tmp rfl rfl) .cbool rfl) ?_
    refine RK.nil (Ab.D.code ?_)
    refine OK.condT rfl rfl rfl ?_
    refine OK.seq (OK.reg ?_)
    refine RK.c (S.assign .none rfl .cbool) ?_
    refine RK.nil (Ab.D.code ?_)
    refine OK.ret (Ret.r1 (.tmp rfl rfl (.c (.same rfl) rfl) rfl) ?_)
    first | rfl | exact ret_b (decide_eq_true rfl)
   ·
    have hfb : fewB bs = true := by simpa using g33
    refine RK.c (S.move (.yes rfl rfl rfl rfl) rfl (.tmp rfl rfl)) ?_
    refine RK.c (S.slen Tryz.underlying9 (.yes rfl rfl rfl rfl) rfl (.tmp rfl rfl)) ?_
    refine RK.c (S.gtr (.yes rfl rfl rfl rfl) rfl (.tmp rfl rfl) (.cint rfl)) ?_
    refine RK.c (S.move (.yes rfl rfl rfl rfl) rfl (.tmp rfl rfl)) ?_
    refine RK.splitD (t := 37) rfl (fun g37 => ?_) (fun g37 => ?_)
    ·
     refine RK.c (S.move (.yes rfl rfl rfl rfl) rfl (.tmp rfl rfl)) ?_
     refine RK.c (S.slen Tryz.underlying9 (.yes rfl rfl rfl rfl) rfl (.tmp rfl rfl)) ?_
     refine RK.c (S.leq (.yes rfl rfl rfl rfl) rfl (.tmp rfl rfl) (.cint rfl)) ?_
     refine RK.c (S.pickT (.yes rfl rfl rfl rfl) rfl (.tmp rfl rfl) (.tmp rfl rfl) rfl) ?_
     refine RK.c (S.pickF .none rfl (.tmp rfl rfl) (.tmp rfl rfl) rfl) ?_
     refine RK.c (S.move .none rfl (.tmp rfl rfl)) ?_
     refine RK.splitD (t := 43) rfl (fun g43 => ?_) (fun g43 => ?_)
     ·
      refine RK.c (S.skip rfl rfl rfl rfl rfl) ?_
      refine RK.c (S.skip rfl rfl rfl rfl rfl) ?_
      refine RK.c (S.skip rfl rfl rfl rfl rfl) ?_
      refine RK.c (S.pickT .none rfl (.tmp rfl rfl) .cbool rfl) ?_
      refine RK.nil (Ab.D.code ?_)
      refine OK.condT rfl rfl rfl ?_
      refine OK.seq (OK.reg ?_)
      refine RK.c (S.assign .none rfl .cbool) ?_
      refine RK.nil (Ab.D.code ?_)
      refine OK.ret (Ret.r1 (.tmp rfl rfl (.c (.same rfl) rfl) rfl) ?_)
      first | rfl | exact ret_b (decide_eq_true rfl)
     ·
      refine RK.c (S.move (.yes rfl rfl rfl rfl) rfl (.tmp rfl rfl)) ?_
      refine RK.c (S.slen Tryz.underlying9 (.yes rfl rfl rfl rfl) rfl (.tmp rfl rfl)) ?_
      refine RK.c (S.gtr (.yes rfl rfl rfl rfl) rfl (.tmp rfl rfl) (.cint rfl)) ?_
      refine RK.c (S.pickF .none rfl (.tmp rfl rfl) (.tmp rfl rfl) rfl) ?_
      refine RK.nil (Ab.D.code ?_)
      refine OK.condD rfl rfl (fun c47 => ?_) (fun c47 => ?_)
      ·
       refine OK.seq (OK.reg ?_)
       refine RK.c (S.assign .none rfl .cbool) ?_
       refine RK.nil (Ab.D.code ?_)
       refine OK.ret (Ret.r1 (.tmp rfl rfl (.c (.same rfl) rfl) rfl) ?_)
       first | rfl | exact ret_b (decide_eq_true rfl)
      ·
       refine OK.skip ?_
       refine Ab.D.lp ⟨(), ⟨hfj, hfb, by omega⟩, rfl, rfl, rfl, trivial⟩
    ·
     refine RK.c (S.skip rfl rfl rfl rfl rfl) ?_
     refine RK.c (S.skip rfl rfl rfl rfl rfl) ?_
     refine RK.c (S.skip rfl rfl rfl rfl rfl) ?_
     refine RK.c (S.pickF (.yes rfl rfl rfl rfl) rfl (.tmp rfl rfl) .cbool rfl) ?_
     refine RK.c (S.pickF .none rfl (.tmp rfl rfl) (.tmp rfl rfl) rfl) ?_
     refine RK.c (S.move .none rfl (.tmp rfl rfl)) ?_
     refine RK.c (S.move (.yes rfl rfl rfl rfl) rfl (.tmp rfl rfl)) ?_
     refine RK.c (S.slen Tryz.underlying9 (.yes rfl rfl rfl rfl) rfl (.tmp rfl rfl)) ?_
     refine RK.c (S.gtr (.yes rfl rfl rfl rfl) rfl (.tmp rfl rfl) (.cint rfl)) ?_
     refine RK.c (S.pickF .none rfl (.tmp rfl rfl) (.tmp rfl rfl) rfl) ?_
     refine RK.nil (Ab.D.code ?_)
     refine OK.condD rfl rfl (fun c47 => ?_) (fun c47 => ?_)
     ·
      refine OK.seq (OK.reg ?_)
      refine RK.c (S.assign .none rfl .cbool) ?_
      refine RK.nil (Ab.D.code ?_)
      refine OK.ret (Ret.r1 (.tmp rfl rfl (.c (.same rfl) rfl) rfl) ?_)
      first | rfl | exact ret_b (decide_eq_true rfl)
     ·
      refine OK.skip ?_
      refine Ab.D.lp ⟨(), ⟨hfj, hfb, by omega⟩, rfl, rfl, rfl, trivial⟩
 ·
  rintro _ ⟨hfj, hfb, hsl⟩
  obtain ⟨hj9, hj30⟩ := few_all hfj
  have hfl := fmtJobs_len hj9 fun j hj => jobStr_len (hWj j hj) (hj30 j hj)
  obtain ⟨hb65, hb10⟩ := fewB_all hfb
  have hbsL : ∀ b ∈ bs, b.shares.length ≤ 100000 := fun b hb => by have := (hb10 b hb).1; omega
  have hfbl := fmtBask_len hb65 fun b hb => baskStr_len (hb10 b hb).1 fun x hx => shareStr_len (hWb b hb x hx) ((hb10 b hb).2 x hx)
  obtain ⟨hpb1, hpb2⟩ := parseB_bd hsl
  refine OK.seq (OK.reg ?_)
  refine RK.c (S.move .none rfl (.tmp rfl rfl)) ?_
  refine RK.c (S.call (ref9_CopyJobs (by omega)) Tryz.call17 .none rfl (.cons (.tmp rfl rfl) .nil) rfl) ?_
  refine RK.c (S.callT (shp_FormatJobs hfj) hT Tryz.call58 .none rfl (.cons (.tmp rfl rfl) .nil) rfl) ?_
  refine RK.c (S.move .none rfl (.tmp rfl rfl)) ?_
  refine RK.c (S.call (ref9_CopyBaskets (by omega) hbsL) Tryz.call34 .none rfl (.cons (.tmp rfl rfl) .nil) rfl) ?_
  refine RK.c (S.callT (shp_FormatBaskets hfb) hT Tryz.call59 .none rfl (.cons (.tmp rfl rfl) .nil) rfl) ?_
  refine RK.c (S.assign .none rfl (.tmp rfl rfl)) ?_
  refine RK.c (S.assign .none rfl (.tmp rfl rfl)) ?_
  refine RK.nil (Ab.D.code (OK.seq (OK.reg ?_)))
  refine RK.c (S.move .none rfl (.tmp rfl rfl)) ?_
  refine RK.c (S.callT (shp_ParseJobs (l := s) (by omega)) hT Tryz.call60 .none rfl (.cons (.tmp rfl rfl) .nil) rfl) ?_
  refine RK.c (S.move .none rfl (.tmp rfl rfl)) ?_
  refine RK.c (S.extract .none rfl (.tmp rfl rfl) rfl rfl) ?_
  refine RK.c (S.extract .none rfl (.tmp rfl rfl) rfl rfl) ?_
  refine RK.c (S.assign .none rfl (.tmp rfl rfl)) ?_
  refine RK.c (S.assign .none rfl (.tmp rfl rfl)) ?_
  refine RK.nil (Ab.D.code (OK.seq (OK.reg ?_)))
  refine RK.c (S.move .none rfl (.tmp rfl rfl)) ?_
  refine RK.c (S.callT (shp_ParseBaskets (l := s) (by omega)) hT Tryz.call61 .none rfl (.cons (.tmp rfl rfl) .nil) rfl) ?_
  refine RK.c (S.move .none rfl (.tmp rfl rfl)) ?_
  refine RK.c (S.extract .none rfl (.tmp rfl rfl) rfl rfl) ?_
  refine RK.c (S.extract .none rfl (.tmp rfl rfl) rfl rfl) ?_
  refine RK.c (S.assign .none rfl (.tmp rfl rfl)) ?_
  refine RK.c (S.assign .none rfl (.tmp rfl rfl)) ?_
  refine RK.nil (Ab.D.code (OK.seq (OK.reg ?_)))
  refine RK.c (S.move .none rfl (.tmp rfl rfl)) ?_
  refine RK.c (S.call (ref9_ParseJobs (l := s) (by omega)) Tryz.call62 .none rfl (.cons (.tmp rfl rfl) .nil) rfl) ?_
  refine RK.c (S.move .none rfl (.tmp rfl rfl)) ?_
  refine RK.c (S.extract .none rfl (.tmp rfl rfl) rfl rfl) ?_
  refine RK.c (S.extract .none rfl (.tmp rfl rfl) rfl rfl) ?_
  refine RK.c (S.assign .none rfl (.tmp rfl rfl)) ?_
  refine RK.c (S.assign .none rfl (.tmp rfl rfl)) ?_
  refine RK.nil (Ab.D.code (OK.seq (OK.reg ?_)))
  refine RK.c (S.move .none rfl (.tmp rfl rfl)) ?_
  refine RK.c (S.call (ref9_ParseBaskets (l := s) (by omega)) Tryz.call63 .none rfl (.cons (.tmp rfl rfl) .nil) rfl) ?_
  refine RK.c (S.move .none rfl (.tmp rfl rfl)) ?_
  refine RK.c (S.extract .none rfl (.tmp rfl rfl) rfl rfl) ?_
  refine RK.c (S.extract .none rfl (.tmp rfl rfl) rfl rfl) ?_
  refine RK.c (S.assign .none rfl (.tmp rfl rfl)) ?_
  refine RK.c (S.assign .none rfl (.tmp rfl rfl)) ?_
  refine RK.nil (Ab.D.code (OK.seq (OK.seq (OK.reg ?_))))
  refine RK.c (S.move .none rfl (.tmp rfl rfl)) ?_
  refine RK.c (S.move .none rfl (.tmp rfl rfl)) ?_
  refine RK.c (S.call (ref9_FormatJobs hfj) Tryz.call64 .none rfl (.cons (.tmp rfl rfl) .nil) rfl) ?_
  refine RK.c (S.sneq .none rfl (.tmp rfl rfl) (.tmp rfl rfl)) ?_
  refine RK.c (S.move .none rfl (.tmp rfl rfl)) ?_
  refine RK.splitD (t := 78) rfl (fun g78 => ?_) (fun g78 => ?_)
  ·
   exact absurd rfl g78
  ·
   refine RK.c (S.move (.yes rfl rfl rfl rfl) rfl (.tmp rfl rfl)) ?_
   refine RK.c (S.move (.yes rfl rfl rfl rfl) rfl (.tmp rfl rfl)) ?_
   refine RK.c (S.call (ref9_FormatBaskets hfb) Tryz.call65 (.yes rfl rfl rfl rfl) rfl (.cons (.tmp rfl rfl) .nil) rfl) ?_
   refine RK.c (S.sneq (.yes rfl rfl rfl rfl) rfl (.tmp rfl rfl) (.tmp rfl rfl)) ?_
   refine RK.c (S.pickF .none rfl (.tmp rfl rfl) (.tmp rfl rfl) rfl) ?_
   refine RK.c (S.move .none rfl (.tmp rfl rfl)) ?_
   refine RK.splitD (t := 84) rfl (fun g84 => ?_) (fun g84 => ?_)
   ·
    exact absurd rfl g84
   ·
    refine RK.c (S.move (.yes rfl rfl rfl rfl) rfl (.tmp rfl rfl)) ?_
    refine RK.c (S.move (.yes rfl rfl rfl rfl) rfl (.tmp rfl rfl)) ?_
    refine RK.c (S.neq (.yes rfl rfl rfl rfl) rfl (.tmp rfl rfl) (.tmp rfl rfl)) ?_
    refine RK.c (S.pickF .none rfl (.tmp rfl rfl) (.tmp rfl rfl) rfl) ?_
    refine RK.c (S.move .none rfl (.tmp rfl rfl)) ?_
    refine RK.splitD (t := 89) rfl (fun g89 => ?_) (fun g89 => ?_)
    ·
     exact absurd rfl g89
    ·
     refine RK.c (S.move (.yes rfl rfl rfl rfl) rfl (.tmp rfl rfl)) ?_
     refine RK.c (S.move (.yes rfl rfl rfl rfl) rfl (.tmp rfl rfl)) ?_
     refine RK.c (S.call (ref9_SameJobs) Tryz.call66 (.yes rfl rfl rfl rfl) rfl (.cons (.tmp rfl rfl) (.cons (.tmp rfl rfl) .nil)) rfl) ?_
     refine RK.c (S.notD (.yes rfl rfl rfl rfl) rfl (.tmp rfl rfl)) ?_
     refine RK.c (S.pickF .none rfl (.tmp rfl rfl) (.tmp rfl rfl) rfl) ?_
     refine RK.c (S.move .none rfl (.tmp rfl rfl)) ?_
     refine RK.splitD (t := 95) rfl (fun g95 => ?_) (fun g95 => ?_)
     ·
      exact absurd rfl g95
     ·
      refine RK.c (S.move (.yes rfl rfl rfl rfl) rfl (.tmp rfl rfl)) ?_
      refine RK.c (S.move (.yes rfl rfl rfl rfl) rfl (.tmp rfl rfl)) ?_
      refine RK.c (S.neq (.yes rfl rfl rfl rfl) rfl (.tmp rfl rfl) (.tmp rfl rfl)) ?_
      refine RK.c (S.pickF .none rfl (.tmp rfl rfl) (.tmp rfl rfl) rfl) ?_
      refine RK.c (S.move .none rfl (.tmp rfl rfl)) ?_
      refine RK.splitD (t := 100) rfl (fun g100 => ?_) (fun g100 => ?_)
      ·
       exact absurd rfl g100
      ·
       refine RK.c (S.move (.yes rfl rfl rfl rfl) rfl (.tmp rfl rfl)) ?_
       refine RK.c (S.move (.yes rfl rfl rfl rfl) rfl (.tmp rfl rfl)) ?_
       refine RK.c (S.call (ref9_SameBaskets hpb1 hpb2) Tryz.call39 (.yes rfl rfl rfl rfl) rfl (.cons (.tmp rfl rfl) (.cons (.tmp rfl rfl) .nil)) rfl) ?_
       refine RK.c (S.notD (.yes rfl rfl rfl rfl) rfl (.tmp rfl rfl)) ?_
       refine RK.c (S.pickF .none rfl (.tmp rfl rfl) (.tmp rfl rfl) rfl) ?_
       refine RK.nil (Ab.D.code ?_)
       refine OK.condD rfl rfl (fun c105 => ?_) (fun c105 => ?_)
       ·
        exact absurd rfl c105
       ·
        refine OK.skip ?_
        refine Ab.D.code ?_
        refine OK.join (G := Unit) [] (fun _ => [(1, .sl (bs.map Basket.cs)), (8, .str (fmtBask bs))]) (fun _ => True) (fun _ => rfl) ?_ ?_
        ·
         refine OK.seq (OK.reg ?_)
         refine RK.c (S.move .none rfl (.tmp rfl rfl)) ?_
         refine RK.c (S.call (ref9_JobsErr) Tryz.call25 .none rfl (.cons (.tmp rfl rfl) .nil) rfl) ?_
         refine RK.c (S.eql .none rfl (.tmp rfl rfl) (.cint rfl)) ?_
         refine RK.nil (Ab.D.code ?_)
         refine OK.condD rfl rfl (fun c108 => ?_) (fun c108 => ?_)
         ·
          have hPJ : CtT Tryz.prog 60 [.str (fmtJobs js)] (.tup [.sl (js.map Job.cs), .int .i64 0]) := by
           have h9 := shp_ParseJobs (l := fmtJobs js) (by omega)
           rw [rt_jobs c108] at h9
           exact h9
          refine OK.seq (OK.reg ?_)
          refine RK.c (S.move .none rfl (.tmp rfl rfl)) ?_
          refine RK.c (S.callT (hPJ) hT Tryz.call60 .none rfl (.cons (.tmp rfl rfl) .nil) rfl) ?_
          refine RK.c (S.move .none rfl (.tmp rfl rfl)) ?_
          refine RK.c (S.extract .none rfl (.tmp rfl rfl) rfl rfl) ?_
          refine RK.c (S.extract .none rfl (.tmp rfl rfl) rfl rfl) ?_
          refine RK.c (S.assign .none rfl (.tmp rfl rfl)) ?_
          refine RK.c (S.assign .none rfl (.tmp rfl rfl)) ?_
          refine RK.nil (Ab.D.code (OK.seq (OK.reg ?_)))
          refine RK.c (S.move .none rfl (.tmp rfl rfl)) ?_
          refine RK.c (S.neq .none rfl (.tmp rfl rfl) (.cint rfl)) ?_
          refine RK.c (S.move .none rfl (.tmp rfl rfl)) ?_
          refine RK.splitD (t := 116) rfl (fun g116 => ?_) (fun g116 => ?_)
          ·
           exact absurd rfl g116
          ·
           refine RK.c (S.move (.yes rfl rfl rfl rfl) rfl (.tmp rfl rfl)) ?_
           refine RK.c (S.move (.yes rfl rfl rfl rfl) rfl (.tmp rfl rfl)) ?_
           refine RK.c (S.call (ref9_SameJobs) Tryz.call66 (.yes rfl rfl rfl rfl) rfl (.cons (.tmp rfl rfl) (.cons (.tmp rfl rfl) .nil)) rfl) ?_
           refine RK.c (S.notD (.yes rfl rfl rfl rfl) rfl (.tmp rfl rfl)) ?_
           refine RK.c (S.pickF .none rfl (.tmp rfl rfl) (.tmp rfl rfl) rfl) ?_
           refine RK.nil (Ab.D.code ?_)
           refine OK.condD rfl rfl (fun c121 => ?_) (fun c121 => ?_)
           ·
            exact absurd rfl c121
           ·
            refine OK.skip ?_
            refine Ab.D.lp ⟨(), trivial, rfl, rfl, trivial⟩
         ·
          refine OK.skip ?_
          refine Ab.D.lp ⟨(), trivial, rfl, rfl, trivial⟩
        ·
         rintro _ _
         refine OK.seq (OK.seq (OK.reg ?_))
         refine RK.c (S.move .none rfl (.tmp rfl rfl)) ?_
         refine RK.c (S.lenM si50 .none rfl (.tmp rfl rfl)) ?_
         refine RK.c (S.gtr .none rfl (.tmp rfl rfl) (.cint rfl)) ?_
         refine RK.nil (Ab.D.code ?_)
         refine OK.condD rfl rfl (fun c124 => ?_) (fun c124 => ?_)
         ·
          refine OK.seq (OK.reg ?_)
          refine RK.c (S.assign .none rfl .cbool) ?_
          refine RK.nil (Ab.D.code ?_)
          refine OK.ret (Ret.r1 (.tmp rfl rfl (.c (.same rfl) rfl) rfl) ?_)
          first | rfl | exact ret_b (decide_eq_true rfl)
         ·
          refine OK.skip ?_
          refine Ab.D.code (OK.seq (OK.seq (OK.reg ?_)))
          refine RK.c (S.assign .none rfl (.cint rfl)) ?_
          refine RK.nil (Ab.D.code ?_)
          refine OK.block ?_
          refine OK.loop (G := Nat) [] (fun i => [(1, .sl (bs.map Basket.cs)), (8, .str (fmtBask bs)), (19, .int .i64 i)]) (fun i => i ≤ bs.length ∧ ∀ b ∈ bs.take i, bskOk b) (fun i => bs.length - i) 0 ⟨Nat.zero_le _, fun b hb => by cases hb⟩ ⟨rfl, rfl, rfl, trivial⟩ (fun _ => rfl) ?_
          rintro i ⟨hi, hok⟩
          refine OK.seq (OK.seq (OK.reg ?_))
          refine RK.c (S.move .none rfl (.tmp rfl rfl)) ?_
          refine RK.c (S.move .none rfl (.tmp rfl rfl)) ?_
          refine RK.c (S.lenM si50 .none rfl (.tmp rfl rfl)) ?_
          refine RK.c (S.lss .none rfl (.tmp rfl rfl) (.tmp rfl rfl)) ?_
          refine RK.nil (Ab.D.code ?_)
          refine OK.condD rfl rfl (fun c128 => ?_) (fun c128 => ?_)
          ·
           have hib : i < bs.length := by omega
           obtain ⟨hs10, _⟩ := hb10 _ (List.getElem_mem hib)
           refine OK.skip ?_
           refine Ab.D.code ?_
           refine OK.seq ?_
           refine OK.block ?_
           refine OK.seq (OK.seq (OK.reg ?_))
           refine RK.c (S.move .none rfl (.tmp rfl rfl)) ?_
           refine RK.c (S.move .none rfl (.tmp rfl rfl)) ?_
           refine RK.c (S.indexM (n := i) si50 .none rfl (.tmp rfl rfl) (.tmp rfl rfl) rfl (by omega) rfl) ?_
           refine RK.c (S.field fi71_0 .none rfl (.tmp rfl rfl) rfl) ?_
           refine RK.c (S.load1 ti69 .none rfl (.tmp rfl rfl) rfl) ?_
           refine RK.c (S.lenM si69 .none rfl (.tmp rfl rfl)) ?_
           refine RK.c (S.eql .none rfl (.tmp rfl rfl) (.cint rfl)) ?_
           refine RK.nil (Ab.D.code ?_)
           refine OK.condD rfl rfl (fun c137 => ?_) (fun c137 => ?_)
           ·
            refine OK.seq (OK.reg ?_)
            refine RK.c (S.assign .none rfl .cbool) ?_
            refine RK.nil (Ab.D.code ?_)
            refine OK.ret (Ret.r1 (.tmp rfl rfl (.c (.same rfl) rfl) rfl) ?_)
            first | rfl | exact ret_b (decide_eq_true rfl)
           ·
            refine OK.skip ?_
            refine Ab.D.code (OK.seq (OK.reg ?_))
            refine RK.c (S.assign .none rfl (.cint rfl)) ?_
            refine RK.nil (Ab.D.code ?_)
            refine OK.block ?_
            refine OK.loop (G := Nat) [] (fun k => [(1, .sl (bs.map Basket.cs)), (8, .str (fmtBask bs)), (19, .int .i64 i), (20, .int .i64 k)]) (fun k => k ≤ bs[i].shares.length ∧ ∀ x ∈ bs[i].shares.take k, shOk x) (fun k => bs[i].shares.length - k) 0 ⟨Nat.zero_le _, fun b hb => by cases hb⟩ ⟨rfl, rfl, rfl, rfl, trivial⟩ (fun _ => rfl) ?_
            rintro k ⟨hk, hsk⟩
            refine OK.seq (OK.seq (OK.reg ?_))
            refine RK.c (S.move .none rfl (.tmp rfl rfl)) ?_
            refine RK.c (S.move .none rfl (.tmp rfl rfl)) ?_
            refine RK.c (S.move .none rfl (.tmp rfl rfl)) ?_
            refine RK.c (S.indexM (n := i) si50 .none rfl (.tmp rfl rfl) (.tmp rfl rfl) rfl (by omega) rfl) ?_
            refine RK.c (S.field fi71_0 .none rfl (.tmp rfl rfl) rfl) ?_
            refine RK.c (S.load1 ti69 .none rfl (.tmp rfl rfl) rfl) ?_
            refine RK.c (S.lenM si69 .none rfl (.tmp rfl rfl)) ?_
            refine RK.c (S.lss .none rfl (.tmp rfl rfl) (.tmp rfl rfl)) ?_
            refine RK.nil (Ab.D.code ?_)
            refine OK.condD rfl rfl (fun c145 => ?_) (fun c145 => ?_)
            ·
             have hkb : k < bs[i].shares.length := by omega
             refine OK.skip ?_
             refine Ab.D.code ?_
             refine OK.seq ?_
             refine OK.block ?_
             refine OK.seq (OK.reg ?_)
             refine RK.c (S.move .none rfl (.tmp rfl rfl)) ?_
             refine RK.c (S.move .none rfl (.tmp rfl rfl)) ?_
             refine RK.c (S.indexM (n := i) si50 .none rfl (.tmp rfl rfl) (.tmp rfl rfl) rfl (by omega) rfl) ?_
             refine RK.c (S.field fi71_0 .none rfl (.tmp rfl rfl) rfl) ?_
             refine RK.c (S.load1 ti69 .none rfl (.tmp rfl rfl) rfl) ?_
             refine RK.c (S.move .none rfl (.tmp rfl rfl)) ?_
             refine RK.c (S.indexM (n := k) si69 .none rfl (.tmp rfl rfl) (.tmp rfl rfl) rfl (by omega) rfl) ?_
             refine RK.c (S.field fi73_0 .none rfl (.tmp rfl rfl) rfl) ?_
             refine RK.c (S.load1 ti9 .none rfl (.tmp rfl rfl) rfl) ?_
             refine RK.c (S.call (base_IsName) Tryz.call67 .none rfl (.cons (.tmp rfl rfl) .nil) rfl) ?_
             refine RK.c (S.not .none rfl (.tmp rfl rfl)) ?_
             refine RK.c (S.move .none rfl (.tmp rfl rfl)) ?_
             refine RK.split (t := 159) rfl (fun g159 => ?_) (fun g159 => ?_)
             ·
              refine RK.c (S.skip rfl rfl rfl rfl rfl) ?_
              refine RK.c (S.skip rfl rfl rfl rfl rfl) ?_
              refine RK.c (S.skip rfl rfl rfl rfl rfl) ?_
              refine RK.c (S.skip rfl rfl rfl rfl rfl) ?_
              refine RK.c (S.skip rfl rfl rfl rfl rfl) ?_
              refine RK.c (S.skip rfl rfl rfl rfl rfl) ?_
              refine RK.c (S.skip rfl rfl rfl rfl rfl) ?_
              refine RK.c (S.skip rfl rfl rfl rfl rfl) ?_
              refine RK.c (S.skip rfl rfl rfl rfl rfl) ?_
              refine RK.c (S.skip rfl rfl rfl rfl rfl) ?_
              refine RK.c (S.skip rfl rfl rfl rfl rfl) ?_
              refine RK.c (S.pickT .none rfl (.tmp rfl rfl) .cbool rfl) ?_
              refine RK.nil (Ab.D.code ?_)
              refine OK.condT rfl rfl rfl ?_
              refine OK.seq (OK.reg ?_)
              refine RK.c (S.assign .none rfl .cbool) ?_
              refine RK.nil (Ab.D.code ?_)
              refine OK.ret (Ret.r1 (.tmp rfl rfl (.c (.same rfl) rfl) rfl) ?_)
              first | rfl | exact ret_b (decide_eq_true rfl)
             ·
              have hnm : nameOk bs[i].shares[k].lot = true := by simpa using g159
              refine RK.c (S.move (.yes rfl rfl rfl rfl) rfl (.tmp rfl rfl)) ?_
              refine RK.c (S.move (.yes rfl rfl rfl rfl) rfl (.tmp rfl rfl)) ?_
              refine RK.c (S.indexM (n := i) si50 (.yes rfl rfl rfl rfl) rfl (.tmp rfl rfl) (.tmp rfl rfl) rfl (by omega) rfl) ?_
              refine RK.c (S.field fi71_0 (.yes rfl rfl rfl rfl) rfl (.tmp rfl rfl) rfl) ?_
              refine RK.c (S.load1 ti69 (.yes rfl rfl rfl rfl) rfl (.tmp rfl rfl) rfl) ?_
              refine RK.c (S.move (.yes rfl rfl rfl rfl) rfl (.tmp rfl rfl)) ?_
              refine RK.c (S.indexM (n := k) si69 (.yes rfl rfl rfl rfl) rfl (.tmp rfl rfl) (.tmp rfl rfl) rfl (by omega) rfl) ?_
              refine RK.c (S.field fi73_1 (.yes rfl rfl rfl rfl) rfl (.tmp rfl rfl) rfl) ?_
              refine RK.c (S.load1 ti3 (.yes rfl rfl rfl rfl) rfl (.tmp rfl rfl) rfl) ?_
              refine RK.c (S.call (base_Within) Tryz.call43 (.yes rfl rfl rfl rfl) rfl (.cons (.tmp rfl rfl) (.cons (.cint rfl) (.cons (.cint rfl) .nil))) rfl) ?_
              refine RK.c (S.notD (.yes rfl rfl rfl rfl) rfl (.tmp rfl rfl)) ?_
              refine RK.c (S.pickF .none rfl (.tmp rfl rfl) (.tmp rfl rfl) rfl) ?_
              refine RK.nil (Ab.D.code ?_)
              refine OK.condD rfl rfl (fun c171 => ?_) (fun c171 => ?_)
              ·
               refine OK.seq (OK.reg ?_)
               refine RK.c (S.assign .none rfl .cbool) ?_
               refine RK.nil (Ab.D.code ?_)
               refine OK.ret (Ret.r1 (.tmp rfl rfl (.c (.same rfl) rfl) rfl) ?_)
               first | rfl | exact ret_b (decide_eq_true rfl)
              ·
               have hwi : 0 ≤ bs[i].shares[k].parts ∧ bs[i].shares[k].parts ≤ 9999 := by simpa using c171
               refine OK.skip ?_
               refine Ab.D.blk ?_
               refine Ab.D.code (OK.reg ?_)
               refine RK.c (S.move .none rfl (.tmp rfl rfl)) ?_
               refine RK.c (S.add .none rfl (.tmp rfl rfl) (.cint rfl) (IntWalk.i64_in _ (by omega)) (IntWalk.i64_in _ (by omega))) ?_
               refine RK.c (S.assign .none rfl (.tmp rfl rfl)) ?_
               refine RK.nil ?_
               refine Ab.D.lp ⟨k + 1, ⟨by omega, shr_snoc hkb hsk ⟨hnm, hwi⟩⟩, (by omega), rfl, rfl, rfl, rfl, trivial⟩
            ·
             refine OK.exit rfl ?_
             refine Ab.D.blk ?_
             refine Ab.D.code (OK.reg ?_)
             refine RK.c (S.move .none rfl (.tmp rfl rfl)) ?_
             refine RK.c (S.add .none rfl (.tmp rfl rfl) (.cint rfl) (IntWalk.i64_in _ (by omega)) (IntWalk.i64_in _ (by omega))) ?_
             refine RK.c (S.assign .none rfl (.tmp rfl rfl)) ?_
             refine RK.nil ?_
             refine Ab.D.lp ⟨i + 1, ⟨by omega, bsk_snoc hib hok ⟨fun e => c137 (by rw [e]; rfl), fun x hx => hsk x (by rw [show k = bs[i].shares.length by omega, List.take_length]; exact hx)⟩⟩, (by omega), rfl, rfl, rfl, trivial⟩
          ·
           have hPB : CtT Tryz.prog 61 [.str (fmtBask bs)] (.tup [.sl (bs.map Basket.cs), .int .i64 0]) := by
            have h9 := shp_ParseBaskets (l := fmtBask bs) (by omega)
            rw [rt_bask (fun b hb => hok b (by rw [show i = bs.length by omega, List.take_length]; exact hb)) (by omega) (fun b hb => (hb10 b hb).1)] at h9
            exact h9
           refine OK.exit rfl ?_
           refine Ab.D.code (OK.seq (OK.reg ?_))
           refine RK.c (S.move .none rfl (.tmp rfl rfl)) ?_
           refine RK.c (S.callT (hPB) hT Tryz.call61 .none rfl (.cons (.tmp rfl rfl) .nil) rfl) ?_
           refine RK.c (S.move .none rfl (.tmp rfl rfl)) ?_
           refine RK.c (S.extract .none rfl (.tmp rfl rfl) rfl rfl) ?_
           refine RK.c (S.extract .none rfl (.tmp rfl rfl) rfl rfl) ?_
           refine RK.c (S.assign .none rfl (.tmp rfl rfl)) ?_
           refine RK.c (S.assign .none rfl (.tmp rfl rfl)) ?_
           refine RK.nil (Ab.D.code (OK.seq (OK.reg ?_)))
           refine RK.c (S.move .none rfl (.tmp rfl rfl)) ?_
           refine RK.c (S.eql .none rfl (.tmp rfl rfl) (.cint rfl)) ?_
           refine RK.c (S.move .none rfl (.tmp rfl rfl)) ?_
           refine RK.splitD (t := 179) rfl (fun g179 => ?_) (fun g179 => ?_)
           ·
            refine RK.c (S.move (.yes rfl rfl rfl rfl) rfl (.tmp rfl rfl)) ?_
            refine RK.c (S.move (.yes rfl rfl rfl rfl) rfl (.tmp rfl rfl)) ?_
            refine RK.c (S.call (ref9_SameBaskets (by omega) hbsL) Tryz.call39 (.yes rfl rfl rfl rfl) rfl (.cons (.tmp rfl rfl) (.cons (.tmp rfl rfl) .nil)) rfl) ?_
            refine RK.c (S.pickT .none rfl (.tmp rfl rfl) (.tmp rfl rfl) rfl) ?_
            refine RK.c (S.assign .none rfl (.tmp rfl rfl)) ?_
            refine RK.nil (Ab.D.code ?_)
            refine OK.ret (Ret.r1 (.tmp rfl rfl (.c (.same rfl) rfl) rfl) ?_)
            first | rfl | exact ret_b (decide_eq_true rfl)
           ·
            exact absurd rfl g179
end Go.Proofs.YtpfepjgnojfppaaGreatDoor
