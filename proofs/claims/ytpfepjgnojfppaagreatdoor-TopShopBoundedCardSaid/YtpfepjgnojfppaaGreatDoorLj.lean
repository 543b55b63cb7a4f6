import Derived.Test.YtpfepjgnojfppaaGreatDoorGs
import Derived.Test.YtpfepjgnojfppaaGreatDoorLi
import Derived.Test.YtpfepjgnojfppaaGreatDoorTz
namespace Go.Proofs.YtpfepjgnojfppaaGreatDoor
open Go.Ab
theorem placed_lenT (l : List Run) (peak : Int) : (placedT l peak).length = l.length := by rw [placedT_len, placedR, placeGo_len]; simp
theorem bnd_low {l : List Job} (hJ : JobsOk l) : -200000 ≤ (bndTo l l.length).1 := by
  have hln := hJ.len
  obtain ⟨j, hj, e⟩ := bnd_is hJ l.length (by omega) (Nat.le_refl _)
  rw [e]
  have h1 := sum_nn (l := l) (d := dueAt l j) l.length fun i hi => by have := (hJ.at (i := (i : Int)) (by omega) (by omega)).1.1; omega
  have h2 := (hJ.at (i := (j : Int)) (by omega) (by omega)).2
  show -200000 ≤ sumTo l (dueAt l j) l.length - dueAt l j
  omega
theorem pmax_run {l : List Job} {T : List Int} {k : Nat} (hk : k < l.length) (hT : k < T.length) : (runAt l T k).cs = [.int .i64 (T[k] - l[k].ticks), .int .i64 l[k].ticks, .int .i64 l[k].ticks] := by
  unfold runAt Run.cs
  rw [tick_at hk, getD_at hT]
theorem w_snoc {L : List (List Int)} {i : Nat} {w : Int} (hi : i < L.length) (h : ∀ r ∈ L.take i, ∀ x ∈ r, x ≤ w) (h2 : ∀ x ∈ L[i], x ≤ w) : ∀ r ∈ L.take (i + 1), ∀ x ∈ r, x ≤ w := by
  intro r hr
  rw [List.take_succ_eq_append_getElem hi, List.mem_append, List.mem_singleton] at hr
  rcases hr with hr | rfl
  · exact h r hr
  · exact h2
theorem x_snoc {L : List Int} {i : Nat} {w : Int} (hi : i < L.length) (h : ∀ x ∈ L.take i, x ≤ w) : ∀ x ∈ L.take (i + 1), x ≤ maxI w L[i] := by
  intro x hx
  rw [List.take_succ_eq_append_getElem hi, List.mem_append, List.mem_singleton] at hx
  have h1 := maxI_l w L[i]
  have h2 := maxI_r w L[i]
  rcases hx with hx | rfl
  · have := h x hx; omega
  · exact h2
set_option maxHeartbeats 4000000 in
theorem law_TopShopBounded {l : List Job} {c : Changes} {d : Int} : CtT Tryz.prog 11 [.sl (l.map Job.cs), .agg c.cs, .int .i64 d] (.bool true) := by
 refine CtT.intro (rs := [.tmp 6]) Tryz.func11 rfl Tryz.ntmps11 Tryz.results11 rfl rfl rfl fun w h hT => ?_
 refine OK.slRep (t := 0) rfl rfl fun hR => ?_
 have hWj := jobs_rep hR
 clear hR
 refine OK.seq (OK.reg ?_)
 refine RK.c (S.box (k := 4) rfl .none rfl (.tmp rfl rfl) rfl) ?_
 refine RK.c (S.assign .none rfl .cbool) ?_
 refine RK.nil (Ab.D.code (OK.seq (OK.seq (OK.reg ?_))))
 refine RK.c (S.call (top_shown) Tryz.call68 .none rfl .nil rfl) ?_
 refine RK.c (S.not .none rfl (.tmp rfl rfl)) ?_
 refine RK.nil (Ab.D.code ?_)
 refine OK.condF rfl rfl rfl ?_
 refine OK.skip ?_
 refine Ab.D.code (OK.seq (OK.seq (OK.reg ?_)))
 refine RK.c (S.move .none rfl (.tmp rfl rfl)) ?_
 refine RK.c (S.lenM si22 .none rfl (.tmp rfl rfl)) ?_
 refine RK.c (S.gtr .none rfl (.tmp rfl rfl) (.cint rfl)) ?_
 refine RK.c (S.move .none rfl (.tmp rfl rfl)) ?_
 refine RK.splitD (t := 42) rfl (fun g42 => ?_) (fun g42 => ?_)
 ·
  refine RK.c (S.skip rfl rfl rfl rfl rfl) ?_
  refine RK.c (S.skip rfl rfl rfl rfl rfl) ?_
  refine RK.c (S.skip rfl rfl rfl rfl rfl) ?_
  refine RK.c (S.skip rfl rfl rfl rfl rfl) ?_
  refine RK.c (S.pickT .none rfl (.tmp rfl rfl) .cbool rfl) ?_
  refine RK.c (S.move .none rfl (.tmp rfl rfl)) ?_
  refine RK.c (S.skip rfl rfl rfl rfl rfl) ?_
  refine RK.c (S.skip rfl rfl rfl rfl rfl) ?_
  refine RK.c (S.skip rfl rfl rfl rfl rfl) ?_
  refine RK.c (S.skip rfl rfl rfl rfl rfl) ?_
  refine RK.c (S.pickT .none rfl (.tmp rfl rfl) .cbool rfl) ?_
  refine RK.c (S.move .none rfl (.tmp rfl rfl)) ?_
  refine RK.c (S.skip rfl rfl rfl rfl rfl) ?_
  refine RK.c (S.skip rfl rfl rfl rfl rfl) ?_
  refine RK.c (S.skip rfl rfl rfl rfl rfl) ?_
  refine RK.c (S.pickT .none rfl (.tmp rfl rfl) .cbool rfl) ?_
  refine RK.nil (Ab.D.code ?_)
  refine OK.condT rfl rfl rfl ?_
  refine OK.seq (OK.reg ?_)
  refine RK.c (S.assign .none rfl .cbool) ?_
  refine RK.nil (Ab.D.code ?_)
  refine OK.ret (Ret.r1 (.tmp rfl rfl (.c (.same rfl) rfl) rfl) ?_)
  first | rfl | (refine ret_b ?_; exact decide_eq_true (by omega))
 ·
  refine RK.c (S.bfield fi25_1 (.yes rfl rfl rfl rfl) rfl (.tmp rfl rfl)) ?_
  refine RK.c (S.bload1 ti23 (.yes rfl rfl rfl rfl) rfl (.tmp rfl rfl) rfl rfl rfl rfl) ?_
  refine RK.c (S.lenM si23 (.yes rfl rfl rfl rfl) rfl (.tmp rfl rfl)) ?_
  refine RK.c (S.gtr (.yes rfl rfl rfl rfl) rfl (.tmp rfl rfl) (.cint rfl)) ?_
  refine RK.c (S.pickF .none rfl (.tmp rfl rfl) (.tmp rfl rfl) rfl) ?_
  refine RK.c (S.move .none rfl (.tmp rfl rfl)) ?_
  refine RK.splitD (t := 48) rfl (fun g48 => ?_) (fun g48 => ?_)
  ·
   refine RK.c (S.skip rfl rfl rfl rfl rfl) ?_
   refine RK.c (S.skip rfl rfl rfl rfl rfl) ?_
   refine RK.c (S.skip rfl rfl rfl rfl rfl) ?_
   refine RK.c (S.skip rfl rfl rfl rfl rfl) ?_
   refine RK.c (S.pickT .none rfl (.tmp rfl rfl) .cbool rfl) ?_
   refine RK.c (S.move .none rfl (.tmp rfl rfl)) ?_
   refine RK.c (S.skip rfl rfl rfl rfl rfl) ?_
   refine RK.c (S.skip rfl rfl rfl rfl rfl) ?_
   refine RK.c (S.skip rfl rfl rfl rfl rfl) ?_
   refine RK.c (S.pickT .none rfl (.tmp rfl rfl) .cbool rfl) ?_
   refine RK.nil (Ab.D.code ?_)
   refine OK.condT rfl rfl rfl ?_
   refine OK.seq (OK.reg ?_)
   refine RK.c (S.assign .none rfl .cbool) ?_
   refine RK.nil (Ab.D.code ?_)
   refine OK.ret (Ret.r1 (.tmp rfl rfl (.c (.same rfl) rfl) rfl) ?_)
   first | rfl | (refine ret_b ?_; exact decide_eq_true (by omega))
  ·
   refine RK.c (S.move (.yes rfl rfl rfl rfl) rfl (.tmp rfl rfl)) ?_
   refine RK.c (S.bloadN ti25 (.yes rfl rfl rfl rfl) rfl (.tmp rfl rfl) rfl rfl rfl rfl) ?_
   refine RK.c (S.call (ref9_BothErr) Tryz.call15 (.yes rfl rfl rfl rfl) rfl (.cons (.tmp rfl rfl) (.cons (.tmp rfl rfl) .nil)) rfl) ?_
   refine RK.c (S.neq (.yes rfl rfl rfl rfl) rfl (.tmp rfl rfl) (.cint rfl)) ?_
   refine RK.c (S.pickF .none rfl (.tmp rfl rfl) (.tmp rfl rfl) rfl) ?_
   refine RK.c (S.move .none rfl (.tmp rfl rfl)) ?_
   refine RK.splitD (t := 54) rfl (fun g54 => ?_) (fun g54 => ?_)
   ·
    refine RK.c (S.skip rfl rfl rfl rfl rfl) ?_
    refine RK.c (S.skip rfl rfl rfl rfl rfl) ?_
    refine RK.c (S.skip rfl rfl rfl rfl rfl) ?_
    refine RK.c (S.pickT .none rfl (.tmp rfl rfl) .cbool rfl) ?_
    refine RK.nil (Ab.D.code ?_)
    refine OK.condT rfl rfl rfl ?_
    refine OK.seq (OK.reg ?_)
    refine RK.c (S.assign .none rfl .cbool) ?_
    refine RK.nil (Ab.D.code ?_)
    refine OK.ret (Ret.r1 (.tmp rfl rfl (.c (.same rfl) rfl) rfl) ?_)
    first | rfl | (refine ret_b ?_; exact decide_eq_true (by omega))
   ·
    refine RK.c (S.move (.yes rfl rfl rfl rfl) rfl (.tmp rfl rfl)) ?_
    refine RK.c (S.call (base_Within) Tryz.call43 (.yes rfl rfl rfl rfl) rfl (.cons (.tmp rfl rfl) (.cons (.cint rfl) (.cons (.cint rfl) .nil))) rfl) ?_
    refine RK.c (S.notD (.yes rfl rfl rfl rfl) rfl (.tmp rfl rfl)) ?_
    refine RK.c (S.pickF .none rfl (.tmp rfl rfl) (.tmp rfl rfl) rfl) ?_
    refine RK.nil (Ab.D.code ?_)
    refine OK.condD rfl rfl (fun c58 => ?_) (fun c58 => ?_)
    ·
     refine OK.seq (OK.reg ?_)
     refine RK.c (S.assign .none rfl .cbool) ?_
     refine RK.nil (Ab.D.code ?_)
     refine OK.ret (Ret.r1 (.tmp rfl rfl (.c (.same rfl) rfl) rfl) ?_)
     first | rfl | (refine ret_b ?_; exact decide_eq_true (by omega))
    ·
     have hd : 0 ≤ d ∧ d ≤ 50 := by simpa using c58
     have hb : bothE l c = 0 := Decidable.not_not.1 g54
     have hl6 : l.length ≤ 6 := by omega
     have hB := both_ok hb
     have hJ := hB.jobs
     have hj0 := jobs_both hb
     have hbl := hB.len
     have hfj := fewJ_jobs hj0
     obtain ⟨hj9, hj30⟩ := few_all hfj
     have hfl := fmtJobs_len hj9 fun j hj => jobStr_len (hWj j hj) (hj30 j hj)
     have hcl := hB.rows
     have hrl : ∀ r ∈ c.ticks, r.length ≤ 100000 := fun r hr => by have := (hB.row r hr).1; omega
     obtain ⟨ho, hm⟩ := best_ord hb
     have hol := ho.len
     have hmo := mom_okN hB ho (bestT l c).1.length (Nat.le_refl _)
     rw [← hm, hol] at hmo
     obtain ⟨hmo1, hmo2, hmo3, hmo4⟩ := hmo
     have ho0 := ord_zero ho
     obtain ⟨q1, q2, q3, q4⟩ := bnd_set hJ
     have hse := set_0 q1 q2 q3
     have hsl := set_len q2 q3
     have hbb := bound_best hb
     have hbr : -200000 ≤ (bndTo l l.length).1 ∧ (bndTo l l.length).1 ≤ 10000000 := ⟨bnd_low hJ, by omega⟩
     have hch : 0 ≤ (bestT l c).2.changes ∧ (bestT l c).2.changes ≤ (l.length : Int) := by omega
     have hPJ : CtT Tryz.prog 60 [.str (fmtJobs l)] (.tup [.sl (l.map Job.cs), .int .i64 0]) := by
      have h9 := shp_ParseJobs (l := fmtJobs l) (by omega)
      rw [rt_jobs hj0] at h9
      exact h9
     have hBe : Ct Tryz.prog 16 [.sl (l.map Job.cs), .agg c.cs] (.tup [ints (bestT l c).1, .int .i64 (bestT l c).2.late, .int .i64 (bestT l c).2.changes, .int .i64 0]) := ct_res (shp_BestOf (l := l) (c := c)) (by rw [if_pos hb, if_pos hb, if_pos hb, hb])
     have hBn : Ct Tryz.prog 22 [.sl (l.map Job.cs)] (.tup [.int .i64 (bndTo l l.length).1, ints (bndTo l l.length).2, .int .i64 0]) := ct_res (shp_BoundOf (l := l)) (by rw [show bndR l = bndTo l l.length from if_pos hj0, hj0])
     have hCB : Ct Tryz.prog 23 [.sl (l.map Job.cs), ints (bndTo l l.length).2] (.tup [.int .i64 (bndTo l l.length).1, .int .i64 0]) := ct_res (shp_CheckBound (l := l) (s := (bndTo l l.length).2) (by omega)) (by
      have hsc : setChk l (bndTo l l.length).2 = 0 := by rw [chk_on hj0]; exact hse
      rw [show cbR l (bndTo l l.length).2 = boundFrom l (bndTo l l.length).2 from if_pos hsc, hsc, q4]
      rfl)
     have hTi : Ct Tryz.prog 46 [.sl (l.map Job.cs), .agg c.cs, ints (bestT l c).1] (.tup [ints (timesT l c (bestT l c).1), .int .i64 0]) := ct_res (shp_TimesOf (l := l) (c := c) (o := (bestT l c).1)) (by
      have he2 : ordE2 l c (bestT l c).1 = 0 := by unfold ordE2; rw [if_neg (by rw [hb]; decide)]; exact ho0
      rw [show timR l c (bestT l c).1 = (timesT l c (bestT l c).1) from if_pos he2, he2])
     have hlb := later_both (d := d) hd.1 hb
     have hB2 : Ct Tryz.prog 16 [.sl ((l.map (later d)).map Job.cs), .agg c.cs] (.tup [ints (bestT (l.map (later d)) c).1, .int .i64 (bestT (l.map (later d)) c).2.late, .int .i64 (bestT (l.map (later d)) c).2.changes, .int .i64 0]) := ct_res (shp_BestOf (l := l.map (later d)) (c := c)) (by rw [if_pos hlb, if_pos hlb, if_pos hlb, hlb])
     have hlt : (bestT (l.map (later d)) c).2.late ≤ (bestT l c).2.late := by
      have h8 := best_le (l := l.map (later d)) (c := c) (by rw [List.length_map]; omega) (p := (bestT l c).1) ⟨by rw [List.length_map]; exact ho.len, fun x hx => by rw [List.length_map]; exact ho.rng x hx, ho.dis⟩
      have h9 := (later_mom hd.1 hB ho (bestT l c).1.length (Nat.le_refl _)).2.2
      rw [← hm] at h9
      rcases h8 with h8 | h8 <;> omega
     have hTl : (timesT l c (bestT l c).1).length = l.length := by have := times_len (l := l) (c := c) (o := (bestT l c).1) (bestT l c).1.length (Nat.le_refl _); rw [times_all] at this; exact this
     refine OK.skip ?_
     refine Ab.D.code (OK.seq (OK.reg ?_))
     refine RK.c (S.move .none rfl (.tmp rfl rfl)) ?_
     refine RK.c (S.call (ref9_CopyJobs (by omega)) Tryz.call17 .none rfl (.cons (.tmp rfl rfl) .nil) rfl) ?_
     refine RK.c (S.callT (shp_FormatJobs hfj) hT Tryz.call58 .none rfl (.cons (.tmp rfl rfl) .nil) rfl) ?_
     refine RK.c (S.callT (hPJ) hT Tryz.call60 .none rfl (.cons (.tmp rfl rfl) .nil) rfl) ?_
     refine RK.c (S.move .none rfl (.tmp rfl rfl)) ?_
     refine RK.c (S.extract .none rfl (.tmp rfl rfl) rfl rfl) ?_
     refine RK.c (S.extract .none rfl (.tmp rfl rfl) rfl rfl) ?_
     refine RK.c (S.assign .none rfl (.tmp rfl rfl)) ?_
     refine RK.c (S.assign .none rfl (.tmp rfl rfl)) ?_
     refine RK.nil (Ab.D.code (OK.seq (OK.seq (OK.reg ?_))))
     refine RK.c (S.move .none rfl (.tmp rfl rfl)) ?_
     refine RK.c (S.neq .none rfl (.tmp rfl rfl) (.cint rfl)) ?_
     refine RK.c (S.move .none rfl (.tmp rfl rfl)) ?_
     refine RK.splitD (t := 68) rfl (fun g68 => ?_) (fun g68 => ?_)
     ·
      exact absurd rfl g68
     ·
      refine RK.c (S.move (.yes rfl rfl rfl rfl) rfl (.tmp rfl rfl)) ?_
      refine RK.c (S.move (.yes rfl rfl rfl rfl) rfl (.tmp rfl rfl)) ?_
      refine RK.c (S.call (ref9_SameJobs) Tryz.call66 (.yes rfl rfl rfl rfl) rfl (.cons (.tmp rfl rfl) (.cons (.tmp rfl rfl) .nil)) rfl) ?_
      refine RK.c (S.notD (.yes rfl rfl rfl rfl) rfl (.tmp rfl rfl)) ?_
      refine RK.c (S.pickF .none rfl (.tmp rfl rfl) (.tmp rfl rfl) rfl) ?_
      refine RK.nil (Ab.D.code ?_)
      refine OK.condD rfl rfl (fun c73 => ?_) (fun c73 => ?_)
      ·
       exact absurd rfl c73
      ·
       refine OK.skip ?_
       refine Ab.D.code (OK.seq (OK.reg ?_))
       refine RK.c (S.move .none rfl (.tmp rfl rfl)) ?_
       refine RK.c (S.bloadN ti25 .none rfl (.tmp rfl rfl) rfl rfl rfl rfl) ?_
       refine RK.c (S.call (ref9_CopyChanges (by omega) hrl) Tryz.call18 .none rfl (.cons (.tmp rfl rfl) .nil) rfl) ?_
       refine RK.c (S.call (hBe) Tryz.call16 .none rfl (.cons (.tmp rfl rfl) (.cons (.tmp rfl rfl) .nil)) rfl) ?_
       refine RK.c (S.move .none rfl (.tmp rfl rfl)) ?_
       refine RK.c (S.extract .none rfl (.tmp rfl rfl) rfl rfl) ?_
       refine RK.c (S.extract .none rfl (.tmp rfl rfl) rfl rfl) ?_
       refine RK.c (S.extract .none rfl (.tmp rfl rfl) rfl rfl) ?_
       refine RK.c (S.extract .none rfl (.tmp rfl rfl) rfl rfl) ?_
       refine RK.c (S.assign .none rfl (.tmp rfl rfl)) ?_
       refine RK.c (S.assign .none rfl (.tmp rfl rfl)) ?_
       refine RK.c (S.assign .none rfl (.tmp rfl rfl)) ?_
       refine RK.c (S.assign .none rfl (.tmp rfl rfl)) ?_
       refine RK.nil (Ab.D.code (OK.seq (OK.reg ?_)))
       refine RK.c (S.move .none rfl (.tmp rfl rfl)) ?_
       refine RK.c (S.call (ref9_CopyJobs (by omega)) Tryz.call17 .none rfl (.cons (.tmp rfl rfl) .nil) rfl) ?_
       refine RK.c (S.call (hBn) Tryz.call22 .none rfl (.cons (.tmp rfl rfl) .nil) rfl) ?_
       refine RK.c (S.move .none rfl (.tmp rfl rfl)) ?_
       refine RK.c (S.extract .none rfl (.tmp rfl rfl) rfl rfl) ?_
       refine RK.c (S.extract .none rfl (.tmp rfl rfl) rfl rfl) ?_
       refine RK.c (S.extract .none rfl (.tmp rfl rfl) rfl rfl) ?_
       refine RK.c (S.assign .none rfl (.tmp rfl rfl)) ?_
       refine RK.c (S.assign .none rfl (.tmp rfl rfl)) ?_
       refine RK.c (S.assign .none rfl (.tmp rfl rfl)) ?_
       refine RK.nil (Ab.D.code (OK.seq (OK.seq (OK.reg ?_))))
       refine RK.c (S.move .none rfl (.tmp rfl rfl)) ?_
       refine RK.c (S.neq .none rfl (.tmp rfl rfl) (.cint rfl)) ?_
       refine RK.c (S.move .none rfl (.tmp rfl rfl)) ?_
       refine RK.splitD (t := 92) rfl (fun g92 => ?_) (fun g92 => ?_)
       ·
        exact absurd rfl g92
       ·
        refine RK.c (S.move (.yes rfl rfl rfl rfl) rfl (.tmp rfl rfl)) ?_
        refine RK.c (S.neq (.yes rfl rfl rfl rfl) rfl (.tmp rfl rfl) (.cint rfl)) ?_
        refine RK.c (S.pickF .none rfl (.tmp rfl rfl) (.tmp rfl rfl) rfl) ?_
        refine RK.c (S.move .none rfl (.tmp rfl rfl)) ?_
        refine RK.splitD (t := 96) rfl (fun g96 => ?_) (fun g96 => ?_)
        ·
         exact absurd rfl g96
        ·
         refine RK.c (S.move (.yes rfl rfl rfl rfl) rfl (.tmp rfl rfl)) ?_
         refine RK.c (S.move (.yes rfl rfl rfl rfl) rfl (.tmp rfl rfl)) ?_
         refine RK.c (S.call (ref9_OrderErr (l := l) (o := (bestT l c).1)) Tryz.call50 (.yes rfl rfl rfl rfl) rfl (.cons (.tmp rfl rfl) (.cons (.tmp rfl rfl) .nil)) rfl) ?_
         refine RK.c (S.neq (.yes rfl rfl rfl rfl) rfl (.tmp rfl rfl) (.cint rfl)) ?_
         refine RK.c (S.pickF .none rfl (.tmp rfl rfl) (.tmp rfl rfl) rfl) ?_
         refine RK.c (S.move .none rfl (.tmp rfl rfl)) ?_
         refine RK.splitD (t := 102) rfl (fun g102 => ?_) (fun g102 => ?_)
         ·
          exact absurd ho0 g102
         ·
          refine RK.c (S.move (.yes rfl rfl rfl rfl) rfl (.tmp rfl rfl)) ?_
          refine RK.c (S.move (.yes rfl rfl rfl rfl) rfl (.tmp rfl rfl)) ?_
          refine RK.c (S.call (ref9_SetErr (l := l) (s := (bndTo l l.length).2)) Tryz.call27 (.yes rfl rfl rfl rfl) rfl (.cons (.tmp rfl rfl) (.cons (.tmp rfl rfl) .nil)) rfl) ?_
          refine RK.c (S.neq (.yes rfl rfl rfl rfl) rfl (.tmp rfl rfl) (.cint rfl)) ?_
          refine RK.c (S.pickF .none rfl (.tmp rfl rfl) (.tmp rfl rfl) rfl) ?_
          refine RK.c (S.move .none rfl (.tmp rfl rfl)) ?_
          refine RK.splitD (t := 108) rfl (fun g108 => ?_) (fun g108 => ?_)
          ·
           exact absurd hse g108
          ·
           refine RK.c (S.move (.yes rfl rfl rfl rfl) rfl (.tmp rfl rfl)) ?_
           refine RK.c (S.move (.yes rfl rfl rfl rfl) rfl (.tmp rfl rfl)) ?_
           refine RK.c (S.lenM si22 (.yes rfl rfl rfl rfl) rfl (.tmp rfl rfl)) ?_
           refine RK.c (S.call (base_Within) Tryz.call43 (.yes rfl rfl rfl rfl) rfl (.cons (.tmp rfl rfl) (.cons (.cint rfl) (.cons (.tmp rfl rfl) .nil))) rfl) ?_
           refine RK.c (S.notD (.yes rfl rfl rfl rfl) rfl (.tmp rfl rfl)) ?_
           refine RK.c (S.pickF .none rfl (.tmp rfl rfl) (.tmp rfl rfl) rfl) ?_
           refine RK.nil (Ab.D.code ?_)
           refine OK.condD rfl rfl (fun c114 => ?_) (fun c114 => ?_)
           ·
            exact absurd hch (by simpa using c114)
           ·
            refine OK.skip ?_
            refine Ab.D.code (OK.seq (OK.reg ?_))
            refine RK.c (S.move .none rfl (.tmp rfl rfl)) ?_
            refine RK.c (S.call (ref9_CopyJobs (by omega)) Tryz.call17 .none rfl (.cons (.tmp rfl rfl) .nil) rfl) ?_
            refine RK.c (S.move .none rfl (.tmp rfl rfl)) ?_
            refine RK.c (S.call (base_CopyInts (l := (bndTo l l.length).2) (by omega)) Tryz.call24 .none rfl (.cons (.tmp rfl rfl) .nil) rfl) ?_
            refine RK.c (S.call (hCB) Tryz.call23 .none rfl (.cons (.tmp rfl rfl) (.cons (.tmp rfl rfl) .nil)) rfl) ?_
            refine RK.c (S.move .none rfl (.tmp rfl rfl)) ?_
            refine RK.c (S.extract .none rfl (.tmp rfl rfl) rfl rfl) ?_
            refine RK.c (S.extract .none rfl (.tmp rfl rfl) rfl rfl) ?_
            refine RK.c (S.assign .none rfl (.tmp rfl rfl)) ?_
            refine RK.c (S.assign .none rfl (.tmp rfl rfl)) ?_
            refine RK.nil (Ab.D.code (OK.seq (OK.seq (OK.reg ?_))))
            refine RK.c (S.move .none rfl (.tmp rfl rfl)) ?_
            refine RK.c (S.neq .none rfl (.tmp rfl rfl) (.cint rfl)) ?_
            refine RK.c (S.move .none rfl (.tmp rfl rfl)) ?_
            refine RK.splitD (t := 125) rfl (fun g125 => ?_) (fun g125 => ?_)
            ·
             exact absurd rfl g125
            ·
             refine RK.c (S.move (.yes rfl rfl rfl rfl) rfl (.tmp rfl rfl)) ?_
             refine RK.c (S.move (.yes rfl rfl rfl rfl) rfl (.tmp rfl rfl)) ?_
             refine RK.c (S.neq (.yes rfl rfl rfl rfl) rfl (.tmp rfl rfl) (.tmp rfl rfl)) ?_
             refine RK.c (S.pickF .none rfl (.tmp rfl rfl) (.tmp rfl rfl) rfl) ?_
             refine RK.c (S.move .none rfl (.tmp rfl rfl)) ?_
             refine RK.splitD (t := 130) rfl (fun g130 => ?_) (fun g130 => ?_)
             ·
              exact absurd rfl g130
             ·
              refine RK.c (S.move (.yes rfl rfl rfl rfl) rfl (.tmp rfl rfl)) ?_
              refine RK.c (S.move (.yes rfl rfl rfl rfl) rfl (.tmp rfl rfl)) ?_
              refine RK.c (S.lss (.yes rfl rfl rfl rfl) rfl (.tmp rfl rfl) (.tmp rfl rfl)) ?_
              refine RK.c (S.pickF .none rfl (.tmp rfl rfl) (.tmp rfl rfl) rfl) ?_
              refine RK.nil (Ab.D.code ?_)
              refine OK.condD rfl rfl (fun c134 => ?_) (fun c134 => ?_)
              ·
               exact absurd c134 (by omega)
              ·
               refine OK.skip ?_
               refine Ab.D.code (OK.seq (OK.reg ?_))
               refine RK.c (S.assign .none rfl (.cint rfl)) ?_
               refine RK.nil (Ab.D.code (OK.seq (OK.seq (OK.reg ?_))))
               refine RK.c (S.assign .none rfl (.cint rfl)) ?_
               refine RK.nil (Ab.D.code ?_)
               refine OK.block ?_
               refine OK.loop2 [4] (fun (i : Nat) (w : Int) => [(0, .sl (l.map Job.cs)), (2, .int .i64 d), (4, .ptr 4 0), (1004, .box c.cs), (9, ints (bestT l c).1), (10, .int .i64 (bestT l c).2.late), (13, .int .i64 (bndTo l l.length).1), (18, .int .i64 w), (19, .int .i64 i)]) (fun i w => i ≤ c.ticks.length ∧ (0 ≤ w ∧ w ≤ 100000) ∧ ∀ r ∈ c.ticks.take i, ∀ x ∈ r, x ≤ w) (fun i w => c.ticks.length - i) (0) (0) ⟨Nat.zero_le _, ⟨by decide, by decide⟩, fun r hr => by cases hr⟩ ⟨rfl, rfl, rfl, rfl, rfl, rfl, rfl, rfl, rfl, trivial⟩ (fun _ _ => rfl) ?_
               rintro i w ⟨hi, hw, hwr⟩
               refine OK.seq (OK.seq (OK.reg ?_))
               refine RK.c (S.move .none rfl (.tmp rfl rfl)) ?_
               refine RK.c (S.bfield fi25_1 .none rfl (.tmp rfl rfl)) ?_
               refine RK.c (S.bload1 ti23 .none rfl (.tmp rfl rfl) rfl rfl rfl rfl) ?_
               refine RK.c (S.lenM si23 .none rfl (.tmp rfl rfl)) ?_
               refine RK.c (S.lss .none rfl (.tmp rfl rfl) (.tmp rfl rfl)) ?_
               refine RK.nil (Ab.D.code ?_)
               refine OK.condD rfl rfl (fun c139 => ?_) (fun c139 => ?_)
               ·
                have hic : i < c.ticks.length := by omega
                have hir := (hB.row _ (List.getElem_mem hic)).2
                have hirl := (hB.row _ (List.getElem_mem hic)).1
                refine OK.skip ?_
                refine Ab.D.code ?_
                refine OK.seq ?_
                refine OK.block ?_
                refine OK.seq (OK.reg ?_)
                refine RK.c (S.assign .none rfl (.cint rfl)) ?_
                refine RK.nil (Ab.D.code ?_)
                refine OK.block ?_
                refine OK.loop2 [4] (fun (k : Nat) (w2 : Int) => [(0, .sl (l.map Job.cs)), (2, .int .i64 d), (4, .ptr 4 0), (1004, .box c.cs), (9, ints (bestT l c).1), (10, .int .i64 (bestT l c).2.late), (13, .int .i64 (bndTo l l.length).1), (18, .int .i64 w2), (19, .int .i64 i), (20, .int .i64 k)]) (fun k w2 => k ≤ c.ticks[i].length ∧ (0 ≤ w2 ∧ w2 ≤ 100000) ∧ (∀ r ∈ c.ticks.take i, ∀ x ∈ r, x ≤ w2) ∧ ∀ x ∈ c.ticks[i].take k, x ≤ w2) (fun k w2 => c.ticks[i].length - k) (0) (w) ⟨Nat.zero_le _, hw, hwr, fun r hr => by cases hr⟩ ⟨rfl, rfl, rfl, rfl, rfl, rfl, rfl, rfl, rfl, rfl, trivial⟩ (fun _ _ => rfl) ?_
                rintro k w2 ⟨hk, hw2, hwr2, hwk⟩
                refine OK.seq (OK.seq (OK.reg ?_))
                refine RK.c (S.move .none rfl (.tmp rfl rfl)) ?_
                refine RK.c (S.bfield fi25_1 .none rfl (.tmp rfl rfl)) ?_
                refine RK.c (S.bload1 ti23 .none rfl (.tmp rfl rfl) rfl rfl rfl rfl) ?_
                refine RK.c (S.move .none rfl (.tmp rfl rfl)) ?_
                refine RK.c (S.indexM (n := i) si23 .none rfl (.tmp rfl rfl) (.tmp rfl rfl) rfl (by omega) rfl) ?_
                refine RK.c (S.load1 ti30 .none rfl (.tmp rfl rfl) rfl) ?_
                refine RK.c (S.lenM si30 .none rfl (.tmp rfl rfl)) ?_
                refine RK.c (S.lss .none rfl (.tmp rfl rfl) (.tmp rfl rfl)) ?_
                refine RK.nil (Ab.D.code ?_)
                refine OK.condD rfl rfl (fun c149 => ?_) (fun c149 => ?_)
                ·
                 have hkc : k < c.ticks[i].length := by omega
                 have hx := hir _ (List.getElem_mem hkc)
                 have hmx : 0 ≤ maxI w2 c.ticks[i][k] ∧ maxI w2 c.ticks[i][k] ≤ 100000 := ⟨Int.le_trans hw2.1 (maxI_l _ _), maxI_ub (by omega) (by omega)⟩
                 refine OK.skip ?_
                 refine Ab.D.code ?_
                 refine OK.seq ?_
                 refine OK.block ?_
                 refine OK.reg ?_
                 refine RK.c (S.move .none rfl (.tmp rfl rfl)) ?_
                 refine RK.c (S.bfield fi25_1 .none rfl (.tmp rfl rfl)) ?_
                 refine RK.c (S.bload1 ti23 .none rfl (.tmp rfl rfl) rfl rfl rfl rfl) ?_
                 refine RK.c (S.move .none rfl (.tmp rfl rfl)) ?_
                 refine RK.c (S.indexM (n := i) si23 .none rfl (.tmp rfl rfl) (.tmp rfl rfl) rfl (by omega) rfl) ?_
                 refine RK.c (S.load1 ti30 .none rfl (.tmp rfl rfl) rfl) ?_
                 refine RK.c (S.move .none rfl (.tmp rfl rfl)) ?_
                 refine RK.c (S.indexM (n := k) si30 .none rfl (.tmp rfl rfl) (.tmp rfl rfl) rfl (by omega) rfl) ?_
                 refine RK.c (S.load1 ti3 .none rfl (.tmp rfl rfl) rfl) ?_
                 refine RK.c (S.max2 .none rfl (.tmp rfl rfl) (.tmp rfl rfl)) ?_
                 refine RK.c (S.assign .none rfl (.tmp rfl rfl)) ?_
                 refine RK.nil ?_
                 refine Ab.D.blk ?_
                 refine Ab.D.code (OK.reg ?_)
                 refine RK.c (S.move .none rfl (.tmp rfl rfl)) ?_
                 refine RK.c (S.add .none rfl (.tmp rfl rfl) (.cint rfl) (IntWalk.i64_in _ (by omega)) (IntWalk.i64_in _ (by omega))) ?_
                 refine RK.c (S.assign .none rfl (.tmp rfl rfl)) ?_
                 refine RK.nil ?_
                 refine Ab.D.lp ⟨k + 1, (maxI w2 c.ticks[i][k]), ⟨by omega, hmx, fun r hr x hx => Int.le_trans (hwr2 r hr x hx) (maxI_l _ _), x_snoc hkc hwk⟩, (by omega), rfl, rfl, rfl, rfl, rfl, rfl, rfl, rfl, rfl, rfl, trivial⟩
                ·
                 refine OK.exit rfl ?_
                 refine Ab.D.blk ?_
                 refine Ab.D.code (OK.reg ?_)
                 refine RK.c (S.move .none rfl (.tmp rfl rfl)) ?_
                 refine RK.c (S.add .none rfl (.tmp rfl rfl) (.cint rfl) (IntWalk.i64_in _ (by omega)) (IntWalk.i64_in _ (by omega))) ?_
                 refine RK.c (S.assign .none rfl (.tmp rfl rfl)) ?_
                 refine RK.nil ?_
                 refine Ab.D.lp ⟨i + 1, w2, ⟨by omega, hw2, w_snoc hic hwr2 (fun x hx => hwk x (by rw [show k = c.ticks[i].length by omega, List.take_length]; exact hx))⟩, (by omega), rfl, rfl, rfl, rfl, rfl, rfl, rfl, rfl, rfl, trivial⟩
               ·
                have hwo : WOk c w := ⟨hw.1, fun r hr => hwr r (by rw [show i = c.ticks.length by omega, List.take_length]; exact hr)⟩
                have hbw := best_w hb hwo
                have hwn : 0 ≤ w * (l.length : Int) ∧ w * (l.length : Int) ≤ 100000 * 6 := ⟨Int.mul_nonneg hw.1 (by omega), Int.mul_le_mul hw.2 (by omega) (by omega) (by omega)⟩
                refine OK.exit rfl ?_
                refine Ab.D.code (OK.seq (OK.seq (OK.reg ?_)))
                refine RK.c (S.move .none rfl (.tmp rfl rfl)) ?_
                refine RK.c (S.move .none rfl (.tmp rfl rfl)) ?_
                refine RK.c (S.move .none rfl (.tmp rfl rfl)) ?_
                refine RK.c (S.move .none rfl (.tmp rfl rfl)) ?_
                refine RK.c (S.lenM si22 .none rfl (.tmp rfl rfl)) ?_
                refine RK.c (S.mul .none rfl (.tmp rfl rfl) (.tmp rfl rfl) (IntWalk.i64_in _ (by omega)) (IntWalk.i64_in _ (by omega))) ?_
                refine RK.c (S.add .none rfl (.tmp rfl rfl) (.tmp rfl rfl) (IntWalk.i64_in _ (by omega)) (IntWalk.i64_in _ (by omega))) ?_
                refine RK.c (S.gtr .none rfl (.tmp rfl rfl) (.tmp rfl rfl)) ?_
                refine RK.nil (Ab.D.code ?_)
                refine OK.condD rfl rfl (fun c169 => ?_) (fun c169 => ?_)
                ·
                 exact absurd c169 (by omega)
                ·
                 refine OK.skip ?_
                 refine Ab.D.code (OK.seq (OK.reg ?_))
                 refine RK.c (S.move .none rfl (.tmp rfl rfl)) ?_
                 refine RK.c (S.callO (k := 171) (refO_CopyJobs (l := l) (by omega)) Tryz.call17 .none rfl (.cons (.tmp rfl rfl) .nil) rfl (List.length_map ..)) ?_
                 refine RK.c (S.assign .none rfl (.tmp rfl rfl)) ?_
                 refine RK.nil (Ab.D.code (OK.seq (OK.seq (OK.reg ?_))))
                 refine RK.c (S.assign .none rfl (.cint rfl)) ?_
                 refine RK.nil (Ab.D.code ?_)
                 refine OK.block ?_
                 refine OK.loop (G := Nat) [4, 171] (fun i => [(0, .sl (l.map Job.cs)), (2, .int .i64 d), (4, .ptr 4 0), (1004, .box c.cs), (9, ints (bestT l c).1), (10, .int .i64 (bestT l c).2.late), (21, .own 171 l.length), (2171, .arr 4 ((laterTo d l i).map Job.cs)), (22, .int .i64 i)]) (fun i => i ≤ l.length) (fun i => l.length - i) 0 (Nat.zero_le _) ⟨rfl, rfl, rfl, rfl, rfl, rfl, rfl, (lk_arr (by rw [laterTo_0])), rfl, trivial⟩ (fun _ => rfl) ?_
                 rintro i hi
                 refine OK.seq (OK.seq (OK.reg ?_))
                 refine RK.c (S.move .none rfl (.tmp rfl rfl)) ?_
                 refine RK.c (S.move .none rfl (.tmp rfl rfl)) ?_
                 refine RK.c (S.lenOwn si22 .none rfl (.tmp rfl rfl) rfl (by simp [laterTo_len])) ?_
                 refine RK.c (S.lss .none rfl (.tmp rfl rfl) (.tmp rfl rfl)) ?_
                 refine RK.nil (Ab.D.code ?_)
                 refine OK.condD rfl rfl (fun c175 => ?_) (fun c175 => ?_)
                 ·
                  have hil : i < l.length := by omega
                  have hjb := hB.job _ (List.getElem_mem hil)
                  refine OK.skip ?_
                  refine Ab.D.code ?_
                  refine OK.seq ?_
                  refine OK.block ?_
                  refine OK.reg ?_
                  refine RK.c (S.move .none rfl (.tmp rfl rfl)) ?_
                  refine RK.c (S.move .none rfl (.tmp rfl rfl)) ?_
                  refine RK.c (S.move .none rfl (.tmp rfl rfl)) ?_
                  refine RK.c (S.move .none rfl (.tmp rfl rfl)) ?_
                  refine RK.c (S.oindex (i := i) si22 .none rfl (.tmp rfl rfl) rfl (by simp [laterTo_len]) (.tmp rfl rfl) rfl hil) ?_
                  refine RK.c (S.ofield fi114_3 .none rfl (.tmp rfl rfl) rfl (by simp [laterTo_len])) ?_
                  refine RK.c (S.oload1 ti3 .none rfl (.tmp rfl rfl) rfl (by simp [laterTo_len]) (later_due hil)) ?_
                  refine RK.c (S.move .none rfl (.tmp rfl rfl)) ?_
                  refine RK.c (S.add .none rfl (.tmp rfl rfl) (.tmp rfl rfl) (IntWalk.i64_in _ (by omega)) (IntWalk.i64_in _ (by omega))) ?_
                  refine RK.c (S.min2 .none rfl (.cint rfl) (.tmp rfl rfl)) ?_
                  refine RK.c (S.oindex (i := i) si22 .none rfl (.tmp rfl rfl) rfl (by simp [laterTo_len]) (.tmp rfl rfl) rfl hil) ?_
                  refine RK.c (S.ofield fi114_3 .none rfl (.tmp rfl rfl) rfl (by simp [laterTo_len])) ?_
                  refine RK.c (S.ostoreF (i := i) (f := 3) ti3 .none (.tmp rfl rfl) (.tmp rfl rfl) rfl (by simp [laterTo_len]) rfl (by decide) (later_row hil) rfl rfl (later_store hil)) ?_
                  refine RK.nil ?_
                  refine Ab.D.blk ?_
                  refine Ab.D.code (OK.reg ?_)
                  refine RK.c (S.move .none rfl (.tmp rfl rfl)) ?_
                  refine RK.c (S.add .none rfl (.tmp rfl rfl) (.cint rfl) (IntWalk.i64_in _ (by omega)) (IntWalk.i64_in _ (by omega))) ?_
                  refine RK.c (S.assign .none rfl (.tmp rfl rfl)) ?_
                  refine RK.nil ?_
                  refine Ab.D.lp ⟨i + 1, (by omega), (by omega), rfl, rfl, rfl, rfl, rfl, rfl, rfl, rfl, rfl, trivial⟩
                 ·
                  refine OK.exit rfl ?_
                  refine Ab.D.code ?_
                  refine OK.seq ?_
                  rw [laterTo_all d (show i = l.length by omega)]
                  refine OK.freeze 21 rfl rfl rfl (by simp) ?_
                  refine OK.reg ?_
                  refine RK.c (S.move .none rfl (.tmp rfl rfl)) ?_
                  refine RK.c (S.bloadN ti25 .none rfl (.tmp rfl rfl) rfl rfl rfl rfl) ?_
                  refine RK.c (S.call (ref9_CopyChanges (by omega) hrl) Tryz.call18 .none rfl (.cons (.tmp rfl rfl) .nil) rfl) ?_
                  refine RK.c (S.call (hB2) Tryz.call16 .none rfl (.cons (.tmp rfl rfl) (.cons (.tmp rfl rfl) .nil)) rfl) ?_
                  refine RK.c (S.move .none rfl (.tmp rfl rfl)) ?_
                  refine RK.c (S.extract .none rfl (.tmp rfl rfl) rfl rfl) ?_
                  refine RK.c (S.extract .none rfl (.tmp rfl rfl) rfl rfl) ?_
                  refine RK.c (S.extract .none rfl (.tmp rfl rfl) rfl rfl) ?_
                  refine RK.c (S.extract .none rfl (.tmp rfl rfl) rfl rfl) ?_
                  refine RK.c (S.assign .none rfl (.tmp rfl rfl)) ?_
                  refine RK.c (S.assign .none rfl (.tmp rfl rfl)) ?_
                  refine RK.c (S.assign .none rfl (.tmp rfl rfl)) ?_
                  refine RK.c (S.assign .none rfl (.tmp rfl rfl)) ?_
                  refine RK.nil (Ab.D.code ?_)
                  refine OK.seq ?_
                  refine OK.regionDraw follows (.c (S.move .none rfl (.tmp rfl rfl))
                   (.c (S.call (ref9_CopyJobs (by omega)) Tryz.call17 .none rfl (.cons (.tmp rfl rfl) .nil) rfl)
                   (.c (S.bloadN ti25 .none rfl (.tmp rfl rfl) rfl rfl rfl rfl)
                   (.c (S.call (ref9_CopyChanges (by omega) hrl) Tryz.call18 .none rfl (.cons (.tmp rfl rfl) .nil) rfl)
                   (.c (S.move .none rfl (.tmp rfl rfl))
                   (.c (S.call (base_CopyInts (l := (bestT l c).1) (by omega)) Tryz.call24 .none rfl (.cons (.tmp rfl rfl) .nil) rfl)
                   (.c (S.call (hTi) Tryz.call46 .none rfl (.cons (.tmp rfl rfl) (.cons (.tmp rfl rfl) (.cons (.tmp rfl rfl) .nil))) rfl)
                   (.c (S.move .none rfl (.tmp rfl rfl))
                   (.c (S.extract .none rfl (.tmp rfl rfl) rfl rfl)
                   (.c (S.extract .none rfl (.tmp rfl rfl) rfl rfl)
                   (.c (S.assign .none rfl (.tmp rfl rfl))
                   (.c (S.assign .none rfl (.tmp rfl rfl))
                   .nil)))))))))))) (by kernel_rfl) ?_
                  refine Ab.D.code (OK.seq (OK.seq (OK.reg ?_)))
                  refine RK.c (S.move .none rfl (.tmp rfl rfl)) ?_
                  refine RK.c (S.neq .none rfl (.tmp rfl rfl) (.cint rfl)) ?_
                  refine RK.c (S.move .none rfl (.tmp rfl rfl)) ?_
                  refine RK.splitD (t := 211) rfl (fun g211 => ?_) (fun g211 => ?_)
                  ·
                   exact absurd rfl g211
                  ·
                   refine RK.c (S.move (.yes rfl rfl rfl rfl) rfl (.tmp rfl rfl)) ?_
                   refine RK.c (S.move (.yes rfl rfl rfl rfl) rfl (.tmp rfl rfl)) ?_
                   refine RK.c (S.gtr (.yes rfl rfl rfl rfl) rfl (.tmp rfl rfl) (.tmp rfl rfl)) ?_
                   refine RK.c (S.pickF .none rfl (.tmp rfl rfl) (.tmp rfl rfl) rfl) ?_
                   refine RK.c (S.move .none rfl (.tmp rfl rfl)) ?_
                   refine RK.splitD (t := 216) rfl (fun g216 => ?_) (fun g216 => ?_)
                   ·
                    exact absurd g216 (by omega)
                   ·
                    refine RK.c (S.move (.yes rfl rfl rfl rfl) rfl (.tmp rfl rfl)) ?_
                    refine RK.c (S.neq (.yes rfl rfl rfl rfl) rfl (.tmp rfl rfl) (.cint rfl)) ?_
                    refine RK.c (S.pickF .none rfl (.tmp rfl rfl) (.tmp rfl rfl) rfl) ?_
                    refine RK.c (S.move .none rfl (.tmp rfl rfl)) ?_
                    refine RK.splitD (t := 220) rfl (fun g220 => ?_) (fun g220 => ?_)
                    ·
                     exact absurd rfl g220
                    ·
                     refine RK.c (S.move (.yes rfl rfl rfl rfl) rfl (.tmp rfl rfl)) ?_
                     refine RK.c (S.lenM si30 (.yes rfl rfl rfl rfl) rfl (.tmp rfl rfl)) ?_
                     refine RK.c (S.move (.yes rfl rfl rfl rfl) rfl (.tmp rfl rfl)) ?_
                     refine RK.c (S.lenM si22 (.yes rfl rfl rfl rfl) rfl (.tmp rfl rfl)) ?_
                     refine RK.c (S.neq (.yes rfl rfl rfl rfl) rfl (.tmp rfl rfl) (.tmp rfl rfl)) ?_
                     refine RK.c (S.pickF .none rfl (.tmp rfl rfl) (.tmp rfl rfl) rfl) ?_
                     refine RK.nil (Ab.D.code ?_)
                     refine OK.condD rfl rfl (fun c226 => ?_) (fun c226 => ?_)
                     ·
                      exact absurd c226 (by omega)
                     ·
                      refine OK.skip ?_
                      refine Ab.D.code (OK.seq (OK.reg ?_))
                      refine RK.c (S.nilOwn (k := 29) (sz := 3) .none rfl) ?_
                      refine RK.nil (Ab.D.code (OK.seq (OK.reg ?_)))
                      refine RK.c (S.assign .none rfl (.cint rfl)) ?_
                      refine RK.nil (Ab.D.code (OK.seq (OK.seq (OK.reg ?_))))
                      refine RK.c (S.assign .none rfl (.cint rfl)) ?_
                      refine RK.nil (Ab.D.code ?_)
                      refine OK.block ?_
                      refine OK.loop2 [29] (fun (k : Nat) (p : Int) => [(0, .sl (l.map Job.cs)), (27, ints (timesT l c (bestT l c).1)), (29, .own 29 k), (2029, .arr 3 ((runsTo l (timesT l c (bestT l c).1) k).map Run.cs)), (30, .int .i64 p), (31, .int .i64 k)]) (fun k p => k ≤ l.length ∧ PMax l k p) (fun k p => l.length - k) (0) (0) ⟨Nat.zero_le _, PMax.zero l⟩ ⟨rfl, rfl, (lk_own (by first | rfl | (simp; done) | (simp; omega))), (lk_arr (by first | rfl | (simp; done) | (simp; omega))), rfl, rfl, trivial⟩ (fun _ _ => rfl) ?_
                      rintro k p ⟨hk, hpm⟩
                      refine OK.seq (OK.seq (OK.reg ?_))
                      refine RK.c (S.move .none rfl (.tmp rfl rfl)) ?_
                      refine RK.c (S.move .none rfl (.tmp rfl rfl)) ?_
                      refine RK.c (S.lenM si22 .none rfl (.tmp rfl rfl)) ?_
                      refine RK.c (S.lss .none rfl (.tmp rfl rfl) (.tmp rfl rfl)) ?_
                      refine RK.nil (Ab.D.code ?_)
                      refine OK.condD rfl rfl (fun c230 => ?_) (fun c230 => ?_)
                      ·
                       have hkl : k < l.length := by omega
                       have hkT : k < (timesT l c (bestT l c).1).length := by omega
                       have htk := (hB.job _ (List.getElem_mem hkl)).2.1
                       obtain ⟨j9, hj91, hj92, hj93, _⟩ := run_time hB ho hkl
                       have hgT := getD_at (d := (0 : Int)) hkT
                       have htl := tick_at hkl
                       have hm9 := mom_okN hB ho j9 (by omega)
                       have hm8 := mom_okN hB ho (j9 + 1) (by omega)
                       obtain ⟨hm91, _⟩ := hm9
                       obtain ⟨hm81, _⟩ := hm8
                       have hge : l[k].ticks ≤ (timesT l c (bestT l c).1)[k] := by omega
                       have hTb : (timesT l c (bestT l c).1)[k] ≤ 200000 * 7 := by omega
                       have hrn := pmax_run hkl hkT
                       have hpr := hpm.rng
                       refine OK.skip ?_
                       refine Ab.D.code ?_
                       refine OK.seq ?_
                       refine OK.block ?_
                       refine OK.seq ?_
                       refine OK.seq ?_
                       refine OK.regionDraw follows (.c (S.move .none rfl (.tmp rfl rfl))
                        (.c (S.move .none rfl (.tmp rfl rfl))
                        (.c (S.indexM (n := k) si30 .none rfl (.tmp rfl rfl) (.tmp rfl rfl) rfl (by omega) rfl)
                        (.c (S.load1 ti3 .none rfl (.tmp rfl rfl) rfl)
                        (.c (S.move .none rfl (.tmp rfl rfl))
                        (.c (S.move .none rfl (.tmp rfl rfl))
                        (.c (S.indexM (n := k) si22 .none rfl (.tmp rfl rfl) (.tmp rfl rfl) rfl (by omega) rfl)
                        (.c (S.field fi114_2 .none rfl (.tmp rfl rfl) rfl)
                        (.c (S.load1 ti3 .none rfl (.tmp rfl rfl) rfl)
                        (.c (S.lss .none rfl (.tmp rfl rfl) (.tmp rfl rfl))
                        .nil)))))))))) (by kernel_rfl) ?_
                       refine Ab.D.code ?_
                       refine OK.condD rfl rfl (fun c242 => ?_) (fun c242 => ?_)
                       ·
                        exact absurd c242 (by omega)
                       ·
                        refine OK.skip ?_
                        refine Ab.D.code ?_
                        refine OK.seq ?_
                        refine OK.regionDraw follows (.c (S.move .none rfl (.tmp rfl rfl))
                         (.c (S.move .none rfl (.tmp rfl rfl))
                         (.c (S.move .none rfl (.tmp rfl rfl))
                         (.c (S.indexM (n := k) si30 .none rfl (.tmp rfl rfl) (.tmp rfl rfl) rfl (by omega) rfl)
                         (.c (S.load1 ti3 .none rfl (.tmp rfl rfl) rfl)
                         (.c (S.move .none rfl (.tmp rfl rfl))
                         (.c (S.move .none rfl (.tmp rfl rfl))
                         (.c (S.indexM (n := k) si22 .none rfl (.tmp rfl rfl) (.tmp rfl rfl) rfl (by omega) rfl)
                         (.c (S.field fi114_2 .none rfl (.tmp rfl rfl) rfl)
                         (.c (S.load1 ti3 .none rfl (.tmp rfl rfl) rfl)
                         (.c (S.sub .none rfl (.tmp rfl rfl) (.tmp rfl rfl) (IntWalk.i64_in _ (by omega)) (IntWalk.i64_in _ (by omega)))
                         (.c (S.move .none rfl (.tmp rfl rfl))
                         (.c (S.move .none rfl (.tmp rfl rfl))
                         (.c (S.indexM (n := k) si22 .none rfl (.tmp rfl rfl) (.tmp rfl rfl) rfl (by omega) rfl)
                         (.c (S.field fi114_2 .none rfl (.tmp rfl rfl) rfl)
                         (.c (S.load1 ti3 .none rfl (.tmp rfl rfl) rfl)
                         (.c (S.move .none rfl (.tmp rfl rfl))
                         (.c (S.move .none rfl (.tmp rfl rfl))
                         (.c (S.indexM (n := k) si22 .none rfl (.tmp rfl rfl) (.tmp rfl rfl) rfl (by omega) rfl)
                         (.c (S.field fi114_2 .none rfl (.tmp rfl rfl) rfl)
                         (.c (S.load1 ti3 .none rfl (.tmp rfl rfl) rfl)
                         (.c (S.build bu117 rfl .none rfl (.cons (.tmp rfl rfl) (.cons (.tmp rfl rfl) (.cons (.tmp rfl rfl) .nil))) rfl rfl)
                         (.c (S.mkSlice (k := 265) (rows := [[_, _, _]]) ai115 .none rfl (.cons (.tmp rfl rfl) .nil) rfl rfl rfl rfl rfl rfl rfl)
                         (.c (S.append ai115 .none rfl (.tmp rfl rfl) rfl (by simp [runsTo]) (.tmp rfl rfl) rfl (by first | rfl | (simp; done) | (simp; omega)) (by omega) (by simp only [maxLen]; omega))
                         (.c (S.assign .none rfl (.tmp rfl rfl))
                         .nil))))))))))))))))))))))))) (by kernel_rfl) ?_
                        refine Ab.D.code (OK.reg ?_)
                        refine RK.c (S.move .none rfl (.tmp rfl rfl)) ?_
                        refine RK.c (S.move .none rfl (.tmp rfl rfl)) ?_
                        refine RK.c (S.move .none rfl (.tmp rfl rfl)) ?_
                        refine RK.c (S.indexM (n := k) si22 .none rfl (.tmp rfl rfl) (.tmp rfl rfl) rfl (by omega) rfl) ?_
                        refine RK.c (S.field fi114_2 .none rfl (.tmp rfl rfl) rfl) ?_
                        refine RK.c (S.load1 ti3 .none rfl (.tmp rfl rfl) rfl) ?_
                        refine RK.c (S.max2 .none rfl (.tmp rfl rfl) (.tmp rfl rfl)) ?_
                        refine RK.c (S.assign .none rfl (.tmp rfl rfl)) ?_
                        refine RK.nil ?_
                        refine Ab.D.blk ?_
                        refine Ab.D.code (OK.reg ?_)
                        refine RK.c (S.move .none rfl (.tmp rfl rfl)) ?_
                        refine RK.c (S.add .none rfl (.tmp rfl rfl) (.cint rfl) (IntWalk.i64_in _ (by omega)) (IntWalk.i64_in _ (by omega))) ?_
                        refine RK.c (S.assign .none rfl (.tmp rfl rfl)) ?_
                        refine RK.nil ?_
                        refine Ab.D.lp ⟨k + 1, (maxI p l[k].ticks), ⟨by omega, hpm.succ hkl htk⟩, (by omega), rfl, rfl, (lk_own (by omega)), (lk_arr (by rw [runsTo_succ, List.map_append, List.map_cons, List.map_nil, hrn])), rfl, rfl, trivial⟩
                      ·
                       obtain rfl : k = l.length := by omega
                       have hrlen : (runsTo l (timesT l c (bestT l c).1) l.length).length = l.length := by simp [runsTo]
                       refine OK.exit rfl ?_
                       refine Ab.D.code ?_
                       refine OK.seq ?_
                       refine OK.seq ?_
                       refine OK.freeze 29 rfl rfl rfl (by simp [runsTo]) ?_
                       refine OK.reg ?_
                       refine RK.c (S.move .none rfl (.tmp rfl rfl)) ?_
                       refine RK.c (S.call (ref9_RunsErr (l := runsTo l (timesT l c (bestT l c).1) l.length)) Tryz.call69 .none rfl (.cons (.tmp rfl rfl) .nil) rfl) ?_
                       refine RK.c (S.neq .none rfl (.tmp rfl rfl) (.cint rfl)) ?_
                       refine RK.nil (Ab.D.code ?_)
                       refine OK.condD rfl rfl (fun c276 => ?_) (fun c276 => ?_)
                       ·
                        refine OK.seq (OK.reg ?_)
                        refine RK.c (S.assign .none rfl .cbool) ?_
                        refine RK.nil (Ab.D.code ?_)
                        refine OK.ret (Ret.r1 (.tmp rfl rfl (.c (.same rfl) rfl) rfl) ?_)
                        first | rfl | (refine ret_b ?_; exact decide_eq_true (by omega))
                       ·
                        have hrc : (runsChk (runsTo l (timesT l c (bestT l c).1) l.length)).2 = 0 := Decidable.not_not.1 c276
                        have hpk := peak_runs hB ho hpm
                        have hpe := placed_runs (c := c) hB hpm hrc
                        have hpl := placed_lenT (runsTo l (timesT l c (bestT l c).1) l.length) p
                        have hPk : Ct Tryz.prog 70 [.sl ((runsTo l (timesT l c (bestT l c).1) l.length).map Run.cs)] (.tup [.int .i64 p, .int .i64 (peakT (runsTo l (timesT l c (bestT l c).1) l.length)).2, .int .i64 0]) := ct_res (shp_PeakOf (l := runsTo l (timesT l c (bestT l c).1) l.length)) (by rw [if_pos hrc, if_pos hrc, hrc, hpk])
                        have hPl : Ct Tryz.prog 72 [.sl ((runsTo l (timesT l c (bestT l c).1) l.length).map Run.cs), .int .i64 p] (.tup [ints (placedT (runsTo l (timesT l c (bestT l c).1) l.length) p), .int .i64 0]) := ct_res (shp_Placed (l := runsTo l (timesT l c (bestT l c).1) l.length) (peak := p)) (by rw [if_pos hpe, hpe])
                        refine OK.skip ?_
                        refine Ab.D.code (OK.seq (OK.reg ?_))
                        refine RK.c (S.move .none rfl (.tmp rfl rfl)) ?_
                        refine RK.c (S.call (ref9_CopyRuns (l := runsTo l (timesT l c (bestT l c).1) l.length) (by omega)) Tryz.call71 .none rfl (.cons (.tmp rfl rfl) .nil) rfl) ?_
                        refine RK.c (S.call (hPk) Tryz.call70 .none rfl (.cons (.tmp rfl rfl) .nil) rfl) ?_
                        refine RK.c (S.move .none rfl (.tmp rfl rfl)) ?_
                        refine RK.c (S.extract .none rfl (.tmp rfl rfl) rfl rfl) ?_
                        refine RK.c (S.extract .none rfl (.tmp rfl rfl) rfl rfl) ?_
                        refine RK.c (S.extract .none rfl (.tmp rfl rfl) rfl rfl) ?_
                        refine RK.c (S.assign .none rfl (.tmp rfl rfl)) ?_
                        refine RK.c (S.assign .none rfl (.tmp rfl rfl)) ?_
                        refine RK.c (S.assign .none rfl (.tmp rfl rfl)) ?_
                        refine RK.nil (Ab.D.code (OK.seq (OK.reg ?_)))
                        refine RK.c (S.move .none rfl (.tmp rfl rfl)) ?_
                        refine RK.c (S.move .none rfl (.tmp rfl rfl)) ?_
                        refine RK.c (S.call (hPl) Tryz.call72 .none rfl (.cons (.tmp rfl rfl) (.cons (.tmp rfl rfl) .nil)) rfl) ?_
                        refine RK.c (S.move .none rfl (.tmp rfl rfl)) ?_
                        refine RK.c (S.extract .none rfl (.tmp rfl rfl) rfl rfl) ?_
                        refine RK.c (S.extract .none rfl (.tmp rfl rfl) rfl rfl) ?_
                        refine RK.c (S.assign .none rfl (.tmp rfl rfl)) ?_
                        refine RK.c (S.assign .none rfl (.tmp rfl rfl)) ?_
                        refine RK.nil (Ab.D.code (OK.seq (OK.reg ?_)))
                        refine RK.c (S.move .none rfl (.tmp rfl rfl)) ?_
                        refine RK.c (S.eql .none rfl (.tmp rfl rfl) (.cint rfl)) ?_
                        refine RK.c (S.move .none rfl (.tmp rfl rfl)) ?_
                        refine RK.splitD (t := 292) rfl (fun g292 => ?_) (fun g292 => ?_)
                        ·
                         refine RK.c (S.move (.yes rfl rfl rfl rfl) rfl (.tmp rfl rfl)) ?_
                         refine RK.c (S.move (.yes rfl rfl rfl rfl) rfl (.tmp rfl rfl)) ?_
                         refine RK.c (S.eql (.yes rfl rfl rfl rfl) rfl (.tmp rfl rfl) (.tmp rfl rfl)) ?_
                         refine RK.c (S.pickT .none rfl (.tmp rfl rfl) (.tmp rfl rfl) rfl) ?_
                         refine RK.c (S.move .none rfl (.tmp rfl rfl)) ?_
                         refine RK.splitD (t := 297) rfl (fun g297 => ?_) (fun g297 => ?_)
                         ·
                          refine RK.c (S.move (.yes rfl rfl rfl rfl) rfl (.tmp rfl rfl)) ?_
                          refine RK.c (S.eql (.yes rfl rfl rfl rfl) rfl (.tmp rfl rfl) (.cint rfl)) ?_
                          refine RK.c (S.pickT .none rfl (.tmp rfl rfl) (.tmp rfl rfl) rfl) ?_
                          refine RK.c (S.move .none rfl (.tmp rfl rfl)) ?_
                          refine RK.splitD (t := 301) rfl (fun g301 => ?_) (fun g301 => ?_)
                          ·
                           refine RK.c (S.move (.yes rfl rfl rfl rfl) rfl (.tmp rfl rfl)) ?_
                           refine RK.c (S.lenM si30 (.yes rfl rfl rfl rfl) rfl (.tmp rfl rfl)) ?_
                           refine RK.c (S.move (.yes rfl rfl rfl rfl) rfl (.tmp rfl rfl)) ?_
                           refine RK.c (S.lenM si22 (.yes rfl rfl rfl rfl) rfl (.tmp rfl rfl)) ?_
                           refine RK.c (S.eql (.yes rfl rfl rfl rfl) rfl (.tmp rfl rfl) (.tmp rfl rfl)) ?_
                           refine RK.c (S.pickT .none rfl (.tmp rfl rfl) (.tmp rfl rfl) rfl) ?_
                           refine RK.c (S.assign .none rfl (.tmp rfl rfl)) ?_
                           refine RK.nil (Ab.D.code ?_)
                           refine OK.ret (Ret.r1 (.tmp rfl rfl (.c (.same rfl) rfl) rfl) ?_)
                           first | rfl | (refine ret_b ?_; exact decide_eq_true (by omega))
                          ·
                           exact absurd rfl g301
                         ·
                          exact absurd rfl g297
                        ·
                         exact absurd rfl g292
end Go.Proofs.YtpfepjgnojfppaaGreatDoor
