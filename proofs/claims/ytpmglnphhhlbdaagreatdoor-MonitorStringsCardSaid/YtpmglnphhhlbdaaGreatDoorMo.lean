import Derived.Test.YtpmglnphhhlbdaaGreatDoorGs
import Derived.Test.YtpmglnphhhlbdaaGreatDoorMi
import Derived.Test.YtpmglnphhhlbdaaGreatDoorTy
namespace Go.Proofs.YtpmglnphhhlbdaaGreatDoor
open Go.Ab
theorem lkBO2 {k n m : Nat} (h : n = m) : some (X.box [.own k n]) = some (X.box [.own k m]) := by rw [h]
theorem lkB3 {a b : X} {k n m : Nat} (h : n = m) : some (X.box [a, b, .own k n]) = some (X.box [a, b, .own k m]) := by rw [h]
set_option maxHeartbeats 2000000 in
theorem mon_ParseEnvelope {l : List UInt8} (hl : l.length ≤ 100000 - 1) : CtT Tryz.prog 20 [.str l] (.tup [.agg (parseE l).1.cs, .int .i64 (parseE l).2]) := by
  refine CtT.intro (rs := [.cell 2 30, .tmp 3]) Tryz.func20 rfl Tryz.ntmps20 Tryz.results20 rfl rfl rfl fun w h hT => ?_
  have hw0 := split_0 59 l
  have hcn := split_cnt (c := 59) (l := l)
  have hwl : ∀ w ∈ splitC 59 l, w.length ≤ 100000 - 1 := fun w hw => by have := split_sub w hw; omega
  have hwl0 := hwl _ (List.getElem_mem hw0)
  have hcl := cut_len (c := 32) (l := (splitC 59 l)[0])
  have hdl : ((splitC 59 l).drop 1).length ≤ 100000 := by rw [List.length_drop]; omega
  refine OK.seq (OK.reg ?_)
  refine RK.c (S.alloc (k := 2) ze30 rfl .none rfl) ?_
  refine RK.c (S.assign .none rfl (.cint rfl)) ?_
  refine RK.nil (Ab.D.code (OK.seq (OK.seq (OK.reg ?_))))
  refine RK.c (S.move .none rfl (.tmp rfl rfl)) ?_
  refine RK.c (S.slen Tryz.underlying9 .none rfl (.tmp rfl rfl)) ?_
  refine RK.c (S.gtr .none rfl (.tmp rfl rfl) (.cint rfl)) ?_
  refine RK.nil (Ab.D.code ?_)
  refine OK.condD rfl rfl (fun c21 => ?_) (fun c21 => ?_)
  ·
    have hpf := parseE_L (l := l) (by omega)
    refine OK.seq (OK.reg ?_)
    refine RK.c (S.build bu30 rfl .none rfl .nil rfl rfl) ?_
    refine RK.c (S.store ti30 .none (.tmp rfl rfl) (.tmp rfl rfl) rfl rfl rfl rfl rfl rfl) ?_
    refine RK.c (S.assign .none rfl (.cint rfl)) ?_
    refine RK.nil (Ab.D.code ?_)
    refine OK.ret (Ret.r2 (.cellN rfl rfl rfl rfl ti30 rfl (.k (.same rfl) (.k (.same rfl) (.k .nils .z)))) (.tmp rfl rfl (.c (.same rfl) rfl) rfl) ?_)
    rw [hpf]
    all_goals rfl
  ·
    have hbig : ¬ 60000 < l.length := by omega
    refine OK.skip ?_
    refine Ab.D.code (OK.seq (OK.reg ?_))
    refine RK.c (S.move .none rfl (.tmp rfl rfl)) ?_
    refine RK.c (S.call (str_Split (l := l) (c := 59) (by omega)) Tryz.call60 .none rfl (.cons (.tmp rfl rfl) (.cons (.cstr (l := [59]) rfl (by decide)) .nil)) rfl) ?_
    refine RK.c (S.assign .none rfl (.tmp rfl rfl)) ?_
    refine RK.nil (Ab.D.code (OK.seq (OK.reg ?_)))
    refine RK.c (S.move .none rfl (.tmp rfl rfl)) ?_
    refine RK.c (S.indexM (n := 0) si22 .none rfl (.tmp rfl rfl) (.cint rfl) rfl hw0 rfl) ?_
    refine RK.c (S.load1 ti9 .none rfl (.tmp rfl rfl) rfl) ?_
    refine RK.c (S.call (str_Cut (l := (splitC 59 l)[0]) (c := 32) (by omega)) Tryz.call66 .none rfl (.cons (.tmp rfl rfl) (.cons (.cstr (l := [32]) rfl (by decide)) .nil)) rfl) ?_
    refine RK.c (S.move .none rfl (.tmp rfl rfl)) ?_
    refine RK.c (S.extract .none rfl (.tmp rfl rfl) rfl rfl) ?_
    refine RK.c (S.extract .none rfl (.tmp rfl rfl) rfl rfl) ?_
    refine RK.c (S.extract .none rfl (.tmp rfl rfl) rfl rfl) ?_
    refine RK.c (S.assign .none rfl (.tmp rfl rfl)) ?_
    refine RK.c (S.assign .none rfl (.tmp rfl rfl)) ?_
    refine RK.c (S.assign .none rfl (.tmp rfl rfl)) ?_
    refine RK.nil (Ab.D.code (OK.seq (OK.reg ?_)))
    refine RK.c (S.move .none rfl (.tmp rfl rfl)) ?_
    refine RK.c (S.callT (mon_number (l := (cutC 32 (splitC 59 l)[0]).1) (b := false) (by omega)) hT Tryz.call61 .none rfl (.cons (.tmp rfl rfl) (.cons .cbool .nil)) rfl) ?_
    refine RK.c (S.move .none rfl (.tmp rfl rfl)) ?_
    refine RK.c (S.extract .none rfl (.tmp rfl rfl) rfl rfl) ?_
    refine RK.c (S.extract .none rfl (.tmp rfl rfl) rfl rfl) ?_
    refine RK.c (S.assign .none rfl (.tmp rfl rfl)) ?_
    refine RK.c (S.assign .none rfl (.tmp rfl rfl)) ?_
    refine RK.nil (Ab.D.code (OK.seq (OK.reg ?_)))
    refine RK.c (S.move .none rfl (.tmp rfl rfl)) ?_
    refine RK.c (S.callT (mon_number (l := (cutC 32 (splitC 59 l)[0]).2.1) (b := false) (by omega)) hT Tryz.call61 .none rfl (.cons (.tmp rfl rfl) (.cons .cbool .nil)) rfl) ?_
    refine RK.c (S.move .none rfl (.tmp rfl rfl)) ?_
    refine RK.c (S.extract .none rfl (.tmp rfl rfl) rfl rfl) ?_
    refine RK.c (S.extract .none rfl (.tmp rfl rfl) rfl rfl) ?_
    refine RK.c (S.assign .none rfl (.tmp rfl rfl)) ?_
    refine RK.c (S.assign .none rfl (.tmp rfl rfl)) ?_
    refine RK.nil (Ab.D.code (OK.seq (OK.seq (OK.reg ?_))))
    refine RK.c (S.move .none rfl (.tmp rfl rfl)) ?_
    refine RK.c (S.not .none rfl (.tmp rfl rfl)) ?_
    refine RK.c (S.move .none rfl (.tmp rfl rfl)) ?_
    refine RK.split (t := 45) rfl (fun g45 => ?_) (fun g45 => ?_)
    ·
      have hpf := parseE_H hbig (headE_F (.inl (by simpa using g45)))
      refine RK.c (S.skip rfl rfl rfl rfl rfl) ?_
      refine RK.c (S.skip rfl rfl rfl rfl rfl) ?_
      refine RK.c (S.pickT .none rfl (.tmp rfl rfl) .cbool rfl) ?_
      refine RK.c (S.move .none rfl (.tmp rfl rfl)) ?_
      refine RK.c (S.skip rfl rfl rfl rfl rfl) ?_
      refine RK.c (S.skip rfl rfl rfl rfl rfl) ?_
      refine RK.c (S.pickT .none rfl (.tmp rfl rfl) .cbool rfl) ?_
      refine RK.nil (Ab.D.code ?_)
      refine OK.condT rfl rfl rfl ?_
      refine OK.seq (OK.reg ?_)
      refine RK.c (S.build bu30 rfl .none rfl .nil rfl rfl) ?_
      refine RK.c (S.store ti30 .none (.tmp rfl rfl) (.tmp rfl rfl) rfl rfl rfl rfl rfl rfl) ?_
      refine RK.c (S.assign .none rfl (.cint rfl)) ?_
      refine RK.nil (Ab.D.code ?_)
      refine OK.ret (Ret.r2 (.cellN rfl rfl rfl rfl ti30 rfl (.k (.same rfl) (.k (.same rfl) (.k .nils .z)))) (.tmp rfl rfl (.c (.same rfl) rfl) rfl) ?_)
      rw [hpf]
      all_goals rfl
    ·
      have hf0 : (cutC 32 (splitC 59 l)[0]).2.2 = true := by simpa using g45
      refine RK.c (S.move (.yes rfl rfl rfl rfl) rfl (.tmp rfl rfl)) ?_
      refine RK.c (S.not (.yes rfl rfl rfl rfl) rfl (.tmp rfl rfl)) ?_
      refine RK.c (S.pickF .none rfl (.tmp rfl rfl) (.tmp rfl rfl) rfl) ?_
      refine RK.c (S.move .none rfl (.tmp rfl rfl)) ?_
      refine RK.split (t := 49) rfl (fun g49 => ?_) (fun g49 => ?_)
      ·
        have hpf := parseE_H hbig (headE_F (.inr (.inl (by rw [← numM_F]; simpa using g49))))
        refine RK.c (S.skip rfl rfl rfl rfl rfl) ?_
        refine RK.c (S.skip rfl rfl rfl rfl rfl) ?_
        refine RK.c (S.pickT .none rfl (.tmp rfl rfl) .cbool rfl) ?_
        refine RK.nil (Ab.D.code ?_)
        refine OK.condT rfl rfl rfl ?_
        refine OK.seq (OK.reg ?_)
        refine RK.c (S.build bu30 rfl .none rfl .nil rfl rfl) ?_
        refine RK.c (S.store ti30 .none (.tmp rfl rfl) (.tmp rfl rfl) rfl rfl rfl rfl rfl rfl) ?_
        refine RK.c (S.assign .none rfl (.cint rfl)) ?_
        refine RK.nil (Ab.D.code ?_)
        refine OK.ret (Ret.r2 (.cellN rfl rfl rfl rfl ti30 rfl (.k (.same rfl) (.k (.same rfl) (.k .nils .z)))) (.tmp rfl rfl (.c (.same rfl) rfl) rfl) ?_)
        rw [hpf]
        all_goals rfl
      ·
        have hn1 : natI (cutC 32 (splitC 59 l)[0]).1 = true := by rw [← numM_F]; simpa using g49
        obtain ⟨_, _, hv1⟩ := natI_v hn1
        refine RK.c (S.move (.yes rfl rfl rfl rfl) rfl (.tmp rfl rfl)) ?_
        refine RK.c (S.not (.yes rfl rfl rfl rfl) rfl (.tmp rfl rfl)) ?_
        refine RK.c (S.pickF .none rfl (.tmp rfl rfl) (.tmp rfl rfl) rfl) ?_
        refine RK.nil (Ab.D.code ?_)
        refine OK.cond rfl rfl (fun c52 => ?_) (fun c52 => ?_)
        ·
          have hpf := parseE_H hbig (headE_F (.inr (.inr (by rw [← numM_F]; simpa using c52))))
          refine OK.seq (OK.reg ?_)
          refine RK.c (S.build bu30 rfl .none rfl .nil rfl rfl) ?_
          refine RK.c (S.store ti30 .none (.tmp rfl rfl) (.tmp rfl rfl) rfl rfl rfl rfl rfl rfl) ?_
          refine RK.c (S.assign .none rfl (.cint rfl)) ?_
          refine RK.nil (Ab.D.code ?_)
          refine OK.ret (Ret.r2 (.cellN rfl rfl rfl rfl ti30 rfl (.k (.same rfl) (.k (.same rfl) (.k .nils .z)))) (.tmp rfl rfl (.c (.same rfl) rfl) rfl) ?_)
          rw [hpf]
          all_goals rfl
        ·
          have hn2 : natI (cutC 32 (splitC 59 l)[0]).2.1 = true := by rw [← numM_F]; simpa using c52
          obtain ⟨_, _, hv2⟩ := natI_v hn2
          have hhd := headE_T hf0 hn1 hn2
          rw [hv1, hv2]
          refine OK.skip ?_
          refine Ab.D.code (OK.seq (OK.reg ?_))
          refine RK.c (S.move .none rfl (.tmp rfl rfl)) ?_
          refine RK.c (S.move .none rfl (.tmp rfl rfl)) ?_
          refine RK.c (S.build bu30 rfl .none rfl (.cons (.tmp rfl rfl) (.cons (.tmp rfl rfl) .nil)) rfl rfl) ?_
          refine RK.c (S.alloc (k := 12) ze30 rfl .none rfl) ?_
          refine RK.c (S.store ti30 .none (.tmp rfl rfl) (.tmp rfl rfl) rfl rfl rfl rfl rfl rfl) ?_
          refine RK.nil (Ab.D.code (OK.seq (OK.seq (OK.reg ?_))))
          refine RK.c (S.move .none rfl (.tmp rfl rfl)) ?_
          refine RK.c (S.slice (lo := 1) (l' := ((splitC 59 l).drop 1)) si22 (fun _ => rfl) .none rfl (.tmp rfl rfl) (.inr ⟨_, _, rfl, (.cint rfl), rfl⟩) (.inl ⟨rfl, rfl, rfl⟩) (by omega) (by omega) (by rw [List.take_length])) ?_
          refine RK.c (S.lenM si22 .none rfl (.tmp rfl rfl)) ?_
          refine RK.c (S.move .none rfl (.cint rfl)) ?_
          refine RK.nil (Ab.D.code ?_)
          refine OK.block ?_
          refine OK.boxOwn 12 2 880 1 rfl rfl rfl rfl rfl ?_
          refine OK.loop2 [2, 12, 880] (fun (k : Nat) (out : List (List Range)) => [(2, .ptr 2 0), (1002, .box [.int .i64 0, .int .i64 0, .nils]), (12, .ptr 12 0), (1012, .box [.int .i64 (sgnV (cutC 32 (splitC 59 l)[0]).1), .int .i64 (sgnV (cutC 32 (splitC 59 l)[0]).2.1), .own 880 out.length]), (2880, .arr 1 (out.map fun l => [X.sl (l.map Range.cs)])), (58, .sl (((splitC 59 l).drop 1).map fun s => [.str s])), (59, .int .i64 ((splitC 59 l).drop 1).length), (60, .int .i64 k)]) (fun k out => k ≤ ((splitC 59 l).drop 1).length ∧ gath rowE1 ((splitC 59 l).drop 1) = (gath rowE1 (((splitC 59 l).drop 1).drop k)).map (out ++ ·) ∧ out.length ≤ k) (fun k out => ((splitC 59 l).drop 1).length - k) (0) ([]) ⟨Nat.zero_le _, by rw [List.drop_zero]; cases gath rowE1 ((splitC 59 l).drop 1) <;> simp, Nat.le_refl _⟩ ⟨rfl, rfl, rfl, rfl, (lk_arr (by first | rfl | (simp; done) | (simp; omega))), rfl, rfl, rfl, trivial⟩ (fun _ _ => rfl) ?_
          rintro k out ⟨hk, hg, hol⟩
          refine OK.seq (OK.reg ?_)
          refine RK.c (S.lss .none rfl (.tmp rfl rfl) (.tmp rfl rfl)) ?_
          refine RK.nil (Ab.D.code ?_)
          refine OK.seq ?_
          refine OK.condD rfl rfl (fun c61 => ?_) (fun c61 => ?_)
          ·
            have hkl : k < ((splitC 59 l).drop 1).length := by omega
            have hwk := hwl _ (List.mem_of_mem_drop (List.getElem_mem hkl))
            have hck := split_cnt (c := 32) (l := ((splitC 59 l).drop 1)[k])
            refine OK.skip ?_
            refine Ab.D.code ?_
            refine OK.seq ?_
            refine OK.block ?_
            refine OK.seq (OK.reg ?_)
            refine RK.c (S.indexM (n := k) si22 .none rfl (.tmp rfl rfl) (.tmp rfl rfl) rfl (by omega) rfl) ?_
            refine RK.c (S.load1 ti9 .none rfl (.tmp rfl rfl) rfl) ?_
            refine RK.c (S.assign .none rfl (.tmp rfl rfl)) ?_
            refine RK.nil (Ab.D.code (OK.seq (OK.reg ?_)))
            refine RK.c (S.move .none rfl (.tmp rfl rfl)) ?_
            refine RK.c (S.call (str_Split (l := ((splitC 59 l).drop 1)[k]) (c := 32) (by omega)) Tryz.call60 .none rfl (.cons (.tmp rfl rfl) (.cons (.cstr (l := [32]) rfl (by decide)) .nil)) rfl) ?_
            refine RK.c (S.callT (mon_numbers (l := splitC 32 ((splitC 59 l).drop 1)[k]) (by omega) (fun w hw => by have := split_sub w hw; omega)) hT Tryz.call65 .none rfl (.cons (.tmp rfl rfl) .nil) rfl) ?_
            refine RK.c (S.move .none rfl (.tmp rfl rfl)) ?_
            refine RK.c (S.extract .none rfl (.tmp rfl rfl) rfl rfl) ?_
            refine RK.c (S.extract .none rfl (.tmp rfl rfl) rfl rfl) ?_
            refine RK.c (S.assign .none rfl (.tmp rfl rfl)) ?_
            refine RK.c (S.assign .none rfl (.tmp rfl rfl)) ?_
            refine RK.nil (Ab.D.code (OK.seq (OK.seq (OK.reg ?_))))
            refine RK.c (S.move .none rfl (.tmp rfl rfl)) ?_
            refine RK.c (S.not .none rfl (.tmp rfl rfl)) ?_
            refine RK.c (S.move .none rfl (.tmp rfl rfl)) ?_
            refine RK.split (t := 72) rfl (fun g72 => ?_) (fun g72 => ?_)
            ·
              have hgn : gath num1 (splitC 32 ((splitC 59 l).drop 1)[k]) = none := by simpa using g72
              have hpf := parseE_N hbig (gath_no hg hkl (rowE1_N hgn))
              refine RK.c (S.skip rfl rfl rfl rfl rfl) ?_
              refine RK.c (S.skip rfl rfl rfl rfl rfl) ?_
              refine RK.c (S.skip rfl rfl rfl rfl rfl) ?_
              refine RK.c (S.skip rfl rfl rfl rfl rfl) ?_
              refine RK.c (S.pickT .none rfl (.tmp rfl rfl) .cbool rfl) ?_
              refine RK.nil (Ab.D.code ?_)
              refine OK.condT rfl rfl rfl ?_
              refine OK.seq (OK.reg ?_)
              refine RK.c (S.build bu30 rfl .none rfl .nil rfl rfl) ?_
              refine RK.c (S.store ti30 .none (.tmp rfl rfl) (.tmp rfl rfl) rfl rfl rfl rfl rfl rfl) ?_
              refine RK.c (S.assign .none rfl (.cint rfl)) ?_
              refine RK.nil (Ab.D.code ?_)
              refine OK.ret (Ret.r2 (.cellN rfl rfl rfl rfl ti30 rfl (.k (.same rfl) (.k (.same rfl) (.k .nils .z)))) (.tmp rfl rfl (.c (.same rfl) rfl) rfl) ?_)
              rw [hpf]
              all_goals rfl
            ·
              have hsm : (gath num1 (splitC 32 ((splitC 59 l).drop 1)[k])).isSome = true := by simpa using g72
              obtain ⟨ns, hgs⟩ := Option.isSome_iff_exists.1 hsm
              have hnl := gath_len hgs
              have hns : ns.length ≤ 100000 := by omega
              rw [hgs]
              refine RK.c (S.move (.yes rfl rfl rfl rfl) rfl (.tmp rfl rfl)) ?_
              refine RK.c (S.lenM si25 (.yes rfl rfl rfl rfl) rfl (.tmp rfl rfl)) ?_
              refine RK.c (S.rem (q := ((ns.length % 2 : Nat) : Int)) (.yes rfl rfl rfl rfl) rfl (.tmp rfl rfl) (.cint rfl) (by decide) (by first | exact tmod2 _ | (simp only [List.length_map]; exact tmod2 _)) (IntWalk.i64_in _ (by omega))) ?_
              refine RK.c (S.neq (.yes rfl rfl rfl rfl) rfl (.tmp rfl rfl) (.cint rfl)) ?_
              refine RK.c (S.pickF .none rfl (.tmp rfl rfl) (.tmp rfl rfl) rfl) ?_
              refine RK.nil (Ab.D.code ?_)
              refine OK.condD rfl rfl (fun c77 => ?_) (fun c77 => ?_)
              ·
                have hpf := parseE_N hbig (gath_no hg hkl (rowE1_O hgs (by omega)))
                refine OK.seq (OK.reg ?_)
                refine RK.c (S.build bu30 rfl .none rfl .nil rfl rfl) ?_
                refine RK.c (S.store ti30 .none (.tmp rfl rfl) (.tmp rfl rfl) rfl rfl rfl rfl rfl rfl) ?_
                refine RK.c (S.assign .none rfl (.cint rfl)) ?_
                refine RK.nil (Ab.D.code ?_)
                refine OK.ret (Ret.r2 (.cellN rfl rfl rfl rfl ti30 rfl (.k (.same rfl) (.k (.same rfl) (.k .nils .z)))) (.tmp rfl rfl (.c (.same rfl) rfl) rfl) ?_)
                rw [hpf]
                all_goals rfl
              ·
                have hev : ns.length % 2 = 0 := by omega
                have hrow := rowE1_S hgs hev
                refine OK.skip ?_
                refine Ab.D.code (OK.seq (OK.reg ?_))
                refine RK.c (S.alloc (k := 17) ze114 rfl .none rfl) ?_
                refine RK.nil (Ab.D.code ?_)
                refine OK.seq ?_
                refine OK.seq ?_
                refine OK.boxOwn 17 0 881 2 rfl rfl rfl rfl rfl ?_
                refine OK.reg ?_
                refine RK.c (S.move .none rfl (.tmp rfl rfl)) ?_
                refine RK.c (S.callN [871, 872] (ls_Chunk (l := ns)) Tryz.call67 .none rfl (.cons (.tmp rfl rfl) (.cons (.cint rfl) .nil)) rfl) ?_
                refine RK.nil (Ab.D.code ?_)
                refine OK.block ?_
                refine OK.rangeFuncB (ps := [81]) (encs := (fun x => [ints x])) (L := (chunk2 ns)) [2, 12, 880, 17, 881] [(2, .ptr 2 0), (12, .ptr 12 0), (58, .sl (((splitC 59 l).drop 1).map fun s => [.str s])), (59, .int .i64 ((splitC 59 l).drop 1).length), (60, .int .i64 k), (17, .ptr 17 0)] (fun q => [(1002, .box [.int .i64 0, .int .i64 0, .nils]), (1012, .box [.int .i64 (sgnV (cutC 32 (splitC 59 l)[0]).1), .int .i64 (sgnV (cutC 32 (splitC 59 l)[0]).2.1), .own 880 out.length]), (2880, .arr 1 (out.map fun l => [X.sl (l.map Range.cs)])), (1017, .box [.own 881 q.length]), (2881, .arr 2 (q.map Range.cs))]) ([] : List Range) chStep [(871, [ints ns]), (872, [.int .i64 2])] (seq_chunk hns hev) ⟨rfl, rfl, trivial⟩ rfl Tryz.call123 (.inl rfl) (.tmp rfl rfl) rfl ⟨rfl, rfl, rfl, rfl, rfl, rfl, rfl, rfl, (lk_arr (by first | rfl | (simp; done) | (simp; omega))), rfl, (lk_arr (by first | rfl | (simp; done) | (simp; omega))), trivial⟩ (fun _ => rfl) (fun _ => rfl) (fun _ => rfl) (fun _ => rfl) (fun _ => rfl) (by decide) rfl ?_ ?_ ?_
                · rintro i x q hx hq lr c0 w0 p1 p2 hR1 hR2
                  have hT := hR2.tab hT
                  have hxm := List.mem_of_getElem? hx
                  obtain ⟨a, b, rfl⟩ := two_of (chunk2_two hev _ hxm)
                  have hql := ch_cnt hq
                  refine OK.reg ?_
                  refine RK.c (S.assign .none rfl (.tmp rfl rfl)) ?_
                  refine RK.nil ?_
                  refine ⟨rfl, ?_⟩
                  refine OK.block ?_
                  refine OK.regionDraw follows (.c (S.bload1 ti114 .none rfl (.tmp rfl rfl) rfl rfl rfl rfl)
                    (.c (S.move .none rfl (.tmp rfl rfl))
                    (.c (S.indexM (n := 0) si25 .none rfl (.tmp rfl rfl) (.cint rfl) rfl (by simp) rfl)
                    (.c (S.load1 ti3 .none rfl (.tmp rfl rfl) rfl)
                    (.c (S.move .none rfl (.tmp rfl rfl))
                    (.c (S.indexM (n := 1) si25 .none rfl (.tmp rfl rfl) (.cint rfl) rfl (by simp) rfl)
                    (.c (S.load1 ti3 .none rfl (.tmp rfl rfl) rfl)
                    (.c (S.build bu113 rfl .none rfl (.cons (.tmp rfl rfl) (.cons (.tmp rfl rfl) .nil)) rfl rfl)
                    (.c (S.mkSlice (k := 90) (rows := [[_, _]]) ai114 .none rfl (.cons (.tmp rfl rfl) .nil) rfl rfl rfl rfl rfl rfl rfl)
                    (.c (S.append ai114 .none rfl (.tmp rfl rfl) rfl (by simp) (.tmp rfl rfl) rfl (by first | rfl | (simp; done) | (simp; omega)) (by omega) (by simp only [maxLen]; omega))
                    (.c (S.store ti114 .none (.tmp rfl rfl) (.tmp rfl rfl) rfl rfl rfl rfl rfl rfl)
                    .nil))))))))))) (by kernel_rfl) ?_
                  refine Ab.D.blk ?_
                  rw [ch_on]
                  exact ⟨rfl, rfl, rfl, rfl, lkBO2 (by simp), lk_arr (by simp [Range.cs]), trivial⟩
                · rintro q hq
                  have hqq := ch_done hq
                  have hql : q.length ≤ ns.length := by rw [hqq, List.length_map]; exact chunk2_len ns
                  refine Ab.D.blk ?_
                  refine Ab.D.code ?_
                  refine OK.freezeBox 17 0 rfl rfl rfl rfl (by simp) rfl ?_
                  refine OK.reg ?_
                  refine RK.c (S.bfield fi30_2 .none rfl (.tmp rfl rfl)) ?_
                  refine RK.c (S.bload1 ti28 .none rfl (.tmp rfl rfl) rfl rfl rfl rfl) ?_
                  refine RK.c (S.bload1 ti114 .none rfl (.tmp rfl rfl) rfl rfl rfl rfl) ?_
                  refine RK.c (S.mkSlice (k := 95) (rows := [[_]]) ai28 .none rfl (.cons (.tmp rfl rfl) .nil) rfl rfl rfl rfl rfl rfl rfl) ?_
                  refine RK.c (S.append ai28 .none rfl (.tmp rfl rfl) rfl (by simp) (.tmp rfl rfl) rfl (by first | rfl | (simp; done) | (simp; omega)) (by omega) (by simp only [maxLen]; omega)) ?_
                  refine RK.c (S.bfield fi30_2 .none rfl (.tmp rfl rfl)) ?_
                  refine RK.c (S.store ti28 .none (.tmp rfl rfl) (.tmp rfl rfl) rfl rfl rfl rfl rfl rfl) ?_
                  refine RK.nil ?_
                  refine Ab.D.blk ?_
                  refine Ab.D.code (OK.reg ?_)
                  refine RK.c (S.add .none rfl (.tmp rfl rfl) (.cint rfl) (IntWalk.i64_in _ (by omega)) (IntWalk.i64_in _ (by omega))) ?_
                  refine RK.c (S.move .none rfl (.tmp rfl rfl)) ?_
                  refine RK.nil ?_
                  refine Ab.D.lp ⟨k + 1, out ++ [q], ⟨by omega, gath_on hg hkl (by rw [hrow, hqq]), by simp; omega⟩, (by omega), rfl, rfl, rfl, (lkB3 (by simp)), (lk_arr (by rw [List.map_append]; rfl)), rfl, rfl, rfl, trivial⟩
                · rintro q cd hq
                  exact (ch_stop hq).elim
          ·
            have hpf := parseE_S hbig hhd (gath_end hg (show k = ((splitC 59 l).drop 1).length by omega))
            refine OK.exit rfl ?_
            refine Ab.D.code (OK.seq (OK.reg ?_))
            refine RK.c (S.bloadN ti30 .none rfl (.tmp rfl rfl) rfl rfl rfl rfl) ?_
            refine RK.c (S.store ti30 .none (.tmp rfl rfl) (.tmp rfl rfl) rfl rfl rfl rfl rfl rfl) ?_
            refine RK.c (S.assign .none rfl (.cint rfl)) ?_
            refine RK.nil (Ab.D.code ?_)
            refine OK.ret (Ret.r2 (.cellN rfl rfl rfl rfl ti30 rfl (.k (.same rfl) (.k (.same rfl) (.k (.own rfl rfl (by first | rfl | (simp; done) | (simp; omega))) .z)))) (.tmp rfl rfl (.c (.same rfl) rfl) rfl) ?_)
            rw [hpf]
            all_goals rfl
end Go.Proofs.YtpmglnphhhlbdaaGreatDoor
