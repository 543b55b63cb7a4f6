import Derived.Test.YtpfepjgnojfppaaGreatDoorGs
import Derived.Test.YtpfepjgnojfppaaGreatDoorLd
import Derived.Test.YtpfepjgnojfppaaGreatDoorTz
namespace Go.Proofs.YtpfepjgnojfppaaGreatDoor
open Go.Ab
theorem cut_le {c : UInt8} {l : List UInt8} : (cutC c l).1.length ≤ l.length ∧ (cutC c l).2.1.length ≤ l.length := by
  by_cases h : 0 ≤ Lib.indexByte l c
  · rw [cut_T h]
    simp only [List.length_take, List.length_drop]
    omega
  · rw [cut_F h]
    simp
theorem split_cnt {c : UInt8} {l : List UInt8} : (splitC c l).length ≤ l.length + 1 := by
  rw [split_len]
  have : Lib.countByte l c ≤ l.length := List.count_le_length
  omega
theorem jb_len {L : List (List UInt8)} {i : Nat} {q : List Job × Int} (h : iterG (Ab.stepG jbStep) ((([], 0) : List Job × Int), none) (L.take i) = ((q, none), true)) : q.1.length ≤ L.length := by
  have := gath_len (jb_done h).1
  rw [List.length_take] at this
  omega
set_option maxHeartbeats 4000000 in
theorem shp_ParseJobs {l : List UInt8} (hl : l.length ≤ 100000) : CtT Tryz.prog 60 [.str l] (.tup [.sl ((parseJ l).1.map Job.cs), .int .i64 (parseJ l).2]) := by
  refine CtT.intro (rs := [.cell 2 22, .cell 3 31]) Tryz.func60 rfl Tryz.ntmps60 Tryz.results60 rfl rfl rfl fun w h hT => ?_
  refine OK.seq (OK.reg ?_)
  refine RK.c (S.alloc (k := 2) ze22 rfl .none rfl) ?_
  refine RK.c (S.alloc (k := 3) ze31 rfl .none rfl) ?_
  refine RK.nil (Ab.D.code (OK.seq (OK.seq (OK.reg ?_))))
  refine RK.c (S.move .none rfl (.tmp rfl rfl)) ?_
  refine RK.c (S.slen Tryz.underlying9 .none rfl (.tmp rfl rfl)) ?_
  refine RK.c (S.gtr .none rfl (.tmp rfl rfl) (.cint rfl)) ?_
  refine RK.nil (Ab.D.code ?_)
  refine OK.condD rfl rfl (fun c19 => ?_) (fun c19 => ?_)
  ·
    refine OK.seq (OK.reg ?_)
    refine RK.c (S.store ti22 .none (.tmp rfl rfl) .cnil rfl rfl rfl rfl rfl rfl) ?_
    refine RK.c (S.store ti31 .none (.tmp rfl rfl) (.cint rfl) rfl rfl rfl rfl rfl rfl) ?_
    refine RK.nil (Ab.D.code ?_)
    refine OK.ret (Ret.r2 (.cell1 rfl rfl rfl rfl ti22 (.same rfl) rfl) (.cell1 rfl rfl rfl rfl ti31 (.same rfl) rfl) ?_)
    rw [parseJ_8 (by omega)]
    all_goals rfl
  ·
    refine OK.skip ?_
    refine Ab.D.code (OK.seq (OK.reg ?_))
    refine RK.c (S.alloc (k := 4) ze22 rfl .none rfl) ?_
    refine RK.nil (Ab.D.code (OK.seq (OK.seq (OK.reg ?_))))
    refine RK.c (S.move .none rfl (.tmp rfl rfl)) ?_
    refine RK.c (S.callN [871, 872, 873] (str_SplitSeq (l := l) (c := 59)) Tryz.call114 .none rfl (.cons (.tmp rfl rfl) (.cons (.cstr (l := [59]) rfl (by decide)) .nil)) rfl) ?_
    refine RK.nil (Ab.D.code ?_)
    refine OK.block ?_
    refine OK.boxNil 2 0 rfl rfl rfl rfl ?_
    refine OK.boxOwn 4 0 870 4 rfl rfl rfl rfl rfl ?_
    refine OK.rangeFuncB (ps := [22]) (encs := (fun s => [.str s])) (L := (splitC 59 l)) [2, 3, 4, 870] [(2, .ptr 2 0), (3, .ptr 3 0), (4, .ptr 4 0)] (fun q => [(1002, .box [.sl []]), (1003, .box [.int .i64 q.2]), (1004, .box [.own 870 q.1.length]), (2870, .arr 4 (q.1.map Job.cs))]) (([], 0) : List Job × Int) jbStep [(871, [.str [59]]), (872, [.str l]), (873, [.int .i64 0])] (seq_split (c := 59) hl) ⟨rfl, rfl, rfl, trivial⟩ rfl Tryz.call182 (.inl rfl) (.tmp rfl rfl) rfl ⟨rfl, rfl, rfl, rfl, rfl, rfl, (lk_arr (by first | rfl | (simp; done) | (simp; omega))), trivial⟩ (fun _ => rfl) (fun _ => rfl) (fun _ => rfl) (fun _ => rfl) (fun _ => rfl) (by decide) rfl ?_ ?_ ?_
    · rintro i x q hx hq lr c0 w0 p1 p2 hR1 hR2
      have hT := hR2.tab hT
      have hxm := List.mem_of_getElem? hx
      have hxl := split_sub x hxm
      have hcl := cut_le (c := 32) (l := x)
      have hql := jb_len hq
      have hcn := split_cnt (c := 59) (l := l)
      obtain ⟨W, hWd⟩ : ∃ W, splitC 32 (cutC 32 x).2.1 = W := ⟨_, rfl⟩
      have hSp : Ct Tryz.prog 116 [.str (cutC 32 x).2.1, .str [32]] (.sl (W.map fun s => [.str s])) := by
        rw [← hWd]
        exact str_Split (by omega)
      have hWl : ∀ w ∈ W, w.length ≤ x.length := fun w hw => Nat.le_trans (split_sub w (by rw [hWd]; exact hw)) hcl.2
      refine OK.reg ?_
      refine RK.c (S.assign .none rfl (.tmp rfl rfl)) ?_
      refine RK.nil ?_
      refine ⟨rfl, ?_⟩
      refine OK.block ?_
      refine OK.seq (OK.reg ?_)
      refine RK.c (S.move .none rfl (.tmp rfl rfl)) ?_
      refine RK.c (S.call (str_Cut (l := x) (c := 32) (by omega)) Tryz.call115 .none rfl (.cons (.tmp rfl rfl) (.cons (.cstr (l := [32]) rfl (by decide)) .nil)) rfl) ?_
      refine RK.c (S.move .none rfl (.tmp rfl rfl)) ?_
      refine RK.c (S.extract .none rfl (.tmp rfl rfl) rfl rfl) ?_
      refine RK.c (S.extract .none rfl (.tmp rfl rfl) rfl rfl) ?_
      refine RK.c (S.extract .none rfl (.tmp rfl rfl) rfl rfl) ?_
      refine RK.c (S.assign .none rfl (.tmp rfl rfl)) ?_
      refine RK.c (S.assign .none rfl (.tmp rfl rfl)) ?_
      refine RK.c (S.assign .none rfl (.tmp rfl rfl)) ?_
      refine RK.nil (Ab.D.code (OK.seq (OK.reg ?_)))
      refine RK.c (S.move .none rfl (.tmp rfl rfl)) ?_
      refine RK.c (S.build bu114 rfl .none rfl (.cons (.tmp rfl rfl) .nil) rfl rfl) ?_
      refine RK.c (S.alloc (k := 9) ze114 rfl .none rfl) ?_
      refine RK.c (S.store ti114 .none (.tmp rfl rfl) (.tmp rfl rfl) rfl rfl rfl rfl rfl rfl) ?_
      refine RK.nil (Ab.D.code (OK.seq (OK.reg ?_)))
      refine RK.c (S.bfield fi114_1 .none rfl (.tmp rfl rfl)) ?_
      refine RK.c (S.bfield fi114_2 .none rfl (.tmp rfl rfl)) ?_
      refine RK.c (S.bfield fi114_3 .none rfl (.tmp rfl rfl)) ?_
      refine RK.c (S.build bu175 rfl .none rfl (.cons (.tmp rfl rfl) (.cons (.tmp rfl rfl) (.cons (.tmp rfl rfl) .nil))) rfl rfl) ?_
      refine RK.c (S.alloc (k := 10) ze175 rfl .none rfl) ?_
      refine RK.c (S.store ti175 .none (.tmp rfl rfl) (.tmp rfl rfl) rfl rfl rfl rfl rfl rfl) ?_
      refine RK.nil (Ab.D.code (OK.seq (OK.reg ?_)))
      refine RK.c (S.move .none rfl (.tmp rfl rfl)) ?_
      refine RK.c (S.call (hSp) Tryz.call116 .none rfl (.cons (.tmp rfl rfl) (.cons (.cstr (l := [32]) rfl (by decide)) .nil)) rfl) ?_
      refine RK.c (S.assign .none rfl (.tmp rfl rfl)) ?_
      refine RK.nil (Ab.D.code (OK.seq (OK.seq (OK.reg ?_))))
      refine RK.c (S.move .none rfl (.tmp rfl rfl)) ?_
      refine RK.c (S.lenM si64 .none rfl (.tmp rfl rfl)) ?_
      refine RK.c (S.neq .none rfl (.tmp rfl rfl) (.cint rfl)) ?_
      refine RK.nil (Ab.D.code ?_)
      refine OK.condD rfl rfl (fun c39 => ?_) (fun c39 => ?_)
      ·
        have hj0 := cut_no (p := x) (by rw [hWd]; omega)
        refine OK.seq (OK.reg ?_)
        refine RK.c (S.store ti22 .none (.tmp rfl rfl) .cnil rfl rfl rfl rfl rfl rfl) ?_
        refine RK.c (S.store ti31 .none (.tmp rfl rfl) (.cint rfl) rfl rfl rfl rfl rfl rfl) ?_
        refine RK.nil (Ab.D.code ?_)
        refine OK.ret ?_
        rw [jb_F hj0]
        exact ⟨rfl, rfl, rfl, rfl, rfl, trivial⟩
      ·
        have h3 : W.length = 3 := by omega
        refine OK.skip ?_
        refine Ab.D.code (OK.seq (OK.seq (OK.reg ?_)))
        refine RK.c (S.move .none rfl (.tmp rfl rfl)) ?_
        refine RK.c (S.lenM si64 .none rfl (.tmp rfl rfl)) ?_
        refine RK.c (S.move .none rfl (.cint rfl)) ?_
        refine RK.nil (Ab.D.code ?_)
        refine OK.block ?_
        refine OK.loop4 [2, 3, 4, 870, 9, 10] (fun (k : Nat) (a1 : Int) (a2 : Int) (a3 : Int) => [(2, .ptr 2 0), (3, .ptr 3 0), (4, .ptr 4 0), (1002, .box [.sl []]), (1003, .box [.int .i64 q.2]), (1004, .box [.own 870 q.1.length]), (2870, .arr 4 (q.1.map Job.cs)), (9, .ptr 9 0), (1009, .box [.str (cutC 32 x).1, .int .i64 a1, .int .i64 a2, .int .i64 a3]), (10, .ptr 10 0), (1010, .box [.ptr 9 1, .ptr 9 2, .ptr 9 3]), (40, .sl (W.map fun s => [.str s])), (41, .int .i64 W.length), (42, .int .i64 k)]) (fun k a1 a2 a3 => k ≤ 3 ∧ (∀ (m : Nat) (hm : m < W.length), m < k → numOk W[m] 7 = true) ∧ (0 < k → a1 = atoiV W[0]) ∧ (1 < k → a2 = atoiV W[1]) ∧ (2 < k → a3 = atoiV W[2])) (fun k a1 a2 a3 => 3 - k) (0) (0) (0) (0) ⟨Nat.zero_le _, fun _ _ h => absurd h (Nat.not_lt_zero _), fun h => absurd h (by decide), fun h => absurd h (by decide), fun h => absurd h (by decide)⟩ ⟨rfl, rfl, rfl, rfl, rfl, rfl, (lk_arr (by first | rfl | (simp; done) | (simp; omega))), rfl, rfl, rfl, rfl, rfl, rfl, rfl, trivial⟩ (fun _ _ _ _ => rfl) ?_
        rintro k a1 a2 a3 ⟨hk, hNu, hA1, hA2, hA3⟩
        have hk4 : k = 0 ∨ k = 1 ∨ k = 2 ∨ k = 3 := by omega
        rcases hk4 with hk0 | hk0 | hk0 | hk0
        ·
          refine OK.seq (OK.reg ?_)
          refine RK.c (S.lss .none rfl (.tmp rfl rfl) (.tmp rfl rfl)) ?_
          refine RK.nil (Ab.D.code ?_)
          refine OK.seq ?_
          refine OK.condD rfl rfl (fun c43 => ?_) (fun c43 => ?_)
          ·
            have hkW : k < W.length := by omega
            have hwk := hWl _ (List.getElem_mem hkW)
            refine OK.skip ?_
            refine Ab.D.code ?_
            refine OK.seq ?_
            refine OK.block ?_
            refine OK.seq (OK.reg ?_)
            refine RK.c (S.move .none rfl (.tmp rfl rfl)) ?_
            refine RK.c (S.indexM (n := k) si64 .none rfl (.tmp rfl rfl) (.tmp rfl rfl) rfl (by omega) rfl) ?_
            refine RK.c (S.load1 ti9 .none rfl (.tmp rfl rfl) rfl) ?_
            refine RK.c (S.assign .none rfl (.tmp rfl rfl)) ?_
            refine RK.c (S.assign .none rfl (.tmp rfl rfl)) ?_
            refine RK.nil (Ab.D.code (OK.seq (OK.reg ?_)))
            refine RK.c (S.move .none rfl (.tmp rfl rfl)) ?_
            refine RK.c (S.callT (shp_number (l := W[k]) (d := 7) (by omega)) hT Tryz.call117 .none rfl (.cons (.tmp rfl rfl) (.cons (.cint rfl) .nil)) rfl) ?_
            refine RK.c (S.move .none rfl (.tmp rfl rfl)) ?_
            refine RK.c (S.extract .none rfl (.tmp rfl rfl) rfl rfl) ?_
            refine RK.c (S.extract .none rfl (.tmp rfl rfl) rfl rfl) ?_
            refine RK.c (S.assign .none rfl (.tmp rfl rfl)) ?_
            refine RK.c (S.assign .none rfl (.tmp rfl rfl)) ?_
            refine RK.nil (Ab.D.code (OK.seq (OK.seq (OK.reg ?_))))
            refine RK.c (S.move .none rfl (.tmp rfl rfl)) ?_
            refine RK.c (S.not .none rfl (.tmp rfl rfl)) ?_
            refine RK.nil (Ab.D.code ?_)
            refine OK.cond rfl rfl (fun c53 => ?_) (fun c53 => ?_)
            ·
              have hj0 := cut_bad hWd h3 hkW (by simpa using c53)
              refine OK.seq (OK.reg ?_)
              refine RK.c (S.store ti22 .none (.tmp rfl rfl) .cnil rfl rfl rfl rfl rfl rfl) ?_
              refine RK.c (S.store ti31 .none (.tmp rfl rfl) (.cint rfl) rfl rfl rfl rfl rfl rfl) ?_
              refine RK.nil (Ab.D.code ?_)
              refine OK.ret ?_
              rw [jb_F hj0]
              exact ⟨rfl, rfl, rfl, rfl, rfl, trivial⟩
            ·
              have hnk : numOk W[k] 7 = true := by simpa using c53
              refine OK.skip ?_
              refine Ab.D.code (OK.reg ?_)
              refine RK.c (S.move .none rfl (.tmp rfl rfl)) ?_
              refine RK.c (S.bindex (i := 0) Tryz.underlying175 Tryz.sizeOf174 .none rfl (.tmp rfl rfl) (.tmp rfl rfl) (by omega) (by decide)) ?_
              refine RK.c (S.bload1 ti174 .none rfl (.tmp rfl rfl) rfl rfl rfl rfl) ?_
              refine RK.c (S.move .none rfl (.tmp rfl rfl)) ?_
              refine RK.c (S.nilCheckB .none rfl (.tmp rfl rfl)) ?_
              refine RK.c (S.store ti3 .none (.tmp rfl rfl) (.tmp rfl rfl) rfl rfl rfl rfl rfl rfl) ?_
              refine RK.nil ?_
              refine Ab.D.blk ?_
              refine Ab.D.code (OK.reg ?_)
              refine RK.c (S.add .none rfl (.tmp rfl rfl) (.cint rfl) (IntWalk.i64_in _ (by omega)) (IntWalk.i64_in _ (by omega))) ?_
              refine RK.c (S.move .none rfl (.tmp rfl rfl)) ?_
              refine RK.nil ?_
              refine Ab.D.lp ⟨k + 1, (atoiV W[k]), a2, a3, ⟨by omega, fun m hm hmk => by rcases Nat.lt_succ_iff_lt_or_eq.1 hmk with h | rfl; exact hNu m hm h; exact hnk, fun _ => by first | (subst hk0; rfl) | omega | (refine hA1 ?_; omega), fun _ => by first | (subst hk0; rfl) | omega | (refine hA2 ?_; omega), fun _ => by first | (subst hk0; rfl) | omega | (refine hA3 ?_; omega)⟩, (by omega), rfl, rfl, rfl, rfl, rfl, rfl, (lk_arr (by first | rfl | (simp; done) | (simp; omega))), rfl, rfl, rfl, rfl, rfl, rfl, rfl, trivial⟩
          ·
            exfalso
            omega
        ·
          refine OK.seq (OK.reg ?_)
          refine RK.c (S.lss .none rfl (.tmp rfl rfl) (.tmp rfl rfl)) ?_
          refine RK.nil (Ab.D.code ?_)
          refine OK.seq ?_
          refine OK.condD rfl rfl (fun c43 => ?_) (fun c43 => ?_)
          ·
            have hkW : k < W.length := by omega
            have hwk := hWl _ (List.getElem_mem hkW)
            refine OK.skip ?_
            refine Ab.D.code ?_
            refine OK.seq ?_
            refine OK.block ?_
            refine OK.seq (OK.reg ?_)
            refine RK.c (S.move .none rfl (.tmp rfl rfl)) ?_
            refine RK.c (S.indexM (n := k) si64 .none rfl (.tmp rfl rfl) (.tmp rfl rfl) rfl (by omega) rfl) ?_
            refine RK.c (S.load1 ti9 .none rfl (.tmp rfl rfl) rfl) ?_
            refine RK.c (S.assign .none rfl (.tmp rfl rfl)) ?_
            refine RK.c (S.assign .none rfl (.tmp rfl rfl)) ?_
            refine RK.nil (Ab.D.code (OK.seq (OK.reg ?_)))
            refine RK.c (S.move .none rfl (.tmp rfl rfl)) ?_
            refine RK.c (S.callT (shp_number (l := W[k]) (d := 7) (by omega)) hT Tryz.call117 .none rfl (.cons (.tmp rfl rfl) (.cons (.cint rfl) .nil)) rfl) ?_
            refine RK.c (S.move .none rfl (.tmp rfl rfl)) ?_
            refine RK.c (S.extract .none rfl (.tmp rfl rfl) rfl rfl) ?_
            refine RK.c (S.extract .none rfl (.tmp rfl rfl) rfl rfl) ?_
            refine RK.c (S.assign .none rfl (.tmp rfl rfl)) ?_
            refine RK.c (S.assign .none rfl (.tmp rfl rfl)) ?_
            refine RK.nil (Ab.D.code (OK.seq (OK.seq (OK.reg ?_))))
            refine RK.c (S.move .none rfl (.tmp rfl rfl)) ?_
            refine RK.c (S.not .none rfl (.tmp rfl rfl)) ?_
            refine RK.nil (Ab.D.code ?_)
            refine OK.cond rfl rfl (fun c53 => ?_) (fun c53 => ?_)
            ·
              have hj0 := cut_bad hWd h3 hkW (by simpa using c53)
              refine OK.seq (OK.reg ?_)
              refine RK.c (S.store ti22 .none (.tmp rfl rfl) .cnil rfl rfl rfl rfl rfl rfl) ?_
              refine RK.c (S.store ti31 .none (.tmp rfl rfl) (.cint rfl) rfl rfl rfl rfl rfl rfl) ?_
              refine RK.nil (Ab.D.code ?_)
              refine OK.ret ?_
              rw [jb_F hj0]
              exact ⟨rfl, rfl, rfl, rfl, rfl, trivial⟩
            ·
              have hnk : numOk W[k] 7 = true := by simpa using c53
              refine OK.skip ?_
              refine Ab.D.code (OK.reg ?_)
              refine RK.c (S.move .none rfl (.tmp rfl rfl)) ?_
              refine RK.c (S.bindex (i := 1) Tryz.underlying175 Tryz.sizeOf174 .none rfl (.tmp rfl rfl) (.tmp rfl rfl) (by omega) (by decide)) ?_
              refine RK.c (S.bload1 ti174 .none rfl (.tmp rfl rfl) rfl rfl rfl rfl) ?_
              refine RK.c (S.move .none rfl (.tmp rfl rfl)) ?_
              refine RK.c (S.nilCheckB .none rfl (.tmp rfl rfl)) ?_
              refine RK.c (S.store ti3 .none (.tmp rfl rfl) (.tmp rfl rfl) rfl rfl rfl rfl rfl rfl) ?_
              refine RK.nil ?_
              refine Ab.D.blk ?_
              refine Ab.D.code (OK.reg ?_)
              refine RK.c (S.add .none rfl (.tmp rfl rfl) (.cint rfl) (IntWalk.i64_in _ (by omega)) (IntWalk.i64_in _ (by omega))) ?_
              refine RK.c (S.move .none rfl (.tmp rfl rfl)) ?_
              refine RK.nil ?_
              refine Ab.D.lp ⟨k + 1, a1, (atoiV W[k]), a3, ⟨by omega, fun m hm hmk => by rcases Nat.lt_succ_iff_lt_or_eq.1 hmk with h | rfl; exact hNu m hm h; exact hnk, fun _ => by first | (subst hk0; rfl) | omega | (refine hA1 ?_; omega), fun _ => by first | (subst hk0; rfl) | omega | (refine hA2 ?_; omega), fun _ => by first | (subst hk0; rfl) | omega | (refine hA3 ?_; omega)⟩, (by omega), rfl, rfl, rfl, rfl, rfl, rfl, (lk_arr (by first | rfl | (simp; done) | (simp; omega))), rfl, rfl, rfl, rfl, rfl, rfl, rfl, trivial⟩
          ·
            exfalso
            omega
        ·
          refine OK.seq (OK.reg ?_)
          refine RK.c (S.lss .none rfl (.tmp rfl rfl) (.tmp rfl rfl)) ?_
          refine RK.nil (Ab.D.code ?_)
          refine OK.seq ?_
          refine OK.condD rfl rfl (fun c43 => ?_) (fun c43 => ?_)
          ·
            have hkW : k < W.length := by omega
            have hwk := hWl _ (List.getElem_mem hkW)
            refine OK.skip ?_
            refine Ab.D.code ?_
            refine OK.seq ?_
            refine OK.block ?_
            refine OK.seq (OK.reg ?_)
            refine RK.c (S.move .none rfl (.tmp rfl rfl)) ?_
            refine RK.c (S.indexM (n := k) si64 .none rfl (.tmp rfl rfl) (.tmp rfl rfl) rfl (by omega) rfl) ?_
            refine RK.c (S.load1 ti9 .none rfl (.tmp rfl rfl) rfl) ?_
            refine RK.c (S.assign .none rfl (.tmp rfl rfl)) ?_
            refine RK.c (S.assign .none rfl (.tmp rfl rfl)) ?_
            refine RK.nil (Ab.D.code (OK.seq (OK.reg ?_)))
            refine RK.c (S.move .none rfl (.tmp rfl rfl)) ?_
            refine RK.c (S.callT (shp_number (l := W[k]) (d := 7) (by omega)) hT Tryz.call117 .none rfl (.cons (.tmp rfl rfl) (.cons (.cint rfl) .nil)) rfl) ?_
            refine RK.c (S.move .none rfl (.tmp rfl rfl)) ?_
            refine RK.c (S.extract .none rfl (.tmp rfl rfl) rfl rfl) ?_
            refine RK.c (S.extract .none rfl (.tmp rfl rfl) rfl rfl) ?_
            refine RK.c (S.assign .none rfl (.tmp rfl rfl)) ?_
            refine RK.c (S.assign .none rfl (.tmp rfl rfl)) ?_
            refine RK.nil (Ab.D.code (OK.seq (OK.seq (OK.reg ?_))))
            refine RK.c (S.move .none rfl (.tmp rfl rfl)) ?_
            refine RK.c (S.not .none rfl (.tmp rfl rfl)) ?_
            refine RK.nil (Ab.D.code ?_)
            refine OK.cond rfl rfl (fun c53 => ?_) (fun c53 => ?_)
            ·
              have hj0 := cut_bad hWd h3 hkW (by simpa using c53)
              refine OK.seq (OK.reg ?_)
              refine RK.c (S.store ti22 .none (.tmp rfl rfl) .cnil rfl rfl rfl rfl rfl rfl) ?_
              refine RK.c (S.store ti31 .none (.tmp rfl rfl) (.cint rfl) rfl rfl rfl rfl rfl rfl) ?_
              refine RK.nil (Ab.D.code ?_)
              refine OK.ret ?_
              rw [jb_F hj0]
              exact ⟨rfl, rfl, rfl, rfl, rfl, trivial⟩
            ·
              have hnk : numOk W[k] 7 = true := by simpa using c53
              refine OK.skip ?_
              refine Ab.D.code (OK.reg ?_)
              refine RK.c (S.move .none rfl (.tmp rfl rfl)) ?_
              refine RK.c (S.bindex (i := 2) Tryz.underlying175 Tryz.sizeOf174 .none rfl (.tmp rfl rfl) (.tmp rfl rfl) (by omega) (by decide)) ?_
              refine RK.c (S.bload1 ti174 .none rfl (.tmp rfl rfl) rfl rfl rfl rfl) ?_
              refine RK.c (S.move .none rfl (.tmp rfl rfl)) ?_
              refine RK.c (S.nilCheckB .none rfl (.tmp rfl rfl)) ?_
              refine RK.c (S.store ti3 .none (.tmp rfl rfl) (.tmp rfl rfl) rfl rfl rfl rfl rfl rfl) ?_
              refine RK.nil ?_
              refine Ab.D.blk ?_
              refine Ab.D.code (OK.reg ?_)
              refine RK.c (S.add .none rfl (.tmp rfl rfl) (.cint rfl) (IntWalk.i64_in _ (by omega)) (IntWalk.i64_in _ (by omega))) ?_
              refine RK.c (S.move .none rfl (.tmp rfl rfl)) ?_
              refine RK.nil ?_
              refine Ab.D.lp ⟨k + 1, a1, a2, (atoiV W[k]), ⟨by omega, fun m hm hmk => by rcases Nat.lt_succ_iff_lt_or_eq.1 hmk with h | rfl; exact hNu m hm h; exact hnk, fun _ => by first | (subst hk0; rfl) | omega | (refine hA1 ?_; omega), fun _ => by first | (subst hk0; rfl) | omega | (refine hA2 ?_; omega), fun _ => by first | (subst hk0; rfl) | omega | (refine hA3 ?_; omega)⟩, (by omega), rfl, rfl, rfl, rfl, rfl, rfl, (lk_arr (by first | rfl | (simp; done) | (simp; omega))), rfl, rfl, rfl, rfl, rfl, rfl, rfl, trivial⟩
          ·
            exfalso
            omega
        ·
          refine OK.seq (OK.reg ?_)
          refine RK.c (S.lss .none rfl (.tmp rfl rfl) (.tmp rfl rfl)) ?_
          refine RK.nil (Ab.D.code ?_)
          refine OK.seq ?_
          refine OK.condD rfl rfl (fun c43 => ?_) (fun c43 => ?_)
          ·
            have hkW : k < W.length := by omega
            have hwk := hWl _ (List.getElem_mem hkW)
            exfalso
            omega
          ·
            have hjob := cut_job hWd h3 (fun m hm => hNu m hm (by omega))
            rw [← hA1 (by omega), ← hA2 (by omega), ← hA3 (by omega)] at hjob
            refine OK.exit rfl ?_
            refine Ab.D.code (OK.reg ?_)
            refine RK.c (S.bload1 ti22 .none rfl (.tmp rfl rfl) rfl rfl rfl rfl) ?_
            refine RK.c (S.bloadN ti114 .none rfl (.tmp rfl rfl) rfl rfl rfl rfl) ?_
            refine RK.c (S.mkSlice (k := 62) (rows := [[_, _, _, _]]) ai22 .none rfl (.cons (.tmp rfl rfl) .nil) rfl rfl rfl rfl rfl rfl rfl) ?_
            refine RK.c (S.append ai22 .none rfl (.tmp rfl rfl) rfl (by simp) (.tmp rfl rfl) rfl (by first | rfl | (simp; done) | (simp; omega)) (by omega) (by simp only [maxLen]; omega)) ?_
            refine RK.c (S.store ti22 .none (.tmp rfl rfl) (.tmp rfl rfl) rfl rfl rfl rfl rfl rfl) ?_
            refine RK.nil ?_
            refine Ab.D.blk ?_
            rw [jb_T hjob]
            exact ⟨rfl, rfl, rfl, lkBO (by simp), lk_arr (by simp [Job.cs]), trivial⟩
    · rintro q hq
      obtain ⟨hg, hq0⟩ := jb_done hq
      have hql := gath_len hg
      have hcn := split_cnt (c := 59) (l := l)
      refine Ab.D.blk ?_
      refine Ab.D.code (OK.seq (OK.seq (OK.reg ?_)))
      refine RK.c (S.bload1 ti22 .none rfl (.tmp rfl rfl) rfl rfl rfl rfl) ?_
      refine RK.c (S.callL (shp_jobsErr (l := q.1)) Tryz.call84 .none rfl (.cons (.tmp rfl rfl) .nil) (.cons (.p (.own rfl (by simp)) rfl) .nil) rfl) ?_
      refine RK.c (S.assign .none rfl (.tmp rfl rfl)) ?_
      refine RK.nil (Ab.D.code (OK.seq (OK.reg ?_)))
      refine RK.c (S.move .none rfl (.tmp rfl rfl)) ?_
      refine RK.c (S.neq .none rfl (.tmp rfl rfl) (.cint rfl)) ?_
      refine RK.nil (Ab.D.code ?_)
      refine OK.condD rfl rfl (fun c67 => ?_) (fun c67 => ?_)
      ·
        refine OK.seq (OK.reg ?_)
        refine RK.c (S.move .none rfl (.tmp rfl rfl)) ?_
        refine RK.c (S.store ti22 .none (.tmp rfl rfl) .cnil rfl rfl rfl rfl rfl rfl) ?_
        refine RK.c (S.store ti31 .none (.tmp rfl rfl) (.tmp rfl rfl) rfl rfl rfl rfl rfl rfl) ?_
        refine RK.nil (Ab.D.code ?_)
        refine OK.ret (Ret.r2 (.cell1 rfl rfl rfl rfl ti22 (.same rfl) rfl) (.cell1 rfl rfl rfl rfl ti31 (.same rfl) rfl) ?_)
        rw [parseJ_e (by omega) hg c67]
        all_goals rfl
      ·
        refine OK.skip ?_
        refine Ab.D.code (OK.seq (OK.reg ?_))
        refine RK.c (S.bload1 ti22 .none rfl (.tmp rfl rfl) rfl rfl rfl rfl) ?_
        refine RK.c (S.store ti22 .none (.tmp rfl rfl) (.tmp rfl rfl) rfl rfl rfl rfl rfl rfl) ?_
        refine RK.c (S.store ti31 .none (.tmp rfl rfl) (.cint rfl) rfl rfl rfl rfl rfl rfl) ?_
        refine RK.nil (Ab.D.code ?_)
        refine OK.ret (Ret.r2 (.cell1 rfl rfl rfl rfl ti22 (.own rfl rfl (by first | rfl | (simp; done) | (simp; omega))) rfl) (.cell1 rfl rfl rfl rfl ti31 (.same rfl) rfl) ?_)
        rw [parseJ_0 (by omega) hg c67]
        all_goals rfl
    · rintro q cd hq
      obtain ⟨hg, hq7, hcd⟩ := jb_stop hq
      subst hcd
      refine OK.ret (Ret.r2 (.cell1 rfl rfl rfl rfl ti22 (.same rfl) rfl) (.cell1 rfl rfl rfl rfl ti31 (.same rfl) rfl) ?_)
      rw [parseJ_7 (by omega) hg, hq7]
      all_goals rfl
end Go.Proofs.YtpfepjgnojfppaaGreatDoor
