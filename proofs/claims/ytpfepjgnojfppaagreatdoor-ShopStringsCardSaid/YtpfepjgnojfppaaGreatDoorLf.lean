import Derived.Test.YtpfepjgnojfppaaGreatDoorGs
import Derived.Test.YtpfepjgnojfppaaGreatDoorLe
import Derived.Test.YtpfepjgnojfppaaGreatDoorTz
namespace Go.Proofs.YtpfepjgnojfppaaGreatDoor
open Go.Ab
theorem ref9_nat {l : List UInt8} {d : Nat} (h1 : l.length ≤ 100000) (h2 : d ≤ 18) : Ct Tryz.prog 120 [.str l, .int .i64 (d : Int)] (.tup [.int .i64 (numB l d).1, .bool (natC l d)]) := by
  have h := ref9_natural (l := l) (d := d) h1 h2
  rw [numB_nat.1] at h
  exact h
theorem job1_N {p : List UInt8} (h : (splitC 32 p).length = 4) (h1 : natC (splitC 32 p)[1] 7 = true) (h2 : natC (splitC 32 p)[2] 7 = true) (h3 : natC (splitC 32 p)[3] 7 = true) : job1 p = some ⟨(splitC 32 p)[0], (numB (splitC 32 p)[1] 7).1, (numB (splitC 32 p)[2] 7).1, (numB (splitC 32 p)[3] 7).1⟩ := by
  rw [job1_eq (four h), if_pos (by unfold jobNum; rw [h1, h2, h3]; rfl), numB_nat.2 h1, numB_nat.2 h2, numB_nat.2 h3]
theorem basket1_no {p : List UInt8} (h : gath share1 (splitC 32 p) = none) : basket1 p = none := by unfold basket1; rw [h]; rfl
theorem basket1_on {p : List UInt8} {sh : List Share} (h : gath share1 (splitC 32 p) = some sh) : basket1 p = some ⟨sh⟩ := by unfold basket1; rw [h]; rfl
theorem lots_snoc (bs : List Basket) (b : Basket) : lotsOk (bs ++ [b]) = (lotsOk bs && b.shares.all fun s => nameOk s.lot) := by simp [lotsOk]
theorem same_lenG {α : Type} [DecidableEq α] {a b : List α} (h : a.length ≠ b.length) : false = decide (a = b) := (decide_eq_false fun e => h (by rw [e])).symm
theorem same_atG {α : Type} [DecidableEq α] {a b : List α} {i : Nat} (h1 : i < a.length) (h2 : i < b.length) (h : a[i] ≠ b[i]) : false = decide (a = b) := (decide_eq_false fun e => h (by subst e; rfl)).symm
theorem same_endG {α : Type} [DecidableEq α] {a b : List α} (hl : a.length = b.length) (h : ∀ (k : Nat) (h1 : k < a.length) (h2 : k < b.length), a[k] = b[k]) : true = decide (a = b) := (decide_eq_true (List.ext_getElem hl h)).symm
theorem job_pneq {x y : Job} : (!plEq [.s x.name, .i x.setup, .i x.ticks, .i x.due] [.s y.name, .i y.setup, .i y.ticks, .i y.due]) = decide (x ≠ y) := by
  cases x
  cases y
  simp [plEq, Pl.eq, Job.mk.injEq]
theorem gath_mem {α β : Type} {f : α → Option β} : ∀ {l : List α} {bs : List β}, gath f l = some bs → ∀ b ∈ bs, ∃ a ∈ l, f a = some b
  | [], bs, h, b, hb => by simp only [gath, Option.some.injEq] at h; subst h; cases hb
  | a :: l, bs, h, b, hb => by
    simp only [gath] at h
    split at h
    · cases h
    · rename_i b0 hf
      rw [Option.map_eq_some_iff] at h
      obtain ⟨r, h1, rfl⟩ := h
      rcases List.mem_cons.1 hb with rfl | hb
      · exact ⟨a, List.mem_cons_self, hf⟩
      · obtain ⟨x, hx, e⟩ := gath_mem h1 b hb
        exact ⟨x, List.mem_cons_of_mem _ hx, e⟩
theorem parseB_bd {l : List UInt8} (h : l.length ≤ 60010) : (parseB l).1.length ≤ 100000 ∧ ∀ b ∈ (parseB l).1, b.shares.length ≤ 100000 := by
  have z : (([], 0) : List Basket × Int).1.length ≤ 100000 ∧ ∀ b ∈ (([], 0) : List Basket × Int).1, b.shares.length ≤ 100000 := ⟨by simp, fun b hb => by cases hb⟩
  unfold parseB
  split
  · exact z
  · split
    · exact z
    · split
      · exact z
      · rename_i bs hg
        split
        · exact z
        · split
          · exact z
          · have h1 := gath_len hg
            have h2 := split_cnt (c := 59) (l := l)
            refine ⟨by simp only; omega, fun b hb => ?_⟩
            obtain ⟨p, hp, e⟩ := gath_mem hg b hb
            unfold basket1 at e
            rw [Option.map_eq_some_iff] at e
            obtain ⟨sh, h3, rfl⟩ := e
            have h4 := gath_len h3
            have h5 := split_cnt (c := 32) (l := p)
            have h6 := split_sub p hp
            simp only
            omega
set_option maxHeartbeats 2000000 in
theorem ref9_ParseJobs {l : List UInt8} (hl : l.length ≤ 100000) : Ct Tryz.prog 62 [.str l] (.tup [.sl ((parseJ l).1.map Job.cs), .int .i64 (parseJ l).2]) := by
 refine Ct.intro (rs := [.tmp 2, .tmp 3]) Tryz.func62 rfl Tryz.ntmps62 Tryz.results62 rfl rfl rfl fun w h => ?_
 refine OK.seq (OK.reg ?_)
 refine RK.c (S.assign .none rfl .cnil) ?_
 refine RK.c (S.assign .none rfl (.cint rfl)) ?_
 refine RK.nil (Ab.D.code (OK.seq (OK.seq (OK.reg ?_))))
 refine RK.c (S.move .none rfl (.tmp rfl rfl)) ?_
 refine RK.c (S.slen Tryz.underlying9 .none rfl (.tmp rfl rfl)) ?_
 refine RK.c (S.gtr .none rfl (.tmp rfl rfl) (.cint rfl)) ?_
 refine RK.nil (Ab.D.code ?_)
 refine OK.condD rfl rfl (fun c17 => ?_) (fun c17 => ?_)
 ·
  refine OK.seq (OK.reg ?_)
  refine RK.c (S.assign .none rfl .cnil) ?_
  refine RK.c (S.assign .none rfl (.cint rfl)) ?_
  refine RK.nil (Ab.D.code ?_)
  refine OK.ret (Ret.r2 (.tmp rfl rfl (.c (.same rfl) rfl) rfl) (.tmp rfl rfl (.c (.same rfl) rfl) rfl) ?_)
  rw [parseJ_8 (by omega)]
  all_goals rfl
 ·
  have hcn := split_cnt (c := 59) (l := l)
  refine OK.skip ?_
  refine Ab.D.code (OK.seq (OK.reg ?_))
  refine RK.c (S.nilOwn (k := 4) (sz := 4) .none rfl) ?_
  refine RK.nil (Ab.D.code (OK.seq (OK.reg ?_)))
  refine RK.c (S.move .none rfl (.tmp rfl rfl)) ?_
  refine RK.c (S.call (base_Cut (l := l) (c := 59) hl) Tryz.call119 .none rfl (.cons (.tmp rfl rfl) (.cons (.cint rfl) .nil)) rfl) ?_
  refine RK.c (S.assign .none rfl (.tmp rfl rfl)) ?_
  refine RK.nil (Ab.D.code (OK.seq (OK.seq (OK.reg ?_))))
  refine RK.c (S.assign .none rfl (.cint rfl)) ?_
  refine RK.nil (Ab.D.code ?_)
  refine OK.block ?_
  refine OK.loop2 [4] (fun (i : Nat) (out : List Job) => [(4, .own 4 out.length), (2004, .arr 4 (out.map Job.cs)), (5, .sl ((splitC 59 l).map fun s => [.str s])), (6, .int .i64 i)]) (fun i out => i ≤ (splitC 59 l).length ∧ gath job1 (splitC 59 l) = (gath job1 ((splitC 59 l).drop i)).map (out ++ ·) ∧ out.length ≤ i) (fun i out => (splitC 59 l).length - i) (0) ([]) ⟨Nat.zero_le _, by rw [List.drop_zero]; cases gath job1 (splitC 59 l) <;> simp, Nat.le_refl _⟩ ⟨(lk_own (by first | rfl | (simp; done) | (simp; omega))), (lk_arr (by first | rfl | (simp; done) | (simp; omega))), rfl, rfl, trivial⟩ (fun _ _ => rfl) ?_
  rintro i out ⟨hi, hg, hol⟩
  refine OK.seq (OK.seq (OK.reg ?_))
  refine RK.c (S.move .none rfl (.tmp rfl rfl)) ?_
  refine RK.c (S.move .none rfl (.tmp rfl rfl)) ?_
  refine RK.c (S.lenM si64 .none rfl (.tmp rfl rfl)) ?_
  refine RK.c (S.lss .none rfl (.tmp rfl rfl) (.tmp rfl rfl)) ?_
  refine RK.nil (Ab.D.code ?_)
  refine OK.condD rfl rfl (fun c23 => ?_) (fun c23 => ?_)
  ·
   have hiL : i < (splitC 59 l).length := by omega
   have hpl := split_sub _ (List.getElem_mem hiL)
   have hcx := split_cnt (c := 32) (l := (splitC 59 l)[i])
   refine OK.skip ?_
   refine Ab.D.code ?_
   refine OK.seq ?_
   refine OK.block ?_
   refine OK.seq (OK.reg ?_)
   refine RK.c (S.move .none rfl (.tmp rfl rfl)) ?_
   refine RK.c (S.move .none rfl (.tmp rfl rfl)) ?_
   refine RK.c (S.indexM (n := i) si64 .none rfl (.tmp rfl rfl) (.tmp rfl rfl) rfl (by omega) rfl) ?_
   refine RK.c (S.load1 ti9 .none rfl (.tmp rfl rfl) rfl) ?_
   refine RK.c (S.call (base_Cut (l := (splitC 59 l)[i]) (c := 32) (by omega)) Tryz.call119 .none rfl (.cons (.tmp rfl rfl) (.cons (.cint rfl) .nil)) rfl) ?_
   refine RK.c (S.assign .none rfl (.tmp rfl rfl)) ?_
   refine RK.nil (Ab.D.code (OK.seq (OK.seq (OK.reg ?_))))
   refine RK.c (S.move .none rfl (.tmp rfl rfl)) ?_
   refine RK.c (S.lenM si64 .none rfl (.tmp rfl rfl)) ?_
   refine RK.c (S.neq .none rfl (.tmp rfl rfl) (.cint rfl)) ?_
   refine RK.nil (Ab.D.code ?_)
   refine OK.condD rfl rfl (fun c33 => ?_) (fun c33 => ?_)
   ·
    have hj0 := job1_no (p := (splitC 59 l)[i]) (by omega)
    refine OK.seq (OK.reg ?_)
    refine RK.c (S.assign .none rfl .cnil) ?_
    refine RK.c (S.assign .none rfl (.cint rfl)) ?_
    refine RK.nil (Ab.D.code ?_)
    refine OK.ret (Ret.r2 (.tmp rfl rfl (.c (.same rfl) rfl) rfl) (.tmp rfl rfl (.c (.same rfl) rfl) rfl) ?_)
    rw [parseJ_7 (by omega) (gath_no hg hiL hj0)]
    all_goals rfl
   ·
    have h4 : (splitC 32 (splitC 59 l)[i]).length = 4 := by omega
    have w1 := split_sub _ (List.getElem_mem (l := (splitC 32 (splitC 59 l)[i])) (show 1 < _ by omega))
    have w2 := split_sub _ (List.getElem_mem (l := (splitC 32 (splitC 59 l)[i])) (show 2 < _ by omega))
    have w3 := split_sub _ (List.getElem_mem (l := (splitC 32 (splitC 59 l)[i])) (show 3 < _ by omega))
    refine OK.skip ?_
    refine Ab.D.code (OK.seq (OK.reg ?_))
    refine RK.c (S.move .none rfl (.tmp rfl rfl)) ?_
    refine RK.c (S.indexM (n := 1) si64 .none rfl (.tmp rfl rfl) (.cint rfl) rfl (by omega) rfl) ?_
    refine RK.c (S.load1 ti9 .none rfl (.tmp rfl rfl) rfl) ?_
    refine RK.c (S.call (ref9_nat (l := (splitC 32 (splitC 59 l)[i])[1]) (d := 7) (by omega) (by omega)) Tryz.call120 .none rfl (.cons (.tmp rfl rfl) (.cons (.cint rfl) .nil)) rfl) ?_
    refine RK.c (S.move .none rfl (.tmp rfl rfl)) ?_
    refine RK.c (S.extract .none rfl (.tmp rfl rfl) rfl rfl) ?_
    refine RK.c (S.extract .none rfl (.tmp rfl rfl) rfl rfl) ?_
    refine RK.c (S.assign .none rfl (.tmp rfl rfl)) ?_
    refine RK.c (S.assign .none rfl (.tmp rfl rfl)) ?_
    refine RK.nil (Ab.D.code (OK.seq (OK.reg ?_)))
    refine RK.c (S.move .none rfl (.tmp rfl rfl)) ?_
    refine RK.c (S.indexM (n := 2) si64 .none rfl (.tmp rfl rfl) (.cint rfl) rfl (by omega) rfl) ?_
    refine RK.c (S.load1 ti9 .none rfl (.tmp rfl rfl) rfl) ?_
    refine RK.c (S.call (ref9_nat (l := (splitC 32 (splitC 59 l)[i])[2]) (d := 7) (by omega) (by omega)) Tryz.call120 .none rfl (.cons (.tmp rfl rfl) (.cons (.cint rfl) .nil)) rfl) ?_
    refine RK.c (S.move .none rfl (.tmp rfl rfl)) ?_
    refine RK.c (S.extract .none rfl (.tmp rfl rfl) rfl rfl) ?_
    refine RK.c (S.extract .none rfl (.tmp rfl rfl) rfl rfl) ?_
    refine RK.c (S.assign .none rfl (.tmp rfl rfl)) ?_
    refine RK.c (S.assign .none rfl (.tmp rfl rfl)) ?_
    refine RK.nil (Ab.D.code (OK.seq (OK.reg ?_)))
    refine RK.c (S.move .none rfl (.tmp rfl rfl)) ?_
    refine RK.c (S.indexM (n := 3) si64 .none rfl (.tmp rfl rfl) (.cint rfl) rfl (by omega) rfl) ?_
    refine RK.c (S.load1 ti9 .none rfl (.tmp rfl rfl) rfl) ?_
    refine RK.c (S.call (ref9_nat (l := (splitC 32 (splitC 59 l)[i])[3]) (d := 7) (by omega) (by omega)) Tryz.call120 .none rfl (.cons (.tmp rfl rfl) (.cons (.cint rfl) .nil)) rfl) ?_
    refine RK.c (S.move .none rfl (.tmp rfl rfl)) ?_
    refine RK.c (S.extract .none rfl (.tmp rfl rfl) rfl rfl) ?_
    refine RK.c (S.extract .none rfl (.tmp rfl rfl) rfl rfl) ?_
    refine RK.c (S.assign .none rfl (.tmp rfl rfl)) ?_
    refine RK.c (S.assign .none rfl (.tmp rfl rfl)) ?_
    refine RK.nil (Ab.D.code (OK.seq (OK.seq (OK.reg ?_))))
    refine RK.c (S.move .none rfl (.tmp rfl rfl)) ?_
    refine RK.c (S.not .none rfl (.tmp rfl rfl)) ?_
    refine RK.c (S.move .none rfl (.tmp rfl rfl)) ?_
    refine RK.split (t := 57) rfl (fun g57 => ?_) (fun g57 => ?_)
    ·
     have hj0 := job1_F h4 (.inl (by simpa using g57))
     refine RK.c (S.skip rfl rfl rfl rfl rfl) ?_
     refine RK.c (S.skip rfl rfl rfl rfl rfl) ?_
     refine RK.c (S.pickT .none rfl (.tmp rfl rfl) .cbool rfl) ?_
     refine RK.c (S.move .none rfl (.tmp rfl rfl)) ?_
     refine RK.c (S.skip rfl rfl rfl rfl rfl) ?_
     refine RK.c (S.skip rfl rfl rfl rfl rfl) ?_
     refine RK.c (S.pickT .none rfl (.tmp rfl rfl) .cbool rfl) ?_
     refine RK.nil (Ab.D.code ?_)
     refine OK.condT rfl rfl rfl ?_
     refine OK.seq (OK.reg ?_)
     refine RK.c (S.assign .none rfl .cnil) ?_
     refine RK.c (S.assign .none rfl (.cint rfl)) ?_
     refine RK.nil (Ab.D.code ?_)
     refine OK.ret (Ret.r2 (.tmp rfl rfl (.c (.same rfl) rfl) rfl) (.tmp rfl rfl (.c (.same rfl) rfl) rfl) ?_)
     rw [parseJ_7 (by omega) (gath_no hg hiL hj0)]
     all_goals rfl
    ·
     have n1 : natC (splitC 32 (splitC 59 l)[i])[1] 7 = true := by simpa using g57
     refine RK.c (S.move (.yes rfl rfl rfl rfl) rfl (.tmp rfl rfl)) ?_
     refine RK.c (S.not (.yes rfl rfl rfl rfl) rfl (.tmp rfl rfl)) ?_
     refine RK.c (S.pickF .none rfl (.tmp rfl rfl) (.tmp rfl rfl) rfl) ?_
     refine RK.c (S.move .none rfl (.tmp rfl rfl)) ?_
     refine RK.split (t := 61) rfl (fun g61 => ?_) (fun g61 => ?_)
     ·
      have hj0 := job1_F h4 (.inr (.inl (by simpa using g61)))
      refine RK.c (S.skip rfl rfl rfl rfl rfl) ?_
      refine RK.c (S.skip rfl rfl rfl rfl rfl) ?_
      refine RK.c (S.pickT .none rfl (.tmp rfl rfl) .cbool rfl) ?_
      refine RK.nil (Ab.D.code ?_)
      refine OK.condT rfl rfl rfl ?_
      refine OK.seq (OK.reg ?_)
      refine RK.c (S.assign .none rfl .cnil) ?_
      refine RK.c (S.assign .none rfl (.cint rfl)) ?_
      refine RK.nil (Ab.D.code ?_)
      refine OK.ret (Ret.r2 (.tmp rfl rfl (.c (.same rfl) rfl) rfl) (.tmp rfl rfl (.c (.same rfl) rfl) rfl) ?_)
      rw [parseJ_7 (by omega) (gath_no hg hiL hj0)]
      all_goals rfl
     ·
      have n2 : natC (splitC 32 (splitC 59 l)[i])[2] 7 = true := by simpa using g61
      refine RK.c (S.move (.yes rfl rfl rfl rfl) rfl (.tmp rfl rfl)) ?_
      refine RK.c (S.not (.yes rfl rfl rfl rfl) rfl (.tmp rfl rfl)) ?_
      refine RK.c (S.pickF .none rfl (.tmp rfl rfl) (.tmp rfl rfl) rfl) ?_
      refine RK.nil (Ab.D.code ?_)
      refine OK.cond rfl rfl (fun c64 => ?_) (fun c64 => ?_)
      ·
       have hj0 := job1_F h4 (.inr (.inr (by simpa using c64)))
       refine OK.seq (OK.reg ?_)
       refine RK.c (S.assign .none rfl .cnil) ?_
       refine RK.c (S.assign .none rfl (.cint rfl)) ?_
       refine RK.nil (Ab.D.code ?_)
       refine OK.ret (Ret.r2 (.tmp rfl rfl (.c (.same rfl) rfl) rfl) (.tmp rfl rfl (.c (.same rfl) rfl) rfl) ?_)
       rw [parseJ_7 (by omega) (gath_no hg hiL hj0)]
       all_goals rfl
      ·
       have n3 : natC (splitC 32 (splitC 59 l)[i])[3] 7 = true := by simpa using c64
       have hjob := job1_N h4 n1 n2 n3
       refine OK.skip ?_
       refine Ab.D.code (OK.reg ?_)
       refine RK.c (S.move .none rfl (.tmp rfl rfl)) ?_
       refine RK.c (S.move .none rfl (.tmp rfl rfl)) ?_
       refine RK.c (S.indexM (n := 0) si64 .none rfl (.tmp rfl rfl) (.cint rfl) rfl (by omega) rfl) ?_
       refine RK.c (S.load1 ti9 .none rfl (.tmp rfl rfl) rfl) ?_
       refine RK.c (S.move .none rfl (.tmp rfl rfl)) ?_
       refine RK.c (S.move .none rfl (.tmp rfl rfl)) ?_
       refine RK.c (S.move .none rfl (.tmp rfl rfl)) ?_
       refine RK.c (S.build bu114 rfl .none rfl (.cons (.tmp rfl rfl) (.cons (.tmp rfl rfl) (.cons (.tmp rfl rfl) (.cons (.tmp rfl rfl) .nil)))) rfl rfl) ?_
       refine RK.c (S.mkSlice (k := 73) (rows := [[_, _, _, _]]) ai22 .none rfl (.cons (.tmp rfl rfl) .nil) rfl rfl rfl rfl rfl rfl rfl) ?_
       refine RK.c (S.append ai22 .none rfl (.tmp rfl rfl) rfl (by simp) (.tmp rfl rfl) rfl (by first | rfl | (simp; done) | (simp; omega)) (by omega) (by simp only [maxLen]; omega)) ?_
       refine RK.c (S.assign .none rfl (.tmp rfl rfl)) ?_
       refine RK.nil ?_
       refine Ab.D.blk ?_
       refine Ab.D.code (OK.reg ?_)
       refine RK.c (S.move .none rfl (.tmp rfl rfl)) ?_
       refine RK.c (S.add .none rfl (.tmp rfl rfl) (.cint rfl) (IntWalk.i64_in _ (by omega)) (IntWalk.i64_in _ (by omega))) ?_
       refine RK.c (S.assign .none rfl (.tmp rfl rfl)) ?_
       refine RK.nil ?_
       refine Ab.D.lp ⟨i + 1, out ++ [⟨(splitC 32 (splitC 59 l)[i])[0], (numB (splitC 32 (splitC 59 l)[i])[1] 7).1, (numB (splitC 32 (splitC 59 l)[i])[2] 7).1, (numB (splitC 32 (splitC 59 l)[i])[3] 7).1⟩], ⟨by omega, gath_on hg hiL hjob, by simp; omega⟩, (by omega), (lk_own (by simp)), (lk_arr (by simp [Job.cs])), rfl, rfl, trivial⟩
  ·
   have hge := gath_end hg (show i = (splitC 59 l).length by omega)
   refine OK.exit rfl ?_
   refine Ab.D.code (OK.seq (OK.seq (OK.reg ?_)))
   refine RK.c (S.move .none rfl (.tmp rfl rfl)) ?_
   refine RK.c (S.callL (ref9_JobsErr (l := out)) Tryz.call25 .none rfl (.cons (.tmp rfl rfl) .nil) (.cons (.p (.own rfl (by simp)) rfl) .nil) rfl) ?_
   refine RK.c (S.assign .none rfl (.tmp rfl rfl)) ?_
   refine RK.nil (Ab.D.code (OK.seq (OK.reg ?_)))
   refine RK.c (S.move .none rfl (.tmp rfl rfl)) ?_
   refine RK.c (S.neq .none rfl (.tmp rfl rfl) (.cint rfl)) ?_
   refine RK.nil (Ab.D.code ?_)
   refine OK.condD rfl rfl (fun c78 => ?_) (fun c78 => ?_)
   ·
    refine OK.seq (OK.reg ?_)
    refine RK.c (S.move .none rfl (.tmp rfl rfl)) ?_
    refine RK.c (S.assign .none rfl .cnil) ?_
    refine RK.c (S.assign .none rfl (.tmp rfl rfl)) ?_
    refine RK.nil (Ab.D.code ?_)
    refine OK.ret (Ret.r2 (.tmp rfl rfl (.c (.same rfl) rfl) rfl) (.tmp rfl rfl (.c (.same rfl) rfl) rfl) ?_)
    rw [parseJ_e (by omega) hge c78]
    all_goals rfl
   ·
    refine OK.skip ?_
    refine Ab.D.code (OK.seq (OK.reg ?_))
    refine RK.c (S.move .none rfl (.tmp rfl rfl)) ?_
    refine RK.c (S.assign .none rfl (.tmp rfl rfl)) ?_
    refine RK.c (S.assign .none rfl (.cint rfl)) ?_
    refine RK.nil (Ab.D.code ?_)
    refine OK.ret (Ret.r2 (.tmp rfl rfl (.c (.own rfl rfl (by first | rfl | (simp; done) | (simp; omega))) rfl) rfl) (.tmp rfl rfl (.c (.same rfl) rfl) rfl) ?_)
    rw [parseJ_0 (by omega) hge c78]
    all_goals rfl
set_option maxHeartbeats 4000000 in
theorem ref9_ParseBaskets {l : List UInt8} (hl : l.length ≤ 100000) : Ct Tryz.prog 63 [.str l] (.tup [.sl ((parseB l).1.map Basket.cs), .int .i64 (parseB l).2]) := by
 refine Ct.intro (rs := [.tmp 2, .tmp 3]) Tryz.func63 rfl Tryz.ntmps63 Tryz.results63 rfl rfl rfl fun w h => ?_
 refine OK.seq (OK.reg ?_)
 refine RK.c (S.assign .none rfl .cnil) ?_
 refine RK.c (S.assign .none rfl (.cint rfl)) ?_
 refine RK.nil (Ab.D.code (OK.seq (OK.seq (OK.reg ?_))))
 refine RK.c (S.move .none rfl (.tmp rfl rfl)) ?_
 refine RK.c (S.slen Tryz.underlying9 .none rfl (.tmp rfl rfl)) ?_
 refine RK.c (S.gtr .none rfl (.tmp rfl rfl) (.cint rfl)) ?_
 refine RK.nil (Ab.D.code ?_)
 refine OK.condD rfl rfl (fun c16 => ?_) (fun c16 => ?_)
 ·
  refine OK.seq (OK.reg ?_)
  refine RK.c (S.assign .none rfl .cnil) ?_
  refine RK.c (S.assign .none rfl (.cint rfl)) ?_
  refine RK.nil (Ab.D.code ?_)
  refine OK.ret (Ret.r2 (.tmp rfl rfl (.c (.same rfl) rfl) rfl) (.tmp rfl rfl (.c (.same rfl) rfl) rfl) ?_)
  rw [parseB_8 (by omega)]
  all_goals rfl
 ·
  refine OK.skip ?_
  refine Ab.D.code (OK.seq (OK.seq (OK.reg ?_)))
  refine RK.c (S.move .none rfl (.tmp rfl rfl)) ?_
  refine RK.c (S.seql .none rfl (.tmp rfl rfl) (.cstr (l := []) rfl (by decide))) ?_
  refine RK.nil (Ab.D.code ?_)
  refine OK.condD rfl rfl (fun c18 => ?_) (fun c18 => ?_)
  ·
   refine OK.seq (OK.reg ?_)
   refine RK.c (S.assign .none rfl .cnil) ?_
   refine RK.c (S.assign .none rfl (.cint rfl)) ?_
   refine RK.nil (Ab.D.code ?_)
   refine OK.ret (Ret.r2 (.tmp rfl rfl (.c (.same rfl) rfl) rfl) (.tmp rfl rfl (.c (.same rfl) rfl) rfl) ?_)
   rw [parseB_nil c18]
   all_goals rfl
  ·
   have hcn := split_cnt (c := 59) (l := l)
   refine OK.skip ?_
   refine Ab.D.code (OK.seq (OK.reg ?_))
   refine RK.c (S.nilOwn (k := 4) (sz := 1) .none rfl) ?_
   refine RK.nil (Ab.D.code (OK.seq (OK.reg ?_)))
   refine RK.c (S.assign .none rfl .cbool) ?_
   refine RK.nil (Ab.D.code (OK.seq (OK.reg ?_)))
   refine RK.c (S.move .none rfl (.tmp rfl rfl)) ?_
   refine RK.c (S.call (base_Cut (l := l) (c := 59) hl) Tryz.call119 .none rfl (.cons (.tmp rfl rfl) (.cons (.cint rfl) .nil)) rfl) ?_
   refine RK.c (S.assign .none rfl (.tmp rfl rfl)) ?_
   refine RK.nil (Ab.D.code (OK.seq (OK.seq (OK.reg ?_))))
   refine RK.c (S.assign .none rfl (.cint rfl)) ?_
   refine RK.nil (Ab.D.code ?_)
   refine OK.block ?_
   refine OK.loop3 [4] (fun (i : Nat) (out : List Basket) (g : Bool) => [(4, .own 4 out.length), (2004, .arr 1 (out.map Basket.cs)), (6, .sl ((splitC 59 l).map fun s => [.str s])), (7, .int .i64 i), (5, .bool g)]) (fun i out g => i ≤ (splitC 59 l).length ∧ gath basket1 (splitC 59 l) = (gath basket1 ((splitC 59 l).drop i)).map (out ++ ·) ∧ out.length ≤ i ∧ g = lotsOk out) (fun i out g => (splitC 59 l).length - i) (0) ([]) (true) ⟨Nat.zero_le _, by rw [List.drop_zero]; cases gath basket1 (splitC 59 l) <;> simp, Nat.le_refl _, rfl⟩ ⟨(lk_own (by first | rfl | (simp; done) | (simp; omega))), (lk_arr (by first | rfl | (simp; done) | (simp; omega))), rfl, rfl, rfl, trivial⟩ (fun _ _ _ => rfl) ?_
   rintro i out g ⟨hi, hg, hol, hgd⟩
   refine OK.seq (OK.seq (OK.reg ?_))
   refine RK.c (S.move .none rfl (.tmp rfl rfl)) ?_
   refine RK.c (S.move .none rfl (.tmp rfl rfl)) ?_
   refine RK.c (S.lenM si64 .none rfl (.tmp rfl rfl)) ?_
   refine RK.c (S.lss .none rfl (.tmp rfl rfl) (.tmp rfl rfl)) ?_
   refine RK.nil (Ab.D.code ?_)
   refine OK.condD rfl rfl (fun c24 => ?_) (fun c24 => ?_)
   ·
    have hiL : i < (splitC 59 l).length := by omega
    have hpl := split_sub _ (List.getElem_mem hiL)
    have hcx := split_cnt (c := 32) (l := (splitC 59 l)[i])
    refine OK.skip ?_
    refine Ab.D.code ?_
    refine OK.seq ?_
    refine OK.block ?_
    refine OK.seq (OK.reg ?_)
    refine RK.c (S.alloc (k := 8) ze71 rfl .none rfl) ?_
    refine RK.nil (Ab.D.code (OK.seq (OK.reg ?_)))
    refine RK.c (S.move .none rfl (.tmp rfl rfl)) ?_
    refine RK.c (S.move .none rfl (.tmp rfl rfl)) ?_
    refine RK.c (S.indexM (n := i) si64 .none rfl (.tmp rfl rfl) (.tmp rfl rfl) rfl (by omega) rfl) ?_
    refine RK.c (S.load1 ti9 .none rfl (.tmp rfl rfl) rfl) ?_
    refine RK.c (S.call (base_Cut (l := (splitC 59 l)[i]) (c := 32) (by omega)) Tryz.call119 .none rfl (.cons (.tmp rfl rfl) (.cons (.cint rfl) .nil)) rfl) ?_
    refine RK.c (S.assign .none rfl (.tmp rfl rfl)) ?_
    refine RK.nil (Ab.D.code (OK.seq (OK.seq (OK.reg ?_))))
    refine RK.c (S.assign .none rfl (.cint rfl)) ?_
    refine RK.nil (Ab.D.code ?_)
    refine OK.block ?_
    refine OK.boxOwn 8 0 881 2 rfl rfl rfl rfl rfl ?_
    refine OK.loop3 [4, 8, 881] (fun (k : Nat) (sh : List Share) (g2 : Bool) => [(4, .own 4 out.length), (2004, .arr 1 (out.map Basket.cs)), (6, .sl ((splitC 59 l).map fun s => [.str s])), (7, .int .i64 i), (8, .ptr 8 0), (1008, .box [.own 881 sh.length]), (2881, .arr 2 (sh.map Share.cs)), (9, .sl ((splitC 32 (splitC 59 l)[i]).map fun s => [.str s])), (10, .int .i64 k), (5, .bool g2)]) (fun k sh g2 => k ≤ (splitC 32 (splitC 59 l)[i]).length ∧ gath share1 (splitC 32 (splitC 59 l)[i]) = (gath share1 ((splitC 32 (splitC 59 l)[i]).drop k)).map (sh ++ ·) ∧ sh.length ≤ k ∧ g2 = (g && sh.all fun s => nameOk s.lot)) (fun k sh g2 => (splitC 32 (splitC 59 l)[i]).length - k) (0) ([]) (g) ⟨Nat.zero_le _, by rw [List.drop_zero]; cases gath share1 (splitC 32 (splitC 59 l)[i]) <;> simp, Nat.le_refl _, by simp⟩ ⟨(lk_own (by first | rfl | (simp; done) | (simp; omega))), (lk_arr (by first | rfl | (simp; done) | (simp; omega))), rfl, rfl, rfl, rfl, (lk_arr (by first | rfl | (simp; done) | (simp; omega))), rfl, rfl, rfl, trivial⟩ (fun _ _ _ => rfl) ?_
    rintro k sh g2 ⟨hk, hg2, hsl, hgd2⟩
    refine OK.seq (OK.seq (OK.reg ?_))
    refine RK.c (S.move .none rfl (.tmp rfl rfl)) ?_
    refine RK.c (S.move .none rfl (.tmp rfl rfl)) ?_
    refine RK.c (S.lenM si64 .none rfl (.tmp rfl rfl)) ?_
    refine RK.c (S.lss .none rfl (.tmp rfl rfl) (.tmp rfl rfl)) ?_
    refine RK.nil (Ab.D.code ?_)
    refine OK.condD rfl rfl (fun c35 => ?_) (fun c35 => ?_)
    ·
     have hkW : k < (splitC 32 (splitC 59 l)[i]).length := by omega
     have hyl := split_sub _ (List.getElem_mem hkW)
     refine OK.skip ?_
     refine Ab.D.code ?_
     refine OK.seq ?_
     refine OK.block ?_
     refine OK.seq (OK.reg ?_)
     refine RK.c (S.move .none rfl (.tmp rfl rfl)) ?_
     refine RK.c (S.move .none rfl (.tmp rfl rfl)) ?_
     refine RK.c (S.indexM (n := k) si64 .none rfl (.tmp rfl rfl) (.tmp rfl rfl) rfl (by omega) rfl) ?_
     refine RK.c (S.load1 ti9 .none rfl (.tmp rfl rfl) rfl) ?_
     refine RK.c (S.slen Tryz.underlying9 .none rfl (.tmp rfl rfl)) ?_
     refine RK.c (S.sub .none rfl (.tmp rfl rfl) (.cint rfl) (IntWalk.i64_in _ (by omega)) (IntWalk.i64_in _ (by omega))) ?_
     refine RK.c (S.assign .none rfl (.tmp rfl rfl)) ?_
     refine RK.nil (Ab.D.code ?_)
     refine OK.seq ?_
     refine OK.block ?_
     refine OK.loop (G := Nat) [4, 8, 881] (fun a => [(4, .own 4 out.length), (2004, .arr 1 (out.map Basket.cs)), (6, .sl ((splitC 59 l).map fun s => [.str s])), (7, .int .i64 i), (8, .ptr 8 0), (1008, .box [.own 881 sh.length]), (2881, .arr 2 (sh.map Share.cs)), (9, .sl ((splitC 32 (splitC 59 l)[i]).map fun s => [.str s])), (10, .int .i64 k), (5, .bool g2), (11, .int .i64 ((a : Int) - 1))]) (fun a => a ≤ (splitC 32 (splitC 59 l)[i])[k].length ∧ lastC (splitC 32 (splitC 59 l)[i])[k] 120 = lastTo (splitC 32 (splitC 59 l)[i])[k] 120 a) (fun a => a) (splitC 32 (splitC 59 l)[i])[k].length ⟨Nat.le_refl _, rfl⟩ ⟨(lk_own (by first | rfl | (simp; done) | (simp; omega))), (lk_arr (by first | rfl | (simp; done) | (simp; omega))), rfl, rfl, rfl, rfl, (lk_arr (by first | rfl | (simp; done) | (simp; omega))), rfl, rfl, rfl, rfl, trivial⟩ (fun _ => rfl) ?_
     rintro a ⟨ha, hlt⟩
     refine OK.seq (OK.seq (OK.reg ?_))
     refine RK.c (S.move .none rfl (.tmp rfl rfl)) ?_
     refine RK.c (S.geq .none rfl (.tmp rfl rfl) (.cint rfl)) ?_
     refine RK.c (S.move .none rfl (.tmp rfl rfl)) ?_
     refine RK.splitD (t := 46) rfl (fun g46 => ?_) (fun g46 => ?_)
     ·
      have ha1 : a - 1 < (splitC 32 (splitC 59 l)[i])[k].length := by omega
      have hae : a - 1 + 1 = a := by omega
      refine RK.c (S.move (.yes rfl rfl rfl rfl) rfl (.tmp rfl rfl)) ?_
      refine RK.c (S.move (.yes rfl rfl rfl rfl) rfl (.tmp rfl rfl)) ?_
      refine RK.c (S.indexM (n := k) si64 (.yes rfl rfl rfl rfl) rfl (.tmp rfl rfl) (.tmp rfl rfl) rfl (by omega) rfl) ?_
      refine RK.c (S.load1 ti9 (.yes rfl rfl rfl rfl) rfl (.tmp rfl rfl) rfl) ?_
      refine RK.c (S.move (.yes rfl rfl rfl rfl) rfl (.tmp rfl rfl)) ?_
      refine RK.c (S.stridx (n := a - 1) str9 (.yes rfl rfl rfl rfl) rfl (.tmp rfl rfl) (.tmp rfl rfl) (by omega) ha1) ?_
      refine RK.c (S.neq (.yes rfl rfl rfl rfl) rfl (.tmp rfl rfl) (.cint rfl)) ?_
      refine RK.c (S.pickT .none rfl (.tmp rfl rfl) (.tmp rfl rfl) rfl) ?_
      refine RK.nil (Ab.D.code ?_)
      refine OK.condD rfl rfl (fun c54 => ?_) (fun c54 => ?_)
      ·
       have hla : lastTo (splitC 32 (splitC 59 l)[i])[k] 120 a = lastTo (splitC 32 (splitC 59 l)[i])[k] 120 (a - 1) := by
        rw [← hae]; exact lastTo_F ha1 (fun e => c54 (u8_eq.2 e))
       refine OK.skip ?_
       refine Ab.D.code ?_
       refine OK.block ?_
       refine OK.reg ?_
       refine RK.c (S.move .none rfl (.tmp rfl rfl)) ?_
       refine RK.c (S.sub .none rfl (.tmp rfl rfl) (.cint rfl) (IntWalk.i64_in _ (by omega)) (IntWalk.i64_in _ (by omega))) ?_
       refine RK.c (S.assign .none rfl (.tmp rfl rfl)) ?_
       refine RK.nil ?_
       refine Ab.D.blk ?_
       refine Ab.D.lp ⟨a - 1, ⟨by omega, by rw [hlt, hla]⟩, (by omega), (lk_own (by first | rfl | (simp; done) | (simp; omega))), (lk_arr (by first | rfl | (simp; done) | (simp; omega))), rfl, rfl, rfl, rfl, (lk_arr (by first | rfl | (simp; done) | (simp; omega))), rfl, rfl, rfl, (lkI (by omega)), trivial⟩
      ·
       have hla : lastC (splitC 32 (splitC 59 l)[i])[k] 120 = ((a - 1 : Nat) : Int) := by
        rw [hlt, ← hae]; exact lastTo_T ha1 (u8_eq.1 (Decidable.not_not.1 c54))
       have hA := last_bd (splitC 32 (splitC 59 l)[i])[k] 120
       refine OK.exit rfl ?_
       refine Ab.D.code (OK.seq (OK.seq (OK.reg ?_)))
       refine RK.c (S.move .none rfl (.tmp rfl rfl)) ?_
       refine RK.c (S.lss .none rfl (.tmp rfl rfl) (.cint rfl)) ?_
       refine RK.nil (Ab.D.code ?_)
       refine OK.condD rfl rfl (fun c58 => ?_) (fun c58 => ?_)
       ·
        have hj0 := share1_x (w := (splitC 32 (splitC 59 l)[i])[k]) (by omega)
        have hb0 := basket1_no (gath_no hg2 hkW hj0)
        exfalso
        omega
       ·
        refine OK.skip ?_
        refine Ab.D.code (OK.seq (OK.reg ?_))
        refine RK.c (S.move .none rfl (.tmp rfl rfl)) ?_
        refine RK.c (S.move .none rfl (.tmp rfl rfl)) ?_
        refine RK.c (S.indexM (n := k) si64 .none rfl (.tmp rfl rfl) (.tmp rfl rfl) rfl (by omega) rfl) ?_
        refine RK.c (S.load1 ti9 .none rfl (.tmp rfl rfl) rfl) ?_
        refine RK.c (S.move .none rfl (.tmp rfl rfl)) ?_
        refine RK.c (S.add .none rfl (.tmp rfl rfl) (.cint rfl) (IntWalk.i64_in _ (by omega)) (IntWalk.i64_in _ (by omega))) ?_
        refine RK.c (S.strsl (lo := ((lastC (splitC 32 (splitC 59 l)[i])[k] 120) + 1).toNat) (l' := (splitC 32 (splitC 59 l)[i])[k].drop ((lastC (splitC 32 (splitC 59 l)[i])[k] 120) + 1).toNat) str9 .none rfl (.tmp rfl rfl) (.inr ⟨_, _, rfl, (.tmp rfl rfl), (by omega)⟩) (.inl ⟨rfl, rfl, rfl⟩) (by omega) (by omega) (by rw [List.take_length])) ?_
        refine RK.c (S.call (ref9_nat (l := (splitC 32 (splitC 59 l)[i])[k].drop ((lastC (splitC 32 (splitC 59 l)[i])[k] 120) + 1).toNat) (d := 4) (by simp only [List.length_drop]; omega) (by omega)) Tryz.call120 .none rfl (.cons (.tmp rfl rfl) (.cons (.cint rfl) .nil)) rfl) ?_
        refine RK.c (S.move .none rfl (.tmp rfl rfl)) ?_
        refine RK.c (S.extract .none rfl (.tmp rfl rfl) rfl rfl) ?_
        refine RK.c (S.extract .none rfl (.tmp rfl rfl) rfl rfl) ?_
        refine RK.c (S.assign .none rfl (.tmp rfl rfl)) ?_
        refine RK.c (S.assign .none rfl (.tmp rfl rfl)) ?_
        refine RK.nil (Ab.D.code (OK.seq (OK.seq (OK.reg ?_))))
        refine RK.c (S.move .none rfl (.tmp rfl rfl)) ?_
        refine RK.c (S.not .none rfl (.tmp rfl rfl)) ?_
        refine RK.nil (Ab.D.code ?_)
        refine OK.cond rfl rfl (fun c71 => ?_) (fun c71 => ?_)
        ·
         have hj0 := share1_n (w := (splitC 32 (splitC 59 l)[i])[k]) (by simpa using c71)
         have hb0 := basket1_no (gath_no hg2 hkW hj0)
         refine OK.seq (OK.reg ?_)
         refine RK.c (S.assign .none rfl .cnil) ?_
         refine RK.c (S.assign .none rfl (.cint rfl)) ?_
         refine RK.nil (Ab.D.code ?_)
         refine OK.ret (Ret.r2 (.tmp rfl rfl (.c (.same rfl) rfl) rfl) (.tmp rfl rfl (.c (.same rfl) rfl) rfl) ?_)
         rw [parseB_7 (by omega) c18 (gath_no hg hiL hb0)]
         all_goals rfl
        ·
         have hno : natC ((splitC 32 (splitC 59 l)[i])[k].drop ((lastC (splitC 32 (splitC 59 l)[i])[k] 120) + 1).toNat) 4 = true := by simpa using c71
         have hsh := share1_s (w := (splitC 32 (splitC 59 l)[i])[k]) (by omega) hno
         rw [← numB_nat.2 hno] at hsh
         refine OK.skip ?_
         refine Ab.D.code (OK.seq (OK.reg ?_))
         refine RK.c (S.move .none rfl (.tmp rfl rfl)) ?_
         refine RK.c (S.move .none rfl (.tmp rfl rfl)) ?_
         refine RK.split (t := 73) rfl (fun g73 => ?_) (fun g73 => ?_)
         ·
          refine RK.c (S.move (.yes rfl rfl rfl rfl) rfl (.tmp rfl rfl)) ?_
          refine RK.c (S.move (.yes rfl rfl rfl rfl) rfl (.tmp rfl rfl)) ?_
          refine RK.c (S.indexM (n := k) si64 (.yes rfl rfl rfl rfl) rfl (.tmp rfl rfl) (.tmp rfl rfl) rfl (by omega) rfl) ?_
          refine RK.c (S.load1 ti9 (.yes rfl rfl rfl rfl) rfl (.tmp rfl rfl) rfl) ?_
          refine RK.c (S.move (.yes rfl rfl rfl rfl) rfl (.tmp rfl rfl)) ?_
          refine RK.c (S.strsl (hi := (lastC (splitC 32 (splitC 59 l)[i])[k] 120).toNat) (l' := (splitC 32 (splitC 59 l)[i])[k].take (lastC (splitC 32 (splitC 59 l)[i])[k] 120).toNat) str9 (.yes rfl rfl rfl rfl) rfl (.tmp rfl rfl) (.inl ⟨rfl, rfl, rfl⟩) (.inr ⟨_, _, rfl, (.tmp rfl rfl), (by omega)⟩) (by omega) (by omega) rfl) ?_
          refine RK.c (S.call (base_IsName) Tryz.call67 (.yes rfl rfl rfl rfl) rfl (.cons (.tmp rfl rfl) .nil) rfl) ?_
          refine RK.c (S.pickT .none rfl (.tmp rfl rfl) (.tmp rfl rfl) rfl) ?_
          refine RK.c (S.assign .none rfl (.tmp rfl rfl)) ?_
          refine RK.nil (Ab.D.code ?_)
          refine OK.regionDraw follows (.c (S.bfield fi71_0 .none rfl (.tmp rfl rfl))
           (.c (S.bload1 ti69 .none rfl (.tmp rfl rfl) rfl rfl rfl rfl)
           (.c (S.move .none rfl (.tmp rfl rfl))
           (.c (S.move .none rfl (.tmp rfl rfl))
           (.c (S.indexM (n := k) si64 .none rfl (.tmp rfl rfl) (.tmp rfl rfl) rfl (by omega) rfl)
           (.c (S.load1 ti9 .none rfl (.tmp rfl rfl) rfl)
           (.c (S.move .none rfl (.tmp rfl rfl))
           (.c (S.strsl (hi := (lastC (splitC 32 (splitC 59 l)[i])[k] 120).toNat) (l' := (splitC 32 (splitC 59 l)[i])[k].take (lastC (splitC 32 (splitC 59 l)[i])[k] 120).toNat) str9 .none rfl (.tmp rfl rfl) (.inl ⟨rfl, rfl, rfl⟩) (.inr ⟨_, _, rfl, (.tmp rfl rfl), (by omega)⟩) (by omega) (by omega) rfl)
           (.c (S.move .none rfl (.tmp rfl rfl))
           (.c (S.build bu73 rfl .none rfl (.cons (.tmp rfl rfl) (.cons (.tmp rfl rfl) .nil)) rfl rfl)
           (.c (S.mkSlice (k := 92) (rows := [[_, _]]) ai69 .none rfl (.cons (.tmp rfl rfl) .nil) rfl rfl rfl rfl rfl rfl rfl)
           (.c (S.append ai69 .none rfl (.tmp rfl rfl) rfl (by simp) (.tmp rfl rfl) rfl (by first | rfl | (simp; done) | (simp; omega)) (by omega) (by simp only [maxLen]; omega))
           (.c (S.bfield fi71_0 .none rfl (.tmp rfl rfl))
           (.c (S.store ti69 .none (.tmp rfl rfl) (.tmp rfl rfl) rfl rfl rfl rfl rfl rfl)
           .nil)))))))))))))) (by kernel_rfl) ?_
          refine Ab.D.blk ?_
          refine Ab.D.code (OK.reg ?_)
          refine RK.c (S.move .none rfl (.tmp rfl rfl)) ?_
          refine RK.c (S.add .none rfl (.tmp rfl rfl) (.cint rfl) (IntWalk.i64_in _ (by omega)) (IntWalk.i64_in _ (by omega))) ?_
          refine RK.c (S.assign .none rfl (.tmp rfl rfl)) ?_
          refine RK.nil ?_
          refine Ab.D.lp ⟨k + 1, sh ++ [⟨(splitC 32 (splitC 59 l)[i])[k].take (lastC (splitC 32 (splitC 59 l)[i])[k] 120).toNat, (numB ((splitC 32 (splitC 59 l)[i])[k].drop ((lastC (splitC 32 (splitC 59 l)[i])[k] 120) + 1).toNat) 4).1⟩], (nameOk ((splitC 32 (splitC 59 l)[i])[k].take (lastC (splitC 32 (splitC 59 l)[i])[k] 120).toNat)), ⟨by omega, gath_on hg2 hkW hsh, by simp; omega, by rw [List.all_append, ← Bool.and_assoc, ← hgd2, g73]; simp⟩, (by omega), (lk_own (by first | rfl | (simp; done) | (simp; omega))), (lk_arr (by first | rfl | (simp; done) | (simp; omega))), rfl, rfl, rfl, (lkBO (by simp)), (lk_arr (by simp [Share.cs])), rfl, rfl, rfl, trivial⟩
         ·
          refine RK.c (S.skip rfl rfl rfl rfl rfl) ?_
          refine RK.c (S.skip rfl rfl rfl rfl rfl) ?_
          refine RK.c (S.skip rfl rfl rfl rfl rfl) ?_
          refine RK.c (S.skip rfl rfl rfl rfl rfl) ?_
          refine RK.c (S.skip rfl rfl rfl rfl rfl) ?_
          refine RK.c (S.skip rfl rfl rfl rfl rfl) ?_
          refine RK.c (S.skip rfl rfl rfl rfl rfl) ?_
          refine RK.c (S.pickF .none rfl (.tmp rfl rfl) .cbool rfl) ?_
          refine RK.c (S.assign .none rfl (.tmp rfl rfl)) ?_
          refine RK.nil (Ab.D.code ?_)
          refine OK.regionDraw follows (.c (S.bfield fi71_0 .none rfl (.tmp rfl rfl))
           (.c (S.bload1 ti69 .none rfl (.tmp rfl rfl) rfl rfl rfl rfl)
           (.c (S.move .none rfl (.tmp rfl rfl))
           (.c (S.move .none rfl (.tmp rfl rfl))
           (.c (S.indexM (n := k) si64 .none rfl (.tmp rfl rfl) (.tmp rfl rfl) rfl (by omega) rfl)
           (.c (S.load1 ti9 .none rfl (.tmp rfl rfl) rfl)
           (.c (S.move .none rfl (.tmp rfl rfl))
           (.c (S.strsl (hi := (lastC (splitC 32 (splitC 59 l)[i])[k] 120).toNat) (l' := (splitC 32 (splitC 59 l)[i])[k].take (lastC (splitC 32 (splitC 59 l)[i])[k] 120).toNat) str9 .none rfl (.tmp rfl rfl) (.inl ⟨rfl, rfl, rfl⟩) (.inr ⟨_, _, rfl, (.tmp rfl rfl), (by omega)⟩) (by omega) (by omega) rfl)
           (.c (S.move .none rfl (.tmp rfl rfl))
           (.c (S.build bu73 rfl .none rfl (.cons (.tmp rfl rfl) (.cons (.tmp rfl rfl) .nil)) rfl rfl)
           (.c (S.mkSlice (k := 92) (rows := [[_, _]]) ai69 .none rfl (.cons (.tmp rfl rfl) .nil) rfl rfl rfl rfl rfl rfl rfl)
           (.c (S.append ai69 .none rfl (.tmp rfl rfl) rfl (by simp) (.tmp rfl rfl) rfl (by first | rfl | (simp; done) | (simp; omega)) (by omega) (by simp only [maxLen]; omega))
           (.c (S.bfield fi71_0 .none rfl (.tmp rfl rfl))
           (.c (S.store ti69 .none (.tmp rfl rfl) (.tmp rfl rfl) rfl rfl rfl rfl rfl rfl)
           .nil)))))))))))))) (by kernel_rfl) ?_
          refine Ab.D.blk ?_
          refine Ab.D.code (OK.reg ?_)
          refine RK.c (S.move .none rfl (.tmp rfl rfl)) ?_
          refine RK.c (S.add .none rfl (.tmp rfl rfl) (.cint rfl) (IntWalk.i64_in _ (by omega)) (IntWalk.i64_in _ (by omega))) ?_
          refine RK.c (S.assign .none rfl (.tmp rfl rfl)) ?_
          refine RK.nil ?_
          refine Ab.D.lp ⟨k + 1, sh ++ [⟨(splitC 32 (splitC 59 l)[i])[k].take (lastC (splitC 32 (splitC 59 l)[i])[k] 120).toNat, (numB ((splitC 32 (splitC 59 l)[i])[k].drop ((lastC (splitC 32 (splitC 59 l)[i])[k] 120) + 1).toNat) 4).1⟩], false, ⟨by omega, gath_on hg2 hkW hsh, by simp; omega, by rw [List.all_append, ← Bool.and_assoc, ← hgd2, g73]; simp⟩, (by omega), (lk_own (by first | rfl | (simp; done) | (simp; omega))), (lk_arr (by first | rfl | (simp; done) | (simp; omega))), rfl, rfl, rfl, (lkBO (by simp)), (lk_arr (by simp [Share.cs])), rfl, rfl, rfl, trivial⟩
     ·
      have hla : lastC (splitC 32 (splitC 59 l)[i])[k] 120 = -1 := by rw [hlt, show a = 0 by omega]; rfl
      refine RK.c (S.skip rfl rfl rfl rfl rfl) ?_
      refine RK.c (S.skip rfl rfl rfl rfl rfl) ?_
      refine RK.c (S.skip rfl rfl rfl rfl rfl) ?_
      refine RK.c (S.skip rfl rfl rfl rfl rfl) ?_
      refine RK.c (S.skip rfl rfl rfl rfl rfl) ?_
      refine RK.c (S.skip rfl rfl rfl rfl rfl) ?_
      refine RK.c (S.skip rfl rfl rfl rfl rfl) ?_
      refine RK.c (S.pickF .none rfl (.tmp rfl rfl) .cbool rfl) ?_
      refine RK.nil (Ab.D.code ?_)
      refine OK.condF rfl rfl rfl ?_
      refine OK.exit rfl ?_
      refine Ab.D.code (OK.seq (OK.seq (OK.reg ?_)))
      refine RK.c (S.move .none rfl (.tmp rfl rfl)) ?_
      refine RK.c (S.lss .none rfl (.tmp rfl rfl) (.cint rfl)) ?_
      refine RK.nil (Ab.D.code ?_)
      refine OK.condD rfl rfl (fun c58 => ?_) (fun c58 => ?_)
      ·
       have hj0 := share1_x (w := (splitC 32 (splitC 59 l)[i])[k]) (by omega)
       have hb0 := basket1_no (gath_no hg2 hkW hj0)
       refine OK.seq (OK.reg ?_)
       refine RK.c (S.assign .none rfl .cnil) ?_
       refine RK.c (S.assign .none rfl (.cint rfl)) ?_
       refine RK.nil (Ab.D.code ?_)
       refine OK.ret (Ret.r2 (.tmp rfl rfl (.c (.same rfl) rfl) rfl) (.tmp rfl rfl (.c (.same rfl) rfl) rfl) ?_)
       rw [parseB_7 (by omega) c18 (gath_no hg hiL hb0)]
       all_goals rfl
      ·
       exfalso
       omega
    ·
     refine OK.exit rfl ?_
     refine Ab.D.code ?_
     refine OK.freezeBox 8 0 rfl rfl rfl rfl (by simp) rfl ?_
     refine OK.reg ?_
     refine RK.c (S.move .none rfl (.tmp rfl rfl)) ?_
     refine RK.c (S.bloadN ti71 .none rfl (.tmp rfl rfl) rfl rfl rfl rfl) ?_
     refine RK.c (S.mkSlice (k := 97) (rows := [[_]]) ai50 .none rfl (.cons (.tmp rfl rfl) .nil) rfl rfl rfl rfl rfl rfl rfl) ?_
     refine RK.c (S.append ai50 .none rfl (.tmp rfl rfl) rfl (by simp) (.tmp rfl rfl) rfl (by first | rfl | (simp; done) | (simp; omega)) (by omega) (by simp only [maxLen]; omega)) ?_
     refine RK.c (S.assign .none rfl (.tmp rfl rfl)) ?_
     refine RK.nil ?_
     refine Ab.D.blk ?_
     refine Ab.D.code (OK.reg ?_)
     refine RK.c (S.move .none rfl (.tmp rfl rfl)) ?_
     refine RK.c (S.add .none rfl (.tmp rfl rfl) (.cint rfl) (IntWalk.i64_in _ (by omega)) (IntWalk.i64_in _ (by omega))) ?_
     refine RK.c (S.assign .none rfl (.tmp rfl rfl)) ?_
     refine RK.nil ?_
     refine Ab.D.lp ⟨i + 1, out ++ [⟨sh⟩], g2, ⟨by omega, gath_on hg hiL (basket1_on (gath_end hg2 (by omega))), by simp; omega, by rw [lots_snoc, ← hgd, hgd2]⟩, (by omega), (lk_own (by simp)), (lk_arr (by simp [Basket.cs])), rfl, rfl, rfl, trivial⟩
   ·
    have hge := gath_end hg (show i = (splitC 59 l).length by omega)
    refine OK.exit rfl ?_
    refine Ab.D.code (OK.seq (OK.seq (OK.reg ?_)))
    refine RK.c (S.move .none rfl (.tmp rfl rfl)) ?_
    refine RK.c (S.not .none rfl (.tmp rfl rfl)) ?_
    refine RK.nil (Ab.D.code ?_)
    refine OK.cond rfl rfl (fun c100 => ?_) (fun c100 => ?_)
    ·
     have hlo : lotsOk out = false := by rw [← hgd]; simpa using c100
     refine OK.seq (OK.reg ?_)
     refine RK.c (S.assign .none rfl .cnil) ?_
     refine RK.c (S.assign .none rfl (.cint rfl)) ?_
     refine RK.nil (Ab.D.code ?_)
     refine OK.ret (Ret.r2 (.tmp rfl rfl (.c (.same rfl) rfl) rfl) (.tmp rfl rfl (.c (.same rfl) rfl) rfl) ?_)
     rw [parseB_s (by omega) c18 hge, if_pos hlo]
     all_goals rfl
    ·
     have hlo : lotsOk out = true := by rw [← hgd]; simpa using c100
     refine OK.skip ?_
     refine Ab.D.code (OK.seq (OK.seq (OK.reg ?_)))
     refine RK.c (S.move .none rfl (.tmp rfl rfl)) ?_
     refine RK.c (S.lenOwn si50 .none rfl (.tmp rfl rfl) rfl (by simp)) ?_
     refine RK.c (S.gtr .none rfl (.tmp rfl rfl) (.cint rfl)) ?_
     refine RK.nil (Ab.D.code ?_)
     refine OK.condD rfl rfl (fun c103 => ?_) (fun c103 => ?_)
     ·
      refine OK.seq (OK.reg ?_)
      refine RK.c (S.assign .none rfl .cnil) ?_
      refine RK.c (S.assign .none rfl (.cint rfl)) ?_
      refine RK.nil (Ab.D.code ?_)
      refine OK.ret (Ret.r2 (.tmp rfl rfl (.c (.same rfl) rfl) rfl) (.tmp rfl rfl (.c (.same rfl) rfl) rfl) ?_)
      rw [parseB_s (by omega) c18 hge, if_neg (by rw [hlo]; decide), if_pos (by omega)]
      all_goals rfl
     ·
      refine OK.skip ?_
      refine Ab.D.code (OK.seq (OK.reg ?_))
      refine RK.c (S.move .none rfl (.tmp rfl rfl)) ?_
      refine RK.c (S.assign .none rfl (.tmp rfl rfl)) ?_
      refine RK.c (S.assign .none rfl (.cint rfl)) ?_
      refine RK.nil (Ab.D.code ?_)
      refine OK.ret (Ret.r2 (.tmp rfl rfl (.c (.own rfl rfl (by first | rfl | (simp; done) | (simp; omega))) rfl) rfl) (.tmp rfl rfl (.c (.same rfl) rfl) rfl) ?_)
      rw [parseB_s (by omega) c18 hge, if_neg (by rw [hlo]; decide), if_neg (by omega)]
      all_goals rfl
theorem ref9_SameJobs {a b : List Job} : Ct Tryz.prog 66 [.sl (a.map Job.cs), .sl (b.map Job.cs)] (.bool (decide (a = b))) := by
 refine Ct.intro (rs := [.tmp 4]) Tryz.func66 rfl Tryz.ntmps66 Tryz.results66 rfl rfl rfl fun w h => ?_
 refine OK.slLen (rows := a.map Job.cs) (t := 0) rfl rfl fun hlen => ?_
 rw [List.length_map] at hlen
 unfold maxLen at hlen
 refine OK.seq (OK.reg ?_)
 refine RK.c (S.assign .none rfl .cbool) ?_
 refine RK.nil (Ab.D.code (OK.seq (OK.seq (OK.reg ?_))))
 refine RK.c (S.move .none rfl (.tmp rfl rfl)) ?_
 refine RK.c (S.lenM si22 .none rfl (.tmp rfl rfl)) ?_
 refine RK.c (S.move .none rfl (.tmp rfl rfl)) ?_
 refine RK.c (S.lenM si22 .none rfl (.tmp rfl rfl)) ?_
 refine RK.c (S.neq .none rfl (.tmp rfl rfl) (.tmp rfl rfl)) ?_
 refine RK.nil (Ab.D.code ?_)
 refine OK.condD rfl rfl (fun c10 => ?_) (fun c10 => ?_)
 ·
  refine OK.seq (OK.reg ?_)
  refine RK.c (S.assign .none rfl .cbool) ?_
  refine RK.nil (Ab.D.code ?_)
  refine OK.ret (Ret.r1 (.tmp rfl rfl (.c (.same rfl) rfl) rfl) ?_)
  exact ret_b (same_lenG (by omega))
 ·
  have hll : a.length = b.length := by omega
  refine OK.skip ?_
  refine Ab.D.code (OK.seq (OK.seq (OK.reg ?_)))
  refine RK.c (S.assign .none rfl (.cint rfl)) ?_
  refine RK.nil (Ab.D.code ?_)
  refine OK.block ?_
  refine OK.loop (G := Nat) [] (fun i => [(0, .sl (a.map Job.cs)), (1, .sl (b.map Job.cs)), (5, .int .i64 i)]) (fun i => i ≤ a.length ∧ ∀ (m : Nat) (h1 : m < a.length) (h2 : m < b.length), m < i → a[m] = b[m]) (fun i => a.length - i) 0 ⟨Nat.zero_le _, fun m _ _ h => absurd h (by omega)⟩ ⟨rfl, rfl, rfl, trivial⟩ (fun _ => rfl) ?_
  rintro i ⟨hi, hg⟩
  refine OK.seq (OK.seq (OK.reg ?_))
  refine RK.c (S.move .none rfl (.tmp rfl rfl)) ?_
  refine RK.c (S.move .none rfl (.tmp rfl rfl)) ?_
  refine RK.c (S.lenM si22 .none rfl (.tmp rfl rfl)) ?_
  refine RK.c (S.lss .none rfl (.tmp rfl rfl) (.tmp rfl rfl)) ?_
  refine RK.nil (Ab.D.code ?_)
  refine OK.condD rfl rfl (fun c14 => ?_) (fun c14 => ?_)
  ·
   have hia : i < a.length := by omega
   have hib : i < b.length := by omega
   refine OK.skip ?_
   refine Ab.D.code ?_
   refine OK.seq ?_
   refine OK.block ?_
   refine OK.seq ?_
   refine OK.regionDraw follows (.c (S.move .none rfl (.tmp rfl rfl))
    (.c (S.move .none rfl (.tmp rfl rfl))
    (.c (S.indexM (n := i) si22 .none rfl (.tmp rfl rfl) (.tmp rfl rfl) rfl (by omega) rfl)
    (.c (S.loadN ti114 .none rfl (.tmp rfl rfl) rfl rfl)
    (.c (S.move .none rfl (.tmp rfl rfl))
    (.c (S.move .none rfl (.tmp rfl rfl))
    (.c (S.indexM (n := i) si22 .none rfl (.tmp rfl rfl) (.tmp rfl rfl) rfl (by omega) rfl)
    (.c (S.loadN ti114 .none rfl (.tmp rfl rfl) rfl rfl)
    (.c (S.pneq (b := decide (a[i] ≠ b[i])) [.s [], .i 0, .i 0, .i 0] [.s a[i].name, .i a[i].setup, .i a[i].ticks, .i a[i].due] [.s b[i].name, .i b[i].setup, .i b[i].ticks, .i b[i].due] eqp114 .none rfl (.tmp rfl rfl) (.tmp rfl rfl) rfl rfl rfl rfl job_pneq)
    .nil))))))))) (by kernel_rfl) ?_
   refine Ab.D.code ?_
   refine OK.condD rfl rfl (fun c25 => ?_) (fun c25 => ?_)
   ·
    refine OK.seq (OK.reg ?_)
    refine RK.c (S.assign .none rfl .cbool) ?_
    refine RK.nil (Ab.D.code ?_)
    refine OK.ret (Ret.r1 (.tmp rfl rfl (.c (.same rfl) rfl) rfl) ?_)
    exact ret_b (same_atG hia hib c25)
   ·
    refine OK.skip ?_
    refine Ab.D.blk ?_
    refine Ab.D.code (OK.reg ?_)
    refine RK.c (S.move .none rfl (.tmp rfl rfl)) ?_
    refine RK.c (S.add .none rfl (.tmp rfl rfl) (.cint rfl) (IntWalk.i64_in _ (by omega)) (IntWalk.i64_in _ (by omega))) ?_
    refine RK.c (S.assign .none rfl (.tmp rfl rfl)) ?_
    refine RK.nil ?_
    refine Ab.D.lp ⟨i + 1, ⟨by omega, fun m h1 h2 h => by rcases Nat.lt_or_ge m i with q | q; exact hg m h1 h2 q; obtain rfl : m = i := (by omega); exact Decidable.not_not.1 c25⟩, (by omega), rfl, rfl, rfl, trivial⟩
  ·
   refine OK.exit rfl ?_
   refine Ab.D.code (OK.seq (OK.reg ?_))
   refine RK.c (S.assign .none rfl .cbool) ?_
   refine RK.nil (Ab.D.code ?_)
   refine OK.ret (Ret.r1 (.tmp rfl rfl (.c (.same rfl) rfl) rfl) ?_)
   exact ret_b (same_endG hll fun k h1 h2 => hg k h1 h2 (by omega))
end Go.Proofs.YtpfepjgnojfppaaGreatDoor
