import Derived.Test.YtpfepjgnojfppaaGreatDoorKh
import Derived.Test.YtpfepjgnojfppaaGreatDoorTz
namespace Go.Proofs.YtpfepjgnojfppaaGreatDoor
open Go.Ab
def fewJ (l : List Job) : Bool := decide (l.length ≤ 9) && l.all fun j => decide (j.name.length ≤ 30)
theorem all_dropG {α : Type} (g : α → Bool) {l : List α} {i : Nat} (h : i < l.length) : (l.drop i).all g = (g l[i] && (l.drop (i + 1)).all g) := by rw [List.drop_eq_getElem_cons h, List.all_cons]
theorem has_names (l : List Job) (s : List UInt8) : hasText (l.map (·.name)) s = l.any fun o => decide (o.name = s) := by
  unfold hasText
  rw [List.any_map]
  congr 1
  funext o
  exact decide_eq_decide.2 ⟨Eq.symm, Eq.symm⟩
theorem job_name {l : List Job} {i : Nat} {j : Job} (h : nameOk j.name = false) : jobE l i j = 4 := by rw [jobE, firstE3, h]; rfl
theorem job_dup {l : List Job} {i : Nat} {j : Job} (h : nameOk j.name = true) (h2 : (l.take i).any (fun o => decide (o.name = j.name)) = true) : jobE l i j = 5 := by rw [jobE, firstE3, h, h2]; rfl
theorem job_rng {l : List Job} {i : Nat} {j : Job} (h : nameOk j.name = true) (h2 : (l.take i).any (fun o => decide (o.name = j.name)) = false) (h3 : rightJ j = false) : jobE l i j = 2 := by rw [jobE, firstE3, h, h2, h3]; rfl
theorem job_fine {l : List Job} {i : Nat} {j : Job} (h : nameOk j.name = true) (h2 : (l.take i).any (fun o => decide (o.name = j.name)) = false) (h3 : rightJ j = true) : jobE l i j = 0 := by rw [jobE, firstE3, h, h2, h3]; rfl
theorem each_at {α : Type} {g : Nat → α → Int} {l : List α} {i : Nat} {e : Int} (hg : eachGo g 0 l = eachGo g i (l.drop i)) (hi : i < l.length) (he : g i l[i] = e) (h0 : e ≠ 0) : eachGo g 0 l = ((i : Int), e) := by rw [hg, eachGo_drop _ hi, he, if_pos h0]
theorem each_on {α : Type} {g : Nat → α → Int} {l : List α} {i : Nat} (hg : eachGo g 0 l = eachGo g i (l.drop i)) (hi : i < l.length) (he : g i l[i] = 0) : eachGo g 0 l = eachGo g (i + 1) (l.drop (i + 1)) := by rw [hg, eachGo_drop _ hi, he, if_neg (by decide)]
theorem each_end {α : Type} {g : Nat → α → Int} {l : List α} {i : Nat} (hg : eachGo g 0 l = eachGo g i (l.drop i)) (hi : i = l.length) : eachGo g 0 l = (0, 0) := by rw [hg, hi, List.drop_length]; rfl
theorem jobs_is {l : List Job} (h : 1 ≤ l.length ∧ l.length ≤ 7) : jobsChk l = eachGo (jobE l) 0 l := by rw [jobsChk, if_neg (by omega), if_neg (by omega)]
theorem law9_fewJobs {l : List Job} : Ct Tryz.prog 13 [.sl (l.map Job.cs)] (.bool (fewJ l)) := by
 refine Ct.intro (rs := [.tmp 2]) Tryz.func13 rfl Tryz.ntmps13 Tryz.results13 rfl rfl rfl fun w h => ?_
 refine OK.slLen (rows := l.map Job.cs) (t := 0) rfl rfl fun hlen => ?_
 rw [List.length_map] at hlen
 unfold maxLen at hlen
 refine OK.seq (OK.reg ?_)
 refine RK.c (S.assign .none rfl .cbool) ?_
 refine RK.nil (Ab.D.code (OK.seq (OK.seq (OK.reg ?_))))
 refine RK.c (S.move .none rfl (.tmp rfl rfl)) ?_
 refine RK.c (S.lenM si22 .none rfl (.tmp rfl rfl)) ?_
 refine RK.c (S.gtr .none rfl (.tmp rfl rfl) (.cint rfl)) ?_
 refine RK.nil (Ab.D.code ?_)
 refine OK.condD rfl rfl (fun c6 => ?_) (fun c6 => ?_)
 ·
  refine OK.seq (OK.reg ?_)
  refine RK.c (S.assign .none rfl .cbool) ?_
  refine RK.nil (Ab.D.code ?_)
  refine OK.ret (Ret.r1 (.tmp rfl rfl (.c (.same rfl) rfl) rfl) ?_)
  refine ret_b ?_
  unfold fewJ
  rw [decide_eq_false (by omega)]
  rfl
 ·
  refine OK.skip ?_
  refine Ab.D.code (OK.seq (OK.seq (OK.reg ?_)))
  refine RK.c (S.assign .none rfl (.cint rfl)) ?_
  refine RK.nil (Ab.D.code ?_)
  refine OK.block ?_
  refine OK.loop (G := Nat) [] (fun i => [(0, .sl (l.map Job.cs)), (3, .int .i64 i)]) (fun i => i ≤ l.length ∧ (l.all fun j => decide (j.name.length ≤ 30)) = (l.drop i).all fun j => decide (j.name.length ≤ 30)) (fun i => l.length - i) 0 ⟨Nat.zero_le _, rfl⟩ ⟨rfl, rfl, trivial⟩ (fun _ => rfl) ?_
  rintro i ⟨hi, hg⟩
  refine OK.seq (OK.seq (OK.reg ?_))
  refine RK.c (S.move .none rfl (.tmp rfl rfl)) ?_
  refine RK.c (S.move .none rfl (.tmp rfl rfl)) ?_
  refine RK.c (S.lenM si22 .none rfl (.tmp rfl rfl)) ?_
  refine RK.c (S.lss .none rfl (.tmp rfl rfl) (.tmp rfl rfl)) ?_
  refine RK.nil (Ab.D.code ?_)
  refine OK.condD rfl rfl (fun c10 => ?_) (fun c10 => ?_)
  ·
   refine OK.skip ?_
   refine Ab.D.code ?_
   refine OK.seq ?_
   refine OK.block ?_
   refine OK.seq (OK.reg ?_)
   refine RK.c (S.move .none rfl (.tmp rfl rfl)) ?_
   refine RK.c (S.move .none rfl (.tmp rfl rfl)) ?_
   refine RK.c (S.indexM (n := i) si22 .none rfl (.tmp rfl rfl) (.tmp rfl rfl) rfl (by omega) rfl) ?_
   refine RK.c (S.field fi114_0 .none rfl (.tmp rfl rfl) rfl) ?_
   refine RK.c (S.load1 ti9 .none rfl (.tmp rfl rfl) rfl) ?_
   refine RK.c (S.slen Tryz.underlying9 .none rfl (.tmp rfl rfl)) ?_
   refine RK.c (S.gtr .none rfl (.tmp rfl rfl) (.cint rfl)) ?_
   refine RK.nil (Ab.D.code ?_)
   refine OK.condD rfl rfl (fun c19 => ?_) (fun c19 => ?_)
   ·
    refine OK.seq (OK.reg ?_)
    refine RK.c (S.assign .none rfl .cbool) ?_
    refine RK.nil (Ab.D.code ?_)
    refine OK.ret (Ret.r1 (.tmp rfl rfl (.c (.same rfl) rfl) rfl) ?_)
    refine ret_b ?_
    unfold fewJ
    rw [hg, all_dropG _ (show i < l.length by omega), decide_eq_false (show ¬ l[i].name.length ≤ 30 by omega), Bool.false_and, Bool.and_false]
   ·
    refine OK.skip ?_
    refine Ab.D.blk ?_
    refine Ab.D.code (OK.reg ?_)
    refine RK.c (S.move .none rfl (.tmp rfl rfl)) ?_
    refine RK.c (S.add .none rfl (.tmp rfl rfl) (.cint rfl) (IntWalk.i64_in _ (by omega)) (IntWalk.i64_in _ (by omega))) ?_
    refine RK.c (S.assign .none rfl (.tmp rfl rfl)) ?_
    refine RK.nil ?_
    refine Ab.D.lp ⟨i + 1, ⟨by omega, ?_⟩, (by omega), rfl, rfl, trivial⟩
    rw [hg, all_dropG _ (by omega), decide_eq_true (by omega), Bool.true_and]
  ·
   refine OK.exit rfl ?_
   refine Ab.D.code (OK.seq (OK.reg ?_))
   refine RK.c (S.assign .none rfl .cbool) ?_
   refine RK.nil (Ab.D.code ?_)
   refine OK.ret (Ret.r1 (.tmp rfl rfl (.c (.same rfl) rfl) rfl) ?_)
   refine ret_b ?_
   unfold fewJ
   rw [hg, show i = l.length by omega, List.drop_length, decide_eq_true (by omega)]
   rfl
theorem ref9_CheckJobs {l : List Job} : Ct Tryz.prog 48 [.sl (l.map Job.cs)] (pair (jobsChk l)) := by
 refine Ct.intro (rs := [.tmp 2, .tmp 3]) Tryz.func48 rfl Tryz.ntmps48 Tryz.results48 rfl rfl rfl fun w h => ?_
 refine OK.seq (OK.reg ?_)
 refine RK.c (S.assign .none rfl (.cint rfl)) ?_
 refine RK.c (S.assign .none rfl (.cint rfl)) ?_
 refine RK.nil (Ab.D.code (OK.seq (OK.seq (OK.reg ?_))))
 refine RK.c (S.move .none rfl (.tmp rfl rfl)) ?_
 refine RK.c (S.lenM si22 .none rfl (.tmp rfl rfl)) ?_
 refine RK.c (S.eql .none rfl (.tmp rfl rfl) (.cint rfl)) ?_
 refine RK.nil (Ab.D.code ?_)
 refine OK.condD rfl rfl (fun c9 => ?_) (fun c9 => ?_)
 ·
  refine OK.seq (OK.reg ?_)
  refine RK.c (S.assign .none rfl (.cint rfl)) ?_
  refine RK.c (S.assign .none rfl (.cint rfl)) ?_
  refine RK.nil (Ab.D.code ?_)
  refine OK.ret (Ret.r2 (.tmp rfl rfl (.c (.same rfl) rfl) rfl) (.tmp rfl rfl (.c (.same rfl) rfl) rfl) ?_)
  refine ret_p ?_
  rw [jobsChk, if_pos (by omega)]
 ·
  refine OK.skip ?_
  refine Ab.D.code (OK.seq (OK.seq (OK.reg ?_)))
  refine RK.c (S.move .none rfl (.tmp rfl rfl)) ?_
  refine RK.c (S.lenM si22 .none rfl (.tmp rfl rfl)) ?_
  refine RK.c (S.gtr .none rfl (.tmp rfl rfl) (.cint rfl)) ?_
  refine RK.nil (Ab.D.code ?_)
  refine OK.condD rfl rfl (fun c12 => ?_) (fun c12 => ?_)
  ·
   refine OK.seq (OK.reg ?_)
   refine RK.c (S.assign .none rfl (.cint rfl)) ?_
   refine RK.c (S.assign .none rfl (.cint rfl)) ?_
   refine RK.nil (Ab.D.code ?_)
   refine OK.ret (Ret.r2 (.tmp rfl rfl (.c (.same rfl) rfl) rfl) (.tmp rfl rfl (.c (.same rfl) rfl) rfl) ?_)
   refine ret_p ?_
   rw [jobsChk, if_neg (by omega), if_pos (by omega)]
  ·
   refine OK.skip ?_
   refine Ab.D.code (OK.seq (OK.reg ?_))
   refine RK.c (S.nilOwn (k := 4) (sz := 1) .none rfl) ?_
   refine RK.nil (Ab.D.code (OK.seq (OK.seq (OK.reg ?_))))
   refine RK.c (S.assign .none rfl (.cint rfl)) ?_
   refine RK.nil (Ab.D.code ?_)
   refine OK.block ?_
   refine OK.loop (G := Nat) [4] (fun i => [(0, .sl (l.map Job.cs)), (4, .own 4 i), (2004, .arr 1 (((l.take i).map (·.name)).map fun s => [.str s])), (5, .int .i64 i)]) (fun i => i ≤ l.length ∧ eachGo (jobE l) 0 l = eachGo (jobE l) i (l.drop i)) (fun i => l.length - i) 0 ⟨Nat.zero_le _, rfl⟩ ⟨rfl, (lk_own (by first | rfl | (simp; done) | (simp; omega))), (lk_arr (by first | rfl | (simp; done) | (simp; omega))), rfl, trivial⟩ (fun _ => rfl) ?_
   rintro i ⟨hi, hg⟩
   refine OK.seq (OK.seq (OK.reg ?_))
   refine RK.c (S.move .none rfl (.tmp rfl rfl)) ?_
   refine RK.c (S.move .none rfl (.tmp rfl rfl)) ?_
   refine RK.c (S.lenM si22 .none rfl (.tmp rfl rfl)) ?_
   refine RK.c (S.lss .none rfl (.tmp rfl rfl) (.tmp rfl rfl)) ?_
   refine RK.nil (Ab.D.code ?_)
   refine OK.condD rfl rfl (fun c16 => ?_) (fun c16 => ?_)
   ·
    have hnt : ((l.take i).map (·.name)).length = i := by simp; omega
    have hjs := jobs_is (l := l) (by omega)
    have hhn := has_names (l.take i) l[i].name
    refine OK.skip ?_
    refine Ab.D.code ?_
    refine OK.seq ?_
    refine OK.block ?_
    refine OK.seq (OK.reg ?_)
    refine RK.c (S.move .none rfl (.tmp rfl rfl)) ?_
    refine RK.c (S.move .none rfl (.tmp rfl rfl)) ?_
    refine RK.c (S.indexM (n := i) si22 .none rfl (.tmp rfl rfl) (.tmp rfl rfl) rfl (by omega) rfl) ?_
    refine RK.c (S.loadN ti114 .none rfl (.tmp rfl rfl) rfl rfl) ?_
    refine RK.c (S.alloc (k := 6) ze114 rfl .none rfl) ?_
    refine RK.c (S.store ti114 .none (.tmp rfl rfl) (.tmp rfl rfl) rfl rfl rfl rfl rfl rfl) ?_
    refine RK.nil (Ab.D.code (OK.seq (OK.seq (OK.reg ?_))))
    refine RK.c (S.bfield fi114_0 .none rfl (.tmp rfl rfl)) ?_
    refine RK.c (S.bload1 ti9 .none rfl (.tmp rfl rfl) rfl rfl rfl rfl) ?_
    refine RK.c (S.call (base_IsName) Tryz.call67 .none rfl (.cons (.tmp rfl rfl) .nil) rfl) ?_
    refine RK.c (S.not .none rfl (.tmp rfl rfl)) ?_
    refine RK.nil (Ab.D.code ?_)
    refine OK.cond rfl rfl (fun c26 => ?_) (fun c26 => ?_)
    ·
     refine OK.seq (OK.reg ?_)
     refine RK.c (S.move .none rfl (.tmp rfl rfl)) ?_
     refine RK.c (S.assign .none rfl (.tmp rfl rfl)) ?_
     refine RK.c (S.assign .none rfl (.cint rfl)) ?_
     refine RK.nil (Ab.D.code ?_)
     refine OK.ret (Ret.r2 (.tmp rfl rfl (.c (.same rfl) rfl) rfl) (.tmp rfl rfl (.c (.same rfl) rfl) rfl) ?_)
     refine ret_p ?_
     rw [hjs, each_at hg (by omega) (job_name (by simpa using c26)) (by decide)]
    ·
     refine OK.skip ?_
     refine Ab.D.code (OK.seq (OK.seq (OK.reg ?_)))
     refine RK.c (S.move .none rfl (.tmp rfl rfl)) ?_
     refine RK.c (S.bfield fi114_0 .none rfl (.tmp rfl rfl)) ?_
     refine RK.c (S.bload1 ti9 .none rfl (.tmp rfl rfl) rfl rfl rfl rfl) ?_
     refine RK.c (S.callL (base_HasText (l := (l.take i).map (·.name))) Tryz.call40 .none rfl (.cons (.tmp rfl rfl) (.cons (.tmp rfl rfl) .nil)) (.cons (.p (.own rfl (by simp; omega)) rfl) (.cons (.same rfl) .nil)) rfl) ?_
     refine RK.nil (Ab.D.code ?_)
     refine OK.cond rfl rfl (fun c31 => ?_) (fun c31 => ?_)
     ·
      have hdu := hhn.symm.trans c31
      refine OK.seq (OK.reg ?_)
      refine RK.c (S.move .none rfl (.tmp rfl rfl)) ?_
      refine RK.c (S.assign .none rfl (.tmp rfl rfl)) ?_
      refine RK.c (S.assign .none rfl (.cint rfl)) ?_
      refine RK.nil (Ab.D.code ?_)
      refine OK.ret (Ret.r2 (.tmp rfl rfl (.c (.same rfl) rfl) rfl) (.tmp rfl rfl (.c (.same rfl) rfl) rfl) ?_)
      refine ret_p ?_
      rw [hjs, each_at hg (by omega) (job_dup (by simpa using c26) hdu) (by decide)]
     ·
      have hdn := hhn.symm.trans c31
      refine OK.skip ?_
      refine Ab.D.code (OK.seq (OK.seq (OK.reg ?_)))
      refine RK.c (S.bfield fi114_1 .none rfl (.tmp rfl rfl)) ?_
      refine RK.c (S.bload1 ti3 .none rfl (.tmp rfl rfl) rfl rfl rfl rfl) ?_
      refine RK.c (S.call (base_Within) Tryz.call43 .none rfl (.cons (.tmp rfl rfl) (.cons (.cint rfl) (.cons (.cint rfl) .nil))) rfl) ?_
      refine RK.c (S.notD .none rfl (.tmp rfl rfl)) ?_
      refine RK.c (S.move .none rfl (.tmp rfl rfl)) ?_
      refine RK.splitD (t := 37) rfl (fun g37 => ?_) (fun g37 => ?_)
      ·
       refine RK.c (S.skip rfl rfl rfl rfl rfl) ?_
       refine RK.c (S.skip rfl rfl rfl rfl rfl) ?_
       refine RK.c (S.skip rfl rfl rfl rfl rfl) ?_
       refine RK.c (S.skip rfl rfl rfl rfl rfl) ?_
       refine RK.c (S.pickT .none rfl (.tmp rfl rfl) .cbool rfl) ?_
       refine RK.c (S.move .none rfl (.tmp rfl rfl)) ?_
       refine RK.c (S.skip rfl rfl rfl rfl rfl) ?_
       refine RK.c (S.skip rfl rfl rfl rfl rfl) ?_
       refine RK.c (S.skip rfl rfl rfl rfl rfl) ?_
       refine RK.c (S.skip rfl rfl rfl rfl rfl) ?_
       refine RK.c (S.pickT .none rfl (.tmp rfl rfl) .cbool rfl) ?_
       refine RK.nil (Ab.D.code ?_)
       refine OK.condT rfl rfl rfl ?_
       refine OK.seq (OK.reg ?_)
       refine RK.c (S.move .none rfl (.tmp rfl rfl)) ?_
       refine RK.c (S.assign .none rfl (.tmp rfl rfl)) ?_
       refine RK.c (S.assign .none rfl (.cint rfl)) ?_
       refine RK.nil (Ab.D.code ?_)
       refine OK.ret (Ret.r2 (.tmp rfl rfl (.c (.same rfl) rfl) rfl) (.tmp rfl rfl (.c (.same rfl) rfl) rfl) ?_)
       refine ret_p ?_
       rw [hjs, each_at hg (by omega) (job_rng (by simpa using c26) hdn (by unfold rightJ; simp only [Bool.and_eq_false_iff, decide_eq_false_iff_not]; omega)) (by decide)]
      ·
       refine RK.c (S.bfield fi114_2 (.yes rfl rfl rfl rfl) rfl (.tmp rfl rfl)) ?_
       refine RK.c (S.bload1 ti3 (.yes rfl rfl rfl rfl) rfl (.tmp rfl rfl) rfl rfl rfl rfl) ?_
       refine RK.c (S.call (base_Within) Tryz.call43 (.yes rfl rfl rfl rfl) rfl (.cons (.tmp rfl rfl) (.cons (.cint rfl) (.cons (.cint rfl) .nil))) rfl) ?_
       refine RK.c (S.notD (.yes rfl rfl rfl rfl) rfl (.tmp rfl rfl)) ?_
       refine RK.c (S.pickF .none rfl (.tmp rfl rfl) (.tmp rfl rfl) rfl) ?_
       refine RK.c (S.move .none rfl (.tmp rfl rfl)) ?_
       refine RK.splitD (t := 43) rfl (fun g43 => ?_) (fun g43 => ?_)
       ·
        refine RK.c (S.skip rfl rfl rfl rfl rfl) ?_
        refine RK.c (S.skip rfl rfl rfl rfl rfl) ?_
        refine RK.c (S.skip rfl rfl rfl rfl rfl) ?_
        refine RK.c (S.skip rfl rfl rfl rfl rfl) ?_
        refine RK.c (S.pickT .none rfl (.tmp rfl rfl) .cbool rfl) ?_
        refine RK.nil (Ab.D.code ?_)
        refine OK.condT rfl rfl rfl ?_
        refine OK.seq (OK.reg ?_)
        refine RK.c (S.move .none rfl (.tmp rfl rfl)) ?_
        refine RK.c (S.assign .none rfl (.tmp rfl rfl)) ?_
        refine RK.c (S.assign .none rfl (.cint rfl)) ?_
        refine RK.nil (Ab.D.code ?_)
        refine OK.ret (Ret.r2 (.tmp rfl rfl (.c (.same rfl) rfl) rfl) (.tmp rfl rfl (.c (.same rfl) rfl) rfl) ?_)
        refine ret_p ?_
        rw [hjs, each_at hg (by omega) (job_rng (by simpa using c26) hdn (by unfold rightJ; simp only [Bool.and_eq_false_iff, decide_eq_false_iff_not]; omega)) (by decide)]
       ·
        refine RK.c (S.bfield fi114_3 (.yes rfl rfl rfl rfl) rfl (.tmp rfl rfl)) ?_
        refine RK.c (S.bload1 ti3 (.yes rfl rfl rfl rfl) rfl (.tmp rfl rfl) rfl rfl rfl rfl) ?_
        refine RK.c (S.call (ref9_isTicks) Tryz.call100 (.yes rfl rfl rfl rfl) rfl (.cons (.tmp rfl rfl) .nil) rfl) ?_
        refine RK.c (S.notD (.yes rfl rfl rfl rfl) rfl (.tmp rfl rfl)) ?_
        refine RK.c (S.pickF .none rfl (.tmp rfl rfl) (.tmp rfl rfl) rfl) ?_
        refine RK.nil (Ab.D.code ?_)
        refine OK.condD rfl rfl (fun c48 => ?_) (fun c48 => ?_)
        ·
         refine OK.seq (OK.reg ?_)
         refine RK.c (S.move .none rfl (.tmp rfl rfl)) ?_
         refine RK.c (S.assign .none rfl (.tmp rfl rfl)) ?_
         refine RK.c (S.assign .none rfl (.cint rfl)) ?_
         refine RK.nil (Ab.D.code ?_)
         refine OK.ret (Ret.r2 (.tmp rfl rfl (.c (.same rfl) rfl) rfl) (.tmp rfl rfl (.c (.same rfl) rfl) rfl) ?_)
         refine ret_p ?_
         rw [hjs, each_at hg (by omega) (job_rng (by simpa using c26) hdn (by unfold rightJ; simp only [Bool.and_eq_false_iff, decide_eq_false_iff_not]; omega)) (by decide)]
        ·
         refine OK.skip ?_
         refine Ab.D.code (OK.reg ?_)
         refine RK.c (S.move .none rfl (.tmp rfl rfl)) ?_
         refine RK.c (S.bfield fi114_0 .none rfl (.tmp rfl rfl)) ?_
         refine RK.c (S.bload1 ti9 .none rfl (.tmp rfl rfl) rfl rfl rfl rfl) ?_
         refine RK.c (S.mkSlice (k := 53) (rows := [[_]]) ai64 .none rfl (.cons (.tmp rfl rfl) .nil) rfl rfl rfl rfl rfl rfl rfl) ?_
         refine RK.c (S.append ai64 .none rfl (.tmp rfl rfl) rfl (by simp; omega) (.tmp rfl rfl) rfl (by first | rfl | (simp; done) | (simp; omega)) (by omega) (by simp only [maxLen]; omega)) ?_
         refine RK.c (S.assign .none rfl (.tmp rfl rfl)) ?_
         refine RK.nil ?_
         refine Ab.D.blk ?_
         refine Ab.D.code (OK.reg ?_)
         refine RK.c (S.move .none rfl (.tmp rfl rfl)) ?_
         refine RK.c (S.add .none rfl (.tmp rfl rfl) (.cint rfl) (IntWalk.i64_in _ (by omega)) (IntWalk.i64_in _ (by omega))) ?_
         refine RK.c (S.assign .none rfl (.tmp rfl rfl)) ?_
         refine RK.nil ?_
         refine Ab.D.lp ⟨i + 1, ⟨by omega, each_on hg (by omega) (job_fine (by simpa using c26) hdn (by unfold rightJ; simp only [Bool.and_eq_true, decide_eq_true_eq]; omega))⟩, (by omega), rfl, (lk_own (by omega)), (lk_arr (by rw [List.take_succ_eq_append_getElem (by omega), List.map_append, List.map_append]; rfl)), rfl, trivial⟩
   ·
    refine OK.exit rfl ?_
    refine Ab.D.code (OK.seq (OK.reg ?_))
    refine RK.c (S.assign .none rfl (.cint rfl)) ?_
    refine RK.c (S.assign .none rfl (.cint rfl)) ?_
    refine RK.nil (Ab.D.code ?_)
    refine OK.ret (Ret.r2 (.tmp rfl rfl (.c (.same rfl) rfl) rfl) (.tmp rfl rfl (.c (.same rfl) rfl) rfl) ?_)
    refine ret_p ?_
    rw [jobs_is (by omega), each_end hg (by omega)]
theorem ref9_JobsErr {l : List Job} : Ct Tryz.prog 25 [.sl (l.map Job.cs)] (.int .i64 (jobsChk l).2) := by
 refine Ct.intro (rs := [.tmp 2]) Tryz.func25 rfl Tryz.ntmps25 Tryz.results25 rfl rfl rfl fun w h => ?_
 refine OK.seq (OK.reg ?_)
 refine RK.c (S.assign .none rfl (.cint rfl)) ?_
 refine RK.nil (Ab.D.code (OK.seq (OK.reg ?_)))
 refine RK.c (S.move .none rfl (.tmp rfl rfl)) ?_
 refine RK.c (S.call (ref9_CheckJobs) Tryz.call48 .none rfl (.cons (.tmp rfl rfl) .nil) rfl) ?_
 refine RK.c (S.move .none rfl (.tmp rfl rfl)) ?_
 refine RK.c (S.extract .none rfl (.tmp rfl rfl) rfl rfl) ?_
 refine RK.c (S.extract .none rfl (.tmp rfl rfl) rfl rfl) ?_
 refine RK.c (S.assign .none rfl (.tmp rfl rfl)) ?_
 refine RK.c (S.assign .none rfl (.tmp rfl rfl)) ?_
 refine RK.nil (Ab.D.code (OK.seq (OK.reg ?_)))
 refine RK.c (S.move .none rfl (.tmp rfl rfl)) ?_
 refine RK.c (S.assign .none rfl (.tmp rfl rfl)) ?_
 refine RK.nil (Ab.D.code ?_)
 refine OK.ret (Ret.r1 (.tmp rfl rfl (.c (.same rfl) rfl) rfl) ?_)
 rfl
end Go.Proofs.YtpfepjgnojfppaaGreatDoor
