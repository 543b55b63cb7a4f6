import Derived.Test.YtpfepjgnojfppaaGreatDoorGs
import Derived.Test.YtpfepjgnojfppaaGreatDoorLc
import Derived.Test.YtpfepjgnojfppaaGreatDoorTz
namespace Go.Proofs.YtpfepjgnojfppaaGreatDoor
open Go.Ab
theorem jobs_rep {l : List Job} (h : IsRep (.sl (l.map Job.cs))) : ∀ j ∈ l, IntKind.i64.wrap j.setup = j.setup ∧ IntKind.i64.wrap j.ticks = j.ticks ∧ IntKind.i64.wrap j.due = j.due := by
  intro j hj
  have g : ∀ x ∈ j.cs, IsRep x := fun x hx => h.mem (List.mem_flatten.2 ⟨j.cs, List.mem_map.2 ⟨j, hj, rfl⟩, hx⟩)
  exact ⟨(g _ (by simp [Job.cs])).int, (g _ (by simp [Job.cs])).int, (g _ (by simp [Job.cs])).int⟩
def jobI (j : Job) : List Int := [j.setup, j.ticks, j.due]
def jobW (j : Job) (k : Nat) : List (List UInt8) := j.name :: ((jobI j).map Lib.itoa).take k
theorem jobI_at {j : Job} {k : Nat} (h : k < 3) : ((jobI j).map (X.int .i64))[k]? = some (X.int .i64 ((jobI j).getD k 0)) := by
  match k, h with
  | 0, _ => rfl
  | 1, _ => rfl
  | 2, _ => rfl
theorem jobI_w {j : Job} (h : IntKind.i64.wrap j.setup = j.setup ∧ IntKind.i64.wrap j.ticks = j.ticks ∧ IntKind.i64.wrap j.due = j.due) {k : Nat} (hk : k < 3) : IntKind.i64.wrap ((jobI j).getD k 0) = (jobI j).getD k 0 := by
  match k, hk with
  | 0, _ => exact h.1
  | 1, _ => exact h.2.1
  | 2, _ => exact h.2.2
theorem jobW_len {j : Job} {k : Nat} (h : k ≤ 3) : (jobW j k).length = k + 1 := by
  unfold jobW jobI
  simp
  omega
theorem jobW_succ {j : Job} {k : Nat} (h : k < 3) : jobW j (k + 1) = jobW j k ++ [Lib.itoa ((jobI j).getD k 0)] := by
  match k, h with
  | 0, _ => rfl
  | 1, _ => rfl
  | 2, _ => rfl
theorem jobStr_len {j : Job} (h : IntKind.i64.wrap j.setup = j.setup ∧ IntKind.i64.wrap j.ticks = j.ticks ∧ IntKind.i64.wrap j.due = j.due) (h2 : j.name.length ≤ 30) : (jobStr j).length ≤ 96 := by
  unfold jobStr
  rw [four_len]
  have h3 := itoa_len h.1
  have h4 := itoa_len h.2.1
  have h5 := itoa_len h.2.2
  omega
theorem few_all {l : List Job} (h : fewJ l = true) : l.length ≤ 9 ∧ ∀ j ∈ l, j.name.length ≤ 30 := by
  unfold fewJ at h
  rw [Bool.and_eq_true, decide_eq_true_eq, List.all_eq_true] at h
  exact ⟨h.1, fun j hj => of_decide_eq_true (h.2 j hj)⟩
theorem fmtJobs_len {l : List Job} (h1 : l.length ≤ 9) (h2 : ∀ j ∈ l, (jobStr j).length ≤ 96) : (fmtJobs l).length ≤ 9 * 97 := join_bd (B := 96) (fun w hw => by obtain ⟨j, hj, rfl⟩ := List.mem_map.1 hw; exact h2 j hj) (by rw [List.length_map]; exact h1) rfl
theorem shp_FormatJobs {l : List Job} (hf : fewJ l = true) : CtT Tryz.prog 58 [.sl (l.map Job.cs)] (.str (fmtJobs l)) := by
 refine CtT.intro (rs := [.tmp 2]) Tryz.func58 rfl Tryz.ntmps58 Tryz.results58 rfl rfl rfl fun w h hT => ?_
 obtain ⟨hlen, hnm⟩ := few_all hf
 refine OK.slRep (t := 0) rfl rfl fun hR => ?_
 have hW := jobs_rep hR
 clear hR
 have hJL : ∀ j ∈ l, (jobStr j).length ≤ 96 := fun j hj => jobStr_len (hW j hj) (hnm j hj)
 refine OK.seq (OK.reg ?_)
 refine RK.c (S.assign .none rfl (.cstr (l := []) rfl (by decide))) ?_
 refine RK.nil (Ab.D.code (OK.seq (OK.reg ?_)))
 refine RK.c (S.nilOwn (k := 3) (sz := 1) .none rfl) ?_
 refine RK.nil (Ab.D.code (OK.seq (OK.seq (OK.reg ?_))))
 refine RK.c (S.move .none rfl (.tmp rfl rfl)) ?_
 refine RK.c (S.lenM si22 .none rfl (.tmp rfl rfl)) ?_
 refine RK.c (S.move .none rfl (.cint rfl)) ?_
 refine RK.nil (Ab.D.code ?_)
 refine OK.block ?_
 refine OK.loop (G := Nat) [3] (fun i => [(3, .own 3 i), (2003, .arr 1 (((l.take i).map jobStr).map fun s => [.str s])), (9, .sl (l.map Job.cs)), (10, .int .i64 l.length), (11, .int .i64 i)]) (fun i => i ≤ l.length) (fun i => l.length - i) 0 (Nat.zero_le _) ⟨(lk_own (by first | rfl | (simp; done) | (simp; omega))), (lk_arr (by first | rfl | (simp; done) | (simp; omega))), rfl, rfl, rfl, trivial⟩ (fun _ => rfl) ?_
 rintro i hi
 refine OK.seq (OK.reg ?_)
 refine RK.c (S.lss .none rfl (.tmp rfl rfl) (.tmp rfl rfl)) ?_
 refine RK.nil (Ab.D.code ?_)
 refine OK.seq ?_
 refine OK.condD rfl rfl (fun c12 => ?_) (fun c12 => ?_)
 ·
  have hil : i < l.length := by omega
  have hjm := List.getElem_mem hil
  have hjw := hW _ hjm
  refine OK.skip ?_
  refine Ab.D.code ?_
  refine OK.seq ?_
  refine OK.block ?_
  refine OK.seq (OK.reg ?_)
  refine RK.c (S.indexM si22 .none rfl (.tmp rfl rfl) (.tmp rfl rfl) rfl (by omega) rfl) ?_
  refine RK.c (S.loadN ti114 .none rfl (.tmp rfl rfl) rfl rfl) ?_
  refine RK.c (S.alloc (k := 5) ze114 rfl .none rfl) ?_
  refine RK.c (S.store ti114 .none (.tmp rfl rfl) (.tmp rfl rfl) rfl rfl rfl rfl rfl rfl) ?_
  refine RK.nil (Ab.D.code (OK.seq (OK.reg ?_)))
  refine RK.c (S.bfield fi114_0 .none rfl (.tmp rfl rfl)) ?_
  refine RK.c (S.bload1 ti9 .none rfl (.tmp rfl rfl) rfl rfl rfl rfl) ?_
  refine RK.c (S.mkSlice (k := 17) (rows := [[_]]) ai64 .none rfl (.cons (.tmp rfl rfl) .nil) rfl rfl rfl rfl rfl rfl rfl) ?_
  refine RK.c (S.assign .none rfl (.tmp rfl rfl)) ?_
  refine RK.nil (Ab.D.code (OK.seq (OK.seq (OK.reg ?_))))
  refine RK.c (S.bfield fi114_1 .none rfl (.tmp rfl rfl)) ?_
  refine RK.c (S.bload1 ti3 .none rfl (.tmp rfl rfl) rfl rfl rfl rfl) ?_
  refine RK.c (S.bfield fi114_2 .none rfl (.tmp rfl rfl)) ?_
  refine RK.c (S.bload1 ti3 .none rfl (.tmp rfl rfl) rfl rfl rfl rfl) ?_
  refine RK.c (S.bfield fi114_3 .none rfl (.tmp rfl rfl)) ?_
  refine RK.c (S.bload1 ti3 .none rfl (.tmp rfl rfl) rfl rfl rfl rfl) ?_
  refine RK.c (S.build bu166 rfl .none rfl (.cons (.tmp rfl rfl) (.cons (.tmp rfl rfl) (.cons (.tmp rfl rfl) .nil))) rfl rfl) ?_
  refine RK.c (S.move .none rfl (.cint rfl)) ?_
  refine RK.nil (Ab.D.code ?_)
  refine OK.block ?_
  refine OK.loop (G := Nat) [3, 17] (fun k => [(3, .own 3 i), (2003, .arr 1 (((l.take i).map jobStr).map fun s => [.str s])), (9, .sl (l.map Job.cs)), (10, .int .i64 l.length), (11, .int .i64 i), (6, .own 17 (k + 1)), (2017, .arr 1 ((jobW l[i] k).map fun s => [.str s])), (24, .agg ((jobI l[i]).map (X.int .i64))), (25, .int .i64 k)]) (fun k => k ≤ 3) (fun k => 3 - k) 0 (Nat.zero_le _) ⟨(lk_own (by first | rfl | (simp; done) | (simp; omega))), (lk_arr (by first | rfl | (simp; done) | (simp; omega))), rfl, rfl, rfl, rfl, rfl, rfl, rfl, trivial⟩ (fun _ => rfl) ?_
  rintro k hk
  refine OK.seq (OK.reg ?_)
  refine RK.c (S.lss .none rfl (.tmp rfl rfl) (.cint rfl)) ?_
  refine RK.nil (Ab.D.code ?_)
  refine OK.seq ?_
  refine OK.condD rfl rfl (fun c26 => ?_) (fun c26 => ?_)
  ·
   have hkw := jobI_w hjw (k := k) (by omega)
   refine OK.skip ?_
   refine Ab.D.code ?_
   refine OK.seq ?_
   refine OK.block ?_
   refine OK.seq (OK.reg ?_)
   refine RK.c (S.aggidx (i := k) Tryz.underlying166 ti3 .none rfl (.tmp rfl rfl) (.tmp rfl rfl) rfl (by omega) (jobI_at (by omega)) rfl) ?_
   refine RK.c (S.assign .none rfl (.tmp rfl rfl)) ?_
   refine RK.nil (Ab.D.code (OK.reg ?_))
   refine RK.c (S.move .none rfl (.tmp rfl rfl)) ?_
   refine RK.c (S.move .none rfl (.tmp rfl rfl)) ?_
   refine RK.c (S.callT (itoa_ct hkw) hT Tryz.call112 .none rfl (.cons (.tmp rfl rfl) .nil) rfl) ?_
   refine RK.c (S.mkSlice (k := 31) (rows := [[_]]) ai64 .none rfl (.cons (.tmp rfl rfl) .nil) rfl rfl rfl rfl rfl rfl rfl) ?_
   refine RK.c (S.append ai64 .none rfl (.tmp rfl rfl) rfl (by rw [List.length_map, jobW_len (by omega)]) (.tmp rfl rfl) rfl (by first | rfl | (simp; done) | (simp; omega)) (by omega) (by simp only [maxLen]; omega)) ?_
   refine RK.c (S.assign .none rfl (.tmp rfl rfl)) ?_
   refine RK.nil ?_
   refine Ab.D.blk ?_
   refine Ab.D.code (OK.reg ?_)
   refine RK.c (S.add .none rfl (.tmp rfl rfl) (.cint rfl) (IntWalk.i64_in _ (by omega)) (IntWalk.i64_in _ (by omega))) ?_
   refine RK.c (S.move .none rfl (.tmp rfl rfl)) ?_
   refine RK.nil ?_
   refine Ab.D.lp ⟨k + 1, (by omega), (by omega), (lk_own (by first | rfl | (simp; done) | (simp; omega))), (lk_arr (by first | rfl | (simp; done) | (simp; omega))), rfl, rfl, rfl, (lk_own (by omega)), (lk_arr (by rw [jobW_succ (by omega), List.map_append]; rfl)), rfl, rfl, trivial⟩
  ·
   refine OK.exit rfl ?_
   refine Ab.D.code ?_
   obtain rfl : k = 3 := by omega
   refine OK.reg ?_
   refine RK.c (S.move .none rfl (.tmp rfl rfl)) ?_
   refine RK.c (S.move .none rfl (.tmp rfl rfl)) ?_
   refine RK.c (S.callL (joinI.ct (l := jobW l[i] 3) (sep := [32]) (by rw [jobW_len (by omega)]; omega) (by show (jobStr l[i]).length ≤ _; have := hJL _ hjm; omega)) Tryz.call113 .none rfl (.cons (.tmp rfl rfl) (.cons (.cstr (l := [32]) rfl (by decide)) .nil)) (.cons (.p (.own rfl (by rw [List.length_map, jobW_len (by omega)])) rfl) (.cons (.same rfl) .nil)) rfl) ?_
   refine RK.c (S.mkSlice (k := 37) (rows := [[_]]) ai64 .none rfl (.cons (.tmp rfl rfl) .nil) rfl rfl rfl rfl rfl rfl rfl) ?_
   refine RK.c (S.append ai64 .none rfl (.tmp rfl rfl) rfl (by simp; omega) (.tmp rfl rfl) rfl (by first | rfl | (simp; done) | (simp; omega)) (by omega) (by simp only [maxLen]; omega)) ?_
   refine RK.c (S.assign .none rfl (.tmp rfl rfl)) ?_
   refine RK.nil ?_
   refine Ab.D.blk ?_
   refine Ab.D.code (OK.reg ?_)
   refine RK.c (S.add .none rfl (.tmp rfl rfl) (.cint rfl) (IntWalk.i64_in _ (by omega)) (IntWalk.i64_in _ (by omega))) ?_
   refine RK.c (S.move .none rfl (.tmp rfl rfl)) ?_
   refine RK.nil ?_
   refine Ab.D.lp ⟨i + 1, (by omega), (by omega), (lk_own (by omega)), (lk_arr (by rw [List.take_succ_eq_append_getElem (by omega), List.map_append, List.map_append]; rfl)), rfl, rfl, rfl, trivial⟩
 ·
  refine OK.exit rfl ?_
  refine Ab.D.code ?_
  refine OK.seq ?_
  rw [show i = l.length by omega, List.take_length]
  refine OK.reg ?_
  refine RK.c (S.move .none rfl (.tmp rfl rfl)) ?_
  refine RK.c (S.callL (joinI.ct (l := l.map jobStr) (sep := [59]) (by rw [List.length_map]; omega) (by have := fmtJobs_len hlen hJL; show (fmtJobs l).length ≤ _; omega)) Tryz.call113 .none rfl (.cons (.tmp rfl rfl) (.cons (.cstr (l := [59]) rfl (by decide)) .nil)) (.cons (.p (.own rfl (by simp)) rfl) (.cons (.same rfl) .nil)) rfl) ?_
  refine RK.c (S.assign .none rfl (.tmp rfl rfl)) ?_
  refine RK.nil (Ab.D.code ?_)
  refine OK.ret (Ret.r1 (.tmp rfl rfl (.c (.same rfl) rfl) rfl) ?_)
  rfl
end Go.Proofs.YtpfepjgnojfppaaGreatDoor
