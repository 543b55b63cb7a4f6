import Derived.Test.YtpfepjgnojfppaaGreatDoorGs
import Derived.Test.YtpfepjgnojfppaaGreatDoorLc
import Derived.Test.YtpfepjgnojfppaaGreatDoorTz
namespace Go.Proofs.YtpfepjgnojfppaaGreatDoor
open Go.Ab
theorem jobs_rep {l : List Job} (h : IsRep (.sl (l.map Job.cs))) : ∀ j ∈ l, IntKind.i64.wrap j.setup = j.setup ∧ IntKind.i64.wrap j.ticks = j.ticks ∧ IntKind.i64.wrap j.due = j.due := by
  intro j hj
  have g : ∀ x ∈ j.cs, IsRep x := fun x hx => h.mem (List.mem_flatten.2 ⟨j.cs, List.mem_map.2 ⟨j, hj, rfl⟩, hx⟩)
  exact ⟨(g _ (by simp [Job.cs])).int, (g _ (by simp [Job.cs])).int, (g _ (by simp [Job.cs])).int⟩
theorem bask_rep {l : List Basket} (h : IsRep (.sl (l.map Basket.cs))) : ∀ b ∈ l, ∀ s ∈ b.shares, IntKind.i64.wrap s.parts = s.parts := by
  intro b hb s hs
  have g : IsRep (.sl (b.shares.map Share.cs)) := h.mem (List.mem_flatten.2 ⟨b.cs, List.mem_map.2 ⟨b, hb, rfl⟩, List.mem_cons_self⟩)
  exact (g.mem (List.mem_flatten.2 ⟨s.cs, List.mem_map.2 ⟨s, hs, rfl⟩, by simp [Share.cs]⟩)).int
def jobI (j : Job) : List Int := [j.setup, j.ticks, j.due]
def jobW (j : Job) (k : Nat) : List (List UInt8) := j.name :: ((jobI j).map Lib.itoa).take k
theorem jobI_at {j : Job} {k : Nat} (h : k < 3) : ((jobI j).map (X.int .i64))[k]? = some (X.int .i64 ((jobI j).getD k 0)) := by
  match k, h with
  | 0, _ => rfl
  | 1, _ => rfl
  | 2, _ => rfl
theorem jobI_w {j : Job} (h : IntKind.i64.wrap j.setup = j.setup ∧ IntKind.i64.wrap j.ticks = j.ticks ∧ IntKind.i64.wrap j.due = j.due) {k : Nat} (hk : k < 3) : IntKind.i64.wrap ((jobI j).getD k 0) = (jobI j).getD k 0 := by
  match k, hk with
  | 0, _ => exact h.1
  | 1, _ => exact h.2.1
  | 2, _ => exact h.2.2
theorem jobW_len {j : Job} {k : Nat} (h : k ≤ 3) : (jobW j k).length = k + 1 := by
  unfold jobW jobI
  simp
  omega
theorem jobW_succ {j : Job} {k : Nat} (h : k < 3) : jobW j (k + 1) = jobW j k ++ [Lib.itoa ((jobI j).getD k 0)] := by
  match k, h with
  | 0, _ => rfl
  | 1, _ => rfl
  | 2, _ => rfl
theorem jobStr_len {j : Job} (h : IntKind.i64.wrap j.setup = j.setup ∧ IntKind.i64.wrap j.ticks = j.ticks ∧ IntKind.i64.wrap j.due = j.due) (h2 : j.name.length ≤ 30) : (jobStr j).length ≤ 96 := by
  unfold jobStr
  rw [four_len]
  have h3 := itoa_len h.1
  have h4 := itoa_len h.2.1
  have h5 := itoa_len h.2.2
  omega
theorem few_all {l : List Job} (h : fewJ l = true) : l.length ≤ 9 ∧ ∀ j ∈ l, j.name.length ≤ 30 := by
  unfold fewJ at h
  rw [Bool.and_eq_true, decide_eq_true_eq, List.all_eq_true] at h
  exact ⟨h.1, fun j hj => of_decide_eq_true (h.2 j hj)⟩
theorem fmtJobs_len {l : List Job} (h1 : l.length ≤ 9) (h2 : ∀ j ∈ l, (jobStr j).length ≤ 96) : (fmtJobs l).length ≤ 9 * 97 := join_bd (B := 96) (fun w hw => by obtain ⟨j, hj, rfl⟩ := List.mem_map.1 hw; exact h2 j hj) (by rw [List.length_map]; exact h1) rfl
theorem shareStr_len {s : Share} (h : IntKind.i64.wrap s.parts = s.parts) (h2 : s.lot.length ≤ 30) : (shareStr s).length ≤ 52 := by
  have := itoa_len h
  unfold shareStr
  simp only [List.length_append, List.length_cons, List.length_nil]
  omega
theorem fewB_all {l : List Basket} (h : fewB l = true) : l.length ≤ 65 ∧ ∀ b ∈ l, b.shares.length ≤ 10 ∧ ∀ s ∈ b.shares, s.lot.length ≤ 30 := by
  unfold fewB at h
  rw [Bool.and_eq_true, decide_eq_true_eq, List.all_eq_true] at h
  refine ⟨h.1, fun b hb => ?_⟩
  have h2 := h.2 b hb
  unfold fB at h2
  rw [Bool.and_eq_true, decide_eq_true_eq, List.all_eq_true] at h2
  exact ⟨h2.1, fun s hs => of_decide_eq_true (h2.2 s hs)⟩
theorem baskStr_len {b : Basket} (h1 : b.shares.length ≤ 10) (h2 : ∀ s ∈ b.shares, (shareStr s).length ≤ 52) : (baskStr b).length ≤ 10 * 53 := join_bd (B := 52) (fun w hw => by obtain ⟨j, hj, rfl⟩ := List.mem_map.1 hw; exact h2 j hj) (by rw [List.length_map]; exact h1) rfl
theorem fmtBask_len {l : List Basket} (h1 : l.length ≤ 65) (h2 : ∀ b ∈ l, (baskStr b).length ≤ 530) : (fmtBask l).length ≤ 65 * 531 := join_bd (B := 530) (fun w hw => by obtain ⟨j, hj, rfl⟩ := List.mem_map.1 hw; exact h2 j hj) (by rw [List.length_map]; exact h1) rfl
def fmtTo {α : Type} (f : α → List UInt8) (c : UInt8) (l : List α) (i : Nat) : List UInt8 := Lib.join ((l.take i).map f) [c]
theorem fmtTo_0 {α : Type} {f : α → List UInt8} {c : UInt8} {l : List α} {i : Nat} (h : i = 0) : fmtTo f c l i = [] := by rw [h]; rfl
theorem fmtTo_on {α : Type} {f : α → List UInt8} {c : UInt8} {l : List α} {i : Nat} (h : i < l.length) : fmtTo f c l (i + 1) = (if i = 0 then [] else fmtTo f c l i ++ [c]) ++ f l[i] := by
  unfold fmtTo
  rw [List.take_succ_eq_append_getElem h, List.map_append, List.map_cons, List.map_nil, join_snoc]
  by_cases h0 : i = 0
  · rw [if_pos h0, if_pos (by rw [h0]; rfl), List.nil_append]
  · rw [if_neg h0, if_neg (fun e => by have := congrArg List.length e; rw [List.length_map, List.length_take, List.length_nil] at this; omega), List.append_assoc]
theorem fmtTo_len {α : Type} {f : α → List UInt8} {c : UInt8} {l : List α} {i B : Nat} (h : ∀ x ∈ l, (f x).length ≤ B) : (fmtTo f c l i).length ≤ i * (B + 1) := join_bd (B := B) (fun w hw => by obtain ⟨j, hj, rfl⟩ := List.mem_map.1 hw; exact h j (List.mem_of_mem_take hj)) (by rw [List.length_map, List.length_take]; omega) rfl
theorem fmtTo_T {α : Type} {f : α → List UInt8} {c : UInt8} {l : List α} {i : Nat} (h : i < l.length) (h0 : ¬ i = 0) : fmtTo f c l (i + 1) = (fmtTo f c l i ++ [c]) ++ f l[i] := by rw [fmtTo_on h, if_neg h0]
theorem fmtTo_F {α : Type} {f : α → List UInt8} {c : UInt8} {l : List α} {i : Nat} (h : i < l.length) (h0 : i = 0) : fmtTo f c l (i + 1) = fmtTo f c l i ++ f l[i] := by rw [fmtTo_on h, if_pos h0, fmtTo_0 h0]
theorem fmtTo_z {α : Type} {f : α → List UInt8} {c : UInt8} {l : List α} : fmtTo f c l 0 = [] := rfl
theorem fmtTo_e {α : Type} {f : α → List UInt8} {c : UInt8} {l : List α} {i : Nat} (h : i = l.length) : fmtTo f c l i = Lib.join (l.map f) [c] := by unfold fmtTo; rw [h, List.take_length]
theorem jobStr4 (j : Job) : jobStr j = j.name ++ ([32] ++ (Lib.itoa j.setup ++ ([32] ++ (Lib.itoa j.ticks ++ ([32] ++ Lib.itoa j.due))))) := by
  unfold jobStr
  rw [join2, join2, join2, Lib.join_one]
theorem lkS {a b : List UInt8} (h : a = b) : some (X.str a) = some (X.str b) := by rw [h]
theorem shp_FormatJobs {l : List Job} (hf : fewJ l = true) : CtT Tryz.prog 58 [.sl (l.map Job.cs)] (.str (fmtJobs l)) := by
 refine CtT.intro (rs := [.tmp 2]) Tryz.func58 rfl Tryz.ntmps58 Tryz.results58 rfl rfl rfl fun w h hT => ?_
 obtain ⟨hlen, hnm⟩ := few_all hf
 refine OK.slRep (t := 0) rfl rfl fun hR => ?_
 have hW := jobs_rep hR
 clear hR
 have hJL : ∀ j ∈ l, (jobStr j).length ≤ 96 := fun j hj => jobStr_len (hW j hj) (hnm j hj)
 refine OK.seq (OK.reg ?_)
 refine RK.c (S.assign .none rfl (.cstr (l := []) rfl (by decide))) ?_
 refine RK.nil (Ab.D.code (OK.seq (OK.reg ?_)))
 refine RK.c (S.nilOwn (k := 3) (sz := 1) .none rfl) ?_
 refine RK.nil (Ab.D.code (OK.seq (OK.seq (OK.reg ?_))))
 refine RK.c (S.move .none rfl (.tmp rfl rfl)) ?_
 refine RK.c (S.lenM si22 .none rfl (.tmp rfl rfl)) ?_
 refine RK.c (S.move .none rfl (.cint rfl)) ?_
 refine RK.nil (Ab.D.code ?_)
 refine OK.block ?_
 refine OK.loop (G := Nat) [3] (fun i => [(3, .own 3 i), (2003, .arr 1 (((l.take i).map jobStr).map fun s => [.str s])), (9, .sl (l.map Job.cs)), (10, .int .i64 l.length), (11, .int .i64 i)]) (fun i => i ≤ l.length) (fun i => l.length - i) 0 (Nat.zero_le _) ⟨(lk_own (by first | rfl | (simp; done) | (simp; omega))), (lk_arr (by first | rfl | (simp; done) | (simp; omega))), rfl, rfl, rfl, trivial⟩ (fun _ => rfl) ?_
 rintro i hi
 refine OK.seq (OK.reg ?_)
 refine RK.c (S.lss .none rfl (.tmp rfl rfl) (.tmp rfl rfl)) ?_
 refine RK.nil (Ab.D.code ?_)
 refine OK.seq ?_
 refine OK.condD rfl rfl (fun c12 => ?_) (fun c12 => ?_)
 ·
  have hil : i < l.length := by omega
  have hjm := List.getElem_mem hil
  have hjw := hW _ hjm
  refine OK.skip ?_
  refine Ab.D.code ?_
  refine OK.seq ?_
  refine OK.block ?_
  refine OK.seq (OK.reg ?_)
  refine RK.c (S.indexM si22 .none rfl (.tmp rfl rfl) (.tmp rfl rfl) rfl (by omega) rfl) ?_
  refine RK.c (S.loadN ti114 .none rfl (.tmp rfl rfl) rfl rfl) ?_
  refine RK.c (S.alloc (k := 5) ze114 rfl .none rfl) ?_
  refine RK.c (S.store ti114 .none (.tmp rfl rfl) (.tmp rfl rfl) rfl rfl rfl rfl rfl rfl) ?_
  refine RK.nil (Ab.D.code (OK.seq (OK.reg ?_)))
  refine RK.c (S.bfield fi114_0 .none rfl (.tmp rfl rfl)) ?_
  refine RK.c (S.bload1 ti9 .none rfl (.tmp rfl rfl) rfl rfl rfl rfl) ?_
  refine RK.c (S.mkSlice (k := 17) (rows := [[_]]) ai64 .none rfl (.cons (.tmp rfl rfl) .nil) rfl rfl rfl rfl rfl rfl rfl) ?_
  refine RK.c (S.assign .none rfl (.tmp rfl rfl)) ?_
  refine RK.nil (Ab.D.code (OK.seq (OK.seq (OK.reg ?_))))
  refine RK.c (S.bfield fi114_1 .none rfl (.tmp rfl rfl)) ?_
  refine RK.c (S.bload1 ti3 .none rfl (.tmp rfl rfl) rfl rfl rfl rfl) ?_
  refine RK.c (S.bfield fi114_2 .none rfl (.tmp rfl rfl)) ?_
  refine RK.c (S.bload1 ti3 .none rfl (.tmp rfl rfl) rfl rfl rfl rfl) ?_
  refine RK.c (S.bfield fi114_3 .none rfl (.tmp rfl rfl)) ?_
  refine RK.c (S.bload1 ti3 .none rfl (.tmp rfl rfl) rfl rfl rfl rfl) ?_
  refine RK.c (S.build bu166 rfl .none rfl (.cons (.tmp rfl rfl) (.cons (.tmp rfl rfl) (.cons (.tmp rfl rfl) .nil))) rfl rfl) ?_
  refine RK.c (S.move .none rfl (.cint rfl)) ?_
  refine RK.nil (Ab.D.code ?_)
  refine OK.block ?_
  refine OK.loop (G := Nat) [3, 17] (fun k => [(3, .own 3 i), (2003, .arr 1 (((l.take i).map jobStr).map fun s => [.str s])), (9, .sl (l.map Job.cs)), (10, .int .i64 l.length), (11, .int .i64 i), (6, .own 17 (k + 1)), (2017, .arr 1 ((jobW l[i] k).map fun s => [.str s])), (24, .agg ((jobI l[i]).map (X.int .i64))), (25, .int .i64 k)]) (fun k => k ≤ 3) (fun k => 3 - k) 0 (Nat.zero_le _) ⟨(lk_own (by first | rfl | (simp; done) | (simp; omega))), (lk_arr (by first | rfl | (simp; done) | (simp; omega))), rfl, rfl, rfl, rfl, rfl, rfl, rfl, trivial⟩ (fun _ => rfl) ?_
  rintro k hk
  refine OK.seq (OK.reg ?_)
  refine RK.c (S.lss .none rfl (.tmp rfl rfl) (.cint rfl)) ?_
  refine RK.nil (Ab.D.code ?_)
  refine OK.seq ?_
  refine OK.condD rfl rfl (fun c26 => ?_) (fun c26 => ?_)
  ·
   have hkw := jobI_w hjw (k := k) (by omega)
   refine OK.skip ?_
   refine Ab.D.code ?_
   refine OK.seq ?_
   refine OK.block ?_
   refine OK.seq (OK.reg ?_)
   refine RK.c (S.aggidx (i := k) Tryz.underlying166 ti3 .none rfl (.tmp rfl rfl) (.tmp rfl rfl) rfl (by omega) (jobI_at (by omega)) rfl) ?_
   refine RK.c (S.assign .none rfl (.tmp rfl rfl)) ?_
   refine RK.nil (Ab.D.code (OK.reg ?_))
   refine RK.c (S.move .none rfl (.tmp rfl rfl)) ?_
   refine RK.c (S.move .none rfl (.tmp rfl rfl)) ?_
   refine RK.c (S.callT (itoa_ct hkw) hT Tryz.call112 .none rfl (.cons (.tmp rfl rfl) .nil) rfl) ?_
   refine RK.c (S.mkSlice (k := 31) (rows := [[_]]) ai64 .none rfl (.cons (.tmp rfl rfl) .nil) rfl rfl rfl rfl rfl rfl rfl) ?_
   refine RK.c (S.append ai64 .none rfl (.tmp rfl rfl) rfl (by rw [List.length_map, jobW_len (by omega)]) (.tmp rfl rfl) rfl (by first | rfl | (simp; done) | (simp; omega)) (by omega) (by simp only [maxLen]; omega)) ?_
   refine RK.c (S.assign .none rfl (.tmp rfl rfl)) ?_
   refine RK.nil ?_
   refine Ab.D.blk ?_
   refine Ab.D.code (OK.reg ?_)
   refine RK.c (S.add .none rfl (.tmp rfl rfl) (.cint rfl) (IntWalk.i64_in _ (by omega)) (IntWalk.i64_in _ (by omega))) ?_
   refine RK.c (S.move .none rfl (.tmp rfl rfl)) ?_
   refine RK.nil ?_
   refine Ab.D.lp ⟨k + 1, (by omega), (by omega), (lk_own (by first | rfl | (simp; done) | (simp; omega))), (lk_arr (by first | rfl | (simp; done) | (simp; omega))), rfl, rfl, rfl, (lk_own (by omega)), (lk_arr (by rw [jobW_succ (by omega), List.map_append]; rfl)), rfl, rfl, trivial⟩
  ·
   refine OK.exit rfl ?_
   refine Ab.D.code ?_
   obtain rfl : k = 3 := by omega
   refine OK.reg ?_
   refine RK.c (S.move .none rfl (.tmp rfl rfl)) ?_
   refine RK.c (S.move .none rfl (.tmp rfl rfl)) ?_
   refine RK.c (S.callL (joinI.ct (l := jobW l[i] 3) (sep := [32]) (by rw [jobW_len (by omega)]; omega) (by show (jobStr l[i]).length ≤ _; have := hJL _ hjm; omega)) Tryz.call113 .none rfl (.cons (.tmp rfl rfl) (.cons (.cstr (l := [32]) rfl (by decide)) .nil)) (.cons (.p (.own rfl (by rw [List.length_map, jobW_len (by omega)])) rfl) (.cons (.same rfl) .nil)) rfl) ?_
   refine RK.c (S.mkSlice (k := 37) (rows := [[_]]) ai64 .none rfl (.cons (.tmp rfl rfl) .nil) rfl rfl rfl rfl rfl rfl rfl) ?_
   refine RK.c (S.append ai64 .none rfl (.tmp rfl rfl) rfl (by simp; omega) (.tmp rfl rfl) rfl (by first | rfl | (simp; done) | (simp; omega)) (by omega) (by simp only [maxLen]; omega)) ?_
   refine RK.c (S.assign .none rfl (.tmp rfl rfl)) ?_
   refine RK.nil ?_
   refine Ab.D.blk ?_
   refine Ab.D.code (OK.reg ?_)
   refine RK.c (S.add .none rfl (.tmp rfl rfl) (.cint rfl) (IntWalk.i64_in _ (by omega)) (IntWalk.i64_in _ (by omega))) ?_
   refine RK.c (S.move .none rfl (.tmp rfl rfl)) ?_
   refine RK.nil ?_
   refine Ab.D.lp ⟨i + 1, (by omega), (by omega), (lk_own (by omega)), (lk_arr (by rw [List.take_succ_eq_append_getElem (by omega), List.map_append, List.map_append]; rfl)), rfl, rfl, rfl, trivial⟩
 ·
  refine OK.exit rfl ?_
  refine Ab.D.code ?_
  refine OK.seq ?_
  rw [show i = l.length by omega, List.take_length]
  refine OK.reg ?_
  refine RK.c (S.move .none rfl (.tmp rfl rfl)) ?_
  refine RK.c (S.callL (joinI.ct (l := l.map jobStr) (sep := [59]) (by rw [List.length_map]; omega) (by have := fmtJobs_len hlen hJL; show (fmtJobs l).length ≤ _; omega)) Tryz.call113 .none rfl (.cons (.tmp rfl rfl) (.cons (.cstr (l := [59]) rfl (by decide)) .nil)) (.cons (.p (.own rfl (by simp)) rfl) (.cons (.same rfl) .nil)) rfl) ?_
  refine RK.c (S.assign .none rfl (.tmp rfl rfl)) ?_
  refine RK.nil (Ab.D.code ?_)
  refine OK.ret (Ret.r1 (.tmp rfl rfl (.c (.same rfl) rfl) rfl) ?_)
  rfl
theorem shp_FormatBaskets {l : List Basket} (hf : fewB l = true) : CtT Tryz.prog 59 [.sl (l.map Basket.cs)] (.str (fmtBask l)) := by
 refine CtT.intro (rs := [.tmp 2]) Tryz.func59 rfl Tryz.ntmps59 Tryz.results59 rfl rfl rfl fun w h hT => ?_
 obtain ⟨hlen, hnm⟩ := fewB_all hf
 refine OK.slRep (t := 0) rfl rfl fun hR => ?_
 have hW := bask_rep hR
 clear hR
 have hBL : ∀ b ∈ l, (baskStr b).length ≤ 530 := fun b hb => baskStr_len (hnm b hb).1 fun s hs => shareStr_len (hW b hb s hs) ((hnm b hb).2 s hs)
 refine OK.seq (OK.reg ?_)
 refine RK.c (S.assign .none rfl (.cstr (l := []) rfl (by decide))) ?_
 refine RK.nil (Ab.D.code (OK.seq (OK.reg ?_)))
 refine RK.c (S.nilOwn (k := 3) (sz := 1) .none rfl) ?_
 refine RK.nil (Ab.D.code (OK.seq (OK.seq (OK.reg ?_))))
 refine RK.c (S.move .none rfl (.tmp rfl rfl)) ?_
 refine RK.c (S.lenM si50 .none rfl (.tmp rfl rfl)) ?_
 refine RK.c (S.move .none rfl (.cint rfl)) ?_
 refine RK.nil (Ab.D.code ?_)
 refine OK.block ?_
 refine OK.loop (G := Nat) [3] (fun i => [(3, .own 3 i), (2003, .arr 1 (((l.take i).map baskStr).map fun s => [.str s])), (9, .sl (l.map Basket.cs)), (10, .int .i64 l.length), (11, .int .i64 i)]) (fun i => i ≤ l.length) (fun i => l.length - i) 0 (Nat.zero_le _) ⟨(lk_own (by first | rfl | (simp; done) | (simp; omega))), (lk_arr (by first | rfl | (simp; done) | (simp; omega))), rfl, rfl, rfl, trivial⟩ (fun _ => rfl) ?_
 rintro i hi
 refine OK.seq (OK.reg ?_)
 refine RK.c (S.lss .none rfl (.tmp rfl rfl) (.tmp rfl rfl)) ?_
 refine RK.nil (Ab.D.code ?_)
 refine OK.seq ?_
 refine OK.condD rfl rfl (fun c12 => ?_) (fun c12 => ?_)
 ·
  have hil : i < l.length := by omega
  have hbm := List.getElem_mem hil
  obtain ⟨hs10, hs30⟩ := hnm _ hbm
  refine OK.skip ?_
  refine Ab.D.code ?_
  refine OK.seq ?_
  refine OK.block ?_
  refine OK.seq (OK.reg ?_)
  refine RK.c (S.indexM si50 .none rfl (.tmp rfl rfl) (.tmp rfl rfl) rfl (by omega) rfl) ?_
  refine RK.c (S.loadN ti71 .none rfl (.tmp rfl rfl) rfl rfl) ?_
  refine RK.c (S.alloc (k := 5) ze71 rfl .none rfl) ?_
  refine RK.c (S.store ti71 .none (.tmp rfl rfl) (.tmp rfl rfl) rfl rfl rfl rfl rfl rfl) ?_
  refine RK.nil (Ab.D.code (OK.seq (OK.reg ?_)))
  refine RK.c (S.nilOwn (k := 6) (sz := 1) .none rfl) ?_
  refine RK.nil (Ab.D.code (OK.seq (OK.seq (OK.reg ?_))))
  refine RK.c (S.bfield fi71_0 .none rfl (.tmp rfl rfl)) ?_
  refine RK.c (S.bload1 ti69 .none rfl (.tmp rfl rfl) rfl rfl rfl rfl) ?_
  refine RK.c (S.lenM si69 .none rfl (.tmp rfl rfl)) ?_
  refine RK.c (S.move .none rfl (.cint rfl)) ?_
  refine RK.nil (Ab.D.code ?_)
  refine OK.block ?_
  refine OK.loop (G := Nat) [3, 6] (fun k => [(3, .own 3 i), (2003, .arr 1 (((l.take i).map baskStr).map fun s => [.str s])), (9, .sl (l.map Basket.cs)), (10, .int .i64 l.length), (11, .int .i64 i), (6, .own 6 k), (2006, .arr 1 (((l[i].shares.take k).map shareStr).map fun s => [.str s])), (16, .sl (l[i].shares.map Share.cs)), (17, .int .i64 l[i].shares.length), (18, .int .i64 k)]) (fun k => k ≤ l[i].shares.length) (fun k => l[i].shares.length - k) 0 (Nat.zero_le _) ⟨(lk_own (by first | rfl | (simp; done) | (simp; omega))), (lk_arr (by first | rfl | (simp; done) | (simp; omega))), rfl, rfl, rfl, (lk_own (by first | rfl | (simp; done) | (simp; omega))), (lk_arr (by first | rfl | (simp; done) | (simp; omega))), rfl, rfl, rfl, trivial⟩ (fun _ => rfl) ?_
  rintro k hk
  refine OK.seq (OK.reg ?_)
  refine RK.c (S.lss .none rfl (.tmp rfl rfl) (.tmp rfl rfl)) ?_
  refine RK.nil (Ab.D.code ?_)
  refine OK.seq ?_
  refine OK.condD rfl rfl (fun c19 => ?_) (fun c19 => ?_)
  ·
   have hsm : l[i].shares[k] ∈ l[i].shares := List.getElem_mem (by omega)
   have hsw := hW _ hbm _ hsm
   have hs3 := hs30 _ hsm
   have hdl := itoa_len hsw
   refine OK.skip ?_
   refine Ab.D.code ?_
   refine OK.seq ?_
   refine OK.block ?_
   refine OK.seq (OK.reg ?_)
   refine RK.c (S.indexM si69 .none rfl (.tmp rfl rfl) (.tmp rfl rfl) rfl (by omega) rfl) ?_
   refine RK.c (S.loadN ti73 .none rfl (.tmp rfl rfl) rfl rfl) ?_
   refine RK.c (S.alloc (k := 8) ze73 rfl .none rfl) ?_
   refine RK.c (S.store ti73 .none (.tmp rfl rfl) (.tmp rfl rfl) rfl rfl rfl rfl rfl rfl) ?_
   refine RK.nil (Ab.D.code ?_)
   refine OK.regionDraw follows (.c (S.move .none rfl (.tmp rfl rfl))
    (.c (S.bfield fi73_0 .none rfl (.tmp rfl rfl))
    (.c (S.bload1 ti9 .none rfl (.tmp rfl rfl) rfl rfl rfl rfl)
    (.c (S.sadd .none rfl (.tmp rfl rfl) (.cstr (l := [120]) rfl (by decide)) (by simp only [List.length_append, List.length_cons, List.length_nil]; omega))
    (.c (S.bfield fi73_1 .none rfl (.tmp rfl rfl))
    (.c (S.bload1 ti3 .none rfl (.tmp rfl rfl) rfl rfl rfl rfl)
    (.c (S.callT (itoa_ct hsw) hT Tryz.call112 .none rfl (.cons (.tmp rfl rfl) .nil) rfl)
    (.c (S.sadd .none rfl (.tmp rfl rfl) (.tmp rfl rfl) (by simp only [List.length_append, List.length_cons, List.length_nil]; omega))
    (.c (S.mkSlice (k := 30) (rows := [[_]]) ai64 .none rfl (.cons (.tmp rfl rfl) .nil) rfl rfl rfl rfl rfl rfl rfl)
    (.c (S.append ai64 .none rfl (.tmp rfl rfl) rfl (by simp; omega) (.tmp rfl rfl) rfl (by first | rfl | (simp; done) | (simp; omega)) (by omega) (by simp only [maxLen]; omega))
    (.c (S.assign .none rfl (.tmp rfl rfl))
    .nil))))))))))) (by kernel_rfl) ?_
   refine Ab.D.blk ?_
   refine Ab.D.code (OK.reg ?_)
   refine RK.c (S.add .none rfl (.tmp rfl rfl) (.cint rfl) (IntWalk.i64_in _ (by omega)) (IntWalk.i64_in _ (by omega))) ?_
   refine RK.c (S.move .none rfl (.tmp rfl rfl)) ?_
   refine RK.nil ?_
   refine Ab.D.lp ⟨k + 1, (by omega), (by omega), (lk_own (by first | rfl | (simp; done) | (simp; omega))), (lk_arr (by first | rfl | (simp; done) | (simp; omega))), rfl, rfl, rfl, (lk_own (by omega)), (lk_arr (by rw [List.take_succ_eq_append_getElem (by omega), List.map_append, List.map_append]; rfl)), rfl, rfl, rfl, trivial⟩
  ·
   refine OK.exit rfl ?_
   refine Ab.D.code ?_
   rw [show k = l[i].shares.length by omega, List.take_length]
   refine OK.reg ?_
   refine RK.c (S.move .none rfl (.tmp rfl rfl)) ?_
   refine RK.c (S.move .none rfl (.tmp rfl rfl)) ?_
   refine RK.c (S.callL (joinI.ct (l := l[i].shares.map shareStr) (sep := [32]) (by rw [List.length_map]; omega) (by show (baskStr l[i]).length ≤ _; have := hBL _ hbm; omega)) Tryz.call113 .none rfl (.cons (.tmp rfl rfl) (.cons (.cstr (l := [32]) rfl (by decide)) .nil)) (.cons (.p (.own rfl (by simp)) rfl) (.cons (.same rfl) .nil)) rfl) ?_
   refine RK.c (S.mkSlice (k := 36) (rows := [[_]]) ai64 .none rfl (.cons (.tmp rfl rfl) .nil) rfl rfl rfl rfl rfl rfl rfl) ?_
   refine RK.c (S.append ai64 .none rfl (.tmp rfl rfl) rfl (by simp; omega) (.tmp rfl rfl) rfl (by first | rfl | (simp; done) | (simp; omega)) (by omega) (by simp only [maxLen]; omega)) ?_
   refine RK.c (S.assign .none rfl (.tmp rfl rfl)) ?_
   refine RK.nil ?_
   refine Ab.D.blk ?_
   refine Ab.D.code (OK.reg ?_)
   refine RK.c (S.add .none rfl (.tmp rfl rfl) (.cint rfl) (IntWalk.i64_in _ (by omega)) (IntWalk.i64_in _ (by omega))) ?_
   refine RK.c (S.move .none rfl (.tmp rfl rfl)) ?_
   refine RK.nil ?_
   refine Ab.D.lp ⟨i + 1, (by omega), (by omega), (lk_own (by omega)), (lk_arr (by rw [List.take_succ_eq_append_getElem (by omega), List.map_append, List.map_append]; rfl)), rfl, rfl, rfl, trivial⟩
 ·
  refine OK.exit rfl ?_
  refine Ab.D.code ?_
  refine OK.seq ?_
  rw [show i = l.length by omega, List.take_length]
  refine OK.reg ?_
  refine RK.c (S.move .none rfl (.tmp rfl rfl)) ?_
  refine RK.c (S.callL (joinI.ct (l := l.map baskStr) (sep := [59]) (by rw [List.length_map]; omega) (by have := fmtBask_len hlen hBL; show (fmtBask l).length ≤ _; omega)) Tryz.call113 .none rfl (.cons (.tmp rfl rfl) (.cons (.cstr (l := [59]) rfl (by decide)) .nil)) (.cons (.p (.own rfl (by simp)) rfl) (.cons (.same rfl) .nil)) rfl) ?_
  refine RK.c (S.assign .none rfl (.tmp rfl rfl)) ?_
  refine RK.nil (Ab.D.code ?_)
  refine OK.ret (Ret.r1 (.tmp rfl rfl (.c (.same rfl) rfl) rfl) ?_)
  rfl
set_option maxHeartbeats 1000000 in
theorem ref9_FormatJobs {l : List Job} (hf : fewJ l = true) : Ct Tryz.prog 64 [.sl (l.map Job.cs)] (.str (fmtJobs l)) := by
 refine Ct.intro (rs := [.tmp 2]) Tryz.func64 rfl Tryz.ntmps64 Tryz.results64 rfl rfl rfl fun w h => ?_
 obtain ⟨hlen, hnm⟩ := few_all hf
 refine OK.slRep (t := 0) rfl rfl fun hR => ?_
 have hW := jobs_rep hR
 clear hR
 have hJL : ∀ j ∈ l, (jobStr j).length ≤ 96 := fun j hj => jobStr_len (hW j hj) (hnm j hj)
 refine OK.seq (OK.reg ?_)
 refine RK.c (S.assign .none rfl (.cstr (l := []) rfl (by decide))) ?_
 refine RK.nil (Ab.D.code (OK.seq (OK.reg ?_)))
 refine RK.c (S.assign .none rfl (.cstr (l := []) rfl (by decide))) ?_
 refine RK.nil (Ab.D.code (OK.seq (OK.seq (OK.reg ?_))))
 refine RK.c (S.assign .none rfl (.cint rfl)) ?_
 refine RK.nil (Ab.D.code ?_)
 refine OK.block ?_
 refine OK.loop (G := Nat) [] (fun i => [(0, .sl (l.map Job.cs)), (3, .str (fmtTo jobStr 59 l i)), (4, .int .i64 i)]) (fun i => i ≤ l.length) (fun i => l.length - i) 0 (Nat.zero_le _) ⟨rfl, rfl, rfl, trivial⟩ (fun _ => rfl) ?_
 rintro i hi
 refine OK.seq (OK.seq (OK.reg ?_))
 refine RK.c (S.move .none rfl (.tmp rfl rfl)) ?_
 refine RK.c (S.move .none rfl (.tmp rfl rfl)) ?_
 refine RK.c (S.lenM si22 .none rfl (.tmp rfl rfl)) ?_
 refine RK.c (S.lss .none rfl (.tmp rfl rfl) (.tmp rfl rfl)) ?_
 refine RK.nil (Ab.D.code ?_)
 refine OK.condD rfl rfl (fun c8 => ?_) (fun c8 => ?_)
 ·
  have hil : i < l.length := by omega
  have hjm := List.getElem_mem hil
  obtain ⟨w1, w2, w3⟩ := hW _ hjm
  have e1 := itoa_len w1
  have e2 := itoa_len w2
  have e3 := itoa_len w3
  have e4 := hnm _ hjm
  have e5 := fmtTo_len (c := 59) (i := i) hJL
  refine OK.skip ?_
  refine Ab.D.code ?_
  refine OK.seq ?_
  refine OK.block ?_
  refine OK.seq (OK.seq (OK.reg ?_))
  refine RK.c (S.move .none rfl (.tmp rfl rfl)) ?_
  refine RK.c (S.gtr .none rfl (.tmp rfl rfl) (.cint rfl)) ?_
  refine RK.nil (Ab.D.code ?_)
  refine OK.condD rfl rfl (fun c12 => ?_) (fun c12 => ?_)
  ·
   have hft := fmtTo_T (f := jobStr) (c := 59) hil (by omega)
   refine OK.reg ?_
   refine RK.c (S.move .none rfl (.tmp rfl rfl)) ?_
   refine RK.c (S.sadd .none rfl (.tmp rfl rfl) (.cstr (l := [59]) rfl (by decide)) (by simp only [List.length_append, List.length_cons, List.length_nil]; omega)) ?_
   refine RK.c (S.assign .none rfl (.tmp rfl rfl)) ?_
   refine RK.nil (Ab.D.code ?_)
   refine OK.regionDraw follows (.c (S.move .none rfl (.tmp rfl rfl))
    (.c (S.move .none rfl (.tmp rfl rfl))
    (.c (S.move .none rfl (.tmp rfl rfl))
    (.c (S.indexM (n := i) si22 .none rfl (.tmp rfl rfl) (.tmp rfl rfl) rfl (by omega) rfl)
    (.c (S.field fi114_0 .none rfl (.tmp rfl rfl) rfl)
    (.c (S.load1 ti9 .none rfl (.tmp rfl rfl) rfl)
    (.c (S.sadd .none rfl (.tmp rfl rfl) (.tmp rfl rfl) (by first | omega | (simp only [List.length_append, List.length_cons, List.length_nil]; omega)))
    (.c (S.sadd .none rfl (.tmp rfl rfl) (.cstr (l := [32]) rfl (by decide)) (by simp only [List.length_append, List.length_cons, List.length_nil]; omega))
    (.c (S.move .none rfl (.tmp rfl rfl))
    (.c (S.move .none rfl (.tmp rfl rfl))
    (.c (S.indexM (n := i) si22 .none rfl (.tmp rfl rfl) (.tmp rfl rfl) rfl (by omega) rfl)
    (.c (S.field fi114_1 .none rfl (.tmp rfl rfl) rfl)
    (.c (S.load1 ti3 .none rfl (.tmp rfl rfl) rfl)
    (.c (S.call (base_Decimal) Tryz.call121 .none rfl (.cons (.tmp rfl rfl) .nil) rfl)
    (.c (S.sadd .none rfl (.tmp rfl rfl) (.tmp rfl rfl) (by simp only [List.length_append, List.length_cons, List.length_nil]; omega))
    (.c (S.sadd .none rfl (.tmp rfl rfl) (.cstr (l := [32]) rfl (by decide)) (by simp only [List.length_append, List.length_cons, List.length_nil]; omega))
    (.c (S.move .none rfl (.tmp rfl rfl))
    (.c (S.move .none rfl (.tmp rfl rfl))
    (.c (S.indexM si22 .none rfl (.tmp rfl rfl) (.tmp rfl rfl) rfl (by omega) rfl)
    (.c (S.field fi114_2 .none rfl (.tmp rfl rfl) rfl)
    (.c (S.load1 ti3 .none rfl (.tmp rfl rfl) rfl)
    (.c (S.call (base_Decimal) Tryz.call121 .none rfl (.cons (.tmp rfl rfl) .nil) rfl)
    (.c (S.sadd .none rfl (.tmp rfl rfl) (.tmp rfl rfl) (by simp only [List.length_append, List.length_cons, List.length_nil]; omega))
    (.c (S.sadd .none rfl (.tmp rfl rfl) (.cstr (l := [32]) rfl (by decide)) (by simp only [List.length_append, List.length_cons, List.length_nil]; omega))
    (.c (S.move .none rfl (.tmp rfl rfl))
    (.c (S.move .none rfl (.tmp rfl rfl))
    (.c (S.indexM (n := i) si22 .none rfl (.tmp rfl rfl) (.tmp rfl rfl) rfl (by omega) rfl)
    (.c (S.field fi114_3 .none rfl (.tmp rfl rfl) rfl)
    (.c (S.load1 ti3 .none rfl (.tmp rfl rfl) rfl)
    (.c (S.call (base_Decimal) Tryz.call121 .none rfl (.cons (.tmp rfl rfl) .nil) rfl)
    (.c (S.sadd .none rfl (.tmp rfl rfl) (.tmp rfl rfl) (by simp only [List.length_append, List.length_cons, List.length_nil]; omega))
    (.c (S.assign .none rfl (.tmp rfl rfl))
    .nil)))))))))))))))))))))))))))))))) (by kernel_rfl) ?_
   refine Ab.D.blk ?_
   refine Ab.D.code (OK.reg ?_)
   refine RK.c (S.move .none rfl (.tmp rfl rfl)) ?_
   refine RK.c (S.add .none rfl (.tmp rfl rfl) (.cint rfl) (IntWalk.i64_in _ (by omega)) (IntWalk.i64_in _ (by omega))) ?_
   refine RK.c (S.assign .none rfl (.tmp rfl rfl)) ?_
   refine RK.nil ?_
   refine Ab.D.lp ⟨i + 1, (by omega), (by omega), rfl, (lkS (by rw [hft, jobStr4]; simp only [List.append_assoc])), rfl, trivial⟩
  ·
   have hft := fmtTo_F (f := jobStr) (c := 59) hil (by omega)
   refine OK.skip ?_
   refine Ab.D.code ?_
   refine OK.regionDraw follows (.c (S.move .none rfl (.tmp rfl rfl))
    (.c (S.move .none rfl (.tmp rfl rfl))
    (.c (S.move .none rfl (.tmp rfl rfl))
    (.c (S.indexM (n := i) si22 .none rfl (.tmp rfl rfl) (.tmp rfl rfl) rfl (by omega) rfl)
    (.c (S.field fi114_0 .none rfl (.tmp rfl rfl) rfl)
    (.c (S.load1 ti9 .none rfl (.tmp rfl rfl) rfl)
    (.c (S.sadd .none rfl (.tmp rfl rfl) (.tmp rfl rfl) (by first | omega | (simp only [List.length_append, List.length_cons, List.length_nil]; omega)))
    (.c (S.sadd .none rfl (.tmp rfl rfl) (.cstr (l := [32]) rfl (by decide)) (by simp only [List.length_append, List.length_cons, List.length_nil]; omega))
    (.c (S.move .none rfl (.tmp rfl rfl))
    (.c (S.move .none rfl (.tmp rfl rfl))
    (.c (S.indexM (n := i) si22 .none rfl (.tmp rfl rfl) (.tmp rfl rfl) rfl (by omega) rfl)
    (.c (S.field fi114_1 .none rfl (.tmp rfl rfl) rfl)
    (.c (S.load1 ti3 .none rfl (.tmp rfl rfl) rfl)
    (.c (S.call (base_Decimal) Tryz.call121 .none rfl (.cons (.tmp rfl rfl) .nil) rfl)
    (.c (S.sadd .none rfl (.tmp rfl rfl) (.tmp rfl rfl) (by simp only [List.length_append, List.length_cons, List.length_nil]; omega))
    (.c (S.sadd .none rfl (.tmp rfl rfl) (.cstr (l := [32]) rfl (by decide)) (by simp only [List.length_append, List.length_cons, List.length_nil]; omega))
    (.c (S.move .none rfl (.tmp rfl rfl))
    (.c (S.move .none rfl (.tmp rfl rfl))
    (.c (S.indexM si22 .none rfl (.tmp rfl rfl) (.tmp rfl rfl) rfl (by omega) rfl)
    (.c (S.field fi114_2 .none rfl (.tmp rfl rfl) rfl)
    (.c (S.load1 ti3 .none rfl (.tmp rfl rfl) rfl)
    (.c (S.call (base_Decimal) Tryz.call121 .none rfl (.cons (.tmp rfl rfl) .nil) rfl)
    (.c (S.sadd .none rfl (.tmp rfl rfl) (.tmp rfl rfl) (by simp only [List.length_append, List.length_cons, List.length_nil]; omega))
    (.c (S.sadd .none rfl (.tmp rfl rfl) (.cstr (l := [32]) rfl (by decide)) (by simp only [List.length_append, List.length_cons, List.length_nil]; omega))
    (.c (S.move .none rfl (.tmp rfl rfl))
    (.c (S.move .none rfl (.tmp rfl rfl))
    (.c (S.indexM (n := i) si22 .none rfl (.tmp rfl rfl) (.tmp rfl rfl) rfl (by omega) rfl)
    (.c (S.field fi114_3 .none rfl (.tmp rfl rfl) rfl)
    (.c (S.load1 ti3 .none rfl (.tmp rfl rfl) rfl)
    (.c (S.call (base_Decimal) Tryz.call121 .none rfl (.cons (.tmp rfl rfl) .nil) rfl)
    (.c (S.sadd .none rfl (.tmp rfl rfl) (.tmp rfl rfl) (by simp only [List.length_append, List.length_cons, List.length_nil]; omega))
    (.c (S.assign .none rfl (.tmp rfl rfl))
    .nil)))))))))))))))))))))))))))))))) (by kernel_rfl) ?_
   refine Ab.D.blk ?_
   refine Ab.D.code (OK.reg ?_)
   refine RK.c (S.move .none rfl (.tmp rfl rfl)) ?_
   refine RK.c (S.add .none rfl (.tmp rfl rfl) (.cint rfl) (IntWalk.i64_in _ (by omega)) (IntWalk.i64_in _ (by omega))) ?_
   refine RK.c (S.assign .none rfl (.tmp rfl rfl)) ?_
   refine RK.nil ?_
   refine Ab.D.lp ⟨i + 1, (by omega), (by omega), rfl, (lkS (by rw [hft, jobStr4]; simp only [List.append_assoc])), rfl, trivial⟩
 ·
  refine OK.exit rfl ?_
  refine Ab.D.code (OK.seq (OK.reg ?_))
  refine RK.c (S.move .none rfl (.tmp rfl rfl)) ?_
  refine RK.c (S.assign .none rfl (.tmp rfl rfl)) ?_
  refine RK.nil (Ab.D.code ?_)
  refine OK.ret (Ret.r1 (.tmp rfl rfl (.c (.same rfl) rfl) rfl) ?_)
  rw [fmtTo_e (by omega)]
  rfl
set_option maxHeartbeats 1000000 in
theorem ref9_FormatBaskets {l : List Basket} (hf : fewB l = true) : Ct Tryz.prog 65 [.sl (l.map Basket.cs)] (.str (fmtBask l)) := by
 refine Ct.intro (rs := [.tmp 2]) Tryz.func65 rfl Tryz.ntmps65 Tryz.results65 rfl rfl rfl fun w h => ?_
 obtain ⟨hlen, hnm⟩ := fewB_all hf
 refine OK.slRep (t := 0) rfl rfl fun hR => ?_
 have hW := bask_rep hR
 clear hR
 have hBL : ∀ b ∈ l, (baskStr b).length ≤ 530 := fun b hb => baskStr_len (hnm b hb).1 fun s hs => shareStr_len (hW b hb s hs) ((hnm b hb).2 s hs)
 refine OK.seq (OK.reg ?_)
 refine RK.c (S.assign .none rfl (.cstr (l := []) rfl (by decide))) ?_
 refine RK.nil (Ab.D.code (OK.seq (OK.reg ?_)))
 refine RK.c (S.assign .none rfl (.cstr (l := []) rfl (by decide))) ?_
 refine RK.nil (Ab.D.code (OK.seq (OK.seq (OK.reg ?_))))
 refine RK.c (S.assign .none rfl (.cint rfl)) ?_
 refine RK.nil (Ab.D.code ?_)
 refine OK.block ?_
 refine OK.loop (G := Nat) [] (fun i => [(0, .sl (l.map Basket.cs)), (3, .str (fmtTo baskStr 59 l i)), (4, .int .i64 i)]) (fun i => i ≤ l.length) (fun i => l.length - i) 0 (Nat.zero_le _) ⟨rfl, rfl, rfl, trivial⟩ (fun _ => rfl) ?_
 rintro i hi
 refine OK.seq (OK.seq (OK.reg ?_))
 refine RK.c (S.move .none rfl (.tmp rfl rfl)) ?_
 refine RK.c (S.move .none rfl (.tmp rfl rfl)) ?_
 refine RK.c (S.lenM si50 .none rfl (.tmp rfl rfl)) ?_
 refine RK.c (S.lss .none rfl (.tmp rfl rfl) (.tmp rfl rfl)) ?_
 refine RK.nil (Ab.D.code ?_)
 refine OK.condD rfl rfl (fun c9 => ?_) (fun c9 => ?_)
 ·
  have hil : i < l.length := by omega
  have hbm := List.getElem_mem hil
  obtain ⟨hs10, hs30⟩ := hnm _ hbm
  have e5 := fmtTo_len (c := 59) (i := i) hBL
  have hSL : ∀ s ∈ l[i].shares, (shareStr s).length ≤ 52 := fun s hs => shareStr_len (hW _ hbm s hs) (hs30 s hs)
  refine OK.skip ?_
  refine Ab.D.code ?_
  refine OK.seq ?_
  refine OK.block ?_
  refine OK.seq (OK.seq (OK.reg ?_))
  refine RK.c (S.move .none rfl (.tmp rfl rfl)) ?_
  refine RK.c (S.gtr .none rfl (.tmp rfl rfl) (.cint rfl)) ?_
  refine RK.nil (Ab.D.code ?_)
  refine OK.condD rfl rfl (fun c13 => ?_) (fun c13 => ?_)
  ·
   have hft := fmtTo_T (f := baskStr) (c := 59) hil (by omega)
   obtain ⟨P, hP⟩ : ∃ P, P = fmtTo baskStr 59 l i ++ [59] := ⟨_, rfl⟩
   have hPl := congrArg List.length hP
   rw [List.length_append, List.length_singleton] at hPl
   refine OK.reg ?_
   refine RK.c (S.move .none rfl (.tmp rfl rfl)) ?_
   refine RK.c (S.sadd .none rfl (.tmp rfl rfl) (.cstr (l := [59]) rfl (by decide)) (by simp only [List.length_append, List.length_cons, List.length_nil]; omega)) ?_
   refine RK.c (S.assign .none rfl (.tmp rfl rfl)) ?_
   refine RK.nil (Ab.D.code (OK.seq (OK.reg ?_)))
   refine RK.c (S.assign .none rfl (.cint rfl)) ?_
   refine RK.nil (Ab.D.code ?_)
   refine OK.block ?_
   refine OK.loop (G := Nat) [] (fun k => [(0, .sl (l.map Basket.cs)), (4, .int .i64 i), (3, .str (P ++ fmtTo shareStr 32 l[i].shares k)), (5, .int .i64 k)]) (fun k => k ≤ l[i].shares.length) (fun k => l[i].shares.length - k) 0 (Nat.zero_le _) ⟨rfl, rfl, (lkS (by rw [hP, fmtTo_z, List.append_nil])), rfl, trivial⟩ (fun _ => rfl) ?_
   rintro k hk
   refine OK.seq (OK.seq (OK.reg ?_))
   refine RK.c (S.move .none rfl (.tmp rfl rfl)) ?_
   refine RK.c (S.move .none rfl (.tmp rfl rfl)) ?_
   refine RK.c (S.move .none rfl (.tmp rfl rfl)) ?_
   refine RK.c (S.indexM (n := i) si50 .none rfl (.tmp rfl rfl) (.tmp rfl rfl) rfl (by omega) rfl) ?_
   refine RK.c (S.field fi71_0 .none rfl (.tmp rfl rfl) rfl) ?_
   refine RK.c (S.load1 ti69 .none rfl (.tmp rfl rfl) rfl) ?_
   refine RK.c (S.lenM si69 .none rfl (.tmp rfl rfl)) ?_
   refine RK.c (S.lss .none rfl (.tmp rfl rfl) (.tmp rfl rfl)) ?_
   refine RK.nil (Ab.D.code ?_)
   refine OK.condD rfl rfl (fun c23 => ?_) (fun c23 => ?_)
   ·
    have hkl : k < l[i].shares.length := by omega
    have hsm : l[i].shares[k] ∈ l[i].shares := List.getElem_mem hkl
    have e6 := itoa_len (hW _ hbm _ hsm)
    have e7 := hs30 _ hsm
    have e8 := fmtTo_len (c := 32) (i := k) hSL
    refine OK.skip ?_
    refine Ab.D.code ?_
    refine OK.seq ?_
    refine OK.block ?_
    refine OK.seq (OK.seq (OK.reg ?_))
    refine RK.c (S.move .none rfl (.tmp rfl rfl)) ?_
    refine RK.c (S.gtr .none rfl (.tmp rfl rfl) (.cint rfl)) ?_
    refine RK.nil (Ab.D.code ?_)
    refine OK.condD rfl rfl (fun c27 => ?_) (fun c27 => ?_)
    ·
     have hft2 := fmtTo_T (f := shareStr) (c := 32) hkl (by omega)
     refine OK.reg ?_
     refine RK.c (S.move .none rfl (.tmp rfl rfl)) ?_
     refine RK.c (S.sadd .none rfl (.tmp rfl rfl) (.cstr (l := [32]) rfl (by decide)) (by simp only [List.length_append, List.length_cons, List.length_nil]; omega)) ?_
     refine RK.c (S.assign .none rfl (.tmp rfl rfl)) ?_
     refine RK.nil (Ab.D.code ?_)
     refine OK.regionDraw follows (.c (S.move .none rfl (.tmp rfl rfl))
      (.c (S.move .none rfl (.tmp rfl rfl))
      (.c (S.move .none rfl (.tmp rfl rfl))
      (.c (S.indexM (n := i) si50 .none rfl (.tmp rfl rfl) (.tmp rfl rfl) rfl (by omega) rfl)
      (.c (S.field fi71_0 .none rfl (.tmp rfl rfl) rfl)
      (.c (S.load1 ti69 .none rfl (.tmp rfl rfl) rfl)
      (.c (S.move .none rfl (.tmp rfl rfl))
      (.c (S.indexM (n := k) si69 .none rfl (.tmp rfl rfl) (.tmp rfl rfl) rfl (by omega) rfl)
      (.c (S.field fi73_0 .none rfl (.tmp rfl rfl) rfl)
      (.c (S.load1 ti9 .none rfl (.tmp rfl rfl) rfl)
      (.c (S.sadd .none rfl (.tmp rfl rfl) (.tmp rfl rfl) (by simp only [List.length_append, List.length_cons, List.length_nil]; omega))
      (.c (S.sadd .none rfl (.tmp rfl rfl) (.cstr (l := [120]) rfl (by decide)) (by simp only [List.length_append, List.length_cons, List.length_nil]; omega))
      (.c (S.move .none rfl (.tmp rfl rfl))
      (.c (S.move .none rfl (.tmp rfl rfl))
      (.c (S.indexM (n := i) si50 .none rfl (.tmp rfl rfl) (.tmp rfl rfl) rfl (by omega) rfl)
      (.c (S.field fi71_0 .none rfl (.tmp rfl rfl) rfl)
      (.c (S.load1 ti69 .none rfl (.tmp rfl rfl) rfl)
      (.c (S.move .none rfl (.tmp rfl rfl))
      (.c (S.indexM (n := k) si69 .none rfl (.tmp rfl rfl) (.tmp rfl rfl) rfl (by omega) rfl)
      (.c (S.field fi73_1 .none rfl (.tmp rfl rfl) rfl)
      (.c (S.load1 ti3 .none rfl (.tmp rfl rfl) rfl)
      (.c (S.call (base_Decimal) Tryz.call121 .none rfl (.cons (.tmp rfl rfl) .nil) rfl)
      (.c (S.sadd .none rfl (.tmp rfl rfl) (.tmp rfl rfl) (by simp only [List.length_append, List.length_cons, List.length_nil]; omega))
      (.c (S.assign .none rfl (.tmp rfl rfl))
      .nil)))))))))))))))))))))))) (by kernel_rfl) ?_
     refine Ab.D.blk ?_
     refine Ab.D.code (OK.reg ?_)
     refine RK.c (S.move .none rfl (.tmp rfl rfl)) ?_
     refine RK.c (S.add .none rfl (.tmp rfl rfl) (.cint rfl) (IntWalk.i64_in _ (by omega)) (IntWalk.i64_in _ (by omega))) ?_
     refine RK.c (S.assign .none rfl (.tmp rfl rfl)) ?_
     refine RK.nil ?_
     refine Ab.D.lp ⟨k + 1, (by omega), (by omega), rfl, rfl, (lkS (by rw [hft2, shareStr]; simp only [List.append_assoc])), rfl, trivial⟩
    ·
     have hft2 := fmtTo_F (f := shareStr) (c := 32) hkl (by omega)
     refine OK.skip ?_
     refine Ab.D.code ?_
     refine OK.regionDraw follows (.c (S.move .none rfl (.tmp rfl rfl))
      (.c (S.move .none rfl (.tmp rfl rfl))
      (.c (S.move .none rfl (.tmp rfl rfl))
      (.c (S.indexM (n := i) si50 .none rfl (.tmp rfl rfl) (.tmp rfl rfl) rfl (by omega) rfl)
      (.c (S.field fi71_0 .none rfl (.tmp rfl rfl) rfl)
      (.c (S.load1 ti69 .none rfl (.tmp rfl rfl) rfl)
      (.c (S.move .none rfl (.tmp rfl rfl))
      (.c (S.indexM (n := k) si69 .none rfl (.tmp rfl rfl) (.tmp rfl rfl) rfl (by omega) rfl)
      (.c (S.field fi73_0 .none rfl (.tmp rfl rfl) rfl)
      (.c (S.load1 ti9 .none rfl (.tmp rfl rfl) rfl)
      (.c (S.sadd .none rfl (.tmp rfl rfl) (.tmp rfl rfl) (by simp only [List.length_append, List.length_cons, List.length_nil]; omega))
      (.c (S.sadd .none rfl (.tmp rfl rfl) (.cstr (l := [120]) rfl (by decide)) (by simp only [List.length_append, List.length_cons, List.length_nil]; omega))
      (.c (S.move .none rfl (.tmp rfl rfl))
      (.c (S.move .none rfl (.tmp rfl rfl))
      (.c (S.indexM (n := i) si50 .none rfl (.tmp rfl rfl) (.tmp rfl rfl) rfl (by omega) rfl)
      (.c (S.field fi71_0 .none rfl (.tmp rfl rfl) rfl)
      (.c (S.load1 ti69 .none rfl (.tmp rfl rfl) rfl)
      (.c (S.move .none rfl (.tmp rfl rfl))
      (.c (S.indexM (n := k) si69 .none rfl (.tmp rfl rfl) (.tmp rfl rfl) rfl (by omega) rfl)
      (.c (S.field fi73_1 .none rfl (.tmp rfl rfl) rfl)
      (.c (S.load1 ti3 .none rfl (.tmp rfl rfl) rfl)
      (.c (S.call (base_Decimal) Tryz.call121 .none rfl (.cons (.tmp rfl rfl) .nil) rfl)
      (.c (S.sadd .none rfl (.tmp rfl rfl) (.tmp rfl rfl) (by simp only [List.length_append, List.length_cons, List.length_nil]; omega))
      (.c (S.assign .none rfl (.tmp rfl rfl))
      .nil)))))))))))))))))))))))) (by kernel_rfl) ?_
     refine Ab.D.blk ?_
     refine Ab.D.code (OK.reg ?_)
     refine RK.c (S.move .none rfl (.tmp rfl rfl)) ?_
     refine RK.c (S.add .none rfl (.tmp rfl rfl) (.cint rfl) (IntWalk.i64_in _ (by omega)) (IntWalk.i64_in _ (by omega))) ?_
     refine RK.c (S.assign .none rfl (.tmp rfl rfl)) ?_
     refine RK.nil ?_
     refine Ab.D.lp ⟨k + 1, (by omega), (by omega), rfl, rfl, (lkS (by rw [hft2, shareStr]; simp only [List.append_assoc])), rfl, trivial⟩
   ·
    refine OK.exit rfl ?_
    refine Ab.D.blk ?_
    refine Ab.D.code (OK.reg ?_)
    refine RK.c (S.move .none rfl (.tmp rfl rfl)) ?_
    refine RK.c (S.add .none rfl (.tmp rfl rfl) (.cint rfl) (IntWalk.i64_in _ (by omega)) (IntWalk.i64_in _ (by omega))) ?_
    refine RK.c (S.assign .none rfl (.tmp rfl rfl)) ?_
    refine RK.nil ?_
    refine Ab.D.lp ⟨i + 1, (by omega), (by omega), rfl, (lkS (by rw [hft, hP, fmtTo_e (show k = l[i].shares.length by omega)]; rfl)), rfl, trivial⟩
  ·
   have hft := fmtTo_F (f := baskStr) (c := 59) hil (by omega)
   obtain ⟨P, hP⟩ : ∃ P, P = fmtTo baskStr 59 l i := ⟨_, rfl⟩
   have hPl := e5
   rw [← hP] at hPl
   refine OK.skip ?_
   refine Ab.D.code (OK.seq (OK.reg ?_))
   refine RK.c (S.assign .none rfl (.cint rfl)) ?_
   refine RK.nil (Ab.D.code ?_)
   refine OK.block ?_
   refine OK.loop (G := Nat) [] (fun k => [(0, .sl (l.map Basket.cs)), (4, .int .i64 i), (3, .str (P ++ fmtTo shareStr 32 l[i].shares k)), (5, .int .i64 k)]) (fun k => k ≤ l[i].shares.length) (fun k => l[i].shares.length - k) 0 (Nat.zero_le _) ⟨rfl, rfl, (lkS (by rw [hP, fmtTo_z, List.append_nil])), rfl, trivial⟩ (fun _ => rfl) ?_
   rintro k hk
   refine OK.seq (OK.seq (OK.reg ?_))
   refine RK.c (S.move .none rfl (.tmp rfl rfl)) ?_
   refine RK.c (S.move .none rfl (.tmp rfl rfl)) ?_
   refine RK.c (S.move .none rfl (.tmp rfl rfl)) ?_
   refine RK.c (S.indexM (n := i) si50 .none rfl (.tmp rfl rfl) (.tmp rfl rfl) rfl (by omega) rfl) ?_
   refine RK.c (S.field fi71_0 .none rfl (.tmp rfl rfl) rfl) ?_
   refine RK.c (S.load1 ti69 .none rfl (.tmp rfl rfl) rfl) ?_
   refine RK.c (S.lenM si69 .none rfl (.tmp rfl rfl)) ?_
   refine RK.c (S.lss .none rfl (.tmp rfl rfl) (.tmp rfl rfl)) ?_
   refine RK.nil (Ab.D.code ?_)
   refine OK.condD rfl rfl (fun c23 => ?_) (fun c23 => ?_)
   ·
    have hkl : k < l[i].shares.length := by omega
    have hsm : l[i].shares[k] ∈ l[i].shares := List.getElem_mem hkl
    have e6 := itoa_len (hW _ hbm _ hsm)
    have e7 := hs30 _ hsm
    have e8 := fmtTo_len (c := 32) (i := k) hSL
    refine OK.skip ?_
    refine Ab.D.code ?_
    refine OK.seq ?_
    refine OK.block ?_
    refine OK.seq (OK.seq (OK.reg ?_))
    refine RK.c (S.move .none rfl (.tmp rfl rfl)) ?_
    refine RK.c (S.gtr .none rfl (.tmp rfl rfl) (.cint rfl)) ?_
    refine RK.nil (Ab.D.code ?_)
    refine OK.condD rfl rfl (fun c27 => ?_) (fun c27 => ?_)
    ·
     have hft2 := fmtTo_T (f := shareStr) (c := 32) hkl (by omega)
     refine OK.reg ?_
     refine RK.c (S.move .none rfl (.tmp rfl rfl)) ?_
     refine RK.c (S.sadd .none rfl (.tmp rfl rfl) (.cstr (l := [32]) rfl (by decide)) (by simp only [List.length_append, List.length_cons, List.length_nil]; omega)) ?_
     refine RK.c (S.assign .none rfl (.tmp rfl rfl)) ?_
     refine RK.nil (Ab.D.code ?_)
     refine OK.regionDraw follows (.c (S.move .none rfl (.tmp rfl rfl))
      (.c (S.move .none rfl (.tmp rfl rfl))
      (.c (S.move .none rfl (.tmp rfl rfl))
      (.c (S.indexM (n := i) si50 .none rfl (.tmp rfl rfl) (.tmp rfl rfl) rfl (by omega) rfl)
      (.c (S.field fi71_0 .none rfl (.tmp rfl rfl) rfl)
      (.c (S.load1 ti69 .none rfl (.tmp rfl rfl) rfl)
      (.c (S.move .none rfl (.tmp rfl rfl))
      (.c (S.indexM (n := k) si69 .none rfl (.tmp rfl rfl) (.tmp rfl rfl) rfl (by omega) rfl)
      (.c (S.field fi73_0 .none rfl (.tmp rfl rfl) rfl)
      (.c (S.load1 ti9 .none rfl (.tmp rfl rfl) rfl)
      (.c (S.sadd .none rfl (.tmp rfl rfl) (.tmp rfl rfl) (by simp only [List.length_append, List.length_cons, List.length_nil]; omega))
      (.c (S.sadd .none rfl (.tmp rfl rfl) (.cstr (l := [120]) rfl (by decide)) (by simp only [List.length_append, List.length_cons, List.length_nil]; omega))
      (.c (S.move .none rfl (.tmp rfl rfl))
      (.c (S.move .none rfl (.tmp rfl rfl))
      (.c (S.indexM (n := i) si50 .none rfl (.tmp rfl rfl) (.tmp rfl rfl) rfl (by omega) rfl)
      (.c (S.field fi71_0 .none rfl (.tmp rfl rfl) rfl)
      (.c (S.load1 ti69 .none rfl (.tmp rfl rfl) rfl)
      (.c (S.move .none rfl (.tmp rfl rfl))
      (.c (S.indexM (n := k) si69 .none rfl (.tmp rfl rfl) (.tmp rfl rfl) rfl (by omega) rfl)
      (.c (S.field fi73_1 .none rfl (.tmp rfl rfl) rfl)
      (.c (S.load1 ti3 .none rfl (.tmp rfl rfl) rfl)
      (.c (S.call (base_Decimal) Tryz.call121 .none rfl (.cons (.tmp rfl rfl) .nil) rfl)
      (.c (S.sadd .none rfl (.tmp rfl rfl) (.tmp rfl rfl) (by simp only [List.length_append, List.length_cons, List.length_nil]; omega))
      (.c (S.assign .none rfl (.tmp rfl rfl))
      .nil)))))))))))))))))))))))) (by kernel_rfl) ?_
     refine Ab.D.blk ?_
     refine Ab.D.code (OK.reg ?_)
     refine RK.c (S.move .none rfl (.tmp rfl rfl)) ?_
     refine RK.c (S.add .none rfl (.tmp rfl rfl) (.cint rfl) (IntWalk.i64_in _ (by omega)) (IntWalk.i64_in _ (by omega))) ?_
     refine RK.c (S.assign .none rfl (.tmp rfl rfl)) ?_
     refine RK.nil ?_
     refine Ab.D.lp ⟨k + 1, (by omega), (by omega), rfl, rfl, (lkS (by rw [hft2, shareStr]; simp only [List.append_assoc])), rfl, trivial⟩
    ·
     have hft2 := fmtTo_F (f := shareStr) (c := 32) hkl (by omega)
     refine OK.skip ?_
     refine Ab.D.code ?_
     refine OK.regionDraw follows (.c (S.move .none rfl (.tmp rfl rfl))
      (.c (S.move .none rfl (.tmp rfl rfl))
      (.c (S.move .none rfl (.tmp rfl rfl))
      (.c (S.indexM (n := i) si50 .none rfl (.tmp rfl rfl) (.tmp rfl rfl) rfl (by omega) rfl)
      (.c (S.field fi71_0 .none rfl (.tmp rfl rfl) rfl)
      (.c (S.load1 ti69 .none rfl (.tmp rfl rfl) rfl)
      (.c (S.move .none rfl (.tmp rfl rfl))
      (.c (S.indexM (n := k) si69 .none rfl (.tmp rfl rfl) (.tmp rfl rfl) rfl (by omega) rfl)
      (.c (S.field fi73_0 .none rfl (.tmp rfl rfl) rfl)
      (.c (S.load1 ti9 .none rfl (.tmp rfl rfl) rfl)
      (.c (S.sadd .none rfl (.tmp rfl rfl) (.tmp rfl rfl) (by simp only [List.length_append, List.length_cons, List.length_nil]; omega))
      (.c (S.sadd .none rfl (.tmp rfl rfl) (.cstr (l := [120]) rfl (by decide)) (by simp only [List.length_append, List.length_cons, List.length_nil]; omega))
      (.c (S.move .none rfl (.tmp rfl rfl))
      (.c (S.move .none rfl (.tmp rfl rfl))
      (.c (S.indexM (n := i) si50 .none rfl (.tmp rfl rfl) (.tmp rfl rfl) rfl (by omega) rfl)
      (.c (S.field fi71_0 .none rfl (.tmp rfl rfl) rfl)
      (.c (S.load1 ti69 .none rfl (.tmp rfl rfl) rfl)
      (.c (S.move .none rfl (.tmp rfl rfl))
      (.c (S.indexM (n := k) si69 .none rfl (.tmp rfl rfl) (.tmp rfl rfl) rfl (by omega) rfl)
      (.c (S.field fi73_1 .none rfl (.tmp rfl rfl) rfl)
      (.c (S.load1 ti3 .none rfl (.tmp rfl rfl) rfl)
      (.c (S.call (base_Decimal) Tryz.call121 .none rfl (.cons (.tmp rfl rfl) .nil) rfl)
      (.c (S.sadd .none rfl (.tmp rfl rfl) (.tmp rfl rfl) (by simp only [List.length_append, List.length_cons, List.length_nil]; omega))
      (.c (S.assign .none rfl (.tmp rfl rfl))
      .nil)))))))))))))))))))))))) (by kernel_rfl) ?_
     refine Ab.D.blk ?_
     refine Ab.D.code (OK.reg ?_)
     refine RK.c (S.move .none rfl (.tmp rfl rfl)) ?_
     refine RK.c (S.add .none rfl (.tmp rfl rfl) (.cint rfl) (IntWalk.i64_in _ (by omega)) (IntWalk.i64_in _ (by omega))) ?_
     refine RK.c (S.assign .none rfl (.tmp rfl rfl)) ?_
     refine RK.nil ?_
     refine Ab.D.lp ⟨k + 1, (by omega), (by omega), rfl, rfl, (lkS (by rw [hft2, shareStr]; simp only [List.append_assoc])), rfl, trivial⟩
   ·
    refine OK.exit rfl ?_
    refine Ab.D.blk ?_
    refine Ab.D.code (OK.reg ?_)
    refine RK.c (S.move .none rfl (.tmp rfl rfl)) ?_
    refine RK.c (S.add .none rfl (.tmp rfl rfl) (.cint rfl) (IntWalk.i64_in _ (by omega)) (IntWalk.i64_in _ (by omega))) ?_
    refine RK.c (S.assign .none rfl (.tmp rfl rfl)) ?_
    refine RK.nil ?_
    refine Ab.D.lp ⟨i + 1, (by omega), (by omega), rfl, (lkS (by rw [hft, hP, fmtTo_e (show k = l[i].shares.length by omega)]; rfl)), rfl, trivial⟩
 ·
  refine OK.exit rfl ?_
  refine Ab.D.code (OK.seq (OK.reg ?_))
  refine RK.c (S.move .none rfl (.tmp rfl rfl)) ?_
  refine RK.c (S.assign .none rfl (.tmp rfl rfl)) ?_
  refine RK.nil (Ab.D.code ?_)
  refine OK.ret (Ret.r1 (.tmp rfl rfl (.c (.same rfl) rfl) rfl) ?_)
  rw [fmtTo_e (by omega)]
  rfl
end Go.Proofs.YtpfepjgnojfppaaGreatDoor
