import Derived.Test.YtpmglnphhhlbdaaGreatDoorGs
import Derived.Test.YtpmglnphhhlbdaaGreatDoorMd
import Derived.Test.YtpmglnphhhlbdaaGreatDoorTy
namespace Go.Proofs.YtpmglnphhhlbdaaGreatDoor
open Go.Ab
def ends : List Range → List Int
  | [] => []
  | r :: l => r.lo :: r.hi :: ends l
theorem ends_app : ∀ a b : List Range, ends (a ++ b) = ends a ++ ends b
  | [], _ => rfl
  | r :: a, b => by rw [List.cons_append, ends, ends, ends_app a b]; rfl
theorem ends_len : ∀ l : List Range, (ends l).length = 2 * l.length
  | [] => rfl
  | r :: l => by rw [ends, List.length_cons, List.length_cons, ends_len l, List.length_cons]; omega
theorem ends_mem : ∀ {l : List Range} {n : Int}, n ∈ ends l → ∃ r ∈ l, n = r.lo ∨ n = r.hi
  | [], _, h => by cases h
  | r :: l, n, h => by
    rw [ends, List.mem_cons, List.mem_cons] at h
    rcases h with rfl | rfl | h
    · exact ⟨r, List.mem_cons_self, .inl rfl⟩
    · exact ⟨r, List.mem_cons_self, .inr rfl⟩
    · obtain ⟨q, hq, e⟩ := ends_mem h
      exact ⟨q, List.mem_cons_of_mem _ hq, e⟩
def rowI (l : List Range) : List UInt8 := numsI (ends l)
def fmtEnv (x : Envelope) : List UInt8 := Lib.join (numsI [x.parts, x.trim] :: x.rows.map rowI) [59]
theorem rows_rep {L : List (List Range)} (h : IsRep (.sl (L.map fun l => [.sl (l.map Range.cs)]))) : ∀ l ∈ L, ∀ n ∈ ends l, IntKind.i64.wrap n = n := by
  intro l hl n hn
  have g : IsRep (.sl (l.map Range.cs)) := h.mem (List.mem_flatten.2 ⟨_, List.mem_map.2 ⟨l, hl, rfl⟩, List.mem_cons_self⟩)
  obtain ⟨r, hr, e⟩ := ends_mem hn
  have k : ∀ y ∈ r.cs, IsRep y := fun y hy => g.mem (List.mem_flatten.2 ⟨r.cs, List.mem_map.2 ⟨r, hr, rfl⟩, hy⟩)
  rcases e with rfl | rfl
  · exact (k _ (by simp [Range.cs])).int
  · exact (k _ (by simp [Range.cs])).int
theorem rowI_len {l : List Range} (h : ∀ n ∈ ends l, IntKind.i64.wrap n = n) (h2 : l.length ≤ 100) : (rowI l).length ≤ 200 * 22 := numsI_len h (by rw [ends_len]; omega)
set_option maxHeartbeats 1000000 in
theorem mon_FormatEnvelope {x : Envelope} (hr : x.rows.length ≤ 100) (hc : ∀ l ∈ x.rows, l.length ≤ 100) : CtT Tryz.prog 13 [.agg x.cs] (.str (fmtEnv x)) := by
 refine CtT.intro (rs := [.tmp 2]) Tryz.func13 rfl Tryz.ntmps13 Tryz.results13 rfl rfl rfl fun w h hT => ?_
 refine OK.aggInt 0 0 rfl rfl rfl fun ha => ?_
 refine OK.aggInt 0 1 rfl rfl rfl fun hb => ?_
 have haw := IntWalk.i64_in _ ha
 have hbw := IntWalk.i64_in _ hb
 have h0l : (numsI [x.parts, x.trim]).length ≤ 2 * 22 := numsI_len (fun n hn => by simp only [List.mem_cons, List.not_mem_nil, or_false] at hn; rcases hn with rfl | rfl; exact haw; exact hbw) (by simp)
 refine OK.seq (OK.reg ?_)
 refine RK.c (S.box (k := 1) rfl .none rfl (.tmp rfl rfl) rfl) ?_
 refine RK.c (S.assign .none rfl (.cstr (l := []) rfl (by decide))) ?_
 refine RK.nil (Ab.D.code (OK.seq (OK.reg ?_)))
 refine RK.c (S.bfield fi30_0 .none rfl (.tmp rfl rfl)) ?_
 refine RK.c (S.bload1 ti3 .none rfl (.tmp rfl rfl) rfl rfl rfl rfl) ?_
 refine RK.c (S.bfield fi30_1 .none rfl (.tmp rfl rfl)) ?_
 refine RK.c (S.bload1 ti3 .none rfl (.tmp rfl rfl) rfl rfl rfl rfl) ?_
 refine RK.c (S.mkSlice (k := 13) (rows := [[_], [_]]) ai25 .none rfl (.cons (.tmp rfl rfl) (.cons (.tmp rfl rfl) .nil)) rfl rfl rfl rfl rfl rfl rfl) ?_
 refine RK.c (S.callLT (mon_joined (l := [x.parts, x.trim]) (by simp)) hT Tryz.call55 .none rfl (.cons (.tmp rfl rfl) .nil) (.cons (.p (.own rfl rfl) rfl) .nil) rfl) ?_
 refine RK.c (S.mkSlice (k := 15) (rows := [[_]]) ai22 .none rfl (.cons (.tmp rfl rfl) .nil) rfl rfl rfl rfl rfl rfl rfl) ?_
 refine RK.c (S.assign .none rfl (.tmp rfl rfl)) ?_
 refine RK.nil (Ab.D.code (OK.seq (OK.seq (OK.reg ?_))))
 refine RK.c (S.bfield fi30_2 .none rfl (.tmp rfl rfl)) ?_
 refine RK.c (S.bload1 ti28 .none rfl (.tmp rfl rfl) rfl rfl rfl rfl) ?_
 refine RK.c (S.lenM si28 .none rfl (.tmp rfl rfl)) ?_
 refine RK.c (S.move .none rfl (.cint rfl)) ?_
 refine RK.nil (Ab.D.code ?_)
 refine OK.block ?_
 refine OK.slRep (t := 17) rfl rfl fun hR => ?_
 have hW := rows_rep hR
 clear hR
 have hRL : ∀ l ∈ x.rows, (rowI l).length ≤ 4400 := fun l hl => rowI_len (hW l hl) (hc l hl)
 refine OK.loop (G := Nat) [15] (fun i => [(3, .own 15 (i + 1)), (2015, .arr 1 ((numsI [x.parts, x.trim] :: (x.rows.take i).map rowI).map fun s => [.str s])), (17, .sl (x.rows.map fun l => [.sl (l.map Range.cs)])), (18, .int .i64 x.rows.length), (19, .int .i64 i)]) (fun i => i ≤ x.rows.length) (fun i => x.rows.length - i) 0 (Nat.zero_le _) ⟨rfl, rfl, rfl, rfl, rfl, trivial⟩ (fun _ => rfl) ?_
 rintro i hi
 refine OK.seq (OK.reg ?_)
 refine RK.c (S.lss .none rfl (.tmp rfl rfl) (.tmp rfl rfl)) ?_
 refine RK.nil (Ab.D.code ?_)
 refine OK.seq ?_
 refine OK.condD rfl rfl (fun c20 => ?_) (fun c20 => ?_)
 ·
  have hir : i < x.rows.length := by omega
  have hcl := hc _ (List.getElem_mem hir)
  refine OK.skip ?_
  refine Ab.D.code ?_
  refine OK.seq ?_
  refine OK.block ?_
  refine OK.seq (OK.reg ?_)
  refine RK.c (S.indexM (n := i) si28 .none rfl (.tmp rfl rfl) (.tmp rfl rfl) rfl (by omega) rfl) ?_
  refine RK.c (S.load1 ti114 .none rfl (.tmp rfl rfl) rfl) ?_
  refine RK.c (S.assign .none rfl (.tmp rfl rfl)) ?_
  refine RK.nil (Ab.D.code (OK.seq (OK.reg ?_)))
  refine RK.c (S.nilOwn (k := 6) (sz := 1) .none rfl) ?_
  refine RK.nil (Ab.D.code (OK.seq (OK.seq (OK.reg ?_))))
  refine RK.c (S.move .none rfl (.tmp rfl rfl)) ?_
  refine RK.c (S.lenM si114 .none rfl (.tmp rfl rfl)) ?_
  refine RK.c (S.move .none rfl (.cint rfl)) ?_
  refine RK.nil (Ab.D.code ?_)
  refine OK.block ?_
  refine OK.loop (G := Nat) [15, 6] (fun k => [(3, .own 15 (i + 1)), (2015, .arr 1 ((numsI [x.parts, x.trim] :: (x.rows.take i).map rowI).map fun s => [.str s])), (17, .sl (x.rows.map fun l => [.sl (l.map Range.cs)])), (18, .int .i64 x.rows.length), (19, .int .i64 i), (6, .own 6 (2 * k)), (2006, .arr 1 ((ends (x.rows[i].take k)).map (fun n => [.int .i64 n]))), (23, .sl (x.rows[i].map Range.cs)), (24, .int .i64 x.rows[i].length), (25, .int .i64 k)]) (fun k => k ≤ x.rows[i].length) (fun k => x.rows[i].length - k) 0 (Nat.zero_le _) ⟨(lk_own (by first | rfl | (simp; done) | (simp; omega))), (lk_arr (by first | rfl | (simp; done) | (simp; omega))), rfl, rfl, rfl, (lk_own (by first | rfl | (simp; done) | (simp; omega))), (lk_arr (by first | rfl | (simp; done) | (simp; omega))), rfl, rfl, rfl, trivial⟩ (fun _ => rfl) ?_
  rintro k hk
  refine OK.seq (OK.reg ?_)
  refine RK.c (S.lss .none rfl (.tmp rfl rfl) (.tmp rfl rfl)) ?_
  refine RK.nil (Ab.D.code ?_)
  refine OK.seq ?_
  refine OK.condD rfl rfl (fun c26 => ?_) (fun c26 => ?_)
  ·
   refine OK.skip ?_
   refine Ab.D.code ?_
   refine OK.seq ?_
   refine OK.block ?_
   refine OK.seq (OK.reg ?_)
   refine RK.c (S.indexM (n := k) si114 .none rfl (.tmp rfl rfl) (.tmp rfl rfl) rfl (by omega) rfl) ?_
   refine RK.c (S.loadN ti113 .none rfl (.tmp rfl rfl) rfl rfl) ?_
   refine RK.c (S.alloc (k := 8) ze113 rfl .none rfl) ?_
   refine RK.c (S.store ti113 .none (.tmp rfl rfl) (.tmp rfl rfl) rfl rfl rfl rfl rfl rfl) ?_
   refine RK.nil (Ab.D.code (OK.reg ?_))
   refine RK.c (S.move .none rfl (.tmp rfl rfl)) ?_
   refine RK.c (S.bfield fi113_0 .none rfl (.tmp rfl rfl)) ?_
   refine RK.c (S.bload1 ti3 .none rfl (.tmp rfl rfl) rfl rfl rfl rfl) ?_
   refine RK.c (S.bfield fi113_1 .none rfl (.tmp rfl rfl)) ?_
   refine RK.c (S.bload1 ti3 .none rfl (.tmp rfl rfl) rfl rfl rfl rfl) ?_
   refine RK.c (S.mkSlice (k := 34) (rows := [[_], [_]]) ai25 .none rfl (.cons (.tmp rfl rfl) (.cons (.tmp rfl rfl) .nil)) rfl rfl rfl rfl rfl rfl rfl) ?_
   refine RK.c (S.append ai25 .none rfl (.tmp rfl rfl) rfl (by rw [List.length_map, ends_len, List.length_take]; omega) (.tmp rfl rfl) rfl (by first | rfl | (simp; done) | (simp; omega)) (by omega) (by simp only [maxLen]; omega)) ?_
   refine RK.c (S.assign .none rfl (.tmp rfl rfl)) ?_
   refine RK.nil ?_
   refine Ab.D.blk ?_
   refine Ab.D.code (OK.reg ?_)
   refine RK.c (S.add .none rfl (.tmp rfl rfl) (.cint rfl) (IntWalk.i64_in _ (by omega)) (IntWalk.i64_in _ (by omega))) ?_
   refine RK.c (S.move .none rfl (.tmp rfl rfl)) ?_
   refine RK.nil ?_
   refine Ab.D.lp ⟨k + 1, (by omega), (by omega), (lk_own (by first | rfl | (simp; done) | (simp; omega))), (lk_arr (by first | rfl | (simp; done) | (simp; omega))), rfl, rfl, rfl, (lk_own (by omega)), (lk_arr (by rw [List.take_succ_eq_append_getElem (by omega), ends_app, List.map_append]; rfl)), rfl, rfl, rfl, trivial⟩
  ·
   refine OK.exit rfl ?_
   refine Ab.D.code ?_
   rw [show k = x.rows[i].length by omega, List.take_length]
   refine OK.reg ?_
   refine RK.c (S.move .none rfl (.tmp rfl rfl)) ?_
   refine RK.c (S.move .none rfl (.tmp rfl rfl)) ?_
   refine RK.c (S.callLT (mon_joined (l := ends x.rows[i]) (by rw [ends_len]; omega)) hT Tryz.call55 .none rfl (.cons (.tmp rfl rfl) .nil) (.cons (.p (.own rfl (by rw [List.length_map, ends_len])) rfl) .nil) rfl) ?_
   refine RK.c (S.mkSlice (k := 40) (rows := [[_]]) ai22 .none rfl (.cons (.tmp rfl rfl) .nil) rfl rfl rfl rfl rfl rfl rfl) ?_
   refine RK.c (S.append ai22 .none rfl (.tmp rfl rfl) rfl (by simp; omega) (.tmp rfl rfl) rfl (by first | rfl | (simp; done) | (simp; omega)) (by omega) (by simp only [maxLen]; omega)) ?_
   refine RK.c (S.assign .none rfl (.tmp rfl rfl)) ?_
   refine RK.nil ?_
   refine Ab.D.blk ?_
   refine Ab.D.code (OK.reg ?_)
   refine RK.c (S.add .none rfl (.tmp rfl rfl) (.cint rfl) (IntWalk.i64_in _ (by omega)) (IntWalk.i64_in _ (by omega))) ?_
   refine RK.c (S.move .none rfl (.tmp rfl rfl)) ?_
   refine RK.nil ?_
   refine Ab.D.lp ⟨i + 1, (by omega), (by omega), (lk_own (by omega)), (lk_arr (by rw [List.take_succ_eq_append_getElem (by omega), List.map_append, ← List.cons_append, List.map_append]; rfl)), rfl, rfl, rfl, trivial⟩
 ·
  refine OK.exit rfl ?_
  refine Ab.D.code ?_
  refine OK.seq ?_
  rw [show i = x.rows.length by omega, List.take_length]
  refine OK.reg ?_
  refine RK.c (S.move .none rfl (.tmp rfl rfl)) ?_
  refine RK.c (S.callL (joinI.ct (l := numsI [x.parts, x.trim] :: x.rows.map rowI) (sep := [59]) (by simp; omega) (by have := join_bd (l := numsI [x.parts, x.trim] :: x.rows.map rowI) (sep := [59]) (B := 4400) (N := 101) (fun w hw => by rcases List.mem_cons.1 hw with rfl | hw; omega; obtain ⟨l, hl, rfl⟩ := List.mem_map.1 hw; exact hRL l hl) (by simp; omega) rfl; omega)) Tryz.call53 .none rfl (.cons (.tmp rfl rfl) (.cons (.cstr (l := [59]) rfl (by decide)) .nil)) (.cons (.p (.own rfl (by simp)) rfl) (.cons (.same rfl) .nil)) rfl) ?_
  refine RK.c (S.assign .none rfl (.tmp rfl rfl)) ?_
  refine RK.nil (Ab.D.code ?_)
  refine OK.ret (Ret.r1 (.tmp rfl rfl (.c (.same rfl) rfl) rfl) ?_)
  rfl
end Go.Proofs.YtpmglnphhhlbdaaGreatDoor
namespace Go.Proofs.YtpmglnphhhlbdaaGreatDoor
open Go.Ab
theorem same_frame {a b : Frame} (h : a.tick = b.tick) : decide (a.values = b.values) = decide (a = b) := by
  cases a
  cases b
  simp only [Frame.mk.injEq] at *
  simp [h]
theorem diff_frame {a b : Frame} (h : ¬ a.tick = b.tick) : false = decide (a = b) := (decide_eq_false fun e => h (by rw [e])).symm
theorem ref_SameFrame {a b : Frame} : Ct Tryz.prog 25 [.agg a.cs, .agg b.cs] (.bool (decide (a = b))) := by
 refine Ct.intro (rs := [.tmp 4]) Tryz.func25 rfl Tryz.ntmps25 Tryz.results25 rfl rfl rfl fun w h => ?_
 refine OK.seq (OK.reg ?_)
 refine RK.c (S.box (k := 2) rfl .none rfl (.tmp rfl rfl) rfl) ?_
 refine RK.c (S.box (k := 3) rfl .none rfl (.tmp rfl rfl) rfl) ?_
 refine RK.c (S.assign .none rfl .cbool) ?_
 refine RK.nil (Ab.D.code (OK.seq (OK.reg ?_)))
 refine RK.c (S.bfield fi27_0 .none rfl (.tmp rfl rfl)) ?_
 refine RK.c (S.bload1 ti3 .none rfl (.tmp rfl rfl) rfl rfl rfl rfl) ?_
 refine RK.c (S.bfield fi27_0 .none rfl (.tmp rfl rfl)) ?_
 refine RK.c (S.bload1 ti3 .none rfl (.tmp rfl rfl) rfl rfl rfl rfl) ?_
 refine RK.c (S.eql .none rfl (.tmp rfl rfl) (.tmp rfl rfl)) ?_
 refine RK.c (S.move .none rfl (.tmp rfl rfl)) ?_
 refine RK.splitD (t := 10) rfl (fun g10 => ?_) (fun g10 => ?_)
 ·
  refine RK.c (S.bfield fi27_1 (.yes rfl rfl rfl rfl) rfl (.tmp rfl rfl)) ?_
  refine RK.c (S.bload1 ti25 (.yes rfl rfl rfl rfl) rfl (.tmp rfl rfl) rfl rfl rfl rfl) ?_
  refine RK.c (S.bfield fi27_1 (.yes rfl rfl rfl rfl) rfl (.tmp rfl rfl)) ?_
  refine RK.c (S.bload1 ti25 (.yes rfl rfl rfl rfl) rfl (.tmp rfl rfl) rfl rfl rfl rfl) ?_
  refine RK.c (S.call (base_Ints) Tryz.call52 (.yes rfl rfl rfl rfl) rfl (.cons (.tmp rfl rfl) (.cons (.tmp rfl rfl) .nil)) rfl) ?_
  refine RK.c (S.pickT .none rfl (.tmp rfl rfl) (.tmp rfl rfl) rfl) ?_
  refine RK.c (S.assign .none rfl (.tmp rfl rfl)) ?_
  refine RK.nil (Ab.D.code ?_)
  refine OK.ret (Ret.r1 (.tmp rfl rfl (.c (.same rfl) rfl) rfl) ?_)
  exact ret_b (same_frame g10)
 ·
  refine RK.c (S.skip rfl rfl rfl rfl rfl) ?_
  refine RK.c (S.skip rfl rfl rfl rfl rfl) ?_
  refine RK.c (S.skip rfl rfl rfl rfl rfl) ?_
  refine RK.c (S.skip rfl rfl rfl rfl rfl) ?_
  refine RK.c (S.skip rfl rfl rfl rfl rfl) ?_
  refine RK.c (S.pickF .none rfl (.tmp rfl rfl) .cbool rfl) ?_
  refine RK.c (S.assign .none rfl (.tmp rfl rfl)) ?_
  refine RK.nil (Ab.D.code ?_)
  refine OK.ret (Ret.r1 (.tmp rfl rfl (.c (.same rfl) rfl) rfl) ?_)
  exact ret_b (diff_frame g10)
set_option maxHeartbeats 1000000 in
theorem ref_FormatEnvelope {x : Envelope} (hr : x.rows.length ≤ 100) (hc : ∀ l ∈ x.rows, l.length ≤ 100) : Ct Tryz.prog 17 [.agg x.cs] (.str (fmtEnv x)) := by
 refine Ct.intro (rs := [.tmp 2]) Tryz.func17 rfl Tryz.ntmps17 Tryz.results17 rfl rfl rfl fun w h => ?_
 refine OK.aggInt 0 0 rfl rfl rfl fun ha => ?_
 refine OK.aggInt 0 1 rfl rfl rfl fun hb => ?_
 have haw := IntWalk.i64_in _ ha
 have hbw := IntWalk.i64_in _ hb
 have h0l : (numsI [x.parts, x.trim]).length ≤ 2 * 22 := numsI_len (fun n hn => by simp only [List.mem_cons, List.not_mem_nil, or_false] at hn; rcases hn with rfl | rfl; exact haw; exact hbw) (by simp)
 refine OK.seq (OK.reg ?_)
 refine RK.c (S.box (k := 1) rfl .none rfl (.tmp rfl rfl) rfl) ?_
 refine RK.c (S.assign .none rfl (.cstr (l := []) rfl (by decide))) ?_
 refine RK.nil (Ab.D.code (OK.seq (OK.reg ?_)))
 refine RK.c (S.bfield fi30_0 .none rfl (.tmp rfl rfl)) ?_
 refine RK.c (S.bload1 ti3 .none rfl (.tmp rfl rfl) rfl rfl rfl rfl) ?_
 refine RK.c (S.bfield fi30_1 .none rfl (.tmp rfl rfl)) ?_
 refine RK.c (S.bload1 ti3 .none rfl (.tmp rfl rfl) rfl rfl rfl rfl) ?_
 refine RK.c (S.mkSlice (k := 11) (rows := [[_], [_]]) ai25 .none rfl (.cons (.tmp rfl rfl) (.cons (.tmp rfl rfl) .nil)) rfl rfl rfl rfl rfl rfl rfl) ?_
 refine RK.c (S.callL (ref_text (l := [x.parts, x.trim]) (by simp)) Tryz.call59 .none rfl (.cons (.tmp rfl rfl) .nil) (.cons (.p (.own rfl rfl) rfl) .nil) rfl) ?_
 refine RK.c (S.assign .none rfl (.tmp rfl rfl)) ?_
 refine RK.nil (Ab.D.code (OK.seq (OK.seq (OK.reg ?_))))
 refine RK.c (S.assign .none rfl (.cint rfl)) ?_
 refine RK.nil (Ab.D.code ?_)
 refine OK.block ?_
 refine OK.loop (G := Nat) [1] (fun i => [(1, .ptr 1 0), (1001, .box x.cs), (3, .str (Lib.join (numsI [x.parts, x.trim] :: (x.rows.take i).map rowI) [59])), (4, .int .i64 i)]) (fun i => i ≤ x.rows.length) (fun i => x.rows.length - i) 0 (Nat.zero_le _) ⟨rfl, rfl, (congrArg (fun z => some (X.str z)) (by rw [List.take_zero, List.map_nil, Lib.join_one])), rfl, trivial⟩ (fun _ => rfl) ?_
 rintro i hi
 refine OK.seq (OK.seq (OK.reg ?_))
 refine RK.c (S.move .none rfl (.tmp rfl rfl)) ?_
 refine RK.c (S.bfield fi30_2 .none rfl (.tmp rfl rfl)) ?_
 refine RK.c (S.bload1 ti28 .none rfl (.tmp rfl rfl) rfl rfl rfl rfl) ?_
 refine RK.c (S.lenM si28 .none rfl (.tmp rfl rfl)) ?_
 refine RK.c (S.lss .none rfl (.tmp rfl rfl) (.tmp rfl rfl)) ?_
 refine RK.nil (Ab.D.code ?_)
 refine OK.condD rfl rfl (fun c17 => ?_) (fun c17 => ?_)
 ·
  have hir : i < x.rows.length := by omega
  have hcl := hc _ (List.getElem_mem hir)
  refine OK.slRep (t := 15) rfl rfl fun hR => ?_
  have hW := rows_rep hR
  clear hR
  have hRL : ∀ l ∈ x.rows, (rowI l).length ≤ 4400 := fun l hl => rowI_len (hW l hl) (hc l hl)
  have e1 := hRL _ (List.getElem_mem hir)
  have e2 := join_bd (l := numsI [x.parts, x.trim] :: (x.rows.take i).map rowI) (sep := [59]) (B := 4400) (N := 101) (fun w hw => by rcases List.mem_cons.1 hw with rfl | hw; omega; obtain ⟨l, hl, rfl⟩ := List.mem_map.1 hw; exact hRL l (List.mem_of_mem_take hl)) (by simp; omega) rfl
  have e3 : (numsI (ends x.rows[i])).length ≤ 4400 := e1
  refine OK.skip ?_
  refine Ab.D.code ?_
  refine OK.seq ?_
  refine OK.block ?_
  refine OK.seq (OK.reg ?_)
  refine RK.c (S.nilOwn (k := 5) (sz := 1) .none rfl) ?_
  refine RK.nil (Ab.D.code (OK.seq (OK.seq (OK.reg ?_))))
  refine RK.c (S.assign .none rfl (.cint rfl)) ?_
  refine RK.nil (Ab.D.code ?_)
  refine OK.block ?_
  refine OK.loop (G := Nat) [1, 5] (fun k => [(1, .ptr 1 0), (1001, .box x.cs), (3, .str (Lib.join (numsI [x.parts, x.trim] :: (x.rows.take i).map rowI) [59])), (4, .int .i64 i), (5, .own 5 (2 * k)), (2005, .arr 1 ((ends (x.rows[i].take k)).map (fun n => [.int .i64 n]))), (6, .int .i64 k)]) (fun k => k ≤ x.rows[i].length) (fun k => x.rows[i].length - k) 0 (Nat.zero_le _) ⟨rfl, rfl, rfl, rfl, (lk_own (by first | rfl | (simp; done) | (simp; omega))), (lk_arr (by first | rfl | (simp; done) | (simp; omega))), rfl, trivial⟩ (fun _ => rfl) ?_
  rintro k hk
  refine OK.seq (OK.seq (OK.reg ?_))
  refine RK.c (S.move .none rfl (.tmp rfl rfl)) ?_
  refine RK.c (S.bfield fi30_2 .none rfl (.tmp rfl rfl)) ?_
  refine RK.c (S.bload1 ti28 .none rfl (.tmp rfl rfl) rfl rfl rfl rfl) ?_
  refine RK.c (S.move .none rfl (.tmp rfl rfl)) ?_
  refine RK.c (S.indexM (n := i) si28 .none rfl (.tmp rfl rfl) (.tmp rfl rfl) rfl (by omega) rfl) ?_
  refine RK.c (S.load1 ti114 .none rfl (.tmp rfl rfl) rfl) ?_
  refine RK.c (S.lenM si114 .none rfl (.tmp rfl rfl)) ?_
  refine RK.c (S.lss .none rfl (.tmp rfl rfl) (.tmp rfl rfl)) ?_
  refine RK.nil (Ab.D.code ?_)
  refine OK.condD rfl rfl (fun c27 => ?_) (fun c27 => ?_)
  ·
   refine OK.skip ?_
   refine Ab.D.code ?_
   refine OK.seq ?_
   refine OK.block ?_
   refine OK.regionDraw follows (.c (S.move .none rfl (.tmp rfl rfl))
    (.c (S.bfield fi30_2 .none rfl (.tmp rfl rfl))
    (.c (S.bload1 ti28 .none rfl (.tmp rfl rfl) rfl rfl rfl rfl)
    (.c (S.move .none rfl (.tmp rfl rfl))
    (.c (S.indexM (n := i) si28 .none rfl (.tmp rfl rfl) (.tmp rfl rfl) rfl (by omega) rfl)
    (.c (S.load1 ti114 .none rfl (.tmp rfl rfl) rfl)
    (.c (S.move .none rfl (.tmp rfl rfl))
    (.c (S.indexM (n := k) si114 .none rfl (.tmp rfl rfl) (.tmp rfl rfl) rfl (by omega) rfl)
    (.c (S.field fi113_0 .none rfl (.tmp rfl rfl) rfl)
    (.c (S.load1 ti3 .none rfl (.tmp rfl rfl) rfl)
    (.c (S.bfield fi30_2 .none rfl (.tmp rfl rfl))
    (.c (S.bload1 ti28 .none rfl (.tmp rfl rfl) rfl rfl rfl rfl)
    (.c (S.move .none rfl (.tmp rfl rfl))
    (.c (S.indexM (n := i) si28 .none rfl (.tmp rfl rfl) (.tmp rfl rfl) rfl (by omega) rfl)
    (.c (S.load1 ti114 .none rfl (.tmp rfl rfl) rfl)
    (.c (S.move .none rfl (.tmp rfl rfl))
    (.c (S.indexM (n := k) si114 .none rfl (.tmp rfl rfl) (.tmp rfl rfl) rfl (by omega) rfl)
    (.c (S.field fi113_1 .none rfl (.tmp rfl rfl) rfl)
    (.c (S.load1 ti3 .none rfl (.tmp rfl rfl) rfl)
    (.c (S.mkSlice (k := 49) (rows := [[_], [_]]) ai25 .none rfl (.cons (.tmp rfl rfl) (.cons (.tmp rfl rfl) .nil)) rfl rfl rfl rfl rfl rfl rfl)
    (.c (S.append ai25 .none rfl (.tmp rfl rfl) rfl (by rw [List.length_map, ends_len, List.length_take]; omega) (.tmp rfl rfl) rfl (by first | rfl | (simp; done) | (simp; omega)) (by omega) (by simp only [maxLen]; omega))
    (.c (S.assign .none rfl (.tmp rfl rfl))
    .nil)))))))))))))))))))))) (by kernel_rfl) ?_
   refine Ab.D.blk ?_
   refine Ab.D.code (OK.reg ?_)
   refine RK.c (S.move .none rfl (.tmp rfl rfl)) ?_
   refine RK.c (S.add .none rfl (.tmp rfl rfl) (.cint rfl) (IntWalk.i64_in _ (by omega)) (IntWalk.i64_in _ (by omega))) ?_
   refine RK.c (S.assign .none rfl (.tmp rfl rfl)) ?_
   refine RK.nil ?_
   refine Ab.D.lp ⟨k + 1, (by omega), (by omega), rfl, rfl, rfl, rfl, (lk_own (by omega)), (lk_arr (by rw [List.take_succ_eq_append_getElem (by omega), ends_app, List.map_append]; rfl)), rfl, trivial⟩
  ·
   refine OK.exit rfl ?_
   refine Ab.D.code ?_
   rw [show k = x.rows[i].length by omega, List.take_length]
   refine OK.reg ?_
   refine RK.c (S.move .none rfl (.tmp rfl rfl)) ?_
   refine RK.c (S.sadd .none rfl (.tmp rfl rfl) (.cstr (l := [59]) rfl (by decide)) (by simp only [List.length_append, List.length_cons, List.length_nil]; omega)) ?_
   refine RK.c (S.move .none rfl (.tmp rfl rfl)) ?_
   refine RK.c (S.callL (ref_text (l := ends x.rows[i]) (by rw [ends_len]; omega)) Tryz.call59 .none rfl (.cons (.tmp rfl rfl) .nil) (.cons (.p (.own rfl (by rw [List.length_map, ends_len])) rfl) .nil) rfl) ?_
   refine RK.c (S.sadd .none rfl (.tmp rfl rfl) (.tmp rfl rfl) (by simp only [List.length_append, List.length_cons, List.length_nil]; omega)) ?_
   refine RK.c (S.assign .none rfl (.tmp rfl rfl)) ?_
   refine RK.nil ?_
   refine Ab.D.blk ?_
   refine Ab.D.code (OK.reg ?_)
   refine RK.c (S.move .none rfl (.tmp rfl rfl)) ?_
   refine RK.c (S.add .none rfl (.tmp rfl rfl) (.cint rfl) (IntWalk.i64_in _ (by omega)) (IntWalk.i64_in _ (by omega))) ?_
   refine RK.c (S.assign .none rfl (.tmp rfl rfl)) ?_
   refine RK.nil ?_
   refine Ab.D.lp ⟨i + 1, (by omega), (by omega), rfl, rfl, (congrArg (fun z => some (X.str z)) (by rw [List.take_succ_eq_append_getElem hir, List.map_append, ← List.cons_append, List.map_cons, List.map_nil, join_snoc, if_neg (by simp)]; simp only [List.append_assoc]; rfl)), rfl, trivial⟩
 ·
  refine OK.exit rfl ?_
  refine Ab.D.code (OK.seq (OK.reg ?_))
  refine RK.c (S.move .none rfl (.tmp rfl rfl)) ?_
  refine RK.c (S.assign .none rfl (.tmp rfl rfl)) ?_
  refine RK.nil (Ab.D.code ?_)
  refine OK.ret (Ret.r1 (.tmp rfl rfl (.c (.same rfl) rfl) rfl) ?_)
  rw [show i = x.rows.length by omega, List.take_length]
  rfl
end Go.Proofs.YtpmglnphhhlbdaaGreatDoor
namespace Go.Proofs.YtpmglnphhhlbdaaGreatDoor
open Go.Ab
def chunk2 : List Int → List (List Int)
  | a :: b :: l => [a, b] :: chunk2 l
  | [a] => [[a]]
  | [] => []
theorem chunk2_cons {l : List Int} {i : Nat} (h : i + 1 < l.length) : chunk2 (l.drop i) = (l.take (i + 2)).drop i :: chunk2 (l.drop (i + 2)) := by
  have h0 : i < l.length := by omega
  have e1 := List.drop_eq_getElem_cons h0
  have e2 := List.drop_eq_getElem_cons h
  rw [e1, e2, chunk2, List.drop_take, e1, e2]
  have : i + 2 - i = 2 := by omega
  rw [this]
  rfl
theorem chunk2_end {l : List Int} {i : Nat} (h : i = l.length) : chunk2 (l.drop i) = [] := by rw [h, List.drop_length]; rfl
abbrev ChCb (σ : Type) (J : σ → Mem → (Nat → Prop) → World → Prop) (g : σ → List Int → σ × Bool) (s0 : σ) (Φ : Value → Prop) (D : List (List Int)) : Prop :=
  ∀ v, Φ v → ∀ (i : Nat) (x : List Int), D[i]? = some x → (iterG g s0 (D.take i)).2 = true → CbOk Tryz.prog v [ints x] (.bool (g (iterG g s0 (D.take i)).1 x).2) (J (iterG g s0 (D.take i)).1) (J (g (iterG g s0 (D.take i)).1 x).1)
theorem ch_cb {σ : Type} {J : σ → Mem → (Nat → Prop) → World → Prop} {g : σ → List Int → σ × Bool} {s0 : σ} {Φ : Value → Prop} {D pre rest : List (List Int)} {d : List Int} (hcb : ChCb σ J g s0 Φ D) (hD : D = pre ++ d :: rest) (hrun : (iterG g s0 pre).2 = true) :
    ∀ v, Φ v → CbOk Tryz.prog v [ints d] (.bool (g (iterG g s0 pre).1 d).2) (J (iterG g s0 pre).1) (J (g (iterG g s0 pre).1 d).1) := by
  intro v hv
  have ht : D.take pre.length = pre := by rw [hD]; simp
  have h := hcb v hv pre.length d (by rw [hD]; simp) (by rw [ht]; exact hrun)
  rw [ht] at h
  exact h
set_option maxHeartbeats 1000000 in
theorem chunk1 {l : List Int} (hl : l.length ≤ 100000) (hev : l.length % 2 = 0) {σ : Type} (J : σ → Mem → (Nat → Prop) → World → Prop) (g : σ → List Int → σ × Bool) (s0 : σ) (Φ : Value → Prop) (hst : ∀ s, Stable (J s)) (hcb : ChCb σ J g s0 Φ (chunk2 l)) : CtG Tryz.prog 123 [871, 872] [.cb Φ, .ptr 871 0, .ptr 872 0] [(3000, .res (J s0)), (1871, .box [ints l]), (1872, .box [.int .i64 2])] [(3000, .res (J (iterG g s0 (chunk2 l)).1))] (.tup []) := by
 refine CtG.intro (rs := []) Tryz.func123 rfl Tryz.ntmps123 Tryz.results123 rfl rfl rfl rfl fun w h => ?_
 refine OK.seq (OK.reg ?_)
 refine RK.c (S.assign .none rfl (.cint rfl)) ?_
 refine RK.nil (Ab.D.code ?_)
 refine OK.block ?_
 refine OK.loop2 [871, 872] (fun (i : Nat) (pre : List (List Int)) => [(0, .cb Φ), (1, .ptr 871 0), (2, .ptr 872 0), (1871, .box [ints l]), (1872, .box [.int .i64 2]), (3000, .res (J (iterG g s0 pre).1)), (4, .int .i64 i)]) (fun i pre => (iterG g s0 pre).2 = true ∧ chunk2 l = pre ++ chunk2 (l.drop i) ∧ i ≤ l.length ∧ i % 2 = 0) (fun i pre => l.length - i) (0) ([]) ⟨rfl, by rw [List.drop_zero]; rfl, Nat.zero_le _, rfl⟩ ⟨rfl, rfl, rfl, rfl, rfl, rfl, rfl, trivial⟩ (fun _ _ => rfl) ?_
 rintro i pre ⟨hrun, hD, hi, hi2⟩
 refine OK.seq (OK.seq (OK.reg ?_))
 refine RK.c (S.move .none rfl (.tmp rfl rfl)) ?_
 refine RK.c (S.bload1 ti25 .none rfl (.tmp rfl rfl) rfl rfl rfl rfl) ?_
 refine RK.c (S.lenM si25 .none rfl (.tmp rfl rfl)) ?_
 refine RK.c (S.lss .none rfl (.tmp rfl rfl) (.tmp rfl rfl)) ?_
 refine RK.nil (Ab.D.code ?_)
 refine OK.condD rfl rfl (fun c9 => ?_) (fun c9 => ?_)
 ·
  have hil : i + 1 < l.length := by omega
  have hdl : (l.drop i).length = l.length - i := List.length_drop ..
  have hD2 : chunk2 l = pre ++ ((l.take (i + 2)).drop i) :: chunk2 (l.drop (i + 2)) := by rw [hD, chunk2_cons hil]
  refine OK.skip ?_
  refine Ab.D.code ?_
  refine OK.seq ?_
  refine OK.block ?_
  refine OK.seq ?_
  refine OK.regionDraw follows (.c (S.bload1 ti3 .none rfl (.tmp rfl rfl) rfl rfl rfl rfl)
   (.c (S.bload1 ti25 .none rfl (.tmp rfl rfl) rfl rfl rfl rfl)
   (.c (S.move .none rfl (.tmp rfl rfl))
   (.c (S.slice (lo := i) (l' := l.drop i) si25 (fun _ => rfl) .none rfl (.tmp rfl rfl) (.inr ⟨_, _, rfl, (.tmp rfl rfl), rfl⟩) (.inl ⟨rfl, rfl, rfl⟩) (by omega) (by omega) (by rw [List.take_length]))
   (.c (S.lenM si25 .none rfl (.tmp rfl rfl))
   (.c (S.min2 .none rfl (.tmp rfl rfl) (.tmp rfl rfl))
   (.c (S.assign .none rfl (.tmp rfl rfl))
   .nil))))))) (by kernel_rfl) ?_
  refine Ab.D.code (OK.seq (OK.reg ?_))
  refine RK.c (S.move .none rfl (.tmp rfl rfl)) ?_
  refine RK.c (S.bload1 ti25 .none rfl (.tmp rfl rfl) rfl rfl rfl rfl) ?_
  refine RK.c (S.move .none rfl (.tmp rfl rfl)) ?_
  refine RK.c (S.move .none rfl (.tmp rfl rfl)) ?_
  refine RK.c (S.move .none rfl (.tmp rfl rfl)) ?_
  refine RK.c (S.add .none rfl (.tmp rfl rfl) (.tmp rfl rfl) (IntWalk.i64_in _ (by split <;> omega)) (IntWalk.i64_in _ (by split <;> omega))) ?_
  refine RK.c (S.move .none rfl (.tmp rfl rfl)) ?_
  refine RK.c (S.move .none rfl (.tmp rfl rfl)) ?_
  refine RK.c (S.add .none rfl (.tmp rfl rfl) (.tmp rfl rfl) (IntWalk.i64_in _ (by split <;> omega)) (IntWalk.i64_in _ (by split <;> omega))) ?_
  refine RK.c (S.slice3 (lo := i) (hi := i + 2) (l' := ((l.take (i + 2)).drop i)) si25 (fun _ => rfl) .none rfl (.tmp rfl rfl) (.tmp rfl rfl) (.tmp rfl rfl) (.tmp rfl rfl) rfl (by split <;> omega) (by split <;> omega) (by omega) (by omega) rfl) ?_
  refine RK.c (S.callcb (J1 := J (g (iterG g s0 pre).1 ((l.take (i + 2)).drop i)).1) (ch_cb hcb hD2 hrun) (hst _) .none rfl (.tmp rfl rfl) (.cons (.tmp rfl rfl) .nil) rfl rfl) ?_
  refine RK.c (S.not .none rfl (.tmp rfl rfl)) ?_
  refine RK.nil (Ab.D.code ?_)
  refine OK.cond rfl rfl (fun c30 => ?_) (fun c30 => ?_)
  ·
   have hstop : (g (iterG g s0 pre).1 ((l.take (i + 2)).drop i)).2 = false := by simpa using c30
   exact OK.ret ⟨⟨.inl rfl, [], trivial, rfl⟩, lkR (by rw [hD2, it_stop hrun hstop]), trivial⟩
  ·
   have hcont : (g (iterG g s0 pre).1 ((l.take (i + 2)).drop i)).2 = true := by simpa using c30
   refine OK.skip ?_
   refine Ab.D.blk ?_
   refine Ab.D.code (OK.reg ?_)
   refine RK.c (S.move .none rfl (.tmp rfl rfl)) ?_
   refine RK.c (S.bload1 ti3 .none rfl (.tmp rfl rfl) rfl rfl rfl rfl) ?_
   refine RK.c (S.add .none rfl (.tmp rfl rfl) (.tmp rfl rfl) (IntWalk.i64_in _ (by omega)) (IntWalk.i64_in _ (by omega))) ?_
   refine RK.c (S.assign .none rfl (.tmp rfl rfl)) ?_
   refine RK.nil ?_
   refine Ab.D.lp ⟨i + 2, pre ++ [((l.take (i + 2)).drop i)], ⟨by rw [it_go hrun hcont], by rw [hD2]; simp, by omega, by omega⟩, (by omega), rfl, rfl, rfl, rfl, rfl, (lkR (by rw [it_go hrun hcont])), (lkI (by omega)), trivial⟩
 ·
  have hD3 : chunk2 l = pre := by rw [hD, chunk2_end (by omega), List.append_nil]
  refine OK.exit rfl ?_
  exact ⟨⟨.inr rfl, [], trivial, rfl⟩, lkR (by rw [hD3]), trivial⟩
theorem seq_chunk {l : List Int} (hl : l.length ≤ 100000) (hev : l.length % 2 = 0) : SeqOkB Tryz.prog 123 [(871, [ints l]), (872, [.int .i64 2])] [.ptr 871 0, .ptr 872 0] (fun x => [ints x]) (chunk2 l) :=
  fun J g s0 Φ hst hcb => chunk1 hl hev J g s0 Φ hst hcb
end Go.Proofs.YtpmglnphhhlbdaaGreatDoor
namespace Go.Proofs.YtpmglnphhhlbdaaGreatDoor
open Go.Ab
theorem ls_Chunk {l : List Int} : CtN Tryz.prog 67 [ints l, .int .i64 2] 123 [[ints l], [.int .i64 2]] := by
 refine CtN.intro (kb := [(2, [ints l]), (3, [.int .i64 2])]) Tryz.func67 rfl Tryz.ntmps67 Tryz.results67 rfl rfl rfl (by simp) fun w h => ?_
 refine OK.seq (OK.reg ?_)
 refine RK.c (S.box (k := 2) rfl .none rfl (.tmp rfl rfl) rfl) ?_
 refine RK.c (S.box (k := 3) rfl .none rfl (.tmp rfl rfl) rfl) ?_
 refine RK.c (S.assign .none rfl .craw) ?_
 refine RK.nil (Ab.D.code (OK.seq (OK.seq (OK.reg ?_))))
 refine RK.c (S.bload1 ti3 .none rfl (.tmp rfl rfl) rfl rfl rfl rfl) ?_
 refine RK.c (S.lss .none rfl (.tmp rfl rfl) (.cint rfl)) ?_
 refine RK.nil (Ab.D.code ?_)
 refine OK.condD rfl rfl (fun c6 => ?_) (fun c6 => ?_)
 ·
  exact absurd c6 (by decide)
 ·
  refine OK.skip ?_
  refine Ab.D.code (OK.seq (OK.reg ?_))
  refine RK.c (S.makeFunc2 .none rfl (.tmp rfl rfl) (.tmp rfl rfl) rfl rfl) ?_
  refine RK.c (S.assign .none rfl (.tmp rfl rfl)) ?_
  refine RK.nil (Ab.D.code ?_)
  exact OK.ret ⟨.inl rfl, rfl, rfl, ⟨rfl, rfl, trivial⟩, rfl⟩
end Go.Proofs.YtpmglnphhhlbdaaGreatDoor
namespace Go.Proofs.YtpmglnphhhlbdaaGreatDoor
open Go.Ab
def pairR : List Int → Range
  | [a, b] => ⟨a, b⟩
  | _ => ⟨0, 0⟩
def rowE1 (p : List UInt8) : Option (List Range) := match gath num1 (splitC 32 p) with
  | some ns => if ns.length % 2 = 0 then some ((chunk2 ns).map pairR) else none
  | none => none
theorem rowE1_N {p : List UInt8} (h : gath num1 (splitC 32 p) = none) : rowE1 p = none := by
  unfold rowE1
  rw [h]
theorem rowE1_O {p : List UInt8} {ns : List Int} (h : gath num1 (splitC 32 p) = some ns) (h2 : ¬ ns.length % 2 = 0) : rowE1 p = none := by
  unfold rowE1
  rw [h]
  exact if_neg h2
theorem rowE1_S {p : List UInt8} {ns : List Int} (h : gath num1 (splitC 32 p) = some ns) (h2 : ns.length % 2 = 0) : rowE1 p = some ((chunk2 ns).map pairR) := by
  unfold rowE1
  rw [h]
  exact if_pos h2
def headE (w : List UInt8) : Option (Int × Int) := if (cutC 32 w).2.2 = true ∧ natI (cutC 32 w).1 = true ∧ natI (cutC 32 w).2.1 = true then some (sgnV (cutC 32 w).1, sgnV (cutC 32 w).2.1) else none
theorem headE_T {w : List UInt8} (h : (cutC 32 w).2.2 = true) (h2 : natI (cutC 32 w).1 = true) (h3 : natI (cutC 32 w).2.1 = true) : headE w = some (sgnV (cutC 32 w).1, sgnV (cutC 32 w).2.1) := if_pos ⟨h, h2, h3⟩
theorem headE_F {w : List UInt8} (h : (cutC 32 w).2.2 = false ∨ natI (cutC 32 w).1 = false ∨ natI (cutC 32 w).2.1 = false) : headE w = none := by
  unfold headE
  rw [if_neg]
  rintro ⟨a, b, c⟩
  rw [a, b, c] at h
  simp at h
theorem num_no {c : UInt8} (hc : c ≠ 45) (hd : isDig c = false) {w : List UInt8} (h : sgnC w 7 = true) : c ∉ w := by
  have key : ∀ {r : List UInt8}, natC r 7 = true → c ∉ r := fun {r} h hm => by
    obtain ⟨⟨_, _, ha⟩, _⟩ := natC_canon.1 h
    have := List.all_eq_true.1 ha c hm
    rw [hd] at this
    cases this
  unfold sgnC at h
  split at h
  · rename_i hh
    obtain ⟨r, rfl⟩ := head_of hh
    rw [Bool.and_eq_true] at h
    intro hm
    rcases List.mem_cons.1 hm with e | e
    · exact hc e
    · exact key h.1 e
  · exact key h
theorem nat_no {c : UInt8} (hc : c ≠ 45) (hd : isDig c = false) {w : List UInt8} (h : natI w = true) : c ∉ w := num_no hc hd (natI_v h).1
theorem headE_2 {w a b : List UInt8} (h : splitC 32 w = [a, b]) : headE w = if natI a = true ∧ natI b = true then some (sgnV a, sgnV b) else none := by
  have h1 := cut_split 32 w
  rw [h] at h1
  split at h1
  · rename_i h2
    rw [List.cons.injEq] at h1
    obtain ⟨e1, e2⟩ := h1
    have h3 := cut_split 32 (cutC 32 w).2.1
    rw [← e2] at h3
    split at h3
    · rw [List.cons.injEq] at h3
      exact absurd h3.2.symm (split_ne _ _)
    · rw [List.cons.injEq] at h3
      unfold headE
      rw [← e1, ← h3.1, h2]
      simp
  · simp at h1
theorem headE_n {w : List UInt8} (h : (splitC 32 w).length ≠ 2) : headE w = none := by
  cases h2 : (cutC 32 w).2.2 with
  | false => exact headE_F (.inl h2)
  | true =>
    cases h3 : natI (cutC 32 w).2.1 with
    | false => exact headE_F (.inr (.inr h3))
    | true =>
      have h4 := nat_no (c := 32) (by decide) (by decide) h3
      have h1 := cut_split 32 w
      rw [h2, if_pos rfl, split_word h4] at h1
      rw [h1] at h
      exact absurd rfl h
theorem gathI_len {k : Nat} : ∀ {l : List (List UInt8)} {i : Nat} {r : List Int}, gathI k i l = some r → r.length = l.length
  | [], i, r, h => by simp only [gathI, Option.some.injEq] at h; subst h; rfl
  | w :: l, i, r, h => by
    simp only [gathI] at h
    split at h
    · rw [Option.map_eq_some_iff] at h
      obtain ⟨q, h1, rfl⟩ := h
      rw [List.length_cons, List.length_cons, gathI_len h1]
    · cases h
theorem gathI_2 (a b : List UInt8) : gathI 2 0 [a, b] = if natI a = true ∧ natI b = true then some [sgnV a, sgnV b] else none := by
  have e : ∀ w : List UInt8, natI w = true ↔ sgnC w 7 = true ∧ 0 ≤ sgnV w := fun w => by
    unfold natI
    rw [Bool.and_eq_true, decide_eq_true_eq]
  by_cases h1 : natI a = true
  · by_cases h2 : natI b = true
    · rw [if_pos ⟨h1, h2⟩, gathI, if_pos ⟨((e a).1 h1).1, .inl ((e a).1 h1).2⟩, gathI, if_pos ⟨((e b).1 h2).1, .inl ((e b).1 h2).2⟩]
      rfl
    · rw [if_neg fun h => h2 h.2, gathI, if_pos ⟨((e a).1 h1).1, .inl ((e a).1 h1).2⟩, gathI, if_neg]
      · rfl
      · rintro ⟨g1, g2⟩
        exact h2 ((e b).2 ⟨g1, by omega⟩)
  · rw [if_neg fun h => h1 h.1, gathI, if_neg]
    rintro ⟨g1, g2⟩
    exact h1 ((e a).2 ⟨g1, by omega⟩)
theorem two_of {α : Type} {l : List α} (h : l.length = 2) : ∃ a b, l = [a, b] := by
  match l, h with
  | [a, b], _ => exact ⟨a, b, rfl⟩
theorem headE_I2 {w : List UInt8} {r : List Int} (h : gathI 2 0 (splitC 32 w) = some r) (hr : r.length = 2) : ∃ a b, r = [a, b] ∧ headE w = some (a, b) := by
  obtain ⟨a, b, e⟩ := two_of ((gathI_len h).symm.trans hr)
  rw [e, gathI_2] at h
  split at h
  · rename_i h1
    cases h
    exact ⟨_, _, rfl, by rw [headE_2 e, if_pos h1]⟩
  · cases h
theorem headE_I1 {w : List UInt8} {r : List Int} (h : gathI 2 0 (splitC 32 w) = some r) (hr : r.length ≠ 2) : headE w = none := headE_n (by rw [← gathI_len h]; exact hr)
theorem headE_I0 {w : List UInt8} (h : gathI 2 0 (splitC 32 w) = none) : headE w = none := by
  by_cases h2 : (splitC 32 w).length = 2
  · obtain ⟨a, b, e⟩ := two_of h2
    rw [headE_2 e]
    rw [e, gathI_2] at h
    split at h
    · cases h
    · rename_i h1
      exact if_neg h1
  · exact headE_n h2
def noneE : Envelope := ⟨0, 0, []⟩
def parseE (l : List UInt8) : Envelope × Int := if 60000 < l.length then (noneE, 8) else match headE ((splitC 59 l).getD 0 []) with
  | none => (noneE, 7)
  | some (a, b) => match gath rowE1 ((splitC 59 l).drop 1) with
    | none => (noneE, 7)
    | some rows => (⟨a, b, rows⟩, 0)
theorem parseE_L {l : List UInt8} (h : 60000 < l.length) : parseE l = (noneE, 8) := if_pos h
theorem parseE_H {l : List UInt8} (h : ¬ 60000 < l.length) (h2 : headE ((splitC 59 l)[0]'(split_0 59 l)) = none) : parseE l = (noneE, 7) := by
  unfold parseE
  rw [if_neg h, getD_0 (split_0 59 l), h2]
theorem parseE_N {l : List UInt8} (h : ¬ 60000 < l.length) (h3 : gath rowE1 ((splitC 59 l).drop 1) = none) : parseE l = (noneE, 7) := by
  unfold parseE
  rw [if_neg h, h3]
  cases headE ((splitC 59 l).getD 0 []) <;> rfl
theorem parseE_S {l : List UInt8} {a b : Int} {rows : List (List Range)} (h : ¬ 60000 < l.length) (h2 : headE ((splitC 59 l)[0]'(split_0 59 l)) = some (a, b)) (h3 : gath rowE1 ((splitC 59 l).drop 1) = some rows) : parseE l = (⟨a, b, rows⟩, 0) := by
  unfold parseE
  rw [if_neg h, getD_0 (split_0 59 l), h2, h3]
theorem cut_len {c : UInt8} {l : List UInt8} : (cutC c l).1.length ≤ l.length ∧ (cutC c l).2.1.length ≤ l.length := by
  by_cases h : 0 ≤ Lib.indexByte l c
  · rw [cut_T h]
    simp only [List.length_take, List.length_drop]
    omega
  · rw [cut_F h]
    simp
theorem tmod2 (n : Nat) : (n : Int).tmod 2 = ((n % 2 : Nat) : Int) := (Int.ofNat_tmod n 2).symm
theorem chunk2_two : ∀ {l : List Int}, l.length % 2 = 0 → ∀ x ∈ chunk2 l, x.length = 2
  | [], _, x, hx => by cases hx
  | [a], h, x, hx => by simp at h
  | a :: b :: l, h, x, hx => by
    rcases List.mem_cons.1 hx with rfl | hx
    · rfl
    · exact chunk2_two (by simp only [List.length_cons] at h; omega) x hx
theorem chunk2_len : ∀ l : List Int, (chunk2 l).length ≤ l.length
  | [] => Nat.le_refl _
  | [a] => Nat.le_refl _
  | a :: b :: l => by
    have := chunk2_len l
    rw [chunk2]
    simp only [List.length_cons]
    omega
def chStep (q : List Range) (x : List Int) : List Range × Option Code := (q ++ [pairR x], none)
theorem ch_on (q : List Range) (a b : Int) : chStep q [a, b] = (q ++ [⟨a, b⟩], none) := rfl
theorem ch_it : ∀ (L : List (List Int)) (q0 : List Range), iterG (Ab.stepG chStep) (q0, none) L = ((q0 ++ L.map pairR, none), true)
  | [], q0 => by simp [iterG]
  | x :: L, q0 => by
    rw [iterG, show Ab.stepG chStep (q0, none) x = ((q0 ++ [pairR x], none), true) from rfl, if_pos rfl, ch_it L]
    simp
theorem ch_done {L : List (List Int)} {q : List Range} (h : iterG (Ab.stepG chStep) (([] : List Range), none) L = ((q, none), true)) : q = L.map pairR := by
  rw [ch_it] at h
  simp only [Prod.mk.injEq, and_true, List.nil_append] at h
  exact h.symm
theorem ch_stop {L : List (List Int)} {q : List Range} {cd : Code} (h : (iterG (Ab.stepG chStep) (([] : List Range), none) L).1 = (q, some cd)) : False := by
  rw [ch_it] at h
  simp only [Prod.mk.injEq] at h
  cases h.2
theorem ch_cnt {ns : List Int} {q : List Range} {i : Nat} (h : iterG (Ab.stepG chStep) (([] : List Range), none) ((chunk2 ns).take i) = ((q, none), true)) : q.length ≤ ns.length := by
  rw [ch_done h, List.length_map, List.length_take]
  have := chunk2_len ns
  omega
end Go.Proofs.YtpmglnphhhlbdaaGreatDoor
