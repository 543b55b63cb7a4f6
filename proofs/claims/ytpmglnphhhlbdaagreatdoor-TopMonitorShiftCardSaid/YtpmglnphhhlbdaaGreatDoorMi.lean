import Derived.Test.YtpmglnphhhlbdaaGreatDoorGs
import Derived.Test.YtpmglnphhhlbdaaGreatDoorTz
import Derived.Test.YtpmglnphhhlbdaaGreatDoorWw
namespace Go.Proofs.YtpmglnphhhlbdaaGreatDoor
open Go.Ab
def ends : List Range → List Int
  | [] => []
  | r :: l => r.lo :: r.hi :: ends l
theorem ends_app : ∀ a b : List Range, ends (a ++ b) = ends a ++ ends b
  | [], _ => rfl
  | r :: a, b => by rw [List.cons_append, ends, ends, ends_app a b]; rfl
theorem ends_len : ∀ l : List Range, (ends l).length = 2 * l.length
  | [] => rfl
  | r :: l => by rw [ends, List.length_cons, List.length_cons, ends_len l, List.length_cons]; omega
theorem ends_mem : ∀ {l : List Range} {n : Int}, n ∈ ends l → ∃ r ∈ l, n = r.lo ∨ n = r.hi
  | [], _, h => by cases h
  | r :: l, n, h => by
    rw [ends, List.mem_cons, List.mem_cons] at h
    rcases h with rfl | rfl | h
    · exact ⟨r, List.mem_cons_self, .inl rfl⟩
    · exact ⟨r, List.mem_cons_self, .inr rfl⟩
    · obtain ⟨q, hq, e⟩ := ends_mem h
      exact ⟨q, List.mem_cons_of_mem _ hq, e⟩
def rowI (l : List Range) : List UInt8 := numsI (ends l)
def fmtEnv (x : Envelope) : List UInt8 := Lib.join (numsI [x.parts, x.trim] :: x.rows.map rowI) [59]
theorem rows_rep {L : List (List Range)} (h : IsRep (.sl (L.map fun l => [.sl (l.map Range.cs)]))) : ∀ l ∈ L, ∀ n ∈ ends l, IntKind.i64.wrap n = n := by
  intro l hl n hn
  have g : IsRep (.sl (l.map Range.cs)) := h.mem (List.mem_flatten.2 ⟨_, List.mem_map.2 ⟨l, hl, rfl⟩, List.mem_cons_self⟩)
  obtain ⟨r, hr, e⟩ := ends_mem hn
  have k : ∀ y ∈ r.cs, IsRep y := fun y hy => g.mem (List.mem_flatten.2 ⟨r.cs, List.mem_map.2 ⟨r, hr, rfl⟩, hy⟩)
  rcases e with rfl | rfl
  · exact (k _ (by simp [Range.cs])).int
  · exact (k _ (by simp [Range.cs])).int
theorem rowI_len {l : List Range} (h : ∀ n ∈ ends l, IntKind.i64.wrap n = n) (h2 : l.length ≤ 100) : (rowI l).length ≤ 200 * 22 := numsI_len h (by rw [ends_len]; omega)
set_option maxHeartbeats 1000000 in
theorem mon_FormatEnvelope {x : Envelope} (hr : x.rows.length ≤ 100) (hc : ∀ l ∈ x.rows, l.length ≤ 100) : CtT Tryz.prog 13 [.agg x.cs] (.str (fmtEnv x)) := by
 refine CtT.intro (rs := [.tmp 2]) Tryz.func13 rfl Tryz.ntmps13 Tryz.results13 rfl rfl rfl fun w h hT => ?_
 refine OK.aggInt 0 0 rfl rfl rfl fun ha => ?_
 refine OK.aggInt 0 1 rfl rfl rfl fun hb => ?_
 have haw := IntWalk.i64_in _ ha
 have hbw := IntWalk.i64_in _ hb
 have h0l : (numsI [x.parts, x.trim]).length ≤ 2 * 22 := numsI_len (fun n hn => by simp only [List.mem_cons, List.not_mem_nil, or_false] at hn; rcases hn with rfl | rfl; exact haw; exact hbw) (by simp)
 refine OK.seq (OK.reg ?_)
 refine RK.c (S.box (k := 1) rfl .none rfl (.tmp rfl rfl) rfl) ?_
 refine RK.c (S.assign .none rfl (.cstr (l := []) rfl (by decide))) ?_
 refine RK.nil (Ab.D.code (OK.seq (OK.reg ?_)))
 refine RK.c (S.bfield fi30_0 .none rfl (.tmp rfl rfl)) ?_
 refine RK.c (S.bload1 ti3 .none rfl (.tmp rfl rfl) rfl rfl rfl rfl) ?_
 refine RK.c (S.bfield fi30_1 .none rfl (.tmp rfl rfl)) ?_
 refine RK.c (S.bload1 ti3 .none rfl (.tmp rfl rfl) rfl rfl rfl rfl) ?_
 refine RK.c (S.mkSlice (k := 13) (rows := [[_], [_]]) ai25 .none rfl (.cons (.tmp rfl rfl) (.cons (.tmp rfl rfl) .nil)) rfl rfl rfl rfl rfl rfl rfl) ?_
 refine RK.c (S.callLT (mon_joined (l := [x.parts, x.trim]) (by simp)) hT Tryz.call55 .none rfl (.cons (.tmp rfl rfl) .nil) (.cons (.p (.own rfl rfl) rfl) .nil) rfl) ?_
 refine RK.c (S.mkSlice (k := 15) (rows := [[_]]) ai22 .none rfl (.cons (.tmp rfl rfl) .nil) rfl rfl rfl rfl rfl rfl rfl) ?_
 refine RK.c (S.assign .none rfl (.tmp rfl rfl)) ?_
 refine RK.nil (Ab.D.code (OK.seq (OK.seq (OK.reg ?_))))
 refine RK.c (S.bfield fi30_2 .none rfl (.tmp rfl rfl)) ?_
 refine RK.c (S.bload1 ti28 .none rfl (.tmp rfl rfl) rfl rfl rfl rfl) ?_
 refine RK.c (S.lenM si28 .none rfl (.tmp rfl rfl)) ?_
 refine RK.c (S.move .none rfl (.cint rfl)) ?_
 refine RK.nil (Ab.D.code ?_)
 refine OK.block ?_
 refine OK.slRep (t := 17) rfl rfl fun hR => ?_
 have hW := rows_rep hR
 clear hR
 have hRL : ∀ l ∈ x.rows, (rowI l).length ≤ 4400 := fun l hl => rowI_len (hW l hl) (hc l hl)
 refine OK.loop (G := Nat) [15] (fun i => [(3, .own 15 (i + 1)), (2015, .arr 1 ((numsI [x.parts, x.trim] :: (x.rows.take i).map rowI).map fun s => [.str s])), (17, .sl (x.rows.map fun l => [.sl (l.map Range.cs)])), (18, .int .i64 x.rows.length), (19, .int .i64 i)]) (fun i => i ≤ x.rows.length) (fun i => x.rows.length - i) 0 (Nat.zero_le _) ⟨rfl, rfl, rfl, rfl, rfl, trivial⟩ (fun _ => rfl) ?_
 rintro i hi
 refine OK.seq (OK.reg ?_)
 refine RK.c (S.lss .none rfl (.tmp rfl rfl) (.tmp rfl rfl)) ?_
 refine RK.nil (Ab.D.code ?_)
 refine OK.seq ?_
 refine OK.condD rfl rfl (fun c20 => ?_) (fun c20 => ?_)
 ·
  have hir : i < x.rows.length := by omega
  have hcl := hc _ (List.getElem_mem hir)
  refine OK.skip ?_
  refine Ab.D.code ?_
  refine OK.seq ?_
  refine OK.block ?_
  refine OK.seq (OK.reg ?_)
  refine RK.c (S.indexM (n := i) si28 .none rfl (.tmp rfl rfl) (.tmp rfl rfl) rfl (by omega) rfl) ?_
  refine RK.c (S.load1 ti114 .none rfl (.tmp rfl rfl) rfl) ?_
  refine RK.c (S.assign .none rfl (.tmp rfl rfl)) ?_
  refine RK.nil (Ab.D.code (OK.seq (OK.reg ?_)))
  refine RK.c (S.nilOwn (k := 6) (sz := 1) .none rfl) ?_
  refine RK.nil (Ab.D.code (OK.seq (OK.seq (OK.reg ?_))))
  refine RK.c (S.move .none rfl (.tmp rfl rfl)) ?_
  refine RK.c (S.lenM si114 .none rfl (.tmp rfl rfl)) ?_
  refine RK.c (S.move .none rfl (.cint rfl)) ?_
  refine RK.nil (Ab.D.code ?_)
  refine OK.block ?_
  refine OK.loop (G := Nat) [15, 6] (fun k => [(3, .own 15 (i + 1)), (2015, .arr 1 ((numsI [x.parts, x.trim] :: (x.rows.take i).map rowI).map fun s => [.str s])), (17, .sl (x.rows.map fun l => [.sl (l.map Range.cs)])), (18, .int .i64 x.rows.length), (19, .int .i64 i), (6, .own 6 (2 * k)), (2006, .arr 1 ((ends (x.rows[i].take k)).map (fun n => [.int .i64 n]))), (23, .sl (x.rows[i].map Range.cs)), (24, .int .i64 x.rows[i].length), (25, .int .i64 k)]) (fun k => k ≤ x.rows[i].length) (fun k => x.rows[i].length - k) 0 (Nat.zero_le _) ⟨(lk_own (by first | rfl | (simp; done) | (simp; omega))), (lk_arr (by first | rfl | (simp; done) | (simp; omega))), rfl, rfl, rfl, (lk_own (by first | rfl | (simp; done) | (simp; omega))), (lk_arr (by first | rfl | (simp; done) | (simp; omega))), rfl, rfl, rfl, trivial⟩ (fun _ => rfl) ?_
  rintro k hk
  refine OK.seq (OK.reg ?_)
  refine RK.c (S.lss .none rfl (.tmp rfl rfl) (.tmp rfl rfl)) ?_
  refine RK.nil (Ab.D.code ?_)
  refine OK.seq ?_
  refine OK.condD rfl rfl (fun c26 => ?_) (fun c26 => ?_)
  ·
   refine OK.skip ?_
   refine Ab.D.code ?_
   refine OK.seq ?_
   refine OK.block ?_
   refine OK.seq (OK.reg ?_)
   refine RK.c (S.indexM (n := k) si114 .none rfl (.tmp rfl rfl) (.tmp rfl rfl) rfl (by omega) rfl) ?_
   refine RK.c (S.loadN ti113 .none rfl (.tmp rfl rfl) rfl rfl) ?_
   refine RK.c (S.alloc (k := 8) ze113 rfl .none rfl) ?_
   refine RK.c (S.store ti113 .none (.tmp rfl rfl) (.tmp rfl rfl) rfl rfl rfl rfl rfl rfl) ?_
   refine RK.nil (Ab.D.code (OK.reg ?_))
   refine RK.c (S.move .none rfl (.tmp rfl rfl)) ?_
   refine RK.c (S.bfield fi113_0 .none rfl (.tmp rfl rfl)) ?_
   refine RK.c (S.bload1 ti3 .none rfl (.tmp rfl rfl) rfl rfl rfl rfl) ?_
   refine RK.c (S.bfield fi113_1 .none rfl (.tmp rfl rfl)) ?_
   refine RK.c (S.bload1 ti3 .none rfl (.tmp rfl rfl) rfl rfl rfl rfl) ?_
   refine RK.c (S.mkSlice (k := 34) (rows := [[_], [_]]) ai25 .none rfl (.cons (.tmp rfl rfl) (.cons (.tmp rfl rfl) .nil)) rfl rfl rfl rfl rfl rfl rfl) ?_
   refine RK.c (S.append ai25 .none rfl (.tmp rfl rfl) rfl (by rw [List.length_map, ends_len, List.length_take]; omega) (.tmp rfl rfl) rfl (by first | rfl | (simp; done) | (simp; omega)) (by omega) (by simp only [maxLen]; omega)) ?_
   refine RK.c (S.assign .none rfl (.tmp rfl rfl)) ?_
   refine RK.nil ?_
   refine Ab.D.blk ?_
   refine Ab.D.code (OK.reg ?_)
   refine RK.c (S.add .none rfl (.tmp rfl rfl) (.cint rfl) (IntWalk.i64_in _ (by omega)) (IntWalk.i64_in _ (by omega))) ?_
   refine RK.c (S.move .none rfl (.tmp rfl rfl)) ?_
   refine RK.nil ?_
   refine Ab.D.lp ⟨k + 1, (by omega), (by omega), (lk_own (by first | rfl | (simp; done) | (simp; omega))), (lk_arr (by first | rfl | (simp; done) | (simp; omega))), rfl, rfl, rfl, (lk_own (by omega)), (lk_arr (by rw [List.take_succ_eq_append_getElem (by omega), ends_app, List.map_append]; rfl)), rfl, rfl, rfl, trivial⟩
  ·
   refine OK.exit rfl ?_
   refine Ab.D.code ?_
   rw [show k = x.rows[i].length by omega, List.take_length]
   refine OK.reg ?_
   refine RK.c (S.move .none rfl (.tmp rfl rfl)) ?_
   refine RK.c (S.move .none rfl (.tmp rfl rfl)) ?_
   refine RK.c (S.callLT (mon_joined (l := ends x.rows[i]) (by rw [ends_len]; omega)) hT Tryz.call55 .none rfl (.cons (.tmp rfl rfl) .nil) (.cons (.p (.own rfl (by rw [List.length_map, ends_len])) rfl) .nil) rfl) ?_
   refine RK.c (S.mkSlice (k := 40) (rows := [[_]]) ai22 .none rfl (.cons (.tmp rfl rfl) .nil) rfl rfl rfl rfl rfl rfl rfl) ?_
   refine RK.c (S.append ai22 .none rfl (.tmp rfl rfl) rfl (by simp; omega) (.tmp rfl rfl) rfl (by first | rfl | (simp; done) | (simp; omega)) (by omega) (by simp only [maxLen]; omega)) ?_
   refine RK.c (S.assign .none rfl (.tmp rfl rfl)) ?_
   refine RK.nil ?_
   refine Ab.D.blk ?_
   refine Ab.D.code (OK.reg ?_)
   refine RK.c (S.add .none rfl (.tmp rfl rfl) (.cint rfl) (IntWalk.i64_in _ (by omega)) (IntWalk.i64_in _ (by omega))) ?_
   refine RK.c (S.move .none rfl (.tmp rfl rfl)) ?_
   refine RK.nil ?_
   refine Ab.D.lp ⟨i + 1, (by omega), (by omega), (lk_own (by omega)), (lk_arr (by rw [List.take_succ_eq_append_getElem (by omega), List.map_append, ← List.cons_append, List.map_append]; rfl)), rfl, rfl, rfl, trivial⟩
 ·
  refine OK.exit rfl ?_
  refine Ab.D.code ?_
  refine OK.seq ?_
  rw [show i = x.rows.length by omega, List.take_length]
  refine OK.reg ?_
  refine RK.c (S.move .none rfl (.tmp rfl rfl)) ?_
  refine RK.c (S.callL (joinI.ct (l := numsI [x.parts, x.trim] :: x.rows.map rowI) (sep := [59]) (by simp; omega) (by have := join_bd (l := numsI [x.parts, x.trim] :: x.rows.map rowI) (sep := [59]) (B := 4400) (N := 101) (fun w hw => by rcases List.mem_cons.1 hw with rfl | hw; omega; obtain ⟨l, hl, rfl⟩ := List.mem_map.1 hw; exact hRL l hl) (by simp; omega) rfl; omega)) Tryz.call53 .none rfl (.cons (.tmp rfl rfl) (.cons (.cstr (l := [59]) rfl (by decide)) .nil)) (.cons (.p (.own rfl (by simp)) rfl) (.cons (.same rfl) .nil)) rfl) ?_
  refine RK.c (S.assign .none rfl (.tmp rfl rfl)) ?_
  refine RK.nil (Ab.D.code ?_)
  refine OK.ret (Ret.r1 (.tmp rfl rfl (.c (.same rfl) rfl) rfl) ?_)
  rfl
end Go.Proofs.YtpmglnphhhlbdaaGreatDoor
namespace Go.Proofs.YtpmglnphhhlbdaaGreatDoor
open Go.Ab
theorem same_frame {a b : Frame} (h : a.tick = b.tick) : decide (a.values = b.values) = decide (a = b) := by
  cases a
  cases b
  simp only [Frame.mk.injEq] at *
  simp [h]
theorem diff_frame {a b : Frame} (h : ¬ a.tick = b.tick) : false = decide (a = b) := (decide_eq_false fun e => h (by rw [e])).symm
theorem ref_SameFrame {a b : Frame} : Ct Tryz.prog 25 [.agg a.cs, .agg b.cs] (.bool (decide (a = b))) := by
 refine Ct.intro (rs := [.tmp 4]) Tryz.func25 rfl Tryz.ntmps25 Tryz.results25 rfl rfl rfl fun w h => ?_
 refine OK.seq (OK.reg ?_)
 refine RK.c (S.box (k := 2) rfl .none rfl (.tmp rfl rfl) rfl) ?_
 refine RK.c (S.box (k := 3) rfl .none rfl (.tmp rfl rfl) rfl) ?_
 refine RK.c (S.assign .none rfl .cbool) ?_
 refine RK.nil (Ab.D.code (OK.seq (OK.reg ?_)))
 refine RK.c (S.bfield fi27_0 .none rfl (.tmp rfl rfl)) ?_
 refine RK.c (S.bload1 ti3 .none rfl (.tmp rfl rfl) rfl rfl rfl rfl) ?_
 refine RK.c (S.bfield fi27_0 .none rfl (.tmp rfl rfl)) ?_
 refine RK.c (S.bload1 ti3 .none rfl (.tmp rfl rfl) rfl rfl rfl rfl) ?_
 refine RK.c (S.eql .none rfl (.tmp rfl rfl) (.tmp rfl rfl)) ?_
 refine RK.c (S.move .none rfl (.tmp rfl rfl)) ?_
 refine RK.splitD (t := 10) rfl (fun g10 => ?_) (fun g10 => ?_)
 ·
  refine RK.c (S.bfield fi27_1 (.yes rfl rfl rfl rfl) rfl (.tmp rfl rfl)) ?_
  refine RK.c (S.bload1 ti25 (.yes rfl rfl rfl rfl) rfl (.tmp rfl rfl) rfl rfl rfl rfl) ?_
  refine RK.c (S.bfield fi27_1 (.yes rfl rfl rfl rfl) rfl (.tmp rfl rfl)) ?_
  refine RK.c (S.bload1 ti25 (.yes rfl rfl rfl rfl) rfl (.tmp rfl rfl) rfl rfl rfl rfl) ?_
  refine RK.c (S.call (base_Ints) Tryz.call52 (.yes rfl rfl rfl rfl) rfl (.cons (.tmp rfl rfl) (.cons (.tmp rfl rfl) .nil)) rfl) ?_
  refine RK.c (S.pickT .none rfl (.tmp rfl rfl) (.tmp rfl rfl) rfl) ?_
  refine RK.c (S.assign .none rfl (.tmp rfl rfl)) ?_
  refine RK.nil (Ab.D.code ?_)
  refine OK.ret (Ret.r1 (.tmp rfl rfl (.c (.same rfl) rfl) rfl) ?_)
  exact ret_b (same_frame g10)
 ·
  refine RK.c (S.skip rfl rfl rfl rfl rfl) ?_
  refine RK.c (S.skip rfl rfl rfl rfl rfl) ?_
  refine RK.c (S.skip rfl rfl rfl rfl rfl) ?_
  refine RK.c (S.skip rfl rfl rfl rfl rfl) ?_
  refine RK.c (S.skip rfl rfl rfl rfl rfl) ?_
  refine RK.c (S.pickF .none rfl (.tmp rfl rfl) .cbool rfl) ?_
  refine RK.c (S.assign .none rfl (.tmp rfl rfl)) ?_
  refine RK.nil (Ab.D.code ?_)
  refine OK.ret (Ret.r1 (.tmp rfl rfl (.c (.same rfl) rfl) rfl) ?_)
  exact ret_b (diff_frame g10)
end Go.Proofs.YtpmglnphhhlbdaaGreatDoor
