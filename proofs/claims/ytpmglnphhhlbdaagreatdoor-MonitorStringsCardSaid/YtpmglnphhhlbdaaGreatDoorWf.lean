import Derived.Test.YtpmglnphhhlbdaaGreatDoorSh
import Derived.Test.YtpmglnphhhlbdaaGreatDoorWe
namespace Go.Proofs.YtpmglnphhhlbdaaGreatDoor
open Go.Ab
def fewT (p : Plan) : Bool := decide (p.channels.length ≤ 6) && p.channels.all fun s => decide (s.length ≤ 20)
def shortT (l : List Int) : Bool := decide ((l.length : Int) ≤ 6)
def passErr (x : Pass) : Int := if ¬ ((0 ≤ x.part ∧ x.part ≤ 1000000) ∧ (0 ≤ x.frm ∧ x.frm ≤ 1000000000000) ∧ (0 ≤ x.til ∧ x.til ≤ 1000000000000)) then 2 else if x.frm > x.til then 9 else 0
def passChk (l : List Pass) : Int × Int := if 30 < l.length then (0, 8) else eachGo (fun _ x => passErr x) 0 l
def isTick (n : Int) : Bool := decide (0 ≤ n ∧ n ≤ 1000000000000)
def hit (ticks : List Int) (x : Pass) : Bool := ticks.any fun n => decide (x.frm ≤ n ∧ n ≤ x.til)
def hits (ticks : List Int) (l : List Pass) : List Int := (l.filter (hit ticks)).map Pass.part
def spoilt (l : List Pass) (ticks : List Int) : List Int := Lib.compact ((hits ticks l).mergeSort fun x y => decide (x ≤ y))
def spoiltErr (l : List Pass) (ticks : List Int) : Int := firstE [(passChk l).2, unlessE (decide ((ticks.length : Int) ≤ 30)) 8, unlessE (!ticks.any fun n => !isTick n) 2]
theorem filter_snoc {α : Type} {l : List α} {i : Nat} (g : α → Bool) (h : i < l.length) : (l.take (i + 1)).filter g = (l.take i).filter g ++ if g l[i] = true then [l[i]] else [] := by
  rw [← take_snoc h, List.filter_append, List.filter_cons, List.filter_nil]
theorem hits_T {ticks : List Int} {l : List Pass} {i : Nat} (h : i < l.length) (hh : hit ticks l[i] = true) : hits ticks (l.take i) ++ [l[i].part] = hits ticks (l.take (i + 1)) := by
  simp only [hits, filter_snoc _ h, hh, if_true, List.map_append, List.map_cons, List.map_nil]
theorem hits_F {ticks : List Int} {l : List Pass} {i : Nat} (h : i < l.length) (hh : hit ticks l[i] = false) : hits ticks (l.take i) = hits ticks (l.take (i + 1)) := by
  simp only [hits, filter_snoc _ h, hh, Bool.false_eq_true, if_false, List.append_nil]
theorem hits_len (ticks : List Int) (l : List Pass) (i : Nat) : (hits ticks (l.take i)).length ≤ i := by
  simp only [hits, List.length_map]
  have h1 := List.length_filter_le (hit ticks) (l.take i)
  have h2 := List.length_take_le i l
  omega
theorem each_take {l : List Pass} (h : (passChk l).2 = 0) : l.length ≤ 30 := by
  unfold passChk at h
  split at h
  · cases h
  · omega
theorem compact_mem {zs : List Int} {t : Int} (h : t ∈ Lib.compact zs) : t ∈ zs := by
  simp only [Lib.compact, Lib.compactUpTo, List.mem_map, List.mem_filter, List.mem_range] at h
  obtain ⟨j, ⟨h1, _⟩, rfl⟩ := h
  simp [h1]
theorem compact_len (zs : List Int) : (Lib.compact zs).length ≤ zs.length := by
  simp only [Lib.compact, Lib.compactUpTo, List.length_map]
  have := List.length_filter_le (Lib.keeps zs.toArray) (List.range zs.length)
  simpa using this
theorem base_CopyInts {l : List Int} (hlen : l.length ≤ 100000) : Ct Tryz.prog 56 [.sl (l.map (fun n => [.int .i64 n]))] (.sl (l.map (fun n => [.int .i64 n]))) := by
 refine Ct.intro (rs := [.tmp 2]) Tryz.func56 rfl Tryz.ntmps56 Tryz.results56 rfl rfl rfl fun w h => ?_
 refine OK.seq (OK.reg ?_)
 refine RK.c (S.assign .none rfl .cnil) ?_
 refine RK.nil (Ab.D.code (OK.seq (OK.reg ?_)))
 refine RK.c (S.mkSlice (k := 3) (rows := []) ai25 .none rfl .nil rfl rfl rfl rfl rfl rfl rfl) ?_
 refine RK.c (S.move .none rfl (.tmp rfl rfl)) ?_
 refine RK.c (S.appendSl ai25 .none rfl (.tmp rfl rfl) rfl (by first | rfl | (simp; done) | (simp; omega)) (.tmp rfl rfl) (by intro q hq; obtain ⟨b, _, rfl⟩ := List.mem_map.1 hq; rfl) rfl (by simp only [List.length_map]; omega) (by simp only [maxLen, List.length_map]; omega)) ?_
 refine RK.c (S.assign .none rfl (.tmp rfl rfl)) ?_
 refine RK.nil (Ab.D.code ?_)
 refine OK.ret (Ret.r1 (.tmp rfl rfl (.c (.own rfl rfl (by first | rfl | (simp; done) | (simp; omega))) rfl) rfl) ?_)
 rfl
theorem ref_CopyPlan {p : Plan} (hlen : p.channels.length ≤ 100000) : Ct Tryz.prog 10 [.agg p.cs] (.agg p.cs) := by
 refine Ct.intro (rs := [.cell 2 24]) Tryz.func10 rfl Tryz.ntmps10 Tryz.results10 rfl rfl rfl fun w h => ?_
 refine OK.seq (OK.reg ?_)
 refine RK.c (S.box (k := 1) rfl .none rfl (.tmp rfl rfl) rfl) ?_
 refine RK.c (S.alloc (k := 2) ze24 rfl .none rfl) ?_
 refine RK.nil (Ab.D.code ?_)
 refine OK.seq ?_
 refine OK.regionDraw follows (.c (S.mkSlice (k := 3) (rows := []) ai22 .none rfl .nil rfl rfl rfl rfl rfl rfl rfl)
  (.c (S.bfield fi24_0 .none rfl (.tmp rfl rfl))
  (.c (S.bload1 ti22 .none rfl (.tmp rfl rfl) rfl rfl rfl rfl)
  (.c (S.appendSl ai22 .none rfl (.tmp rfl rfl) rfl (by first | rfl | (simp; done) | (simp; omega)) (.tmp rfl rfl) (by intro q hq; obtain ⟨b, _, rfl⟩ := List.mem_map.1 hq; rfl) rfl (by simp only [List.length_map]; omega) (by simp only [maxLen, List.length_map]; omega))
  (.c (S.bfield fi24_1 .none rfl (.tmp rfl rfl))
  (.c (S.bload1 ti3 .none rfl (.tmp rfl rfl) rfl rfl rfl rfl)
  (.c (S.build bu24 rfl .none rfl (.cons (.tmp rfl rfl) (.cons (.tmp rfl rfl) .nil)) rfl rfl)
  (.c (S.store ti24 .none (.tmp rfl rfl) (.tmp rfl rfl) rfl rfl rfl rfl rfl rfl)
  .nil)))))))) (by kernel_rfl) ?_
 refine Ab.D.code ?_
 refine OK.ret (Ret.r1 (.cellN rfl rfl rfl rfl ti24 rfl (.k (.own rfl rfl (by first | rfl | (simp; done) | (simp; omega))) (.k (.same rfl) .z))) ?_)
 rfl
theorem law_short {l : List Int} : Ct Tryz.prog 7 [ints l] (.bool (shortT l)) := by
 refine Ct.intro (rs := [.tmp 2]) Tryz.func7 rfl Tryz.ntmps7 Tryz.results7 rfl rfl rfl fun w h => ?_
 refine OK.seq (OK.reg ?_)
 refine RK.c (S.assign .none rfl .cbool) ?_
 refine RK.nil (Ab.D.code (OK.seq (OK.reg ?_)))
 refine RK.c (S.move .none rfl (.tmp rfl rfl)) ?_
 refine RK.c (S.lenM si25 .none rfl (.tmp rfl rfl)) ?_
 refine RK.c (S.leq .none rfl (.tmp rfl rfl) (.cint rfl)) ?_
 refine RK.c (S.assign .none rfl (.tmp rfl rfl)) ?_
 refine RK.nil (Ab.D.code ?_)
 refine OK.ret (Ret.r1 (.tmp rfl rfl (.c (.same rfl) rfl) rfl) ?_)
 rfl
theorem law_Few {p : Plan} : Ct Tryz.prog 6 [.agg p.cs] (.bool (fewT p)) := by
 refine Ct.intro (rs := [.tmp 2]) Tryz.func6 rfl Tryz.ntmps6 Tryz.results6 rfl rfl rfl fun w h => ?_
 refine OK.seq (OK.reg ?_)
 refine RK.c (S.box (k := 1) rfl .none rfl (.tmp rfl rfl) rfl) ?_
 refine RK.c (S.assign .none rfl .cbool) ?_
 refine RK.nil (Ab.D.code (OK.seq (OK.seq (OK.reg ?_))))
 refine RK.c (S.bfield fi24_0 .none rfl (.tmp rfl rfl)) ?_
 refine RK.c (S.bload1 ti22 .none rfl (.tmp rfl rfl) rfl rfl rfl rfl) ?_
 refine RK.c (S.lenM si22 .none rfl (.tmp rfl rfl)) ?_
 refine RK.c (S.gtr .none rfl (.tmp rfl rfl) (.cint rfl)) ?_
 refine RK.nil (Ab.D.code ?_)
 refine OK.condD rfl rfl (fun c7 => ?_) (fun c7 => ?_)
 ·
  refine OK.seq (OK.reg ?_)
  refine RK.c (S.assign .none rfl .cbool) ?_
  refine RK.nil (Ab.D.code ?_)
  refine OK.ret (Ret.r1 (.tmp rfl rfl (.c (.same rfl) rfl) rfl) ?_)
  refine ret_b ?_
  rw [fewT, decide_eq_false (by omega), Bool.false_and]
 ·
  refine OK.skip ?_
  refine Ab.D.code (OK.seq (OK.seq (OK.reg ?_)))
  refine RK.c (S.assign .none rfl (.cint rfl)) ?_
  refine RK.nil (Ab.D.code ?_)
  refine OK.block ?_
  refine OK.loop (G := Nat) [1] (fun i => [(1, .ptr 1 0), (1001, .box p.cs), (3, .int .i64 i)]) (fun i => i ≤ p.channels.length ∧ (p.channels.all fun s => decide (s.length ≤ 20)) = (p.channels.drop i).all fun s => decide (s.length ≤ 20)) (fun i => p.channels.length - i) 0 ⟨Nat.zero_le _, rfl⟩ ⟨rfl, rfl, rfl, trivial⟩ (fun _ => rfl) ?_
  rintro i ⟨hi, hg⟩
  refine OK.seq (OK.seq (OK.reg ?_))
  refine RK.c (S.move .none rfl (.tmp rfl rfl)) ?_
  refine RK.c (S.bfield fi24_0 .none rfl (.tmp rfl rfl)) ?_
  refine RK.c (S.bload1 ti22 .none rfl (.tmp rfl rfl) rfl rfl rfl rfl) ?_
  refine RK.c (S.lenM si22 .none rfl (.tmp rfl rfl)) ?_
  refine RK.c (S.lss .none rfl (.tmp rfl rfl) (.tmp rfl rfl)) ?_
  refine RK.nil (Ab.D.code ?_)
  refine OK.condD rfl rfl (fun c12 => ?_) (fun c12 => ?_)
  ·
   refine OK.skip ?_
   refine Ab.D.code ?_
   refine OK.seq ?_
   refine OK.block ?_
   refine OK.seq (OK.reg ?_)
   refine RK.c (S.bfield fi24_0 .none rfl (.tmp rfl rfl)) ?_
   refine RK.c (S.bload1 ti22 .none rfl (.tmp rfl rfl) rfl rfl rfl rfl) ?_
   refine RK.c (S.move .none rfl (.tmp rfl rfl)) ?_
   refine RK.c (S.indexM si22 .none rfl (.tmp rfl rfl) (.tmp rfl rfl) rfl (by omega) rfl) ?_
   refine RK.c (S.load1 ti9 .none rfl (.tmp rfl rfl) rfl) ?_
   refine RK.c (S.slen Tryz.underlying9 .none rfl (.tmp rfl rfl)) ?_
   refine RK.c (S.gtr .none rfl (.tmp rfl rfl) (.cint rfl)) ?_
   refine RK.nil (Ab.D.code ?_)
   refine OK.condD rfl rfl (fun c21 => ?_) (fun c21 => ?_)
   ·
    refine OK.seq (OK.reg ?_)
    refine RK.c (S.assign .none rfl .cbool) ?_
    refine RK.nil (Ab.D.code ?_)
    refine OK.ret (Ret.r1 (.tmp rfl rfl (.c (.same rfl) rfl) rfl) ?_)
    refine ret_b ?_
    rw [fewT, hg, all_drop _ (by omega), decide_eq_false (p := p.channels[i].length ≤ 20) (by omega), Bool.false_and, Bool.and_false]
   ·
    refine OK.skip ?_
    refine Ab.D.blk ?_
    refine Ab.D.code (OK.reg ?_)
    refine RK.c (S.move .none rfl (.tmp rfl rfl)) ?_
    refine RK.c (S.add .none rfl (.tmp rfl rfl) (.cint rfl) (IntWalk.i64_in _ (by omega)) (IntWalk.i64_in _ (by omega))) ?_
    refine RK.c (S.assign .none rfl (.tmp rfl rfl)) ?_
    refine RK.nil ?_
    refine Ab.D.lp ⟨i + 1, ⟨by omega, ?_⟩, (by omega), rfl, rfl, rfl, trivial⟩
    rw [hg, all_drop _ (by omega), decide_eq_true (by omega), Bool.true_and]
  ·
   refine OK.exit rfl ?_
   refine Ab.D.code (OK.seq (OK.reg ?_))
   refine RK.c (S.assign .none rfl .cbool) ?_
   refine RK.nil (Ab.D.code ?_)
   refine OK.ret (Ret.r1 (.tmp rfl rfl (.c (.same rfl) rfl) rfl) ?_)
   refine ret_b ?_
   rw [fewT, hg, show i = p.channels.length by omega, List.drop_length, decide_eq_true (by omega)]
   rfl
theorem mon_pass {i : Nat} {x : Pass} : Ct Tryz.prog 138 [.int .i64 i, .agg x.cs] (.int .i64 (passErr x)) := by
 refine Ct.intro (rs := [.tmp 4]) Tryz.func138 rfl Tryz.ntmps138 Tryz.results138 rfl rfl rfl fun w h => ?_
 refine OK.seq (OK.reg ?_)
 refine RK.c (S.box (k := 3) rfl .none rfl (.tmp rfl rfl) rfl) ?_
 refine RK.c (S.assign .none rfl (.cint rfl)) ?_
 refine RK.nil (Ab.D.code ?_)
 refine OK.seq ?_
 by_cases g8 : 0 ≤ x.part ∧ x.part ≤ 1000000
 ·
  by_cases g13 : 0 ≤ x.frm ∧ x.frm ≤ 1000000000000
  ·
   refine OK.regionDraw follows (.c (S.bfield fi106_0 .none rfl (.tmp rfl rfl))
    (.c (S.bload1 ti3 .none rfl (.tmp rfl rfl) rfl rfl rfl rfl)
    (.c (S.call (mon_isNumber) Tryz.call97 .none rfl (.cons (.tmp rfl rfl) .nil) rfl)
    (.c (S.move .none rfl (.tmp rfl rfl))
    (.c (S.bfield fi106_1 (.yes rfl rfl rfl (by first | rfl | exact decide_eq_true g8 | exact decide_eq_false g8 | (rw [decide_eq_true g8]; rfl) | (rw [decide_eq_false g8]; rfl) | simp [*])) rfl (.tmp rfl rfl))
    (.c (S.bload1 ti3 (.yes rfl rfl rfl (by first | rfl | exact decide_eq_true g8 | exact decide_eq_false g8 | (rw [decide_eq_true g8]; rfl) | (rw [decide_eq_false g8]; rfl) | simp [*])) rfl (.tmp rfl rfl) rfl rfl rfl rfl)
    (.c (S.call (mon_isTick) Tryz.call104 (.yes rfl rfl rfl (by first | rfl | exact decide_eq_true g8 | exact decide_eq_false g8 | (rw [decide_eq_true g8]; rfl) | (rw [decide_eq_false g8]; rfl) | simp [*])) rfl (.cons (.tmp rfl rfl) .nil) rfl)
    (.c (S.pickT .none rfl (.tmp rfl rfl) (.tmp rfl rfl) (by first | rfl | exact decide_eq_true g8 | exact decide_eq_false g8 | (rw [decide_eq_true g8]; rfl) | (rw [decide_eq_false g8]; rfl) | simp [*]))
    (.c (S.move .none rfl (.tmp rfl rfl))
    (.c (S.bfield fi106_2 (.yes rfl rfl rfl (by first | rfl | exact decide_eq_true g13 | exact decide_eq_false g13 | (rw [decide_eq_true g13]; rfl) | (rw [decide_eq_false g13]; rfl) | simp [*])) rfl (.tmp rfl rfl))
    (.c (S.bload1 ti3 (.yes rfl rfl rfl (by first | rfl | exact decide_eq_true g13 | exact decide_eq_false g13 | (rw [decide_eq_true g13]; rfl) | (rw [decide_eq_false g13]; rfl) | simp [*])) rfl (.tmp rfl rfl) rfl rfl rfl rfl)
    (.c (S.call (mon_isTick) Tryz.call104 (.yes rfl rfl rfl (by first | rfl | exact decide_eq_true g13 | exact decide_eq_false g13 | (rw [decide_eq_true g13]; rfl) | (rw [decide_eq_false g13]; rfl) | simp [*])) rfl (.cons (.tmp rfl rfl) .nil) rfl)
    (.c (S.pickT .none rfl (.tmp rfl rfl) (.tmp rfl rfl) (by first | rfl | exact decide_eq_true g13 | exact decide_eq_false g13 | (rw [decide_eq_true g13]; rfl) | (rw [decide_eq_false g13]; rfl) | simp [*]))
    (.c (S.call (monitor_unless) Tryz.call84 .none rfl (.cons (.tmp rfl rfl) (.cons (.cint rfl) .nil)) rfl)
    (.c (S.bfield fi106_1 .none rfl (.tmp rfl rfl))
    (.c (S.bload1 ti3 .none rfl (.tmp rfl rfl) rfl rfl rfl rfl)
    (.c (S.bfield fi106_2 .none rfl (.tmp rfl rfl))
    (.c (S.bload1 ti3 .none rfl (.tmp rfl rfl) rfl rfl rfl rfl)
    (.c (S.leq .none rfl (.tmp rfl rfl) (.tmp rfl rfl))
    (.c (S.call (monitor_unless) Tryz.call84 .none rfl (.cons (.tmp rfl rfl) (.cons (.cint rfl) .nil)) rfl)
    (.c (S.mkSlice (k := 25) (rows := [[_], [_]]) ai209 .none rfl (.cons (.tmp rfl rfl) (.cons (.tmp rfl rfl) .nil)) rfl rfl rfl rfl rfl rfl rfl)
    (.c (S.callL (monitor_first (l := [_, _])) Tryz.call83 .none rfl (.cons (.tmp rfl rfl) .nil) (.cons (.p (.own rfl rfl) rfl) .nil) rfl)
    (.c (S.assign .none rfl (.tmp rfl rfl))
    .nil))))))))))))))))))))))) (by kernel_rfl) ?_
   refine Ab.D.code ?_
   refine OK.ret (Ret.r1 (.tmp rfl rfl (.c (.same rfl) rfl) rfl) ?_)
   refine ret_i ?_
   simp [firstE2, unlessE]
   unfold passErr
   repeat' split
   all_goals omega
  ·
   refine OK.regionDraw follows (.c (S.bfield fi106_0 .none rfl (.tmp rfl rfl))
    (.c (S.bload1 ti3 .none rfl (.tmp rfl rfl) rfl rfl rfl rfl)
    (.c (S.call (mon_isNumber) Tryz.call97 .none rfl (.cons (.tmp rfl rfl) .nil) rfl)
    (.c (S.move .none rfl (.tmp rfl rfl))
    (.c (S.bfield fi106_1 (.yes rfl rfl rfl (by first | rfl | exact decide_eq_true g8 | exact decide_eq_false g8 | (rw [decide_eq_true g8]; rfl) | (rw [decide_eq_false g8]; rfl) | simp [*])) rfl (.tmp rfl rfl))
    (.c (S.bload1 ti3 (.yes rfl rfl rfl (by first | rfl | exact decide_eq_true g8 | exact decide_eq_false g8 | (rw [decide_eq_true g8]; rfl) | (rw [decide_eq_false g8]; rfl) | simp [*])) rfl (.tmp rfl rfl) rfl rfl rfl rfl)
    (.c (S.call (mon_isTick) Tryz.call104 (.yes rfl rfl rfl (by first | rfl | exact decide_eq_true g8 | exact decide_eq_false g8 | (rw [decide_eq_true g8]; rfl) | (rw [decide_eq_false g8]; rfl) | simp [*])) rfl (.cons (.tmp rfl rfl) .nil) rfl)
    (.c (S.pickT .none rfl (.tmp rfl rfl) (.tmp rfl rfl) (by first | rfl | exact decide_eq_true g8 | exact decide_eq_false g8 | (rw [decide_eq_true g8]; rfl) | (rw [decide_eq_false g8]; rfl) | simp [*]))
    (.c (S.move .none rfl (.tmp rfl rfl))
    (.c (S.skip rfl rfl rfl (by first | rfl | exact decide_eq_true g13 | exact decide_eq_false g13 | (rw [decide_eq_true g13]; rfl) | (rw [decide_eq_false g13]; rfl) | simp [*]) rfl)
    (.c (S.skip rfl rfl rfl (by first | rfl | exact decide_eq_true g13 | exact decide_eq_false g13 | (rw [decide_eq_true g13]; rfl) | (rw [decide_eq_false g13]; rfl) | simp [*]) rfl)
    (.c (S.skip rfl rfl rfl (by first | rfl | exact decide_eq_true g13 | exact decide_eq_false g13 | (rw [decide_eq_true g13]; rfl) | (rw [decide_eq_false g13]; rfl) | simp [*]) rfl)
    (.c (S.pickF .none rfl (.tmp rfl rfl) .cbool (by first | rfl | exact decide_eq_true g13 | exact decide_eq_false g13 | (rw [decide_eq_true g13]; rfl) | (rw [decide_eq_false g13]; rfl) | simp [*]))
    (.c (S.call (monitor_unless) Tryz.call84 .none rfl (.cons (.tmp rfl rfl) (.cons (.cint rfl) .nil)) rfl)
    (.c (S.bfield fi106_1 .none rfl (.tmp rfl rfl))
    (.c (S.bload1 ti3 .none rfl (.tmp rfl rfl) rfl rfl rfl rfl)
    (.c (S.bfield fi106_2 .none rfl (.tmp rfl rfl))
    (.c (S.bload1 ti3 .none rfl (.tmp rfl rfl) rfl rfl rfl rfl)
    (.c (S.leq .none rfl (.tmp rfl rfl) (.tmp rfl rfl))
    (.c (S.call (monitor_unless) Tryz.call84 .none rfl (.cons (.tmp rfl rfl) (.cons (.cint rfl) .nil)) rfl)
    (.c (S.mkSlice (k := 25) (rows := [[_], [_]]) ai209 .none rfl (.cons (.tmp rfl rfl) (.cons (.tmp rfl rfl) .nil)) rfl rfl rfl rfl rfl rfl rfl)
    (.c (S.callL (monitor_first (l := [_, _])) Tryz.call83 .none rfl (.cons (.tmp rfl rfl) .nil) (.cons (.p (.own rfl rfl) rfl) .nil) rfl)
    (.c (S.assign .none rfl (.tmp rfl rfl))
    .nil))))))))))))))))))))))) (by kernel_rfl) ?_
   refine Ab.D.code ?_
   refine OK.ret (Ret.r1 (.tmp rfl rfl (.c (.same rfl) rfl) rfl) ?_)
   refine ret_i ?_
   simp [firstE2, unlessE]
   unfold passErr
   repeat' split
   all_goals omega
 ·
  refine OK.regionDraw follows (.c (S.bfield fi106_0 .none rfl (.tmp rfl rfl))
   (.c (S.bload1 ti3 .none rfl (.tmp rfl rfl) rfl rfl rfl rfl)
   (.c (S.call (mon_isNumber) Tryz.call97 .none rfl (.cons (.tmp rfl rfl) .nil) rfl)
   (.c (S.move .none rfl (.tmp rfl rfl))
   (.c (S.skip rfl rfl rfl (by first | rfl | exact decide_eq_true g8 | exact decide_eq_false g8 | (rw [decide_eq_true g8]; rfl) | (rw [decide_eq_false g8]; rfl) | simp [*]) rfl)
   (.c (S.skip rfl rfl rfl (by first | rfl | exact decide_eq_true g8 | exact decide_eq_false g8 | (rw [decide_eq_true g8]; rfl) | (rw [decide_eq_false g8]; rfl) | simp [*]) rfl)
   (.c (S.skip rfl rfl rfl (by first | rfl | exact decide_eq_true g8 | exact decide_eq_false g8 | (rw [decide_eq_true g8]; rfl) | (rw [decide_eq_false g8]; rfl) | simp [*]) rfl)
   (.c (S.pickF .none rfl (.tmp rfl rfl) .cbool (by first | rfl | exact decide_eq_true g8 | exact decide_eq_false g8 | (rw [decide_eq_true g8]; rfl) | (rw [decide_eq_false g8]; rfl) | simp [*]))
   (.c (S.move .none rfl (.tmp rfl rfl))
   (.c (S.skip rfl rfl rfl (by first | rfl | exact decide_eq_true g13 | exact decide_eq_false g13 | (rw [decide_eq_true g13]; rfl) | (rw [decide_eq_false g13]; rfl) | simp [*]) rfl)
   (.c (S.skip rfl rfl rfl (by first | rfl | exact decide_eq_true g13 | exact decide_eq_false g13 | (rw [decide_eq_true g13]; rfl) | (rw [decide_eq_false g13]; rfl) | simp [*]) rfl)
   (.c (S.skip rfl rfl rfl (by first | rfl | exact decide_eq_true g13 | exact decide_eq_false g13 | (rw [decide_eq_true g13]; rfl) | (rw [decide_eq_false g13]; rfl) | simp [*]) rfl)
   (.c (S.pickF .none rfl (.tmp rfl rfl) .cbool (by first | rfl | exact decide_eq_true g13 | exact decide_eq_false g13 | (rw [decide_eq_true g13]; rfl) | (rw [decide_eq_false g13]; rfl) | simp [*]))
   (.c (S.call (monitor_unless) Tryz.call84 .none rfl (.cons (.tmp rfl rfl) (.cons (.cint rfl) .nil)) rfl)
   (.c (S.bfield fi106_1 .none rfl (.tmp rfl rfl))
   (.c (S.bload1 ti3 .none rfl (.tmp rfl rfl) rfl rfl rfl rfl)
   (.c (S.bfield fi106_2 .none rfl (.tmp rfl rfl))
   (.c (S.bload1 ti3 .none rfl (.tmp rfl rfl) rfl rfl rfl rfl)
   (.c (S.leq .none rfl (.tmp rfl rfl) (.tmp rfl rfl))
   (.c (S.call (monitor_unless) Tryz.call84 .none rfl (.cons (.tmp rfl rfl) (.cons (.cint rfl) .nil)) rfl)
   (.c (S.mkSlice (k := 25) (rows := [[_], [_]]) ai209 .none rfl (.cons (.tmp rfl rfl) (.cons (.tmp rfl rfl) .nil)) rfl rfl rfl rfl rfl rfl rfl)
   (.c (S.callL (monitor_first (l := [_, _])) Tryz.call83 .none rfl (.cons (.tmp rfl rfl) .nil) (.cons (.p (.own rfl rfl) rfl) .nil) rfl)
   (.c (S.assign .none rfl (.tmp rfl rfl))
   .nil))))))))))))))))))))))) (by kernel_rfl) ?_
  refine Ab.D.code ?_
  refine OK.ret (Ret.r1 (.tmp rfl rfl (.c (.same rfl) rfl) rfl) ?_)
  refine ret_i ?_
  simp [firstE2, unlessE]
  unfold passErr
  repeat' split
  all_goals omega
theorem mon_CheckPasses {l : List Pass} : Ct Tryz.prog 101 [.sl (l.map Pass.cs)] (pair (passChk l)) := by
 refine Ct.intro (rs := [.tmp 2, .tmp 3]) Tryz.func101 rfl Tryz.ntmps101 Tryz.results101 rfl rfl rfl fun w h => ?_
 refine OK.seq (OK.reg ?_)
 refine RK.c (S.assign .none rfl (.cint rfl)) ?_
 refine RK.c (S.assign .none rfl (.cint rfl)) ?_
 refine RK.nil (Ab.D.code (OK.seq (OK.seq (OK.reg ?_))))
 refine RK.c (S.move .none rfl (.tmp rfl rfl)) ?_
 refine RK.c (S.lenM si107 .none rfl (.tmp rfl rfl)) ?_
 refine RK.c (S.gtr .none rfl (.tmp rfl rfl) (.cint rfl)) ?_
 refine RK.nil (Ab.D.code ?_)
 refine OK.condD rfl rfl (fun c6 => ?_) (fun c6 => ?_)
 ·
  refine OK.seq (OK.reg ?_)
  refine RK.c (S.assign .none rfl (.cint rfl)) ?_
  refine RK.c (S.assign .none rfl (.cint rfl)) ?_
  refine RK.nil (Ab.D.code ?_)
  refine OK.ret (Ret.r2 (.tmp rfl rfl (.c (.same rfl) rfl) rfl) (.tmp rfl rfl (.c (.same rfl) rfl) rfl) ?_)
  refine ret_p ?_
  rw [passChk, if_pos (by omega)]
 ·
  refine OK.skip ?_
  refine Ab.D.code (OK.seq (OK.reg ?_))
  refine RK.c (S.move .none rfl (.tmp rfl rfl)) ?_
  refine RK.c (S.call (each_Pass (l := l) (g := fun _ x => passErr x) (caps := []) (fun i x _ => mon_pass) Tryz.call138 ⟨rfl, rfl⟩) Tryz.call137 .none rfl (.cons (.tmp rfl rfl) (.cons .cfn .nil)) rfl) ?_
  refine RK.c (S.extract .none rfl (.tmp rfl rfl) rfl rfl) ?_
  refine RK.c (S.extract .none rfl (.tmp rfl rfl) rfl rfl) ?_
  refine RK.c (S.assign .none rfl (.tmp rfl rfl)) ?_
  refine RK.c (S.assign .none rfl (.tmp rfl rfl)) ?_
  refine RK.nil (Ab.D.code ?_)
  refine OK.ret (Ret.r2 (.tmp rfl rfl (.c (.same rfl) rfl) rfl) (.tmp rfl rfl (.c (.same rfl) rfl) rfl) ?_)
  refine ret_p ?_
  rw [passChk, if_neg (by omega)]
end Go.Proofs.YtpmglnphhhlbdaaGreatDoor
namespace Go.Proofs.YtpmglnphhhlbdaaGreatDoor
open Go.Ab
theorem sortsI : SortsI Tryz.prog 106 := ⟨fun blk off cap zs w h1 h2 h3 => Tryz.slices_Sort_int blk off cap zs w h1 h2 h3, fun p cap w => Tryz.slices_Sort_int_none p cap w⟩
theorem compactsI : CompactsI Tryz.prog 107 := ⟨fun blk off cap zs w h1 h2 h3 => Tryz.slices_Compact_int blk off cap zs w h1 h2 h3, fun p cap w => Tryz.slices_Compact_int_empty p cap w⟩
theorem sort_len (zs : List Int) : (zs.mergeSort fun x y => decide (x ≤ y)).length = zs.length := (List.mergeSort_perm zs _).length_eq
def ruleErr (r : Rule) : Int := if (-1000000 ≤ r.target ∧ r.target ≤ 1000000) ∧ (0 ≤ r.slack ∧ r.slack ≤ 1000000) ∧ (0 ≤ r.limit ∧ r.limit ≤ 1000000) then 0 else 2
def testsErr (l : List Int) : Int := if 40 < l.length then 8 else if l.all isVal = true then 0 else 2
theorem mon_oddTick {n : Int} : Ct Tryz.prog 103 [.int .i64 n] (.bool (!isTick n)) := by
 refine Ct.intro (rs := [.tmp 2]) Tryz.func103 rfl Tryz.ntmps103 Tryz.results103 rfl rfl rfl fun w h => ?_
 refine OK.seq (OK.reg ?_)
 refine RK.c (S.assign .none rfl .cbool) ?_
 refine RK.nil (Ab.D.code (OK.seq (OK.reg ?_)))
 refine RK.c (S.move .none rfl (.tmp rfl rfl)) ?_
 refine RK.c (S.call (mon_isTick) Tryz.call104 .none rfl (.cons (.tmp rfl rfl) .nil) rfl) ?_
 refine RK.c (S.notD .none rfl (.tmp rfl rfl)) ?_
 refine RK.c (S.assign .none rfl (.tmp rfl rfl)) ?_
 refine RK.nil (Ab.D.code ?_)
 refine OK.ret (Ret.r1 (.tmp rfl rfl (.c (.same rfl) rfl) rfl) ?_)
 exact ret_b (by simp only [isTick, decide_not])
theorem mon_hit {n : Int} {x : Pass} : Ct Tryz.prog 105 [.int .i64 n, .eptr x.cs] (.bool (decide (x.frm ≤ n ∧ n ≤ x.til))) := by
 refine Ct.intro (rs := [.tmp 3]) Tryz.func105 rfl Tryz.ntmps105 Tryz.results105 rfl rfl rfl fun w h => ?_
 refine OK.seq (OK.reg ?_)
 refine RK.c (S.assign .none rfl .cbool) ?_
 refine RK.nil (Ab.D.code (OK.seq (OK.reg ?_)))
 refine RK.c (S.move .none rfl (.tmp rfl rfl)) ?_
 refine RK.c (S.field fi106_1 .none rfl (.tmp rfl rfl) rfl) ?_
 refine RK.c (S.load1 ti3 .none rfl (.tmp rfl rfl) rfl) ?_
 refine RK.c (S.field fi106_2 .none rfl (.tmp rfl rfl) rfl) ?_
 refine RK.c (S.load1 ti3 .none rfl (.tmp rfl rfl) rfl) ?_
 refine RK.c (S.call (mon_within) Tryz.call99 .none rfl (.cons (.tmp rfl rfl) (.cons (.tmp rfl rfl) (.cons (.tmp rfl rfl) .nil))) rfl) ?_
 refine RK.c (S.assign .none rfl (.tmp rfl rfl)) ?_
 refine RK.nil (Ab.D.code ?_)
 refine OK.ret (Ret.r1 (.tmp rfl rfl (.c (.same rfl) rfl) rfl) ?_)
 rfl
theorem mon_SpoiltBy {l : List Pass} {ticks : List Int} : Ct Tryz.prog 49 [.sl (l.map Pass.cs), ints ticks] (.tup [ints (if spoiltErr l ticks = 0 then spoilt l ticks else []), .int .i64 (spoiltErr l ticks)]) := by
  refine Ct.intro (rs := [.tmp 4, .tmp 5]) Tryz.func49 rfl Tryz.ntmps49 Tryz.results49 rfl rfl rfl fun w h => ?_
  refine OK.seq (OK.reg ?_)
  refine RK.c (S.assign .none rfl .cnil) ?_
  refine RK.c (S.assign .none rfl (.cint rfl)) ?_
  refine RK.nil (Ab.D.code (OK.seq (OK.reg ?_)))
  refine RK.c (S.move .none rfl (.tmp rfl rfl)) ?_
  refine RK.c (S.call (mon_CheckPasses) Tryz.call101 .none rfl (.cons (.tmp rfl rfl) .nil) rfl) ?_
  refine RK.c (S.move .none rfl (.tmp rfl rfl)) ?_
  refine RK.c (S.extract .none rfl (.tmp rfl rfl) rfl rfl) ?_
  refine RK.c (S.extract .none rfl (.tmp rfl rfl) rfl rfl) ?_
  refine RK.c (S.assign .none rfl (.tmp rfl rfl)) ?_
  refine RK.c (S.assign .none rfl (.tmp rfl rfl)) ?_
  refine RK.nil (Ab.D.code (OK.seq (OK.reg ?_)))
  refine RK.c (S.move .none rfl (.tmp rfl rfl)) ?_
  refine RK.c (S.call (containsFunc_int (l := ticks) (g := fun n => !isTick n) (caps := []) (fun x _ => mon_oddTick) Tryz.call103 ⟨rfl, rfl⟩) Tryz.call102 .none rfl (.cons (.tmp rfl rfl) (.cons .cfn .nil)) rfl) ?_
  refine RK.c (S.assign .none rfl (.tmp rfl rfl)) ?_
  refine RK.nil (Ab.D.code (OK.seq (OK.seq (OK.reg ?_))))
  refine RK.c (S.move .none rfl (.tmp rfl rfl)) ?_
  refine RK.c (S.move .none rfl (.tmp rfl rfl)) ?_
  refine RK.c (S.lenM si25 .none rfl (.tmp rfl rfl)) ?_
  refine RK.c (S.leq .none rfl (.tmp rfl rfl) (.cint rfl)) ?_
  refine RK.c (S.call (monitor_unless) Tryz.call84 .none rfl (.cons (.tmp rfl rfl) (.cons (.cint rfl) .nil)) rfl) ?_
  refine RK.c (S.move .none rfl (.tmp rfl rfl)) ?_
  refine RK.c (S.not .none rfl (.tmp rfl rfl)) ?_
  refine RK.c (S.call (monitor_unless) Tryz.call84 .none rfl (.cons (.tmp rfl rfl) (.cons (.cint rfl) .nil)) rfl) ?_
  refine RK.c (S.mkSlice (k := 27) (rows := [[_], [_], [_]]) ai209 .none rfl (.cons (.tmp rfl rfl) (.cons (.tmp rfl rfl) (.cons (.tmp rfl rfl) .nil))) rfl rfl rfl rfl rfl rfl rfl) ?_
  refine RK.c (S.callL (monitor_first (l := [_, _, _])) Tryz.call83 .none rfl (.cons (.tmp rfl rfl) .nil) (.cons (.p (.own rfl rfl) rfl) .nil) rfl) ?_
  refine RK.c (S.assign .none rfl (.tmp rfl rfl)) ?_
  refine RK.nil (Ab.D.code (OK.seq (OK.reg ?_)))
  refine RK.c (S.move .none rfl (.tmp rfl rfl)) ?_
  refine RK.c (S.neq .none rfl (.tmp rfl rfl) (.cint rfl)) ?_
  refine RK.nil (Ab.D.code ?_)
  refine OK.condD rfl rfl (fun c30 => ?_) (fun c30 => ?_)
  ·
    refine OK.seq (OK.reg ?_)
    refine RK.c (S.move .none rfl (.tmp rfl rfl)) ?_
    refine RK.c (S.assign .none rfl .cnil) ?_
    refine RK.c (S.assign .none rfl (.tmp rfl rfl)) ?_
    refine RK.nil (Ab.D.code ?_)
    refine OK.ret (Ret.r2 (.tmp rfl rfl (.c (.same rfl) rfl) rfl) (.tmp rfl rfl (.c (.same rfl) rfl) rfl) ?_)
    rw [if_neg (show ¬ spoiltErr l ticks = 0 from c30)]
    rfl
  ·
    have he : spoiltErr l ticks = 0 := by unfold spoiltErr; omega
    have hl : l.length ≤ 30 := by
      refine each_take ?_
      unfold spoiltErr at he
      rw [firstE3] at he
      split at he
      · contradiction
      · omega
    refine OK.skip ?_
    refine Ab.D.code (OK.seq (OK.reg ?_))
    refine RK.c (S.nilOwn (k := 9) (sz := 1) .none rfl) ?_
    refine RK.nil (Ab.D.code (OK.seq (OK.seq (OK.reg ?_))))
    refine RK.c (S.move .none rfl (.tmp rfl rfl)) ?_
    refine RK.c (S.lenM si107 .none rfl (.tmp rfl rfl)) ?_
    refine RK.c (S.move .none rfl (.cint rfl)) ?_
    refine RK.nil (Ab.D.code ?_)
    refine OK.block ?_
    refine OK.loop (G := Nat) [9] (fun i => [(1, ints ticks), (9, .own 9 (hits ticks (l.take i)).length), (2009, .arr 1 ((hits ticks (l.take i)).map fun n => [.int .i64 n])), (32, .sl (l.map Pass.cs)), (33, .int .i64 l.length), (34, .int .i64 i)]) (fun i => i ≤ l.length) (fun i => l.length - i) 0 (Nat.zero_le _) ⟨rfl, (lk_own (by first | rfl | (simp; done) | (simp; omega))), (lk_arr (by first | rfl | (simp; done) | (simp; omega))), rfl, rfl, rfl, trivial⟩ (fun _ => rfl) ?_
    rintro i hi
    refine OK.seq (OK.reg ?_)
    refine RK.c (S.lss .none rfl (.tmp rfl rfl) (.tmp rfl rfl)) ?_
    refine RK.nil (Ab.D.code ?_)
    refine OK.seq ?_
    refine OK.condD rfl rfl (fun c35 => ?_) (fun c35 => ?_)
    ·
      refine OK.skip ?_
      refine Ab.D.code ?_
      refine OK.seq ?_
      refine OK.block ?_
      refine OK.seq (OK.reg ?_)
      refine RK.c (S.indexM si107 .none rfl (.tmp rfl rfl) (.tmp rfl rfl) rfl (by omega) rfl) ?_
      refine RK.c (S.loadN ti106 .none rfl (.tmp rfl rfl) rfl rfl) ?_
      refine RK.c (S.alloc (k := 11) ze106 rfl .none rfl) ?_
      refine RK.c (S.store ti106 .none (.tmp rfl rfl) (.tmp rfl rfl) rfl rfl rfl rfl rfl rfl) ?_
      refine RK.nil (Ab.D.code (OK.seq (OK.reg ?_)))
      refine RK.c (S.move .none rfl (.tmp rfl rfl)) ?_
      refine RK.c (S.makeFunc1 .none rfl (.tmp rfl rfl) rfl) ?_
      refine RK.c (S.callL (containsFunc_int (l := ticks) (g := fun n => decide (l[i].frm ≤ n ∧ n ≤ l[i].til)) (caps := [.eptr l[i].cs]) (fun n _ => mon_hit) Tryz.call105 ⟨rfl, rfl⟩) Tryz.call102 .none rfl (.cons (.tmp rfl rfl) (.cons (.tmp rfl rfl) .nil)) (.cons (.same rfl) (.cons (.fn (.cons (.ptr rfl rfl rfl rfl) .nil)) .nil)) rfl) ?_
      refine RK.nil (Ab.D.code ?_)
      refine OK.cond rfl rfl (fun c40 => ?_) (fun c40 => ?_)
      ·
        have hb2 := hits_len ticks l i
        refine OK.reg ?_
        refine RK.c (S.move .none rfl (.tmp rfl rfl)) ?_
        refine RK.c (S.bfield fi106_0 .none rfl (.tmp rfl rfl)) ?_
        refine RK.c (S.bload1 ti3 .none rfl (.tmp rfl rfl) rfl rfl rfl rfl) ?_
        refine RK.c (S.mkSlice (k := 44) (rows := [[_]]) ai25 .none rfl (.cons (.tmp rfl rfl) .nil) rfl rfl rfl rfl rfl rfl rfl) ?_
        refine RK.c (S.append ai25 .none rfl (.tmp rfl rfl) rfl (by first | rfl | (simp; done) | (simp; omega)) (.tmp rfl rfl) rfl (by first | rfl | (simp; done) | (simp; omega)) (by omega) (by simp only [maxLen]; omega)) ?_
        refine RK.c (S.assign .none rfl (.tmp rfl rfl)) ?_
        refine RK.nil ?_
        refine Ab.D.blk ?_
        refine Ab.D.code (OK.reg ?_)
        refine RK.c (S.add .none rfl (.tmp rfl rfl) (.cint rfl) (IntWalk.i64_in _ (by omega)) (IntWalk.i64_in _ (by omega))) ?_
        refine RK.c (S.move .none rfl (.tmp rfl rfl)) ?_
        refine RK.nil ?_
        refine Ab.D.lp ⟨i + 1, (by omega), (by omega), rfl, (lk_own (by first | (rw [← hits_T (by omega) c40]; simp) | rw [← hits_F (by omega) c40])), (lk_arr (by first | (rw [← hits_T (by omega) c40]; simp) | rw [← hits_F (by omega) c40])), rfl, rfl, rfl, trivial⟩
      ·
        refine OK.skip ?_
        refine Ab.D.blk ?_
        refine Ab.D.code (OK.reg ?_)
        refine RK.c (S.add .none rfl (.tmp rfl rfl) (.cint rfl) (IntWalk.i64_in _ (by omega)) (IntWalk.i64_in _ (by omega))) ?_
        refine RK.c (S.move .none rfl (.tmp rfl rfl)) ?_
        refine RK.nil ?_
        refine Ab.D.lp ⟨i + 1, (by omega), (by omega), rfl, (lk_own (by first | (rw [← hits_T (by omega) c40]; simp) | rw [← hits_F (by omega) c40])), (lk_arr (by first | (rw [← hits_T (by omega) c40]; simp) | rw [← hits_F (by omega) c40])), rfl, rfl, rfl, trivial⟩
    ·
      refine OK.exit rfl ?_
      refine Ab.D.code ?_
      refine OK.seq ?_
      have hil : i = l.length := by omega
      have hb2 := hits_len ticks l i
      refine OK.reg ?_
      refine RK.c (S.move .none rfl (.tmp rfl rfl)) ?_
      refine RK.c (S.sortI (zs := hits ticks (l.take i)) sortsI Tryz.call106 .none rfl (.tmp rfl rfl) rfl (by simp) rfl (by omega)) ?_
      refine RK.nil (Ab.D.code (OK.seq (OK.reg ?_)))
      refine RK.c (S.move .none rfl (.tmp rfl rfl)) ?_
      refine RK.c (S.compactI (zs := (hits ticks (l.take i)).mergeSort fun x y => decide (x ≤ y)) compactsI Tryz.call107 .none rfl (.tmp rfl rfl) rfl (by simp only [List.length_map, sort_len]) rfl (by omega) (fun t h => compact_mem h) (compact_len _)) ?_
      refine RK.c (S.assign .none rfl (.tmp rfl rfl)) ?_
      refine RK.c (S.assign .none rfl (.cint rfl)) ?_
      refine RK.nil (Ab.D.code ?_)
      refine OK.ret (Ret.r2 (.tmp rfl rfl (.c (.same rfl) rfl) rfl) (.tmp rfl rfl (.c (.same rfl) rfl) rfl) ?_)
      subst hil
      rw [List.take_length, if_pos he, he]
      rfl
end Go.Proofs.YtpmglnphhhlbdaaGreatDoor
