/-
  Copies; bounds of arguments; passes.
-/
import Derived.Test.YtmokilkombplkaaGreatWe
namespace Go.Proofs.YtmokilkombplkaaGreat
open Go.Ab

def fewT (p : Plan) : Bool := decide (p.channels.length ≤ 6) && p.channels.all fun s => decide (s.length ≤ 20)
def shortT (l : List Int) : Bool := decide ((l.length : Int) ≤ 6)
def shortRec (r : Record) : Bool := decide (r.rows.length ≤ 14) && r.rows.all fun x => shortT x.values
def passErr (x : Pass) : Int := if ¬ ((0 ≤ x.part ∧ x.part ≤ 1000000) ∧ (0 ≤ x.frm ∧ x.frm ≤ 1000000000000) ∧ (0 ≤ x.til ∧ x.til ≤ 1000000000000)) then 2 else if x.frm > x.til then 9 else 0
def passChk (l : List Pass) : Int × Int := if 30 < l.length then (0, 8) else eachGo (fun _ x => passErr x) 0 l
def isTick (n : Int) : Bool := decide (0 ≤ n ∧ n ≤ 1000000000000)
def ticksErr (l : List Int) : Int := if 30 < l.length then 8 else if l.all isTick = true then 0 else 2
def hit (ticks : List Int) (x : Pass) : Bool := ticks.any fun n => decide (x.frm ≤ n ∧ n ≤ x.til)
def hits (ticks : List Int) (l : List Pass) : List Int := (l.filter (hit ticks)).map Pass.part
def spoilt (l : List Pass) (ticks : List Int) : List Int := Lib.compact ((hits ticks l).mergeSort fun x y => decide (x ≤ y))
def spoiltErr (l : List Pass) (ticks : List Int) : Int := firstE [(passChk l).2, unlessE (decide ((ticks.length : Int) ≤ 30)) 8, unlessE (!ticks.any fun n => !isTick n) 2]
theorem filter_snoc {α : Type} {l : List α} {i : Nat} (g : α → Bool) (h : i < l.length) : (l.take (i + 1)).filter g = (l.take i).filter g ++ if g l[i] = true then [l[i]] else [] := by
  rw [← take_snoc h, List.filter_append, List.filter_cons, List.filter_nil]
theorem hits_T {ticks : List Int} {l : List Pass} {i : Nat} (h : i < l.length) (hh : hit ticks l[i] = true) : hits ticks (l.take i) ++ [l[i].part] = hits ticks (l.take (i + 1)) := by
  simp only [hits, filter_snoc _ h, hh, if_true, List.map_append, List.map_cons, List.map_nil]
theorem hits_F {ticks : List Int} {l : List Pass} {i : Nat} (h : i < l.length) (hh : hit ticks l[i] = false) : hits ticks (l.take i) = hits ticks (l.take (i + 1)) := by
  simp only [hits, filter_snoc _ h, hh, Bool.false_eq_true, if_false, List.append_nil]
theorem hits_len (ticks : List Int) (l : List Pass) (i : Nat) : (hits ticks (l.take i)).length ≤ i := by
  simp only [hits, List.length_map]
  have h1 := List.length_filter_le (hit ticks) (l.take i)
  have h2 := List.length_take_le i l
  omega
theorem each_take {l : List Pass} (h : (passChk l).2 = 0) : l.length ≤ 30 := by
  unfold passChk at h
  split at h
  · cases h
  · omega
theorem compact_mem {zs : List Int} {t : Int} (h : t ∈ Lib.compact zs) : t ∈ zs := by
  simp only [Lib.compact, Lib.compactUpTo, List.mem_map, List.mem_filter, List.mem_range] at h
  obtain ⟨j, ⟨h1, _⟩, rfl⟩ := h
  simp [h1]
theorem compact_len (zs : List Int) : (Lib.compact zs).length ≤ zs.length := by
  simp only [Lib.compact, Lib.compactUpTo, List.length_map]
  have := List.length_filter_le (Lib.keeps zs.toArray) (List.range zs.length)
  simpa using this

theorem base_CopyInts {l : List Int} (hlen : l.length ≤ 100000) : Ct Tryz.prog 31 [.sl (l.map (fun n => [.int .i64 n]))] (.sl (l.map (fun n => [.int .i64 n]))) := by
  refine Ct.intro (rs := [.tmp 2]) Tryz.func31 rfl Tryz.ntmps31 Tryz.results31 rfl rfl rfl fun w h => ?_
  refine OK.seq ?_
  refine OK.reg ?_
  refine RK.c (S.assign .none rfl .cnil) ?_
  refine RK.nil ?_
  refine Ab.D.code ?_
  refine OK.seq ?_
  refine OK.reg ?_
  refine RK.c (S.mkSlice (k := 3) (rows := []) ai33 .none rfl .nil rfl rfl rfl rfl rfl rfl rfl) ?_
  refine RK.c (S.move .none rfl (.tmp rfl rfl)) ?_
  refine RK.c (S.appendSl ai33 .none rfl (.tmp rfl rfl) rfl (by first | rfl | (simp; done) | (simp; omega)) (.tmp rfl rfl) (by intro q hq; obtain ⟨b, _, rfl⟩ := List.mem_map.1 hq; rfl) rfl (by simp only [List.length_map]; omega) (by simp only [maxLen, List.length_map]; omega)) ?_
  refine RK.c (S.assign .none rfl (.tmp rfl rfl)) ?_
  refine RK.nil ?_
  refine Ab.D.code ?_
  refine OK.ret (Ret.r1 (.tmp rfl rfl (.c (.own rfl rfl (by first | rfl | (simp; done) | (simp; omega))) rfl) rfl) ?_)
  rfl

theorem ref_CopyPlan {p : Plan} (hlen : p.channels.length ≤ 100000) : Ct Tryz.prog 10 [.agg p.cs] (.agg p.cs) := by
  refine Ct.intro (rs := [.cell 2 24]) Tryz.func10 rfl Tryz.ntmps10 Tryz.results10 rfl rfl rfl fun w h => ?_
  refine OK.seq ?_
  refine OK.reg ?_
  refine RK.c (S.box (k := 1) rfl .none rfl (.tmp rfl rfl) rfl) ?_
  refine RK.c (S.alloc (k := 2) ze24 rfl .none rfl) ?_
  refine RK.nil ?_
  refine Ab.D.code ?_
  refine OK.seq ?_
  refine OK.regionDraw follows (.c (S.mkSlice (k := 3) (rows := []) ai22 .none rfl .nil rfl rfl rfl rfl rfl rfl rfl)
    (.c (S.bfield fi24_0 .none rfl (.tmp rfl rfl))
    (.c (S.bload1 ti22 .none rfl (.tmp rfl rfl) rfl rfl rfl rfl)
    (.c (S.appendSl ai22 .none rfl (.tmp rfl rfl) rfl (by first | rfl | (simp; done) | (simp; omega)) (.tmp rfl rfl) (by intro q hq; obtain ⟨b, _, rfl⟩ := List.mem_map.1 hq; rfl) rfl (by simp only [List.length_map]; omega) (by simp only [maxLen, List.length_map]; omega))
    (.c (S.bfield fi24_1 .none rfl (.tmp rfl rfl))
    (.c (S.bload1 ti3 .none rfl (.tmp rfl rfl) rfl rfl rfl rfl)
    (.c (S.build bu24 rfl .none rfl (.cons (.tmp rfl rfl) (.cons (.tmp rfl rfl) .nil)) rfl rfl)
    (.c (S.store ti24 .none (.tmp rfl rfl) (.tmp rfl rfl) rfl rfl rfl rfl rfl rfl)
    .nil)))))))) (by kernel_rfl) ?_
  refine Ab.D.code ?_
  refine OK.ret (Ret.r1 (.cellN rfl rfl rfl rfl ti24 rfl (.k (.own rfl rfl (by first | rfl | (simp; done) | (simp; omega))) (.k (.same rfl) .z))) ?_)
  rfl

theorem law_short {l : List Int} : Ct Tryz.prog 63 [ints l] (.bool (shortT l)) := by
  refine Ct.intro (rs := [.tmp 2]) Tryz.func63 rfl Tryz.ntmps63 Tryz.results63 rfl rfl rfl fun w h => ?_
  refine OK.seq ?_
  refine OK.reg ?_
  refine RK.c (S.assign .none rfl .cbool) ?_
  refine RK.nil ?_
  refine Ab.D.code ?_
  refine OK.seq ?_
  refine OK.reg ?_
  refine RK.c (S.move .none rfl (.tmp rfl rfl)) ?_
  refine RK.c (S.lenM si33 .none rfl (.tmp rfl rfl)) ?_
  refine RK.c (S.leq .none rfl (.tmp rfl rfl) (.cint rfl)) ?_
  refine RK.c (S.assign .none rfl (.tmp rfl rfl)) ?_
  refine RK.nil ?_
  refine Ab.D.code ?_
  refine OK.ret (Ret.r1 (.tmp rfl rfl (.c (.same rfl) rfl) rfl) ?_)
  rfl

theorem law_shortRecord {r : Record} : Ct Tryz.prog 30 [.agg r.cs] (.bool (shortRec r)) := by
  refine Ct.intro (rs := [.tmp 2]) Tryz.func30 rfl Tryz.ntmps30 Tryz.results30 rfl rfl rfl fun w h => ?_
  refine OK.seq ?_
  refine OK.reg ?_
  refine RK.c (S.box (k := 1) rfl .none rfl (.tmp rfl rfl) rfl) ?_
  refine RK.c (S.assign .none rfl .cbool) ?_
  refine RK.nil ?_
  refine Ab.D.code ?_
  refine OK.seq ?_
  refine OK.seq ?_
  refine OK.reg ?_
  refine RK.c (S.bfield fi39_0 .none rfl (.tmp rfl rfl)) ?_
  refine RK.c (S.bload1 ti37 .none rfl (.tmp rfl rfl) rfl rfl rfl rfl) ?_
  refine RK.c (S.lenM si37 .none rfl (.tmp rfl rfl)) ?_
  refine RK.c (S.gtr .none rfl (.tmp rfl rfl) (.cint rfl)) ?_
  refine RK.nil ?_
  refine Ab.D.code ?_
  refine OK.condD rfl rfl (fun c7 => ?_) (fun c7 => ?_)
  ·
    refine OK.seq ?_
    refine OK.reg ?_
    refine RK.c (S.assign .none rfl .cbool) ?_
    refine RK.nil ?_
    refine Ab.D.code ?_
    refine OK.ret (Ret.r1 (.tmp rfl rfl (.c (.same rfl) rfl) rfl) ?_)
    refine ret_b ?_
    rw [shortRec, decide_eq_false (by omega), Bool.false_and]
  ·
    refine OK.skip ?_
    refine Ab.D.code ?_
    refine OK.seq ?_
    refine OK.seq ?_
    refine OK.reg ?_
    refine RK.c (S.assign .none rfl (.cint rfl)) ?_
    refine RK.nil ?_
    refine Ab.D.code ?_
    refine OK.block ?_
    refine OK.loop (G := Nat) [1] (fun i => [(1, .ptr 1 0), (1001, .box r.cs), (3, .int .i64 i)]) (fun i => i ≤ r.rows.length ∧ (r.rows.all fun x => shortT x.values) = (r.rows.drop i).all fun x => shortT x.values) (fun i => r.rows.length - i) 0 ⟨Nat.zero_le _, rfl⟩ ⟨rfl, rfl, rfl, trivial⟩ (fun _ => rfl) ?_
    rintro i ⟨hi, hg⟩
    refine OK.seq ?_
    refine OK.seq ?_
    refine OK.reg ?_
    refine RK.c (S.move .none rfl (.tmp rfl rfl)) ?_
    refine RK.c (S.bfield fi39_0 .none rfl (.tmp rfl rfl)) ?_
    refine RK.c (S.bload1 ti37 .none rfl (.tmp rfl rfl) rfl rfl rfl rfl) ?_
    refine RK.c (S.lenM si37 .none rfl (.tmp rfl rfl)) ?_
    refine RK.c (S.lss .none rfl (.tmp rfl rfl) (.tmp rfl rfl)) ?_
    refine RK.nil ?_
    refine Ab.D.code ?_
    refine OK.condD rfl rfl (fun c12 => ?_) (fun c12 => ?_)
    ·
      refine OK.skip ?_
      refine Ab.D.code ?_
      refine OK.seq ?_
      refine OK.block ?_
      refine OK.seq ?_
      refine OK.reg ?_
      refine RK.c (S.bfield fi39_0 .none rfl (.tmp rfl rfl)) ?_
      refine RK.c (S.bload1 ti37 .none rfl (.tmp rfl rfl) rfl rfl rfl rfl) ?_
      refine RK.c (S.move .none rfl (.tmp rfl rfl)) ?_
      refine RK.c (S.indexM si37 .none rfl (.tmp rfl rfl) (.tmp rfl rfl) rfl (by omega) rfl) ?_
      refine RK.c (S.field fi99_1 .none rfl (.tmp rfl rfl) rfl) ?_
      refine RK.c (S.load1 ti33 .none rfl (.tmp rfl rfl) rfl) ?_
      refine RK.c (S.call (law_short) Tryz.call63 .none rfl (.cons (.tmp rfl rfl) .nil) rfl) ?_
      refine RK.c (S.not .none rfl (.tmp rfl rfl)) ?_
      refine RK.nil ?_
      refine Ab.D.code ?_
      refine OK.cond rfl rfl (fun c22 => ?_) (fun c22 => ?_)
      ·
        refine OK.seq ?_
        refine OK.reg ?_
        refine RK.c (S.assign .none rfl .cbool) ?_
        refine RK.nil ?_
        refine Ab.D.code ?_
        refine OK.ret (Ret.r1 (.tmp rfl rfl (.c (.same rfl) rfl) rfl) ?_)
        refine ret_b ?_
        rw [shortRec, hg, all_drop _ (by omega), show shortT r.rows[i].values = false by simpa using c22, Bool.false_and, Bool.and_false]
      ·
        refine OK.skip ?_
        refine Ab.D.blk ?_
        refine Ab.D.code ?_
        refine OK.reg ?_
        refine RK.c (S.move .none rfl (.tmp rfl rfl)) ?_
        refine RK.c (S.add .none rfl (.tmp rfl rfl) (.cint rfl) (IntWalk.i64_in _ (by omega)) (IntWalk.i64_in _ (by omega))) ?_
        refine RK.c (S.assign .none rfl (.tmp rfl rfl)) ?_
        refine RK.nil ?_
        refine Ab.D.lp ⟨i + 1, ⟨by omega, ?_⟩, (by omega), rfl, rfl, rfl, trivial⟩
        rw [hg, all_drop _ (by omega), show shortT r.rows[i].values = true by simpa using c22, Bool.true_and]
    ·
      refine OK.exit rfl ?_
      refine Ab.D.code ?_
      refine OK.seq ?_
      refine OK.reg ?_
      refine RK.c (S.assign .none rfl .cbool) ?_
      refine RK.nil ?_
      refine Ab.D.code ?_
      refine OK.ret (Ret.r1 (.tmp rfl rfl (.c (.same rfl) rfl) rfl) ?_)
      refine ret_b ?_
      rw [shortRec, hg, show i = r.rows.length by omega, List.drop_length, decide_eq_true (by omega)]
      rfl

theorem mon_pass {i : Nat} {x : Pass} : Ct Tryz.prog 75 [.int .i64 i, .agg x.cs] (.int .i64 (passErr x)) := by
  refine Ct.intro (rs := [.tmp 4]) Tryz.func75 rfl Tryz.ntmps75 Tryz.results75 rfl rfl rfl fun w h => ?_
  refine OK.seq ?_
  refine OK.reg ?_
  refine RK.c (S.box (k := 3) rfl .none rfl (.tmp rfl rfl) rfl) ?_
  refine RK.c (S.assign .none rfl (.cint rfl)) ?_
  refine RK.nil ?_
  refine Ab.D.code ?_
  refine OK.seq ?_
  by_cases g8 : 0 ≤ x.part ∧ x.part ≤ 1000000
  ·
    by_cases g13 : 0 ≤ x.frm ∧ x.frm ≤ 1000000000000
    ·
      refine OK.regionDraw follows (.c (S.bfield fi70_0 .none rfl (.tmp rfl rfl))
        (.c (S.bload1 ti3 .none rfl (.tmp rfl rfl) rfl rfl rfl rfl)
        (.c (S.call (mon_isNumber) Tryz.call76 .none rfl (.cons (.tmp rfl rfl) .nil) rfl)
        (.c (S.move .none rfl (.tmp rfl rfl))
        (.c (S.bfield fi70_1 (.yes rfl rfl rfl (by simp [*])) rfl (.tmp rfl rfl))
        (.c (S.bload1 ti3 (.yes rfl rfl rfl (by simp [*])) rfl (.tmp rfl rfl) rfl rfl rfl rfl)
        (.c (S.call (mon_isTick) Tryz.call54 (.yes rfl rfl rfl (by simp [*])) rfl (.cons (.tmp rfl rfl) .nil) rfl)
        (.c (S.pickT .none rfl (.tmp rfl rfl) (.tmp rfl rfl) (by simp [*]))
        (.c (S.move .none rfl (.tmp rfl rfl))
        (.c (S.bfield fi70_2 (.yes rfl rfl rfl (by simp [*])) rfl (.tmp rfl rfl))
        (.c (S.bload1 ti3 (.yes rfl rfl rfl (by simp [*])) rfl (.tmp rfl rfl) rfl rfl rfl rfl)
        (.c (S.call (mon_isTick) Tryz.call54 (.yes rfl rfl rfl (by simp [*])) rfl (.cons (.tmp rfl rfl) .nil) rfl)
        (.c (S.pickT .none rfl (.tmp rfl rfl) (.tmp rfl rfl) (by simp [*]))
        (.c (S.call (monitor_unless) Tryz.call34 .none rfl (.cons (.tmp rfl rfl) (.cons (.cint rfl) .nil)) rfl)
        (.c (S.bfield fi70_1 .none rfl (.tmp rfl rfl))
        (.c (S.bload1 ti3 .none rfl (.tmp rfl rfl) rfl rfl rfl rfl)
        (.c (S.bfield fi70_2 .none rfl (.tmp rfl rfl))
        (.c (S.bload1 ti3 .none rfl (.tmp rfl rfl) rfl rfl rfl rfl)
        (.c (S.leq .none rfl (.tmp rfl rfl) (.tmp rfl rfl))
        (.c (S.call (monitor_unless) Tryz.call34 .none rfl (.cons (.tmp rfl rfl) (.cons (.cint rfl) .nil)) rfl)
        (.c (S.mkSlice (k := 25) (rows := [[_], [_]]) ai125 .none rfl (.cons (.tmp rfl rfl) (.cons (.tmp rfl rfl) .nil)) rfl rfl rfl rfl rfl rfl rfl)
        (.c (S.callL (monitor_first (l := [_, _])) Tryz.call33 .none rfl (.cons (.tmp rfl rfl) .nil) (.cons (.p (.own rfl rfl) rfl) .nil) rfl)
        (.c (S.assign .none rfl (.tmp rfl rfl))
        .nil))))))))))))))))))))))) (by kernel_rfl) ?_
      refine Ab.D.code ?_
      refine OK.ret (Ret.r1 (.tmp rfl rfl (.c (.same rfl) rfl) rfl) ?_)
      refine ret_i ?_
      simp [firstE2, unlessE]
      unfold passErr
      repeat' split
      all_goals omega
    ·
      refine OK.regionDraw follows (.c (S.bfield fi70_0 .none rfl (.tmp rfl rfl))
        (.c (S.bload1 ti3 .none rfl (.tmp rfl rfl) rfl rfl rfl rfl)
        (.c (S.call (mon_isNumber) Tryz.call76 .none rfl (.cons (.tmp rfl rfl) .nil) rfl)
        (.c (S.move .none rfl (.tmp rfl rfl))
        (.c (S.bfield fi70_1 (.yes rfl rfl rfl (by simp [*])) rfl (.tmp rfl rfl))
        (.c (S.bload1 ti3 (.yes rfl rfl rfl (by simp [*])) rfl (.tmp rfl rfl) rfl rfl rfl rfl)
        (.c (S.call (mon_isTick) Tryz.call54 (.yes rfl rfl rfl (by simp [*])) rfl (.cons (.tmp rfl rfl) .nil) rfl)
        (.c (S.pickT .none rfl (.tmp rfl rfl) (.tmp rfl rfl) (by simp [*]))
        (.c (S.move .none rfl (.tmp rfl rfl))
        (.c (S.skip rfl rfl rfl (by simp [*]) rfl)
        (.c (S.skip rfl rfl rfl (by simp [*]) rfl)
        (.c (S.skip rfl rfl rfl (by simp [*]) rfl)
        (.c (S.pickF .none rfl (.tmp rfl rfl) .cbool (by simp [*]))
        (.c (S.call (monitor_unless) Tryz.call34 .none rfl (.cons (.tmp rfl rfl) (.cons (.cint rfl) .nil)) rfl)
        (.c (S.bfield fi70_1 .none rfl (.tmp rfl rfl))
        (.c (S.bload1 ti3 .none rfl (.tmp rfl rfl) rfl rfl rfl rfl)
        (.c (S.bfield fi70_2 .none rfl (.tmp rfl rfl))
        (.c (S.bload1 ti3 .none rfl (.tmp rfl rfl) rfl rfl rfl rfl)
        (.c (S.leq .none rfl (.tmp rfl rfl) (.tmp rfl rfl))
        (.c (S.call (monitor_unless) Tryz.call34 .none rfl (.cons (.tmp rfl rfl) (.cons (.cint rfl) .nil)) rfl)
        (.c (S.mkSlice (k := 25) (rows := [[_], [_]]) ai125 .none rfl (.cons (.tmp rfl rfl) (.cons (.tmp rfl rfl) .nil)) rfl rfl rfl rfl rfl rfl rfl)
        (.c (S.callL (monitor_first (l := [_, _])) Tryz.call33 .none rfl (.cons (.tmp rfl rfl) .nil) (.cons (.p (.own rfl rfl) rfl) .nil) rfl)
        (.c (S.assign .none rfl (.tmp rfl rfl))
        .nil))))))))))))))))))))))) (by kernel_rfl) ?_
      refine Ab.D.code ?_
      refine OK.ret (Ret.r1 (.tmp rfl rfl (.c (.same rfl) rfl) rfl) ?_)
      refine ret_i ?_
      simp [firstE2, unlessE]
      unfold passErr
      repeat' split
      all_goals omega
  ·
    refine OK.regionDraw follows (.c (S.bfield fi70_0 .none rfl (.tmp rfl rfl))
      (.c (S.bload1 ti3 .none rfl (.tmp rfl rfl) rfl rfl rfl rfl)
      (.c (S.call (mon_isNumber) Tryz.call76 .none rfl (.cons (.tmp rfl rfl) .nil) rfl)
      (.c (S.move .none rfl (.tmp rfl rfl))
      (.c (S.skip rfl rfl rfl (by simp [*]) rfl)
      (.c (S.skip rfl rfl rfl (by simp [*]) rfl)
      (.c (S.skip rfl rfl rfl (by simp [*]) rfl)
      (.c (S.pickF .none rfl (.tmp rfl rfl) .cbool (by simp [*]))
      (.c (S.move .none rfl (.tmp rfl rfl))
      (.c (S.skip rfl rfl rfl (by simp [*]) rfl)
      (.c (S.skip rfl rfl rfl (by simp [*]) rfl)
      (.c (S.skip rfl rfl rfl (by simp [*]) rfl)
      (.c (S.pickF .none rfl (.tmp rfl rfl) .cbool (by simp [*]))
      (.c (S.call (monitor_unless) Tryz.call34 .none rfl (.cons (.tmp rfl rfl) (.cons (.cint rfl) .nil)) rfl)
      (.c (S.bfield fi70_1 .none rfl (.tmp rfl rfl))
      (.c (S.bload1 ti3 .none rfl (.tmp rfl rfl) rfl rfl rfl rfl)
      (.c (S.bfield fi70_2 .none rfl (.tmp rfl rfl))
      (.c (S.bload1 ti3 .none rfl (.tmp rfl rfl) rfl rfl rfl rfl)
      (.c (S.leq .none rfl (.tmp rfl rfl) (.tmp rfl rfl))
      (.c (S.call (monitor_unless) Tryz.call34 .none rfl (.cons (.tmp rfl rfl) (.cons (.cint rfl) .nil)) rfl)
      (.c (S.mkSlice (k := 25) (rows := [[_], [_]]) ai125 .none rfl (.cons (.tmp rfl rfl) (.cons (.tmp rfl rfl) .nil)) rfl rfl rfl rfl rfl rfl rfl)
      (.c (S.callL (monitor_first (l := [_, _])) Tryz.call33 .none rfl (.cons (.tmp rfl rfl) .nil) (.cons (.p (.own rfl rfl) rfl) .nil) rfl)
      (.c (S.assign .none rfl (.tmp rfl rfl))
      .nil))))))))))))))))))))))) (by kernel_rfl) ?_
    refine Ab.D.code ?_
    refine OK.ret (Ret.r1 (.tmp rfl rfl (.c (.same rfl) rfl) rfl) ?_)
    refine ret_i ?_
    simp [firstE2, unlessE]
    unfold passErr
    repeat' split
    all_goals omega

theorem mon_CheckPasses {l : List Pass} : Ct Tryz.prog 51 [.sl (l.map Pass.cs)] (pair (passChk l)) := by
  refine Ct.intro (rs := [.tmp 2, .tmp 3]) Tryz.func51 rfl Tryz.ntmps51 Tryz.results51 rfl rfl rfl fun w h => ?_
  refine OK.seq ?_
  refine OK.reg ?_
  refine RK.c (S.assign .none rfl (.cint rfl)) ?_
  refine RK.c (S.assign .none rfl (.cint rfl)) ?_
  refine RK.nil ?_
  refine Ab.D.code ?_
  refine OK.seq ?_
  refine OK.seq ?_
  refine OK.reg ?_
  refine RK.c (S.move .none rfl (.tmp rfl rfl)) ?_
  refine RK.c (S.lenM si71 .none rfl (.tmp rfl rfl)) ?_
  refine RK.c (S.gtr .none rfl (.tmp rfl rfl) (.cint rfl)) ?_
  refine RK.nil ?_
  refine Ab.D.code ?_
  refine OK.condD rfl rfl (fun c6 => ?_) (fun c6 => ?_)
  ·
    refine OK.seq ?_
    refine OK.reg ?_
    refine RK.c (S.assign .none rfl (.cint rfl)) ?_
    refine RK.c (S.assign .none rfl (.cint rfl)) ?_
    refine RK.nil ?_
    refine Ab.D.code ?_
    refine OK.ret (Ret.r2 (.tmp rfl rfl (.c (.same rfl) rfl) rfl) (.tmp rfl rfl (.c (.same rfl) rfl) rfl) ?_)
    refine ret_p ?_
    rw [passChk, if_pos (by omega)]
  ·
    refine OK.skip ?_
    refine Ab.D.code ?_
    refine OK.seq ?_
    refine OK.reg ?_
    refine RK.c (S.move .none rfl (.tmp rfl rfl)) ?_
    refine RK.c (S.call (each_Pass (l := l) (g := fun _ x => passErr x) (caps := []) (fun i x _ => mon_pass) Tryz.call75 ⟨rfl, rfl⟩) Tryz.call74 .none rfl (.cons (.tmp rfl rfl) (.cons .cfn .nil)) rfl) ?_
    refine RK.c (S.extract .none rfl (.tmp rfl rfl) rfl rfl) ?_
    refine RK.c (S.extract .none rfl (.tmp rfl rfl) rfl rfl) ?_
    refine RK.c (S.assign .none rfl (.tmp rfl rfl)) ?_
    refine RK.c (S.assign .none rfl (.tmp rfl rfl)) ?_
    refine RK.nil ?_
    refine Ab.D.code ?_
    refine OK.ret (Ret.r2 (.tmp rfl rfl (.c (.same rfl) rfl) rfl) (.tmp rfl rfl (.c (.same rfl) rfl) rfl) ?_)
    refine ret_p ?_
    rw [passChk, if_neg (by omega)]

end Go.Proofs.YtmokilkombplkaaGreat
