/-
  Copies; bounds of arguments; passes.
-/
import Derived.Test.YtfjldfkgjejpmaaWe
namespace Go.Proofs.Ytfjldfkgjejpmaa
open Go.Ab

def fewT (p : Plan) : Bool := decide (p.channels.length ≤ 6) && p.channels.all fun s => decide (s.length ≤ 20)
def shortT (l : List Int) : Bool := decide ((l.length : Int) ≤ 6)
def shortRec (r : Record) : Bool := decide (r.rows.length ≤ 14) && r.rows.all fun x => shortT x.values
def passErr (x : Pass) : Int := if ¬ ((0 ≤ x.part ∧ x.part ≤ 1000000) ∧ (0 ≤ x.frm ∧ x.frm ≤ 1000000000000) ∧ (0 ≤ x.til ∧ x.til ≤ 1000000000000)) then 2 else if x.frm > x.til then 9 else 0
def passChk (l : List Pass) : Int × Int := if 30 < l.length then (0, 8) else eachGo (fun _ x => passErr x) 0 l
def isTick (n : Int) : Bool := decide (0 ≤ n ∧ n ≤ 1000000000000)
def ticksErr (l : List Int) : Int := if 30 < l.length then 8 else if l.all isTick = true then 0 else 2
def hit (ticks : List Int) (x : Pass) : Bool := ticks.any fun n => decide (x.frm ≤ n ∧ n ≤ x.til)
def hits (ticks : List Int) (l : List Pass) : List Int := (l.filter (hit ticks)).map Pass.part
def spoilt (l : List Pass) (ticks : List Int) : List Int := Lib.compact ((hits ticks l).mergeSort fun x y => decide (x ≤ y))
def spoiltErr (l : List Pass) (ticks : List Int) : Int := firstE [(passChk l).2, unlessE (decide ((ticks.length : Int) ≤ 30)) 8, unlessE (!ticks.any fun n => !isTick n) 2]
theorem filter_snoc {α : Type} {l : List α} {i : Nat} (g : α → Bool) (h : i < l.length) : (l.take (i + 1)).filter g = (l.take i).filter g ++ if g l[i] = true then [l[i]] else [] := by
  rw [← take_snoc h, List.filter_append, List.filter_cons, List.filter_nil]
theorem hits_T {ticks : List Int} {l : List Pass} {i : Nat} (h : i < l.length) (hh : hit ticks l[i] = true) : hits ticks (l.take i) ++ [l[i].part] = hits ticks (l.take (i + 1)) := by
  simp only [hits, filter_snoc _ h, hh, if_true, List.map_append, List.map_cons, List.map_nil]
theorem hits_F {ticks : List Int} {l : List Pass} {i : Nat} (h : i < l.length) (hh : hit ticks l[i] = false) : hits ticks (l.take i) = hits ticks (l.take (i + 1)) := by
  simp only [hits, filter_snoc _ h, hh, Bool.false_eq_true, if_false, List.append_nil]
theorem hits_len (ticks : List Int) (l : List Pass) (i : Nat) : (hits ticks (l.take i)).length ≤ i := by
  simp only [hits, List.length_map]
  have h1 := List.length_filter_le (hit ticks) (l.take i)
  have h2 := List.length_take_le i l
  omega
theorem each_take {l : List Pass} (h : (passChk l).2 = 0) : l.length ≤ 30 := by
  unfold passChk at h
  split at h
  · cases h
  · omega
theorem compact_mem {zs : List Int} {t : Int} (h : t ∈ Lib.compact zs) : t ∈ zs := by
  simp only [Lib.compact, Lib.compactUpTo, List.mem_map, List.mem_filter, List.mem_range] at h
  obtain ⟨j, ⟨h1, _⟩, rfl⟩ := h
  simp [h1]
theorem compact_len (zs : List Int) : (Lib.compact zs).length ≤ zs.length := by
  simp only [Lib.compact, Lib.compactUpTo, List.length_map]
  have := List.length_filter_le (Lib.keeps zs.toArray) (List.range zs.length)
  simpa using this

theorem base_CopyInts {l : List Int} (hlen : l.length ≤ 100000) : Ct Try.prog 13 [.sl (l.map (fun n => [.int .i64 n]))] (.sl (l.map (fun n => [.int .i64 n]))) := by
  refine Ct.intro (rs := [.tmp 2]) Try.func13 rfl Try.ntmps13 Try.results13 rfl rfl rfl fun w h => ?_
  refine OK.seq ?_
  refine OK.reg ?_
  refine RK.c (S.assign .none rfl .cnil) ?_
  refine RK.nil ?_
  refine Ab.D.code ?_
  refine OK.seq ?_
  refine OK.reg ?_
  refine RK.c (S.mkSlice (k := 3) (rows := []) ai23 .none rfl .nil rfl rfl rfl rfl rfl rfl rfl) ?_
  refine RK.c (S.move .none rfl (.tmp rfl rfl)) ?_
  refine RK.c (S.appendSl ai23 .none rfl (.tmp rfl rfl) rfl (by first | rfl | (simp; done) | (simp; omega)) (.tmp rfl rfl) (by intro q hq; obtain ⟨b, _, rfl⟩ := List.mem_map.1 hq; rfl) rfl (by simp only [List.length_map]; omega) (by simp only [maxLen, List.length_map]; omega)) ?_
  refine RK.c (S.assign .none rfl (.tmp rfl rfl)) ?_
  refine RK.nil ?_
  refine Ab.D.code ?_
  refine OK.ret (Ret.r1 (.tmp rfl rfl (.c (.own rfl rfl (by first | rfl | (simp; done) | (simp; omega))) rfl) rfl) ?_)
  rfl

theorem ref_CopyPasses {l : List Pass} (hlen : l.length ≤ 100000) : Ct Try.prog 11 [.sl (l.map Pass.cs)] (.sl (l.map Pass.cs)) := by
  refine Ct.intro (rs := [.tmp 2]) Try.func11 rfl Try.ntmps11 Try.results11 rfl rfl rfl fun w h => ?_
  refine OK.seq ?_
  refine OK.reg ?_
  refine RK.c (S.assign .none rfl .cnil) ?_
  refine RK.nil ?_
  refine Ab.D.code ?_
  refine OK.seq ?_
  refine OK.reg ?_
  refine RK.c (S.mkSlice (k := 3) (rows := []) ai22 .none rfl .nil rfl rfl rfl rfl rfl rfl rfl) ?_
  refine RK.c (S.move .none rfl (.tmp rfl rfl)) ?_
  refine RK.c (S.appendSl ai22 .none rfl (.tmp rfl rfl) rfl (by first | rfl | (simp; done) | (simp; omega)) (.tmp rfl rfl) (by intro q hq; obtain ⟨b, _, rfl⟩ := List.mem_map.1 hq; rfl) rfl (by simp only [List.length_map]; omega) (by simp only [maxLen, List.length_map]; omega)) ?_
  refine RK.c (S.assign .none rfl (.tmp rfl rfl)) ?_
  refine RK.nil ?_
  refine Ab.D.code ?_
  refine OK.ret (Ret.r1 (.tmp rfl rfl (.c (.own rfl rfl (by first | rfl | (simp; done) | (simp; omega))) rfl) rfl) ?_)
  rfl

theorem ref_CopyEvents {l : List Event} (hlen : l.length ≤ 100000) : Ct Try.prog 39 [.sl (l.map Event.cs)] (.sl (l.map Event.cs)) := by
  refine Ct.intro (rs := [.tmp 2]) Try.func39 rfl Try.ntmps39 Try.results39 rfl rfl rfl fun w h => ?_
  refine OK.seq ?_
  refine OK.reg ?_
  refine RK.c (S.assign .none rfl .cnil) ?_
  refine RK.nil ?_
  refine Ab.D.code ?_
  refine OK.seq ?_
  refine OK.reg ?_
  refine RK.c (S.mkSlice (k := 3) (rows := []) ai71 .none rfl .nil rfl rfl rfl rfl rfl rfl rfl) ?_
  refine RK.c (S.move .none rfl (.tmp rfl rfl)) ?_
  refine RK.c (S.appendSl ai71 .none rfl (.tmp rfl rfl) rfl (by first | rfl | (simp; done) | (simp; omega)) (.tmp rfl rfl) (by intro q hq; obtain ⟨b, _, rfl⟩ := List.mem_map.1 hq; rfl) rfl (by simp only [List.length_map]; omega) (by simp only [maxLen, List.length_map]; omega)) ?_
  refine RK.c (S.assign .none rfl (.tmp rfl rfl)) ?_
  refine RK.nil ?_
  refine Ab.D.code ?_
  refine OK.ret (Ret.r1 (.tmp rfl rfl (.c (.own rfl rfl (by first | rfl | (simp; done) | (simp; omega))) rfl) rfl) ?_)
  rfl

theorem ref_CopyPlan {p : Plan} (hlen : p.channels.length ≤ 100000) : Ct Try.prog 28 [.agg p.cs] (.agg p.cs) := by
  refine Ct.intro (rs := [.cell 2 53]) Try.func28 rfl Try.ntmps28 Try.results28 rfl rfl rfl fun w h => ?_
  refine OK.seq ?_
  refine OK.reg ?_
  refine RK.c (S.box (k := 1) rfl .none rfl (.tmp rfl rfl) rfl) ?_
  refine RK.c (S.alloc (k := 2) ze53 rfl .none rfl) ?_
  refine RK.nil ?_
  refine Ab.D.code ?_
  refine OK.seq ?_
  refine OK.regionDraw follows (.c (S.mkSlice (k := 3) (rows := []) ai51 .none rfl .nil rfl rfl rfl rfl rfl rfl rfl)
    (.c (S.bfield fi53_0 .none rfl (.tmp rfl rfl))
    (.c (S.bload1 ti51 .none rfl (.tmp rfl rfl) rfl rfl rfl rfl)
    (.c (S.appendSl ai51 .none rfl (.tmp rfl rfl) rfl (by first | rfl | (simp; done) | (simp; omega)) (.tmp rfl rfl) (by intro q hq; obtain ⟨b, _, rfl⟩ := List.mem_map.1 hq; rfl) rfl (by simp only [List.length_map]; omega) (by simp only [maxLen, List.length_map]; omega))
    (.c (S.bfield fi53_1 .none rfl (.tmp rfl rfl))
    (.c (S.bload1 ti3 .none rfl (.tmp rfl rfl) rfl rfl rfl rfl)
    (.c (S.build bu53 rfl .none rfl (.cons (.tmp rfl rfl) (.cons (.tmp rfl rfl) .nil)) rfl rfl)
    (.c (S.store ti53 .none (.tmp rfl rfl) (.tmp rfl rfl) rfl rfl rfl rfl rfl rfl)
    .nil)))))))) (by kernel_rfl) ?_
  refine Ab.D.code ?_
  refine OK.ret (Ret.r1 (.cellN rfl rfl rfl rfl ti53 rfl (.k (.own rfl rfl (by first | rfl | (simp; done) | (simp; omega))) (.k (.same rfl) .z))) ?_)
  rfl

theorem law_short {l : List Int} : Ct Try.prog 69 [ints l] (.bool (shortT l)) := by
  refine Ct.intro (rs := [.tmp 2]) Try.func69 rfl Try.ntmps69 Try.results69 rfl rfl rfl fun w h => ?_
  refine OK.seq ?_
  refine OK.reg ?_
  refine RK.c (S.assign .none rfl .cbool) ?_
  refine RK.nil ?_
  refine Ab.D.code ?_
  refine OK.seq ?_
  refine OK.reg ?_
  refine RK.c (S.move .none rfl (.tmp rfl rfl)) ?_
  refine RK.c (S.lenM si23 .none rfl (.tmp rfl rfl)) ?_
  refine RK.c (S.leq .none rfl (.tmp rfl rfl) (.cint rfl)) ?_
  refine RK.c (S.assign .none rfl (.tmp rfl rfl)) ?_
  refine RK.nil ?_
  refine Ab.D.code ?_
  refine OK.ret (Ret.r1 (.tmp rfl rfl (.c (.same rfl) rfl) rfl) ?_)
  rfl

theorem law_Few {p : Plan} : Ct Try.prog 25 [.agg p.cs] (.bool (fewT p)) := by
  refine Ct.intro (rs := [.tmp 2]) Try.func25 rfl Try.ntmps25 Try.results25 rfl rfl rfl fun w h => ?_
  refine OK.seq ?_
  refine OK.reg ?_
  refine RK.c (S.box (k := 1) rfl .none rfl (.tmp rfl rfl) rfl) ?_
  refine RK.c (S.assign .none rfl .cbool) ?_
  refine RK.nil ?_
  refine Ab.D.code ?_
  refine OK.seq ?_
  refine OK.seq ?_
  refine OK.reg ?_
  refine RK.c (S.bfield fi53_0 .none rfl (.tmp rfl rfl)) ?_
  refine RK.c (S.bload1 ti51 .none rfl (.tmp rfl rfl) rfl rfl rfl rfl) ?_
  refine RK.c (S.lenM si51 .none rfl (.tmp rfl rfl)) ?_
  refine RK.c (S.gtr .none rfl (.tmp rfl rfl) (.cint rfl)) ?_
  refine RK.nil ?_
  refine Ab.D.code ?_
  refine OK.condD rfl rfl (fun c7 => ?_) (fun c7 => ?_)
  ·
    refine OK.seq ?_
    refine OK.reg ?_
    refine RK.c (S.assign .none rfl .cbool) ?_
    refine RK.nil ?_
    refine Ab.D.code ?_
    refine OK.ret (Ret.r1 (.tmp rfl rfl (.c (.same rfl) rfl) rfl) ?_)
    refine ret_b ?_
    rw [fewT, decide_eq_false (by omega), Bool.false_and]
  ·
    refine OK.skip ?_
    refine Ab.D.code ?_
    refine OK.seq ?_
    refine OK.seq ?_
    refine OK.reg ?_
    refine RK.c (S.assign .none rfl (.cint rfl)) ?_
    refine RK.nil ?_
    refine Ab.D.code ?_
    refine OK.block ?_
    refine OK.loop (G := Nat) [1] (fun i => [(1, .ptr 1 0), (1001, .box p.cs), (3, .int .i64 i)]) (fun i => i ≤ p.channels.length ∧ (p.channels.all fun s => decide (s.length ≤ 20)) = (p.channels.drop i).all fun s => decide (s.length ≤ 20)) (fun i => p.channels.length - i) 0 ⟨Nat.zero_le _, rfl⟩ ⟨rfl, rfl, rfl, trivial⟩ (fun _ => rfl) ?_
    rintro i ⟨hi, hg⟩
    refine OK.seq ?_
    refine OK.seq ?_
    refine OK.reg ?_
    refine RK.c (S.move .none rfl (.tmp rfl rfl)) ?_
    refine RK.c (S.bfield fi53_0 .none rfl (.tmp rfl rfl)) ?_
    refine RK.c (S.bload1 ti51 .none rfl (.tmp rfl rfl) rfl rfl rfl rfl) ?_
    refine RK.c (S.lenM si51 .none rfl (.tmp rfl rfl)) ?_
    refine RK.c (S.lss .none rfl (.tmp rfl rfl) (.tmp rfl rfl)) ?_
    refine RK.nil ?_
    refine Ab.D.code ?_
    refine OK.condD rfl rfl (fun c12 => ?_) (fun c12 => ?_)
    ·
      refine OK.skip ?_
      refine Ab.D.code ?_
      refine OK.seq ?_
      refine OK.block ?_
      refine OK.seq ?_
      refine OK.reg ?_
      refine RK.c (S.bfield fi53_0 .none rfl (.tmp rfl rfl)) ?_
      refine RK.c (S.bload1 ti51 .none rfl (.tmp rfl rfl) rfl rfl rfl rfl) ?_
      refine RK.c (S.move .none rfl (.tmp rfl rfl)) ?_
      refine RK.c (S.indexM si51 .none rfl (.tmp rfl rfl) (.tmp rfl rfl) rfl (by omega) rfl) ?_
      refine RK.c (S.load1 ti9 .none rfl (.tmp rfl rfl) rfl) ?_
      refine RK.c (S.slen Try.underlying9 .none rfl (.tmp rfl rfl)) ?_
      refine RK.c (S.gtr .none rfl (.tmp rfl rfl) (.cint rfl)) ?_
      refine RK.nil ?_
      refine Ab.D.code ?_
      refine OK.condD rfl rfl (fun c21 => ?_) (fun c21 => ?_)
      ·
        refine OK.seq ?_
        refine OK.reg ?_
        refine RK.c (S.assign .none rfl .cbool) ?_
        refine RK.nil ?_
        refine Ab.D.code ?_
        refine OK.ret (Ret.r1 (.tmp rfl rfl (.c (.same rfl) rfl) rfl) ?_)
        refine ret_b ?_
        rw [fewT, hg, all_drop _ (by omega), decide_eq_false (p := p.channels[i].length ≤ 20) (by omega), Bool.false_and, Bool.and_false]
      ·
        refine OK.skip ?_
        refine Ab.D.blk ?_
        refine Ab.D.code ?_
        refine OK.reg ?_
        refine RK.c (S.move .none rfl (.tmp rfl rfl)) ?_
        refine RK.c (S.add .none rfl (.tmp rfl rfl) (.cint rfl) (IntWalk.i64_in _ (by omega)) (IntWalk.i64_in _ (by omega))) ?_
        refine RK.c (S.assign .none rfl (.tmp rfl rfl)) ?_
        refine RK.nil ?_
        refine Ab.D.lp ⟨i + 1, ⟨by omega, ?_⟩, (by omega), rfl, rfl, rfl, trivial⟩
        rw [hg, all_drop _ (by omega), decide_eq_true (by omega), Bool.true_and]
    ·
      refine OK.exit rfl ?_
      refine Ab.D.code ?_
      refine OK.seq ?_
      refine OK.reg ?_
      refine RK.c (S.assign .none rfl .cbool) ?_
      refine RK.nil ?_
      refine Ab.D.code ?_
      refine OK.ret (Ret.r1 (.tmp rfl rfl (.c (.same rfl) rfl) rfl) ?_)
      refine ret_b ?_
      rw [fewT, hg, show i = p.channels.length by omega, List.drop_length, decide_eq_true (by omega)]
      rfl

theorem law_shortRecord {r : Record} : Ct Try.prog 26 [.agg r.cs] (.bool (shortRec r)) := by
  refine Ct.intro (rs := [.tmp 2]) Try.func26 rfl Try.ntmps26 Try.results26 rfl rfl rfl fun w h => ?_
  refine OK.seq ?_
  refine OK.reg ?_
  refine RK.c (S.box (k := 1) rfl .none rfl (.tmp rfl rfl) rfl) ?_
  refine RK.c (S.assign .none rfl .cbool) ?_
  refine RK.nil ?_
  refine Ab.D.code ?_
  refine OK.seq ?_
  refine OK.seq ?_
  refine OK.reg ?_
  refine RK.c (S.bfield fi56_0 .none rfl (.tmp rfl rfl)) ?_
  refine RK.c (S.bload1 ti54 .none rfl (.tmp rfl rfl) rfl rfl rfl rfl) ?_
  refine RK.c (S.lenM si54 .none rfl (.tmp rfl rfl)) ?_
  refine RK.c (S.gtr .none rfl (.tmp rfl rfl) (.cint rfl)) ?_
  refine RK.nil ?_
  refine Ab.D.code ?_
  refine OK.condD rfl rfl (fun c7 => ?_) (fun c7 => ?_)
  ·
    refine OK.seq ?_
    refine OK.reg ?_
    refine RK.c (S.assign .none rfl .cbool) ?_
    refine RK.nil ?_
    refine Ab.D.code ?_
    refine OK.ret (Ret.r1 (.tmp rfl rfl (.c (.same rfl) rfl) rfl) ?_)
    refine ret_b ?_
    rw [shortRec, decide_eq_false (by omega), Bool.false_and]
  ·
    refine OK.skip ?_
    refine Ab.D.code ?_
    refine OK.seq ?_
    refine OK.seq ?_
    refine OK.reg ?_
    refine RK.c (S.assign .none rfl (.cint rfl)) ?_
    refine RK.nil ?_
    refine Ab.D.code ?_
    refine OK.block ?_
    refine OK.loop (G := Nat) [1] (fun i => [(1, .ptr 1 0), (1001, .box r.cs), (3, .int .i64 i)]) (fun i => i ≤ r.rows.length ∧ (r.rows.all fun x => shortT x.values) = (r.rows.drop i).all fun x => shortT x.values) (fun i => r.rows.length - i) 0 ⟨Nat.zero_le _, rfl⟩ ⟨rfl, rfl, rfl, trivial⟩ (fun _ => rfl) ?_
    rintro i ⟨hi, hg⟩
    refine OK.seq ?_
    refine OK.seq ?_
    refine OK.reg ?_
    refine RK.c (S.move .none rfl (.tmp rfl rfl)) ?_
    refine RK.c (S.bfield fi56_0 .none rfl (.tmp rfl rfl)) ?_
    refine RK.c (S.bload1 ti54 .none rfl (.tmp rfl rfl) rfl rfl rfl rfl) ?_
    refine RK.c (S.lenM si54 .none rfl (.tmp rfl rfl)) ?_
    refine RK.c (S.lss .none rfl (.tmp rfl rfl) (.tmp rfl rfl)) ?_
    refine RK.nil ?_
    refine Ab.D.code ?_
    refine OK.condD rfl rfl (fun c12 => ?_) (fun c12 => ?_)
    ·
      refine OK.skip ?_
      refine Ab.D.code ?_
      refine OK.seq ?_
      refine OK.block ?_
      refine OK.seq ?_
      refine OK.reg ?_
      refine RK.c (S.bfield fi56_0 .none rfl (.tmp rfl rfl)) ?_
      refine RK.c (S.bload1 ti54 .none rfl (.tmp rfl rfl) rfl rfl rfl rfl) ?_
      refine RK.c (S.move .none rfl (.tmp rfl rfl)) ?_
      refine RK.c (S.indexM si54 .none rfl (.tmp rfl rfl) (.tmp rfl rfl) rfl (by omega) rfl) ?_
      refine RK.c (S.field fi127_1 .none rfl (.tmp rfl rfl) rfl) ?_
      refine RK.c (S.load1 ti23 .none rfl (.tmp rfl rfl) rfl) ?_
      refine RK.c (S.call (law_short) Try.call69 .none rfl (.cons (.tmp rfl rfl) .nil) rfl) ?_
      refine RK.c (S.not .none rfl (.tmp rfl rfl)) ?_
      refine RK.nil ?_
      refine Ab.D.code ?_
      refine OK.cond rfl rfl (fun c22 => ?_) (fun c22 => ?_)
      ·
        refine OK.seq ?_
        refine OK.reg ?_
        refine RK.c (S.assign .none rfl .cbool) ?_
        refine RK.nil ?_
        refine Ab.D.code ?_
        refine OK.ret (Ret.r1 (.tmp rfl rfl (.c (.same rfl) rfl) rfl) ?_)
        refine ret_b ?_
        rw [shortRec, hg, all_drop _ (by omega), show shortT r.rows[i].values = false by simpa using c22, Bool.false_and, Bool.and_false]
      ·
        refine OK.skip ?_
        refine Ab.D.blk ?_
        refine Ab.D.code ?_
        refine OK.reg ?_
        refine RK.c (S.move .none rfl (.tmp rfl rfl)) ?_
        refine RK.c (S.add .none rfl (.tmp rfl rfl) (.cint rfl) (IntWalk.i64_in _ (by omega)) (IntWalk.i64_in _ (by omega))) ?_
        refine RK.c (S.assign .none rfl (.tmp rfl rfl)) ?_
        refine RK.nil ?_
        refine Ab.D.lp ⟨i + 1, ⟨by omega, ?_⟩, (by omega), rfl, rfl, rfl, trivial⟩
        rw [hg, all_drop _ (by omega), show shortT r.rows[i].values = true by simpa using c22, Bool.true_and]
    ·
      refine OK.exit rfl ?_
      refine Ab.D.code ?_
      refine OK.seq ?_
      refine OK.reg ?_
      refine RK.c (S.assign .none rfl .cbool) ?_
      refine RK.nil ?_
      refine Ab.D.code ?_
      refine OK.ret (Ret.r1 (.tmp rfl rfl (.c (.same rfl) rfl) rfl) ?_)
      refine ret_b ?_
      rw [shortRec, hg, show i = r.rows.length by omega, List.drop_length, decide_eq_true (by omega)]
      rfl

theorem mon_pass {i : Nat} {x : Pass} : Ct Try.prog 55 [.int .i64 i, .agg x.cs] (.int .i64 (passErr x)) := by
  refine Ct.intro (rs := [.tmp 4]) Try.func55 rfl Try.ntmps55 Try.results55 rfl rfl rfl fun w h => ?_
  refine OK.seq ?_
  refine OK.reg ?_
  refine RK.c (S.box (k := 3) rfl .none rfl (.tmp rfl rfl) rfl) ?_
  refine RK.c (S.assign .none rfl (.cint rfl)) ?_
  refine RK.nil ?_
  refine Ab.D.code ?_
  refine OK.seq ?_
  by_cases g8 : 0 ≤ x.part ∧ x.part ≤ 1000000
  ·
    by_cases g13 : 0 ≤ x.frm ∧ x.frm ≤ 1000000000000
    ·
      refine OK.regionDraw follows (.c (S.bfield fi108_0 .none rfl (.tmp rfl rfl))
        (.c (S.bload1 ti3 .none rfl (.tmp rfl rfl) rfl rfl rfl rfl)
        (.c (S.call (mon_isNumber) Try.call58 .none rfl (.cons (.tmp rfl rfl) .nil) rfl)
        (.c (S.move .none rfl (.tmp rfl rfl))
        (.c (S.bfield fi108_1 (.yes rfl rfl rfl (by simp [*])) rfl (.tmp rfl rfl))
        (.c (S.bload1 ti3 (.yes rfl rfl rfl (by simp [*])) rfl (.tmp rfl rfl) rfl rfl rfl rfl)
        (.c (S.call (mon_isTick) Try.call59 (.yes rfl rfl rfl (by simp [*])) rfl (.cons (.tmp rfl rfl) .nil) rfl)
        (.c (S.pickT .none rfl (.tmp rfl rfl) (.tmp rfl rfl) (by simp [*]))
        (.c (S.move .none rfl (.tmp rfl rfl))
        (.c (S.bfield fi108_2 (.yes rfl rfl rfl (by simp [*])) rfl (.tmp rfl rfl))
        (.c (S.bload1 ti3 (.yes rfl rfl rfl (by simp [*])) rfl (.tmp rfl rfl) rfl rfl rfl rfl)
        (.c (S.call (mon_isTick) Try.call59 (.yes rfl rfl rfl (by simp [*])) rfl (.cons (.tmp rfl rfl) .nil) rfl)
        (.c (S.pickT .none rfl (.tmp rfl rfl) (.tmp rfl rfl) (by simp [*]))
        (.c (S.call (monitor_unless) Try.call57 .none rfl (.cons (.tmp rfl rfl) (.cons (.cint rfl) .nil)) rfl)
        (.c (S.bfield fi108_1 .none rfl (.tmp rfl rfl))
        (.c (S.bload1 ti3 .none rfl (.tmp rfl rfl) rfl rfl rfl rfl)
        (.c (S.bfield fi108_2 .none rfl (.tmp rfl rfl))
        (.c (S.bload1 ti3 .none rfl (.tmp rfl rfl) rfl rfl rfl rfl)
        (.c (S.leq .none rfl (.tmp rfl rfl) (.tmp rfl rfl))
        (.c (S.call (monitor_unless) Try.call57 .none rfl (.cons (.tmp rfl rfl) (.cons (.cint rfl) .nil)) rfl)
        (.c (S.mkSlice (k := 25) (rows := [[_], [_]]) ai155 .none rfl (.cons (.tmp rfl rfl) (.cons (.tmp rfl rfl) .nil)) rfl rfl rfl rfl rfl rfl rfl)
        (.c (S.callL (monitor_first (l := [_, _])) Try.call56 .none rfl (.cons (.tmp rfl rfl) .nil) (.cons (.p (.own rfl rfl) rfl) .nil) rfl)
        (.c (S.assign .none rfl (.tmp rfl rfl))
        .nil))))))))))))))))))))))) (by kernel_rfl) ?_
      refine Ab.D.code ?_
      refine OK.ret (Ret.r1 (.tmp rfl rfl (.c (.same rfl) rfl) rfl) ?_)
      refine ret_i ?_
      simp [firstE2, unlessE]
      unfold passErr
      repeat' split
      all_goals omega
    ·
      refine OK.regionDraw follows (.c (S.bfield fi108_0 .none rfl (.tmp rfl rfl))
        (.c (S.bload1 ti3 .none rfl (.tmp rfl rfl) rfl rfl rfl rfl)
        (.c (S.call (mon_isNumber) Try.call58 .none rfl (.cons (.tmp rfl rfl) .nil) rfl)
        (.c (S.move .none rfl (.tmp rfl rfl))
        (.c (S.bfield fi108_1 (.yes rfl rfl rfl (by simp [*])) rfl (.tmp rfl rfl))
        (.c (S.bload1 ti3 (.yes rfl rfl rfl (by simp [*])) rfl (.tmp rfl rfl) rfl rfl rfl rfl)
        (.c (S.call (mon_isTick) Try.call59 (.yes rfl rfl rfl (by simp [*])) rfl (.cons (.tmp rfl rfl) .nil) rfl)
        (.c (S.pickT .none rfl (.tmp rfl rfl) (.tmp rfl rfl) (by simp [*]))
        (.c (S.move .none rfl (.tmp rfl rfl))
        (.c (S.skip rfl rfl rfl (by simp [*]) rfl)
        (.c (S.skip rfl rfl rfl (by simp [*]) rfl)
        (.c (S.skip rfl rfl rfl (by simp [*]) rfl)
        (.c (S.pickF .none rfl (.tmp rfl rfl) .cbool (by simp [*]))
        (.c (S.call (monitor_unless) Try.call57 .none rfl (.cons (.tmp rfl rfl) (.cons (.cint rfl) .nil)) rfl)
        (.c (S.bfield fi108_1 .none rfl (.tmp rfl rfl))
        (.c (S.bload1 ti3 .none rfl (.tmp rfl rfl) rfl rfl rfl rfl)
        (.c (S.bfield fi108_2 .none rfl (.tmp rfl rfl))
        (.c (S.bload1 ti3 .none rfl (.tmp rfl rfl) rfl rfl rfl rfl)
        (.c (S.leq .none rfl (.tmp rfl rfl) (.tmp rfl rfl))
        (.c (S.call (monitor_unless) Try.call57 .none rfl (.cons (.tmp rfl rfl) (.cons (.cint rfl) .nil)) rfl)
        (.c (S.mkSlice (k := 25) (rows := [[_], [_]]) ai155 .none rfl (.cons (.tmp rfl rfl) (.cons (.tmp rfl rfl) .nil)) rfl rfl rfl rfl rfl rfl rfl)
        (.c (S.callL (monitor_first (l := [_, _])) Try.call56 .none rfl (.cons (.tmp rfl rfl) .nil) (.cons (.p (.own rfl rfl) rfl) .nil) rfl)
        (.c (S.assign .none rfl (.tmp rfl rfl))
        .nil))))))))))))))))))))))) (by kernel_rfl) ?_
      refine Ab.D.code ?_
      refine OK.ret (Ret.r1 (.tmp rfl rfl (.c (.same rfl) rfl) rfl) ?_)
      refine ret_i ?_
      simp [firstE2, unlessE]
      unfold passErr
      repeat' split
      all_goals omega
  ·
    refine OK.regionDraw follows (.c (S.bfield fi108_0 .none rfl (.tmp rfl rfl))
      (.c (S.bload1 ti3 .none rfl (.tmp rfl rfl) rfl rfl rfl rfl)
      (.c (S.call (mon_isNumber) Try.call58 .none rfl (.cons (.tmp rfl rfl) .nil) rfl)
      (.c (S.move .none rfl (.tmp rfl rfl))
      (.c (S.skip rfl rfl rfl (by simp [*]) rfl)
      (.c (S.skip rfl rfl rfl (by simp [*]) rfl)
      (.c (S.skip rfl rfl rfl (by simp [*]) rfl)
      (.c (S.pickF .none rfl (.tmp rfl rfl) .cbool (by simp [*]))
      (.c (S.move .none rfl (.tmp rfl rfl))
      (.c (S.skip rfl rfl rfl (by simp [*]) rfl)
      (.c (S.skip rfl rfl rfl (by simp [*]) rfl)
      (.c (S.skip rfl rfl rfl (by simp [*]) rfl)
      (.c (S.pickF .none rfl (.tmp rfl rfl) .cbool (by simp [*]))
      (.c (S.call (monitor_unless) Try.call57 .none rfl (.cons (.tmp rfl rfl) (.cons (.cint rfl) .nil)) rfl)
      (.c (S.bfield fi108_1 .none rfl (.tmp rfl rfl))
      (.c (S.bload1 ti3 .none rfl (.tmp rfl rfl) rfl rfl rfl rfl)
      (.c (S.bfield fi108_2 .none rfl (.tmp rfl rfl))
      (.c (S.bload1 ti3 .none rfl (.tmp rfl rfl) rfl rfl rfl rfl)
      (.c (S.leq .none rfl (.tmp rfl rfl) (.tmp rfl rfl))
      (.c (S.call (monitor_unless) Try.call57 .none rfl (.cons (.tmp rfl rfl) (.cons (.cint rfl) .nil)) rfl)
      (.c (S.mkSlice (k := 25) (rows := [[_], [_]]) ai155 .none rfl (.cons (.tmp rfl rfl) (.cons (.tmp rfl rfl) .nil)) rfl rfl rfl rfl rfl rfl rfl)
      (.c (S.callL (monitor_first (l := [_, _])) Try.call56 .none rfl (.cons (.tmp rfl rfl) .nil) (.cons (.p (.own rfl rfl) rfl) .nil) rfl)
      (.c (S.assign .none rfl (.tmp rfl rfl))
      .nil))))))))))))))))))))))) (by kernel_rfl) ?_
    refine Ab.D.code ?_
    refine OK.ret (Ret.r1 (.tmp rfl rfl (.c (.same rfl) rfl) rfl) ?_)
    refine ret_i ?_
    simp [firstE2, unlessE]
    unfold passErr
    repeat' split
    all_goals omega

theorem mon_CheckPasses {l : List Pass} : Ct Try.prog 10 [.sl (l.map Pass.cs)] (pair (passChk l)) := by
  refine Ct.intro (rs := [.tmp 2, .tmp 3]) Try.func10 rfl Try.ntmps10 Try.results10 rfl rfl rfl fun w h => ?_
  refine OK.seq ?_
  refine OK.reg ?_
  refine RK.c (S.assign .none rfl (.cint rfl)) ?_
  refine RK.c (S.assign .none rfl (.cint rfl)) ?_
  refine RK.nil ?_
  refine Ab.D.code ?_
  refine OK.seq ?_
  refine OK.seq ?_
  refine OK.reg ?_
  refine RK.c (S.move .none rfl (.tmp rfl rfl)) ?_
  refine RK.c (S.lenM si22 .none rfl (.tmp rfl rfl)) ?_
  refine RK.c (S.gtr .none rfl (.tmp rfl rfl) (.cint rfl)) ?_
  refine RK.nil ?_
  refine Ab.D.code ?_
  refine OK.condD rfl rfl (fun c6 => ?_) (fun c6 => ?_)
  ·
    refine OK.seq ?_
    refine OK.reg ?_
    refine RK.c (S.assign .none rfl (.cint rfl)) ?_
    refine RK.c (S.assign .none rfl (.cint rfl)) ?_
    refine RK.nil ?_
    refine Ab.D.code ?_
    refine OK.ret (Ret.r2 (.tmp rfl rfl (.c (.same rfl) rfl) rfl) (.tmp rfl rfl (.c (.same rfl) rfl) rfl) ?_)
    refine ret_p ?_
    rw [passChk, if_pos (by omega)]
  ·
    refine OK.skip ?_
    refine Ab.D.code ?_
    refine OK.seq ?_
    refine OK.reg ?_
    refine RK.c (S.move .none rfl (.tmp rfl rfl)) ?_
    refine RK.c (S.call (each_Pass (l := l) (g := fun _ x => passErr x) (caps := []) (fun i x _ => mon_pass) Try.call55 ⟨rfl, rfl⟩) Try.call54 .none rfl (.cons (.tmp rfl rfl) (.cons .cfn .nil)) rfl) ?_
    refine RK.c (S.extract .none rfl (.tmp rfl rfl) rfl rfl) ?_
    refine RK.c (S.extract .none rfl (.tmp rfl rfl) rfl rfl) ?_
    refine RK.c (S.assign .none rfl (.tmp rfl rfl)) ?_
    refine RK.c (S.assign .none rfl (.tmp rfl rfl)) ?_
    refine RK.nil ?_
    refine Ab.D.code ?_
    refine OK.ret (Ret.r2 (.tmp rfl rfl (.c (.same rfl) rfl) rfl) (.tmp rfl rfl (.c (.same rfl) rfl) rfl) ?_)
    refine ret_p ?_
    rw [passChk, if_neg (by omega)]

theorem ref_TicksErr {l : List Int} : Ct Try.prog 15 [ints l] (.int .i64 (ticksErr l)) := by
  refine Ct.intro (rs := [.tmp 2]) Try.func15 rfl Try.ntmps15 Try.results15 rfl rfl rfl fun w h => ?_
  refine OK.seq ?_
  refine OK.reg ?_
  refine RK.c (S.assign .none rfl (.cint rfl)) ?_
  refine RK.nil ?_
  refine Ab.D.code ?_
  refine OK.seq ?_
  refine OK.seq ?_
  refine OK.reg ?_
  refine RK.c (S.move .none rfl (.tmp rfl rfl)) ?_
  refine RK.c (S.lenM si23 .none rfl (.tmp rfl rfl)) ?_
  refine RK.c (S.gtr .none rfl (.tmp rfl rfl) (.cint rfl)) ?_
  refine RK.nil ?_
  refine Ab.D.code ?_
  refine OK.condD rfl rfl (fun c6 => ?_) (fun c6 => ?_)
  ·
    refine OK.seq ?_
    refine OK.reg ?_
    refine RK.c (S.assign .none rfl (.cint rfl)) ?_
    refine RK.nil ?_
    refine Ab.D.code ?_
    refine OK.ret (Ret.r1 (.tmp rfl rfl (.c (.same rfl) rfl) rfl) ?_)
    refine ret_i ?_
    rw [ticksErr, if_pos (by omega)]
  ·
    refine OK.skip ?_
    refine Ab.D.code ?_
    refine OK.seq ?_
    refine OK.seq ?_
    refine OK.reg ?_
    refine RK.c (S.assign .none rfl (.cint rfl)) ?_
    refine RK.nil ?_
    refine Ab.D.code ?_
    refine OK.block ?_
    refine OK.loop (G := Nat) [] (fun i => [(0, ints l), (3, .int .i64 i)]) (fun i => i ≤ l.length ∧ l.all isTick = (l.drop i).all isTick) (fun i => l.length - i) 0 ⟨Nat.zero_le _, rfl⟩ ⟨rfl, rfl, trivial⟩ (fun _ => rfl) ?_
    rintro i ⟨hi, hg⟩
    refine OK.seq ?_
    refine OK.seq ?_
    refine OK.reg ?_
    refine RK.c (S.move .none rfl (.tmp rfl rfl)) ?_
    refine RK.c (S.move .none rfl (.tmp rfl rfl)) ?_
    refine RK.c (S.lenM si23 .none rfl (.tmp rfl rfl)) ?_
    refine RK.c (S.lss .none rfl (.tmp rfl rfl) (.tmp rfl rfl)) ?_
    refine RK.nil ?_
    refine Ab.D.code ?_
    refine OK.condD rfl rfl (fun c10 => ?_) (fun c10 => ?_)
    ·
      refine OK.skip ?_
      refine Ab.D.code ?_
      refine OK.seq ?_
      refine OK.block ?_
      refine OK.seq ?_
      refine OK.reg ?_
      refine RK.c (S.move .none rfl (.tmp rfl rfl)) ?_
      refine RK.c (S.move .none rfl (.tmp rfl rfl)) ?_
      refine RK.c (S.indexM si23 .none rfl (.tmp rfl rfl) (.tmp rfl rfl) rfl (by omega) rfl) ?_
      refine RK.c (S.load1 ti3 .none rfl (.tmp rfl rfl) rfl) ?_
      refine RK.c (S.call (base_Within) Try.call45 .none rfl (.cons (.tmp rfl rfl) (.cons (.cint rfl) (.cons (.cint rfl) .nil))) rfl) ?_
      refine RK.c (S.notD .none rfl (.tmp rfl rfl)) ?_
      refine RK.nil ?_
      refine Ab.D.code ?_
      refine OK.condD rfl rfl (fun c18 => ?_) (fun c18 => ?_)
      ·
        refine OK.seq ?_
        refine OK.reg ?_
        refine RK.c (S.assign .none rfl (.cint rfl)) ?_
        refine RK.nil ?_
        refine Ab.D.code ?_
        refine OK.ret (Ret.r1 (.tmp rfl rfl (.c (.same rfl) rfl) rfl) ?_)
        refine ret_i ?_
        rw [ticksErr, if_neg (by omega), hg, all_drop _ (by omega), show isTick l[i] = false from decide_eq_false (by omega), Bool.false_and]
        rfl
      ·
        refine OK.skip ?_
        refine Ab.D.blk ?_
        refine Ab.D.code ?_
        refine OK.reg ?_
        refine RK.c (S.move .none rfl (.tmp rfl rfl)) ?_
        refine RK.c (S.add .none rfl (.tmp rfl rfl) (.cint rfl) (IntWalk.i64_in _ (by omega)) (IntWalk.i64_in _ (by omega))) ?_
        refine RK.c (S.assign .none rfl (.tmp rfl rfl)) ?_
        refine RK.nil ?_
        refine Ab.D.lp ⟨i + 1, ⟨by omega, ?_⟩, (by omega), rfl, rfl, trivial⟩
        rw [hg, all_drop _ (by omega), show isTick l[i] = true from decide_eq_true (by omega), Bool.true_and]
    ·
      refine OK.exit rfl ?_
      refine Ab.D.code ?_
      refine OK.seq ?_
      refine OK.reg ?_
      refine RK.c (S.assign .none rfl (.cint rfl)) ?_
      refine RK.nil ?_
      refine Ab.D.code ?_
      refine OK.ret (Ret.r1 (.tmp rfl rfl (.c (.same rfl) rfl) rfl) ?_)
      refine ret_i ?_
      rw [ticksErr, if_neg (by omega), hg, show i = l.length by omega, List.drop_length]
      rfl

theorem ref_CheckPasses {l : List Pass} : Ct Try.prog 14 [.sl (l.map Pass.cs)] (pair (passChk l)) := by
  refine Ct.intro (rs := [.tmp 2, .tmp 3]) Try.func14 rfl Try.ntmps14 Try.results14 rfl rfl rfl fun w h => ?_
  refine OK.seq ?_
  refine OK.reg ?_
  refine RK.c (S.assign .none rfl (.cint rfl)) ?_
  refine RK.c (S.assign .none rfl (.cint rfl)) ?_
  refine RK.nil ?_
  refine Ab.D.code ?_
  refine OK.seq ?_
  refine OK.seq ?_
  refine OK.reg ?_
  refine RK.c (S.move .none rfl (.tmp rfl rfl)) ?_
  refine RK.c (S.lenM si22 .none rfl (.tmp rfl rfl)) ?_
  refine RK.c (S.gtr .none rfl (.tmp rfl rfl) (.cint rfl)) ?_
  refine RK.nil ?_
  refine Ab.D.code ?_
  refine OK.condD rfl rfl (fun c7 => ?_) (fun c7 => ?_)
  ·
    refine OK.seq ?_
    refine OK.reg ?_
    refine RK.c (S.assign .none rfl (.cint rfl)) ?_
    refine RK.c (S.assign .none rfl (.cint rfl)) ?_
    refine RK.nil ?_
    refine Ab.D.code ?_
    refine OK.ret (Ret.r2 (.tmp rfl rfl (.c (.same rfl) rfl) rfl) (.tmp rfl rfl (.c (.same rfl) rfl) rfl) ?_)
    refine ret_p ?_
    rw [passChk, if_pos (by omega)]
  ·
    refine OK.skip ?_
    refine Ab.D.code ?_
    refine OK.seq ?_
    refine OK.seq ?_
    refine OK.reg ?_
    refine RK.c (S.assign .none rfl (.cint rfl)) ?_
    refine RK.nil ?_
    refine Ab.D.code ?_
    refine OK.block ?_
    refine OK.loop (G := Nat) [] (fun i => [(0, .sl (l.map Pass.cs)), (4, .int .i64 i)]) (fun i => i ≤ l.length ∧ eachGo (fun _ x => passErr x) 0 l = eachGo (fun _ x => passErr x) i (l.drop i)) (fun i => l.length - i) 0 ⟨Nat.zero_le _, rfl⟩ ⟨rfl, rfl, trivial⟩ (fun _ => rfl) ?_
    rintro i ⟨hi, hg⟩
    refine OK.seq ?_
    refine OK.seq ?_
    refine OK.reg ?_
    refine RK.c (S.move .none rfl (.tmp rfl rfl)) ?_
    refine RK.c (S.move .none rfl (.tmp rfl rfl)) ?_
    refine RK.c (S.lenM si22 .none rfl (.tmp rfl rfl)) ?_
    refine RK.c (S.lss .none rfl (.tmp rfl rfl) (.tmp rfl rfl)) ?_
    refine RK.nil ?_
    refine Ab.D.code ?_
    refine OK.condD rfl rfl (fun c11 => ?_) (fun c11 => ?_)
    ·
      refine OK.skip ?_
      refine Ab.D.code ?_
      refine OK.seq ?_
      refine OK.block ?_
      refine OK.seq ?_
      refine OK.seq ?_
      refine OK.reg ?_
      refine RK.c (S.move .none rfl (.tmp rfl rfl)) ?_
      refine RK.c (S.move .none rfl (.tmp rfl rfl)) ?_
      refine RK.c (S.indexM si22 .none rfl (.tmp rfl rfl) (.tmp rfl rfl) rfl (by omega) rfl) ?_
      refine RK.c (S.field fi108_0 .none rfl (.tmp rfl rfl) rfl) ?_
      refine RK.c (S.load1 ti3 .none rfl (.tmp rfl rfl) rfl) ?_
      refine RK.c (S.call (ref_PartErr) Try.call42 .none rfl (.cons (.tmp rfl rfl) .nil) rfl) ?_
      refine RK.c (S.neq .none rfl (.tmp rfl rfl) (.cint rfl)) ?_
      refine RK.c (S.move .none rfl (.tmp rfl rfl)) ?_
      refine RK.splitD (t := 21) rfl (fun g21 => ?_) (fun g21 => ?_)
      ·
        refine RK.c (S.skip rfl rfl rfl rfl rfl) ?_
        refine RK.c (S.skip rfl rfl rfl rfl rfl) ?_
        refine RK.c (S.skip rfl rfl rfl rfl rfl) ?_
        refine RK.c (S.skip rfl rfl rfl rfl rfl) ?_
        refine RK.c (S.skip rfl rfl rfl rfl rfl) ?_
        refine RK.c (S.skip rfl rfl rfl rfl rfl) ?_
        refine RK.c (S.skip rfl rfl rfl rfl rfl) ?_
        refine RK.c (S.pickT .none rfl (.tmp rfl rfl) .cbool rfl) ?_
        refine RK.c (S.move .none rfl (.tmp rfl rfl)) ?_
        refine RK.c (S.skip rfl rfl rfl rfl rfl) ?_
        refine RK.c (S.skip rfl rfl rfl rfl rfl) ?_
        refine RK.c (S.skip rfl rfl rfl rfl rfl) ?_
        refine RK.c (S.skip rfl rfl rfl rfl rfl) ?_
        refine RK.c (S.skip rfl rfl rfl rfl rfl) ?_
        refine RK.c (S.skip rfl rfl rfl rfl rfl) ?_
        refine RK.c (S.skip rfl rfl rfl rfl rfl) ?_
        refine RK.c (S.pickT .none rfl (.tmp rfl rfl) .cbool rfl) ?_
        refine RK.nil ?_
        refine Ab.D.code ?_
        refine OK.condT rfl rfl rfl ?_
        refine OK.seq ?_
        refine OK.reg ?_
        refine RK.c (S.move .none rfl (.tmp rfl rfl)) ?_
        refine RK.c (S.assign .none rfl (.tmp rfl rfl)) ?_
        refine RK.c (S.assign .none rfl (.cint rfl)) ?_
        refine RK.nil ?_
        refine Ab.D.code ?_
        refine OK.ret (Ret.r2 (.tmp rfl rfl (.c (.same rfl) rfl) rfl) (.tmp rfl rfl (.c (.same rfl) rfl) rfl) ?_)
        have e : passErr l[i] = 2 := by
          rw [passErr, if_pos (by simp only [ne_eq, Decidable.not_not, ite_eq_left_iff] at *; omega)]
        refine ret_p ?_
        rw [passChk, if_neg (by omega), hg, eachGo_drop _ (by omega), e]
        rfl
      ·
        refine RK.c (S.move (.yes rfl rfl rfl rfl) rfl (.tmp rfl rfl)) ?_
        refine RK.c (S.move (.yes rfl rfl rfl rfl) rfl (.tmp rfl rfl)) ?_
        refine RK.c (S.indexM si22 (.yes rfl rfl rfl rfl) rfl (.tmp rfl rfl) (.tmp rfl rfl) rfl (by omega) rfl) ?_
        refine RK.c (S.field fi108_1 (.yes rfl rfl rfl rfl) rfl (.tmp rfl rfl) rfl) ?_
        refine RK.c (S.load1 ti3 (.yes rfl rfl rfl rfl) rfl (.tmp rfl rfl) rfl) ?_
        refine RK.c (S.call (base_Within) Try.call45 (.yes rfl rfl rfl rfl) rfl (.cons (.tmp rfl rfl) (.cons (.cint rfl) (.cons (.cint rfl) .nil))) rfl) ?_
        refine RK.c (S.notD (.yes rfl rfl rfl rfl) rfl (.tmp rfl rfl)) ?_
        refine RK.c (S.pickF .none rfl (.tmp rfl rfl) (.tmp rfl rfl) rfl) ?_
        refine RK.c (S.move .none rfl (.tmp rfl rfl)) ?_
        refine RK.splitD (t := 30) rfl (fun g30 => ?_) (fun g30 => ?_)
        ·
          refine RK.c (S.skip rfl rfl rfl rfl rfl) ?_
          refine RK.c (S.skip rfl rfl rfl rfl rfl) ?_
          refine RK.c (S.skip rfl rfl rfl rfl rfl) ?_
          refine RK.c (S.skip rfl rfl rfl rfl rfl) ?_
          refine RK.c (S.skip rfl rfl rfl rfl rfl) ?_
          refine RK.c (S.skip rfl rfl rfl rfl rfl) ?_
          refine RK.c (S.skip rfl rfl rfl rfl rfl) ?_
          refine RK.c (S.pickT .none rfl (.tmp rfl rfl) .cbool rfl) ?_
          refine RK.nil ?_
          refine Ab.D.code ?_
          refine OK.condT rfl rfl rfl ?_
          refine OK.seq ?_
          refine OK.reg ?_
          refine RK.c (S.move .none rfl (.tmp rfl rfl)) ?_
          refine RK.c (S.assign .none rfl (.tmp rfl rfl)) ?_
          refine RK.c (S.assign .none rfl (.cint rfl)) ?_
          refine RK.nil ?_
          refine Ab.D.code ?_
          refine OK.ret (Ret.r2 (.tmp rfl rfl (.c (.same rfl) rfl) rfl) (.tmp rfl rfl (.c (.same rfl) rfl) rfl) ?_)
          have e : passErr l[i] = 2 := by
            rw [passErr, if_pos (by simp only [ne_eq, Decidable.not_not, ite_eq_left_iff] at *; omega)]
          refine ret_p ?_
          rw [passChk, if_neg (by omega), hg, eachGo_drop _ (by omega), e]
          rfl
        ·
          refine RK.c (S.move (.yes rfl rfl rfl rfl) rfl (.tmp rfl rfl)) ?_
          refine RK.c (S.move (.yes rfl rfl rfl rfl) rfl (.tmp rfl rfl)) ?_
          refine RK.c (S.indexM si22 (.yes rfl rfl rfl rfl) rfl (.tmp rfl rfl) (.tmp rfl rfl) rfl (by omega) rfl) ?_
          refine RK.c (S.field fi108_2 (.yes rfl rfl rfl rfl) rfl (.tmp rfl rfl) rfl) ?_
          refine RK.c (S.load1 ti3 (.yes rfl rfl rfl rfl) rfl (.tmp rfl rfl) rfl) ?_
          refine RK.c (S.call (base_Within) Try.call45 (.yes rfl rfl rfl rfl) rfl (.cons (.tmp rfl rfl) (.cons (.cint rfl) (.cons (.cint rfl) .nil))) rfl) ?_
          refine RK.c (S.notD (.yes rfl rfl rfl rfl) rfl (.tmp rfl rfl)) ?_
          refine RK.c (S.pickF .none rfl (.tmp rfl rfl) (.tmp rfl rfl) rfl) ?_
          refine RK.nil ?_
          refine Ab.D.code ?_
          refine OK.condD rfl rfl (fun c38 => ?_) (fun c38 => ?_)
          ·
            refine OK.seq ?_
            refine OK.reg ?_
            refine RK.c (S.move .none rfl (.tmp rfl rfl)) ?_
            refine RK.c (S.assign .none rfl (.tmp rfl rfl)) ?_
            refine RK.c (S.assign .none rfl (.cint rfl)) ?_
            refine RK.nil ?_
            refine Ab.D.code ?_
            refine OK.ret (Ret.r2 (.tmp rfl rfl (.c (.same rfl) rfl) rfl) (.tmp rfl rfl (.c (.same rfl) rfl) rfl) ?_)
            have e : passErr l[i] = 2 := by
              rw [passErr, if_pos (by simp only [ne_eq, Decidable.not_not, ite_eq_left_iff] at *; omega)]
            refine ret_p ?_
            rw [passChk, if_neg (by omega), hg, eachGo_drop _ (by omega), e]
            rfl
          ·
            refine OK.skip ?_
            refine Ab.D.code ?_
            refine OK.seq ?_
            refine OK.regionDraw follows (.c (S.move .none rfl (.tmp rfl rfl))
              (.c (S.move .none rfl (.tmp rfl rfl))
              (.c (S.indexM si22 .none rfl (.tmp rfl rfl) (.tmp rfl rfl) rfl (by omega) rfl)
              (.c (S.field fi108_1 .none rfl (.tmp rfl rfl) rfl)
              (.c (S.load1 ti3 .none rfl (.tmp rfl rfl) rfl)
              (.c (S.move .none rfl (.tmp rfl rfl))
              (.c (S.move .none rfl (.tmp rfl rfl))
              (.c (S.indexM si22 .none rfl (.tmp rfl rfl) (.tmp rfl rfl) rfl (by omega) rfl)
              (.c (S.field fi108_2 .none rfl (.tmp rfl rfl) rfl)
              (.c (S.load1 ti3 .none rfl (.tmp rfl rfl) rfl)
              (.c (S.gtr .none rfl (.tmp rfl rfl) (.tmp rfl rfl))
              .nil))))))))))) (by kernel_rfl) ?_
            refine Ab.D.code ?_
            refine OK.condD rfl rfl (fun c50 => ?_) (fun c50 => ?_)
            ·
              refine OK.seq ?_
              refine OK.reg ?_
              refine RK.c (S.move .none rfl (.tmp rfl rfl)) ?_
              refine RK.c (S.assign .none rfl (.tmp rfl rfl)) ?_
              refine RK.c (S.assign .none rfl (.cint rfl)) ?_
              refine RK.nil ?_
              refine Ab.D.code ?_
              refine OK.ret (Ret.r2 (.tmp rfl rfl (.c (.same rfl) rfl) rfl) (.tmp rfl rfl (.c (.same rfl) rfl) rfl) ?_)
              have e : passErr l[i] = 9 := by
                rw [passErr, if_neg (by simp only [ne_eq, Decidable.not_not, ite_eq_left_iff] at *; omega), if_pos (by omega)]
              refine ret_p ?_
              rw [passChk, if_neg (by omega), hg, eachGo_drop _ (by omega), e]
              rfl
            ·
              refine OK.skip ?_
              refine Ab.D.blk ?_
              refine Ab.D.code ?_
              refine OK.reg ?_
              refine RK.c (S.move .none rfl (.tmp rfl rfl)) ?_
              refine RK.c (S.add .none rfl (.tmp rfl rfl) (.cint rfl) (IntWalk.i64_in _ (by omega)) (IntWalk.i64_in _ (by omega))) ?_
              refine RK.c (S.assign .none rfl (.tmp rfl rfl)) ?_
              refine RK.nil ?_
              refine Ab.D.lp ⟨i + 1, ⟨by omega, ?_⟩, (by omega), rfl, rfl, trivial⟩
              have e : passErr l[i] = 0 := by
                simp only [Decidable.not_not, ne_eq, ite_eq_left_iff] at *
                rw [passErr, if_neg (by omega), if_neg (by omega)]
              rw [hg, eachGo_drop _ (by omega), e]
              rfl
    ·
      refine OK.exit rfl ?_
      refine Ab.D.code ?_
      refine OK.seq ?_
      refine OK.reg ?_
      refine RK.c (S.assign .none rfl (.cint rfl)) ?_
      refine RK.c (S.assign .none rfl (.cint rfl)) ?_
      refine RK.nil ?_
      refine Ab.D.code ?_
      refine OK.ret (Ret.r2 (.tmp rfl rfl (.c (.same rfl) rfl) rfl) (.tmp rfl rfl (.c (.same rfl) rfl) rfl) ?_)
      refine ret_p ?_
      rw [passChk, if_neg (by omega), hg, show i = l.length by omega, List.drop_length]
      rfl

end Go.Proofs.Ytfjldfkgjejpmaa
