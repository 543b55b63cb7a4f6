/-
  Tests: sums of drift, the first drift. The greatest common divisor; trims.
-/
import Derived.Test.YtfjldfkgjejpmaaWg
namespace Go.Proofs.Ytfjldfkgjejpmaa
open Go.Ab

def p2 (q : Int × Int) : List X := [.int .i64 q.1, .int .i64 q.2]
def pos0 (v : Int) : Int := if 0 < v then v else 0
theorem pos0_bd (v : Int) : 0 ≤ pos0 v ∧ (pos0 v = v ∨ pos0 v = 0) := by
  unfold pos0
  split <;> omega
def sumStep (r : Rule) (s : Int × Int) (x : Int) : Int × Int := (pos0 (s.1 + x - r.target - r.slack), pos0 (s.2 + r.target - x - r.slack))
def sumsGo (r : Rule) : Int × Int → List Int → List (Int × Int)
  | _, [] => []
  | s, x :: l => sumStep r s x :: sumsGo r (sumStep r s x) l
def sumsT (r : Rule) (l : List Int) : List (Int × Int) := sumsGo r (0, 0) l
def openErr (r : Rule) (l : List Int) : Int := firstE [ruleErr r, testsErr l]
theorem sumsGo_drop {r : Rule} {s : Int × Int} {l : List Int} {i : Nat} (h : i < l.length) : sumsGo r s (l.drop i) = sumStep r s l[i] :: sumsGo r (sumStep r s l[i]) (l.drop (i + 1)) := by
  rw [List.drop_eq_getElem_cons h, sumsGo]
def driftGo (lim : Int) : Nat → List (Int × Int) → Int × Int × Int
  | _, [] => (0, 0, 12)
  | i, s :: l => if s.1 > lim then ((i : Int), 1, 0) else if s.2 > lim then ((i : Int), -1, 0) else driftGo lim (i + 1) l
theorem driftGo_drop {lim : Int} {l : List (Int × Int)} {i : Nat} (h : i < l.length) : driftGo lim i (l.drop i) = if l[i].1 > lim then ((i : Int), 1, 0) else if l[i].2 > lim then ((i : Int), -1, 0) else driftGo lim (i + 1) (l.drop (i + 1)) := by
  rw [List.drop_eq_getElem_cons h, driftGo]
def triple (p : Int × Int × Int) : X := .tup [.int .i64 p.1, .int .i64 p.2.1, .int .i64 p.2.2]
def driftT (r : Rule) (l : List Int) : Int × Int × Int := if openErr r l = 0 then driftGo r.limit 0 (sumsT r l) else (0, 0, openErr r l)
theorem ret_t {a b c : Int} {p : Int × Int × Int} (h : (a, b, c) = p) : X.tup [.int .i64 a, .int .i64 b, .int .i64 c] = triple p := by subst h; rfl
theorem openErr_eq {r : Rule} {l : List Int} {b : Bool} (hb : b = decide ((-1000000 ≤ r.target ∧ r.target ≤ 1000000) ∧ (0 ≤ r.slack ∧ r.slack ≤ 1000000) ∧ (0 ≤ r.limit ∧ r.limit ≤ 1000000))) :
    firstE [unlessE b 2, unlessE (decide ((l.length : Int) ≤ 40)) 8, unlessE (!l.any fun n => !isVal n) 2] = openErr r l := by
  subst hb
  have e : (!l.any fun x => !isVal x) = l.all isVal := by
    induction l with
    | nil => rfl
    | cons x l ih => rw [List.any_cons, List.all_cons, ← ih]; cases isVal x <;> simp
  rw [e, openErr, firstE2, firstE3, ruleErr, testsErr]
  by_cases h1 : (-1000000 ≤ r.target ∧ r.target ≤ 1000000) ∧ (0 ≤ r.slack ∧ r.slack ≤ 1000000) ∧ (0 ≤ r.limit ∧ r.limit ≤ 1000000)
  · rw [unlessE_of h1, if_pos h1]
    by_cases h2 : 40 < l.length
    · rw [unlessE_not (by omega), if_pos h2]; rfl
    · rw [unlessE_of (by omega), if_neg h2]
      simp [unlessE]
  · rw [unlessE_not h1, if_neg h1]; rfl
theorem openErr_0 {r : Rule} {l : List Int} (h : openErr r l = 0) : ruleErr r = 0 ∧ testsErr l = 0 := by
  rw [openErr, firstE2] at h
  split at h
  · contradiction
  · exact ⟨by omega, h⟩
theorem ruleErr_0 {r : Rule} (h : ruleErr r = 0) : (-1000000 ≤ r.target ∧ r.target ≤ 1000000) ∧ (0 ≤ r.slack ∧ r.slack ≤ 1000000) ∧ (0 ≤ r.limit ∧ r.limit ≤ 1000000) := by
  unfold ruleErr at h
  split at h
  · assumption
  · contradiction
theorem testsErr_0 {l : List Int} (h : testsErr l = 0) : l.length ≤ 40 ∧ ∀ (i : Nat) (hi : i < l.length), -1000000 ≤ l[i] ∧ l[i] ≤ 1000000 := by
  unfold testsErr at h
  split at h
  · contradiction
  · split at h
    · rename_i h1 h2
      refine ⟨by omega, fun i hi => ?_⟩
      exact of_decide_eq_true (List.all_eq_true.1 h2 _ (List.getElem_mem hi))
    · contradiction
theorem step_bd {r : Rule} {s : Int × Int} {x : Int} {i : Nat} (hr : ruleErr r = 0) (hx : -1000000 ≤ x ∧ x ≤ 1000000) (h : (0 ≤ s.1 ∧ s.1 ≤ 4000000 * i) ∧ (0 ≤ s.2 ∧ s.2 ≤ 4000000 * i)) :
    (0 ≤ (sumStep r s x).1 ∧ (sumStep r s x).1 ≤ 4000000 * ((i + 1 : Nat) : Int)) ∧ (0 ≤ (sumStep r s x).2 ∧ (sumStep r s x).2 ≤ 4000000 * ((i + 1 : Nat) : Int)) := by
  have h1 := ruleErr_0 hr
  have h2 := pos0_bd (s.1 + x - r.target - r.slack)
  have h3 := pos0_bd (s.2 + r.target - x - r.slack)
  simp only [sumStep]
  omega
theorem sums_len (r : Rule) : ∀ (l : List Int) (s : Int × Int), (sumsGo r s l).length = l.length
  | [], _ => rfl
  | x :: l, s => by rw [sumsGo, List.length_cons, sums_len r l, List.length_cons]

theorem mon_oddTest {n : Int} : Ct Try.prog 92 [.int .i64 n] (.bool (!isVal n)) := by
  refine Ct.intro (rs := [.tmp 2]) Try.func92 rfl Try.ntmps92 Try.results92 rfl rfl rfl fun w h => ?_
  refine OK.seq ?_
  refine OK.reg ?_
  refine RK.c (S.assign .none rfl .cbool) ?_
  refine RK.nil ?_
  refine Ab.D.code ?_
  refine OK.seq ?_
  refine OK.reg ?_
  refine RK.c (S.move .none rfl (.tmp rfl rfl)) ?_
  refine RK.c (S.call (mon_isValue) Try.call91 .none rfl (.cons (.tmp rfl rfl) .nil) rfl) ?_
  refine RK.c (S.notD .none rfl (.tmp rfl rfl)) ?_
  refine RK.c (S.assign .none rfl (.tmp rfl rfl)) ?_
  refine RK.nil ?_
  refine Ab.D.code ?_
  refine OK.ret (Ret.r1 (.tmp rfl rfl (.c (.same rfl) rfl) rfl) ?_)
  exact ret_b (by simp only [isVal, decide_not])

theorem mon_openTests {r : Rule} {l : List Int} : Ct Try.prog 66 [.agg r.cs, ints l] (.int .i64 (openErr r l)) := by
  refine Ct.intro (rs := [.tmp 4]) Try.func66 rfl Try.ntmps66 Try.results66 rfl rfl rfl fun w h => ?_
  refine OK.seq ?_
  refine OK.reg ?_
  refine RK.c (S.box (k := 2) rfl .none rfl (.tmp rfl rfl) rfl) ?_
  refine RK.c (S.assign .none rfl (.cint rfl)) ?_
  refine RK.nil ?_
  refine Ab.D.code ?_
  refine OK.seq ?_
  refine OK.reg ?_
  refine RK.c (S.bfield fi39_0 .none rfl (.tmp rfl rfl)) ?_
  refine RK.c (S.bload1 ti3 .none rfl (.tmp rfl rfl) rfl rfl rfl rfl) ?_
  refine RK.c (S.call (mon_isValue) Try.call91 .none rfl (.cons (.tmp rfl rfl) .nil) rfl) ?_
  refine RK.c (S.move .none rfl (.tmp rfl rfl)) ?_
  refine RK.splitD (t := 10) rfl (fun g10 => ?_) (fun g10 => ?_)
  ·
    refine RK.c (S.bfield fi39_1 (.yes rfl rfl rfl rfl) rfl (.tmp rfl rfl)) ?_
    refine RK.c (S.bload1 ti3 (.yes rfl rfl rfl rfl) rfl (.tmp rfl rfl) rfl rfl rfl rfl) ?_
    refine RK.c (S.call (mon_within) Try.call63 (.yes rfl rfl rfl rfl) rfl (.cons (.tmp rfl rfl) (.cons (.cint rfl) (.cons (.cint rfl) .nil))) rfl) ?_
    refine RK.c (S.pickT .none rfl (.tmp rfl rfl) (.tmp rfl rfl) rfl) ?_
    refine RK.c (S.move .none rfl (.tmp rfl rfl)) ?_
    refine RK.splitD (t := 15) rfl (fun g15 => ?_) (fun g15 => ?_)
    ·
      refine RK.c (S.bfield fi39_2 (.yes rfl rfl rfl rfl) rfl (.tmp rfl rfl)) ?_
      refine RK.c (S.bload1 ti3 (.yes rfl rfl rfl rfl) rfl (.tmp rfl rfl) rfl rfl rfl rfl) ?_
      refine RK.c (S.call (mon_within) Try.call63 (.yes rfl rfl rfl rfl) rfl (.cons (.tmp rfl rfl) (.cons (.cint rfl) (.cons (.cint rfl) .nil))) rfl) ?_
      refine RK.c (S.pickT .none rfl (.tmp rfl rfl) (.tmp rfl rfl) rfl) ?_
      refine RK.c (S.assign .none rfl (.tmp rfl rfl)) ?_
      refine RK.nil ?_
      refine Ab.D.code ?_
      refine OK.seq ?_
      refine OK.reg ?_
      refine RK.c (S.move .none rfl (.tmp rfl rfl)) ?_
      refine RK.c (S.call (containsFunc_int (l := l) (g := fun n => !isVal n) (caps := []) (fun x _ => mon_oddTest) Try.call92 ⟨rfl, rfl⟩) Try.call60 .none rfl (.cons (.tmp rfl rfl) (.cons .cfn .nil)) rfl) ?_
      refine RK.c (S.assign .none rfl (.tmp rfl rfl)) ?_
      refine RK.nil ?_
      refine Ab.D.code ?_
      refine OK.seq ?_
      refine OK.reg ?_
      refine RK.c (S.move .none rfl (.tmp rfl rfl)) ?_
      refine RK.c (S.call (monitor_unless) Try.call57 .none rfl (.cons (.tmp rfl rfl) (.cons (.cint rfl) .nil)) rfl) ?_
      refine RK.c (S.move .none rfl (.tmp rfl rfl)) ?_
      refine RK.c (S.lenM si23 .none rfl (.tmp rfl rfl)) ?_
      refine RK.c (S.leq .none rfl (.tmp rfl rfl) (.cint rfl)) ?_
      refine RK.c (S.call (monitor_unless) Try.call57 .none rfl (.cons (.tmp rfl rfl) (.cons (.cint rfl) .nil)) rfl) ?_
      refine RK.c (S.move .none rfl (.tmp rfl rfl)) ?_
      refine RK.c (S.not .none rfl (.tmp rfl rfl)) ?_
      refine RK.c (S.call (monitor_unless) Try.call57 .none rfl (.cons (.tmp rfl rfl) (.cons (.cint rfl) .nil)) rfl) ?_
      refine RK.c (S.mkSlice (k := 31) (rows := [[_], [_], [_]]) ai155 .none rfl (.cons (.tmp rfl rfl) (.cons (.tmp rfl rfl) (.cons (.tmp rfl rfl) .nil))) rfl rfl rfl rfl rfl rfl rfl) ?_
      refine RK.c (S.callL (monitor_first (l := [_, _, _])) Try.call56 .none rfl (.cons (.tmp rfl rfl) .nil) (.cons (.p (.own rfl rfl) rfl) .nil) rfl) ?_
      refine RK.c (S.assign .none rfl (.tmp rfl rfl)) ?_
      refine RK.nil ?_
      refine Ab.D.code ?_
      refine OK.ret (Ret.r1 (.tmp rfl rfl (.c (.same rfl) rfl) rfl) ?_)
      exact ret_i (openErr_eq (by simp [*]))
    ·
      refine RK.c (S.skip rfl rfl rfl rfl rfl) ?_
      refine RK.c (S.skip rfl rfl rfl rfl rfl) ?_
      refine RK.c (S.skip rfl rfl rfl rfl rfl) ?_
      refine RK.c (S.pickF .none rfl (.tmp rfl rfl) .cbool rfl) ?_
      refine RK.c (S.assign .none rfl (.tmp rfl rfl)) ?_
      refine RK.nil ?_
      refine Ab.D.code ?_
      refine OK.seq ?_
      refine OK.reg ?_
      refine RK.c (S.move .none rfl (.tmp rfl rfl)) ?_
      refine RK.c (S.call (containsFunc_int (l := l) (g := fun n => !isVal n) (caps := []) (fun x _ => mon_oddTest) Try.call92 ⟨rfl, rfl⟩) Try.call60 .none rfl (.cons (.tmp rfl rfl) (.cons .cfn .nil)) rfl) ?_
      refine RK.c (S.assign .none rfl (.tmp rfl rfl)) ?_
      refine RK.nil ?_
      refine Ab.D.code ?_
      refine OK.seq ?_
      refine OK.reg ?_
      refine RK.c (S.move .none rfl (.tmp rfl rfl)) ?_
      refine RK.c (S.call (monitor_unless) Try.call57 .none rfl (.cons (.tmp rfl rfl) (.cons (.cint rfl) .nil)) rfl) ?_
      refine RK.c (S.move .none rfl (.tmp rfl rfl)) ?_
      refine RK.c (S.lenM si23 .none rfl (.tmp rfl rfl)) ?_
      refine RK.c (S.leq .none rfl (.tmp rfl rfl) (.cint rfl)) ?_
      refine RK.c (S.call (monitor_unless) Try.call57 .none rfl (.cons (.tmp rfl rfl) (.cons (.cint rfl) .nil)) rfl) ?_
      refine RK.c (S.move .none rfl (.tmp rfl rfl)) ?_
      refine RK.c (S.not .none rfl (.tmp rfl rfl)) ?_
      refine RK.c (S.call (monitor_unless) Try.call57 .none rfl (.cons (.tmp rfl rfl) (.cons (.cint rfl) .nil)) rfl) ?_
      refine RK.c (S.mkSlice (k := 31) (rows := [[_], [_], [_]]) ai155 .none rfl (.cons (.tmp rfl rfl) (.cons (.tmp rfl rfl) (.cons (.tmp rfl rfl) .nil))) rfl rfl rfl rfl rfl rfl rfl) ?_
      refine RK.c (S.callL (monitor_first (l := [_, _, _])) Try.call56 .none rfl (.cons (.tmp rfl rfl) .nil) (.cons (.p (.own rfl rfl) rfl) .nil) rfl) ?_
      refine RK.c (S.assign .none rfl (.tmp rfl rfl)) ?_
      refine RK.nil ?_
      refine Ab.D.code ?_
      refine OK.ret (Ret.r1 (.tmp rfl rfl (.c (.same rfl) rfl) rfl) ?_)
      exact ret_i (openErr_eq (by simp [*]))
  ·
    refine RK.c (S.skip rfl rfl rfl rfl rfl) ?_
    refine RK.c (S.skip rfl rfl rfl rfl rfl) ?_
    refine RK.c (S.skip rfl rfl rfl rfl rfl) ?_
    refine RK.c (S.pickF .none rfl (.tmp rfl rfl) .cbool rfl) ?_
    refine RK.c (S.move .none rfl (.tmp rfl rfl)) ?_
    refine RK.c (S.skip rfl rfl rfl rfl rfl) ?_
    refine RK.c (S.skip rfl rfl rfl rfl rfl) ?_
    refine RK.c (S.skip rfl rfl rfl rfl rfl) ?_
    refine RK.c (S.pickF .none rfl (.tmp rfl rfl) .cbool rfl) ?_
    refine RK.c (S.assign .none rfl (.tmp rfl rfl)) ?_
    refine RK.nil ?_
    refine Ab.D.code ?_
    refine OK.seq ?_
    refine OK.reg ?_
    refine RK.c (S.move .none rfl (.tmp rfl rfl)) ?_
    refine RK.c (S.call (containsFunc_int (l := l) (g := fun n => !isVal n) (caps := []) (fun x _ => mon_oddTest) Try.call92 ⟨rfl, rfl⟩) Try.call60 .none rfl (.cons (.tmp rfl rfl) (.cons .cfn .nil)) rfl) ?_
    refine RK.c (S.assign .none rfl (.tmp rfl rfl)) ?_
    refine RK.nil ?_
    refine Ab.D.code ?_
    refine OK.seq ?_
    refine OK.reg ?_
    refine RK.c (S.move .none rfl (.tmp rfl rfl)) ?_
    refine RK.c (S.call (monitor_unless) Try.call57 .none rfl (.cons (.tmp rfl rfl) (.cons (.cint rfl) .nil)) rfl) ?_
    refine RK.c (S.move .none rfl (.tmp rfl rfl)) ?_
    refine RK.c (S.lenM si23 .none rfl (.tmp rfl rfl)) ?_
    refine RK.c (S.leq .none rfl (.tmp rfl rfl) (.cint rfl)) ?_
    refine RK.c (S.call (monitor_unless) Try.call57 .none rfl (.cons (.tmp rfl rfl) (.cons (.cint rfl) .nil)) rfl) ?_
    refine RK.c (S.move .none rfl (.tmp rfl rfl)) ?_
    refine RK.c (S.not .none rfl (.tmp rfl rfl)) ?_
    refine RK.c (S.call (monitor_unless) Try.call57 .none rfl (.cons (.tmp rfl rfl) (.cons (.cint rfl) .nil)) rfl) ?_
    refine RK.c (S.mkSlice (k := 31) (rows := [[_], [_], [_]]) ai155 .none rfl (.cons (.tmp rfl rfl) (.cons (.tmp rfl rfl) (.cons (.tmp rfl rfl) .nil))) rfl rfl rfl rfl rfl rfl rfl) ?_
    refine RK.c (S.callL (monitor_first (l := [_, _, _])) Try.call56 .none rfl (.cons (.tmp rfl rfl) .nil) (.cons (.p (.own rfl rfl) rfl) .nil) rfl) ?_
    refine RK.c (S.assign .none rfl (.tmp rfl rfl)) ?_
    refine RK.nil ?_
    refine Ab.D.code ?_
    refine OK.ret (Ret.r1 (.tmp rfl rfl (.c (.same rfl) rfl) rfl) ?_)
    exact ret_i (openErr_eq (by simp [*]))

theorem mon_sums {r : Rule} {l : List Int} (hr : ruleErr r = 0) (ht : testsErr l = 0) : Ct Try.prog 67 [.agg r.cs, ints l] (.sl ((sumsT r l).map p2)) := by
  refine Ct.intro (rs := [.tmp 4]) Try.func67 rfl Try.ntmps67 Try.results67 rfl rfl rfl fun w h => ?_
  obtain ⟨hl, hv⟩ := testsErr_0 ht
  have hrb := ruleErr_0 hr
  refine OK.seq ?_
  refine OK.reg ?_
  refine RK.c (S.box (k := 2) rfl .none rfl (.tmp rfl rfl) rfl) ?_
  refine RK.c (S.assign .none rfl .cnil) ?_
  refine RK.nil ?_
  refine Ab.D.code ?_
  refine OK.seq ?_
  refine OK.reg ?_
  refine RK.c (S.nilOwn (k := 5) (sz := 2) .none rfl) ?_
  refine RK.nil ?_
  refine Ab.D.code ?_
  refine OK.seq ?_
  refine OK.reg ?_
  refine RK.c (S.alloc (k := 6) ze124 rfl .none rfl) ?_
  refine RK.nil ?_
  refine Ab.D.code ?_
  refine OK.seq ?_
  refine OK.seq ?_
  refine OK.reg ?_
  refine RK.c (S.move .none rfl (.tmp rfl rfl)) ?_
  refine RK.c (S.lenM si23 .none rfl (.tmp rfl rfl)) ?_
  refine RK.c (S.move .none rfl (.cint rfl)) ?_
  refine RK.nil ?_
  refine Ab.D.code ?_
  refine OK.block ?_
  refine OK.loop3 [2, 5, 6] (fun (i : Nat) (s : Int × Int) (out : List (Int × Int)) => [(2, .ptr 2 0), (1002, .box r.cs), (5, .own 5 out.length), (2005, .arr 2 (out.map p2)), (6, .ptr 6 0), (1006, .box (p2 s)), (9, ints l), (10, .int .i64 l.length), (11, .int .i64 i)]) (fun i s out => i ≤ l.length ∧ out.length = i ∧ ((0 ≤ s.1 ∧ s.1 ≤ 4000000 * i) ∧ (0 ≤ s.2 ∧ s.2 ≤ 4000000 * i)) ∧ sumsT r l = out ++ sumsGo r s (l.drop i)) (fun i s out => l.length - i) (0) ((0, 0)) ([]) ⟨Nat.zero_le _, rfl, by simp, rfl⟩ ⟨rfl, rfl, (lk_own (by first | rfl | (simp; done) | (simp; omega))), (lk_arr (by first | rfl | (simp; done) | (simp; omega))), rfl, rfl, rfl, rfl, rfl, trivial⟩ (fun _ _ _ => rfl) ?_
  rintro i s out ⟨hi, ho, hs, hg⟩
  refine OK.seq ?_
  refine OK.reg ?_
  refine RK.c (S.lss .none rfl (.tmp rfl rfl) (.tmp rfl rfl)) ?_
  refine RK.nil ?_
  refine Ab.D.code ?_
  refine OK.seq ?_
  refine OK.condD rfl rfl (fun c12 => ?_) (fun c12 => ?_)
  ·
    have hvi := hv i (by omega)
    refine OK.skip ?_
    refine Ab.D.code ?_
    refine OK.seq ?_
    refine OK.block ?_
    refine OK.seq ?_
    refine OK.reg ?_
    refine RK.c (S.indexM si23 .none rfl (.tmp rfl rfl) (.tmp rfl rfl) rfl (by omega) rfl) ?_
    refine RK.c (S.load1 ti3 .none rfl (.tmp rfl rfl) rfl) ?_
    refine RK.c (S.assign .none rfl (.tmp rfl rfl)) ?_
    refine RK.nil ?_
    refine Ab.D.code ?_
    refine OK.seq ?_
    refine OK.reg ?_
    refine RK.c (S.bindex (i := 0) Try.underlying124 Try.sizeOf3 .none rfl (.tmp rfl rfl) (.cint rfl) rfl (by decide)) ?_
    refine RK.c (S.bload1 ti3 .none rfl (.tmp rfl rfl) rfl rfl rfl rfl) ?_
    refine RK.c (S.move .none rfl (.tmp rfl rfl)) ?_
    refine RK.c (S.add .none rfl (.tmp rfl rfl) (.tmp rfl rfl) (IntWalk.i64_in _ (by omega)) (IntWalk.i64_in _ (by omega))) ?_
    refine RK.c (S.bfield fi39_0 .none rfl (.tmp rfl rfl)) ?_
    refine RK.c (S.bload1 ti3 .none rfl (.tmp rfl rfl) rfl rfl rfl rfl) ?_
    refine RK.c (S.sub .none rfl (.tmp rfl rfl) (.tmp rfl rfl) (IntWalk.i64_in _ (by omega)) (IntWalk.i64_in _ (by omega))) ?_
    refine RK.c (S.bfield fi39_1 .none rfl (.tmp rfl rfl)) ?_
    refine RK.c (S.bload1 ti3 .none rfl (.tmp rfl rfl) rfl rfl rfl rfl) ?_
    refine RK.c (S.sub .none rfl (.tmp rfl rfl) (.tmp rfl rfl) (IntWalk.i64_in _ (by omega)) (IntWalk.i64_in _ (by omega))) ?_
    refine RK.c (S.max2 .none rfl (.cint rfl) (.tmp rfl rfl)) ?_
    refine RK.c (S.bindex (i := 1) Try.underlying124 Try.sizeOf3 .none rfl (.tmp rfl rfl) (.cint rfl) rfl (by decide)) ?_
    refine RK.c (S.bload1 ti3 .none rfl (.tmp rfl rfl) rfl rfl rfl rfl) ?_
    refine RK.c (S.bfield fi39_0 .none rfl (.tmp rfl rfl)) ?_
    refine RK.c (S.bload1 ti3 .none rfl (.tmp rfl rfl) rfl rfl rfl rfl) ?_
    refine RK.c (S.add .none rfl (.tmp rfl rfl) (.tmp rfl rfl) (IntWalk.i64_in _ (by omega)) (IntWalk.i64_in _ (by omega))) ?_
    refine RK.c (S.move .none rfl (.tmp rfl rfl)) ?_
    refine RK.c (S.sub .none rfl (.tmp rfl rfl) (.tmp rfl rfl) (IntWalk.i64_in _ (by omega)) (IntWalk.i64_in _ (by omega))) ?_
    refine RK.c (S.bfield fi39_1 .none rfl (.tmp rfl rfl)) ?_
    refine RK.c (S.bload1 ti3 .none rfl (.tmp rfl rfl) rfl rfl rfl rfl) ?_
    refine RK.c (S.sub .none rfl (.tmp rfl rfl) (.tmp rfl rfl) (IntWalk.i64_in _ (by omega)) (IntWalk.i64_in _ (by omega))) ?_
    refine RK.c (S.max2 .none rfl (.cint rfl) (.tmp rfl rfl)) ?_
    refine RK.c (S.build bu124 rfl .none rfl (.cons (.tmp rfl rfl) (.cons (.tmp rfl rfl) .nil)) rfl rfl) ?_
    refine RK.c (S.store ti124 .none (.tmp rfl rfl) (.tmp rfl rfl) rfl rfl rfl rfl rfl rfl) ?_
    refine RK.nil ?_
    refine Ab.D.code ?_
    refine OK.reg ?_
    refine RK.c (S.move .none rfl (.tmp rfl rfl)) ?_
    refine RK.c (S.bloadN ti124 .none rfl (.tmp rfl rfl) rfl rfl rfl rfl) ?_
    refine RK.c (S.mkSlice (k := 40) (rows := [[_, _]]) ai40 .none rfl (.cons (.tmp rfl rfl) .nil) rfl rfl rfl rfl rfl rfl rfl) ?_
    refine RK.c (S.append ai40 .none rfl (.tmp rfl rfl) rfl (by first | rfl | (simp; done) | (simp; omega)) (.tmp rfl rfl) rfl (by first | rfl | (simp; done) | (simp; omega)) (by omega) (by simp only [maxLen]; omega)) ?_
    refine RK.c (S.assign .none rfl (.tmp rfl rfl)) ?_
    refine RK.nil ?_
    refine Ab.D.blk ?_
    refine Ab.D.code ?_
    refine OK.reg ?_
    refine RK.c (S.add .none rfl (.tmp rfl rfl) (.cint rfl) (IntWalk.i64_in _ (by omega)) (IntWalk.i64_in _ (by omega))) ?_
    refine RK.c (S.move .none rfl (.tmp rfl rfl)) ?_
    refine RK.nil ?_
    refine Ab.D.lp ⟨i + 1, sumStep r s l[i], out ++ [sumStep r s l[i]], ⟨by omega, by simp [ho], step_bd hr (hv i (by omega)) hs, by rw [hg, sumsGo_drop (by omega), List.append_assoc, List.singleton_append]⟩, (by omega), rfl, rfl, (lk_own (by first | rfl | (simp; done) | (simp; omega))), (lk_arr (by rw [List.map_append]; rfl)), rfl, rfl, rfl, rfl, rfl, trivial⟩
  ·
    refine OK.exit rfl ?_
    refine Ab.D.code ?_
    refine OK.seq ?_
    refine OK.reg ?_
    refine RK.c (S.move .none rfl (.tmp rfl rfl)) ?_
    refine RK.c (S.assign .none rfl (.tmp rfl rfl)) ?_
    refine RK.nil ?_
    refine Ab.D.code ?_
    refine OK.ret (Ret.r1 (.tmp rfl rfl (.c (.own rfl rfl (by first | rfl | (simp; done) | (simp; omega))) rfl) rfl) ?_)
    rw [hg, show i = l.length by omega, List.drop_length, sumsGo, List.append_nil]

theorem mon_FirstDrift {r : Rule} {l : List Int} : Ct Try.prog 19 [.agg r.cs, ints l] (triple (driftT r l)) := by
  refine Ct.intro (rs := [.tmp 4, .tmp 5, .tmp 6]) Try.func19 rfl Try.ntmps19 Try.results19 rfl rfl rfl fun w h => ?_
  refine OK.seq ?_
  refine OK.reg ?_
  refine RK.c (S.box (k := 2) rfl .none rfl (.tmp rfl rfl) rfl) ?_
  refine RK.c (S.assign .none rfl (.cint rfl)) ?_
  refine RK.c (S.assign .none rfl (.cint rfl)) ?_
  refine RK.c (S.assign .none rfl (.cint rfl)) ?_
  refine RK.nil ?_
  refine Ab.D.code ?_
  refine OK.seq ?_
  refine OK.seq ?_
  refine OK.reg ?_
  refine RK.c (S.bloadN ti39 .none rfl (.tmp rfl rfl) rfl rfl rfl rfl) ?_
  refine RK.c (S.move .none rfl (.tmp rfl rfl)) ?_
  refine RK.c (S.call (mon_openTests) Try.call66 .none rfl (.cons (.tmp rfl rfl) (.cons (.tmp rfl rfl) .nil)) rfl) ?_
  refine RK.c (S.assign .none rfl (.tmp rfl rfl)) ?_
  refine RK.nil ?_
  refine Ab.D.code ?_
  refine OK.seq ?_
  refine OK.reg ?_
  refine RK.c (S.move .none rfl (.tmp rfl rfl)) ?_
  refine RK.c (S.neq .none rfl (.tmp rfl rfl) (.cint rfl)) ?_
  refine RK.nil ?_
  refine Ab.D.code ?_
  refine OK.condD rfl rfl (fun c14 => ?_) (fun c14 => ?_)
  ·
    refine OK.seq ?_
    refine OK.reg ?_
    refine RK.c (S.move .none rfl (.tmp rfl rfl)) ?_
    refine RK.c (S.assign .none rfl (.cint rfl)) ?_
    refine RK.c (S.assign .none rfl (.cint rfl)) ?_
    refine RK.c (S.assign .none rfl (.tmp rfl rfl)) ?_
    refine RK.nil ?_
    refine Ab.D.code ?_
    refine OK.ret (Ret.r3 (.tmp rfl rfl (.c (.same rfl) rfl) rfl) (.tmp rfl rfl (.c (.same rfl) rfl) rfl) (.tmp rfl rfl (.c (.same rfl) rfl) rfl) ?_)
    refine ret_t ?_
    rw [driftT, if_neg c14]
  ·
    have he : openErr r l = 0 := by omega
    have hl : (sumsT r l).length ≤ 40 := by rw [sumsT, sums_len]; exact (testsErr_0 (openErr_0 he).2).1
    refine OK.skip ?_
    refine Ab.D.code ?_
    refine OK.seq ?_
    refine OK.seq ?_
    refine OK.reg ?_
    refine RK.c (S.bloadN ti39 .none rfl (.tmp rfl rfl) rfl rfl rfl rfl) ?_
    refine RK.c (S.move .none rfl (.tmp rfl rfl)) ?_
    refine RK.c (S.call (mon_sums (openErr_0 (by omega)).1 (openErr_0 (by omega)).2) Try.call67 .none rfl (.cons (.tmp rfl rfl) (.cons (.tmp rfl rfl) .nil)) rfl) ?_
    refine RK.c (S.lenM si40 .none rfl (.tmp rfl rfl)) ?_
    refine RK.c (S.move .none rfl (.cint rfl)) ?_
    refine RK.nil ?_
    refine Ab.D.code ?_
    refine OK.block ?_
    refine OK.loop (G := Nat) [2] (fun i => [(2, .ptr 2 0), (1002, .box r.cs), (18, .sl ((sumsT r l).map p2)), (19, .int .i64 (sumsT r l).length), (20, .int .i64 i)]) (fun i => i ≤ (sumsT r l).length ∧ driftGo r.limit 0 (sumsT r l) = driftGo r.limit i ((sumsT r l).drop i)) (fun i => (sumsT r l).length - i) 0 ⟨Nat.zero_le _, rfl⟩ ⟨rfl, rfl, rfl, rfl, rfl, trivial⟩ (fun _ => rfl) ?_
    rintro i ⟨hi, hg⟩
    refine OK.seq ?_
    refine OK.reg ?_
    refine RK.c (S.lss .none rfl (.tmp rfl rfl) (.tmp rfl rfl)) ?_
    refine RK.nil ?_
    refine Ab.D.code ?_
    refine OK.seq ?_
    refine OK.condD rfl rfl (fun c21 => ?_) (fun c21 => ?_)
    ·
      refine OK.skip ?_
      refine Ab.D.code ?_
      refine OK.seq ?_
      refine OK.block ?_
      refine OK.seq ?_
      refine OK.reg ?_
      refine RK.c (S.move .none rfl (.tmp rfl rfl)) ?_
      refine RK.c (S.indexM si40 .none rfl (.tmp rfl rfl) (.tmp rfl rfl) rfl (by omega) rfl) ?_
      refine RK.c (S.loadN ti124 .none rfl (.tmp rfl rfl) rfl rfl) ?_
      refine RK.c (S.alloc (k := 9) ze124 rfl .none rfl) ?_
      refine RK.c (S.assign .none rfl (.tmp rfl rfl)) ?_
      refine RK.c (S.store ti124 .none (.tmp rfl rfl) (.tmp rfl rfl) rfl rfl rfl rfl rfl rfl) ?_
      refine RK.nil ?_
      refine Ab.D.code ?_
      refine OK.seq ?_
      refine OK.seq ?_
      refine OK.reg ?_
      refine RK.c (S.bindex (i := 0) Try.underlying124 Try.sizeOf3 .none rfl (.tmp rfl rfl) (.cint rfl) rfl (by decide)) ?_
      refine RK.c (S.bload1 ti3 .none rfl (.tmp rfl rfl) rfl rfl rfl rfl) ?_
      refine RK.c (S.bfield fi39_2 .none rfl (.tmp rfl rfl)) ?_
      refine RK.c (S.bload1 ti3 .none rfl (.tmp rfl rfl) rfl rfl rfl rfl) ?_
      refine RK.c (S.gtr .none rfl (.tmp rfl rfl) (.tmp rfl rfl)) ?_
      refine RK.nil ?_
      refine Ab.D.code ?_
      refine OK.condD rfl rfl (fun c29 => ?_) (fun c29 => ?_)
      ·
        refine OK.seq ?_
        refine OK.reg ?_
        refine RK.c (S.move .none rfl (.tmp rfl rfl)) ?_
        refine RK.c (S.assign .none rfl (.tmp rfl rfl)) ?_
        refine RK.c (S.assign .none rfl (.cint rfl)) ?_
        refine RK.c (S.assign .none rfl (.cint rfl)) ?_
        refine RK.nil ?_
        refine Ab.D.code ?_
        refine OK.ret (Ret.r3 (.tmp rfl rfl (.c (.same rfl) rfl) rfl) (.tmp rfl rfl (.c (.same rfl) rfl) rfl) (.tmp rfl rfl (.c (.same rfl) rfl) rfl) ?_)
        refine ret_t ?_
        rw [driftT, if_pos he, hg, driftGo_drop (by omega), if_pos c29]
      ·
        refine OK.skip ?_
        refine Ab.D.code ?_
        refine OK.seq ?_
        refine OK.reg ?_
        refine RK.c (S.bindex (i := 1) Try.underlying124 Try.sizeOf3 .none rfl (.tmp rfl rfl) (.cint rfl) rfl (by decide)) ?_
        refine RK.c (S.bload1 ti3 .none rfl (.tmp rfl rfl) rfl rfl rfl rfl) ?_
        refine RK.c (S.bfield fi39_2 .none rfl (.tmp rfl rfl)) ?_
        refine RK.c (S.bload1 ti3 .none rfl (.tmp rfl rfl) rfl rfl rfl rfl) ?_
        refine RK.c (S.gtr .none rfl (.tmp rfl rfl) (.tmp rfl rfl)) ?_
        refine RK.nil ?_
        refine Ab.D.code ?_
        refine OK.condD rfl rfl (fun c35 => ?_) (fun c35 => ?_)
        ·
          refine OK.seq ?_
          refine OK.reg ?_
          refine RK.c (S.move .none rfl (.tmp rfl rfl)) ?_
          refine RK.c (S.assign .none rfl (.tmp rfl rfl)) ?_
          refine RK.c (S.assign .none rfl (.cint rfl)) ?_
          refine RK.c (S.assign .none rfl (.cint rfl)) ?_
          refine RK.nil ?_
          refine Ab.D.code ?_
          refine OK.ret (Ret.r3 (.tmp rfl rfl (.c (.same rfl) rfl) rfl) (.tmp rfl rfl (.c (.same rfl) rfl) rfl) (.tmp rfl rfl (.c (.same rfl) rfl) rfl) ?_)
          refine ret_t ?_
          rw [driftT, if_pos he, hg, driftGo_drop (by omega), if_neg c29, if_pos c35]
        ·
          refine OK.skip ?_
          refine Ab.D.blk ?_
          refine Ab.D.code ?_
          refine OK.reg ?_
          refine RK.c (S.add .none rfl (.tmp rfl rfl) (.cint rfl) (IntWalk.i64_in _ (by omega)) (IntWalk.i64_in _ (by omega))) ?_
          refine RK.c (S.move .none rfl (.tmp rfl rfl)) ?_
          refine RK.nil ?_
          refine Ab.D.lp ⟨i + 1, ⟨by omega, ?_⟩, (by omega), rfl, rfl, rfl, rfl, rfl, trivial⟩
          rw [hg, driftGo_drop (by omega), if_neg c29, if_neg c35]
    ·
      refine OK.exit rfl ?_
      refine Ab.D.code ?_
      refine OK.seq ?_
      refine OK.reg ?_
      refine RK.c (S.assign .none rfl (.cint rfl)) ?_
      refine RK.c (S.assign .none rfl (.cint rfl)) ?_
      refine RK.c (S.assign .none rfl (.cint rfl)) ?_
      refine RK.nil ?_
      refine Ab.D.code ?_
      refine OK.ret (Ret.r3 (.tmp rfl rfl (.c (.same rfl) rfl) rfl) (.tmp rfl rfl (.c (.same rfl) rfl) rfl) (.tmp rfl rfl (.c (.same rfl) rfl) rfl) ?_)
      refine ret_t ?_
      rw [driftT, if_pos he, hg, show i = (sumsT r l).length by omega, List.drop_length, driftGo]

end Go.Proofs.Ytfjldfkgjejpmaa
