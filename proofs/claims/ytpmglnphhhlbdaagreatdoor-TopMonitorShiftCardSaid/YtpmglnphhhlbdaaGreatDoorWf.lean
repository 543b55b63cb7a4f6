import Derived.Test.YtpmglnphhhlbdaaGreatDoorSh
import Derived.Test.YtpmglnphhhlbdaaGreatDoorWe
namespace Go.Proofs.YtpmglnphhhlbdaaGreatDoor
open Go.Ab
theorem base_CopyInts {l : List Int} (hlen : l.length ≤ 100000) : Ct Tryz.prog 56 [.sl (l.map (fun n => [.int .i64 n]))] (.sl (l.map (fun n => [.int .i64 n]))) := by
 refine Ct.intro (rs := [.tmp 2]) Tryz.func56 rfl Tryz.ntmps56 Tryz.results56 rfl rfl rfl fun w h => ?_
 refine OK.seq (OK.reg ?_)
 refine RK.c (S.assign .none rfl .cnil) ?_
 refine RK.nil (Ab.D.code (OK.seq (OK.reg ?_)))
 refine RK.c (S.mkSlice (k := 3) (rows := []) ai25 .none rfl .nil rfl rfl rfl rfl rfl rfl rfl) ?_
 refine RK.c (S.move .none rfl (.tmp rfl rfl)) ?_
 refine RK.c (S.appendSl ai25 .none rfl (.tmp rfl rfl) rfl (by first | rfl | (simp; done) | (simp; omega)) (.tmp rfl rfl) (by intro q hq; obtain ⟨b, _, rfl⟩ := List.mem_map.1 hq; rfl) rfl (by simp only [List.length_map]; omega) (by simp only [maxLen, List.length_map]; omega)) ?_
 refine RK.c (S.assign .none rfl (.tmp rfl rfl)) ?_
 refine RK.nil (Ab.D.code ?_)
 refine OK.ret (Ret.r1 (.tmp rfl rfl (.c (.own rfl rfl (by first | rfl | (simp; done) | (simp; omega))) rfl) rfl) ?_)
 rfl
theorem ref_CopyPlan {p : Plan} (hlen : p.channels.length ≤ 100000) : Ct Tryz.prog 10 [.agg p.cs] (.agg p.cs) := by
 refine Ct.intro (rs := [.cell 2 24]) Tryz.func10 rfl Tryz.ntmps10 Tryz.results10 rfl rfl rfl fun w h => ?_
 refine OK.seq (OK.reg ?_)
 refine RK.c (S.box (k := 1) rfl .none rfl (.tmp rfl rfl) rfl) ?_
 refine RK.c (S.alloc (k := 2) ze24 rfl .none rfl) ?_
 refine RK.nil (Ab.D.code ?_)
 refine OK.seq ?_
 refine OK.regionDraw follows (.c (S.mkSlice (k := 3) (rows := []) ai22 .none rfl .nil rfl rfl rfl rfl rfl rfl rfl)
  (.c (S.bfield fi24_0 .none rfl (.tmp rfl rfl))
  (.c (S.bload1 ti22 .none rfl (.tmp rfl rfl) rfl rfl rfl rfl)
  (.c (S.appendSl ai22 .none rfl (.tmp rfl rfl) rfl (by first | rfl | (simp; done) | (simp; omega)) (.tmp rfl rfl) (by intro q hq; obtain ⟨b, _, rfl⟩ := List.mem_map.1 hq; rfl) rfl (by simp only [List.length_map]; omega) (by simp only [maxLen, List.length_map]; omega))
  (.c (S.bfield fi24_1 .none rfl (.tmp rfl rfl))
  (.c (S.bload1 ti3 .none rfl (.tmp rfl rfl) rfl rfl rfl rfl)
  (.c (S.build bu24 rfl .none rfl (.cons (.tmp rfl rfl) (.cons (.tmp rfl rfl) .nil)) rfl rfl)
  (.c (S.store ti24 .none (.tmp rfl rfl) (.tmp rfl rfl) rfl rfl rfl rfl rfl rfl)
  .nil)))))))) (by kernel_rfl) ?_
 refine Ab.D.code ?_
 refine OK.ret (Ret.r1 (.cellN rfl rfl rfl rfl ti24 rfl (.k (.own rfl rfl (by first | rfl | (simp; done) | (simp; omega))) (.k (.same rfl) .z))) ?_)
 rfl
end Go.Proofs.YtpmglnphhhlbdaaGreatDoor
namespace Go.Proofs.YtpmglnphhhlbdaaGreatDoor
open Go.Ab
theorem sortsI : SortsI Tryz.prog 106 := ⟨fun blk off cap zs w h1 h2 h3 => Tryz.slices_Sort_int blk off cap zs w h1 h2 h3, fun p cap w => Tryz.slices_Sort_int_none p cap w⟩
theorem sort_len (zs : List Int) : (zs.mergeSort fun x y => decide (x ≤ y)).length = zs.length := (List.mergeSort_perm zs _).length_eq
def ruleErr (r : Rule) : Int := if (-1000000 ≤ r.target ∧ r.target ≤ 1000000) ∧ (0 ≤ r.slack ∧ r.slack ≤ 1000000) ∧ (0 ≤ r.limit ∧ r.limit ≤ 1000000) then 0 else 2
def testsErr (l : List Int) : Int := if 40 < l.length then 8 else if l.all isVal = true then 0 else 2
end Go.Proofs.YtpmglnphhhlbdaaGreatDoor
namespace Go.Proofs.YtpmglnphhhlbdaaGreatDoor
open Go.Ab
def p2 (q : Int × Int) : List X := [.int .i64 q.1, .int .i64 q.2]
def pos0 (v : Int) : Int := if 0 < v then v else 0
theorem pos0_bd (v : Int) : 0 ≤ pos0 v ∧ (pos0 v = v ∨ pos0 v = 0) := by
  unfold pos0
  split <;> omega
def sumStep (r : Rule) (s : Int × Int) (x : Int) : Int × Int := (pos0 (s.1 + x - r.target - r.slack), pos0 (s.2 + r.target - x - r.slack))
def sumsGo (r : Rule) : Int × Int → List Int → List (Int × Int)
  | _, [] => []
  | s, x :: l => sumStep r s x :: sumsGo r (sumStep r s x) l
def sumsT (r : Rule) (l : List Int) : List (Int × Int) := sumsGo r (0, 0) l
def openErr (r : Rule) (l : List Int) : Int := firstE [ruleErr r, testsErr l]
theorem sumsGo_drop {r : Rule} {s : Int × Int} {l : List Int} {i : Nat} (h : i < l.length) : sumsGo r s (l.drop i) = sumStep r s l[i] :: sumsGo r (sumStep r s l[i]) (l.drop (i + 1)) := by
  rw [List.drop_eq_getElem_cons h, sumsGo]
def driftGo (lim : Int) : Nat → List (Int × Int) → Int × Int × Int
  | _, [] => (0, 0, 12)
  | i, s :: l => if s.1 > lim then ((i : Int), 1, 0) else if s.2 > lim then ((i : Int), -1, 0) else driftGo lim (i + 1) l
theorem driftGo_drop {lim : Int} {l : List (Int × Int)} {i : Nat} (h : i < l.length) : driftGo lim i (l.drop i) = if l[i].1 > lim then ((i : Int), 1, 0) else if l[i].2 > lim then ((i : Int), -1, 0) else driftGo lim (i + 1) (l.drop (i + 1)) := by
  rw [List.drop_eq_getElem_cons h, driftGo]
def triple (p : Int × Int × Int) : X := .tup [.int .i64 p.1, .int .i64 p.2.1, .int .i64 p.2.2]
def driftT (r : Rule) (l : List Int) : Int × Int × Int := if openErr r l = 0 then driftGo r.limit 0 (sumsT r l) else (0, 0, openErr r l)
theorem ret_t {a b c : Int} {p : Int × Int × Int} (h : (a, b, c) = p) : X.tup [.int .i64 a, .int .i64 b, .int .i64 c] = triple p := by subst h; rfl
theorem openErr_eq {r : Rule} {l : List Int} {b : Bool} (hb : b = decide ((-1000000 ≤ r.target ∧ r.target ≤ 1000000) ∧ (0 ≤ r.slack ∧ r.slack ≤ 1000000) ∧ (0 ≤ r.limit ∧ r.limit ≤ 1000000))) :
    firstE [unlessE b 2, unlessE (decide ((l.length : Int) ≤ 40)) 8, unlessE (!l.any fun n => !isVal n) 2] = openErr r l := by
  subst hb
  have e : (!l.any fun x => !isVal x) = l.all isVal := by
    induction l with
    | nil => rfl
    | cons x l ih => rw [List.any_cons, List.all_cons, ← ih]; cases isVal x <;> simp
  rw [e, openErr, firstE2, firstE3, ruleErr, testsErr]
  by_cases h1 : (-1000000 ≤ r.target ∧ r.target ≤ 1000000) ∧ (0 ≤ r.slack ∧ r.slack ≤ 1000000) ∧ (0 ≤ r.limit ∧ r.limit ≤ 1000000)
  · rw [unlessE_of h1, if_pos h1]
    by_cases h2 : 40 < l.length
    · rw [unlessE_not (by omega), if_pos h2]; rfl
    · rw [unlessE_of (by omega), if_neg h2]
      simp [unlessE]
  · rw [unlessE_not h1, if_neg h1]; rfl
theorem openErr_0 {r : Rule} {l : List Int} (h : openErr r l = 0) : ruleErr r = 0 ∧ testsErr l = 0 := by
  rw [openErr, firstE2] at h
  split at h
  · contradiction
  · exact ⟨by omega, h⟩
theorem ruleErr_0 {r : Rule} (h : ruleErr r = 0) : (-1000000 ≤ r.target ∧ r.target ≤ 1000000) ∧ (0 ≤ r.slack ∧ r.slack ≤ 1000000) ∧ (0 ≤ r.limit ∧ r.limit ≤ 1000000) := by
  unfold ruleErr at h
  split at h
  · assumption
  · contradiction
theorem testsErr_0 {l : List Int} (h : testsErr l = 0) : l.length ≤ 40 ∧ ∀ (i : Nat) (hi : i < l.length), -1000000 ≤ l[i] ∧ l[i] ≤ 1000000 := by
  unfold testsErr at h
  split at h
  · contradiction
  · split at h
    · rename_i h1 h2
      refine ⟨by omega, fun i hi => ?_⟩
      exact of_decide_eq_true (List.all_eq_true.1 h2 _ (List.getElem_mem hi))
    · contradiction
theorem step_bd {r : Rule} {s : Int × Int} {x : Int} {i : Nat} (hr : ruleErr r = 0) (hx : -1000000 ≤ x ∧ x ≤ 1000000) (h : (0 ≤ s.1 ∧ s.1 ≤ 4000000 * i) ∧ (0 ≤ s.2 ∧ s.2 ≤ 4000000 * i)) :
    (0 ≤ (sumStep r s x).1 ∧ (sumStep r s x).1 ≤ 4000000 * ((i + 1 : Nat) : Int)) ∧ (0 ≤ (sumStep r s x).2 ∧ (sumStep r s x).2 ≤ 4000000 * ((i + 1 : Nat) : Int)) := by
  have h1 := ruleErr_0 hr
  have h2 := pos0_bd (s.1 + x - r.target - r.slack)
  have h3 := pos0_bd (s.2 + r.target - x - r.slack)
  simp only [sumStep]
  omega
theorem sums_len (r : Rule) : ∀ (l : List Int) (s : Int × Int), (sumsGo r s l).length = l.length
  | [], _ => rfl
  | x :: l, s => by rw [sumsGo, List.length_cons, sums_len r l, List.length_cons]
theorem mon_oddTest {n : Int} : Ct Tryz.prog 143 [.int .i64 n] (.bool (!isVal n)) := by
 refine Ct.intro (rs := [.tmp 2]) Tryz.func143 rfl Tryz.ntmps143 Tryz.results143 rfl rfl rfl fun w h => ?_
 refine OK.seq (OK.reg ?_)
 refine RK.c (S.assign .none rfl .cbool) ?_
 refine RK.nil (Ab.D.code (OK.seq (OK.reg ?_)))
 refine RK.c (S.move .none rfl (.tmp rfl rfl)) ?_
 refine RK.c (S.call (mon_isValue) Tryz.call142 .none rfl (.cons (.tmp rfl rfl) .nil) rfl) ?_
 refine RK.c (S.notD .none rfl (.tmp rfl rfl)) ?_
 refine RK.c (S.assign .none rfl (.tmp rfl rfl)) ?_
 refine RK.nil (Ab.D.code ?_)
 refine OK.ret (Ret.r1 (.tmp rfl rfl (.c (.same rfl) rfl) rfl) ?_)
 exact ret_b (by simp only [isVal, decide_not])
theorem mon_openTests {r : Rule} {l : List Int} : Ct Tryz.prog 108 [.agg r.cs, ints l] (.int .i64 (openErr r l)) := by
 refine Ct.intro (rs := [.tmp 4]) Tryz.func108 rfl Tryz.ntmps108 Tryz.results108 rfl rfl rfl fun w h => ?_
 refine OK.seq (OK.reg ?_)
 refine RK.c (S.box (k := 2) rfl .none rfl (.tmp rfl rfl) rfl) ?_
 refine RK.c (S.assign .none rfl (.cint rfl)) ?_
 refine RK.nil (Ab.D.code (OK.seq (OK.reg ?_)))
 refine RK.c (S.bfield fi111_0 .none rfl (.tmp rfl rfl)) ?_
 refine RK.c (S.bload1 ti3 .none rfl (.tmp rfl rfl) rfl rfl rfl rfl) ?_
 refine RK.c (S.call (mon_isValue) Tryz.call142 .none rfl (.cons (.tmp rfl rfl) .nil) rfl) ?_
 refine RK.c (S.move .none rfl (.tmp rfl rfl)) ?_
 refine RK.splitD (t := 10) rfl (fun g10 => ?_) (fun g10 => ?_)
 ·
  refine RK.c (S.bfield fi111_1 (.yes rfl rfl rfl rfl) rfl (.tmp rfl rfl)) ?_
  refine RK.c (S.bload1 ti3 (.yes rfl rfl rfl rfl) rfl (.tmp rfl rfl) rfl rfl rfl rfl) ?_
  refine RK.c (S.call (mon_within) Tryz.call99 (.yes rfl rfl rfl rfl) rfl (.cons (.tmp rfl rfl) (.cons (.cint rfl) (.cons (.cint rfl) .nil))) rfl) ?_
  refine RK.c (S.pickT .none rfl (.tmp rfl rfl) (.tmp rfl rfl) rfl) ?_
  refine RK.c (S.move .none rfl (.tmp rfl rfl)) ?_
  refine RK.splitD (t := 15) rfl (fun g15 => ?_) (fun g15 => ?_)
  ·
   refine RK.c (S.bfield fi111_2 (.yes rfl rfl rfl rfl) rfl (.tmp rfl rfl)) ?_
   refine RK.c (S.bload1 ti3 (.yes rfl rfl rfl rfl) rfl (.tmp rfl rfl) rfl rfl rfl rfl) ?_
   refine RK.c (S.call (mon_within) Tryz.call99 (.yes rfl rfl rfl rfl) rfl (.cons (.tmp rfl rfl) (.cons (.cint rfl) (.cons (.cint rfl) .nil))) rfl) ?_
   refine RK.c (S.pickT .none rfl (.tmp rfl rfl) (.tmp rfl rfl) rfl) ?_
   refine RK.c (S.assign .none rfl (.tmp rfl rfl)) ?_
   refine RK.nil (Ab.D.code (OK.seq (OK.reg ?_)))
   refine RK.c (S.move .none rfl (.tmp rfl rfl)) ?_
   refine RK.c (S.call (containsFunc_int (l := l) (g := fun n => !isVal n) (caps := []) (fun x _ => mon_oddTest) Tryz.call143 ⟨rfl, rfl⟩) Tryz.call102 .none rfl (.cons (.tmp rfl rfl) (.cons .cfn .nil)) rfl) ?_
   refine RK.c (S.assign .none rfl (.tmp rfl rfl)) ?_
   refine RK.nil (Ab.D.code (OK.seq (OK.reg ?_)))
   refine RK.c (S.move .none rfl (.tmp rfl rfl)) ?_
   refine RK.c (S.call (monitor_unless) Tryz.call84 .none rfl (.cons (.tmp rfl rfl) (.cons (.cint rfl) .nil)) rfl) ?_
   refine RK.c (S.move .none rfl (.tmp rfl rfl)) ?_
   refine RK.c (S.lenM si25 .none rfl (.tmp rfl rfl)) ?_
   refine RK.c (S.leq .none rfl (.tmp rfl rfl) (.cint rfl)) ?_
   refine RK.c (S.call (monitor_unless) Tryz.call84 .none rfl (.cons (.tmp rfl rfl) (.cons (.cint rfl) .nil)) rfl) ?_
   refine RK.c (S.move .none rfl (.tmp rfl rfl)) ?_
   refine RK.c (S.not .none rfl (.tmp rfl rfl)) ?_
   refine RK.c (S.call (monitor_unless) Tryz.call84 .none rfl (.cons (.tmp rfl rfl) (.cons (.cint rfl) .nil)) rfl) ?_
   refine RK.c (S.mkSlice (k := 31) (rows := [[_], [_], [_]]) ai209 .none rfl (.cons (.tmp rfl rfl) (.cons (.tmp rfl rfl) (.cons (.tmp rfl rfl) .nil))) rfl rfl rfl rfl rfl rfl rfl) ?_
   refine RK.c (S.callL (monitor_first (l := [_, _, _])) Tryz.call83 .none rfl (.cons (.tmp rfl rfl) .nil) (.cons (.p (.own rfl rfl) rfl) .nil) rfl) ?_
   refine RK.c (S.assign .none rfl (.tmp rfl rfl)) ?_
   refine RK.nil (Ab.D.code ?_)
   refine OK.ret (Ret.r1 (.tmp rfl rfl (.c (.same rfl) rfl) rfl) ?_)
   exact ret_i (openErr_eq (by simp [*]))
  ·
   refine RK.c (S.skip rfl rfl rfl rfl rfl) ?_
   refine RK.c (S.skip rfl rfl rfl rfl rfl) ?_
   refine RK.c (S.skip rfl rfl rfl rfl rfl) ?_
   refine RK.c (S.pickF .none rfl (.tmp rfl rfl) .cbool rfl) ?_
   refine RK.c (S.assign .none rfl (.tmp rfl rfl)) ?_
   refine RK.nil (Ab.D.code (OK.seq (OK.reg ?_)))
   refine RK.c (S.move .none rfl (.tmp rfl rfl)) ?_
   refine RK.c (S.call (containsFunc_int (l := l) (g := fun n => !isVal n) (caps := []) (fun x _ => mon_oddTest) Tryz.call143 ⟨rfl, rfl⟩) Tryz.call102 .none rfl (.cons (.tmp rfl rfl) (.cons .cfn .nil)) rfl) ?_
   refine RK.c (S.assign .none rfl (.tmp rfl rfl)) ?_
   refine RK.nil (Ab.D.code (OK.seq (OK.reg ?_)))
   refine RK.c (S.move .none rfl (.tmp rfl rfl)) ?_
   refine RK.c (S.call (monitor_unless) Tryz.call84 .none rfl (.cons (.tmp rfl rfl) (.cons (.cint rfl) .nil)) rfl) ?_
   refine RK.c (S.move .none rfl (.tmp rfl rfl)) ?_
   refine RK.c (S.lenM si25 .none rfl (.tmp rfl rfl)) ?_
   refine RK.c (S.leq .none rfl (.tmp rfl rfl) (.cint rfl)) ?_
   refine RK.c (S.call (monitor_unless) Tryz.call84 .none rfl (.cons (.tmp rfl rfl) (.cons (.cint rfl) .nil)) rfl) ?_
   refine RK.c (S.move .none rfl (.tmp rfl rfl)) ?_
   refine RK.c (S.not .none rfl (.tmp rfl rfl)) ?_
   refine RK.c (S.call (monitor_unless) Tryz.call84 .none rfl (.cons (.tmp rfl rfl) (.cons (.cint rfl) .nil)) rfl) ?_
   refine RK.c (S.mkSlice (k := 31) (rows := [[_], [_], [_]]) ai209 .none rfl (.cons (.tmp rfl rfl) (.cons (.tmp rfl rfl) (.cons (.tmp rfl rfl) .nil))) rfl rfl rfl rfl rfl rfl rfl) ?_
   refine RK.c (S.callL (monitor_first (l := [_, _, _])) Tryz.call83 .none rfl (.cons (.tmp rfl rfl) .nil) (.cons (.p (.own rfl rfl) rfl) .nil) rfl) ?_
   refine RK.c (S.assign .none rfl (.tmp rfl rfl)) ?_
   refine RK.nil (Ab.D.code ?_)
   refine OK.ret (Ret.r1 (.tmp rfl rfl (.c (.same rfl) rfl) rfl) ?_)
   exact ret_i (openErr_eq (by simp [*]))
 ·
  refine RK.c (S.skip rfl rfl rfl rfl rfl) ?_
  refine RK.c (S.skip rfl rfl rfl rfl rfl) ?_
  refine RK.c (S.skip rfl rfl rfl rfl rfl) ?_
  refine RK.c (S.pickF .none rfl (.tmp rfl rfl) .cbool rfl) ?_
  refine RK.c (S.move .none rfl (.tmp rfl rfl)) ?_
  refine RK.c (S.skip rfl rfl rfl rfl rfl) ?_
  refine RK.c (S.skip rfl rfl rfl rfl rfl) ?_
  refine RK.c (S.skip rfl rfl rfl rfl rfl) ?_
  refine RK.c (S.pickF .none rfl (.tmp rfl rfl) .cbool rfl) ?_
  refine RK.c (S.assign .none rfl (.tmp rfl rfl)) ?_
  refine RK.nil (Ab.D.code (OK.seq (OK.reg ?_)))
  refine RK.c (S.move .none rfl (.tmp rfl rfl)) ?_
  refine RK.c (S.call (containsFunc_int (l := l) (g := fun n => !isVal n) (caps := []) (fun x _ => mon_oddTest) Tryz.call143 ⟨rfl, rfl⟩) Tryz.call102 .none rfl (.cons (.tmp rfl rfl) (.cons .cfn .nil)) rfl) ?_
  refine RK.c (S.assign .none rfl (.tmp rfl rfl)) ?_
  refine RK.nil (Ab.D.code (OK.seq (OK.reg ?_)))
  refine RK.c (S.move .none rfl (.tmp rfl rfl)) ?_
  refine RK.c (S.call (monitor_unless) Tryz.call84 .none rfl (.cons (.tmp rfl rfl) (.cons (.cint rfl) .nil)) rfl) ?_
  refine RK.c (S.move .none rfl (.tmp rfl rfl)) ?_
  refine RK.c (S.lenM si25 .none rfl (.tmp rfl rfl)) ?_
  refine RK.c (S.leq .none rfl (.tmp rfl rfl) (.cint rfl)) ?_
  refine RK.c (S.call (monitor_unless) Tryz.call84 .none rfl (.cons (.tmp rfl rfl) (.cons (.cint rfl) .nil)) rfl) ?_
  refine RK.c (S.move .none rfl (.tmp rfl rfl)) ?_
  refine RK.c (S.not .none rfl (.tmp rfl rfl)) ?_
  refine RK.c (S.call (monitor_unless) Tryz.call84 .none rfl (.cons (.tmp rfl rfl) (.cons (.cint rfl) .nil)) rfl) ?_
  refine RK.c (S.mkSlice (k := 31) (rows := [[_], [_], [_]]) ai209 .none rfl (.cons (.tmp rfl rfl) (.cons (.tmp rfl rfl) (.cons (.tmp rfl rfl) .nil))) rfl rfl rfl rfl rfl rfl rfl) ?_
  refine RK.c (S.callL (monitor_first (l := [_, _, _])) Tryz.call83 .none rfl (.cons (.tmp rfl rfl) .nil) (.cons (.p (.own rfl rfl) rfl) .nil) rfl) ?_
  refine RK.c (S.assign .none rfl (.tmp rfl rfl)) ?_
  refine RK.nil (Ab.D.code ?_)
  refine OK.ret (Ret.r1 (.tmp rfl rfl (.c (.same rfl) rfl) rfl) ?_)
  exact ret_i (openErr_eq (by simp [*]))
theorem mon_sums {r : Rule} {l : List Int} (hr : ruleErr r = 0) (ht : testsErr l = 0) : Ct Tryz.prog 109 [.agg r.cs, ints l] (.sl ((sumsT r l).map p2)) := by
 refine Ct.intro (rs := [.tmp 4]) Tryz.func109 rfl Tryz.ntmps109 Tryz.results109 rfl rfl rfl fun w h => ?_
 obtain ⟨hl, hv⟩ := testsErr_0 ht
 have hrb := ruleErr_0 hr
 refine OK.seq (OK.reg ?_)
 refine RK.c (S.box (k := 2) rfl .none rfl (.tmp rfl rfl) rfl) ?_
 refine RK.c (S.assign .none rfl .cnil) ?_
 refine RK.nil (Ab.D.code (OK.seq (OK.reg ?_)))
 refine RK.c (S.nilOwn (k := 5) (sz := 2) .none rfl) ?_
 refine RK.nil (Ab.D.code (OK.seq (OK.reg ?_)))
 refine RK.c (S.alloc (k := 6) ze186 rfl .none rfl) ?_
 refine RK.nil (Ab.D.code (OK.seq (OK.seq (OK.reg ?_))))
 refine RK.c (S.move .none rfl (.tmp rfl rfl)) ?_
 refine RK.c (S.lenM si25 .none rfl (.tmp rfl rfl)) ?_
 refine RK.c (S.move .none rfl (.cint rfl)) ?_
 refine RK.nil (Ab.D.code ?_)
 refine OK.block ?_
 refine OK.loop3 [2, 5, 6] (fun (i : Nat) (s : Int × Int) (out : List (Int × Int)) => [(2, .ptr 2 0), (1002, .box r.cs), (5, .own 5 out.length), (2005, .arr 2 (out.map p2)), (6, .ptr 6 0), (1006, .box (p2 s)), (9, ints l), (10, .int .i64 l.length), (11, .int .i64 i)]) (fun i s out => i ≤ l.length ∧ out.length = i ∧ ((0 ≤ s.1 ∧ s.1 ≤ 4000000 * i) ∧ (0 ≤ s.2 ∧ s.2 ≤ 4000000 * i)) ∧ sumsT r l = out ++ sumsGo r s (l.drop i)) (fun i s out => l.length - i) (0) ((0, 0)) ([]) ⟨Nat.zero_le _, rfl, by simp, rfl⟩ ⟨rfl, rfl, (lk_own (by first | rfl | (simp; done) | (simp; omega))), (lk_arr (by first | rfl | (simp; done) | (simp; omega))), rfl, rfl, rfl, rfl, rfl, trivial⟩ (fun _ _ _ => rfl) ?_
 rintro i s out ⟨hi, ho, hs, hg⟩
 refine OK.seq (OK.reg ?_)
 refine RK.c (S.lss .none rfl (.tmp rfl rfl) (.tmp rfl rfl)) ?_
 refine RK.nil (Ab.D.code ?_)
 refine OK.seq ?_
 refine OK.condD rfl rfl (fun c12 => ?_) (fun c12 => ?_)
 ·
  have hvi := hv i (by omega)
  refine OK.skip ?_
  refine Ab.D.code ?_
  refine OK.seq ?_
  refine OK.block ?_
  refine OK.seq (OK.reg ?_)
  refine RK.c (S.indexM si25 .none rfl (.tmp rfl rfl) (.tmp rfl rfl) rfl (by omega) rfl) ?_
  refine RK.c (S.load1 ti3 .none rfl (.tmp rfl rfl) rfl) ?_
  refine RK.c (S.assign .none rfl (.tmp rfl rfl)) ?_
  refine RK.nil (Ab.D.code (OK.seq (OK.reg ?_)))
  refine RK.c (S.bindex (i := 0) Tryz.underlying186 Tryz.sizeOf3 .none rfl (.tmp rfl rfl) (.cint rfl) rfl (by decide)) ?_
  refine RK.c (S.bload1 ti3 .none rfl (.tmp rfl rfl) rfl rfl rfl rfl) ?_
  refine RK.c (S.move .none rfl (.tmp rfl rfl)) ?_
  refine RK.c (S.add .none rfl (.tmp rfl rfl) (.tmp rfl rfl) (IntWalk.i64_in _ (by omega)) (IntWalk.i64_in _ (by omega))) ?_
  refine RK.c (S.bfield fi111_0 .none rfl (.tmp rfl rfl)) ?_
  refine RK.c (S.bload1 ti3 .none rfl (.tmp rfl rfl) rfl rfl rfl rfl) ?_
  refine RK.c (S.sub .none rfl (.tmp rfl rfl) (.tmp rfl rfl) (IntWalk.i64_in _ (by omega)) (IntWalk.i64_in _ (by omega))) ?_
  refine RK.c (S.bfield fi111_1 .none rfl (.tmp rfl rfl)) ?_
  refine RK.c (S.bload1 ti3 .none rfl (.tmp rfl rfl) rfl rfl rfl rfl) ?_
  refine RK.c (S.sub .none rfl (.tmp rfl rfl) (.tmp rfl rfl) (IntWalk.i64_in _ (by omega)) (IntWalk.i64_in _ (by omega))) ?_
  refine RK.c (S.max2 .none rfl (.cint rfl) (.tmp rfl rfl)) ?_
  refine RK.c (S.bindex (i := 1) Tryz.underlying186 Tryz.sizeOf3 .none rfl (.tmp rfl rfl) (.cint rfl) rfl (by decide)) ?_
  refine RK.c (S.bload1 ti3 .none rfl (.tmp rfl rfl) rfl rfl rfl rfl) ?_
  refine RK.c (S.bfield fi111_0 .none rfl (.tmp rfl rfl)) ?_
  refine RK.c (S.bload1 ti3 .none rfl (.tmp rfl rfl) rfl rfl rfl rfl) ?_
  refine RK.c (S.add .none rfl (.tmp rfl rfl) (.tmp rfl rfl) (IntWalk.i64_in _ (by omega)) (IntWalk.i64_in _ (by omega))) ?_
  refine RK.c (S.move .none rfl (.tmp rfl rfl)) ?_
  refine RK.c (S.sub .none rfl (.tmp rfl rfl) (.tmp rfl rfl) (IntWalk.i64_in _ (by omega)) (IntWalk.i64_in _ (by omega))) ?_
  refine RK.c (S.bfield fi111_1 .none rfl (.tmp rfl rfl)) ?_
  refine RK.c (S.bload1 ti3 .none rfl (.tmp rfl rfl) rfl rfl rfl rfl) ?_
  refine RK.c (S.sub .none rfl (.tmp rfl rfl) (.tmp rfl rfl) (IntWalk.i64_in _ (by omega)) (IntWalk.i64_in _ (by omega))) ?_
  refine RK.c (S.max2 .none rfl (.cint rfl) (.tmp rfl rfl)) ?_
  refine RK.c (S.build bu186 rfl .none rfl (.cons (.tmp rfl rfl) (.cons (.tmp rfl rfl) .nil)) rfl rfl) ?_
  refine RK.c (S.store ti186 .none (.tmp rfl rfl) (.tmp rfl rfl) rfl rfl rfl rfl rfl rfl) ?_
  refine RK.nil (Ab.D.code (OK.reg ?_))
  refine RK.c (S.move .none rfl (.tmp rfl rfl)) ?_
  refine RK.c (S.bloadN ti186 .none rfl (.tmp rfl rfl) rfl rfl rfl rfl) ?_
  refine RK.c (S.mkSlice (k := 40) (rows := [[_, _]]) ai184 .none rfl (.cons (.tmp rfl rfl) .nil) rfl rfl rfl rfl rfl rfl rfl) ?_
  refine RK.c (S.append ai184 .none rfl (.tmp rfl rfl) rfl (by first | rfl | (simp; done) | (simp; omega)) (.tmp rfl rfl) rfl (by first | rfl | (simp; done) | (simp; omega)) (by omega) (by simp only [maxLen]; omega)) ?_
  refine RK.c (S.assign .none rfl (.tmp rfl rfl)) ?_
  refine RK.nil ?_
  refine Ab.D.blk ?_
  refine Ab.D.code (OK.reg ?_)
  refine RK.c (S.add .none rfl (.tmp rfl rfl) (.cint rfl) (IntWalk.i64_in _ (by omega)) (IntWalk.i64_in _ (by omega))) ?_
  refine RK.c (S.move .none rfl (.tmp rfl rfl)) ?_
  refine RK.nil ?_
  refine Ab.D.lp ⟨i + 1, sumStep r s l[i], out ++ [sumStep r s l[i]], ⟨by omega, by simp [ho], step_bd hr (hv i (by omega)) hs, by rw [hg, sumsGo_drop (by omega), List.append_assoc, List.singleton_append]⟩, (by omega), rfl, rfl, (lk_own (by first | rfl | (simp; done) | (simp; omega))), (lk_arr (by rw [List.map_append]; rfl)), rfl, rfl, rfl, rfl, rfl, trivial⟩
 ·
  refine OK.exit rfl ?_
  refine Ab.D.code (OK.seq (OK.reg ?_))
  refine RK.c (S.move .none rfl (.tmp rfl rfl)) ?_
  refine RK.c (S.assign .none rfl (.tmp rfl rfl)) ?_
  refine RK.nil (Ab.D.code ?_)
  refine OK.ret (Ret.r1 (.tmp rfl rfl (.c (.own rfl rfl (by first | rfl | (simp; done) | (simp; omega))) rfl) rfl) ?_)
  rw [hg, show i = l.length by omega, List.drop_length, sumsGo, List.append_nil]
theorem mon_FirstDrift {r : Rule} {l : List Int} : Ct Tryz.prog 50 [.agg r.cs, ints l] (triple (driftT r l)) := by
 refine Ct.intro (rs := [.tmp 4, .tmp 5, .tmp 6]) Tryz.func50 rfl Tryz.ntmps50 Tryz.results50 rfl rfl rfl fun w h => ?_
 refine OK.seq (OK.reg ?_)
 refine RK.c (S.box (k := 2) rfl .none rfl (.tmp rfl rfl) rfl) ?_
 refine RK.c (S.assign .none rfl (.cint rfl)) ?_
 refine RK.c (S.assign .none rfl (.cint rfl)) ?_
 refine RK.c (S.assign .none rfl (.cint rfl)) ?_
 refine RK.nil (Ab.D.code (OK.seq (OK.seq (OK.reg ?_))))
 refine RK.c (S.bloadN ti111 .none rfl (.tmp rfl rfl) rfl rfl rfl rfl) ?_
 refine RK.c (S.move .none rfl (.tmp rfl rfl)) ?_
 refine RK.c (S.call (mon_openTests) Tryz.call108 .none rfl (.cons (.tmp rfl rfl) (.cons (.tmp rfl rfl) .nil)) rfl) ?_
 refine RK.c (S.assign .none rfl (.tmp rfl rfl)) ?_
 refine RK.nil (Ab.D.code (OK.seq (OK.reg ?_)))
 refine RK.c (S.move .none rfl (.tmp rfl rfl)) ?_
 refine RK.c (S.neq .none rfl (.tmp rfl rfl) (.cint rfl)) ?_
 refine RK.nil (Ab.D.code ?_)
 refine OK.condD rfl rfl (fun c14 => ?_) (fun c14 => ?_)
 ·
  refine OK.seq (OK.reg ?_)
  refine RK.c (S.move .none rfl (.tmp rfl rfl)) ?_
  refine RK.c (S.assign .none rfl (.cint rfl)) ?_
  refine RK.c (S.assign .none rfl (.cint rfl)) ?_
  refine RK.c (S.assign .none rfl (.tmp rfl rfl)) ?_
  refine RK.nil (Ab.D.code ?_)
  refine OK.ret (Ret.r3 (.tmp rfl rfl (.c (.same rfl) rfl) rfl) (.tmp rfl rfl (.c (.same rfl) rfl) rfl) (.tmp rfl rfl (.c (.same rfl) rfl) rfl) ?_)
  refine ret_t ?_
  rw [driftT, if_neg c14]
 ·
  have he : openErr r l = 0 := by omega
  have hl : (sumsT r l).length ≤ 40 := by rw [sumsT, sums_len]; exact (testsErr_0 (openErr_0 he).2).1
  refine OK.skip ?_
  refine Ab.D.code (OK.seq (OK.seq (OK.reg ?_)))
  refine RK.c (S.bloadN ti111 .none rfl (.tmp rfl rfl) rfl rfl rfl rfl) ?_
  refine RK.c (S.move .none rfl (.tmp rfl rfl)) ?_
  refine RK.c (S.call (mon_sums (openErr_0 (by omega)).1 (openErr_0 (by omega)).2) Tryz.call109 .none rfl (.cons (.tmp rfl rfl) (.cons (.tmp rfl rfl) .nil)) rfl) ?_
  refine RK.c (S.lenM si184 .none rfl (.tmp rfl rfl)) ?_
  refine RK.c (S.move .none rfl (.cint rfl)) ?_
  refine RK.nil (Ab.D.code ?_)
  refine OK.block ?_
  refine OK.loop (G := Nat) [2] (fun i => [(2, .ptr 2 0), (1002, .box r.cs), (18, .sl ((sumsT r l).map p2)), (19, .int .i64 (sumsT r l).length), (20, .int .i64 i)]) (fun i => i ≤ (sumsT r l).length ∧ driftGo r.limit 0 (sumsT r l) = driftGo r.limit i ((sumsT r l).drop i)) (fun i => (sumsT r l).length - i) 0 ⟨Nat.zero_le _, rfl⟩ ⟨rfl, rfl, rfl, rfl, rfl, trivial⟩ (fun _ => rfl) ?_
  rintro i ⟨hi, hg⟩
  refine OK.seq (OK.reg ?_)
  refine RK.c (S.lss .none rfl (.tmp rfl rfl) (.tmp rfl rfl)) ?_
  refine RK.nil (Ab.D.code ?_)
  refine OK.seq ?_
  refine OK.condD rfl rfl (fun c21 => ?_) (fun c21 => ?_)
  ·
   refine OK.skip ?_
   refine Ab.D.code ?_
   refine OK.seq ?_
   refine OK.block ?_
   refine OK.seq (OK.reg ?_)
   refine RK.c (S.move .none rfl (.tmp rfl rfl)) ?_
   refine RK.c (S.indexM si184 .none rfl (.tmp rfl rfl) (.tmp rfl rfl) rfl (by omega) rfl) ?_
   refine RK.c (S.loadN ti186 .none rfl (.tmp rfl rfl) rfl rfl) ?_
   refine RK.c (S.alloc (k := 9) ze186 rfl .none rfl) ?_
   refine RK.c (S.assign .none rfl (.tmp rfl rfl)) ?_
   refine RK.c (S.store ti186 .none (.tmp rfl rfl) (.tmp rfl rfl) rfl rfl rfl rfl rfl rfl) ?_
   refine RK.nil (Ab.D.code (OK.seq (OK.seq (OK.reg ?_))))
   refine RK.c (S.bindex (i := 0) Tryz.underlying186 Tryz.sizeOf3 .none rfl (.tmp rfl rfl) (.cint rfl) rfl (by decide)) ?_
   refine RK.c (S.bload1 ti3 .none rfl (.tmp rfl rfl) rfl rfl rfl rfl) ?_
   refine RK.c (S.bfield fi111_2 .none rfl (.tmp rfl rfl)) ?_
   refine RK.c (S.bload1 ti3 .none rfl (.tmp rfl rfl) rfl rfl rfl rfl) ?_
   refine RK.c (S.gtr .none rfl (.tmp rfl rfl) (.tmp rfl rfl)) ?_
   refine RK.nil (Ab.D.code ?_)
   refine OK.condD rfl rfl (fun c29 => ?_) (fun c29 => ?_)
   ·
    refine OK.seq (OK.reg ?_)
    refine RK.c (S.move .none rfl (.tmp rfl rfl)) ?_
    refine RK.c (S.assign .none rfl (.tmp rfl rfl)) ?_
    refine RK.c (S.assign .none rfl (.cint rfl)) ?_
    refine RK.c (S.assign .none rfl (.cint rfl)) ?_
    refine RK.nil (Ab.D.code ?_)
    refine OK.ret (Ret.r3 (.tmp rfl rfl (.c (.same rfl) rfl) rfl) (.tmp rfl rfl (.c (.same rfl) rfl) rfl) (.tmp rfl rfl (.c (.same rfl) rfl) rfl) ?_)
    refine ret_t ?_
    rw [driftT, if_pos he, hg, driftGo_drop (by omega), if_pos c29]
   ·
    refine OK.skip ?_
    refine Ab.D.code (OK.seq (OK.reg ?_))
    refine RK.c (S.bindex (i := 1) Tryz.underlying186 Tryz.sizeOf3 .none rfl (.tmp rfl rfl) (.cint rfl) rfl (by decide)) ?_
    refine RK.c (S.bload1 ti3 .none rfl (.tmp rfl rfl) rfl rfl rfl rfl) ?_
    refine RK.c (S.bfield fi111_2 .none rfl (.tmp rfl rfl)) ?_
    refine RK.c (S.bload1 ti3 .none rfl (.tmp rfl rfl) rfl rfl rfl rfl) ?_
    refine RK.c (S.gtr .none rfl (.tmp rfl rfl) (.tmp rfl rfl)) ?_
    refine RK.nil (Ab.D.code ?_)
    refine OK.condD rfl rfl (fun c35 => ?_) (fun c35 => ?_)
    ·
     refine OK.seq (OK.reg ?_)
     refine RK.c (S.move .none rfl (.tmp rfl rfl)) ?_
     refine RK.c (S.assign .none rfl (.tmp rfl rfl)) ?_
     refine RK.c (S.assign .none rfl (.cint rfl)) ?_
     refine RK.c (S.assign .none rfl (.cint rfl)) ?_
     refine RK.nil (Ab.D.code ?_)
     refine OK.ret (Ret.r3 (.tmp rfl rfl (.c (.same rfl) rfl) rfl) (.tmp rfl rfl (.c (.same rfl) rfl) rfl) (.tmp rfl rfl (.c (.same rfl) rfl) rfl) ?_)
     refine ret_t ?_
     rw [driftT, if_pos he, hg, driftGo_drop (by omega), if_neg c29, if_pos c35]
    ·
     refine OK.skip ?_
     refine Ab.D.blk ?_
     refine Ab.D.code (OK.reg ?_)
     refine RK.c (S.add .none rfl (.tmp rfl rfl) (.cint rfl) (IntWalk.i64_in _ (by omega)) (IntWalk.i64_in _ (by omega))) ?_
     refine RK.c (S.move .none rfl (.tmp rfl rfl)) ?_
     refine RK.nil ?_
     refine Ab.D.lp ⟨i + 1, ⟨by omega, ?_⟩, (by omega), rfl, rfl, rfl, rfl, rfl, trivial⟩
     rw [hg, driftGo_drop (by omega), if_neg c29, if_neg c35]
  ·
   refine OK.exit rfl ?_
   refine Ab.D.code (OK.seq (OK.reg ?_))
   refine RK.c (S.assign .none rfl (.cint rfl)) ?_
   refine RK.c (S.assign .none rfl (.cint rfl)) ?_
   refine RK.c (S.assign .none rfl (.cint rfl)) ?_
   refine RK.nil (Ab.D.code ?_)
   refine OK.ret (Ret.r3 (.tmp rfl rfl (.c (.same rfl) rfl) rfl) (.tmp rfl rfl (.c (.same rfl) rfl) rfl) (.tmp rfl rfl (.c (.same rfl) rfl) rfl) ?_)
   refine ret_t ?_
   rw [driftT, if_pos he, hg, show i = (sumsT r l).length by omega, List.drop_length, driftGo]
end Go.Proofs.YtpmglnphhhlbdaaGreatDoor
namespace Go.Proofs.YtpmglnphhhlbdaaGreatDoor
open Go.Ab
def trimErr (t n : Int) : Int := if 0 ≤ t ∧ t ≤ (n - 1).tdiv 2 then 0 else 2
theorem tdiv2_bd {n : Int} (hn : -1000000000000 ≤ n ∧ n ≤ 1000000000000) : -9223372036854775808 ≤ (n - 1).tdiv 2 ∧ (n - 1).tdiv 2 ≤ 9223372036854775807 := by
  by_cases h : 0 ≤ n - 1
  · have := Int.tdiv_eq_ediv_of_nonneg (b := 2) h
    omega
  · have h1 := Int.neg_tdiv (n - 1) 2
    have h2 := Int.tdiv_eq_ediv_of_nonneg (a := -(n - 1)) (b := 2) (by omega)
    omega
def recsErr1 (p : Plan) (r : Record) : Int := if (recChk p r).2 ≠ 0 then (recChk p r).2 else if (lostT r).length = 0 then 0 else 14
def recsErr (p : Plan) (l : List Record) : Int := if l.length = 0 then 10 else if 20 < l.length then 8 else (eachGo (fun _ r => recsErr1 p r) 0 l).2
def openRecs (p : Plan) (l : List Record) : Int := if planErr p ≠ 0 then planErr p else recsErr p l
theorem recChk_len {p : Plan} {r : Record} (h : (recChk p r).2 = 0) : (r.rows.length : Int) = p.ticks := by
  unfold recChk at h
  split at h
  · contradiction
  · omega
theorem planErr_0 {p : Plan} (h : planErr p = 0) : 1 ≤ p.channels.length ∧ p.channels.length ≤ 4 ∧ 1 ≤ p.ticks ∧ p.ticks ≤ 12 ∧ (eachGo (chanErr p.channels) 0 p.channels).2 = 0 := by
  unfold planErr planChk at h
  split at h
  · contradiction
  · split at h
    · contradiction
    · split at h
      · contradiction
      · rename_i h3
        by_cases h4 : 1 ≤ p.ticks ∧ p.ticks ≤ 12
        · refine ⟨by omega, by omega, h4.1, h4.2, ?_⟩
          simpa using h3
        · rw [if_neg h4] at h; contradiction
theorem trimErr_0 {t n : Int} (hn : 1 ≤ n) (h : trimErr t n = 0) : 0 ≤ t ∧ 2 * t ≤ n - 1 := by
  unfold trimErr at h
  split at h
  · have := Int.tdiv_eq_ediv_of_nonneg (a := n - 1) (b := 2) (by omega)
    omega
  · contradiction
theorem mon_trimErr {t n : Int} (hn : -1000000000000 ≤ n ∧ n ≤ 1000000000000) : Ct Tryz.prog 80 [.int .i64 t, .int .i64 n] (.int .i64 (trimErr t n)) := by
 refine Ct.intro (rs := [.tmp 4]) Tryz.func80 rfl Tryz.ntmps80 Tryz.results80 rfl rfl rfl fun w h => ?_
 refine OK.seq (OK.reg ?_)
 refine RK.c (S.assign .none rfl (.cint rfl)) ?_
 refine RK.nil (Ab.D.code (OK.seq (OK.reg ?_)))
 refine RK.c (S.move .none rfl (.tmp rfl rfl)) ?_
 refine RK.c (S.move .none rfl (.tmp rfl rfl)) ?_
 refine RK.c (S.sub .none rfl (.tmp rfl rfl) (.cint rfl) (IntWalk.i64_in _ (by omega)) (IntWalk.i64_in _ (by omega))) ?_
 refine RK.c (S.quo .none rfl (.tmp rfl rfl) (.cint rfl) (by decide) (IntWalk.i64_in _ (tdiv2_bd hn)) (IntWalk.i64_in _ (tdiv2_bd hn))) ?_
 refine RK.c (S.call (mon_within) Tryz.call99 .none rfl (.cons (.tmp rfl rfl) (.cons (.cint rfl) (.cons (.tmp rfl rfl) .nil))) rfl) ?_
 refine RK.c (S.call (monitor_unless) Tryz.call84 .none rfl (.cons (.tmp rfl rfl) (.cons (.cint rfl) .nil)) rfl) ?_
 refine RK.c (S.assign .none rfl (.tmp rfl rfl)) ?_
 refine RK.nil (Ab.D.code ?_)
 refine OK.ret (Ret.r1 (.tmp rfl rfl (.c (.same rfl) rfl) rfl) ?_)
 exact ret_i ite_unless
theorem mon_record1 {p : Plan} {i : Nat} {r : Record} (hp : planErr p = 0) : Ct Tryz.prog 129 [.int .i64 i, .agg r.cs, .eptr p.cs] (.int .i64 (recsErr1 p r)) := by
 refine Ct.intro (rs := [.tmp 5]) Tryz.func129 rfl Tryz.ntmps129 Tryz.results129 rfl rfl rfl fun w h => ?_
 refine OK.seq (OK.reg ?_)
 refine RK.c (S.box (k := 4) rfl .none rfl (.tmp rfl rfl) rfl) ?_
 refine RK.c (S.assign .none rfl (.cint rfl)) ?_
 refine RK.nil (Ab.D.code (OK.seq (OK.seq (OK.reg ?_))))
 refine RK.c (S.loadN ti150 .none rfl (.tmp rfl rfl) rfl rfl) ?_
 refine RK.c (S.bloadN ti75 .none rfl (.tmp rfl rfl) rfl rfl rfl rfl) ?_
 refine RK.c (S.call (mon_recordErr) Tryz.call130 .none rfl (.cons (.tmp rfl rfl) (.cons (.tmp rfl rfl) .nil)) rfl) ?_
 refine RK.c (S.move .none rfl (.tmp rfl rfl)) ?_
 refine RK.c (S.extract .none rfl (.tmp rfl rfl) rfl rfl) ?_
 refine RK.c (S.extract .none rfl (.tmp rfl rfl) rfl rfl) ?_
 refine RK.c (S.assign .none rfl (.tmp rfl rfl)) ?_
 refine RK.c (S.assign .none rfl (.tmp rfl rfl)) ?_
 refine RK.nil (Ab.D.code (OK.seq (OK.reg ?_)))
 refine RK.c (S.move .none rfl (.tmp rfl rfl)) ?_
 refine RK.c (S.neq .none rfl (.tmp rfl rfl) (.cint rfl)) ?_
 refine RK.nil (Ab.D.code ?_)
 refine OK.condD rfl rfl (fun c15 => ?_) (fun c15 => ?_)
 ·
  refine OK.seq (OK.reg ?_)
  refine RK.c (S.move .none rfl (.tmp rfl rfl)) ?_
  refine RK.c (S.assign .none rfl (.tmp rfl rfl)) ?_
  refine RK.nil (Ab.D.code ?_)
  refine OK.ret (Ret.r1 (.tmp rfl rfl (.c (.same rfl) rfl) rfl) ?_)
  refine ret_i ?_
  rw [recsErr1, if_pos c15]
 ·
  refine OK.skip ?_
  refine Ab.D.code (OK.seq (OK.reg ?_))
  refine RK.c (S.bloadN ti75 .none rfl (.tmp rfl rfl) rfl rfl rfl rfl) ?_
  refine RK.c (S.call (mon_lost (by have := planErr_0 hp; have := recChk_len (p := p) (r := r) (by omega); omega)) Tryz.call92 .none rfl (.cons (.tmp rfl rfl) .nil) rfl) ?_
  refine RK.c (S.lenM si25 .none rfl (.tmp rfl rfl)) ?_
  refine RK.c (S.eql .none rfl (.tmp rfl rfl) (.cint rfl)) ?_
  refine RK.c (S.call (monitor_unless) Tryz.call84 .none rfl (.cons (.tmp rfl rfl) (.cons (.cint rfl) .nil)) rfl) ?_
  refine RK.c (S.assign .none rfl (.tmp rfl rfl)) ?_
  refine RK.nil (Ab.D.code ?_)
  refine OK.ret (Ret.r1 (.tmp rfl rfl (.c (.same rfl) rfl) rfl) ?_)
  refine ret_i ?_
  rw [recsErr1, if_neg c15, ite_unless]
  split <;> split <;> omega
theorem mon_openRecords {p : Plan} {l : List Record} : Ct Tryz.prog 79 [.agg p.cs, .sl (l.map Record.cs)] (.tup [.agg p.cs, .int .i64 (openRecs p l)]) := by
  refine Ct.intro (rs := [.cell 4 150, .tmp 5]) Tryz.func79 rfl Tryz.ntmps79 Tryz.results79 rfl rfl rfl fun w h => ?_
  refine OK.seq (OK.reg ?_)
  refine RK.c (S.box (k := 2) rfl .none rfl (.tmp rfl rfl) rfl) ?_
  refine RK.c (S.alloc (k := 4) ze150 rfl .none rfl) ?_
  refine RK.c (S.assign .none rfl (.cint rfl)) ?_
  refine RK.nil (Ab.D.code (OK.seq (OK.reg ?_)))
  refine RK.c (S.bloadN ti24 .none rfl (.tmp rfl rfl) rfl rfl rfl rfl) ?_
  refine RK.c (S.call (mon_open) Tryz.call82 .none rfl (.cons (.tmp rfl rfl) .nil) rfl) ?_
  refine RK.c (S.move .none rfl (.tmp rfl rfl)) ?_
  refine RK.c (S.extract .none rfl (.tmp rfl rfl) rfl rfl) ?_
  refine RK.c (S.extract .none rfl (.tmp rfl rfl) rfl rfl) ?_
  refine RK.c (S.alloc (k := 6) ze150 rfl .none rfl) ?_
  refine RK.c (S.store ti150 .none (.tmp rfl rfl) (.tmp rfl rfl) rfl rfl rfl rfl rfl rfl) ?_
  refine RK.c (S.assign .none rfl (.tmp rfl rfl)) ?_
  refine RK.nil (Ab.D.code (OK.seq (OK.seq (OK.reg ?_))))
  refine RK.c (S.move .none rfl (.tmp rfl rfl)) ?_
  refine RK.c (S.move .none rfl (.tmp rfl rfl)) ?_
  refine RK.c (S.lenM si63 .none rfl (.tmp rfl rfl)) ?_
  refine RK.c (S.gtr .none rfl (.tmp rfl rfl) (.cint rfl)) ?_
  refine RK.c (S.call (monitor_unless) Tryz.call84 .none rfl (.cons (.tmp rfl rfl) (.cons (.cint rfl) .nil)) rfl) ?_
  refine RK.c (S.move .none rfl (.tmp rfl rfl)) ?_
  refine RK.c (S.lenM si63 .none rfl (.tmp rfl rfl)) ?_
  refine RK.c (S.leq .none rfl (.tmp rfl rfl) (.cint rfl)) ?_
  refine RK.c (S.call (monitor_unless) Tryz.call84 .none rfl (.cons (.tmp rfl rfl) (.cons (.cint rfl) .nil)) rfl) ?_
  refine RK.c (S.mkSlice (k := 22) (rows := [[_], [_], [_]]) ai209 .none rfl (.cons (.tmp rfl rfl) (.cons (.tmp rfl rfl) (.cons (.tmp rfl rfl) .nil))) rfl rfl rfl rfl rfl rfl rfl) ?_
  refine RK.c (S.callL (monitor_first (l := [_, _, _])) Tryz.call83 .none rfl (.cons (.tmp rfl rfl) .nil) (.cons (.p (.own rfl rfl) rfl) .nil) rfl) ?_
  refine RK.c (S.assign .none rfl (.tmp rfl rfl)) ?_
  refine RK.nil (Ab.D.code (OK.seq (OK.reg ?_)))
  refine RK.c (S.move .none rfl (.tmp rfl rfl)) ?_
  refine RK.c (S.neq .none rfl (.tmp rfl rfl) (.cint rfl)) ?_
  refine RK.nil (Ab.D.code ?_)
  refine OK.condD rfl rfl (fun c25 => ?_) (fun c25 => ?_)
  ·
    refine OK.seq (OK.reg ?_)
    refine RK.c (S.bloadN ti150 .none rfl (.tmp rfl rfl) rfl rfl rfl rfl) ?_
    refine RK.c (S.move .none rfl (.tmp rfl rfl)) ?_
    refine RK.c (S.store ti150 .none (.tmp rfl rfl) (.tmp rfl rfl) rfl rfl rfl rfl rfl rfl) ?_
    refine RK.c (S.assign .none rfl (.tmp rfl rfl)) ?_
    refine RK.nil (Ab.D.code ?_)
    refine OK.ret (Ret.r2 (.cellN rfl rfl rfl rfl ti150 rfl (.k (.same rfl) (.k (.same rfl) .z))) (.tmp rfl rfl (.c (.same rfl) rfl) rfl) ?_)
    refine congrArg (fun z => X.tup [.agg p.cs, .int .i64 z]) ?_
    rw [openRecs]
    rw [firstE3] at c25 ⊢
    simp only [ite_unless, recsErr] at c25 ⊢
    repeat' split at c25
    all_goals (repeat' split)
    all_goals omega
  ·
    rw [firstE3] at c25
    have hp : planErr p = 0 := by
      split at c25
      · contradiction
      · omega
    have hq : l.length ≠ 0 ∧ ¬ 20 < l.length := by
      rw [hp] at c25
      simp only [ite_unless] at c25
      repeat' split at c25
      all_goals omega
    refine OK.skip ?_
    refine Ab.D.code (OK.seq (OK.reg ?_))
    refine RK.c (S.move .none rfl (.tmp rfl rfl)) ?_
    refine RK.c (S.makeFunc1 .none rfl (.tmp rfl rfl) rfl) ?_
    refine RK.c (S.callL (each_Record (l := l) (g := fun _ r => recsErr1 p r) (caps := [.eptr p.cs]) (fun i x _ => mon_record1 hp) Tryz.call129 ⟨rfl, rfl⟩) Tryz.call128 .none rfl (.cons (.tmp rfl rfl) (.cons (.tmp rfl rfl) .nil)) (.cons (.same rfl) (.cons (.fn (.cons (.ptr rfl rfl rfl rfl) .nil)) .nil)) rfl) ?_
    refine RK.c (S.move .none rfl (.tmp rfl rfl)) ?_
    refine RK.c (S.extract .none rfl (.tmp rfl rfl) rfl rfl) ?_
    refine RK.c (S.extract .none rfl (.tmp rfl rfl) rfl rfl) ?_
    refine RK.c (S.assign .none rfl (.tmp rfl rfl)) ?_
    refine RK.nil (Ab.D.code (OK.seq (OK.reg ?_)))
    refine RK.c (S.bloadN ti150 .none rfl (.tmp rfl rfl) rfl rfl rfl rfl) ?_
    refine RK.c (S.move .none rfl (.tmp rfl rfl)) ?_
    refine RK.c (S.store ti150 .none (.tmp rfl rfl) (.tmp rfl rfl) rfl rfl rfl rfl rfl rfl) ?_
    refine RK.c (S.assign .none rfl (.tmp rfl rfl)) ?_
    refine RK.nil (Ab.D.code ?_)
    refine OK.ret (Ret.r2 (.cellN rfl rfl rfl rfl ti150 rfl (.k (.same rfl) (.k (.same rfl) .z))) (.tmp rfl rfl (.c (.same rfl) rfl) rfl) ?_)
    refine congrArg (fun z => X.tup [.agg p.cs, .int .i64 z]) ?_
    rw [openRecs, if_neg (by omega), recsErr, if_neg (by omega), if_neg hq.2]
end Go.Proofs.YtpmglnphhhlbdaaGreatDoor
