/-
  The law of false alarms.
-/
import Derived.Test.YtfjldfkgjejpmaaGreatSh
import Derived.Test.YtfjldfkgjejpmaaGreatFw
import Derived.Test.YtfjldfkgjejpmaaGreatXa
namespace Go.Proofs.YtfjldfkgjejpmaaGreat
open Go.Ab

def hasN (l : List Int) (n : Int) : Bool := l.any fun x => decide (x = n)
theorem has_al (p : Plan) (l : List Record) (trim : Int) {n i : Nat} (h : i < n) : hasN (alUp p l trim n) i = isAl p l trim i := by
  rw [Bool.eq_iff_iff]
  unfold hasN alUp
  rw [List.any_eq_true]
  constructor
  · rintro ⟨x, hx, he⟩
    obtain ⟨j, hj, rfl⟩ := List.mem_map.1 hx
    have e := of_decide_eq_true he
    have e2 : j = i := by omega
    subst e2
    exact (List.mem_filter.1 hj).2
  · intro hi
    exact ⟨(i : Int), List.mem_map.2 ⟨i, List.mem_filter.2 ⟨List.mem_range.2 h, hi⟩, rfl⟩, decide_eq_true rfl⟩
/-- What is true of the bound and of the number of alarms. -/
theorem fa_frac {p : Plan} {l : List Record} {trim : Int} {A : List Int} (hL : LearnT p l) (hn2 : 2 ≤ l.length) (htz : trimErr trim ((l.length : Int) - 1) = 0) (hA : A = alUp p l trim l.length) :
    boundErr p ((l.length : Int) - 1) trim = 0 ∧ ∃ bn bd : Int, alarmT p ((l.length : Int) - 1) trim = ⟨bn, bd⟩ ∧ gcdT bn bd = 1 ∧ (1 ≤ bd ∧ bd ≤ 1000000) ∧ (0 ≤ bn ∧ bn ≤ 1000000) ∧
      (A.length : Int).tdiv (gcdT A.length l.length) * bd ≤ bn * (l.length : Int).tdiv (gcdT A.length l.length) ∧ A.length ≤ l.length ∧ (A.length : Int) ≤ 2 * (trim + 1) * (p.channels.length * p.ticks) ∧ (0 ≤ 2 * (trim + 1) * (p.channels.length * p.ticks) ∧ 2 * (trim + 1) * (p.channels.length * p.ticks) ≤ 4800) ∧
      (0 ≤ (A.length : Int).tdiv (gcdT A.length l.length) ∧ (A.length : Int).tdiv (gcdT A.length l.length) ≤ 1000000) ∧ (0 ≤ (l.length : Int).tdiv (gcdT A.length l.length) ∧ (l.length : Int).tdiv (gcdT A.length l.length) ≤ 1000000) := by
  have hLl := hL.len
  have htr := trimErr_0 (by omega) htz
  have hp0 := hL.plan
  have hbe : boundErr p ((l.length : Int) - 1) trim = 0 := by rw [boundErr, if_neg (by omega), if_neg (by omega), htz]
  have hnb := boundNum_bd hbe
  have hmb := (num_bd hbe).2.2
  have hmu : 2 * (trim + 1) * (p.channels.length * p.ticks) = 2 * (trim + 1) * p.channels.length * p.ticks := (Int.mul_assoc _ _ _).symm
  have hal : (A.length : Int) ≤ 2 * (trim + 1) * (p.channels.length * p.ticks) := by rw [hA]; exact al_bound hL htr.1 (by omega)
  have hAl : A.length ≤ l.length := by rw [hA]; exact alUp_len p l trim l.length
  have hbn : boundNum p ((l.length : Int) - 1) trim = if 2 * (trim + 1) * p.channels.length * p.ticks < (l.length : Int) - 1 + 1 then 2 * (trim + 1) * p.channels.length * p.ticks else (l.length : Int) - 1 + 1 := rfl
  have hle : (A.length : Int) ≤ boundNum p ((l.length : Int) - 1) trim := by
    rw [hbn]
    split <;> omega
  have en : (l.length : Int) - 1 + 1 = l.length := by omega
  have g1 := gcd_pos (a := boundNum p ((l.length : Int) - 1) trim) (b := l.length) hnb.1 (by omega)
  have g2 := gcd_pos (a := A.length) (b := l.length) (by omega) (by omega)
  refine ⟨hbe, _, _, by rw [alarmT, if_pos hbe, en], low_gcd hnb.1 (by omega), ⟨low_den hnb.1 (by omega), ?_⟩, ⟨Int.tdiv_nonneg hnb.1 (by omega), ?_⟩, low_cmp (by omega) hle (by omega), hAl, hal, by omega, ⟨Int.tdiv_nonneg (by omega) (by omega), ?_⟩, ⟨Int.tdiv_nonneg (by omega) (by omega), ?_⟩⟩
  · have h1 : (l.length : Int).tdiv (gcdT (boundNum p ((l.length : Int) - 1) trim) l.length) ≤ l.length := Int.tdiv_le_self _ (by omega)
    omega
  · have h1 : (boundNum p ((l.length : Int) - 1) trim).tdiv (gcdT (boundNum p ((l.length : Int) - 1) trim) l.length) ≤ boundNum p ((l.length : Int) - 1) trim := Int.tdiv_le_self _ hnb.1
    omega
  · have h1 : (A.length : Int).tdiv (gcdT A.length l.length) ≤ A.length := Int.tdiv_le_self _ (by omega)
    omega
  · have h1 : (l.length : Int).tdiv (gcdT A.length l.length) ≤ l.length := Int.tdiv_le_self _ (by omega)
    omega
/-- The verdict of a record by the envelope of the others. -/
theorem fa_verdict {p : Plan} {l : List Record} {trim : Int} {i : Nat} (hL : LearnT p l) (hn2 : 2 ≤ l.length) (htz : trimErr trim ((l.length : Int) - 1) = 0) (hi : i < l.length) :
    envErr p (others l i) trim = 0 ∧ bothErr p (envT p (others l i) trim) l[i] = 0 ∧ decide (verdT (envT p (others l i) trim) l[i] = 2) = isAl p l trim i := by
  have hO := learn_others hL hi hn2
  have hol := others_len hi
  have hot : trimErr trim (others l i).length = 0 := by rw [hol, show ((l.length - 1 : Nat) : Int) = (l.length : Int) - 1 by omega]; exact htz
  refine ⟨?_, ?_, ?_⟩
  · have hr : recsErr p (others l i) = 0 := by
      unfold recsErr
      have hLl := hL.len
      rw [if_neg (by omega), if_neg (by omega)]
      have := eachGo_zero (fun _ r => recsErr1 p r) (others l i) 0 fun j hj => by
        have := hO.chk j hj
        show recsErr1 p _ = 0
        unfold recsErr1
        rw [if_neg (by omega), if_pos this.2]
      rw [this]
    have hop : openRecs p (others l i) = 0 := by rw [openRecs, if_neg (by have := hL.plan; omega), hr]
    rw [envErr, if_neg (by omega), hot]
  · unfold bothErr
    rw [hO.plan, learn_valid hO hot]
    simp [(hL.chk i hi).1]
  · rw [isAl, getD_at hi, Bool.eq_iff_iff, decide_eq_true_eq, decide_eq_true_eq]
    unfold verdT
    constructor
    · intro h1 h2
      rw [if_neg (by omega)] at h1
      split at h1 <;> omega
    · intro h1
      rw [if_pos h1]
theorem mem_short {l : List Record} (h2 : ∀ (i : Nat) (h : i < l.length), l[i].rows.length ≤ 14) (h3 : ∀ (i : Nat) (h : i < l.length) (k : Nat) (h2 : k < l[i].rows.length), l[i].rows[k].values.length ≤ 6) :
    ∀ r ∈ l, r.rows.length ≤ 100000 ∧ ∀ q ∈ r.rows, q.values.length ≤ 100000 := by
  intro r hr
  obtain ⟨i, hi, rfl⟩ := List.getElem_of_mem hr
  refine ⟨by have := h2 i hi; omega, fun q hq => ?_⟩
  obtain ⟨k, hk, rfl⟩ := List.getElem_of_mem hq
  have := h3 i hi k hk
  omega

theorem bas_Has {l : List Int} {n : Int} : Ct Tryz.prog 55 [ints l, .int .i64 n] (.bool (hasN l n)) := by
  refine Ct.intro (rs := [.tmp 4]) Tryz.func55 rfl Tryz.ntmps55 Tryz.results55 rfl rfl rfl fun w h => ?_
  refine OK.slLen (rows := l.map fun n => [.int .i64 n]) (t := 0) rfl rfl fun hlen => ?_
  rw [List.length_map] at hlen
  unfold maxLen at hlen
  refine OK.seq ?_
  refine OK.reg ?_
  refine RK.c (S.assign .none rfl .cbool) ?_
  refine RK.nil ?_
  refine Ab.D.code ?_
  refine OK.seq ?_
  refine OK.seq ?_
  refine OK.reg ?_
  refine RK.c (S.assign .none rfl (.cint rfl)) ?_
  refine RK.nil ?_
  refine Ab.D.code ?_
  refine OK.block ?_
  refine OK.loop (G := Nat) [] (fun i => [(0, ints l), (1, .int .i64 n), (5, .int .i64 i)]) (fun i => i ≤ l.length ∧ hasN l n = hasN (l.drop i) n) (fun i => l.length - i) 0 ⟨Nat.zero_le _, rfl⟩ ⟨rfl, rfl, rfl, trivial⟩ (fun _ => rfl) ?_
  rintro i ⟨hi, hg⟩
  refine OK.seq ?_
  refine OK.seq ?_
  refine OK.reg ?_
  refine RK.c (S.move .none rfl (.tmp rfl rfl)) ?_
  refine RK.c (S.move .none rfl (.tmp rfl rfl)) ?_
  refine RK.c (S.lenM si57 .none rfl (.tmp rfl rfl)) ?_
  refine RK.c (S.lss .none rfl (.tmp rfl rfl) (.tmp rfl rfl)) ?_
  refine RK.nil ?_
  refine Ab.D.code ?_
  refine OK.condD rfl rfl (fun c9 => ?_) (fun c9 => ?_)
  ·
    refine OK.skip ?_
    refine Ab.D.code ?_
    refine OK.seq ?_
    refine OK.block ?_
    refine OK.seq ?_
    refine OK.reg ?_
    refine RK.c (S.move .none rfl (.tmp rfl rfl)) ?_
    refine RK.c (S.move .none rfl (.tmp rfl rfl)) ?_
    refine RK.c (S.indexM si57 .none rfl (.tmp rfl rfl) (.tmp rfl rfl) rfl (by omega) rfl) ?_
    refine RK.c (S.load1 ti3 .none rfl (.tmp rfl rfl) rfl) ?_
    refine RK.c (S.move .none rfl (.tmp rfl rfl)) ?_
    refine RK.c (S.eql .none rfl (.tmp rfl rfl) (.tmp rfl rfl)) ?_
    refine RK.nil ?_
    refine Ab.D.code ?_
    refine OK.condD rfl rfl (fun c17 => ?_) (fun c17 => ?_)
    ·
      refine OK.seq ?_
      refine OK.reg ?_
      refine RK.c (S.assign .none rfl .cbool) ?_
      refine RK.nil ?_
      refine Ab.D.code ?_
      refine OK.ret (Ret.r1 (.tmp rfl rfl (.c (.same rfl) rfl) rfl) ?_)
      refine ret_b ?_
      rw [hg, hasN, any_drop _ (by omega), decide_eq_true c17, Bool.true_or]
    ·
      refine OK.skip ?_
      refine Ab.D.blk ?_
      refine Ab.D.code ?_
      refine OK.reg ?_
      refine RK.c (S.move .none rfl (.tmp rfl rfl)) ?_
      refine RK.c (S.add .none rfl (.tmp rfl rfl) (.cint rfl) (IntWalk.i64_in _ (by omega)) (IntWalk.i64_in _ (by omega))) ?_
      refine RK.c (S.assign .none rfl (.tmp rfl rfl)) ?_
      refine RK.nil ?_
      refine Ab.D.lp ⟨i + 1, ⟨by omega, ?_⟩, (by omega), rfl, rfl, rfl, trivial⟩
      rw [hg, hasN, any_drop _ (by omega), decide_eq_false c17, Bool.false_or]
      rfl
  ·
    refine OK.exit rfl ?_
    refine Ab.D.code ?_
    refine OK.seq ?_
    refine OK.reg ?_
    refine RK.c (S.assign .none rfl .cbool) ?_
    refine RK.nil ?_
    refine Ab.D.code ?_
    refine OK.ret (Ret.r1 (.tmp rfl rfl (.c (.same rfl) rfl) rfl) ?_)
    refine ret_b ?_
    rw [hg, show i = l.length by omega, List.drop_length]
    rfl

theorem bas_IsLowest {f : Frac} (hn : 0 ≤ f.num ∧ f.num ≤ 1000000000000) (hd : 1 ≤ f.den ∧ f.den ≤ 1000000000000) : Ct Tryz.prog 51 [.agg f.cs] (.bool (decide (gcdT f.num f.den = 1))) := by
  refine Ct.intro (rs := [.tmp 2]) Tryz.func51 rfl Tryz.ntmps51 Tryz.results51 rfl rfl rfl fun w h => ?_
  refine OK.seq ?_
  refine OK.reg ?_
  refine RK.c (S.box (k := 1) rfl .none rfl (.tmp rfl rfl) rfl) ?_
  refine RK.c (S.assign .none rfl .cbool) ?_
  refine RK.nil ?_
  refine Ab.D.code ?_
  refine OK.seq ?_
  refine OK.reg ?_
  refine RK.c (S.bfield fi74_1 .none rfl (.tmp rfl rfl)) ?_
  refine RK.c (S.bload1 ti3 .none rfl (.tmp rfl rfl) rfl rfl rfl rfl) ?_
  refine RK.c (S.gtr .none rfl (.tmp rfl rfl) (.cint rfl)) ?_
  refine RK.c (S.move .none rfl (.tmp rfl rfl)) ?_
  refine RK.splitD (t := 6) rfl (fun g6 => ?_) (fun g6 => ?_)
  ·
    refine RK.c (S.bfield fi74_0 (.yes rfl rfl rfl rfl) rfl (.tmp rfl rfl)) ?_
    refine RK.c (S.bload1 ti3 (.yes rfl rfl rfl rfl) rfl (.tmp rfl rfl) rfl rfl rfl rfl) ?_
    refine RK.c (S.bfield fi74_1 (.yes rfl rfl rfl rfl) rfl (.tmp rfl rfl)) ?_
    refine RK.c (S.bload1 ti3 (.yes rfl rfl rfl rfl) rfl (.tmp rfl rfl) rfl rfl rfl rfl) ?_
    refine RK.c (S.call (base_Gcd ⟨by omega, by omega⟩ ⟨by omega, by omega⟩) Tryz.call95 (.yes rfl rfl rfl rfl) rfl (.cons (.tmp rfl rfl) (.cons (.tmp rfl rfl) .nil)) rfl) ?_
    refine RK.c (S.eql (.yes rfl rfl rfl rfl) rfl (.tmp rfl rfl) (.cint rfl)) ?_
    refine RK.c (S.pickT .none rfl (.tmp rfl rfl) (.tmp rfl rfl) rfl) ?_
    refine RK.c (S.assign .none rfl (.tmp rfl rfl)) ?_
    refine RK.nil ?_
    refine Ab.D.code ?_
    refine OK.ret (Ret.r1 (.tmp rfl rfl (.c (.same rfl) rfl) rfl) ?_)
    rfl
  ·
    exfalso
    omega

theorem bas_IsSmall {f : Frac} (hn : 0 ≤ f.num ∧ f.num ≤ 1000000) (hd : 1 ≤ f.den ∧ f.den ≤ 1000000) : Ct Tryz.prog 52 [.agg f.cs] (.bool true) := by
  refine Ct.intro (rs := [.tmp 2]) Tryz.func52 rfl Tryz.ntmps52 Tryz.results52 rfl rfl rfl fun w h => ?_
  refine OK.seq ?_
  refine OK.reg ?_
  refine RK.c (S.box (k := 1) rfl .none rfl (.tmp rfl rfl) rfl) ?_
  refine RK.c (S.assign .none rfl .cbool) ?_
  refine RK.nil ?_
  refine Ab.D.code ?_
  refine OK.seq ?_
  refine OK.reg ?_
  refine RK.c (S.bfield fi74_0 .none rfl (.tmp rfl rfl)) ?_
  refine RK.c (S.bload1 ti3 .none rfl (.tmp rfl rfl) rfl rfl rfl rfl) ?_
  refine RK.c (S.call (base_Within) Tryz.call24 .none rfl (.cons (.tmp rfl rfl) (.cons (.cint rfl) (.cons (.cint rfl) .nil))) rfl) ?_
  refine RK.c (S.move .none rfl (.tmp rfl rfl)) ?_
  refine RK.splitD (t := 6) rfl (fun g6 => ?_) (fun g6 => ?_)
  ·
    refine RK.c (S.bfield fi74_1 (.yes rfl rfl rfl rfl) rfl (.tmp rfl rfl)) ?_
    refine RK.c (S.bload1 ti3 (.yes rfl rfl rfl rfl) rfl (.tmp rfl rfl) rfl rfl rfl rfl) ?_
    refine RK.c (S.call (base_Within) Tryz.call24 (.yes rfl rfl rfl rfl) rfl (.cons (.tmp rfl rfl) (.cons (.cint rfl) (.cons (.cint rfl) .nil))) rfl) ?_
    refine RK.c (S.pickT .none rfl (.tmp rfl rfl) (.tmp rfl rfl) rfl) ?_
    refine RK.c (S.assign .none rfl (.tmp rfl rfl)) ?_
    refine RK.nil ?_
    refine Ab.D.code ?_
    refine OK.ret (Ret.r1 (.tmp rfl rfl (.c (.same rfl) rfl) rfl) ?_)
    refine ret_dT ?_
    omega
  ·
    exfalso
    simp at g6
    omega

theorem bas_Cmp {a b : Frac} (hx : 0 ≤ a.num * b.den ∧ a.num * b.den ≤ 1000000000000) (hy : 0 ≤ b.num * a.den ∧ b.num * a.den ≤ 1000000000000) : Ct Tryz.prog 53 [.agg a.cs, .agg b.cs] (.int .i64 (if a.num * b.den < b.num * a.den then -1 else if b.num * a.den < a.num * b.den then 1 else 0)) := by
  refine Ct.intro (rs := [.tmp 4]) Tryz.func53 rfl Tryz.ntmps53 Tryz.results53 rfl rfl rfl fun w h => ?_
  refine OK.seq ?_
  refine OK.reg ?_
  refine RK.c (S.box (k := 2) rfl .none rfl (.tmp rfl rfl) rfl) ?_
  refine RK.c (S.box (k := 3) rfl .none rfl (.tmp rfl rfl) rfl) ?_
  refine RK.c (S.assign .none rfl (.cint rfl)) ?_
  refine RK.nil ?_
  refine Ab.D.code ?_
  refine OK.seq ?_
  refine OK.regionDraw follows (.c (S.bfield fi74_0 .none rfl (.tmp rfl rfl))
    (.c (S.bload1 ti3 .none rfl (.tmp rfl rfl) rfl rfl rfl rfl)
    (.c (S.bfield fi74_1 .none rfl (.tmp rfl rfl))
    (.c (S.bload1 ti3 .none rfl (.tmp rfl rfl) rfl rfl rfl rfl)
    (.c (S.mul .none rfl (.tmp rfl rfl) (.tmp rfl rfl) (IntWalk.i64_in _ (by omega)) (IntWalk.i64_in _ (by omega)))
    (.c (S.bfield fi74_0 .none rfl (.tmp rfl rfl))
    (.c (S.bload1 ti3 .none rfl (.tmp rfl rfl) rfl rfl rfl rfl)
    (.c (S.bfield fi74_1 .none rfl (.tmp rfl rfl))
    (.c (S.bload1 ti3 .none rfl (.tmp rfl rfl) rfl rfl rfl rfl)
    (.c (S.mul .none rfl (.tmp rfl rfl) (.tmp rfl rfl) (IntWalk.i64_in _ (by omega)) (IntWalk.i64_in _ (by omega)))
    (.c (S.assign .none rfl (.tmp rfl rfl))
    (.c (S.assign .none rfl (.tmp rfl rfl))
    .nil)))))))))))) (by kernel_rfl) ?_
  refine Ab.D.code ?_
  refine OK.seq ?_
  refine OK.seq ?_
  refine OK.reg ?_
  refine RK.c (S.move .none rfl (.tmp rfl rfl)) ?_
  refine RK.c (S.move .none rfl (.tmp rfl rfl)) ?_
  refine RK.c (S.lss .none rfl (.tmp rfl rfl) (.tmp rfl rfl)) ?_
  refine RK.nil ?_
  refine Ab.D.code ?_
  refine OK.condD rfl rfl (fun c19 => ?_) (fun c19 => ?_)
  ·
    refine OK.seq ?_
    refine OK.reg ?_
    refine RK.c (S.assign .none rfl (.cint rfl)) ?_
    refine RK.nil ?_
    refine Ab.D.code ?_
    refine OK.ret (Ret.r1 (.tmp rfl rfl (.c (.same rfl) rfl) rfl) ?_)
    refine ret_i ?_
    split <;> omega
  ·
    refine OK.skip ?_
    refine Ab.D.code ?_
    refine OK.seq ?_
    refine OK.seq ?_
    refine OK.reg ?_
    refine RK.c (S.move .none rfl (.tmp rfl rfl)) ?_
    refine RK.c (S.move .none rfl (.tmp rfl rfl)) ?_
    refine RK.c (S.gtr .none rfl (.tmp rfl rfl) (.tmp rfl rfl)) ?_
    refine RK.nil ?_
    refine Ab.D.code ?_
    refine OK.condD rfl rfl (fun c22 => ?_) (fun c22 => ?_)
    ·
      refine OK.seq ?_
      refine OK.reg ?_
      refine RK.c (S.assign .none rfl (.cint rfl)) ?_
      refine RK.nil ?_
      refine Ab.D.code ?_
      refine OK.ret (Ret.r1 (.tmp rfl rfl (.c (.same rfl) rfl) rfl) ?_)
      refine ret_i ?_
      split <;> omega
    ·
      refine OK.skip ?_
      refine Ab.D.code ?_
      refine OK.seq ?_
      refine OK.reg ?_
      refine RK.c (S.assign .none rfl (.cint rfl)) ?_
      refine RK.nil ?_
      refine Ab.D.code ?_
      refine OK.ret (Ret.r1 (.tmp rfl rfl (.c (.same rfl) rfl) rfl) ?_)
      refine ret_i ?_
      split <;> omega

theorem refO_CopyRecords {l : List Record} (hl : l.length ≤ 100000) (hr : ∀ r ∈ l, r.rows.length ≤ 100000 ∧ ∀ q ∈ r.rows, q.values.length ≤ 100000) : CtO Tryz.prog 14 [.sl (l.map Record.cs)] 1 (l.map Record.cs) := by
  refine CtO.intro Tryz.func14 rfl Tryz.ntmps14 Tryz.results14 rfl rfl rfl fun w h => ?_
  refine OK.seq ?_
  refine OK.reg ?_
  refine RK.c (S.assign .none rfl .cnil) ?_
  refine RK.nil ?_
  refine Ab.D.code ?_
  refine OK.seq ?_
  refine OK.reg ?_
  refine RK.c (S.nilOwn (k := 3) (sz := 1) .none rfl) ?_
  refine RK.nil ?_
  refine Ab.D.code ?_
  refine OK.seq ?_
  refine OK.seq ?_
  refine OK.reg ?_
  refine RK.c (S.assign .none rfl (.cint rfl)) ?_
  refine RK.nil ?_
  refine Ab.D.code ?_
  refine OK.block ?_
  refine OK.loop (G := Nat) [3] (fun i => [(0, .sl (l.map Record.cs)), (3, .own 3 i), (2003, .arr 1 ((l.take i).map Record.cs)), (4, .int .i64 i)]) (fun i => i ≤ l.length) (fun i => l.length - i) 0 (Nat.zero_le _) ⟨rfl, (lk_own (by first | rfl | (simp; done) | (simp; omega))), (lk_arr (by first | rfl | (simp; done) | (simp; omega))), rfl, trivial⟩ (fun _ => rfl) ?_
  rintro i hi
  refine OK.seq ?_
  refine OK.seq ?_
  refine OK.reg ?_
  refine RK.c (S.move .none rfl (.tmp rfl rfl)) ?_
  refine RK.c (S.move .none rfl (.tmp rfl rfl)) ?_
  refine RK.c (S.lenM si25 .none rfl (.tmp rfl rfl)) ?_
  refine RK.c (S.lss .none rfl (.tmp rfl rfl) (.tmp rfl rfl)) ?_
  refine RK.nil ?_
  refine Ab.D.code ?_
  refine OK.condD rfl rfl (fun c8 => ?_) (fun c8 => ?_)
  ·
    refine OK.skip ?_
    refine Ab.D.code ?_
    refine OK.seq ?_
    refine OK.block ?_
    refine OK.reg ?_
    refine RK.c (S.move .none rfl (.tmp rfl rfl)) ?_
    refine RK.c (S.move .none rfl (.tmp rfl rfl)) ?_
    refine RK.c (S.move .none rfl (.tmp rfl rfl)) ?_
    refine RK.c (S.indexM si25 .none rfl (.tmp rfl rfl) (.tmp rfl rfl) rfl (by omega) rfl) ?_
    refine RK.c (S.loadN ti51 .none rfl (.tmp rfl rfl) rfl rfl) ?_
    refine RK.c (S.call (ref_CopyRecord (hr _ (List.getElem_mem (by omega))).1 (fun k h2 => (hr _ (List.getElem_mem (by omega))).2 _ (List.getElem_mem h2))) Tryz.call23 .none rfl (.cons (.tmp rfl rfl) .nil) rfl) ?_
    refine RK.c (S.mkSlice (k := 17) (rows := [[_]]) ai25 .none rfl (.cons (.tmp rfl rfl) .nil) rfl rfl rfl rfl rfl rfl rfl) ?_
    refine RK.c (S.append ai25 .none rfl (.tmp rfl rfl) rfl (by simp; omega) (.tmp rfl rfl) rfl (by first | rfl | (simp; done) | (simp; omega)) (by omega) (by simp only [maxLen]; omega)) ?_
    refine RK.c (S.assign .none rfl (.tmp rfl rfl)) ?_
    refine RK.nil ?_
    refine Ab.D.blk ?_
    refine Ab.D.code ?_
    refine OK.reg ?_
    refine RK.c (S.move .none rfl (.tmp rfl rfl)) ?_
    refine RK.c (S.add .none rfl (.tmp rfl rfl) (.cint rfl) (IntWalk.i64_in _ (by omega)) (IntWalk.i64_in _ (by omega))) ?_
    refine RK.c (S.assign .none rfl (.tmp rfl rfl)) ?_
    refine RK.nil ?_
    refine Ab.D.lp ⟨i + 1, (by omega), (by omega), rfl, (lk_own (by first | rfl | (simp; done) | (simp; omega))), (lk_arr (by rw [← take_snoc (by omega), List.map_append]; rfl)), rfl, trivial⟩
  ·
    refine OK.exit rfl ?_
    refine Ab.D.code ?_
    refine OK.seq ?_
    refine OK.reg ?_
    refine RK.c (S.move .none rfl (.tmp rfl rfl)) ?_
    refine RK.c (S.assign .none rfl (.tmp rfl rfl)) ?_
    refine RK.nil ?_
    refine Ab.D.code ?_
    refine OK.ret (RetO.mk rfl rfl rfl (by first | rfl | (simp; done) | (simp; omega)) ?_)
    rw [show i = l.length by omega, List.take_length]

theorem refM_CopyRecords {l : List Record} (hl : l.length ≤ 100000) (hr : ∀ r ∈ l, r.rows.length ≤ 100000 ∧ ∀ q ∈ r.rows, q.values.length ≤ 100000) : Ct Tryz.prog 14 [.sl (l.map Record.cs)] (.sl (l.map Record.cs)) :=
  ref_CopyRecords hl (fun i hi => (hr _ (List.getElem_mem hi)).1) fun i hi k hk => (hr _ (List.getElem_mem hi)).2 _ (List.getElem_mem hk)
set_option maxHeartbeats 1000000 in
theorem law_MonitorFalseAlarms {p : Plan} {x : LearnedX} : Ct Tryz.prog 8 [.agg p.cs, .agg x.cs] (.bool true) := by
  refine Ct.intro (rs := [.tmp 4]) Tryz.func8 rfl Tryz.ntmps8 Tryz.results8 rfl rfl rfl fun w h => ?_
  refine OK.seq ?_
  refine OK.reg ?_
  refine RK.c (S.box (k := 2) rfl .none rfl (.tmp rfl rfl) rfl) ?_
  refine RK.c (S.box (k := 3) rfl .none rfl (.tmp rfl rfl) rfl) ?_
  refine RK.c (S.assign .none rfl .cbool) ?_
  refine RK.nil ?_
  refine Ab.D.code ?_
  refine OK.seq ?_
  refine OK.seq ?_
  refine OK.reg ?_
  refine RK.c (S.call (law_awake) Tryz.call9 .none rfl .nil rfl) ?_
  refine RK.c (S.not .none rfl (.tmp rfl rfl)) ?_
  refine RK.nil ?_
  refine Ab.D.code ?_
  refine OK.condF rfl rfl rfl ?_
  refine OK.skip ?_
  refine Ab.D.code ?_
  refine OK.seq ?_
  refine OK.reg ?_
  refine RK.c (S.bfield fi27_0 .none rfl (.tmp rfl rfl)) ?_
  refine RK.c (S.bload1 ti25 .none rfl (.tmp rfl rfl) rfl rfl rfl rfl) ?_
  refine RK.c (S.lenM si25 .none rfl (.tmp rfl rfl)) ?_
  refine RK.c (S.assign .none rfl (.tmp rfl rfl)) ?_
  refine RK.nil ?_
  refine Ab.D.code ?_
  refine OK.seq ?_
  refine OK.seq ?_
  refine OK.reg ?_
  refine RK.c (S.bloadN ti24 .none rfl (.tmp rfl rfl) rfl rfl rfl rfl) ?_
  refine RK.c (S.call (ref_PlanErr) Tryz.call15 .none rfl (.cons (.tmp rfl rfl) .nil) rfl) ?_
  refine RK.c (S.neq .none rfl (.tmp rfl rfl) (.cint rfl)) ?_
  refine RK.c (S.move .none rfl (.tmp rfl rfl)) ?_
  refine RK.splitD (t := 24) rfl (fun g24 => ?_) (fun g24 => ?_)
  ·
    refine RK.c (S.skip rfl rfl rfl rfl rfl) ?_
    refine RK.c (S.skip rfl rfl rfl rfl rfl) ?_
    refine RK.c (S.skip rfl rfl rfl rfl rfl) ?_
    refine RK.c (S.skip rfl rfl rfl rfl rfl) ?_
    refine RK.c (S.pickT .none rfl (.tmp rfl rfl) .cbool rfl) ?_
    refine RK.c (S.move .none rfl (.tmp rfl rfl)) ?_
    refine RK.c (S.skip rfl rfl rfl rfl rfl) ?_
    refine RK.c (S.skip rfl rfl rfl rfl rfl) ?_
    refine RK.c (S.skip rfl rfl rfl rfl rfl) ?_
    refine RK.c (S.skip rfl rfl rfl rfl rfl) ?_
    refine RK.c (S.skip rfl rfl rfl rfl rfl) ?_
    refine RK.c (S.pickT .none rfl (.tmp rfl rfl) .cbool rfl) ?_
    refine RK.c (S.move .none rfl (.tmp rfl rfl)) ?_
    refine RK.c (S.skip rfl rfl rfl rfl rfl) ?_
    refine RK.c (S.skip rfl rfl rfl rfl rfl) ?_
    refine RK.c (S.pickT .none rfl (.tmp rfl rfl) .cbool rfl) ?_
    refine RK.c (S.move .none rfl (.tmp rfl rfl)) ?_
    refine RK.c (S.skip rfl rfl rfl rfl rfl) ?_
    refine RK.c (S.skip rfl rfl rfl rfl rfl) ?_
    refine RK.c (S.skip rfl rfl rfl rfl rfl) ?_
    refine RK.c (S.skip rfl rfl rfl rfl rfl) ?_
    refine RK.c (S.skip rfl rfl rfl rfl rfl) ?_
    refine RK.c (S.skip rfl rfl rfl rfl rfl) ?_
    refine RK.c (S.pickT .none rfl (.tmp rfl rfl) .cbool rfl) ?_
    refine RK.nil ?_
    refine Ab.D.code ?_
    refine OK.condT rfl rfl rfl ?_
    refine OK.seq ?_
    refine OK.reg ?_
    refine RK.c (S.assign .none rfl .cbool) ?_
    refine RK.nil ?_
    refine Ab.D.code ?_
    refine OK.ret (Ret.r1 (.tmp rfl rfl (.c (.same rfl) rfl) rfl) ?_)
    rfl
  ·
    refine RK.c (S.bfield fi27_0 (.yes rfl rfl rfl rfl) rfl (.tmp rfl rfl)) ?_
    refine RK.c (S.bload1 ti25 (.yes rfl rfl rfl rfl) rfl (.tmp rfl rfl) rfl rfl rfl rfl) ?_
    refine RK.c (S.call (law_shortRecords) Tryz.call11 (.yes rfl rfl rfl rfl) rfl (.cons (.tmp rfl rfl) .nil) rfl) ?_
    refine RK.c (S.not (.yes rfl rfl rfl rfl) rfl (.tmp rfl rfl)) ?_
    refine RK.c (S.pickF .none rfl (.tmp rfl rfl) (.tmp rfl rfl) rfl) ?_
    refine RK.c (S.move .none rfl (.tmp rfl rfl)) ?_
    refine RK.split (t := 30) rfl (fun g30 => ?_) (fun g30 => ?_)
    ·
      refine RK.c (S.skip rfl rfl rfl rfl rfl) ?_
      refine RK.c (S.skip rfl rfl rfl rfl rfl) ?_
      refine RK.c (S.skip rfl rfl rfl rfl rfl) ?_
      refine RK.c (S.skip rfl rfl rfl rfl rfl) ?_
      refine RK.c (S.skip rfl rfl rfl rfl rfl) ?_
      refine RK.c (S.pickT .none rfl (.tmp rfl rfl) .cbool rfl) ?_
      refine RK.c (S.move .none rfl (.tmp rfl rfl)) ?_
      refine RK.c (S.skip rfl rfl rfl rfl rfl) ?_
      refine RK.c (S.skip rfl rfl rfl rfl rfl) ?_
      refine RK.c (S.pickT .none rfl (.tmp rfl rfl) .cbool rfl) ?_
      refine RK.c (S.move .none rfl (.tmp rfl rfl)) ?_
      refine RK.c (S.skip rfl rfl rfl rfl rfl) ?_
      refine RK.c (S.skip rfl rfl rfl rfl rfl) ?_
      refine RK.c (S.skip rfl rfl rfl rfl rfl) ?_
      refine RK.c (S.skip rfl rfl rfl rfl rfl) ?_
      refine RK.c (S.skip rfl rfl rfl rfl rfl) ?_
      refine RK.c (S.skip rfl rfl rfl rfl rfl) ?_
      refine RK.c (S.pickT .none rfl (.tmp rfl rfl) .cbool rfl) ?_
      refine RK.nil ?_
      refine Ab.D.code ?_
      refine OK.condT rfl rfl rfl ?_
      refine OK.seq ?_
      refine OK.reg ?_
      refine RK.c (S.assign .none rfl .cbool) ?_
      refine RK.nil ?_
      refine Ab.D.code ?_
      refine OK.ret (Ret.r1 (.tmp rfl rfl (.c (.same rfl) rfl) rfl) ?_)
      rfl
    ·
      have hS : shortRecs x.records = true := by simpa using g30
      obtain ⟨hr1, hr2, hr3⟩ := shortRecs_len hS
      have hp0 : planErr p = 0 := Decidable.not_not.1 g24
      have hpp := planErr_0 hp0
      have hms := mem_short hr2 hr3
      refine RK.c (S.bloadN ti24 (.yes rfl rfl rfl rfl) rfl (.tmp rfl rfl) rfl rfl rfl rfl) ?_
      refine RK.c (S.bfield fi27_0 (.yes rfl rfl rfl rfl) rfl (.tmp rfl rfl)) ?_
      refine RK.c (S.bload1 ti25 (.yes rfl rfl rfl rfl) rfl (.tmp rfl rfl) rfl rfl rfl rfl) ?_
      refine RK.c (S.call (ref_RecordsErr hp0) Tryz.call16 (.yes rfl rfl rfl rfl) rfl (.cons (.tmp rfl rfl) (.cons (.tmp rfl rfl) .nil)) rfl) ?_
      refine RK.c (S.neq (.yes rfl rfl rfl rfl) rfl (.tmp rfl rfl) (.cint rfl)) ?_
      refine RK.c (S.pickF .none rfl (.tmp rfl rfl) (.tmp rfl rfl) rfl) ?_
      refine RK.c (S.move .none rfl (.tmp rfl rfl)) ?_
      refine RK.splitD (t := 37) rfl (fun g37 => ?_) (fun g37 => ?_)
      ·
        refine RK.c (S.skip rfl rfl rfl rfl rfl) ?_
        refine RK.c (S.skip rfl rfl rfl rfl rfl) ?_
        refine RK.c (S.pickT .none rfl (.tmp rfl rfl) .cbool rfl) ?_
        refine RK.c (S.move .none rfl (.tmp rfl rfl)) ?_
        refine RK.c (S.skip rfl rfl rfl rfl rfl) ?_
        refine RK.c (S.skip rfl rfl rfl rfl rfl) ?_
        refine RK.c (S.skip rfl rfl rfl rfl rfl) ?_
        refine RK.c (S.skip rfl rfl rfl rfl rfl) ?_
        refine RK.c (S.skip rfl rfl rfl rfl rfl) ?_
        refine RK.c (S.skip rfl rfl rfl rfl rfl) ?_
        refine RK.c (S.pickT .none rfl (.tmp rfl rfl) .cbool rfl) ?_
        refine RK.nil ?_
        refine Ab.D.code ?_
        refine OK.condT rfl rfl rfl ?_
        refine OK.seq ?_
        refine OK.reg ?_
        refine RK.c (S.assign .none rfl .cbool) ?_
        refine RK.nil ?_
        refine Ab.D.code ?_
        refine OK.ret (Ret.r1 (.tmp rfl rfl (.c (.same rfl) rfl) rfl) ?_)
        rfl
      ·
        refine RK.c (S.move (.yes rfl rfl rfl rfl) rfl (.tmp rfl rfl)) ?_
        refine RK.c (S.lss (.yes rfl rfl rfl rfl) rfl (.tmp rfl rfl) (.cint rfl)) ?_
        refine RK.c (S.pickF .none rfl (.tmp rfl rfl) (.tmp rfl rfl) rfl) ?_
        refine RK.c (S.move .none rfl (.tmp rfl rfl)) ?_
        refine RK.splitD (t := 41) rfl (fun g41 => ?_) (fun g41 => ?_)
        ·
          refine RK.c (S.skip rfl rfl rfl rfl rfl) ?_
          refine RK.c (S.skip rfl rfl rfl rfl rfl) ?_
          refine RK.c (S.skip rfl rfl rfl rfl rfl) ?_
          refine RK.c (S.skip rfl rfl rfl rfl rfl) ?_
          refine RK.c (S.skip rfl rfl rfl rfl rfl) ?_
          refine RK.c (S.skip rfl rfl rfl rfl rfl) ?_
          refine RK.c (S.pickT .none rfl (.tmp rfl rfl) .cbool rfl) ?_
          refine RK.nil ?_
          refine Ab.D.code ?_
          refine OK.condT rfl rfl rfl ?_
          refine OK.seq ?_
          refine OK.reg ?_
          refine RK.c (S.assign .none rfl .cbool) ?_
          refine RK.nil ?_
          refine Ab.D.code ?_
          refine OK.ret (Ret.r1 (.tmp rfl rfl (.c (.same rfl) rfl) rfl) ?_)
          rfl
        ·
          refine RK.c (S.bfield fi27_1 (.yes rfl rfl rfl rfl) rfl (.tmp rfl rfl)) ?_
          refine RK.c (S.bload1 ti3 (.yes rfl rfl rfl rfl) rfl (.tmp rfl rfl) rfl rfl rfl rfl) ?_
          refine RK.c (S.move (.yes rfl rfl rfl rfl) rfl (.tmp rfl rfl)) ?_
          refine RK.c (S.sub (.yes rfl rfl rfl rfl) rfl (.tmp rfl rfl) (.cint rfl) (IntWalk.i64_in _ (by omega)) (IntWalk.i64_in _ (by omega))) ?_
          refine RK.c (S.call (ref_TrimErr (by omega)) Tryz.call17 (.yes rfl rfl rfl rfl) rfl (.cons (.tmp rfl rfl) (.cons (.tmp rfl rfl) .nil)) rfl) ?_
          refine RK.c (S.neq (.yes rfl rfl rfl rfl) rfl (.tmp rfl rfl) (.cint rfl)) ?_
          refine RK.c (S.pickF .none rfl (.tmp rfl rfl) (.tmp rfl rfl) rfl) ?_
          refine RK.nil ?_
          refine Ab.D.code ?_
          refine OK.condD rfl rfl (fun c48 => ?_) (fun c48 => ?_)
          ·
            refine OK.seq ?_
            refine OK.reg ?_
            refine RK.c (S.assign .none rfl .cbool) ?_
            refine RK.nil ?_
            refine Ab.D.code ?_
            refine OK.ret (Ret.r1 (.tmp rfl rfl (.c (.same rfl) rfl) rfl) ?_)
            rfl
          ·
            have hq0 : recsErr p x.records = 0 := Decidable.not_not.1 g37
            have hL := learn_of hp0 hq0
            have hLl := hL.len
            have hn2 : 2 ≤ x.records.length := by omega
            have htz : trimErr x.trim ((x.records.length : Int) - 1) = 0 := Decidable.not_not.1 c48
            have htr := trimErr_0 (by omega) htz
            have hop : openRecs p x.records = 0 := by rw [openRecs, if_neg (by omega), hq0]
            have hal : alErr p x.records x.trim = 0 := by rw [alErr, if_neg (by omega), if_neg (by omega), htz]
            obtain ⟨A, hA⟩ : ∃ y, y = alUp p x.records x.trim x.records.length := ⟨_, rfl⟩
            have kA : Ct Tryz.prog 35 [.agg p.cs, .sl (x.records.map Record.cs), .int .i64 x.trim] (.tup [ints A, .int .i64 0]) := ct_res (mon_AlarmsAmong (p := p) (l := x.records) (trim := x.trim)) (by rw [if_pos hal, hal, hA])
            obtain ⟨hbe, bn, bd, f1, f2, f3, f4, f5, f6, f7, f8, f9, f10⟩ := fa_frac hL hn2 htz hA
            have kB : Ct Tryz.prog 34 [.agg p.cs, .int .i64 ((x.records.length : Int) - 1), .int .i64 x.trim] (.tup [.agg (⟨bn, bd⟩ : Frac).cs, .int .i64 0]) := ct_res (mon_AlarmBound (p := p) (parts := (x.records.length : Int) - 1) (trim := x.trim)) (by rw [f1, hbe])
            obtain ⟨la, hla⟩ : ∃ y, y = (A.length : Int).tdiv (gcdT A.length x.records.length) := ⟨_, rfl⟩
            obtain ⟨ln, hln⟩ : ∃ y, y = (x.records.length : Int).tdiv (gcdT A.length x.records.length) := ⟨_, rfl⟩
            rw [← hla] at f5 f9
            rw [← hln] at f5 f10
            have m1 := mulb (A := 1000000) (B := 1000000) f9.1 f9.2 (show 0 ≤ bd by omega) f3.2
            have m2 := mulb (A := 1000000) (B := 1000000) f4.1 f4.2 f10.1 f10.2
            have kL : Ct Tryz.prog 51 [.agg (⟨bn, bd⟩ : Frac).cs] (.bool true) := ct_res (bas_IsLowest (f := ⟨bn, bd⟩) ⟨f4.1, by show bn ≤ _; omega⟩ ⟨f3.1, by show bd ≤ _; omega⟩) (ret_dT f2)
            have kS : Ct Tryz.prog 52 [.agg (⟨bn, bd⟩ : Frac).cs] (.bool true) := bas_IsSmall (f := ⟨bn, bd⟩) f4 f3
            have kLo : Ct Tryz.prog 54 [.int .i64 A.length, .int .i64 x.records.length] (.agg (⟨la, ln⟩ : Frac).cs) := ct_res (base_Lowest (a := (A.length : Int)) (b := (x.records.length : Int)) ⟨by omega, by omega⟩ ⟨by omega, by omega⟩) (by rw [← hla, ← hln])
            have kC : Ct Tryz.prog 53 [.agg (⟨la, ln⟩ : Frac).cs, .agg (⟨bn, bd⟩ : Frac).cs] (.int .i64 (if la * bd < bn * ln then -1 else if bn * ln < la * bd then 1 else 0)) := bas_Cmp (a := ⟨la, ln⟩) (b := ⟨bn, bd⟩) ⟨m1.1, Int.le_trans m1.2 (by decide)⟩ ⟨m2.1, Int.le_trans m2.2 (by decide)⟩
            have hcm : ¬ ((if la * bd < bn * ln then -1 else if bn * ln < la * bd then 1 else 0 : Int) > 0) := by split <;> omega
            clear hla hln f1
            have hhas : ∀ (i : Nat), i < x.records.length → hasN A i = isAl p x.records x.trim i := fun i hi => by rw [hA]; exact has_al _ _ _ hi
            clear hA
            have z80 : ¬ ((A.length : Int) > x.records.length) := by omega
            have z92 : ¬ ((A.length : Int) > 2 * (x.trim + 1) * (p.channels.length * p.ticks)) := by omega
            refine OK.skip ?_
            refine Ab.D.code ?_
            refine OK.seq ?_
            refine OK.regionDraw follows (.c (S.bloadN ti24 .none rfl (.tmp rfl rfl) rfl rfl rfl rfl)
              (.c (S.call (ref_CopyPlan (by omega)) Tryz.call13 .none rfl (.cons (.tmp rfl rfl) .nil) rfl)
              (.c (S.bfield fi27_0 .none rfl (.tmp rfl rfl))
              (.c (S.bload1 ti25 .none rfl (.tmp rfl rfl) rfl rfl rfl rfl)
              (.c (S.call (refM_CopyRecords (by omega) hms) Tryz.call14 .none rfl (.cons (.tmp rfl rfl) .nil) rfl)
              (.c (S.bfield fi27_1 .none rfl (.tmp rfl rfl))
              (.c (S.bload1 ti3 .none rfl (.tmp rfl rfl) rfl rfl rfl rfl)
              (.c (S.call (kA) Tryz.call35 .none rfl (.cons (.tmp rfl rfl) (.cons (.tmp rfl rfl) (.cons (.tmp rfl rfl) .nil))) rfl)
              (.c (S.move .none rfl (.tmp rfl rfl))
              (.c (S.extract .none rfl (.tmp rfl rfl) rfl rfl)
              (.c (S.extract .none rfl (.tmp rfl rfl) rfl rfl)
              (.c (S.assign .none rfl (.tmp rfl rfl))
              (.c (S.assign .none rfl (.tmp rfl rfl))
              .nil))))))))))))) (by kernel_rfl) ?_
            refine Ab.D.code ?_
            refine OK.seq ?_
            refine OK.regionDraw follows (.c (S.bloadN ti24 .none rfl (.tmp rfl rfl) rfl rfl rfl rfl)
              (.c (S.call (ref_CopyPlan (by omega)) Tryz.call13 .none rfl (.cons (.tmp rfl rfl) .nil) rfl)
              (.c (S.move .none rfl (.tmp rfl rfl))
              (.c (S.sub .none rfl (.tmp rfl rfl) (.cint rfl) (IntWalk.i64_in _ (by omega)) (IntWalk.i64_in _ (by omega)))
              (.c (S.bfield fi27_1 .none rfl (.tmp rfl rfl))
              (.c (S.bload1 ti3 .none rfl (.tmp rfl rfl) rfl rfl rfl rfl)
              (.c (S.call (kB) Tryz.call34 .none rfl (.cons (.tmp rfl rfl) (.cons (.tmp rfl rfl) (.cons (.tmp rfl rfl) .nil))) rfl)
              (.c (S.move .none rfl (.tmp rfl rfl))
              (.c (S.extract .none rfl (.tmp rfl rfl) rfl rfl)
              (.c (S.extract .none rfl (.tmp rfl rfl) rfl rfl)
              (.c (S.alloc (k := 8) ze74 rfl .none rfl)
              (.c (S.store ti74 .none (.tmp rfl rfl) (.tmp rfl rfl) rfl rfl rfl rfl rfl rfl)
              (.c (S.assign .none rfl (.tmp rfl rfl))
              .nil))))))))))))) (by kernel_rfl) ?_
            refine Ab.D.code ?_
            refine OK.seq ?_
            refine OK.seq ?_
            refine OK.regionDraw follows (.c (S.move .none rfl (.tmp rfl rfl))
              (.c (S.neq .none rfl (.tmp rfl rfl) (.cint rfl))
              (.c (S.move .none rfl (.tmp rfl rfl))
              (.c (S.move (.yes rfl rfl rfl (by decide)) rfl (.tmp rfl rfl))
              (.c (S.neq (.yes rfl rfl rfl (by decide)) rfl (.tmp rfl rfl) (.cint rfl))
              (.c (S.pickF .none rfl (.tmp rfl rfl) (.tmp rfl rfl) (by decide))
              (.c (S.move .none rfl (.tmp rfl rfl))
              (.c (S.move (.yes rfl rfl rfl (by decide)) rfl (.tmp rfl rfl))
              (.c (S.lenM si57 (.yes rfl rfl rfl (by decide)) rfl (.tmp rfl rfl))
              (.c (S.move (.yes rfl rfl rfl (by decide)) rfl (.tmp rfl rfl))
              (.c (S.gtr (.yes rfl rfl rfl (by decide)) rfl (.tmp rfl rfl) (.tmp rfl rfl))
              (.c (S.pickF .none rfl (.tmp rfl rfl) (.tmp rfl rfl) (by decide))
              (.c (S.move .none rfl (.tmp rfl rfl))
              (.c (S.move (.yes rfl rfl rfl (decide_eq_false z80)) rfl (.tmp rfl rfl))
              (.c (S.lenM si57 (.yes rfl rfl rfl (decide_eq_false z80)) rfl (.tmp rfl rfl))
              (.c (S.bfield fi27_1 (.yes rfl rfl rfl (decide_eq_false z80)) rfl (.tmp rfl rfl))
              (.c (S.bload1 ti3 (.yes rfl rfl rfl (decide_eq_false z80)) rfl (.tmp rfl rfl) rfl rfl rfl rfl)
              (.c (S.add (.yes rfl rfl rfl (decide_eq_false z80)) rfl (.tmp rfl rfl) (.cint rfl) (IntWalk.i64_in _ (by omega)) (IntWalk.i64_in _ (by omega)))
              (.c (S.mul (.yes rfl rfl rfl (decide_eq_false z80)) rfl (.cint rfl) (.tmp rfl rfl) (IntWalk.i64_in _ (by omega)) (IntWalk.i64_in _ (by omega)))
              (.c (S.bloadN ti24 (.yes rfl rfl rfl (decide_eq_false z80)) rfl (.tmp rfl rfl) rfl rfl rfl rfl)
              (.c (S.call (ref_Cells hp0) Tryz.call50 (.yes rfl rfl rfl (decide_eq_false z80)) rfl (.cons (.tmp rfl rfl) .nil) rfl)
              (.c (S.mul (.yes rfl rfl rfl (decide_eq_false z80)) rfl (.tmp rfl rfl) (.tmp rfl rfl) (IntWalk.i64_in _ (by omega)) (IntWalk.i64_in _ (by omega)))
              (.c (S.gtr (.yes rfl rfl rfl (decide_eq_false z80)) rfl (.tmp rfl rfl) (.tmp rfl rfl))
              (.c (S.pickF .none rfl (.tmp rfl rfl) (.tmp rfl rfl) (decide_eq_false z80))
              (.c (S.move .none rfl (.tmp rfl rfl))
              (.c (S.bloadN ti74 (.yes rfl rfl rfl (decide_eq_false z92)) rfl (.tmp rfl rfl) rfl rfl rfl rfl)
              (.c (S.call (kL) Tryz.call51 (.yes rfl rfl rfl (decide_eq_false z92)) rfl (.cons (.tmp rfl rfl) .nil) rfl)
              (.c (S.not (.yes rfl rfl rfl (decide_eq_false z92)) rfl (.tmp rfl rfl))
              (.c (S.pickF .none rfl (.tmp rfl rfl) (.tmp rfl rfl) (decide_eq_false z92))
              (.c (S.move .none rfl (.tmp rfl rfl))
              (.c (S.bloadN ti74 (.yes rfl rfl rfl rfl) rfl (.tmp rfl rfl) rfl rfl rfl rfl)
              (.c (S.call (kS) Tryz.call52 (.yes rfl rfl rfl rfl) rfl (.cons (.tmp rfl rfl) .nil) rfl)
              (.c (S.not (.yes rfl rfl rfl rfl) rfl (.tmp rfl rfl))
              (.c (S.pickF .none rfl (.tmp rfl rfl) (.tmp rfl rfl) rfl)
              (.c (S.move .none rfl (.tmp rfl rfl))
              (.c (S.move (.yes rfl rfl rfl rfl) rfl (.tmp rfl rfl))
              (.c (S.lenM si57 (.yes rfl rfl rfl rfl) rfl (.tmp rfl rfl))
              (.c (S.move (.yes rfl rfl rfl rfl) rfl (.tmp rfl rfl))
              (.c (S.call (kLo) Tryz.call54 (.yes rfl rfl rfl rfl) rfl (.cons (.tmp rfl rfl) (.cons (.tmp rfl rfl) .nil)) rfl)
              (.c (S.bloadN ti74 (.yes rfl rfl rfl rfl) rfl (.tmp rfl rfl) rfl rfl rfl rfl)
              (.c (S.call (kC) Tryz.call53 (.yes rfl rfl rfl rfl) rfl (.cons (.tmp rfl rfl) (.cons (.tmp rfl rfl) .nil)) rfl)
              (.c (S.gtr (.yes rfl rfl rfl rfl) rfl (.tmp rfl rfl) (.cint rfl))
              (.c (S.pickF .none rfl (.tmp rfl rfl) (.tmp rfl rfl) rfl)
              .nil))))))))))))))))))))))))))))))))))))))))))) (by kernel_rfl) ?_
            refine Ab.D.code ?_
            refine OK.condD rfl rfl (fun c112 => ?_) (fun c112 => ?_)
            ·
              exact absurd c112 hcm
            ·
              refine OK.skip ?_
              refine Ab.D.code ?_
              refine OK.seq ?_
              refine OK.seq ?_
              refine OK.reg ?_
              refine RK.c (S.assign .none rfl (.cint rfl)) ?_
              refine RK.nil ?_
              refine Ab.D.code ?_
              refine OK.block ?_
              refine OK.loop (G := Nat) [2, 3] (fun i => [(2, .ptr 2 0), (1002, .box p.cs), (3, .ptr 3 0), (1003, .box x.cs), (5, .int .i64 x.records.length), (6, ints A), (10, .int .i64 i)]) (fun i => i ≤ x.records.length) (fun i => x.records.length - i) 0 (Nat.zero_le _) ⟨rfl, rfl, rfl, rfl, rfl, rfl, rfl, trivial⟩ (fun _ => rfl) ?_
              rintro i hi
              refine OK.seq ?_
              refine OK.seq ?_
              refine OK.reg ?_
              refine RK.c (S.move .none rfl (.tmp rfl rfl)) ?_
              refine RK.c (S.move .none rfl (.tmp rfl rfl)) ?_
              refine RK.c (S.lss .none rfl (.tmp rfl rfl) (.tmp rfl rfl)) ?_
              refine RK.nil ?_
              refine Ab.D.code ?_
              refine OK.condD rfl rfl (fun c115 => ?_) (fun c115 => ?_)
              ·
                obtain ⟨v1, v2, v3⟩ := fa_verdict hL hn2 htz (show i < x.records.length by omega)
                have hha := hhas i (by omega)
                rw [← v3] at hha
                obtain ⟨Y, hY⟩ : ∃ y, y = envT p (others x.records i) x.trim := ⟨_, rfl⟩
                rw [← hY] at v2 v3 hha
                have kE : Ct Tryz.prog 12 [.agg p.cs, .sl ((x.records.take i).map Record.cs ++ (x.records.drop (i + 1)).map Record.cs), .int .i64 x.trim] (.tup [.agg Y.cs, .int .i64 0]) := by
                  rw [← List.map_append]
                  exact ct_res (mon_EnvelopeOf (p := p) (l := others x.records i) (trim := x.trim)) (by rw [envOf, if_pos v1, v1, hY])
                have kV : Ct Tryz.prog 21 [.agg p.cs, .agg Y.cs, .agg x.records[i].cs] (.tup [.int .i64 (verdT Y x.records[i]), .int .i64 0]) := ct_res (mon_VerdictOf (p := p) (x := Y) (r := x.records[i])) (by rw [v2, if_pos rfl])
                refine OK.skip ?_
                refine Ab.D.code ?_
                refine OK.seq ?_
                refine OK.block ?_
                refine OK.seq ?_
                refine OK.regionDraw follows (.c (S.bfield fi27_0 .none rfl (.tmp rfl rfl))
                  (.c (S.bload1 ti25 .none rfl (.tmp rfl rfl) rfl rfl rfl rfl)
                  (.c (S.move .none rfl (.tmp rfl rfl))
                  (.c (S.slice (hi := i) (l' := x.records.take i) si25 (fun _ => rfl) .none rfl (.tmp rfl rfl) (.inl ⟨rfl, rfl, rfl⟩) (.inr ⟨_, _, rfl, (.tmp rfl rfl), rfl⟩) (Nat.zero_le _) (by omega) rfl)
                  (.c (S.callO (k := 122) (refO_CopyRecords (l := x.records.take i) (by rw [List.length_take]; omega) (fun r h => hms r (List.mem_of_mem_take h))) Tryz.call14 .none rfl (.cons (.tmp rfl rfl) .nil) rfl (show ((x.records.take i).map Record.cs).length = i by simp; omega))
                  (.c (S.bfield fi27_0 .none rfl (.tmp rfl rfl))
                  (.c (S.bload1 ti25 .none rfl (.tmp rfl rfl) rfl rfl rfl rfl)
                  (.c (S.move .none rfl (.tmp rfl rfl))
                  (.c (S.add .none rfl (.tmp rfl rfl) (.cint rfl) (IntWalk.i64_in _ (by omega)) (IntWalk.i64_in _ (by omega)))
                  (.c (S.slice (lo := (i + 1)) (l' := x.records.drop (i + 1)) si25 (fun _ => rfl) .none rfl (.tmp rfl rfl) (.inr ⟨_, _, rfl, (.tmp rfl rfl), (by omega)⟩) (.inl ⟨rfl, rfl, rfl⟩) (by omega) (Nat.le_refl _) (by rw [List.take_length]))
                  (.c (S.call (refM_CopyRecords (l := x.records.drop (i + 1)) (by rw [List.length_drop]; omega) (fun r h => hms r (List.mem_of_mem_drop h))) Tryz.call14 .none rfl (.cons (.tmp rfl rfl) .nil) rfl)
                  (.c (S.appendSl ai25 .none rfl (.tmp rfl rfl) rfl (by simp; omega) (.tmp rfl rfl) (by intro q hq; obtain ⟨b, _, rfl⟩ := List.mem_map.1 hq; rfl) rfl (by simp only [List.length_map, List.length_drop]; omega) (by simp only [maxLen, List.length_map, List.length_drop]; omega))
                  (.c (S.assign .none rfl (.tmp rfl rfl))
                  .nil))))))))))))) (by kernel_rfl) ?_
                refine Ab.D.code ?_
                refine OK.seq ?_
                refine OK.freeze 11 rfl rfl rfl (by simp; omega) ?_
                refine OK.regionDraw follows (.c (S.bloadN ti24 .none rfl (.tmp rfl rfl) rfl rfl rfl rfl)
                  (.c (S.call (ref_CopyPlan (by omega)) Tryz.call13 .none rfl (.cons (.tmp rfl rfl) .nil) rfl)
                  (.c (S.move .none rfl (.tmp rfl rfl))
                  (.c (S.bfield fi27_1 .none rfl (.tmp rfl rfl))
                  (.c (S.bload1 ti3 .none rfl (.tmp rfl rfl) rfl rfl rfl rfl)
                  (.c (S.call (kE) Tryz.call12 .none rfl (.cons (.tmp rfl rfl) (.cons (.tmp rfl rfl) (.cons (.tmp rfl rfl) .nil))) rfl)
                  (.c (S.move .none rfl (.tmp rfl rfl))
                  (.c (S.extract .none rfl (.tmp rfl rfl) rfl rfl)
                  (.c (S.extract .none rfl (.tmp rfl rfl) rfl rfl)
                  (.c (S.alloc (k := 12) ze33 rfl .none rfl)
                  (.c (S.store ti33 .none (.tmp rfl rfl) (.tmp rfl rfl) rfl rfl rfl rfl rfl rfl)
                  (.c (S.assign .none rfl (.tmp rfl rfl))
                  .nil)))))))))))) (by kernel_rfl) ?_
                refine Ab.D.code ?_
                refine OK.seq ?_
                refine OK.regionDraw follows (.c (S.bloadN ti24 .none rfl (.tmp rfl rfl) rfl rfl rfl rfl)
                  (.c (S.call (ref_CopyPlan (by omega)) Tryz.call13 .none rfl (.cons (.tmp rfl rfl) .nil) rfl)
                  (.c (S.bloadN ti33 .none rfl (.tmp rfl rfl) rfl rfl rfl rfl)
                  (.c (S.bfield fi27_0 .none rfl (.tmp rfl rfl))
                  (.c (S.bload1 ti25 .none rfl (.tmp rfl rfl) rfl rfl rfl rfl)
                  (.c (S.move .none rfl (.tmp rfl rfl))
                  (.c (S.indexM si25 .none rfl (.tmp rfl rfl) (.tmp rfl rfl) rfl (by omega) rfl)
                  (.c (S.loadN ti51 .none rfl (.tmp rfl rfl) rfl rfl)
                  (.c (S.call (ref_CopyRecord (by have := hr2 i (by omega); omega) (fun k h2 => by have := hr3 i (by omega) k h2; omega)) Tryz.call23 .none rfl (.cons (.tmp rfl rfl) .nil) rfl)
                  (.c (S.call (kV) Tryz.call21 .none rfl (.cons (.tmp rfl rfl) (.cons (.tmp rfl rfl) (.cons (.tmp rfl rfl) .nil))) rfl)
                  (.c (S.move .none rfl (.tmp rfl rfl))
                  (.c (S.extract .none rfl (.tmp rfl rfl) rfl rfl)
                  (.c (S.extract .none rfl (.tmp rfl rfl) rfl rfl)
                  (.c (S.assign .none rfl (.tmp rfl rfl))
                  (.c (S.assign .none rfl (.tmp rfl rfl))
                  .nil))))))))))))))) (by kernel_rfl) ?_
                refine Ab.D.code ?_
                refine OK.seq ?_
                refine OK.reg ?_
                refine RK.c (S.move .none rfl (.tmp rfl rfl)) ?_
                refine RK.c (S.neq .none rfl (.tmp rfl rfl) (.cint rfl)) ?_
                refine RK.c (S.move .none rfl (.tmp rfl rfl)) ?_
                refine RK.splitD (t := 154) rfl (fun g154 => ?_) (fun g154 => ?_)
                ·
                  exact absurd rfl g154
                ·
                  refine RK.c (S.move (.yes rfl rfl rfl rfl) rfl (.tmp rfl rfl)) ?_
                  refine RK.c (S.neq (.yes rfl rfl rfl rfl) rfl (.tmp rfl rfl) (.cint rfl)) ?_
                  refine RK.c (S.pickF .none rfl (.tmp rfl rfl) (.tmp rfl rfl) rfl) ?_
                  refine RK.c (S.move .none rfl (.tmp rfl rfl)) ?_
                  refine RK.splitD (t := 158) rfl (fun g158 => ?_) (fun g158 => ?_)
                  ·
                    exact absurd rfl g158
                  ·
                    refine RK.c (S.move (.yes rfl rfl rfl rfl) rfl (.tmp rfl rfl)) ?_
                    refine RK.c (S.eql (.yes rfl rfl rfl rfl) rfl (.tmp rfl rfl) (.cint rfl)) ?_
                    refine RK.c (S.move (.yes rfl rfl rfl rfl) rfl (.tmp rfl rfl)) ?_
                    refine RK.c (S.move (.yes rfl rfl rfl rfl) rfl (.tmp rfl rfl)) ?_
                    refine RK.c (S.call (bas_Has) Tryz.call55 (.yes rfl rfl rfl rfl) rfl (.cons (.tmp rfl rfl) (.cons (.tmp rfl rfl) .nil)) rfl) ?_
                    refine RK.c (S.bneq Tryz.underlying4 (.yes rfl rfl rfl rfl) rfl (.tmp rfl rfl) (.tmp rfl rfl)) ?_
                    refine RK.c (S.pickF .none rfl (.tmp rfl rfl) (.tmp rfl rfl) rfl) ?_
                    refine RK.nil ?_
                    refine Ab.D.code ?_
                    refine OK.condD rfl rfl (fun c165 => ?_) (fun c165 => ?_)
                    ·
                      exfalso
                      exact c165 hha.symm
                    ·
                      refine OK.skip ?_
                      refine Ab.D.blk ?_
                      refine Ab.D.code ?_
                      refine OK.reg ?_
                      refine RK.c (S.move .none rfl (.tmp rfl rfl)) ?_
                      refine RK.c (S.add .none rfl (.tmp rfl rfl) (.cint rfl) (IntWalk.i64_in _ (by omega)) (IntWalk.i64_in _ (by omega))) ?_
                      refine RK.c (S.assign .none rfl (.tmp rfl rfl)) ?_
                      refine RK.nil ?_
                      refine Ab.D.lp ⟨i + 1, (by omega), (by omega), rfl, rfl, rfl, rfl, rfl, rfl, rfl, trivial⟩
              ·
                refine OK.exit rfl ?_
                refine Ab.D.code ?_
                refine OK.seq ?_
                refine OK.reg ?_
                refine RK.c (S.assign .none rfl .cbool) ?_
                refine RK.nil ?_
                refine Ab.D.code ?_
                refine OK.ret (Ret.r1 (.tmp rfl rfl (.c (.same rfl) rfl) rfl) ?_)
                rfl

end Go.Proofs.YtfjldfkgjejpmaaGreat
