/-
  Drifts: sums of drift, the first drift, by both texts; the law.
-/
import Derived.Test.YtfjldfkgjejpmaaSh
import Derived.Test.YtfjldfkgjejpmaaFt
import Derived.Test.YtfjldfkgjejpmaaWp
namespace Go.Proofs.Ytfjldfkgjejpmaa
open Go.Ab

theorem lk_int {a b : Int} (h : a = b) : some (X.int .i64 a) = some (X.int .i64 b) := by rw [h]
theorem lk_box2 {a b c d : Int} (h : a = c) (h2 : b = d) : some (X.box [.int .i64 a, .int .i64 b]) = some (X.box [.int .i64 c, .int .i64 d]) := by rw [h, h2]
def bestGo (f : Int → Int) : Int × Int → List Int → Int × Int
  | q, [] => q
  | q, x :: l => bestGo f (q.1 + f x, if q.2 < q.1 + f x then q.1 + f x else q.2) l
def cus (f : Int → Int) : Int → List Int → Int
  | s, [] => s
  | s, x :: l => cus f (pos0 (s + f x)) l
theorem cus_snoc (f : Int → Int) (x : Int) : ∀ (l : List Int) (s : Int), cus f s (l ++ [x]) = pos0 (cus f s l + f x)
  | [], _ => rfl
  | y :: l, s => by rw [List.cons_append, cus, cus_snoc f x l, cus]
theorem best_pos (f : Int → Int) : ∀ (l : List Int) (u m : Int), 0 ≤ m → 0 ≤ (bestGo f (u, m) l).2
  | [], _, _, h => h
  | x :: l, u, m, h => by
    simp only [bestGo]
    exact best_pos f l _ _ (by split <;> omega)
theorem best_shift (f : Int → Int) : ∀ (l : List Int) (u m : Int), u ≤ m → (bestGo f (u, m) l).2 = if m < u + (bestGo f (0, 0) l).2 then u + (bestGo f (0, 0) l).2 else m
  | [], u, m, h => by
    show m = if m < u + 0 then u + 0 else m
    rw [if_neg (by omega)]
  | x :: l, u, m, h => by
    simp only [bestGo]
    have h1 := best_shift f l (u + f x) (if m < u + f x then u + f x else m) (by split <;> omega)
    have h2 := best_shift f l (0 + f x) (if 0 < 0 + f x then 0 + f x else 0) (by split <;> omega)
    have h0 : 0 ≤ (bestGo f (0, 0) l).2 := best_pos f l 0 0 (Int.le_refl 0)
    rw [h1, h2]
    split <;> split <;> split <;> split <;> omega
theorem best_cus (f : Int → Int) : ∀ (n : Nat) (l : List Int), l.length = n → (bestGo f (0, 0) l).2 = cus f 0 l.reverse
  | 0, l, h => by
    have : l = [] := List.eq_nil_of_length_eq_zero h
    subst this
    rfl
  | n + 1, l, h => by
    cases l with
    | nil => simp at h
    | cons x l =>
      simp only [bestGo]
      rw [best_shift f l _ _ (by split <;> omega), List.reverse_cons, cus_snoc, ← best_cus f n l (by simpa using h)]
      have h0 : 0 ≤ (bestGo f (0, 0) l).2 := best_pos f l 0 0 (Int.le_refl 0)
      unfold pos0
      split <;> split <;> split <;> omega
def upF (r : Rule) (x : Int) : Int := x - r.target - r.slack
def downF (r : Rule) (x : Int) : Int := r.target - x - r.slack
theorem sums_get (r : Rule) : ∀ (l : List Int) (s : Int × Int) (i : Nat) (h : i < l.length), (sumsGo r s l)[i]? = some (cus (upF r) s.1 (l.take (i + 1)), cus (downF r) s.2 (l.take (i + 1)))
  | [], _, _, h => by simp at h
  | x :: l, s, i, h => by
    have hs : sumStep r s x = (pos0 (s.1 + upF r x), pos0 (s.2 + downF r x)) := by
      simp only [sumStep, upF, downF]
      refine Prod.ext ?_ ?_
      · show pos0 _ = pos0 _
        congr 1; omega
      · show pos0 _ = pos0 _
        congr 1; omega
    rw [sumsGo]
    cases i with
    | zero => simp [cus, hs]
    | succ i =>
      rw [List.getElem?_cons_succ, sums_get r l _ i (by simpa using h), List.take_succ_cons, cus, cus, hs]
def bestAt (r : Rule) (l : List Int) (i : Nat) : Int × Int := ((bestGo (upF r) (0, 0) (l.take (i + 1)).reverse).2, (bestGo (downF r) (0, 0) (l.take (i + 1)).reverse).2)
theorem sums_best {r : Rule} {l : List Int} {i : Nat} (h : i < l.length) : (sumsT r l)[i]? = some (bestAt r l i) := by
  rw [sumsT, sums_get r l (0, 0) i h, bestAt, best_cus _ _ _ rfl, best_cus _ _ _ rfl, List.reverse_reverse]
theorem bestGo_snoc (f : Int → Int) (x : Int) : ∀ (l : List Int) (q : Int × Int), bestGo f q (l ++ [x]) = ((bestGo f q l).1 + f x, if (bestGo f q l).2 < (bestGo f q l).1 + f x then (bestGo f q l).1 + f x else (bestGo f q l).2)
  | [], _ => rfl
  | y :: l, q => by rw [List.cons_append, bestGo, bestGo_snoc f x l, bestGo]
theorem best_bd {f : Int → Int} {A : Int} (hA : 0 ≤ A) : ∀ (l : List Int) (u m : Int) (n : Nat), (∀ x ∈ l, -A ≤ f x ∧ f x ≤ A) → -A * n ≤ u ∧ u ≤ A * n → 0 ≤ m ∧ m ≤ A * n →
    (-A * ((n + l.length : Nat) : Int) ≤ (bestGo f (u, m) l).1 ∧ (bestGo f (u, m) l).1 ≤ A * ((n + l.length : Nat) : Int)) ∧ 0 ≤ (bestGo f (u, m) l).2 ∧ (bestGo f (u, m) l).2 ≤ A * ((n + l.length : Nat) : Int)
  | [], u, m, n, _, h1, h2 => ⟨h1, h2⟩
  | x :: l, u, m, n, h, h1, h2 => by
    have hx := h x List.mem_cons_self
    have e : ((n + 1 : Nat) : Int) = n + 1 := by omega
    have e1 : A * ((n + 1 : Nat) : Int) = A * n + A := by rw [e, Int.mul_add, Int.mul_one]
    have e2 : -A * ((n + 1 : Nat) : Int) = -A * n - A := by rw [e, Int.mul_add, Int.mul_one, Int.sub_eq_add_neg]
    simp only [bestGo]
    have := best_bd hA l (u + f x) (if m < u + f x then u + f x else m) (n + 1) (fun y hy => h y (List.mem_cons_of_mem _ hy)) (by rw [e1, e2]; omega) (by rw [e1]; split <;> omega)
    have e3 : n + (x :: l).length = n + 1 + l.length := by simp; omega
    rw [e3]
    exact this
/-- What the inner loop of the reference has after j of the tests up to i, the last one first. -/
def inner (r : Rule) (l : List Int) (i j : Nat) : (Int × Int) × (Int × Int) := (bestGo (upF r) (0, 0) ((l.take (i + 1)).reverse.take j), bestGo (downF r) (0, 0) ((l.take (i + 1)).reverse.take j))
theorem rev_get {l : List Int} {i j : Nat} (hi : i < l.length) (hj : j < i + 1) : (l.take (i + 1)).reverse.take (j + 1) = (l.take (i + 1)).reverse.take j ++ [l[i - j]'(by omega)] := by
  have hlen : (l.take (i + 1)).length = i + 1 := by simp; omega
  rw [List.take_succ_eq_append_getElem (by simp; omega)]
  congr 2
  rw [List.getElem_reverse]
  simp only [List.getElem_take, hlen]
  congr 1
theorem inner_bd {r : Rule} {l : List Int} (hr : ruleErr r = 0) (hl : l.length ≤ 40) (hv : ∀ (i : Nat) (hi : i < l.length), -1000000 ≤ l[i] ∧ l[i] ≤ 1000000) (i j : Nat) :
    ((-120000000 ≤ (inner r l i j).1.1 ∧ (inner r l i j).1.1 ≤ 120000000) ∧ 0 ≤ (inner r l i j).1.2 ∧ (inner r l i j).1.2 ≤ 120000000) ∧ (-120000000 ≤ (inner r l i j).2.1 ∧ (inner r l i j).2.1 ≤ 120000000) ∧ 0 ≤ (inner r l i j).2.2 ∧ (inner r l i j).2.2 ≤ 120000000 := by
  have hrb := ruleErr_0 hr
  have hm : ∀ x ∈ (l.take (i + 1)).reverse.take j, -1000000 ≤ x ∧ x ≤ 1000000 := by
    intro x hx
    have h1 := List.mem_of_mem_take hx
    rw [List.mem_reverse] at h1
    have h2 := List.mem_of_mem_take h1
    obtain ⟨k, hk, rfl⟩ := List.getElem_of_mem h2
    exact hv k hk
  have hln : ((l.take (i + 1)).reverse.take j).length ≤ 40 := by
    simp only [List.length_take, List.length_reverse]
    omega
  have h1 := best_bd (f := upF r) (A := 3000000) (by omega) _ 0 0 0 (fun x hx => by have := hm x hx; unfold upF; omega) (by simp) (by simp)
  have h2 := best_bd (f := downF r) (A := 3000000) (by omega) _ 0 0 0 (fun x hx => by have := hm x hx; unfold downF; omega) (by simp) (by simp)
  simp only [inner]
  generalize ((l.take (i + 1)).reverse.take j).length = n at h1 h2 hln
  simp only [Nat.zero_add] at h1 h2
  omega
theorem driftGo_cases (lim : Int) : ∀ (l : List (Int × Int)) (i : Nat), (driftGo lim i l).2.2 = 0 ∨ driftGo lim i l = (0, 0, 12)
  | [], _ => .inr rfl
  | s :: l, i => by
    rw [driftGo]
    split
    · exact .inl rfl
    · split
      · exact .inl rfl
      · exact driftGo_cases lim l (i + 1)
def driftX (q : Int × Int × Int) : X := .tup [.int .i64 q.1, .int .i64 q.2.1, .bool (decide (q.2.2 = 0))]
theorem ret_x {a b : Int} {c : Bool} {q : Int × Int × Int} (h1 : a = q.1) (h2 : b = q.2.1) (h3 : c = decide (q.2.2 = 0)) : X.tup [.int .i64 a, .int .i64 b, .bool c] = driftX q := by rw [h1, h2, h3]; rfl
theorem p2_ext {x y : Int × Int} (h : [x.1, x.2] = [y.1, y.2]) : x = y := by
  obtain ⟨a, b⟩ := x; obtain ⟨c, d⟩ := y; simp at h; simp [h]

theorem mon_SumsOf {r : Rule} {l : List Int} : Ct Try.prog 18 [.agg r.cs, ints l] (.tup [.sl ((if openErr r l = 0 then sumsT r l else []).map p2), .int .i64 (openErr r l)]) := by
  refine Ct.intro (rs := [.tmp 4, .tmp 5]) Try.func18 rfl Try.ntmps18 Try.results18 rfl rfl rfl fun w h => ?_
  refine OK.seq ?_
  refine OK.reg ?_
  refine RK.c (S.box (k := 2) rfl .none rfl (.tmp rfl rfl) rfl) ?_
  refine RK.c (S.assign .none rfl .cnil) ?_
  refine RK.c (S.assign .none rfl (.cint rfl)) ?_
  refine RK.nil ?_
  refine Ab.D.code ?_
  refine OK.seq ?_
  refine OK.seq ?_
  refine OK.reg ?_
  refine RK.c (S.bloadN ti39 .none rfl (.tmp rfl rfl) rfl rfl rfl rfl) ?_
  refine RK.c (S.move .none rfl (.tmp rfl rfl)) ?_
  refine RK.c (S.call (mon_openTests) Try.call66 .none rfl (.cons (.tmp rfl rfl) (.cons (.tmp rfl rfl) .nil)) rfl) ?_
  refine RK.c (S.assign .none rfl (.tmp rfl rfl)) ?_
  refine RK.nil ?_
  refine Ab.D.code ?_
  refine OK.seq ?_
  refine OK.reg ?_
  refine RK.c (S.move .none rfl (.tmp rfl rfl)) ?_
  refine RK.c (S.neq .none rfl (.tmp rfl rfl) (.cint rfl)) ?_
  refine RK.nil ?_
  refine Ab.D.code ?_
  refine OK.condD rfl rfl (fun c11 => ?_) (fun c11 => ?_)
  ·
    refine OK.seq ?_
    refine OK.reg ?_
    refine RK.c (S.move .none rfl (.tmp rfl rfl)) ?_
    refine RK.c (S.assign .none rfl .cnil) ?_
    refine RK.c (S.assign .none rfl (.tmp rfl rfl)) ?_
    refine RK.nil ?_
    refine Ab.D.code ?_
    refine OK.ret (Ret.r2 (.tmp rfl rfl (.c (.same rfl) rfl) rfl) (.tmp rfl rfl (.c (.same rfl) rfl) rfl) ?_)
    rw [if_neg (show ¬ openErr r l = 0 from c11)]
    rfl
  ·
    have he : openErr r l = 0 := Decidable.not_not.1 c11
    refine OK.skip ?_
    refine Ab.D.code ?_
    refine OK.seq ?_
    refine OK.reg ?_
    refine RK.c (S.bloadN ti39 .none rfl (.tmp rfl rfl) rfl rfl rfl rfl) ?_
    refine RK.c (S.move .none rfl (.tmp rfl rfl)) ?_
    refine RK.c (S.call (mon_sums (openErr_0 he).1 (openErr_0 he).2) Try.call67 .none rfl (.cons (.tmp rfl rfl) (.cons (.tmp rfl rfl) .nil)) rfl) ?_
    refine RK.c (S.assign .none rfl (.tmp rfl rfl)) ?_
    refine RK.c (S.assign .none rfl (.cint rfl)) ?_
    refine RK.nil ?_
    refine Ab.D.code ?_
    refine OK.ret (Ret.r2 (.tmp rfl rfl (.c (.same rfl) rfl) rfl) (.tmp rfl rfl (.c (.same rfl) rfl) rfl) ?_)
    rw [if_pos he, he]

theorem ref_RuleErr {r : Rule} : Ct Try.prog 20 [.agg r.cs] (.int .i64 (ruleErr r)) := by
  refine Ct.intro (rs := [.tmp 2]) Try.func20 rfl Try.ntmps20 Try.results20 rfl rfl rfl fun w h => ?_
  refine OK.seq ?_
  refine OK.reg ?_
  refine RK.c (S.box (k := 1) rfl .none rfl (.tmp rfl rfl) rfl) ?_
  refine RK.c (S.assign .none rfl (.cint rfl)) ?_
  refine RK.nil ?_
  refine Ab.D.code ?_
  refine OK.seq ?_
  refine OK.seq ?_
  refine OK.reg ?_
  refine RK.c (S.bfield fi39_0 .none rfl (.tmp rfl rfl)) ?_
  refine RK.c (S.bload1 ti3 .none rfl (.tmp rfl rfl) rfl rfl rfl rfl) ?_
  refine RK.c (S.call (ref_isValue) Try.call68 .none rfl (.cons (.tmp rfl rfl) .nil) rfl) ?_
  refine RK.c (S.notD .none rfl (.tmp rfl rfl)) ?_
  refine RK.c (S.move .none rfl (.tmp rfl rfl)) ?_
  refine RK.splitD (t := 7) rfl (fun g7 => ?_) (fun g7 => ?_)
  ·
    refine RK.c (S.skip rfl rfl rfl rfl rfl) ?_
    refine RK.c (S.skip rfl rfl rfl rfl rfl) ?_
    refine RK.c (S.skip rfl rfl rfl rfl rfl) ?_
    refine RK.c (S.skip rfl rfl rfl rfl rfl) ?_
    refine RK.c (S.pickT .none rfl (.tmp rfl rfl) .cbool rfl) ?_
    refine RK.c (S.move .none rfl (.tmp rfl rfl)) ?_
    refine RK.c (S.skip rfl rfl rfl rfl rfl) ?_
    refine RK.c (S.skip rfl rfl rfl rfl rfl) ?_
    refine RK.c (S.skip rfl rfl rfl rfl rfl) ?_
    refine RK.c (S.skip rfl rfl rfl rfl rfl) ?_
    refine RK.c (S.pickT .none rfl (.tmp rfl rfl) .cbool rfl) ?_
    refine RK.nil ?_
    refine Ab.D.code ?_
    refine OK.condT rfl rfl rfl ?_
    refine OK.seq ?_
    refine OK.reg ?_
    refine RK.c (S.assign .none rfl (.cint rfl)) ?_
    refine RK.nil ?_
    refine Ab.D.code ?_
    refine OK.ret (Ret.r1 (.tmp rfl rfl (.c (.same rfl) rfl) rfl) ?_)
    refine ret_i ?_
    unfold ruleErr
    (repeat' split) <;> omega
  ·
    refine RK.c (S.bfield fi39_1 (.yes rfl rfl rfl rfl) rfl (.tmp rfl rfl)) ?_
    refine RK.c (S.bload1 ti3 (.yes rfl rfl rfl rfl) rfl (.tmp rfl rfl) rfl rfl rfl rfl) ?_
    refine RK.c (S.call (base_Within) Try.call45 (.yes rfl rfl rfl rfl) rfl (.cons (.tmp rfl rfl) (.cons (.cint rfl) (.cons (.cint rfl) .nil))) rfl) ?_
    refine RK.c (S.notD (.yes rfl rfl rfl rfl) rfl (.tmp rfl rfl)) ?_
    refine RK.c (S.pickF .none rfl (.tmp rfl rfl) (.tmp rfl rfl) rfl) ?_
    refine RK.c (S.move .none rfl (.tmp rfl rfl)) ?_
    refine RK.splitD (t := 13) rfl (fun g13 => ?_) (fun g13 => ?_)
    ·
      refine RK.c (S.skip rfl rfl rfl rfl rfl) ?_
      refine RK.c (S.skip rfl rfl rfl rfl rfl) ?_
      refine RK.c (S.skip rfl rfl rfl rfl rfl) ?_
      refine RK.c (S.skip rfl rfl rfl rfl rfl) ?_
      refine RK.c (S.pickT .none rfl (.tmp rfl rfl) .cbool rfl) ?_
      refine RK.nil ?_
      refine Ab.D.code ?_
      refine OK.condT rfl rfl rfl ?_
      refine OK.seq ?_
      refine OK.reg ?_
      refine RK.c (S.assign .none rfl (.cint rfl)) ?_
      refine RK.nil ?_
      refine Ab.D.code ?_
      refine OK.ret (Ret.r1 (.tmp rfl rfl (.c (.same rfl) rfl) rfl) ?_)
      refine ret_i ?_
      unfold ruleErr
      (repeat' split) <;> omega
    ·
      refine RK.c (S.bfield fi39_2 (.yes rfl rfl rfl rfl) rfl (.tmp rfl rfl)) ?_
      refine RK.c (S.bload1 ti3 (.yes rfl rfl rfl rfl) rfl (.tmp rfl rfl) rfl rfl rfl rfl) ?_
      refine RK.c (S.call (base_Within) Try.call45 (.yes rfl rfl rfl rfl) rfl (.cons (.tmp rfl rfl) (.cons (.cint rfl) (.cons (.cint rfl) .nil))) rfl) ?_
      refine RK.c (S.notD (.yes rfl rfl rfl rfl) rfl (.tmp rfl rfl)) ?_
      refine RK.c (S.pickF .none rfl (.tmp rfl rfl) (.tmp rfl rfl) rfl) ?_
      refine RK.nil ?_
      refine Ab.D.code ?_
      refine OK.condD rfl rfl (fun c18 => ?_) (fun c18 => ?_)
      ·
        refine OK.seq ?_
        refine OK.reg ?_
        refine RK.c (S.assign .none rfl (.cint rfl)) ?_
        refine RK.nil ?_
        refine Ab.D.code ?_
        refine OK.ret (Ret.r1 (.tmp rfl rfl (.c (.same rfl) rfl) rfl) ?_)
        refine ret_i ?_
        unfold ruleErr
        (repeat' split) <;> omega
      ·
        refine OK.skip ?_
        refine Ab.D.code ?_
        refine OK.seq ?_
        refine OK.reg ?_
        refine RK.c (S.assign .none rfl (.cint rfl)) ?_
        refine RK.nil ?_
        refine Ab.D.code ?_
        refine OK.ret (Ret.r1 (.tmp rfl rfl (.c (.same rfl) rfl) rfl) ?_)
        refine ret_i ?_
        unfold ruleErr
        (repeat' split) <;> omega

theorem ref_TestsErr {l : List Int} : Ct Try.prog 21 [ints l] (.int .i64 (testsErr l)) := by
  refine Ct.intro (rs := [.tmp 2]) Try.func21 rfl Try.ntmps21 Try.results21 rfl rfl rfl fun w h => ?_
  refine OK.seq ?_
  refine OK.reg ?_
  refine RK.c (S.assign .none rfl (.cint rfl)) ?_
  refine RK.nil ?_
  refine Ab.D.code ?_
  refine OK.seq ?_
  refine OK.seq ?_
  refine OK.reg ?_
  refine RK.c (S.move .none rfl (.tmp rfl rfl)) ?_
  refine RK.c (S.lenM si23 .none rfl (.tmp rfl rfl)) ?_
  refine RK.c (S.gtr .none rfl (.tmp rfl rfl) (.cint rfl)) ?_
  refine RK.nil ?_
  refine Ab.D.code ?_
  refine OK.condD rfl rfl (fun c6 => ?_) (fun c6 => ?_)
  ·
    refine OK.seq ?_
    refine OK.reg ?_
    refine RK.c (S.assign .none rfl (.cint rfl)) ?_
    refine RK.nil ?_
    refine Ab.D.code ?_
    refine OK.ret (Ret.r1 (.tmp rfl rfl (.c (.same rfl) rfl) rfl) ?_)
    refine ret_i ?_
    rw [testsErr, if_pos (by omega)]
  ·
    refine OK.skip ?_
    refine Ab.D.code ?_
    refine OK.seq ?_
    refine OK.seq ?_
    refine OK.reg ?_
    refine RK.c (S.assign .none rfl (.cint rfl)) ?_
    refine RK.nil ?_
    refine Ab.D.code ?_
    refine OK.block ?_
    refine OK.loop (G := Nat) [] (fun i => [(0, ints l), (3, .int .i64 i)]) (fun i => i ≤ l.length ∧ l.all isVal = (l.drop i).all isVal) (fun i => l.length - i) 0 ⟨Nat.zero_le _, rfl⟩ ⟨rfl, rfl, trivial⟩ (fun _ => rfl) ?_
    rintro i ⟨hi, hg⟩
    refine OK.seq ?_
    refine OK.seq ?_
    refine OK.reg ?_
    refine RK.c (S.move .none rfl (.tmp rfl rfl)) ?_
    refine RK.c (S.move .none rfl (.tmp rfl rfl)) ?_
    refine RK.c (S.lenM si23 .none rfl (.tmp rfl rfl)) ?_
    refine RK.c (S.lss .none rfl (.tmp rfl rfl) (.tmp rfl rfl)) ?_
    refine RK.nil ?_
    refine Ab.D.code ?_
    refine OK.condD rfl rfl (fun c10 => ?_) (fun c10 => ?_)
    ·
      refine OK.skip ?_
      refine Ab.D.code ?_
      refine OK.seq ?_
      refine OK.block ?_
      refine OK.seq ?_
      refine OK.reg ?_
      refine RK.c (S.move .none rfl (.tmp rfl rfl)) ?_
      refine RK.c (S.move .none rfl (.tmp rfl rfl)) ?_
      refine RK.c (S.indexM si23 .none rfl (.tmp rfl rfl) (.tmp rfl rfl) rfl (by omega) rfl) ?_
      refine RK.c (S.load1 ti3 .none rfl (.tmp rfl rfl) rfl) ?_
      refine RK.c (S.call (ref_isValue) Try.call68 .none rfl (.cons (.tmp rfl rfl) .nil) rfl) ?_
      refine RK.c (S.notD .none rfl (.tmp rfl rfl)) ?_
      refine RK.nil ?_
      refine Ab.D.code ?_
      refine OK.condD rfl rfl (fun c18 => ?_) (fun c18 => ?_)
      ·
        refine OK.seq ?_
        refine OK.reg ?_
        refine RK.c (S.assign .none rfl (.cint rfl)) ?_
        refine RK.nil ?_
        refine Ab.D.code ?_
        refine OK.ret (Ret.r1 (.tmp rfl rfl (.c (.same rfl) rfl) rfl) ?_)
        refine ret_i ?_
        rw [testsErr, if_neg (by omega), hg, all_drop _ (by omega), show isVal l[i] = false from decide_eq_false (by omega), Bool.false_and]
        rfl
      ·
        refine OK.skip ?_
        refine Ab.D.blk ?_
        refine Ab.D.code ?_
        refine OK.reg ?_
        refine RK.c (S.move .none rfl (.tmp rfl rfl)) ?_
        refine RK.c (S.add .none rfl (.tmp rfl rfl) (.cint rfl) (IntWalk.i64_in _ (by omega)) (IntWalk.i64_in _ (by omega))) ?_
        refine RK.c (S.assign .none rfl (.tmp rfl rfl)) ?_
        refine RK.nil ?_
        refine Ab.D.lp ⟨i + 1, ⟨by omega, ?_⟩, (by omega), rfl, rfl, trivial⟩
        rw [hg, all_drop _ (by omega), show isVal l[i] = true from decide_eq_true (by omega), Bool.true_and]
    ·
      refine OK.exit rfl ?_
      refine Ab.D.code ?_
      refine OK.seq ?_
      refine OK.reg ?_
      refine RK.c (S.assign .none rfl (.cint rfl)) ?_
      refine RK.nil ?_
      refine Ab.D.code ?_
      refine OK.ret (Ret.r1 (.tmp rfl rfl (.c (.same rfl) rfl) rfl) ?_)
      refine ret_i ?_
      rw [testsErr, if_neg (by omega), hg, show i = l.length by omega, List.drop_length]
      rfl

theorem ref_SameSums {a b : List (Int × Int)} : Ct Try.prog 22 [.sl (a.map p2), .sl (b.map p2)] (.bool (decide (a = b))) := by
  refine Ct.intro (rs := [.tmp 4]) Try.func22 rfl Try.ntmps22 Try.results22 rfl rfl rfl fun w h => ?_
  refine OK.slLen (rows := a.map p2) (t := 0) rfl rfl fun hlen => ?_
  rw [List.length_map] at hlen
  unfold maxLen at hlen
  refine OK.seq ?_
  refine OK.reg ?_
  refine RK.c (S.assign .none rfl .cbool) ?_
  refine RK.nil ?_
  refine Ab.D.code ?_
  refine OK.seq ?_
  refine OK.seq ?_
  refine OK.reg ?_
  refine RK.c (S.move .none rfl (.tmp rfl rfl)) ?_
  refine RK.c (S.lenM si40 .none rfl (.tmp rfl rfl)) ?_
  refine RK.c (S.move .none rfl (.tmp rfl rfl)) ?_
  refine RK.c (S.lenM si40 .none rfl (.tmp rfl rfl)) ?_
  refine RK.c (S.neq .none rfl (.tmp rfl rfl) (.tmp rfl rfl)) ?_
  refine RK.nil ?_
  refine Ab.D.code ?_
  refine OK.condD rfl rfl (fun c10 => ?_) (fun c10 => ?_)
  ·
    refine OK.seq ?_
    refine OK.reg ?_
    refine RK.c (S.assign .none rfl .cbool) ?_
    refine RK.nil ?_
    refine Ab.D.code ?_
    refine OK.ret (Ret.r1 (.tmp rfl rfl (.c (.same rfl) rfl) rfl) ?_)
    exact ret_F (fun e => c10 (by rw [e]))
  ·
    have hl : a.length = b.length := by omega
    refine OK.skip ?_
    refine Ab.D.code ?_
    refine OK.seq ?_
    refine OK.seq ?_
    refine OK.reg ?_
    refine RK.c (S.assign .none rfl (.cint rfl)) ?_
    refine RK.nil ?_
    refine Ab.D.code ?_
    refine OK.block ?_
    refine OK.loop (G := Nat) [] (fun i => [(0, .sl (a.map p2)), (1, .sl (b.map p2)), (5, .int .i64 i)]) (fun i => i ≤ a.length ∧ a.take i = b.take i) (fun i => a.length - i) 0 ⟨Nat.zero_le _, rfl⟩ ⟨rfl, rfl, rfl, trivial⟩ (fun _ => rfl) ?_
    rintro i ⟨hi, ht⟩
    refine OK.seq ?_
    refine OK.seq ?_
    refine OK.reg ?_
    refine RK.c (S.move .none rfl (.tmp rfl rfl)) ?_
    refine RK.c (S.move .none rfl (.tmp rfl rfl)) ?_
    refine RK.c (S.lenM si40 .none rfl (.tmp rfl rfl)) ?_
    refine RK.c (S.lss .none rfl (.tmp rfl rfl) (.tmp rfl rfl)) ?_
    refine RK.nil ?_
    refine Ab.D.code ?_
    refine OK.condD rfl rfl (fun c14 => ?_) (fun c14 => ?_)
    ·
      refine OK.skip ?_
      refine Ab.D.code ?_
      refine OK.seq ?_
      refine OK.block ?_
      refine OK.seq ?_
      refine OK.regionDraw follows (.c (S.move .none rfl (.tmp rfl rfl))
        (.c (S.move .none rfl (.tmp rfl rfl))
        (.c (S.indexM si40 .none rfl (.tmp rfl rfl) (.tmp rfl rfl) rfl (by omega) rfl)
        (.c (S.loadN ti124 .none rfl (.tmp rfl rfl) rfl rfl)
        (.c (S.move .none rfl (.tmp rfl rfl))
        (.c (S.move .none rfl (.tmp rfl rfl))
        (.c (S.indexM si40 .none rfl (.tmp rfl rfl) (.tmp rfl rfl) rfl (by omega) rfl)
        (.c (S.loadN ti124 .none rfl (.tmp rfl rfl) rfl rfl)
        (.c (S.aneq [a[i].1, a[i].2] [b[i].1, b[i].2] eq124 .none rfl (.tmp rfl rfl) (.tmp rfl rfl) rfl rfl rfl rfl)
        .nil))))))))) (by kernel_rfl) ?_
      refine Ab.D.code ?_
      refine OK.condD rfl rfl (fun c25 => ?_) (fun c25 => ?_)
      ·
        refine OK.seq ?_
        refine OK.reg ?_
        refine RK.c (S.assign .none rfl .cbool) ?_
        refine RK.nil ?_
        refine Ab.D.code ?_
        refine OK.ret (Ret.r1 (.tmp rfl rfl (.c (.same rfl) rfl) rfl) ?_)
        exact ret_F (fun e => by subst e; exact c25 rfl)
      ·
        refine OK.skip ?_
        refine Ab.D.blk ?_
        refine Ab.D.code ?_
        refine OK.reg ?_
        refine RK.c (S.move .none rfl (.tmp rfl rfl)) ?_
        refine RK.c (S.add .none rfl (.tmp rfl rfl) (.cint rfl) (IntWalk.i64_in _ (by omega)) (IntWalk.i64_in _ (by omega))) ?_
        refine RK.c (S.assign .none rfl (.tmp rfl rfl)) ?_
        refine RK.nil ?_
        refine Ab.D.lp ⟨i + 1, ⟨by omega, ?_⟩, (by omega), rfl, rfl, rfl, trivial⟩
        simp only [ne_eq, Decidable.not_not] at c25
        exact take_eq_step (by omega) (by omega) ht (p2_ext c25)
    ·
      refine OK.exit rfl ?_
      refine Ab.D.code ?_
      refine OK.seq ?_
      refine OK.reg ?_
      refine RK.c (S.assign .none rfl .cbool) ?_
      refine RK.nil ?_
      refine Ab.D.code ?_
      refine OK.ret (Ret.r1 (.tmp rfl rfl (.c (.same rfl) rfl) rfl) ?_)
      exact ret_T (take_eq_all hl (by omega) ht)

theorem ref_Sums {r : Rule} {l : List Int} (hr : ruleErr r = 0) (ht : testsErr l = 0) : Ct Try.prog 23 [.agg r.cs, ints l] (.sl ((sumsT r l).map p2)) := by
  refine Ct.intro (rs := [.tmp 4]) Try.func23 rfl Try.ntmps23 Try.results23 rfl rfl rfl fun w h => ?_
  obtain ⟨hl, hv⟩ := testsErr_0 ht
  have hrb := ruleErr_0 hr
  refine OK.seq ?_
  refine OK.reg ?_
  refine RK.c (S.box (k := 2) rfl .none rfl (.tmp rfl rfl) rfl) ?_
  refine RK.c (S.assign .none rfl .cnil) ?_
  refine RK.nil ?_
  refine Ab.D.code ?_
  refine OK.seq ?_
  refine OK.reg ?_
  refine RK.c (S.nilOwn (k := 5) (sz := 2) .none rfl) ?_
  refine RK.nil ?_
  refine Ab.D.code ?_
  refine OK.seq ?_
  refine OK.seq ?_
  refine OK.reg ?_
  refine RK.c (S.assign .none rfl (.cint rfl)) ?_
  refine RK.nil ?_
  refine Ab.D.code ?_
  refine OK.block ?_
  refine OK.loop (G := Nat) [2, 5] (fun i => [(1, ints l), (2, .ptr 2 0), (1002, .box r.cs), (5, .own 5 i), (2005, .arr 2 (((List.range i).map (bestAt r l)).map p2)), (6, .int .i64 i)]) (fun i => i ≤ l.length) (fun i => l.length - i) 0 (Nat.zero_le _) ⟨rfl, rfl, rfl, (lk_own (by first | rfl | (simp; done) | (simp; omega))), (lk_arr (by first | rfl | (simp; done) | (simp; omega))), rfl, trivial⟩ (fun _ => rfl) ?_
  rintro i hi
  refine OK.seq ?_
  refine OK.seq ?_
  refine OK.reg ?_
  refine RK.c (S.move .none rfl (.tmp rfl rfl)) ?_
  refine RK.c (S.move .none rfl (.tmp rfl rfl)) ?_
  refine RK.c (S.lenM si23 .none rfl (.tmp rfl rfl)) ?_
  refine RK.c (S.lss .none rfl (.tmp rfl rfl) (.tmp rfl rfl)) ?_
  refine RK.nil ?_
  refine Ab.D.code ?_
  refine OK.condD rfl rfl (fun c14 => ?_) (fun c14 => ?_)
  ·
    have htk : (l.take (i + 1)).reverse.take (i + 1) = (l.take (i + 1)).reverse := by rw [List.take_of_length_le]; simp; omega
    refine OK.skip ?_
    refine Ab.D.code ?_
    refine OK.seq ?_
    refine OK.block ?_
    refine OK.seq ?_
    refine OK.reg ?_
    refine RK.c (S.alloc (k := 7) ze124 rfl .none rfl) ?_
    refine RK.nil ?_
    refine Ab.D.code ?_
    refine OK.seq ?_
    refine OK.reg ?_
    refine RK.c (S.assign .none rfl (.cint rfl)) ?_
    refine RK.c (S.assign .none rfl (.cint rfl)) ?_
    refine RK.nil ?_
    refine Ab.D.code ?_
    refine OK.seq ?_
    refine OK.seq ?_
    refine OK.reg ?_
    refine RK.c (S.move .none rfl (.tmp rfl rfl)) ?_
    refine RK.c (S.assign .none rfl (.tmp rfl rfl)) ?_
    refine RK.nil ?_
    refine Ab.D.code ?_
    refine OK.block ?_
    refine OK.loop (G := Nat) [2, 5, 7] (fun j => [(1, ints l), (2, .ptr 2 0), (1002, .box r.cs), (5, .own 5 i), (2005, .arr 2 (((List.range i).map (bestAt r l)).map p2)), (6, .int .i64 i), (7, .ptr 7 0), (1007, .box [.int .i64 (inner r l i j).1.2, .int .i64 (inner r l i j).2.2]), (8, .int .i64 (inner r l i j).1.1), (9, .int .i64 (inner r l i j).2.1), (10, .int .i64 ((i : Int) - j))]) (fun j => j ≤ i + 1) (fun j => i + 1 - j) 0 (Nat.zero_le _) ⟨rfl, rfl, rfl, (lk_own (by first | rfl | (simp; done) | (simp; omega))), (lk_arr (by first | rfl | (simp; done) | (simp; omega))), rfl, rfl, rfl, rfl, rfl, rfl, trivial⟩ (fun _ => rfl) ?_
    rintro j hj
    refine OK.seq ?_
    refine OK.seq ?_
    refine OK.reg ?_
    refine RK.c (S.move .none rfl (.tmp rfl rfl)) ?_
    refine RK.c (S.geq .none rfl (.tmp rfl rfl) (.cint rfl)) ?_
    refine RK.nil ?_
    refine Ab.D.code ?_
    refine OK.condD rfl rfl (fun c19 => ?_) (fun c19 => ?_)
    ·
      have hst := rev_get (l := l) (i := i) (j := j) (by omega) (by omega)
      have hb1 := inner_bd hr hl hv i j
      have hv1 := hv (i - j) (by omega)
      have hidx : ((i : Int) - j) = ((i - j : Nat) : Int) := by omega
      refine OK.skip ?_
      refine Ab.D.code ?_
      refine OK.seq ?_
      refine OK.block ?_
      refine OK.seq ?_
      refine OK.regionDraw follows (.c (S.move .none rfl (.tmp rfl rfl))
        (.c (S.move .none rfl (.tmp rfl rfl))
        (.c (S.move .none rfl (.tmp rfl rfl))
        (.c (S.indexM (n := (i - j)) si23 .none rfl (.tmp rfl rfl) (.tmp rfl rfl) hidx (by omega) rfl)
        (.c (S.load1 ti3 .none rfl (.tmp rfl rfl) rfl)
        (.c (S.add .none rfl (.tmp rfl rfl) (.tmp rfl rfl) (IntWalk.i64_in _ (by omega)) (IntWalk.i64_in _ (by omega)))
        (.c (S.bfield fi39_0 .none rfl (.tmp rfl rfl))
        (.c (S.bload1 ti3 .none rfl (.tmp rfl rfl) rfl rfl rfl rfl)
        (.c (S.sub .none rfl (.tmp rfl rfl) (.tmp rfl rfl) (IntWalk.i64_in _ (by omega)) (IntWalk.i64_in _ (by omega)))
        (.c (S.bfield fi39_1 .none rfl (.tmp rfl rfl))
        (.c (S.bload1 ti3 .none rfl (.tmp rfl rfl) rfl rfl rfl rfl)
        (.c (S.sub (q := (inner r l i j).1.1 + upF r l[i - j]) .none rfl (.tmp rfl rfl) (.tmp rfl rfl) (by unfold upF; rw [IntWalk.i64_in _ (by omega)]; omega) (by unfold upF; exact IntWalk.i64_in _ (by omega)))
        (.c (S.move .none rfl (.tmp rfl rfl))
        (.c (S.bfield fi39_0 .none rfl (.tmp rfl rfl))
        (.c (S.bload1 ti3 .none rfl (.tmp rfl rfl) rfl rfl rfl rfl)
        (.c (S.add .none rfl (.tmp rfl rfl) (.tmp rfl rfl) (IntWalk.i64_in _ (by omega)) (IntWalk.i64_in _ (by omega)))
        (.c (S.move .none rfl (.tmp rfl rfl))
        (.c (S.move .none rfl (.tmp rfl rfl))
        (.c (S.indexM (n := (i - j)) si23 .none rfl (.tmp rfl rfl) (.tmp rfl rfl) hidx (by omega) rfl)
        (.c (S.load1 ti3 .none rfl (.tmp rfl rfl) rfl)
        (.c (S.sub .none rfl (.tmp rfl rfl) (.tmp rfl rfl) (IntWalk.i64_in _ (by omega)) (IntWalk.i64_in _ (by omega)))
        (.c (S.bfield fi39_1 .none rfl (.tmp rfl rfl))
        (.c (S.bload1 ti3 .none rfl (.tmp rfl rfl) rfl rfl rfl rfl)
        (.c (S.sub (q := (inner r l i j).2.1 + downF r l[i - j]) .none rfl (.tmp rfl rfl) (.tmp rfl rfl) (by unfold downF; rw [IntWalk.i64_in _ (by omega)]; omega) (by unfold downF; exact IntWalk.i64_in _ (by omega)))
        (.c (S.assign .none rfl (.tmp rfl rfl))
        (.c (S.assign .none rfl (.tmp rfl rfl))
        .nil)))))))))))))))))))))))))) (by kernel_rfl) ?_
      refine Ab.D.code ?_
      refine OK.reg ?_
      refine RK.c (S.bindex (i := 0) Try.underlying124 Try.sizeOf3 .none rfl (.tmp rfl rfl) (.cint rfl) rfl (by decide)) ?_
      refine RK.c (S.bload1 ti3 .none rfl (.tmp rfl rfl) rfl rfl rfl rfl) ?_
      refine RK.c (S.move .none rfl (.tmp rfl rfl)) ?_
      refine RK.c (S.max2 .none rfl (.tmp rfl rfl) (.tmp rfl rfl)) ?_
      refine RK.c (S.bindex (i := 1) Try.underlying124 Try.sizeOf3 .none rfl (.tmp rfl rfl) (.cint rfl) rfl (by decide)) ?_
      refine RK.c (S.bload1 ti3 .none rfl (.tmp rfl rfl) rfl rfl rfl rfl) ?_
      refine RK.c (S.move .none rfl (.tmp rfl rfl)) ?_
      refine RK.c (S.max2 .none rfl (.tmp rfl rfl) (.tmp rfl rfl)) ?_
      refine RK.c (S.build bu124 rfl .none rfl (.cons (.tmp rfl rfl) (.cons (.tmp rfl rfl) .nil)) rfl rfl) ?_
      refine RK.c (S.store ti124 .none (.tmp rfl rfl) (.tmp rfl rfl) rfl rfl rfl rfl rfl rfl) ?_
      refine RK.nil ?_
      refine Ab.D.blk ?_
      refine Ab.D.code ?_
      refine OK.reg ?_
      refine RK.c (S.move .none rfl (.tmp rfl rfl)) ?_
      refine RK.c (S.sub .none rfl (.tmp rfl rfl) (.cint rfl) (IntWalk.i64_in _ (by omega)) (IntWalk.i64_in _ (by omega))) ?_
      refine RK.c (S.assign .none rfl (.tmp rfl rfl)) ?_
      refine RK.nil ?_
      refine Ab.D.lp ⟨j + 1, (by omega), (by omega), rfl, rfl, rfl, (lk_own (by first | rfl | (simp; done) | (simp; omega))), (lk_arr (by first | rfl | (simp; done) | (simp; omega))), rfl, rfl, (lk_box2 (by simp only [inner, hst, bestGo_snoc, upF]; rfl) (by simp only [inner, hst, bestGo_snoc, downF]; rfl)), (lk_int (by simp only [inner, hst, bestGo_snoc, upF])), (lk_int (by simp only [inner, hst, bestGo_snoc, downF])), (lk_int (by omega)), trivial⟩
    ·
      refine OK.exit rfl ?_
      refine Ab.D.code ?_
      refine OK.reg ?_
      refine RK.c (S.move .none rfl (.tmp rfl rfl)) ?_
      refine RK.c (S.bloadN ti124 .none rfl (.tmp rfl rfl) rfl rfl rfl rfl) ?_
      refine RK.c (S.mkSlice (k := 57) (rows := [[_, _]]) ai40 .none rfl (.cons (.tmp rfl rfl) .nil) rfl rfl rfl rfl rfl rfl rfl) ?_
      refine RK.c (S.append ai40 .none rfl (.tmp rfl rfl) rfl (by simp) (.tmp rfl rfl) rfl (by first | rfl | (simp; done) | (simp; omega)) (by omega) (by simp only [maxLen]; omega)) ?_
      refine RK.c (S.assign .none rfl (.tmp rfl rfl)) ?_
      refine RK.nil ?_
      refine Ab.D.blk ?_
      refine Ab.D.code ?_
      refine OK.reg ?_
      refine RK.c (S.move .none rfl (.tmp rfl rfl)) ?_
      refine RK.c (S.add .none rfl (.tmp rfl rfl) (.cint rfl) (IntWalk.i64_in _ (by omega)) (IntWalk.i64_in _ (by omega))) ?_
      refine RK.c (S.assign .none rfl (.tmp rfl rfl)) ?_
      refine RK.nil ?_
      refine Ab.D.lp ⟨i + 1, (by omega), (by omega), rfl, rfl, rfl, (lk_own (by first | rfl | (simp; done) | (simp; omega))), (lk_arr (by rw [List.range_succ, List.map_append, List.map_append]; congr 1; rw [show j = i + 1 by omega]; simp only [List.map_cons, List.map_nil, p2, bestAt, inner, htk])), rfl, trivial⟩
  ·
    refine OK.exit rfl ?_
    refine Ab.D.code ?_
    refine OK.seq ?_
    refine OK.reg ?_
    refine RK.c (S.move .none rfl (.tmp rfl rfl)) ?_
    refine RK.c (S.assign .none rfl (.tmp rfl rfl)) ?_
    refine RK.nil ?_
    refine Ab.D.code ?_
    refine OK.ret (Ret.r1 (.tmp rfl rfl (.c (.own rfl rfl (by first | rfl | (simp; done) | (simp; omega))) rfl) rfl) ?_)
    have hi2 : i = l.length := by omega
    subst hi2
    refine congrArg X.sl (congrArg (List.map p2) ?_)
    refine List.ext_getElem? fun n => ?_
    by_cases hn : n < l.length
    · rw [sums_best hn]
      simp [hn]
    · rw [List.getElem?_eq_none (by simp; omega), List.getElem?_eq_none (by rw [sumsT, sums_len]; omega)]

theorem ref_Drift {r : Rule} {l : List Int} (hr : ruleErr r = 0) (ht : testsErr l = 0) : Ct Try.prog 24 [.agg r.cs, ints l] (driftX (driftGo r.limit 0 (sumsT r l))) := by
  refine Ct.intro (rs := [.tmp 4, .tmp 5, .tmp 6]) Try.func24 rfl Try.ntmps24 Try.results24 rfl rfl rfl fun w h => ?_
  have hl : (sumsT r l).length ≤ 40 := by rw [sumsT, sums_len]; exact (testsErr_0 ht).1
  refine OK.seq ?_
  refine OK.reg ?_
  refine RK.c (S.box (k := 2) rfl .none rfl (.tmp rfl rfl) rfl) ?_
  refine RK.c (S.assign .none rfl (.cint rfl)) ?_
  refine RK.c (S.assign .none rfl (.cint rfl)) ?_
  refine RK.c (S.assign .none rfl .cbool) ?_
  refine RK.nil ?_
  refine Ab.D.code ?_
  refine OK.seq ?_
  refine OK.reg ?_
  refine RK.c (S.bloadN ti39 .none rfl (.tmp rfl rfl) rfl rfl rfl rfl) ?_
  refine RK.c (S.move .none rfl (.tmp rfl rfl)) ?_
  refine RK.c (S.call (ref_Sums hr ht) Try.call23 .none rfl (.cons (.tmp rfl rfl) (.cons (.tmp rfl rfl) .nil)) rfl) ?_
  refine RK.c (S.assign .none rfl (.tmp rfl rfl)) ?_
  refine RK.nil ?_
  refine Ab.D.code ?_
  refine OK.seq ?_
  refine OK.seq ?_
  refine OK.reg ?_
  refine RK.c (S.assign .none rfl (.cint rfl)) ?_
  refine RK.nil ?_
  refine Ab.D.code ?_
  refine OK.block ?_
  refine OK.loop (G := Nat) [2] (fun i => [(2, .ptr 2 0), (1002, .box r.cs), (7, .sl ((sumsT r l).map p2)), (8, .int .i64 i)]) (fun i => i ≤ (sumsT r l).length ∧ driftGo r.limit 0 (sumsT r l) = driftGo r.limit i ((sumsT r l).drop i)) (fun i => (sumsT r l).length - i) 0 ⟨Nat.zero_le _, rfl⟩ ⟨rfl, rfl, rfl, rfl, trivial⟩ (fun _ => rfl) ?_
  rintro i ⟨hi, hg⟩
  refine OK.seq ?_
  refine OK.seq ?_
  refine OK.reg ?_
  refine RK.c (S.move .none rfl (.tmp rfl rfl)) ?_
  refine RK.c (S.move .none rfl (.tmp rfl rfl)) ?_
  refine RK.c (S.lenM si40 .none rfl (.tmp rfl rfl)) ?_
  refine RK.c (S.lss .none rfl (.tmp rfl rfl) (.tmp rfl rfl)) ?_
  refine RK.nil ?_
  refine Ab.D.code ?_
  refine OK.condD rfl rfl (fun c15 => ?_) (fun c15 => ?_)
  ·
    refine OK.skip ?_
    refine Ab.D.code ?_
    refine OK.seq ?_
    refine OK.block ?_
    refine OK.seq ?_
    refine OK.seq ?_
    refine OK.regionDraw follows (.c (S.move .none rfl (.tmp rfl rfl))
      (.c (S.move .none rfl (.tmp rfl rfl))
      (.c (S.indexM si40 .none rfl (.tmp rfl rfl) (.tmp rfl rfl) rfl (by omega) rfl)
      (.c (S.aindex (i := 0) Try.underlying124 Try.sizeOf3 .none rfl (.tmp rfl rfl) (.cint rfl) rfl (by decide) rfl)
      (.c (S.load1 ti3 .none rfl (.tmp rfl rfl) rfl)
      (.c (S.bfield fi39_2 .none rfl (.tmp rfl rfl))
      (.c (S.bload1 ti3 .none rfl (.tmp rfl rfl) rfl rfl rfl rfl)
      (.c (S.gtr .none rfl (.tmp rfl rfl) (.tmp rfl rfl))
      .nil)))))))) (by kernel_rfl) ?_
    refine Ab.D.code ?_
    refine OK.condD rfl rfl (fun c25 => ?_) (fun c25 => ?_)
    ·
      refine OK.seq ?_
      refine OK.reg ?_
      refine RK.c (S.move .none rfl (.tmp rfl rfl)) ?_
      refine RK.c (S.assign .none rfl (.tmp rfl rfl)) ?_
      refine RK.c (S.assign .none rfl (.cint rfl)) ?_
      refine RK.c (S.assign .none rfl .cbool) ?_
      refine RK.nil ?_
      refine Ab.D.code ?_
      refine OK.ret (Ret.r3 (.tmp rfl rfl (.c (.same rfl) rfl) rfl) (.tmp rfl rfl (.c (.same rfl) rfl) rfl) (.tmp rfl rfl (.c (.same rfl) rfl) rfl) ?_)
      have hq : driftGo r.limit 0 (sumsT r l) = ((i : Int), 1, 0) := by rw [hg, driftGo_drop (by omega), if_pos c25]
      exact ret_x (by rw [hq]) (by rw [hq]) (by rw [hq]; rfl)
    ·
      refine OK.skip ?_
      refine Ab.D.code ?_
      refine OK.seq ?_
      refine OK.regionDraw follows (.c (S.move .none rfl (.tmp rfl rfl))
        (.c (S.move .none rfl (.tmp rfl rfl))
        (.c (S.indexM si40 .none rfl (.tmp rfl rfl) (.tmp rfl rfl) rfl (by omega) rfl)
        (.c (S.aindex (i := 1) Try.underlying124 Try.sizeOf3 .none rfl (.tmp rfl rfl) (.cint rfl) rfl (by decide) rfl)
        (.c (S.load1 ti3 .none rfl (.tmp rfl rfl) rfl)
        (.c (S.bfield fi39_2 .none rfl (.tmp rfl rfl))
        (.c (S.bload1 ti3 .none rfl (.tmp rfl rfl) rfl rfl rfl rfl)
        (.c (S.gtr .none rfl (.tmp rfl rfl) (.tmp rfl rfl))
        .nil)))))))) (by kernel_rfl) ?_
      refine Ab.D.code ?_
      refine OK.condD rfl rfl (fun c34 => ?_) (fun c34 => ?_)
      ·
        refine OK.seq ?_
        refine OK.reg ?_
        refine RK.c (S.move .none rfl (.tmp rfl rfl)) ?_
        refine RK.c (S.assign .none rfl (.tmp rfl rfl)) ?_
        refine RK.c (S.assign .none rfl (.cint rfl)) ?_
        refine RK.c (S.assign .none rfl .cbool) ?_
        refine RK.nil ?_
        refine Ab.D.code ?_
        refine OK.ret (Ret.r3 (.tmp rfl rfl (.c (.same rfl) rfl) rfl) (.tmp rfl rfl (.c (.same rfl) rfl) rfl) (.tmp rfl rfl (.c (.same rfl) rfl) rfl) ?_)
        have hq : driftGo r.limit 0 (sumsT r l) = ((i : Int), -1, 0) := by rw [hg, driftGo_drop (by omega), if_neg c25, if_pos c34]
        exact ret_x (by rw [hq]) (by rw [hq]) (by rw [hq]; rfl)
      ·
        refine OK.skip ?_
        refine Ab.D.blk ?_
        refine Ab.D.code ?_
        refine OK.reg ?_
        refine RK.c (S.move .none rfl (.tmp rfl rfl)) ?_
        refine RK.c (S.add .none rfl (.tmp rfl rfl) (.cint rfl) (IntWalk.i64_in _ (by omega)) (IntWalk.i64_in _ (by omega))) ?_
        refine RK.c (S.assign .none rfl (.tmp rfl rfl)) ?_
        refine RK.nil ?_
        refine Ab.D.lp ⟨i + 1, ⟨by omega, ?_⟩, (by omega), rfl, rfl, rfl, rfl, trivial⟩
        rw [hg, driftGo_drop (by omega), if_neg c25, if_neg c34]
  ·
    refine OK.exit rfl ?_
    refine Ab.D.code ?_
    refine OK.seq ?_
    refine OK.reg ?_
    refine RK.c (S.assign .none rfl (.cint rfl)) ?_
    refine RK.c (S.assign .none rfl (.cint rfl)) ?_
    refine RK.c (S.assign .none rfl .cbool) ?_
    refine RK.nil ?_
    refine Ab.D.code ?_
    refine OK.ret (Ret.r3 (.tmp rfl rfl (.c (.same rfl) rfl) rfl) (.tmp rfl rfl (.c (.same rfl) rfl) rfl) (.tmp rfl rfl (.c (.same rfl) rfl) rfl) ?_)
    have hq : driftGo r.limit 0 (sumsT r l) = (0, 0, 12) := by rw [hg, show i = (sumsT r l).length by omega, List.drop_length, driftGo]
    exact ret_x (by rw [hq]) (by rw [hq]) (by rw [hq]; rfl)

theorem law_MonitorDrifts {r : Rule} {l : List Int} : Ct Try.prog 4 [.agg r.cs, ints l] (.bool true) := by
  refine Ct.intro (rs := [.tmp 4]) Try.func4 rfl Try.ntmps4 Try.results4 rfl rfl rfl fun w h => ?_
  refine OK.seq ?_
  refine OK.reg ?_
  refine RK.c (S.box (k := 2) rfl .none rfl (.tmp rfl rfl) rfl) ?_
  refine RK.c (S.assign .none rfl .cbool) ?_
  refine RK.nil ?_
  refine Ab.D.code ?_
  refine OK.seq ?_
  refine OK.seq ?_
  refine OK.reg ?_
  refine RK.c (S.call (law_awake) Try.call9 .none rfl .nil rfl) ?_
  refine RK.c (S.not .none rfl (.tmp rfl rfl)) ?_
  refine RK.nil ?_
  refine Ab.D.code ?_
  refine OK.condF rfl rfl rfl ?_
  refine OK.skip ?_
  refine Ab.D.code ?_
  refine OK.seq ?_
  refine OK.seq ?_
  refine OK.reg ?_
  refine RK.c (S.move .none rfl (.tmp rfl rfl)) ?_
  refine RK.c (S.lenM si23 .none rfl (.tmp rfl rfl)) ?_
  refine RK.c (S.gtr .none rfl (.tmp rfl rfl) (.cint rfl)) ?_
  refine RK.nil ?_
  refine Ab.D.code ?_
  refine OK.condD rfl rfl (fun c18 => ?_) (fun c18 => ?_)
  ·
    refine OK.seq ?_
    refine OK.reg ?_
    refine RK.c (S.assign .none rfl .cbool) ?_
    refine RK.nil ?_
    refine Ab.D.code ?_
    refine OK.ret (Ret.r1 (.tmp rfl rfl (.c (.same rfl) rfl) rfl) ?_)
    first | rfl | (refine ret_dT ?_; omega) | (refine ret_abs ?_; omega) | (refine ret_abs ?_; simp only [hsm, Bool.not_eq_true', Bool.not_eq_false', decide_eq_true_eq, decide_eq_false_iff_not, not_true_eq_false, not_false_eq_true] at * <;> omega)
  ·
    refine OK.skip ?_
    refine Ab.D.code ?_
    refine OK.seq ?_
    refine OK.regionDraw follows (.c (S.bloadN ti39 .none rfl (.tmp rfl rfl) rfl rfl rfl rfl)
      (.c (S.move .none rfl (.tmp rfl rfl))
      (.c (S.call (base_CopyInts (by omega)) Try.call13 .none rfl (.cons (.tmp rfl rfl) .nil) rfl)
      (.c (S.call (mon_SumsOf) Try.call18 .none rfl (.cons (.tmp rfl rfl) (.cons (.tmp rfl rfl) .nil)) rfl)
      (.c (S.move .none rfl (.tmp rfl rfl))
      (.c (S.extract .none rfl (.tmp rfl rfl) rfl rfl)
      (.c (S.extract .none rfl (.tmp rfl rfl) rfl rfl)
      (.c (S.assign .none rfl (.tmp rfl rfl))
      (.c (S.assign .none rfl (.tmp rfl rfl))
      .nil))))))))) (by kernel_rfl) ?_
    refine Ab.D.code ?_
    refine OK.seq ?_
    refine OK.regionDraw follows (.c (S.bloadN ti39 .none rfl (.tmp rfl rfl) rfl rfl rfl rfl)
      (.c (S.move .none rfl (.tmp rfl rfl))
      (.c (S.call (base_CopyInts (by omega)) Try.call13 .none rfl (.cons (.tmp rfl rfl) .nil) rfl)
      (.c (S.call (mon_FirstDrift) Try.call19 .none rfl (.cons (.tmp rfl rfl) (.cons (.tmp rfl rfl) .nil)) rfl)
      (.c (S.move .none rfl (.tmp rfl rfl))
      (.c (S.extract .none rfl (.tmp rfl rfl) rfl rfl)
      (.c (S.extract .none rfl (.tmp rfl rfl) rfl rfl)
      (.c (S.extract .none rfl (.tmp rfl rfl) rfl rfl)
      (.c (S.assign .none rfl (.tmp rfl rfl))
      (.c (S.assign .none rfl (.tmp rfl rfl))
      (.c (S.assign .none rfl (.tmp rfl rfl))
      .nil))))))))))) (by kernel_rfl) ?_
    refine Ab.D.code ?_
    refine OK.seq ?_
    refine OK.reg ?_
    refine RK.c (S.bloadN ti39 .none rfl (.tmp rfl rfl) rfl rfl rfl rfl) ?_
    refine RK.c (S.call (ref_RuleErr) Try.call20 .none rfl (.cons (.tmp rfl rfl) .nil) rfl) ?_
    refine RK.c (S.assign .none rfl (.tmp rfl rfl)) ?_
    refine RK.nil ?_
    refine Ab.D.code ?_
    refine OK.seq ?_
    refine OK.seq ?_
    refine OK.reg ?_
    refine RK.c (S.move .none rfl (.tmp rfl rfl)) ?_
    refine RK.c (S.eql .none rfl (.tmp rfl rfl) (.cint rfl)) ?_
    refine RK.nil ?_
    refine Ab.D.code ?_
    refine OK.condD rfl rfl (fun c37 => ?_) (fun c37 => ?_)
    ·
      have hopen : openErr r l = testsErr l := by rw [openErr, firstE2, if_neg (by simp [c37])]
      refine OK.reg ?_
      refine RK.c (S.move .none rfl (.tmp rfl rfl)) ?_
      refine RK.c (S.call (ref_TestsErr) Try.call21 .none rfl (.cons (.tmp rfl rfl) .nil) rfl) ?_
      refine RK.c (S.assign .none rfl (.tmp rfl rfl)) ?_
      refine RK.nil ?_
      refine Ab.D.code ?_
      refine OK.seq ?_
      refine OK.seq ?_
      refine OK.reg ?_
      refine RK.c (S.move .none rfl (.tmp rfl rfl)) ?_
      refine RK.c (S.neq .none rfl (.tmp rfl rfl) (.cint rfl)) ?_
      refine RK.nil ?_
      refine Ab.D.code ?_
      refine OK.condD rfl rfl (fun c41 => ?_) (fun c41 => ?_)
      ·
        have hd : (driftT r l).1 = 0 ∧ (driftT r l).2.1 = 0 ∧ (driftT r l).2.2 = openErr r l := by rw [driftT, if_neg (by omega)]; exact ⟨rfl, rfl, rfl⟩
        have hsm : (if openErr r l = 0 then sumsT r l else []).length = 0 := by rw [if_neg (by omega)]; rfl
        refine OK.seq ?_
        refine OK.reg ?_
        refine RK.c (S.move .none rfl (.tmp rfl rfl)) ?_
        refine RK.c (S.move .none rfl (.tmp rfl rfl)) ?_
        refine RK.c (S.eql .none rfl (.tmp rfl rfl) (.tmp rfl rfl)) ?_
        refine RK.c (S.move .none rfl (.tmp rfl rfl)) ?_
        refine RK.splitD (t := 45) rfl (fun g45 => ?_) (fun g45 => ?_)
        ·
          refine RK.c (S.move (.yes rfl rfl rfl rfl) rfl (.tmp rfl rfl)) ?_
          refine RK.c (S.move (.yes rfl rfl rfl rfl) rfl (.tmp rfl rfl)) ?_
          refine RK.c (S.eql (.yes rfl rfl rfl rfl) rfl (.tmp rfl rfl) (.tmp rfl rfl)) ?_
          refine RK.c (S.pickT .none rfl (.tmp rfl rfl) (.tmp rfl rfl) rfl) ?_
          refine RK.c (S.move .none rfl (.tmp rfl rfl)) ?_
          refine RK.splitD (t := 50) rfl (fun g50 => ?_) (fun g50 => ?_)
          ·
            refine RK.c (S.move (.yes rfl rfl rfl rfl) rfl (.tmp rfl rfl)) ?_
            refine RK.c (S.lenM si40 (.yes rfl rfl rfl rfl) rfl (.tmp rfl rfl)) ?_
            refine RK.c (S.eql (.yes rfl rfl rfl rfl) rfl (.tmp rfl rfl) (.cint rfl)) ?_
            refine RK.c (S.pickT .none rfl (.tmp rfl rfl) (.tmp rfl rfl) rfl) ?_
            refine RK.c (S.move .none rfl (.tmp rfl rfl)) ?_
            refine RK.splitD (t := 55) rfl (fun g55 => ?_) (fun g55 => ?_)
            ·
              refine RK.c (S.move (.yes rfl rfl rfl rfl) rfl (.tmp rfl rfl)) ?_
              refine RK.c (S.eql (.yes rfl rfl rfl rfl) rfl (.tmp rfl rfl) (.cint rfl)) ?_
              refine RK.c (S.pickT .none rfl (.tmp rfl rfl) (.tmp rfl rfl) rfl) ?_
              refine RK.c (S.move .none rfl (.tmp rfl rfl)) ?_
              refine RK.splitD (t := 59) rfl (fun g59 => ?_) (fun g59 => ?_)
              ·
                refine RK.c (S.move (.yes rfl rfl rfl rfl) rfl (.tmp rfl rfl)) ?_
                refine RK.c (S.eql (.yes rfl rfl rfl rfl) rfl (.tmp rfl rfl) (.cint rfl)) ?_
                refine RK.c (S.pickT .none rfl (.tmp rfl rfl) (.tmp rfl rfl) rfl) ?_
                refine RK.c (S.assign .none rfl (.tmp rfl rfl)) ?_
                refine RK.nil ?_
                refine Ab.D.code ?_
                refine OK.ret (Ret.r1 (.tmp rfl rfl (.c (.same rfl) rfl) rfl) ?_)
                first | rfl | (refine ret_dT ?_; omega) | (refine ret_abs ?_; omega) | (refine ret_abs ?_; simp only [hsm, Bool.not_eq_true', Bool.not_eq_false', decide_eq_true_eq, decide_eq_false_iff_not, not_true_eq_false, not_false_eq_true] at * <;> omega)
              ·
                refine RK.c (S.skip rfl rfl rfl rfl rfl) ?_
                refine RK.c (S.skip rfl rfl rfl rfl rfl) ?_
                refine RK.c (S.pickF .none rfl (.tmp rfl rfl) .cbool rfl) ?_
                refine RK.c (S.assign .none rfl (.tmp rfl rfl)) ?_
                refine RK.nil ?_
                refine Ab.D.code ?_
                refine OK.ret (Ret.r1 (.tmp rfl rfl (.c (.same rfl) rfl) rfl) ?_)
                first | rfl | (refine ret_dT ?_; omega) | (refine ret_abs ?_; omega) | (refine ret_abs ?_; simp only [hsm, Bool.not_eq_true', Bool.not_eq_false', decide_eq_true_eq, decide_eq_false_iff_not, not_true_eq_false, not_false_eq_true] at * <;> omega)
            ·
              refine RK.c (S.skip rfl rfl rfl rfl rfl) ?_
              refine RK.c (S.skip rfl rfl rfl rfl rfl) ?_
              refine RK.c (S.pickF .none rfl (.tmp rfl rfl) .cbool rfl) ?_
              refine RK.c (S.move .none rfl (.tmp rfl rfl)) ?_
              refine RK.c (S.skip rfl rfl rfl rfl rfl) ?_
              refine RK.c (S.skip rfl rfl rfl rfl rfl) ?_
              refine RK.c (S.pickF .none rfl (.tmp rfl rfl) .cbool rfl) ?_
              refine RK.c (S.assign .none rfl (.tmp rfl rfl)) ?_
              refine RK.nil ?_
              refine Ab.D.code ?_
              refine OK.ret (Ret.r1 (.tmp rfl rfl (.c (.same rfl) rfl) rfl) ?_)
              first | rfl | (refine ret_dT ?_; omega) | (refine ret_abs ?_; omega) | (refine ret_abs ?_; simp only [hsm, Bool.not_eq_true', Bool.not_eq_false', decide_eq_true_eq, decide_eq_false_iff_not, not_true_eq_false, not_false_eq_true] at * <;> omega)
          ·
            refine RK.c (S.skip rfl rfl rfl rfl rfl) ?_
            refine RK.c (S.skip rfl rfl rfl rfl rfl) ?_
            refine RK.c (S.skip rfl rfl rfl rfl rfl) ?_
            refine RK.c (S.pickF .none rfl (.tmp rfl rfl) .cbool rfl) ?_
            refine RK.c (S.move .none rfl (.tmp rfl rfl)) ?_
            refine RK.c (S.skip rfl rfl rfl rfl rfl) ?_
            refine RK.c (S.skip rfl rfl rfl rfl rfl) ?_
            refine RK.c (S.pickF .none rfl (.tmp rfl rfl) .cbool rfl) ?_
            refine RK.c (S.move .none rfl (.tmp rfl rfl)) ?_
            refine RK.c (S.skip rfl rfl rfl rfl rfl) ?_
            refine RK.c (S.skip rfl rfl rfl rfl rfl) ?_
            refine RK.c (S.pickF .none rfl (.tmp rfl rfl) .cbool rfl) ?_
            refine RK.c (S.assign .none rfl (.tmp rfl rfl)) ?_
            refine RK.nil ?_
            refine Ab.D.code ?_
            refine OK.ret (Ret.r1 (.tmp rfl rfl (.c (.same rfl) rfl) rfl) ?_)
            first | rfl | (refine ret_dT ?_; omega) | (refine ret_abs ?_; omega) | (refine ret_abs ?_; simp only [hsm, Bool.not_eq_true', Bool.not_eq_false', decide_eq_true_eq, decide_eq_false_iff_not, not_true_eq_false, not_false_eq_true] at * <;> omega)
        ·
          refine RK.c (S.skip rfl rfl rfl rfl rfl) ?_
          refine RK.c (S.skip rfl rfl rfl rfl rfl) ?_
          refine RK.c (S.skip rfl rfl rfl rfl rfl) ?_
          refine RK.c (S.pickF .none rfl (.tmp rfl rfl) .cbool rfl) ?_
          refine RK.c (S.move .none rfl (.tmp rfl rfl)) ?_
          refine RK.c (S.skip rfl rfl rfl rfl rfl) ?_
          refine RK.c (S.skip rfl rfl rfl rfl rfl) ?_
          refine RK.c (S.skip rfl rfl rfl rfl rfl) ?_
          refine RK.c (S.pickF .none rfl (.tmp rfl rfl) .cbool rfl) ?_
          refine RK.c (S.move .none rfl (.tmp rfl rfl)) ?_
          refine RK.c (S.skip rfl rfl rfl rfl rfl) ?_
          refine RK.c (S.skip rfl rfl rfl rfl rfl) ?_
          refine RK.c (S.pickF .none rfl (.tmp rfl rfl) .cbool rfl) ?_
          refine RK.c (S.move .none rfl (.tmp rfl rfl)) ?_
          refine RK.c (S.skip rfl rfl rfl rfl rfl) ?_
          refine RK.c (S.skip rfl rfl rfl rfl rfl) ?_
          refine RK.c (S.pickF .none rfl (.tmp rfl rfl) .cbool rfl) ?_
          refine RK.c (S.assign .none rfl (.tmp rfl rfl)) ?_
          refine RK.nil ?_
          refine Ab.D.code ?_
          refine OK.ret (Ret.r1 (.tmp rfl rfl (.c (.same rfl) rfl) rfl) ?_)
          first | rfl | (refine ret_dT ?_; omega) | (refine ret_abs ?_; omega) | (refine ret_abs ?_; simp only [hsm, Bool.not_eq_true', Bool.not_eq_false', decide_eq_true_eq, decide_eq_false_iff_not, not_true_eq_false, not_false_eq_true] at * <;> omega)
      ·
        have he : openErr r l = 0 := by omega
        have hd : (driftT r l).1 = (driftGo r.limit 0 (sumsT r l)).1 ∧ (driftT r l).2.1 = (driftGo r.limit 0 (sumsT r l)).2.1 ∧ (driftT r l).2.2 = (driftGo r.limit 0 (sumsT r l)).2.2 := by rw [driftT, if_pos he]; exact ⟨rfl, rfl, rfl⟩
        have hcs := driftGo_cases r.limit (sumsT r l) 0
        have hcs2 : (driftGo r.limit 0 (sumsT r l)).2.2 = 0 ∨ ((driftGo r.limit 0 (sumsT r l)).1 = 0 ∧ (driftGo r.limit 0 (sumsT r l)).2.1 = 0 ∧ (driftGo r.limit 0 (sumsT r l)).2.2 = 12) := hcs.imp id fun h => by rw [h]; exact ⟨rfl, rfl, rfl⟩
        have hsm : (if openErr r l = 0 then sumsT r l else []) = sumsT r l := if_pos he
        refine OK.skip ?_
        refine Ab.D.code ?_
        refine OK.seq ?_
        refine OK.seq ?_
        refine OK.reg ?_
        refine RK.c (S.move .none rfl (.tmp rfl rfl)) ?_
        refine RK.c (S.neq .none rfl (.tmp rfl rfl) (.cint rfl)) ?_
        refine RK.c (S.move .none rfl (.tmp rfl rfl)) ?_
        refine RK.splitD (t := 65) rfl (fun g65 => ?_) (fun g65 => ?_)
        ·
          refine RK.c (S.skip rfl rfl rfl rfl rfl) ?_
          refine RK.c (S.skip rfl rfl rfl rfl rfl) ?_
          refine RK.c (S.skip rfl rfl rfl rfl rfl) ?_
          refine RK.c (S.skip rfl rfl rfl rfl rfl) ?_
          refine RK.c (S.skip rfl rfl rfl rfl rfl) ?_
          refine RK.c (S.skip rfl rfl rfl rfl rfl) ?_
          refine RK.c (S.pickT .none rfl (.tmp rfl rfl) .cbool rfl) ?_
          refine RK.nil ?_
          refine Ab.D.code ?_
          refine OK.condT rfl rfl rfl ?_
          refine OK.seq ?_
          refine OK.reg ?_
          refine RK.c (S.assign .none rfl .cbool) ?_
          refine RK.nil ?_
          refine Ab.D.code ?_
          refine OK.ret (Ret.r1 (.tmp rfl rfl (.c (.same rfl) rfl) rfl) ?_)
          first | rfl | (refine ret_dT ?_; omega) | (refine ret_abs ?_; omega) | (refine ret_abs ?_; simp only [hsm, Bool.not_eq_true', Bool.not_eq_false', decide_eq_true_eq, decide_eq_false_iff_not, not_true_eq_false, not_false_eq_true] at * <;> omega)
        ·
          refine RK.c (S.move (.yes rfl rfl rfl rfl) rfl (.tmp rfl rfl)) ?_
          refine RK.c (S.bloadN ti39 (.yes rfl rfl rfl rfl) rfl (.tmp rfl rfl) rfl rfl rfl rfl) ?_
          refine RK.c (S.move (.yes rfl rfl rfl rfl) rfl (.tmp rfl rfl)) ?_
          refine RK.c (S.call (ref_Sums (openErr_0 he).1 (openErr_0 he).2) Try.call23 (.yes rfl rfl rfl rfl) rfl (.cons (.tmp rfl rfl) (.cons (.tmp rfl rfl) .nil)) rfl) ?_
          refine RK.c (S.call (ref_SameSums) Try.call22 (.yes rfl rfl rfl rfl) rfl (.cons (.tmp rfl rfl) (.cons (.tmp rfl rfl) .nil)) rfl) ?_
          refine RK.c (S.notD (.yes rfl rfl rfl rfl) rfl (.tmp rfl rfl)) ?_
          refine RK.c (S.pickF .none rfl (.tmp rfl rfl) (.tmp rfl rfl) rfl) ?_
          refine RK.nil ?_
          refine Ab.D.code ?_
          refine OK.condD rfl rfl (fun c72 => ?_) (fun c72 => ?_)
          ·
            refine OK.seq ?_
            refine OK.reg ?_
            refine RK.c (S.assign .none rfl .cbool) ?_
            refine RK.nil ?_
            refine Ab.D.code ?_
            refine OK.ret (Ret.r1 (.tmp rfl rfl (.c (.same rfl) rfl) rfl) ?_)
            first | rfl | (refine ret_dT ?_; omega) | (refine ret_abs ?_; omega) | (refine ret_abs ?_; simp only [hsm, Bool.not_eq_true', Bool.not_eq_false', decide_eq_true_eq, decide_eq_false_iff_not, not_true_eq_false, not_false_eq_true] at * <;> omega)
          ·
            refine OK.skip ?_
            refine Ab.D.code ?_
            refine OK.seq ?_
            refine OK.reg ?_
            refine RK.c (S.bloadN ti39 .none rfl (.tmp rfl rfl) rfl rfl rfl rfl) ?_
            refine RK.c (S.move .none rfl (.tmp rfl rfl)) ?_
            refine RK.c (S.call (ref_Drift (openErr_0 he).1 (openErr_0 he).2) Try.call24 .none rfl (.cons (.tmp rfl rfl) (.cons (.tmp rfl rfl) .nil)) rfl) ?_
            refine RK.c (S.move .none rfl (.tmp rfl rfl)) ?_
            refine RK.c (S.extract .none rfl (.tmp rfl rfl) rfl rfl) ?_
            refine RK.c (S.extract .none rfl (.tmp rfl rfl) rfl rfl) ?_
            refine RK.c (S.extract .none rfl (.tmp rfl rfl) rfl rfl) ?_
            refine RK.c (S.assign .none rfl (.tmp rfl rfl)) ?_
            refine RK.c (S.assign .none rfl (.tmp rfl rfl)) ?_
            refine RK.c (S.assign .none rfl (.tmp rfl rfl)) ?_
            refine RK.nil ?_
            refine Ab.D.code ?_
            refine OK.seq ?_
            refine OK.reg ?_
            refine RK.c (S.move .none rfl (.tmp rfl rfl)) ?_
            refine RK.c (S.move .none rfl (.tmp rfl rfl)) ?_
            refine RK.split (t := 81) rfl (fun g81 => ?_) (fun g81 => ?_)
            ·
              refine RK.c (S.move (.yes rfl rfl rfl rfl) rfl (.tmp rfl rfl)) ?_
              refine RK.c (S.eql (.yes rfl rfl rfl rfl) rfl (.tmp rfl rfl) (.cint rfl)) ?_
              refine RK.c (S.pickT .none rfl (.tmp rfl rfl) (.tmp rfl rfl) rfl) ?_
              refine RK.c (S.move .none rfl (.tmp rfl rfl)) ?_
              refine RK.splitD (t := 85) rfl (fun g85 => ?_) (fun g85 => ?_)
              ·
                refine RK.c (S.move (.yes rfl rfl rfl rfl) rfl (.tmp rfl rfl)) ?_
                refine RK.c (S.move (.yes rfl rfl rfl rfl) rfl (.tmp rfl rfl)) ?_
                refine RK.c (S.eql (.yes rfl rfl rfl rfl) rfl (.tmp rfl rfl) (.tmp rfl rfl)) ?_
                refine RK.c (S.pickT .none rfl (.tmp rfl rfl) (.tmp rfl rfl) rfl) ?_
                refine RK.c (S.move .none rfl (.tmp rfl rfl)) ?_
                refine RK.splitD (t := 90) rfl (fun g90 => ?_) (fun g90 => ?_)
                ·
                  refine RK.c (S.move (.yes rfl rfl rfl rfl) rfl (.tmp rfl rfl)) ?_
                  refine RK.c (S.move (.yes rfl rfl rfl rfl) rfl (.tmp rfl rfl)) ?_
                  refine RK.c (S.eql (.yes rfl rfl rfl rfl) rfl (.tmp rfl rfl) (.tmp rfl rfl)) ?_
                  refine RK.c (S.pickT .none rfl (.tmp rfl rfl) (.tmp rfl rfl) rfl) ?_
                  refine RK.c (S.move .none rfl (.tmp rfl rfl)) ?_
                  refine RK.splitD (t := 95) rfl (fun g95 => ?_) (fun g95 => ?_)
                  ·
                    refine RK.c (S.skip rfl rfl rfl rfl rfl) ?_
                    refine RK.c (S.skip rfl rfl rfl rfl rfl) ?_
                    refine RK.c (S.skip rfl rfl rfl rfl rfl) ?_
                    refine RK.c (S.skipU rfl rfl rfl rfl) ?_
                    refine RK.c (S.skipU rfl rfl rfl rfl) ?_
                    refine RK.c (S.skip rfl rfl rfl rfl rfl) ?_
                    refine RK.c (S.skip rfl rfl rfl rfl rfl) ?_
                    refine RK.c (S.skipU rfl rfl rfl rfl) ?_
                    refine RK.c (S.skipU rfl rfl rfl rfl) ?_
                    refine RK.c (S.skip rfl rfl rfl rfl rfl) ?_
                    refine RK.c (S.skip rfl rfl rfl rfl rfl) ?_
                    refine RK.c (S.skipU rfl rfl rfl rfl) ?_
                    refine RK.c (S.skipU rfl rfl rfl rfl) ?_
                    refine RK.c (S.skip rfl rfl rfl rfl rfl) ?_
                    refine RK.c (S.pickT .none rfl (.tmp rfl rfl) .cbool rfl) ?_
                    refine RK.c (S.assign .none rfl (.tmp rfl rfl)) ?_
                    refine RK.nil ?_
                    refine Ab.D.code ?_
                    refine OK.ret (Ret.r1 (.tmp rfl rfl (.c (.same rfl) rfl) rfl) ?_)
                    first | rfl | (refine ret_dT ?_; omega) | (refine ret_abs ?_; omega) | (refine ret_abs ?_; simp only [hsm, Bool.not_eq_true', Bool.not_eq_false', decide_eq_true_eq, decide_eq_false_iff_not, not_true_eq_false, not_false_eq_true] at * <;> omega)
                  ·
                    refine RK.c (S.move (.yes rfl rfl rfl rfl) rfl (.tmp rfl rfl)) ?_
                    refine RK.c (S.not (.yes rfl rfl rfl rfl) rfl (.tmp rfl rfl)) ?_
                    refine RK.c (S.move (.yes rfl rfl rfl rfl) rfl (.tmp rfl rfl)) ?_
                    refine RK.split (t := 98) rfl (fun g98 => ?_) (fun g98 => ?_)
                    ·
                      refine RK.c (S.move (.yes rfl rfl rfl rfl) rfl (.tmp rfl rfl)) ?_
                      refine RK.c (S.eql (.yes rfl rfl rfl rfl) rfl (.tmp rfl rfl) (.cint rfl)) ?_
                      refine RK.c (S.pickT (.yes rfl rfl rfl rfl) rfl (.tmp rfl rfl) (.tmp rfl rfl) rfl) ?_
                      refine RK.c (S.move (.yes rfl rfl rfl rfl) rfl (.tmp rfl rfl)) ?_
                      refine RK.splitD (t := 102) rfl (fun g102 => ?_) (fun g102 => ?_)
                      ·
                        refine RK.c (S.move (.yes rfl rfl rfl rfl) rfl (.tmp rfl rfl)) ?_
                        refine RK.c (S.eql (.yes rfl rfl rfl rfl) rfl (.tmp rfl rfl) (.cint rfl)) ?_
                        refine RK.c (S.pickT (.yes rfl rfl rfl rfl) rfl (.tmp rfl rfl) (.tmp rfl rfl) rfl) ?_
                        refine RK.c (S.move (.yes rfl rfl rfl rfl) rfl (.tmp rfl rfl)) ?_
                        refine RK.splitD (t := 106) rfl (fun g106 => ?_) (fun g106 => ?_)
                        ·
                          refine RK.c (S.move (.yes rfl rfl rfl rfl) rfl (.tmp rfl rfl)) ?_
                          refine RK.c (S.eql (.yes rfl rfl rfl rfl) rfl (.tmp rfl rfl) (.cint rfl)) ?_
                          refine RK.c (S.pickT (.yes rfl rfl rfl rfl) rfl (.tmp rfl rfl) (.tmp rfl rfl) rfl) ?_
                          refine RK.c (S.pickF .none rfl (.tmp rfl rfl) (.tmp rfl rfl) rfl) ?_
                          refine RK.c (S.assign .none rfl (.tmp rfl rfl)) ?_
                          refine RK.nil ?_
                          refine Ab.D.code ?_
                          refine OK.ret (Ret.r1 (.tmp rfl rfl (.c (.same rfl) rfl) rfl) ?_)
                          first | rfl | (refine ret_dT ?_; omega) | (refine ret_abs ?_; omega) | (refine ret_abs ?_; simp only [hsm, Bool.not_eq_true', Bool.not_eq_false', decide_eq_true_eq, decide_eq_false_iff_not, not_true_eq_false, not_false_eq_true] at * <;> omega)
                        ·
                          refine RK.c (S.skip rfl rfl rfl rfl rfl) ?_
                          refine RK.c (S.skip rfl rfl rfl rfl rfl) ?_
                          refine RK.c (S.pickF (.yes rfl rfl rfl rfl) rfl (.tmp rfl rfl) .cbool rfl) ?_
                          refine RK.c (S.pickF .none rfl (.tmp rfl rfl) (.tmp rfl rfl) rfl) ?_
                          refine RK.c (S.assign .none rfl (.tmp rfl rfl)) ?_
                          refine RK.nil ?_
                          refine Ab.D.code ?_
                          refine OK.ret (Ret.r1 (.tmp rfl rfl (.c (.same rfl) rfl) rfl) ?_)
                          first | rfl | (refine ret_dT ?_; omega) | (refine ret_abs ?_; omega) | (refine ret_abs ?_; simp only [hsm, Bool.not_eq_true', Bool.not_eq_false', decide_eq_true_eq, decide_eq_false_iff_not, not_true_eq_false, not_false_eq_true] at * <;> omega)
                      ·
                        refine RK.c (S.skip rfl rfl rfl rfl rfl) ?_
                        refine RK.c (S.skip rfl rfl rfl rfl rfl) ?_
                        refine RK.c (S.pickF (.yes rfl rfl rfl rfl) rfl (.tmp rfl rfl) .cbool rfl) ?_
                        refine RK.c (S.move (.yes rfl rfl rfl rfl) rfl (.tmp rfl rfl)) ?_
                        refine RK.c (S.skip rfl rfl rfl rfl rfl) ?_
                        refine RK.c (S.skip rfl rfl rfl rfl rfl) ?_
                        refine RK.c (S.pickF (.yes rfl rfl rfl rfl) rfl (.tmp rfl rfl) .cbool rfl) ?_
                        refine RK.c (S.pickF .none rfl (.tmp rfl rfl) (.tmp rfl rfl) rfl) ?_
                        refine RK.c (S.assign .none rfl (.tmp rfl rfl)) ?_
                        refine RK.nil ?_
                        refine Ab.D.code ?_
                        refine OK.ret (Ret.r1 (.tmp rfl rfl (.c (.same rfl) rfl) rfl) ?_)
                        first | rfl | (refine ret_dT ?_; omega) | (refine ret_abs ?_; omega) | (refine ret_abs ?_; simp only [hsm, Bool.not_eq_true', Bool.not_eq_false', decide_eq_true_eq, decide_eq_false_iff_not, not_true_eq_false, not_false_eq_true] at * <;> omega)
                    ·
                      refine RK.c (S.skip rfl rfl rfl rfl rfl) ?_
                      refine RK.c (S.skip rfl rfl rfl rfl rfl) ?_
                      refine RK.c (S.pickF (.yes rfl rfl rfl rfl) rfl (.tmp rfl rfl) .cbool rfl) ?_
                      refine RK.c (S.move (.yes rfl rfl rfl rfl) rfl (.tmp rfl rfl)) ?_
                      refine RK.c (S.skip rfl rfl rfl rfl rfl) ?_
                      refine RK.c (S.skip rfl rfl rfl rfl rfl) ?_
                      refine RK.c (S.pickF (.yes rfl rfl rfl rfl) rfl (.tmp rfl rfl) .cbool rfl) ?_
                      refine RK.c (S.move (.yes rfl rfl rfl rfl) rfl (.tmp rfl rfl)) ?_
                      refine RK.c (S.skip rfl rfl rfl rfl rfl) ?_
                      refine RK.c (S.skip rfl rfl rfl rfl rfl) ?_
                      refine RK.c (S.pickF (.yes rfl rfl rfl rfl) rfl (.tmp rfl rfl) .cbool rfl) ?_
                      refine RK.c (S.pickF .none rfl (.tmp rfl rfl) (.tmp rfl rfl) rfl) ?_
                      refine RK.c (S.assign .none rfl (.tmp rfl rfl)) ?_
                      refine RK.nil ?_
                      refine Ab.D.code ?_
                      refine OK.ret (Ret.r1 (.tmp rfl rfl (.c (.same rfl) rfl) rfl) ?_)
                      first | rfl | (refine ret_dT ?_; omega) | (refine ret_abs ?_; omega) | (refine ret_abs ?_; simp only [hsm, Bool.not_eq_true', Bool.not_eq_false', decide_eq_true_eq, decide_eq_false_iff_not, not_true_eq_false, not_false_eq_true] at * <;> omega)
                ·
                  refine RK.c (S.skip rfl rfl rfl rfl rfl) ?_
                  refine RK.c (S.skip rfl rfl rfl rfl rfl) ?_
                  refine RK.c (S.skip rfl rfl rfl rfl rfl) ?_
                  refine RK.c (S.pickF .none rfl (.tmp rfl rfl) .cbool rfl) ?_
                  refine RK.c (S.move .none rfl (.tmp rfl rfl)) ?_
                  refine RK.c (S.move (.yes rfl rfl rfl rfl) rfl (.tmp rfl rfl)) ?_
                  refine RK.c (S.not (.yes rfl rfl rfl rfl) rfl (.tmp rfl rfl)) ?_
                  refine RK.c (S.move (.yes rfl rfl rfl rfl) rfl (.tmp rfl rfl)) ?_
                  refine RK.split (t := 98) rfl (fun g98 => ?_) (fun g98 => ?_)
                  ·
                    refine RK.c (S.move (.yes rfl rfl rfl rfl) rfl (.tmp rfl rfl)) ?_
                    refine RK.c (S.eql (.yes rfl rfl rfl rfl) rfl (.tmp rfl rfl) (.cint rfl)) ?_
                    refine RK.c (S.pickT (.yes rfl rfl rfl rfl) rfl (.tmp rfl rfl) (.tmp rfl rfl) rfl) ?_
                    refine RK.c (S.move (.yes rfl rfl rfl rfl) rfl (.tmp rfl rfl)) ?_
                    refine RK.splitD (t := 102) rfl (fun g102 => ?_) (fun g102 => ?_)
                    ·
                      refine RK.c (S.move (.yes rfl rfl rfl rfl) rfl (.tmp rfl rfl)) ?_
                      refine RK.c (S.eql (.yes rfl rfl rfl rfl) rfl (.tmp rfl rfl) (.cint rfl)) ?_
                      refine RK.c (S.pickT (.yes rfl rfl rfl rfl) rfl (.tmp rfl rfl) (.tmp rfl rfl) rfl) ?_
                      refine RK.c (S.move (.yes rfl rfl rfl rfl) rfl (.tmp rfl rfl)) ?_
                      refine RK.splitD (t := 106) rfl (fun g106 => ?_) (fun g106 => ?_)
                      ·
                        refine RK.c (S.move (.yes rfl rfl rfl rfl) rfl (.tmp rfl rfl)) ?_
                        refine RK.c (S.eql (.yes rfl rfl rfl rfl) rfl (.tmp rfl rfl) (.cint rfl)) ?_
                        refine RK.c (S.pickT (.yes rfl rfl rfl rfl) rfl (.tmp rfl rfl) (.tmp rfl rfl) rfl) ?_
                        refine RK.c (S.pickF .none rfl (.tmp rfl rfl) (.tmp rfl rfl) rfl) ?_
                        refine RK.c (S.assign .none rfl (.tmp rfl rfl)) ?_
                        refine RK.nil ?_
                        refine Ab.D.code ?_
                        refine OK.ret (Ret.r1 (.tmp rfl rfl (.c (.same rfl) rfl) rfl) ?_)
                        first | rfl | (refine ret_dT ?_; omega) | (refine ret_abs ?_; omega) | (refine ret_abs ?_; simp only [hsm, Bool.not_eq_true', Bool.not_eq_false', decide_eq_true_eq, decide_eq_false_iff_not, not_true_eq_false, not_false_eq_true] at * <;> omega)
                      ·
                        refine RK.c (S.skip rfl rfl rfl rfl rfl) ?_
                        refine RK.c (S.skip rfl rfl rfl rfl rfl) ?_
                        refine RK.c (S.pickF (.yes rfl rfl rfl rfl) rfl (.tmp rfl rfl) .cbool rfl) ?_
                        refine RK.c (S.pickF .none rfl (.tmp rfl rfl) (.tmp rfl rfl) rfl) ?_
                        refine RK.c (S.assign .none rfl (.tmp rfl rfl)) ?_
                        refine RK.nil ?_
                        refine Ab.D.code ?_
                        refine OK.ret (Ret.r1 (.tmp rfl rfl (.c (.same rfl) rfl) rfl) ?_)
                        first | rfl | (refine ret_dT ?_; omega) | (refine ret_abs ?_; omega) | (refine ret_abs ?_; simp only [hsm, Bool.not_eq_true', Bool.not_eq_false', decide_eq_true_eq, decide_eq_false_iff_not, not_true_eq_false, not_false_eq_true] at * <;> omega)
                    ·
                      refine RK.c (S.skip rfl rfl rfl rfl rfl) ?_
                      refine RK.c (S.skip rfl rfl rfl rfl rfl) ?_
                      refine RK.c (S.pickF (.yes rfl rfl rfl rfl) rfl (.tmp rfl rfl) .cbool rfl) ?_
                      refine RK.c (S.move (.yes rfl rfl rfl rfl) rfl (.tmp rfl rfl)) ?_
                      refine RK.c (S.skip rfl rfl rfl rfl rfl) ?_
                      refine RK.c (S.skip rfl rfl rfl rfl rfl) ?_
                      refine RK.c (S.pickF (.yes rfl rfl rfl rfl) rfl (.tmp rfl rfl) .cbool rfl) ?_
                      refine RK.c (S.pickF .none rfl (.tmp rfl rfl) (.tmp rfl rfl) rfl) ?_
                      refine RK.c (S.assign .none rfl (.tmp rfl rfl)) ?_
                      refine RK.nil ?_
                      refine Ab.D.code ?_
                      refine OK.ret (Ret.r1 (.tmp rfl rfl (.c (.same rfl) rfl) rfl) ?_)
                      first | rfl | (refine ret_dT ?_; omega) | (refine ret_abs ?_; omega) | (refine ret_abs ?_; simp only [hsm, Bool.not_eq_true', Bool.not_eq_false', decide_eq_true_eq, decide_eq_false_iff_not, not_true_eq_false, not_false_eq_true] at * <;> omega)
                  ·
                    refine RK.c (S.skip rfl rfl rfl rfl rfl) ?_
                    refine RK.c (S.skip rfl rfl rfl rfl rfl) ?_
                    refine RK.c (S.pickF (.yes rfl rfl rfl rfl) rfl (.tmp rfl rfl) .cbool rfl) ?_
                    refine RK.c (S.move (.yes rfl rfl rfl rfl) rfl (.tmp rfl rfl)) ?_
                    refine RK.c (S.skip rfl rfl rfl rfl rfl) ?_
                    refine RK.c (S.skip rfl rfl rfl rfl rfl) ?_
                    refine RK.c (S.pickF (.yes rfl rfl rfl rfl) rfl (.tmp rfl rfl) .cbool rfl) ?_
                    refine RK.c (S.move (.yes rfl rfl rfl rfl) rfl (.tmp rfl rfl)) ?_
                    refine RK.c (S.skip rfl rfl rfl rfl rfl) ?_
                    refine RK.c (S.skip rfl rfl rfl rfl rfl) ?_
                    refine RK.c (S.pickF (.yes rfl rfl rfl rfl) rfl (.tmp rfl rfl) .cbool rfl) ?_
                    refine RK.c (S.pickF .none rfl (.tmp rfl rfl) (.tmp rfl rfl) rfl) ?_
                    refine RK.c (S.assign .none rfl (.tmp rfl rfl)) ?_
                    refine RK.nil ?_
                    refine Ab.D.code ?_
                    refine OK.ret (Ret.r1 (.tmp rfl rfl (.c (.same rfl) rfl) rfl) ?_)
                    first | rfl | (refine ret_dT ?_; omega) | (refine ret_abs ?_; omega) | (refine ret_abs ?_; simp only [hsm, Bool.not_eq_true', Bool.not_eq_false', decide_eq_true_eq, decide_eq_false_iff_not, not_true_eq_false, not_false_eq_true] at * <;> omega)
              ·
                refine RK.c (S.skip rfl rfl rfl rfl rfl) ?_
                refine RK.c (S.skip rfl rfl rfl rfl rfl) ?_
                refine RK.c (S.skip rfl rfl rfl rfl rfl) ?_
                refine RK.c (S.pickF .none rfl (.tmp rfl rfl) .cbool rfl) ?_
                refine RK.c (S.move .none rfl (.tmp rfl rfl)) ?_
                refine RK.c (S.skip rfl rfl rfl rfl rfl) ?_
                refine RK.c (S.skip rfl rfl rfl rfl rfl) ?_
                refine RK.c (S.skip rfl rfl rfl rfl rfl) ?_
                refine RK.c (S.pickF .none rfl (.tmp rfl rfl) .cbool rfl) ?_
                refine RK.c (S.move .none rfl (.tmp rfl rfl)) ?_
                refine RK.c (S.move (.yes rfl rfl rfl rfl) rfl (.tmp rfl rfl)) ?_
                refine RK.c (S.not (.yes rfl rfl rfl rfl) rfl (.tmp rfl rfl)) ?_
                refine RK.c (S.move (.yes rfl rfl rfl rfl) rfl (.tmp rfl rfl)) ?_
                refine RK.split (t := 98) rfl (fun g98 => ?_) (fun g98 => ?_)
                ·
                  refine RK.c (S.move (.yes rfl rfl rfl rfl) rfl (.tmp rfl rfl)) ?_
                  refine RK.c (S.eql (.yes rfl rfl rfl rfl) rfl (.tmp rfl rfl) (.cint rfl)) ?_
                  refine RK.c (S.pickT (.yes rfl rfl rfl rfl) rfl (.tmp rfl rfl) (.tmp rfl rfl) rfl) ?_
                  refine RK.c (S.move (.yes rfl rfl rfl rfl) rfl (.tmp rfl rfl)) ?_
                  refine RK.splitD (t := 102) rfl (fun g102 => ?_) (fun g102 => ?_)
                  ·
                    refine RK.c (S.move (.yes rfl rfl rfl rfl) rfl (.tmp rfl rfl)) ?_
                    refine RK.c (S.eql (.yes rfl rfl rfl rfl) rfl (.tmp rfl rfl) (.cint rfl)) ?_
                    refine RK.c (S.pickT (.yes rfl rfl rfl rfl) rfl (.tmp rfl rfl) (.tmp rfl rfl) rfl) ?_
                    refine RK.c (S.move (.yes rfl rfl rfl rfl) rfl (.tmp rfl rfl)) ?_
                    refine RK.splitD (t := 106) rfl (fun g106 => ?_) (fun g106 => ?_)
                    ·
                      refine RK.c (S.move (.yes rfl rfl rfl rfl) rfl (.tmp rfl rfl)) ?_
                      refine RK.c (S.eql (.yes rfl rfl rfl rfl) rfl (.tmp rfl rfl) (.cint rfl)) ?_
                      refine RK.c (S.pickT (.yes rfl rfl rfl rfl) rfl (.tmp rfl rfl) (.tmp rfl rfl) rfl) ?_
                      refine RK.c (S.pickF .none rfl (.tmp rfl rfl) (.tmp rfl rfl) rfl) ?_
                      refine RK.c (S.assign .none rfl (.tmp rfl rfl)) ?_
                      refine RK.nil ?_
                      refine Ab.D.code ?_
                      refine OK.ret (Ret.r1 (.tmp rfl rfl (.c (.same rfl) rfl) rfl) ?_)
                      first | rfl | (refine ret_dT ?_; omega) | (refine ret_abs ?_; omega) | (refine ret_abs ?_; simp only [hsm, Bool.not_eq_true', Bool.not_eq_false', decide_eq_true_eq, decide_eq_false_iff_not, not_true_eq_false, not_false_eq_true] at * <;> omega)
                    ·
                      refine RK.c (S.skip rfl rfl rfl rfl rfl) ?_
                      refine RK.c (S.skip rfl rfl rfl rfl rfl) ?_
                      refine RK.c (S.pickF (.yes rfl rfl rfl rfl) rfl (.tmp rfl rfl) .cbool rfl) ?_
                      refine RK.c (S.pickF .none rfl (.tmp rfl rfl) (.tmp rfl rfl) rfl) ?_
                      refine RK.c (S.assign .none rfl (.tmp rfl rfl)) ?_
                      refine RK.nil ?_
                      refine Ab.D.code ?_
                      refine OK.ret (Ret.r1 (.tmp rfl rfl (.c (.same rfl) rfl) rfl) ?_)
                      first | rfl | (refine ret_dT ?_; omega) | (refine ret_abs ?_; omega) | (refine ret_abs ?_; simp only [hsm, Bool.not_eq_true', Bool.not_eq_false', decide_eq_true_eq, decide_eq_false_iff_not, not_true_eq_false, not_false_eq_true] at * <;> omega)
                  ·
                    refine RK.c (S.skip rfl rfl rfl rfl rfl) ?_
                    refine RK.c (S.skip rfl rfl rfl rfl rfl) ?_
                    refine RK.c (S.pickF (.yes rfl rfl rfl rfl) rfl (.tmp rfl rfl) .cbool rfl) ?_
                    refine RK.c (S.move (.yes rfl rfl rfl rfl) rfl (.tmp rfl rfl)) ?_
                    refine RK.c (S.skip rfl rfl rfl rfl rfl) ?_
                    refine RK.c (S.skip rfl rfl rfl rfl rfl) ?_
                    refine RK.c (S.pickF (.yes rfl rfl rfl rfl) rfl (.tmp rfl rfl) .cbool rfl) ?_
                    refine RK.c (S.pickF .none rfl (.tmp rfl rfl) (.tmp rfl rfl) rfl) ?_
                    refine RK.c (S.assign .none rfl (.tmp rfl rfl)) ?_
                    refine RK.nil ?_
                    refine Ab.D.code ?_
                    refine OK.ret (Ret.r1 (.tmp rfl rfl (.c (.same rfl) rfl) rfl) ?_)
                    first | rfl | (refine ret_dT ?_; omega) | (refine ret_abs ?_; omega) | (refine ret_abs ?_; simp only [hsm, Bool.not_eq_true', Bool.not_eq_false', decide_eq_true_eq, decide_eq_false_iff_not, not_true_eq_false, not_false_eq_true] at * <;> omega)
                ·
                  refine RK.c (S.skip rfl rfl rfl rfl rfl) ?_
                  refine RK.c (S.skip rfl rfl rfl rfl rfl) ?_
                  refine RK.c (S.pickF (.yes rfl rfl rfl rfl) rfl (.tmp rfl rfl) .cbool rfl) ?_
                  refine RK.c (S.move (.yes rfl rfl rfl rfl) rfl (.tmp rfl rfl)) ?_
                  refine RK.c (S.skip rfl rfl rfl rfl rfl) ?_
                  refine RK.c (S.skip rfl rfl rfl rfl rfl) ?_
                  refine RK.c (S.pickF (.yes rfl rfl rfl rfl) rfl (.tmp rfl rfl) .cbool rfl) ?_
                  refine RK.c (S.move (.yes rfl rfl rfl rfl) rfl (.tmp rfl rfl)) ?_
                  refine RK.c (S.skip rfl rfl rfl rfl rfl) ?_
                  refine RK.c (S.skip rfl rfl rfl rfl rfl) ?_
                  refine RK.c (S.pickF (.yes rfl rfl rfl rfl) rfl (.tmp rfl rfl) .cbool rfl) ?_
                  refine RK.c (S.pickF .none rfl (.tmp rfl rfl) (.tmp rfl rfl) rfl) ?_
                  refine RK.c (S.assign .none rfl (.tmp rfl rfl)) ?_
                  refine RK.nil ?_
                  refine Ab.D.code ?_
                  refine OK.ret (Ret.r1 (.tmp rfl rfl (.c (.same rfl) rfl) rfl) ?_)
                  first | rfl | (refine ret_dT ?_; omega) | (refine ret_abs ?_; omega) | (refine ret_abs ?_; simp only [hsm, Bool.not_eq_true', Bool.not_eq_false', decide_eq_true_eq, decide_eq_false_iff_not, not_true_eq_false, not_false_eq_true] at * <;> omega)
            ·
              refine RK.c (S.skip rfl rfl rfl rfl rfl) ?_
              refine RK.c (S.skip rfl rfl rfl rfl rfl) ?_
              refine RK.c (S.pickF .none rfl (.tmp rfl rfl) .cbool rfl) ?_
              refine RK.c (S.move .none rfl (.tmp rfl rfl)) ?_
              refine RK.c (S.skip rfl rfl rfl rfl rfl) ?_
              refine RK.c (S.skip rfl rfl rfl rfl rfl) ?_
              refine RK.c (S.skip rfl rfl rfl rfl rfl) ?_
              refine RK.c (S.pickF .none rfl (.tmp rfl rfl) .cbool rfl) ?_
              refine RK.c (S.move .none rfl (.tmp rfl rfl)) ?_
              refine RK.c (S.skip rfl rfl rfl rfl rfl) ?_
              refine RK.c (S.skip rfl rfl rfl rfl rfl) ?_
              refine RK.c (S.skip rfl rfl rfl rfl rfl) ?_
              refine RK.c (S.pickF .none rfl (.tmp rfl rfl) .cbool rfl) ?_
              refine RK.c (S.move .none rfl (.tmp rfl rfl)) ?_
              refine RK.c (S.move (.yes rfl rfl rfl rfl) rfl (.tmp rfl rfl)) ?_
              refine RK.c (S.not (.yes rfl rfl rfl rfl) rfl (.tmp rfl rfl)) ?_
              refine RK.c (S.move (.yes rfl rfl rfl rfl) rfl (.tmp rfl rfl)) ?_
              refine RK.split (t := 98) rfl (fun g98 => ?_) (fun g98 => ?_)
              ·
                refine RK.c (S.move (.yes rfl rfl rfl rfl) rfl (.tmp rfl rfl)) ?_
                refine RK.c (S.eql (.yes rfl rfl rfl rfl) rfl (.tmp rfl rfl) (.cint rfl)) ?_
                refine RK.c (S.pickT (.yes rfl rfl rfl rfl) rfl (.tmp rfl rfl) (.tmp rfl rfl) rfl) ?_
                refine RK.c (S.move (.yes rfl rfl rfl rfl) rfl (.tmp rfl rfl)) ?_
                refine RK.splitD (t := 102) rfl (fun g102 => ?_) (fun g102 => ?_)
                ·
                  refine RK.c (S.move (.yes rfl rfl rfl rfl) rfl (.tmp rfl rfl)) ?_
                  refine RK.c (S.eql (.yes rfl rfl rfl rfl) rfl (.tmp rfl rfl) (.cint rfl)) ?_
                  refine RK.c (S.pickT (.yes rfl rfl rfl rfl) rfl (.tmp rfl rfl) (.tmp rfl rfl) rfl) ?_
                  refine RK.c (S.move (.yes rfl rfl rfl rfl) rfl (.tmp rfl rfl)) ?_
                  refine RK.splitD (t := 106) rfl (fun g106 => ?_) (fun g106 => ?_)
                  ·
                    refine RK.c (S.move (.yes rfl rfl rfl rfl) rfl (.tmp rfl rfl)) ?_
                    refine RK.c (S.eql (.yes rfl rfl rfl rfl) rfl (.tmp rfl rfl) (.cint rfl)) ?_
                    refine RK.c (S.pickT (.yes rfl rfl rfl rfl) rfl (.tmp rfl rfl) (.tmp rfl rfl) rfl) ?_
                    refine RK.c (S.pickF .none rfl (.tmp rfl rfl) (.tmp rfl rfl) rfl) ?_
                    refine RK.c (S.assign .none rfl (.tmp rfl rfl)) ?_
                    refine RK.nil ?_
                    refine Ab.D.code ?_
                    refine OK.ret (Ret.r1 (.tmp rfl rfl (.c (.same rfl) rfl) rfl) ?_)
                    first | rfl | (refine ret_dT ?_; omega) | (refine ret_abs ?_; omega) | (refine ret_abs ?_; simp only [hsm, Bool.not_eq_true', Bool.not_eq_false', decide_eq_true_eq, decide_eq_false_iff_not, not_true_eq_false, not_false_eq_true] at * <;> omega)
                  ·
                    refine RK.c (S.skip rfl rfl rfl rfl rfl) ?_
                    refine RK.c (S.skip rfl rfl rfl rfl rfl) ?_
                    refine RK.c (S.pickF (.yes rfl rfl rfl rfl) rfl (.tmp rfl rfl) .cbool rfl) ?_
                    refine RK.c (S.pickF .none rfl (.tmp rfl rfl) (.tmp rfl rfl) rfl) ?_
                    refine RK.c (S.assign .none rfl (.tmp rfl rfl)) ?_
                    refine RK.nil ?_
                    refine Ab.D.code ?_
                    refine OK.ret (Ret.r1 (.tmp rfl rfl (.c (.same rfl) rfl) rfl) ?_)
                    first | rfl | (refine ret_dT ?_; omega) | (refine ret_abs ?_; omega) | (refine ret_abs ?_; simp only [hsm, Bool.not_eq_true', Bool.not_eq_false', decide_eq_true_eq, decide_eq_false_iff_not, not_true_eq_false, not_false_eq_true] at * <;> omega)
                ·
                  refine RK.c (S.skip rfl rfl rfl rfl rfl) ?_
                  refine RK.c (S.skip rfl rfl rfl rfl rfl) ?_
                  refine RK.c (S.pickF (.yes rfl rfl rfl rfl) rfl (.tmp rfl rfl) .cbool rfl) ?_
                  refine RK.c (S.move (.yes rfl rfl rfl rfl) rfl (.tmp rfl rfl)) ?_
                  refine RK.c (S.skip rfl rfl rfl rfl rfl) ?_
                  refine RK.c (S.skip rfl rfl rfl rfl rfl) ?_
                  refine RK.c (S.pickF (.yes rfl rfl rfl rfl) rfl (.tmp rfl rfl) .cbool rfl) ?_
                  refine RK.c (S.pickF .none rfl (.tmp rfl rfl) (.tmp rfl rfl) rfl) ?_
                  refine RK.c (S.assign .none rfl (.tmp rfl rfl)) ?_
                  refine RK.nil ?_
                  refine Ab.D.code ?_
                  refine OK.ret (Ret.r1 (.tmp rfl rfl (.c (.same rfl) rfl) rfl) ?_)
                  first | rfl | (refine ret_dT ?_; omega) | (refine ret_abs ?_; omega) | (refine ret_abs ?_; simp only [hsm, Bool.not_eq_true', Bool.not_eq_false', decide_eq_true_eq, decide_eq_false_iff_not, not_true_eq_false, not_false_eq_true] at * <;> omega)
              ·
                refine RK.c (S.skip rfl rfl rfl rfl rfl) ?_
                refine RK.c (S.skip rfl rfl rfl rfl rfl) ?_
                refine RK.c (S.pickF (.yes rfl rfl rfl rfl) rfl (.tmp rfl rfl) .cbool rfl) ?_
                refine RK.c (S.move (.yes rfl rfl rfl rfl) rfl (.tmp rfl rfl)) ?_
                refine RK.c (S.skip rfl rfl rfl rfl rfl) ?_
                refine RK.c (S.skip rfl rfl rfl rfl rfl) ?_
                refine RK.c (S.pickF (.yes rfl rfl rfl rfl) rfl (.tmp rfl rfl) .cbool rfl) ?_
                refine RK.c (S.move (.yes rfl rfl rfl rfl) rfl (.tmp rfl rfl)) ?_
                refine RK.c (S.skip rfl rfl rfl rfl rfl) ?_
                refine RK.c (S.skip rfl rfl rfl rfl rfl) ?_
                refine RK.c (S.pickF (.yes rfl rfl rfl rfl) rfl (.tmp rfl rfl) .cbool rfl) ?_
                refine RK.c (S.pickF .none rfl (.tmp rfl rfl) (.tmp rfl rfl) rfl) ?_
                refine RK.c (S.assign .none rfl (.tmp rfl rfl)) ?_
                refine RK.nil ?_
                refine Ab.D.code ?_
                refine OK.ret (Ret.r1 (.tmp rfl rfl (.c (.same rfl) rfl) rfl) ?_)
                first | rfl | (refine ret_dT ?_; omega) | (refine ret_abs ?_; omega) | (refine ret_abs ?_; simp only [hsm, Bool.not_eq_true', Bool.not_eq_false', decide_eq_true_eq, decide_eq_false_iff_not, not_true_eq_false, not_false_eq_true] at * <;> omega)
    ·
      have hopen : openErr r l = ruleErr r := by rw [openErr, firstE2, if_pos c37]
      refine OK.skip ?_
      refine Ab.D.code ?_
      refine OK.seq ?_
      refine OK.seq ?_
      refine OK.reg ?_
      refine RK.c (S.move .none rfl (.tmp rfl rfl)) ?_
      refine RK.c (S.neq .none rfl (.tmp rfl rfl) (.cint rfl)) ?_
      refine RK.nil ?_
      refine Ab.D.code ?_
      refine OK.condD rfl rfl (fun c41 => ?_) (fun c41 => ?_)
      ·
        have hd : (driftT r l).1 = 0 ∧ (driftT r l).2.1 = 0 ∧ (driftT r l).2.2 = openErr r l := by rw [driftT, if_neg (by omega)]; exact ⟨rfl, rfl, rfl⟩
        have hsm : (if openErr r l = 0 then sumsT r l else []).length = 0 := by rw [if_neg (by omega)]; rfl
        refine OK.seq ?_
        refine OK.reg ?_
        refine RK.c (S.move .none rfl (.tmp rfl rfl)) ?_
        refine RK.c (S.move .none rfl (.tmp rfl rfl)) ?_
        refine RK.c (S.eql .none rfl (.tmp rfl rfl) (.tmp rfl rfl)) ?_
        refine RK.c (S.move .none rfl (.tmp rfl rfl)) ?_
        refine RK.splitD (t := 45) rfl (fun g45 => ?_) (fun g45 => ?_)
        ·
          refine RK.c (S.move (.yes rfl rfl rfl rfl) rfl (.tmp rfl rfl)) ?_
          refine RK.c (S.move (.yes rfl rfl rfl rfl) rfl (.tmp rfl rfl)) ?_
          refine RK.c (S.eql (.yes rfl rfl rfl rfl) rfl (.tmp rfl rfl) (.tmp rfl rfl)) ?_
          refine RK.c (S.pickT .none rfl (.tmp rfl rfl) (.tmp rfl rfl) rfl) ?_
          refine RK.c (S.move .none rfl (.tmp rfl rfl)) ?_
          refine RK.splitD (t := 50) rfl (fun g50 => ?_) (fun g50 => ?_)
          ·
            refine RK.c (S.move (.yes rfl rfl rfl rfl) rfl (.tmp rfl rfl)) ?_
            refine RK.c (S.lenM si40 (.yes rfl rfl rfl rfl) rfl (.tmp rfl rfl)) ?_
            refine RK.c (S.eql (.yes rfl rfl rfl rfl) rfl (.tmp rfl rfl) (.cint rfl)) ?_
            refine RK.c (S.pickT .none rfl (.tmp rfl rfl) (.tmp rfl rfl) rfl) ?_
            refine RK.c (S.move .none rfl (.tmp rfl rfl)) ?_
            refine RK.splitD (t := 55) rfl (fun g55 => ?_) (fun g55 => ?_)
            ·
              refine RK.c (S.move (.yes rfl rfl rfl rfl) rfl (.tmp rfl rfl)) ?_
              refine RK.c (S.eql (.yes rfl rfl rfl rfl) rfl (.tmp rfl rfl) (.cint rfl)) ?_
              refine RK.c (S.pickT .none rfl (.tmp rfl rfl) (.tmp rfl rfl) rfl) ?_
              refine RK.c (S.move .none rfl (.tmp rfl rfl)) ?_
              refine RK.splitD (t := 59) rfl (fun g59 => ?_) (fun g59 => ?_)
              ·
                refine RK.c (S.move (.yes rfl rfl rfl rfl) rfl (.tmp rfl rfl)) ?_
                refine RK.c (S.eql (.yes rfl rfl rfl rfl) rfl (.tmp rfl rfl) (.cint rfl)) ?_
                refine RK.c (S.pickT .none rfl (.tmp rfl rfl) (.tmp rfl rfl) rfl) ?_
                refine RK.c (S.assign .none rfl (.tmp rfl rfl)) ?_
                refine RK.nil ?_
                refine Ab.D.code ?_
                refine OK.ret (Ret.r1 (.tmp rfl rfl (.c (.same rfl) rfl) rfl) ?_)
                first | rfl | (refine ret_dT ?_; omega) | (refine ret_abs ?_; omega) | (refine ret_abs ?_; simp only [hsm, Bool.not_eq_true', Bool.not_eq_false', decide_eq_true_eq, decide_eq_false_iff_not, not_true_eq_false, not_false_eq_true] at * <;> omega)
              ·
                refine RK.c (S.skip rfl rfl rfl rfl rfl) ?_
                refine RK.c (S.skip rfl rfl rfl rfl rfl) ?_
                refine RK.c (S.pickF .none rfl (.tmp rfl rfl) .cbool rfl) ?_
                refine RK.c (S.assign .none rfl (.tmp rfl rfl)) ?_
                refine RK.nil ?_
                refine Ab.D.code ?_
                refine OK.ret (Ret.r1 (.tmp rfl rfl (.c (.same rfl) rfl) rfl) ?_)
                first | rfl | (refine ret_dT ?_; omega) | (refine ret_abs ?_; omega) | (refine ret_abs ?_; simp only [hsm, Bool.not_eq_true', Bool.not_eq_false', decide_eq_true_eq, decide_eq_false_iff_not, not_true_eq_false, not_false_eq_true] at * <;> omega)
            ·
              refine RK.c (S.skip rfl rfl rfl rfl rfl) ?_
              refine RK.c (S.skip rfl rfl rfl rfl rfl) ?_
              refine RK.c (S.pickF .none rfl (.tmp rfl rfl) .cbool rfl) ?_
              refine RK.c (S.move .none rfl (.tmp rfl rfl)) ?_
              refine RK.c (S.skip rfl rfl rfl rfl rfl) ?_
              refine RK.c (S.skip rfl rfl rfl rfl rfl) ?_
              refine RK.c (S.pickF .none rfl (.tmp rfl rfl) .cbool rfl) ?_
              refine RK.c (S.assign .none rfl (.tmp rfl rfl)) ?_
              refine RK.nil ?_
              refine Ab.D.code ?_
              refine OK.ret (Ret.r1 (.tmp rfl rfl (.c (.same rfl) rfl) rfl) ?_)
              first | rfl | (refine ret_dT ?_; omega) | (refine ret_abs ?_; omega) | (refine ret_abs ?_; simp only [hsm, Bool.not_eq_true', Bool.not_eq_false', decide_eq_true_eq, decide_eq_false_iff_not, not_true_eq_false, not_false_eq_true] at * <;> omega)
          ·
            refine RK.c (S.skip rfl rfl rfl rfl rfl) ?_
            refine RK.c (S.skip rfl rfl rfl rfl rfl) ?_
            refine RK.c (S.skip rfl rfl rfl rfl rfl) ?_
            refine RK.c (S.pickF .none rfl (.tmp rfl rfl) .cbool rfl) ?_
            refine RK.c (S.move .none rfl (.tmp rfl rfl)) ?_
            refine RK.c (S.skip rfl rfl rfl rfl rfl) ?_
            refine RK.c (S.skip rfl rfl rfl rfl rfl) ?_
            refine RK.c (S.pickF .none rfl (.tmp rfl rfl) .cbool rfl) ?_
            refine RK.c (S.move .none rfl (.tmp rfl rfl)) ?_
            refine RK.c (S.skip rfl rfl rfl rfl rfl) ?_
            refine RK.c (S.skip rfl rfl rfl rfl rfl) ?_
            refine RK.c (S.pickF .none rfl (.tmp rfl rfl) .cbool rfl) ?_
            refine RK.c (S.assign .none rfl (.tmp rfl rfl)) ?_
            refine RK.nil ?_
            refine Ab.D.code ?_
            refine OK.ret (Ret.r1 (.tmp rfl rfl (.c (.same rfl) rfl) rfl) ?_)
            first | rfl | (refine ret_dT ?_; omega) | (refine ret_abs ?_; omega) | (refine ret_abs ?_; simp only [hsm, Bool.not_eq_true', Bool.not_eq_false', decide_eq_true_eq, decide_eq_false_iff_not, not_true_eq_false, not_false_eq_true] at * <;> omega)
        ·
          refine RK.c (S.skip rfl rfl rfl rfl rfl) ?_
          refine RK.c (S.skip rfl rfl rfl rfl rfl) ?_
          refine RK.c (S.skip rfl rfl rfl rfl rfl) ?_
          refine RK.c (S.pickF .none rfl (.tmp rfl rfl) .cbool rfl) ?_
          refine RK.c (S.move .none rfl (.tmp rfl rfl)) ?_
          refine RK.c (S.skip rfl rfl rfl rfl rfl) ?_
          refine RK.c (S.skip rfl rfl rfl rfl rfl) ?_
          refine RK.c (S.skip rfl rfl rfl rfl rfl) ?_
          refine RK.c (S.pickF .none rfl (.tmp rfl rfl) .cbool rfl) ?_
          refine RK.c (S.move .none rfl (.tmp rfl rfl)) ?_
          refine RK.c (S.skip rfl rfl rfl rfl rfl) ?_
          refine RK.c (S.skip rfl rfl rfl rfl rfl) ?_
          refine RK.c (S.pickF .none rfl (.tmp rfl rfl) .cbool rfl) ?_
          refine RK.c (S.move .none rfl (.tmp rfl rfl)) ?_
          refine RK.c (S.skip rfl rfl rfl rfl rfl) ?_
          refine RK.c (S.skip rfl rfl rfl rfl rfl) ?_
          refine RK.c (S.pickF .none rfl (.tmp rfl rfl) .cbool rfl) ?_
          refine RK.c (S.assign .none rfl (.tmp rfl rfl)) ?_
          refine RK.nil ?_
          refine Ab.D.code ?_
          refine OK.ret (Ret.r1 (.tmp rfl rfl (.c (.same rfl) rfl) rfl) ?_)
          first | rfl | (refine ret_dT ?_; omega) | (refine ret_abs ?_; omega) | (refine ret_abs ?_; simp only [hsm, Bool.not_eq_true', Bool.not_eq_false', decide_eq_true_eq, decide_eq_false_iff_not, not_true_eq_false, not_false_eq_true] at * <;> omega)
      ·
        have he : openErr r l = 0 := by omega
        have hd : (driftT r l).1 = (driftGo r.limit 0 (sumsT r l)).1 ∧ (driftT r l).2.1 = (driftGo r.limit 0 (sumsT r l)).2.1 ∧ (driftT r l).2.2 = (driftGo r.limit 0 (sumsT r l)).2.2 := by rw [driftT, if_pos he]; exact ⟨rfl, rfl, rfl⟩
        have hcs := driftGo_cases r.limit (sumsT r l) 0
        have hcs2 : (driftGo r.limit 0 (sumsT r l)).2.2 = 0 ∨ ((driftGo r.limit 0 (sumsT r l)).1 = 0 ∧ (driftGo r.limit 0 (sumsT r l)).2.1 = 0 ∧ (driftGo r.limit 0 (sumsT r l)).2.2 = 12) := hcs.imp id fun h => by rw [h]; exact ⟨rfl, rfl, rfl⟩
        have hsm : (if openErr r l = 0 then sumsT r l else []) = sumsT r l := if_pos he
        refine OK.skip ?_
        refine Ab.D.code ?_
        refine OK.seq ?_
        refine OK.seq ?_
        refine OK.reg ?_
        refine RK.c (S.move .none rfl (.tmp rfl rfl)) ?_
        refine RK.c (S.neq .none rfl (.tmp rfl rfl) (.cint rfl)) ?_
        refine RK.c (S.move .none rfl (.tmp rfl rfl)) ?_
        refine RK.splitD (t := 65) rfl (fun g65 => ?_) (fun g65 => ?_)
        ·
          refine RK.c (S.skip rfl rfl rfl rfl rfl) ?_
          refine RK.c (S.skip rfl rfl rfl rfl rfl) ?_
          refine RK.c (S.skip rfl rfl rfl rfl rfl) ?_
          refine RK.c (S.skip rfl rfl rfl rfl rfl) ?_
          refine RK.c (S.skip rfl rfl rfl rfl rfl) ?_
          refine RK.c (S.skip rfl rfl rfl rfl rfl) ?_
          refine RK.c (S.pickT .none rfl (.tmp rfl rfl) .cbool rfl) ?_
          refine RK.nil ?_
          refine Ab.D.code ?_
          refine OK.condT rfl rfl rfl ?_
          refine OK.seq ?_
          refine OK.reg ?_
          refine RK.c (S.assign .none rfl .cbool) ?_
          refine RK.nil ?_
          refine Ab.D.code ?_
          refine OK.ret (Ret.r1 (.tmp rfl rfl (.c (.same rfl) rfl) rfl) ?_)
          first | rfl | (refine ret_dT ?_; omega) | (refine ret_abs ?_; omega) | (refine ret_abs ?_; simp only [hsm, Bool.not_eq_true', Bool.not_eq_false', decide_eq_true_eq, decide_eq_false_iff_not, not_true_eq_false, not_false_eq_true] at * <;> omega)
        ·
          refine RK.c (S.move (.yes rfl rfl rfl rfl) rfl (.tmp rfl rfl)) ?_
          refine RK.c (S.bloadN ti39 (.yes rfl rfl rfl rfl) rfl (.tmp rfl rfl) rfl rfl rfl rfl) ?_
          refine RK.c (S.move (.yes rfl rfl rfl rfl) rfl (.tmp rfl rfl)) ?_
          refine RK.c (S.call (ref_Sums (openErr_0 he).1 (openErr_0 he).2) Try.call23 (.yes rfl rfl rfl rfl) rfl (.cons (.tmp rfl rfl) (.cons (.tmp rfl rfl) .nil)) rfl) ?_
          refine RK.c (S.call (ref_SameSums) Try.call22 (.yes rfl rfl rfl rfl) rfl (.cons (.tmp rfl rfl) (.cons (.tmp rfl rfl) .nil)) rfl) ?_
          refine RK.c (S.notD (.yes rfl rfl rfl rfl) rfl (.tmp rfl rfl)) ?_
          refine RK.c (S.pickF .none rfl (.tmp rfl rfl) (.tmp rfl rfl) rfl) ?_
          refine RK.nil ?_
          refine Ab.D.code ?_
          refine OK.condD rfl rfl (fun c72 => ?_) (fun c72 => ?_)
          ·
            refine OK.seq ?_
            refine OK.reg ?_
            refine RK.c (S.assign .none rfl .cbool) ?_
            refine RK.nil ?_
            refine Ab.D.code ?_
            refine OK.ret (Ret.r1 (.tmp rfl rfl (.c (.same rfl) rfl) rfl) ?_)
            first | rfl | (refine ret_dT ?_; omega) | (refine ret_abs ?_; omega) | (refine ret_abs ?_; simp only [hsm, Bool.not_eq_true', Bool.not_eq_false', decide_eq_true_eq, decide_eq_false_iff_not, not_true_eq_false, not_false_eq_true] at * <;> omega)
          ·
            refine OK.skip ?_
            refine Ab.D.code ?_
            refine OK.seq ?_
            refine OK.reg ?_
            refine RK.c (S.bloadN ti39 .none rfl (.tmp rfl rfl) rfl rfl rfl rfl) ?_
            refine RK.c (S.move .none rfl (.tmp rfl rfl)) ?_
            refine RK.c (S.call (ref_Drift (openErr_0 he).1 (openErr_0 he).2) Try.call24 .none rfl (.cons (.tmp rfl rfl) (.cons (.tmp rfl rfl) .nil)) rfl) ?_
            refine RK.c (S.move .none rfl (.tmp rfl rfl)) ?_
            refine RK.c (S.extract .none rfl (.tmp rfl rfl) rfl rfl) ?_
            refine RK.c (S.extract .none rfl (.tmp rfl rfl) rfl rfl) ?_
            refine RK.c (S.extract .none rfl (.tmp rfl rfl) rfl rfl) ?_
            refine RK.c (S.assign .none rfl (.tmp rfl rfl)) ?_
            refine RK.c (S.assign .none rfl (.tmp rfl rfl)) ?_
            refine RK.c (S.assign .none rfl (.tmp rfl rfl)) ?_
            refine RK.nil ?_
            refine Ab.D.code ?_
            refine OK.seq ?_
            refine OK.reg ?_
            refine RK.c (S.move .none rfl (.tmp rfl rfl)) ?_
            refine RK.c (S.move .none rfl (.tmp rfl rfl)) ?_
            refine RK.split (t := 81) rfl (fun g81 => ?_) (fun g81 => ?_)
            ·
              refine RK.c (S.move (.yes rfl rfl rfl rfl) rfl (.tmp rfl rfl)) ?_
              refine RK.c (S.eql (.yes rfl rfl rfl rfl) rfl (.tmp rfl rfl) (.cint rfl)) ?_
              refine RK.c (S.pickT .none rfl (.tmp rfl rfl) (.tmp rfl rfl) rfl) ?_
              refine RK.c (S.move .none rfl (.tmp rfl rfl)) ?_
              refine RK.splitD (t := 85) rfl (fun g85 => ?_) (fun g85 => ?_)
              ·
                refine RK.c (S.move (.yes rfl rfl rfl rfl) rfl (.tmp rfl rfl)) ?_
                refine RK.c (S.move (.yes rfl rfl rfl rfl) rfl (.tmp rfl rfl)) ?_
                refine RK.c (S.eql (.yes rfl rfl rfl rfl) rfl (.tmp rfl rfl) (.tmp rfl rfl)) ?_
                refine RK.c (S.pickT .none rfl (.tmp rfl rfl) (.tmp rfl rfl) rfl) ?_
                refine RK.c (S.move .none rfl (.tmp rfl rfl)) ?_
                refine RK.splitD (t := 90) rfl (fun g90 => ?_) (fun g90 => ?_)
                ·
                  refine RK.c (S.move (.yes rfl rfl rfl rfl) rfl (.tmp rfl rfl)) ?_
                  refine RK.c (S.move (.yes rfl rfl rfl rfl) rfl (.tmp rfl rfl)) ?_
                  refine RK.c (S.eql (.yes rfl rfl rfl rfl) rfl (.tmp rfl rfl) (.tmp rfl rfl)) ?_
                  refine RK.c (S.pickT .none rfl (.tmp rfl rfl) (.tmp rfl rfl) rfl) ?_
                  refine RK.c (S.move .none rfl (.tmp rfl rfl)) ?_
                  refine RK.splitD (t := 95) rfl (fun g95 => ?_) (fun g95 => ?_)
                  ·
                    refine RK.c (S.skip rfl rfl rfl rfl rfl) ?_
                    refine RK.c (S.skip rfl rfl rfl rfl rfl) ?_
                    refine RK.c (S.skip rfl rfl rfl rfl rfl) ?_
                    refine RK.c (S.skipU rfl rfl rfl rfl) ?_
                    refine RK.c (S.skipU rfl rfl rfl rfl) ?_
                    refine RK.c (S.skip rfl rfl rfl rfl rfl) ?_
                    refine RK.c (S.skip rfl rfl rfl rfl rfl) ?_
                    refine RK.c (S.skipU rfl rfl rfl rfl) ?_
                    refine RK.c (S.skipU rfl rfl rfl rfl) ?_
                    refine RK.c (S.skip rfl rfl rfl rfl rfl) ?_
                    refine RK.c (S.skip rfl rfl rfl rfl rfl) ?_
                    refine RK.c (S.skipU rfl rfl rfl rfl) ?_
                    refine RK.c (S.skipU rfl rfl rfl rfl) ?_
                    refine RK.c (S.skip rfl rfl rfl rfl rfl) ?_
                    refine RK.c (S.pickT .none rfl (.tmp rfl rfl) .cbool rfl) ?_
                    refine RK.c (S.assign .none rfl (.tmp rfl rfl)) ?_
                    refine RK.nil ?_
                    refine Ab.D.code ?_
                    refine OK.ret (Ret.r1 (.tmp rfl rfl (.c (.same rfl) rfl) rfl) ?_)
                    first | rfl | (refine ret_dT ?_; omega) | (refine ret_abs ?_; omega) | (refine ret_abs ?_; simp only [hsm, Bool.not_eq_true', Bool.not_eq_false', decide_eq_true_eq, decide_eq_false_iff_not, not_true_eq_false, not_false_eq_true] at * <;> omega)
                  ·
                    refine RK.c (S.move (.yes rfl rfl rfl rfl) rfl (.tmp rfl rfl)) ?_
                    refine RK.c (S.not (.yes rfl rfl rfl rfl) rfl (.tmp rfl rfl)) ?_
                    refine RK.c (S.move (.yes rfl rfl rfl rfl) rfl (.tmp rfl rfl)) ?_
                    refine RK.split (t := 98) rfl (fun g98 => ?_) (fun g98 => ?_)
                    ·
                      refine RK.c (S.move (.yes rfl rfl rfl rfl) rfl (.tmp rfl rfl)) ?_
                      refine RK.c (S.eql (.yes rfl rfl rfl rfl) rfl (.tmp rfl rfl) (.cint rfl)) ?_
                      refine RK.c (S.pickT (.yes rfl rfl rfl rfl) rfl (.tmp rfl rfl) (.tmp rfl rfl) rfl) ?_
                      refine RK.c (S.move (.yes rfl rfl rfl rfl) rfl (.tmp rfl rfl)) ?_
                      refine RK.splitD (t := 102) rfl (fun g102 => ?_) (fun g102 => ?_)
                      ·
                        refine RK.c (S.move (.yes rfl rfl rfl rfl) rfl (.tmp rfl rfl)) ?_
                        refine RK.c (S.eql (.yes rfl rfl rfl rfl) rfl (.tmp rfl rfl) (.cint rfl)) ?_
                        refine RK.c (S.pickT (.yes rfl rfl rfl rfl) rfl (.tmp rfl rfl) (.tmp rfl rfl) rfl) ?_
                        refine RK.c (S.move (.yes rfl rfl rfl rfl) rfl (.tmp rfl rfl)) ?_
                        refine RK.splitD (t := 106) rfl (fun g106 => ?_) (fun g106 => ?_)
                        ·
                          refine RK.c (S.move (.yes rfl rfl rfl rfl) rfl (.tmp rfl rfl)) ?_
                          refine RK.c (S.eql (.yes rfl rfl rfl rfl) rfl (.tmp rfl rfl) (.cint rfl)) ?_
                          refine RK.c (S.pickT (.yes rfl rfl rfl rfl) rfl (.tmp rfl rfl) (.tmp rfl rfl) rfl) ?_
                          refine RK.c (S.pickF .none rfl (.tmp rfl rfl) (.tmp rfl rfl) rfl) ?_
                          refine RK.c (S.assign .none rfl (.tmp rfl rfl)) ?_
                          refine RK.nil ?_
                          refine Ab.D.code ?_
                          refine OK.ret (Ret.r1 (.tmp rfl rfl (.c (.same rfl) rfl) rfl) ?_)
                          first | rfl | (refine ret_dT ?_; omega) | (refine ret_abs ?_; omega) | (refine ret_abs ?_; simp only [hsm, Bool.not_eq_true', Bool.not_eq_false', decide_eq_true_eq, decide_eq_false_iff_not, not_true_eq_false, not_false_eq_true] at * <;> omega)
                        ·
                          refine RK.c (S.skip rfl rfl rfl rfl rfl) ?_
                          refine RK.c (S.skip rfl rfl rfl rfl rfl) ?_
                          refine RK.c (S.pickF (.yes rfl rfl rfl rfl) rfl (.tmp rfl rfl) .cbool rfl) ?_
                          refine RK.c (S.pickF .none rfl (.tmp rfl rfl) (.tmp rfl rfl) rfl) ?_
                          refine RK.c (S.assign .none rfl (.tmp rfl rfl)) ?_
                          refine RK.nil ?_
                          refine Ab.D.code ?_
                          refine OK.ret (Ret.r1 (.tmp rfl rfl (.c (.same rfl) rfl) rfl) ?_)
                          first | rfl | (refine ret_dT ?_; omega) | (refine ret_abs ?_; omega) | (refine ret_abs ?_; simp only [hsm, Bool.not_eq_true', Bool.not_eq_false', decide_eq_true_eq, decide_eq_false_iff_not, not_true_eq_false, not_false_eq_true] at * <;> omega)
                      ·
                        refine RK.c (S.skip rfl rfl rfl rfl rfl) ?_
                        refine RK.c (S.skip rfl rfl rfl rfl rfl) ?_
                        refine RK.c (S.pickF (.yes rfl rfl rfl rfl) rfl (.tmp rfl rfl) .cbool rfl) ?_
                        refine RK.c (S.move (.yes rfl rfl rfl rfl) rfl (.tmp rfl rfl)) ?_
                        refine RK.c (S.skip rfl rfl rfl rfl rfl) ?_
                        refine RK.c (S.skip rfl rfl rfl rfl rfl) ?_
                        refine RK.c (S.pickF (.yes rfl rfl rfl rfl) rfl (.tmp rfl rfl) .cbool rfl) ?_
                        refine RK.c (S.pickF .none rfl (.tmp rfl rfl) (.tmp rfl rfl) rfl) ?_
                        refine RK.c (S.assign .none rfl (.tmp rfl rfl)) ?_
                        refine RK.nil ?_
                        refine Ab.D.code ?_
                        refine OK.ret (Ret.r1 (.tmp rfl rfl (.c (.same rfl) rfl) rfl) ?_)
                        first | rfl | (refine ret_dT ?_; omega) | (refine ret_abs ?_; omega) | (refine ret_abs ?_; simp only [hsm, Bool.not_eq_true', Bool.not_eq_false', decide_eq_true_eq, decide_eq_false_iff_not, not_true_eq_false, not_false_eq_true] at * <;> omega)
                    ·
                      refine RK.c (S.skip rfl rfl rfl rfl rfl) ?_
                      refine RK.c (S.skip rfl rfl rfl rfl rfl) ?_
                      refine RK.c (S.pickF (.yes rfl rfl rfl rfl) rfl (.tmp rfl rfl) .cbool rfl) ?_
                      refine RK.c (S.move (.yes rfl rfl rfl rfl) rfl (.tmp rfl rfl)) ?_
                      refine RK.c (S.skip rfl rfl rfl rfl rfl) ?_
                      refine RK.c (S.skip rfl rfl rfl rfl rfl) ?_
                      refine RK.c (S.pickF (.yes rfl rfl rfl rfl) rfl (.tmp rfl rfl) .cbool rfl) ?_
                      refine RK.c (S.move (.yes rfl rfl rfl rfl) rfl (.tmp rfl rfl)) ?_
                      refine RK.c (S.skip rfl rfl rfl rfl rfl) ?_
                      refine RK.c (S.skip rfl rfl rfl rfl rfl) ?_
                      refine RK.c (S.pickF (.yes rfl rfl rfl rfl) rfl (.tmp rfl rfl) .cbool rfl) ?_
                      refine RK.c (S.pickF .none rfl (.tmp rfl rfl) (.tmp rfl rfl) rfl) ?_
                      refine RK.c (S.assign .none rfl (.tmp rfl rfl)) ?_
                      refine RK.nil ?_
                      refine Ab.D.code ?_
                      refine OK.ret (Ret.r1 (.tmp rfl rfl (.c (.same rfl) rfl) rfl) ?_)
                      first | rfl | (refine ret_dT ?_; omega) | (refine ret_abs ?_; omega) | (refine ret_abs ?_; simp only [hsm, Bool.not_eq_true', Bool.not_eq_false', decide_eq_true_eq, decide_eq_false_iff_not, not_true_eq_false, not_false_eq_true] at * <;> omega)
                ·
                  refine RK.c (S.skip rfl rfl rfl rfl rfl) ?_
                  refine RK.c (S.skip rfl rfl rfl rfl rfl) ?_
                  refine RK.c (S.skip rfl rfl rfl rfl rfl) ?_
                  refine RK.c (S.pickF .none rfl (.tmp rfl rfl) .cbool rfl) ?_
                  refine RK.c (S.move .none rfl (.tmp rfl rfl)) ?_
                  refine RK.c (S.move (.yes rfl rfl rfl rfl) rfl (.tmp rfl rfl)) ?_
                  refine RK.c (S.not (.yes rfl rfl rfl rfl) rfl (.tmp rfl rfl)) ?_
                  refine RK.c (S.move (.yes rfl rfl rfl rfl) rfl (.tmp rfl rfl)) ?_
                  refine RK.split (t := 98) rfl (fun g98 => ?_) (fun g98 => ?_)
                  ·
                    refine RK.c (S.move (.yes rfl rfl rfl rfl) rfl (.tmp rfl rfl)) ?_
                    refine RK.c (S.eql (.yes rfl rfl rfl rfl) rfl (.tmp rfl rfl) (.cint rfl)) ?_
                    refine RK.c (S.pickT (.yes rfl rfl rfl rfl) rfl (.tmp rfl rfl) (.tmp rfl rfl) rfl) ?_
                    refine RK.c (S.move (.yes rfl rfl rfl rfl) rfl (.tmp rfl rfl)) ?_
                    refine RK.splitD (t := 102) rfl (fun g102 => ?_) (fun g102 => ?_)
                    ·
                      refine RK.c (S.move (.yes rfl rfl rfl rfl) rfl (.tmp rfl rfl)) ?_
                      refine RK.c (S.eql (.yes rfl rfl rfl rfl) rfl (.tmp rfl rfl) (.cint rfl)) ?_
                      refine RK.c (S.pickT (.yes rfl rfl rfl rfl) rfl (.tmp rfl rfl) (.tmp rfl rfl) rfl) ?_
                      refine RK.c (S.move (.yes rfl rfl rfl rfl) rfl (.tmp rfl rfl)) ?_
                      refine RK.splitD (t := 106) rfl (fun g106 => ?_) (fun g106 => ?_)
                      ·
                        refine RK.c (S.move (.yes rfl rfl rfl rfl) rfl (.tmp rfl rfl)) ?_
                        refine RK.c (S.eql (.yes rfl rfl rfl rfl) rfl (.tmp rfl rfl) (.cint rfl)) ?_
                        refine RK.c (S.pickT (.yes rfl rfl rfl rfl) rfl (.tmp rfl rfl) (.tmp rfl rfl) rfl) ?_
                        refine RK.c (S.pickF .none rfl (.tmp rfl rfl) (.tmp rfl rfl) rfl) ?_
                        refine RK.c (S.assign .none rfl (.tmp rfl rfl)) ?_
                        refine RK.nil ?_
                        refine Ab.D.code ?_
                        refine OK.ret (Ret.r1 (.tmp rfl rfl (.c (.same rfl) rfl) rfl) ?_)
                        first | rfl | (refine ret_dT ?_; omega) | (refine ret_abs ?_; omega) | (refine ret_abs ?_; simp only [hsm, Bool.not_eq_true', Bool.not_eq_false', decide_eq_true_eq, decide_eq_false_iff_not, not_true_eq_false, not_false_eq_true] at * <;> omega)
                      ·
                        refine RK.c (S.skip rfl rfl rfl rfl rfl) ?_
                        refine RK.c (S.skip rfl rfl rfl rfl rfl) ?_
                        refine RK.c (S.pickF (.yes rfl rfl rfl rfl) rfl (.tmp rfl rfl) .cbool rfl) ?_
                        refine RK.c (S.pickF .none rfl (.tmp rfl rfl) (.tmp rfl rfl) rfl) ?_
                        refine RK.c (S.assign .none rfl (.tmp rfl rfl)) ?_
                        refine RK.nil ?_
                        refine Ab.D.code ?_
                        refine OK.ret (Ret.r1 (.tmp rfl rfl (.c (.same rfl) rfl) rfl) ?_)
                        first | rfl | (refine ret_dT ?_; omega) | (refine ret_abs ?_; omega) | (refine ret_abs ?_; simp only [hsm, Bool.not_eq_true', Bool.not_eq_false', decide_eq_true_eq, decide_eq_false_iff_not, not_true_eq_false, not_false_eq_true] at * <;> omega)
                    ·
                      refine RK.c (S.skip rfl rfl rfl rfl rfl) ?_
                      refine RK.c (S.skip rfl rfl rfl rfl rfl) ?_
                      refine RK.c (S.pickF (.yes rfl rfl rfl rfl) rfl (.tmp rfl rfl) .cbool rfl) ?_
                      refine RK.c (S.move (.yes rfl rfl rfl rfl) rfl (.tmp rfl rfl)) ?_
                      refine RK.c (S.skip rfl rfl rfl rfl rfl) ?_
                      refine RK.c (S.skip rfl rfl rfl rfl rfl) ?_
                      refine RK.c (S.pickF (.yes rfl rfl rfl rfl) rfl (.tmp rfl rfl) .cbool rfl) ?_
                      refine RK.c (S.pickF .none rfl (.tmp rfl rfl) (.tmp rfl rfl) rfl) ?_
                      refine RK.c (S.assign .none rfl (.tmp rfl rfl)) ?_
                      refine RK.nil ?_
                      refine Ab.D.code ?_
                      refine OK.ret (Ret.r1 (.tmp rfl rfl (.c (.same rfl) rfl) rfl) ?_)
                      first | rfl | (refine ret_dT ?_; omega) | (refine ret_abs ?_; omega) | (refine ret_abs ?_; simp only [hsm, Bool.not_eq_true', Bool.not_eq_false', decide_eq_true_eq, decide_eq_false_iff_not, not_true_eq_false, not_false_eq_true] at * <;> omega)
                  ·
                    refine RK.c (S.skip rfl rfl rfl rfl rfl) ?_
                    refine RK.c (S.skip rfl rfl rfl rfl rfl) ?_
                    refine RK.c (S.pickF (.yes rfl rfl rfl rfl) rfl (.tmp rfl rfl) .cbool rfl) ?_
                    refine RK.c (S.move (.yes rfl rfl rfl rfl) rfl (.tmp rfl rfl)) ?_
                    refine RK.c (S.skip rfl rfl rfl rfl rfl) ?_
                    refine RK.c (S.skip rfl rfl rfl rfl rfl) ?_
                    refine RK.c (S.pickF (.yes rfl rfl rfl rfl) rfl (.tmp rfl rfl) .cbool rfl) ?_
                    refine RK.c (S.move (.yes rfl rfl rfl rfl) rfl (.tmp rfl rfl)) ?_
                    refine RK.c (S.skip rfl rfl rfl rfl rfl) ?_
                    refine RK.c (S.skip rfl rfl rfl rfl rfl) ?_
                    refine RK.c (S.pickF (.yes rfl rfl rfl rfl) rfl (.tmp rfl rfl) .cbool rfl) ?_
                    refine RK.c (S.pickF .none rfl (.tmp rfl rfl) (.tmp rfl rfl) rfl) ?_
                    refine RK.c (S.assign .none rfl (.tmp rfl rfl)) ?_
                    refine RK.nil ?_
                    refine Ab.D.code ?_
                    refine OK.ret (Ret.r1 (.tmp rfl rfl (.c (.same rfl) rfl) rfl) ?_)
                    first | rfl | (refine ret_dT ?_; omega) | (refine ret_abs ?_; omega) | (refine ret_abs ?_; simp only [hsm, Bool.not_eq_true', Bool.not_eq_false', decide_eq_true_eq, decide_eq_false_iff_not, not_true_eq_false, not_false_eq_true] at * <;> omega)
              ·
                refine RK.c (S.skip rfl rfl rfl rfl rfl) ?_
                refine RK.c (S.skip rfl rfl rfl rfl rfl) ?_
                refine RK.c (S.skip rfl rfl rfl rfl rfl) ?_
                refine RK.c (S.pickF .none rfl (.tmp rfl rfl) .cbool rfl) ?_
                refine RK.c (S.move .none rfl (.tmp rfl rfl)) ?_
                refine RK.c (S.skip rfl rfl rfl rfl rfl) ?_
                refine RK.c (S.skip rfl rfl rfl rfl rfl) ?_
                refine RK.c (S.skip rfl rfl rfl rfl rfl) ?_
                refine RK.c (S.pickF .none rfl (.tmp rfl rfl) .cbool rfl) ?_
                refine RK.c (S.move .none rfl (.tmp rfl rfl)) ?_
                refine RK.c (S.move (.yes rfl rfl rfl rfl) rfl (.tmp rfl rfl)) ?_
                refine RK.c (S.not (.yes rfl rfl rfl rfl) rfl (.tmp rfl rfl)) ?_
                refine RK.c (S.move (.yes rfl rfl rfl rfl) rfl (.tmp rfl rfl)) ?_
                refine RK.split (t := 98) rfl (fun g98 => ?_) (fun g98 => ?_)
                ·
                  refine RK.c (S.move (.yes rfl rfl rfl rfl) rfl (.tmp rfl rfl)) ?_
                  refine RK.c (S.eql (.yes rfl rfl rfl rfl) rfl (.tmp rfl rfl) (.cint rfl)) ?_
                  refine RK.c (S.pickT (.yes rfl rfl rfl rfl) rfl (.tmp rfl rfl) (.tmp rfl rfl) rfl) ?_
                  refine RK.c (S.move (.yes rfl rfl rfl rfl) rfl (.tmp rfl rfl)) ?_
                  refine RK.splitD (t := 102) rfl (fun g102 => ?_) (fun g102 => ?_)
                  ·
                    refine RK.c (S.move (.yes rfl rfl rfl rfl) rfl (.tmp rfl rfl)) ?_
                    refine RK.c (S.eql (.yes rfl rfl rfl rfl) rfl (.tmp rfl rfl) (.cint rfl)) ?_
                    refine RK.c (S.pickT (.yes rfl rfl rfl rfl) rfl (.tmp rfl rfl) (.tmp rfl rfl) rfl) ?_
                    refine RK.c (S.move (.yes rfl rfl rfl rfl) rfl (.tmp rfl rfl)) ?_
                    refine RK.splitD (t := 106) rfl (fun g106 => ?_) (fun g106 => ?_)
                    ·
                      refine RK.c (S.move (.yes rfl rfl rfl rfl) rfl (.tmp rfl rfl)) ?_
                      refine RK.c (S.eql (.yes rfl rfl rfl rfl) rfl (.tmp rfl rfl) (.cint rfl)) ?_
                      refine RK.c (S.pickT (.yes rfl rfl rfl rfl) rfl (.tmp rfl rfl) (.tmp rfl rfl) rfl) ?_
                      refine RK.c (S.pickF .none rfl (.tmp rfl rfl) (.tmp rfl rfl) rfl) ?_
                      refine RK.c (S.assign .none rfl (.tmp rfl rfl)) ?_
                      refine RK.nil ?_
                      refine Ab.D.code ?_
                      refine OK.ret (Ret.r1 (.tmp rfl rfl (.c (.same rfl) rfl) rfl) ?_)
                      first | rfl | (refine ret_dT ?_; omega) | (refine ret_abs ?_; omega) | (refine ret_abs ?_; simp only [hsm, Bool.not_eq_true', Bool.not_eq_false', decide_eq_true_eq, decide_eq_false_iff_not, not_true_eq_false, not_false_eq_true] at * <;> omega)
                    ·
                      refine RK.c (S.skip rfl rfl rfl rfl rfl) ?_
                      refine RK.c (S.skip rfl rfl rfl rfl rfl) ?_
                      refine RK.c (S.pickF (.yes rfl rfl rfl rfl) rfl (.tmp rfl rfl) .cbool rfl) ?_
                      refine RK.c (S.pickF .none rfl (.tmp rfl rfl) (.tmp rfl rfl) rfl) ?_
                      refine RK.c (S.assign .none rfl (.tmp rfl rfl)) ?_
                      refine RK.nil ?_
                      refine Ab.D.code ?_
                      refine OK.ret (Ret.r1 (.tmp rfl rfl (.c (.same rfl) rfl) rfl) ?_)
                      first | rfl | (refine ret_dT ?_; omega) | (refine ret_abs ?_; omega) | (refine ret_abs ?_; simp only [hsm, Bool.not_eq_true', Bool.not_eq_false', decide_eq_true_eq, decide_eq_false_iff_not, not_true_eq_false, not_false_eq_true] at * <;> omega)
                  ·
                    refine RK.c (S.skip rfl rfl rfl rfl rfl) ?_
                    refine RK.c (S.skip rfl rfl rfl rfl rfl) ?_
                    refine RK.c (S.pickF (.yes rfl rfl rfl rfl) rfl (.tmp rfl rfl) .cbool rfl) ?_
                    refine RK.c (S.move (.yes rfl rfl rfl rfl) rfl (.tmp rfl rfl)) ?_
                    refine RK.c (S.skip rfl rfl rfl rfl rfl) ?_
                    refine RK.c (S.skip rfl rfl rfl rfl rfl) ?_
                    refine RK.c (S.pickF (.yes rfl rfl rfl rfl) rfl (.tmp rfl rfl) .cbool rfl) ?_
                    refine RK.c (S.pickF .none rfl (.tmp rfl rfl) (.tmp rfl rfl) rfl) ?_
                    refine RK.c (S.assign .none rfl (.tmp rfl rfl)) ?_
                    refine RK.nil ?_
                    refine Ab.D.code ?_
                    refine OK.ret (Ret.r1 (.tmp rfl rfl (.c (.same rfl) rfl) rfl) ?_)
                    first | rfl | (refine ret_dT ?_; omega) | (refine ret_abs ?_; omega) | (refine ret_abs ?_; simp only [hsm, Bool.not_eq_true', Bool.not_eq_false', decide_eq_true_eq, decide_eq_false_iff_not, not_true_eq_false, not_false_eq_true] at * <;> omega)
                ·
                  refine RK.c (S.skip rfl rfl rfl rfl rfl) ?_
                  refine RK.c (S.skip rfl rfl rfl rfl rfl) ?_
                  refine RK.c (S.pickF (.yes rfl rfl rfl rfl) rfl (.tmp rfl rfl) .cbool rfl) ?_
                  refine RK.c (S.move (.yes rfl rfl rfl rfl) rfl (.tmp rfl rfl)) ?_
                  refine RK.c (S.skip rfl rfl rfl rfl rfl) ?_
                  refine RK.c (S.skip rfl rfl rfl rfl rfl) ?_
                  refine RK.c (S.pickF (.yes rfl rfl rfl rfl) rfl (.tmp rfl rfl) .cbool rfl) ?_
                  refine RK.c (S.move (.yes rfl rfl rfl rfl) rfl (.tmp rfl rfl)) ?_
                  refine RK.c (S.skip rfl rfl rfl rfl rfl) ?_
                  refine RK.c (S.skip rfl rfl rfl rfl rfl) ?_
                  refine RK.c (S.pickF (.yes rfl rfl rfl rfl) rfl (.tmp rfl rfl) .cbool rfl) ?_
                  refine RK.c (S.pickF .none rfl (.tmp rfl rfl) (.tmp rfl rfl) rfl) ?_
                  refine RK.c (S.assign .none rfl (.tmp rfl rfl)) ?_
                  refine RK.nil ?_
                  refine Ab.D.code ?_
                  refine OK.ret (Ret.r1 (.tmp rfl rfl (.c (.same rfl) rfl) rfl) ?_)
                  first | rfl | (refine ret_dT ?_; omega) | (refine ret_abs ?_; omega) | (refine ret_abs ?_; simp only [hsm, Bool.not_eq_true', Bool.not_eq_false', decide_eq_true_eq, decide_eq_false_iff_not, not_true_eq_false, not_false_eq_true] at * <;> omega)
            ·
              refine RK.c (S.skip rfl rfl rfl rfl rfl) ?_
              refine RK.c (S.skip rfl rfl rfl rfl rfl) ?_
              refine RK.c (S.pickF .none rfl (.tmp rfl rfl) .cbool rfl) ?_
              refine RK.c (S.move .none rfl (.tmp rfl rfl)) ?_
              refine RK.c (S.skip rfl rfl rfl rfl rfl) ?_
              refine RK.c (S.skip rfl rfl rfl rfl rfl) ?_
              refine RK.c (S.skip rfl rfl rfl rfl rfl) ?_
              refine RK.c (S.pickF .none rfl (.tmp rfl rfl) .cbool rfl) ?_
              refine RK.c (S.move .none rfl (.tmp rfl rfl)) ?_
              refine RK.c (S.skip rfl rfl rfl rfl rfl) ?_
              refine RK.c (S.skip rfl rfl rfl rfl rfl) ?_
              refine RK.c (S.skip rfl rfl rfl rfl rfl) ?_
              refine RK.c (S.pickF .none rfl (.tmp rfl rfl) .cbool rfl) ?_
              refine RK.c (S.move .none rfl (.tmp rfl rfl)) ?_
              refine RK.c (S.move (.yes rfl rfl rfl rfl) rfl (.tmp rfl rfl)) ?_
              refine RK.c (S.not (.yes rfl rfl rfl rfl) rfl (.tmp rfl rfl)) ?_
              refine RK.c (S.move (.yes rfl rfl rfl rfl) rfl (.tmp rfl rfl)) ?_
              refine RK.split (t := 98) rfl (fun g98 => ?_) (fun g98 => ?_)
              ·
                refine RK.c (S.move (.yes rfl rfl rfl rfl) rfl (.tmp rfl rfl)) ?_
                refine RK.c (S.eql (.yes rfl rfl rfl rfl) rfl (.tmp rfl rfl) (.cint rfl)) ?_
                refine RK.c (S.pickT (.yes rfl rfl rfl rfl) rfl (.tmp rfl rfl) (.tmp rfl rfl) rfl) ?_
                refine RK.c (S.move (.yes rfl rfl rfl rfl) rfl (.tmp rfl rfl)) ?_
                refine RK.splitD (t := 102) rfl (fun g102 => ?_) (fun g102 => ?_)
                ·
                  refine RK.c (S.move (.yes rfl rfl rfl rfl) rfl (.tmp rfl rfl)) ?_
                  refine RK.c (S.eql (.yes rfl rfl rfl rfl) rfl (.tmp rfl rfl) (.cint rfl)) ?_
                  refine RK.c (S.pickT (.yes rfl rfl rfl rfl) rfl (.tmp rfl rfl) (.tmp rfl rfl) rfl) ?_
                  refine RK.c (S.move (.yes rfl rfl rfl rfl) rfl (.tmp rfl rfl)) ?_
                  refine RK.splitD (t := 106) rfl (fun g106 => ?_) (fun g106 => ?_)
                  ·
                    refine RK.c (S.move (.yes rfl rfl rfl rfl) rfl (.tmp rfl rfl)) ?_
                    refine RK.c (S.eql (.yes rfl rfl rfl rfl) rfl (.tmp rfl rfl) (.cint rfl)) ?_
                    refine RK.c (S.pickT (.yes rfl rfl rfl rfl) rfl (.tmp rfl rfl) (.tmp rfl rfl) rfl) ?_
                    refine RK.c (S.pickF .none rfl (.tmp rfl rfl) (.tmp rfl rfl) rfl) ?_
                    refine RK.c (S.assign .none rfl (.tmp rfl rfl)) ?_
                    refine RK.nil ?_
                    refine Ab.D.code ?_
                    refine OK.ret (Ret.r1 (.tmp rfl rfl (.c (.same rfl) rfl) rfl) ?_)
                    first | rfl | (refine ret_dT ?_; omega) | (refine ret_abs ?_; omega) | (refine ret_abs ?_; simp only [hsm, Bool.not_eq_true', Bool.not_eq_false', decide_eq_true_eq, decide_eq_false_iff_not, not_true_eq_false, not_false_eq_true] at * <;> omega)
                  ·
                    refine RK.c (S.skip rfl rfl rfl rfl rfl) ?_
                    refine RK.c (S.skip rfl rfl rfl rfl rfl) ?_
                    refine RK.c (S.pickF (.yes rfl rfl rfl rfl) rfl (.tmp rfl rfl) .cbool rfl) ?_
                    refine RK.c (S.pickF .none rfl (.tmp rfl rfl) (.tmp rfl rfl) rfl) ?_
                    refine RK.c (S.assign .none rfl (.tmp rfl rfl)) ?_
                    refine RK.nil ?_
                    refine Ab.D.code ?_
                    refine OK.ret (Ret.r1 (.tmp rfl rfl (.c (.same rfl) rfl) rfl) ?_)
                    first | rfl | (refine ret_dT ?_; omega) | (refine ret_abs ?_; omega) | (refine ret_abs ?_; simp only [hsm, Bool.not_eq_true', Bool.not_eq_false', decide_eq_true_eq, decide_eq_false_iff_not, not_true_eq_false, not_false_eq_true] at * <;> omega)
                ·
                  refine RK.c (S.skip rfl rfl rfl rfl rfl) ?_
                  refine RK.c (S.skip rfl rfl rfl rfl rfl) ?_
                  refine RK.c (S.pickF (.yes rfl rfl rfl rfl) rfl (.tmp rfl rfl) .cbool rfl) ?_
                  refine RK.c (S.move (.yes rfl rfl rfl rfl) rfl (.tmp rfl rfl)) ?_
                  refine RK.c (S.skip rfl rfl rfl rfl rfl) ?_
                  refine RK.c (S.skip rfl rfl rfl rfl rfl) ?_
                  refine RK.c (S.pickF (.yes rfl rfl rfl rfl) rfl (.tmp rfl rfl) .cbool rfl) ?_
                  refine RK.c (S.pickF .none rfl (.tmp rfl rfl) (.tmp rfl rfl) rfl) ?_
                  refine RK.c (S.assign .none rfl (.tmp rfl rfl)) ?_
                  refine RK.nil ?_
                  refine Ab.D.code ?_
                  refine OK.ret (Ret.r1 (.tmp rfl rfl (.c (.same rfl) rfl) rfl) ?_)
                  first | rfl | (refine ret_dT ?_; omega) | (refine ret_abs ?_; omega) | (refine ret_abs ?_; simp only [hsm, Bool.not_eq_true', Bool.not_eq_false', decide_eq_true_eq, decide_eq_false_iff_not, not_true_eq_false, not_false_eq_true] at * <;> omega)
              ·
                refine RK.c (S.skip rfl rfl rfl rfl rfl) ?_
                refine RK.c (S.skip rfl rfl rfl rfl rfl) ?_
                refine RK.c (S.pickF (.yes rfl rfl rfl rfl) rfl (.tmp rfl rfl) .cbool rfl) ?_
                refine RK.c (S.move (.yes rfl rfl rfl rfl) rfl (.tmp rfl rfl)) ?_
                refine RK.c (S.skip rfl rfl rfl rfl rfl) ?_
                refine RK.c (S.skip rfl rfl rfl rfl rfl) ?_
                refine RK.c (S.pickF (.yes rfl rfl rfl rfl) rfl (.tmp rfl rfl) .cbool rfl) ?_
                refine RK.c (S.move (.yes rfl rfl rfl rfl) rfl (.tmp rfl rfl)) ?_
                refine RK.c (S.skip rfl rfl rfl rfl rfl) ?_
                refine RK.c (S.skip rfl rfl rfl rfl rfl) ?_
                refine RK.c (S.pickF (.yes rfl rfl rfl rfl) rfl (.tmp rfl rfl) .cbool rfl) ?_
                refine RK.c (S.pickF .none rfl (.tmp rfl rfl) (.tmp rfl rfl) rfl) ?_
                refine RK.c (S.assign .none rfl (.tmp rfl rfl)) ?_
                refine RK.nil ?_
                refine Ab.D.code ?_
                refine OK.ret (Ret.r1 (.tmp rfl rfl (.c (.same rfl) rfl) rfl) ?_)
                first | rfl | (refine ret_dT ?_; omega) | (refine ret_abs ?_; omega) | (refine ret_abs ?_; simp only [hsm, Bool.not_eq_true', Bool.not_eq_false', decide_eq_true_eq, decide_eq_false_iff_not, not_true_eq_false, not_false_eq_true] at * <;> omega)

end Go.Proofs.Ytfjldfkgjejpmaa
