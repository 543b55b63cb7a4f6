/-
  Envelopes by the reference: the number with so many before it; the law of envelopes.
-/
import Derived.Test.YtmokilkombplkaaGreatSh
import Derived.Test.YtmokilkombplkaaGreatFt
import Derived.Test.YtmokilkombplkaaGreatWp
namespace Go.Proofs.YtmokilkombplkaaGreat
open Go.Ab

theorem lk_int1 {a b : Int} (h : a = b) : some (X.int .i64 a) = some (X.int .i64 b) := by rw [h]
theorem sorted_asc (l : List Int) : (sorted l).Pairwise (fun x y => x ≤ y) := by
  have := List.pairwise_mergeSort (le := fun x y : Int => decide (x ≤ y)) (by intro a b c h1 h2; simp only [decide_eq_true_eq] at *; omega) (by intro a b; simp only [Bool.or_eq_true, decide_eq_true_eq]; omega) l
  exact this.imp (by simp)
theorem sorted_cnt (l : List Int) (g : Int → Bool) : (sorted l).countP g = l.countP g := (List.mergeSort_perm l _).countP_eq g
/-- How many of the first k are less than x, or equal to it and earlier than i. -/
def before (l : List Int) (x : Int) (i k : Nat) : Nat := (l.take k).countP (fun y => decide (y < x)) + ((l.take k).take i).countP fun y => decide (y = x)
theorem cnt_snoc {l : List Int} {k : Nat} (h : k < l.length) (g : Int → Bool) : (l.take (k + 1)).countP g = (l.take k).countP g + if g l[k] = true then 1 else 0 := by
  rw [← take_snoc h, List.countP_append, List.countP_cons, List.countP_nil, Nat.zero_add]
theorem cnt_snoc2 {l : List Int} {i k : Nat} (h : k < l.length) (g : Int → Bool) : ((l.take (k + 1)).take i).countP g = ((l.take k).take i).countP g + if k < i ∧ g l[k] = true then 1 else 0 := by
  rw [List.take_take, List.take_take]
  by_cases hk : k < i
  · rw [Nat.min_eq_right (by omega), Nat.min_eq_right (by omega), cnt_snoc h]
    simp [hk]
  · rw [Nat.min_eq_left (by omega), Nat.min_eq_left (by omega), if_neg (fun h => hk h.1)]
    rfl
theorem before_T {l : List Int} {x : Int} {i k : Nat} (h : k < l.length) (hc : l[k] < x ∨ (l[k] = x ∧ k < i)) : (before l x i k : Int) + 1 = before l x i (k + 1) := by
  unfold before
  rw [cnt_snoc h, cnt_snoc2 h]
  simp only [decide_eq_true_eq]
  split <;> split <;> omega
theorem before_F {l : List Int} {x : Int} {i k : Nat} (h : k < l.length) (hc : ¬ (l[k] < x ∨ (l[k] = x ∧ k < i))) : (before l x i k : Int) = before l x i (k + 1) := by
  unfold before
  rw [cnt_snoc h, cnt_snoc2 h]
  simp only [decide_eq_true_eq]
  rw [if_neg (by omega), if_neg (by omega)]
  rfl
theorem before_le (l : List Int) (x : Int) (i k : Nat) : before l x i k ≤ 2 * k := by
  unfold before
  have h1 := List.countP_le_length (p := fun y => decide (y < x)) (l := l.take k)
  have h2 := List.countP_le_length (p := fun y => decide (y = x)) (l := (l.take k).take i)
  have h3 := List.length_take_le k l
  have h4 := List.length_take_le i (l.take k)
  rw [List.length_take] at h4
  simp only [List.length_take] at *
  omega
theorem before_all (l : List Int) (x : Int) (i : Nat) : before l x i l.length = l.countP (fun y => decide (y < x)) + (l.take i).countP fun y => decide (y = x) := by
  unfold before
  rw [List.take_length]
/-- In a row that ascends, a number with so few less than it and so many at most it. -/
theorem asc_at {s : List Int} (hs : s.Pairwise fun x y => x ≤ y) {x : Int} {n : Nat} (h1 : s.countP (fun y => decide (y < x)) ≤ n) (h2 : n < s.countP (fun y => decide (y < x)) + s.countP fun y => decide (y = x)) : ∃ h : n < s.length, s[n] = x := by
  have hle : s.countP (fun y => decide (y < x)) + s.countP (fun y => decide (y = x)) = s.countP fun y => decide (y ≤ x) := by
    clear h1 h2 hs
    induction s with
    | nil => rfl
    | cons a s ih =>
      rw [List.countP_cons, List.countP_cons, List.countP_cons, ← ih]
      simp only [decide_eq_true_eq]
      split <;> split <;> split <;> omega
  rw [hle] at h2
  have hn : n < s.length := Nat.lt_of_lt_of_le h2 List.countP_le_length
  refine ⟨hn, ?_⟩
  have hp := List.pairwise_iff_getElem.1 hs
  rcases Int.lt_trichotomy s[n] x with h | h | h
  · exfalso
    have e : (s.take (n + 1)).countP (fun y => decide (y < x)) = (s.take (n + 1)).length := by
      rw [List.countP_eq_length]
      intro y hy
      obtain ⟨j, hj, rfl⟩ := List.getElem_of_mem hy
      rw [List.length_take] at hj
      rw [List.getElem_take]
      rcases Nat.lt_or_ge j n with h3 | h3
      · have := hp j n (by omega) hn h3
        exact decide_eq_true (by omega)
      · have : j = n := by omega
        subst this
        exact decide_eq_true h
    have h4 := List.countP_append (p := fun y => decide (y < x)) (l₁ := s.take (n + 1)) (l₂ := s.drop (n + 1))
    rw [List.take_append_drop, e, List.length_take] at h4
    omega
  · exact h
  · exfalso
    have e : (s.drop n).countP (fun y => decide (y ≤ x)) = 0 := by
      rw [List.countP_eq_zero]
      intro y hy
      obtain ⟨j, hj, rfl⟩ := List.getElem_of_mem hy
      rw [List.length_drop] at hj
      rw [List.getElem_drop, decide_eq_true_eq]
      rcases Nat.eq_zero_or_pos j with h3 | h3
      · subst h3; simp only [Nat.add_zero]; omega
      · have := hp n (n + j) hn (by omega) (by omega)
        omega
    have h4 := List.countP_append (p := fun y => decide (y ≤ x)) (l₁ := s.take n) (l₂ := s.drop n)
    have h5 := List.countP_le_length (p := fun y => decide (y ≤ x)) (l := s.take n)
    rw [List.take_append_drop, e] at h4
    rw [List.length_take] at h5
    omega
theorem cnt_lt {l : List Int} {i : Nat} (h : i < l.length) : (l.take i).countP (fun y => decide (y = l[i])) < l.countP fun y => decide (y = l[i]) := by
  have h1 := cnt_snoc h fun y => decide (y = l[i])
  rw [if_pos (by simp)] at h1
  have h2 := List.countP_append (p := fun y => decide (y = l[i])) (l₁ := l.take (i + 1)) (l₂ := l.drop (i + 1))
  rw [List.take_append_drop] at h2
  omega
theorem before_at {l : List Int} {i n : Nat} (h : i < l.length) (hn : before l l[i] i l.length = n) : ∃ h : n < (sorted l).length, (sorted l)[n] = l[i] := by
  rw [before_all] at hn
  have := cnt_lt h
  refine asc_at (sorted_asc l) ?_ ?_ <;> simp only [sorted_cnt] <;> omega
/-- The place of one of the numbers that are x, by how many of them are before it. -/
theorem nth_of (x : Int) : ∀ (l : List Int) (j : Nat), j < l.countP (fun y => decide (y = x)) → ∃ i, ∃ h : i < l.length, l[i] = x ∧ (l.take i).countP (fun y => decide (y = x)) = j
  | [], j, h => by simp at h
  | a :: l, j, h => by
    rw [List.countP_cons] at h
    by_cases ha : a = x
    · cases j with
      | zero => exact ⟨0, by simp, ha, rfl⟩
      | succ j =>
        rw [if_pos (decide_eq_true ha)] at h
        obtain ⟨i, hi, e1, e2⟩ := nth_of x l j (by omega)
        exact ⟨i + 1, by simpa using hi, by simpa using e1, by rw [List.take_succ_cons, List.countP_cons, e2, if_pos (decide_eq_true ha)]⟩
    · rw [if_neg (by simpa using ha)] at h
      obtain ⟨i, hi, e1, e2⟩ := nth_of x l j (by omega)
      exact ⟨i + 1, by simpa using hi, by simpa using e1, by rw [List.take_succ_cons, List.countP_cons, e2, if_neg (by simpa using ha), Nat.add_zero]⟩
theorem asc_cnt {s : List Int} (hs : s.Pairwise fun x y => x ≤ y) {n : Nat} (h : n < s.length) : s.countP (fun y => decide (y < s[n])) ≤ n ∧ n < s.countP fun y => decide (y ≤ s[n]) := by
  have hp := List.pairwise_iff_getElem.1 hs
  constructor
  · have e : (s.drop n).countP (fun y => decide (y < s[n])) = 0 := by
      rw [List.countP_eq_zero]
      intro y hy
      obtain ⟨j, hj, rfl⟩ := List.getElem_of_mem hy
      rw [List.length_drop] at hj
      rw [List.getElem_drop, decide_eq_true_eq]
      rcases Nat.eq_zero_or_pos j with h3 | h3
      · subst h3; simp only [Nat.add_zero]; omega
      · have := hp n (n + j) h (by omega) (by omega)
        omega
    have h4 := List.countP_append (p := fun y => decide (y < s[n])) (l₁ := s.take n) (l₂ := s.drop n)
    have h5 := List.countP_le_length (p := fun y => decide (y < s[n])) (l := s.take n)
    rw [List.take_append_drop, e] at h4
    rw [List.length_take] at h5
    omega
  · have e : (s.take (n + 1)).countP (fun y => decide (y ≤ s[n])) = (s.take (n + 1)).length := by
      rw [List.countP_eq_length]
      intro y hy
      obtain ⟨j, hj, rfl⟩ := List.getElem_of_mem hy
      rw [List.length_take] at hj
      rw [List.getElem_take]
      rcases Nat.lt_or_ge j n with h3 | h3
      · have := hp j n (by omega) h h3
        exact decide_eq_true (by omega)
      · have : j = n := by omega
        subst this
        exact decide_eq_true (Int.le_refl _)
    have h4 := List.countP_append (p := fun y => decide (y ≤ s[n])) (l₁ := s.take (n + 1)) (l₂ := s.drop (n + 1))
    rw [List.take_append_drop, e, List.length_take] at h4
    omega
theorem cnt_split (s : List Int) (x : Int) : s.countP (fun y => decide (y < x)) + s.countP (fun y => decide (y = x)) = s.countP fun y => decide (y ≤ x) := by
  induction s with
  | nil => rfl
  | cons a s ih =>
    rw [List.countP_cons, List.countP_cons, List.countP_cons, ← ih]
    simp only [decide_eq_true_eq]
    split <;> split <;> split <;> omega
theorem before_ex {l : List Int} {n : Nat} (h : n < l.length) : ∃ i, ∃ h : i < l.length, before l l[i] i l.length = n := by
  have hs : n < (sorted l).length := by rw [sorted_len]; exact h
  obtain ⟨h1, h2⟩ := asc_cnt (sorted_asc l) hs
  generalize (sorted l)[n] = x at h1 h2
  rw [sorted_cnt] at h1 h2
  have h3 := cnt_split l x
  obtain ⟨i, hi, e1, e2⟩ := nth_of x l (n - l.countP fun y => decide (y < x)) (by omega)
  refine ⟨i, hi, ?_⟩
  rw [before_all, e1, e2]
  omega
def shortRecs (l : List Record) : Bool := decide (¬ ((8 < l.length ∧ l.length ≤ 20) ∨ 22 < l.length)) && l.all shortRec
structure LearnedX where
  records : List Record
  trim : Int
def LearnedX.cs (x : LearnedX) : List X := [.sl (x.records.map Record.cs), .int .i64 x.trim]
theorem sh_learned {xs : List X} (h : Shape (.cons (.sl (.st (.cons (.sl (.st (.cons .bool (.cons (.sl (.int .i64)) .nil)))) .nil))) (.cons (.int .i64) .nil)) xs) : ∃ p : LearnedX, xs = p.cs := by
  obtain ⟨a, b, rfl, ⟨rows, rfl, hr⟩, c, d, rfl, ⟨n, rfl⟩, rfl⟩ := h
  obtain ⟨l, rfl⟩ := rows_of (f := Record.cs) (fun r h => sh_record (hr r h))
  exact ⟨⟨l, n⟩, rfl⟩
theorem shortRecs_len {l : List Record} (h : shortRecs l = true) : l.length ≤ 22 ∧ (∀ (i : Nat) (h : i < l.length), l[i].rows.length ≤ 14) ∧ ∀ (i : Nat) (h : i < l.length) (k : Nat) (h2 : k < l[i].rows.length), l[i].rows[k].values.length ≤ 6 := by
  unfold shortRecs at h
  simp only [Bool.and_eq_true, decide_eq_true_eq] at h
  refine ⟨by omega, fun i hi => (short_len (List.all_eq_true.1 h.2 _ (List.getElem_mem hi))).1, fun i hi k hk => (short_len (List.all_eq_true.1 h.2 _ (List.getElem_mem hi))).2 k hk⟩

theorem ref_CopyRecords {l : List Record} (hl : l.length ≤ 100000) (hr : ∀ (i : Nat) (h : i < l.length), l[i].rows.length ≤ 100000) (hv : ∀ (i : Nat) (h : i < l.length) (k : Nat) (h2 : k < l[i].rows.length), l[i].rows[k].values.length ≤ 100000) : Ct Tryz.prog 15 [.sl (l.map Record.cs)] (.sl (l.map Record.cs)) := by
  refine Ct.intro (rs := [.tmp 2]) Tryz.func15 rfl Tryz.ntmps15 Tryz.results15 rfl rfl rfl fun w h => ?_
  refine OK.seq ?_
  refine OK.reg ?_
  refine RK.c (S.assign .none rfl .cnil) ?_
  refine RK.nil ?_
  refine Ab.D.code ?_
  refine OK.seq ?_
  refine OK.reg ?_
  refine RK.c (S.nilOwn (k := 3) (sz := 1) .none rfl) ?_
  refine RK.nil ?_
  refine Ab.D.code ?_
  refine OK.seq ?_
  refine OK.seq ?_
  refine OK.reg ?_
  refine RK.c (S.assign .none rfl (.cint rfl)) ?_
  refine RK.nil ?_
  refine Ab.D.code ?_
  refine OK.block ?_
  refine OK.loop (G := Nat) [3] (fun i => [(0, .sl (l.map Record.cs)), (3, .own 3 i), (2003, .arr 1 ((l.take i).map Record.cs)), (4, .int .i64 i)]) (fun i => i ≤ l.length) (fun i => l.length - i) 0 (Nat.zero_le _) ⟨rfl, (lk_own (by first | rfl | (simp; done) | (simp; omega))), (lk_arr (by first | rfl | (simp; done) | (simp; omega))), rfl, trivial⟩ (fun _ => rfl) ?_
  rintro i hi
  refine OK.seq ?_
  refine OK.seq ?_
  refine OK.reg ?_
  refine RK.c (S.move .none rfl (.tmp rfl rfl)) ?_
  refine RK.c (S.move .none rfl (.tmp rfl rfl)) ?_
  refine RK.c (S.lenM si26 .none rfl (.tmp rfl rfl)) ?_
  refine RK.c (S.lss .none rfl (.tmp rfl rfl) (.tmp rfl rfl)) ?_
  refine RK.nil ?_
  refine Ab.D.code ?_
  refine OK.condD rfl rfl (fun c8 => ?_) (fun c8 => ?_)
  ·
    refine OK.skip ?_
    refine Ab.D.code ?_
    refine OK.seq ?_
    refine OK.block ?_
    refine OK.reg ?_
    refine RK.c (S.move .none rfl (.tmp rfl rfl)) ?_
    refine RK.c (S.move .none rfl (.tmp rfl rfl)) ?_
    refine RK.c (S.move .none rfl (.tmp rfl rfl)) ?_
    refine RK.c (S.indexM si26 .none rfl (.tmp rfl rfl) (.tmp rfl rfl) rfl (by omega) rfl) ?_
    refine RK.c (S.loadN ti39 .none rfl (.tmp rfl rfl) rfl rfl) ?_
    refine RK.c (S.call (ref_CopyRecord (hr i (by omega)) (hv i (by omega))) Tryz.call13 .none rfl (.cons (.tmp rfl rfl) .nil) rfl) ?_
    refine RK.c (S.mkSlice (k := 17) (rows := [[_]]) ai26 .none rfl (.cons (.tmp rfl rfl) .nil) rfl rfl rfl rfl rfl rfl rfl) ?_
    refine RK.c (S.append ai26 .none rfl (.tmp rfl rfl) rfl (by simp; omega) (.tmp rfl rfl) rfl (by first | rfl | (simp; done) | (simp; omega)) (by omega) (by simp only [maxLen]; omega)) ?_
    refine RK.c (S.assign .none rfl (.tmp rfl rfl)) ?_
    refine RK.nil ?_
    refine Ab.D.blk ?_
    refine Ab.D.code ?_
    refine OK.reg ?_
    refine RK.c (S.move .none rfl (.tmp rfl rfl)) ?_
    refine RK.c (S.add .none rfl (.tmp rfl rfl) (.cint rfl) (IntWalk.i64_in _ (by omega)) (IntWalk.i64_in _ (by omega))) ?_
    refine RK.c (S.assign .none rfl (.tmp rfl rfl)) ?_
    refine RK.nil ?_
    refine Ab.D.lp ⟨i + 1, (by omega), (by omega), rfl, (lk_own (by first | rfl | (simp; done) | (simp; omega))), (lk_arr (by rw [← take_snoc (by omega), List.map_append]; rfl)), rfl, trivial⟩
  ·
    refine OK.exit rfl ?_
    refine Ab.D.code ?_
    refine OK.seq ?_
    refine OK.reg ?_
    refine RK.c (S.move .none rfl (.tmp rfl rfl)) ?_
    refine RK.c (S.assign .none rfl (.tmp rfl rfl)) ?_
    refine RK.nil ?_
    refine Ab.D.code ?_
    refine OK.ret (Ret.r1 (.tmp rfl rfl (.c (.own rfl rfl (by first | rfl | (simp; done) | (simp; omega))) rfl) rfl) ?_)
    rw [show i = l.length by omega, List.take_length]

theorem law_shortRecords {l : List Record} : Ct Tryz.prog 7 [.sl (l.map Record.cs)] (.bool (shortRecs l)) := by
  refine Ct.intro (rs := [.tmp 2]) Tryz.func7 rfl Tryz.ntmps7 Tryz.results7 rfl rfl rfl fun w h => ?_
  refine OK.seq ?_
  refine OK.reg ?_
  refine RK.c (S.assign .none rfl .cbool) ?_
  refine RK.nil ?_
  refine Ab.D.code ?_
  refine OK.seq ?_
  refine OK.seq ?_
  refine OK.reg ?_
  refine RK.c (S.move .none rfl (.tmp rfl rfl)) ?_
  refine RK.c (S.lenM si26 .none rfl (.tmp rfl rfl)) ?_
  refine RK.c (S.gtr .none rfl (.tmp rfl rfl) (.cint rfl)) ?_
  refine RK.c (S.move .none rfl (.tmp rfl rfl)) ?_
  refine RK.splitD (t := 7) rfl (fun g7 => ?_) (fun g7 => ?_)
  ·
    refine RK.c (S.move (.yes rfl rfl rfl rfl) rfl (.tmp rfl rfl)) ?_
    refine RK.c (S.lenM si26 (.yes rfl rfl rfl rfl) rfl (.tmp rfl rfl)) ?_
    refine RK.c (S.leq (.yes rfl rfl rfl rfl) rfl (.tmp rfl rfl) (.cint rfl)) ?_
    refine RK.c (S.pickT .none rfl (.tmp rfl rfl) (.tmp rfl rfl) rfl) ?_
    refine RK.c (S.move .none rfl (.tmp rfl rfl)) ?_
    refine RK.splitD (t := 12) rfl (fun g12 => ?_) (fun g12 => ?_)
    ·
      refine RK.c (S.skip rfl rfl rfl rfl rfl) ?_
      refine RK.c (S.skip rfl rfl rfl rfl rfl) ?_
      refine RK.c (S.skip rfl rfl rfl rfl rfl) ?_
      refine RK.c (S.pickT .none rfl (.tmp rfl rfl) .cbool rfl) ?_
      refine RK.nil ?_
      refine Ab.D.code ?_
      refine OK.condT rfl rfl rfl ?_
      refine OK.seq ?_
      refine OK.reg ?_
      refine RK.c (S.assign .none rfl .cbool) ?_
      refine RK.nil ?_
      refine Ab.D.code ?_
      refine OK.ret (Ret.r1 (.tmp rfl rfl (.c (.same rfl) rfl) rfl) ?_)
      first | (refine ret_b ?_; rw [shortRecs, decide_eq_false (by omega), Bool.false_and]; done) | (refine ret_b ?_; rw [shortRecs, hg, all_drop _ (by omega), show shortRec l[i] = false by simpa using c28, Bool.false_and, Bool.and_false]; done) | (refine ret_b ?_; rw [shortRecs, hg, show i = l.length by omega, List.drop_length, decide_eq_true (by omega)]; rfl)
    ·
      refine RK.c (S.move (.yes rfl rfl rfl rfl) rfl (.tmp rfl rfl)) ?_
      refine RK.c (S.lenM si26 (.yes rfl rfl rfl rfl) rfl (.tmp rfl rfl)) ?_
      refine RK.c (S.gtr (.yes rfl rfl rfl rfl) rfl (.tmp rfl rfl) (.cint rfl)) ?_
      refine RK.c (S.pickF .none rfl (.tmp rfl rfl) (.tmp rfl rfl) rfl) ?_
      refine RK.nil ?_
      refine Ab.D.code ?_
      refine OK.condD rfl rfl (fun c16 => ?_) (fun c16 => ?_)
      ·
        refine OK.seq ?_
        refine OK.reg ?_
        refine RK.c (S.assign .none rfl .cbool) ?_
        refine RK.nil ?_
        refine Ab.D.code ?_
        refine OK.ret (Ret.r1 (.tmp rfl rfl (.c (.same rfl) rfl) rfl) ?_)
        first | (refine ret_b ?_; rw [shortRecs, decide_eq_false (by omega), Bool.false_and]; done) | (refine ret_b ?_; rw [shortRecs, hg, all_drop _ (by omega), show shortRec l[i] = false by simpa using c28, Bool.false_and, Bool.and_false]; done) | (refine ret_b ?_; rw [shortRecs, hg, show i = l.length by omega, List.drop_length, decide_eq_true (by omega)]; rfl)
      ·
        refine OK.skip ?_
        refine Ab.D.code ?_
        refine OK.seq ?_
        refine OK.seq ?_
        refine OK.reg ?_
        refine RK.c (S.assign .none rfl (.cint rfl)) ?_
        refine RK.nil ?_
        refine Ab.D.code ?_
        refine OK.block ?_
        refine OK.loop (G := Nat) [] (fun i => [(0, .sl (l.map Record.cs)), (3, .int .i64 i)]) (fun i => i ≤ l.length ∧ l.all shortRec = (l.drop i).all shortRec) (fun i => l.length - i) 0 ⟨Nat.zero_le _, rfl⟩ ⟨rfl, rfl, trivial⟩ (fun _ => rfl) ?_
        rintro i ⟨hi, hg⟩
        refine OK.seq ?_
        refine OK.seq ?_
        refine OK.reg ?_
        refine RK.c (S.move .none rfl (.tmp rfl rfl)) ?_
        refine RK.c (S.move .none rfl (.tmp rfl rfl)) ?_
        refine RK.c (S.lenM si26 .none rfl (.tmp rfl rfl)) ?_
        refine RK.c (S.lss .none rfl (.tmp rfl rfl) (.tmp rfl rfl)) ?_
        refine RK.nil ?_
        refine Ab.D.code ?_
        refine OK.condD rfl rfl (fun c20 => ?_) (fun c20 => ?_)
        ·
          refine OK.skip ?_
          refine Ab.D.code ?_
          refine OK.seq ?_
          refine OK.block ?_
          refine OK.seq ?_
          refine OK.reg ?_
          refine RK.c (S.move .none rfl (.tmp rfl rfl)) ?_
          refine RK.c (S.move .none rfl (.tmp rfl rfl)) ?_
          refine RK.c (S.indexM si26 .none rfl (.tmp rfl rfl) (.tmp rfl rfl) rfl (by omega) rfl) ?_
          refine RK.c (S.loadN ti39 .none rfl (.tmp rfl rfl) rfl rfl) ?_
          refine RK.c (S.call (law_shortRecord) Tryz.call30 .none rfl (.cons (.tmp rfl rfl) .nil) rfl) ?_
          refine RK.c (S.not .none rfl (.tmp rfl rfl)) ?_
          refine RK.nil ?_
          refine Ab.D.code ?_
          refine OK.cond rfl rfl (fun c28 => ?_) (fun c28 => ?_)
          ·
            refine OK.seq ?_
            refine OK.reg ?_
            refine RK.c (S.assign .none rfl .cbool) ?_
            refine RK.nil ?_
            refine Ab.D.code ?_
            refine OK.ret (Ret.r1 (.tmp rfl rfl (.c (.same rfl) rfl) rfl) ?_)
            first | (refine ret_b ?_; rw [shortRecs, decide_eq_false (by omega), Bool.false_and]; done) | (refine ret_b ?_; rw [shortRecs, hg, all_drop _ (by omega), show shortRec l[i] = false by simpa using c28, Bool.false_and, Bool.and_false]; done) | (refine ret_b ?_; rw [shortRecs, hg, show i = l.length by omega, List.drop_length, decide_eq_true (by omega)]; rfl)
          ·
            refine OK.skip ?_
            refine Ab.D.blk ?_
            refine Ab.D.code ?_
            refine OK.reg ?_
            refine RK.c (S.move .none rfl (.tmp rfl rfl)) ?_
            refine RK.c (S.add .none rfl (.tmp rfl rfl) (.cint rfl) (IntWalk.i64_in _ (by omega)) (IntWalk.i64_in _ (by omega))) ?_
            refine RK.c (S.assign .none rfl (.tmp rfl rfl)) ?_
            refine RK.nil ?_
            refine Ab.D.lp ⟨i + 1, ⟨by omega, ?_⟩, (by omega), rfl, rfl, trivial⟩
            rw [hg, all_drop _ (by omega), show shortRec l[i] = true by simpa using c28, Bool.true_and]
        ·
          refine OK.exit rfl ?_
          refine Ab.D.code ?_
          refine OK.seq ?_
          refine OK.reg ?_
          refine RK.c (S.assign .none rfl .cbool) ?_
          refine RK.nil ?_
          refine Ab.D.code ?_
          refine OK.ret (Ret.r1 (.tmp rfl rfl (.c (.same rfl) rfl) rfl) ?_)
          first | (refine ret_b ?_; rw [shortRecs, decide_eq_false (by omega), Bool.false_and]; done) | (refine ret_b ?_; rw [shortRecs, hg, all_drop _ (by omega), show shortRec l[i] = false by simpa using c28, Bool.false_and, Bool.and_false]; done) | (refine ret_b ?_; rw [shortRecs, hg, show i = l.length by omega, List.drop_length, decide_eq_true (by omega)]; rfl)
  ·
    refine RK.c (S.skip rfl rfl rfl rfl rfl) ?_
    refine RK.c (S.skip rfl rfl rfl rfl rfl) ?_
    refine RK.c (S.skip rfl rfl rfl rfl rfl) ?_
    refine RK.c (S.pickF .none rfl (.tmp rfl rfl) .cbool rfl) ?_
    refine RK.c (S.move .none rfl (.tmp rfl rfl)) ?_
    refine RK.c (S.move (.yes rfl rfl rfl rfl) rfl (.tmp rfl rfl)) ?_
    refine RK.c (S.lenM si26 (.yes rfl rfl rfl rfl) rfl (.tmp rfl rfl)) ?_
    refine RK.c (S.gtr (.yes rfl rfl rfl rfl) rfl (.tmp rfl rfl) (.cint rfl)) ?_
    refine RK.c (S.pickF .none rfl (.tmp rfl rfl) (.tmp rfl rfl) rfl) ?_
    refine RK.nil ?_
    refine Ab.D.code ?_
    refine OK.condD rfl rfl (fun c16 => ?_) (fun c16 => ?_)
    ·
      refine OK.seq ?_
      refine OK.reg ?_
      refine RK.c (S.assign .none rfl .cbool) ?_
      refine RK.nil ?_
      refine Ab.D.code ?_
      refine OK.ret (Ret.r1 (.tmp rfl rfl (.c (.same rfl) rfl) rfl) ?_)
      first | (refine ret_b ?_; rw [shortRecs, decide_eq_false (by omega), Bool.false_and]; done) | (refine ret_b ?_; rw [shortRecs, hg, all_drop _ (by omega), show shortRec l[i] = false by simpa using c28, Bool.false_and, Bool.and_false]; done) | (refine ret_b ?_; rw [shortRecs, hg, show i = l.length by omega, List.drop_length, decide_eq_true (by omega)]; rfl)
    ·
      refine OK.skip ?_
      refine Ab.D.code ?_
      refine OK.seq ?_
      refine OK.seq ?_
      refine OK.reg ?_
      refine RK.c (S.assign .none rfl (.cint rfl)) ?_
      refine RK.nil ?_
      refine Ab.D.code ?_
      refine OK.block ?_
      refine OK.loop (G := Nat) [] (fun i => [(0, .sl (l.map Record.cs)), (3, .int .i64 i)]) (fun i => i ≤ l.length ∧ l.all shortRec = (l.drop i).all shortRec) (fun i => l.length - i) 0 ⟨Nat.zero_le _, rfl⟩ ⟨rfl, rfl, trivial⟩ (fun _ => rfl) ?_
      rintro i ⟨hi, hg⟩
      refine OK.seq ?_
      refine OK.seq ?_
      refine OK.reg ?_
      refine RK.c (S.move .none rfl (.tmp rfl rfl)) ?_
      refine RK.c (S.move .none rfl (.tmp rfl rfl)) ?_
      refine RK.c (S.lenM si26 .none rfl (.tmp rfl rfl)) ?_
      refine RK.c (S.lss .none rfl (.tmp rfl rfl) (.tmp rfl rfl)) ?_
      refine RK.nil ?_
      refine Ab.D.code ?_
      refine OK.condD rfl rfl (fun c20 => ?_) (fun c20 => ?_)
      ·
        refine OK.skip ?_
        refine Ab.D.code ?_
        refine OK.seq ?_
        refine OK.block ?_
        refine OK.seq ?_
        refine OK.reg ?_
        refine RK.c (S.move .none rfl (.tmp rfl rfl)) ?_
        refine RK.c (S.move .none rfl (.tmp rfl rfl)) ?_
        refine RK.c (S.indexM si26 .none rfl (.tmp rfl rfl) (.tmp rfl rfl) rfl (by omega) rfl) ?_
        refine RK.c (S.loadN ti39 .none rfl (.tmp rfl rfl) rfl rfl) ?_
        refine RK.c (S.call (law_shortRecord) Tryz.call30 .none rfl (.cons (.tmp rfl rfl) .nil) rfl) ?_
        refine RK.c (S.not .none rfl (.tmp rfl rfl)) ?_
        refine RK.nil ?_
        refine Ab.D.code ?_
        refine OK.cond rfl rfl (fun c28 => ?_) (fun c28 => ?_)
        ·
          refine OK.seq ?_
          refine OK.reg ?_
          refine RK.c (S.assign .none rfl .cbool) ?_
          refine RK.nil ?_
          refine Ab.D.code ?_
          refine OK.ret (Ret.r1 (.tmp rfl rfl (.c (.same rfl) rfl) rfl) ?_)
          first | (refine ret_b ?_; rw [shortRecs, decide_eq_false (by omega), Bool.false_and]; done) | (refine ret_b ?_; rw [shortRecs, hg, all_drop _ (by omega), show shortRec l[i] = false by simpa using c28, Bool.false_and, Bool.and_false]; done) | (refine ret_b ?_; rw [shortRecs, hg, show i = l.length by omega, List.drop_length, decide_eq_true (by omega)]; rfl)
        ·
          refine OK.skip ?_
          refine Ab.D.blk ?_
          refine Ab.D.code ?_
          refine OK.reg ?_
          refine RK.c (S.move .none rfl (.tmp rfl rfl)) ?_
          refine RK.c (S.add .none rfl (.tmp rfl rfl) (.cint rfl) (IntWalk.i64_in _ (by omega)) (IntWalk.i64_in _ (by omega))) ?_
          refine RK.c (S.assign .none rfl (.tmp rfl rfl)) ?_
          refine RK.nil ?_
          refine Ab.D.lp ⟨i + 1, ⟨by omega, ?_⟩, (by omega), rfl, rfl, trivial⟩
          rw [hg, all_drop _ (by omega), show shortRec l[i] = true by simpa using c28, Bool.true_and]
      ·
        refine OK.exit rfl ?_
        refine Ab.D.code ?_
        refine OK.seq ?_
        refine OK.reg ?_
        refine RK.c (S.assign .none rfl .cbool) ?_
        refine RK.nil ?_
        refine Ab.D.code ?_
        refine OK.ret (Ret.r1 (.tmp rfl rfl (.c (.same rfl) rfl) rfl) ?_)
        first | (refine ret_b ?_; rw [shortRecs, decide_eq_false (by omega), Bool.false_and]; done) | (refine ret_b ?_; rw [shortRecs, hg, all_drop _ (by omega), show shortRec l[i] = false by simpa using c28, Bool.false_and, Bool.and_false]; done) | (refine ret_b ?_; rw [shortRecs, hg, show i = l.length by omega, List.drop_length, decide_eq_true (by omega)]; rfl)

end Go.Proofs.YtmokilkombplkaaGreat
