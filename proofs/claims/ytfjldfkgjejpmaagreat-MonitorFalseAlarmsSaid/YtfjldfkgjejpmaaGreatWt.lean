/-
  Envelopes by the reference: the number with so many before it; the law of envelopes.
-/
import Derived.Test.YtfjldfkgjejpmaaGreatSh
import Derived.Test.YtfjldfkgjejpmaaGreatFt
import Derived.Test.YtfjldfkgjejpmaaGreatWp
namespace Go.Proofs.YtfjldfkgjejpmaaGreat
open Go.Ab

theorem lk_int1 {a b : Int} (h : a = b) : some (X.int .i64 a) = some (X.int .i64 b) := by rw [h]
theorem sorted_asc (l : List Int) : (sorted l).Pairwise (fun x y => x ≤ y) := by
  have := List.pairwise_mergeSort (le := fun x y : Int => decide (x ≤ y)) (by intro a b c h1 h2; simp only [decide_eq_true_eq] at *; omega) (by intro a b; simp only [Bool.or_eq_true, decide_eq_true_eq]; omega) l
  exact this.imp (by simp)
theorem sorted_cnt (l : List Int) (g : Int → Bool) : (sorted l).countP g = l.countP g := (List.mergeSort_perm l _).countP_eq g
/-- How many of the first k are less than x, or equal to it and earlier than i. -/
def before (l : List Int) (x : Int) (i k : Nat) : Nat := (l.take k).countP (fun y => decide (y < x)) + ((l.take k).take i).countP fun y => decide (y = x)
theorem cnt_snoc {l : List Int} {k : Nat} (h : k < l.length) (g : Int → Bool) : (l.take (k + 1)).countP g = (l.take k).countP g + if g l[k] = true then 1 else 0 := by
  rw [← take_snoc h, List.countP_append, List.countP_cons, List.countP_nil, Nat.zero_add]
theorem cnt_snoc2 {l : List Int} {i k : Nat} (h : k < l.length) (g : Int → Bool) : ((l.take (k + 1)).take i).countP g = ((l.take k).take i).countP g + if k < i ∧ g l[k] = true then 1 else 0 := by
  rw [List.take_take, List.take_take]
  by_cases hk : k < i
  · rw [Nat.min_eq_right (by omega), Nat.min_eq_right (by omega), cnt_snoc h]
    simp [hk]
  · rw [Nat.min_eq_left (by omega), Nat.min_eq_left (by omega), if_neg (fun h => hk h.1)]
    rfl
theorem before_T {l : List Int} {x : Int} {i k : Nat} (h : k < l.length) (hc : l[k] < x ∨ (l[k] = x ∧ k < i)) : (before l x i k : Int) + 1 = before l x i (k + 1) := by
  unfold before
  rw [cnt_snoc h, cnt_snoc2 h]
  simp only [decide_eq_true_eq]
  split <;> split <;> omega
theorem before_F {l : List Int} {x : Int} {i k : Nat} (h : k < l.length) (hc : ¬ (l[k] < x ∨ (l[k] = x ∧ k < i))) : (before l x i k : Int) = before l x i (k + 1) := by
  unfold before
  rw [cnt_snoc h, cnt_snoc2 h]
  simp only [decide_eq_true_eq]
  rw [if_neg (by omega), if_neg (by omega)]
  rfl
theorem before_le (l : List Int) (x : Int) (i k : Nat) : before l x i k ≤ 2 * k := by
  unfold before
  have h1 := List.countP_le_length (p := fun y => decide (y < x)) (l := l.take k)
  have h2 := List.countP_le_length (p := fun y => decide (y = x)) (l := (l.take k).take i)
  have h3 := List.length_take_le k l
  have h4 := List.length_take_le i (l.take k)
  rw [List.length_take] at h4
  simp only [List.length_take] at *
  omega
theorem before_all (l : List Int) (x : Int) (i : Nat) : before l x i l.length = l.countP (fun y => decide (y < x)) + (l.take i).countP fun y => decide (y = x) := by
  unfold before
  rw [List.take_length]
/-- In a row that ascends, a number with so few less than it and so many at most it. -/
theorem asc_at {s : List Int} (hs : s.Pairwise fun x y => x ≤ y) {x : Int} {n : Nat} (h1 : s.countP (fun y => decide (y < x)) ≤ n) (h2 : n < s.countP (fun y => decide (y < x)) + s.countP fun y => decide (y = x)) : ∃ h : n < s.length, s[n] = x := by
  have hle : s.countP (fun y => decide (y < x)) + s.countP (fun y => decide (y = x)) = s.countP fun y => decide (y ≤ x) := by
    clear h1 h2 hs
    induction s with
    | nil => rfl
    | cons a s ih =>
      rw [List.countP_cons, List.countP_cons, List.countP_cons, ← ih]
      simp only [decide_eq_true_eq]
      split <;> split <;> split <;> omega
  rw [hle] at h2
  have hn : n < s.length := Nat.lt_of_lt_of_le h2 List.countP_le_length
  refine ⟨hn, ?_⟩
  have hp := List.pairwise_iff_getElem.1 hs
  rcases Int.lt_trichotomy s[n] x with h | h | h
  · exfalso
    have e : (s.take (n + 1)).countP (fun y => decide (y < x)) = (s.take (n + 1)).length := by
      rw [List.countP_eq_length]
      intro y hy
      obtain ⟨j, hj, rfl⟩ := List.getElem_of_mem hy
      rw [List.length_take] at hj
      rw [List.getElem_take]
      rcases Nat.lt_or_ge j n with h3 | h3
      · have := hp j n (by omega) hn h3
        exact decide_eq_true (by omega)
      · have : j = n := by omega
        subst this
        exact decide_eq_true h
    have h4 := List.countP_append (p := fun y => decide (y < x)) (l₁ := s.take (n + 1)) (l₂ := s.drop (n + 1))
    rw [List.take_append_drop, e, List.length_take] at h4
    omega
  · exact h
  · exfalso
    have e : (s.drop n).countP (fun y => decide (y ≤ x)) = 0 := by
      rw [List.countP_eq_zero]
      intro y hy
      obtain ⟨j, hj, rfl⟩ := List.getElem_of_mem hy
      rw [List.length_drop] at hj
      rw [List.getElem_drop, decide_eq_true_eq]
      rcases Nat.eq_zero_or_pos j with h3 | h3
      · subst h3; simp only [Nat.add_zero]; omega
      · have := hp n (n + j) hn (by omega) (by omega)
        omega
    have h4 := List.countP_append (p := fun y => decide (y ≤ x)) (l₁ := s.take n) (l₂ := s.drop n)
    have h5 := List.countP_le_length (p := fun y => decide (y ≤ x)) (l := s.take n)
    rw [List.take_append_drop, e] at h4
    rw [List.length_take] at h5
    omega
theorem cnt_lt {l : List Int} {i : Nat} (h : i < l.length) : (l.take i).countP (fun y => decide (y = l[i])) < l.countP fun y => decide (y = l[i]) := by
  have h1 := cnt_snoc h fun y => decide (y = l[i])
  rw [if_pos (by simp)] at h1
  have h2 := List.countP_append (p := fun y => decide (y = l[i])) (l₁ := l.take (i + 1)) (l₂ := l.drop (i + 1))
  rw [List.take_append_drop] at h2
  omega
theorem before_at {l : List Int} {i n : Nat} (h : i < l.length) (hn : before l l[i] i l.length = n) : ∃ h : n < (sorted l).length, (sorted l)[n] = l[i] := by
  rw [before_all] at hn
  have := cnt_lt h
  refine asc_at (sorted_asc l) ?_ ?_ <;> simp only [sorted_cnt] <;> omega
/-- The place of one of the numbers that are x, by how many of them are before it. -/
theorem nth_of (x : Int) : ∀ (l : List Int) (j : Nat), j < l.countP (fun y => decide (y = x)) → ∃ i, ∃ h : i < l.length, l[i] = x ∧ (l.take i).countP (fun y => decide (y = x)) = j
  | [], j, h => by simp at h
  | a :: l, j, h => by
    rw [List.countP_cons] at h
    by_cases ha : a = x
    · cases j with
      | zero => exact ⟨0, by simp, ha, rfl⟩
      | succ j =>
        rw [if_pos (decide_eq_true ha)] at h
        obtain ⟨i, hi, e1, e2⟩ := nth_of x l j (by omega)
        exact ⟨i + 1, by simpa using hi, by simpa using e1, by rw [List.take_succ_cons, List.countP_cons, e2, if_pos (decide_eq_true ha)]⟩
    · rw [if_neg (by simpa using ha)] at h
      obtain ⟨i, hi, e1, e2⟩ := nth_of x l j (by omega)
      exact ⟨i + 1, by simpa using hi, by simpa using e1, by rw [List.take_succ_cons, List.countP_cons, e2, if_neg (by simpa using ha), Nat.add_zero]⟩
theorem asc_cnt {s : List Int} (hs : s.Pairwise fun x y => x ≤ y) {n : Nat} (h : n < s.length) : s.countP (fun y => decide (y < s[n])) ≤ n ∧ n < s.countP fun y => decide (y ≤ s[n]) := by
  have hp := List.pairwise_iff_getElem.1 hs
  constructor
  · have e : (s.drop n).countP (fun y => decide (y < s[n])) = 0 := by
      rw [List.countP_eq_zero]
      intro y hy
      obtain ⟨j, hj, rfl⟩ := List.getElem_of_mem hy
      rw [List.length_drop] at hj
      rw [List.getElem_drop, decide_eq_true_eq]
      rcases Nat.eq_zero_or_pos j with h3 | h3
      · subst h3; simp only [Nat.add_zero]; omega
      · have := hp n (n + j) h (by omega) (by omega)
        omega
    have h4 := List.countP_append (p := fun y => decide (y < s[n])) (l₁ := s.take n) (l₂ := s.drop n)
    have h5 := List.countP_le_length (p := fun y => decide (y < s[n])) (l := s.take n)
    rw [List.take_append_drop, e] at h4
    rw [List.length_take] at h5
    omega
  · have e : (s.take (n + 1)).countP (fun y => decide (y ≤ s[n])) = (s.take (n + 1)).length := by
      rw [List.countP_eq_length]
      intro y hy
      obtain ⟨j, hj, rfl⟩ := List.getElem_of_mem hy
      rw [List.length_take] at hj
      rw [List.getElem_take]
      rcases Nat.lt_or_ge j n with h3 | h3
      · have := hp j n (by omega) h h3
        exact decide_eq_true (by omega)
      · have : j = n := by omega
        subst this
        exact decide_eq_true (Int.le_refl _)
    have h4 := List.countP_append (p := fun y => decide (y ≤ s[n])) (l₁ := s.take (n + 1)) (l₂ := s.drop (n + 1))
    rw [List.take_append_drop, e, List.length_take] at h4
    omega
theorem cnt_split (s : List Int) (x : Int) : s.countP (fun y => decide (y < x)) + s.countP (fun y => decide (y = x)) = s.countP fun y => decide (y ≤ x) := by
  induction s with
  | nil => rfl
  | cons a s ih =>
    rw [List.countP_cons, List.countP_cons, List.countP_cons, ← ih]
    simp only [decide_eq_true_eq]
    split <;> split <;> split <;> omega
theorem before_ex {l : List Int} {n : Nat} (h : n < l.length) : ∃ i, ∃ h : i < l.length, before l l[i] i l.length = n := by
  have hs : n < (sorted l).length := by rw [sorted_len]; exact h
  obtain ⟨h1, h2⟩ := asc_cnt (sorted_asc l) hs
  generalize (sorted l)[n] = x at h1 h2
  rw [sorted_cnt] at h1 h2
  have h3 := cnt_split l x
  obtain ⟨i, hi, e1, e2⟩ := nth_of x l (n - l.countP fun y => decide (y < x)) (by omega)
  refine ⟨i, hi, ?_⟩
  rw [before_all, e1, e2]
  omega
def shortRecs (l : List Record) : Bool := decide (¬ ((8 < l.length ∧ l.length ≤ 20) ∨ 22 < l.length)) && l.all shortRec
structure LearnedX where
  records : List Record
  trim : Int
def LearnedX.cs (x : LearnedX) : List X := [.sl (x.records.map Record.cs), .int .i64 x.trim]
theorem sh_learned {xs : List X} (h : Shape (.cons (.sl (.st (.cons (.sl (.st (.cons .bool (.cons (.sl (.int .i64)) .nil)))) .nil))) (.cons (.int .i64) .nil)) xs) : ∃ p : LearnedX, xs = p.cs := by
  obtain ⟨a, b, rfl, ⟨rows, rfl, hr⟩, c, d, rfl, ⟨n, rfl⟩, rfl⟩ := h
  obtain ⟨l, rfl⟩ := rows_of (f := Record.cs) (fun r h => sh_record (hr r h))
  exact ⟨⟨l, n⟩, rfl⟩
theorem shortRecs_len {l : List Record} (h : shortRecs l = true) : l.length ≤ 22 ∧ (∀ (i : Nat) (h : i < l.length), l[i].rows.length ≤ 14) ∧ ∀ (i : Nat) (h : i < l.length) (k : Nat) (h2 : k < l[i].rows.length), l[i].rows[k].values.length ≤ 6 := by
  unfold shortRecs at h
  simp only [Bool.and_eq_true, decide_eq_true_eq] at h
  refine ⟨by omega, fun i hi => (short_len (List.all_eq_true.1 h.2 _ (List.getElem_mem hi))).1, fun i hi k hk => (short_len (List.all_eq_true.1 h.2 _ (List.getElem_mem hi))).2 k hk⟩

theorem ref_TrimErr {t n : Int} (hn : -1000000000000 ≤ n ∧ n ≤ 1000000000000) : Ct Tryz.prog 17 [.int .i64 t, .int .i64 n] (.int .i64 (trimErr t n)) := by
  refine Ct.intro (rs := [.tmp 4]) Tryz.func17 rfl Tryz.ntmps17 Tryz.results17 rfl rfl rfl fun w h => ?_
  refine OK.seq ?_
  refine OK.reg ?_
  refine RK.c (S.assign .none rfl (.cint rfl)) ?_
  refine RK.nil ?_
  refine Ab.D.code ?_
  refine OK.seq ?_
  refine OK.seq ?_
  refine OK.reg ?_
  refine RK.c (S.move .none rfl (.tmp rfl rfl)) ?_
  refine RK.c (S.move .none rfl (.tmp rfl rfl)) ?_
  refine RK.c (S.sub .none rfl (.tmp rfl rfl) (.cint rfl) (IntWalk.i64_in _ (by omega)) (IntWalk.i64_in _ (by omega))) ?_
  refine RK.c (S.quo .none rfl (.tmp rfl rfl) (.cint rfl) (by decide) (IntWalk.i64_in _ (tdiv2_bd hn)) (IntWalk.i64_in _ (tdiv2_bd hn))) ?_
  refine RK.c (S.call (base_Within) Tryz.call24 .none rfl (.cons (.tmp rfl rfl) (.cons (.cint rfl) (.cons (.tmp rfl rfl) .nil))) rfl) ?_
  refine RK.c (S.notD .none rfl (.tmp rfl rfl)) ?_
  refine RK.nil ?_
  refine Ab.D.code ?_
  refine OK.condD rfl rfl (fun c10 => ?_) (fun c10 => ?_)
  ·
    refine OK.seq ?_
    refine OK.reg ?_
    refine RK.c (S.assign .none rfl (.cint rfl)) ?_
    refine RK.nil ?_
    refine Ab.D.code ?_
    refine OK.ret (Ret.r1 (.tmp rfl rfl (.c (.same rfl) rfl) rfl) ?_)
    refine ret_i ?_
    rw [trimErr, if_neg (by simpa using c10)]
  ·
    refine OK.skip ?_
    refine Ab.D.code ?_
    refine OK.seq ?_
    refine OK.reg ?_
    refine RK.c (S.assign .none rfl (.cint rfl)) ?_
    refine RK.nil ?_
    refine Ab.D.code ?_
    refine OK.ret (Ret.r1 (.tmp rfl rfl (.c (.same rfl) rfl) rfl) ?_)
    refine ret_i ?_
    rw [trimErr, if_pos (by simpa using c10)]

theorem ref_RecordsErr {p : Plan} {l : List Record} (hp : planErr p = 0) : Ct Tryz.prog 16 [.agg p.cs, .sl (l.map Record.cs)] (.int .i64 (recsErr p l)) := by
  refine Ct.intro (rs := [.tmp 4]) Tryz.func16 rfl Tryz.ntmps16 Tryz.results16 rfl rfl rfl fun w h => ?_
  have hpp := planErr_0 hp
  refine OK.seq ?_
  refine OK.reg ?_
  refine RK.c (S.box (k := 2) rfl .none rfl (.tmp rfl rfl) rfl) ?_
  refine RK.c (S.assign .none rfl (.cint rfl)) ?_
  refine RK.nil ?_
  refine Ab.D.code ?_
  refine OK.seq ?_
  refine OK.seq ?_
  refine OK.reg ?_
  refine RK.c (S.move .none rfl (.tmp rfl rfl)) ?_
  refine RK.c (S.lenM si25 .none rfl (.tmp rfl rfl)) ?_
  refine RK.c (S.eql .none rfl (.tmp rfl rfl) (.cint rfl)) ?_
  refine RK.nil ?_
  refine Ab.D.code ?_
  refine OK.condD rfl rfl (fun c9 => ?_) (fun c9 => ?_)
  ·
    refine OK.seq ?_
    refine OK.reg ?_
    refine RK.c (S.assign .none rfl (.cint rfl)) ?_
    refine RK.nil ?_
    refine Ab.D.code ?_
    refine OK.ret (Ret.r1 (.tmp rfl rfl (.c (.same rfl) rfl) rfl) ?_)
    refine ret_i ?_
    rw [recsErr, if_pos (by omega)]
  ·
    refine OK.skip ?_
    refine Ab.D.code ?_
    refine OK.seq ?_
    refine OK.seq ?_
    refine OK.reg ?_
    refine RK.c (S.move .none rfl (.tmp rfl rfl)) ?_
    refine RK.c (S.lenM si25 .none rfl (.tmp rfl rfl)) ?_
    refine RK.c (S.gtr .none rfl (.tmp rfl rfl) (.cint rfl)) ?_
    refine RK.nil ?_
    refine Ab.D.code ?_
    refine OK.condD rfl rfl (fun c12 => ?_) (fun c12 => ?_)
    ·
      refine OK.seq ?_
      refine OK.reg ?_
      refine RK.c (S.assign .none rfl (.cint rfl)) ?_
      refine RK.nil ?_
      refine Ab.D.code ?_
      refine OK.ret (Ret.r1 (.tmp rfl rfl (.c (.same rfl) rfl) rfl) ?_)
      refine ret_i ?_
      rw [recsErr, if_neg (by omega), if_pos (by omega)]
    ·
      have hrc : recsErr p l = (eachGo (fun _ r => recsErr1 p r) 0 l).2 := by rw [recsErr, if_neg (by omega), if_neg (by omega)]
      refine OK.skip ?_
      refine Ab.D.code ?_
      refine OK.seq ?_
      refine OK.seq ?_
      refine OK.reg ?_
      refine RK.c (S.assign .none rfl (.cint rfl)) ?_
      refine RK.nil ?_
      refine Ab.D.code ?_
      refine OK.block ?_
      refine OK.loop (G := Nat) [2] (fun i => [(1, .sl (l.map Record.cs)), (2, .ptr 2 0), (1002, .box p.cs), (5, .int .i64 i)]) (fun i => i ≤ l.length ∧ eachGo (fun _ r => recsErr1 p r) 0 l = eachGo (fun _ r => recsErr1 p r) i (l.drop i)) (fun i => l.length - i) 0 ⟨Nat.zero_le _, rfl⟩ ⟨rfl, rfl, rfl, rfl, trivial⟩ (fun _ => rfl) ?_
      rintro i ⟨hi, hg⟩
      refine OK.seq ?_
      refine OK.seq ?_
      refine OK.reg ?_
      refine RK.c (S.move .none rfl (.tmp rfl rfl)) ?_
      refine RK.c (S.move .none rfl (.tmp rfl rfl)) ?_
      refine RK.c (S.lenM si25 .none rfl (.tmp rfl rfl)) ?_
      refine RK.c (S.lss .none rfl (.tmp rfl rfl) (.tmp rfl rfl)) ?_
      refine RK.nil ?_
      refine Ab.D.code ?_
      refine OK.condD rfl rfl (fun c16 => ?_) (fun c16 => ?_)
      ·
        refine OK.skip ?_
        refine Ab.D.code ?_
        refine OK.seq ?_
        refine OK.block ?_
        refine OK.seq ?_
        refine OK.seq ?_
        refine OK.regionDraw follows (.c (S.bloadN ti24 .none rfl (.tmp rfl rfl) rfl rfl rfl rfl)
          (.c (S.move .none rfl (.tmp rfl rfl))
          (.c (S.move .none rfl (.tmp rfl rfl))
          (.c (S.indexM si25 .none rfl (.tmp rfl rfl) (.tmp rfl rfl) rfl (by omega) rfl)
          (.c (S.loadN ti51 .none rfl (.tmp rfl rfl) rfl rfl)
          (.c (S.call (ref_RecordErr) Tryz.call30 .none rfl (.cons (.tmp rfl rfl) (.cons (.tmp rfl rfl) .nil)) rfl)
          (.c (S.assign .none rfl (.tmp rfl rfl))
          .nil))))))) (by kernel_rfl) ?_
        refine Ab.D.code ?_
        refine OK.seq ?_
        refine OK.reg ?_
        refine RK.c (S.move .none rfl (.tmp rfl rfl)) ?_
        refine RK.c (S.neq .none rfl (.tmp rfl rfl) (.cint rfl)) ?_
        refine RK.nil ?_
        refine Ab.D.code ?_
        refine OK.condD rfl rfl (fun c26 => ?_) (fun c26 => ?_)
        ·
          refine OK.seq ?_
          refine OK.reg ?_
          refine RK.c (S.move .none rfl (.tmp rfl rfl)) ?_
          refine RK.c (S.assign .none rfl (.tmp rfl rfl)) ?_
          refine RK.nil ?_
          refine Ab.D.code ?_
          refine OK.ret (Ret.r1 (.tmp rfl rfl (.c (.same rfl) rfl) rfl) ?_)
          have e : recsErr1 p l[i] = (recChk p l[i]).2 := by rw [recsErr1, if_pos c26]
          refine ret_i ?_
          rw [hrc, hg, eachGo_drop _ (by omega), if_pos (by rw [e]; exact c26)]
          exact e.symm
        ·
          have hz : (recChk p l[i]).2 = 0 := Decidable.not_not.1 c26
          have hrl := recChk_len hz
          refine OK.skip ?_
          refine Ab.D.code ?_
          refine OK.seq ?_
          refine OK.reg ?_
          refine RK.c (S.move .none rfl (.tmp rfl rfl)) ?_
          refine RK.c (S.move .none rfl (.tmp rfl rfl)) ?_
          refine RK.c (S.indexM si25 .none rfl (.tmp rfl rfl) (.tmp rfl rfl) rfl (by omega) rfl) ?_
          refine RK.c (S.loadN ti51 .none rfl (.tmp rfl rfl) rfl rfl) ?_
          refine RK.c (S.call (ref_Lost (by omega)) Tryz.call64 .none rfl (.cons (.tmp rfl rfl) .nil) rfl) ?_
          refine RK.c (S.lenM si57 .none rfl (.tmp rfl rfl)) ?_
          refine RK.c (S.gtr .none rfl (.tmp rfl rfl) (.cint rfl)) ?_
          refine RK.nil ?_
          refine Ab.D.code ?_
          refine OK.condD rfl rfl (fun c34 => ?_) (fun c34 => ?_)
          ·
            refine OK.seq ?_
            refine OK.reg ?_
            refine RK.c (S.assign .none rfl (.cint rfl)) ?_
            refine RK.nil ?_
            refine Ab.D.code ?_
            refine OK.ret (Ret.r1 (.tmp rfl rfl (.c (.same rfl) rfl) rfl) ?_)
            have e : recsErr1 p l[i] = 14 := by rw [recsErr1, if_neg c26, if_neg (by omega)]
            refine ret_i ?_
            rw [hrc, hg, eachGo_drop _ (by omega), if_pos (by rw [e]; decide)]
            exact e.symm
          ·
            refine OK.skip ?_
            refine Ab.D.blk ?_
            refine Ab.D.code ?_
            refine OK.reg ?_
            refine RK.c (S.move .none rfl (.tmp rfl rfl)) ?_
            refine RK.c (S.add .none rfl (.tmp rfl rfl) (.cint rfl) (IntWalk.i64_in _ (by omega)) (IntWalk.i64_in _ (by omega))) ?_
            refine RK.c (S.assign .none rfl (.tmp rfl rfl)) ?_
            refine RK.nil ?_
            refine Ab.D.lp ⟨i + 1, ⟨by omega, ?_⟩, (by omega), rfl, rfl, rfl, rfl, trivial⟩
            have e : recsErr1 p l[i] = 0 := by rw [recsErr1, if_neg c26, if_pos (by omega)]
            rw [hg, eachGo_drop _ (by omega), e]
            rfl
      ·
        refine OK.exit rfl ?_
        refine Ab.D.code ?_
        refine OK.seq ?_
        refine OK.reg ?_
        refine RK.c (S.assign .none rfl (.cint rfl)) ?_
        refine RK.nil ?_
        refine Ab.D.code ?_
        refine OK.ret (Ret.r1 (.tmp rfl rfl (.c (.same rfl) rfl) rfl) ?_)
        refine ret_i ?_
        rw [hrc, hg, show i = l.length by omega, List.drop_length]
        rfl

theorem ref_ordered {l : List Int} {n : Int} (hl : l.length ≤ 100000) (hn : 0 ≤ n ∧ n < l.length) : Ct Tryz.prog 66 [ints l, .int .i64 n] (.int .i64 ((sorted l).getD n.toNat 0)) := by
  refine Ct.intro (rs := [.tmp 4]) Tryz.func66 rfl Tryz.ntmps66 Tryz.results66 rfl rfl rfl fun w h => ?_
  refine OK.seq ?_
  refine OK.reg ?_
  refine RK.c (S.assign .none rfl (.cint rfl)) ?_
  refine RK.nil ?_
  refine Ab.D.code ?_
  refine OK.seq ?_
  refine OK.seq ?_
  refine OK.reg ?_
  refine RK.c (S.assign .none rfl (.cint rfl)) ?_
  refine RK.nil ?_
  refine Ab.D.code ?_
  refine OK.block ?_
  refine OK.loop (G := Nat) [] (fun i => [(0, ints l), (1, .int .i64 n), (5, .int .i64 i)]) (fun i => i ≤ l.length ∧ ∀ (j : Nat) (h : j < l.length), j < i → (before l l[j] j l.length : Int) ≠ n) (fun i => l.length - i) 0 ⟨Nat.zero_le _, fun j _ h => by omega⟩ ⟨rfl, rfl, rfl, trivial⟩ (fun _ => rfl) ?_
  rintro i ⟨hi, hg⟩
  refine OK.seq ?_
  refine OK.seq ?_
  refine OK.reg ?_
  refine RK.c (S.move .none rfl (.tmp rfl rfl)) ?_
  refine RK.c (S.move .none rfl (.tmp rfl rfl)) ?_
  refine RK.c (S.lenM si57 .none rfl (.tmp rfl rfl)) ?_
  refine RK.c (S.lss .none rfl (.tmp rfl rfl) (.tmp rfl rfl)) ?_
  refine RK.nil ?_
  refine Ab.D.code ?_
  refine OK.condD rfl rfl (fun c11 => ?_) (fun c11 => ?_)
  ·
    refine OK.skip ?_
    refine Ab.D.code ?_
    refine OK.seq ?_
    refine OK.block ?_
    refine OK.seq ?_
    refine OK.reg ?_
    refine RK.c (S.assign .none rfl (.cint rfl)) ?_
    refine RK.nil ?_
    refine Ab.D.code ?_
    refine OK.seq ?_
    refine OK.seq ?_
    refine OK.reg ?_
    refine RK.c (S.assign .none rfl (.cint rfl)) ?_
    refine RK.nil ?_
    refine Ab.D.code ?_
    refine OK.block ?_
    refine OK.loop (G := Nat) [] (fun k => [(0, ints l), (1, .int .i64 n), (5, .int .i64 i), (6, .int .i64 (before l l[i] i k)), (7, .int .i64 k)]) (fun k => k ≤ l.length) (fun k => l.length - k) 0 (Nat.zero_le _) ⟨rfl, rfl, rfl, (lk_int1 (by simp [before])), rfl, trivial⟩ (fun _ => rfl) ?_
    rintro k hk
    refine OK.seq ?_
    refine OK.seq ?_
    refine OK.reg ?_
    refine RK.c (S.move .none rfl (.tmp rfl rfl)) ?_
    refine RK.c (S.move .none rfl (.tmp rfl rfl)) ?_
    refine RK.c (S.lenM si57 .none rfl (.tmp rfl rfl)) ?_
    refine RK.c (S.lss .none rfl (.tmp rfl rfl) (.tmp rfl rfl)) ?_
    refine RK.nil ?_
    refine Ab.D.code ?_
    refine OK.condD rfl rfl (fun c17 => ?_) (fun c17 => ?_)
    ·
      have hbl := before_le l l[i] i k
      refine OK.skip ?_
      refine Ab.D.code ?_
      refine OK.seq ?_
      refine OK.block ?_
      refine OK.seq ?_
      by_cases g29 : l[k] < l[i]
      ·
        refine OK.regionDraw follows (.c (S.move .none rfl (.tmp rfl rfl))
          (.c (S.move .none rfl (.tmp rfl rfl))
          (.c (S.indexM si57 .none rfl (.tmp rfl rfl) (.tmp rfl rfl) rfl (by omega) rfl)
          (.c (S.load1 ti3 .none rfl (.tmp rfl rfl) rfl)
          (.c (S.move .none rfl (.tmp rfl rfl))
          (.c (S.move .none rfl (.tmp rfl rfl))
          (.c (S.indexM si57 .none rfl (.tmp rfl rfl) (.tmp rfl rfl) rfl (by omega) rfl)
          (.c (S.load1 ti3 .none rfl (.tmp rfl rfl) rfl)
          (.c (S.lss .none rfl (.tmp rfl rfl) (.tmp rfl rfl))
          (.c (S.move .none rfl (.tmp rfl rfl))
          (.c (S.skip rfl rfl rfl (by simp [*]) rfl)
          (.c (S.skip rfl rfl rfl (by simp [*]) rfl)
          (.c (S.skip rfl rfl rfl (by simp [*]) rfl)
          (.c (S.skip rfl rfl rfl (by simp [*]) rfl)
          (.c (S.skip rfl rfl rfl (by simp [*]) rfl)
          (.c (S.skip rfl rfl rfl (by simp [*]) rfl)
          (.c (S.skip rfl rfl rfl (by simp [*]) rfl)
          (.c (S.skip rfl rfl rfl (by simp [*]) rfl)
          (.c (S.skip rfl rfl rfl (by simp [*]) rfl)
          (.c (S.skip rfl rfl rfl (by simp [*]) rfl)
          (.c (S.skipU rfl rfl rfl rfl)
          (.c (S.skipU rfl rfl rfl rfl)
          (.c (S.skipU rfl rfl rfl rfl)
          (.c (S.skip rfl rfl rfl (by simp [*]) rfl)
          (.c (S.pickT .none rfl (.tmp rfl rfl) .cbool (by simp [*]))
          .nil))))))))))))))))))))))))) (by kernel_rfl) ?_
        refine Ab.D.code ?_
        refine OK.condT rfl rfl rfl ?_
        refine OK.reg ?_
        refine RK.c (S.move .none rfl (.tmp rfl rfl)) ?_
        refine RK.c (S.add .none rfl (.tmp rfl rfl) (.cint rfl) (IntWalk.i64_in _ (by omega)) (IntWalk.i64_in _ (by omega))) ?_
        refine RK.c (S.assign .none rfl (.tmp rfl rfl)) ?_
        refine RK.nil ?_
        refine Ab.D.blk ?_
        refine Ab.D.code ?_
        refine OK.reg ?_
        refine RK.c (S.move .none rfl (.tmp rfl rfl)) ?_
        refine RK.c (S.add .none rfl (.tmp rfl rfl) (.cint rfl) (IntWalk.i64_in _ (by omega)) (IntWalk.i64_in _ (by omega))) ?_
        refine RK.c (S.assign .none rfl (.tmp rfl rfl)) ?_
        refine RK.nil ?_
        refine Ab.D.lp ⟨k + 1, (by omega), (by omega), rfl, rfl, rfl, (lk_int1 (by first | exact before_T (by omega) (.inl g29) | exact before_T (by omega) (.inr ⟨g39, by omega⟩) | exact before_F (by omega) (by omega))), rfl, trivial⟩
      ·
        by_cases g39 : l[k] = l[i]
        ·
          refine OK.regionDraw follows (.c (S.move .none rfl (.tmp rfl rfl))
            (.c (S.move .none rfl (.tmp rfl rfl))
            (.c (S.indexM si57 .none rfl (.tmp rfl rfl) (.tmp rfl rfl) rfl (by omega) rfl)
            (.c (S.load1 ti3 .none rfl (.tmp rfl rfl) rfl)
            (.c (S.move .none rfl (.tmp rfl rfl))
            (.c (S.move .none rfl (.tmp rfl rfl))
            (.c (S.indexM si57 .none rfl (.tmp rfl rfl) (.tmp rfl rfl) rfl (by omega) rfl)
            (.c (S.load1 ti3 .none rfl (.tmp rfl rfl) rfl)
            (.c (S.lss .none rfl (.tmp rfl rfl) (.tmp rfl rfl))
            (.c (S.move .none rfl (.tmp rfl rfl))
            (.c (S.move (.yes rfl rfl rfl (by simp [*])) rfl (.tmp rfl rfl))
            (.c (S.move (.yes rfl rfl rfl (by simp [*])) rfl (.tmp rfl rfl))
            (.c (S.indexM si57 (.yes rfl rfl rfl (by simp [*])) rfl (.tmp rfl rfl) (.tmp rfl rfl) rfl (by omega) rfl)
            (.c (S.load1 ti3 (.yes rfl rfl rfl (by simp [*])) rfl (.tmp rfl rfl) rfl)
            (.c (S.move (.yes rfl rfl rfl (by simp [*])) rfl (.tmp rfl rfl))
            (.c (S.move (.yes rfl rfl rfl (by simp [*])) rfl (.tmp rfl rfl))
            (.c (S.indexM si57 (.yes rfl rfl rfl (by simp [*])) rfl (.tmp rfl rfl) (.tmp rfl rfl) rfl (by omega) rfl)
            (.c (S.load1 ti3 (.yes rfl rfl rfl (by simp [*])) rfl (.tmp rfl rfl) rfl)
            (.c (S.eql (.yes rfl rfl rfl (by simp [*])) rfl (.tmp rfl rfl) (.tmp rfl rfl))
            (.c (S.move (.yes rfl rfl rfl (by simp [*])) rfl (.tmp rfl rfl))
            (.c (S.move (.yes rfl rfl rfl (by simp [*])) rfl (.tmp rfl rfl))
            (.c (S.move (.yes rfl rfl rfl (by simp [*])) rfl (.tmp rfl rfl))
            (.c (S.lss (.yes rfl rfl rfl (by simp [*])) rfl (.tmp rfl rfl) (.tmp rfl rfl))
            (.c (S.pickT (.yes rfl rfl rfl (by simp [*])) rfl (.tmp rfl rfl) (.tmp rfl rfl) (by simp [*]))
            (.c (S.pickF .none rfl (.tmp rfl rfl) (.tmp rfl rfl) (by simp [*]))
            .nil))))))))))))))))))))))))) (by kernel_rfl) ?_
          refine Ab.D.code ?_
          refine OK.condD rfl rfl (fun c44 => ?_) (fun c44 => ?_)
          ·
            refine OK.reg ?_
            refine RK.c (S.move .none rfl (.tmp rfl rfl)) ?_
            refine RK.c (S.add .none rfl (.tmp rfl rfl) (.cint rfl) (IntWalk.i64_in _ (by omega)) (IntWalk.i64_in _ (by omega))) ?_
            refine RK.c (S.assign .none rfl (.tmp rfl rfl)) ?_
            refine RK.nil ?_
            refine Ab.D.blk ?_
            refine Ab.D.code ?_
            refine OK.reg ?_
            refine RK.c (S.move .none rfl (.tmp rfl rfl)) ?_
            refine RK.c (S.add .none rfl (.tmp rfl rfl) (.cint rfl) (IntWalk.i64_in _ (by omega)) (IntWalk.i64_in _ (by omega))) ?_
            refine RK.c (S.assign .none rfl (.tmp rfl rfl)) ?_
            refine RK.nil ?_
            refine Ab.D.lp ⟨k + 1, (by omega), (by omega), rfl, rfl, rfl, (lk_int1 (by first | exact before_T (by omega) (.inl g29) | exact before_T (by omega) (.inr ⟨g39, by omega⟩) | exact before_F (by omega) (by omega))), rfl, trivial⟩
          ·
            refine OK.skip ?_
            refine Ab.D.blk ?_
            refine Ab.D.code ?_
            refine OK.reg ?_
            refine RK.c (S.move .none rfl (.tmp rfl rfl)) ?_
            refine RK.c (S.add .none rfl (.tmp rfl rfl) (.cint rfl) (IntWalk.i64_in _ (by omega)) (IntWalk.i64_in _ (by omega))) ?_
            refine RK.c (S.assign .none rfl (.tmp rfl rfl)) ?_
            refine RK.nil ?_
            refine Ab.D.lp ⟨k + 1, (by omega), (by omega), rfl, rfl, rfl, (lk_int1 (by first | exact before_T (by omega) (.inl g29) | exact before_T (by omega) (.inr ⟨g39, by omega⟩) | exact before_F (by omega) (by omega))), rfl, trivial⟩
        ·
          refine OK.regionDraw follows (.c (S.move .none rfl (.tmp rfl rfl))
            (.c (S.move .none rfl (.tmp rfl rfl))
            (.c (S.indexM si57 .none rfl (.tmp rfl rfl) (.tmp rfl rfl) rfl (by omega) rfl)
            (.c (S.load1 ti3 .none rfl (.tmp rfl rfl) rfl)
            (.c (S.move .none rfl (.tmp rfl rfl))
            (.c (S.move .none rfl (.tmp rfl rfl))
            (.c (S.indexM si57 .none rfl (.tmp rfl rfl) (.tmp rfl rfl) rfl (by omega) rfl)
            (.c (S.load1 ti3 .none rfl (.tmp rfl rfl) rfl)
            (.c (S.lss .none rfl (.tmp rfl rfl) (.tmp rfl rfl))
            (.c (S.move .none rfl (.tmp rfl rfl))
            (.c (S.move (.yes rfl rfl rfl (by simp [*])) rfl (.tmp rfl rfl))
            (.c (S.move (.yes rfl rfl rfl (by simp [*])) rfl (.tmp rfl rfl))
            (.c (S.indexM si57 (.yes rfl rfl rfl (by simp [*])) rfl (.tmp rfl rfl) (.tmp rfl rfl) rfl (by omega) rfl)
            (.c (S.load1 ti3 (.yes rfl rfl rfl (by simp [*])) rfl (.tmp rfl rfl) rfl)
            (.c (S.move (.yes rfl rfl rfl (by simp [*])) rfl (.tmp rfl rfl))
            (.c (S.move (.yes rfl rfl rfl (by simp [*])) rfl (.tmp rfl rfl))
            (.c (S.indexM si57 (.yes rfl rfl rfl (by simp [*])) rfl (.tmp rfl rfl) (.tmp rfl rfl) rfl (by omega) rfl)
            (.c (S.load1 ti3 (.yes rfl rfl rfl (by simp [*])) rfl (.tmp rfl rfl) rfl)
            (.c (S.eql (.yes rfl rfl rfl (by simp [*])) rfl (.tmp rfl rfl) (.tmp rfl rfl))
            (.c (S.move (.yes rfl rfl rfl (by simp [*])) rfl (.tmp rfl rfl))
            (.c (S.skip rfl rfl rfl (by simp [*]) rfl)
            (.c (S.skip rfl rfl rfl (by simp [*]) rfl)
            (.c (S.skip rfl rfl rfl (by simp [*]) rfl)
            (.c (S.pickF (.yes rfl rfl rfl (by simp [*])) rfl (.tmp rfl rfl) .cbool (by simp [*]))
            (.c (S.pickF .none rfl (.tmp rfl rfl) (.tmp rfl rfl) (by simp [*]))
            .nil))))))))))))))))))))))))) (by kernel_rfl) ?_
          refine Ab.D.code ?_
          refine OK.condF rfl rfl rfl ?_
          refine OK.skip ?_
          refine Ab.D.blk ?_
          refine Ab.D.code ?_
          refine OK.reg ?_
          refine RK.c (S.move .none rfl (.tmp rfl rfl)) ?_
          refine RK.c (S.add .none rfl (.tmp rfl rfl) (.cint rfl) (IntWalk.i64_in _ (by omega)) (IntWalk.i64_in _ (by omega))) ?_
          refine RK.c (S.assign .none rfl (.tmp rfl rfl)) ?_
          refine RK.nil ?_
          refine Ab.D.lp ⟨k + 1, (by omega), (by omega), rfl, rfl, rfl, (lk_int1 (by first | exact before_T (by omega) (.inl g29) | exact before_T (by omega) (.inr ⟨g39, by omega⟩) | exact before_F (by omega) (by omega))), rfl, trivial⟩
    ·
      refine OK.exit rfl ?_
      refine Ab.D.code ?_
      refine OK.seq ?_
      refine OK.reg ?_
      refine RK.c (S.move .none rfl (.tmp rfl rfl)) ?_
      refine RK.c (S.move .none rfl (.tmp rfl rfl)) ?_
      refine RK.c (S.eql .none rfl (.tmp rfl rfl) (.tmp rfl rfl)) ?_
      refine RK.nil ?_
      refine Ab.D.code ?_
      refine OK.condD rfl rfl (fun c49 => ?_) (fun c49 => ?_)
      ·
        have hkl : k = l.length := by omega
        subst hkl
        obtain ⟨hm, em⟩ := before_at (n := n.toNat) (by omega) (show before l l[i] i l.length = n.toNat by omega)
        refine OK.seq ?_
        refine OK.reg ?_
        refine RK.c (S.move .none rfl (.tmp rfl rfl)) ?_
        refine RK.c (S.move .none rfl (.tmp rfl rfl)) ?_
        refine RK.c (S.indexM si57 .none rfl (.tmp rfl rfl) (.tmp rfl rfl) rfl (by omega) rfl) ?_
        refine RK.c (S.load1 ti3 .none rfl (.tmp rfl rfl) rfl) ?_
        refine RK.c (S.assign .none rfl (.tmp rfl rfl)) ?_
        refine RK.nil ?_
        refine Ab.D.code ?_
        refine OK.ret (Ret.r1 (.tmp rfl rfl (.c (.same rfl) rfl) rfl) ?_)
        refine ret_i ?_
        rw [getD_of hm, em]
      ·
        refine OK.skip ?_
        refine Ab.D.blk ?_
        refine Ab.D.code ?_
        refine OK.reg ?_
        refine RK.c (S.move .none rfl (.tmp rfl rfl)) ?_
        refine RK.c (S.add .none rfl (.tmp rfl rfl) (.cint rfl) (IntWalk.i64_in _ (by omega)) (IntWalk.i64_in _ (by omega))) ?_
        refine RK.c (S.assign .none rfl (.tmp rfl rfl)) ?_
        refine RK.nil ?_
        refine Ab.D.lp ⟨i + 1, ⟨by omega, ?_⟩, (by omega), rfl, rfl, rfl, trivial⟩
        intro j hj h1
        rcases Nat.lt_or_ge j i with h2 | h2
        · exact hg j hj h2
        · have : j = i := by omega
          subst this
          rw [show l.length = k by omega]
          exact c49
  ·
    refine OK.exit rfl ?_
    refine Ab.D.code ?_
    refine OK.seq ?_
    refine OK.reg ?_
    refine RK.c (S.assign .none rfl (.cint rfl)) ?_
    refine RK.nil ?_
    refine Ab.D.code ?_
    refine OK.ret (Ret.r1 (.tmp rfl rfl (.c (.same rfl) rfl) rfl) ?_)
    exfalso
    obtain ⟨j, hj, e⟩ := before_ex (l := l) (n := n.toNat) (by omega)
    exact hg j hj (by omega) (by omega)

theorem ref_Envelope {p : Plan} {l : List Record} {trim : Int} (hp : planErr p = 0) (hl : 1 ≤ l.length ∧ l.length ≤ 1000) (hw : WholeT p l) (ht : 0 ≤ trim ∧ 2 * trim ≤ l.length - 1) : Ct Tryz.prog 19 [.agg p.cs, .sl (l.map Record.cs), .int .i64 trim] (.agg (envT p l trim).cs) := by
  refine Ct.intro (rs := [.cell 6 33]) Tryz.func19 rfl Tryz.ntmps19 Tryz.results19 rfl rfl rfl fun w h => ?_
  have hpp := planErr_0 hp
  refine OK.seq ?_
  refine OK.reg ?_
  refine RK.c (S.box (k := 3) rfl .none rfl (.tmp rfl rfl) rfl) ?_
  refine RK.c (S.alloc (k := 6) ze33 rfl .none rfl) ?_
  refine RK.nil ?_
  refine Ab.D.code ?_
  refine OK.seq ?_
  refine OK.reg ?_
  refine RK.c (S.move .none rfl (.tmp rfl rfl)) ?_
  refine RK.c (S.lenM si25 .none rfl (.tmp rfl rfl)) ?_
  refine RK.c (S.move .none rfl (.tmp rfl rfl)) ?_
  refine RK.c (S.build bu33 rfl .none rfl (.cons (.tmp rfl rfl) (.cons (.tmp rfl rfl) .nil)) rfl rfl) ?_
  refine RK.c (S.alloc (k := 7) ze33 rfl .none rfl) ?_
  refine RK.c (S.store ti33 .none (.tmp rfl rfl) (.tmp rfl rfl) rfl rfl rfl rfl rfl rfl) ?_
  refine RK.nil ?_
  refine Ab.D.code ?_
  refine OK.seq ?_
  refine OK.seq ?_
  refine OK.reg ?_
  refine RK.c (S.assign .none rfl (.cint rfl)) ?_
  refine RK.nil ?_
  refine Ab.D.code ?_
  refine OK.block ?_
  refine OK.boxOwn 7 2 900 1 rfl rfl rfl rfl rfl ?_
  refine OK.loop (G := Nat) [3, 6, 7, 900] (fun i => [(1, .sl (l.map Record.cs)), (2, .int .i64 trim), (3, .ptr 3 0), (1003, .box p.cs), (6, .ptr 6 0), (1006, .box [.int .i64 0, .int .i64 0, .nils]), (7, .ptr 7 0), (1007, .box [.int .i64 l.length, .int .i64 trim, .own 900 i]), (2900, .arr 1 ((List.range i).map (fun t => [X.sl ((rowT p l trim t).map Range.cs)]))), (8, .int .i64 i)]) (fun i => (i : Int) ≤ p.ticks) (fun i => p.ticks.toNat - i) 0 (by omega) ⟨rfl, rfl, rfl, rfl, rfl, rfl, rfl, rfl, (lk_arr (by first | rfl | (simp; done) | (simp; omega))), rfl, trivial⟩ (fun _ => rfl) ?_
  rintro i hi
  refine OK.seq ?_
  refine OK.seq ?_
  refine OK.reg ?_
  refine RK.c (S.move .none rfl (.tmp rfl rfl)) ?_
  refine RK.c (S.bfield fi24_1 .none rfl (.tmp rfl rfl)) ?_
  refine RK.c (S.bload1 ti3 .none rfl (.tmp rfl rfl) rfl rfl rfl rfl) ?_
  refine RK.c (S.lss .none rfl (.tmp rfl rfl) (.tmp rfl rfl)) ?_
  refine RK.nil ?_
  refine Ab.D.code ?_
  refine OK.condD rfl rfl (fun c20 => ?_) (fun c20 => ?_)
  ·
    refine OK.skip ?_
    refine Ab.D.code ?_
    refine OK.seq ?_
    refine OK.block ?_
    refine OK.seq ?_
    refine OK.reg ?_
    refine RK.c (S.nilOwn (k := 9) (sz := 2) .none rfl) ?_
    refine RK.nil ?_
    refine Ab.D.code ?_
    refine OK.seq ?_
    refine OK.seq ?_
    refine OK.reg ?_
    refine RK.c (S.assign .none rfl (.cint rfl)) ?_
    refine RK.nil ?_
    refine Ab.D.code ?_
    refine OK.block ?_
    refine OK.loop (G := Nat) [3, 6, 7, 900, 9] (fun c => [(1, .sl (l.map Record.cs)), (2, .int .i64 trim), (3, .ptr 3 0), (1003, .box p.cs), (6, .ptr 6 0), (1006, .box [.int .i64 0, .int .i64 0, .nils]), (7, .ptr 7 0), (1007, .box [.int .i64 l.length, .int .i64 trim, .own 900 i]), (2900, .arr 1 ((List.range i).map (fun t => [X.sl ((rowT p l trim t).map Range.cs)]))), (8, .int .i64 i), (9, .own 9 c), (2009, .arr 2 ((List.range c).map fun c => (rangeT l trim i c).cs)), (10, .int .i64 c)]) (fun c => c ≤ p.channels.length) (fun c => p.channels.length - c) 0 (Nat.zero_le _) ⟨rfl, rfl, rfl, rfl, rfl, rfl, rfl, rfl, (lk_arr (by first | rfl | (simp; done) | (simp; omega))), rfl, (lk_own (by first | rfl | (simp; done) | (simp; omega))), (lk_arr (by first | rfl | (simp; done) | (simp; omega))), rfl, trivial⟩ (fun _ => rfl) ?_
    rintro c hc
    refine OK.seq ?_
    refine OK.seq ?_
    refine OK.reg ?_
    refine RK.c (S.move .none rfl (.tmp rfl rfl)) ?_
    refine RK.c (S.bfield fi24_0 .none rfl (.tmp rfl rfl)) ?_
    refine RK.c (S.bload1 ti22 .none rfl (.tmp rfl rfl) rfl rfl rfl rfl) ?_
    refine RK.c (S.lenM si22 .none rfl (.tmp rfl rfl)) ?_
    refine RK.c (S.lss .none rfl (.tmp rfl rfl) (.tmp rfl rfl)) ?_
    refine RK.nil ?_
    refine Ab.D.code ?_
    refine OK.condD rfl rfl (fun c27 => ?_) (fun c27 => ?_)
    ·
      refine OK.skip ?_
      refine Ab.D.code ?_
      refine OK.seq ?_
      refine OK.block ?_
      refine OK.seq ?_
      refine OK.reg ?_
      refine RK.c (S.nilOwn (k := 11) (sz := 1) .none rfl) ?_
      refine RK.nil ?_
      refine Ab.D.code ?_
      refine OK.seq ?_
      refine OK.seq ?_
      refine OK.reg ?_
      refine RK.c (S.assign .none rfl (.cint rfl)) ?_
      refine RK.nil ?_
      refine Ab.D.code ?_
      refine OK.block ?_
      refine OK.loop (G := Nat) [3, 6, 7, 900, 9, 11] (fun k => [(1, .sl (l.map Record.cs)), (2, .int .i64 trim), (3, .ptr 3 0), (1003, .box p.cs), (6, .ptr 6 0), (1006, .box [.int .i64 0, .int .i64 0, .nils]), (7, .ptr 7 0), (1007, .box [.int .i64 l.length, .int .i64 trim, .own 900 i]), (2900, .arr 1 ((List.range i).map (fun t => [X.sl ((rowT p l trim t).map Range.cs)]))), (8, .int .i64 i), (9, .own 9 c), (2009, .arr 2 ((List.range c).map fun c => (rangeT l trim i c).cs)), (10, .int .i64 c), (11, .own 11 k), (2011, .arr 1 ((col (l.take k) i c).map fun n => [.int .i64 n])), (12, .int .i64 k)]) (fun k => k ≤ l.length) (fun k => l.length - k) 0 (Nat.zero_le _) ⟨rfl, rfl, rfl, rfl, rfl, rfl, rfl, rfl, (lk_arr (by first | rfl | (simp; done) | (simp; omega))), rfl, (lk_own (by first | rfl | (simp; done) | (simp; omega))), (lk_arr (by first | rfl | (simp; done) | (simp; omega))), rfl, (lk_own (by first | rfl | (simp; done) | (simp; omega))), (lk_arr (by first | rfl | (simp; done) | (simp; omega))), rfl, trivial⟩ (fun _ => rfl) ?_
      rintro k hk
      refine OK.seq ?_
      refine OK.seq ?_
      refine OK.reg ?_
      refine RK.c (S.move .none rfl (.tmp rfl rfl)) ?_
      refine RK.c (S.move .none rfl (.tmp rfl rfl)) ?_
      refine RK.c (S.lenM si25 .none rfl (.tmp rfl rfl)) ?_
      refine RK.c (S.lss .none rfl (.tmp rfl rfl) (.tmp rfl rfl)) ?_
      refine RK.nil ?_
      refine Ab.D.code ?_
      refine OK.condD rfl rfl (fun c33 => ?_) (fun c33 => ?_)
      ·
        have h1 : i < l[k].rows.length := by have := hw.rows k (by omega); omega
        have h2 : c < l[k].rows[i].values.length := by have := hw.vals k (by omega) i h1; omega
        refine OK.skip ?_
        refine Ab.D.code ?_
        refine OK.seq ?_
        refine OK.block ?_
        refine OK.reg ?_
        refine RK.c (S.move .none rfl (.tmp rfl rfl)) ?_
        refine RK.c (S.move .none rfl (.tmp rfl rfl)) ?_
        refine RK.c (S.move .none rfl (.tmp rfl rfl)) ?_
        refine RK.c (S.indexM si25 .none rfl (.tmp rfl rfl) (.tmp rfl rfl) rfl (by omega) rfl) ?_
        refine RK.c (S.field fi51_0 .none rfl (.tmp rfl rfl) rfl) ?_
        refine RK.c (S.load1 ti49 .none rfl (.tmp rfl rfl) rfl) ?_
        refine RK.c (S.move .none rfl (.tmp rfl rfl)) ?_
        refine RK.c (S.indexM (n := i) si49 .none rfl (.tmp rfl rfl) (.tmp rfl rfl) rfl h1 rfl) ?_
        refine RK.c (S.field fi59_1 .none rfl (.tmp rfl rfl) rfl) ?_
        refine RK.c (S.load1 ti57 .none rfl (.tmp rfl rfl) rfl) ?_
        refine RK.c (S.move .none rfl (.tmp rfl rfl)) ?_
        refine RK.c (S.indexM (n := c) si57 .none rfl (.tmp rfl rfl) (.tmp rfl rfl) rfl h2 rfl) ?_
        refine RK.c (S.load1 ti3 .none rfl (.tmp rfl rfl) rfl) ?_
        refine RK.c (S.mkSlice (k := 49) (rows := [[_]]) ai57 .none rfl (.cons (.tmp rfl rfl) .nil) rfl rfl rfl rfl rfl rfl rfl) ?_
        refine RK.c (S.append ai57 .none rfl (.tmp rfl rfl) rfl (by simp only [List.length_map, col_len, List.length_take]; omega) (.tmp rfl rfl) rfl (by first | rfl | (simp; done) | (simp; omega)) (by omega) (by simp only [maxLen]; omega)) ?_
        refine RK.c (S.assign .none rfl (.tmp rfl rfl)) ?_
        refine RK.nil ?_
        refine Ab.D.blk ?_
        refine Ab.D.code ?_
        refine OK.reg ?_
        refine RK.c (S.move .none rfl (.tmp rfl rfl)) ?_
        refine RK.c (S.add .none rfl (.tmp rfl rfl) (.cint rfl) (IntWalk.i64_in _ (by omega)) (IntWalk.i64_in _ (by omega))) ?_
        refine RK.c (S.assign .none rfl (.tmp rfl rfl)) ?_
        refine RK.nil ?_
        refine Ab.D.lp ⟨k + 1, (by omega), (by omega), rfl, rfl, rfl, rfl, rfl, rfl, rfl, rfl, (lk_arr (by first | rfl | (simp; done) | (simp; omega))), rfl, (lk_own (by first | rfl | (simp; done) | (simp; omega))), (lk_arr (by first | rfl | (simp; done) | (simp; omega))), rfl, (lk_own (by first | rfl | (simp; done) | (simp; omega))), (lk_arr (by rw [← col_snoc (by omega) h1 h2, List.map_append]; rfl)), rfl, trivial⟩
      ·
        have hkl : k = l.length := by omega
        subst hkl
        refine OK.exit rfl ?_
        refine Ab.D.code ?_
        rw [List.take_length] at *
        have hcl := col_len l i c
        have hrange : rangeT l trim i c = ⟨(sorted (col l i c)).getD trim.toNat 0, (sorted (col l i c)).getD ((l.length : Int) - 1 - trim).toNat 0⟩ := by
          rw [rangeT, show ((l.length : Int) - 1 - trim).toNat = l.length - 1 - trim.toNat by omega]
        refine OK.freeze 11 rfl rfl rfl (by simp only [List.length_map, col_len]) ?_
        refine OK.reg ?_
        refine RK.c (S.move .none rfl (.tmp rfl rfl)) ?_
        refine RK.c (S.move .none rfl (.tmp rfl rfl)) ?_
        refine RK.c (S.move .none rfl (.tmp rfl rfl)) ?_
        refine RK.c (S.call (ref_ordered (l := col l i c) (n := trim) (by omega) (by omega)) Tryz.call66 .none rfl (.cons (.tmp rfl rfl) (.cons (.tmp rfl rfl) .nil)) rfl) ?_
        refine RK.c (S.move .none rfl (.tmp rfl rfl)) ?_
        refine RK.c (S.move .none rfl (.tmp rfl rfl)) ?_
        refine RK.c (S.lenM si25 .none rfl (.tmp rfl rfl)) ?_
        refine RK.c (S.sub .none rfl (.tmp rfl rfl) (.cint rfl) (IntWalk.i64_in _ (by omega)) (IntWalk.i64_in _ (by omega))) ?_
        refine RK.c (S.move .none rfl (.tmp rfl rfl)) ?_
        refine RK.c (S.sub .none rfl (.tmp rfl rfl) (.tmp rfl rfl) (IntWalk.i64_in _ (by omega)) (IntWalk.i64_in _ (by omega))) ?_
        refine RK.c (S.call (ref_ordered (l := col l i c) (n := (l.length : Int) - 1 - trim) (by omega) (by omega)) Tryz.call66 .none rfl (.cons (.tmp rfl rfl) (.cons (.tmp rfl rfl) .nil)) rfl) ?_
        refine RK.c (S.build bu54 rfl .none rfl (.cons (.tmp rfl rfl) (.cons (.tmp rfl rfl) .nil)) rfl rfl) ?_
        refine RK.c (S.mkSlice (k := 63) (rows := [[_, _]]) ai55 .none rfl (.cons (.tmp rfl rfl) .nil) rfl rfl rfl rfl rfl rfl rfl) ?_
        refine RK.c (S.append ai55 .none rfl (.tmp rfl rfl) rfl (by first | rfl | (simp; done) | (simp; omega)) (.tmp rfl rfl) rfl (by first | rfl | (simp; done) | (simp; omega)) (by omega) (by simp only [maxLen]; omega)) ?_
        refine RK.c (S.assign .none rfl (.tmp rfl rfl)) ?_
        refine RK.nil ?_
        refine Ab.D.blk ?_
        refine Ab.D.code ?_
        refine OK.reg ?_
        refine RK.c (S.move .none rfl (.tmp rfl rfl)) ?_
        refine RK.c (S.add .none rfl (.tmp rfl rfl) (.cint rfl) (IntWalk.i64_in _ (by omega)) (IntWalk.i64_in _ (by omega))) ?_
        refine RK.c (S.assign .none rfl (.tmp rfl rfl)) ?_
        refine RK.nil ?_
        refine Ab.D.lp ⟨c + 1, (by omega), (by omega), rfl, rfl, rfl, rfl, rfl, rfl, rfl, rfl, (lk_arr (by first | rfl | (simp; done) | (simp; omega))), rfl, (lk_own (by first | rfl | (simp; done) | (simp; omega))), (lk_arr (by rw [List.range_succ, List.map_append, List.map_cons, hrange]; rfl)), rfl, trivial⟩
    ·
      refine OK.exit rfl ?_
      refine Ab.D.code ?_
      refine OK.freeze 9 rfl rfl rfl (by simp) ?_
      refine OK.reg ?_
      refine RK.c (S.bfield fi33_2 .none rfl (.tmp rfl rfl)) ?_
      refine RK.c (S.bload1 ti31 .none rfl (.tmp rfl rfl) rfl rfl rfl rfl) ?_
      refine RK.c (S.move .none rfl (.tmp rfl rfl)) ?_
      refine RK.c (S.mkSlice (k := 68) (rows := [[_]]) ai31 .none rfl (.cons (.tmp rfl rfl) .nil) rfl rfl rfl rfl rfl rfl rfl) ?_
      refine RK.c (S.append ai31 .none rfl (.tmp rfl rfl) rfl (by first | rfl | (simp; done) | (simp; omega)) (.tmp rfl rfl) rfl (by first | rfl | (simp; done) | (simp; omega)) (by omega) (by simp only [maxLen]; omega)) ?_
      refine RK.c (S.bfield fi33_2 .none rfl (.tmp rfl rfl)) ?_
      refine RK.c (S.store ti31 .none (.tmp rfl rfl) (.tmp rfl rfl) rfl rfl rfl rfl rfl rfl) ?_
      refine RK.nil ?_
      refine Ab.D.blk ?_
      refine Ab.D.code ?_
      refine OK.reg ?_
      refine RK.c (S.move .none rfl (.tmp rfl rfl)) ?_
      refine RK.c (S.add .none rfl (.tmp rfl rfl) (.cint rfl) (IntWalk.i64_in _ (by omega)) (IntWalk.i64_in _ (by omega))) ?_
      refine RK.c (S.assign .none rfl (.tmp rfl rfl)) ?_
      refine RK.nil ?_
      refine Ab.D.lp ⟨i + 1, (by omega), (by omega), rfl, rfl, rfl, rfl, rfl, rfl, rfl, rfl, (lk_arr (by rw [show c = p.channels.length by omega, List.range_succ, List.map_append]; simp only [rowT, List.map_map, List.map_cons, List.map_nil]; rfl)), rfl, trivial⟩
  ·
    refine OK.exit rfl ?_
    refine Ab.D.code ?_
    refine OK.seq ?_
    refine OK.reg ?_
    refine RK.c (S.bloadN ti33 .none rfl (.tmp rfl rfl) rfl rfl rfl rfl) ?_
    refine RK.c (S.store ti33 .none (.tmp rfl rfl) (.tmp rfl rfl) rfl rfl rfl rfl rfl rfl) ?_
    refine RK.nil ?_
    refine Ab.D.code ?_
    refine OK.ret (Ret.r1 (.cellN rfl rfl rfl rfl ti33 rfl (.k (.same rfl) (.k (.same rfl) (.k (.own rfl rfl (by first | rfl | (simp; done) | (simp; omega))) .z)))) ?_)
    rw [show i = p.ticks.toNat by omega, envT, Envelope.cs, List.map_map]
    rfl

theorem ref_CopyRecords {l : List Record} (hl : l.length ≤ 100000) (hr : ∀ (i : Nat) (h : i < l.length), l[i].rows.length ≤ 100000) (hv : ∀ (i : Nat) (h : i < l.length) (k : Nat) (h2 : k < l[i].rows.length), l[i].rows[k].values.length ≤ 100000) : Ct Tryz.prog 14 [.sl (l.map Record.cs)] (.sl (l.map Record.cs)) := by
  refine Ct.intro (rs := [.tmp 2]) Tryz.func14 rfl Tryz.ntmps14 Tryz.results14 rfl rfl rfl fun w h => ?_
  refine OK.seq ?_
  refine OK.reg ?_
  refine RK.c (S.assign .none rfl .cnil) ?_
  refine RK.nil ?_
  refine Ab.D.code ?_
  refine OK.seq ?_
  refine OK.reg ?_
  refine RK.c (S.nilOwn (k := 3) (sz := 1) .none rfl) ?_
  refine RK.nil ?_
  refine Ab.D.code ?_
  refine OK.seq ?_
  refine OK.seq ?_
  refine OK.reg ?_
  refine RK.c (S.assign .none rfl (.cint rfl)) ?_
  refine RK.nil ?_
  refine Ab.D.code ?_
  refine OK.block ?_
  refine OK.loop (G := Nat) [3] (fun i => [(0, .sl (l.map Record.cs)), (3, .own 3 i), (2003, .arr 1 ((l.take i).map Record.cs)), (4, .int .i64 i)]) (fun i => i ≤ l.length) (fun i => l.length - i) 0 (Nat.zero_le _) ⟨rfl, (lk_own (by first | rfl | (simp; done) | (simp; omega))), (lk_arr (by first | rfl | (simp; done) | (simp; omega))), rfl, trivial⟩ (fun _ => rfl) ?_
  rintro i hi
  refine OK.seq ?_
  refine OK.seq ?_
  refine OK.reg ?_
  refine RK.c (S.move .none rfl (.tmp rfl rfl)) ?_
  refine RK.c (S.move .none rfl (.tmp rfl rfl)) ?_
  refine RK.c (S.lenM si25 .none rfl (.tmp rfl rfl)) ?_
  refine RK.c (S.lss .none rfl (.tmp rfl rfl) (.tmp rfl rfl)) ?_
  refine RK.nil ?_
  refine Ab.D.code ?_
  refine OK.condD rfl rfl (fun c8 => ?_) (fun c8 => ?_)
  ·
    refine OK.skip ?_
    refine Ab.D.code ?_
    refine OK.seq ?_
    refine OK.block ?_
    refine OK.reg ?_
    refine RK.c (S.move .none rfl (.tmp rfl rfl)) ?_
    refine RK.c (S.move .none rfl (.tmp rfl rfl)) ?_
    refine RK.c (S.move .none rfl (.tmp rfl rfl)) ?_
    refine RK.c (S.indexM si25 .none rfl (.tmp rfl rfl) (.tmp rfl rfl) rfl (by omega) rfl) ?_
    refine RK.c (S.loadN ti51 .none rfl (.tmp rfl rfl) rfl rfl) ?_
    refine RK.c (S.call (ref_CopyRecord (hr i (by omega)) (hv i (by omega))) Tryz.call23 .none rfl (.cons (.tmp rfl rfl) .nil) rfl) ?_
    refine RK.c (S.mkSlice (k := 17) (rows := [[_]]) ai25 .none rfl (.cons (.tmp rfl rfl) .nil) rfl rfl rfl rfl rfl rfl rfl) ?_
    refine RK.c (S.append ai25 .none rfl (.tmp rfl rfl) rfl (by simp; omega) (.tmp rfl rfl) rfl (by first | rfl | (simp; done) | (simp; omega)) (by omega) (by simp only [maxLen]; omega)) ?_
    refine RK.c (S.assign .none rfl (.tmp rfl rfl)) ?_
    refine RK.nil ?_
    refine Ab.D.blk ?_
    refine Ab.D.code ?_
    refine OK.reg ?_
    refine RK.c (S.move .none rfl (.tmp rfl rfl)) ?_
    refine RK.c (S.add .none rfl (.tmp rfl rfl) (.cint rfl) (IntWalk.i64_in _ (by omega)) (IntWalk.i64_in _ (by omega))) ?_
    refine RK.c (S.assign .none rfl (.tmp rfl rfl)) ?_
    refine RK.nil ?_
    refine Ab.D.lp ⟨i + 1, (by omega), (by omega), rfl, (lk_own (by first | rfl | (simp; done) | (simp; omega))), (lk_arr (by rw [← take_snoc (by omega), List.map_append]; rfl)), rfl, trivial⟩
  ·
    refine OK.exit rfl ?_
    refine Ab.D.code ?_
    refine OK.seq ?_
    refine OK.reg ?_
    refine RK.c (S.move .none rfl (.tmp rfl rfl)) ?_
    refine RK.c (S.assign .none rfl (.tmp rfl rfl)) ?_
    refine RK.nil ?_
    refine Ab.D.code ?_
    refine OK.ret (Ret.r1 (.tmp rfl rfl (.c (.own rfl rfl (by first | rfl | (simp; done) | (simp; omega))) rfl) rfl) ?_)
    rw [show i = l.length by omega, List.take_length]

theorem law_shortRecords {l : List Record} : Ct Tryz.prog 11 [.sl (l.map Record.cs)] (.bool (shortRecs l)) := by
  refine Ct.intro (rs := [.tmp 2]) Tryz.func11 rfl Tryz.ntmps11 Tryz.results11 rfl rfl rfl fun w h => ?_
  refine OK.seq ?_
  refine OK.reg ?_
  refine RK.c (S.assign .none rfl .cbool) ?_
  refine RK.nil ?_
  refine Ab.D.code ?_
  refine OK.seq ?_
  refine OK.seq ?_
  refine OK.reg ?_
  refine RK.c (S.move .none rfl (.tmp rfl rfl)) ?_
  refine RK.c (S.lenM si25 .none rfl (.tmp rfl rfl)) ?_
  refine RK.c (S.gtr .none rfl (.tmp rfl rfl) (.cint rfl)) ?_
  refine RK.c (S.move .none rfl (.tmp rfl rfl)) ?_
  refine RK.splitD (t := 7) rfl (fun g7 => ?_) (fun g7 => ?_)
  ·
    refine RK.c (S.move (.yes rfl rfl rfl rfl) rfl (.tmp rfl rfl)) ?_
    refine RK.c (S.lenM si25 (.yes rfl rfl rfl rfl) rfl (.tmp rfl rfl)) ?_
    refine RK.c (S.leq (.yes rfl rfl rfl rfl) rfl (.tmp rfl rfl) (.cint rfl)) ?_
    refine RK.c (S.pickT .none rfl (.tmp rfl rfl) (.tmp rfl rfl) rfl) ?_
    refine RK.c (S.move .none rfl (.tmp rfl rfl)) ?_
    refine RK.splitD (t := 12) rfl (fun g12 => ?_) (fun g12 => ?_)
    ·
      refine RK.c (S.skip rfl rfl rfl rfl rfl) ?_
      refine RK.c (S.skip rfl rfl rfl rfl rfl) ?_
      refine RK.c (S.skip rfl rfl rfl rfl rfl) ?_
      refine RK.c (S.pickT .none rfl (.tmp rfl rfl) .cbool rfl) ?_
      refine RK.nil ?_
      refine Ab.D.code ?_
      refine OK.condT rfl rfl rfl ?_
      refine OK.seq ?_
      refine OK.reg ?_
      refine RK.c (S.assign .none rfl .cbool) ?_
      refine RK.nil ?_
      refine Ab.D.code ?_
      refine OK.ret (Ret.r1 (.tmp rfl rfl (.c (.same rfl) rfl) rfl) ?_)
      first | (refine ret_b ?_; rw [shortRecs, decide_eq_false (by omega), Bool.false_and]; done) | (refine ret_b ?_; rw [shortRecs, hg, all_drop _ (by omega), show shortRec l[i] = false by simpa using c28, Bool.false_and, Bool.and_false]; done) | (refine ret_b ?_; rw [shortRecs, hg, show i = l.length by omega, List.drop_length, decide_eq_true (by omega)]; rfl)
    ·
      refine RK.c (S.move (.yes rfl rfl rfl rfl) rfl (.tmp rfl rfl)) ?_
      refine RK.c (S.lenM si25 (.yes rfl rfl rfl rfl) rfl (.tmp rfl rfl)) ?_
      refine RK.c (S.gtr (.yes rfl rfl rfl rfl) rfl (.tmp rfl rfl) (.cint rfl)) ?_
      refine RK.c (S.pickF .none rfl (.tmp rfl rfl) (.tmp rfl rfl) rfl) ?_
      refine RK.nil ?_
      refine Ab.D.code ?_
      refine OK.condD rfl rfl (fun c16 => ?_) (fun c16 => ?_)
      ·
        refine OK.seq ?_
        refine OK.reg ?_
        refine RK.c (S.assign .none rfl .cbool) ?_
        refine RK.nil ?_
        refine Ab.D.code ?_
        refine OK.ret (Ret.r1 (.tmp rfl rfl (.c (.same rfl) rfl) rfl) ?_)
        first | (refine ret_b ?_; rw [shortRecs, decide_eq_false (by omega), Bool.false_and]; done) | (refine ret_b ?_; rw [shortRecs, hg, all_drop _ (by omega), show shortRec l[i] = false by simpa using c28, Bool.false_and, Bool.and_false]; done) | (refine ret_b ?_; rw [shortRecs, hg, show i = l.length by omega, List.drop_length, decide_eq_true (by omega)]; rfl)
      ·
        refine OK.skip ?_
        refine Ab.D.code ?_
        refine OK.seq ?_
        refine OK.seq ?_
        refine OK.reg ?_
        refine RK.c (S.assign .none rfl (.cint rfl)) ?_
        refine RK.nil ?_
        refine Ab.D.code ?_
        refine OK.block ?_
        refine OK.loop (G := Nat) [] (fun i => [(0, .sl (l.map Record.cs)), (3, .int .i64 i)]) (fun i => i ≤ l.length ∧ l.all shortRec = (l.drop i).all shortRec) (fun i => l.length - i) 0 ⟨Nat.zero_le _, rfl⟩ ⟨rfl, rfl, trivial⟩ (fun _ => rfl) ?_
        rintro i ⟨hi, hg⟩
        refine OK.seq ?_
        refine OK.seq ?_
        refine OK.reg ?_
        refine RK.c (S.move .none rfl (.tmp rfl rfl)) ?_
        refine RK.c (S.move .none rfl (.tmp rfl rfl)) ?_
        refine RK.c (S.lenM si25 .none rfl (.tmp rfl rfl)) ?_
        refine RK.c (S.lss .none rfl (.tmp rfl rfl) (.tmp rfl rfl)) ?_
        refine RK.nil ?_
        refine Ab.D.code ?_
        refine OK.condD rfl rfl (fun c20 => ?_) (fun c20 => ?_)
        ·
          refine OK.skip ?_
          refine Ab.D.code ?_
          refine OK.seq ?_
          refine OK.block ?_
          refine OK.seq ?_
          refine OK.reg ?_
          refine RK.c (S.move .none rfl (.tmp rfl rfl)) ?_
          refine RK.c (S.move .none rfl (.tmp rfl rfl)) ?_
          refine RK.c (S.indexM si25 .none rfl (.tmp rfl rfl) (.tmp rfl rfl) rfl (by omega) rfl) ?_
          refine RK.c (S.loadN ti51 .none rfl (.tmp rfl rfl) rfl rfl) ?_
          refine RK.c (S.call (law_shortRecord) Tryz.call26 .none rfl (.cons (.tmp rfl rfl) .nil) rfl) ?_
          refine RK.c (S.not .none rfl (.tmp rfl rfl)) ?_
          refine RK.nil ?_
          refine Ab.D.code ?_
          refine OK.cond rfl rfl (fun c28 => ?_) (fun c28 => ?_)
          ·
            refine OK.seq ?_
            refine OK.reg ?_
            refine RK.c (S.assign .none rfl .cbool) ?_
            refine RK.nil ?_
            refine Ab.D.code ?_
            refine OK.ret (Ret.r1 (.tmp rfl rfl (.c (.same rfl) rfl) rfl) ?_)
            first | (refine ret_b ?_; rw [shortRecs, decide_eq_false (by omega), Bool.false_and]; done) | (refine ret_b ?_; rw [shortRecs, hg, all_drop _ (by omega), show shortRec l[i] = false by simpa using c28, Bool.false_and, Bool.and_false]; done) | (refine ret_b ?_; rw [shortRecs, hg, show i = l.length by omega, List.drop_length, decide_eq_true (by omega)]; rfl)
          ·
            refine OK.skip ?_
            refine Ab.D.blk ?_
            refine Ab.D.code ?_
            refine OK.reg ?_
            refine RK.c (S.move .none rfl (.tmp rfl rfl)) ?_
            refine RK.c (S.add .none rfl (.tmp rfl rfl) (.cint rfl) (IntWalk.i64_in _ (by omega)) (IntWalk.i64_in _ (by omega))) ?_
            refine RK.c (S.assign .none rfl (.tmp rfl rfl)) ?_
            refine RK.nil ?_
            refine Ab.D.lp ⟨i + 1, ⟨by omega, ?_⟩, (by omega), rfl, rfl, trivial⟩
            rw [hg, all_drop _ (by omega), show shortRec l[i] = true by simpa using c28, Bool.true_and]
        ·
          refine OK.exit rfl ?_
          refine Ab.D.code ?_
          refine OK.seq ?_
          refine OK.reg ?_
          refine RK.c (S.assign .none rfl .cbool) ?_
          refine RK.nil ?_
          refine Ab.D.code ?_
          refine OK.ret (Ret.r1 (.tmp rfl rfl (.c (.same rfl) rfl) rfl) ?_)
          first | (refine ret_b ?_; rw [shortRecs, decide_eq_false (by omega), Bool.false_and]; done) | (refine ret_b ?_; rw [shortRecs, hg, all_drop _ (by omega), show shortRec l[i] = false by simpa using c28, Bool.false_and, Bool.and_false]; done) | (refine ret_b ?_; rw [shortRecs, hg, show i = l.length by omega, List.drop_length, decide_eq_true (by omega)]; rfl)
  ·
    refine RK.c (S.skip rfl rfl rfl rfl rfl) ?_
    refine RK.c (S.skip rfl rfl rfl rfl rfl) ?_
    refine RK.c (S.skip rfl rfl rfl rfl rfl) ?_
    refine RK.c (S.pickF .none rfl (.tmp rfl rfl) .cbool rfl) ?_
    refine RK.c (S.move .none rfl (.tmp rfl rfl)) ?_
    refine RK.c (S.move (.yes rfl rfl rfl rfl) rfl (.tmp rfl rfl)) ?_
    refine RK.c (S.lenM si25 (.yes rfl rfl rfl rfl) rfl (.tmp rfl rfl)) ?_
    refine RK.c (S.gtr (.yes rfl rfl rfl rfl) rfl (.tmp rfl rfl) (.cint rfl)) ?_
    refine RK.c (S.pickF .none rfl (.tmp rfl rfl) (.tmp rfl rfl) rfl) ?_
    refine RK.nil ?_
    refine Ab.D.code ?_
    refine OK.condD rfl rfl (fun c16 => ?_) (fun c16 => ?_)
    ·
      refine OK.seq ?_
      refine OK.reg ?_
      refine RK.c (S.assign .none rfl .cbool) ?_
      refine RK.nil ?_
      refine Ab.D.code ?_
      refine OK.ret (Ret.r1 (.tmp rfl rfl (.c (.same rfl) rfl) rfl) ?_)
      first | (refine ret_b ?_; rw [shortRecs, decide_eq_false (by omega), Bool.false_and]; done) | (refine ret_b ?_; rw [shortRecs, hg, all_drop _ (by omega), show shortRec l[i] = false by simpa using c28, Bool.false_and, Bool.and_false]; done) | (refine ret_b ?_; rw [shortRecs, hg, show i = l.length by omega, List.drop_length, decide_eq_true (by omega)]; rfl)
    ·
      refine OK.skip ?_
      refine Ab.D.code ?_
      refine OK.seq ?_
      refine OK.seq ?_
      refine OK.reg ?_
      refine RK.c (S.assign .none rfl (.cint rfl)) ?_
      refine RK.nil ?_
      refine Ab.D.code ?_
      refine OK.block ?_
      refine OK.loop (G := Nat) [] (fun i => [(0, .sl (l.map Record.cs)), (3, .int .i64 i)]) (fun i => i ≤ l.length ∧ l.all shortRec = (l.drop i).all shortRec) (fun i => l.length - i) 0 ⟨Nat.zero_le _, rfl⟩ ⟨rfl, rfl, trivial⟩ (fun _ => rfl) ?_
      rintro i ⟨hi, hg⟩
      refine OK.seq ?_
      refine OK.seq ?_
      refine OK.reg ?_
      refine RK.c (S.move .none rfl (.tmp rfl rfl)) ?_
      refine RK.c (S.move .none rfl (.tmp rfl rfl)) ?_
      refine RK.c (S.lenM si25 .none rfl (.tmp rfl rfl)) ?_
      refine RK.c (S.lss .none rfl (.tmp rfl rfl) (.tmp rfl rfl)) ?_
      refine RK.nil ?_
      refine Ab.D.code ?_
      refine OK.condD rfl rfl (fun c20 => ?_) (fun c20 => ?_)
      ·
        refine OK.skip ?_
        refine Ab.D.code ?_
        refine OK.seq ?_
        refine OK.block ?_
        refine OK.seq ?_
        refine OK.reg ?_
        refine RK.c (S.move .none rfl (.tmp rfl rfl)) ?_
        refine RK.c (S.move .none rfl (.tmp rfl rfl)) ?_
        refine RK.c (S.indexM si25 .none rfl (.tmp rfl rfl) (.tmp rfl rfl) rfl (by omega) rfl) ?_
        refine RK.c (S.loadN ti51 .none rfl (.tmp rfl rfl) rfl rfl) ?_
        refine RK.c (S.call (law_shortRecord) Tryz.call26 .none rfl (.cons (.tmp rfl rfl) .nil) rfl) ?_
        refine RK.c (S.not .none rfl (.tmp rfl rfl)) ?_
        refine RK.nil ?_
        refine Ab.D.code ?_
        refine OK.cond rfl rfl (fun c28 => ?_) (fun c28 => ?_)
        ·
          refine OK.seq ?_
          refine OK.reg ?_
          refine RK.c (S.assign .none rfl .cbool) ?_
          refine RK.nil ?_
          refine Ab.D.code ?_
          refine OK.ret (Ret.r1 (.tmp rfl rfl (.c (.same rfl) rfl) rfl) ?_)
          first | (refine ret_b ?_; rw [shortRecs, decide_eq_false (by omega), Bool.false_and]; done) | (refine ret_b ?_; rw [shortRecs, hg, all_drop _ (by omega), show shortRec l[i] = false by simpa using c28, Bool.false_and, Bool.and_false]; done) | (refine ret_b ?_; rw [shortRecs, hg, show i = l.length by omega, List.drop_length, decide_eq_true (by omega)]; rfl)
        ·
          refine OK.skip ?_
          refine Ab.D.blk ?_
          refine Ab.D.code ?_
          refine OK.reg ?_
          refine RK.c (S.move .none rfl (.tmp rfl rfl)) ?_
          refine RK.c (S.add .none rfl (.tmp rfl rfl) (.cint rfl) (IntWalk.i64_in _ (by omega)) (IntWalk.i64_in _ (by omega))) ?_
          refine RK.c (S.assign .none rfl (.tmp rfl rfl)) ?_
          refine RK.nil ?_
          refine Ab.D.lp ⟨i + 1, ⟨by omega, ?_⟩, (by omega), rfl, rfl, trivial⟩
          rw [hg, all_drop _ (by omega), show shortRec l[i] = true by simpa using c28, Bool.true_and]
      ·
        refine OK.exit rfl ?_
        refine Ab.D.code ?_
        refine OK.seq ?_
        refine OK.reg ?_
        refine RK.c (S.assign .none rfl .cbool) ?_
        refine RK.nil ?_
        refine Ab.D.code ?_
        refine OK.ret (Ret.r1 (.tmp rfl rfl (.c (.same rfl) rfl) rfl) ?_)
        first | (refine ret_b ?_; rw [shortRecs, decide_eq_false (by omega), Bool.false_and]; done) | (refine ret_b ?_; rw [shortRecs, hg, all_drop _ (by omega), show shortRec l[i] = false by simpa using c28, Bool.false_and, Bool.and_false]; done) | (refine ret_b ?_; rw [shortRecs, hg, show i = l.length by omega, List.drop_length, decide_eq_true (by omega)]; rfl)

theorem law_MonitorEnvelopes {p : Plan} {x : LearnedX} : Ct Tryz.prog 3 [.agg p.cs, .agg x.cs] (.bool true) := by
  refine Ct.intro (rs := [.tmp 4]) Tryz.func3 rfl Tryz.ntmps3 Tryz.results3 rfl rfl rfl fun w h => ?_
  refine OK.seq ?_
  refine OK.reg ?_
  refine RK.c (S.box (k := 2) rfl .none rfl (.tmp rfl rfl) rfl) ?_
  refine RK.c (S.box (k := 3) rfl .none rfl (.tmp rfl rfl) rfl) ?_
  refine RK.c (S.assign .none rfl .cbool) ?_
  refine RK.nil ?_
  refine Ab.D.code ?_
  refine OK.seq ?_
  refine OK.seq ?_
  refine OK.reg ?_
  refine RK.c (S.call (law_awake) Tryz.call9 .none rfl .nil rfl) ?_
  refine RK.c (S.not .none rfl (.tmp rfl rfl)) ?_
  refine RK.nil ?_
  refine Ab.D.code ?_
  refine OK.condF rfl rfl rfl ?_
  refine OK.skip ?_
  refine Ab.D.code ?_
  refine OK.seq ?_
  refine OK.seq ?_
  refine OK.reg ?_
  refine RK.c (S.bloadN ti24 .none rfl (.tmp rfl rfl) rfl rfl rfl rfl) ?_
  refine RK.c (S.call (law_Few) Tryz.call10 .none rfl (.cons (.tmp rfl rfl) .nil) rfl) ?_
  refine RK.c (S.not .none rfl (.tmp rfl rfl)) ?_
  refine RK.c (S.move .none rfl (.tmp rfl rfl)) ?_
  refine RK.split (t := 13) rfl (fun g13 => ?_) (fun g13 => ?_)
  ·
    refine RK.c (S.skip rfl rfl rfl rfl rfl) ?_
    refine RK.c (S.skip rfl rfl rfl rfl rfl) ?_
    refine RK.c (S.skip rfl rfl rfl rfl rfl) ?_
    refine RK.c (S.skip rfl rfl rfl rfl rfl) ?_
    refine RK.c (S.pickT .none rfl (.tmp rfl rfl) .cbool rfl) ?_
    refine RK.nil ?_
    refine Ab.D.code ?_
    refine OK.condT rfl rfl rfl ?_
    refine OK.seq ?_
    refine OK.reg ?_
    refine RK.c (S.assign .none rfl .cbool) ?_
    refine RK.nil ?_
    refine Ab.D.code ?_
    refine OK.ret (Ret.r1 (.tmp rfl rfl (.c (.same rfl) rfl) rfl) ?_)
    first | rfl | (refine ret_dT ?_; exact hfin) | (refine ret_abs ?_; omega)
  ·
    refine RK.c (S.bfield fi27_0 (.yes rfl rfl rfl rfl) rfl (.tmp rfl rfl)) ?_
    refine RK.c (S.bload1 ti25 (.yes rfl rfl rfl rfl) rfl (.tmp rfl rfl) rfl rfl rfl rfl) ?_
    refine RK.c (S.call (law_shortRecords) Tryz.call11 (.yes rfl rfl rfl rfl) rfl (.cons (.tmp rfl rfl) .nil) rfl) ?_
    refine RK.c (S.not (.yes rfl rfl rfl rfl) rfl (.tmp rfl rfl)) ?_
    refine RK.c (S.pickF .none rfl (.tmp rfl rfl) (.tmp rfl rfl) rfl) ?_
    refine RK.nil ?_
    refine Ab.D.code ?_
    refine OK.cond rfl rfl (fun c18 => ?_) (fun c18 => ?_)
    ·
      refine OK.seq ?_
      refine OK.reg ?_
      refine RK.c (S.assign .none rfl .cbool) ?_
      refine RK.nil ?_
      refine Ab.D.code ?_
      refine OK.ret (Ret.r1 (.tmp rfl rfl (.c (.same rfl) rfl) rfl) ?_)
      first | rfl | (refine ret_dT ?_; exact hfin) | (refine ret_abs ?_; omega)
    ·
      have hF : fewT p = true := by simpa using g13
      have hS : shortRecs x.records = true := by simpa using c18
      have hp := few_len hF
      obtain ⟨hr1, hr2, hr3⟩ := shortRecs_len hS
      have hop : openRecs p x.records = if planErr p ≠ 0 then planErr p else recsErr p x.records := rfl
      have hev : envErr p x.records x.trim = if openRecs p x.records ≠ 0 then openRecs p x.records else trimErr x.trim x.records.length := rfl
      refine OK.skip ?_
      refine Ab.D.code ?_
      refine OK.seq ?_
      refine OK.regionDraw follows (.c (S.bloadN ti24 .none rfl (.tmp rfl rfl) rfl rfl rfl rfl)
        (.c (S.call (ref_CopyPlan (by omega)) Tryz.call13 .none rfl (.cons (.tmp rfl rfl) .nil) rfl)
        (.c (S.bfield fi27_0 .none rfl (.tmp rfl rfl))
        (.c (S.bload1 ti25 .none rfl (.tmp rfl rfl) rfl rfl rfl rfl)
        (.c (S.call (ref_CopyRecords (by omega) (fun i h => by have := hr2 i h; omega) (fun i h k h2 => by have := hr3 i h k h2; omega)) Tryz.call14 .none rfl (.cons (.tmp rfl rfl) .nil) rfl)
        (.c (S.bfield fi27_1 .none rfl (.tmp rfl rfl))
        (.c (S.bload1 ti3 .none rfl (.tmp rfl rfl) rfl rfl rfl rfl)
        (.c (S.call (mon_EnvelopeOf) Tryz.call12 .none rfl (.cons (.tmp rfl rfl) (.cons (.tmp rfl rfl) (.cons (.tmp rfl rfl) .nil))) rfl)
        (.c (S.move .none rfl (.tmp rfl rfl))
        (.c (S.extract .none rfl (.tmp rfl rfl) rfl rfl)
        (.c (S.extract .none rfl (.tmp rfl rfl) rfl rfl)
        (.c (S.alloc (k := 5) ze33 rfl .none rfl)
        (.c (S.store ti33 .none (.tmp rfl rfl) (.tmp rfl rfl) rfl rfl rfl rfl rfl rfl)
        (.c (S.assign .none rfl (.tmp rfl rfl))
        .nil)))))))))))))) (by kernel_rfl) ?_
      refine Ab.D.code ?_
      refine OK.seq ?_
      refine OK.reg ?_
      refine RK.c (S.bloadN ti24 .none rfl (.tmp rfl rfl) rfl rfl rfl rfl) ?_
      refine RK.c (S.call (ref_PlanErr) Tryz.call15 .none rfl (.cons (.tmp rfl rfl) .nil) rfl) ?_
      refine RK.c (S.assign .none rfl (.tmp rfl rfl)) ?_
      refine RK.nil ?_
      refine Ab.D.code ?_
      refine OK.seq ?_
      refine OK.seq ?_
      refine OK.reg ?_
      refine RK.c (S.move .none rfl (.tmp rfl rfl)) ?_
      refine RK.c (S.eql .none rfl (.tmp rfl rfl) (.cint rfl)) ?_
      refine RK.nil ?_
      refine Ab.D.code ?_
      refine OK.condD rfl rfl (fun c33 => ?_) (fun c33 => ?_)
      ·
        refine OK.reg ?_
        refine RK.c (S.bloadN ti24 .none rfl (.tmp rfl rfl) rfl rfl rfl rfl) ?_
        refine RK.c (S.bfield fi27_0 .none rfl (.tmp rfl rfl)) ?_
        refine RK.c (S.bload1 ti25 .none rfl (.tmp rfl rfl) rfl rfl rfl rfl) ?_
        refine RK.c (S.call (ref_RecordsErr c33) Tryz.call16 .none rfl (.cons (.tmp rfl rfl) (.cons (.tmp rfl rfl) .nil)) rfl) ?_
        refine RK.c (S.assign .none rfl (.tmp rfl rfl)) ?_
        refine RK.nil ?_
        refine Ab.D.code ?_
        refine OK.seq ?_
        refine OK.seq ?_
        refine OK.reg ?_
        refine RK.c (S.move .none rfl (.tmp rfl rfl)) ?_
        refine RK.c (S.eql .none rfl (.tmp rfl rfl) (.cint rfl)) ?_
        refine RK.nil ?_
        refine Ab.D.code ?_
        refine OK.condD rfl rfl (fun c39 => ?_) (fun c39 => ?_)
        ·
          refine OK.reg ?_
          refine RK.c (S.bfield fi27_1 .none rfl (.tmp rfl rfl)) ?_
          refine RK.c (S.bload1 ti3 .none rfl (.tmp rfl rfl) rfl rfl rfl rfl) ?_
          refine RK.c (S.bfield fi27_0 .none rfl (.tmp rfl rfl)) ?_
          refine RK.c (S.bload1 ti25 .none rfl (.tmp rfl rfl) rfl rfl rfl rfl) ?_
          refine RK.c (S.lenM si25 .none rfl (.tmp rfl rfl)) ?_
          refine RK.c (S.call (ref_TrimErr (by omega)) Tryz.call17 .none rfl (.cons (.tmp rfl rfl) (.cons (.tmp rfl rfl) .nil)) rfl) ?_
          refine RK.c (S.assign .none rfl (.tmp rfl rfl)) ?_
          refine RK.nil ?_
          refine Ab.D.code ?_
          refine OK.seq ?_
          refine OK.seq ?_
          refine OK.reg ?_
          refine RK.c (S.move .none rfl (.tmp rfl rfl)) ?_
          refine RK.c (S.neq .none rfl (.tmp rfl rfl) (.cint rfl)) ?_
          refine RK.nil ?_
          refine Ab.D.code ?_
          refine OK.condD rfl rfl (fun c47 => ?_) (fun c47 => ?_)
          ·
            have he : ¬ envErr p x.records x.trim = 0 := by omega
            have hfin : envOf p x.records x.trim = ⟨0, 0, []⟩ := by rw [envOf, if_neg he]
            refine OK.seq ?_
            refine OK.reg ?_
            refine RK.c (S.move .none rfl (.tmp rfl rfl)) ?_
            refine RK.c (S.move .none rfl (.tmp rfl rfl)) ?_
            refine RK.c (S.eql .none rfl (.tmp rfl rfl) (.tmp rfl rfl)) ?_
            refine RK.c (S.move .none rfl (.tmp rfl rfl)) ?_
            refine RK.splitD (t := 51) rfl (fun g51 => ?_) (fun g51 => ?_)
            ·
              refine RK.c (S.bloadN ti33 (.yes rfl rfl rfl rfl) rfl (.tmp rfl rfl) rfl rfl rfl rfl) ?_
              refine RK.c (S.build bu33 rfl (.yes rfl rfl rfl rfl) rfl .nil rfl rfl) ?_
              refine RK.c (S.callL (ref_SameEnvelope (a := envOf p x.records x.trim) (b := ⟨0, 0, []⟩)) Tryz.call18 (.yes rfl rfl rfl rfl) rfl (.cons (.tmp rfl rfl) (.cons (.tmp rfl rfl) .nil)) (.cons (.same rfl) (.cons (.agg (.cons (.same rfl) (.cons (.same rfl) (.cons .nils .nil))) rfl) .nil)) rfl) ?_
              refine RK.c (S.pickT .none rfl (.tmp rfl rfl) (.tmp rfl rfl) rfl) ?_
              refine RK.c (S.assign .none rfl (.tmp rfl rfl)) ?_
              refine RK.nil ?_
              refine Ab.D.code ?_
              refine OK.ret (Ret.r1 (.tmp rfl rfl (.c (.same rfl) rfl) rfl) ?_)
              first | rfl | (refine ret_dT ?_; exact hfin) | (refine ret_abs ?_; omega)
            ·
              refine RK.c (S.skip rfl rfl rfl rfl rfl) ?_
              refine RK.c (S.skip rfl rfl rfl rfl rfl) ?_
              refine RK.c (S.skip rfl rfl rfl rfl rfl) ?_
              refine RK.c (S.pickF .none rfl (.tmp rfl rfl) .cbool rfl) ?_
              refine RK.c (S.assign .none rfl (.tmp rfl rfl)) ?_
              refine RK.nil ?_
              refine Ab.D.code ?_
              refine OK.ret (Ret.r1 (.tmp rfl rfl (.c (.same rfl) rfl) rfl) ?_)
              first | rfl | (refine ret_dT ?_; exact hfin) | (refine ret_abs ?_; omega)
          ·
            have he : envErr p x.records x.trim = 0 := by omega
            have hop0 : openRecs p x.records = 0 := by omega
            obtain ⟨q1, q2, q3⟩ := openRecs_0 hop0
            have q4 : trimErr x.trim x.records.length = 0 := by omega
            have q5 := trimErr_0 (by omega) q4
            have hfin : envOf p x.records x.trim = envT p x.records x.trim := by rw [envOf, if_pos he]
            clear hop hev
            refine OK.skip ?_
            refine Ab.D.code ?_
            refine OK.seq ?_
            refine OK.regionDraw follows (.c (S.move .none rfl (.tmp rfl rfl))
              (.c (S.eql .none rfl (.tmp rfl rfl) (.cint rfl))
              (.c (S.move .none rfl (.tmp rfl rfl))
              (.c (S.bloadN ti33 (.yes rfl rfl rfl (by simp [*])) rfl (.tmp rfl rfl) rfl rfl rfl rfl)
              (.c (S.bloadN ti24 (.yes rfl rfl rfl (by simp [*])) rfl (.tmp rfl rfl) rfl rfl rfl rfl)
              (.c (S.bfield fi27_0 (.yes rfl rfl rfl (by simp [*])) rfl (.tmp rfl rfl))
              (.c (S.bload1 ti25 (.yes rfl rfl rfl (by simp [*])) rfl (.tmp rfl rfl) rfl rfl rfl rfl)
              (.c (S.bfield fi27_1 (.yes rfl rfl rfl (by simp [*])) rfl (.tmp rfl rfl))
              (.c (S.bload1 ti3 (.yes rfl rfl rfl (by simp [*])) rfl (.tmp rfl rfl) rfl rfl rfl rfl)
              (.c (S.call (ref_Envelope q1 ⟨by omega, by omega⟩ q3 q5) Tryz.call19 (.yes rfl rfl rfl (by simp [*])) rfl (.cons (.tmp rfl rfl) (.cons (.tmp rfl rfl) (.cons (.tmp rfl rfl) .nil))) rfl)
              (.c (S.call (ref_SameEnvelope) Tryz.call18 (.yes rfl rfl rfl (by simp [*])) rfl (.cons (.tmp rfl rfl) (.cons (.tmp rfl rfl) .nil)) rfl)
              (.c (S.pickT .none rfl (.tmp rfl rfl) (.tmp rfl rfl) (by simp [*]))
              (.c (S.assign .none rfl (.tmp rfl rfl))
              .nil))))))))))))) (by kernel_rfl) ?_
            refine Ab.D.code ?_
            refine OK.ret (Ret.r1 (.tmp rfl rfl (.c (.same rfl) rfl) rfl) ?_)
            first | rfl | (refine ret_dT ?_; exact hfin) | (refine ret_abs ?_; omega)
        ·
          refine OK.skip ?_
          refine Ab.D.code ?_
          refine OK.seq ?_
          refine OK.seq ?_
          refine OK.reg ?_
          refine RK.c (S.move .none rfl (.tmp rfl rfl)) ?_
          refine RK.c (S.neq .none rfl (.tmp rfl rfl) (.cint rfl)) ?_
          refine RK.nil ?_
          refine Ab.D.code ?_
          refine OK.condD rfl rfl (fun c47 => ?_) (fun c47 => ?_)
          ·
            have he : ¬ envErr p x.records x.trim = 0 := by omega
            have hfin : envOf p x.records x.trim = ⟨0, 0, []⟩ := by rw [envOf, if_neg he]
            refine OK.seq ?_
            refine OK.reg ?_
            refine RK.c (S.move .none rfl (.tmp rfl rfl)) ?_
            refine RK.c (S.move .none rfl (.tmp rfl rfl)) ?_
            refine RK.c (S.eql .none rfl (.tmp rfl rfl) (.tmp rfl rfl)) ?_
            refine RK.c (S.move .none rfl (.tmp rfl rfl)) ?_
            refine RK.splitD (t := 51) rfl (fun g51 => ?_) (fun g51 => ?_)
            ·
              refine RK.c (S.bloadN ti33 (.yes rfl rfl rfl rfl) rfl (.tmp rfl rfl) rfl rfl rfl rfl) ?_
              refine RK.c (S.build bu33 rfl (.yes rfl rfl rfl rfl) rfl .nil rfl rfl) ?_
              refine RK.c (S.callL (ref_SameEnvelope (a := envOf p x.records x.trim) (b := ⟨0, 0, []⟩)) Tryz.call18 (.yes rfl rfl rfl rfl) rfl (.cons (.tmp rfl rfl) (.cons (.tmp rfl rfl) .nil)) (.cons (.same rfl) (.cons (.agg (.cons (.same rfl) (.cons (.same rfl) (.cons .nils .nil))) rfl) .nil)) rfl) ?_
              refine RK.c (S.pickT .none rfl (.tmp rfl rfl) (.tmp rfl rfl) rfl) ?_
              refine RK.c (S.assign .none rfl (.tmp rfl rfl)) ?_
              refine RK.nil ?_
              refine Ab.D.code ?_
              refine OK.ret (Ret.r1 (.tmp rfl rfl (.c (.same rfl) rfl) rfl) ?_)
              first | rfl | (refine ret_dT ?_; exact hfin) | (refine ret_abs ?_; omega)
            ·
              refine RK.c (S.skip rfl rfl rfl rfl rfl) ?_
              refine RK.c (S.skip rfl rfl rfl rfl rfl) ?_
              refine RK.c (S.skip rfl rfl rfl rfl rfl) ?_
              refine RK.c (S.pickF .none rfl (.tmp rfl rfl) .cbool rfl) ?_
              refine RK.c (S.assign .none rfl (.tmp rfl rfl)) ?_
              refine RK.nil ?_
              refine Ab.D.code ?_
              refine OK.ret (Ret.r1 (.tmp rfl rfl (.c (.same rfl) rfl) rfl) ?_)
              first | rfl | (refine ret_dT ?_; exact hfin) | (refine ret_abs ?_; omega)
          ·
            have he : envErr p x.records x.trim = 0 := by omega
            have hop0 : openRecs p x.records = 0 := by omega
            obtain ⟨q1, q2, q3⟩ := openRecs_0 hop0
            have q4 : trimErr x.trim x.records.length = 0 := by omega
            have q5 := trimErr_0 (by omega) q4
            have hfin : envOf p x.records x.trim = envT p x.records x.trim := by rw [envOf, if_pos he]
            clear hop hev
            refine OK.skip ?_
            refine Ab.D.code ?_
            refine OK.seq ?_
            refine OK.regionDraw follows (.c (S.move .none rfl (.tmp rfl rfl))
              (.c (S.eql .none rfl (.tmp rfl rfl) (.cint rfl))
              (.c (S.move .none rfl (.tmp rfl rfl))
              (.c (S.bloadN ti33 (.yes rfl rfl rfl (by simp [*])) rfl (.tmp rfl rfl) rfl rfl rfl rfl)
              (.c (S.bloadN ti24 (.yes rfl rfl rfl (by simp [*])) rfl (.tmp rfl rfl) rfl rfl rfl rfl)
              (.c (S.bfield fi27_0 (.yes rfl rfl rfl (by simp [*])) rfl (.tmp rfl rfl))
              (.c (S.bload1 ti25 (.yes rfl rfl rfl (by simp [*])) rfl (.tmp rfl rfl) rfl rfl rfl rfl)
              (.c (S.bfield fi27_1 (.yes rfl rfl rfl (by simp [*])) rfl (.tmp rfl rfl))
              (.c (S.bload1 ti3 (.yes rfl rfl rfl (by simp [*])) rfl (.tmp rfl rfl) rfl rfl rfl rfl)
              (.c (S.call (ref_Envelope q1 ⟨by omega, by omega⟩ q3 q5) Tryz.call19 (.yes rfl rfl rfl (by simp [*])) rfl (.cons (.tmp rfl rfl) (.cons (.tmp rfl rfl) (.cons (.tmp rfl rfl) .nil))) rfl)
              (.c (S.call (ref_SameEnvelope) Tryz.call18 (.yes rfl rfl rfl (by simp [*])) rfl (.cons (.tmp rfl rfl) (.cons (.tmp rfl rfl) .nil)) rfl)
              (.c (S.pickT .none rfl (.tmp rfl rfl) (.tmp rfl rfl) (by simp [*]))
              (.c (S.assign .none rfl (.tmp rfl rfl))
              .nil))))))))))))) (by kernel_rfl) ?_
            refine Ab.D.code ?_
            refine OK.ret (Ret.r1 (.tmp rfl rfl (.c (.same rfl) rfl) rfl) ?_)
            first | rfl | (refine ret_dT ?_; exact hfin) | (refine ret_abs ?_; omega)
      ·
        refine OK.skip ?_
        refine Ab.D.code ?_
        refine OK.seq ?_
        refine OK.seq ?_
        refine OK.reg ?_
        refine RK.c (S.move .none rfl (.tmp rfl rfl)) ?_
        refine RK.c (S.eql .none rfl (.tmp rfl rfl) (.cint rfl)) ?_
        refine RK.nil ?_
        refine Ab.D.code ?_
        refine OK.condD rfl rfl (fun c39 => ?_) (fun c39 => ?_)
        ·
          refine OK.reg ?_
          refine RK.c (S.bfield fi27_1 .none rfl (.tmp rfl rfl)) ?_
          refine RK.c (S.bload1 ti3 .none rfl (.tmp rfl rfl) rfl rfl rfl rfl) ?_
          refine RK.c (S.bfield fi27_0 .none rfl (.tmp rfl rfl)) ?_
          refine RK.c (S.bload1 ti25 .none rfl (.tmp rfl rfl) rfl rfl rfl rfl) ?_
          refine RK.c (S.lenM si25 .none rfl (.tmp rfl rfl)) ?_
          refine RK.c (S.call (ref_TrimErr (by omega)) Tryz.call17 .none rfl (.cons (.tmp rfl rfl) (.cons (.tmp rfl rfl) .nil)) rfl) ?_
          refine RK.c (S.assign .none rfl (.tmp rfl rfl)) ?_
          refine RK.nil ?_
          refine Ab.D.code ?_
          refine OK.seq ?_
          refine OK.seq ?_
          refine OK.reg ?_
          refine RK.c (S.move .none rfl (.tmp rfl rfl)) ?_
          refine RK.c (S.neq .none rfl (.tmp rfl rfl) (.cint rfl)) ?_
          refine RK.nil ?_
          refine Ab.D.code ?_
          refine OK.condD rfl rfl (fun c47 => ?_) (fun c47 => ?_)
          ·
            have he : ¬ envErr p x.records x.trim = 0 := by omega
            have hfin : envOf p x.records x.trim = ⟨0, 0, []⟩ := by rw [envOf, if_neg he]
            refine OK.seq ?_
            refine OK.reg ?_
            refine RK.c (S.move .none rfl (.tmp rfl rfl)) ?_
            refine RK.c (S.move .none rfl (.tmp rfl rfl)) ?_
            refine RK.c (S.eql .none rfl (.tmp rfl rfl) (.tmp rfl rfl)) ?_
            refine RK.c (S.move .none rfl (.tmp rfl rfl)) ?_
            refine RK.splitD (t := 51) rfl (fun g51 => ?_) (fun g51 => ?_)
            ·
              refine RK.c (S.bloadN ti33 (.yes rfl rfl rfl rfl) rfl (.tmp rfl rfl) rfl rfl rfl rfl) ?_
              refine RK.c (S.build bu33 rfl (.yes rfl rfl rfl rfl) rfl .nil rfl rfl) ?_
              refine RK.c (S.callL (ref_SameEnvelope (a := envOf p x.records x.trim) (b := ⟨0, 0, []⟩)) Tryz.call18 (.yes rfl rfl rfl rfl) rfl (.cons (.tmp rfl rfl) (.cons (.tmp rfl rfl) .nil)) (.cons (.same rfl) (.cons (.agg (.cons (.same rfl) (.cons (.same rfl) (.cons .nils .nil))) rfl) .nil)) rfl) ?_
              refine RK.c (S.pickT .none rfl (.tmp rfl rfl) (.tmp rfl rfl) rfl) ?_
              refine RK.c (S.assign .none rfl (.tmp rfl rfl)) ?_
              refine RK.nil ?_
              refine Ab.D.code ?_
              refine OK.ret (Ret.r1 (.tmp rfl rfl (.c (.same rfl) rfl) rfl) ?_)
              first | rfl | (refine ret_dT ?_; exact hfin) | (refine ret_abs ?_; omega)
            ·
              refine RK.c (S.skip rfl rfl rfl rfl rfl) ?_
              refine RK.c (S.skip rfl rfl rfl rfl rfl) ?_
              refine RK.c (S.skip rfl rfl rfl rfl rfl) ?_
              refine RK.c (S.pickF .none rfl (.tmp rfl rfl) .cbool rfl) ?_
              refine RK.c (S.assign .none rfl (.tmp rfl rfl)) ?_
              refine RK.nil ?_
              refine Ab.D.code ?_
              refine OK.ret (Ret.r1 (.tmp rfl rfl (.c (.same rfl) rfl) rfl) ?_)
              first | rfl | (refine ret_dT ?_; exact hfin) | (refine ret_abs ?_; omega)
          ·
            have he : envErr p x.records x.trim = 0 := by omega
            have hop0 : openRecs p x.records = 0 := by omega
            obtain ⟨q1, q2, q3⟩ := openRecs_0 hop0
            have q4 : trimErr x.trim x.records.length = 0 := by omega
            have q5 := trimErr_0 (by omega) q4
            have hfin : envOf p x.records x.trim = envT p x.records x.trim := by rw [envOf, if_pos he]
            clear hop hev
            refine OK.skip ?_
            refine Ab.D.code ?_
            refine OK.seq ?_
            refine OK.regionDraw follows (.c (S.move .none rfl (.tmp rfl rfl))
              (.c (S.eql .none rfl (.tmp rfl rfl) (.cint rfl))
              (.c (S.move .none rfl (.tmp rfl rfl))
              (.c (S.bloadN ti33 (.yes rfl rfl rfl (by simp [*])) rfl (.tmp rfl rfl) rfl rfl rfl rfl)
              (.c (S.bloadN ti24 (.yes rfl rfl rfl (by simp [*])) rfl (.tmp rfl rfl) rfl rfl rfl rfl)
              (.c (S.bfield fi27_0 (.yes rfl rfl rfl (by simp [*])) rfl (.tmp rfl rfl))
              (.c (S.bload1 ti25 (.yes rfl rfl rfl (by simp [*])) rfl (.tmp rfl rfl) rfl rfl rfl rfl)
              (.c (S.bfield fi27_1 (.yes rfl rfl rfl (by simp [*])) rfl (.tmp rfl rfl))
              (.c (S.bload1 ti3 (.yes rfl rfl rfl (by simp [*])) rfl (.tmp rfl rfl) rfl rfl rfl rfl)
              (.c (S.call (ref_Envelope q1 ⟨by omega, by omega⟩ q3 q5) Tryz.call19 (.yes rfl rfl rfl (by simp [*])) rfl (.cons (.tmp rfl rfl) (.cons (.tmp rfl rfl) (.cons (.tmp rfl rfl) .nil))) rfl)
              (.c (S.call (ref_SameEnvelope) Tryz.call18 (.yes rfl rfl rfl (by simp [*])) rfl (.cons (.tmp rfl rfl) (.cons (.tmp rfl rfl) .nil)) rfl)
              (.c (S.pickT .none rfl (.tmp rfl rfl) (.tmp rfl rfl) (by simp [*]))
              (.c (S.assign .none rfl (.tmp rfl rfl))
              .nil))))))))))))) (by kernel_rfl) ?_
            refine Ab.D.code ?_
            refine OK.ret (Ret.r1 (.tmp rfl rfl (.c (.same rfl) rfl) rfl) ?_)
            first | rfl | (refine ret_dT ?_; exact hfin) | (refine ret_abs ?_; omega)
        ·
          refine OK.skip ?_
          refine Ab.D.code ?_
          refine OK.seq ?_
          refine OK.seq ?_
          refine OK.reg ?_
          refine RK.c (S.move .none rfl (.tmp rfl rfl)) ?_
          refine RK.c (S.neq .none rfl (.tmp rfl rfl) (.cint rfl)) ?_
          refine RK.nil ?_
          refine Ab.D.code ?_
          refine OK.condD rfl rfl (fun c47 => ?_) (fun c47 => ?_)
          ·
            have he : ¬ envErr p x.records x.trim = 0 := by omega
            have hfin : envOf p x.records x.trim = ⟨0, 0, []⟩ := by rw [envOf, if_neg he]
            refine OK.seq ?_
            refine OK.reg ?_
            refine RK.c (S.move .none rfl (.tmp rfl rfl)) ?_
            refine RK.c (S.move .none rfl (.tmp rfl rfl)) ?_
            refine RK.c (S.eql .none rfl (.tmp rfl rfl) (.tmp rfl rfl)) ?_
            refine RK.c (S.move .none rfl (.tmp rfl rfl)) ?_
            refine RK.splitD (t := 51) rfl (fun g51 => ?_) (fun g51 => ?_)
            ·
              refine RK.c (S.bloadN ti33 (.yes rfl rfl rfl rfl) rfl (.tmp rfl rfl) rfl rfl rfl rfl) ?_
              refine RK.c (S.build bu33 rfl (.yes rfl rfl rfl rfl) rfl .nil rfl rfl) ?_
              refine RK.c (S.callL (ref_SameEnvelope (a := envOf p x.records x.trim) (b := ⟨0, 0, []⟩)) Tryz.call18 (.yes rfl rfl rfl rfl) rfl (.cons (.tmp rfl rfl) (.cons (.tmp rfl rfl) .nil)) (.cons (.same rfl) (.cons (.agg (.cons (.same rfl) (.cons (.same rfl) (.cons .nils .nil))) rfl) .nil)) rfl) ?_
              refine RK.c (S.pickT .none rfl (.tmp rfl rfl) (.tmp rfl rfl) rfl) ?_
              refine RK.c (S.assign .none rfl (.tmp rfl rfl)) ?_
              refine RK.nil ?_
              refine Ab.D.code ?_
              refine OK.ret (Ret.r1 (.tmp rfl rfl (.c (.same rfl) rfl) rfl) ?_)
              first | rfl | (refine ret_dT ?_; exact hfin) | (refine ret_abs ?_; omega)
            ·
              refine RK.c (S.skip rfl rfl rfl rfl rfl) ?_
              refine RK.c (S.skip rfl rfl rfl rfl rfl) ?_
              refine RK.c (S.skip rfl rfl rfl rfl rfl) ?_
              refine RK.c (S.pickF .none rfl (.tmp rfl rfl) .cbool rfl) ?_
              refine RK.c (S.assign .none rfl (.tmp rfl rfl)) ?_
              refine RK.nil ?_
              refine Ab.D.code ?_
              refine OK.ret (Ret.r1 (.tmp rfl rfl (.c (.same rfl) rfl) rfl) ?_)
              first | rfl | (refine ret_dT ?_; exact hfin) | (refine ret_abs ?_; omega)
          ·
            have he : envErr p x.records x.trim = 0 := by omega
            have hop0 : openRecs p x.records = 0 := by omega
            obtain ⟨q1, q2, q3⟩ := openRecs_0 hop0
            have q4 : trimErr x.trim x.records.length = 0 := by omega
            have q5 := trimErr_0 (by omega) q4
            have hfin : envOf p x.records x.trim = envT p x.records x.trim := by rw [envOf, if_pos he]
            clear hop hev
            refine OK.skip ?_
            refine Ab.D.code ?_
            refine OK.seq ?_
            refine OK.regionDraw follows (.c (S.move .none rfl (.tmp rfl rfl))
              (.c (S.eql .none rfl (.tmp rfl rfl) (.cint rfl))
              (.c (S.move .none rfl (.tmp rfl rfl))
              (.c (S.bloadN ti33 (.yes rfl rfl rfl (by simp [*])) rfl (.tmp rfl rfl) rfl rfl rfl rfl)
              (.c (S.bloadN ti24 (.yes rfl rfl rfl (by simp [*])) rfl (.tmp rfl rfl) rfl rfl rfl rfl)
              (.c (S.bfield fi27_0 (.yes rfl rfl rfl (by simp [*])) rfl (.tmp rfl rfl))
              (.c (S.bload1 ti25 (.yes rfl rfl rfl (by simp [*])) rfl (.tmp rfl rfl) rfl rfl rfl rfl)
              (.c (S.bfield fi27_1 (.yes rfl rfl rfl (by simp [*])) rfl (.tmp rfl rfl))
              (.c (S.bload1 ti3 (.yes rfl rfl rfl (by simp [*])) rfl (.tmp rfl rfl) rfl rfl rfl rfl)
              (.c (S.call (ref_Envelope q1 ⟨by omega, by omega⟩ q3 q5) Tryz.call19 (.yes rfl rfl rfl (by simp [*])) rfl (.cons (.tmp rfl rfl) (.cons (.tmp rfl rfl) (.cons (.tmp rfl rfl) .nil))) rfl)
              (.c (S.call (ref_SameEnvelope) Tryz.call18 (.yes rfl rfl rfl (by simp [*])) rfl (.cons (.tmp rfl rfl) (.cons (.tmp rfl rfl) .nil)) rfl)
              (.c (S.pickT .none rfl (.tmp rfl rfl) (.tmp rfl rfl) (by simp [*]))
              (.c (S.assign .none rfl (.tmp rfl rfl))
              .nil))))))))))))) (by kernel_rfl) ?_
            refine Ab.D.code ?_
            refine OK.ret (Ret.r1 (.tmp rfl rfl (.c (.same rfl) rfl) rfl) ?_)
            first | rfl | (refine ret_dT ?_; exact hfin) | (refine ret_abs ?_; omega)

end Go.Proofs.YtfjldfkgjejpmaaGreat
