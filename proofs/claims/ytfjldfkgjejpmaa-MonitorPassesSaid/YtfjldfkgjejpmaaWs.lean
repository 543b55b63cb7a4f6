/-
  Passes: the parts that are spoilt, by the reference; the law.
-/
import Derived.Test.YtfjldfkgjejpmaaSh
import Derived.Test.YtfjldfkgjejpmaaWr
namespace Go.Proofs.Ytfjldfkgjejpmaa
open Go.Ab

/-- What is kept of a row that ascends ascends strictly. -/
theorem cmp_mem {d : Array Int} : ∀ (m : Nat) (x : Int), x ∈ Lib.compactUpTo d m ↔ ∃ j, j < m ∧ d[j]! = x
  | 0, x => by simp [Lib.compactUpTo]
  | m + 1, x => by
    rw [Lib.compactUpTo_succ, List.mem_append, cmp_mem m x]
    constructor
    · rintro (⟨j, h, rfl⟩ | h)
      · exact ⟨j, by omega, rfl⟩
      · split at h
        · rw [List.mem_singleton] at h
          exact ⟨m, by omega, h.symm⟩
        · cases h
    · rintro ⟨j, h, rfl⟩
      by_cases hj : j < m
      · exact .inl ⟨j, hj, rfl⟩
      · have : j = m := by omega
        subst this
        by_cases hk : Lib.keeps d j = true
        · exact .inr (by rw [if_pos hk]; exact List.mem_singleton.2 rfl)
        · simp only [Lib.keeps, decide_eq_true_eq, not_or, ne_eq, Decidable.not_not] at hk
          exact .inl ⟨j - 1, by omega, hk.2.symm⟩
theorem cmp_asc {d : Array Int} (hs : ∀ i j, i ≤ j → j < d.size → d[i]! ≤ d[j]!) : ∀ m, m ≤ d.size → (Lib.compactUpTo d m).Pairwise fun x y => x < y
  | 0, _ => by simp [Lib.compactUpTo]
  | m + 1, h => by
    rw [Lib.compactUpTo_succ, List.pairwise_append]
    refine ⟨cmp_asc hs m (by omega), by split <;> simp, fun x hx y hy => ?_⟩
    obtain ⟨j, hj, rfl⟩ := (cmp_mem m x).1 hx
    split at hy
    · rename_i hk
      rw [List.mem_singleton] at hy
      subst hy
      simp only [Lib.keeps, decide_eq_true_eq] at hk
      have h1 := hs j (m - 1) (by omega) (by omega)
      have h2 := hs (m - 1) m (by omega) (by omega)
      rcases hk with h0 | h0
      · omega
      · omega
    · cases hy
theorem sort_asc (l : List Int) : (l.mergeSort fun x y => decide (x ≤ y)).Pairwise (fun x y => x ≤ y) := by
  have := List.pairwise_mergeSort (le := fun x y : Int => decide (x ≤ y)) (by intro a b c h1 h2; simp only [decide_eq_true_eq] at *; omega) (by intro a b; simp only [Bool.or_eq_true, decide_eq_true_eq]; omega) l
  exact this.imp (by simp)
theorem arr_get {z : List Int} {j : Nat} (h : j < z.length) : z.toArray[j]! = z[j] := by simp [h]
/-- The parts that are spoilt: each once, ascending. -/
structure Spo (l : List Pass) (ticks sp : List Int) : Prop where
  asc : sp.Pairwise fun x y => x < y
  mem : ∀ v, v ∈ sp ↔ ∃ x ∈ l, hit ticks x = true ∧ x.part = v
  pos : ∀ x ∈ l, 0 ≤ x.part
  len : sp.length ≤ 30
theorem pass_pos {l : List Pass} (h : (passChk l).2 = 0) : ∀ x ∈ l, 0 ≤ x.part := by
  intro x hx
  obtain ⟨i, hi, rfl⟩ := List.getElem_of_mem hx
  have hl := each_take h
  rw [passChk, if_neg (by omega)] at h
  have := eachGo_all _ _ 0 h i hi
  unfold passErr at this
  split at this
  · cases this
  · omega
theorem spo_of {l : List Pass} (ticks : List Int) (h : (passChk l).2 = 0) : Spo l ticks (spoilt l ticks) where
  asc := by
    refine cmp_asc (fun i j h1 h2 => ?_) _ (by simp)
    have h2' : j < ((hits ticks l).mergeSort fun x y => decide (x ≤ y)).length := by simpa using h2
    rw [arr_get h2', arr_get (by omega)]
    rcases Nat.lt_or_ge i j with h3 | h3
    · exact List.pairwise_iff_getElem.1 (sort_asc (hits ticks l)) i j (by omega) h2' h3
    · have : i = j := by omega
      subst this
      exact Int.le_refl _
  mem := fun v => by
    unfold spoilt Lib.compact
    rw [cmp_mem]
    have e : (∃ x ∈ l, hit ticks x = true ∧ x.part = v) ↔ v ∈ (hits ticks l).mergeSort fun x y => decide (x ≤ y) := by
      rw [List.mem_mergeSort]
      simp only [hits, List.mem_map, List.mem_filter]
      constructor
      · rintro ⟨x, h1, h2, h3⟩; exact ⟨x, ⟨h1, h2⟩, h3⟩
      · rintro ⟨x, ⟨h1, h2⟩, h3⟩; exact ⟨x, h1, h2, h3⟩
    rw [e]
    constructor
    · rintro ⟨j, hj, rfl⟩
      rw [arr_get hj]
      exact List.getElem_mem hj
    · intro hv
      obtain ⟨j, hj, rfl⟩ := List.getElem_of_mem hv
      exact ⟨j, hj, arr_get hj⟩
  pos := pass_pos h
  len := by
    have h1 := compact_len ((hits ticks l).mergeSort fun x y => decide (x ≤ y))
    have h2 := hits_len ticks l l.length
    have h3 := each_take h
    rw [List.take_length] at h2
    rw [List.length_mergeSort] at h1
    unfold spoilt
    omega
/-- The last of the first n. -/
def lastOf (sp : List Int) (n : Nat) : Int := if n = 0 then -1 else sp.getD (n - 1) 0
/-- What the scan has found: the smallest hit that is greater than the last one. -/
def Scan (ticks : List Int) (last nxt : Int) (l : List Pass) : Prop :=
  (∀ x ∈ l, hit ticks x = true → x.part ≤ last ∨ (0 ≤ nxt ∧ nxt ≤ x.part)) ∧ (nxt = -1 ∨ (last < nxt ∧ 0 ≤ nxt ∧ ∃ x ∈ l, hit ticks x = true ∧ x.part = nxt))
def selK (ticks : List Int) (x : Pass) (nxt : Int) (k : Nat) : Int := if ((ticks.take k).any fun n => decide (x.frm ≤ n ∧ n ≤ x.til)) = true then x.part else nxt
theorem sel_T {ticks : List Int} {x : Pass} {nxt : Int} {k : Nat} (h : k < ticks.length) (hh : x.frm ≤ ticks[k] ∧ ticks[k] ≤ x.til) : x.part = selK ticks x nxt (k + 1) := by
  rw [selK, if_pos]
  rw [← take_snoc h, List.any_append, Bool.or_eq_true]
  exact .inr (by simpa using hh)
theorem sel_F {ticks : List Int} {x : Pass} {nxt : Int} {k : Nat} (h : k < ticks.length) (hh : ¬ (x.frm ≤ ticks[k] ∧ ticks[k] ≤ x.til)) : selK ticks x nxt k = selK ticks x nxt (k + 1) := by
  unfold selK
  rw [← take_snoc h, List.any_append, List.any_cons, List.any_nil, decide_eq_false hh, Bool.or_false, Bool.or_false]
theorem scan_nil (ticks : List Int) (last : Int) (l : List Pass) : Scan ticks last (-1) (l.take 0) := ⟨fun x hx => by simp at hx, .inl rfl⟩
theorem mem_snoc {α : Type} {l : List α} {i : Nat} (h : i < l.length) {x : α} : x ∈ l.take (i + 1) ↔ x ∈ l.take i ∨ x = l[i] := by rw [← take_snoc h, List.mem_append, List.mem_singleton]
theorem scan_skip {ticks : List Int} {last nxt : Int} {l : List Pass} {i : Nat} (h : i < l.length) (hs : Scan ticks last nxt (l.take i)) (hk : l[i].part ≤ last ∨ (0 ≤ nxt ∧ nxt ≤ l[i].part)) : Scan ticks last nxt (l.take (i + 1)) := by
  refine ⟨fun x hx hh => ?_, hs.2.imp id ?_⟩
  · rcases (mem_snoc h).1 hx with hx | rfl
    · exact hs.1 x hx hh
    · exact hk
  · rintro ⟨h1, h2, x, hx, h3⟩
    exact ⟨h1, h2, x, (mem_snoc h).2 (.inl hx), h3⟩
theorem scan_take {ticks : List Int} {last nxt : Int} {l : List Pass} {i : Nat} (h : i < l.length) (hp : 0 ≤ l[i].part) (hs : Scan ticks last nxt (l.take i)) (hk : ¬ l[i].part ≤ last) (hn : 0 ≤ nxt → l[i].part < nxt) : Scan ticks last (selK ticks l[i] nxt ticks.length) (l.take (i + 1)) := by
  unfold selK
  rw [List.take_length]
  by_cases hh : hit ticks l[i] = true
  · have hh2 := hh
    unfold hit at hh2
    rw [if_pos hh2]
    refine ⟨fun x hx h1 => ?_, .inr ⟨by omega, hp, l[i], (mem_snoc h).2 (.inr rfl), hh, rfl⟩⟩
    rcases (mem_snoc h).1 hx with hx | rfl
    · rcases hs.1 x hx h1 with h2 | h2
      · exact .inl h2
      · have := hn h2.1
        exact .inr ⟨hp, by omega⟩
    · exact .inr ⟨hp, Int.le_refl _⟩
  · have hh2 := hh
    unfold hit at hh2
    rw [if_neg hh2]
    refine ⟨fun x hx h1 => ?_, hs.2.imp id ?_⟩
    · rcases (mem_snoc h).1 hx with hx | rfl
      · exact hs.1 x hx h1
      · exact absurd h1 hh
    · rintro ⟨h1, h2, x, hx, h3⟩
      exact ⟨h1, h2, x, (mem_snoc h).2 (.inl hx), h3⟩
theorem spo_last {l : List Pass} {ticks sp : List Int} (hsp : Spo l ticks sp) {n : Nat} (h : n < sp.length) : lastOf sp n < sp[n] := by
  unfold lastOf
  split
  · obtain ⟨x, hx, _, e⟩ := (hsp.mem _).1 (List.getElem_mem h)
    have := hsp.pos x hx
    omega
  · rw [getD_at (by omega)]
    exact List.pairwise_iff_getElem.1 hsp.asc (n - 1) n (by omega) h (by omega)
theorem scan_none {l : List Pass} {ticks sp : List Int} (hsp : Spo l ticks sp) {n : Nat} (hn : n ≤ sp.length) {nxt : Int} (hs : Scan ticks (lastOf sp n) nxt l) (h : nxt < 0) : n = sp.length := by
  rcases Nat.lt_or_ge n sp.length with h1 | h1
  · obtain ⟨x, hx, hh, e⟩ := (hsp.mem _).1 (List.getElem_mem h1)
    have h2 := spo_last hsp h1
    rcases hs.1 x hx hh with h3 | h3 <;> omega
  · omega
theorem scan_some {l : List Pass} {ticks sp : List Int} (hsp : Spo l ticks sp) {n : Nat} (hn : n ≤ sp.length) {nxt : Int} (hs : Scan ticks (lastOf sp n) nxt l) (h : ¬ nxt < 0) : ∃ h : n < sp.length, sp[n] = nxt := by
  rcases hs.2 with h1 | ⟨h1, _, x, hx, hh, e⟩
  · omega
  · obtain ⟨m, hm, em⟩ := List.getElem_of_mem ((hsp.mem nxt).2 ⟨x, hx, hh, e⟩)
    have hp := List.pairwise_iff_getElem.1 hsp.asc
    have hnm : n ≤ m := by
      rcases Nat.lt_or_ge m n with h2 | h2
      · exfalso
        unfold lastOf at h1
        rw [if_neg (by omega), getD_at (by omega)] at h1
        rcases Nat.lt_or_ge m (n - 1) with h3 | h3
        · have := hp m (n - 1) hm (by omega) h3
          omega
        · have : m = n - 1 := by omega
          subst this
          omega
      · exact h2
    refine ⟨by omega, ?_⟩
    have h2 := spo_last hsp (show n < sp.length by omega)
    obtain ⟨y, hy, hyh, ey⟩ := (hsp.mem _).1 (List.getElem_mem (show n < sp.length by omega))
    rcases Nat.lt_or_ge n m with h3 | h3
    · have h4 := hp n m (by omega) hm h3
      rcases hs.1 y hy hyh with h5 | h5 <;> omega
    · have : n = m := by omega
      subst this
      exact em
theorem flat_ints (l : List Int) : (l.map fun n => [X.int .i64 n]).flatten = l.map (X.int .i64) := by
  induction l with
  | nil => rfl
  | cons a l ih => rw [List.map_cons, List.flatten_cons, ih]; rfl
theorem last_u {sp : List Int} {n : Nat} (h0 : 0 < n) (hn : n ≤ sp.length) : ((sp.take n).map fun n => [X.int .i64 n]).flatten[(n - 1) * 1]? = some (.int .i64 (lastOf sp n)) := by
  rw [flat_ints, lastOf, if_neg (by omega), getD_at (by omega), Nat.mul_one, List.getElem?_map, List.getElem?_take, if_pos (by omega), List.getElem?_eq_getElem (by omega)]
  rfl
theorem last_0 {sp : List Int} {l : List Pass} {ticks : List Int} (hsp : Spo l ticks sp) {n i : Nat} (hn : ¬ 0 < n) (hi : i < l.length) : ¬ l[i].part ≤ lastOf sp n := by
  have := hsp.pos _ (List.getElem_mem hi)
  rw [lastOf, if_pos (by omega)]
  omega
theorem sp_err (l : List Pass) (ticks : List Int) : spoiltErr l ticks = if (passChk l).2 = 0 then ticksErr ticks else (passChk l).2 := by
  unfold spoiltErr ticksErr
  rw [firstE3, List.all_eq_not_any_not]
  by_cases h : (passChk l).2 = 0
  · rw [if_neg (by omega), if_pos h]
    by_cases h2 : 30 < ticks.length
    · rw [if_pos h2, unlessE_not (by omega)]
      rfl
    · rw [if_neg h2, unlessE_of (by omega), if_neg (by omega)]
      unfold unlessE
      rfl
  · rw [if_pos h, if_neg h]

theorem ref_Spoilt {l : List Pass} {ticks : List Int} (hp : (passChk l).2 = 0) : Ct Try.prog 17 [.sl (l.map Pass.cs), ints ticks] (ints (spoilt l ticks)) := by
  refine Ct.intro (rs := [.tmp 4]) Try.func17 rfl Try.ntmps17 Try.results17 rfl rfl rfl fun w h => ?_
  have hl := each_take hp
  have hsp0 := spo_of ticks hp
  refine OK.slLen (rows := ticks.map fun n => [.int .i64 n]) (t := 1) rfl rfl fun htl => ?_
  rw [List.length_map] at htl
  unfold maxLen at htl
  generalize spoilt l ticks = sp at hsp0 ⊢
  have hsp : Spo l ticks sp := hsp0
  have hsl := hsp.len
  refine OK.seq ?_
  refine OK.reg ?_
  refine RK.c (S.assign .none rfl .cnil) ?_
  refine RK.nil ?_
  refine Ab.D.code ?_
  refine OK.seq ?_
  refine OK.reg ?_
  refine RK.c (S.nilOwn (k := 5) (sz := 1) .none rfl) ?_
  refine RK.nil ?_
  refine Ab.D.code ?_
  refine OK.block ?_
  refine OK.loop (G := Nat) [5] (fun n => [(0, .sl (l.map Pass.cs)), (1, ints ticks), (5, .own 5 n), (2005, .arr 1 ((sp.take n).map fun n => [.int .i64 n]))]) (fun n => n ≤ sp.length) (fun n => sp.length - n) 0 (Nat.zero_le _) ⟨rfl, rfl, (lk_own (by first | rfl | (simp; done) | (simp; omega))), (lk_arr (by first | rfl | (simp; done) | (simp; omega))), trivial⟩ (fun _ => rfl) ?_
  rintro n hn
  refine OK.block ?_
  refine OK.seq ?_
  refine OK.reg ?_
  refine RK.c (S.assign .none rfl (.cint rfl)) ?_
  refine RK.nil ?_
  refine Ab.D.code ?_
  refine OK.seq ?_
  refine OK.seq ?_
  refine OK.reg ?_
  refine RK.c (S.assign .none rfl (.cint rfl)) ?_
  refine RK.nil ?_
  refine Ab.D.code ?_
  refine OK.block ?_
  refine OK.loop2 [5] (fun (i : Nat) (nxt : Int) => [(0, .sl (l.map Pass.cs)), (1, ints ticks), (5, .own 5 n), (2005, .arr 1 ((sp.take n).map fun n => [.int .i64 n])), (6, .int .i64 nxt), (7, .int .i64 i)]) (fun i nxt => i ≤ l.length ∧ Scan ticks (lastOf sp n) nxt (l.take i)) (fun i nxt => l.length - i) (0) (-1) ⟨Nat.zero_le _, scan_nil _ _ _⟩ ⟨rfl, rfl, (lk_own (by first | rfl | (simp; done) | (simp; omega))), (lk_arr (by first | rfl | (simp; done) | (simp; omega))), rfl, rfl, trivial⟩ (fun _ _ => rfl) ?_
  rintro i nxt ⟨hi, hs⟩
  refine OK.seq ?_
  refine OK.seq ?_
  refine OK.reg ?_
  refine RK.c (S.move .none rfl (.tmp rfl rfl)) ?_
  refine RK.c (S.move .none rfl (.tmp rfl rfl)) ?_
  refine RK.c (S.lenM si22 .none rfl (.tmp rfl rfl)) ?_
  refine RK.c (S.lss .none rfl (.tmp rfl rfl) (.tmp rfl rfl)) ?_
  refine RK.nil ?_
  refine Ab.D.code ?_
  refine OK.condD rfl rfl (fun c12 => ?_) (fun c12 => ?_)
  ·
    have hpi := hsp.pos _ (List.getElem_mem (show i < l.length by omega))
    refine OK.skip ?_
    refine Ab.D.code ?_
    refine OK.seq ?_
    refine OK.block ?_
    refine OK.seq ?_
    refine OK.seq ?_
    by_cases g18 : 0 < n
    ·
      by_cases g32 : l[i].part ≤ lastOf sp n
      ·
        by_cases g35 : 0 ≤ nxt
        ·
          refine OK.regionDraw follows (.c (S.move .none rfl (.tmp rfl rfl))
            (.c (S.lenOwn si23 .none rfl (.tmp rfl rfl) rfl (by simp; omega))
            (.c (S.gtr .none rfl (.tmp rfl rfl) (.cint rfl))
            (.c (S.move .none rfl (.tmp rfl rfl))
            (.c (S.move (.yes rfl rfl rfl (by simp [*])) rfl (.tmp rfl rfl))
            (.c (S.move (.yes rfl rfl rfl (by simp [*])) rfl (.tmp rfl rfl))
            (.c (S.indexM si22 (.yes rfl rfl rfl (by simp [*])) rfl (.tmp rfl rfl) (.tmp rfl rfl) rfl (by omega) rfl)
            (.c (S.field fi108_0 (.yes rfl rfl rfl (by simp [*])) rfl (.tmp rfl rfl) rfl)
            (.c (S.load1 ti3 (.yes rfl rfl rfl (by simp [*])) rfl (.tmp rfl rfl) rfl)
            (.c (S.move (.yes rfl rfl rfl (by simp [*])) rfl (.tmp rfl rfl))
            (.c (S.move (.yes rfl rfl rfl (by simp [*])) rfl (.tmp rfl rfl))
            (.c (S.lenOwn si23 (.yes rfl rfl rfl (by simp [*])) rfl (.tmp rfl rfl) rfl (by simp; omega))
            (.c (S.sub (.yes rfl rfl rfl (by simp [*])) rfl (.tmp rfl rfl) (.cint rfl) (IntWalk.i64_in _ (by omega)) (IntWalk.i64_in _ (by omega)))
            (.c (S.oindex (i := (n - 1)) si23 (.yes rfl rfl rfl (by simp [*])) rfl (.tmp rfl rfl) rfl (by simp; omega) (.tmp rfl rfl) (by omega) (by omega))
            (.c (S.oload1 (u := (.int .i64 (lastOf sp n))) ti3 (.yes rfl rfl rfl (by simp [*])) rfl (.tmp rfl rfl) rfl (by simp; omega) (last_u g18 hn))
            (.c (S.leq (.yes rfl rfl rfl (by simp [*])) rfl (.tmp rfl rfl) (.tmp rfl rfl))
            (.c (S.pickT .none rfl (.tmp rfl rfl) (.tmp rfl rfl) (by simp [*]))
            (.c (S.move .none rfl (.tmp rfl rfl))
            (.c (S.skip rfl rfl rfl (by simp [*]) rfl)
            (.c (S.skip rfl rfl rfl (by simp [*]) rfl)
            (.c (S.skip rfl rfl rfl (by simp [*]) rfl)
            (.c (S.skipU rfl rfl rfl rfl)
            (.c (S.skipU rfl rfl rfl rfl)
            (.c (S.skipU rfl rfl rfl rfl)
            (.c (S.skipU rfl rfl rfl rfl)
            (.c (S.skipU rfl rfl rfl rfl)
            (.c (S.skipU rfl rfl rfl rfl)
            (.c (S.skipU rfl rfl rfl rfl)
            (.c (S.skip rfl rfl rfl (by simp [*]) rfl)
            (.c (S.pickT .none rfl (.tmp rfl rfl) .cbool (by simp [*]))
            .nil)))))))))))))))))))))))))))))) (by kernel_rfl) ?_
          refine Ab.D.code ?_
          refine OK.condT rfl rfl rfl ?_
          refine OK.exit rfl ?_
          refine Ab.D.code ?_
          refine OK.reg ?_
          refine RK.c (S.move .none rfl (.tmp rfl rfl)) ?_
          refine RK.c (S.add .none rfl (.tmp rfl rfl) (.cint rfl) (IntWalk.i64_in _ (by omega)) (IntWalk.i64_in _ (by omega))) ?_
          refine RK.c (S.assign .none rfl (.tmp rfl rfl)) ?_
          refine RK.nil ?_
          refine Ab.D.lp ⟨i + 1, nxt, ⟨by omega, ?_⟩, (by omega), rfl, rfl, (lk_own (by first | rfl | (simp; done) | (simp; omega))), (lk_arr (by first | rfl | (simp; done) | (simp; omega))), rfl, rfl, trivial⟩
          exact scan_skip (by omega) hs (.inl g32)
        ·
          refine OK.regionDraw follows (.c (S.move .none rfl (.tmp rfl rfl))
            (.c (S.lenOwn si23 .none rfl (.tmp rfl rfl) rfl (by simp; omega))
            (.c (S.gtr .none rfl (.tmp rfl rfl) (.cint rfl))
            (.c (S.move .none rfl (.tmp rfl rfl))
            (.c (S.move (.yes rfl rfl rfl (by simp [*])) rfl (.tmp rfl rfl))
            (.c (S.move (.yes rfl rfl rfl (by simp [*])) rfl (.tmp rfl rfl))
            (.c (S.indexM si22 (.yes rfl rfl rfl (by simp [*])) rfl (.tmp rfl rfl) (.tmp rfl rfl) rfl (by omega) rfl)
            (.c (S.field fi108_0 (.yes rfl rfl rfl (by simp [*])) rfl (.tmp rfl rfl) rfl)
            (.c (S.load1 ti3 (.yes rfl rfl rfl (by simp [*])) rfl (.tmp rfl rfl) rfl)
            (.c (S.move (.yes rfl rfl rfl (by simp [*])) rfl (.tmp rfl rfl))
            (.c (S.move (.yes rfl rfl rfl (by simp [*])) rfl (.tmp rfl rfl))
            (.c (S.lenOwn si23 (.yes rfl rfl rfl (by simp [*])) rfl (.tmp rfl rfl) rfl (by simp; omega))
            (.c (S.sub (.yes rfl rfl rfl (by simp [*])) rfl (.tmp rfl rfl) (.cint rfl) (IntWalk.i64_in _ (by omega)) (IntWalk.i64_in _ (by omega)))
            (.c (S.oindex (i := (n - 1)) si23 (.yes rfl rfl rfl (by simp [*])) rfl (.tmp rfl rfl) rfl (by simp; omega) (.tmp rfl rfl) (by omega) (by omega))
            (.c (S.oload1 (u := (.int .i64 (lastOf sp n))) ti3 (.yes rfl rfl rfl (by simp [*])) rfl (.tmp rfl rfl) rfl (by simp; omega) (last_u g18 hn))
            (.c (S.leq (.yes rfl rfl rfl (by simp [*])) rfl (.tmp rfl rfl) (.tmp rfl rfl))
            (.c (S.pickT .none rfl (.tmp rfl rfl) (.tmp rfl rfl) (by simp [*]))
            (.c (S.move .none rfl (.tmp rfl rfl))
            (.c (S.skip rfl rfl rfl (by simp [*]) rfl)
            (.c (S.skip rfl rfl rfl (by simp [*]) rfl)
            (.c (S.skip rfl rfl rfl (by simp [*]) rfl)
            (.c (S.skipU rfl rfl rfl rfl)
            (.c (S.skipU rfl rfl rfl rfl)
            (.c (S.skipU rfl rfl rfl rfl)
            (.c (S.skipU rfl rfl rfl rfl)
            (.c (S.skipU rfl rfl rfl rfl)
            (.c (S.skipU rfl rfl rfl rfl)
            (.c (S.skipU rfl rfl rfl rfl)
            (.c (S.skip rfl rfl rfl (by simp [*]) rfl)
            (.c (S.pickT .none rfl (.tmp rfl rfl) .cbool (by simp [*]))
            .nil)))))))))))))))))))))))))))))) (by kernel_rfl) ?_
          refine Ab.D.code ?_
          refine OK.condT rfl rfl rfl ?_
          refine OK.exit rfl ?_
          refine Ab.D.code ?_
          refine OK.reg ?_
          refine RK.c (S.move .none rfl (.tmp rfl rfl)) ?_
          refine RK.c (S.add .none rfl (.tmp rfl rfl) (.cint rfl) (IntWalk.i64_in _ (by omega)) (IntWalk.i64_in _ (by omega))) ?_
          refine RK.c (S.assign .none rfl (.tmp rfl rfl)) ?_
          refine RK.nil ?_
          refine Ab.D.lp ⟨i + 1, nxt, ⟨by omega, ?_⟩, (by omega), rfl, rfl, (lk_own (by first | rfl | (simp; done) | (simp; omega))), (lk_arr (by first | rfl | (simp; done) | (simp; omega))), rfl, rfl, trivial⟩
          exact scan_skip (by omega) hs (.inl g32)
      ·
        by_cases g35 : 0 ≤ nxt
        ·
          refine OK.regionDraw follows (.c (S.move .none rfl (.tmp rfl rfl))
            (.c (S.lenOwn si23 .none rfl (.tmp rfl rfl) rfl (by simp; omega))
            (.c (S.gtr .none rfl (.tmp rfl rfl) (.cint rfl))
            (.c (S.move .none rfl (.tmp rfl rfl))
            (.c (S.move (.yes rfl rfl rfl (by simp [*])) rfl (.tmp rfl rfl))
            (.c (S.move (.yes rfl rfl rfl (by simp [*])) rfl (.tmp rfl rfl))
            (.c (S.indexM si22 (.yes rfl rfl rfl (by simp [*])) rfl (.tmp rfl rfl) (.tmp rfl rfl) rfl (by omega) rfl)
            (.c (S.field fi108_0 (.yes rfl rfl rfl (by simp [*])) rfl (.tmp rfl rfl) rfl)
            (.c (S.load1 ti3 (.yes rfl rfl rfl (by simp [*])) rfl (.tmp rfl rfl) rfl)
            (.c (S.move (.yes rfl rfl rfl (by simp [*])) rfl (.tmp rfl rfl))
            (.c (S.move (.yes rfl rfl rfl (by simp [*])) rfl (.tmp rfl rfl))
            (.c (S.lenOwn si23 (.yes rfl rfl rfl (by simp [*])) rfl (.tmp rfl rfl) rfl (by simp; omega))
            (.c (S.sub (.yes rfl rfl rfl (by simp [*])) rfl (.tmp rfl rfl) (.cint rfl) (IntWalk.i64_in _ (by omega)) (IntWalk.i64_in _ (by omega)))
            (.c (S.oindex (i := (n - 1)) si23 (.yes rfl rfl rfl (by simp [*])) rfl (.tmp rfl rfl) rfl (by simp; omega) (.tmp rfl rfl) (by omega) (by omega))
            (.c (S.oload1 (u := (.int .i64 (lastOf sp n))) ti3 (.yes rfl rfl rfl (by simp [*])) rfl (.tmp rfl rfl) rfl (by simp; omega) (last_u g18 hn))
            (.c (S.leq (.yes rfl rfl rfl (by simp [*])) rfl (.tmp rfl rfl) (.tmp rfl rfl))
            (.c (S.pickT .none rfl (.tmp rfl rfl) (.tmp rfl rfl) (by simp [*]))
            (.c (S.move .none rfl (.tmp rfl rfl))
            (.c (S.move (.yes rfl rfl rfl (by simp [*])) rfl (.tmp rfl rfl))
            (.c (S.geq (.yes rfl rfl rfl (by simp [*])) rfl (.tmp rfl rfl) (.cint rfl))
            (.c (S.move (.yes rfl rfl rfl (by simp [*])) rfl (.tmp rfl rfl))
            (.c (S.move (.yes rfl rfl rfl (by simp [*])) rfl (.tmp rfl rfl))
            (.c (S.move (.yes rfl rfl rfl (by simp [*])) rfl (.tmp rfl rfl))
            (.c (S.indexM si22 (.yes rfl rfl rfl (by simp [*])) rfl (.tmp rfl rfl) (.tmp rfl rfl) rfl (by omega) rfl)
            (.c (S.field fi108_0 (.yes rfl rfl rfl (by simp [*])) rfl (.tmp rfl rfl) rfl)
            (.c (S.load1 ti3 (.yes rfl rfl rfl (by simp [*])) rfl (.tmp rfl rfl) rfl)
            (.c (S.move (.yes rfl rfl rfl (by simp [*])) rfl (.tmp rfl rfl))
            (.c (S.geq (.yes rfl rfl rfl (by simp [*])) rfl (.tmp rfl rfl) (.tmp rfl rfl))
            (.c (S.pickT (.yes rfl rfl rfl (by simp [*])) rfl (.tmp rfl rfl) (.tmp rfl rfl) (by simp [*]))
            (.c (S.pickF .none rfl (.tmp rfl rfl) (.tmp rfl rfl) (by simp [*]))
            .nil)))))))))))))))))))))))))))))) (by kernel_rfl) ?_
          refine Ab.D.code ?_
          refine OK.condD rfl rfl (fun c44 => ?_) (fun c44 => ?_)
          ·
            refine OK.exit rfl ?_
            refine Ab.D.code ?_
            refine OK.reg ?_
            refine RK.c (S.move .none rfl (.tmp rfl rfl)) ?_
            refine RK.c (S.add .none rfl (.tmp rfl rfl) (.cint rfl) (IntWalk.i64_in _ (by omega)) (IntWalk.i64_in _ (by omega))) ?_
            refine RK.c (S.assign .none rfl (.tmp rfl rfl)) ?_
            refine RK.nil ?_
            refine Ab.D.lp ⟨i + 1, nxt, ⟨by omega, ?_⟩, (by omega), rfl, rfl, (lk_own (by first | rfl | (simp; done) | (simp; omega))), (lk_arr (by first | rfl | (simp; done) | (simp; omega))), rfl, rfl, trivial⟩
            exact scan_skip (by omega) hs (.inr ⟨g35, by omega⟩)
          ·
            refine OK.skip ?_
            refine Ab.D.code ?_
            refine OK.seq ?_
            refine OK.reg ?_
            refine RK.c (S.assign .none rfl (.cint rfl)) ?_
            refine RK.nil ?_
            refine Ab.D.code ?_
            refine OK.block ?_
            refine OK.loop (G := Nat) [5] (fun k => [(0, .sl (l.map Pass.cs)), (1, ints ticks), (5, .own 5 n), (2005, .arr 1 ((sp.take n).map fun n => [.int .i64 n])), (6, .int .i64 (selK ticks l[i] nxt k)), (7, .int .i64 i), (8, .int .i64 k)]) (fun k => k ≤ ticks.length) (fun k => ticks.length - k) 0 (Nat.zero_le _) ⟨rfl, rfl, (lk_own (by first | rfl | (simp; done) | (simp; omega))), (lk_arr (by first | rfl | (simp; done) | (simp; omega))), rfl, rfl, rfl, trivial⟩ (fun _ => rfl) ?_
            rintro k hk
            refine OK.seq ?_
            refine OK.seq ?_
            refine OK.reg ?_
            refine RK.c (S.move .none rfl (.tmp rfl rfl)) ?_
            refine RK.c (S.move .none rfl (.tmp rfl rfl)) ?_
            refine RK.c (S.lenM si23 .none rfl (.tmp rfl rfl)) ?_
            refine RK.c (S.lss .none rfl (.tmp rfl rfl) (.tmp rfl rfl)) ?_
            refine RK.nil ?_
            refine Ab.D.code ?_
            refine OK.condD rfl rfl (fun c48 => ?_) (fun c48 => ?_)
            ·
              refine OK.skip ?_
              refine Ab.D.code ?_
              refine OK.seq ?_
              refine OK.block ?_
              refine OK.seq ?_
              refine OK.regionDraw follows (.c (S.move .none rfl (.tmp rfl rfl))
                (.c (S.move .none rfl (.tmp rfl rfl))
                (.c (S.indexM si23 .none rfl (.tmp rfl rfl) (.tmp rfl rfl) rfl (by omega) rfl)
                (.c (S.load1 ti3 .none rfl (.tmp rfl rfl) rfl)
                (.c (S.move .none rfl (.tmp rfl rfl))
                (.c (S.move .none rfl (.tmp rfl rfl))
                (.c (S.indexM si22 .none rfl (.tmp rfl rfl) (.tmp rfl rfl) rfl (by omega) rfl)
                (.c (S.field fi108_1 .none rfl (.tmp rfl rfl) rfl)
                (.c (S.load1 ti3 .none rfl (.tmp rfl rfl) rfl)
                (.c (S.move .none rfl (.tmp rfl rfl))
                (.c (S.move .none rfl (.tmp rfl rfl))
                (.c (S.indexM si22 .none rfl (.tmp rfl rfl) (.tmp rfl rfl) rfl (by omega) rfl)
                (.c (S.field fi108_2 .none rfl (.tmp rfl rfl) rfl)
                (.c (S.load1 ti3 .none rfl (.tmp rfl rfl) rfl)
                (.c (S.call (base_Within) Try.call45 .none rfl (.cons (.tmp rfl rfl) (.cons (.tmp rfl rfl) (.cons (.tmp rfl rfl) .nil))) rfl)
                .nil))))))))))))))) (by kernel_rfl) ?_
              refine Ab.D.code ?_
              refine OK.condD rfl rfl (fun c65 => ?_) (fun c65 => ?_)
              ·
                refine OK.reg ?_
                refine RK.c (S.move .none rfl (.tmp rfl rfl)) ?_
                refine RK.c (S.move .none rfl (.tmp rfl rfl)) ?_
                refine RK.c (S.indexM si22 .none rfl (.tmp rfl rfl) (.tmp rfl rfl) rfl (by omega) rfl) ?_
                refine RK.c (S.field fi108_0 .none rfl (.tmp rfl rfl) rfl) ?_
                refine RK.c (S.load1 ti3 .none rfl (.tmp rfl rfl) rfl) ?_
                refine RK.c (S.assign .none rfl (.tmp rfl rfl)) ?_
                refine RK.nil ?_
                refine Ab.D.blk ?_
                refine Ab.D.code ?_
                refine OK.reg ?_
                refine RK.c (S.move .none rfl (.tmp rfl rfl)) ?_
                refine RK.c (S.add .none rfl (.tmp rfl rfl) (.cint rfl) (IntWalk.i64_in _ (by omega)) (IntWalk.i64_in _ (by omega))) ?_
                refine RK.c (S.assign .none rfl (.tmp rfl rfl)) ?_
                refine RK.nil ?_
                refine Ab.D.lp ⟨k + 1, (by omega), (by omega), rfl, rfl, (lk_own (by first | rfl | (simp; done) | (simp; omega))), (lk_arr (by first | rfl | (simp; done) | (simp; omega))), (lk_int (by first | exact sel_T (by omega) c65 | exact sel_F (by omega) c65)), rfl, rfl, trivial⟩
              ·
                refine OK.skip ?_
                refine Ab.D.blk ?_
                refine Ab.D.code ?_
                refine OK.reg ?_
                refine RK.c (S.move .none rfl (.tmp rfl rfl)) ?_
                refine RK.c (S.add .none rfl (.tmp rfl rfl) (.cint rfl) (IntWalk.i64_in _ (by omega)) (IntWalk.i64_in _ (by omega))) ?_
                refine RK.c (S.assign .none rfl (.tmp rfl rfl)) ?_
                refine RK.nil ?_
                refine Ab.D.lp ⟨k + 1, (by omega), (by omega), rfl, rfl, (lk_own (by first | rfl | (simp; done) | (simp; omega))), (lk_arr (by first | rfl | (simp; done) | (simp; omega))), (lk_int (by first | exact sel_T (by omega) c65 | exact sel_F (by omega) c65)), rfl, rfl, trivial⟩
            ·
              refine OK.exit rfl ?_
              refine Ab.D.blk ?_
              refine Ab.D.code ?_
              refine OK.reg ?_
              refine RK.c (S.move .none rfl (.tmp rfl rfl)) ?_
              refine RK.c (S.add .none rfl (.tmp rfl rfl) (.cint rfl) (IntWalk.i64_in _ (by omega)) (IntWalk.i64_in _ (by omega))) ?_
              refine RK.c (S.assign .none rfl (.tmp rfl rfl)) ?_
              refine RK.nil ?_
              refine Ab.D.lp ⟨i + 1, selK ticks l[i] nxt k, ⟨by omega, ?_⟩, (by omega), rfl, rfl, (lk_own (by first | rfl | (simp; done) | (simp; omega))), (lk_arr (by first | rfl | (simp; done) | (simp; omega))), rfl, rfl, trivial⟩
              rw [show k = ticks.length by omega]
              first | exact scan_take (by omega) hpi hs (last_0 hsp g18 (by omega)) (fun h => by omega) | exact scan_take (by omega) hpi hs g32 (fun h => by omega)
        ·
          refine OK.regionDraw follows (.c (S.move .none rfl (.tmp rfl rfl))
            (.c (S.lenOwn si23 .none rfl (.tmp rfl rfl) rfl (by simp; omega))
            (.c (S.gtr .none rfl (.tmp rfl rfl) (.cint rfl))
            (.c (S.move .none rfl (.tmp rfl rfl))
            (.c (S.move (.yes rfl rfl rfl (by simp [*])) rfl (.tmp rfl rfl))
            (.c (S.move (.yes rfl rfl rfl (by simp [*])) rfl (.tmp rfl rfl))
            (.c (S.indexM si22 (.yes rfl rfl rfl (by simp [*])) rfl (.tmp rfl rfl) (.tmp rfl rfl) rfl (by omega) rfl)
            (.c (S.field fi108_0 (.yes rfl rfl rfl (by simp [*])) rfl (.tmp rfl rfl) rfl)
            (.c (S.load1 ti3 (.yes rfl rfl rfl (by simp [*])) rfl (.tmp rfl rfl) rfl)
            (.c (S.move (.yes rfl rfl rfl (by simp [*])) rfl (.tmp rfl rfl))
            (.c (S.move (.yes rfl rfl rfl (by simp [*])) rfl (.tmp rfl rfl))
            (.c (S.lenOwn si23 (.yes rfl rfl rfl (by simp [*])) rfl (.tmp rfl rfl) rfl (by simp; omega))
            (.c (S.sub (.yes rfl rfl rfl (by simp [*])) rfl (.tmp rfl rfl) (.cint rfl) (IntWalk.i64_in _ (by omega)) (IntWalk.i64_in _ (by omega)))
            (.c (S.oindex (i := (n - 1)) si23 (.yes rfl rfl rfl (by simp [*])) rfl (.tmp rfl rfl) rfl (by simp; omega) (.tmp rfl rfl) (by omega) (by omega))
            (.c (S.oload1 (u := (.int .i64 (lastOf sp n))) ti3 (.yes rfl rfl rfl (by simp [*])) rfl (.tmp rfl rfl) rfl (by simp; omega) (last_u g18 hn))
            (.c (S.leq (.yes rfl rfl rfl (by simp [*])) rfl (.tmp rfl rfl) (.tmp rfl rfl))
            (.c (S.pickT .none rfl (.tmp rfl rfl) (.tmp rfl rfl) (by simp [*]))
            (.c (S.move .none rfl (.tmp rfl rfl))
            (.c (S.move (.yes rfl rfl rfl (by simp [*])) rfl (.tmp rfl rfl))
            (.c (S.geq (.yes rfl rfl rfl (by simp [*])) rfl (.tmp rfl rfl) (.cint rfl))
            (.c (S.move (.yes rfl rfl rfl (by simp [*])) rfl (.tmp rfl rfl))
            (.c (S.skip rfl rfl rfl (by simp [*]) rfl)
            (.c (S.skip rfl rfl rfl (by simp [*]) rfl)
            (.c (S.skip rfl rfl rfl (by simp [*]) rfl)
            (.c (S.skip rfl rfl rfl (by simp [*]) rfl)
            (.c (S.skip rfl rfl rfl (by simp [*]) rfl)
            (.c (S.skip rfl rfl rfl (by simp [*]) rfl)
            (.c (S.skip rfl rfl rfl (by simp [*]) rfl)
            (.c (S.pickF (.yes rfl rfl rfl (by simp [*])) rfl (.tmp rfl rfl) .cbool (by simp [*]))
            (.c (S.pickF .none rfl (.tmp rfl rfl) (.tmp rfl rfl) (by simp [*]))
            .nil)))))))))))))))))))))))))))))) (by kernel_rfl) ?_
          refine Ab.D.code ?_
          refine OK.condF rfl rfl rfl ?_
          refine OK.skip ?_
          refine Ab.D.code ?_
          refine OK.seq ?_
          refine OK.reg ?_
          refine RK.c (S.assign .none rfl (.cint rfl)) ?_
          refine RK.nil ?_
          refine Ab.D.code ?_
          refine OK.block ?_
          refine OK.loop (G := Nat) [5] (fun k => [(0, .sl (l.map Pass.cs)), (1, ints ticks), (5, .own 5 n), (2005, .arr 1 ((sp.take n).map fun n => [.int .i64 n])), (6, .int .i64 (selK ticks l[i] nxt k)), (7, .int .i64 i), (8, .int .i64 k)]) (fun k => k ≤ ticks.length) (fun k => ticks.length - k) 0 (Nat.zero_le _) ⟨rfl, rfl, (lk_own (by first | rfl | (simp; done) | (simp; omega))), (lk_arr (by first | rfl | (simp; done) | (simp; omega))), rfl, rfl, rfl, trivial⟩ (fun _ => rfl) ?_
          rintro k hk
          refine OK.seq ?_
          refine OK.seq ?_
          refine OK.reg ?_
          refine RK.c (S.move .none rfl (.tmp rfl rfl)) ?_
          refine RK.c (S.move .none rfl (.tmp rfl rfl)) ?_
          refine RK.c (S.lenM si23 .none rfl (.tmp rfl rfl)) ?_
          refine RK.c (S.lss .none rfl (.tmp rfl rfl) (.tmp rfl rfl)) ?_
          refine RK.nil ?_
          refine Ab.D.code ?_
          refine OK.condD rfl rfl (fun c48 => ?_) (fun c48 => ?_)
          ·
            refine OK.skip ?_
            refine Ab.D.code ?_
            refine OK.seq ?_
            refine OK.block ?_
            refine OK.seq ?_
            refine OK.regionDraw follows (.c (S.move .none rfl (.tmp rfl rfl))
              (.c (S.move .none rfl (.tmp rfl rfl))
              (.c (S.indexM si23 .none rfl (.tmp rfl rfl) (.tmp rfl rfl) rfl (by omega) rfl)
              (.c (S.load1 ti3 .none rfl (.tmp rfl rfl) rfl)
              (.c (S.move .none rfl (.tmp rfl rfl))
              (.c (S.move .none rfl (.tmp rfl rfl))
              (.c (S.indexM si22 .none rfl (.tmp rfl rfl) (.tmp rfl rfl) rfl (by omega) rfl)
              (.c (S.field fi108_1 .none rfl (.tmp rfl rfl) rfl)
              (.c (S.load1 ti3 .none rfl (.tmp rfl rfl) rfl)
              (.c (S.move .none rfl (.tmp rfl rfl))
              (.c (S.move .none rfl (.tmp rfl rfl))
              (.c (S.indexM si22 .none rfl (.tmp rfl rfl) (.tmp rfl rfl) rfl (by omega) rfl)
              (.c (S.field fi108_2 .none rfl (.tmp rfl rfl) rfl)
              (.c (S.load1 ti3 .none rfl (.tmp rfl rfl) rfl)
              (.c (S.call (base_Within) Try.call45 .none rfl (.cons (.tmp rfl rfl) (.cons (.tmp rfl rfl) (.cons (.tmp rfl rfl) .nil))) rfl)
              .nil))))))))))))))) (by kernel_rfl) ?_
            refine Ab.D.code ?_
            refine OK.condD rfl rfl (fun c65 => ?_) (fun c65 => ?_)
            ·
              refine OK.reg ?_
              refine RK.c (S.move .none rfl (.tmp rfl rfl)) ?_
              refine RK.c (S.move .none rfl (.tmp rfl rfl)) ?_
              refine RK.c (S.indexM si22 .none rfl (.tmp rfl rfl) (.tmp rfl rfl) rfl (by omega) rfl) ?_
              refine RK.c (S.field fi108_0 .none rfl (.tmp rfl rfl) rfl) ?_
              refine RK.c (S.load1 ti3 .none rfl (.tmp rfl rfl) rfl) ?_
              refine RK.c (S.assign .none rfl (.tmp rfl rfl)) ?_
              refine RK.nil ?_
              refine Ab.D.blk ?_
              refine Ab.D.code ?_
              refine OK.reg ?_
              refine RK.c (S.move .none rfl (.tmp rfl rfl)) ?_
              refine RK.c (S.add .none rfl (.tmp rfl rfl) (.cint rfl) (IntWalk.i64_in _ (by omega)) (IntWalk.i64_in _ (by omega))) ?_
              refine RK.c (S.assign .none rfl (.tmp rfl rfl)) ?_
              refine RK.nil ?_
              refine Ab.D.lp ⟨k + 1, (by omega), (by omega), rfl, rfl, (lk_own (by first | rfl | (simp; done) | (simp; omega))), (lk_arr (by first | rfl | (simp; done) | (simp; omega))), (lk_int (by first | exact sel_T (by omega) c65 | exact sel_F (by omega) c65)), rfl, rfl, trivial⟩
            ·
              refine OK.skip ?_
              refine Ab.D.blk ?_
              refine Ab.D.code ?_
              refine OK.reg ?_
              refine RK.c (S.move .none rfl (.tmp rfl rfl)) ?_
              refine RK.c (S.add .none rfl (.tmp rfl rfl) (.cint rfl) (IntWalk.i64_in _ (by omega)) (IntWalk.i64_in _ (by omega))) ?_
              refine RK.c (S.assign .none rfl (.tmp rfl rfl)) ?_
              refine RK.nil ?_
              refine Ab.D.lp ⟨k + 1, (by omega), (by omega), rfl, rfl, (lk_own (by first | rfl | (simp; done) | (simp; omega))), (lk_arr (by first | rfl | (simp; done) | (simp; omega))), (lk_int (by first | exact sel_T (by omega) c65 | exact sel_F (by omega) c65)), rfl, rfl, trivial⟩
          ·
            refine OK.exit rfl ?_
            refine Ab.D.blk ?_
            refine Ab.D.code ?_
            refine OK.reg ?_
            refine RK.c (S.move .none rfl (.tmp rfl rfl)) ?_
            refine RK.c (S.add .none rfl (.tmp rfl rfl) (.cint rfl) (IntWalk.i64_in _ (by omega)) (IntWalk.i64_in _ (by omega))) ?_
            refine RK.c (S.assign .none rfl (.tmp rfl rfl)) ?_
            refine RK.nil ?_
            refine Ab.D.lp ⟨i + 1, selK ticks l[i] nxt k, ⟨by omega, ?_⟩, (by omega), rfl, rfl, (lk_own (by first | rfl | (simp; done) | (simp; omega))), (lk_arr (by first | rfl | (simp; done) | (simp; omega))), rfl, rfl, trivial⟩
            rw [show k = ticks.length by omega]
            first | exact scan_take (by omega) hpi hs (last_0 hsp g18 (by omega)) (fun h => by omega) | exact scan_take (by omega) hpi hs g32 (fun h => by omega)
    ·
      by_cases g35 : 0 ≤ nxt
      ·
        refine OK.regionDraw follows (.c (S.move .none rfl (.tmp rfl rfl))
          (.c (S.lenOwn si23 .none rfl (.tmp rfl rfl) rfl (by simp; omega))
          (.c (S.gtr .none rfl (.tmp rfl rfl) (.cint rfl))
          (.c (S.move .none rfl (.tmp rfl rfl))
          (.c (S.skip rfl rfl rfl (by simp [*]) rfl)
          (.c (S.skip rfl rfl rfl (by simp [*]) rfl)
          (.c (S.skip rfl rfl rfl (by simp [*]) rfl)
          (.c (S.skip rfl rfl rfl (by simp [*]) rfl)
          (.c (S.skip rfl rfl rfl (by simp [*]) rfl)
          (.c (S.skip rfl rfl rfl (by simp [*]) rfl)
          (.c (S.skip rfl rfl rfl (by simp [*]) rfl)
          (.c (S.skip rfl rfl rfl (by simp [*]) rfl)
          (.c (S.skip rfl rfl rfl (by simp [*]) rfl)
          (.c (S.skip rfl rfl rfl (by simp [*]) rfl)
          (.c (S.skip rfl rfl rfl (by simp [*]) rfl)
          (.c (S.skip rfl rfl rfl (by simp [*]) rfl)
          (.c (S.pickF .none rfl (.tmp rfl rfl) .cbool (by simp [*]))
          (.c (S.move .none rfl (.tmp rfl rfl))
          (.c (S.move (.yes rfl rfl rfl (by simp [*])) rfl (.tmp rfl rfl))
          (.c (S.geq (.yes rfl rfl rfl (by simp [*])) rfl (.tmp rfl rfl) (.cint rfl))
          (.c (S.move (.yes rfl rfl rfl (by simp [*])) rfl (.tmp rfl rfl))
          (.c (S.move (.yes rfl rfl rfl (by simp [*])) rfl (.tmp rfl rfl))
          (.c (S.move (.yes rfl rfl rfl (by simp [*])) rfl (.tmp rfl rfl))
          (.c (S.indexM si22 (.yes rfl rfl rfl (by simp [*])) rfl (.tmp rfl rfl) (.tmp rfl rfl) rfl (by omega) rfl)
          (.c (S.field fi108_0 (.yes rfl rfl rfl (by simp [*])) rfl (.tmp rfl rfl) rfl)
          (.c (S.load1 ti3 (.yes rfl rfl rfl (by simp [*])) rfl (.tmp rfl rfl) rfl)
          (.c (S.move (.yes rfl rfl rfl (by simp [*])) rfl (.tmp rfl rfl))
          (.c (S.geq (.yes rfl rfl rfl (by simp [*])) rfl (.tmp rfl rfl) (.tmp rfl rfl))
          (.c (S.pickT (.yes rfl rfl rfl (by simp [*])) rfl (.tmp rfl rfl) (.tmp rfl rfl) (by simp [*]))
          (.c (S.pickF .none rfl (.tmp rfl rfl) (.tmp rfl rfl) (by simp [*]))
          .nil)))))))))))))))))))))))))))))) (by kernel_rfl) ?_
        refine Ab.D.code ?_
        refine OK.condD rfl rfl (fun c44 => ?_) (fun c44 => ?_)
        ·
          refine OK.exit rfl ?_
          refine Ab.D.code ?_
          refine OK.reg ?_
          refine RK.c (S.move .none rfl (.tmp rfl rfl)) ?_
          refine RK.c (S.add .none rfl (.tmp rfl rfl) (.cint rfl) (IntWalk.i64_in _ (by omega)) (IntWalk.i64_in _ (by omega))) ?_
          refine RK.c (S.assign .none rfl (.tmp rfl rfl)) ?_
          refine RK.nil ?_
          refine Ab.D.lp ⟨i + 1, nxt, ⟨by omega, ?_⟩, (by omega), rfl, rfl, (lk_own (by first | rfl | (simp; done) | (simp; omega))), (lk_arr (by first | rfl | (simp; done) | (simp; omega))), rfl, rfl, trivial⟩
          exact scan_skip (by omega) hs (.inr ⟨g35, by omega⟩)
        ·
          refine OK.skip ?_
          refine Ab.D.code ?_
          refine OK.seq ?_
          refine OK.reg ?_
          refine RK.c (S.assign .none rfl (.cint rfl)) ?_
          refine RK.nil ?_
          refine Ab.D.code ?_
          refine OK.block ?_
          refine OK.loop (G := Nat) [5] (fun k => [(0, .sl (l.map Pass.cs)), (1, ints ticks), (5, .own 5 n), (2005, .arr 1 ((sp.take n).map fun n => [.int .i64 n])), (6, .int .i64 (selK ticks l[i] nxt k)), (7, .int .i64 i), (8, .int .i64 k)]) (fun k => k ≤ ticks.length) (fun k => ticks.length - k) 0 (Nat.zero_le _) ⟨rfl, rfl, (lk_own (by first | rfl | (simp; done) | (simp; omega))), (lk_arr (by first | rfl | (simp; done) | (simp; omega))), rfl, rfl, rfl, trivial⟩ (fun _ => rfl) ?_
          rintro k hk
          refine OK.seq ?_
          refine OK.seq ?_
          refine OK.reg ?_
          refine RK.c (S.move .none rfl (.tmp rfl rfl)) ?_
          refine RK.c (S.move .none rfl (.tmp rfl rfl)) ?_
          refine RK.c (S.lenM si23 .none rfl (.tmp rfl rfl)) ?_
          refine RK.c (S.lss .none rfl (.tmp rfl rfl) (.tmp rfl rfl)) ?_
          refine RK.nil ?_
          refine Ab.D.code ?_
          refine OK.condD rfl rfl (fun c48 => ?_) (fun c48 => ?_)
          ·
            refine OK.skip ?_
            refine Ab.D.code ?_
            refine OK.seq ?_
            refine OK.block ?_
            refine OK.seq ?_
            refine OK.regionDraw follows (.c (S.move .none rfl (.tmp rfl rfl))
              (.c (S.move .none rfl (.tmp rfl rfl))
              (.c (S.indexM si23 .none rfl (.tmp rfl rfl) (.tmp rfl rfl) rfl (by omega) rfl)
              (.c (S.load1 ti3 .none rfl (.tmp rfl rfl) rfl)
              (.c (S.move .none rfl (.tmp rfl rfl))
              (.c (S.move .none rfl (.tmp rfl rfl))
              (.c (S.indexM si22 .none rfl (.tmp rfl rfl) (.tmp rfl rfl) rfl (by omega) rfl)
              (.c (S.field fi108_1 .none rfl (.tmp rfl rfl) rfl)
              (.c (S.load1 ti3 .none rfl (.tmp rfl rfl) rfl)
              (.c (S.move .none rfl (.tmp rfl rfl))
              (.c (S.move .none rfl (.tmp rfl rfl))
              (.c (S.indexM si22 .none rfl (.tmp rfl rfl) (.tmp rfl rfl) rfl (by omega) rfl)
              (.c (S.field fi108_2 .none rfl (.tmp rfl rfl) rfl)
              (.c (S.load1 ti3 .none rfl (.tmp rfl rfl) rfl)
              (.c (S.call (base_Within) Try.call45 .none rfl (.cons (.tmp rfl rfl) (.cons (.tmp rfl rfl) (.cons (.tmp rfl rfl) .nil))) rfl)
              .nil))))))))))))))) (by kernel_rfl) ?_
            refine Ab.D.code ?_
            refine OK.condD rfl rfl (fun c65 => ?_) (fun c65 => ?_)
            ·
              refine OK.reg ?_
              refine RK.c (S.move .none rfl (.tmp rfl rfl)) ?_
              refine RK.c (S.move .none rfl (.tmp rfl rfl)) ?_
              refine RK.c (S.indexM si22 .none rfl (.tmp rfl rfl) (.tmp rfl rfl) rfl (by omega) rfl) ?_
              refine RK.c (S.field fi108_0 .none rfl (.tmp rfl rfl) rfl) ?_
              refine RK.c (S.load1 ti3 .none rfl (.tmp rfl rfl) rfl) ?_
              refine RK.c (S.assign .none rfl (.tmp rfl rfl)) ?_
              refine RK.nil ?_
              refine Ab.D.blk ?_
              refine Ab.D.code ?_
              refine OK.reg ?_
              refine RK.c (S.move .none rfl (.tmp rfl rfl)) ?_
              refine RK.c (S.add .none rfl (.tmp rfl rfl) (.cint rfl) (IntWalk.i64_in _ (by omega)) (IntWalk.i64_in _ (by omega))) ?_
              refine RK.c (S.assign .none rfl (.tmp rfl rfl)) ?_
              refine RK.nil ?_
              refine Ab.D.lp ⟨k + 1, (by omega), (by omega), rfl, rfl, (lk_own (by first | rfl | (simp; done) | (simp; omega))), (lk_arr (by first | rfl | (simp; done) | (simp; omega))), (lk_int (by first | exact sel_T (by omega) c65 | exact sel_F (by omega) c65)), rfl, rfl, trivial⟩
            ·
              refine OK.skip ?_
              refine Ab.D.blk ?_
              refine Ab.D.code ?_
              refine OK.reg ?_
              refine RK.c (S.move .none rfl (.tmp rfl rfl)) ?_
              refine RK.c (S.add .none rfl (.tmp rfl rfl) (.cint rfl) (IntWalk.i64_in _ (by omega)) (IntWalk.i64_in _ (by omega))) ?_
              refine RK.c (S.assign .none rfl (.tmp rfl rfl)) ?_
              refine RK.nil ?_
              refine Ab.D.lp ⟨k + 1, (by omega), (by omega), rfl, rfl, (lk_own (by first | rfl | (simp; done) | (simp; omega))), (lk_arr (by first | rfl | (simp; done) | (simp; omega))), (lk_int (by first | exact sel_T (by omega) c65 | exact sel_F (by omega) c65)), rfl, rfl, trivial⟩
          ·
            refine OK.exit rfl ?_
            refine Ab.D.blk ?_
            refine Ab.D.code ?_
            refine OK.reg ?_
            refine RK.c (S.move .none rfl (.tmp rfl rfl)) ?_
            refine RK.c (S.add .none rfl (.tmp rfl rfl) (.cint rfl) (IntWalk.i64_in _ (by omega)) (IntWalk.i64_in _ (by omega))) ?_
            refine RK.c (S.assign .none rfl (.tmp rfl rfl)) ?_
            refine RK.nil ?_
            refine Ab.D.lp ⟨i + 1, selK ticks l[i] nxt k, ⟨by omega, ?_⟩, (by omega), rfl, rfl, (lk_own (by first | rfl | (simp; done) | (simp; omega))), (lk_arr (by first | rfl | (simp; done) | (simp; omega))), rfl, rfl, trivial⟩
            rw [show k = ticks.length by omega]
            first | exact scan_take (by omega) hpi hs (last_0 hsp g18 (by omega)) (fun h => by omega) | exact scan_take (by omega) hpi hs g32 (fun h => by omega)
      ·
        refine OK.regionDraw follows (.c (S.move .none rfl (.tmp rfl rfl))
          (.c (S.lenOwn si23 .none rfl (.tmp rfl rfl) rfl (by simp; omega))
          (.c (S.gtr .none rfl (.tmp rfl rfl) (.cint rfl))
          (.c (S.move .none rfl (.tmp rfl rfl))
          (.c (S.skip rfl rfl rfl (by simp [*]) rfl)
          (.c (S.skip rfl rfl rfl (by simp [*]) rfl)
          (.c (S.skip rfl rfl rfl (by simp [*]) rfl)
          (.c (S.skip rfl rfl rfl (by simp [*]) rfl)
          (.c (S.skip rfl rfl rfl (by simp [*]) rfl)
          (.c (S.skip rfl rfl rfl (by simp [*]) rfl)
          (.c (S.skip rfl rfl rfl (by simp [*]) rfl)
          (.c (S.skip rfl rfl rfl (by simp [*]) rfl)
          (.c (S.skip rfl rfl rfl (by simp [*]) rfl)
          (.c (S.skip rfl rfl rfl (by simp [*]) rfl)
          (.c (S.skip rfl rfl rfl (by simp [*]) rfl)
          (.c (S.skip rfl rfl rfl (by simp [*]) rfl)
          (.c (S.pickF .none rfl (.tmp rfl rfl) .cbool (by simp [*]))
          (.c (S.move .none rfl (.tmp rfl rfl))
          (.c (S.move (.yes rfl rfl rfl (by simp [*])) rfl (.tmp rfl rfl))
          (.c (S.geq (.yes rfl rfl rfl (by simp [*])) rfl (.tmp rfl rfl) (.cint rfl))
          (.c (S.move (.yes rfl rfl rfl (by simp [*])) rfl (.tmp rfl rfl))
          (.c (S.skip rfl rfl rfl (by simp [*]) rfl)
          (.c (S.skip rfl rfl rfl (by simp [*]) rfl)
          (.c (S.skip rfl rfl rfl (by simp [*]) rfl)
          (.c (S.skip rfl rfl rfl (by simp [*]) rfl)
          (.c (S.skip rfl rfl rfl (by simp [*]) rfl)
          (.c (S.skip rfl rfl rfl (by simp [*]) rfl)
          (.c (S.skip rfl rfl rfl (by simp [*]) rfl)
          (.c (S.pickF (.yes rfl rfl rfl (by simp [*])) rfl (.tmp rfl rfl) .cbool (by simp [*]))
          (.c (S.pickF .none rfl (.tmp rfl rfl) (.tmp rfl rfl) (by simp [*]))
          .nil)))))))))))))))))))))))))))))) (by kernel_rfl) ?_
        refine Ab.D.code ?_
        refine OK.condF rfl rfl rfl ?_
        refine OK.skip ?_
        refine Ab.D.code ?_
        refine OK.seq ?_
        refine OK.reg ?_
        refine RK.c (S.assign .none rfl (.cint rfl)) ?_
        refine RK.nil ?_
        refine Ab.D.code ?_
        refine OK.block ?_
        refine OK.loop (G := Nat) [5] (fun k => [(0, .sl (l.map Pass.cs)), (1, ints ticks), (5, .own 5 n), (2005, .arr 1 ((sp.take n).map fun n => [.int .i64 n])), (6, .int .i64 (selK ticks l[i] nxt k)), (7, .int .i64 i), (8, .int .i64 k)]) (fun k => k ≤ ticks.length) (fun k => ticks.length - k) 0 (Nat.zero_le _) ⟨rfl, rfl, (lk_own (by first | rfl | (simp; done) | (simp; omega))), (lk_arr (by first | rfl | (simp; done) | (simp; omega))), rfl, rfl, rfl, trivial⟩ (fun _ => rfl) ?_
        rintro k hk
        refine OK.seq ?_
        refine OK.seq ?_
        refine OK.reg ?_
        refine RK.c (S.move .none rfl (.tmp rfl rfl)) ?_
        refine RK.c (S.move .none rfl (.tmp rfl rfl)) ?_
        refine RK.c (S.lenM si23 .none rfl (.tmp rfl rfl)) ?_
        refine RK.c (S.lss .none rfl (.tmp rfl rfl) (.tmp rfl rfl)) ?_
        refine RK.nil ?_
        refine Ab.D.code ?_
        refine OK.condD rfl rfl (fun c48 => ?_) (fun c48 => ?_)
        ·
          refine OK.skip ?_
          refine Ab.D.code ?_
          refine OK.seq ?_
          refine OK.block ?_
          refine OK.seq ?_
          refine OK.regionDraw follows (.c (S.move .none rfl (.tmp rfl rfl))
            (.c (S.move .none rfl (.tmp rfl rfl))
            (.c (S.indexM si23 .none rfl (.tmp rfl rfl) (.tmp rfl rfl) rfl (by omega) rfl)
            (.c (S.load1 ti3 .none rfl (.tmp rfl rfl) rfl)
            (.c (S.move .none rfl (.tmp rfl rfl))
            (.c (S.move .none rfl (.tmp rfl rfl))
            (.c (S.indexM si22 .none rfl (.tmp rfl rfl) (.tmp rfl rfl) rfl (by omega) rfl)
            (.c (S.field fi108_1 .none rfl (.tmp rfl rfl) rfl)
            (.c (S.load1 ti3 .none rfl (.tmp rfl rfl) rfl)
            (.c (S.move .none rfl (.tmp rfl rfl))
            (.c (S.move .none rfl (.tmp rfl rfl))
            (.c (S.indexM si22 .none rfl (.tmp rfl rfl) (.tmp rfl rfl) rfl (by omega) rfl)
            (.c (S.field fi108_2 .none rfl (.tmp rfl rfl) rfl)
            (.c (S.load1 ti3 .none rfl (.tmp rfl rfl) rfl)
            (.c (S.call (base_Within) Try.call45 .none rfl (.cons (.tmp rfl rfl) (.cons (.tmp rfl rfl) (.cons (.tmp rfl rfl) .nil))) rfl)
            .nil))))))))))))))) (by kernel_rfl) ?_
          refine Ab.D.code ?_
          refine OK.condD rfl rfl (fun c65 => ?_) (fun c65 => ?_)
          ·
            refine OK.reg ?_
            refine RK.c (S.move .none rfl (.tmp rfl rfl)) ?_
            refine RK.c (S.move .none rfl (.tmp rfl rfl)) ?_
            refine RK.c (S.indexM si22 .none rfl (.tmp rfl rfl) (.tmp rfl rfl) rfl (by omega) rfl) ?_
            refine RK.c (S.field fi108_0 .none rfl (.tmp rfl rfl) rfl) ?_
            refine RK.c (S.load1 ti3 .none rfl (.tmp rfl rfl) rfl) ?_
            refine RK.c (S.assign .none rfl (.tmp rfl rfl)) ?_
            refine RK.nil ?_
            refine Ab.D.blk ?_
            refine Ab.D.code ?_
            refine OK.reg ?_
            refine RK.c (S.move .none rfl (.tmp rfl rfl)) ?_
            refine RK.c (S.add .none rfl (.tmp rfl rfl) (.cint rfl) (IntWalk.i64_in _ (by omega)) (IntWalk.i64_in _ (by omega))) ?_
            refine RK.c (S.assign .none rfl (.tmp rfl rfl)) ?_
            refine RK.nil ?_
            refine Ab.D.lp ⟨k + 1, (by omega), (by omega), rfl, rfl, (lk_own (by first | rfl | (simp; done) | (simp; omega))), (lk_arr (by first | rfl | (simp; done) | (simp; omega))), (lk_int (by first | exact sel_T (by omega) c65 | exact sel_F (by omega) c65)), rfl, rfl, trivial⟩
          ·
            refine OK.skip ?_
            refine Ab.D.blk ?_
            refine Ab.D.code ?_
            refine OK.reg ?_
            refine RK.c (S.move .none rfl (.tmp rfl rfl)) ?_
            refine RK.c (S.add .none rfl (.tmp rfl rfl) (.cint rfl) (IntWalk.i64_in _ (by omega)) (IntWalk.i64_in _ (by omega))) ?_
            refine RK.c (S.assign .none rfl (.tmp rfl rfl)) ?_
            refine RK.nil ?_
            refine Ab.D.lp ⟨k + 1, (by omega), (by omega), rfl, rfl, (lk_own (by first | rfl | (simp; done) | (simp; omega))), (lk_arr (by first | rfl | (simp; done) | (simp; omega))), (lk_int (by first | exact sel_T (by omega) c65 | exact sel_F (by omega) c65)), rfl, rfl, trivial⟩
        ·
          refine OK.exit rfl ?_
          refine Ab.D.blk ?_
          refine Ab.D.code ?_
          refine OK.reg ?_
          refine RK.c (S.move .none rfl (.tmp rfl rfl)) ?_
          refine RK.c (S.add .none rfl (.tmp rfl rfl) (.cint rfl) (IntWalk.i64_in _ (by omega)) (IntWalk.i64_in _ (by omega))) ?_
          refine RK.c (S.assign .none rfl (.tmp rfl rfl)) ?_
          refine RK.nil ?_
          refine Ab.D.lp ⟨i + 1, selK ticks l[i] nxt k, ⟨by omega, ?_⟩, (by omega), rfl, rfl, (lk_own (by first | rfl | (simp; done) | (simp; omega))), (lk_arr (by first | rfl | (simp; done) | (simp; omega))), rfl, rfl, trivial⟩
          rw [show k = ticks.length by omega]
          first | exact scan_take (by omega) hpi hs (last_0 hsp g18 (by omega)) (fun h => by omega) | exact scan_take (by omega) hpi hs g32 (fun h => by omega)
  ·
    have hil : i = l.length := by omega
    rw [hil, List.take_length] at hs
    refine OK.exit rfl ?_
    refine Ab.D.code ?_
    refine OK.seq ?_
    refine OK.seq ?_
    refine OK.reg ?_
    refine RK.c (S.move .none rfl (.tmp rfl rfl)) ?_
    refine RK.c (S.lss .none rfl (.tmp rfl rfl) (.cint rfl)) ?_
    refine RK.nil ?_
    refine Ab.D.code ?_
    refine OK.condD rfl rfl (fun c72 => ?_) (fun c72 => ?_)
    ·
      refine OK.seq ?_
      refine OK.reg ?_
      refine RK.c (S.move .none rfl (.tmp rfl rfl)) ?_
      refine RK.c (S.assign .none rfl (.tmp rfl rfl)) ?_
      refine RK.nil ?_
      refine Ab.D.code ?_
      refine OK.ret (Ret.r1 (.tmp rfl rfl (.c (.own rfl rfl (by first | rfl | (simp; done) | (simp; omega))) rfl) rfl) ?_)
      rw [show sp.take n = sp by rw [scan_none hsp hn hs c72, List.take_length]]
      rfl
    ·
      obtain ⟨hn2, hnx⟩ := scan_some hsp hn hs c72
      refine OK.skip ?_
      refine Ab.D.code ?_
      refine OK.reg ?_
      refine RK.c (S.move .none rfl (.tmp rfl rfl)) ?_
      refine RK.c (S.move .none rfl (.tmp rfl rfl)) ?_
      refine RK.c (S.mkSlice (k := 76) (rows := [[_]]) ai23 .none rfl (.cons (.tmp rfl rfl) .nil) rfl rfl rfl rfl rfl rfl rfl) ?_
      refine RK.c (S.append ai23 .none rfl (.tmp rfl rfl) rfl (by simp; omega) (.tmp rfl rfl) rfl (by first | rfl | (simp; done) | (simp; omega)) (by omega) (by simp only [maxLen]; omega)) ?_
      refine RK.c (S.assign .none rfl (.tmp rfl rfl)) ?_
      refine RK.nil ?_
      refine Ab.D.blk ?_
      refine Ab.D.lp ⟨n + 1, (by omega), (by omega), rfl, rfl, (lk_own rfl), (lk_arr (by rw [← take_snoc hn2, hnx, List.map_append]; rfl)), trivial⟩

theorem law_MonitorPasses {l : List Pass} {ticks : List Int} : Ct Try.prog 3 [.sl (l.map Pass.cs), ints ticks] (.bool true) := by
  refine Ct.intro (rs := [.tmp 4]) Try.func3 rfl Try.ntmps3 Try.results3 rfl rfl rfl fun w h => ?_
  refine OK.seq ?_
  refine OK.reg ?_
  refine RK.c (S.assign .none rfl .cbool) ?_
  refine RK.nil ?_
  refine Ab.D.code ?_
  refine OK.seq ?_
  refine OK.seq ?_
  refine OK.reg ?_
  refine RK.c (S.call (law_awake) Try.call9 .none rfl .nil rfl) ?_
  refine RK.c (S.not .none rfl (.tmp rfl rfl)) ?_
  refine RK.nil ?_
  refine Ab.D.code ?_
  refine OK.condF rfl rfl rfl ?_
  refine OK.skip ?_
  refine Ab.D.code ?_
  refine OK.seq ?_
  refine OK.seq ?_
  refine OK.reg ?_
  refine RK.c (S.move .none rfl (.tmp rfl rfl)) ?_
  refine RK.c (S.lenM si22 .none rfl (.tmp rfl rfl)) ?_
  refine RK.c (S.gtr .none rfl (.tmp rfl rfl) (.cint rfl)) ?_
  refine RK.c (S.move .none rfl (.tmp rfl rfl)) ?_
  refine RK.splitD (t := 16) rfl (fun g16 => ?_) (fun g16 => ?_)
  ·
    refine RK.c (S.skip rfl rfl rfl rfl rfl) ?_
    refine RK.c (S.skip rfl rfl rfl rfl rfl) ?_
    refine RK.c (S.skip rfl rfl rfl rfl rfl) ?_
    refine RK.c (S.pickT .none rfl (.tmp rfl rfl) .cbool rfl) ?_
    refine RK.nil ?_
    refine Ab.D.code ?_
    refine OK.condT rfl rfl rfl ?_
    refine OK.seq ?_
    refine OK.reg ?_
    refine RK.c (S.assign .none rfl .cbool) ?_
    refine RK.nil ?_
    refine Ab.D.code ?_
    refine OK.ret (Ret.r1 (.tmp rfl rfl (.c (.same rfl) rfl) rfl) ?_)
    first | rfl | (refine ret_dT ?_; omega) | (refine ret_abs ?_; omega) | (refine ret_dT ?_; rw [if_neg (by omega)]; rfl) | (refine ret_dT ?_; rw [if_pos (by omega)]; done)
  ·
    refine RK.c (S.move (.yes rfl rfl rfl rfl) rfl (.tmp rfl rfl)) ?_
    refine RK.c (S.lenM si23 (.yes rfl rfl rfl rfl) rfl (.tmp rfl rfl)) ?_
    refine RK.c (S.gtr (.yes rfl rfl rfl rfl) rfl (.tmp rfl rfl) (.cint rfl)) ?_
    refine RK.c (S.pickF .none rfl (.tmp rfl rfl) (.tmp rfl rfl) rfl) ?_
    refine RK.nil ?_
    refine Ab.D.code ?_
    refine OK.condD rfl rfl (fun c20 => ?_) (fun c20 => ?_)
    ·
      refine OK.seq ?_
      refine OK.reg ?_
      refine RK.c (S.assign .none rfl .cbool) ?_
      refine RK.nil ?_
      refine Ab.D.code ?_
      refine OK.ret (Ret.r1 (.tmp rfl rfl (.c (.same rfl) rfl) rfl) ?_)
      first | rfl | (refine ret_dT ?_; omega) | (refine ret_abs ?_; omega) | (refine ret_dT ?_; rw [if_neg (by omega)]; rfl) | (refine ret_dT ?_; rw [if_pos (by omega)]; done)
    ·
      have hse := sp_err l ticks
      have hse1 : (passChk l).2 = 0 → spoiltErr l ticks = ticksErr ticks := fun h => by rw [hse, if_pos h]
      have hse2 : ¬ (passChk l).2 = 0 → spoiltErr l ticks = (passChk l).2 := fun h => by rw [hse, if_neg h]
      clear hse
      refine OK.skip ?_
      refine Ab.D.code ?_
      refine OK.seq ?_
      refine OK.reg ?_
      refine RK.c (S.move .none rfl (.tmp rfl rfl)) ?_
      refine RK.c (S.call (ref_CopyPasses (by omega)) Try.call11 .none rfl (.cons (.tmp rfl rfl) .nil) rfl) ?_
      refine RK.c (S.call (mon_CheckPasses) Try.call10 .none rfl (.cons (.tmp rfl rfl) .nil) rfl) ?_
      refine RK.c (S.move .none rfl (.tmp rfl rfl)) ?_
      refine RK.c (S.extract .none rfl (.tmp rfl rfl) rfl rfl) ?_
      refine RK.c (S.extract .none rfl (.tmp rfl rfl) rfl rfl) ?_
      refine RK.c (S.assign .none rfl (.tmp rfl rfl)) ?_
      refine RK.c (S.assign .none rfl (.tmp rfl rfl)) ?_
      refine RK.nil ?_
      refine Ab.D.code ?_
      refine OK.seq ?_
      refine OK.reg ?_
      refine RK.c (S.move .none rfl (.tmp rfl rfl)) ?_
      refine RK.c (S.call (ref_CopyPasses (by omega)) Try.call11 .none rfl (.cons (.tmp rfl rfl) .nil) rfl) ?_
      refine RK.c (S.move .none rfl (.tmp rfl rfl)) ?_
      refine RK.c (S.call (base_CopyInts (by omega)) Try.call13 .none rfl (.cons (.tmp rfl rfl) .nil) rfl) ?_
      refine RK.c (S.call (mon_SpoiltBy) Try.call12 .none rfl (.cons (.tmp rfl rfl) (.cons (.tmp rfl rfl) .nil)) rfl) ?_
      refine RK.c (S.move .none rfl (.tmp rfl rfl)) ?_
      refine RK.c (S.extract .none rfl (.tmp rfl rfl) rfl rfl) ?_
      refine RK.c (S.extract .none rfl (.tmp rfl rfl) rfl rfl) ?_
      refine RK.c (S.assign .none rfl (.tmp rfl rfl)) ?_
      refine RK.c (S.assign .none rfl (.tmp rfl rfl)) ?_
      refine RK.nil ?_
      refine Ab.D.code ?_
      refine OK.seq ?_
      refine OK.reg ?_
      refine RK.c (S.move .none rfl (.tmp rfl rfl)) ?_
      refine RK.c (S.call (ref_CheckPasses) Try.call14 .none rfl (.cons (.tmp rfl rfl) .nil) rfl) ?_
      refine RK.c (S.move .none rfl (.tmp rfl rfl)) ?_
      refine RK.c (S.extract .none rfl (.tmp rfl rfl) rfl rfl) ?_
      refine RK.c (S.extract .none rfl (.tmp rfl rfl) rfl rfl) ?_
      refine RK.c (S.assign .none rfl (.tmp rfl rfl)) ?_
      refine RK.c (S.assign .none rfl (.tmp rfl rfl)) ?_
      refine RK.nil ?_
      refine Ab.D.code ?_
      refine OK.seq ?_
      refine OK.seq ?_
      refine OK.reg ?_
      refine RK.c (S.move .none rfl (.tmp rfl rfl)) ?_
      refine RK.c (S.move .none rfl (.tmp rfl rfl)) ?_
      refine RK.c (S.neq .none rfl (.tmp rfl rfl) (.tmp rfl rfl)) ?_
      refine RK.c (S.move .none rfl (.tmp rfl rfl)) ?_
      refine RK.splitD (t := 43) rfl (fun g43 => ?_) (fun g43 => ?_)
      ·
        refine RK.c (S.skip rfl rfl rfl rfl rfl) ?_
        refine RK.c (S.skip rfl rfl rfl rfl rfl) ?_
        refine RK.c (S.skip rfl rfl rfl rfl rfl) ?_
        refine RK.c (S.pickT .none rfl (.tmp rfl rfl) .cbool rfl) ?_
        refine RK.nil ?_
        refine Ab.D.code ?_
        refine OK.condT rfl rfl rfl ?_
        refine OK.seq ?_
        refine OK.reg ?_
        refine RK.c (S.assign .none rfl .cbool) ?_
        refine RK.nil ?_
        refine Ab.D.code ?_
        refine OK.ret (Ret.r1 (.tmp rfl rfl (.c (.same rfl) rfl) rfl) ?_)
        first | rfl | (refine ret_dT ?_; omega) | (refine ret_abs ?_; omega) | (refine ret_dT ?_; rw [if_neg (by omega)]; rfl) | (refine ret_dT ?_; rw [if_pos (by omega)]; done)
      ·
        refine RK.c (S.move (.yes rfl rfl rfl rfl) rfl (.tmp rfl rfl)) ?_
        refine RK.c (S.move (.yes rfl rfl rfl rfl) rfl (.tmp rfl rfl)) ?_
        refine RK.c (S.neq (.yes rfl rfl rfl rfl) rfl (.tmp rfl rfl) (.tmp rfl rfl)) ?_
        refine RK.c (S.pickF .none rfl (.tmp rfl rfl) (.tmp rfl rfl) rfl) ?_
        refine RK.nil ?_
        refine Ab.D.code ?_
        refine OK.condD rfl rfl (fun c47 => ?_) (fun c47 => ?_)
        ·
          refine OK.seq ?_
          refine OK.reg ?_
          refine RK.c (S.assign .none rfl .cbool) ?_
          refine RK.nil ?_
          refine Ab.D.code ?_
          refine OK.ret (Ret.r1 (.tmp rfl rfl (.c (.same rfl) rfl) rfl) ?_)
          first | rfl | (refine ret_dT ?_; omega) | (refine ret_abs ?_; omega) | (refine ret_dT ?_; rw [if_neg (by omega)]; rfl) | (refine ret_dT ?_; rw [if_pos (by omega)]; done)
        ·
          refine OK.skip ?_
          refine Ab.D.code ?_
          refine OK.seq ?_
          refine OK.seq ?_
          refine OK.reg ?_
          refine RK.c (S.move .none rfl (.tmp rfl rfl)) ?_
          refine RK.c (S.eql .none rfl (.tmp rfl rfl) (.cint rfl)) ?_
          refine RK.nil ?_
          refine Ab.D.code ?_
          refine OK.condD rfl rfl (fun c49 => ?_) (fun c49 => ?_)
          ·
            refine OK.reg ?_
            refine RK.c (S.move .none rfl (.tmp rfl rfl)) ?_
            refine RK.c (S.call (ref_TicksErr) Try.call15 .none rfl (.cons (.tmp rfl rfl) .nil) rfl) ?_
            refine RK.c (S.assign .none rfl (.tmp rfl rfl)) ?_
            refine RK.nil ?_
            refine Ab.D.code ?_
            refine OK.seq ?_
            refine OK.seq ?_
            refine OK.reg ?_
            refine RK.c (S.move .none rfl (.tmp rfl rfl)) ?_
            refine RK.c (S.neq .none rfl (.tmp rfl rfl) (.cint rfl)) ?_
            refine RK.nil ?_
            refine Ab.D.code ?_
            refine OK.condD rfl rfl (fun c53 => ?_) (fun c53 => ?_)
            ·
              refine OK.seq ?_
              refine OK.reg ?_
              refine RK.c (S.move .none rfl (.tmp rfl rfl)) ?_
              refine RK.c (S.move .none rfl (.tmp rfl rfl)) ?_
              refine RK.c (S.eql .none rfl (.tmp rfl rfl) (.tmp rfl rfl)) ?_
              refine RK.c (S.move .none rfl (.tmp rfl rfl)) ?_
              refine RK.splitD (t := 57) rfl (fun g57 => ?_) (fun g57 => ?_)
              ·
                refine RK.c (S.move (.yes rfl rfl rfl rfl) rfl (.tmp rfl rfl)) ?_
                refine RK.c (S.lenM si23 (.yes rfl rfl rfl rfl) rfl (.tmp rfl rfl)) ?_
                refine RK.c (S.eql (.yes rfl rfl rfl rfl) rfl (.tmp rfl rfl) (.cint rfl)) ?_
                refine RK.c (S.pickT .none rfl (.tmp rfl rfl) (.tmp rfl rfl) rfl) ?_
                refine RK.c (S.assign .none rfl (.tmp rfl rfl)) ?_
                refine RK.nil ?_
                refine Ab.D.code ?_
                refine OK.ret (Ret.r1 (.tmp rfl rfl (.c (.same rfl) rfl) rfl) ?_)
                first | rfl | (refine ret_dT ?_; omega) | (refine ret_abs ?_; omega) | (refine ret_dT ?_; rw [if_neg (by omega)]; rfl) | (refine ret_dT ?_; rw [if_pos (by omega)]; done)
              ·
                refine RK.c (S.skip rfl rfl rfl rfl rfl) ?_
                refine RK.c (S.skip rfl rfl rfl rfl rfl) ?_
                refine RK.c (S.skip rfl rfl rfl rfl rfl) ?_
                refine RK.c (S.pickF .none rfl (.tmp rfl rfl) .cbool rfl) ?_
                refine RK.c (S.assign .none rfl (.tmp rfl rfl)) ?_
                refine RK.nil ?_
                refine Ab.D.code ?_
                refine OK.ret (Ret.r1 (.tmp rfl rfl (.c (.same rfl) rfl) rfl) ?_)
                first | rfl | (refine ret_dT ?_; omega) | (refine ret_abs ?_; omega) | (refine ret_dT ?_; rw [if_neg (by omega)]; rfl) | (refine ret_dT ?_; rw [if_pos (by omega)]; done)
            ·
              refine OK.skip ?_
              refine Ab.D.code ?_
              refine OK.seq ?_
              refine OK.reg ?_
              refine RK.c (S.move .none rfl (.tmp rfl rfl)) ?_
              refine RK.c (S.eql .none rfl (.tmp rfl rfl) (.cint rfl)) ?_
              refine RK.c (S.move .none rfl (.tmp rfl rfl)) ?_
              refine RK.splitD (t := 64) rfl (fun g64 => ?_) (fun g64 => ?_)
              ·
                refine RK.c (S.move (.yes rfl rfl rfl rfl) rfl (.tmp rfl rfl)) ?_
                refine RK.c (S.move (.yes rfl rfl rfl rfl) rfl (.tmp rfl rfl)) ?_
                refine RK.c (S.move (.yes rfl rfl rfl rfl) rfl (.tmp rfl rfl)) ?_
                refine RK.c (S.call (ref_Spoilt (Decidable.not_not.1 (by omega))) Try.call17 (.yes rfl rfl rfl rfl) rfl (.cons (.tmp rfl rfl) (.cons (.tmp rfl rfl) .nil)) rfl) ?_
                refine RK.c (S.call (base_Ints) Try.call16 (.yes rfl rfl rfl rfl) rfl (.cons (.tmp rfl rfl) (.cons (.tmp rfl rfl) .nil)) rfl) ?_
                refine RK.c (S.pickT .none rfl (.tmp rfl rfl) (.tmp rfl rfl) rfl) ?_
                refine RK.c (S.assign .none rfl (.tmp rfl rfl)) ?_
                refine RK.nil ?_
                refine Ab.D.code ?_
                refine OK.ret (Ret.r1 (.tmp rfl rfl (.c (.same rfl) rfl) rfl) ?_)
                first | rfl | (refine ret_dT ?_; omega) | (refine ret_abs ?_; omega) | (refine ret_dT ?_; rw [if_neg (by omega)]; rfl) | (refine ret_dT ?_; rw [if_pos (by omega)]; done)
              ·
                refine RK.c (S.skip rfl rfl rfl rfl rfl) ?_
                refine RK.c (S.skip rfl rfl rfl rfl rfl) ?_
                refine RK.c (S.skip rfl rfl rfl rfl rfl) ?_
                refine RK.c (S.skip rfl rfl rfl rfl rfl) ?_
                refine RK.c (S.skip rfl rfl rfl rfl rfl) ?_
                refine RK.c (S.pickF .none rfl (.tmp rfl rfl) .cbool rfl) ?_
                refine RK.c (S.assign .none rfl (.tmp rfl rfl)) ?_
                refine RK.nil ?_
                refine Ab.D.code ?_
                refine OK.ret (Ret.r1 (.tmp rfl rfl (.c (.same rfl) rfl) rfl) ?_)
                first | rfl | (refine ret_dT ?_; omega) | (refine ret_abs ?_; omega) | (refine ret_dT ?_; rw [if_neg (by omega)]; rfl) | (refine ret_dT ?_; rw [if_pos (by omega)]; done)
          ·
            refine OK.skip ?_
            refine Ab.D.code ?_
            refine OK.seq ?_
            refine OK.seq ?_
            refine OK.reg ?_
            refine RK.c (S.move .none rfl (.tmp rfl rfl)) ?_
            refine RK.c (S.neq .none rfl (.tmp rfl rfl) (.cint rfl)) ?_
            refine RK.nil ?_
            refine Ab.D.code ?_
            refine OK.condD rfl rfl (fun c53 => ?_) (fun c53 => ?_)
            ·
              refine OK.seq ?_
              refine OK.reg ?_
              refine RK.c (S.move .none rfl (.tmp rfl rfl)) ?_
              refine RK.c (S.move .none rfl (.tmp rfl rfl)) ?_
              refine RK.c (S.eql .none rfl (.tmp rfl rfl) (.tmp rfl rfl)) ?_
              refine RK.c (S.move .none rfl (.tmp rfl rfl)) ?_
              refine RK.splitD (t := 57) rfl (fun g57 => ?_) (fun g57 => ?_)
              ·
                refine RK.c (S.move (.yes rfl rfl rfl rfl) rfl (.tmp rfl rfl)) ?_
                refine RK.c (S.lenM si23 (.yes rfl rfl rfl rfl) rfl (.tmp rfl rfl)) ?_
                refine RK.c (S.eql (.yes rfl rfl rfl rfl) rfl (.tmp rfl rfl) (.cint rfl)) ?_
                refine RK.c (S.pickT .none rfl (.tmp rfl rfl) (.tmp rfl rfl) rfl) ?_
                refine RK.c (S.assign .none rfl (.tmp rfl rfl)) ?_
                refine RK.nil ?_
                refine Ab.D.code ?_
                refine OK.ret (Ret.r1 (.tmp rfl rfl (.c (.same rfl) rfl) rfl) ?_)
                first | rfl | (refine ret_dT ?_; omega) | (refine ret_abs ?_; omega) | (refine ret_dT ?_; rw [if_neg (by omega)]; rfl) | (refine ret_dT ?_; rw [if_pos (by omega)]; done)
              ·
                refine RK.c (S.skip rfl rfl rfl rfl rfl) ?_
                refine RK.c (S.skip rfl rfl rfl rfl rfl) ?_
                refine RK.c (S.skip rfl rfl rfl rfl rfl) ?_
                refine RK.c (S.pickF .none rfl (.tmp rfl rfl) .cbool rfl) ?_
                refine RK.c (S.assign .none rfl (.tmp rfl rfl)) ?_
                refine RK.nil ?_
                refine Ab.D.code ?_
                refine OK.ret (Ret.r1 (.tmp rfl rfl (.c (.same rfl) rfl) rfl) ?_)
                first | rfl | (refine ret_dT ?_; omega) | (refine ret_abs ?_; omega) | (refine ret_dT ?_; rw [if_neg (by omega)]; rfl) | (refine ret_dT ?_; rw [if_pos (by omega)]; done)
            ·
              refine OK.skip ?_
              refine Ab.D.code ?_
              refine OK.seq ?_
              refine OK.reg ?_
              refine RK.c (S.move .none rfl (.tmp rfl rfl)) ?_
              refine RK.c (S.eql .none rfl (.tmp rfl rfl) (.cint rfl)) ?_
              refine RK.c (S.move .none rfl (.tmp rfl rfl)) ?_
              refine RK.splitD (t := 64) rfl (fun g64 => ?_) (fun g64 => ?_)
              ·
                refine RK.c (S.move (.yes rfl rfl rfl rfl) rfl (.tmp rfl rfl)) ?_
                refine RK.c (S.move (.yes rfl rfl rfl rfl) rfl (.tmp rfl rfl)) ?_
                refine RK.c (S.move (.yes rfl rfl rfl rfl) rfl (.tmp rfl rfl)) ?_
                refine RK.c (S.call (ref_Spoilt (Decidable.not_not.1 (by omega))) Try.call17 (.yes rfl rfl rfl rfl) rfl (.cons (.tmp rfl rfl) (.cons (.tmp rfl rfl) .nil)) rfl) ?_
                refine RK.c (S.call (base_Ints) Try.call16 (.yes rfl rfl rfl rfl) rfl (.cons (.tmp rfl rfl) (.cons (.tmp rfl rfl) .nil)) rfl) ?_
                refine RK.c (S.pickT .none rfl (.tmp rfl rfl) (.tmp rfl rfl) rfl) ?_
                refine RK.c (S.assign .none rfl (.tmp rfl rfl)) ?_
                refine RK.nil ?_
                refine Ab.D.code ?_
                refine OK.ret (Ret.r1 (.tmp rfl rfl (.c (.same rfl) rfl) rfl) ?_)
                first | rfl | (refine ret_dT ?_; omega) | (refine ret_abs ?_; omega) | (refine ret_dT ?_; rw [if_neg (by omega)]; rfl) | (refine ret_dT ?_; rw [if_pos (by omega)]; done)
              ·
                refine RK.c (S.skip rfl rfl rfl rfl rfl) ?_
                refine RK.c (S.skip rfl rfl rfl rfl rfl) ?_
                refine RK.c (S.skip rfl rfl rfl rfl rfl) ?_
                refine RK.c (S.skip rfl rfl rfl rfl rfl) ?_
                refine RK.c (S.skip rfl rfl rfl rfl rfl) ?_
                refine RK.c (S.pickF .none rfl (.tmp rfl rfl) .cbool rfl) ?_
                refine RK.c (S.assign .none rfl (.tmp rfl rfl)) ?_
                refine RK.nil ?_
                refine Ab.D.code ?_
                refine OK.ret (Ret.r1 (.tmp rfl rfl (.c (.same rfl) rfl) rfl) ?_)
                first | rfl | (refine ret_dT ?_; omega) | (refine ret_abs ?_; omega) | (refine ret_dT ?_; rw [if_neg (by omega)]; rfl) | (refine ret_dT ?_; rw [if_pos (by omega)]; done)

end Go.Proofs.Ytfjldfkgjejpmaa
