/-
  Deviations: the iterator, what is collected from it.
-/
import Derived.Test.YtfjldfkgjejpmaaWl
namespace Go.Proofs.Ytfjldfkgjejpmaa
open Go.Ab

def devBy (n : Int) (o : Range) : Int := (if 0 < n - o.hi then n - o.hi else 0) + (if n - o.lo < 0 then n - o.lo else 0)
def devOne (t : Nat) (rs : List Range) (c : Nat) (n : Int) : List Deviation := if devBy n (rs.getD c ⟨0, 0⟩) ≠ 0 then [⟨t, c, devBy n (rs.getD c ⟨0, 0⟩)⟩] else []
def devRow (t : Nat) (rs : List Range) : Nat → List Int → List Deviation
  | _, [] => []
  | c, n :: l => devOne t rs c n ++ devRow t rs (c + 1) l
def devGo (x : Envelope) : Nat → List Row → List Deviation
  | _, [] => []
  | t, r :: l => devRow t (x.rows.getD t []) 0 r.values ++ devGo x (t + 1) l
def devT (x : Envelope) (r : Record) : List Deviation := devGo x 0 r.rows
theorem devRow_drop {t : Nat} {rs : List Range} {l : List Int} {j : Nat} (h : j < l.length) : devRow t rs j (l.drop j) = devOne t rs j l[j] ++ devRow t rs (j + 1) (l.drop (j + 1)) := by
  rw [List.drop_eq_getElem_cons h, devRow]
theorem devGo_drop {x : Envelope} {l : List Row} {i : Nat} (h : i < l.length) : devGo x i (l.drop i) = devRow i (x.rows.getD i []) 0 l[i].values ++ devGo x (i + 1) (l.drop (i + 1)) := by
  rw [List.drop_eq_getElem_cons h, devGo]
theorem getD_at {α : Type} {l : List α} {i : Nat} {d : α} (h : i < l.length) : l.getD i d = l[i] := by simp [List.getD, h]
/-- Where a record's values have ranges of an envelope, and all of them are small. -/
structure FitT (x : Envelope) (r : Record) : Prop where
  rows : ∀ (i : Nat), i < r.rows.length → i < x.rows.length
  cols : ∀ (i : Nat) (h : i < r.rows.length) (h2 : i < x.rows.length) (j : Nat), j < r.rows[i].values.length → j < x.rows[i].length
  val : ∀ (i : Nat) (h : i < r.rows.length) (j : Nat) (h3 : j < r.rows[i].values.length), -1000000 ≤ r.rows[i].values[j] ∧ r.rows[i].values[j] ≤ 1000000
  rng : ∀ (i : Nat) (h2 : i < x.rows.length) (j : Nat) (h3 : j < x.rows[i].length), (-1000000 ≤ x.rows[i][j].lo ∧ x.rows[i][j].lo ≤ 1000000) ∧ (-1000000 ≤ x.rows[i][j].hi ∧ x.rows[i][j].hi ≤ 1000000)
theorem cb_at {P : Program} {σ α : Type} {encs : α → List X} {D pre rest : List α} {d : α} {J : σ → Mem → (Nat → Prop) → World → Prop} {g : σ → α → σ × Bool} {s0 : σ} {Φ : Value → Prop}
    (hcb : ∀ v, Φ v → ∀ (i : Nat) (x : α), D[i]? = some x → (iterG g s0 (D.take i)).2 = true → CbOk P v (encs x) (.bool (g (iterG g s0 (D.take i)).1 x).2) (J (iterG g s0 (D.take i)).1) (J (g (iterG g s0 (D.take i)).1 x).1))
    (hD : D = pre ++ d :: rest) (hrun : (iterG g s0 pre).2 = true) : ∀ v, Φ v → CbOk P v (encs d) (.bool (g (iterG g s0 pre).1 d).2) (J (iterG g s0 pre).1) (J (g (iterG g s0 pre).1 d).1) := by
  intro v hv
  have ht : D.take pre.length = pre := by rw [hD]; simp
  have := hcb v hv pre.length d (by rw [hD]; simp) (by rw [ht]; exact hrun)
  rw [ht] at this
  exact this
theorem iter_stop {σ α : Type} {g : σ → α → σ × Bool} {s0 : σ} {d : α} {rest : List α} : ∀ {pre : List α}, (iterG g s0 pre).2 = true → (g (iterG g s0 pre).1 d).2 = false → iterG g s0 (pre ++ d :: rest) = ((g (iterG g s0 pre).1 d).1, false) := by
  intro pre
  induction pre generalizing s0 with
  | nil =>
    intro _ h2
    simp only [iterG] at h2
    simp only [List.nil_append, iterG, h2]
    simp
  | cons x pre ih =>
    intro h1 h2
    simp only [iterG] at h1 h2
    simp only [List.cons_append, iterG]
    split at h1
    · rename_i hx; simp only [hx, if_true] at h2 ⊢; exact ih h1 h2
    · cases h1
theorem iter_go {σ α : Type} {g : σ → α → σ × Bool} {s0 : σ} {d : α} {pre : List α} (h1 : (iterG g s0 pre).2 = true) (h2 : (g (iterG g s0 pre).1 d).2 = true) : iterG g s0 (pre ++ [d]) = ((g (iterG g s0 pre).1 d).1, true) := by
  rw [iterG_snoc, if_pos h1]
  exact Prod.ext rfl h2
theorem lk_res {J J' : Mem → (Nat → Prop) → World → Prop} (h : J = J') : some (X.res J) = some (X.res J') := by rw [h]
abbrev DevCb (σ : Type) (J : σ → Mem → (Nat → Prop) → World → Prop) (g : σ → Deviation → σ × Bool) (s0 : σ) (Φ : Value → Prop) (D : List Deviation) : Prop :=
  ∀ v, Φ v → ∀ (i : Nat) (x : Deviation), D[i]? = some x → (iterG g s0 (D.take i)).2 = true → CbOk Try.prog v [.agg x.cs] (.bool (g (iterG g s0 (D.take i)).1 x).2) (J (iterG g s0 (D.take i)).1) (J (g (iterG g s0 (D.take i)).1 x).1)
theorem devBy_bd {n : Int} {o : Range} (h1 : -1000000 ≤ n ∧ n ≤ 1000000) (h2 : (-1000000 ≤ o.lo ∧ o.lo ≤ 1000000) ∧ (-1000000 ≤ o.hi ∧ o.hi ≤ 1000000)) : -4000000 ≤ devBy n o ∧ devBy n o ≤ 4000000 := by
  unfold devBy
  split <;> split <;> omega

theorem mon_devs1 {x : Envelope} {r : Record} (hf : FitT x r) (hrl : r.rows.length ≤ 100000) (hvl : ∀ (i : Nat) (h : i < r.rows.length), r.rows[i].values.length ≤ 100000) {σ : Type} (J : σ → Mem → (Nat → Prop) → World → Prop) (g : σ → Deviation → σ × Bool) (s0 : σ) (Φ : Value → Prop) (hst : ∀ s, Stable (J s)) (hcb : DevCb σ J g s0 Φ (devT x r)) : CtG Try.prog 105 [] [.cb Φ, .eptr r.cs, .eptr x.cs] [(3000, .res (J s0))] [(3000, .res (J (iterG g s0 (devT x r)).1))] (.tup []) := by
  refine CtG.intro (rs := []) Try.func105 rfl Try.ntmps105 Try.results105 rfl rfl rfl rfl fun w h => ?_
  refine OK.seq ?_
  refine OK.reg ?_
  refine RK.c (S.field fi56_0 .none rfl (.tmp rfl rfl) rfl) ?_
  refine RK.c (S.load1 ti54 .none rfl (.tmp rfl rfl) rfl) ?_
  refine RK.c (S.lenM si54 .none rfl (.tmp rfl rfl)) ?_
  refine RK.c (S.move .none rfl (.cint rfl)) ?_
  refine RK.nil ?_
  refine Ab.D.code ?_
  refine OK.block ?_
  refine OK.loop2 [] (fun (i : Nat) (pre : List Deviation) => [(0, .cb Φ), (1, .eptr r.cs), (2, .eptr x.cs), (11, .sl (r.rows.map Row.cs)), (12, .int .i64 r.rows.length), (13, .int .i64 i), (3000, .res (J (iterG g s0 pre).1))]) (fun i pre => i ≤ r.rows.length ∧ (iterG g s0 pre).2 = true ∧ devT x r = pre ++ devGo x i (r.rows.drop i)) (fun i pre => r.rows.length - i) (0) ([]) ⟨Nat.zero_le _, rfl, rfl⟩ ⟨rfl, rfl, rfl, rfl, rfl, rfl, rfl, trivial⟩ (fun _ _ => rfl) ?_
  rintro i pre ⟨hi, hrun, hD⟩
  refine OK.seq ?_
  refine OK.reg ?_
  refine RK.c (S.lss .none rfl (.tmp rfl rfl) (.tmp rfl rfl)) ?_
  refine RK.nil ?_
  refine Ab.D.code ?_
  refine OK.seq ?_
  refine OK.condD rfl rfl (fun c14 => ?_) (fun c14 => ?_)
  ·
    have hix : i < x.rows.length := hf.rows i (by omega)
    have hvli := hvl i (by omega)
    refine OK.skip ?_
    refine Ab.D.code ?_
    refine OK.seq ?_
    refine OK.block ?_
    refine OK.seq ?_
    refine OK.reg ?_
    refine RK.c (S.move .none rfl (.tmp rfl rfl)) ?_
    refine RK.c (S.indexM si54 .none rfl (.tmp rfl rfl) (.tmp rfl rfl) rfl (by omega) rfl) ?_
    refine RK.c (S.loadN ti127 .none rfl (.tmp rfl rfl) rfl rfl) ?_
    refine RK.c (S.alloc (k := 5) ze127 rfl .none rfl) ?_
    refine RK.c (S.assign .none rfl (.tmp rfl rfl)) ?_
    refine RK.c (S.store ti127 .none (.tmp rfl rfl) (.tmp rfl rfl) rfl rfl rfl rfl rfl rfl) ?_
    refine RK.nil ?_
    refine Ab.D.code ?_
    refine OK.seq ?_
    refine OK.reg ?_
    refine RK.c (S.bfield fi127_1 .none rfl (.tmp rfl rfl)) ?_
    refine RK.c (S.bload1 ti23 .none rfl (.tmp rfl rfl) rfl rfl rfl rfl) ?_
    refine RK.c (S.lenM si23 .none rfl (.tmp rfl rfl)) ?_
    refine RK.c (S.move .none rfl (.cint rfl)) ?_
    refine RK.nil ?_
    refine Ab.D.code ?_
    refine OK.block ?_
    refine OK.loop2 [] (fun (j : Nat) (pre : List Deviation) => [(0, .cb Φ), (1, .eptr r.cs), (2, .eptr x.cs), (4, .int .i64 i), (11, .sl (r.rows.map Row.cs)), (12, .int .i64 r.rows.length), (13, .int .i64 i), (19, ints r.rows[i].values), (20, .int .i64 r.rows[i].values.length), (21, .int .i64 j), (3000, .res (J (iterG g s0 pre).1))]) (fun j pre => j ≤ r.rows[i].values.length ∧ (iterG g s0 pre).2 = true ∧ devT x r = pre ++ (devRow i (x.rows.getD i []) j (r.rows[i].values.drop j) ++ devGo x (i + 1) (r.rows.drop (i + 1)))) (fun j pre => r.rows[i].values.length - j) (0) (pre) ⟨Nat.zero_le _, hrun, by rw [hD, devGo_drop (by omega)]; rfl⟩ ⟨rfl, rfl, rfl, rfl, rfl, rfl, rfl, rfl, rfl, rfl, rfl, trivial⟩ (fun _ _ => rfl) ?_
    rintro j pre ⟨hj, hrun2, hD2⟩
    refine OK.seq ?_
    refine OK.reg ?_
    refine RK.c (S.lss .none rfl (.tmp rfl rfl) (.tmp rfl rfl)) ?_
    refine RK.nil ?_
    refine Ab.D.code ?_
    refine OK.seq ?_
    refine OK.condD rfl rfl (fun c22 => ?_) (fun c22 => ?_)
    ·
      have hjx : j < x.rows[i].length := hf.cols i (by omega) hix j (by omega)
      have hv1 := hf.val i (by omega) j (by omega)
      have hr1 := hf.rng i hix j hjx
      have hbd := devBy_bd hv1 hr1
      have hrow : (x.rows.getD i []) = x.rows[i] := getD_at hix
      have hone : (x.rows[i].getD j ⟨0, 0⟩) = x.rows[i][j] := getD_at hjx
      have hstep : devRow i (x.rows.getD i []) j (r.rows[i].values.drop j) = (if devBy r.rows[i].values[j] x.rows[i][j] ≠ 0 then [⟨i, j, devBy r.rows[i].values[j] x.rows[i][j]⟩] else []) ++ devRow i (x.rows.getD i []) (j + 1) (r.rows[i].values.drop (j + 1)) := by rw [devRow_drop (by omega), devOne, hrow, hone]
      refine OK.skip ?_
      refine Ab.D.code ?_
      refine OK.seq ?_
      refine OK.block ?_
      refine OK.seq ?_
      refine OK.reg ?_
      refine RK.c (S.move .none rfl (.tmp rfl rfl)) ?_
      refine RK.c (S.indexM (n := j) si23 .none rfl (.tmp rfl rfl) (.tmp rfl rfl) rfl (by omega) rfl) ?_
      refine RK.c (S.load1 ti3 .none rfl (.tmp rfl rfl) rfl) ?_
      refine RK.c (S.assign .none rfl (.tmp rfl rfl)) ?_
      refine RK.c (S.assign .none rfl (.tmp rfl rfl)) ?_
      refine RK.nil ?_
      refine Ab.D.code ?_
      refine OK.seq ?_
      refine OK.reg ?_
      refine RK.c (S.field fi93_2 .none rfl (.tmp rfl rfl) rfl) ?_
      refine RK.c (S.load1 ti91 .none rfl (.tmp rfl rfl) rfl) ?_
      refine RK.c (S.move .none rfl (.tmp rfl rfl)) ?_
      refine RK.c (S.indexM (n := i) si91 .none rfl (.tmp rfl rfl) (.tmp rfl rfl) rfl hix rfl) ?_
      refine RK.c (S.load1 ti112 .none rfl (.tmp rfl rfl) rfl) ?_
      refine RK.c (S.move .none rfl (.tmp rfl rfl)) ?_
      refine RK.c (S.indexM (n := j) si112 .none rfl (.tmp rfl rfl) (.tmp rfl rfl) rfl hjx rfl) ?_
      refine RK.c (S.loadN ti111 .none rfl (.tmp rfl rfl) rfl rfl) ?_
      refine RK.c (S.alloc (k := 8) ze111 rfl .none rfl) ?_
      refine RK.c (S.store ti111 .none (.tmp rfl rfl) (.tmp rfl rfl) rfl rfl rfl rfl rfl rfl) ?_
      refine RK.nil ?_
      refine Ab.D.code ?_
      refine OK.seq ?_
      refine OK.reg ?_
      refine RK.c (S.move .none rfl (.tmp rfl rfl)) ?_
      refine RK.c (S.bfield fi111_1 .none rfl (.tmp rfl rfl)) ?_
      refine RK.c (S.bload1 ti3 .none rfl (.tmp rfl rfl) rfl rfl rfl rfl) ?_
      refine RK.c (S.sub .none rfl (.tmp rfl rfl) (.tmp rfl rfl) (IntWalk.i64_in _ (by omega)) (IntWalk.i64_in _ (by omega))) ?_
      refine RK.c (S.max2 .none rfl (.cint rfl) (.tmp rfl rfl)) ?_
      refine RK.c (S.move .none rfl (.tmp rfl rfl)) ?_
      refine RK.c (S.bfield fi111_0 .none rfl (.tmp rfl rfl)) ?_
      refine RK.c (S.bload1 ti3 .none rfl (.tmp rfl rfl) rfl rfl rfl rfl) ?_
      refine RK.c (S.sub .none rfl (.tmp rfl rfl) (.tmp rfl rfl) (IntWalk.i64_in _ (by omega)) (IntWalk.i64_in _ (by omega))) ?_
      refine RK.c (S.min2 .none rfl (.cint rfl) (.tmp rfl rfl)) ?_
      refine RK.c (S.add (q := devBy r.rows[i].values[j] x.rows[i][j]) .none rfl (.tmp rfl rfl) (.tmp rfl rfl) (by show IntKind.i64.wrap (devBy _ _) = _; exact IntWalk.i64_in _ (by omega)) (IntWalk.i64_in _ (by omega))) ?_
      refine RK.c (S.assign .none rfl (.tmp rfl rfl)) ?_
      refine RK.nil ?_
      refine Ab.D.code ?_
      refine OK.seq ?_
      refine OK.reg ?_
      refine RK.c (S.move .none rfl (.tmp rfl rfl)) ?_
      refine RK.c (S.neq .none rfl (.tmp rfl rfl) (.cint rfl)) ?_
      refine RK.c (S.move .none rfl (.tmp rfl rfl)) ?_
      refine RK.splitD (t := 47) rfl (fun g47 => ?_) (fun g47 => ?_)
      ·
        have hD3 : devT x r = pre ++ ⟨i, j, devBy r.rows[i].values[j] x.rows[i][j]⟩ :: (devRow i (x.rows.getD i []) (j + 1) (r.rows[i].values.drop (j + 1)) ++ devGo x (i + 1) (r.rows.drop (i + 1))) := by rw [hD2, hstep, if_pos g47]; simp
        refine RK.c (S.move (.yes rfl rfl rfl rfl) rfl (.tmp rfl rfl)) ?_
        refine RK.c (S.move (.yes rfl rfl rfl rfl) rfl (.tmp rfl rfl)) ?_
        refine RK.c (S.move (.yes rfl rfl rfl rfl) rfl (.tmp rfl rfl)) ?_
        refine RK.c (S.move (.yes rfl rfl rfl rfl) rfl (.tmp rfl rfl)) ?_
        refine RK.c (S.build bu115 rfl (.yes rfl rfl rfl rfl) rfl (.cons (.tmp rfl rfl) (.cons (.tmp rfl rfl) (.cons (.tmp rfl rfl) .nil))) rfl rfl) ?_
        refine RK.c (S.callcb (J1 := J (g (iterG g s0 pre).1 ⟨i, j, devBy r.rows[i].values[j] x.rows[i][j]⟩).1) (cb_at hcb hD3 hrun2) (hst _) (.yes rfl rfl rfl rfl) rfl (.tmp rfl rfl) (.cons (.tmp rfl rfl) .nil) rfl rfl) ?_
        refine RK.c (S.not (.yes rfl rfl rfl rfl) rfl (.tmp rfl rfl)) ?_
        refine RK.c (S.pickT .none rfl (.tmp rfl rfl) (.tmp rfl rfl) rfl) ?_
        refine RK.nil ?_
        refine Ab.D.code ?_
        refine OK.cond rfl rfl (fun c55 => ?_) (fun c55 => ?_)
        ·
          have hstop : (g (iterG g s0 pre).1 ⟨i, j, devBy r.rows[i].values[j] x.rows[i][j]⟩).2 = false := by simpa using c55
          exact OK.ret ⟨⟨.inl rfl, [], trivial, rfl⟩, lk_res (by rw [hD3, iter_stop hrun2 hstop]), trivial⟩
        ·
          have hcont : (g (iterG g s0 pre).1 ⟨i, j, devBy r.rows[i].values[j] x.rows[i][j]⟩).2 = true := by simpa using c55
          refine OK.skip ?_
          refine Ab.D.blk ?_
          refine Ab.D.code ?_
          refine OK.reg ?_
          refine RK.c (S.add .none rfl (.tmp rfl rfl) (.cint rfl) (IntWalk.i64_in _ (by omega)) (IntWalk.i64_in _ (by omega))) ?_
          refine RK.c (S.move .none rfl (.tmp rfl rfl)) ?_
          refine RK.nil ?_
          refine Ab.D.lp ⟨j + 1, pre ++ [(⟨i, j, devBy r.rows[i].values[j] x.rows[i][j]⟩ : Deviation)], ⟨by omega, by first | exact hrun2 | rw [iter_go hrun2 hcont], by first | (rw [hD2, hstep, if_pos g47]; simp) | (rw [hD2, hstep, if_neg g47]; rfl)⟩, (by omega), rfl, rfl, rfl, rfl, rfl, rfl, rfl, rfl, rfl, rfl, (lk_res (by first | rfl | rw [iter_go hrun2 hcont])), trivial⟩
      ·
        refine RK.c (S.skip rfl rfl rfl rfl rfl) ?_
        refine RK.c (S.skip rfl rfl rfl rfl rfl) ?_
        refine RK.c (S.skip rfl rfl rfl rfl rfl) ?_
        refine RK.c (S.skip rfl rfl rfl rfl rfl) ?_
        refine RK.c (S.skip rfl rfl rfl rfl rfl) ?_
        refine RK.c (S.skip rfl rfl rfl rfl rfl) ?_
        refine RK.c (S.skip rfl rfl rfl rfl rfl) ?_
        refine RK.c (S.pickF .none rfl (.tmp rfl rfl) .cbool rfl) ?_
        refine RK.nil ?_
        refine Ab.D.code ?_
        refine OK.condF rfl rfl rfl ?_
        refine OK.skip ?_
        refine Ab.D.blk ?_
        refine Ab.D.code ?_
        refine OK.reg ?_
        refine RK.c (S.add .none rfl (.tmp rfl rfl) (.cint rfl) (IntWalk.i64_in _ (by omega)) (IntWalk.i64_in _ (by omega))) ?_
        refine RK.c (S.move .none rfl (.tmp rfl rfl)) ?_
        refine RK.nil ?_
        refine Ab.D.lp ⟨j + 1, pre, ⟨by omega, by first | exact hrun2 | rw [iter_go hrun2 hcont], by first | (rw [hD2, hstep, if_pos g47]; simp) | (rw [hD2, hstep, if_neg g47]; rfl)⟩, (by omega), rfl, rfl, rfl, rfl, rfl, rfl, rfl, rfl, rfl, rfl, (lk_res (by first | rfl | rw [iter_go hrun2 hcont])), trivial⟩
    ·
      refine OK.exit rfl ?_
      refine Ab.D.blk ?_
      refine Ab.D.code ?_
      refine OK.reg ?_
      refine RK.c (S.add .none rfl (.tmp rfl rfl) (.cint rfl) (IntWalk.i64_in _ (by omega)) (IntWalk.i64_in _ (by omega))) ?_
      refine RK.c (S.move .none rfl (.tmp rfl rfl)) ?_
      refine RK.nil ?_
      refine Ab.D.lp ⟨i + 1, pre, ⟨by omega, hrun2, by rw [hD2, show j = r.rows[i].values.length by omega, List.drop_length]; rfl⟩, (by omega), rfl, rfl, rfl, rfl, rfl, rfl, rfl, trivial⟩
  ·
    refine OK.exit rfl ?_
    exact ⟨⟨.inr rfl, [], trivial, rfl⟩, lk_res (by rw [hD, show i = r.rows.length by omega, List.drop_length, devGo, List.append_nil]), trivial⟩

end Go.Proofs.Ytfjldfkgjejpmaa
