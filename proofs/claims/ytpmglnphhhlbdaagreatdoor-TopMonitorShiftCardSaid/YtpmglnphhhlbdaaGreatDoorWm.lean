import Derived.Test.YtpmglnphhhlbdaaGreatDoorSh
import Derived.Test.YtpmglnphhhlbdaaGreatDoorWk
namespace Go.Proofs.YtpmglnphhhlbdaaGreatDoor
open Go.Ab
def devBy (n : Int) (o : Range) : Int := (if 0 < n - o.hi then n - o.hi else 0) + (if n - o.lo < 0 then n - o.lo else 0)
def devOne (t : Nat) (rs : List Range) (c : Nat) (n : Int) : List Deviation := if devBy n (rs.getD c ⟨0, 0⟩) ≠ 0 then [⟨t, c, devBy n (rs.getD c ⟨0, 0⟩)⟩] else []
def devRow (t : Nat) (rs : List Range) : Nat → List Int → List Deviation
  | _, [] => []
  | c, n :: l => devOne t rs c n ++ devRow t rs (c + 1) l
def devGo (x : Envelope) : Nat → List Row → List Deviation
  | _, [] => []
  | t, r :: l => devRow t (x.rows.getD t []) 0 r.values ++ devGo x (t + 1) l
def devT (x : Envelope) (r : Record) : List Deviation := devGo x 0 r.rows
theorem devRow_drop {t : Nat} {rs : List Range} {l : List Int} {j : Nat} (h : j < l.length) : devRow t rs j (l.drop j) = devOne t rs j l[j] ++ devRow t rs (j + 1) (l.drop (j + 1)) := by
  rw [List.drop_eq_getElem_cons h, devRow]
theorem devGo_drop {x : Envelope} {l : List Row} {i : Nat} (h : i < l.length) : devGo x i (l.drop i) = devRow i (x.rows.getD i []) 0 l[i].values ++ devGo x (i + 1) (l.drop (i + 1)) := by
  rw [List.drop_eq_getElem_cons h, devGo]
theorem getD_at {α : Type} {l : List α} {i : Nat} {d : α} (h : i < l.length) : l.getD i d = l[i] := by simp [List.getD, h]
structure FitT (x : Envelope) (r : Record) : Prop where
  rows : ∀ (i : Nat), i < r.rows.length → i < x.rows.length
  cols : ∀ (i : Nat) (h : i < r.rows.length) (h2 : i < x.rows.length) (j : Nat), j < r.rows[i].values.length → j < x.rows[i].length
  val : ∀ (i : Nat) (h : i < r.rows.length) (j : Nat) (h3 : j < r.rows[i].values.length), -1000000 ≤ r.rows[i].values[j] ∧ r.rows[i].values[j] ≤ 1000000
  rng : ∀ (i : Nat) (h2 : i < x.rows.length) (j : Nat) (h3 : j < x.rows[i].length), (-1000000 ≤ x.rows[i][j].lo ∧ x.rows[i][j].lo ≤ 1000000) ∧ (-1000000 ≤ x.rows[i][j].hi ∧ x.rows[i][j].hi ≤ 1000000)
theorem cb_at {P : Program} {σ α : Type} {encs : α → List X} {D pre rest : List α} {d : α} {J : σ → Mem → (Nat → Prop) → World → Prop} {g : σ → α → σ × Bool} {s0 : σ} {Φ : Value → Prop}
    (hcb : ∀ v, Φ v → ∀ (i : Nat) (x : α), D[i]? = some x → (iterG g s0 (D.take i)).2 = true → CbOk P v (encs x) (.bool (g (iterG g s0 (D.take i)).1 x).2) (J (iterG g s0 (D.take i)).1) (J (g (iterG g s0 (D.take i)).1 x).1))
    (hD : D = pre ++ d :: rest) (hrun : (iterG g s0 pre).2 = true) : ∀ v, Φ v → CbOk P v (encs d) (.bool (g (iterG g s0 pre).1 d).2) (J (iterG g s0 pre).1) (J (g (iterG g s0 pre).1 d).1) := by
  intro v hv
  have ht : D.take pre.length = pre := by rw [hD]; simp
  have := hcb v hv pre.length d (by rw [hD]; simp) (by rw [ht]; exact hrun)
  rw [ht] at this
  exact this
theorem iter_stop {σ α : Type} {g : σ → α → σ × Bool} {s0 : σ} {d : α} {rest : List α} : ∀ {pre : List α}, (iterG g s0 pre).2 = true → (g (iterG g s0 pre).1 d).2 = false → iterG g s0 (pre ++ d :: rest) = ((g (iterG g s0 pre).1 d).1, false) := by
  intro pre
  induction pre generalizing s0 with
  | nil =>
    intro _ h2
    simp only [iterG] at h2
    simp only [List.nil_append, iterG, h2]
    simp
  | cons x pre ih =>
    intro h1 h2
    simp only [iterG] at h1 h2
    simp only [List.cons_append, iterG]
    split at h1
    · rename_i hx; simp only [hx, if_true] at h2 ⊢; exact ih h1 h2
    · cases h1
theorem iter_go {σ α : Type} {g : σ → α → σ × Bool} {s0 : σ} {d : α} {pre : List α} (h1 : (iterG g s0 pre).2 = true) (h2 : (g (iterG g s0 pre).1 d).2 = true) : iterG g s0 (pre ++ [d]) = ((g (iterG g s0 pre).1 d).1, true) := by
  rw [iterG_snoc, if_pos h1]
  exact Prod.ext rfl h2
theorem lk_res {J J' : Mem → (Nat → Prop) → World → Prop} (h : J = J') : some (X.res J) = some (X.res J') := by rw [h]
abbrev DevCb (σ : Type) (J : σ → Mem → (Nat → Prop) → World → Prop) (g : σ → Deviation → σ × Bool) (s0 : σ) (Φ : Value → Prop) (D : List Deviation) : Prop :=
  ∀ v, Φ v → ∀ (i : Nat) (x : Deviation), D[i]? = some x → (iterG g s0 (D.take i)).2 = true → CbOk Tryz.prog v [.agg x.cs] (.bool (g (iterG g s0 (D.take i)).1 x).2) (J (iterG g s0 (D.take i)).1) (J (g (iterG g s0 (D.take i)).1 x).1)
theorem devBy_bd {n : Int} {o : Range} (h1 : -1000000 ≤ n ∧ n ≤ 1000000) (h2 : (-1000000 ≤ o.lo ∧ o.lo ≤ 1000000) ∧ (-1000000 ≤ o.hi ∧ o.hi ≤ 1000000)) : -4000000 ≤ devBy n o ∧ devBy n o ≤ 4000000 := by
  unfold devBy
  split <;> split <;> omega
theorem mon_devs1 {x : Envelope} {r : Record} (hf : FitT x r) (hrl : r.rows.length ≤ 100000) (hvl : ∀ (i : Nat) (h : i < r.rows.length), r.rows[i].values.length ≤ 100000) {σ : Type} (J : σ → Mem → (Nat → Prop) → World → Prop) (g : σ → Deviation → σ × Bool) (s0 : σ) (Φ : Value → Prop) (hst : ∀ s, Stable (J s)) (hcb : DevCb σ J g s0 Φ (devT x r)) : CtG Tryz.prog 134 [] [.cb Φ, .eptr r.cs, .eptr x.cs] [(3000, .res (J s0))] [(3000, .res (J (iterG g s0 (devT x r)).1))] (.tup []) := by
 refine CtG.intro (rs := []) Tryz.func134 rfl Tryz.ntmps134 Tryz.results134 rfl rfl rfl rfl fun w h => ?_
 refine OK.seq (OK.reg ?_)
 refine RK.c (S.field fi75_0 .none rfl (.tmp rfl rfl) rfl) ?_
 refine RK.c (S.load1 ti73 .none rfl (.tmp rfl rfl) rfl) ?_
 refine RK.c (S.lenM si73 .none rfl (.tmp rfl rfl)) ?_
 refine RK.c (S.move .none rfl (.cint rfl)) ?_
 refine RK.nil (Ab.D.code ?_)
 refine OK.block ?_
 refine OK.loop2 [] (fun (i : Nat) (pre : List Deviation) => [(0, .cb Φ), (1, .eptr r.cs), (2, .eptr x.cs), (11, .sl (r.rows.map Row.cs)), (12, .int .i64 r.rows.length), (13, .int .i64 i), (3000, .res (J (iterG g s0 pre).1))]) (fun i pre => i ≤ r.rows.length ∧ (iterG g s0 pre).2 = true ∧ devT x r = pre ++ devGo x i (r.rows.drop i)) (fun i pre => r.rows.length - i) (0) ([]) ⟨Nat.zero_le _, rfl, rfl⟩ ⟨rfl, rfl, rfl, rfl, rfl, rfl, rfl, trivial⟩ (fun _ _ => rfl) ?_
 rintro i pre ⟨hi, hrun, hD⟩
 refine OK.seq (OK.reg ?_)
 refine RK.c (S.lss .none rfl (.tmp rfl rfl) (.tmp rfl rfl)) ?_
 refine RK.nil (Ab.D.code ?_)
 refine OK.seq ?_
 refine OK.condD rfl rfl (fun c14 => ?_) (fun c14 => ?_)
 ·
  have hix : i < x.rows.length := hf.rows i (by omega)
  have hvli := hvl i (by omega)
  refine OK.skip ?_
  refine Ab.D.code ?_
  refine OK.seq ?_
  refine OK.block ?_
  refine OK.seq (OK.reg ?_)
  refine RK.c (S.move .none rfl (.tmp rfl rfl)) ?_
  refine RK.c (S.indexM si73 .none rfl (.tmp rfl rfl) (.tmp rfl rfl) rfl (by omega) rfl) ?_
  refine RK.c (S.loadN ti162 .none rfl (.tmp rfl rfl) rfl rfl) ?_
  refine RK.c (S.alloc (k := 5) ze162 rfl .none rfl) ?_
  refine RK.c (S.assign .none rfl (.tmp rfl rfl)) ?_
  refine RK.c (S.store ti162 .none (.tmp rfl rfl) (.tmp rfl rfl) rfl rfl rfl rfl rfl rfl) ?_
  refine RK.nil (Ab.D.code (OK.seq (OK.reg ?_)))
  refine RK.c (S.bfield fi162_1 .none rfl (.tmp rfl rfl)) ?_
  refine RK.c (S.bload1 ti25 .none rfl (.tmp rfl rfl) rfl rfl rfl rfl) ?_
  refine RK.c (S.lenM si25 .none rfl (.tmp rfl rfl)) ?_
  refine RK.c (S.move .none rfl (.cint rfl)) ?_
  refine RK.nil (Ab.D.code ?_)
  refine OK.block ?_
  refine OK.loop2 [] (fun (j : Nat) (pre : List Deviation) => [(0, .cb Φ), (1, .eptr r.cs), (2, .eptr x.cs), (4, .int .i64 i), (11, .sl (r.rows.map Row.cs)), (12, .int .i64 r.rows.length), (13, .int .i64 i), (19, ints r.rows[i].values), (20, .int .i64 r.rows[i].values.length), (21, .int .i64 j), (3000, .res (J (iterG g s0 pre).1))]) (fun j pre => j ≤ r.rows[i].values.length ∧ (iterG g s0 pre).2 = true ∧ devT x r = pre ++ (devRow i (x.rows.getD i []) j (r.rows[i].values.drop j) ++ devGo x (i + 1) (r.rows.drop (i + 1)))) (fun j pre => r.rows[i].values.length - j) (0) (pre) ⟨Nat.zero_le _, hrun, by rw [hD, devGo_drop (by omega)]; rfl⟩ ⟨rfl, rfl, rfl, rfl, rfl, rfl, rfl, rfl, rfl, rfl, rfl, trivial⟩ (fun _ _ => rfl) ?_
  rintro j pre ⟨hj, hrun2, hD2⟩
  refine OK.seq (OK.reg ?_)
  refine RK.c (S.lss .none rfl (.tmp rfl rfl) (.tmp rfl rfl)) ?_
  refine RK.nil (Ab.D.code ?_)
  refine OK.seq ?_
  refine OK.condD rfl rfl (fun c22 => ?_) (fun c22 => ?_)
  ·
   have hjx : j < x.rows[i].length := hf.cols i (by omega) hix j (by omega)
   have hv1 := hf.val i (by omega) j (by omega)
   have hr1 := hf.rng i hix j hjx
   have hbd := devBy_bd hv1 hr1
   have hrow : (x.rows.getD i []) = x.rows[i] := getD_at hix
   have hone : (x.rows[i].getD j ⟨0, 0⟩) = x.rows[i][j] := getD_at hjx
   have hstep : devRow i (x.rows.getD i []) j (r.rows[i].values.drop j) = (if devBy r.rows[i].values[j] x.rows[i][j] ≠ 0 then [⟨i, j, devBy r.rows[i].values[j] x.rows[i][j]⟩] else []) ++ devRow i (x.rows.getD i []) (j + 1) (r.rows[i].values.drop (j + 1)) := by rw [devRow_drop (by omega), devOne, hrow, hone]
   refine OK.skip ?_
   refine Ab.D.code ?_
   refine OK.seq ?_
   refine OK.block ?_
   refine OK.seq (OK.reg ?_)
   refine RK.c (S.move .none rfl (.tmp rfl rfl)) ?_
   refine RK.c (S.indexM (n := j) si25 .none rfl (.tmp rfl rfl) (.tmp rfl rfl) rfl (by omega) rfl) ?_
   refine RK.c (S.load1 ti3 .none rfl (.tmp rfl rfl) rfl) ?_
   refine RK.c (S.assign .none rfl (.tmp rfl rfl)) ?_
   refine RK.c (S.assign .none rfl (.tmp rfl rfl)) ?_
   refine RK.nil (Ab.D.code (OK.seq (OK.reg ?_)))
   refine RK.c (S.field fi30_2 .none rfl (.tmp rfl rfl) rfl) ?_
   refine RK.c (S.load1 ti28 .none rfl (.tmp rfl rfl) rfl) ?_
   refine RK.c (S.move .none rfl (.tmp rfl rfl)) ?_
   refine RK.c (S.indexM (n := i) si28 .none rfl (.tmp rfl rfl) (.tmp rfl rfl) rfl hix rfl) ?_
   refine RK.c (S.load1 ti114 .none rfl (.tmp rfl rfl) rfl) ?_
   refine RK.c (S.move .none rfl (.tmp rfl rfl)) ?_
   refine RK.c (S.indexM (n := j) si114 .none rfl (.tmp rfl rfl) (.tmp rfl rfl) rfl hjx rfl) ?_
   refine RK.c (S.loadN ti113 .none rfl (.tmp rfl rfl) rfl rfl) ?_
   refine RK.c (S.alloc (k := 8) ze113 rfl .none rfl) ?_
   refine RK.c (S.store ti113 .none (.tmp rfl rfl) (.tmp rfl rfl) rfl rfl rfl rfl rfl rfl) ?_
   refine RK.nil (Ab.D.code (OK.seq (OK.reg ?_)))
   refine RK.c (S.move .none rfl (.tmp rfl rfl)) ?_
   refine RK.c (S.bfield fi113_1 .none rfl (.tmp rfl rfl)) ?_
   refine RK.c (S.bload1 ti3 .none rfl (.tmp rfl rfl) rfl rfl rfl rfl) ?_
   refine RK.c (S.sub .none rfl (.tmp rfl rfl) (.tmp rfl rfl) (IntWalk.i64_in _ (by omega)) (IntWalk.i64_in _ (by omega))) ?_
   refine RK.c (S.max2 .none rfl (.cint rfl) (.tmp rfl rfl)) ?_
   refine RK.c (S.move .none rfl (.tmp rfl rfl)) ?_
   refine RK.c (S.bfield fi113_0 .none rfl (.tmp rfl rfl)) ?_
   refine RK.c (S.bload1 ti3 .none rfl (.tmp rfl rfl) rfl rfl rfl rfl) ?_
   refine RK.c (S.sub .none rfl (.tmp rfl rfl) (.tmp rfl rfl) (IntWalk.i64_in _ (by omega)) (IntWalk.i64_in _ (by omega))) ?_
   refine RK.c (S.min2 .none rfl (.cint rfl) (.tmp rfl rfl)) ?_
   refine RK.c (S.add (q := devBy r.rows[i].values[j] x.rows[i][j]) .none rfl (.tmp rfl rfl) (.tmp rfl rfl) (by show IntKind.i64.wrap (devBy _ _) = _; exact IntWalk.i64_in _ (by omega)) (IntWalk.i64_in _ (by omega))) ?_
   refine RK.c (S.assign .none rfl (.tmp rfl rfl)) ?_
   refine RK.nil (Ab.D.code (OK.seq (OK.reg ?_)))
   refine RK.c (S.move .none rfl (.tmp rfl rfl)) ?_
   refine RK.c (S.neq .none rfl (.tmp rfl rfl) (.cint rfl)) ?_
   refine RK.c (S.move .none rfl (.tmp rfl rfl)) ?_
   refine RK.splitD (t := 47) rfl (fun g47 => ?_) (fun g47 => ?_)
   ·
    have hD3 : devT x r = pre ++ ⟨i, j, devBy r.rows[i].values[j] x.rows[i][j]⟩ :: (devRow i (x.rows.getD i []) (j + 1) (r.rows[i].values.drop (j + 1)) ++ devGo x (i + 1) (r.rows.drop (i + 1))) := by rw [hD2, hstep, if_pos g47]; simp
    refine RK.c (S.move (.yes rfl rfl rfl rfl) rfl (.tmp rfl rfl)) ?_
    refine RK.c (S.move (.yes rfl rfl rfl rfl) rfl (.tmp rfl rfl)) ?_
    refine RK.c (S.move (.yes rfl rfl rfl rfl) rfl (.tmp rfl rfl)) ?_
    refine RK.c (S.move (.yes rfl rfl rfl rfl) rfl (.tmp rfl rfl)) ?_
    refine RK.c (S.build bu117 rfl (.yes rfl rfl rfl rfl) rfl (.cons (.tmp rfl rfl) (.cons (.tmp rfl rfl) (.cons (.tmp rfl rfl) .nil))) rfl rfl) ?_
    refine RK.c (S.callcb (J1 := J (g (iterG g s0 pre).1 ⟨i, j, devBy r.rows[i].values[j] x.rows[i][j]⟩).1) (cb_at hcb hD3 hrun2) (hst _) (.yes rfl rfl rfl rfl) rfl (.tmp rfl rfl) (.cons (.tmp rfl rfl) .nil) rfl rfl) ?_
    refine RK.c (S.not (.yes rfl rfl rfl rfl) rfl (.tmp rfl rfl)) ?_
    refine RK.c (S.pickT .none rfl (.tmp rfl rfl) (.tmp rfl rfl) rfl) ?_
    refine RK.nil (Ab.D.code ?_)
    refine OK.cond rfl rfl (fun c55 => ?_) (fun c55 => ?_)
    ·
     have hstop : (g (iterG g s0 pre).1 ⟨i, j, devBy r.rows[i].values[j] x.rows[i][j]⟩).2 = false := by simpa using c55
     exact OK.ret ⟨⟨.inl rfl, [], trivial, rfl⟩, lk_res (by rw [hD3, iter_stop hrun2 hstop]), trivial⟩
    ·
     have hcont : (g (iterG g s0 pre).1 ⟨i, j, devBy r.rows[i].values[j] x.rows[i][j]⟩).2 = true := by simpa using c55
     refine OK.skip ?_
     refine Ab.D.blk ?_
     refine Ab.D.code (OK.reg ?_)
     refine RK.c (S.add .none rfl (.tmp rfl rfl) (.cint rfl) (IntWalk.i64_in _ (by omega)) (IntWalk.i64_in _ (by omega))) ?_
     refine RK.c (S.move .none rfl (.tmp rfl rfl)) ?_
     refine RK.nil ?_
     refine Ab.D.lp ⟨j + 1, pre ++ [(⟨i, j, devBy r.rows[i].values[j] x.rows[i][j]⟩ : Deviation)], ⟨by omega, by first | exact hrun2 | rw [iter_go hrun2 hcont], by first | (rw [hD2, hstep, if_pos g47]; simp) | (rw [hD2, hstep, if_neg g47]; rfl)⟩, (by omega), rfl, rfl, rfl, rfl, rfl, rfl, rfl, rfl, rfl, rfl, (lk_res (by first | rfl | rw [iter_go hrun2 hcont])), trivial⟩
   ·
    refine RK.c (S.skip rfl rfl rfl rfl rfl) ?_
    refine RK.c (S.skip rfl rfl rfl rfl rfl) ?_
    refine RK.c (S.skip rfl rfl rfl rfl rfl) ?_
    refine RK.c (S.skip rfl rfl rfl rfl rfl) ?_
    refine RK.c (S.skip rfl rfl rfl rfl rfl) ?_
    refine RK.c (S.skip rfl rfl rfl rfl rfl) ?_
    refine RK.c (S.skip rfl rfl rfl rfl rfl) ?_
    refine RK.c (S.pickF .none rfl (.tmp rfl rfl) .cbool rfl) ?_
    refine RK.nil (Ab.D.code ?_)
    refine OK.condF rfl rfl rfl ?_
    refine OK.skip ?_
    refine Ab.D.blk ?_
    refine Ab.D.code (OK.reg ?_)
    refine RK.c (S.add .none rfl (.tmp rfl rfl) (.cint rfl) (IntWalk.i64_in _ (by omega)) (IntWalk.i64_in _ (by omega))) ?_
    refine RK.c (S.move .none rfl (.tmp rfl rfl)) ?_
    refine RK.nil ?_
    refine Ab.D.lp ⟨j + 1, pre, ⟨by omega, by first | exact hrun2 | rw [iter_go hrun2 hcont], by first | (rw [hD2, hstep, if_pos g47]; simp) | (rw [hD2, hstep, if_neg g47]; rfl)⟩, (by omega), rfl, rfl, rfl, rfl, rfl, rfl, rfl, rfl, rfl, rfl, (lk_res (by first | rfl | rw [iter_go hrun2 hcont])), trivial⟩
  ·
   refine OK.exit rfl ?_
   refine Ab.D.blk ?_
   refine Ab.D.code (OK.reg ?_)
   refine RK.c (S.add .none rfl (.tmp rfl rfl) (.cint rfl) (IntWalk.i64_in _ (by omega)) (IntWalk.i64_in _ (by omega))) ?_
   refine RK.c (S.move .none rfl (.tmp rfl rfl)) ?_
   refine RK.nil ?_
   refine Ab.D.lp ⟨i + 1, pre, ⟨by omega, hrun2, by rw [hD2, show j = r.rows[i].values.length by omega, List.drop_length]; rfl⟩, (by omega), rfl, rfl, rfl, rfl, rfl, rfl, rfl, trivial⟩
 ·
  refine OK.exit rfl ?_
  exact ⟨⟨.inr rfl, [], trivial, rfl⟩, lk_res (by rw [hD, show i = r.rows.length by omega, List.drop_length, devGo, List.append_nil]), trivial⟩
end Go.Proofs.YtpmglnphhhlbdaaGreatDoor
namespace Go.Proofs.YtpmglnphhhlbdaaGreatDoor
open Go.Ab
theorem iter_push {α : Type} : ∀ (l : List α) (q0 : List α), iterG (Ab.stepG (fun (q : List α) (d : α) => (q ++ [d], (none : Option Code)))) (q0, none) l = ((q0 ++ l, none), true)
  | [], q0 => by simp [iterG]
  | x :: l, q0 => by
    simp only [iterG, Ab.stepG, Option.isNone_none, if_true]
    rw [iter_push l (q0 ++ [x])]
    simp
theorem lk_box1 {k n n' : Nat} (h : n = n') : some (X.box [.own k n]) = some (X.box [.own k n']) := by rw [h]
theorem devOne_len (t : Nat) (rs : List Range) (c : Nat) (n : Int) : (devOne t rs c n).length ≤ 1 := by
  unfold devOne
  split <;> simp
theorem devRow_len (t : Nat) (rs : List Range) : ∀ (l : List Int) (c : Nat), (devRow t rs c l).length ≤ l.length
  | [], _ => Nat.le_refl _
  | n :: l, c => by
    have h1 := devOne_len t rs c n
    have h2 := devRow_len t rs l (c + 1)
    rw [devRow, List.length_append, List.length_cons]
    omega
theorem devGo_len (x : Envelope) (m : Nat) : ∀ (l : List Row) (t : Nat), (∀ r ∈ l, r.values.length ≤ m) → (devGo x t l).length ≤ l.length * m
  | [], _, _ => by simp [devGo]
  | r :: l, t, h => by
    have h1 := devRow_len t (x.rows.getD t []) r.values 0
    have h2 := devGo_len x m l (t + 1) fun q hq => h q (List.mem_cons_of_mem _ hq)
    have h3 := h r List.mem_cons_self
    rw [devGo, List.length_append, List.length_cons, Nat.succ_mul]
    omega
structure BothT (p : Plan) (x : Envelope) (r : Record) : Prop where
  fit : FitT x r
  rows : r.rows.length ≤ 12
  vals : ∀ (i : Nat) (h : i < r.rows.length), r.rows[i].values.length ≤ 4
theorem range_ok {x : Range} (h : rangeErr x = 0) : ((-1000000 ≤ x.lo ∧ x.lo ≤ 1000000) ∧ (-1000000 ≤ x.hi ∧ x.hi ≤ 1000000)) ∧ x.lo ≤ x.hi := by
  unfold rangeErr at h
  split at h
  · cases h
  · rename_i h1
    split at h
    · rename_i h2; exact ⟨Decidable.not_not.1 h1, h2⟩
    · cases h
theorem env_rows {p : Plan} {x : Envelope} (h : (envChk p x).2 = 0) : (1 ≤ x.parts ∧ x.parts ≤ 20) ∧ trimErr x.trim x.parts = 0 ∧ (x.rows.length : Int) = p.ticks ∧ (∀ (i : Nat) (h : i < x.rows.length), x.rows[i].length = p.channels.length ∧ ∀ (j : Nat) (h2 : j < x.rows[i].length), rangeErr x.rows[i][j] = 0) := by
  unfold envChk at h
  split at h
  · cases h
  · rename_i h1
    split at h
    · rename_i h2; exact absurd h h2
    · rename_i h2
      split at h
      · cases h
      · rename_i h3
        refine ⟨Decidable.not_not.1 h1, Decidable.not_not.1 h2, Decidable.not_not.1 h3, fun i hi => ?_⟩
        have h4 := eachGo_all _ _ 0 h i hi
        unfold erowErr at h4
        split at h4
        · cases h4
        · rename_i h5
          exact ⟨Decidable.not_not.1 h5, fun j hj => eachGo_all _ _ 0 h4 j hj⟩
theorem rec_rows {p : Plan} {r : Record} (h : (recChk p r).2 = 0) : (r.rows.length : Int) = p.ticks ∧ ∀ (i : Nat) (h : i < r.rows.length), rowErr p r.rows[i] = 0 := by
  unfold recChk at h
  split at h
  · cases h
  · rename_i h1
    exact ⟨Decidable.not_not.1 h1, fun i hi => eachGo_all _ _ 0 h i hi⟩
theorem row_ok {p : Plan} {r : Row} (h : rowErr p r = 0) : (r.known = true → r.values.length = p.channels.length) ∧ (r.known = false → r.values.length = 0) ∧ ∀ (j : Nat) (h2 : j < r.values.length), -1000000 ≤ r.values[j] ∧ r.values[j] ≤ 1000000 := by
  unfold rowErr at h
  split at h
  · rename_i hk
    unfold valuesErr at h
    split at h
    · cases h
    · rename_i h1
      split at h
      · rename_i h2
        exact ⟨fun _ => Decidable.not_not.1 h1, (fun e => by rw [hk] at e; cases e), fun j hj => of_decide_eq_true (List.all_eq_true.1 h2 _ (List.getElem_mem hj))⟩
      · cases h
  · rename_i hk
    split at h
    · rename_i h1
      exact ⟨fun e => absurd e hk, fun _ => h1, fun j hj => by omega⟩
    · cases h
theorem both_of {p : Plan} {x : Envelope} {r : Record} (h : bothErr p x r = 0) : BothT p x r := by
  unfold bothErr at h
  split at h
  · rename_i h1; exact absurd h h1
  · rename_i h1
    split at h
    · rename_i h2; exact absurd h h2
    · rename_i h2
      have hp := planErr_0 (Decidable.not_not.1 h1)
      obtain ⟨_, _, e3, e4⟩ := env_rows (Decidable.not_not.1 h2)
      obtain ⟨f1, f2⟩ := rec_rows h
      have hv : ∀ (i : Nat) (hi : i < r.rows.length), r.rows[i].values.length ≤ p.channels.length := fun i hi => by
        obtain ⟨g1, g2, _⟩ := row_ok (f2 i hi)
        cases hk : r.rows[i].known with
        | true => have := g1 hk; omega
        | false => have := g2 hk; omega
      refine ⟨⟨fun i hi => by omega, fun i hi h2 j hj => by have := hv i hi; have := (e4 i h2).1; omega, fun i hi j hj => (row_ok (f2 i hi)).2.2 j hj, fun i hi j hj => (range_ok ((e4 i hi).2 j hj)).1⟩, by omega, fun i hi => by have := hv i hi; omega⟩
theorem both_len {p : Plan} {x : Envelope} {r : Record} (h : BothT p x r) : (devT x r).length ≤ 100000 := by
  have h1 := devGo_len x 4 r.rows 0 fun q hq => by
    obtain ⟨i, hi, rfl⟩ := List.getElem_of_mem hq
    exact h.vals i hi
  have h2 := h.rows
  unfold devT
  omega
def wholeR (l : List (List Int)) : Record := ⟨l.map fun v => ⟨true, v⟩⟩
def planE : Plan := ⟨[[112, 111, 119, 101, 114], [102, 108, 111, 119]], 2⟩
def recsE : List Record := [wholeR [[10, 5], [12, 5]], wholeR [[11, 6], [12, 4]], wholeR [[13, 5], [11, 5]]]
def envE : Envelope := ⟨3, 0, [[⟨10, 13⟩, ⟨5, 6⟩], [⟨11, 12⟩, ⟨4, 5⟩]]⟩
def ruleE : Rule := ⟨10, 1, 3⟩
theorem appendSeq_dev {gf : Nat} {caps : List X} {D : List Deviation} (hseq : SeqOk Tryz.prog gf caps (fun d => [.agg (Deviation.cs d)]) D) (hcall : CallOk gf) (hc : Clean caps) (hlen : D.length ≤ 100000) : Ct Tryz.prog 133 [.nils, .fn gf caps] (.sl (D.map Deviation.cs)) := by
  refine Ct.intro (rs := [.tmp 4]) Tryz.func133 rfl Tryz.ntmps133 Tryz.results133 rfl rfl rfl fun w h => ?_
  refine OK.seq (OK.reg ?_)
  refine RK.c (S.box (k := 2) rfl .none rfl (.tmp rfl rfl) rfl) ?_
  refine RK.c (S.assign .none rfl .cnil) ?_
  refine RK.nil (Ab.D.code (OK.seq (OK.seq (OK.reg ?_))))
  refine RK.c (S.move .none rfl (.tmp rfl rfl)) ?_
  refine RK.nil (Ab.D.code ?_)
  refine OK.block ?_
  refine OK.boxOwn 2 0 880 3 rfl rfl rfl rfl rfl ?_
  refine OK.rangeFunc (ps := [7]) (encs := (fun d => [.agg (Deviation.cs d)])) (L := D) [2, 880] [(2, .ptr 2 0)] (fun q => [(1002, .box [.own 880 q.length]), (2880, .arr 3 (q.map Deviation.cs))]) ([] : List Deviation) (fun q d => (q ++ [d], none)) (hseq) hcall (.inl rfl) (.tmp rfl rfl) hc.1 hc.2 ⟨rfl, rfl, (lk_arr (by first | rfl | (simp; done) | (simp; omega))), trivial⟩ (fun _ => rfl) (fun _ => rfl) (fun _ => rfl) (fun _ => rfl) (fun _ => rfl) (by decide) rfl ?_ ?_ ?_
  · rintro i x q hx hq lr c0 w0 p1 p2 hR1 hR2
    rw [iter_push] at hq
    have hq2 : D.take i = q := by simpa using hq
    have hql : q.length ≤ 100000 := by rw [← hq2, List.length_take]; omega
    refine OK.reg ?_
    refine RK.c (S.alloc (k := 5) ze117 rfl .none rfl) ?_
    refine RK.c (S.store ti117 .none (.tmp rfl rfl) (.tmp rfl rfl) rfl rfl rfl rfl rfl rfl) ?_
    refine RK.nil ?_
    refine ⟨rfl, ?_⟩
    refine OK.block ?_
    refine OK.reg ?_
    refine RK.c (S.bload1 ti85 .none rfl (.tmp rfl rfl) rfl rfl rfl rfl) ?_
    refine RK.c (S.bloadN ti117 .none rfl (.tmp rfl rfl) rfl rfl rfl rfl) ?_
    refine RK.c (S.mkSlice (k := 10) (rows := [[_, _, _]]) ai85 .none rfl (.cons (.tmp rfl rfl) .nil) rfl rfl rfl rfl rfl rfl rfl) ?_
    refine RK.c (S.append ai85 .none rfl (.tmp rfl rfl) rfl (by simp) (.tmp rfl rfl) rfl (by first | rfl | (simp; done) | (simp; omega)) (by omega) (by simp only [maxLen]; omega)) ?_
    refine RK.c (S.store ti85 .none (.tmp rfl rfl) (.tmp rfl rfl) rfl rfl rfl rfl rfl rfl) ?_
    refine RK.nil ?_
    refine Ab.D.blk ?_
    exact ⟨rfl, lk_box1 (by simp), lk_arr (by rw [List.map_append]; rfl), trivial⟩
  · rintro q hq
    rw [iter_push] at hq
    have hq2 : D = q := by simpa using hq
    subst hq2
    refine Ab.D.blk ?_
    refine Ab.D.code (OK.seq (OK.reg ?_))
    refine RK.c (S.bload1 ti85 .none rfl (.tmp rfl rfl) rfl rfl rfl rfl) ?_
    refine RK.c (S.assign .none rfl (.tmp rfl rfl)) ?_
    refine RK.nil (Ab.D.code ?_)
    refine OK.ret (Ret.r1 (.tmp rfl rfl (.c (.own rfl rfl (by first | rfl | (simp; done) | (simp; omega))) rfl) rfl) ?_)
    rfl
  · rintro q cd hq
    rw [iter_push] at hq
    cases hq
theorem collect_dev {gf : Nat} {caps : List X} {D : List Deviation} (hseq : SeqOk Tryz.prog gf caps (fun d => [.agg (Deviation.cs d)]) D) (hcall : CallOk gf) (hc : Clean caps) (hlen : D.length ≤ 100000) : Ct Tryz.prog 94 [.fn gf caps] (.sl (D.map Deviation.cs)) := by
 refine Ct.intro (rs := [.tmp 2]) Tryz.func94 rfl Tryz.ntmps94 Tryz.results94 rfl rfl rfl fun w h => ?_
 refine OK.seq (OK.reg ?_)
 refine RK.c (S.assign .none rfl .cnil) ?_
 refine RK.nil (Ab.D.code (OK.seq (OK.reg ?_)))
 refine RK.c (S.move .none rfl (.tmp rfl rfl)) ?_
 refine RK.c (S.call (appendSeq_dev hseq hcall hc hlen) Tryz.call133 .none rfl (.cons .cnils (.cons (.tmp rfl rfl) .nil)) (by simp [okArg, okV, okC, okP, isTup, hc.1])) ?_
 refine RK.c (S.assign .none rfl (.tmp rfl rfl)) ?_
 refine RK.nil (Ab.D.code ?_)
 refine OK.ret (Ret.r1 (.tmp rfl rfl (.c (.same rfl) rfl) rfl) ?_)
 rfl
theorem mon_deviations {x : Envelope} {r : Record} : Ct Tryz.prog 95 [.agg x.cs, .agg r.cs] (.fn 134 [.eptr r.cs, .eptr x.cs]) := by
 refine Ct.intro (rs := [.tmp 4]) Tryz.func95 rfl Tryz.ntmps95 Tryz.results95 rfl rfl rfl fun w h => ?_
 refine OK.seq (OK.reg ?_)
 refine RK.c (S.box (k := 2) rfl .none rfl (.tmp rfl rfl) rfl) ?_
 refine RK.c (S.box (k := 3) rfl .none rfl (.tmp rfl rfl) rfl) ?_
 refine RK.c (S.assign .none rfl .craw) ?_
 refine RK.nil (Ab.D.code (OK.seq (OK.reg ?_)))
 refine RK.c (S.makeFunc2 .none rfl (.tmp rfl rfl) (.tmp rfl rfl) rfl rfl) ?_
 refine RK.c (S.assign .none rfl (.tmp rfl rfl)) ?_
 refine RK.nil (Ab.D.code ?_)
 refine OK.ret (Ret.r1 (.tmp rfl rfl (.fn (.k (.ptr rfl rfl rfl rfl) (.k (.ptr rfl rfl rfl rfl) .z)) rfl) rfl) ?_)
 rfl
theorem mon_DeviationsOf {p : Plan} {x : Envelope} {r : Record} : Ct Tryz.prog 41 [.agg p.cs, .agg x.cs, .agg r.cs] (.tup [devs (if bothErr p x r = 0 then devT x r else []), .int .i64 (bothErr p x r)]) := by
 refine Ct.intro (rs := [.tmp 6, .tmp 7]) Tryz.func41 rfl Tryz.ntmps41 Tryz.results41 rfl rfl rfl fun w h => ?_
 refine OK.seq (OK.reg ?_)
 refine RK.c (S.box (k := 3) rfl .none rfl (.tmp rfl rfl) rfl) ?_
 refine RK.c (S.box (k := 4) rfl .none rfl (.tmp rfl rfl) rfl) ?_
 refine RK.c (S.box (k := 5) rfl .none rfl (.tmp rfl rfl) rfl) ?_
 refine RK.c (S.assign .none rfl .cnil) ?_
 refine RK.c (S.assign .none rfl (.cint rfl)) ?_
 refine RK.nil (Ab.D.code (OK.seq (OK.seq (OK.reg ?_))))
 refine RK.c (S.bloadN ti24 .none rfl (.tmp rfl rfl) rfl rfl rfl rfl) ?_
 refine RK.c (S.bloadN ti30 .none rfl (.tmp rfl rfl) rfl rfl rfl rfl) ?_
 refine RK.c (S.bloadN ti75 .none rfl (.tmp rfl rfl) rfl rfl rfl rfl) ?_
 refine RK.c (S.call (mon_openBoth) Tryz.call90 .none rfl (.cons (.tmp rfl rfl) (.cons (.tmp rfl rfl) (.cons (.tmp rfl rfl) .nil))) rfl) ?_
 refine RK.c (S.assign .none rfl (.tmp rfl rfl)) ?_
 refine RK.nil (Ab.D.code (OK.seq (OK.reg ?_)))
 refine RK.c (S.move .none rfl (.tmp rfl rfl)) ?_
 refine RK.c (S.neq .none rfl (.tmp rfl rfl) (.cint rfl)) ?_
 refine RK.nil (Ab.D.code ?_)
 refine OK.condD rfl rfl (fun c14 => ?_) (fun c14 => ?_)
 ·
  refine OK.seq (OK.reg ?_)
  refine RK.c (S.move .none rfl (.tmp rfl rfl)) ?_
  refine RK.c (S.assign .none rfl .cnil) ?_
  refine RK.c (S.assign .none rfl (.tmp rfl rfl)) ?_
  refine RK.nil (Ab.D.code ?_)
  refine OK.ret (Ret.r2 (.tmp rfl rfl (.c (.same rfl) rfl) rfl) (.tmp rfl rfl (.c (.same rfl) rfl) rfl) ?_)
  rw [if_neg (show ¬ bothErr p x r = 0 from c14)]
  rfl
 ·
  have he : bothErr p x r = 0 := by omega
  have hb := both_of he
  refine OK.skip ?_
  refine Ab.D.code (OK.seq (OK.reg ?_))
  refine RK.c (S.bloadN ti30 .none rfl (.tmp rfl rfl) rfl rfl rfl rfl) ?_
  refine RK.c (S.bloadN ti75 .none rfl (.tmp rfl rfl) rfl rfl rfl rfl) ?_
  refine RK.c (S.call (mon_deviations) Tryz.call95 .none rfl (.cons (.tmp rfl rfl) (.cons (.tmp rfl rfl) .nil)) rfl) ?_
  refine RK.c (S.call (collect_dev (D := devT x r) (fun J g s0 Φ hst hcb => mon_devs1 hb.fit (by have := hb.rows; omega) (fun i h => by have := hb.vals i h; omega) J g s0 Φ hst hcb) Tryz.call134 ⟨rfl, rfl⟩ (both_len hb)) Tryz.call94 .none rfl (.cons (.tmp rfl rfl) .nil) rfl) ?_
  refine RK.c (S.assign .none rfl (.tmp rfl rfl)) ?_
  refine RK.c (S.assign .none rfl (.cint rfl)) ?_
  refine RK.nil (Ab.D.code ?_)
  refine OK.ret (Ret.r2 (.tmp rfl rfl (.c (.same rfl) rfl) rfl) (.tmp rfl rfl (.c (.same rfl) rfl) rfl) ?_)
  rw [if_pos he, he]
  rfl
theorem law_Plan  : Ct Tryz.prog 45 [] (.agg planE.cs) := by
 refine Ct.intro (rs := [.cell 0 24]) Tryz.func45 rfl Tryz.ntmps45 Tryz.results45 rfl rfl rfl fun w h => ?_
 refine OK.seq (OK.reg ?_)
 refine RK.c (S.alloc (k := 0) ze24 rfl .none rfl) ?_
 refine RK.nil (Ab.D.code (OK.seq (OK.reg ?_)))
 refine RK.c (S.mkData (rows := [[_], [_]]) ai22 .none rfl (.cons (.cstr (l := [112, 111, 119, 101, 114]) rfl (by decide)) (.cons (.cstr (l := [102, 108, 111, 119]) rfl (by decide)) .nil)) rfl rfl rfl rfl rfl rfl rfl) ?_
 refine RK.c (S.build bu24 rfl .none rfl (.cons (.tmp rfl rfl) (.cons (.cint rfl) .nil)) rfl rfl) ?_
 refine RK.c (S.store ti24 .none (.tmp rfl rfl) (.tmp rfl rfl) rfl rfl rfl rfl rfl rfl) ?_
 refine RK.nil (Ab.D.code ?_)
 refine OK.ret (Ret.r1 (.cellN rfl rfl rfl rfl ti24 rfl (.k (.same rfl) (.k (.same rfl) .z))) ?_)
 rfl
theorem law_Whole {l : List (List Int)} (hlen : l.length ≤ 1000) : Ct Tryz.prog 47 [.sl (l.map (fun v => [X.sl (v.map fun n => [.int .i64 n])]))] (.agg (wholeR l).cs) := by
 refine Ct.intro (rs := [.cell 2 75]) Tryz.func47 rfl Tryz.ntmps47 Tryz.results47 rfl rfl rfl fun w h => ?_
 refine OK.seq (OK.reg ?_)
 refine RK.c (S.alloc (k := 2) ze75 rfl .none rfl) ?_
 refine RK.nil (Ab.D.code (OK.seq (OK.reg ?_)))
 refine RK.c (S.alloc (k := 3) ze75 rfl .none rfl) ?_
 refine RK.nil (Ab.D.code (OK.seq (OK.seq (OK.reg ?_))))
 refine RK.c (S.assign .none rfl (.cint rfl)) ?_
 refine RK.nil (Ab.D.code ?_)
 refine OK.block ?_
 refine OK.boxOwn 3 0 890 2 rfl rfl rfl rfl rfl ?_
 refine OK.loop (G := Nat) [2, 3, 890] (fun i => [(0, .sl (l.map (fun v => [X.sl (v.map fun n => [.int .i64 n])]))), (2, .ptr 2 0), (1002, .box [.nils]), (3, .ptr 3 0), (1003, .box [.own 890 i]), (2890, .arr 2 (((l.take i).map fun v => (⟨true, v⟩ : Row)).map Row.cs)), (4, .int .i64 i)]) (fun i => i ≤ l.length) (fun i => l.length - i) 0 (Nat.zero_le _) ⟨rfl, rfl, rfl, rfl, rfl, (lk_arr (by first | rfl | (simp; done) | (simp; omega))), rfl, trivial⟩ (fun _ => rfl) ?_
 rintro i hi
 refine OK.seq (OK.seq (OK.reg ?_))
 refine RK.c (S.move .none rfl (.tmp rfl rfl)) ?_
 refine RK.c (S.move .none rfl (.tmp rfl rfl)) ?_
 refine RK.c (S.lenM si179 .none rfl (.tmp rfl rfl)) ?_
 refine RK.c (S.lss .none rfl (.tmp rfl rfl) (.tmp rfl rfl)) ?_
 refine RK.nil (Ab.D.code ?_)
 refine OK.condD rfl rfl (fun c8 => ?_) (fun c8 => ?_)
 ·
  refine OK.skip ?_
  refine Ab.D.code ?_
  refine OK.seq ?_
  refine OK.block ?_
  refine OK.regionDraw follows (.c (S.bfield fi75_0 .none rfl (.tmp rfl rfl))
   (.c (S.bload1 ti73 .none rfl (.tmp rfl rfl) rfl rfl rfl rfl)
   (.c (S.move .none rfl (.tmp rfl rfl))
   (.c (S.move .none rfl (.tmp rfl rfl))
   (.c (S.indexM si179 .none rfl (.tmp rfl rfl) (.tmp rfl rfl) rfl (by omega) rfl)
   (.c (S.load1 ti25 .none rfl (.tmp rfl rfl) rfl)
   (.c (S.build bu162 rfl .none rfl (.cons .cbool (.cons (.tmp rfl rfl) .nil)) rfl rfl)
   (.c (S.mkSlice (k := 18) (rows := [[_, _]]) ai73 .none rfl (.cons (.tmp rfl rfl) .nil) rfl rfl rfl rfl rfl rfl rfl)
   (.c (S.append ai73 .none rfl (.tmp rfl rfl) rfl (by simp; omega) (.tmp rfl rfl) rfl (by first | rfl | (simp; done) | (simp; omega)) (by omega) (by simp only [maxLen]; omega))
   (.c (S.bfield fi75_0 .none rfl (.tmp rfl rfl))
   (.c (S.store ti73 .none (.tmp rfl rfl) (.tmp rfl rfl) rfl rfl rfl rfl rfl rfl)
   .nil))))))))))) (by kernel_rfl) ?_
  refine Ab.D.blk ?_
  refine Ab.D.code (OK.reg ?_)
  refine RK.c (S.move .none rfl (.tmp rfl rfl)) ?_
  refine RK.c (S.add .none rfl (.tmp rfl rfl) (.cint rfl) (IntWalk.i64_in _ (by omega)) (IntWalk.i64_in _ (by omega))) ?_
  refine RK.c (S.assign .none rfl (.tmp rfl rfl)) ?_
  refine RK.nil ?_
  refine Ab.D.lp ⟨i + 1, (by omega), (by omega), rfl, rfl, rfl, rfl, rfl, (lk_arr (by rw [← take_snoc (by omega)]; simp only [List.map_append, List.map_cons, List.map_nil]; rfl)), rfl, trivial⟩
 ·
  refine OK.exit rfl ?_
  refine Ab.D.code (OK.seq (OK.reg ?_))
  refine RK.c (S.bloadN ti75 .none rfl (.tmp rfl rfl) rfl rfl rfl rfl) ?_
  refine RK.c (S.store ti75 .none (.tmp rfl rfl) (.tmp rfl rfl) rfl rfl rfl rfl rfl rfl) ?_
  refine RK.nil (Ab.D.code ?_)
  refine OK.ret (Ret.r1 (.cellN rfl rfl rfl rfl ti75 rfl (.k (.own rfl rfl (by first | rfl | (simp; done) | (simp; omega))) .z)) ?_)
  rw [show i = l.length by omega, List.take_length]
  rfl
theorem law_Records  : Ct Tryz.prog 46 [] (.sl (recsE.map Record.cs)) := by
 refine Ct.intro (rs := [.tmp 0]) Tryz.func46 rfl Tryz.ntmps46 Tryz.results46 rfl rfl rfl fun w h => ?_
 refine OK.seq (OK.reg ?_)
 refine RK.c (S.assign .none rfl .cnil) ?_
 refine RK.nil (Ab.D.code (OK.seq (OK.reg ?_)))
 refine RK.c (S.mkData (rows := [[_], [_]]) ai25 .none rfl (.cons (.cint rfl) (.cons (.cint rfl) .nil)) rfl rfl rfl rfl rfl rfl rfl) ?_
 refine RK.c (S.mkData (rows := [[_], [_]]) ai25 .none rfl (.cons (.cint rfl) (.cons (.cint rfl) .nil)) rfl rfl rfl rfl rfl rfl rfl) ?_
 refine RK.c (S.mkData (rows := [[_], [_]]) ai179 .none rfl (.cons (.tmp rfl rfl) (.cons (.tmp rfl rfl) .nil)) rfl rfl rfl rfl rfl rfl rfl) ?_
 refine RK.c (S.call (law_Whole (l := [[10, 5], [12, 5]]) (by decide)) Tryz.call47 .none rfl (.cons (.tmp rfl rfl) .nil) rfl) ?_
 refine RK.c (S.mkData (rows := [[_], [_]]) ai25 .none rfl (.cons (.cint rfl) (.cons (.cint rfl) .nil)) rfl rfl rfl rfl rfl rfl rfl) ?_
 refine RK.c (S.mkData (rows := [[_], [_]]) ai25 .none rfl (.cons (.cint rfl) (.cons (.cint rfl) .nil)) rfl rfl rfl rfl rfl rfl rfl) ?_
 refine RK.c (S.mkData (rows := [[_], [_]]) ai179 .none rfl (.cons (.tmp rfl rfl) (.cons (.tmp rfl rfl) .nil)) rfl rfl rfl rfl rfl rfl rfl) ?_
 refine RK.c (S.call (law_Whole (l := [[11, 6], [12, 4]]) (by decide)) Tryz.call47 .none rfl (.cons (.tmp rfl rfl) .nil) rfl) ?_
 refine RK.c (S.mkData (rows := [[_], [_]]) ai25 .none rfl (.cons (.cint rfl) (.cons (.cint rfl) .nil)) rfl rfl rfl rfl rfl rfl rfl) ?_
 refine RK.c (S.mkData (rows := [[_], [_]]) ai25 .none rfl (.cons (.cint rfl) (.cons (.cint rfl) .nil)) rfl rfl rfl rfl rfl rfl rfl) ?_
 refine RK.c (S.mkData (rows := [[_], [_]]) ai179 .none rfl (.cons (.tmp rfl rfl) (.cons (.tmp rfl rfl) .nil)) rfl rfl rfl rfl rfl rfl rfl) ?_
 refine RK.c (S.call (law_Whole (l := [[13, 5], [11, 5]]) (by decide)) Tryz.call47 .none rfl (.cons (.tmp rfl rfl) .nil) rfl) ?_
 refine RK.c (S.mkData (rows := [[_], [_], [_]]) ai63 .none rfl (.cons (.tmp rfl rfl) (.cons (.tmp rfl rfl) (.cons (.tmp rfl rfl) .nil))) rfl rfl rfl rfl rfl rfl rfl) ?_
 refine RK.c (S.assign .none rfl (.tmp rfl rfl)) ?_
 refine RK.nil (Ab.D.code ?_)
 refine OK.ret (Ret.r1 (.tmp rfl rfl (.c (.same rfl) rfl) rfl) ?_)
 rfl
end Go.Proofs.YtpmglnphhhlbdaaGreatDoor
namespace Go.Proofs.YtpmglnphhhlbdaaGreatDoor
open Go.Ab
theorem ct_res {P : Program} {f : Nat} {args : List X} {r r' : X} (h : Ct P f args r) (e : r = r') : Ct P f args r' := e ▸ h
theorem tup2 {a a' : X} {e e' : Int} (h1 : a = a') (h2 : e = e') : X.tup [a, .int .i64 e] = X.tup [a', .int .i64 e'] := by rw [h1, h2]
theorem sorted_eq {l m : List Int} (hp : m.Perm l) (hs : m.Pairwise (fun x y => x ≤ y)) : sorted l = m := by
  unfold sorted
  have h1 : (l.mergeSort fun x y => decide (x ≤ y)).Pairwise (fun x y => x ≤ y) := by
    have := List.pairwise_mergeSort (le := fun x y : Int => decide (x ≤ y)) (by intro a b c h1 h2; simp only [decide_eq_true_eq] at *; omega) (by intro a b; simp only [Bool.or_eq_true, decide_eq_true_eq]; omega) l
    exact this.imp (by simp)
  exact ((List.mergeSort_perm l _).trans hp.symm).eq_of_pairwise (fun a b _ _ h1 h2 => by omega) h1 hs
theorem col_00 : sorted (col recsE 0 0) = [10, 11, 13] := sorted_eq (by decide) (by decide)
theorem col_01 : sorted (col recsE 0 1) = [5, 5, 6] := sorted_eq (by decide) (by decide)
theorem col_10 : sorted (col recsE 1 0) = [11, 12, 12] := sorted_eq (by decide) (by decide)
theorem col_11 : sorted (col recsE 1 1) = [4, 5, 5] := sorted_eq (by decide) (by decide)
theorem envE_eq : envOf planE recsE 0 = envE := by
  have e0 : envErr planE recsE 0 = 0 := by decide +kernel
  rw [envOf, if_pos e0, envT]
  have r2 : planE.ticks.toNat = 2 := rfl
  have r3 : planE.channels.length = 2 := rfl
  simp only [rowT, r2, r3, show List.range 2 = [0, 1] from rfl, List.map_cons, List.map_nil, rangeT, col_00, col_01, col_10, col_11]
  rfl
theorem aw_env : Ct Tryz.prog 32 [.agg planE.cs, .sl (recsE.map Record.cs), .int .i64 0] (.tup [.agg envE.cs, .int .i64 0]) :=
  ct_res (mon_EnvelopeOf (p := planE) (l := recsE) (trim := 0)) (tup2 (congrArg (fun x : Envelope => X.agg x.cs) envE_eq) (by decide +kernel))
theorem aw_drift : Ct Tryz.prog 50 [.agg ruleE.cs, ints [10, 13, 13, 9]] (.tup [.int .i64 2, .int .i64 1, .int .i64 0]) :=
  ct_res (mon_FirstDrift (r := ruleE) (l := [10, 13, 13, 9])) (congrArg triple (show driftT ruleE [10, 13, 13, 9] = (2, 1, 0) by decide +kernel))
end Go.Proofs.YtpmglnphhhlbdaaGreatDoor
