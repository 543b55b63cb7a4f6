/-
  Abstract states: literals of structs and slices, append, what an own slice becomes.
-/
import Derived.Test.YtjamlnkjfkcdkaaGreatDoorFh
namespace Go.Ab
open Go.RowKit

def setsX (off : Nat) : List X → List X → List X
  | [], cs => cs
  | x :: xs, cs => setsX (off + 1) xs (cs.set off x)
def fillX (pl : Nat → Option (Nat × Nat)) (cs : List X) : List (Nat × X) → Option (List X)
  | [] => some cs
  | (i, x) :: rest => match pl i with
    | none => none
    | some (off, size) => if Nat.beq (cellsX x).length size && Nat.ble (off + size) cs.length then fillX pl (setsX off (cellsX x) cs) rest else none
theorem setsX_rep {R : X → Value → Prop} : ∀ (off j0 : Nat) {xs : List X} {vs : List Value} {cs : List X} {cells : Array Value}, All2 R xs vs → All2 R cs cells.toList →
    All2 R (setsX (off + j0) xs cs) ((vs.zipIdx j0).foldl (fun cs (p : Value × Nat) => cs.setIfInBounds (off + p.2) p.1) cells).toList
  | _, _, [], [], _, _, _, h => h
  | off, j0, x :: xs, v :: vs, cs, cells, h, hc => by
    simp only [setsX, List.zipIdx_cons, List.foldl_cons]
    have := setsX_rep off (j0 + 1) (cs := cs.set (off + j0) x) (cells := cells.setIfInBounds (off + j0) v) h.2 (by simpa using All2.set h.1 (off + j0) hc)
    simpa [Nat.add_assoc] using this
  | _, _, [], _ :: _, _, _, h, _ => h.elim
  | _, _, _ :: _, [], _, _, h, _ => h.elim
theorem setsX_length (off : Nat) : ∀ (xs cs : List X), (setsX off xs cs).length = cs.length := by
  intro xs
  induction xs generalizing off with
  | nil => intro cs; rfl
  | cons x xs ih => intro cs; simp [setsX, ih]
theorem fill_rep {c : Ctx} (pl : Nat → Option (Nat × Nat)) : ∀ (ps : List (Nat × X)) (vs : List (Nat × Value)) (cs : List X) (cells : Array Value) (out : List X), All2 (RepC c) cs cells.toList →
    All2 (fun p q => p.1 = q.1 ∧ All2 (RepC c) (cellsX p.2) q.2.cells.toList) ps vs → fillX pl cs ps = some out → ∃ cells', Instr.fill pl cells vs = some cells' ∧ All2 (RepC c) out cells'.toList
  | [], [], cs, cells, out, h, _, hf => by simp only [fillX, Option.some.injEq] at hf; subst hf; exact ⟨cells, rfl, h⟩
  | (i, x) :: ps, (j, v) :: vs, cs, cells, out, h, hp, hf => by
    obtain ⟨⟨h1, h2⟩, h3⟩ := hp
    simp only at h1
    subst h1
    simp only [fillX] at hf
    simp only [Instr.fill]
    cases hpl : pl i with
    | none => simp [hpl] at hf
    | some os =>
      obtain ⟨off, size⟩ := os
      simp only [hpl] at hf ⊢
      have hl := h2.length
      have hc := h.length
      simp only [Array.length_toList] at hl hc
      split at hf
      · rename_i hb
        simp only [Bool.and_eq_true, Nat.ble_eq] at hb
        have hs := Nat.eq_of_beq_eq_true hb.1
        rw [if_neg (by simp; omega)]
        have hset := setsX_rep off 0 h2 h
        rw [Nat.add_zero] at hset
        refine fill_rep pl ps vs _ _ out ?_ h3 hf
        rw [← Array.foldl_toList, Array.toList_zipIdx]
        exact hset
      · cases hf
  | [], _ :: _, _, _, _, _, h, _ => h.elim
  | _ :: _, [], _, _, _, _, h, _ => h.elim

structure BuI (P : Program) (T : TypeId) (zs : List Value) (pl : Nat → Option (Nat × Nat)) : Prop where
  ex : ∀ parts, P.built T parts = Instr.fill pl zs.toArray parts
theorem parts_rep {c : Ctx} {f : Operand → Value} : ∀ {ps : List (Nat × Operand)} {us : List X}, All2 (RepT c) us ((ps.map (·.2)).map f) → us.all okSt = true →
    All2 (fun p q => p.1 = q.1 ∧ All2 (RepC c) (cellsX p.2) q.2.cells.toList) ((ps.map (·.1)).zip us) (ps.map fun (i, x) => (i, f x))
  | [], [], _, _ => trivial
  | (i, x) :: ps, u :: us, h, ho => by
    simp only [List.all_cons, Bool.and_eq_true] at ho
    exact ⟨⟨rfl, (cells_of h.1 ho.1).1⟩, parts_rep h.2 ho.2⟩
  | [], _ :: _, h, _ => h.elim
  | _ :: _, [], h, _ => h.elim

section
variable {E : Env} {all : Array Oper} {s r r1 r2 r3 rg : St} {d ty : Nat} {pos : String} {after : Array Edge} {guard : Option (Nat × Bool)} {x y z : Operand}
theorem S.build {T : Nat} {zs : List Value} {pl : Nat → Option (Nat × Nat)} {ps : List (Nat × Operand)} {us out : List X} (hB : BuI E.P T zs pl) (hz : zs.all litOk = true) (hg : Gd all s guard rg) (hd : (Nat.blt d 1000 && Nat.blt d E.nt) = true)
    (hx : OpsS s (ps.map (·.2)) us r) (hu : us.all okSt = true) (hf : fillX pl (zs.map litX) ((ps.map (·.1)).zip us) = some out) :
    St1 E all ⟨some d, .build T ps.toArray, ty, pos, after, guard⟩ s (rg ++ r) [(d, .agg out)] [] :=
  St1.val hg hd rfl hx.looks fun c A w hh hr => by
    obtain ⟨cells, h1, h2⟩ := fill_rep (c := c) pl _ _ _ zs.toArray out (by simpa using lits_rep hz) (parts_rep (hx.rep (c := c) (a := A) (w := w) hr) hu) hf
    refine ⟨.agg cells, ?_, cells.toList, by simp, h2⟩
    have := run_build (P := E.P) w T (ps.map fun (i, x) => (i, A.eval x)).toArray cells (by rw [hB.ex]; exact h1)
    simp only [execOp]
    simp [this]

/-- A new slice of the activation's own. -/
def Ctx.own (c : Ctx) (k n : Nat) (v : Value) (lv : Bool) : Ctx := ⟨c.h, c.loc, fun j => if j = k then some (n, v, lv) else c.arr j, c.Y⟩
structure ApI (P : Program) (t e sz bytes : Nat) : Prop where
  und : P.underlying t = some (.slice e)
  ex : ∃ i z, P.info? e = some i ∧ i.zero = some z ∧ i.size = sz ∧ i.bytes = bytes ∧ z.cells.size = sz
  pos : 0 < sz
  run : (∀ w, (sizeOf e).run P w = .ok sz w) ∧ ∃ z, (∀ w, (zeroValue e).run P w = .ok z w) ∧ z.cells.size = sz
/-- The world with a block more, of which a slice is the activation's own. -/
theorem Base.ownNew {E : Env} {U : List Nat} {c : Ctx} {a : Act} {w w' : World} (hb : Base E U c a w) {k : Nat} (hk9 : k ∉ E.fs) (hk : k ∉ U) {n : Nat} {v : Value} (hB : Below w.heap.size w w') (hv : v.ownBlock = none ∨ (v.ownBlock = some w.heap.size ∧ w.heap.size < w'.heap.size)) :
    Base E ([k] ++ U) (c.own k n v true) a w' ∧ Ext c (c.own k n v true) ∧ (c.own k n v true).arr k = some (n, v, true) ∧
      ∀ key y, ¬ key < 1000 → Holds c a w key y → Holds (c.own k n v true) a w' key y := by
  have hn := (hb.used k hk).2
  have hg := hb.below_grow hB (Mem.le_refl _) (fun p v e => .inl e) fun p v e => by
    have h1 := hb.hw p v e
    have h2 : p.block < w.heap.size := block_lt_of_cell h1
    rw [hB.cell h2]; exact h1
  have hold : ∀ j q, c.arr j = some q → (c.own k n v true).arr j = some q := by
    intro j q hj
    simp only [Ctx.own]
    split
    · rename_i e; subst e; rw [hn] at hj; cases hj
    · exact hj
  have hext : Ext c (c.own k n v true) := ⟨Mem.le_refl _, fun _ _ e => e, fun j m hv lv e => ⟨m, hv, lv, hold _ _ e, Nat.le_refl _, fun _ => rfl⟩⟩
  have hnew : ∀ j m u, (c.own k n v true).arr j = some (m, u, true) → (j = k ∧ u = v) ∨ (j ≠ k ∧ c.arr j = some (m, u, true)) := by
    intro j m u hj
    simp only [Ctx.own] at hj
    split at hj
    · rename_i e; cases hj; exact .inl ⟨e, rfl⟩
    · rename_i e; exact .inr ⟨e, hj⟩
  have hnone : ∀ o, c.h ⟨w.heap.size, o, none⟩ = none := fun o => by
    cases hh : c.h ⟨w.heap.size, o, none⟩ with
    | none => rfl
    | some v => have := block_lt_of_cell (hb.hw _ _ hh); simp at this
  have hvb : ∀ b, v.ownBlock = some b → b = w.heap.size ∧ b < w'.heap.size := by
    intro b e
    rcases hv with h | ⟨h, h'⟩
    · rw [h] at e; cases e
    · rw [h] at e; cases e; exact ⟨rfl, h'⟩
  have hlo : ∀ j, j ∈ E.fs → (c.own k n v true).arr j = c.arr j := fun j hj => by simp only [Ctx.own]; rw [if_neg (show ¬ j = k from fun e => hk9 (e ▸ hj))]
  have hall : ∀ b, b < w.heap.size → (c.own k n v true).all b → c.all b := by
    intro b hlt h
    rcases h with h | h | ⟨j, m, u, h, h2⟩
    · exact .inl h
    · exact .inr (.inl h)
    · rcases hnew j m u h with ⟨_, rfl⟩ | ⟨_, h3⟩
      · have := (hvb b h2).1; omega
      · exact .inr (.inr ⟨j, m, u, h3, h2⟩)
  have hkp : ∀ (D : Nat) (o : Obj), w.heap[D]? = some o → o.isCells = false → w'.heap[D]? = some o := fun D o h _ => (hB.block D (Array.getElem?_eq_some_iff.1 h).1).trans h
  refine ⟨⟨hg.below, hg.hB, hg.nt, dfr_of hb hall hkp, pin_of hb hall hkp, hg.hw, hg.hle, hg.hnew, ?_, ?_, ?_, ?_, hb.loc0, fun j m u lv hj e => hb.arr0 j m u lv hj (hlo j hj ▸ e)⟩, hext, by simp [Ctx.own], fun key y hkey hy => Holds.below hb hB hext (fun _ _ _ e => hold _ _ e) rfl (fun _ _ e => .inl e) hg.hw hkey hy⟩
  · intro j b hj
    obtain ⟨h1, h2, h3, h4, h5⟩ := hg.loc j b hj
    refine ⟨h1, h2, h3, h4, fun k' m u hk' => ?_⟩
    rcases hnew k' m u hk' with ⟨rfl, rfl⟩ | ⟨_, hk'⟩
    · intro e
      have := (hvb b e).1
      have := (hb.loc j b hj).2.1
      omega
    · exact h5 k' m u hk'
  · intro j m u b hj hbk
    rcases hnew j m u hj with ⟨rfl, rfl⟩ | ⟨hne, hj2⟩
    · obtain ⟨rfl, hlt⟩ := hvb b hbk
      refine ⟨.inl hb.hB, hlt, hnone, fun k' m' u' hk' hb' => ?_⟩
      rcases hnew k' m' u' hk' with ⟨rfl, _⟩ | ⟨_, hk'⟩
      · rfl
      · have := (hb.arr k' m' u' _ hk' hb').2.1; omega
    · obtain ⟨h1, h2, h3, h4⟩ := hg.arr j m u b hj2 hbk
      refine ⟨h1, h2, h3, fun k' m' u' hk' hb' => ?_⟩
      rcases hnew k' m' u' hk' with ⟨rfl, rfl⟩ | ⟨_, hk'⟩
      · have h6 := (hvb b hb').1
        have := (hb.arr j m u b hj2 hbk).2.1
        omega
      · exact h4 k' m' u' hk' hb'
  · intro j hj
    simp only [List.mem_append, List.mem_singleton, not_or] at hj
    refine ⟨(hb.used j hj.2).1, ?_⟩
    simp only [Ctx.own]
    rw [if_neg hj.1]
    exact (hb.used j hj.2).2
  · intro b hy
    obtain ⟨h1, h2, h3, h4⟩ := hb.Y b hy
    refine ⟨Nat.lt_of_lt_of_le h1 hB.size, h2, h3, fun j m u hj e => ?_⟩
    rcases hnew j m u hj with ⟨rfl, rfl⟩ | ⟨_, hj2⟩
    · have := (hvb b e).1; omega
    · exact h4 j m u hj2 e
theorem Holds.mkArr {c : Ctx} {a : Act} {w : World} {k sz e : Nat} {hv : Value} {vs : List Value} {rows : List (List X)} (hk : k < 1000) (h1 : c.arr k = some (rows.length, hv, true)) (h2 : w.ownsRow 0 e sz hv rows.length vs)
    (h3 : ∀ q ∈ rows, q.length = sz) (h4 : All2 (RepD c.h) rows.flatten vs) : ¬ (2000 + k < 1000) ∧ Holds c a w (2000 + k) (.arr sz rows) := by
  refine ⟨by omega, ?_⟩
  unfold Holds
  rw [if_neg (by omega), if_neg (by omega), if_pos (by omega), Nat.add_sub_cancel_left]
  exact .inr ⟨sz, rows, hv, e, vs, ⟨rfl, rfl, h4⟩, h1, h2, h3⟩
/-- 'var out []T': the empty slice of the activation's own. -/
theorem S.nilOwn {k sz : Nat} (hg : Gd all s guard rg) (hd : (Nat.blt d 1000 && Nat.blt d E.nt) = true) (hk9 : E.fs.contains k = false := by rfl) (hk1 : Nat.blt k 1000 = true := by rfl) :
    St1 E all ⟨some d, .assign (.const (.slice none 0 0)), ty, pos, after, guard⟩ s (rg ++ []) ((d, .own k 0) :: [(2000 + k, .arr sz [])]) [k] :=
  St1.mk hg hd rfl trivial fun U c a w hb _ hal => by
    rw [Nat.blt_eq] at hk1
    have hkU : k ∉ U := hal k (by simp)
    obtain ⟨g1, g2, g3, g4⟩ := hb.ownNew (nfs hk9) hkU (n := 0) (v := .slice none 0 0) (Below.refl _ w) (.inl rfl)
    refine ⟨.slice none 0 0, _, w, rfl, g1, g2, ⟨⟨none, 0, 0, rfl⟩, 0, _, _, g3, Nat.le_refl _, fun _ => rfl⟩, ?_, fun key u hkey _ hu => g4 key u hkey hu⟩
    intro p hp
    simp only [List.mem_singleton] at hp
    subst hp
    exact Holds.mkArr (e := 0) (rows := []) (vs := []) (by omega) g3 (World.ownsRow_nil w _ 0 sz) (fun _ h => by cases h) trivial
/-- A literal of a slice. -/
theorem S.mkSlice {t e sz bytes n k : Nat} {ps : List (Nat × Operand)} {us : List X} {rows : List (List X)} (hA : ApI E.P t e sz bytes) (hg : Gd all s guard rg) (hd : (Nat.blt d 1000 && Nat.blt d E.nt) = true)
    (hx : OpsS s (ps.map (·.2)) us r) (hu : us.all okSt = true) (_hrows : us.map cellsX = rows) (hf : fillX (fun i => some (i * sz, sz)) (List.replicate (n * sz) .any) ((ps.map (·.1)).zip us) = some rows.flatten)
    (hr : rows.all (fun q => Nat.beq q.length sz) = true) (hn : rows.length = n) (hD : rows.flatten.all okD = true) (hbig : Nat.ble (n * sz) 16777216 = true) (hk9 : E.fs.contains k = false := by rfl) (hk1 : Nat.blt k 1000 = true := by rfl) :
    St1 E all ⟨some d, .buildSlice t n ps.toArray, ty, pos, after, guard⟩ s (rg ++ r) ((d, .own k n) :: [(2000 + k, .arr sz rows)]) [k] :=
  St1.mk hg hd rfl hx.looks fun U c a w hb hrr hal => by
    clear _hrows
    rw [Nat.ble_eq] at hbig
    rw [Nat.blt_eq] at hk1
    have hkU : k ∉ U := hal k (by simp)
    have hrow : ∀ q ∈ rows, q.length = sz := fun q hq => Nat.eq_of_beq_eq_true ((List.all_eq_true.1 hr) q hq)
    have hfl : rows.flatten.length = n * sz := by rw [flatten_length hrow, hn]
    obtain ⟨hsz, zv, hz, hzs⟩ := hA.run
    have hbase : ∀ (q : Array Value), q.size = n * sz → All2 (RepC c) (List.replicate (n * sz) .any) q.toList := fun q hq => All2.of_get (by simp [hq]) fun i u v hu _ => by
      simp only [List.getElem?_replicate] at hu
      split at hu
      · cases hu; exact trivial
      · cases hu
    obtain ⟨cells, h1, h2⟩ := fill_rep (c := c) (fun i => some (i * sz, sz)) _ _ _ (((Array.range (n * sz)).map fun i => (if n * sz = 0 then #[] else zv.cells)[i % (if n * sz = 0 then #[] else zv.cells).size]!)) rows.flatten (hbase _ (by simp)) (parts_rep (hx.rep (c := c) (a := a) (w := w) hrr) hu) hf
    have hcs : cells.size = n * sz := by have := h2.length; rw [hfl] at this; simpa using this.symm
    have hB := below_alloc w (.cells cells e)
    obtain ⟨g1, g2, g3, g4⟩ := hb.ownNew (nfs hk9) hkU (n := n) (v := .slice (some ⟨w.heap.size, 0, none⟩) n n) hB (.inr ⟨rfl, by simp⟩)
    refine ⟨.slice (some ⟨w.heap.size, 0, none⟩) n n, _, w.alloc (.cells cells e), ?_, g1, g2, ⟨⟨_, _, _, rfl⟩, n, _, _, g3, Nat.le_refl _, fun _ => rfl⟩, ?_, fun key u hkey _ hu => g4 key u hkey hu⟩
    · have hnb : ¬ (n * sz > 2 ^ 24) := by omega
      simp only [execOp, Instr.buildSlice, Sem.run_bind, run_underlying hA.und, Result.andThen_ok, hsz, hnb, if_false]
      by_cases h0 : n * sz = 0
      · simp only [h0, if_true] at h1
        simp at h1
        simp [h0, h1, newRow]
      · simp only [h0, if_false] at h1
        simp [h0, hz, h1, newRow]
    · intro p hp
      simp only [List.mem_singleton] at hp
      subst hp
      refine Holds.mkArr (e := e) (vs := cells.toList) (by omega) (by rw [hn]; exact g3) ⟨by simp [hcs, hn], .inr ⟨w.heap.size, n, cells, by rw [hn], Nat.zero_le _, heap_alloc_new w _, by omega, ?_, hcs, ?_⟩⟩ hrow (Ds_of (h2.mono fun _ _ => RepC.mono g2) hD)
      · have := hA.pos
        have : n ≤ n * sz := Nat.le_mul_of_pos_right n this
        unfold maxLen; omega
      · rw [hn, List.take_of_length_le (by simp [hcs])]
end
end Go.Ab
