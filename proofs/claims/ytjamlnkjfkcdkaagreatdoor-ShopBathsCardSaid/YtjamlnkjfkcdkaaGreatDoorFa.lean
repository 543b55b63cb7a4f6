/-
  Abstract states: what the slots of an activation, its boxes and its own slices hold, as plain data. Definitions, monotony, and the rule that one walk in the order of the text serves every drawn order.
-/
import Derived.WalkKit
import Derived.CallsIn
import Derived.OrdersIn
import Derived.RangeFuncOwn
import Derived.RangeFuncLeaves
import Derived.Laws.AppendOwn
import Derived.MapKept
namespace Go.Ab
open Go.RowKit
abbrev Mem := Addr → Option Value

/-- Abstract values. 'sl', 'eptr': data in memory that is not written any more. 'ptr', 'own': a pointer into a box, the header of a slice of the activation's own. 'box', 'arr': what these hold. -/
inductive X where
  | int (k : IntKind) (n : Int)
  | bool (b : Bool)
  | str (s : List UInt8)
  | sl (rows : List (List X))
  | eptr (cells : List X)
  | fn (f : Nat) (caps : List X)
  | agg (xs : List X)
  | tup (xs : List X)
  | ptr (k off : Nat)
  | own (k n : Nat)
  | box (cells : List X)
  | arr (sz : Nat) (rows : List (List X))
  | raw (v : Value)
  | nils
  | any
  | optr (k n off : Nat)
  | cb (Φ : Value → Prop)
  | res (J : Mem → (Nat → Prop) → World → Prop)
  | resb (k : Nat) (Jb : Nat → Mem → (Nat → Prop) → World → Prop)
  | omap (es : List (X × X))
  | mptr (k : Nat)
  | ownp (k n sz lo hi : Nat)
  | slc (rows : List (List X))
  | arrn (sz : Nat) (pre : List (List X)) (mid : List X) (post : List (List X))

theorem or_snd {a b c : Prop} (h : a ∨ b) (f : b → c) : a ∨ c := match h with
  | .inl x => .inl x
  | .inr y => .inr (f y)
def All2 {α β : Type} (R : α → β → Prop) : List α → List β → Prop
  | [], [] => True
  | a :: as, b :: bs => R a b ∧ All2 R as bs
  | _, _ => False

section all2
variable {α β : Type} {R R' : α → β → Prop}
theorem All2.length : ∀ {as : List α} {bs : List β}, All2 R as bs → as.length = bs.length
  | [], [], _ => rfl
  | _ :: _, _ :: _, h => by simp [All2.length h.2]
  | [], _ :: _, h => h.elim
  | _ :: _, [], h => h.elim
theorem All2.mono (hr : ∀ a b, R a b → R' a b) : ∀ {as : List α} {bs : List β}, All2 R as bs → All2 R' as bs
  | [], [], _ => trivial
  | _ :: _, _ :: _, h => ⟨hr _ _ h.1, All2.mono hr h.2⟩
  | [], _ :: _, h => h.elim
  | _ :: _, [], h => h.elim
theorem All2.append : ∀ {as as' : List α} {bs bs' : List β}, All2 R as bs → All2 R as' bs' → All2 R (as ++ as') (bs ++ bs')
  | [], _, [], _, _, h' => h'
  | _ :: _, _, _ :: _, _, h, h' => ⟨h.1, All2.append h.2 h'⟩
  | [], _, _ :: _, _, h, _ => h.elim
  | _ :: _, _, [], _, h, _ => h.elim
theorem All2.get : ∀ {as : List α} {bs : List β}, All2 R as bs → ∀ {i : Nat} {a : α} {b : β}, as[i]? = some a → bs[i]? = some b → R a b
  | [], [], _, i, a, b, ha, _ => by simp at ha
  | x :: as, y :: bs, h, 0, a, b, ha, hb => by simp at ha hb; subst ha; subst hb; exact h.1
  | x :: as, y :: bs, h, i + 1, a, b, ha, hb => All2.get h.2 (i := i) (by simpa using ha) (by simpa using hb)
  | [], _ :: _, h, _, _, _, _, _ => h.elim
  | _ :: _, [], h, _, _, _, _, _ => h.elim
theorem All2.of_get : ∀ {as : List α} {bs : List β}, as.length = bs.length → (∀ (i : Nat) (a : α) (b : β), as[i]? = some a → bs[i]? = some b → R a b) → All2 R as bs
  | [], [], _, _ => trivial
  | _ :: _, _ :: _, hl, h => ⟨h 0 _ _ (by simp) (by simp), All2.of_get (by simpa using hl) fun i a b ha hb => h (i + 1) a b (by simpa using ha) (by simpa using hb)⟩
  | [], _ :: _, hl, _ => by simp at hl
  | _ :: _, [], hl, _ => by simp at hl
theorem All2.take (n : Nat) : ∀ {as : List α} {bs : List β}, All2 R as bs → All2 R (as.take n) (bs.take n) := by
  intro as bs h
  refine All2.of_get (by simp [h.length]) fun i a b ha hb => ?_
  rw [List.getElem?_take] at ha hb
  split at ha
  · rename_i hi; rw [if_pos hi] at hb; exact h.get ha hb
  · cases ha
theorem All2.drop (n : Nat) : ∀ {as : List α} {bs : List β}, All2 R as bs → All2 R (as.drop n) (bs.drop n) := by
  intro as bs h
  refine All2.of_get (by simp [h.length]) fun i a b ha hb => ?_
  rw [List.getElem?_drop] at ha hb
  exact h.get ha hb
theorem All2.set {a : α} {b : β} (hab : R a b) : ∀ {as : List α} {bs : List β} (i : Nat), All2 R as bs → All2 R (as.set i a) (bs.set i b)
  | [], [], _, _ => trivial
  | _ :: _, _ :: _, 0, h => ⟨hab, h.2⟩
  | _ :: _, _ :: _, i + 1, h => ⟨h.1, All2.set hab i h.2⟩
  | [], _ :: _, _, h => h.elim
  | _ :: _, [], _, h => h.elim
theorem All2.get_right {as : List α} {bs : List β} (h : All2 R as bs) {i : Nat} {a : α} (ha : as[i]? = some a) : ∃ b, bs[i]? = some b ∧ R a b := by
  have hi : i < bs.length := by rw [← h.length]; exact (List.getElem?_eq_some_iff.1 ha).1
  exact ⟨bs[i], List.getElem?_eq_getElem hi, h.get ha (List.getElem?_eq_getElem hi)⟩
theorem All2.nil_left {bs : List β} (h : All2 R [] bs) : bs = [] := by cases bs with | nil => rfl | cons _ _ => exact h.elim
theorem All2.cons_left {a : α} {as : List α} {bs : List β} (h : All2 R (a :: as) bs) : ∃ b bs', bs = b :: bs' ∧ R a b ∧ All2 R as bs' := by
  cases bs with | nil => exact h.elim | cons b bs' => exact ⟨b, bs', rfl, h.1, h.2⟩
end all2

/-- A value of one cell holds the datum x; the cells that it leads to are those of h. -/
inductive RepD (h : Mem) : X → Value → Prop
  | int {k : IntKind} {n : Int} : k.wrap n = n → RepD h (.int k n) (.int k n)
  | bool (b : Bool) : RepD h (.bool b) (.bool b)
  | str (s : List UInt8) : s.length ≤ maxLen → RepD h (.str s) (.string ⟨s.toArray⟩)
  | sl0 (a : Option Addr) (cap : Nat) : cap ≤ maxLen → RepD h (.sl []) (.slice a 0 cap)
  | sl (rows : List (List X)) (b off cap sz : Nat) (vs : List Value) : rows.length ≤ cap → cap ≤ maxLen → (∀ r ∈ rows, r.length = sz) → rows.flatten.length = vs.length →
      (∀ (i : Nat) (v : Value), vs[i]? = some v → h ⟨b, off + i, none⟩ = some v) → (∀ (i : Nat) (x : X) (v : Value), rows.flatten[i]? = some x → vs[i]? = some v → RepD h x v) → RepD h (.sl rows) (.slice (some ⟨b, off, none⟩) rows.length cap)
  | eptr (cells : List X) (b off : Nat) (vs : List Value) : cells.length = vs.length →
      (∀ (i : Nat) (v : Value), vs[i]? = some v → h ⟨b, off + i, none⟩ = some v) → (∀ (i : Nat) (x : X) (v : Value), cells[i]? = some x → vs[i]? = some v → RepD h x v) → RepD h (.eptr cells) (.pointer (some ⟨b, off, none⟩))

/-- What the abstract names stand for: the memory that is not written any more; the block of each box; for each slice of the activation's own its length, its header, and whether it may still be written; the blocks of others, which only a call of theirs may turn. -/
structure Ctx where
  h : Mem
  loc : Nat → Option Nat
  arr : Nat → Option (Nat × Value × Bool)
  Y : Nat → Prop

abbrev pureC (h : Mem) : Ctx := ⟨h, fun _ => none, fun _ => none, fun _ => False⟩
def Mem.le (h h' : Mem) : Prop := ∀ a v, h a = some v → h' a = some v
theorem Mem.le_refl (h : Mem) : Mem.le h h := fun _ _ e => e
theorem Mem.le_trans {a b c : Mem} (h : Mem.le a b) (h' : Mem.le b c) : Mem.le a c := fun x v e => h' x v (h x v e)

theorem RepD.mono {h h' : Mem} (hh : Mem.le h h') {x : X} {v : Value} (r : RepD h x v) : RepD h' x v := by
  induction r with
  | int e => exact .int e
  | bool b => exact .bool b
  | str s e => exact .str s e
  | sl0 a cap e => exact .sl0 a cap e
  | sl rows b off cap sz vs h1 h2 h3 h4 h5 _ ih => exact .sl rows b off cap sz vs h1 h2 h3 h4 (fun i v e => hh _ _ (h5 i v e)) ih
  | eptr cells b off vs h1 h2 _ ih => exact .eptr cells b off vs h1 (fun i v e => hh _ _ (h2 i v e)) ih

/-- A piece of a slice of the activation's own. -/
def SubOf (hv : Value) (sz lo hi : Nat) (v : Value) : Prop :=
  ∃ a l cp a' cp', hv = .slice a l cp ∧ v = .slice a' (hi - lo) cp' ∧ (lo = 0 → a' = a ∧ cp' = cp) ∧ (lo < hi → ∃ b, a = some ⟨b, 0, none⟩ ∧ a' = some ⟨b, lo * sz, none⟩)
def RepP (c : Ctx) : X → Value → Prop
  | .ptr k off, v => ∃ b, c.loc k = some b ∧ v = .pointer (some ⟨b, off, none⟩)
  | .own k n, v => (∃ a l cp, v = .slice a l cp) ∧ ∃ m hv lv, c.arr k = some (m, hv, lv) ∧ n ≤ m ∧ (n = m → v = hv)
  | .any, _ => True
  | .cb Φ, v => Φ v
  | .optr k n off, v => ∃ m hv lv, c.arr k = some (m, hv, lv) ∧ n ≤ m ∧ (n = m → ∃ b l cp, hv = .slice (some ⟨b, 0, none⟩) l cp ∧ v = .pointer (some ⟨b, off, none⟩))
  | .raw u, v => v = u
  | .nils, v => v = .slice none 0 0
  | .mptr k, v => ∃ b, c.loc k = some b ∧ v = .map (some b)
  | .ownp k n sz lo hi, v => (∃ a l cp, v = .slice a l cp) ∧ ∃ m hv lv, c.arr k = some (m, hv, lv) ∧ n ≤ m ∧ (n = m → SubOf hv sz lo hi v)
  | .slc rows, v => RepD c.h (.sl rows) v ∧ ∃ a, v = .slice a rows.length rows.length
  | x, v => RepD c.h x v
def RepC (c : Ctx) : X → Value → Prop
  | .fn f caps, v => ∃ vs : List Value, v = .func (.func f) #[] vs.toArray ∧ All2 (RepP c) caps vs
  | x, v => RepP c x v
def RepV (c : Ctx) : X → Value → Prop
  | .agg xs, v => ∃ vs : List Value, v = .agg vs.toArray ∧ All2 (RepC c) xs vs
  | x, v => RepC c x v
def RepT (c : Ctx) : X → Value → Prop
  | .tup xs, v => ∃ vs : List Value, v = .tuple vs.toArray ∧ All2 (RepV c) xs vs
  | x, v => RepV c x v

structure Ext (c c' : Ctx) : Prop where
  h : Mem.le c.h c'.h
  loc : ∀ k b, c.loc k = some b → c'.loc k = some b
  arr : ∀ k m hv lv, c.arr k = some (m, hv, lv) → ∃ m' hv' lv', c'.arr k = some (m', hv', lv') ∧ m ≤ m' ∧ (m = m' → hv' = hv)
theorem Ext.refl (c : Ctx) : Ext c c := ⟨Mem.le_refl _, fun _ _ e => e, fun _ m hv lv e => ⟨m, hv, lv, e, Nat.le_refl _, fun _ => rfl⟩⟩
theorem Ext.trans {a b c : Ctx} (h : Ext a b) (k : Ext b c) : Ext a c :=
  ⟨Mem.le_trans h.h k.h, fun i x e => k.loc i x (h.loc i x e), fun i m hv lv e => by
    obtain ⟨m', hv', lv', e', l, q⟩ := h.arr i m hv lv e
    obtain ⟨m2, hv2, lv2, e2, l2, q2⟩ := k.arr i m' hv' lv' e'
    exact ⟨m2, hv2, lv2, e2, Nat.le_trans l l2, fun he => by have h1 : m = m' := by omega
                                                             have h2 : m' = m2 := by omega
                                                             rw [q2 h2, q h1]⟩⟩

theorem RepP.mono {c c' : Ctx} (e : Ext c c') {x : X} {v : Value} (h : RepP c x v) : RepP c' x v := by
  cases x with
  | ptr k off => obtain ⟨b, h1, h2⟩ := h; exact ⟨b, e.loc _ _ h1, h2⟩
  | own k n =>
    obtain ⟨h0, m, hv, lv, h1, h2, h3⟩ := h
    obtain ⟨m', hv', lv', e1, e2, e3⟩ := e.arr _ _ _ _ h1
    exact ⟨h0, m', hv', lv', e1, Nat.le_trans h2 e2, fun he => by rw [e3 (by omega)]; exact h3 (by omega)⟩
  | optr k n off =>
    obtain ⟨m, hv, lv, h1, h2, h3⟩ := h
    obtain ⟨m', hv', lv', e1, e2, e3⟩ := e.arr _ _ _ _ h1
    exact ⟨m', hv', lv', e1, Nat.le_trans h2 e2, fun he => by rw [e3 (by omega)]; exact h3 (by omega)⟩
  | any => exact h
  | raw u => exact h
  | nils => exact h
  | cb Φ => exact h
  | mptr k => obtain ⟨b, h1, h2⟩ := h; exact ⟨b, e.loc _ _ h1, h2⟩
  | ownp k n sz lo hi =>
    obtain ⟨h0, m, hv, lv, h1, h2, h3⟩ := h
    obtain ⟨m', hv', lv', e1, e2, e3⟩ := e.arr _ _ _ _ h1
    exact ⟨h0, m', hv', lv', e1, Nat.le_trans h2 e2, fun he => by rw [e3 (by omega)]; exact h3 (by omega)⟩
  | slc rows => exact ⟨RepD.mono e.h h.1, h.2⟩
  | _ => exact RepD.mono e.h h
theorem RepC.mono {c c' : Ctx} (e : Ext c c') {x : X} {v : Value} (h : RepC c x v) : RepC c' x v := by
  cases x
  case fn f caps => obtain ⟨vs, h1, h2⟩ := h; exact ⟨vs, h1, h2.mono fun _ _ => RepP.mono e⟩
  all_goals (simp only [RepC] at h ⊢; exact RepP.mono e h)
theorem RepV.mono {c c' : Ctx} (e : Ext c c') {x : X} {v : Value} (h : RepV c x v) : RepV c' x v := by
  cases x
  case agg xs => obtain ⟨vs, h1, h2⟩ := h; exact ⟨vs, h1, h2.mono fun _ _ => RepC.mono e⟩
  all_goals (simp only [RepV] at h ⊢; exact RepC.mono e h)
theorem RepT.mono {c c' : Ctx} (e : Ext c c') {x : X} {v : Value} (h : RepT c x v) : RepT c' x v := by
  cases x
  case tup xs => obtain ⟨vs, h1, h2⟩ := h; exact ⟨vs, h1, h2.mono fun _ _ => RepV.mono e⟩
  all_goals (simp only [RepT] at h ⊢; exact RepV.mono e h)

/-- Below block number B, but for the blocks of X, the world w' is as w was. -/
structure BelX (B : Nat) (X : Nat → Prop) (w w' : World) : Prop where
  os : w'.os = w.os
  tape : w'.tape = w.tape
  output : w'.output = w.output
  size : w.heap.size ≤ w'.heap.size
  block : ∀ k, k < B → ¬ X k → w'.heap[k]? = w.heap[k]?
theorem BelX.refl (B : Nat) (X : Nat → Prop) (w : World) : BelX B X w w := ⟨rfl, rfl, rfl, Nat.le_refl _, fun _ _ _ => rfl⟩
theorem BelX.trans {B : Nat} {X : Nat → Prop} {a b c : World} (h : BelX B X a b) (k : BelX B X b c) : BelX B X a c :=
  ⟨k.os.trans h.os, k.tape.trans h.tape, k.output.trans h.output, Nat.le_trans h.size k.size, fun i hi hx => (k.block i hi hx).trans (h.block i hi hx)⟩
theorem BelX.mono {B B' : Nat} {X X' : Nat → Prop} {w w' : World} (h : BelX B X w w') (hB : B' ≤ B) (hX : ∀ k, k < B' → X k → X' k) : BelX B' X' w w' :=
  ⟨h.os, h.tape, h.output, h.size, fun k hk hx => h.block k (Nat.lt_of_lt_of_le hk hB) fun e => hx (hX k hk e)⟩
theorem BelX.of {B : Nat} {X : Nat → Prop} {w w' : World} (h : Below B w w') : BelX B X w w' := ⟨h.os, h.tape, h.output, h.size, fun k hk _ => h.block k hk⟩
theorem BelX.below {B : Nat} {w w' : World} (h : BelX B (fun _ => False) w w') : Below B w w' := ⟨h.os, h.tape, h.output, h.size, fun k hk => h.block k hk fun e => e⟩
theorem BelX.drew {B : Nat} {X : Nat → Prop} {a w : World} (h : BelX B X a w) : BelX B X a w.drew := ⟨h.os, h.tape, h.output, h.size, h.block⟩

/-- What others know of the world: it stays true where only blocks that are not theirs turn, and where memory that is not written any more grows. -/
def Stable (J : Mem → (Nat → Prop) → World → Prop) : Prop :=
  ∀ (h h' : Mem) (Y : Nat → Prop) (w w' : World), J h Y w → Mem.le h h' → (∀ p v, h' p = some v → h p = some v ∨ ¬ Y p.block) → (∀ p v, h' p = some v → w'.cell? p = some v) → BelX 0 (fun _ => False) w w' →
    (∀ b, Y b → w'.heap[b]? = w.heap[b]?) → J h' Y w'

/-- The blocks that are of others: those of their names, and those of which nothing is known. -/
def Ctx.out (c : Ctx) (fs : List Nat) (b : Nat) : Prop := c.Y b ∨ (∃ k, k ∈ fs ∧ c.loc k = some b) ∨ (∃ k m hv, k ∈ fs ∧ c.arr k = some (m, hv, true) ∧ hv.ownBlock = some b)

/-- All blocks that are named, and those of others. -/
def Ctx.all (c : Ctx) (b : Nat) : Prop := c.Y b ∨ (∃ k, c.loc k = some b) ∨ (∃ k m hv, c.arr k = some (m, hv, true) ∧ hv.ownBlock = some b)
theorem out_all {c : Ctx} {fs : List Nat} {b : Nat} (h : c.out fs b) : c.all b := by
  rcases h with h | ⟨k, _, h⟩ | ⟨k, m, hv, _, h⟩
  · exact .inl h
  · exact .inr (.inl ⟨k, h⟩)
  · exact .inr (.inr ⟨k, m, hv, h⟩)

/-- What an activation is of: the program, how many slots, the names of what it was given of others, that itself, the world in which it began, its round, blocks that stay as they are. -/
structure Env where
  P : Program
  nt : Nat
  fs : List Nat
  c0 : Ctx
  w0 : World
  round : Option Nat
  pins : List (Nat × Obj)

def Env.F (E : Env) : Fence := { Fence.wide with round := E.round }
def Env.B (E : Env) : Nat := E.w0.heap.size
def Env.X (E : Env) (b : Nat) : Prop := E.c0.out E.fs b ∨ ∃ p ∈ E.pins, p.1 = b
def Env.h0 (E : Env) : Mem := E.c0.h
/-- Where a name's block may lie. -/
def Env.ok (E : Env) (k b : Nat) : Prop := E.B ≤ b ∨ (k ∈ E.fs ∧ E.X b)
theorem Env.ok_own {E : Env} {k b : Nat} (h : E.ok k b) (hk : k ∉ E.fs) : E.B ≤ b := by
  rcases h with h | h
  · exact h
  · exact absurd h.1 hk
theorem nfs {l : List Nat} {k : Nat} (h : l.contains k = false) : k ∉ l := by simpa using h
theorem Env.ok_turn {E : Env} {k b j : Nat} (h : E.ok k b) (hj : j < E.B) (hx : ¬ E.X j) : j ≠ b := by
  rintro rfl
  rcases h with h | h
  · omega
  · exact hx h.2

structure Base (E : Env) (U : List Nat) (c : Ctx) (a : Act) (w : World) : Prop where
  below : BelX E.B E.X E.w0 w
  hB : E.B ≤ w.heap.size
  nt : a.tmps.size = E.nt
  dfr : a.defers.Pairwise (· ≠ ·) ∧ ∀ d ∈ a.defers, ∃ D, d = { target := .collected D, args := #[] } ∧ E.B ≤ D ∧ ¬ c.all D ∧ w.heap[D]? = some (.deferred (some []))
  pin : ∀ p ∈ E.pins, ¬ c.all p.1 ∧ p.2.isCells = false ∧ w.heap[p.1]? = some p.2
  hw : ∀ p v, c.h p = some v → w.cell? p = some v
  hle : Mem.le E.h0 c.h
  hnew : ∀ p v, c.h p = some v → E.h0 p = some v ∨ (E.B ≤ p.block ∧ ¬ c.Y p.block)
  loc : ∀ k b, c.loc k = some b → E.ok k b ∧ b < w.heap.size ∧ (∀ o, c.h ⟨b, o, none⟩ = none) ∧ (∀ k', c.loc k' = some b → k' = k) ∧ (∀ k' m hv, c.arr k' = some (m, hv, true) → hv.ownBlock ≠ some b)
  arr : ∀ k m hv b, c.arr k = some (m, hv, true) → hv.ownBlock = some b → E.ok k b ∧ b < w.heap.size ∧ (∀ o, c.h ⟨b, o, none⟩ = none) ∧ (∀ k' m' hv', c.arr k' = some (m', hv', true) → hv'.ownBlock = some b → k' = k)
  used : ∀ k, k ∉ U → c.loc k = none ∧ c.arr k = none
  Y : ∀ b, c.Y b → b < w.heap.size ∧ (b < E.B → E.X b) ∧ (∀ k, c.loc k ≠ some b) ∧ (∀ k m hv, c.arr k = some (m, hv, true) → hv.ownBlock ≠ some b)
  loc0 : ∀ k b, k ∈ E.fs → c.loc k = some b → E.c0.loc k = some b
  arr0 : ∀ k m hv lv, k ∈ E.fs → c.arr k = some (m, hv, lv) → ∃ m0 hv0 lv0, E.c0.arr k = some (m0, hv0, lv0) ∧ m0 ≤ m ∧ (m0 = m → hv = hv0) ∧ (lv = true → lv0 = true) ∧ (∀ b, hv.ownBlock = some b → hv0.ownBlock = some b ∨ E.B ≤ b)

/-- What a block holds that is named: cells, or a map of data. -/
def BoxIs (c : Ctx) : X → Obj → Prop
  | .box cells, o => ∃ T vs, o = .cells vs T (0, 0) ∧ All2 (RepC c) cells vs.toList
  | .omap es, o => ∃ as clock, o = .map as clock ∧ MapKept.Stamped as clock ∧ All2 (fun (p : X × X) (m : MapEntry) => RepD c.h p.1 m.key ∧ RepV (pureC c.h) p.2 m.val) es as.toList
  | _, _ => False
/-- What a slice of the activation's own holds: rows of data; or such a one with a row in which there is more. -/
def ArrIs (c : Ctx) : X → Nat → List (List X) → List Value → Prop
  | .arr sz' rows', sz, rows, vs => sz' = sz ∧ rows' = rows ∧ All2 (RepD c.h) rows.flatten vs
  | .arrn sz' pre mid post, sz, rows, vs => sz' = sz ∧ rows = pre ++ mid :: post ∧ ∃ v1 v2 v3, vs = v1 ++ (v2 ++ v3) ∧ All2 (RepD c.h) pre.flatten v1 ∧ All2 (RepC c) mid v2 ∧ All2 (RepD c.h) post.flatten v3
  | _, _, _, _ => False
theorem pure_mono {h h' : Mem} (hh : Mem.le h h') {x : X} {v : Value} (r : RepV (pureC h) x v) : RepV (pureC h') x v := r.mono ⟨hh, (fun _ _ e => by cases e), (fun _ _ _ _ e => by cases e)⟩
theorem BoxIs.mono {c c' : Ctx} (e : Ext c c') {x : X} {o : Obj} (h : BoxIs c x o) : BoxIs c' x o := by
  cases x
  case box cells => obtain ⟨T, vs, h1, h2⟩ := h; exact ⟨T, vs, h1, h2.mono fun _ _ => RepC.mono e⟩
  case omap es => obtain ⟨as, clock, h1, h0, h2⟩ := h; exact ⟨as, clock, h1, h0, h2.mono fun _ _ h => ⟨h.1.mono e.h, pure_mono e.h h.2⟩⟩
  all_goals exact h.elim
theorem ArrIs.mono {c c' : Ctx} (e : Ext c c') {x : X} {sz : Nat} {rows : List (List X)} {vs : List Value} (h : ArrIs c x sz rows vs) : ArrIs c' x sz rows vs := by
  cases x
  case arr sz' rows' => exact ⟨h.1, h.2.1, h.2.2.mono fun _ _ => RepD.mono e.h⟩
  case arrn sz' pre mid post => obtain ⟨h1, h2, v1, v2, v3, h3, h4, h5, h6⟩ := h; exact ⟨h1, h2, v1, v2, v3, h3, h4.mono fun _ _ => RepD.mono e.h, h5.mono fun _ _ => RepC.mono e, h6.mono fun _ _ => RepD.mono e.h⟩
  all_goals exact h.elim
def HoldsBox (c : Ctx) (w : World) (k : Nat) (x : X) : Prop :=
  ∃ b o, c.loc k = some b ∧ w.heap[b]? = some o ∧ BoxIs c x o
def HoldsArr (c : Ctx) (w : World) (k : Nat) (x : X) : Prop :=
  ∃ sz rows hv e vs, ArrIs c x sz rows vs ∧ c.arr k = some (rows.length, hv, true) ∧ w.ownsRow 0 e sz hv rows.length vs ∧ (∀ r ∈ rows, r.length = sz)
/-- What others know, as a datum says it: of itself, or of the block of a box that is named. -/
def ResIs (loc : Nat → Option Nat) (J : Mem → (Nat → Prop) → World → Prop) : X → Prop
  | .res J' => J' = J
  | .resb k Jb => ∃ b, loc k = some b ∧ Jb b = J
  | _ => False
theorem ResIs.mono {loc loc' : Nat → Option Nat} {J : Mem → (Nat → Prop) → World → Prop} {x : X} (hl : ∀ k b, loc k = some b → loc' k = some b) (h : ResIs loc J x) : ResIs loc' J x := by
  cases x
  case res J' => exact h
  case resb k Jb => obtain ⟨b, h1, h2⟩ := h; exact ⟨b, hl _ _ h1, h2⟩
  all_goals exact h.elim
def HoldsRes (c : Ctx) (w : World) (key : Nat) (x : X) : Prop := key = 3000 ∧ ∃ J, ResIs c.loc J x ∧ Stable J ∧ J c.h c.Y w
def Holds (c : Ctx) (a : Act) (w : World) (key : Nat) (x : X) : Prop :=
  if key < 1000 then RepT c x (a.tmps.getD key undef)
  else x = .any ∨ (if key < 2000 then HoldsBox c w (key - 1000) x else if key < 3000 then HoldsArr c w (key - 2000) x else HoldsRes c w key x)

abbrev St := List (Nat × X)
def look : St → Nat → Option X
  | [], _ => none
  | p :: s, k => if Nat.beq p.1 k then some p.2 else look s k
def Good (E : Env) (U : List Nat) (s : St) (a : Act) (w : World) : Prop :=
  ∃ c, Base E U c a w ∧ ∀ key x, look s key = some x → Holds c a w key x

/-- One operation, as the machine makes it in its region. -/
def opIn (E : Env) (all : Array Oper) (o : Oper) (next : Act → World → Prop) (Q : Exit → Act → World → Prop) (a : Act) (w : World) : Prop :=
  if Region.wanted o (yielded all a.tmps) then o.wpIn E.F 0 E.P a w next Q else next (a.put o.dst undef) w

/-- One operation as a step of abstract states: it reads the keys 'rd', writes the keys 'wr', makes the names 'al', and leaves all else. -/
def Step (E : Env) (all : Array Oper) (o : Oper) (rd wr : St) (al : List Nat) : Prop :=
  ∀ (U : List Nat) (c : Ctx) (a : Act) (w : World), Base E U c a w → (∀ p ∈ rd, Holds c a w p.1 p.2) → (∀ k ∈ al, k ∉ U) →
    ∀ (next : Act → World → Prop) (Q : Exit → Act → World → Prop),
      (∀ c' a' w', Base E (al ++ U) c' a' w' → Ext c c' → (∀ p ∈ wr, Holds c' a' w' p.1 p.2) →
        (∀ key x, (∀ p ∈ wr, p.1 ≠ key) → Holds c a w key x → Holds c' a' w' key x) → next a' w') →
      opIn E all o next Q a w

structure Lab where
  rd : St
  wr : St
  al : List Nat

def Looks (s : St) : St → Prop
  | [] => True
  | p :: r => look s p.1 = some p.2 ∧ Looks s r
theorem Looks.all {s : St} : ∀ {r : St}, Looks s r → ∀ p ∈ r, look s p.1 = some p.2
  | [], _, p, hp => by cases hp
  | q :: r, h, p, hp => by
    rcases List.mem_cons.1 hp with rfl | hp
    · exact h.1
    · exact Looks.all h.2 p hp

/-- A walk through the operations of a region in the order of the text. -/
inductive Lx (E : Env) (all : Array Oper) : List Oper → List Nat → St → List Lab → List Nat → St → Prop
  | nil {U : List Nat} {s : St} : Lx E all [] U s [] U s
  | cons {o : Oper} {l : List Oper} {U U' : List Nat} {s s' : St} {L : List Lab} {rd wr : St} {al : List Nat} : Step E all o rd wr al → Looks s rd → (al.all fun k => !U.contains k) = true →
      Lx E all l (al ++ U) (wr ++ s) L U' s' → Lx E all (o :: l) U s (⟨rd, wr, al⟩ :: L) U' s'

theorem look_append {s t : St} {k : Nat} : look (s ++ t) k = (look s k).or (look t k) := by
  induction s with
  | nil => rfl
  | cons p s ih => simp only [List.cons_append, look]; split <;> simp [ih]
theorem look_none {s : St} {k : Nat} : look s k = none ↔ ∀ p ∈ s, p.1 ≠ k := by
  induction s with
  | nil => simp [look]
  | cons p s ih =>
    simp only [look]
    split
    · rename_i h; have := Nat.eq_of_beq_eq_true h; simp [this]
    · rename_i h
      have hne : p.1 ≠ k := fun e => h (by rw [e]; exact Nat.beq_refl k)
      simp [ih, hne]
theorem look_mem {s : St} {k : Nat} {x : X} (h : look s k = some x) : (k, x) ∈ s := by
  induction s with
  | nil => cases h
  | cons p s ih =>
    simp only [look] at h
    split at h
    · rename_i hb
      have := Nat.eq_of_beq_eq_true hb
      cases h
      subst this
      exact List.mem_cons_self
    · exact List.mem_cons_of_mem _ (ih h)

theorem Step.good {E : Env} {all : Array Oper} {o : Oper} {rd wr : St} {al : List Nat} (hs : Step E all o rd wr al) {U : List Nat} {s : St} {a : Act} {w : World} (hg : Good E U s a w)
    (hl : Looks s rd) (hal : (al.all fun k => !U.contains k) = true) {next : Act → World → Prop} {Q : Exit → Act → World → Prop} (hn : ∀ a' w', Good E (al ++ U) (wr ++ s) a' w' → next a' w') : opIn E all o next Q a w := by
  obtain ⟨c, hb, hh⟩ := hg
  refine hs U c a w hb (fun p hp => hh _ _ (hl.all p hp)) (fun k hk => by simpa using (List.all_eq_true.1 hal) k hk) next Q fun c' a' w' hb' _ hwr hfr => hn a' w' ⟨c', hb', fun key x hx => ?_⟩
  rw [look_append] at hx
  cases hk : look wr key with
  | some y =>
    rw [hk] at hx
    cases hx
    exact hwr _ (look_mem hk)
  | none =>
    rw [hk] at hx
    exact hfr key x (look_none.1 hk) (hh key x hx)

theorem opIn_wpOpIn {E : Env} {all : Array Oper} {i : Nat} {o : Oper} (ho : all[i]? = some o) {next : Act → World → Prop} {Q : Exit → Act → World → Prop} {a : Act} {w : World} (h : opIn E all o next Q a w) :
    wpOpIn E.F 0 E.P all Q i next a w := by
  unfold wpOpIn
  simp only [ho]
  unfold opIn at h
  split at h
  · rename_i hw; simpa [hw] using h
  · rename_i hw; rw [if_neg hw]; exact ⟨fun _ _ => trivial, h⟩

theorem Lx.seq {E : Env} {all : Array Oper} {Q : Exit → Act → World → Prop} {l : List Oper} {U U' : List Nat} {s s' : St} {L : List Lab} (h : Lx E all l U s L U' s') :
    ∀ (k : Nat), (∀ j, all[k + j]? = l[j]?) → (∀ a w, Good E U' s' a w → Q .normal a w) → ∀ a w, Good E U s a w → wpOpsIn E.F 0 E.P all Q (List.range' k l.length) a w := by
  induction h with
  | nil => intro k _ hQ a w hg; simpa [wpOpsIn] using hQ a w hg
  | @cons o l U U' s s' L rd wr al hs hl hal _ ih =>
    intro k hk hQ a w hg
    rw [List.length_cons, List.range'_succ, wpOpsIn_cons]
    refine opIn_wpOpIn (by simpa using hk 0) (hs.good hg hl hal fun a' w' hg' => ih (k + 1) (fun j => ?_) hQ a' w' hg')
    have := hk (j + 1)
    simp only [List.getElem?_cons_succ] at this
    rw [← this]
    congr 1
    omega

/-- A walk of abstract states through a piece of code. -/
def OK (E : Env) (code : Code) (Q : Exit → List Nat → St → Prop) (U : List Nat) (s : St) : Prop :=
  ∀ a w, Good E U s a w → code.wpIn E.F 0 E.P (fun e a' w' => ∃ U' s', Good E U' s' a' w' ∧ Q e U' s') a w

theorem OK.region {E : Env} {id : Nat} {l : List Oper} {U U' : List Nat} {s s' : St} {L : List Lab} {Q : Exit → List Nat → St → Prop} (h : Lx E l.toArray l U s L U' s') (hQ : Q .normal U' s') :
    OK E (.region id l.toArray false) Q U s := by
  intro a w hg
  refine wpIn_region ?_
  have := h.seq (Q := fun e a' w' => ∃ U' s', Good E U' s' a' w' ∧ Q e U' s') 0 (by simp) (fun a w hg => ⟨U', s', hg, hQ⟩) a w hg
  rw [List.range_eq_range']
  simpa using this
end Go.Ab
