/-
  Abstract states: a string's bytes; arrays in boxes; pointers into slices of the activation's own; a box's nil slice taken for one of the activation's own; calls that sort or compact such a slice in place.
-/
import Derived.Laws.IdiomStrings
import Derived.Laws.StructEq
import Derived.Sort.OwnSortedInts
import Derived.Lib.SlicesCompact
import Derived.Test.YtjamlnkjfkcdkaaGreatDoorFl
namespace Go.Ab
open Go.RowKit

section
variable {E : Env} {all : Array Oper} {s r r1 r2 r3 rg : St} {d ty : Nat} {pos : String} {after : Array Edge} {guard : Option (Nat × Bool)} {x y z : Operand}
/-- '[]byte(s)', read as data. -/
theorem S.bytes {src dst e : Nat} {l : List UInt8} (hs : E.P.underlying src = some .string) (ht : E.P.underlying dst = some (.slice e)) (he : E.P.underlying e = some (.int .u8)) (hg : Gd all s guard rg) (hd : (Nat.blt d 1000 && Nat.blt d E.nt) = true) (hx : OpS s x (.str l) r) :
    St1 E all ⟨some d, .convert src dst x, ty, pos, after, guard⟩ s (rg ++ r) ((d, .sl (l.map fun b => [.int .u8 b.toNat])) :: []) [] :=
  St1.mk hg hd rfl hx.looks fun U c a w hb hr _ => by
    obtain ⟨hv, hlen⟩ := str_of (hx.rep (c := c) (a := a) (w := w) hr)
    have hsz : (⟨l.toArray⟩ : ByteArray).size = l.length := by show l.toArray.size = _; simp
    have hrun := run_bytes_of_string (P := E.P) w src dst e ⟨l.toArray⟩ hs ht he
    rw [hsz] at hrun
    generalize hcap : grownCap w l.length 0 e = cap at hrun
    have hc1 : l.length ≤ cap := by rw [← hcap]; exact grownCap_ge _ _ _ _
    have hc2 : cap ≤ maxLen := by rw [← hcap]; exact grownCap_le_maxLen _ _ _ _ hlen
    generalize hcells : bytesRow (⟨l.toArray⟩ : ByteArray) cap = cells at hrun
    generalize hob : Obj.cells cells e (cells.size, cells.size + 1) = ob at hrun
    have hB : Below w.heap.size w (w.drew.alloc ob) := (Below.refl _ w).drew.alloc (Nat.le_refl _) ob
    have hnewb : (w.drew.alloc ob).heap[w.heap.size]? = some ob := heap_alloc_new w.drew ob
    have hcell : ∀ j u, cells[j]? = some u → (w.drew.alloc ob).cell? ⟨w.heap.size, j, none⟩ = some u := by
      intro j u hu
      subst hob
      rw [cell_of_row _ w.heap.size j cells e _ hnewb]
      exact hu
    have hget : ∀ (j : Nat) (b : UInt8), l[j]? = some b → cells[j]? = some (Value.int .u8 b.toNat) := by
      intro j b hj
      have hjl : j < l.length := (List.getElem?_eq_some_iff.1 hj).1
      rw [← hcells]
      simp [bytesRow, Array.getElem?_append, hjl]
      have := (List.getElem?_eq_some_iff.1 hj).2
      rw [this]
    obtain ⟨h', hh'⟩ : ∃ h' : Mem, h' = fun p => if p.block = w.heap.size then (w.drew.alloc ob).cell? p else c.h p := ⟨_, rfl⟩
    have hle : Mem.le c.h h' := by
      intro p u hp
      rw [hh']
      dsimp only
      rw [if_neg (by have := block_lt_of_cell (hb.hw p u hp); omega)]
      exact hp
    have hnw : ∀ p u, h' p = some u → c.h p = some u ∨ w.heap.size ≤ p.block := fun p u hp => by
      rw [hh'] at hp
      dsimp only at hp
      split at hp
      · exact .inr (by omega)
      · exact .inl hp
    have hbase := hb.below_grow hB hle hnw (fun p u hp => by
      rw [hh'] at hp
      dsimp only at hp
      split at hp
      · exact hp
      · rw [hB.cell (block_lt_of_cell (hb.hw p u hp))]; exact hb.hw p u hp)
    have hext : Ext c ⟨h', c.loc, c.arr, c.Y⟩ := ⟨hle, fun _ _ e => e, fun _ m hv lv e => ⟨m, hv, lv, e, Nat.le_refl _, fun _ => rfl⟩⟩
    refine ⟨.slice (some ⟨w.heap.size, 0, none⟩) l.length cap, ⟨h', c.loc, c.arr, c.Y⟩, _, ?_, hbase, hext, ?_, (fun p hp => by cases hp), fun key u hkey _ hu => Holds.below hb hB hext (fun _ _ _ e => e) rfl hnw hbase.hw hkey hu⟩
    · simp only [execOp, hv]
      rw [Sem.run_bind, hrun]
      rfl
    · have : RepD h' (.sl (l.map fun b => [X.int .u8 b.toNat])) (.slice (some ⟨w.heap.size, 0, none⟩) (l.map fun b => [X.int .u8 b.toNat]).length cap) := by
        have hfl : (l.map fun b => [X.int .u8 (b.toNat : Int)]).flatten = l.map fun b => X.int .u8 b.toNat := by
          clear hcells hob hcell hget hh' hle hbase hnw hext hnewb hB hrun hcap hc1 hc2 hlen hv hx hsz
          induction l with
          | nil => rfl
          | cons b l ih => simp only [List.map_cons, List.flatten_cons, ih, List.singleton_append]
        refine .sl _ _ _ _ 1 (l.map fun b => Value.int .u8 b.toNat) (by simpa using hc1) hc2 (fun q hq => by obtain ⟨b, _, rfl⟩ := List.mem_map.1 hq; rfl) (by rw [hfl]; simp) ?_ ?_
        · intro i v hi
          rw [List.getElem?_map] at hi
          cases hli : l[i]? with
          | none => rw [hli] at hi; cases hi
          | some b =>
            rw [hli] at hi
            cases hi
            rw [hh']
            dsimp only
            rw [if_pos rfl, Nat.zero_add]
            exact hcell i _ (hget i b hli)
        · intro i u v hi hv
          rw [hfl, List.getElem?_map] at hi
          rw [List.getElem?_map] at hv
          cases hli : l[i]? with
          | none => rw [hli] at hi; cases hi
          | some b =>
            rw [hli] at hi hv
            cases hi
            cases hv
            exact .int (by
              have := UInt8.toNat_lt b
              exact IntWalk.u8_in _ (by omega))
      rw [List.length_map] at this
      exact RepD.toT (c := ⟨h', c.loc, c.arr, c.Y⟩) this

/-! ### pointers into slices of the activation's own -/
theorem optr_of {c : Ctx} {k n off : Nat} {v : Value} (h : RepT c (.optr k n off) v) : ∃ m hv lv, c.arr k = some (m, hv, lv) ∧ n ≤ m ∧ (n = m → ∃ b l cp, hv = .slice (some ⟨b, 0, none⟩) l cp ∧ v = .pointer (some ⟨b, off, none⟩)) := h
theorem S.oindex {t e sz k n i : Nat} {j : Int} {rows : List (List X)} (hs : SlI E.P t e sz) (hg : Gd all s guard rg) (hd : (Nat.blt d 1000 && Nat.blt d E.nt) = true) (hx : OpS s x (.own k n) r1) (hl : look s (2000 + k) = some (.arr sz rows)) (hn : rows.length = n)
    (hy : OpS s y (.int .i64 j) r2) (hj : j = i) (hi : i < n) : St1 E all ⟨some d, .indexAddr t x y, ty, pos, after, guard⟩ s (rg ++ (r1 ++ (r2 ++ [(2000 + k, .arr sz rows)]))) [(d, .optr k n (i * sz))] [] :=
  St1.val hg hd rfl (hx.looks.app (hy.looks.app ⟨hl, trivial⟩)) fun c A w hh hr => by
    subst hn
    subst hj
    obtain ⟨_, m, hv, lv, e1, e2, e3⟩ := own_of (hx.rep (c := c) (a := A) (w := w) fun p hp => hr p (by simp [hp]))
    obtain ⟨hw, _⟩ := int_of (hy.rep (c := c) (a := A) (w := w) fun p hp => hr p (by simp [hp]))
    obtain ⟨v, e', vs, g1, g2, g3, g4⟩ := arr_of (hr (2000 + k, .arr sz rows) (by simp))
    rw [e1] at g1
    cases g1
    have hev := e3 rfl
    rcases g2.2 with ⟨_, h0⟩ | ⟨g, cap, cur, rfl, _⟩
    · omega
    · refine ⟨.pointer (some ⟨g, i * sz, none⟩), ?_, rows.length, _, _, e1, Nat.le_refl _, fun _ => ⟨g, rows.length, cap, rfl, rfl⟩⟩
      simp [execOp, hev, hw, Instr.indexAt, asIntOf, run_underlying hs.und, hs.size, add_off]
      intro h1
      omega
theorem S.oload1 {T k n off sz tsz : Nat} {u : X} {rows : List (List X)} (ht : TyI E.P T false tsz) (hg : Gd all s guard rg) (hd : (Nat.blt d 1000 && Nat.blt d E.nt) = true) (hx : OpS s x (.optr k n off) r) (hl : look s (2000 + k) = some (.arr sz rows)) (hn : rows.length = n)
    (hu : rows.flatten[off]? = some u) : St1 E all ⟨some d, .load T x, ty, pos, after, guard⟩ s (rg ++ (r ++ [(2000 + k, .arr sz rows)])) [(d, u)] [] :=
  St1.val hg hd rfl (hx.looks.app ⟨hl, trivial⟩) fun c A w hh hr => by
    subst hn
    obtain ⟨m, hv, lv, e1, e2, e3⟩ := optr_of (hx.rep (c := c) (a := A) (w := w) fun p hp => hr p (by simp [hp]))
    obtain ⟨v, e', vs, g1, g2, g3, g4⟩ := arr_of (hr (2000 + k, .arr sz rows) (by simp))
    rw [e1] at g1
    cases g1
    obtain ⟨b, l, cp, rfl, hp⟩ := e3 rfl
    obtain ⟨v, hvv, hvr⟩ := g4.get_right hu
    refine ⟨v, ?_, RepD.toT hvr⟩
    simp only [execOp, hp]
    rw [Sem.run_bind, run_load1 ht (v := v)]
    · rfl
    · have := g2.cells (g := b) rfl off v hvv
      rwa [add_off, Nat.zero_add] at this
theorem S.ofield {T f o k n off sz : Nat} {rows : List (List X)} (hf : FiI E.P T f o) (hg : Gd all s guard rg) (hd : (Nat.blt d 1000 && Nat.blt d E.nt) = true) (hx : OpS s x (.optr k n off) r) (hl : look s (2000 + k) = some (.arr sz rows)) (hn : rows.length = n) :
    St1 E all ⟨some d, .fieldAddr T x f, ty, pos, after, guard⟩ s (rg ++ (r ++ [(2000 + k, .arr sz rows)])) [(d, .optr k n (off + o))] [] :=
  St1.val hg hd rfl (hx.looks.app ⟨hl, trivial⟩) fun c A w hh hr => by
    subst hn
    obtain ⟨m, hv, lv, e1, e2, e3⟩ := optr_of (hx.rep (c := c) (a := A) (w := w) fun p hp => hr p (by simp [hp]))
    obtain ⟨v, e', vs, g1, g2, g3, g4⟩ := arr_of (hr (2000 + k, .arr sz rows) (by simp))
    rw [e1] at g1
    cases g1
    obtain ⟨b, l, cp, rfl, hp⟩ := e3 rfl
    refine ⟨.pointer (some ⟨b, off + o, none⟩), ?_, rows.length, _, _, e1, Nat.le_refl _, fun _ => ⟨b, l, cp, rfl, rfl⟩⟩
    simp only [execOp, hp]
    rw [Sem.run_bind, run_fieldAt hf]
    rfl

/-! ### arrays in boxes -/
theorem S.bindex {t e sz m k off i : Nat} {j : Int} (hs : E.P.underlying t = some (.array m e)) (hsz2 : ∀ w, (sizeOf e).run E.P w = .ok sz w) (hg : Gd all s guard rg) (hd : (Nat.blt d 1000 && Nat.blt d E.nt) = true) (hx : OpS s x (.ptr k off) r1)
    (hy : OpS s y (.int .i64 j) r2) (hj : j = i) (hi : i < m) : St1 E all ⟨some d, .indexAddr t x y, ty, pos, after, guard⟩ s (rg ++ (r1 ++ r2)) [(d, .ptr k (off + i * sz))] [] :=
  St1.val hg hd rfl (hx.looks.app hy.looks) fun c A w hh hr => by
    subst hj
    obtain ⟨b, h1, hv⟩ := ptr_of (hx.rep (c := c) (a := A) (w := w) fun p hp => hr p (by simp [hp]))
    obtain ⟨hw, _⟩ := int_of (hy.rep (c := c) (a := A) (w := w) fun p hp => hr p (by simp [hp]))
    refine ⟨.pointer (some ⟨b, off + i * sz, none⟩), ?_, b, h1, rfl⟩
    simp [execOp, hv, hw, Instr.indexAt, asIntOf, run_underlying hs, hsz2, add_off, Instr.sureAddr]
    intro h2
    omega

/-! ### calls that work in place on a slice of the activation's own -/
theorem Base.freeze {U : List Nat} {c : Ctx} {a : Act} {w : World} {k n : Nat} {hv : Value} (hb : Base E U c a w) (e1 : c.arr k = some (n, hv, true)) (hk9 : k ∉ E.fs) :
    ∃ c', Base E U c' a w ∧ Ext c c' ∧ (∀ p, hv.ownBlock = some p.block → c'.h p = w.cell? p) ∧ ∀ key y, ¬ key < 1000 → key ≠ 2000 + k → Holds c a w key y → Holds c' a w key y := by
  obtain ⟨h', hh'⟩ : ∃ h' : Mem, h' = fun p => if hv.ownBlock = some p.block then w.cell? p else c.h p := ⟨_, rfl⟩
  have hblk : ∀ b, hv.ownBlock = some b → E.ok k b ∧ b < w.heap.size ∧ (∀ o, c.h ⟨b, o, none⟩ = none) ∧ (∀ k' m' hv', c.arr k' = some (m', hv', true) → hv'.ownBlock = some b → k' = k) := fun b e => hb.arr k _ _ b e1 e
  have hle : Mem.le c.h h' := by
    intro p u hp
    rw [hh']
    dsimp only
    split
    · exact hb.hw p u hp
    · exact hp
  have hin : ∀ p u, h' p = some u → c.h p = some u ∨ (hv.ownBlock = some p.block ∧ w.cell? p = some u) := by
    intro p u hp
    rw [hh'] at hp
    dsimp only at hp
    split at hp
    · exact .inr ⟨‹_›, hp⟩
    · exact .inl hp
  have hext : Ext c ⟨h', c.loc, fun j => if j = k then some (n, hv, false) else c.arr j, c.Y⟩ := ⟨hle, fun _ _ e => e, fun j m u lv e => by
    by_cases hj : j = k
    · subst hj; rw [e1] at e; cases e; exact ⟨_, _, false, if_pos rfl, Nat.le_refl _, fun _ => rfl⟩
    · exact ⟨m, u, lv, (if_neg hj).trans e, Nat.le_refl _, fun _ => rfl⟩⟩
  have harr : ∀ j m u, (if j = k then some (n, hv, false) else c.arr j) = some (m, u, true) → j ≠ k ∧ c.arr j = some (m, u, true) := by
    intro j m u hj
    split at hj
    · cases hj
    · exact ⟨‹_›, hj⟩
  have hall : ∀ b, b < w.heap.size → (Ctx.mk h' c.loc (fun j => if j = k then some (n, hv, false) else c.arr j) c.Y).all b → c.all b := by
    intro b _ ho
    rcases ho with hy | h | ⟨j, m, u, h2, h3⟩
    · exact .inl hy
    · exact .inr (.inl h)
    · exact .inr (.inr ⟨j, m, u, (harr j m u h2).2, h3⟩)
  have hwn : ∀ p u, h' p = some u → w.cell? p = some u := by
    intro p u hp
    rcases hin p u hp with h | h
    · exact hb.hw p u h
    · exact h.2
  refine ⟨⟨h', c.loc, fun j => if j = k then some (n, hv, false) else c.arr j, c.Y⟩, ⟨hb.below, hb.hB, hb.nt, dfr_of hb hall (fun _ _ h _ => h), pin_of hb hall (fun _ _ h _ => h), hwn, Mem.le_trans hb.hle hle, ?_, ?_, ?_, ?_, ?_, hb.loc0, ?_⟩, hext, fun p hp => by rw [hh']; dsimp only; rw [if_pos hp], ?_⟩
  · intro p u hp
    rcases hin p u hp with h | h
    · exact hb.hnew p u h
    · exact .inr ⟨Env.ok_own (hblk _ h.1).1 hk9, fun hy => (hb.Y _ hy).2.2.2 _ _ _ e1 h.1⟩
  · intro j b hj
    obtain ⟨h1, h2, h3, h4, h5⟩ := hb.loc j b hj
    refine ⟨h1, h2, fun o => ?_, h4, fun k' m u hk' => h5 k' m u (harr _ _ _ hk').2⟩
    cases hq : h' ⟨b, o, none⟩ with
    | none => exact hq
    | some u =>
      rcases hin _ _ hq with h | h
      · rw [h3 o] at h; cases h
      · exact absurd h.1 (h5 _ _ _ e1)
  · intro j m u b hj hbk
    obtain ⟨hjk, hj⟩ := harr j m u hj
    obtain ⟨h1, h2, h3, h4⟩ := hb.arr j m u b hj hbk
    refine ⟨h1, h2, fun o => ?_, fun k' m' u' hk' hb' => h4 k' m' u' (harr _ _ _ hk').2 hb'⟩
    cases hq : h' ⟨b, o, none⟩ with
    | none => exact hq
    | some u =>
      rcases hin _ _ hq with h | h
      · rw [h3 o] at h; cases h
      · exact absurd ((hblk b h.1).2.2.2 j m _ hj hbk) hjk
  · intro j hj
    refine ⟨(hb.used j hj).1, ?_⟩
    dsimp only
    split
    · rename_i e; subst e; have := (hb.used _ hj).2; rw [e1] at this; cases this
    · exact (hb.used j hj).2
  · intro b hy
    obtain ⟨h1, h2, h3, h4⟩ := hb.Y b hy
    exact ⟨h1, h2, h3, fun j m u hj e => h4 j m u (harr j m u hj).2 e⟩
  · intro j m u lv hj e
    exact hb.arr0 j m u lv hj ((if_neg (show ¬ j = k from fun e => hk9 (e ▸ hj))).symm.trans e)
  · intro key u hlt hne h0
    unfold Holds at h0 ⊢
    rw [if_neg hlt] at h0 ⊢
    refine or_snd h0 fun h0 => ?_
    split at h0
    · rename_i h2
      rw [if_pos h2]
      obtain ⟨b, o, f1, f2, f3⟩ := h0
      exact ⟨b, o, f1, f2, f3.mono hext⟩
    · rename_i h2
      rw [if_neg h2]
      split at h0
      · rename_i h6
        rw [if_pos h6]
        obtain ⟨sz2, rows2, hv2, e2', vs2, f4, f1, f2, f3⟩ := h0
        have hj : key - 2000 ≠ k := by omega
        generalize key - 2000 = j at f1 hj
        exact ⟨sz2, rows2, hv2, e2', vs2, f4.mono hext, (if_neg hj).trans f1, f2, f3⟩
      · rename_i h6
        rw [if_neg h6]
        obtain ⟨hk0, J, hx0, hJ, hJ2⟩ := h0
        exact ⟨hk0, J, hx0, hJ, hJ _ _ _ _ _ hJ2 hle (fun p v e => (hin p v e).imp id fun h hy => (hb.Y _ hy).2.2.2 _ _ _ e1 h.1) hwn (BelX.refl _ _ _) fun _ _ => rfl⟩
/-- A call of f with a slice of the activation's own: what it leaves is said by 'hpost'. -/
theorem step_own {f k n sz : Nat} {rows : List (List X)} {xr yr : X} {at_ : Array TypeId} (hcall : ∀ args w, (callFunc f args).run E.P w = .ok (.enter f args) w) (hg : Gd all s guard rg) (hd : (Nat.blt d 1000 && Nat.blt d E.nt) = true)
    (hx : OpS s x (.own k n) r) (hl : look s (2000 + k) = some (.arr sz rows)) (hn : rows.length = n)
    (hpost : ∀ U c a w hv e vs, k < 1000 → Base E U c a w → c.arr k = some (n, hv, true) → w.ownsRow 0 e sz hv n vs → (∀ q ∈ rows, q.length = sz) → All2 (RepD c.h) rows.flatten vs →
      Calls E.P f #[hv] w fun en w' => ∃ v c', en = .returned v ∧ Base E U c' a w' ∧ Ext c c' ∧ RepT c' xr v ∧ Holds c' a w' (2000 + k) yr ∧ ∀ key y, ¬ key < 1000 → key ≠ 2000 + k → Holds c a w key y → Holds c' a w' key y) :
    St1 E all ⟨some d, .call { callee := .value (.func f), args := #[x], argTypes := at_ }, ty, pos, after, guard⟩ s (rg ++ (r ++ [(2000 + k, .arr sz rows)])) [(d, xr), (2000 + k, yr)] [] := by
  simp only [Bool.and_eq_true, Nat.blt_eq] at hd
  refine ⟨?_, hg.looks.app (hx.looks.app ⟨hl, trivial⟩)⟩
  intro U c a w hb hr _ next Q hnx
  have hw := hg.wanted (o := ⟨some d, .call { callee := .value (.func f), args := #[x], argTypes := at_ }, ty, pos, after, guard⟩) (fun p hp => hr p (List.mem_append_left _ hp))
  subst hn
  obtain ⟨_, m, hv, lv, e1, e2, e3⟩ := own_of (hx.rep (c := c) (a := a) (w := w) fun p hp => hr p (by simp [hp]))
  obtain ⟨v, e', vs, g1, g2, g3, g4⟩ := arr_of (hr (2000 + k, .arr sz rows) (by simp))
  rw [e1] at g1
  cases g1
  have hev := e3 rfl
  unfold opIn
  rw [if_pos hw]
  refine ⟨fun _ _ => trivial, ?_⟩
  rw [Oper.semAt_eq _ _ _ fun cl he => by cases he]
  have hrun : (execOp a.eval ⟨some d, .call { callee := .value (.func f), args := #[x], argTypes := at_ }, ty, pos, after, guard⟩).run E.P w = .ok (.enter f #[hv]) w := by
    have hfo : a.eval (.func f) = .func (.func f) #[] #[] := rfl
    simp [execOp, resolve, hfo, hev, Deferred.ofValue, invoke, hcall]
  rw [hrun]
  refine ⟨(fun h => by cases h), ?_⟩
  have hcalls := hpost U c a w hv e' vs (arr_lt (hr (2000 + k, .arr sz rows) (by simp))) hb e1 g2 g3 g4
  have h1 : CallsIn E.F (0 - 1) E.P f #[hv] w _ := (callsIn_wide (n := 0)).2 hcalls
  refine h1.mono ?_
  rintro en w' ⟨v, c', rfl, hb', hext, hrv, hhold, hfr⟩
  have hdt : d < a.tmps.size := by rw [hb.nt]; exact hd.2
  refine hnx c' _ w' (hb'.put _ _) hext ?_ ?_
  · intro p hp
    simp only [List.mem_cons, List.not_mem_nil, or_false] at hp
    rcases hp with rfl | rfl
    · unfold Holds
      rw [if_pos hd.1, getD_put hdt]
      exact hrv
    · exact hhold.put (by show d ≠ 2000 + k; omega) v
  · intro key y hk hy
    have hne : d ≠ key := hk (d, xr) (by simp)
    have hne2 : 2000 + k ≠ key := hk (2000 + k, yr) (by simp)
    by_cases h1 : key < 1000
    · refine Holds.put ?_ hne v
      unfold Holds at hy ⊢
      rw [if_pos h1] at hy ⊢
      exact hy.mono hext
    · exact (hfr key y h1 (fun e => hne2 e.symm) hy).put hne v

/-- What slices.Sort at []int says of itself. -/
structure SortsI (P : Program) (f : Nat) : Prop where
  some : ∀ (blk off cap : Nat) (zs : List Int) (w : World), Go.Sort.Holds (Value.int .i64) w blk off zs.toArray → blk < w.heap.size → zs.length < 4611686018427387904 →
    Calls P f #[.slice (some ⟨blk, off, none⟩) zs.length cap] w fun e w' => e = .returned (.tuple #[]) ∧ ∃ n os, w' = Go.Sort.grow (Go.Sort.putRow (Value.int .i64) (Go.Sort.ahead w n) blk off (zs.mergeSort fun x y => decide (x ≤ y)).toArray) os
  none : ∀ (p : Option Addr) (cap : Nat) (w : World), Calls P f #[.slice p 0 cap] w fun e w' => e = .returned (.tuple #[]) ∧ w' = w
/-- What slices.Compact at []int says of itself. -/
structure CompactsI (P : Program) (f : Nat) : Prop where
  some : ∀ (blk off cap : Nat) (zs : List Int) (w : World), Go.Sort.Holds (Value.int .i64) w blk off zs.toArray → zs.length ≤ 9223372036854775807 → zs.length ≤ cap →
    Calls P f #[.slice (some ⟨blk, off, none⟩) zs.length cap] w fun e w' => e = .returned (.slice (some ⟨blk, off, none⟩) (Lib.compact zs).length cap) ∧ ∃ q, w' = Go.Sort.putRow (Value.int .i64) (Go.Sort.ahead w q) blk off (Lib.compact zs ++ List.replicate (zs.length - (Lib.compact zs).length) 0).toArray
  none : ∀ (a : Option Addr) (cap : Nat) (w : World), Calls P f #[.slice a 0 cap] w fun e w' => e = .returned (.slice a 0 cap) ∧ w' = w
theorem flatten_ints {α : Type} (g : α → X) : ∀ l : List α, (l.map fun n => [g n]).flatten = l.map g
  | [] => rfl
  | n :: l => by simp only [List.map_cons, List.flatten_cons, flatten_ints g l, List.singleton_append]
theorem ints_vals {h : Mem} : ∀ {zs : List Int} {vs : List Value}, All2 (RepD h) (zs.map fun n => X.int .i64 n) vs → vs = zs.map (Value.int .i64)
  | [], [], _ => rfl
  | z :: zs, v :: vs, h => by
    have h1 := h.1
    cases h1
    rw [List.map_cons, ints_vals h.2]
  | [], _ :: _, h => h.elim
  | _ :: _, [], h => h.elim
theorem vals_ints {h h' : Mem} {zs ts : List Int} (hs : All2 (RepD h) (zs.map fun n => X.int .i64 n) (zs.map (Value.int .i64))) (ht : ∀ t ∈ ts, t ∈ zs) : All2 (RepD h') (ts.map fun n => X.int .i64 n) (ts.map (Value.int .i64)) := by
  refine All2.of_get (by simp) fun i u v hu hv => ?_
  rw [List.getElem?_map] at hu hv
  cases hi : ts[i]? with
  | none => rw [hi] at hu; cases hu
  | some t =>
    rw [hi] at hu hv
    cases hu
    cases hv
    have hm := ht t (List.mem_of_getElem? hi)
    obtain ⟨j, hj⟩ := List.getElem?_of_mem hm
    have h1 := hs.get (i := j) (a := .int .i64 t) (b := .int .i64 t) (by simp [hj]) (by simp [hj])
    cases h1
    exact .int ‹_›
theorem S.sortI {f k n : Nat} {zs : List Int} {at_ : Array TypeId} {rows : List (List X)} (hf : SortsI E.P f) (hcall : ∀ args w, (callFunc f args).run E.P w = .ok (.enter f args) w) (hg : Gd all s guard rg) (hd : (Nat.blt d 1000 && Nat.blt d E.nt) = true)
    (hx : OpS s x (.own k n) r) (hl : look s (2000 + k) = some (.arr 1 rows)) (hn : rows.length = n) (hz : rows = zs.map fun n => [X.int .i64 n]) (hbig : n < 4611686018427387904) :
    St1 E all ⟨some d, .call { callee := .value (.func f), args := #[x], argTypes := at_ }, ty, pos, after, guard⟩ s (rg ++ (r ++ [(2000 + k, .arr 1 rows)])) [(d, .tup []), (2000 + k, .arr 1 ((zs.mergeSort fun x y => decide (x ≤ y)).map fun n => [.int .i64 n]))] [] := by
  refine step_own hcall hg hd hx hl hn fun U c a w hv e vs hk1 hb e1 g2 g3 g4 => ?_
  subst hz
  rw [List.length_map] at hn
  subst hn
  rw [flatten_ints] at g4
  have hvs := ints_vals g4
  subst hvs
  have hperm := List.mergeSort_perm zs (fun x y => decide (x ≤ y))
  rcases g2.2 with ⟨rfl, h0⟩ | ⟨g, cap, cur, rfl, p1, p2, p3, p4, p5, p6⟩
  · have : zs = [] := List.eq_nil_of_length_eq_zero h0
    subst this
    refine (hf.none Option.none 0 w).mono ?_
    rintro en w' ⟨rfl, rfl⟩
    have he : ([] : List Int).mergeSort (fun x y => decide (x ≤ y)) = [] := by simp
    rw [he]
    exact ⟨_, c, rfl, hb, Ext.refl c, ⟨[], rfl, trivial⟩, (Holds.mkArr (e := e) (rows := []) (vs := []) hk1 e1 (by simpa using g2) (fun _ h => by cases h) trivial).2, fun key y _ _ h => h⟩
  · have hH := holds_of_blockI p2 (ss := zs) (by simpa using p6)
    have hlt : g < w.heap.size := (Array.getElem?_eq_some_iff.1 p2).1
    refine (hf.some g 0 cap zs w hH hlt hbig).mono ?_
    rintro en w' ⟨rfl, q, os, rfl⟩
    obtain ⟨r1, r2, r3, r4⟩ := hb.append (n' := zs.length) (v' := .slice (some ⟨g, 0, none⟩) zs.length cap) e1 (grownBy_sortedI (w := w) (g := g) (n := q) (os := os) (zs.mergeSort fun x y => decide (x ≤ y)).toArray) (Nat.le_refl _) (fun _ => rfl) (.inl rfl) (not_dfr g2)
    have hown := ownsRow_sortedI (w := w) (base := 0) (g := g) (cap := cap) (n := q) (e := e) (os := os) (cur := cur) (ss := zs) (ts := zs.mergeSort fun x y => decide (x ≤ y)) hperm.length_eq p1 p2 p3 p4 p5
    refine ⟨_, _, rfl, r1, r2, ⟨[], rfl, trivial⟩, (Holds.mkArr (e := e) (rows := (zs.mergeSort fun x y => decide (x ≤ y)).map fun n => [X.int .i64 n]) hk1 (by rw [List.length_map, hperm.length_eq]; exact r3) (by rw [List.length_map, hperm.length_eq]; exact hown)
      (fun q hq => by obtain ⟨b, _, rfl⟩ := List.mem_map.1 hq; rfl) (by rw [flatten_ints]; exact vals_ints g4 fun t ht => hperm.mem_iff.1 ht)).2, fun key y h1 h2 h3 => r4 key y h1 h2 h3⟩
theorem S.compactI {f k n : Nat} {zs : List Int} {at_ : Array TypeId} {rows : List (List X)} (hf : CompactsI E.P f) (hcall : ∀ args w, (callFunc f args).run E.P w = .ok (.enter f args) w) (hg : Gd all s guard rg) (hd : (Nat.blt d 1000 && Nat.blt d E.nt) = true)
    (hx : OpS s x (.own k n) r) (hl : look s (2000 + k) = some (.arr 1 rows)) (hn : rows.length = n) (hz : rows = zs.map fun n => [X.int .i64 n]) (hbig : n < 4611686018427387904) (hsub : ∀ t ∈ Lib.compact zs, t ∈ zs) (hlen : (Lib.compact zs).length ≤ zs.length) (hk9 : E.fs.contains k = false := by rfl) :
    St1 E all ⟨some d, .call { callee := .value (.func f), args := #[x], argTypes := at_ }, ty, pos, after, guard⟩ s (rg ++ (r ++ [(2000 + k, .arr 1 rows)])) [(d, .sl ((Lib.compact zs).map fun n => [.int .i64 n])), (2000 + k, .any)] [] := by
  refine step_own hcall hg hd hx hl hn fun U c a w hv e vs hk1 hb e1 g2 g3 g4 => ?_
  subst hz
  rw [List.length_map] at hn
  subst hn
  rw [flatten_ints] at g4
  have hvs := ints_vals g4
  subst hvs
  rcases g2.2 with ⟨rfl, h0⟩ | ⟨g, cap, cur, rfl, p1, p2, p3, p4, p5, p6⟩
  · have : zs = [] := List.eq_nil_of_length_eq_zero h0
    subst this
    refine (hf.none Option.none 0 w).mono ?_
    rintro en w' ⟨rfl, rfl⟩
    exact ⟨_, c, rfl, hb, Ext.refl c, RepD.toT (.sl0 none 0 (Nat.zero_le _)), (by unfold Holds; rw [if_neg (by omega)]; exact .inl rfl), fun key y _ _ h => h⟩
  · have hH := holds_of_blockI p2 (ss := zs) (by simpa using p6)
    refine (hf.some g 0 cap zs w hH (by omega) p3).mono ?_
    rintro en w' ⟨rfl, q, rfl⟩
    generalize hts : Lib.compact zs ++ List.replicate (zs.length - (Lib.compact zs).length) 0 = ts
    have htl : ts.length = zs.length := by rw [← hts]; simp; omega
    have hgb := grownBy_sortedI (w := w) (g := g) (n := q) (os := #[]) ts.toArray
    have hown := ownsRow_sortedI (w := w) (base := 0) (g := g) (cap := cap) (n := q) (e := e) (os := #[]) (cur := cur) (ss := zs) (ts := ts) htl p1 p2 p3 p4 p5
    rw [Go.Sort.grow_empty] at hgb hown
    obtain ⟨r1, r2, r3, r4⟩ := hb.append (n' := zs.length) (v' := .slice (some ⟨g, 0, none⟩) zs.length cap) e1 hgb (Nat.le_refl _) (fun _ => rfl) (.inl rfl) (not_dfr g2)
    obtain ⟨c', f1, f2, f3, f4⟩ := r1.freeze r3 (nfs hk9)
    refine ⟨_, c', rfl, f1, r2.trans f2, ?_, (by unfold Holds; rw [if_neg (by omega)]; exact .inl rfl), fun key y h1 h2 h3 => f4 key y h1 h2 (r4 key y h1 h2 h3)⟩
    have hpre : (Go.Sort.putRow (Value.int .i64) (Go.Sort.ahead w q) g 0 ts.toArray).ownsRow 0 e 1 (.slice (some ⟨g, 0, none⟩) (Lib.compact zs).length cap) (Lib.compact zs).length ((Lib.compact zs).map (Value.int .i64)) := by
      rcases hown.2 with ⟨h, _⟩ | ⟨g', cap', cur', h, s1, s2, s3, s4, s5, s6⟩
      · cases h
      · cases h
        refine ⟨by simp, .inr ⟨g, cap, cur', rfl, s1, s2, by omega, s4, s5, ?_⟩⟩
        have : (cur'.toList.take (zs.length * 1)).take (Lib.compact zs).length = (Lib.compact zs).map (Value.int .i64) := by
          rw [s6, ← hts]
          simp
        rw [List.take_take] at this
        rw [Nat.mul_one, ← this]
        congr 1
        omega
    have hrep := RepD.of_owns (h := c.h) (h' := c'.h) (rows := (Lib.compact zs).map fun n => [X.int .i64 n]) (by rw [List.length_map]; exact hpre) (fun q hq => by obtain ⟨b, _, rfl⟩ := List.mem_map.1 hq; rfl) (by rw [flatten_ints]; exact vals_ints g4 hsub) ((r2.trans f2).h) (fun b o hbk => f3 _ (by cases hbk; rfl))
    exact RepD.toT hrep

/-! ### a nil slice in a box, taken for one of the activation's own -/
theorem Good.boxOwn {U : List Nat} {a : Act} {w : World} {b i k sz : Nat} {cells cells' : List X} (hg : Good E U s a w) (hb : look s (1000 + b) = some (.box cells)) (hb2 : Nat.blt b 1000 = true) (hi : cells[i]? = some .nils) (hc : cells.set i (.own k 0) = cells') (hk : (U.contains k) = false) (hk9 : k ∉ E.fs) (hk1 : Nat.blt k 1000 = true) :
    Good E (k :: U) ((1000 + b, .box cells') :: (2000 + k, .arr sz []) :: s) a w := by
  subst hc
  obtain ⟨c, hbs, hh⟩ := hg
  have hkU : k ∉ U := by simpa using hk
  rw [Nat.blt_eq] at hb2 hk1
  obtain ⟨g1, g2, g3, g4⟩ := hbs.ownNew hk9 hkU (n := 0) (v := .slice none 0 0) (Below.refl _ w) (.inl rfl)
  refine ⟨_, g1, fun key y hy => ?_⟩
  simp only [look] at hy
  split at hy
  · rename_i h
    have := Nat.eq_of_beq_eq_true h
    cases hy
    subst this
    obtain ⟨b', T', vs, h2, h3, h4⟩ := box_of (hh _ _ hb) hb2
    refine (Holds.mkBox hb2 (g2.loc _ _ h2) h3 ?_).2
    refine All2.of_get (by simpa using h4.length) fun j u v hu hv => ?_
    rw [List.getElem?_set] at hu
    split at hu
    · rename_i hij
      subst hij
      split at hu
      · cases hu
        have hv0 : v = .slice none 0 0 := h4.get hi hv
        subst hv0
        exact ⟨⟨none, 0, 0, rfl⟩, 0, _, _, g3, Nat.le_refl _, fun _ => rfl⟩
      · cases hu
    · exact (h4.get hu hv).mono g2
  · split at hy
    · rename_i h
      have := Nat.eq_of_beq_eq_true h
      cases hy
      subst this
      exact (Holds.mkArr (e := 0) (rows := []) (vs := []) (by omega) g3 (World.ownsRow_nil w _ 0 sz) (fun _ h => by cases h) trivial).2
    · have h0 := hh key y hy
      by_cases hlt : key < 1000
      · unfold Holds at h0 ⊢
        rw [if_pos hlt] at h0 ⊢
        exact h0.mono g2
      · exact g4 key y hlt h0
theorem OK.boxOwn {U : List Nat} {code : Code} {Q : Exit → List Nat → St → Prop} (b i k sz : Nat) {cells cells' : List X} (hb : look s (1000 + b) = some (.box cells)) (hb2 : Nat.blt b 1000 = true) (hi : cells[i]? = some .nils) (hc : cells.set i (.own k 0) = cells') (hk : (U.contains k) = false)
    (h : OK E code Q (k :: U) ((1000 + b, .box cells') :: (2000 + k, .arr sz []) :: s)) (hk9 : E.fs.contains k = false := by rfl) (hk1 : Nat.blt k 1000 = true := by rfl) : OK E code Q U s := fun a w hg => h a w (hg.boxOwn hb hb2 hi hc hk (nfs hk9) hk1)
/-- A box that holds a slice of the activation's own: it becomes data in place. -/
theorem Good.freezeBox {U : List Nat} {a : Act} {w : World} {b i k n sz : Nat} {rows : List (List X)} {cells cells' : List X} (hg : Good E U s a w) (hb : look s (1000 + b) = some (.box cells)) (hb2 : Nat.blt b 1000 = true) (hi : cells[i]? = some (.own k n)) (hl : look s (2000 + k) = some (.arr sz rows)) (hn : rows.length = n)
    (hc : cells.set i (.sl rows) = cells') (hk9 : k ∉ E.fs) : Good E U ((1000 + b, .box cells') :: (2000 + k, .any) :: s) a w := by
  subst hc
  subst hn
  obtain ⟨c, hbs, hh⟩ := hg
  rw [Nat.blt_eq] at hb2
  obtain ⟨hv, e', vs, g1, g2, g3, g4⟩ := arr_of (hh _ _ hl)
  obtain ⟨c', f1, f2, f3, f4⟩ := hbs.freeze g1 hk9
  refine ⟨c', f1, fun key y hy => ?_⟩
  simp only [look] at hy
  split at hy
  · rename_i h
    have := Nat.eq_of_beq_eq_true h
    cases hy
    subst this
    obtain ⟨b', T', vs2, h2, h3, h4⟩ := box_of (hh _ _ hb) hb2
    refine (Holds.mkBox hb2 (f2.loc _ _ h2) h3 ?_).2
    refine All2.of_get (by simpa using h4.length) fun j u v hu hv' => ?_
    rw [List.getElem?_set] at hu
    split at hu
    · rename_i hij
      subst hij
      split at hu
      · cases hu
        obtain ⟨_, m, hv0, lv, e1, e2, e3⟩ := h4.get hi hv'
        rw [g1] at e1
        cases e1
        rw [e3 rfl]
        exact RepD.toC (c := c') (RepD.of_owns g2 g3 g4 f2.h fun b o hbk => f3 _ hbk)
      · cases hu
    · exact (h4.get hu hv').mono f2
  · split at hy
    · rename_i h
      have := Nat.eq_of_beq_eq_true h
      cases hy
      subst this
      unfold Holds
      rw [if_neg (by omega)]
      exact .inl rfl
    · rename_i hne1 hne2
      have h0 := hh key y hy
      have hne : key ≠ 2000 + k := fun e => hne2 (by rw [e]; exact Nat.beq_refl _)
      by_cases hlt : key < 1000
      · unfold Holds at h0 ⊢
        rw [if_pos hlt] at h0 ⊢
        exact h0.mono f2
      · exact f4 key y hlt hne h0
theorem OK.freezeBox {U : List Nat} {code : Code} {Q : Exit → List Nat → St → Prop} (b i : Nat) {k n sz : Nat} {rows : List (List X)} {cells cells' : List X} (hb : look s (1000 + b) = some (.box cells)) (hb2 : Nat.blt b 1000 = true) (hi : cells[i]? = some (.own k n)) (hl : look s (2000 + k) = some (.arr sz rows)) (hn : rows.length = n)
    (hc : cells.set i (.sl rows) = cells') (h : OK E code Q U ((1000 + b, .box cells') :: (2000 + k, .any) :: s)) (hk9 : E.fs.contains k = false := by rfl) : OK E code Q U s := fun a w hg => h a w (hg.freezeBox hb hb2 hi hl hn hc (nfs hk9))

/-! ### bounds of what arguments hold -/
theorem OK.aggLen {U : List Nat} {c : Code} {Q : Exit → List Nat → St → Prop} (t i : Nat) {us : List X} (rows : List (List X)) (ht : Nat.blt t 1000 = true) (hl : look s t = some (.agg us)) (hi : us[i]? = some (.sl rows)) (h : rows.length ≤ maxLen → OK E c Q U s) : OK E c Q U s := by
  intro a w hg
  refine h ?_ a w hg
  obtain ⟨cx, hb, hh⟩ := hg
  obtain ⟨vs, _, h2⟩ := (hh _ _ hl).slot ht
  obtain ⟨v, hv, hr⟩ := h2.get_right hi
  obtain ⟨a, cap, _, p1, p2, _⟩ := sl_of (c := cx) (RepD.toT (show RepD cx.h (.sl rows) v from hr))
  omega
theorem OK.aggInt {U : List Nat} {c : Code} {Q : Exit → List Nat → St → Prop} (t i : Nat) {us : List X} {n : Int} (ht : Nat.blt t 1000 = true) (hl : look s t = some (.agg us)) (hi : us[i]? = some (.int .i64 n)) (h : -9223372036854775808 ≤ n ∧ n ≤ 9223372036854775807 → OK E c Q U s) : OK E c Q U s := by
  intro a w hg
  refine h ?_ a w hg
  obtain ⟨cx, hb, hh⟩ := hg
  obtain ⟨vs, _, h2⟩ := (hh _ _ hl).slot ht
  obtain ⟨v, hv, hr⟩ := h2.get_right hi
  cases hr
  exact i64_bd ‹_›
theorem OK.eptrLen {U : List Nat} {c : Code} {Q : Exit → List Nat → St → Prop} (t i : Nat) {us : List X} (rows : List (List X)) (ht : Nat.blt t 1000 = true) (hl : look s t = some (.eptr us)) (hi : us[i]? = some (.sl rows)) (h : rows.length ≤ maxLen → OK E c Q U s) : OK E c Q U s := by
  intro a w hg
  refine h ?_ a w hg
  obtain ⟨cx, hb, hh⟩ := hg
  have h1 : RepD cx.h (.eptr us) (a.tmps.getD t undef) := (hh _ _ hl).slot ht
  generalize a.tmps.getD t undef = v0 at h1
  cases h1 with
  | eptr _ b off vs e1 e2 e3 =>
    have hlt : i < us.length := (List.getElem?_eq_some_iff.1 hi).1
    have hv : vs[i]? = some vs[i] := List.getElem?_eq_getElem (by omega)
    obtain ⟨a, cap, _, p1, p2, _⟩ := sl_of (c := cx) (RepD.toT (e3 i _ _ hi hv))
    omega

/-! ### equality of structs and arrays of ints -/
structure EqI (P : Program) (t n : Nat) : Prop where
  guard : P.eqGuardType P.depth t = false
  run : ∀ (xs ys : List Int) (w : World), xs.length = n → ys.length = n → (binOp .eql t (.agg (xs.map (Value.int .i64)).toArray) (.agg (ys.map (Value.int .i64)).toArray)).run P w = .ok (.bool (decide (xs = ys))) w
  runN : ∀ (xs ys : List Int) (w : World), xs.length = n → ys.length = n → (binOp .neq t (.agg (xs.map (Value.int .i64)).toArray) (.agg (ys.map (Value.int .i64)).toArray)).run P w = .ok (.bool (decide (xs ≠ ys))) w
theorem eqFields_ints {P : Program} {T d : Nat} (hi : P.underlying T = some (.int .i64)) (hag : ∀ w, (isAgg T).run P w = .ok false w) (xs ys : List Int) (w : World) (hl : xs.length = ys.length) : ∀ (fs : List Field) (o : Nat),
    fs.map (fun f => (f.name == "_", f.type, f.offset)) = (List.range' o fs.length).map (fun i => (false, T, i)) → o + fs.length = xs.length → xs.take o = ys.take o →
    (Op.eqFields (d + 1) (xs.map (Value.int .i64)).toArray (ys.map (Value.int .i64)).toArray fs).run P w = .ok (decide (xs = ys)) w
  | [], o, _, ho, ht => by
    have h1 : xs = ys := by
      rw [List.take_of_length_le (by simp at ho; omega), List.take_of_length_le (by simp at ho; omega)] at ht
      exact ht
    simp [Op.eqFields, h1]
  | f :: fs, o, hf, ho, ht => by
    simp only [List.map_cons, List.length_cons, List.range'_succ, List.cons.injEq, Prod.mk.injEq, beq_eq_false_iff_ne] at hf
    obtain ⟨⟨h1, h2, h3⟩, hf⟩ := hf
    simp only [List.length_cons] at ho
    have hx : o < xs.length := by omega
    have hy : o < ys.length := by omega
    have p1 : ∀ (l : List Int) (h : o < l.length), (part f.type (l.map (Value.int .i64)).toArray f.offset).run P w = .ok (.int .i64 l[o]) w := by
      intro l h
      rw [h2, h3]
      simp [part, hag, h]
    simp only [Op.eqFields]
    rw [if_pos h1]
    simp only [Sem.run_bind, p1 xs hx, p1 ys hy, Result.andThen_ok]
    rw [h2, run_equalIn_int _ _ _ _ _ _ _ hi]
    simp only [Result.andThen_ok]
    by_cases he : xs[o] = ys[o]
    · simp only [he, beq_self_eq_true, Bool.not_true, Bool.false_eq_true, if_false]
      exact eqFields_ints hi hag xs ys w hl fs (o + 1) hf (by omega) (by rw [List.take_succ_eq_append_getElem hx, List.take_succ_eq_append_getElem hy, ht, he])
    · have hne : xs ≠ ys := fun e => he (by subst e; rfl)
      simp [he, hne]
theorem EqI.mk_struct {P : Program} {t n T : Nat} {fs : Array Field} (hg : P.eqGuardType P.depth t = false) (hu : P.underlying t = some (.struct fs)) (hp : P.stoodInHeld t = false)
    (hf : fs.toList.map (fun f => (f.name == "_", f.type, f.offset)) = (List.range' 0 n).map (fun i => (false, T, i))) (hi : P.underlying T = some (.int .i64)) (hag : ∀ w, (isAgg T).run P w = .ok false w) : EqI P t n := by
  have hn : fs.toList.length = n := by simpa using congrArg List.length hf
  have hfo : P.fieldsOf t = fs := by unfold Program.fieldsOf; rw [hu]
  have key : ∀ (xs ys : List Int) (w : World), xs.length = n → ys.length = n → (Op.equalIn 10000 t (.agg (xs.map (Value.int .i64)).toArray) (.agg (ys.map (Value.int .i64)).toArray)).run P w = .ok (decide (xs = ys)) w := by
    intro xs ys w h1 h2
    rw [run_equalIn_struct w 9999 t _ _ (by rw [hfo]; exact hu) hp, hfo]
    exact eqFields_ints (d := 9998) hi hag xs ys w (by omega) fs.toList 0 (by rw [hn]; exact hf) (by omega) rfl
  refine ⟨hg, fun xs ys w h1 h2 => ?_, fun xs ys w h1 h2 => ?_⟩
  · rw [run_eql_struct, key xs ys w h1 h2]; rfl
  · rw [run_neq_struct, key xs ys w h1 h2]; simp [Result.andThen]
theorem EqI.mk_array2 {P : Program} {t T : Nat} (hg : P.eqGuardType P.depth t = false) (hu : P.underlying t = some (.array 2 T)) (hi : P.underlying T = some (.int .i64)) (hag : ∀ w, (isAgg T).run P w = .ok false w) (hs : ∀ w, (sizeOf T).run P w = .ok 1 w) : EqI P t 2 := by
  have key : ∀ (d : Nat) (xs ys : List Int) (w : World), xs.length = 2 → ys.length = 2 → (Op.equalIn (d + 1 + 1) t (.agg (xs.map (Value.int .i64)).toArray) (.agg (ys.map (Value.int .i64)).toArray)).run P w = .ok (decide (xs = ys)) w := by
    intro d xs ys w h1 h2
    match xs, ys, h1, h2 with
    | [a, b], [c, e], _, _ =>
      have e1 : ∀ (a c : Int) (w : World), (Op.equalIn (d + 1) T (.int .i64 a) (.int .i64 c)).run P w = .ok (a == c) w := fun a c w => run_equalIn_int w d T .i64 .i64 a c hi
      have hr : List.range' 0 2 = [0, 1] := rfl
      generalize hq : Op.equalIn (d + 1) = q at e1
      unfold Op.equalIn
      rw [hq]
      have p1 : ∀ (l : List Value) (i : Nat) (v : Value) (w : World), l[i]? = some v → (part T l.toArray i).run P w = .ok v w := by
        intro l i v w h
        simp [part, hag, h]
      simp only [Sem.run_bind, run_underlying hu, Result.andThen_ok, hs, Std.Legacy.Range.forIn_eq_forIn_range', Std.Legacy.Range.size, Nat.sub_zero, Nat.add_sub_cancel, Nat.div_one, hr, List.forIn_cons, List.forIn_nil, Nat.mul_one]
      rw [p1 _ 0 (.int .i64 a) w (by simp), Result.andThen_ok, p1 _ 0 (.int .i64 c) w (by simp), Result.andThen_ok, e1, Result.andThen_ok]
      by_cases h1 : a = c
      · subst h1
        simp only [beq_self_eq_true, Bool.not_true, Bool.false_eq_true, if_false, Sem.run_pure, Result.andThen_ok, Sem.run_bind]
        rw [p1 _ 1 (.int .i64 b) w (by simp), Result.andThen_ok, p1 _ 1 (.int .i64 e) w (by simp), Result.andThen_ok, e1, Result.andThen_ok]
        by_cases h2 : b = e <;> simp [h2]
      · simp [h1]
  refine ⟨hg, fun xs ys w h1 h2 => ?_, fun xs ys w h1 h2 => ?_⟩
  · rw [run_eql_struct, key 9998 xs ys w h1 h2]; rfl
  · rw [run_neq_struct, key 9998 xs ys w h1 h2]; simp [Result.andThen]
theorem agg_ints {c : Ctx} {xs : List Int} {v : Value} (h : RepT c (.agg (xs.map fun n => .int .i64 n)) v) : v = .agg (xs.map (Value.int .i64)).toArray := by
  obtain ⟨vs, rfl, h⟩ := h
  have : ∀ {xs : List Int} {vs : List Value}, All2 (RepC c) (xs.map fun n => X.int .i64 n) vs → vs = xs.map (Value.int .i64) := by
    intro xs
    induction xs with
    | nil => intro vs h; exact (All2.nil_left h) ▸ rfl
    | cons z zs ih =>
      intro vs h
      obtain ⟨v, vs', rfl, h1, h2⟩ := h.cons_left
      cases h1
      rw [List.map_cons, ih h2]
  rw [this h]
theorem S.aeql {t t2 n : Nat} {us vs : List X} (xs ys : List Int) (he : EqI E.P t n) (hg : Gd all s guard rg) (hd : (Nat.blt d 1000 && Nat.blt d E.nt) = true) (hx : OpS s x (.agg us) r1) (hy : OpS s y (.agg vs) r2) (hxs : us = xs.map fun n => .int .i64 n) (hys : vs = ys.map fun n => .int .i64 n)
    (h1 : xs.length = n) (h2 : ys.length = n) : St1 E all ⟨some d, .binOp .eql t x y t2, ty, pos, after, guard⟩ s (rg ++ (r1 ++ r2)) [(d, .bool (decide (xs = ys)))] [] :=
  St1.val hg hd rfl (hx.looks.app hy.looks) fun c A w _ hr => by
    subst hxs
    subst hys
    have e1 := agg_ints (hx.rep (c := c) (a := A) (w := w) fun p hp => hr p (by simp [hp]))
    have e2 := agg_ints (hy.rep (c := c) (a := A) (w := w) fun p hp => hr p (by simp [hp]))
    refine ⟨_, ?_, RepD.toT (.bool _)⟩
    have hq : (eqGuard .eql t x y (.agg (xs.map (Value.int .i64)).toArray) (.agg (ys.map (Value.int .i64)).toArray)).run E.P w = .ok () w   := by simp [eqGuard, he.guard]
    simp only [execOp, e1, e2, Sem.run_bind, hq, Result.andThen_ok, he.run xs ys w h1 h2]
    rfl
theorem S.aneq {t t2 n : Nat} {us vs : List X} (xs ys : List Int) (he : EqI E.P t n) (hg : Gd all s guard rg) (hd : (Nat.blt d 1000 && Nat.blt d E.nt) = true) (hx : OpS s x (.agg us) r1) (hy : OpS s y (.agg vs) r2) (hxs : us = xs.map fun n => .int .i64 n) (hys : vs = ys.map fun n => .int .i64 n)
    (h1 : xs.length = n) (h2 : ys.length = n) : St1 E all ⟨some d, .binOp .neq t x y t2, ty, pos, after, guard⟩ s (rg ++ (r1 ++ r2)) [(d, .bool (decide (xs ≠ ys)))] [] :=
  St1.val hg hd rfl (hx.looks.app hy.looks) fun c A w _ hr => by
    subst hxs
    subst hys
    have e1 := agg_ints (hx.rep (c := c) (a := A) (w := w) fun p hp => hr p (by simp [hp]))
    have e2 := agg_ints (hy.rep (c := c) (a := A) (w := w) fun p hp => hr p (by simp [hp]))
    refine ⟨_, ?_, RepD.toT (.bool _)⟩
    have hq : (eqGuard .neq t x y (.agg (xs.map (Value.int .i64)).toArray) (.agg (ys.map (Value.int .i64)).toArray)).run E.P w = .ok () w   := by simp [eqGuard, he.guard]
    simp only [execOp, e1, e2, Sem.run_bind, hq, Result.andThen_ok, he.runN xs ys w h1 h2]
    rfl
end
end Go.Ab
