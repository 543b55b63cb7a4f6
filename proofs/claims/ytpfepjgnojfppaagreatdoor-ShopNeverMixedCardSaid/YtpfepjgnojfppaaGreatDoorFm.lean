import Derived.Laws.IdiomStrings
import Derived.Laws.StructEq
import Derived.Lib.SlicesCompact
import Derived.Sort.OwnSortedInts
import Derived.Test.YtpfepjgnojfppaaGreatDoorFk
namespace Go.Ab
open Go.RowKit
section
variable {E : Env} {all : Array Oper} {s r r1 r2 r3 rg : St} {d ty : Nat} {pos : String} {after : Array Edge} {guard : Option (Nat × Bool)} {x y z : Operand}
theorem S.bytes {src dst e : Nat} {l : List UInt8} (hs : E.P.underlying src = some .string) (ht : E.P.underlying dst = some (.slice e)) (he : E.P.underlying e = some (.int .u8)) (hg : Gd all s guard rg) (hd : (Nat.blt d 1000 && Nat.blt d E.nt) = true) (hx : OpS s x (.str l) r) :
    St1 E all ⟨some d, .convert src dst x, ty, pos, after, guard⟩ s (rg ++ r) ((d, .sl (l.map fun b => [.int .u8 b.toNat])) :: []) [] :=
  St1.mk hg hd rfl hx.looks fun U c a w hb hr _ => by
    obtain ⟨hv, hlen⟩ := str_of (hx.rep (c := c) (a := a) (w := w) hr)
    have hsz : (⟨l.toArray⟩ : ByteArray).size = l.length := by show l.toArray.size = _; simp
    have hrun := run_bytes_of_string (P := E.P) w src dst e ⟨l.toArray⟩ hs ht he
    rw [hsz] at hrun
    generalize hcap : grownCap w l.length 0 e = cap at hrun
    have hc1 : l.length ≤ cap := by rw [← hcap]; exact grownCap_ge _ _ _ _
    have hc2 : cap ≤ maxLen := by rw [← hcap]; exact grownCap_le_maxLen _ _ _ _ hlen
    generalize hcells : bytesRow (⟨l.toArray⟩ : ByteArray) cap = cells at hrun
    generalize hob : Obj.cells cells e (cells.size, cells.size + 1) = ob at hrun
    have hB : Below w.heap.size w (w.drew.alloc ob) := (Below.refl _ w).drew.alloc (Nat.le_refl _) ob
    have hnewb : (w.drew.alloc ob).heap[w.heap.size]? = some ob := heap_alloc_new w.drew ob
    have hcell : ∀ j u, cells[j]? = some u → (w.drew.alloc ob).cell? ⟨w.heap.size, j, none⟩ = some u := by
      intro j u hu
      subst hob
      rw [cell_of_row _ w.heap.size j cells e _ hnewb]
      exact hu
    have hget : ∀ (j : Nat) (b : UInt8), l[j]? = some b → cells[j]? = some (Value.int .u8 b.toNat) := by
      intro j b hj
      have hjl : j < l.length := (List.getElem?_eq_some_iff.1 hj).1
      rw [← hcells]
      simp [bytesRow, Array.getElem?_append, hjl]
      have := (List.getElem?_eq_some_iff.1 hj).2
      rw [this]
    obtain ⟨h', hh'⟩ : ∃ h' : Mem, h' = fun p => if p.block = w.heap.size then (w.drew.alloc ob).cell? p else c.h p := ⟨_, rfl⟩
    have hle : Mem.le c.h h' := by
      intro p u hp
      rw [hh']
      dsimp only
      rw [if_neg (by have := block_lt_of_cell (hb.hw p u hp); omega)]
      exact hp
    have hnw : ∀ p u, h' p = some u → c.h p = some u ∨ w.heap.size ≤ p.block := fun p u hp => by
      rw [hh'] at hp
      dsimp only at hp
      split at hp
      · exact .inr (by omega)
      · exact .inl hp
    have hbase := hb.below_grow hB hle hnw (fun p u hp => by
      rw [hh'] at hp
      dsimp only at hp
      split at hp
      · exact hp
      · rw [hB.cell (block_lt_of_cell (hb.hw p u hp))]; exact hb.hw p u hp)
    have hext : Ext c ⟨h', c.loc, c.arr, c.Y⟩ := ⟨hle, fun _ _ e => e, fun _ m hv lv e => ⟨m, hv, lv, e, Nat.le_refl _, fun _ => rfl⟩⟩
    refine ⟨.slice (some ⟨w.heap.size, 0, none⟩) l.length cap, ⟨h', c.loc, c.arr, c.Y⟩, _, ?_, hbase, hext, ?_, (fun p hp => by cases hp), fun key u hkey _ hu => Holds.below hb hB hext (fun _ _ _ e => e) rfl hnw hbase.hw hkey hu⟩
    · simp only [execOp, hv]
      rw [Sem.run_bind, hrun]
      rfl
    · have : RepD h' (.sl (l.map fun b => [X.int .u8 b.toNat])) (.slice (some ⟨w.heap.size, 0, none⟩) (l.map fun b => [X.int .u8 b.toNat]).length cap) := by
        have hfl : (l.map fun b => [X.int .u8 (b.toNat : Int)]).flatten = l.map fun b => X.int .u8 b.toNat := by
          clear hcells hob hcell hget hh' hle hbase hnw hext hnewb hB hrun hcap hc1 hc2 hlen hv hx hsz
          induction l with
          | nil => rfl
          | cons b l ih => simp only [List.map_cons, List.flatten_cons, ih, List.singleton_append]
        refine .sl _ _ _ _ 1 (l.map fun b => Value.int .u8 b.toNat) (by simpa using hc1) hc2 (fun q hq => by obtain ⟨b, _, rfl⟩ := List.mem_map.1 hq; rfl) (by rw [hfl]; simp) ?_ ?_
        · intro i v hi
          rw [List.getElem?_map] at hi
          cases hli : l[i]? with
          | none => rw [hli] at hi; cases hi
          | some b =>
            rw [hli] at hi
            cases hi
            rw [hh']
            dsimp only
            rw [if_pos rfl, Nat.zero_add]
            exact hcell i _ (hget i b hli)
        · intro i u v hi hv
          rw [hfl, List.getElem?_map] at hi
          rw [List.getElem?_map] at hv
          cases hli : l[i]? with
          | none => rw [hli] at hi; cases hi
          | some b =>
            rw [hli] at hi hv
            cases hi
            cases hv
            exact .int (by
              have := UInt8.toNat_lt b
              exact IntWalk.u8_in _ (by omega))
      rw [List.length_map] at this
      exact RepD.toT (c := ⟨h', c.loc, c.arr, c.Y⟩) this
theorem optr_of {c : Ctx} {k n off : Nat} {v : Value} (h : RepT c (.optr k n off) v) : ∃ m hv lv, c.arr k = some (m, hv, lv) ∧ n ≤ m ∧ (n = m → ∃ b l cp, hv = .slice (some ⟨b, 0, none⟩) l cp ∧ v = .pointer (some ⟨b, off, none⟩)) := h
theorem S.oindex {t e sz k n i : Nat} {j : Int} {rows : List (List X)} (hs : SlI E.P t e sz) (hg : Gd all s guard rg) (hd : (Nat.blt d 1000 && Nat.blt d E.nt) = true) (hx : OpS s x (.own k n) r1) (hl : look s (2000 + k) = some (.arr sz rows)) (hn : rows.length = n)
    (hy : OpS s y (.int .i64 j) r2) (hj : j = i) (hi : i < n) : St1 E all ⟨some d, .indexAddr t x y, ty, pos, after, guard⟩ s (rg ++ (r1 ++ (r2 ++ [(2000 + k, .arr sz rows)]))) [(d, .optr k n (i * sz))] [] :=
  St1.val hg hd rfl (hx.looks.app (hy.looks.app ⟨hl, trivial⟩)) fun c A w hh hr => by
    subst hn
    subst hj
    obtain ⟨_, m, hv, lv, e1, e2, e3⟩ := own_of (hx.rep (c := c) (a := A) (w := w) fun p hp => hr p (by simp [hp]))
    obtain ⟨hw, _⟩ := int_of (hy.rep (c := c) (a := A) (w := w) fun p hp => hr p (by simp [hp]))
    obtain ⟨v, e', vs, g1, g2, g3, g4⟩ := arr_of (hr (2000 + k, .arr sz rows) (by simp))
    rw [e1] at g1
    cases g1
    have hev := e3 rfl
    rcases g2.2 with ⟨_, h0⟩ | ⟨g, cap, cur, rfl, _⟩
    · omega
    · refine ⟨.pointer (some ⟨g, i * sz, none⟩), ?_, rows.length, _, _, e1, Nat.le_refl _, fun _ => ⟨g, rows.length, cap, rfl, rfl⟩⟩
      simp [execOp, hev, hw, Instr.indexAt, asIntOf, run_underlying hs.und, hs.size, add_off]
      intro h1
      omega
theorem Base.freeze {U : List Nat} {c : Ctx} {a : Act} {w : World} {k n : Nat} {hv : Value} (hb : Base E U c a w) (e1 : c.arr k = some (n, hv, true)) (hk9 : k ∉ E.fs) :
    ∃ c', Base E U c' a w ∧ Ext c c' ∧ (∀ p, hv.ownBlock = some p.block → c'.h p = w.cell? p) ∧ ∀ key y, ¬ key < 1000 → key ≠ 2000 + k → Holds c a w key y → Holds c' a w key y := by
  obtain ⟨h', hh'⟩ : ∃ h' : Mem, h' = fun p => if hv.ownBlock = some p.block then w.cell? p else c.h p := ⟨_, rfl⟩
  have hblk : ∀ b, hv.ownBlock = some b → E.ok k b ∧ b < w.heap.size ∧ (∀ o, c.h ⟨b, o, none⟩ = none) ∧ (∀ k' m' hv', c.arr k' = some (m', hv', true) → hv'.ownBlock = some b → k' = k) := fun b e => hb.arr k _ _ b e1 e
  have hle : Mem.le c.h h' := by
    intro p u hp
    rw [hh']
    dsimp only
    split
    · exact hb.hw p u hp
    · exact hp
  have hin : ∀ p u, h' p = some u → c.h p = some u ∨ (hv.ownBlock = some p.block ∧ w.cell? p = some u) := by
    intro p u hp
    rw [hh'] at hp
    dsimp only at hp
    split at hp
    · exact .inr ⟨‹_›, hp⟩
    · exact .inl hp
  have hext : Ext c ⟨h', c.loc, fun j => if j = k then some (n, hv, false) else c.arr j, c.Y⟩ := ⟨hle, fun _ _ e => e, fun j m u lv e => by
    by_cases hj : j = k
    · subst hj; rw [e1] at e; cases e; exact ⟨_, _, false, if_pos rfl, Nat.le_refl _, fun _ => rfl⟩
    · exact ⟨m, u, lv, (if_neg hj).trans e, Nat.le_refl _, fun _ => rfl⟩⟩
  have harr : ∀ j m u, (if j = k then some (n, hv, false) else c.arr j) = some (m, u, true) → j ≠ k ∧ c.arr j = some (m, u, true) := by
    intro j m u hj
    split at hj
    · cases hj
    · exact ⟨‹_›, hj⟩
  have hall : ∀ b, b < w.heap.size → (Ctx.mk h' c.loc (fun j => if j = k then some (n, hv, false) else c.arr j) c.Y).all b → c.all b := by
    intro b _ ho
    rcases ho with hy | h | ⟨j, m, u, h2, h3⟩
    · exact .inl hy
    · exact .inr (.inl h)
    · exact .inr (.inr ⟨j, m, u, (harr j m u h2).2, h3⟩)
  have hwn : ∀ p u, h' p = some u → w.cell? p = some u := by
    intro p u hp
    rcases hin p u hp with h | h
    · exact hb.hw p u h
    · exact h.2
  refine ⟨⟨h', c.loc, fun j => if j = k then some (n, hv, false) else c.arr j, c.Y⟩, ⟨hb.below, hb.hB, hb.nt, dfr_of hb hall (fun _ _ h _ => h), pin_of hb hall (fun _ _ h _ => h), hwn, Mem.le_trans hb.hle hle, ?_, ?_, ?_, ?_, ?_, hb.loc0, ?_⟩, hext, fun p hp => by rw [hh']; dsimp only; rw [if_pos hp], ?_⟩
  · intro p u hp
    rcases hin p u hp with h | h
    · exact hb.hnew p u h
    · exact .inr ⟨Env.ok_own (hblk _ h.1).1 hk9, fun hy => (hb.Y _ hy).2.2.2 _ _ _ e1 h.1⟩
  · intro j b hj
    obtain ⟨h1, h2, h3, h4, h5⟩ := hb.loc j b hj
    refine ⟨h1, h2, fun o => ?_, h4, fun k' m u hk' => h5 k' m u (harr _ _ _ hk').2⟩
    cases hq : h' ⟨b, o, none⟩ with
    | none => exact hq
    | some u =>
      rcases hin _ _ hq with h | h
      · rw [h3 o] at h; cases h
      · exact absurd h.1 (h5 _ _ _ e1)
  · intro j m u b hj hbk
    obtain ⟨hjk, hj⟩ := harr j m u hj
    obtain ⟨h1, h2, h3, h4⟩ := hb.arr j m u b hj hbk
    refine ⟨h1, h2, fun o => ?_, fun k' m' u' hk' hb' => h4 k' m' u' (harr _ _ _ hk').2 hb'⟩
    cases hq : h' ⟨b, o, none⟩ with
    | none => exact hq
    | some u =>
      rcases hin _ _ hq with h | h
      · rw [h3 o] at h; cases h
      · exact absurd ((hblk b h.1).2.2.2 j m _ hj hbk) hjk
  · intro j hj
    refine ⟨(hb.used j hj).1, ?_⟩
    dsimp only
    split
    · rename_i e; subst e; have := (hb.used _ hj).2; rw [e1] at this; cases this
    · exact (hb.used j hj).2
  · intro b hy
    obtain ⟨h1, h2, h3, h4⟩ := hb.Y b hy
    exact ⟨h1, h2, h3, fun j m u hj e => h4 j m u (harr j m u hj).2 e⟩
  · intro j m u lv hj e
    exact hb.arr0 j m u lv hj ((if_neg (show ¬ j = k from fun e => hk9 (e ▸ hj))).symm.trans e)
  · intro key u hlt hne h0
    unfold Holds at h0 ⊢
    rw [if_neg hlt] at h0 ⊢
    refine or_snd h0 fun h0 => ?_
    split at h0
    · rename_i h2
      rw [if_pos h2]
      obtain ⟨b, o, f1, f2, f3⟩ := h0
      exact ⟨b, o, f1, f2, f3.mono hext⟩
    · rename_i h2
      rw [if_neg h2]
      split at h0
      · rename_i h6
        rw [if_pos h6]
        obtain ⟨sz2, rows2, hv2, e2', vs2, f4, f1, f2, f3⟩ := h0
        have hj : key - 2000 ≠ k := by omega
        generalize key - 2000 = j at f1 hj
        exact ⟨sz2, rows2, hv2, e2', vs2, f4.mono hext, (if_neg hj).trans f1, f2, f3⟩
      · rename_i h6
        rw [if_neg h6]
        obtain ⟨hk0, J, hx0, hJ, hJ2⟩ := h0
        exact ⟨hk0, J, hx0, hJ, hJ _ _ _ _ _ hJ2 hle (fun p v e => (hin p v e).imp id fun h hy => (hb.Y _ hy).2.2.2 _ _ _ e1 h.1) hwn (BelX.refl _ _ _) fun _ _ => rfl⟩
theorem step_own {f k n sz : Nat} {rows : List (List X)} {xr yr : X} {at_ : Array TypeId} (hcall : ∀ args w, (callFunc f args).run E.P w = .ok (.enter f args) w) (hg : Gd all s guard rg) (hd : (Nat.blt d 1000 && Nat.blt d E.nt) = true)
    (hx : OpS s x (.own k n) r) (hl : look s (2000 + k) = some (.arr sz rows)) (hn : rows.length = n)
    (hpost : ∀ U c a w hv e vs, k < 1000 → Base E U c a w → c.arr k = some (n, hv, true) → w.ownsRow 0 e sz hv n vs → (∀ q ∈ rows, q.length = sz) → All2 (RepD c.h) rows.flatten vs →
      Calls E.P f #[hv] w fun en w' => ∃ v c', en = .returned v ∧ Base E U c' a w' ∧ Ext c c' ∧ RepT c' xr v ∧ Holds c' a w' (2000 + k) yr ∧ ∀ key y, ¬ key < 1000 → key ≠ 2000 + k → Holds c a w key y → Holds c' a w' key y) :
    St1 E all ⟨some d, .call { callee := .value (.func f), args := #[x], argTypes := at_ }, ty, pos, after, guard⟩ s (rg ++ (r ++ [(2000 + k, .arr sz rows)])) [(d, xr), (2000 + k, yr)] [] := by
  simp only [Bool.and_eq_true, Nat.blt_eq] at hd
  refine ⟨?_, hg.looks.app (hx.looks.app ⟨hl, trivial⟩)⟩
  intro U c a w hb hr _ next Q hnx
  have hw := hg.wanted (o := ⟨some d, .call { callee := .value (.func f), args := #[x], argTypes := at_ }, ty, pos, after, guard⟩) (fun p hp => hr p (List.mem_append_left _ hp))
  subst hn
  obtain ⟨_, m, hv, lv, e1, e2, e3⟩ := own_of (hx.rep (c := c) (a := a) (w := w) fun p hp => hr p (by simp [hp]))
  obtain ⟨v, e', vs, g1, g2, g3, g4⟩ := arr_of (hr (2000 + k, .arr sz rows) (by simp))
  rw [e1] at g1
  cases g1
  have hev := e3 rfl
  unfold opIn
  rw [if_pos hw]
  refine ⟨fun _ _ => trivial, ?_⟩
  rw [Oper.semAt_eq _ _ _ fun cl he => by cases he]
  have hrun : (execOp a.eval ⟨some d, .call { callee := .value (.func f), args := #[x], argTypes := at_ }, ty, pos, after, guard⟩).run E.P w = .ok (.enter f #[hv]) w := by
    have hfo : a.eval (.func f) = .func (.func f) #[] #[] := rfl
    simp [execOp, resolve, hfo, hev, Deferred.ofValue, invoke, hcall]
  rw [hrun]
  refine ⟨(fun h => by cases h), ?_⟩
  have hcalls := hpost U c a w hv e' vs (arr_lt (hr (2000 + k, .arr sz rows) (by simp))) hb e1 g2 g3 g4
  have h1 : CallsIn E.F (0 - 1) E.P f #[hv] w _ := (callsIn_wide (n := 0)).2 hcalls
  refine h1.mono ?_
  rintro en w' ⟨v, c', rfl, hb', hext, hrv, hhold, hfr⟩
  have hdt : d < a.tmps.size := by rw [hb.nt]; exact hd.2
  refine hnx c' _ w' (hb'.put _ _) hext ?_ ?_
  · intro p hp
    simp only [List.mem_cons, List.not_mem_nil, or_false] at hp
    rcases hp with rfl | rfl
    · unfold Holds
      rw [if_pos hd.1, getD_put hdt]
      exact hrv
    · exact hhold.put (by show d ≠ 2000 + k; omega) v
  · intro key y hk hy
    have hne : d ≠ key := hk (d, xr) (by simp)
    have hne2 : 2000 + k ≠ key := hk (2000 + k, yr) (by simp)
    by_cases h1 : key < 1000
    · refine Holds.put ?_ hne v
      unfold Holds at hy ⊢
      rw [if_pos h1] at hy ⊢
      exact hy.mono hext
    · exact (hfr key y h1 (fun e => hne2 e.symm) hy).put hne v
structure SortsI (P : Program) (f : Nat) : Prop where
  some : ∀ (blk off cap : Nat) (zs : List Int) (w : World), Go.Sort.Holds (Value.int .i64) w blk off zs.toArray → blk < w.heap.size → zs.length < 4611686018427387904 →
    Calls P f #[.slice (some ⟨blk, off, none⟩) zs.length cap] w fun e w' => e = .returned (.tuple #[]) ∧ ∃ n os, w' = Go.Sort.grow (Go.Sort.putRow (Value.int .i64) (Go.Sort.ahead w n) blk off (zs.mergeSort fun x y => decide (x ≤ y)).toArray) os
  none : ∀ (p : Option Addr) (cap : Nat) (w : World), Calls P f #[.slice p 0 cap] w fun e w' => e = .returned (.tuple #[]) ∧ w' = w
theorem flatten_ints {α : Type} (g : α → X) : ∀ l : List α, (l.map fun n => [g n]).flatten = l.map g
  | [] => rfl
  | n :: l => by simp only [List.map_cons, List.flatten_cons, flatten_ints g l, List.singleton_append]
theorem ints_vals {h : Mem} : ∀ {zs : List Int} {vs : List Value}, All2 (RepD h) (zs.map fun n => X.int .i64 n) vs → vs = zs.map (Value.int .i64)
  | [], [], _ => rfl
  | z :: zs, v :: vs, h => by
    have h1 := h.1
    cases h1
    rw [List.map_cons, ints_vals h.2]
  | [], _ :: _, h => h.elim
  | _ :: _, [], h => h.elim
theorem vals_ints {h h' : Mem} {zs ts : List Int} (hs : All2 (RepD h) (zs.map fun n => X.int .i64 n) (zs.map (Value.int .i64))) (ht : ∀ t ∈ ts, t ∈ zs) : All2 (RepD h') (ts.map fun n => X.int .i64 n) (ts.map (Value.int .i64)) := by
  refine All2.of_get (by simp) fun i u v hu hv => ?_
  rw [List.getElem?_map] at hu hv
  cases hi : ts[i]? with
  | none => rw [hi] at hu; cases hu
  | some t =>
    rw [hi] at hu hv
    cases hu
    cases hv
    have hm := ht t (List.mem_of_getElem? hi)
    obtain ⟨j, hj⟩ := List.getElem?_of_mem hm
    have h1 := hs.get (i := j) (a := .int .i64 t) (b := .int .i64 t) (by simp [hj]) (by simp [hj])
    cases h1
    exact .int ‹_›
theorem S.sortI {f k n : Nat} {zs : List Int} {at_ : Array TypeId} {rows : List (List X)} (hf : SortsI E.P f) (hcall : ∀ args w, (callFunc f args).run E.P w = .ok (.enter f args) w) (hg : Gd all s guard rg) (hd : (Nat.blt d 1000 && Nat.blt d E.nt) = true)
    (hx : OpS s x (.own k n) r) (hl : look s (2000 + k) = some (.arr 1 rows)) (hn : rows.length = n) (hz : rows = zs.map fun n => [X.int .i64 n]) (hbig : n < 4611686018427387904) :
    St1 E all ⟨some d, .call { callee := .value (.func f), args := #[x], argTypes := at_ }, ty, pos, after, guard⟩ s (rg ++ (r ++ [(2000 + k, .arr 1 rows)])) [(d, .tup []), (2000 + k, .arr 1 ((zs.mergeSort fun x y => decide (x ≤ y)).map fun n => [.int .i64 n]))] [] := by
  refine step_own hcall hg hd hx hl hn fun U c a w hv e vs hk1 hb e1 g2 g3 g4 => ?_
  subst hz
  rw [List.length_map] at hn
  subst hn
  rw [flatten_ints] at g4
  have hvs := ints_vals g4
  subst hvs
  have hperm := List.mergeSort_perm zs (fun x y => decide (x ≤ y))
  rcases g2.2 with ⟨rfl, h0⟩ | ⟨g, cap, cur, rfl, p1, p2, p3, p4, p5, p6⟩
  · have : zs = [] := List.eq_nil_of_length_eq_zero h0
    subst this
    refine (hf.none Option.none 0 w).mono ?_
    rintro en w' ⟨rfl, rfl⟩
    have he : ([] : List Int).mergeSort (fun x y => decide (x ≤ y)) = [] := by simp
    rw [he]
    exact ⟨_, c, rfl, hb, Ext.refl c, ⟨[], rfl, trivial⟩, (Holds.mkArr (e := e) (rows := []) (vs := []) hk1 e1 (by simpa using g2) (fun _ h => by cases h) trivial).2, fun key y _ _ h => h⟩
  · have hH := holds_of_blockI p2 (ss := zs) (by simpa using p6)
    have hlt : g < w.heap.size := (Array.getElem?_eq_some_iff.1 p2).1
    refine (hf.some g 0 cap zs w hH hlt hbig).mono ?_
    rintro en w' ⟨rfl, q, os, rfl⟩
    obtain ⟨r1, r2, r3, r4⟩ := hb.append (n' := zs.length) (v' := .slice (some ⟨g, 0, none⟩) zs.length cap) e1 (grownBy_sortedI (w := w) (g := g) (n := q) (os := os) (zs.mergeSort fun x y => decide (x ≤ y)).toArray) (Nat.le_refl _) (fun _ => rfl) (.inl rfl) (not_dfr g2)
    have hown := ownsRow_sortedI (w := w) (base := 0) (g := g) (cap := cap) (n := q) (e := e) (os := os) (cur := cur) (ss := zs) (ts := zs.mergeSort fun x y => decide (x ≤ y)) hperm.length_eq p1 p2 p3 p4 p5
    refine ⟨_, _, rfl, r1, r2, ⟨[], rfl, trivial⟩, (Holds.mkArr (e := e) (rows := (zs.mergeSort fun x y => decide (x ≤ y)).map fun n => [X.int .i64 n]) hk1 (by rw [List.length_map, hperm.length_eq]; exact r3) (by rw [List.length_map, hperm.length_eq]; exact hown)
      (fun q hq => by obtain ⟨b, _, rfl⟩ := List.mem_map.1 hq; rfl) (by rw [flatten_ints]; exact vals_ints g4 fun t ht => hperm.mem_iff.1 ht)).2, fun key y h1 h2 h3 => r4 key y h1 h2 h3⟩
theorem Good.boxOwn {U : List Nat} {a : Act} {w : World} {b i k sz : Nat} {cells cells' : List X} (hg : Good E U s a w) (hb : look s (1000 + b) = some (.box cells)) (hb2 : Nat.blt b 1000 = true) (hi : cells[i]? = some .nils) (hc : cells.set i (.own k 0) = cells') (hk : (U.contains k) = false) (hk9 : k ∉ E.fs) (hk1 : Nat.blt k 1000 = true) :
    Good E (k :: U) ((1000 + b, .box cells') :: (2000 + k, .arr sz []) :: s) a w := by
  subst hc
  obtain ⟨c, hbs, hh⟩ := hg
  have hkU : k ∉ U := by simpa using hk
  rw [Nat.blt_eq] at hb2 hk1
  obtain ⟨g1, g2, g3, g4⟩ := hbs.ownNew hk9 hkU (n := 0) (v := .slice none 0 0) (Below.refl _ w) (.inl rfl)
  refine ⟨_, g1, fun key y hy => ?_⟩
  simp only [look] at hy
  split at hy
  · rename_i h
    have := Nat.eq_of_beq_eq_true h
    cases hy
    subst this
    obtain ⟨b', T', vs, h2, h3, h4⟩ := box_of (hh _ _ hb) hb2
    refine (Holds.mkBox hb2 (g2.loc _ _ h2) h3 ?_).2
    refine All2.of_get (by simpa using h4.length) fun j u v hu hv => ?_
    rw [List.getElem?_set] at hu
    split at hu
    · rename_i hij
      subst hij
      split at hu
      · cases hu
        have hv0 : v = .slice none 0 0 := h4.get hi hv
        subst hv0
        exact ⟨⟨none, 0, 0, rfl⟩, 0, _, _, g3, Nat.le_refl _, fun _ => rfl⟩
      · cases hu
    · exact (h4.get hu hv).mono g2
  · split at hy
    · rename_i h
      have := Nat.eq_of_beq_eq_true h
      cases hy
      subst this
      exact (Holds.mkArr (e := 0) (rows := []) (vs := []) (by omega) g3 (World.ownsRow_nil w _ 0 sz) (fun _ h => by cases h) trivial).2
    · have h0 := hh key y hy
      by_cases hlt : key < 1000
      · unfold Holds at h0 ⊢
        rw [if_pos hlt] at h0 ⊢
        exact h0.mono g2
      · exact g4 key y hlt h0
theorem OK.boxOwn {U : List Nat} {code : Code} {Q : Exit → List Nat → St → Prop} (b i k sz : Nat) {cells cells' : List X} (hb : look s (1000 + b) = some (.box cells)) (hb2 : Nat.blt b 1000 = true) (hi : cells[i]? = some .nils) (hc : cells.set i (.own k 0) = cells') (hk : (U.contains k) = false)
    (h : OK E code Q (k :: U) ((1000 + b, .box cells') :: (2000 + k, .arr sz []) :: s)) (hk9 : E.fs.contains k = false := by rfl) (hk1 : Nat.blt k 1000 = true := by rfl) : OK E code Q U s := fun a w hg => h a w (hg.boxOwn hb hb2 hi hc hk (nfs hk9) hk1)
theorem OK.aggLen {U : List Nat} {c : Code} {Q : Exit → List Nat → St → Prop} (t i : Nat) {us : List X} (rows : List (List X)) (ht : Nat.blt t 1000 = true) (hl : look s t = some (.agg us)) (hi : us[i]? = some (.sl rows)) (h : rows.length ≤ maxLen → OK E c Q U s) : OK E c Q U s := by
  intro a w hg
  refine h ?_ a w hg
  obtain ⟨cx, hb, hh⟩ := hg
  obtain ⟨vs, _, h2⟩ := (hh _ _ hl).slot ht
  obtain ⟨v, hv, hr⟩ := h2.get_right hi
  obtain ⟨a, cap, _, p1, p2, _⟩ := sl_of (c := cx) (RepD.toT (show RepD cx.h (.sl rows) v from hr))
  omega
structure EqI (P : Program) (t n : Nat) : Prop where
  guard : P.eqGuardType P.depth t = false
  run : ∀ (xs ys : List Int) (w : World), xs.length = n → ys.length = n → (binOp .eql t (.agg (xs.map (Value.int .i64)).toArray) (.agg (ys.map (Value.int .i64)).toArray)).run P w = .ok (.bool (decide (xs = ys))) w
  runN : ∀ (xs ys : List Int) (w : World), xs.length = n → ys.length = n → (binOp .neq t (.agg (xs.map (Value.int .i64)).toArray) (.agg (ys.map (Value.int .i64)).toArray)).run P w = .ok (.bool (decide (xs ≠ ys))) w
theorem eqFields_ints {P : Program} {T d : Nat} (hi : P.underlying T = some (.int .i64)) (hag : ∀ w, (isAgg T).run P w = .ok false w) (xs ys : List Int) (w : World) (hl : xs.length = ys.length) : ∀ (fs : List Field) (o : Nat),
    fs.map (fun f => (f.name == "_", f.type, f.offset)) = (List.range' o fs.length).map (fun i => (false, T, i)) → o + fs.length = xs.length → xs.take o = ys.take o →
    (Op.eqFields (d + 1) (xs.map (Value.int .i64)).toArray (ys.map (Value.int .i64)).toArray fs).run P w = .ok (decide (xs = ys)) w
  | [], o, _, ho, ht => by
    have h1 : xs = ys := by
      rw [List.take_of_length_le (by simp at ho; omega), List.take_of_length_le (by simp at ho; omega)] at ht
      exact ht
    simp [Op.eqFields, h1]
  | f :: fs, o, hf, ho, ht => by
    simp only [List.map_cons, List.length_cons, List.range'_succ, List.cons.injEq, Prod.mk.injEq, beq_eq_false_iff_ne] at hf
    obtain ⟨⟨h1, h2, h3⟩, hf⟩ := hf
    simp only [List.length_cons] at ho
    have hx : o < xs.length := by omega
    have hy : o < ys.length := by omega
    have p1 : ∀ (l : List Int) (h : o < l.length), (part f.type (l.map (Value.int .i64)).toArray f.offset).run P w = .ok (.int .i64 l[o]) w := by
      intro l h
      rw [h2, h3]
      simp [part, hag, h]
    simp only [Op.eqFields]
    rw [if_pos h1]
    simp only [Sem.run_bind, p1 xs hx, p1 ys hy, Result.andThen_ok]
    rw [h2, run_equalIn_int _ _ _ _ _ _ _ hi]
    simp only [Result.andThen_ok]
    by_cases he : xs[o] = ys[o]
    · simp only [he, beq_self_eq_true, Bool.not_true, Bool.false_eq_true, if_false]
      exact eqFields_ints hi hag xs ys w hl fs (o + 1) hf (by omega) (by rw [List.take_succ_eq_append_getElem hx, List.take_succ_eq_append_getElem hy, ht, he])
    · have hne : xs ≠ ys := fun e => he (by subst e; rfl)
      simp [he, hne]
theorem EqI.mk_struct {P : Program} {t n T : Nat} {fs : Array Field} (hg : P.eqGuardType P.depth t = false) (hu : P.underlying t = some (.struct fs)) (hp : P.stoodInHeld t = false)
    (hf : fs.toList.map (fun f => (f.name == "_", f.type, f.offset)) = (List.range' 0 n).map (fun i => (false, T, i))) (hi : P.underlying T = some (.int .i64)) (hag : ∀ w, (isAgg T).run P w = .ok false w) : EqI P t n := by
  have hn : fs.toList.length = n := by simpa using congrArg List.length hf
  have hfo : P.fieldsOf t = fs := by unfold Program.fieldsOf; rw [hu]
  have key : ∀ (xs ys : List Int) (w : World), xs.length = n → ys.length = n → (Op.equalIn 10000 t (.agg (xs.map (Value.int .i64)).toArray) (.agg (ys.map (Value.int .i64)).toArray)).run P w = .ok (decide (xs = ys)) w := by
    intro xs ys w h1 h2
    rw [run_equalIn_struct w 9999 t _ _ (by rw [hfo]; exact hu) hp, hfo]
    exact eqFields_ints (d := 9998) hi hag xs ys w (by omega) fs.toList 0 (by rw [hn]; exact hf) (by omega) rfl
  refine ⟨hg, fun xs ys w h1 h2 => ?_, fun xs ys w h1 h2 => ?_⟩
  · rw [run_eql_struct, key xs ys w h1 h2]; rfl
  · rw [run_neq_struct, key xs ys w h1 h2]; simp [Result.andThen]
theorem agg_ints {c : Ctx} {xs : List Int} {v : Value} (h : RepT c (.agg (xs.map fun n => .int .i64 n)) v) : v = .agg (xs.map (Value.int .i64)).toArray := by
  obtain ⟨vs, rfl, h⟩ := h
  have : ∀ {xs : List Int} {vs : List Value}, All2 (RepC c) (xs.map fun n => X.int .i64 n) vs → vs = xs.map (Value.int .i64) := by
    intro xs
    induction xs with
    | nil => intro vs h; exact (All2.nil_left h) ▸ rfl
    | cons z zs ih =>
      intro vs h
      obtain ⟨v, vs', rfl, h1, h2⟩ := h.cons_left
      cases h1
      rw [List.map_cons, ih h2]
  rw [this h]
theorem S.aeql {t t2 n : Nat} {us vs : List X} (xs ys : List Int) (he : EqI E.P t n) (hg : Gd all s guard rg) (hd : (Nat.blt d 1000 && Nat.blt d E.nt) = true) (hx : OpS s x (.agg us) r1) (hy : OpS s y (.agg vs) r2) (hxs : us = xs.map fun n => .int .i64 n) (hys : vs = ys.map fun n => .int .i64 n)
    (h1 : xs.length = n) (h2 : ys.length = n) : St1 E all ⟨some d, .binOp .eql t x y t2, ty, pos, after, guard⟩ s (rg ++ (r1 ++ r2)) [(d, .bool (decide (xs = ys)))] [] :=
  St1.val hg hd rfl (hx.looks.app hy.looks) fun c A w _ hr => by
    subst hxs
    subst hys
    have e1 := agg_ints (hx.rep (c := c) (a := A) (w := w) fun p hp => hr p (by simp [hp]))
    have e2 := agg_ints (hy.rep (c := c) (a := A) (w := w) fun p hp => hr p (by simp [hp]))
    refine ⟨_, ?_, RepD.toT (.bool _)⟩
    have hq : (eqGuard .eql t x y (.agg (xs.map (Value.int .i64)).toArray) (.agg (ys.map (Value.int .i64)).toArray)).run E.P w = .ok () w   := by simp [eqGuard, he.guard]
    simp only [execOp, e1, e2, Sem.run_bind, hq, Result.andThen_ok, he.run xs ys w h1 h2]
    rfl
end
end Go.Ab
namespace Go.Ab
open Go.RowKit
structure PostJ (h : Mem) (Y : Nat → Prop) (w : World) (h' : Mem) (Y' : Nat → Prop) (w' : World) : Prop where
  below : BelX w.heap.size Y w w'
  le : Mem.le h h'
  new : ∀ p v, h' p = some v → h p = some v ∨ (w.heap.size ≤ p.block ∧ ¬ Y' p.block)
  hw : ∀ p v, h' p = some v → w'.cell? p = some v
  lt : ∀ b, Y' b → b < w'.heap.size
  out : ∀ b, Y' b → b < w.heap.size → Y b
theorem pure_ext {h : Mem} {c : Ctx} (hc : c.h = h) : Ext (pureC h) c := ⟨by rw [hc]; exact Mem.le_refl _, (fun _ _ e => by cases e), (fun _ _ _ _ e => by cases e)⟩
def CallV (P : Program) (v : Value) (args : Array Value) (w : World) (R : Ending → World → Prop) : Prop :=
  (∃ f first caps, v = .func (.func f) first caps ∧ (∀ args w, (callFunc f args).run P w = .ok (.enter f args) w) ∧ Calls P f (first ++ args ++ caps) w R) ∨
  (∃ l, v = .func (.yield l) #[] #[] ∧ YieldAt Fence.wide 0 P l args w R)
def CbOk (P : Program) (v : Value) (ys : List X) (res : X) (J0 J1 : Mem → (Nat → Prop) → World → Prop) : Prop :=
  ∀ (h : Mem) (Y : Nat → Prop) (w : World) (vs : List Value), (∀ p v, h p = some v → w.cell? p = some v) → (∀ b, Y b → b < w.heap.size) → J0 h Y w → All2 (RepV (pureC h)) ys vs →
    CallV P v vs.toArray w fun e w' => ∃ u h' Y', e = .returned u ∧ PostJ h Y w h' Y' w' ∧ J1 h' Y' w' ∧ RepT (pureC h') res u
section
variable {E : Env} {U : List Nat} {c : Ctx} {a : Act} {w w' : World} {h' : Mem} {Y' : Nat → Prop}
theorem Base.turn (hb : Base E U c a w) (hp : PostJ c.h c.Y w h' Y' w') : Base E U ⟨h', c.loc, c.arr, Y'⟩ a w' := by
  have hs := hp.below.size
  have none_of : ∀ b o, b < w.heap.size → c.h ⟨b, o, none⟩ = none → h' ⟨b, o, none⟩ = none := by
    intro b o hlt hn
    cases hh : h' ⟨b, o, none⟩ with
    | none => rfl
    | some v =>
      rcases hp.new _ _ hh with h | h
      · rw [hn] at h; cases h
      · have := h.1; simp only at this; omega
  have hall : ∀ b, b < w.heap.size → (Ctx.mk h' c.loc c.arr Y').all b → c.all b := by
    intro b hlt h
    rcases h with h | h | h
    · exact .inl (hp.out b h hlt)
    · exact .inr (.inl h)
    · exact .inr (.inr h)
  have hsame : ∀ D o, ¬ c.all D → w.heap[D]? = some o → w'.heap[D]? = some o := fun D o h1 h2 => (hp.below.block D (Array.getElem?_eq_some_iff.1 h2).1 fun hy => h1 (.inl hy)).trans h2
  refine ⟨hb.below.trans (hp.below.mono hb.hB fun k hk hy => (hb.Y k hy).2.1 hk), Nat.le_trans hb.hB hs, hb.nt, ⟨hb.dfr.1, fun d hd => ?_⟩, ?_, hp.hw, Mem.le_trans hb.hle hp.le, ?_, ?_, ?_, hb.used, ?_, hb.loc0, hb.arr0⟩
  · obtain ⟨D, h1, h2, h3, h4⟩ := hb.dfr.2 d hd
    exact ⟨D, h1, h2, fun e => h3 (hall D (Array.getElem?_eq_some_iff.1 h4).1 e), hsame D _ h3 h4⟩
  · intro p hp2
    obtain ⟨h1, h2, h3⟩ := hb.pin p hp2
    exact ⟨fun e => h1 (hall _ (Array.getElem?_eq_some_iff.1 h3).1 e), h2, hsame _ _ h1 h3⟩
  · intro p v hv
    rcases hp.new p v hv with h | h
    · rcases hb.hnew p v h with h1 | ⟨h1, h2⟩
      · exact .inl h1
      · exact .inr ⟨h1, fun hy => h2 (hp.out _ hy (block_lt_of_cell (hb.hw p v h)))⟩
    · exact .inr ⟨Nat.le_trans hb.hB h.1, h.2⟩
  · intro k b hk
    obtain ⟨h1, h2, h3, h4, h5⟩ := hb.loc k b hk
    exact ⟨h1, Nat.lt_of_lt_of_le h2 hs, fun o => none_of b o h2 (h3 o), h4, h5⟩
  · intro k m hv b hk hbk
    obtain ⟨h1, h2, h3, h4⟩ := hb.arr k m hv b hk hbk
    exact ⟨h1, Nat.lt_of_lt_of_le h2 hs, fun o => none_of b o h2 (h3 o), h4⟩
  · intro b hy
    refine ⟨hp.lt b hy, fun hlt => (hb.Y b (hp.out b hy (Nat.lt_of_lt_of_le hlt hb.hB))).2.1 hlt, fun k hk => ?_, fun k m hv hk hbk => ?_⟩
    · have := (hb.loc k b hk).2.1
      exact (hb.Y b (hp.out b hy this)).2.2.1 k hk
    · have := (hb.arr k m hv b hk hbk).2.1
      exact (hb.Y b (hp.out b hy this)).2.2.2 k m hv hk hbk
theorem Holds.turn (hb : Base E U c a w) (hp : PostJ c.h c.Y w h' Y' w') {key : Nat} {x : X} (hk : ¬ key < 1000) (hne : key ≠ 3000) (h : Holds c a w key x) : Holds ⟨h', c.loc, c.arr, Y'⟩ a w' key x := by
  have hext : Ext c ⟨h', c.loc, c.arr, Y'⟩ := ⟨hp.le, fun _ _ e => e, fun _ m hv lv e => ⟨m, hv, lv, e, Nat.le_refl _, fun _ => rfl⟩⟩
  unfold Holds at *
  rw [if_neg hk] at h ⊢
  refine or_snd h fun h => ?_
  split at h
  · rename_i h2
    rw [if_pos h2]
    obtain ⟨b, o, h1, h3, h4⟩ := h
    exact ⟨b, o, h1, (hp.below.block b (hb.loc _ _ h1).2.1 fun hy => (hb.Y b hy).2.2.1 _ h1).trans h3, h4.mono hext⟩
  · rename_i h2
    rw [if_neg h2]
    split at h
    · rename_i h6
      rw [if_pos h6]
      obtain ⟨sz, rows, hv, e, vs, hx, h1, h3, h4⟩ := h
      refine ⟨sz, rows, hv, e, vs, hx.mono hext, h1, ⟨h3.1, h3.2.imp id ?_⟩, h4⟩
      rintro ⟨g, cap, cur, f1, f2, f3, r⟩
      exact ⟨g, cap, cur, f1, f2, (hp.below.block g (Array.getElem?_eq_some_iff.1 f3).1 fun hy => (hb.Y g hy).2.2.2 _ _ _ h1 (by rw [f1]; rfl)).trans f3, r⟩
    · exact absurd h.1 hne
end
section
variable {E : Env} {all : Array Oper} {s r r1 r2 r3 rg : St} {d ty : Nat} {pos : String} {after : Array Edge} {guard : Option (Nat × Bool)} {x y z : Operand}
theorem S.callcb {os : List Operand} {at_ : Array TypeId} {ys : List X} {res : X} {Φ : Value → Prop} {J0 J1 : Mem → (Nat → Prop) → World → Prop} (hΦ : ∀ v, Φ v → CbOk E.P v ys res J0 J1) (hJ1 : Stable J1) (hg : Gd all s guard rg) (hd : (Nat.blt d 1000 && Nat.blt d E.nt) = true)
    (hx : OpS s x (.cb Φ) r1) (ha : OpsS s os ys r) (ho : ys.all okArg = true) (hl : look s 3000 = some (.res J0)) :
    St1 E all ⟨some d, .call { callee := .value x, args := os.toArray, argTypes := at_ }, ty, pos, after, guard⟩ s (rg ++ (r1 ++ (r ++ [(3000, .res J0)]))) [(d, res), (3000, .res J1)] [] := by
  simp only [Bool.and_eq_true, Nat.blt_eq] at hd
  refine ⟨?_, hg.looks.app (hx.looks.app (ha.looks.app ⟨hl, trivial⟩))⟩
  intro U c a w hb hr _ next Q hn
  have hw := hg.wanted (o := ⟨some d, .call { callee := .value x, args := os.toArray, argTypes := at_ }, ty, pos, after, guard⟩) (fun p hp => hr p (List.mem_append_left _ hp))
  have hv : Φ (a.eval x) := hx.rep (c := c) (a := a) (w := w) fun p hp => hr p (by simp [hp])
  have hJ : HoldsRes c w 3000 (.res J0) := by
    have := hr (3000, .res J0) (by simp)
    unfold Holds at this
    rw [if_neg (by omega), if_neg (by omega), if_neg (by omega)] at this
    rcases this with h | h
    · cases h
    · exact h
  obtain ⟨_, J, e, _, hJ0⟩ := hJ
  cases e
  have hargs := args_clean (ha.rep (c := c) (a := a) (w := w) fun p hp => hr p (by simp [hp])) ho
  unfold opIn
  rw [if_pos hw]
  refine ⟨fun _ _ => trivial, ?_⟩
  rw [Oper.semAt_eq _ _ _ fun cl he => by cases he]
  have fin : ∀ u h' Y' w', PostJ c.h c.Y w h' Y' w' → J1 h' Y' w' → RepT (pureC h') res u → next (a.put (some d) u) w' := by
    intro u h' Y' w' hp hj hres
    have hdt : d < a.tmps.size := by rw [hb.nt]; exact hd.2
    have hext : Ext c ⟨h', c.loc, c.arr, Y'⟩ := ⟨hp.le, fun _ _ e => e, fun _ m hv lv e => ⟨m, hv, lv, e, Nat.le_refl _, fun _ => rfl⟩⟩
    refine hn ⟨h', c.loc, c.arr, Y'⟩ _ w' ((hb.turn hp).put _ _) hext ?_ ?_
    · intro p hp2
      simp only [List.mem_cons, List.not_mem_nil, or_false] at hp2
      rcases hp2 with rfl | rfl
      · unfold Holds
        rw [if_pos hd.1, getD_put hdt]
        exact hres.mono (pure_ext (c := ⟨h', c.loc, c.arr, Y'⟩) rfl)
      · unfold Holds
        rw [if_neg (by omega), if_neg (by omega), if_neg (by omega)]
        exact .inr ⟨rfl, J1, rfl, hJ1, hj⟩
    · intro key y hk hy
      have hne : d ≠ key := hk (d, res) (by simp)
      have hne2 : 3000 ≠ key := hk (3000, .res J1) (by simp)
      by_cases h1 : key < 1000
      · refine Holds.put ?_ hne u
        unfold Holds at hy ⊢
        rw [if_pos h1] at hy ⊢
        exact hy.mono hext
      · exact (Holds.turn hb hp h1 (fun e => hne2 e.symm) hy).put hne u
  rcases hΦ _ hv c.h c.Y w _ hb.hw (fun b hy => (hb.Y b hy).1) hJ0 hargs with ⟨f, first, caps, e1, hcall, hcalls⟩ | ⟨l, e1, fn, tmps, assign, body, hy, hround⟩
  · have hrun : (execOp a.eval ⟨some d, .call { callee := .value x, args := os.toArray, argTypes := at_ }, ty, pos, after, guard⟩).run E.P w = .ok (.enter f (first ++ (os.map a.eval).toArray ++ caps)) w := by
      simp [execOp, resolve, e1, Deferred.ofValue, invoke, hcall, Array.append_assoc]
    rw [hrun]
    refine ⟨(fun h => by cases h), ?_⟩
    have h1 : CallsIn E.F (0 - 1) E.P f (first ++ (os.map a.eval).toArray ++ caps) w _ := (callsIn_wide (n := 0)).2 hcalls
    refine h1.mono ?_
    rintro e w' ⟨u, h', Y', rfl, hp, hj, hres⟩
    exact fin u h' Y' w' hp hj hres
  · have hrun : (execOp a.eval ⟨some d, .call { callee := .value x, args := os.toArray, argTypes := at_ }, ty, pos, after, guard⟩).run E.P w = .ok (.round l fn tmps assign body) w := by
      simp [execOp, resolve, e1, Deferred.ofValue, invoke]
      simpa using hy
    rw [hrun]
    refine ⟨(fun h => by cases h), ?_⟩
    have h1 : RoundIn E.F (0 - 1) E.P l fn tmps assign body w _ := hround
    refine h1.mono ?_
    rintro e w' ⟨u, h', Y', rfl, hp, hj, hres⟩
    exact fin u h' Y' w' hp hj hres
end
end Go.Ab
namespace Go.Ab
open Go.RowKit
def iterG {σ α : Type} (g : σ → α → σ × Bool) : σ → List α → σ × Bool
  | s, [] => (s, true)
  | s, x :: l => if (g s x).2 = true then iterG g (g s x).1 l else ((g s x).1, false)
theorem iterG_snoc {σ α : Type} (g : σ → α → σ × Bool) : ∀ (l : List α) (s : σ) (x : α), iterG g s (l ++ [x]) = if (iterG g s l).2 = true then g (iterG g s l).1 x else iterG g s l
  | [], s, x => by
    simp only [List.nil_append, iterG, if_true]
    split
    · rename_i h; exact Prod.ext rfl h.symm
    · rename_i h; exact Prod.ext rfl (by simpa using (Bool.eq_false_iff.2 h).symm)
  | y :: l, s, x => by
    simp only [List.cons_append, iterG]
    split
    · rename_i h; rw [iterG_snoc g l]
    · rfl
def SeqOk {α : Type} (P : Program) (gf : Nat) (caps : List X) (encs : α → List X) (l : List α) : Prop :=
  ∀ {σ : Type} (J : σ → Mem → (Nat → Prop) → World → Prop) (g : σ → α → σ × Bool) (s0 : σ) (Φ : Value → Prop), (∀ s, Stable (J s)) →
    (∀ v, Φ v → ∀ (i : Nat) (x : α), l[i]? = some x → (iterG g s0 (l.take i)).2 = true → CbOk P v (encs x) (.bool (g (iterG g s0 (l.take i)).1 x).2) (J (iterG g s0 (l.take i)).1) (J (g (iterG g s0 (l.take i)).1 x).1)) →
    CtG P gf [] (.cb Φ :: caps) [(3000, .res (J s0))] [(3000, .res (J (iterG g s0 l).1))] (.tup [])
def jumpOf : Exit → Option (Option Code)
  | .normal => some none
  | .ret => some (some .ret)
  | .exit id => some (some (.exit id))
  | _ => none
def RoundQ {σ : Type} (boxes : σ → St) (p : σ × Option Code) : Exit → List Nat → St → Prop := fun e _ s => jumpOf e = some p.2 ∧ Le s (boxes p.1)
def psSt : List Nat → List X → St
  | p :: ps, x :: xs => (p, x) :: psSt ps xs
  | _, _ => []
structure Rg where
  fn : FuncId
  tmps : Array Value
  ps : Array Tmp
  assign : Code
  body : Code
  D : Nat
def Rg.obj (r : Rg) (st : LoopState) (pe : Option Code) : Obj := .loop { state := st, pending := pe, fn := r.fn, tmps := r.tmps, params := r.ps, assign := r.assign, body := r.body, defers := r.D }
def rst (pe : Option Code) : LoopState := if pe.isNone then .ready else .done
def JR (E : Env) (u : List Nat) (a : Act) (B1 l : Nat) (r : Rg) (st : St) (pe : Option Code) : Mem → (Nat → Prop) → World → Prop := fun h Y W =>
  ∃ c, Base E u c a W ∧ Mem.le c.h h ∧ (∀ p v, h p = some v → c.h p = some v ∨ (E.B ≤ p.block ∧ ¬ c.all p.block)) ∧ (∀ b, b < B1 → Y b) ∧ (∀ b, c.all b → Y b) ∧ W.heap[l]? = some (r.obj (rst pe) pe) ∧ ¬ c.all l ∧
    ∀ key x, look st key = some x → Holds c a W key x
theorem keep_holds {c : Ctx} {a a' : Act} {w w' : World} {key : Nat} {x : X} (hk : ∀ b, c.all b → w'.heap[b]? = w.heap[b]?) (hw : ∀ p v, c.h p = some v → w'.cell? p = some v) (hB : BelX 0 (fun _ => False) w w') (ht : a'.tmps = a.tmps) (h : Holds c a w key x) : Holds c a' w' key x := by
  unfold Holds at *
  rw [ht]
  split at h
  · rename_i h1; rw [if_pos h1]; exact h
  · rename_i h1
    rw [if_neg h1]
    refine or_snd h fun h => ?_
    split at h
    · rename_i h2
      rw [if_pos h2]
      obtain ⟨b, o, h1, h3, h4⟩ := h
      exact ⟨b, o, h1, (hk b (.inr (.inl ⟨_, h1⟩))).trans h3, h4⟩
    · rename_i h2
      rw [if_neg h2]
      split at h
      · rename_i h6
        rw [if_pos h6]
        obtain ⟨sz, rows, hv, e, vs, hx, h1, h3, h4⟩ := h
        refine ⟨sz, rows, hv, e, vs, hx, h1, ⟨h3.1, h3.2.imp id ?_⟩, h4⟩
        rintro ⟨g, cap, cur, f1, f2, f3, r⟩
        exact ⟨g, cap, cur, f1, f2, (hk g (.inr (.inr ⟨_, _, _, h1, by rw [f1]; rfl⟩))).trans f3, r⟩
      · rename_i h6
        rw [if_neg h6]
        obtain ⟨hk0, J, hx0, hJ, hJ2⟩ := h
        exact ⟨hk0, J, hx0, hJ, hJ _ _ _ _ _ hJ2 (Mem.le_refl _) (fun _ _ e => .inl e) hw hB fun b hy => hk b (.inl hy)⟩
theorem Base.keep {E : Env} {u : List Nat} {c : Ctx} {a : Act} {w w' : World} (hb : Base E u c a w) (hpins : E.pins = []) (hB : BelX 0 (fun _ => False) w w') (hlow : ∀ b, b < E.B → w'.heap[b]? = w.heap[b]?) (hw : ∀ p v, c.h p = some v → w'.cell? p = some v)
    (hD : ∀ D, w.heap[D]? = some (.deferred (some [])) → { target := .collected D, args := #[] } ∈ a.defers → w'.heap[D]? = some (.deferred (some []))) : Base E u c a w' := by
  refine ⟨hb.below.trans ⟨hB.os, hB.tape, hB.output, hB.size, fun k hk _ => hlow k hk⟩, Nat.le_trans hb.hB hB.size, hb.nt, ⟨hb.dfr.1, fun d hd => ?_⟩, (fun p hp => by rw [hpins] at hp; cases hp), hw, hb.hle, hb.hnew, ?_, ?_, hb.used, ?_, hb.loc0, hb.arr0⟩
  · obtain ⟨D, rfl, h2, h3, h4⟩ := hb.dfr.2 d hd
    exact ⟨D, rfl, h2, h3, hD D h4 hd⟩
  · intro k b hk
    obtain ⟨h1, h2, h3⟩ := hb.loc k b hk
    exact ⟨h1, Nat.lt_of_lt_of_le h2 hB.size, h3⟩
  · intro k m hv b hk hbk
    obtain ⟨h1, h2, h3⟩ := hb.arr k m hv b hk hbk
    exact ⟨h1, Nat.lt_of_lt_of_le h2 hB.size, h3⟩
  · intro b hy
    obtain ⟨h1, h2⟩ := hb.Y b hy
    exact ⟨Nat.lt_of_lt_of_le h1 hB.size, h2⟩
theorem JR.stable {E : Env} {u : List Nat} {a : Act} {B1 l : Nat} {r : Rg} {st : St} {pe : Option Code} (hpins : E.pins = []) (hB1 : E.B ≤ B1) (hl : l < B1) (hdef : ∀ D, ({ target := .collected D, args := #[] } : Deferred) ∈ a.defers → D < B1) : Stable (JR E u a B1 l r st pe) := by
  rintro h h' Y w w' ⟨c, hb, hle, hnw, hlow, hall, hrec, hnl, hh⟩ hle2 hnw2 hw' hB hY
  have hw : ∀ p v, c.h p = some v → w'.cell? p = some v := fun p v e => hw' p v (hle2 p v (hle p v e))
  refine ⟨c, hb.keep hpins hB (fun b hb' => hY b (hlow b (Nat.lt_of_lt_of_le hb' hB1))) hw (fun D h1 h2 => (hY D (hlow D (hdef D h2))).trans h1), Mem.le_trans hle hle2, ?_, hlow, hall, (hY l (hlow l hl)).trans hrec, hnl, fun key x hx => keep_holds (fun b hb' => hY b (hall b hb')) hw hB rfl (hh key x hx)⟩
  intro p v hp
  rcases hnw2 p v hp with h1 | h1
  · exact hnw p v h1
  · exact .inr ⟨Nat.le_of_not_lt fun e => h1 (hlow _ (Nat.lt_of_lt_of_le e hB1)), fun e => h1 (hall _ e)⟩
def rE (E : Env) (u : List Nat) (c0 : Ctx) (w0 : World) (l : Nat) (pins : List (Nat × Obj)) : Env := ⟨E.P, E.nt, u, c0, w0, some l, pins⟩
theorem foldl_size : ∀ (ps : List (Nat × Value)) (t : Array Value), (ps.foldl (fun t (p : Nat × Value) => t.setIfInBounds p.1 p.2) t).size = t.size
  | [], t => rfl
  | p :: ps, t => by rw [List.foldl_cons, foldl_size ps]; simp
theorem foldl_other (k : Nat) : ∀ (ps : List (Nat × Value)) (t : Array Value), (∀ p ∈ ps, p.1 ≠ k) → (ps.foldl (fun t (p : Nat × Value) => t.setIfInBounds p.1 p.2) t).getD k undef = t.getD k undef
  | [], t, _ => rfl
  | p :: ps, t, h => by
    rw [List.foldl_cons, foldl_other k ps _ fun q hq => h q (List.mem_cons_of_mem _ hq)]
    simp only [Array.getD_eq_getD_getElem?, Array.getElem?_setIfInBounds_ne (h p List.mem_cons_self)]
theorem psSt_look : ∀ (ps : List Nat) (xs : List X) {key : Nat} {x : X}, look (psSt ps xs) key = some x → key ∈ ps
  | [], _, _, _, h => by cases h
  | _ :: _, [], _, _, h => by cases h
  | p :: ps, y :: xs, key, x, h => by
    simp only [psSt, look] at h
    split at h
    · rename_i hb; rw [← Nat.eq_of_beq_eq_true hb]; exact List.mem_cons_self
    · exact List.mem_cons_of_mem _ (psSt_look ps xs h)
theorem psSt_none : ∀ (ps : List Nat) (xs : List X) {key : Nat}, ps.length = xs.length → look (psSt ps xs) key = none → key ∉ ps
  | [], _, _, _, _ => by simp
  | _ :: _, [], _, h, _ => by simp at h
  | p :: ps, y :: xs, key, hl, h => by
    simp only [psSt, look] at h
    split at h
    · cases h
    · rename_i hb
      have hne : key ≠ p := fun e => hb (by rw [e]; exact Nat.beq_refl p)
      simp only [List.mem_cons, not_or]
      exact ⟨hne, psSt_none ps xs (by simpa using hl) h⟩
theorem ps_holds {c : Ctx} : ∀ (ps : List Nat) (xs : List X) (vs : List Value) (t : Array Value), ps.length = xs.length → All2 (RepV c) xs vs → ps.Pairwise (· ≠ ·) → (∀ p ∈ ps, p < t.size) → xs.all (fun x => !isTup x) = true →
    ∀ key x, look (psSt ps xs) key = some x → RepT c x (((ps.zip vs).foldl (fun t (p : Nat × Value) => t.setIfInBounds p.1 p.2) t).getD key undef)
  | [], [], _, _, _, _, _, _, _, _, _, h => by cases h
  | p :: ps, y :: xs, vs, t, hl, hv, hp, ht, htup, key, x, h => by
    obtain ⟨v, vs', rfl, h1, h2⟩ := hv.cons_left
    obtain ⟨hp1, hp2⟩ := List.pairwise_cons.1 hp
    simp only [List.all_cons, Bool.and_eq_true, Bool.not_eq_true'] at htup
    rw [List.zip_cons_cons, List.foldl_cons]
    simp only [psSt, look] at h
    split at h
    · rename_i hb
      have := Nat.eq_of_beq_eq_true hb
      subst this
      cases h
      rw [foldl_other p _ _ fun q hq => (hp1 q.1 (List.of_mem_zip hq).1).symm]
      have hlt := ht p List.mem_cons_self
      rw [show (t.setIfInBounds p v).getD p undef = v by simp [hlt]]
      exact V.toT h1 htup.1
    · exact ps_holds ps xs vs' _ (by simpa using hl) h2 hp2 (fun q hq => by simpa using ht q (List.mem_cons_of_mem _ hq)) (by simpa using htup.2) key x h
  | [], _ :: _, _, _, h, _, _, _, _, _, _, _ => by simp at h
  | _ :: _, [], _, _, h, _, _, _, _, _, _, _ => by simp at h
theorem grow_holds {c : Ctx} {h : Mem} {a a' : Act} {w : World} {key : Nat} {x : X} (hle : Mem.le c.h h) (hnw : ∀ p v, h p = some v → c.h p = some v ∨ ¬ c.Y p.block) (hw : ∀ p v, h p = some v → w.cell? p = some v) (hk : ¬ key < 1000) (hh : Holds c a w key x) :
    Holds ⟨h, c.loc, c.arr, c.Y⟩ a' w key x := by
  have hext : Ext c ⟨h, c.loc, c.arr, c.Y⟩ := ⟨hle, fun _ _ e => e, fun _ m hv lv e => ⟨m, hv, lv, e, Nat.le_refl _, fun _ => rfl⟩⟩
  unfold Holds at *
  rw [if_neg hk] at hh ⊢
  refine or_snd hh fun hh => ?_
  split at hh
  · rename_i h2
    rw [if_pos h2]
    obtain ⟨b, o, h1, h3, h4⟩ := hh
    exact ⟨b, o, h1, h3, h4.mono hext⟩
  · rename_i h2
    rw [if_neg h2]
    split at hh
    · rename_i h6
      rw [if_pos h6]
      obtain ⟨sz, rows, hv, e, vs, hx, h1, h3, h4⟩ := hh
      exact ⟨sz, rows, hv, e, vs, hx.mono hext, h1, h3, h4⟩
    · rename_i h6
      rw [if_neg h6]
      obtain ⟨hk0, J, hx0, hJ, hJ2⟩ := hh
      exact ⟨hk0, J, hx0, hJ, hJ _ _ _ _ _ hJ2 hle hnw hw (BelX.refl _ _ _) fun _ _ => rfl⟩
section
variable {E : Env} {u U : List Nat} {c0 : Ctx} {w0 : World} {l D : Nat} {o1 o2 o3 : Obj}
theorem repin {s : St} {a : Act} {w : World} (hg : Good (rE E u c0 w0 l [(l, o1), (D, o3)]) U s a w) (h1 : o1.isCells = false) (h2 : o2.isCells = false) (hne : o1 ≠ .deferred (some [])) (hD : D ≠ l) : Good (rE E u c0 w0 l [(l, o2), (D, o3)]) U s a (w.putObj l o2) := by
  obtain ⟨c, hb, hh⟩ := hg
  obtain ⟨p1, p2, p3⟩ := hb.pin (l, o1) (by simp [rE])
  obtain ⟨q1, q2, q3⟩ := hb.pin (D, o3) (by simp [rE])
  have hX : ∀ b, (rE E u c0 w0 l [(l, o1), (D, o3)]).X b → (rE E u c0 w0 l [(l, o2), (D, o3)]).X b := by
    rintro b (h | ⟨p, hp, rfl⟩)
    · exact .inl h
    · refine .inr ?_
      simp only [rE, List.mem_cons, List.not_mem_nil, or_false] at hp
      rcases hp with rfl | rfl
      · exact ⟨(l, o2), by simp [rE], rfl⟩
      · exact ⟨(D, o3), by simp [rE], rfl⟩
  have ho : ∀ k, k ≠ l → (w.putObj l o2).heap[k]? = w.heap[k]? := fun k hk => World.putObj_heap_other hk
  have hsz : (w.putObj l o2).heap.size = w.heap.size := by simp
  have hcell : ∀ p, (w.putObj l o2).cell? p = w.cell? p := cell_putObj p3 h1 h2
  have hok : ∀ k b, (rE E u c0 w0 l [(l, o1), (D, o3)]).ok k b → (rE E u c0 w0 l [(l, o2), (D, o3)]).ok k b := fun k b h => h.imp id fun h => ⟨h.1, hX b h.2⟩
  refine ⟨c, ⟨(hb.below.mono (Nat.le_refl _) fun k _ h => hX k h).trans ⟨rfl, rfl, rfl, by rw [hsz]; exact Nat.le_refl _, fun k _ hx => ho k fun e => hx (.inr ⟨(l, o2), by simp [rE], e.symm⟩)⟩, by rw [hsz]; exact hb.hB, hb.nt, ⟨hb.dfr.1, fun d hd => ?_⟩, ?_, fun p v e => by rw [hcell]; exact hb.hw p v e, hb.hle, hb.hnew, ?_, ?_, hb.used, ?_, hb.loc0, hb.arr0⟩, fun key x hx => ?_⟩
  · obtain ⟨D', f1, f2, f3, f4⟩ := hb.dfr.2 d hd
    refine ⟨D', f1, f2, f3, (ho D' fun e => ?_).trans f4⟩
    subst e
    rw [p3] at f4
    exact hne (Option.some.inj f4)
  · intro p hp
    simp only [rE, List.mem_cons, List.not_mem_nil, or_false] at hp
    rcases hp with rfl | rfl
    · exact ⟨p1, h2, World.putObj_heap_same (Array.getElem?_eq_some_iff.1 p3).1⟩
    · exact ⟨q1, q2, (ho D hD).trans q3⟩
  · intro k b hk
    rw [hsz]
    obtain ⟨f1, f2⟩ := hb.loc k b hk
    exact ⟨hok k b f1, f2⟩
  · intro k m hv b hk hbk
    rw [hsz]
    obtain ⟨f1, f2⟩ := hb.arr k m hv b hk hbk
    exact ⟨hok k b f1, f2⟩
  · intro b hy
    rw [hsz]
    obtain ⟨f1, f2, f3⟩ := hb.Y b hy
    exact ⟨f1, fun h => hX b (f2 h), f3⟩
  · exact keep_holds (fun b hb' => ho b fun e => p1 (e ▸ hb')) (fun p v e => by rw [hcell]; exact hb.hw p v e) ⟨rfl, rfl, rfl, by rw [hsz]; exact Nat.le_refl _, fun k hk => by omega⟩ rfl (hh key x hx)
end
end Go.Ab
namespace Go.Ab
open Go.RowKit
theorem spot_none {w : World} {p : Addr} {v : Value} (h : w.cell? p = some v) : p = ⟨p.block, p.off, none⟩ := by
  have hsp : p.spot = none := by
    cases hsp : p.spot with
    | none => rfl
    | some q => simp only [World.cell?, hsp] at h; split at h <;> simp at h
  cases p; simp at hsp; subst hsp; rfl
theorem used_mem {E : Env} {u : List Nat} {c : Ctx} {a : Act} {w : World} (hb : Base E u c a w) {k b : Nat} (h : c.loc k = some b) : k ∈ u :=
  Decidable.byContradiction fun hk => by rw [(hb.used k hk).1] at h; cases h
theorem used_mem2 {E : Env} {u : List Nat} {c : Ctx} {a : Act} {w : World} (hb : Base E u c a w) {k : Nat} {q : Nat × Value × Bool} (h : c.arr k = some q) : k ∈ u :=
  Decidable.byContradiction fun hk => by rw [(hb.used k hk).2] at h; cases h
def slotOk (bx : St) (p : Nat × X) : Bool := Nat.blt p.1 1000 && (okT [] p.2 || match p.2 with
  | .ptr k _ => Nat.blt k 1000 && (match look bx (1000 + k) with | some (.box _) => true | _ => false)
  | _ => false)
theorem Le.mem {s r : St} (h : Le s r) {k : Nat} {x : X} (hx : Ab.look r k = some x) : Ab.look s k = some x := Le.look h k x hx
section
variable {E : Env} {u U3 : List Nat} {c : Ctx} {a a3 : Act} {W w3 : World} {B1 l : Nat} {h : Mem} {Y : Nat → Prop}
theorem round_fin (hpins : E.pins = []) (r : Rg) {slots bx bx' s3 : St} {j : Option Code} {c3 : Ctx} (hb : Base E u c a W) (hEl : E.B ≤ l) (_hDB : E.B ≤ r.D) (hD : ({ target := .collected r.D, args := #[] } : Deferred) ∈ a.defers) (hDl : r.D ≠ l)
    (hle : Mem.le c.h h) (hnw : ∀ p v, h p = some v → c.h p = some v ∨ (E.B ≤ p.block ∧ ¬ c.all p.block)) (hlow : ∀ b, b < B1 → Y b) (hall : ∀ b, c.all b → Y b) (hYlt : ∀ b, Y b → b < W.heap.size) (hlW : W.heap[l]? = some (r.obj .ready none)) (hnl : ¬ c.all l)
    (hwW : ∀ p v, h p = some v → W.cell? p = some v)
    (hb3 : Base (rE E u ⟨h, c.loc, c.arr, c.Y⟩ W l [(l, r.obj .busy none), (r.D, .deferred (some []))]) U3 c3 a3 w3) (hh3 : ∀ key x, look s3 key = some x → Holds c3 a3 w3 key x) (hl3 : Le s3 bx') (hhi : bx'.all (hiKey u) = true)
    (hslots : slots.all (slotOk bx') = true) (hhs : ∀ key x, look (slots ++ bx) key = some x → Holds c a W key x) (hlY : Y l) (_hDY : Y r.D) :
    ∃ h' Y', PostJ h Y W h' Y' (w3.putObj l (r.obj (rst j) j)) ∧ JR E u a B1 l r (slots ++ bx') j h' Y' (w3.putObj l (r.obj (rst j) j)) := by
  obtain ⟨Er, hEr⟩ : ∃ Er, Er = rE E u ⟨h, c.loc, c.arr, c.Y⟩ W l [(l, r.obj .busy none), (r.D, .deferred (some []))] := ⟨_, rfl⟩
  rw [← hEr] at hb3
  have eB : Er.B = W.heap.size := by rw [hEr]; rfl
  have efs : Er.fs = u := by rw [hEr]; rfl
  have ec0 : Er.c0 = ⟨h, c.loc, c.arr, c.Y⟩ := by rw [hEr]; rfl
  have ew0 : Er.w0 = W := by rw [hEr]; rfl
  have eh0 : Er.h0 = h := by rw [hEr]; rfl
  obtain ⟨p1, p2, p3⟩ := hb3.pin (l, r.obj .busy none) (by rw [hEr]; simp [rE])
  obtain ⟨q1, q2, q3⟩ := hb3.pin (r.D, .deferred (some [])) (by rw [hEr]; simp [rE])
  simp only at p1 p3 q1 q3
  have hXof : ∀ b, Er.X b → (Er.c0.out u b) ∨ b = l ∨ b = r.D := by
    rintro b (h | ⟨p, hp, rfl⟩)
    · rw [efs] at h; exact .inl h
    · rw [hEr] at hp
      simp only [rE, List.mem_cons, List.not_mem_nil, or_false] at hp
      rcases hp with rfl | rfl
      · exact .inr (.inl rfl)
      · exact .inr (.inr rfl)
  have hc0all : ∀ b, Er.c0.out u b → c.all b := by
    rw [ec0]
    rintro b (hy | ⟨k, _, hk⟩ | ⟨k, m, hv, _, hk⟩)
    · exact .inl hy
    · exact .inr (.inl ⟨k, hk⟩)
    · exact .inr (.inr ⟨k, m, hv, hk⟩)
  obtain ⟨h', hh'⟩ : ∃ h', h' = Er.fin c3 w3 := ⟨_, rfl⟩
  obtain ⟨c4, hc4⟩ : ∃ c4, c4 = c3.pub u h' := ⟨_, rfl⟩
  obtain ⟨g1, g2, g3⟩ := hb3.pub
  rw [efs, ← hh', ← hc4] at g1 g3
  rw [eh0, ← hh'] at g2
  rw [eh0, eB] at g3
  have c4h : c4.h = h' := by rw [hc4]; rfl
  have c4Y : c4.Y = c3.Y := by rw [hc4]; rfl
  have sub : ∀ b, c4.all b → c3.all b := by
    rw [hc4]
    rintro b (hy | ⟨k, hk⟩ | ⟨k, m, hv, hk, hbk⟩)
    · exact .inl hy
    · exact .inr (.inl ⟨k, (pub_loc hk).2⟩)
    · exact .inr (.inr ⟨k, m, hv, (pub_arr hk).2, hbk⟩)
  have c4out : ∀ b, c4.all b → c4.out u b := by
    rintro b (hy | ⟨k, hk⟩ | ⟨k, m, hv, hk, hbk⟩)
    · exact .inl hy
    · exact .inr (.inl ⟨k, (g1.loc k b hk).1, hk⟩)
    · exact .inr (.inr ⟨k, m, hv, (g1.arr k m hv b hk hbk).1, hk, hbk⟩)
  have old : ∀ b, b < W.heap.size → c4.all b → c.all b := by
    intro b hlt h4
    have hX : Er.X b := by
      have := hb3.out_X (b := b) (by rw [efs]; have := c4out b h4; rw [hc4] at this; exact pub_out this) (by rw [eB]; exact hlt)
      exact this
    rcases hXof b hX with h | rfl | rfl
    · exact hc0all b h
    · exact absurd (sub _ h4) p1
    · exact absurd (sub _ h4) q1
  have lt4 : ∀ b, c4.all b → b < w3.heap.size := fun b h4 => hb3.out_lt (b := b) (by rw [efs]; have := c4out b h4; rw [hc4] at this; exact pub_out this)
  have hs3 : W.heap.size ≤ w3.heap.size := by have := hb3.below.size; rw [ew0] at this; exact this
  obtain ⟨w4, hw4⟩ : ∃ w4, w4 = w3.putObj l (r.obj (rst j) j) := ⟨_, rfl⟩
  rw [← hw4]
  have hsz : w4.heap.size = w3.heap.size := by rw [hw4]; simp
  have hoth : ∀ k, k ≠ l → w4.heap[k]? = w3.heap[k]? := fun k hk => by rw [hw4]; exact World.putObj_heap_other hk
  have hcell : ∀ p, w4.cell? p = w3.cell? p := fun p => by rw [hw4]; exact cell_putObj p3 rfl rfl p
  have hrec4 : w4.heap[l]? = some (r.obj (rst j) j) := by rw [hw4]; exact World.putObj_heap_same (Array.getElem?_eq_some_iff.1 p3).1
  have e3 : w4.os = W.os ∧ w4.tape = W.tape ∧ w4.output = W.output := by
    have := hb3.below
    rw [ew0] at this
    rw [hw4]
    exact ⟨this.os, this.tape, this.output⟩
  have same : ∀ k, k < W.heap.size → ¬ c.all k → k ≠ l → w4.heap[k]? = W.heap[k]? := by
    intro k hk hn hkl
    rw [hoth k hkl]
    by_cases hkD : k = r.D
    · subst hkD
      obtain ⟨D', f1, _, _, f4⟩ := hb.dfr.2 _ hD
      have : r.D = D' := by have := congrArg Deferred.target f1; simpa using this
      rw [q3, this, f4]
    · have := hb3.below.block k (by rw [eB]; exact hk) (fun hX => by
        rcases hXof k hX with h | rfl | rfl
        · exact hn (hc0all _ h)
        · exact hkl rfl
        · exact hkD rfl)
      rw [ew0] at this
      exact this
  have hw4h : ∀ p v, h' p = some v → w4.cell? p = some v := fun p v hp => by rw [hcell]; have := g1.hw p v; rw [c4h] at this; exact this hp
  have hlowE : ∀ k, k < E.B → ¬ E.X k → w4.heap[k]? = W.heap[k]? := by
    intro k hk hX
    refine same k (Nat.lt_of_lt_of_le hk hb.hB) ?_ (by omega)
    rintro (hy | ⟨n, hn⟩ | ⟨n, m, hv, hn, hbn⟩)
    · exact hX ((hb.Y k hy).2.1 hk)
    · exact Env.ok_turn (hb.loc n k hn).1 hk hX rfl
    · exact Env.ok_turn (hb.arr n m hv k hn hbn).1 hk hX rfl
  have base4 : Base E u c4 a w4 := by
    refine ⟨hb.below.trans ⟨e3.1, e3.2.1, e3.2.2, by omega, hlowE⟩, by have := hb.hB; omega, hb.nt, ⟨hb.dfr.1, fun d hd => ?_⟩, (fun p hp => by rw [hpins] at hp; cases hp), fun p v hp => hw4h p v (by rw [← c4h]; exact hp), ?_, ?_, ?_, ?_, g1.none, ?_, ?_, ?_⟩
    · obtain ⟨D', f1, f2, f3, f4⟩ := hb.dfr.2 d hd
      have hlt := (Array.getElem?_eq_some_iff.1 f4).1
      refine ⟨D', f1, f2, fun h4 => f3 (old D' hlt h4), (same D' hlt f3 ?_).trans f4⟩
      rintro rfl
      rw [hlW] at f4; cases f4
    · rw [c4h]; exact Mem.le_trans hb.hle (Mem.le_trans hle g2)
    · intro p v hp
      rw [c4h] at hp
      rcases g3 p v hp with h1 | ⟨h1, h2⟩
      · have hlt : p.block < W.heap.size := block_lt_of_cell (hwW p v h1)
        rcases hnw p v h1 with h5 | ⟨h5, h6⟩
        · rcases hb.hnew p v h5 with h7 | ⟨h7, h8⟩
          · exact .inl h7
          · refine .inr ⟨h7, fun hy => ?_⟩
            rcases old _ hlt (.inl hy) with hy2 | ⟨k, hk⟩ | ⟨k, m, hv, hk, hbk⟩
            · exact h8 hy2
            · have := (hb.loc k _ hk).2.2.1 p.off
              rw [← spot_none (hb.hw p v h5), h5] at this; cases this
            · have := (hb.arr k m hv _ hk hbk).2.2.1 p.off
              rw [← spot_none (hb.hw p v h5), h5] at this; cases this
        · exact .inr ⟨h5, fun hy => h6 (old _ hlt (.inl hy))⟩
      · exact .inr ⟨Nat.le_trans hb.hB h1, fun hy => h2 (.inl hy)⟩
    · intro k b hk
      obtain ⟨f1, f2, f3, f4, f5⟩ := g1.loc k b hk
      have h7 := hb3.loc0 k b (by rw [efs]; exact f1) (by rw [hc4] at hk; exact (pub_loc hk).2)
      rw [ec0] at h7
      exact ⟨(hb.loc k b h7).1, by omega, f3, f4, f5⟩
    · intro k m hv b hk hbk
      obtain ⟨f1, f2, f3, f4⟩ := g1.arr k m hv b hk hbk
      obtain ⟨m0, hv0, lv0, k1, k2, k3, k4, k5⟩ := hb3.arr0 k m hv true (by rw [efs]; exact f1) (by rw [hc4] at hk; exact (pub_arr hk).2)
      rw [ec0] at k1
      have := k4 rfl
      subst this
      refine ⟨?_, by omega, f3, f4⟩
      rcases k5 b hbk with h | h
      · exact (hb.arr k m0 hv0 b k1 h).1
      · exact .inl (by rw [eB] at h; have := hb.hB; omega)
    · intro b hy
      obtain ⟨f1, f2, f3⟩ := g1.Y b hy
      refine ⟨by omega, fun hlt => ?_, f2, f3⟩
      rcases old b (Nat.lt_of_lt_of_le hlt hb.hB) (.inl hy) with hy2 | ⟨k, hk⟩ | ⟨k, m, hv, hk, hbk⟩
      · exact (hb.Y b hy2).2.1 hlt
      · exact ((hb.loc k b hk).1.resolve_left (by omega)).2
      · exact ((hb.arr k m hv b hk hbk).1.resolve_left (by omega)).2
    · intro k b hk hkb
      have h7 := hb3.loc0 k b (by rw [efs]; exact (g1.loc k b hkb).1) (by rw [hc4] at hkb; exact (pub_loc hkb).2)
      rw [ec0] at h7
      exact hb.loc0 k b hk h7
    · intro k m hv lv hk hka
      rw [hc4] at hka
      obtain ⟨f1, f2⟩ := pub_arr hka
      obtain ⟨m0, hv0, lv0, k1, k2, k3, k4, k5⟩ := hb3.arr0 k m hv lv (by rw [efs]; exact f1) f2
      rw [ec0] at k1
      obtain ⟨m1, hv1, lv1, n1, n2, n3, n4, n5⟩ := hb.arr0 k m0 hv0 lv0 hk k1
      refine ⟨m1, hv1, lv1, n1, by omega, fun e => by rw [k3 (by omega), n3 (by omega)], fun e => n4 (k4 e), fun b hb' => ?_⟩
      rcases k5 b hb' with h | h
      · exact n5 b h
      · exact .inr (by rw [eB] at h; have := hb.hB; omega)
  refine ⟨h', fun b => Y b ∨ c4.all b, ⟨⟨e3.1, e3.2.1, e3.2.2, by omega, fun k hk hn => same k hk (fun h => hn (hall k h)) (fun e => hn (e ▸ hlY))⟩, g2, ?_, hw4h, ?_, ?_⟩, c4, base4, by rw [c4h]; exact Mem.le_refl _, fun p v hp => .inl (by rw [c4h]; exact hp), fun b hb' => .inl (hlow b hb'), fun b h4 => .inr h4, hrec4, fun h4 => p1 (sub l h4), ?_⟩
  · intro p v hp
    rcases g3 p v hp with h1 | ⟨h1, h2⟩
    · exact .inl h1
    · refine .inr ⟨h1, fun hy => ?_⟩
      rcases hy with hy | hy
      · have := hYlt _ hy; omega
      · exact h2 (c4out _ hy)
  · rintro b (hy | hy)
    · have := hYlt b hy; omega
    · have := lt4 b hy; omega
  · rintro b (hy | hy) hlt
    · exact hy
    · exact hall b (old b hlt hy)
  · have bxh : ∀ key x, look bx' key = some x → Holds c4 a w4 key x := by
      intro key x hx
      have h7 := hh3 key x (hl3.mem hx)
      have h8 : Holds (c3.pub u h') a w3 key x := by
        refine Holds.pub (fs := u) (w := w3) (by rw [hh']; exact Env.fin_le hb3) ?_ (fun p v hp => by have := g1.hw p v; rw [c4h] at this; exact this hp) (BelX.refl _ _ _) (fun _ _ => rfl) h7 (List.all_eq_true.1 hhi (key, x) (look_mem hx))
        intro q v hq
        rw [hh'] at hq
        unfold Env.fin at hq
        split at hq
        · exact .inl hq
        · rename_i hc; exact .inr fun hy => hc (.inr (.inl hy))
      rw [← hc4] at h8
      exact keep_holds (fun b hb' => hoth b fun e => p1 (sub l (e ▸ hb'))) (fun p v hp => hw4h p v (by rw [← c4h]; exact hp)) ⟨by rw [hw4]; rfl, by rw [hw4]; rfl, by rw [hw4]; rfl, by omega, fun k hk => by omega⟩ rfl h8
    intro key x hx
    rw [look_append] at hx
    cases hk : look slots key with
    | none => rw [hk] at hx; exact bxh key x hx
    | some y =>
      rw [hk] at hx
      have hxy : y = x := by simpa using hx
      subst hxy
      clear hx
      have hs := List.all_eq_true.1 hslots (key, y) (look_mem hk)
      simp only [slotOk, Bool.and_eq_true, Nat.blt_eq] at hs
      have h7 := hhs key y (by rw [look_append, hk]; rfl)
      unfold Holds at h7 ⊢
      rw [if_pos hs.1] at h7 ⊢
      have hs2 := hs.2
      rw [Bool.or_eq_true] at hs2
      rcases hs2 with hs2 | hs2
      · exact (h7.cut hs2).mono ⟨by show Mem.le c.h c4.h; rw [c4h]; exact Mem.le_trans hle g2, (fun k b e => by simp [Ctx.cut] at e), (fun k m hv lv e => by simp [Ctx.cut] at e)⟩
      · cases y <;> first | cases hs2 | skip
        rename_i k off
        simp only [Bool.and_eq_true, Nat.blt_eq] at hs2
        obtain ⟨b, e1, e2⟩ := h7
        refine ⟨b, ?_, e2⟩
        have hs3' := hs2.2
        cases hlk : look bx' (1000 + k) with
        | none => rw [hlk] at hs3'; cases hs3'
        | some z =>
          rw [hlk] at hs3'
          cases z <;> first | cases hs3' | skip
          obtain ⟨b', T, vs, f1, f2, f3⟩ := box_of (bxh _ _ hlk) hs2.1
          have h9 : c3.loc k = some b' ∧ k ∈ u := by rw [hc4] at f1; exact ⟨(pub_loc f1).2, (pub_loc f1).1⟩
          have h8 := hb3.loc0 k b' (by rw [efs]; exact h9.2) h9.1
          rw [ec0] at h8
          have : c.loc k = some b' := h8
          rw [e1] at this
          cases this
          exact f1
end
end Go.Ab
namespace Go.Ab
open Go.RowKit
section
variable {E : Env} {u : List Nat} {a : Act} {W : World} {B1 l : Nat} {h : Mem} {Y : Nat → Prop} {σ : Type}
theorem round_ok (hpins : E.pins = []) (r : Rg) {slots : St} {boxes : σ → St} {s0 s1 : σ} {j : Option Code} {ps : List Nat} {xs : List X} {vs : List Value} (hEl : E.B ≤ l) (hl1 : l < B1) (hDB : E.B ≤ r.D) (hD1 : r.D < B1) (hD : ({ target := .collected r.D, args := #[] } : Deferred) ∈ a.defers)
    (hDl : r.D ≠ l) (htm : r.tmps = a.tmps) (hps : r.ps = ps.toArray) (hpl : ps.length = xs.length) (hpw : ps.Pairwise (· ≠ ·)) (hpt : ∀ p ∈ ps, p < E.nt) (hp1 : ∀ p ∈ ps, p < 1000) (htup : xs.all (fun x => !isTup x) = true)
    (hYlt : ∀ b, Y b → b < W.heap.size) (hwW : ∀ p v, h p = some v → W.cell? p = some v) (hJ : JR E u a B1 l r (slots ++ boxes s0) none h Y W) (hargs : All2 (RepV (pureC h)) xs vs)
    (hhi : (boxes s1).all (hiKey u) = true) (hslots : slots.all (slotOk (boxes s1)) = true)
    (hwalk : ∀ (c0 : Ctx) (w0 : World) (p1 p2 : List (Nat × Obj)), OK (rE E u c0 w0 l p1) r.assign (fun e U s' => e = .normal ∧ OK (rE E u c0 w0 l p2) r.body (den (rE E u c0 w0 l p2) (RoundQ boxes (s1, j)) []) U s') u (psSt ps xs ++ (slots ++ boxes s0))) :
    YieldAt Fence.wide 0 E.P l vs.toArray W fun e W' => ∃ v h' Y', e = .returned v ∧ PostJ h Y W h' Y' W' ∧ JR E u a B1 l r (slots ++ boxes s1) j h' Y' W' ∧ RepT (pureC h') (.bool j.isNone) v := by
  obtain ⟨c, hb, hle, hnw, hlow, hall, hrec, hnl, hh⟩ := hJ
  have hvl := hargs.length
  have hrec' : W.heap[l]? = some (.loop { state := .ready, pending := none, fn := r.fn, tmps := r.tmps, params := r.ps, assign := r.assign, body := r.body, defers := r.D }) := hrec
  refine ⟨r.fn, _, r.assign, r.body, run_yield hrec' (by rw [hps]; simp; omega), roundIn_of_wpIn trivial ?_⟩
  have hfold : (r.ps.zip vs.toArray).foldl (fun tmps (x : Nat × Value) => match x with | (t, a) => tmps.setIfInBounds t a) r.tmps = (ps.zip vs).foldl (fun t (p : Nat × Value) => t.setIfInBounds p.1 p.2) a.tmps := by
    rw [hps, htm, ← Array.foldl_toList]
    simp
  rw [hfold]
  obtain ⟨t1, ht1⟩ : ∃ t1, t1 = (ps.zip vs).foldl (fun t (p : Nat × Value) => t.setIfInBounds p.1 p.2) a.tmps := ⟨_, rfl⟩
  rw [← ht1]
  have hsz : t1.size = a.tmps.size := by rw [ht1]; exact foldl_size _ _
  have hlW := (Array.getElem?_eq_some_iff.1 hrec).1
  obtain ⟨D', d1, d2, d3, d4⟩ := hb.dfr.2 _ hD
  have hDD : r.D = D' := by have := congrArg Deferred.target d1; simpa using this
  subst hDD
  have hnoneOf : ∀ b, c.all b → ∀ o, c.h ⟨b, o, none⟩ = none → h ⟨b, o, none⟩ = none := by
    intro b hb2 o hn
    cases hq : h ⟨b, o, none⟩ with
    | none => rfl
    | some v =>
      rcases hnw _ _ hq with h1 | h1
      · rw [hn] at h1; cases h1
      · exact absurd hb2 h1.2
  have good : Good (rE E u ⟨h, c.loc, c.arr, c.Y⟩ W l [(l, r.obj .ready none), (r.D, .deferred (some []))]) u (psSt ps xs ++ (slots ++ boxes s0)) { tmps := t1, defers := [] } W := by
    refine ⟨⟨h, c.loc, c.arr, c.Y⟩, ⟨BelX.refl _ _ _, Nat.le_refl _, by show t1.size = E.nt; rw [hsz, hb.nt], ⟨.nil, fun d hd => by cases hd⟩, ?_, hwW, Mem.le_refl _, fun p v e => .inl e, ?_, ?_, hb.used, ?_, fun k b _ e => e, fun k m hv lv _ e => ⟨m, hv, lv, e, Nat.le_refl _, fun _ => rfl, id, fun _ h => .inl h⟩⟩, ?_⟩
    · intro p hp
      simp only [rE, List.mem_cons, List.not_mem_nil, or_false] at hp
      rcases hp with rfl | rfl
      · exact ⟨hnl, rfl, hrec⟩
      · exact ⟨d3, rfl, d4⟩
    · intro k b hk
      obtain ⟨f1, f2, f3, f4⟩ := hb.loc k b hk
      exact ⟨.inr ⟨used_mem hb hk, .inl (.inr (.inl ⟨k, used_mem hb hk, hk⟩))⟩, f2, fun o => hnoneOf b (.inr (.inl ⟨k, hk⟩)) o (f3 o), f4⟩
    · intro k m hv b hk hbk
      obtain ⟨f1, f2, f3, f4⟩ := hb.arr k m hv b hk hbk
      exact ⟨.inr ⟨used_mem2 hb hk, .inl (.inr (.inr ⟨k, m, hv, used_mem2 hb hk, hk, hbk⟩))⟩, f2, fun o => hnoneOf b (.inr (.inr ⟨k, m, hv, hk, hbk⟩)) o (f3 o), f4⟩
    · intro b hy
      obtain ⟨f1, f2, f3⟩ := hb.Y b hy
      exact ⟨f1, fun _ => .inl (.inl hy), f3⟩
    · intro key x hx
      rw [look_append] at hx
      cases hk : look (psSt ps xs) key with
      | some y =>
        rw [hk] at hx
        have hxy : y = x := by simpa using hx
        subst hxy
        have hkp := psSt_look ps xs hk
        unfold Holds
        rw [if_pos (hp1 key hkp)]
        simp only [ht1]
        exact (ps_holds ps xs vs a.tmps hpl hargs hpw (fun p hp => by rw [hb.nt]; exact hpt p hp) htup key y hk).mono (pure_ext (c := ⟨h, c.loc, c.arr, c.Y⟩) rfl)
      | none =>
        rw [hk] at hx
        have h0 := hh key x hx
        by_cases hlt : key < 1000
        · unfold Holds at h0 ⊢
          rw [if_pos hlt] at h0 ⊢
          have hg : t1.getD key undef = a.tmps.getD key undef := by
            rw [ht1]
            exact foldl_other key _ _ fun q hq e => psSt_none ps xs hpl hk (e ▸ (List.of_mem_zip hq).1)
          show RepT _ x (t1.getD key undef)
          rw [hg]
          exact h0.mono (show Ext c ⟨h, c.loc, c.arr, c.Y⟩ from ⟨hle, fun _ _ e => e, fun _ m hv lv e => ⟨m, hv, lv, e, Nat.le_refl _, fun _ => rfl⟩⟩)
        · exact grow_holds hle (fun p v e => (hnw p v e).imp id fun h hy => h.2 (.inl hy)) hwW hlt h0
  have hF : ∀ p, (rE E u ⟨h, c.loc, c.arr, c.Y⟩ W l p).F = Fence.wide.inRound l := fun _ => rfl
  have hwalk1 := hwalk ⟨h, c.loc, c.arr, c.Y⟩ W [(l, r.obj .ready none), (r.D, .deferred (some []))] [(l, r.obj .busy none), (r.D, .deferred (some []))] _ _ good
  rw [hF] at hwalk1
  refine wpIn_mono hwalk1 ?_
  rintro e a1 w1 ⟨U', s', hg1, rfl, hbody⟩
  have hrec1 : w1.heap[l]? = some (r.obj .ready none) := by
    obtain ⟨c', hb', _⟩ := hg1
    exact (hb'.pin (l, r.obj .ready none) (by simp [rE])).2.2
  have hg2 := repin (o2 := r.obj .busy none) hg1 rfl rfl (by intro e; cases e) hDl
  refine ⟨_, run_beginRound (r := { state := .ready, pending := none, fn := r.fn, tmps := r.tmps, params := r.ps, assign := r.assign, body := r.body, defers := r.D }) hrec1 rfl, ?_⟩
  have hbody1 := hbody a1 _ hg2
  rw [hF] at hbody1
  refine wpIn_mono hbody1 ?_
  rintro e3 a3 w3 ⟨U3, s3, ⟨c3, hb3, hh3⟩, hj, hl3⟩
  have hrec3 : w3.heap[l]? = some (.loop { state := .busy, pending := none, fn := r.fn, tmps := r.tmps, params := r.ps, assign := r.assign, body := r.body, defers := r.D }) := (hb3.pin (l, r.obj .busy none) (by simp [rE])).2.2
  obtain ⟨h', Y', f1, f2⟩ := round_fin hpins r (slots := slots) (bx := boxes s0) (j := j) hb hEl hDB hD hDl hle hnw hlow hall hYlt hrec hnl hwW hb3 hh3 hl3 hhi hslots hh (hlow l hl1) (hlow _ hD1)
  have hend := run_endRound (P := E.P) j hrec3
  have fin : ∃ v w', (Instr.endRound l j).run E.P w3 = .ok v w' ∧ ∃ v' h' Y', Ending.returned v = .returned v' ∧ PostJ h Y W h' Y' w' ∧ JR E u a B1 l r (slots ++ boxes s1) j h' Y' w' ∧ RepT (pureC h') (.bool j.isNone) v' :=
    ⟨_, _, hend, .bool j.isNone, h', Y', rfl, f1, f2, RepD.bool _⟩
  cases e3 with
  | normal => cases hj; exact fin
  | ret => cases hj; exact fin
  | exit id => cases hj; exact fin
  | goto t => cases hj
  | panic ch => cases hj
  | outgrown => cases hj
end
section
variable {E : Env} {Q : Exit → List Nat → St → Prop} {k : List Kn} {U : List Nat} {s : St}
def stepG {σ α : Type} (step : σ → α → σ × Option Code) (p : σ × Option Code) (x : α) : (σ × Option Code) × Bool := (step p.1 x, (step p.1 x).2.isNone)
theorem iter_none {σ α : Type} (step : σ → α → σ × Option Code) (s0 : σ) : ∀ (l : List α) (p : σ × Option Code), p.2 = none → ((iterG (stepG step) p l).2 = true ↔ (iterG (stepG step) p l).1.2 = none)
  | [], p, h => by simp [iterG, h]
  | x :: l, p, h => by
    simp only [iterG]
    split
    · rename_i h1; exact iter_none step s0 l _ (by simpa [stepG] using h1)
    · rename_i h1
      constructor
      · intro h; cases h
      · intro h2; exact absurd (show (stepG step p x).2 = true by simp only [stepG] at h2 ⊢; rw [h2]; rfl) h1
theorem OK.rangeFunc {σ α : Type} {go : Operand} {ps : List Nat} {assign body : Code} {gf : Nat} {caps : List X} {encs : α → List X} {L : List α} {r : St} (u : List Nat) (slots : St) (boxes : σ → St) (s0 : σ) (step : σ → α → σ × Option Code)
    (hseq : SeqOk E.P gf caps encs L) (hcall : ∀ args w, (callFunc gf args).run E.P w = .ok (.enter gf args) w) (hro : E.round = none) (hpins : E.pins = []) (hg : OpS s go (.fn gf caps) r) (hc1 : caps.all (okP []) = true) (hc2 : caps.all (fun u => !notCell u) = true)
    (hle : Le s (slots ++ boxes s0)) (ho : ∀ q, (slots ++ boxes q).all (okKey u) = true) (hhi : ∀ q, (boxes q).all (hiKey u) = true) (hslots : ∀ q, slots.all (slotOk (boxes q)) = true)
    (hpl : ∀ x, (encs x).length = ps.length) (htup : ∀ x, (encs x).all (fun x => !isTup x) = true) (hpw : ps.Pairwise (· ≠ ·)) (hpt : ps.all (fun p => Nat.blt p E.nt && Nat.blt p 1000) = true)
    (hround : ∀ (i : Nat) (x : α) (q : σ), L[i]? = some x → iterG (stepG step) (s0, none) (L.take i) = ((q, none), true) → ∀ (l : Nat) (c0 : Ctx) (w0 : World) (p1 p2 : List (Nat × Obj)),
      OK (rE E u c0 w0 l p1) assign (fun e U s' => e = .normal ∧ OK (rE E u c0 w0 l p2) body (den (rE E u c0 w0 l p2) (RoundQ boxes (step q x)) []) U s') u (psSt ps (encs x) ++ (slots ++ boxes q)))
    (hend : ∀ q, iterG (stepG step) (s0, none) L = ((q, none), true) → den E Q k .normal u (slots ++ boxes q))
    (hjump : ∀ q cd, (iterG (stepG step) (s0, none) L).1 = (q, some cd) → OK E cd (den E Q k) u (slots ++ boxes q)) : OK E (.rangeFunc go ps.toArray assign body) (den E Q k) U s := by
  intro a w hg0
  obtain ⟨c, hb, hh⟩ := hg0
  obtain ⟨cvs, hev, hcv0⟩ := hg.rep (c := c) (a := a) (w := w) fun p hp => hh _ _ (hg.looks.all p hp)
  have hcv : All2 (RepV (pureC c.h)) caps cvs := by
    have : ∀ {us : List X} {vs : List Value}, All2 (RepP c) us vs → us.all (okP []) = true → us.all (fun u => !notCell u) = true → All2 (RepV (pureC c.h)) us vs := by
      intro us
      induction us with
      | nil => intro vs h _ _; exact (All2.nil_left h) ▸ trivial
      | cons u us ih =>
        intro vs h h1 h2
        obtain ⟨v, vs', rfl, hv, hvs⟩ := h.cons_left
        simp only [List.all_cons, Bool.and_eq_true, Bool.not_eq_true'] at h1 h2
        refine ⟨?_, ih hvs h1.2 (by simpa using h2.2)⟩
        have hp := (hv.cut h1.1).mono (ctx_cut_ext (Mem.le_refl c.h))
        have hn := h2.1
        cases u <;> first | exact hp | cases hn
    exact this hcv0 hc1 hc2
  clear hcv0
  have hb5 := hb.cut u
  have hh5 : ∀ key x, look (slots ++ boxes s0) key = some x → Holds (c.cut u) a w key x := fun key x hx => Holds.cut (hh key x (hle.mem hx)) (List.all_eq_true.1 (ho s0) _ (look_mem hx))
  have hch : (c.cut u).h = c.h := rfl
  generalize c.cut u = c5 at hb5 hh5 hch
  rw [← hch] at hcv
  clear hb hh hle hg hch
  refine wpIn_rangeFunc fun fn hfn => ?_
  obtain ⟨r, hr⟩ : ∃ r : Rg, r = { fn := fn, tmps := a.tmps, ps := ps.toArray, assign := assign, body := body, D := w.heap.size } := ⟨_, rfl⟩
  obtain ⟨W1, hW1⟩ : ∃ W1, (w.alloc (.deferred (some []))).alloc (r.obj .ready none) = W1 := ⟨_, rfl⟩
  have sz1 : W1.heap.size = w.heap.size + 2 := by rw [← hW1]; simp
  have hlow1 : ∀ k, k < w.heap.size → W1.heap[k]? = w.heap[k]? := fun k hk => by
    rw [← hW1, Below.heap_alloc _ _ _ (by simp; omega), Below.heap_alloc _ _ _ hk]
  have hL1 : W1.heap[w.heap.size + 1]? = some (r.obj .ready none) := by
    rw [← hW1]; have := World.alloc_heap_new (w.alloc (.deferred (some []))) (r.obj .ready none); rwa [World.size_alloc] at this
  have hK1 : W1.heap[w.heap.size]? = some (.deferred (some [])) := by
    rw [← hW1]; exact (Below.heap_alloc _ _ _ (by simp)).trans (World.alloc_heap_new w _)
  have hBW : Below w.heap.size w W1 := by rw [← hW1]; exact (((Below.refl _ w).alloc (Nat.le_refl _) _).alloc (by simp) _)
  obtain ⟨a1, ha1⟩ : ∃ a1 : Act, a1 = { a with defers := { target := .collected w.heap.size, args := #[] } :: a.defers } := ⟨_, rfl⟩
  have hEF : E.F.round = none := hro
  have hw1 : ∀ p v, c5.h p = some v → W1.cell? p = some v := fun p v e => by
    have h1 := hb5.hw p v e
    rw [hBW.cell (block_lt_of_cell h1)]; exact h1
  have hb6 : Base E u c5 a W1 := hb5.below_grow hBW (Mem.le_refl _) (fun p v e => .inl e) hw1
  have hall6 : ∀ b, c5.all b → b < w.heap.size := by
    rintro b (h | ⟨k, h⟩ | ⟨k, m, hv, h, h2⟩)
    · exact (hb5.Y b h).1
    · exact (hb5.loc k b h).2.1
    · exact (hb5.arr k m hv b h h2).2.1
  have hb7 : Base E u c5 a1 W1 := by
    rw [ha1]
    refine ⟨hb6.below, hb6.hB, hb6.nt, ⟨?_, ?_⟩, hb6.pin, hb6.hw, hb6.hle, hb6.hnew, hb6.loc, hb6.arr, hb6.used, hb6.Y, hb6.loc0, hb6.arr0⟩
    · refine List.pairwise_cons.2 ⟨fun d hd e => ?_, hb6.dfr.1⟩
      obtain ⟨D, f1, f2, f3, f4⟩ := hb5.dfr.2 d hd
      subst f1
      have := (Array.getElem?_eq_some_iff.1 f4).1
      have h2 : w.heap.size = D := by have := congrArg Deferred.target e; simpa using this
      omega
    · intro d hd
      rcases List.mem_cons.1 hd with rfl | hd
      · exact ⟨w.heap.size, rfl, hb5.hB, fun h => by have := hall6 _ h; omega, hK1⟩
      · exact hb6.dfr.2 d hd
  have hh7 : ∀ key x, look (slots ++ boxes s0) key = some x → Holds c5 a1 W1 key x := fun key x hx => keep_holds (fun b hb' => hlow1 b (hall6 b hb')) hw1 (BelX.of (hBW.mono (Nat.zero_le _))) (by rw [ha1]) (hh5 key x hx)
  obtain ⟨J, hJ⟩ : ∃ J : σ × Option Code → Mem → (Nat → Prop) → World → Prop, J = fun q => JR E u a1 W1.heap.size (w.heap.size + 1) r (slots ++ boxes q.1) q.2 := ⟨_, rfl⟩
  have hEB : E.B ≤ w.heap.size := hb5.hB
  have hst : ∀ q, Stable (J q) := fun q => by
    rw [hJ]
    refine JR.stable hpins (by omega) (by omega) ?_
    intro D hD
    rw [ha1] at hD
    rcases List.mem_cons.1 hD with e | hD
    · have h2 : D = w.heap.size := by have := congrArg Deferred.target e; simpa using this
      omega
    · obtain ⟨D', f1, f2, f3, f4⟩ := hb5.dfr.2 _ hD
      have h2 : D = D' := by have := congrArg Deferred.target f1; simpa using this
      have := (Array.getElem?_eq_some_iff.1 f4).1
      omega
  have hnow : ∀ i x, L[i]? = some x → (iterG (stepG step) (s0, none) (L.take i)).2 = true → ∃ q, iterG (stepG step) (s0, none) (L.take i) = ((q, none), true) := by
    intro i x _ h
    have h2 := (iter_none step s0 (L.take i) (s0, none) rfl).1 h
    refine ⟨(iterG (stepG step) (s0, none) (L.take i)).1.1, ?_⟩
    refine Prod.ext (Prod.ext rfl h2) h
  have hcb : ∀ v, v = Value.func (.yield (w.heap.size + 1)) #[] #[] → ∀ (i : Nat) (x : α), L[i]? = some x → (iterG (stepG step) (s0, none) (L.take i)).2 = true →
      CbOk E.P v (encs x) (.bool (stepG step (iterG (stepG step) (s0, none) (L.take i)).1 x).2) (J (iterG (stepG step) (s0, none) (L.take i)).1) (J (stepG step (iterG (stepG step) (s0, none) (L.take i)).1 x).1) := by
    rintro v rfl i x hx hrun
    obtain ⟨q, hq⟩ := hnow i x hx hrun
    rw [hq]
    intro h Y W vs hwW hYlt hJ0 hargs
    refine .inr ⟨w.heap.size + 1, rfl, ?_⟩
    have hJ0' : JR E u a1 W1.heap.size (w.heap.size + 1) r (slots ++ boxes q) none h Y W := by rw [hJ] at hJ0; exact hJ0
    have := round_ok (s1 := (step q x).1) (j := (step q x).2) hpins r (ps := ps) (xs := encs x) (vs := vs) (B1 := W1.heap.size) (by omega) (by omega) (by rw [hr]; exact hEB) (by rw [hr]; show w.heap.size < _; omega) (by rw [ha1, hr]; exact List.mem_cons_self) (by rw [hr]; show w.heap.size ≠ _; omega) (by rw [hr, ha1]) (by rw [hr]) (hpl x).symm hpw
      (fun p hp => by have := List.all_eq_true.1 hpt p hp; simp only [Bool.and_eq_true, Nat.blt_eq] at this; exact this.1) (fun p hp => by have := List.all_eq_true.1 hpt p hp; simp only [Bool.and_eq_true, Nat.blt_eq] at this; exact this.2) (htup x) hYlt hwW hJ0' hargs (hhi _) (hslots _)
      (fun c0 w0 p1 p2 => by rw [hr]; exact hround i x q hx hq _ c0 w0 p1 p2)
    rw [hJ]
    exact this
  have hG := hseq J (stepG step) (s0, none) (fun v => v = .func (.yield (w.heap.size + 1)) #[] #[]) hst hcb
  have hCtx : CtxOk [] ⟨c5.h, fun _ => none, fun _ => none, fun b => b < W1.heap.size⟩ W1 := ⟨hw1, (fun k b e => by cases e), (fun k m hv b e => by cases e), (fun _ _ => ⟨rfl, rfl⟩), fun b hy => ⟨hy, (fun k e => by cases e), (fun k m hv e => by cases e)⟩⟩
  have hrd : ∀ p ∈ [(3000, X.res (J (s0, none)))], ∀ b : Act, Holds ⟨c5.h, fun _ => none, fun _ => none, fun b => b < W1.heap.size⟩ b W1 p.1 p.2 := by
    intro p hp b
    simp only [List.mem_singleton] at hp
    subst hp
    unfold Holds
    rw [if_neg (by omega), if_neg (by omega), if_neg (by omega)]
    refine .inr ⟨rfl, _, rfl, hst _, ?_⟩
    rw [hJ]
    exact ⟨c5, hb7, Mem.le_refl _, fun p v e => .inl e, fun b hb' => hb', fun b hb' => by have := hall6 b hb'; show b < _; omega, hL1, fun h => by have := hall6 _ h; omega, hh7⟩
  have hcalls := hG _ W1 (.func (.yield (w.heap.size + 1)) #[] #[] :: cvs) hCtx hrd ⟨rfl, hcv.mono fun _ _ h => h.mono (pure_ext (c := ⟨c5.h, fun _ => none, fun _ => none, fun b => b < W1.heap.size⟩) rfl)⟩
  have harr : (Value.func (.yield (w.heap.size + 1)) #[] #[] :: cvs).toArray = #[Value.func (.yield (w.heap.size + 1)) #[] #[]] ++ cvs.toArray := by simp
  refine ⟨w.heap.size + 1, [{ target := .collected w.heap.size, args := #[] }], W1, { target := .fn (.func gf) cvs.toArray, args := #[.func (.yield (w.heap.size + 1)) #[] #[]] }, W1, gf, #[.func (.yield (w.heap.size + 1)) #[] #[]] ++ cvs.toArray, W1, ?_, ?_, ?_, ?_, (fun h => by cases h), ?_⟩
  · rw [hEF, ← hW1, hr]; exact run_enterLoop_outer _ _ _ _ _
  · simp only [resolve, hev]
    simp [go_sem]
  · intro f' hf'; trivial
  · simp [invoke, go_sem, hcall]
  · have h1 : CallsIn E.F (0 - 1) E.P gf (#[.func (.yield (w.heap.size + 1)) #[] #[]] ++ cvs.toArray) W1 _ := (callsIn_wide (n := 0)).2 (harr ▸ hcalls)
    refine h1.mono ?_
    rintro e W2 ⟨v, c', rfl, hp⟩
    have hJ1 := hp.wr (3000, .res (J (iterG (stepG step) (s0, none) L).1)) (by simp) a1
    unfold Holds at hJ1
    rw [if_neg (by omega), if_neg (by omega), if_neg (by omega)] at hJ1
    rcases hJ1 with h | ⟨_, J', e1, _, hJ2⟩
    · cases h
    cases e1
    rw [hJ] at hJ2
    obtain ⟨q, hq⟩ : ∃ q, q = (iterG (stepG step) (s0, none) L).1 := ⟨_, rfl⟩
    rw [← hq] at hJ2
    obtain ⟨c8, hb8, _, _, _, hall8, hrec8, hnl8, hh8⟩ := hJ2
    have hend8 := run_endLoop (P := E.P) (l := w.heap.size + 1) (w := W2) (r := { state := rst q.2, pending := q.2, fn := r.fn, tmps := r.tmps, params := r.ps, assign := r.assign, body := r.body, defers := r.D }) hrec8 (by show rst q.2 ≠ .busy; unfold rst; split <;> (intro h; cases h))
    refine ⟨q.2, _, hend8, ?_⟩
    obtain ⟨W3, hW3⟩ : ∃ W3, W3 = W2.putObj (w.heap.size + 1) (.loop { state := .exhausted, pending := q.2, fn := r.fn, tmps := r.tmps, params := r.ps, assign := r.assign, body := r.body, defers := r.D }) := ⟨_, rfl⟩
    have ho3 : ∀ k, k ≠ w.heap.size + 1 → W3.heap[k]? = W2.heap[k]? := fun k hk => by rw [hW3]; exact World.putObj_heap_other hk
    have hc3 : ∀ p, W3.cell? p = W2.cell? p := fun p => by rw [hW3]; exact cell_putObj hrec8 rfl rfl p
    have hB3 : BelX 0 (fun _ => False) W2 W3 := by rw [hW3]; exact ⟨rfl, rfl, rfl, by simp, fun k hk => by omega⟩
    have good : Good E u (slots ++ boxes q.1) a1 W3 := by
      refine ⟨c8, hb8.keep hpins hB3 (fun b hb' => ho3 b (by omega)) (fun p v e => by rw [hc3]; exact hb8.hw p v e) ?_, fun key x hx => keep_holds (fun b hb' => ho3 b fun e => hnl8 (e ▸ hb')) (fun p v e => by rw [hc3]; exact hb8.hw p v e) hB3 rfl (hh8 key x hx)⟩
      intro D f1 _
      refine (ho3 D ?_).trans f1
      rintro rfl
      rw [hrec8] at f1; cases f1
    show (match q.2 with | none => _ | some c => _)
    have ha1' : ({ tmps := a.tmps, defers := [{ target := .collected w.heap.size, args := #[] }] ++ a.defers } : Act) = a1 := by rw [ha1]; rfl
    rw [← hW3]
    cases hq2 : q.2 with
    | none =>
      refine ⟨u, slots ++ boxes q.1, by rw [ha1']; exact good, hend q.1 ?_⟩
      refine Prod.ext (hq.symm.trans (Prod.ext rfl hq2)) ((iter_none step s0 L (s0, none) rfl).2 (by rw [← hq]; exact hq2))
    | some cd =>
      have := hjump q.1 cd (hq.symm.trans (Prod.ext rfl hq2)) a1 W3 good
      rw [ha1']
      exact this
end
end Go.Ab
namespace Go.Ab
open Go.RowKit
section
variable {E : Env} {all : Array Oper} {s r r1 r2 r3 rg : St} {d ty : Nat} {pos : String} {after : Array Edge} {guard : Option (Nat × Bool)} {x y z : Operand}
theorem S.mkData {t e sz bytes n : Nat} {ps : List (Nat × Operand)} {us : List X} {rows : List (List X)} (hA : ApI E.P t e sz bytes) (hg : Gd all s guard rg) (hd : (Nat.blt d 1000 && Nat.blt d E.nt) = true)
    (hx : OpsS s (ps.map (·.2)) us r) (hu : us.all okSt = true) (_hrows : us.map cellsX = rows) (hf : fillX (fun i => some (i * sz, sz)) (List.replicate (n * sz) .any) ((ps.map (·.1)).zip us) = some rows.flatten)
    (hr : rows.all (fun q => Nat.beq q.length sz) = true) (hn : rows.length = n) (hD : rows.flatten.all okD = true) (hbig : Nat.ble (n * sz) 16777216 = true) :
    St1 E all ⟨some d, .buildSlice t n ps.toArray, ty, pos, after, guard⟩ s (rg ++ r) [(d, .sl rows)] [] :=
  St1.mk hg hd rfl hx.looks fun U c a w hb hrr hal => by
    clear _hrows hal
    rw [Nat.ble_eq] at hbig
    have hrow : ∀ q ∈ rows, q.length = sz := fun q hq => Nat.eq_of_beq_eq_true ((List.all_eq_true.1 hr) q hq)
    have hfl : rows.flatten.length = n * sz := by rw [flatten_length hrow, hn]
    obtain ⟨hsz, zv, hz, hzs⟩ := hA.run
    have hbase : ∀ (q : Array Value), q.size = n * sz → All2 (RepC c) (List.replicate (n * sz) .any) q.toList := fun q hq => All2.of_get (by simp [hq]) fun i u v hu _ => by
      simp only [List.getElem?_replicate] at hu
      split at hu
      · cases hu; exact trivial
      · cases hu
    obtain ⟨cells, h1, h2⟩ := fill_rep (c := c) (fun i => some (i * sz, sz)) _ _ _ (((Array.range (n * sz)).map fun i => (if n * sz = 0 then #[] else zv.cells)[i % (if n * sz = 0 then #[] else zv.cells).size]!)) rows.flatten (hbase _ (by simp)) (parts_rep (hx.rep (c := c) (a := a) (w := w) hrr) hu) hf
    have hcs : cells.size = n * sz := by have := h2.length; rw [hfl] at this; simpa using this.symm
    have hB := below_alloc w (.cells cells e)
    have hnewb : (w.alloc (.cells cells e)).heap[w.heap.size]? = some (.cells cells e (0, 0)) := heap_alloc_new w _
    have hds := Ds_of h2 hD
    obtain ⟨h', hh'⟩ : ∃ h' : Mem, h' = fun p => if p.block = w.heap.size then (w.alloc (.cells cells e)).cell? p else c.h p := ⟨_, rfl⟩
    have hle : Mem.le c.h h' := by
      intro p u hp
      rw [hh']
      dsimp only
      rw [if_neg (by have := block_lt_of_cell (hb.hw p u hp); omega)]
      exact hp
    have hnw : ∀ p u, h' p = some u → c.h p = some u ∨ w.heap.size ≤ p.block := fun p u hp => by
      rw [hh'] at hp
      dsimp only at hp
      split at hp
      · exact .inr (by omega)
      · exact .inl hp
    have hbase2 := hb.below_grow hB hle hnw (fun p u hp => by
      rw [hh'] at hp
      dsimp only at hp
      split at hp
      · exact hp
      · rw [hB.cell (block_lt_of_cell (hb.hw p u hp))]; exact hb.hw p u hp)
    have hext : Ext c ⟨h', c.loc, c.arr, c.Y⟩ := ⟨hle, fun _ _ e => e, fun _ m hv lv e => ⟨m, hv, lv, e, Nat.le_refl _, fun _ => rfl⟩⟩
    refine ⟨.slice (some ⟨w.heap.size, 0, none⟩) n n, ⟨h', c.loc, c.arr, c.Y⟩, w.alloc (.cells cells e), ?_, hbase2, hext, ?_, (fun p hp => by cases hp), fun key u hkey _ hu => Holds.below hb hB hext (fun _ _ _ e => e) rfl hnw hbase2.hw hkey hu⟩
    · have hnb : ¬ (n * sz > 2 ^ 24) := by omega
      simp only [execOp, Instr.buildSlice, Sem.run_bind, run_underlying hA.und, Result.andThen_ok, hsz, hnb, if_false]
      by_cases h0 : n * sz = 0
      · simp only [h0, if_true] at h1
        simp at h1
        simp [h0, h1, newRow]
      · simp only [h0, if_false] at h1
        simp [h0, hz, h1, newRow]
    · have hpos := hA.pos
      have hnn : n ≤ n * sz := Nat.le_mul_of_pos_right n hpos
      have : RepD h' (.sl rows) (.slice (some ⟨w.heap.size, 0, none⟩) rows.length n) := by
        refine .sl rows w.heap.size 0 n sz cells.toList (by omega) (by unfold maxLen; omega) hrow (by rw [hfl]; simp [hcs]) ?_ ?_
        · intro i v hv
          rw [hh']
          dsimp only
          rw [if_pos rfl, cell_of_row _ w.heap.size (0 + i) cells e (0, 0) hnewb, Nat.zero_add]
          simpa using hv
        · intro i u v hu hv
          exact (hds.get hu hv).mono hle
      rw [hn] at this
      exact RepD.toT (c := ⟨h', c.loc, c.arr, c.Y⟩) this
end
section
variable {E : Env} {all : Array Oper} {l : List Oper} {U : List Nat} {s : St} {Q : Exit → List Nat → St → Prop}
theorem RK.freeze (t : Nat) {k n sz : Nat} {rows : List (List X)} (ht : Nat.blt t 1000 = true) (hl : look s t = some (.own k n)) (hl2 : look s (2000 + k) = some (.arr sz rows)) (hn : rows.length = n)
    (h : RK E all l U ((t, .sl rows) :: (2000 + k, .any) :: s) Q) (hk9 : E.fs.contains k = false := by rfl) : RK E all l U s Q :=
  fun k0 hk a w hg => h k0 hk a w (hg.freeze ht hl hl2 hn (nfs hk9))
end
end Go.Ab
