/-
  Abstract states: boxes, stores, literals, slices of the activation's own.
-/
import Derived.Test.YtjamlnkjfkcdkaaGreatDoorFg
namespace Go.Ab
open Go.RowKit

/-! ### append, whatever the source -/
def srcD (du : TypeDesc) : Prop := (∃ e, du = .slice e) ∨ du = .string
section
variable {P : Program} (w : World)
theorem run_append_src (base t u ty e e0 : Nat) (du : TypeDesc) (i : TypeInfo) (z : Value) (size bytes : Nat) (ht : P.underlying t = some (.slice e)) (hu : P.underlying u = some du) (hdu : srcD du)
    (hi : P.info? e = some i) (hz : i.zero = some z) (hsize : i.size = size) (hby : i.bytes = bytes) (hzs : z.cells.size = size)
    (v : Value) (n : Nat) (xs : List Value) (hown : w.ownsRow base e0 size v n xs) (x : Value) (m : Nat) (news : List Value) (hlen : ∀ w, (Builtin.lenOf x).run P w = .ok m w) (hl : news.length = m * size)
    (hf : ∀ w' : World, (∀ p, w'.cell? p = w.cell? p) → (Builtin.firstCells size m x).run P w' = .ok news.toArray w') (h1 : ∀ q ∈ news, q.oneCell' = true)
    (h63 : n + m ≤ maxLen) (hbytes : (n + m) * bytes ≤ 140737488355328) (hbase : base ≤ w.heap.size) :
    ∃ v' w' e1, (Builtin.append_ #[t, u] ty #[v, x]).run P w = .ok v' w' ∧ w'.ownsRow base e1 size v' (n + m) (xs ++ news) ∧ w.grownBy w' v.ownBlock ∧ (v'.ownBlock = v.ownBlock ∨ (v'.ownBlock = some w.heap.size ∧ w.heap.size < w'.heap.size)) ∧ (m = 0 → v' = v) ∧ ∃ a l c, v' = .slice a l c := by
  subst hsize
  subst hby
  have hsmall : n + m ≤ 9223372036854775807 := by simp only [maxLen] at h63; omega
  have hlen2 : (xs ++ news).length = (n + m) * i.size := by rw [List.length_append, hown.1, hl, Nat.add_mul]
  have grown : ∀ (old : Nat), (w.drew.alloc (.cells (xs.toArray ++ news.toArray ++ Builtin.zeroCells z.cells (grownCap w (n + m) old e - (n + m))) e)).ownsRow base e i.size
        (.slice (some ⟨w.heap.size, 0, none⟩) (n + m) (grownCap w (n + m) old e)) (n + m) (xs ++ news) := by
    intro old
    have hge := grownCap_ge w (n + m) old e
    have hcm : grownCap w (n + m) old e ≤ maxLen := grownCap_le_maxLen w (n + m) old e h63
    refine ⟨hlen2, .inr ⟨w.heap.size, _, _, rfl, hbase, heap_alloc_new w.drew _, hge, hcm, ?_, ?_⟩⟩
    · simp only [Array.size_append, List.size_toArray, size_zeroCells, hzs, hown.1, hl, ← Nat.add_mul]
      congr 1
      omega
    · simp only [Array.toList_append, List.append_assoc]
      rw [← List.append_assoc, ← hlen2]
      exact List.take_left
  have gby : ∀ (o : Obj) (row : Option Nat), w.grownBy (w.drew.alloc o) row := fun o row => ⟨rfl, rfl, rfl, by simp, fun k hk _ => Below.heap_alloc w.drew o k hk⟩
  rcases hown.2 with ⟨rfl, rfl⟩ | ⟨g, cap, cur, rfl, hbg, hg, hnc, hcm, hcs, htake⟩
  · have hx : xs = [] := List.eq_nil_of_length_eq_zero (by simpa using hown.1)
    subst hx
    by_cases hm : m = 0
    · subst hm
      have hn : news = [] := List.eq_nil_of_length_eq_zero (by simpa using hl)
      subst hn
      refine ⟨.slice none 0 0, w, e, ?_, World.ownsRow_nil w base e i.size, ⟨rfl, rfl, rfl, Nat.le_refl _, fun _ _ _ => rfl⟩, .inl rfl, fun _ => rfl, none, 0, 0, rfl⟩
      have := hf w fun _ => rfl
      rcases hdu with ⟨e', rfl⟩ | rfl <;> simp [Builtin.append_, run_underlying ht, run_underlying hu, sizeOf, typeInfo, hi, hlen, this]
    · have h63' : ¬ (9223372036854775807 < (m : Int)) := by omega
      have h48' : ¬ (281474976710656 < Builtin.nextslicecap m 0 * i.bytes) := by rw [nextslicecap_zero (by omega)]; have hb := hbytes; simp only [Nat.zero_add] at hb; omega
      have hgr := grown 0
      simp only [Nat.zero_add, List.nil_append, Array.empty_append] at hgr ⊢
      refine ⟨.slice (some ⟨w.heap.size, 0, none⟩) m (grownCap w m 0 e), w.drew.alloc (.cells (news.toArray ++ Builtin.zeroCells z.cells (grownCap w m 0 e - m)) e), e, ?_, hgr, gby _ _, .inr ⟨rfl, by simp⟩, fun h => absurd h hm, _, _, _, rfl⟩
      have hff := hf w.drew fun _ => rfl
      rcases hdu with ⟨e', rfl⟩ | rfl <;> simp [Builtin.append_, run_underlying ht, run_underlying hu, sizeOf, typeInfo, zeroValue, hi, hz, hlen, hm, h63', h48', Question.forced, run_firstCells_none, hff, newRow, grownCap]
  · by_cases hroom : n + m ≤ cap
    · have hfit : n * i.size + news.length ≤ cur.size := by rw [hl, hcs, ← Nat.add_mul]; exact Nat.mul_le_mul_right _ hroom
      have hff := hf w fun _ => rfl
      have hst := run_storeCells_at P g (n * i.size) e0 news 0 cur w hg (by simpa using hfit) h1
      simp only [Nat.add_zero] at hst
      refine ⟨.slice (some ⟨g, 0, none⟩) (n + m) cap, w.setRow g (cur.toList.take (n * i.size) ++ news ++ cur.toList.drop (n * i.size + news.length)).toArray, e0, ?_,
        ⟨hlen2, .inr ⟨g, cap, _, rfl, hbg, setRow_heap w g cur _ e0 _ hg, hroom, hcm, ?_, ?_⟩⟩, ⟨rfl, rfl, rfl, by simp, fun k _ hk => setRow_other w g k _ (fun e => hk (by simp [Value.ownBlock, e]))⟩, .inl rfl, (fun h => by subst h; rfl), _, _, _, rfl⟩
      · rcases hdu with ⟨e', rfl⟩ | rfl <;> simp [Builtin.append_, run_underlying ht, run_underlying hu, sizeOf, typeInfo, hi, hlen, hroom, hff, Addr.add_lit, hst]
      · simp only [List.size_toArray, List.length_append, List.length_take, List.length_drop, Array.length_toList]
        omega
      · rw [htake, ← hlen2]
        exact List.take_left
    · have holds : ∀ j u, xs[j]? = some u → w.cell? ((⟨g, 0, none⟩ : Addr).add j) = some u := hown.cells (g := g) rfl
      have hn : ¬ (n + m ≤ cap) := hroom
      have h63' : ¬ (9223372036854775807 < ((n : Int) + (m : Int))) := by omega
      have h48 := growslice_fits (need := n + m) (old := cap) (bytes := i.bytes) (by omega) hbytes
      have h48' : ¬ (281474976710656 < Builtin.nextslicecap (n + m) cap * i.bytes) := by omega
      have hff := hf w.drew fun _ => rfl
      have hfo := run_firstCells_some (P := P) w.drew i.size n ⟨g, 0, none⟩ n cap xs hown.1 (by simpa using holds)
      refine ⟨_, _, e, ?_, grown cap, gby _ _, .inr ⟨rfl, by simp⟩, (fun h => by omega), _, _, _, rfl⟩
      rcases hdu with ⟨e', rfl⟩ | rfl <;> (simp [Builtin.append_, run_underlying ht, run_underlying hu, sizeOf, typeInfo, zeroValue, hi, hz, hlen, hn, h63', h48', Question.forced, hff, hfo, newRow, grownCap]; congr 2; apply Array.ext'; simp [List.append_assoc])
end

def cellsX : X → List X
  | .agg xs => xs
  | x => [x]
def okSt1 : X → Bool
  | .any | .tup _ | .agg _ | .box _ | .arr _ _ | .optr _ _ _ | .cb _ | .res _ | .resb _ _ | .omap _ | .arrn _ _ _ _ | .ownp _ _ _ _ _ => false
  | .raw v => v.oneCell'
  | _ => true
def okSt : X → Bool
  | .agg xs => xs.all okSt1
  | x => okSt1 x
theorem oneCell_of {c : Ctx} {u : X} {v : Value} (h : RepC c u v) (hu : okSt1 u = true) : v.oneCell' = true := by
  cases u with
  | int _ _ => cases h; rfl
  | bool _ => cases h; rfl
  | str _ => cases h; rfl
  | sl _ => cases h <;> rfl
  | eptr _ => cases h; rfl
  | fn f caps => obtain ⟨vs, rfl, _⟩ := h; rfl
  | ptr k off => obtain ⟨b, _, rfl⟩ := h; rfl
  | mptr k => obtain ⟨b, _, rfl⟩ := h; rfl
  | slc rows => obtain ⟨_, a, rfl⟩ := h; rfl
  | own k n => obtain ⟨⟨a, l, cp, rfl⟩, _⟩ := h; rfl
  | raw u => have : v = u := h; subst this; exact hu
  | nils => have : v = .slice none 0 0 := h; subst this; rfl
  | _ => cases hu
theorem cells_of {c : Ctx} {u : X} {v : Value} (h : RepT c u v) (hu : okSt u = true) : All2 (RepC c) (cellsX u) v.cells.toList ∧ ∀ z ∈ v.cells.toList, z.oneCell' = true := by
  have one : ∀ {c : Ctx} {xs : List X} {vs : List Value}, All2 (RepC c) xs vs → xs.all okSt1 = true → ∀ z ∈ vs, z.oneCell' = true := by
    intro c xs
    induction xs with
    | nil => intro vs h _ z hz; rw [All2.nil_left h] at hz; cases hz
    | cons x xs ih =>
      intro vs h ho z hz
      obtain ⟨v, vs', rfl, h1, h2⟩ := h.cons_left
      simp only [List.all_cons, Bool.and_eq_true] at ho
      rcases List.mem_cons.1 hz with rfl | hz
      · exact oneCell_of h1 ho.1
      · exact ih h2 ho.2 z hz
  cases u
  case agg xs => obtain ⟨vs, rfl, h2⟩ := h; exact ⟨by simpa [Value.cells, cellsX] using h2, by simpa [Value.cells] using one h2 hu⟩
  case tup xs => cases hu
  all_goals
    simp only [RepT, RepV] at h
    have ho := oneCell_of h hu
    have hc : v.cells = #[v] := by cases v <;> first | rfl | cases ho
    rw [hc]
    exact ⟨⟨h, trivial⟩, fun z hz => by simp at hz; subst hz; exact ho⟩

/-! ### a new box -/
def Ctx.box (c : Ctx) (k b : Nat) : Ctx := ⟨c.h, fun j => if j = k then some b else c.loc j, c.arr, c.Y⟩
theorem Base.boxO {E : Env} {U : List Nat} {c : Ctx} {a : Act} {w : World} (hb : Base E U c a w) {k : Nat} (hk9 : k ∉ E.fs) (hk : k ∉ U) (o0 : Obj) :
    Base E ([k] ++ U) (c.box k w.heap.size) a (w.alloc o0) ∧ Ext c (c.box k w.heap.size) ∧ (c.box k w.heap.size).loc k = some w.heap.size ∧ (w.alloc o0).heap[w.heap.size]? = some o0 ∧
      ∀ key y, ¬ key < 1000 → Holds c a w key y → Holds (c.box k w.heap.size) a (w.alloc o0) key y := by
  have hn := (hb.used k hk).1
  have hB := below_alloc w o0
  have hg := hb.below_grow hB (Mem.le_refl _) (fun p v e => .inl e) fun p v e => by
    have h1 := hb.hw p v e
    have h2 : p.block < w.heap.size := block_lt_of_cell h1
    rw [hB.cell h2]; exact h1
  have hold : ∀ j b, c.loc j = some b → (c.box k w.heap.size).loc j = some b := by
    intro j b hj
    simp only [Ctx.box]
    split
    · rename_i e; subst e; rw [hn] at hj; cases hj
    · exact hj
  have hext : Ext c (c.box k w.heap.size) := ⟨Mem.le_refl _, hold, fun _ m hv lv e => ⟨m, hv, lv, e, Nat.le_refl _, fun _ => rfl⟩⟩
  have hnew : ∀ j b, (c.box k w.heap.size).loc j = some b → (j = k ∧ b = w.heap.size) ∨ (j ≠ k ∧ c.loc j = some b) := by
    intro j b hj
    simp only [Ctx.box] at hj
    split at hj
    · rename_i e; exact .inl ⟨e, (Option.some.inj hj).symm⟩
    · rename_i e; exact .inr ⟨e, hj⟩
  have hnone : ∀ o, c.h ⟨w.heap.size, o, none⟩ = none := fun o => by
    cases hh : c.h ⟨w.heap.size, o, none⟩ with
    | none => rfl
    | some v => have := block_lt_of_cell (hb.hw _ _ hh); simp at this
  have hall : ∀ b, b < w.heap.size → (c.box k w.heap.size).all b → c.all b := by
    intro b hlt h
    rcases h with h | ⟨j, h⟩ | h
    · exact .inl h
    · rcases hnew j b h with ⟨_, rfl⟩ | ⟨_, h⟩
      · omega
      · exact .inr (.inl ⟨j, h⟩)
    · exact .inr (.inr h)
  have hkp : ∀ (D : Nat) (o : Obj), w.heap[D]? = some o → o.isCells = false → (w.alloc o0).heap[D]? = some o := fun D o h _ => (hB.block D (Array.getElem?_eq_some_iff.1 h).1).trans h
  have hlo : ∀ j, j ∈ E.fs → (c.box k w.heap.size).loc j = c.loc j := fun j hj => by simp only [Ctx.box]; rw [if_neg (show ¬ j = k from fun e => hk9 (e ▸ hj))]
  refine ⟨⟨hg.below, hg.hB, hg.nt, dfr_of hb hall hkp, pin_of hb hall hkp, hg.hw, hg.hle, hg.hnew, ?_, ?_, ?_, ?_, fun j b hj e => hb.loc0 j b hj (hlo j hj ▸ e), hb.arr0⟩, hext, by simp [Ctx.box], heap_alloc_new w _, fun key y hkey hy => Holds.below hb hB hext (fun _ _ _ e => e) rfl (fun _ _ e => .inl e) hg.hw hkey hy⟩
  · intro j b hj
    rcases hnew j b hj with ⟨rfl, rfl⟩ | ⟨hne, hj2⟩
    · refine ⟨.inl hb.hB, by simp, hnone, fun k' hk' => ?_, fun k' m hv hk' he => ?_⟩
      · rcases hnew k' _ hk' with ⟨rfl, _⟩ | ⟨_, hk'⟩
        · rfl
        · have := (hb.loc k' _ hk').2.1; omega
      · have := (hb.arr k' m hv _ hk' he).2.1; omega
    · obtain ⟨h1, h2, h3, h4, h5⟩ := hg.loc j b hj2
      refine ⟨h1, h2, h3, fun k' hk' => ?_, h5⟩
      rcases hnew k' _ hk' with ⟨rfl, rfl⟩ | ⟨_, hk'⟩
      · have := (hb.loc j _ hj2).2.1; omega
      · exact h4 k' hk'
  · exact hg.arr
  · intro j hj
    simp only [List.mem_append, List.mem_singleton, not_or] at hj
    refine ⟨?_, (hb.used j hj.2).2⟩
    simp only [Ctx.box]
    rw [if_neg hj.1]
    exact (hb.used j hj.2).1
  · intro b hy
    obtain ⟨h1, h2, h3, h4⟩ := hb.Y b hy
    refine ⟨by simp; omega, h2, fun j hj => ?_, h4⟩
    rcases hnew j b hj with ⟨rfl, rfl⟩ | ⟨_, hj2⟩
    · omega
    · exact h3 j hj2
theorem Base.box {E : Env} {U : List Nat} {c : Ctx} {a : Act} {w : World} (hb : Base E U c a w) {k : Nat} (hk9 : k ∉ E.fs) (hk : k ∉ U) (vs : Array Value) (T : TypeId) :
    Base E ([k] ++ U) (c.box k w.heap.size) a (w.alloc (.cells vs T)) ∧ Ext c (c.box k w.heap.size) ∧ (c.box k w.heap.size).loc k = some w.heap.size ∧ (w.alloc (.cells vs T)).heap[w.heap.size]? = some (.cells vs T (0, 0)) ∧
      ∀ key y, ¬ key < 1000 → Holds c a w key y → Holds (c.box k w.heap.size) a (w.alloc (.cells vs T)) key y := hb.boxO hk9 hk _

structure ZeI (P : Program) (T : TypeId) (zx : List X) : Prop where
  ex : ∃ z : Value, (∀ w, (zeroValue T).run P w = .ok z w) ∧ z.cells.toList.map litX = zx ∧ z.cells.toList.all litOk = true
theorem Holds.mkBox {c : Ctx} {a : Act} {w : World} {k b : Nat} {T : TypeId} {vs : Array Value} {us : List X} (hk : k < 1000) (h1 : c.loc k = some b) (h2 : w.heap[b]? = some (.cells vs T (0, 0))) (h3 : All2 (RepC c) us vs.toList) :
    ¬ (1000 + k < 1000) ∧ Holds c a w (1000 + k) (.box us) := by
  refine ⟨by omega, ?_⟩
  unfold Holds
  rw [if_neg (by omega), if_pos (by omega), Nat.add_sub_cancel_left]
  exact .inr ⟨b, _, h1, h2, T, vs, rfl, h3⟩

section
variable {E : Env} {all : Array Oper} {s r r1 r2 r3 rg : St} {d ty : Nat} {pos : String} {after : Array Edge} {guard : Option (Nat × Bool)} {x y z : Operand}
theorem S.alloc {T k : Nat} {zx : List X} (hz : ZeI E.P T zx) (hk : Nat.blt k 1000 = true) (hg : Gd all s guard rg) (hd : (Nat.blt d 1000 && Nat.blt d E.nt) = true) (hk9 : E.fs.contains k = false := by rfl) :
    St1 E all ⟨some d, .alloc T, ty, pos, after, guard⟩ s (rg ++ []) ((d, .ptr k 0) :: [(1000 + k, .box zx)]) [k] :=
  St1.mk hg hd rfl trivial fun U c a w hb _ hal => by
    rw [Nat.blt_eq] at hk
    obtain ⟨zv, h1, h2, h3⟩ := hz.ex
    have hkU : k ∉ U := hal k (by simp)
    obtain ⟨g1, g2, g3, g4, g5⟩ := hb.box (nfs hk9) hkU zv.cells T
    refine ⟨.pointer (some ⟨w.heap.size, 0, none⟩), _, w.alloc (.cells zv.cells T), ?_, g1, g2, ⟨w.heap.size, g3, rfl⟩, ?_, ?_⟩
    · simp [execOp, Instr.alloc, h1, newVar, newRow]
    · intro p hp
      simp only [List.mem_singleton] at hp
      subst hp
      exact Holds.mkBox (by omega) g3 g4 (h2 ▸ lits_rep h3)
    · intro key u hkey _ hu
      exact g5 key u hkey hu
theorem S.box {T k : Nat} {u : X} (hk : Nat.blt k 1000 = true) (hg : Gd all s guard rg) (hd : (Nat.blt d 1000 && Nat.blt d E.nt) = true) (hx : OpS s x u r) (hu : okSt u = true) (hk9 : E.fs.contains k = false := by rfl) :
    St1 E all ⟨some d, .box T x, ty, pos, after, guard⟩ s (rg ++ r) ((d, .ptr k 0) :: [(1000 + k, .box (cellsX u))]) [k] :=
  St1.mk hg hd rfl hx.looks fun U c a w hb hr hal => by
    rw [Nat.blt_eq] at hk
    have hkU : k ∉ U := hal k (by simp)
    have hv := (cells_of (hx.rep (c := c) (a := a) (w := w) hr) hu).1
    obtain ⟨g1, g2, g3, g4, g5⟩ := hb.box (nfs hk9) hkU (a.eval x).cells T
    refine ⟨.pointer (some ⟨w.heap.size, 0, none⟩), _, w.alloc (.cells (a.eval x).cells T), ?_, g1, g2, ⟨w.heap.size, g3, rfl⟩, ?_, ?_⟩
    · simp [execOp, Instr.box, newVar, newRow]
    · intro p hp
      simp only [List.mem_singleton] at hp
      subst hp
      exact Holds.mkBox (by omega) g3 g4 (hv.mono fun _ _ => RepC.mono g2)
    · intro key u hkey _ hu
      exact g5 key u hkey hu

/-! ### a store into a box -/
theorem St1.eff {wr : St} {op : Op} (hg : Gd all s guard rg) (hdef : isDefer op = false) (hl : Looks s r)
    (h : ∀ (U : List Nat) (c : Ctx) (a : Act) (w : World), Base E U c a w → (∀ p ∈ r, Holds c a w p.1 p.2) → ∃ w', (execOp a.eval ⟨none, op, ty, pos, after, guard⟩).run E.P w = .ok .skip w' ∧ Base E U c a w' ∧
      (∀ p ∈ wr, ¬ p.1 < 1000 ∧ Holds c a w' p.1 p.2) ∧ (∀ key y, ¬ key < 1000 → (∀ p ∈ wr, p.1 ≠ key) → Holds c a w key y → Holds c a w' key y)) : St1 E all ⟨none, op, ty, pos, after, guard⟩ s (rg ++ r) wr [] := by
  refine ⟨?_, hg.looks.app hl⟩
  intro U c a w hb hr hal next Q hn
  obtain ⟨w', hrun, hb', hwr, hfr⟩ := h U c a w hb (fun p hp => hr p (List.mem_append_right _ hp))
  have hw := hg.wanted (o := ⟨none, op, ty, pos, after, guard⟩) (fun p hp => hr p (List.mem_append_left _ hp))
  unfold opIn
  rw [if_pos hw]
  refine ⟨fun _ _ => trivial, ?_⟩
  rw [Oper.semAt_eq _ _ _ (fun cl he => by simp only at he; rw [he] at hdef; cases hdef), hrun]
  refine hn c a w' hb' (Ext.refl c) (fun p hp => (hwr p hp).2) fun key y hk hy => ?_
  by_cases h1 : key < 1000
  · unfold Holds at hy ⊢; rw [if_pos h1] at hy ⊢; exact hy
  · exact hfr key y h1 hk hy
theorem S.store {T n k off : Nat} {ag : Bool} {u : X} {us us' : List X} (ht : TyI E.P T ag n) (hg : Gd all s guard rg) (hx : OpS s x (.ptr k off) r1) (hy : OpS s y u r2) (hk : Nat.blt k 1000 = true) (hb : look s (1000 + k) = some (.box us))
    (hu : okSt u = true) (hn : (cellsX u).length = n) (hfit : Nat.ble (off + n) us.length = true) (hus : us.take off ++ (cellsX u ++ us.drop (off + n)) = us') :
    St1 E all ⟨none, .store T x y, ty, pos, after, guard⟩ s (rg ++ (r1 ++ (r2 ++ [(1000 + k, .box us)]))) [(1000 + k, .box us')] [] :=
  St1.eff hg rfl (hx.looks.app (hy.looks.app ⟨hb, trivial⟩)) fun U c a w hbase hr => by
    rw [Nat.blt_eq] at hk
    rw [Nat.ble_eq] at hfit
    subst hus
    obtain ⟨b, h1, hv⟩ := ptr_of (hx.rep (c := c) (a := a) (w := w) fun p hp => hr p (by simp [hp]))
    obtain ⟨b', T', vs, h2, h3, h4⟩ := box_of (hr (1000 + k, .box us) (by simp)) hk
    rw [h1] at h2; cases h2
    obtain ⟨hc, ho⟩ := cells_of (hy.rep (c := c) (a := a) (w := w) fun p hp => hr p (by simp [hp])) hu
    have hl := h4.length
    have hcl := hc.length
    have hvl : vs.toList.length = vs.size := by simp
    have hcs : (a.eval y).cells.size = n := by rw [← hn, hcl]; simp
    have hst := run_storeCells_at E.P b off T' (a.eval y).cells.toList 0 vs w h3 (by simp; omega) ho
    simp only [Nat.add_zero] at hst
    obtain ⟨q1, q2, q3, q4, q5⟩ := hbase.loc k b h1
    have hw2 : ∀ p v, c.h p = some v → (w.setRow b (vs.toList.take off ++ (a.eval y).cells.toList ++ vs.toList.drop (off + (a.eval y).cells.toList.length)).toArray).cell? p = some v := by
      intro p v hp
      have hne : p.block ≠ b := fun e => by
        have h5 := hbase.hw p v hp
        have hsp : p.spot = none := by
          cases hsp : p.spot with
          | none => rfl
          | some q => simp only [World.cell?, hsp] at h5; split at h5 <;> simp at h5
        have h6 := q3 p.off
        have : p = ⟨b, p.off, none⟩ := by cases p; simp at e hsp; subst e hsp; rfl
        rw [← this, hp] at h6; cases h6
      rw [cell_setRow_other w b _ p hne]; exact hbase.hw p v hp
    have hkeep : ∀ (D : Nat) (o : Obj), w.heap[D]? = some o → o.isCells = false → (w.setRow b (vs.toList.take off ++ (a.eval y).cells.toList ++ vs.toList.drop (off + (a.eval y).cells.toList.length)).toArray).heap[D]? = some o := fun D o hD ho => by
      rw [setRow_other w b D _ (fun e => by rw [e, h3] at hD; cases hD; cases ho)]; exact hD
    refine ⟨w.setRow b (vs.toList.take off ++ (a.eval y).cells.toList ++ vs.toList.drop (off + (a.eval y).cells.toList.length)).toArray, ?_, ⟨?_, by simpa using hbase.hB, hbase.nt, dfr_of hbase (fun _ _ h => h) hkeep, pin_of hbase (fun _ _ h => h) hkeep, hw2, hbase.hle, hbase.hnew, ?_, ?_, hbase.used, fun b2 hy => by simpa using hbase.Y b2 hy, hbase.loc0, hbase.arr0⟩, ?_, ?_⟩
    · simp [execOp, hv, Instr.storeAt, Instr.sureAddr, storeVar, ht.size, hcs, hst]
    · exact hbase.below.trans ⟨rfl, rfl, rfl, by simp, fun j hj hx => setRow_other w b j _ (Env.ok_turn q1 hj hx)⟩
    · intro j b2 hj
      obtain ⟨p1, p2, p3⟩ := hbase.loc j b2 hj
      exact ⟨p1, by simpa using p2, p3⟩
    · intro j m hv b2 hj hb2
      obtain ⟨p1, p2, p3⟩ := hbase.arr j m hv b2 hj hb2
      exact ⟨p1, by simpa using p2, p3⟩
    · intro p hp
      simp only [List.mem_singleton] at hp
      subst hp
      refine Holds.mkBox hk h1 (setRow_heap w b vs _ T' _ h3) ?_
      have hnn : (a.eval y).cells.toList.length = n := by rw [← hcl, hn]
      rw [hnn]
      simp only [List.append_assoc]
      exact (h4.take off).append (hc.append (h4.drop (off + n)))
    · intro key u2 hkey hne hu2
      have hne2 : key ≠ 1000 + k := fun e => hne _ (List.mem_singleton.2 rfl) e.symm
      unfold Holds at hu2 ⊢
      rw [if_neg hkey] at hu2 ⊢
      refine or_snd hu2 fun hu2 => ?_
      split at hu2
      · rename_i hlt
        rw [if_pos hlt]
        obtain ⟨b2, o2, e1, e2, e3⟩ := hu2
        refine ⟨b2, o2, e1, ?_, e3⟩
        have : b2 ≠ b := fun e => by subst e; have := q4 _ e1; omega
        rw [setRow_other w b b2 _ this]; exact e2
      · rename_i hlt
        rw [if_neg hlt]
        split at hu2
        · rename_i hlt2
          rw [if_pos hlt2]
          obtain ⟨sz, rows, hv2, e, vs2, hx, e1, e2, e3⟩ := hu2
          refine ⟨sz, rows, hv2, e, vs2, hx, e1, ⟨e2.1, e2.2.imp id ?_⟩, e3⟩
          rintro ⟨g, cap, cur, f1, f2, f3, f4⟩
          refine ⟨g, cap, cur, f1, f2, ?_, f4⟩
          have : g ≠ b := fun e => q5 _ _ _ e1 (by rw [f1, ← e]; rfl)
          rw [setRow_other w b g _ this]; exact f3
        · rename_i hlt2
          rw [if_neg hlt2]
          obtain ⟨hk0, J, hx0, hJ, hJ2⟩ := hu2
          refine ⟨hk0, J, hx0, hJ, hJ _ _ _ _ _ hJ2 (Mem.le_refl _) (fun _ _ e => .inl e) hw2 ⟨rfl, rfl, rfl, by simp, fun j hj => by omega⟩ fun b2 hy => setRow_other w b b2 _ fun e => ?_⟩
          subst e
          exact (hbase.Y _ hy).2.2.1 k h1
end
end Go.Ab
