/-
  Abstract states: slices of mapped lists, strings, calls that are lent the activation's own memory.
-/
import Derived.Test.YtjamlnkjfkcdkaaGreatDoorFj
import Derived.Lib.Strings
namespace Go.Ab
open Go.RowKit

structure StrI (P : Program) (t : Nat) : Prop where
  und : P.underlying t = some .string
section
variable {E : Env} {all : Array Oper} {s r r1 r2 r3 rg : St} {d ty : Nat} {pos : String} {after : Array Edge} {guard : Option (Nat × Bool)} {x y z : Operand}
theorem S.notD {t : Nat} {p : Prop} [Decidable p] (hg : Gd all s guard rg) (hd : (Nat.blt d 1000 && Nat.blt d E.nt) = true) (hx : OpS s x (.bool (decide p)) r) :
    St1 E all ⟨some d, .unOp .not t x, ty, pos, after, guard⟩ s (rg ++ r) [(d, .bool (decide (¬ p)))] [] := by
  have h : (!decide p) = decide (¬ p) := by by_cases h : p <;> simp [h]
  rw [← h]; exact S.not hg hd hx
theorem S.lenM {α : Type} {t e sz : Nat} {l : List α} {f : α → List X} (hs : SlI E.P t e sz) (hg : Gd all s guard rg) (hd : (Nat.blt d 1000 && Nat.blt d E.nt) = true) (hx : OpS s x (.sl (l.map f)) r) :
    St1 E all ⟨some d, .call { callee := .builtin .len, args := #[x], argTypes := #[t] }, ty, pos, after, guard⟩ s (rg ++ r) [(d, .int .i64 l.length)] [] := by
  have := S.len (ty := ty) (pos := pos) (after := after) hs hg hd hx
  rwa [List.length_map] at this
theorem S.indexM {α : Type} {t e sz n : Nat} {l : List α} {f : α → List X} {i : Int} (hs : SlI E.P t e sz) (hg : Gd all s guard rg) (hd : (Nat.blt d 1000 && Nat.blt d E.nt) = true) (hx : OpS s x (.sl (l.map f)) r1) (hy : OpS s y (.int .i64 i) r2)
    (hi : i = n) (hn : n < l.length) (hsz : (f l[n]).length = sz) : St1 E all ⟨some d, .indexAddr t x y, ty, pos, after, guard⟩ s (rg ++ (r1 ++ r2)) [(d, .eptr (f l[n]))] [] :=
  S.index (row := f l[n]) hs hg hd hx hy (by omega) (by subst hi; simp [hn]) hsz
/-- The same of data that is not known to be of that form: the row by its index. -/
theorem sl_slice {c : Ctx} {rows : List (List X)} {a : Option Addr} {cap lo hi sz : Nat} (h : RepD c.h (.sl rows) (.slice a rows.length cap)) (hsz : ∀ q ∈ rows, q.length = sz) (h1 : lo ≤ hi) (h2 : hi ≤ rows.length) :
    RepD c.h (.sl ((rows.take hi).drop lo)) (.slice (if cap = lo then a else a.map (·.add (lo * sz))) (hi - lo) (cap - lo)) := by
  have hl : ((rows.take hi).drop lo).length = hi - lo := by simp; omega
  generalize hrr : (rows.take hi).drop lo = rr at hl ⊢
  by_cases h0 : hi - lo = 0
  · have : rr = [] := List.eq_nil_of_length_eq_zero (by omega)
    subst this
    rw [h0]
    obtain ⟨a', cap', hv, hle, hm, _⟩ := sl_of (c := c) (RepD.toT h)
    cases hv
    exact .sl0 _ _ (by omega)
  · obtain ⟨a', cap', hv, hle, hm, hc⟩ := sl_of (c := c) (RepD.toT h)
    cases hv
    rcases hc with rfl | ⟨b, off, sz', vs, rfl, h3, h4, h5, h6⟩
    · simp at h2; omega
    · have hne : rows ≠ [] := fun e => by subst e; simp at h2; omega
      obtain ⟨q, qs, hq⟩ := List.exists_cons_of_ne_nil hne
      have hss : sz' = sz := by rw [← h3 q (by rw [hq]; simp), hsz q (by rw [hq]; simp)]
      subst hss
      rw [if_neg (by omega), ← hl]
      have hfl := flatten_length h3
      have hrl : rr.length * sz' = hi * sz' - lo * sz' := by rw [hl, Nat.sub_mul]
      have hat : rr.flatten = (rows.flatten.drop (lo * sz')).take (rr.length * sz') := by
        subst hrr
        have key : ∀ (rows : List (List X)) (n : Nat), (∀ q ∈ rows, q.length = sz') → (rows.take n).flatten = rows.flatten.take (n * sz') ∧ (rows.drop n).flatten = rows.flatten.drop (n * sz') := by
          intro rows
          induction rows with
          | nil => intro n _; simp
          | cons r rows ih =>
            intro n hr
            cases n with
            | zero => simp
            | succ n =>
              obtain ⟨i1, i2⟩ := ih n fun q hq => hr q (List.mem_cons_of_mem _ hq)
              have hrl := hr r List.mem_cons_self
              have hm : (n + 1) * sz' = r.length + n * sz' := by rw [Nat.add_mul, Nat.one_mul, hrl]; omega
              constructor
              · rw [List.take_succ_cons, List.flatten_cons, i1, List.flatten_cons, hm, List.take_append, Nat.add_sub_cancel_left, List.take_of_length_le (show r.length ≤ r.length + n * sz' by omega)]
              · rw [List.drop_succ_cons, i2, List.flatten_cons, hm, List.drop_append, Nat.add_sub_cancel_left, List.drop_of_length_le (show r.length ≤ r.length + n * sz' by omega), List.nil_append]
        have ht := (key rows hi h3).1
        rw [(key (rows.take hi) lo fun q hq => h3 q (List.mem_of_mem_take hq)).2, ht, List.drop_take]
        congr 1
        simp only [List.length_drop, List.length_take, Nat.min_eq_left h2, Nat.sub_mul]
      have hbound : lo * sz' + rr.length * sz' ≤ vs.length := by
        rw [← h4, hfl, hl, ← Nat.add_mul]; exact Nat.mul_le_mul_right _ (by omega)
      have e1 : ((⟨b, off, none⟩ : Addr).add (lo * sz')) = ⟨b, off + lo * sz', none⟩ := add_off b off (lo * sz')
      simp only [Option.map_some, e1]
      refine .sl rr b (off + lo * sz') (cap - lo) sz' ((vs.drop (lo * sz')).take (rr.length * sz')) (by omega) (by omega) ?_ ?_ ?_ ?_
      · intro q hq; subst hrr; exact h3 q (List.mem_of_mem_take (List.mem_of_mem_drop hq))
      · rw [hat, List.length_take, List.length_drop, List.length_take, List.length_drop, h4]
      · intro i v hv
        rw [List.getElem?_take] at hv
        split at hv
        · rw [List.getElem?_drop] at hv; rw [Nat.add_assoc]; exact h5 _ _ hv
        · cases hv
      · intro i u v hu hv
        rw [hat, List.getElem?_take] at hu
        rw [List.getElem?_take] at hv
        split at hu
        · rename_i hlt
          rw [if_pos hlt, List.getElem?_drop] at hv
          rw [List.getElem?_drop] at hu
          exact h6 _ _ _ hu hv
        · cases hu
/-- 'l[lo:hi]' -/
theorem S.slice {α : Type} {t e sz lo hi : Nat} {l l' : List α} {f : α → List X} {il ih : Option Operand} (hs : SlI E.P t e sz) (hf : ∀ a, (f a).length = sz) (hg : Gd all s guard rg) (hd : (Nat.blt d 1000 && Nat.blt d E.nt) = true) (hx : OpS s x (.sl (l.map f)) r1)
    (h1 : (il = none ∧ lo = 0 ∧ r2 = []) ∨ ∃ o i, il = some o ∧ OpS s o (.int .i64 i) r2 ∧ i = lo) (h2 : (ih = none ∧ hi = l.length ∧ r3 = []) ∨ ∃ o i, ih = some o ∧ OpS s o (.int .i64 i) r3 ∧ i = hi) (hle : lo ≤ hi) (hle2 : hi ≤ l.length) (hl' : (l.take hi).drop lo = l') :
    St1 E all ⟨some d, .slice t x il ih none, ty, pos, after, guard⟩ s (rg ++ (r1 ++ (r2 ++ r3))) [(d, .sl (l'.map f))] [] := by
  have k1 : Looks s r2 := by rcases h1 with ⟨_, _, rfl⟩ | ⟨_, _, _, h, _⟩; trivial; exact h.looks
  have k2 : Looks s r3 := by rcases h2 with ⟨_, _, rfl⟩ | ⟨_, _, _, h, _⟩; trivial; exact h.looks
  subst hl'
  refine St1.val hg hd rfl (hx.looks.app (k1.app k2)) fun c A w hh hr => ?_
  have hrep := hx.rep (c := c) (a := A) (w := w) fun p hp => hr p (by simp [hp])
  obtain ⟨a, cap, hv, p1, p2, _⟩ := sl_of hrep
  rw [hv] at hrep
  have hD : RepD c.h (.sl (l.map f)) (.slice a (l.map f).length cap) := hrep
  have hsl := sl_slice (lo := lo) (hi := hi) hD (fun q hq => by obtain ⟨a, _, rfl⟩ := List.mem_map.1 hq; exact hf a) hle (by simpa using hle2)
  rw [List.map_drop, List.map_take]
  refine ⟨_, ?_, RepD.toT hsl⟩
  rw [List.length_map] at p1 hv
  have hcap : hi ≤ cap := by omega
  have kl : ∀ o i, OpS s o (.int .i64 i) r2 → A.eval o = .int .i64 i := fun o i h => (int_of (h.rep (c := c) (a := A) (w := w) fun p hp => hr p (by simp [hp]))).1
  have kh : ∀ o i, OpS s o (.int .i64 i) r3 → A.eval o = .int .i64 i := fun o i h => (int_of (h.rep (c := c) (a := A) (w := w) fun p hp => hr p (by simp [hp]))).1
  rcases h1 with ⟨rfl, rfl, rfl⟩ | ⟨ol, il, rfl, e1, rfl⟩ <;> rcases h2 with ⟨rfl, rfl, rfl⟩ | ⟨oh, ih, rfl, e2, rfl⟩
  · simp [execOp, hv, Instr.sliceAt, Instr.slice, run_underlying hs.und, Instr.sliceBounds, hs.size]
  · simp [execOp, hv, kh _ _ e2, Instr.sliceAt, Instr.slice, run_underlying hs.und, Instr.sliceBounds, Instr.sliceBound, asIntOf, hs.size, hcap]
  · have hlo2 : lo ≤ l.length := hle
    simp [execOp, hv, kl _ _ e1, Instr.sliceAt, Instr.slice, run_underlying hs.und, Instr.sliceBounds, Instr.sliceBound, asIntOf, hs.size, hlo2]
  · simp [execOp, hv, kl _ _ e1, kh _ _ e2, Instr.sliceAt, Instr.slice, run_underlying hs.und, Instr.sliceBounds, Instr.sliceBound, asIntOf, hs.size, hcap, hle]

/-! ### strings -/
theorem S.seql {t t2 : Nat} {l l' : List UInt8} (hg : Gd all s guard rg) (hd : (Nat.blt d 1000 && Nat.blt d E.nt) = true) (hx : OpS s x (.str l) r1) (hy : OpS s y (.str l') r2) :
    St1 E all ⟨some d, .binOp .eql t x y t2, ty, pos, after, guard⟩ s (rg ++ (r1 ++ r2)) [(d, .bool (decide (l = l')))] [] :=
  St1.val hg hd rfl (hx.looks.app hy.looks) fun c A w _ hr => by
    have h1 := (str_of (hx.rep (c := c) (a := A) (w := w) fun p hp => hr p (by simp [hp]))).1
    have h2 := (str_of (hy.rep (c := c) (a := A) (w := w) fun p hp => hr p (by simp [hp]))).1
    refine ⟨.bool (decide (l = l')), ?_, RepD.toT (.bool _)⟩
    by_cases h : l = l' <;> simp [execOp, h1, h2, eqGuard, binOp, Op.stringOp, Lib.toList_data, h]
theorem S.sneq {t t2 : Nat} {l l' : List UInt8} (hg : Gd all s guard rg) (hd : (Nat.blt d 1000 && Nat.blt d E.nt) = true) (hx : OpS s x (.str l) r1) (hy : OpS s y (.str l') r2) :
    St1 E all ⟨some d, .binOp .neq t x y t2, ty, pos, after, guard⟩ s (rg ++ (r1 ++ r2)) [(d, .bool (decide (l ≠ l')))] [] :=
  St1.val hg hd rfl (hx.looks.app hy.looks) fun c A w _ hr => by
    have h1 := (str_of (hx.rep (c := c) (a := A) (w := w) fun p hp => hr p (by simp [hp]))).1
    have h2 := (str_of (hy.rep (c := c) (a := A) (w := w) fun p hp => hr p (by simp [hp]))).1
    refine ⟨.bool (decide (l ≠ l')), ?_, RepD.toT (.bool _)⟩
    by_cases h : l = l' <;> simp [execOp, h1, h2, eqGuard, binOp, Op.stringOp, Lib.toList_data, h]
theorem S.beql {t t2 : Nat} {p q : Bool} (ht : E.P.underlying t = some .bool) (hg : Gd all s guard rg) (hd : (Nat.blt d 1000 && Nat.blt d E.nt) = true) (hx : OpS s x (.bool p) r1) (hy : OpS s y (.bool q) r2) :
    St1 E all ⟨some d, .binOp .eql t x y t2, ty, pos, after, guard⟩ s (rg ++ (r1 ++ r2)) [(d, .bool (decide (p = q)))] [] :=
  St1.val hg hd rfl (hx.looks.app hy.looks) fun c A w _ hr => by
    have h1 := bool_of (hx.rep (c := c) (a := A) (w := w) fun p hp => hr p (by simp [hp]))
    have h2 := bool_of (hy.rep (c := c) (a := A) (w := w) fun p hp => hr p (by simp [hp]))
    refine ⟨.bool (decide (p = q)), ?_, RepD.toT (.bool _)⟩
    have := run_eql_bool (P := E.P) (w := w) t p q ht
    simp only [execOp, h1, h2, eqGuard, Sem.run_bind]
    simp [this]
    cases p <;> cases q <;> rfl
theorem S.bneq {t t2 : Nat} {p q : Bool} (ht : E.P.underlying t = some .bool) (hg : Gd all s guard rg) (hd : (Nat.blt d 1000 && Nat.blt d E.nt) = true) (hx : OpS s x (.bool p) r1) (hy : OpS s y (.bool q) r2) :
    St1 E all ⟨some d, .binOp .neq t x y t2, ty, pos, after, guard⟩ s (rg ++ (r1 ++ r2)) [(d, .bool (decide (p ≠ q)))] [] :=
  St1.val hg hd rfl (hx.looks.app hy.looks) fun c A w _ hr => by
    have h1 := bool_of (hx.rep (c := c) (a := A) (w := w) fun p hp => hr p (by simp [hp]))
    have h2 := bool_of (hy.rep (c := c) (a := A) (w := w) fun p hp => hr p (by simp [hp]))
    refine ⟨.bool (decide (p ≠ q)), ?_, RepD.toT (.bool _)⟩
    have := run_neq_bool (P := E.P) (w := w) t p q ht
    simp only [execOp, h1, h2, eqGuard, Sem.run_bind]
    simp [this]
    cases p <;> cases q <;> rfl
theorem S.stridx {t n : Nat} {l : List UInt8} {i : Int} (ht : StrI E.P t) (hg : Gd all s guard rg) (hd : (Nat.blt d 1000 && Nat.blt d E.nt) = true) (hx : OpS s x (.str l) r1) (hy : OpS s y (.int .i64 i) r2) (hi : i = n) (hn : n < l.length) :
    St1 E all ⟨some d, .index t x y, ty, pos, after, guard⟩ s (rg ++ (r1 ++ r2)) [(d, .int .u8 (l[n].toNat : Int))] [] :=
  St1.val hg hd rfl (hx.looks.app hy.looks) fun c A w _ hr => by
    have h1 := (str_of (hx.rep (c := c) (a := A) (w := w) fun p hp => hr p (by simp [hp]))).1
    have h2 := (int_of (hy.rep (c := c) (a := A) (w := w) fun p hp => hr p (by simp [hp]))).1
    subst hi
    refine ⟨.int .u8 (l[n].toNat : Int), ?_, RepD.toT (.int ?_)⟩
    · have hsz : (⟨l.toArray⟩ : ByteArray).size = l.length := by show l.toArray.size = _; simp
      have hg : (⟨l.toArray⟩ : ByteArray)[n]? = some l[n] := by
        rw [getElem?_pos _ _ (by rw [hsz]; exact hn)]
        rfl
      simp [execOp, h1, h2, Instr.index, asIntOf, run_underlying ht.und, hg]
    · have := l[n].toNat_lt
      exact IntWalk.u8_in _ ⟨by omega, by omega⟩
end
end Go.Ab
