/-
  Abstract states: the operations that only compute or read.
-/
import Derived.Test.YtjamlnkjfkcdkaaGreatDoorFd
namespace Go.Ab
open Go.RowKit

structure TyI (P : Program) (T : TypeId) (agg : Bool) (sz : Nat) : Prop where
  agg : ∀ w, (isAgg T).run P w = .ok agg w
  size : ∀ w, (sizeOf T).run P w = .ok sz w
structure FiI (P : Program) (T f off : Nat) : Prop where
  ex : ∃ fields fl n, P.underlying T = some (.struct fields) ∧ fields[f]? = some fl ∧ fl.offset = off ∧ n ≠ 0 ∧ ∀ w, (sizeOf fl.type).run P w = .ok n w
structure SlI (P : Program) (t e sz : Nat) : Prop where
  und : P.underlying t = some (.slice e)
  size : ∀ w, (sizeOf e).run P w = .ok sz w

def isTup : X → Bool
  | .tup _ => true
  | _ => false
def isAT : X → Bool
  | .tup _ | .agg _ => true
  | _ => false
def notCell : X → Bool
  | .tup _ | .agg _ | .fn _ _ => true
  | _ => false
theorem int_of {c : Ctx} {k : IntKind} {n : Int} {v : Value} (h : RepT c (.int k n) v) : v = .int k n ∧ k.wrap n = n := by cases h; exact ⟨rfl, ‹_›⟩
theorem bool_of {c : Ctx} {b : Bool} {v : Value} (h : RepT c (.bool b) v) : v = .bool b := by cases h; rfl
theorem str_of {c : Ctx} {l : List UInt8} {v : Value} (h : RepT c (.str l) v) : v = .string ⟨l.toArray⟩ ∧ l.length ≤ maxLen := by cases h; exact ⟨rfl, ‹_›⟩

section
variable {E : Env} {all : Array Oper} {s r r1 r2 r3 rg : St} {d ty : Nat} {pos : String} {after : Array Edge} {guard : Option (Nat × Bool)} {x y z : Operand} {k : IntKind} {m n : Int} {a b : Bool}

theorem S.move {u : X} (hg : Gd all s guard rg) (hd : (Nat.blt d 1000 && Nat.blt d E.nt) = true) (hx : OpS s x u r) : St1 E all ⟨some d, .move x, ty, pos, after, guard⟩ s (rg ++ r) [(d, u)] [] :=
  St1.val hg hd rfl hx.looks fun _ _ _ _ hr => ⟨_, rfl, hx.rep hr⟩
theorem S.assign {u : X} (hg : Gd all s guard rg) (hd : (Nat.blt d 1000 && Nat.blt d E.nt) = true) (hx : OpS s x u r) : St1 E all ⟨some d, .assign x, ty, pos, after, guard⟩ s (rg ++ r) [(d, u)] [] :=
  St1.val hg hd rfl hx.looks fun _ _ _ _ hr => ⟨_, rfl, hx.rep hr⟩
theorem look2 (h1 : Looks s r1) (h2 : Looks s r2) : Looks s (r1 ++ r2) := h1.app h2

theorem S.pick {p q : Bool} (hg : Gd all s guard rg) (hd : (Nat.blt d 1000 && Nat.blt d E.nt) = true) (hx : OpS s x (.bool a) r1) (hy : OpS s y (.bool p) r2) (hz : OpS s z (.bool q) r3) :
    St1 E all ⟨some d, .pick x y z, ty, pos, after, guard⟩ s (rg ++ (r1 ++ (r2 ++ r3))) [(d, .bool (bif a then p else q))] [] :=
  St1.val hg hd rfl (hx.looks.app (hy.looks.app hz.looks)) fun c A w _ hr => by
    have h1 := bool_of (hx.rep (c := c) (a := A) (w := w) fun p hp => hr p (by simp [hp]))
    have h2 := bool_of (hy.rep (c := c) (a := A) (w := w) fun p hp => hr p (by simp [hp]))
    have h3 := bool_of (hz.rep (c := c) (a := A) (w := w) fun p hp => hr p (by simp [hp]))
    refine ⟨.bool (bif a then p else q), ?_, RepD.toT (.bool _)⟩
    cases a <;> simp [execOp, h1, h2, h3, asBool]
/-- The condition is known. -/
theorem S.pickT {u : X} (hg : Gd all s guard rg) (hd : (Nat.blt d 1000 && Nat.blt d E.nt) = true) (hx : OpS s x (.bool a) r1) (hy : OpS s y u r2) (ha : a = true) :
    St1 E all ⟨some d, .pick x y z, ty, pos, after, guard⟩ s (rg ++ (r1 ++ r2)) [(d, u)] [] :=
  St1.val hg hd rfl (hx.looks.app hy.looks) fun c A w _ hr => by
    have h1 := bool_of (hx.rep (c := c) (a := A) (w := w) fun p hp => hr p (by simp [hp]))
    subst ha
    exact ⟨_, by simp [execOp, h1, asBool], hy.rep fun p hp => hr p (by simp [hp])⟩
theorem S.pickF {u : X} (hg : Gd all s guard rg) (hd : (Nat.blt d 1000 && Nat.blt d E.nt) = true) (hx : OpS s x (.bool a) r1) (hz : OpS s z u r2) (ha : a = false) :
    St1 E all ⟨some d, .pick x y z, ty, pos, after, guard⟩ s (rg ++ (r1 ++ r2)) [(d, u)] [] :=
  St1.val hg hd rfl (hx.looks.app hz.looks) fun c A w _ hr => by
    have h1 := bool_of (hx.rep (c := c) (a := A) (w := w) fun p hp => hr p (by simp [hp]))
    subst ha
    exact ⟨_, by simp [execOp, h1, asBool], hz.rep fun p hp => hr p (by simp [hp])⟩

/-- Two integers. -/
theorem S.int2 {op : BinOp} {t t2 : Nat} {u : X} {v : Value} (hg : Gd all s guard rg) (hd : (Nat.blt d 1000 && Nat.blt d E.nt) = true) (hx : OpS s x (.int k m) r1) (hy : OpS s y (.int k n) r2)
    (hrun : k.wrap m = m → k.wrap n = n → (∀ w, (binOp op t (.int k m) (.int k n)).run E.P w = .ok v w) ∧ ∀ c, RepT c u v) :
    St1 E all ⟨some d, .binOp op t x y t2, ty, pos, after, guard⟩ s (rg ++ (r1 ++ r2)) [(d, u)] [] :=
  St1.val hg hd rfl (hx.looks.app hy.looks) fun c A w _ hr => by
    obtain ⟨h1, e1⟩ := int_of (hx.rep (c := c) (a := A) (w := w) fun p hp => hr p (by simp [hp]))
    obtain ⟨h2, e2⟩ := int_of (hy.rep (c := c) (a := A) (w := w) fun p hp => hr p (by simp [hp]))
    obtain ⟨h3, h4⟩ := hrun e1 e2
    refine ⟨v, ?_, h4 c⟩
    have hq : (eqGuard op t x y (.int k m) (.int k n)).run E.P w = .ok () w := by cases op <;> simp [eqGuard]
    simp [execOp, h1, h2, hq, h3]
theorem S.add {t t2 : Nat} {q : Int} (hg : Gd all s guard rg) (hd : (Nat.blt d 1000 && Nat.blt d E.nt) = true) (hx : OpS s x (.int k m) r1) (hy : OpS s y (.int k n) r2) (hq : k.wrap (m + n) = q) (hq2 : k.wrap q = q) :
    St1 E all ⟨some d, .binOp .add t x y t2, ty, pos, after, guard⟩ s (rg ++ (r1 ++ r2)) [(d, .int k q)] [] :=
  S.int2 hg hd hx hy fun _ _ => ⟨fun w => by simp [binOp, Op.intArith, hq], fun _ => RepD.toT (.int hq2)⟩
theorem S.sub {t t2 : Nat} {q : Int} (hg : Gd all s guard rg) (hd : (Nat.blt d 1000 && Nat.blt d E.nt) = true) (hx : OpS s x (.int k m) r1) (hy : OpS s y (.int k n) r2) (hq : k.wrap (m - n) = q) (hq2 : k.wrap q = q) :
    St1 E all ⟨some d, .binOp .sub t x y t2, ty, pos, after, guard⟩ s (rg ++ (r1 ++ r2)) [(d, .int k q)] [] :=
  S.int2 hg hd hx hy fun _ _ => ⟨fun w => by simp [binOp, Op.intArith, hq], fun _ => RepD.toT (.int hq2)⟩
theorem S.mul {t t2 : Nat} {q : Int} (hg : Gd all s guard rg) (hd : (Nat.blt d 1000 && Nat.blt d E.nt) = true) (hx : OpS s x (.int k m) r1) (hy : OpS s y (.int k n) r2) (hq : k.wrap (m * n) = q) (hq2 : k.wrap q = q) :
    St1 E all ⟨some d, .binOp .mul t x y t2, ty, pos, after, guard⟩ s (rg ++ (r1 ++ r2)) [(d, .int k q)] [] :=
  S.int2 hg hd hx hy fun _ _ => ⟨fun w => by simp [binOp, Op.intArith, hq], fun _ => RepD.toT (.int hq2)⟩
theorem S.quo {t t2 : Nat} {q : Int} (hg : Gd all s guard rg) (hd : (Nat.blt d 1000 && Nat.blt d E.nt) = true) (hx : OpS s x (.int k m) r1) (hy : OpS s y (.int k n) r2) (h0 : n ≠ 0) (hq : k.wrap (m.tdiv n) = q) (hq2 : k.wrap q = q) :
    St1 E all ⟨some d, .binOp .quo t x y t2, ty, pos, after, guard⟩ s (rg ++ (r1 ++ r2)) [(d, .int k q)] [] :=
  S.int2 hg hd hx hy fun _ _ => ⟨fun w => by simp [binOp, Op.intDiv, h0, hq], fun _ => RepD.toT (.int hq2)⟩
theorem S.rem {t t2 : Nat} {q : Int} (hg : Gd all s guard rg) (hd : (Nat.blt d 1000 && Nat.blt d E.nt) = true) (hx : OpS s x (.int k m) r1) (hy : OpS s y (.int k n) r2) (h0 : n ≠ 0) (hq : m.tmod n = q) (hq2 : k.wrap q = q) :
    St1 E all ⟨some d, .binOp .rem t x y t2, ty, pos, after, guard⟩ s (rg ++ (r1 ++ r2)) [(d, .int k q)] [] :=
  S.int2 hg hd hx hy fun _ _ => ⟨fun w => by simp [binOp, Op.intDiv, h0, hq], fun _ => RepD.toT (.int hq2)⟩
theorem S.lss {t t2 : Nat} (hg : Gd all s guard rg) (hd : (Nat.blt d 1000 && Nat.blt d E.nt) = true) (hx : OpS s x (.int k m) r1) (hy : OpS s y (.int k n) r2) :
    St1 E all ⟨some d, .binOp .lss t x y t2, ty, pos, after, guard⟩ s (rg ++ (r1 ++ r2)) [(d, .bool (decide (m < n)))] [] :=
  S.int2 hg hd hx hy fun _ _ => ⟨fun w => by simp [binOp, Op.intCmp], fun _ => RepD.toT (.bool _)⟩
theorem S.leq {t t2 : Nat} (hg : Gd all s guard rg) (hd : (Nat.blt d 1000 && Nat.blt d E.nt) = true) (hx : OpS s x (.int k m) r1) (hy : OpS s y (.int k n) r2) :
    St1 E all ⟨some d, .binOp .leq t x y t2, ty, pos, after, guard⟩ s (rg ++ (r1 ++ r2)) [(d, .bool (decide (m ≤ n)))] [] :=
  S.int2 hg hd hx hy fun _ _ => ⟨fun w => by simp [binOp, Op.intCmp], fun _ => RepD.toT (.bool _)⟩
theorem S.gtr {t t2 : Nat} (hg : Gd all s guard rg) (hd : (Nat.blt d 1000 && Nat.blt d E.nt) = true) (hx : OpS s x (.int k m) r1) (hy : OpS s y (.int k n) r2) :
    St1 E all ⟨some d, .binOp .gtr t x y t2, ty, pos, after, guard⟩ s (rg ++ (r1 ++ r2)) [(d, .bool (decide (n < m)))] [] :=
  S.int2 hg hd hx hy fun _ _ => ⟨fun w => by simp [binOp, Op.intCmp], fun _ => RepD.toT (.bool _)⟩
theorem S.geq {t t2 : Nat} (hg : Gd all s guard rg) (hd : (Nat.blt d 1000 && Nat.blt d E.nt) = true) (hx : OpS s x (.int k m) r1) (hy : OpS s y (.int k n) r2) :
    St1 E all ⟨some d, .binOp .geq t x y t2, ty, pos, after, guard⟩ s (rg ++ (r1 ++ r2)) [(d, .bool (decide (n ≤ m)))] [] :=
  S.int2 hg hd hx hy fun _ _ => ⟨fun w => by simp [binOp, Op.intCmp], fun _ => RepD.toT (.bool _)⟩
theorem S.eql {t t2 : Nat} (hg : Gd all s guard rg) (hd : (Nat.blt d 1000 && Nat.blt d E.nt) = true) (hx : OpS s x (.int k m) r1) (hy : OpS s y (.int k n) r2) :
    St1 E all ⟨some d, .binOp .eql t x y t2, ty, pos, after, guard⟩ s (rg ++ (r1 ++ r2)) [(d, .bool (decide (m = n)))] [] :=
  S.int2 hg hd hx hy fun _ _ => ⟨fun w => by simp [binOp, Op.intCmp]; by_cases h : m = n <;> simp [h], fun _ => RepD.toT (.bool _)⟩
theorem S.neq {t t2 : Nat} (hg : Gd all s guard rg) (hd : (Nat.blt d 1000 && Nat.blt d E.nt) = true) (hx : OpS s x (.int k m) r1) (hy : OpS s y (.int k n) r2) :
    St1 E all ⟨some d, .binOp .neq t x y t2, ty, pos, after, guard⟩ s (rg ++ (r1 ++ r2)) [(d, .bool (decide (m ≠ n)))] [] :=
  S.int2 hg hd hx hy fun _ _ => ⟨fun w => by simp [binOp, Op.intCmp]; by_cases h : m = n <;> simp [h], fun _ => RepD.toT (.bool _)⟩
theorem S.not {t : Nat} (hg : Gd all s guard rg) (hd : (Nat.blt d 1000 && Nat.blt d E.nt) = true) (hx : OpS s x (.bool a) r) :
    St1 E all ⟨some d, .unOp .not t x, ty, pos, after, guard⟩ s (rg ++ r) [(d, .bool (!a))] [] :=
  St1.val hg hd rfl hx.looks fun c A w _ hr => ⟨.bool !a, by simp [execOp, bool_of (hx.rep (c := c) (a := A) (w := w) hr), Op.unary], RepD.toT (.bool _)⟩
theorem S.neg {t : Nat} {q : Int} (hg : Gd all s guard rg) (hd : (Nat.blt d 1000 && Nat.blt d E.nt) = true) (hx : OpS s x (.int k m) r) (hq : k.wrap (0 - m) = q) (hq2 : k.wrap q = q) :
    St1 E all ⟨some d, .unOp .neg t x, ty, pos, after, guard⟩ s (rg ++ r) [(d, .int k q)] [] :=
  St1.val hg hd rfl hx.looks fun c A w _ hr => ⟨.int k q, by simp only [execOp, (int_of (hx.rep (c := c) (a := A) (w := w) hr)).1, Op.unary, Op.intArith, hq]; rfl, RepD.toT (.int hq2)⟩
theorem S.conv {t t' : Nat} {k' : IntKind} {q : Int} {dsc : TypeDesc} (hg : Gd all s guard rg) (hd : (Nat.blt d 1000 && Nat.blt d E.nt) = true) (hx : OpS s x (.int k m) r)
    (h1 : E.P.underlying t = some dsc) (h2 : E.P.underlying t' = some (.int k')) (hq : k'.wrap m = q) (hq2 : k'.wrap q = q) :
    St1 E all ⟨some d, .convert t t' x, ty, pos, after, guard⟩ s (rg ++ r) [(d, .int k' q)] [] :=
  St1.val hg hd rfl hx.looks fun c A w _ hr => ⟨.int k' q, by
    simp only [execOp, (int_of (hx.rep (c := c) (a := A) (w := w) hr)).1, convert, Sem.run_bind, run_underlying h1, run_underlying h2, Result.andThen_ok, Conv.intToInt, hq]; rfl, RepD.toT (.int hq2)⟩
theorem S.max2 {t t1 t2 : Nat} (hg : Gd all s guard rg) (hd : (Nat.blt d 1000 && Nat.blt d E.nt) = true) (hx : OpS s x (.int k m) r1) (hy : OpS s y (.int k n) r2) :
    St1 E all ⟨some d, .call { callee := .builtin .max, args := #[x, y], argTypes := #[t1, t2] }, t, pos, after, guard⟩ s (rg ++ (r1 ++ r2)) [(d, .int k (if m < n then n else m))] [] :=
  St1.val hg hd rfl (hx.looks.app hy.looks) fun c A w _ hr => by
    obtain ⟨h1, e1⟩ := int_of (hx.rep (c := c) (a := A) (w := w) fun p hp => hr p (by simp [hp]))
    obtain ⟨h2, e2⟩ := int_of (hy.rep (c := c) (a := A) (w := w) fun p hp => hr p (by simp [hp]))
    refine ⟨.int k (if m < n then n else m), ?_, RepD.toT (.int (by split <;> assumption))⟩
    simp [execOp, resolve, invoke, builtin, h1, h2, Builtin.max_, Builtin.max2]
theorem S.min2 {t t1 t2 : Nat} (hg : Gd all s guard rg) (hd : (Nat.blt d 1000 && Nat.blt d E.nt) = true) (hx : OpS s x (.int k m) r1) (hy : OpS s y (.int k n) r2) :
    St1 E all ⟨some d, .call { callee := .builtin .min, args := #[x, y], argTypes := #[t1, t2] }, t, pos, after, guard⟩ s (rg ++ (r1 ++ r2)) [(d, .int k (if n < m then n else m))] [] :=
  St1.val hg hd rfl (hx.looks.app hy.looks) fun c A w _ hr => by
    obtain ⟨h1, e1⟩ := int_of (hx.rep (c := c) (a := A) (w := w) fun p hp => hr p (by simp [hp]))
    obtain ⟨h2, e2⟩ := int_of (hy.rep (c := c) (a := A) (w := w) fun p hp => hr p (by simp [hp]))
    refine ⟨.int k (if n < m then n else m), ?_, RepD.toT (.int (by split <;> assumption))⟩
    simp [execOp, resolve, invoke, builtin, h1, h2, Builtin.min_, Builtin.min2]
theorem S.extract {i : Nat} {xs : List X} {u : X} (hg : Gd all s guard rg) (hd : (Nat.blt d 1000 && Nat.blt d E.nt) = true) (hx : OpS s x (.tup xs) r) (hu : xs[i]? = some u) (hnt : isTup u = false) :
    St1 E all ⟨some d, .extract x i, ty, pos, after, guard⟩ s (rg ++ r) [(d, u)] [] :=
  St1.val hg hd rfl hx.looks fun c A w _ hr => by
    obtain ⟨vs, h1, h2⟩ := hx.rep (c := c) (a := A) (w := w) hr
    obtain ⟨v, hv, hvr⟩ := h2.get_right hu
    refine ⟨v, by simp [execOp, h1, Instr.extract, hv], ?_⟩
    cases u <;> first | exact hvr | cases hnt
theorem S.makeFunc {f : Nat} (hg : Gd all s guard rg) (hd : (Nat.blt d 1000 && Nat.blt d E.nt) = true) :
    St1 E all ⟨some d, .makeFunc (.func f) #[] #[], ty, pos, after, guard⟩ s (rg ++ []) [(d, .fn f [])] [] :=
  St1.val hg hd rfl trivial fun c A w _ hr => ⟨.func (.func f) #[] #[], by simp [execOp, Instr.makeFunc], [], rfl, trivial⟩
theorem capC {c : Ctx} {u : X} {v : Value} (h : RepT c u v) (hu : notCell u = false) : RepP c u v := by
  cases u <;> first | exact h | cases hu
theorem S.makeFunc1 {f : Nat} {u : X} (hg : Gd all s guard rg) (hd : (Nat.blt d 1000 && Nat.blt d E.nt) = true) (hx : OpS s x u r) (hu : notCell u = false) :
    St1 E all ⟨some d, .makeFunc (.func f) #[] #[x], ty, pos, after, guard⟩ s (rg ++ r) [(d, .fn f [u])] [] :=
  St1.val hg hd rfl hx.looks fun c A w _ hr => ⟨.func (.func f) #[] #[A.eval x], by simp [execOp, Instr.makeFunc], [A.eval x], rfl, capC (hx.rep hr) hu, trivial⟩
theorem S.makeFunc2 {f : Nat} {u u' : X} (hg : Gd all s guard rg) (hd : (Nat.blt d 1000 && Nat.blt d E.nt) = true) (hx : OpS s x u r1) (hy : OpS s y u' r2)
    (hu : notCell u = false) (hu' : notCell u' = false) :
    St1 E all ⟨some d, .makeFunc (.func f) #[] #[x, y], ty, pos, after, guard⟩ s (rg ++ (r1 ++ r2)) [(d, .fn f [u, u'])] [] :=
  St1.val hg hd rfl (hx.looks.app hy.looks) fun c A w _ hr => ⟨.func (.func f) #[] #[A.eval x, A.eval y], by simp [execOp, Instr.makeFunc], [A.eval x, A.eval y], rfl, capC (hx.rep fun p hp => hr p (by simp [hp])) hu, capC (hy.rep fun p hp => hr p (by simp [hp])) hu', trivial⟩

/-! ### memory, read -/
theorem add_off (b o n : Nat) : (⟨b, o, none⟩ : Addr).add n = ⟨b, o + n, none⟩ := by
  unfold Addr.add; split
  · rename_i h; subst h; rfl
  · rfl
theorem eptr_of {c : Ctx} {cells : List X} {v : Value} (h : RepT c (.eptr cells) v) : ∃ (b off : Nat) (vs : List Value), v = .pointer (some ⟨b, off, none⟩) ∧ cells.length = vs.length ∧ (∀ (i : Nat) (v : Value), vs[i]? = some v → c.h ⟨b, off + i, none⟩ = some v) ∧
    ∀ (i : Nat) (x : X) (v : Value), cells[i]? = some x → vs[i]? = some v → RepD c.h x v := by
  cases h with
  | eptr _ b off vs h1 h2 h3 => exact ⟨b, off, vs, rfl, h1, h2, h3⟩
theorem run_load1 {P : Program} {T : Nat} {sz : Nat} (ht : TyI P T false sz) {b o : Nat} {v : Value} {w : World} (h : w.cell? ⟨b, o, none⟩ = some v) : (Instr.loadAt T (.pointer (some ⟨b, o, none⟩))).run P w = .ok v w := by
  simp [Instr.loadAt, Instr.sureAddr, loadVar, ht.agg, run_load, h]
theorem run_loadN {P : Program} {T : Nat} {sz : Nat} (ht : TyI P T true sz) {b o : Nat} {vs : List Value} {w : World} (hl : vs.length = sz) (h : ∀ (i : Nat) (v : Value), vs[i]? = some v → w.cell? ⟨b, o + i, none⟩ = some v) :
    (Instr.loadAt T (.pointer (some ⟨b, o, none⟩))).run P w = .ok (.agg vs.toArray) w := by
  have := run_loadCells_list (P := P) (w := w) ⟨b, o, none⟩ vs fun j v hv => by rw [add_off]; exact h j v hv
  rw [hl] at this
  simp [Instr.loadAt, Instr.sureAddr, loadVar, ht.agg, ht.size, this]
theorem S.load1 {T : Nat} {u : X} {us : List X} {sz : Nat} (ht : TyI E.P T false sz) (hg : Gd all s guard rg) (hd : (Nat.blt d 1000 && Nat.blt d E.nt) = true) (hx : OpS s x (.eptr us) r) (hu : us[0]? = some u) :
    St1 E all ⟨some d, .load T x, ty, pos, after, guard⟩ s (rg ++ r) [(d, u)] [] :=
  St1.val hg hd rfl hx.looks fun c A w hh hr => by
    obtain ⟨b, off, vs, hv, hl, h1, h2⟩ := eptr_of (hx.rep (c := c) (a := A) (w := w) hr)
    have h0 : 0 < vs.length := by rw [← hl]; exact (List.getElem?_eq_some_iff.1 hu).1
    have hv0 : vs[0]? = some vs[0] := List.getElem?_eq_getElem h0
    refine ⟨vs[0], ?_, RepD.toT (h2 0 u _ hu hv0)⟩
    simp only [execOp, hv]
    rw [Sem.run_bind, run_load1 ht (hh _ _ (by simpa using h1 0 _ hv0))]
    rfl
theorem S.loadN {T n : Nat} {us vs : List X} (ht : TyI E.P T true n) (hg : Gd all s guard rg) (hd : (Nat.blt d 1000 && Nat.blt d E.nt) = true) (hx : OpS s x (.eptr us) r) (hu : us.take n = vs) (hn : Nat.ble n us.length = true) :
    St1 E all ⟨some d, .load T x, ty, pos, after, guard⟩ s (rg ++ r) [(d, .agg vs)] [] :=
  St1.val hg hd rfl hx.looks fun c A w hh hr => by
    subst hu
    rw [Nat.ble_eq] at hn
    obtain ⟨b, off, ws, hv, hl, h1, h2⟩ := eptr_of (hx.rep (c := c) (a := A) (w := w) hr)
    refine ⟨.agg (ws.take n).toArray, ?_, ws.take n, rfl, All2.take n (All2.of_get hl fun i x v hx hv => RepD.toC (h2 i x v hx hv))⟩
    simp only [execOp, hv]
    rw [Sem.run_bind, run_loadN ht (vs := ws.take n) (by simp; omega) fun i v hv => hh _ _ (h1 i v ?_)]
    · rfl
    · rw [List.getElem?_take] at hv; split at hv; exact hv; cases hv
theorem box_of {c : Ctx} {a : Act} {w : World} {k : Nat} {cells : List X} (h : Holds c a w (1000 + k) (.box cells)) (hk : k < 1000) :
    ∃ b T vs, c.loc k = some b ∧ w.heap[b]? = some (.cells vs T (0, 0)) ∧ All2 (RepC c) cells vs.toList := by
  unfold Holds at h
  rw [if_neg (by omega), if_pos (by omega), Nat.add_sub_cancel_left] at h
  rcases h with h | ⟨b, o, h1, h2, T, vs, rfl, h3⟩
  · cases h
  · exact ⟨b, T, vs, h1, h2, h3⟩
theorem ptr_of {c : Ctx} {k off : Nat} {v : Value} (h : RepT c (.ptr k off) v) : ∃ b, c.loc k = some b ∧ v = .pointer (some ⟨b, off, none⟩) := h
theorem C.toT {c : Ctx} {u : X} {v : Value} (h : RepC c u v) (hu : isAT u = false) : RepT c u v := by
  cases u <;> first | exact h | cases hu
theorem S.bload1 {T k off : Nat} {u : X} {us : List X} {sz : Nat} (ht : TyI E.P T false sz) (hg : Gd all s guard rg) (hd : (Nat.blt d 1000 && Nat.blt d E.nt) = true) (hx : OpS s x (.ptr k off) r) (hk : Nat.blt k 1000 = true)
    (hb : look s (1000 + k) = some (.box us)) (hu : us[off]? = some u) (hnt : isAT u = false) :
    St1 E all ⟨some d, .load T x, ty, pos, after, guard⟩ s (rg ++ (r ++ [(1000 + k, .box us)])) [(d, u)] [] :=
  St1.val hg hd rfl (hx.looks.app ⟨hb, trivial⟩) fun c A w hh hr => by
    rw [Nat.blt_eq] at hk
    obtain ⟨b, h1, hv⟩ := ptr_of (hx.rep (c := c) (a := A) (w := w) fun p hp => hr p (by simp [hp]))
    obtain ⟨b', T', vs, h2, h3, h4⟩ := box_of (hr (1000 + k, .box us) (by simp)) hk
    rw [h1] at h2; cases h2
    obtain ⟨v, hvv, hvr⟩ := h4.get_right hu
    refine ⟨v, ?_, C.toT hvr hnt⟩
    simp only [execOp, hv]
    rw [Sem.run_bind, run_load1 ht (v := v)]
    · rfl
    · rw [cell_of_row w b off vs T' (0, 0) h3]; simpa using hvv
theorem S.bloadN {T n k off : Nat} {us us' : List X} (ht : TyI E.P T true n) (hg : Gd all s guard rg) (hd : (Nat.blt d 1000 && Nat.blt d E.nt) = true) (hx : OpS s x (.ptr k off) r) (hk : Nat.blt k 1000 = true)
    (hb : look s (1000 + k) = some (.box us)) (hu : (us.drop off).take n = us') (hn : Nat.ble (off + n) us.length = true) :
    St1 E all ⟨some d, .load T x, ty, pos, after, guard⟩ s (rg ++ (r ++ [(1000 + k, .box us)])) [(d, .agg us')] [] :=
  St1.val hg hd rfl (hx.looks.app ⟨hb, trivial⟩) fun c A w hh hr => by
    subst hu
    rw [Nat.blt_eq] at hk
    rw [Nat.ble_eq] at hn
    obtain ⟨b, h1, hv⟩ := ptr_of (hx.rep (c := c) (a := A) (w := w) fun p hp => hr p (by simp [hp]))
    obtain ⟨b', T', vs, h2, h3, h4⟩ := box_of (hr (1000 + k, .box us) (by simp)) hk
    rw [h1] at h2; cases h2
    refine ⟨.agg ((vs.toList.drop off).take n).toArray, ?_, (vs.toList.drop off).take n, rfl, (h4.drop off).take n⟩
    simp only [execOp, hv]
    have hl := h4.length
    rw [Sem.run_bind, run_loadN ht (vs := (vs.toList.drop off).take n)]
    · rfl
    · simp at hl ⊢; omega
    · intro i v hv
      rw [List.getElem?_take] at hv
      split at hv
      · rw [List.getElem?_drop] at hv
        rw [cell_of_row w b (off + i) vs T' (0, 0) h3]; simpa using hv
      · cases hv
theorem run_fieldAt {P : Program} {T f off : Nat} (hf : FiI P T f off) (b o : Nat) (w : World) : (Instr.fieldAt T (.pointer (some ⟨b, o, none⟩)) f).run P w = .ok (.pointer (some ⟨b, o + off, none⟩)) w := by
  obtain ⟨fields, fl, n, h1, h2, h3, h4, h5⟩ := hf.ex
  simp [Instr.fieldAt, run_underlying h1, h2, Instr.sureAddr, fieldPlace, h5, h4, h3, add_off]
theorem S.bfield {T f k off o : Nat} (hf : FiI E.P T f o) (hg : Gd all s guard rg) (hd : (Nat.blt d 1000 && Nat.blt d E.nt) = true) (hx : OpS s x (.ptr k off) r) :
    St1 E all ⟨some d, .fieldAddr T x f, ty, pos, after, guard⟩ s (rg ++ r) [(d, .ptr k (off + o))] [] :=
  St1.val hg hd rfl hx.looks fun c A w hh hr => by
    obtain ⟨b, h1, hv⟩ := ptr_of (hx.rep (c := c) (a := A) (w := w) hr)
    exact ⟨.pointer (some ⟨b, off + o, none⟩), by simp only [execOp, hv]; rw [Sem.run_bind, run_fieldAt hf]; rfl, b, h1, rfl⟩
theorem S.field {T f o : Nat} {us us' : List X} (hf : FiI E.P T f o) (hg : Gd all s guard rg) (hd : (Nat.blt d 1000 && Nat.blt d E.nt) = true) (hx : OpS s x (.eptr us) r) (hu : us.drop o = us') :
    St1 E all ⟨some d, .fieldAddr T x f, ty, pos, after, guard⟩ s (rg ++ r) [(d, .eptr us')] [] :=
  St1.val hg hd rfl hx.looks fun c A w hh hr => by
    subst hu
    obtain ⟨b, off, vs, hv, hl, h1, h2⟩ := eptr_of (hx.rep (c := c) (a := A) (w := w) hr)
    refine ⟨.pointer (some ⟨b, off + o, none⟩), by simp only [execOp, hv]; rw [Sem.run_bind, run_fieldAt hf]; rfl, .eptr _ b (off + o) (vs.drop o) (by simp [hl]) ?_ ?_⟩
    · intro i v hv; rw [List.getElem?_drop] at hv; rw [Nat.add_assoc]; exact h1 _ _ hv
    · intro i x v hx hv; rw [List.getElem?_drop] at hx hv; exact h2 _ _ _ hx hv
theorem sl_of {c : Ctx} {rows : List (List X)} {v : Value} (h : RepT c (.sl rows) v) : ∃ a cap, v = .slice a rows.length cap ∧ rows.length ≤ cap ∧ cap ≤ maxLen ∧ (rows = [] ∨ ∃ (b off sz : Nat) (vs : List Value), a = some ⟨b, off, none⟩ ∧ (∀ r ∈ rows, r.length = sz) ∧ rows.flatten.length = vs.length ∧
    (∀ (i : Nat) (v : Value), vs[i]? = some v → c.h ⟨b, off + i, none⟩ = some v) ∧ ∀ (i : Nat) (x : X) (v : Value), rows.flatten[i]? = some x → vs[i]? = some v → RepD c.h x v) := by
  cases h with
  | sl0 a cap e => exact ⟨a, cap, rfl, Nat.zero_le _, e, .inl rfl⟩
  | sl _ b off cap sz vs h1 h2 h3 h4 h5 h6 => exact ⟨_, cap, rfl, h1, h2, .inr ⟨b, off, sz, vs, rfl, h3, h4, h5, h6⟩⟩
theorem flatten_length {α : Type} {sz : Nat} : ∀ {rows : List (List α)}, (∀ r ∈ rows, r.length = sz) → rows.flatten.length = rows.length * sz
  | [], _ => by simp
  | r :: rows, h => by
    rw [List.flatten_cons, List.length_append, flatten_length (fun r hr => h r (List.mem_cons_of_mem _ hr)), h r List.mem_cons_self, List.length_cons, Nat.add_mul]; omega
theorem flatten_at {α : Type} {sz : Nat} : ∀ {rows : List (List α)} (i : Nat) {row : List α}, (∀ r ∈ rows, r.length = sz) → rows[i]? = some row → (rows.flatten.drop (i * sz)).take sz = row
  | [], i, row, _, h => by simp at h
  | r :: rows, 0, row, h, hr => by
    simp at hr; subst hr
    have := h r List.mem_cons_self
    simp [← this]
  | r :: rows, i + 1, row, h, hr => by
    have h1 := h r List.mem_cons_self
    rw [List.flatten_cons, Nat.add_mul, Nat.one_mul, Nat.add_comm, ← List.drop_drop]
    have : (r ++ rows.flatten).drop sz = rows.flatten := by rw [← h1]; simp
    rw [this]
    exact flatten_at i (fun r hr => h r (List.mem_cons_of_mem _ hr)) (by simpa using hr)
theorem S.index {t e sz : Nat} {rows : List (List X)} {i : Int} {row : List X} (hs : SlI E.P t e sz) (hg : Gd all s guard rg) (hd : (Nat.blt d 1000 && Nat.blt d E.nt) = true) (hx : OpS s x (.sl rows) r1) (hy : OpS s y (.int k i) r2)
    (h0 : 0 ≤ i) (hi : rows[i.toNat]? = some row) (hsz : row.length = sz) : St1 E all ⟨some d, .indexAddr t x y, ty, pos, after, guard⟩ s (rg ++ (r1 ++ r2)) [(d, .eptr row)] [] :=
  St1.val hg hd rfl (hx.looks.app hy.looks) fun c A w hh hr => by
    obtain ⟨a, cap, hv, h1, h2, h3⟩ := sl_of (hx.rep (c := c) (a := A) (w := w) fun p hp => hr p (by simp [hp]))
    obtain ⟨hw, _⟩ := int_of (hy.rep (c := c) (a := A) (w := w) fun p hp => hr p (by simp [hp]))
    have hlt : i.toNat < rows.length := (List.getElem?_eq_some_iff.1 hi).1
    rcases h3 with rfl | ⟨b, off, sz', vs, rfl, h3, h4, h5, h6⟩
    · simp at hlt
    · have hsz' : sz' = sz := by rw [← hsz]; exact (h3 row (List.mem_of_getElem? hi)).symm
      subst hsz'
      have hfl := flatten_length h3
      have hat := flatten_at i.toNat h3 hi
      have hin : i.toNat * sz' + sz' ≤ rows.length * sz' := by rw [← Nat.succ_mul]; exact Nat.mul_le_mul_right _ hlt
      refine ⟨.pointer (some ⟨b, off + i.toNat * sz', none⟩), ?_, .eptr row b (off + i.toNat * sz') ((vs.drop (i.toNat * sz')).take sz') ?_ ?_ ?_⟩
      · have hi2 : i < (rows.length : Int) := by omega
        simp [execOp, hv, hw, Instr.indexAt, asIntOf, run_underlying hs.und, hs.size, h0, hi2, add_off]
      · rw [hsz]; simp; omega
      · intro j v hv
        rw [List.getElem?_take] at hv
        split at hv
        · rw [List.getElem?_drop] at hv; rw [Nat.add_assoc]; exact h5 _ _ hv
        · cases hv
      · intro j u v hu hv
        rw [List.getElem?_take] at hv
        split at hv
        · rename_i hj
          rw [List.getElem?_drop] at hv
          rw [← hat, List.getElem?_take, if_pos hj, List.getElem?_drop] at hu
          exact h6 _ _ _ hu hv
        · cases hv
theorem wrap_len {n : Nat} (h : n ≤ maxLen) : IntKind.i64.wrap n = n := by
  unfold maxLen at h
  exact IntWalk.i64_in _ ⟨by omega, by omega⟩
theorem S.len {t : Nat} {e sz : Nat} {rows : List (List X)} (hs : SlI E.P t e sz) (hg : Gd all s guard rg) (hd : (Nat.blt d 1000 && Nat.blt d E.nt) = true) (hx : OpS s x (.sl rows) r) :
    St1 E all ⟨some d, .call { callee := .builtin .len, args := #[x], argTypes := #[t] }, ty, pos, after, guard⟩ s (rg ++ r) [(d, .int .i64 rows.length)] [] :=
  St1.val hg hd rfl hx.looks fun c A w hh hr => by
    obtain ⟨a, cap, hv, h1, h2, _⟩ := sl_of (hx.rep (c := c) (a := A) (w := w) hr)
    refine ⟨.int .i64 rows.length, ?_, RepD.toT (.int (wrap_len (Nat.le_trans h1 h2)))⟩
    simp [execOp, resolve, invoke, builtin, hv, Builtin.len_, run_underlying hs.und, goInt]
theorem arr_of {c : Ctx} {a : Act} {w : World} {k sz : Nat} {rows : List (List X)} (h : Holds c a w (2000 + k) (.arr sz rows)) :
    ∃ hv e vs, c.arr k = some (rows.length, hv, true) ∧ w.ownsRow 0 e sz hv rows.length vs ∧ (∀ r ∈ rows, r.length = sz) ∧ All2 (RepD c.h) rows.flatten vs := by
  unfold Holds at h
  by_cases hk : k < 1000
  case neg =>
    rw [if_neg (by omega), if_neg (by omega), if_neg (by omega)] at h
    rcases h with h | ⟨_, J, hJ, _⟩
    · cases h
    · cases hJ
  rw [if_neg (by omega), if_neg (by omega), if_pos (by omega), Nat.add_sub_cancel_left] at h
  rcases h with h | ⟨sz', rows', hv, e, vs, ⟨rfl, rfl, h4⟩, h1, h2, h3⟩
  · cases h
  · exact ⟨hv, e, vs, h1, h2, h3, h4⟩
theorem arr_lt {c : Ctx} {a : Act} {w : World} {k sz : Nat} {rows : List (List X)} (h : Holds c a w (2000 + k) (.arr sz rows)) : k < 1000 := by
  unfold Holds at h
  refine Decidable.byContradiction fun hk => ?_
  rw [if_neg (by omega), if_neg (by omega), if_neg (by omega)] at h
  rcases h with h | ⟨_, J, hJ, _⟩
  · cases h
  · cases hJ
theorem S.lenOwn {t e sz k n w2 : Nat} {rows : List (List X)} (hs : SlI E.P t e sz) (hg : Gd all s guard rg) (hd : (Nat.blt d 1000 && Nat.blt d E.nt) = true) (hx : OpS s x (.own k n) r) (hl : look s (2000 + k) = some (.arr w2 rows)) (hn : rows.length = n) :
    St1 E all ⟨some d, .call { callee := .builtin .len, args := #[x], argTypes := #[t] }, ty, pos, after, guard⟩ s (rg ++ (r ++ [(2000 + k, .arr w2 rows)])) [(d, .int .i64 n)] [] :=
  St1.val hg hd rfl (hx.looks.app ⟨hl, trivial⟩) fun c A w hh hr => by
    subst hn
    obtain ⟨_, m, hv, lv, e1, e2, e3⟩ := hx.rep (c := c) (a := A) (w := w) fun p hp => hr p (by simp [hp])
    obtain ⟨hv', e', vs, f1, f2, f3, f4⟩ := arr_of (hr (2000 + k, .arr w2 rows) (by simp))
    rw [f1] at e1; cases e1
    have hev := e3 rfl
    have hlen : ∃ a cp, hv = .slice a rows.length cp ∧ rows.length ≤ maxLen := by
      rcases f2.2 with ⟨rfl, h0⟩ | ⟨g, cap, cur, rfl, _, _, h5, h6, _⟩
      · exact ⟨none, 0, by rw [h0], by rw [h0]; exact Nat.zero_le _⟩
      · exact ⟨_, _, rfl, Nat.le_trans h5 h6⟩
    obtain ⟨a, cp, rfl, hm⟩ := hlen
    refine ⟨.int .i64 rows.length, ?_, RepD.toT (.int (wrap_len hm))⟩
    simp [execOp, resolve, invoke, builtin, hev, Builtin.len_, run_underlying hs.und, goInt]
theorem S.slen {t : Nat} {l : List UInt8} (hs : E.P.underlying t = some .string) (hg : Gd all s guard rg) (hd : (Nat.blt d 1000 && Nat.blt d E.nt) = true) (hx : OpS s x (.str l) r) :
    St1 E all ⟨some d, .call { callee := .builtin .len, args := #[x], argTypes := #[t] }, ty, pos, after, guard⟩ s (rg ++ r) [(d, .int .i64 l.length)] [] :=
  St1.val hg hd rfl hx.looks fun c A w hh hr => by
    obtain ⟨hv, h1⟩ := str_of (hx.rep (c := c) (a := A) (w := w) hr)
    refine ⟨.int .i64 l.length, ?_, RepD.toT (.int (wrap_len h1))⟩
    have hsz : (⟨l.toArray⟩ : ByteArray).size = l.length := by show l.toArray.size = _; simp
    simp [execOp, resolve, invoke, builtin, hv, Builtin.len_, run_underlying hs, goInt, hsz]
end
end Go.Ab
