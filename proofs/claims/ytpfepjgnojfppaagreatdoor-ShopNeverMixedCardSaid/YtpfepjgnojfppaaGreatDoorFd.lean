import Derived.IntWalk
import Derived.Test.YtpfepjgnojfppaaGreatDoorFa
namespace Go.Ab
open Go.RowKit
def litX : Value → X
  | .int k n => .int k n
  | .bool b => .bool b
  | .string s => .str s.data.toList
  | .slice none 0 0 => .nils
  | v => .raw v
def litOk : Value → Bool
  | .int k n => k.wrap n == n
  | .string s => Nat.ble s.data.toList.length maxLen
  | _ => true
theorem litX_rep {c : Ctx} {v : Value} (h : litOk v = true) : RepC c (litX v) v := by
  cases v with
  | int k n => exact RepD.int (by simpa [litOk] using h)
  | bool b => exact RepD.bool b
  | string s => exact RepD.str (h := c.h) s.data.toList (by simpa [litOk] using h)
  | slice a l cp =>
    cases a with
    | none => cases l with
      | zero => cases cp <;> exact rfl
      | succ l => exact rfl
    | some a => exact rfl
  | _ => exact rfl
inductive OpS (s : St) : Operand → X → St → Prop
  | tmp {t : Nat} {y : X} : Nat.blt t 1000 = true → look s t = some y → OpS s (.tmp t) y [(t, y)]
  | cint {k : IntKind} {n : Int} : k.wrap n = n → OpS s (.const (.int k n)) (.int k n) []
  | cbool {b : Bool} : OpS s (.const (.bool b)) (.bool b) []
  | cstr {bs : ByteArray} {l : List UInt8} : bs = ⟨l.toArray⟩ → l.length ≤ maxLen → OpS s (.const (.string bs)) (.str l) []
  | cnil : OpS s (.const (.slice none 0 0)) (.sl []) []
  | cfn {f : Nat} : OpS s (.func f) (.fn f []) []
  | cnils : OpS s (.const (.slice none 0 0)) .nils []
  | cagg {vs : Array Value} {xs : List X} : vs.toList.map litX = xs → vs.toList.all litOk = true → OpS s (.const (.agg vs)) (.agg xs) []
  | craw {v : Value} : OpS s (.const v) (.raw v) []
theorem lits_rep {c : Ctx} : ∀ {vs : List Value}, vs.all litOk = true → All2 (RepC c) (vs.map litX) vs
  | [], _ => trivial
  | v :: vs, h => by simp only [List.all_cons, Bool.and_eq_true] at h; exact ⟨litX_rep h.1, lits_rep h.2⟩
theorem RepD.toT {c : Ctx} {x : X} {v : Value} (h : RepD c.h x v) : RepT c x v := by
  cases h with
  | int e => exact .int e
  | bool b => exact .bool b
  | str s e => exact .str s e
  | sl0 a cap e => exact .sl0 a cap e
  | sl rows b off cap sz vs h1 h2 h3 h4 h5 h6 => exact .sl rows b off cap sz vs h1 h2 h3 h4 h5 h6
  | eptr cells b off vs h1 h2 h3 => exact .eptr cells b off vs h1 h2 h3
  | raw u e => exact rfl
theorem RepD.toC {c : Ctx} {x : X} {v : Value} (h : RepD c.h x v) : RepC c x v := by
  cases h with
  | int e => exact .int e
  | bool b => exact .bool b
  | str s e => exact .str s e
  | sl0 a cap e => exact .sl0 a cap e
  | sl rows b off cap sz vs h1 h2 h3 h4 h5 h6 => exact .sl rows b off cap sz vs h1 h2 h3 h4 h5 h6
  | eptr cells b off vs h1 h2 h3 => exact .eptr cells b off vs h1 h2 h3
  | raw u e => exact rfl
theorem Holds.slot {c : Ctx} {a : Act} {w : World} {t : Nat} {x : X} (h : Holds c a w t x) (ht : Nat.blt t 1000 = true) : RepT c x (a.tmps.getD t undef) := by
  unfold Holds at h
  rwa [if_pos (by rw [Nat.blt_eq] at ht; exact ht)] at h
theorem OpS.looks {s : St} {o : Operand} {y : X} {r : St} (h : OpS s o y r) : Looks s r := by
  cases h with
  | tmp _ h => exact ⟨h, trivial⟩
  | _ => exact trivial
theorem OpS.rep {s : St} {o : Operand} {y : X} {r : St} (h : OpS s o y r) {c : Ctx} {a : Act} {w : World} (hr : ∀ p ∈ r, Holds c a w p.1 p.2) : RepT c y (a.eval o) := by
  cases h with
  | tmp ht _ => exact (hr _ List.mem_cons_self).slot ht
  | cint e => exact RepD.toT (.int e)
  | cbool => exact RepD.toT (.bool _)
  | cstr e hl => subst e; exact RepD.toT (.str _ hl)
  | cnil => exact RepD.toT (.sl0 none 0 (Nat.zero_le _))
  | cfn => exact ⟨[], rfl, trivial⟩
  | cnils => exact rfl
  | cagg e hl => subst e; exact ⟨_, by simp [Act.eval], lits_rep hl⟩
  | craw => exact rfl
inductive Gd (all : Array Oper) (s : St) : Option (Nat × Bool) → St → Prop
  | none : Gd all s none []
  | yes {j t : Nat} {b b' : Bool} : (all[j]?).bind (·.dst) = some t → Nat.blt t 1000 = true → look s t = some (.bool b') → b' = b → Gd all s (some (j, b)) [(t, .bool b')]
theorem Gd.looks {all : Array Oper} {s : St} {g : Option (Nat × Bool)} {r : St} (h : Gd all s g r) : Looks s r := by
  cases h with
  | none => exact trivial
  | yes _ _ h _ => exact ⟨h, trivial⟩
theorem bool_slot {c : Ctx} {a : Act} {t : Nat} {b : Bool} (h : RepT c (.bool b) (a.tmps.getD t undef)) : a.tmps[t]? = some (.bool b) := by
  have h1 : a.tmps.getD t undef = .bool b := by
    generalize a.tmps.getD t undef = v at h
    cases h; rfl
  simp only [Array.getD] at h1
  split at h1
  · rename_i ht; simp only [Array.getInternal_eq_getElem] at h1; rw [Array.getElem?_eq_getElem ht, h1]
  · cases h1
theorem Gd.wanted {all : Array Oper} {s : St} {o : Oper} {r : St} (h : Gd all s o.guard r) {c : Ctx} {a : Act} {w : World} (hr : ∀ p ∈ r, Holds c a w p.1 p.2) :
    Region.wanted o (yielded all a.tmps) = true := by
  unfold Region.wanted
  generalize o.guard = g at h
  cases h with
  | none => rfl
  | yes hd ht _ he =>
    subst he
    have := bool_slot ((hr _ List.mem_cons_self).slot ht)
    simp [yielded, hd, this]
theorem Looks.app {s : St} : ∀ {r r' : St}, Looks s r → Looks s r' → Looks s (r ++ r')
  | [], _, _, h => h
  | _ :: _, _, h, h' => ⟨h.1, Looks.app h.2 h'⟩
def St1 (E : Env) (all : Array Oper) (o : Oper) (s rd wr : St) (al : List Nat) : Prop := Step E all o rd wr al ∧ Looks s rd
theorem Lx.c {E : Env} {all : Array Oper} {o : Oper} {l : List Oper} {U U' : List Nat} {s s' : St} {L : List Lab} {rd wr : St} {al : List Nat} (h : St1 E all o s rd wr al)
    (hr : Lx E all l (al ++ U) (wr ++ s) L U' s') (ha : (al.all fun k => !U.contains k) = true := by rfl) : Lx E all (o :: l) U s (⟨rd, wr, al⟩ :: L) U' s' := .cons h.1 h.2 ha hr
def isDefer : Op → Bool
  | .defer _ => true
  | _ => false
theorem Base.put {E : Env} {U : List Nat} {c : Ctx} {a : Act} {w : World} (h : Base E U c a w) (d : Option Tmp) (v : Value) : Base E U c (a.put d v) w := by
  refine ⟨h.below, h.hB, ?_, ?_, h.pin, h.hw, h.hle, h.hnew, h.loc, h.arr, h.used, h.Y, h.loc0, h.arr0⟩
  · cases d <;> simp [Act.put, h.nt]
  · cases d <;> exact h.dfr
theorem Holds.put {c : Ctx} {a : Act} {w : World} {d key : Nat} {x : X} (h : Holds c a w key x) (hne : d ≠ key) (v : Value) : Holds c (a.put (some d) v) w key x := by
  unfold Holds at *
  split at h
  · rename_i hk
    rw [if_pos hk]
    simpa [Act.put, Array.getElem?_setIfInBounds_ne hne] using h
  · rename_i hk; rw [if_neg hk]; exact h
theorem getD_put {a : Act} {d : Nat} (hd : d < a.tmps.size) (v : Value) : (a.put (some d) v).tmps.getD d undef = v := by
  simp [Act.put, hd]
def Does (E : Env) (op : Op) (o : Oper) (r wr : St) (al : List Nat) (x : X) : Prop :=
  ∀ (U : List Nat) (c : Ctx) (a : Act) (w : World), Base E U c a w → (∀ p ∈ r, Holds c a w p.1 p.2) → (∀ k ∈ al, k ∉ U) →
    ∃ v c' w', (execOp a.eval { o with op := op }).run E.P w = .ok (.value v) w' ∧ Base E (al ++ U) c' a w' ∧ Ext c c' ∧ RepT c' x v ∧
      (∀ p ∈ wr, ¬ p.1 < 1000 ∧ Holds c' a w' p.1 p.2) ∧ (∀ key y, ¬ key < 1000 → (∀ p ∈ wr, p.1 ≠ key) → Holds c a w key y → Holds c' a w' key y)
theorem St1.mk {E : Env} {all : Array Oper} {s r rg wr : St} {al : List Nat} {d ty : Nat} {op : Op} {pos : String} {after : Array Edge} {guard : Option (Nat × Bool)} {x : X}
    (hg : Gd all s guard rg) (hd : (Nat.blt d 1000 && Nat.blt d E.nt) = true) (hdef : isDefer op = false) (hl : Looks s r)
    (h : Does E op ⟨some d, op, ty, pos, after, guard⟩ r wr al x) : St1 E all ⟨some d, op, ty, pos, after, guard⟩ s (rg ++ r) ((d, x) :: wr) al := by
  simp only [Bool.and_eq_true, Nat.blt_eq] at hd
  refine ⟨?_, hg.looks.app hl⟩
  intro U c a w hb hr hal next Q hn
  obtain ⟨v, c', w', hrun, hb', hext, hx, hwr, hfr⟩ := h U c a w hb (fun p hp => hr p (List.mem_append_right _ hp)) hal
  have hw := hg.wanted (o := ⟨some d, op, ty, pos, after, guard⟩) (fun p hp => hr p (List.mem_append_left _ hp))
  unfold opIn
  rw [if_pos hw]
  refine ⟨fun _ _ => trivial, ?_⟩
  have hs : Oper.semAt E.F.round a.eval ⟨some d, op, ty, pos, after, guard⟩ = execOp a.eval ⟨some d, op, ty, pos, after, guard⟩ :=
    Oper.semAt_eq _ _ _ fun cl he => by simp only at he; rw [he] at hdef; cases hdef
  rw [hs, hrun]
  have hdt : d < a.tmps.size := by rw [hb.nt]; exact hd.2
  refine hn c' _ w' (hb'.put _ _) hext ?_ ?_
  · intro p hp
    rcases List.mem_cons.1 hp with rfl | hp
    · unfold Holds; rw [if_pos hd.1, getD_put hdt]; exact hx
    · exact (hwr p hp).2.put (fun e => (hwr p hp).1 (e ▸ hd.1)) v
  · intro key y hk hy
    have hne : d ≠ key := hk (d, x) List.mem_cons_self
    by_cases h1 : key < 1000
    · refine Holds.put ?_ hne v
      unfold Holds at hy ⊢
      rw [if_pos h1] at hy ⊢
      exact hy.mono hext
    · exact (hfr key y h1 (fun p hp => hk p (List.mem_cons_of_mem _ hp)) hy).put hne v
theorem St1.val {E : Env} {all : Array Oper} {s r rg : St} {d ty : Nat} {op : Op} {pos : String} {after : Array Edge} {guard : Option (Nat × Bool)} {x : X}
    (hg : Gd all s guard rg) (hd : (Nat.blt d 1000 && Nat.blt d E.nt) = true) (hdef : isDefer op = false) (hl : Looks s r)
    (h : ∀ (c : Ctx) (a : Act) (w : World), (∀ p v, c.h p = some v → w.cell? p = some v) → (∀ p ∈ r, Holds c a w p.1 p.2) →
      ∃ v, (execOp a.eval ⟨some d, op, ty, pos, after, guard⟩).run E.P w = .ok (.value v) w ∧ RepT c x v) : St1 E all ⟨some d, op, ty, pos, after, guard⟩ s (rg ++ r) [(d, x)] [] := by
  refine St1.mk hg hd hdef hl fun U c a w hb hr _ => ?_
  obtain ⟨v, h1, h2⟩ := h c a w hb.hw hr
  exact ⟨v, c, w, h1, hb, Ext.refl c, h2, (fun p hp => by cases hp), fun key y _ _ hy => hy⟩
theorem step_skip {E : Env} {all : Array Oper} {s r : St} {d ty j : Nat} {op : Op} {pos : String} {after : Array Edge} {b' : Bool} (hl : Looks s r) (hd : (Nat.blt d 1000 && Nat.blt d E.nt) = true)
    (hn : ∀ c a w, (∀ p ∈ r, Holds c a w p.1 p.2) → (yielded all a.tmps j == some b') = false) : St1 E all ⟨some d, op, ty, pos, after, some (j, b')⟩ s r [(d, .tup [])] [] := by
  simp only [Bool.and_eq_true, Nat.blt_eq] at hd
  refine ⟨?_, hl⟩
  intro U c a w hbase hr _ next Q hnx
  have hw : Region.wanted (⟨some d, op, ty, pos, after, some (j, b')⟩ : Oper) (yielded all a.tmps) = false := hn c a w hr
  unfold opIn
  rw [if_neg (by rw [hw]; simp)]
  have hdt : d < a.tmps.size := by rw [hbase.nt]; exact hd.2
  refine hnx c _ w (hbase.put _ _) (Ext.refl c) ?_ ?_
  · intro p hp
    simp only [List.mem_singleton] at hp
    subst hp
    unfold Holds
    rw [if_pos hd.1, getD_put hdt]
    exact ⟨[], rfl, trivial⟩
  · intro key y hk hy
    exact hy.put (hk (d, .tup []) (by simp)) _
theorem S.skip {E : Env} {all : Array Oper} {s : St} {d ty j t : Nat} {op : Op} {pos : String} {after : Array Edge} {b b' : Bool}
    (ht : (all[j]?).bind (·.dst) = some t) (ht2 : Nat.blt t 1000 = true) (hl : look s t = some (.bool b)) (hb : (b == b') = false) (hd : (Nat.blt d 1000 && Nat.blt d E.nt) = true) : St1 E all ⟨some d, op, ty, pos, after, some (j, b')⟩ s [(t, .bool b)] [(d, .tup [])] [] :=
  step_skip ⟨hl, trivial⟩ hd fun c a w hr => by
    have h1 := bool_slot ((hr (t, .bool b) List.mem_cons_self).slot ht2)
    simp only [yielded, ht, Option.bind_some, h1]
    simpa using hb
theorem S.skipU {E : Env} {all : Array Oper} {s : St} {d ty j t : Nat} {op : Op} {pos : String} {after : Array Edge} {b' : Bool}
    (ht : (all[j]?).bind (·.dst) = some t) (ht2 : Nat.blt t 1000 = true) (hl : look s t = some (.tup [])) (hd : (Nat.blt d 1000 && Nat.blt d E.nt) = true) : St1 E all ⟨some d, op, ty, pos, after, some (j, b')⟩ s [(t, .tup [])] [(d, .tup [])] [] :=
  step_skip ⟨hl, trivial⟩ hd fun c a w hr => by
    obtain ⟨vs, h1, h2⟩ := (hr (t, .tup []) List.mem_cons_self).slot ht2
    have h3 : vs = [] := All2.nil_left h2
    subst h3
    have h4 : ∀ b, a.tmps[t]? ≠ some (.bool b) := fun b e => by
      have : a.tmps.getD t undef = .bool b := by simp [Array.getD_eq_getD_getElem?, e]
      rw [this] at h1; cases h1
    simp only [yielded, ht, Option.bind_some]
    first
    | rfl
    | (split
       · rename_i e; exact absurd e (h4 _)
       · rfl)
end Go.Ab
namespace Go.Ab
open Go.RowKit
structure TyI (P : Program) (T : TypeId) (agg : Bool) (sz : Nat) : Prop where
  agg : ∀ w, (isAgg T).run P w = .ok agg w
  size : ∀ w, (sizeOf T).run P w = .ok sz w
structure FiI (P : Program) (T f off : Nat) : Prop where
  ex : ∃ fields fl n, P.underlying T = some (.struct fields) ∧ fields[f]? = some fl ∧ fl.offset = off ∧ n ≠ 0 ∧ ∀ w, (sizeOf fl.type).run P w = .ok n w
structure SlI (P : Program) (t e sz : Nat) : Prop where
  und : P.underlying t = some (.slice e)
  size : ∀ w, (sizeOf e).run P w = .ok sz w
def isTup : X → Bool
  | .tup _ => true
  | _ => false
def isAT : X → Bool
  | .tup _ | .agg _ => true
  | _ => false
def notCell : X → Bool
  | .tup _ | .agg _ | .fn _ _ => true
  | _ => false
theorem int_of {c : Ctx} {k : IntKind} {n : Int} {v : Value} (h : RepT c (.int k n) v) : v = .int k n ∧ k.wrap n = n := by cases h; exact ⟨rfl, ‹_›⟩
theorem bool_of {c : Ctx} {b : Bool} {v : Value} (h : RepT c (.bool b) v) : v = .bool b := by cases h; rfl
theorem str_of {c : Ctx} {l : List UInt8} {v : Value} (h : RepT c (.str l) v) : v = .string ⟨l.toArray⟩ ∧ l.length ≤ maxLen := by cases h; exact ⟨rfl, ‹_›⟩
section
variable {E : Env} {all : Array Oper} {s r r1 r2 r3 rg : St} {d ty : Nat} {pos : String} {after : Array Edge} {guard : Option (Nat × Bool)} {x y z : Operand} {k : IntKind} {m n : Int} {a b : Bool}
theorem S.move {u : X} (hg : Gd all s guard rg) (hd : (Nat.blt d 1000 && Nat.blt d E.nt) = true) (hx : OpS s x u r) : St1 E all ⟨some d, .move x, ty, pos, after, guard⟩ s (rg ++ r) [(d, u)] [] :=
  St1.val hg hd rfl hx.looks fun _ _ _ _ hr => ⟨_, rfl, hx.rep hr⟩
theorem S.assign {u : X} (hg : Gd all s guard rg) (hd : (Nat.blt d 1000 && Nat.blt d E.nt) = true) (hx : OpS s x u r) : St1 E all ⟨some d, .assign x, ty, pos, after, guard⟩ s (rg ++ r) [(d, u)] [] :=
  St1.val hg hd rfl hx.looks fun _ _ _ _ hr => ⟨_, rfl, hx.rep hr⟩
theorem S.pick {p q : Bool} (hg : Gd all s guard rg) (hd : (Nat.blt d 1000 && Nat.blt d E.nt) = true) (hx : OpS s x (.bool a) r1) (hy : OpS s y (.bool p) r2) (hz : OpS s z (.bool q) r3) :
    St1 E all ⟨some d, .pick x y z, ty, pos, after, guard⟩ s (rg ++ (r1 ++ (r2 ++ r3))) [(d, .bool (bif a then p else q))] [] :=
  St1.val hg hd rfl (hx.looks.app (hy.looks.app hz.looks)) fun c A w _ hr => by
    have h1 := bool_of (hx.rep (c := c) (a := A) (w := w) fun p hp => hr p (by simp [hp]))
    have h2 := bool_of (hy.rep (c := c) (a := A) (w := w) fun p hp => hr p (by simp [hp]))
    have h3 := bool_of (hz.rep (c := c) (a := A) (w := w) fun p hp => hr p (by simp [hp]))
    refine ⟨.bool (bif a then p else q), ?_, RepD.toT (.bool _)⟩
    cases a <;> simp [execOp, h1, h2, h3, asBool]
theorem S.pickT {u : X} (hg : Gd all s guard rg) (hd : (Nat.blt d 1000 && Nat.blt d E.nt) = true) (hx : OpS s x (.bool a) r1) (hy : OpS s y u r2) (ha : a = true) :
    St1 E all ⟨some d, .pick x y z, ty, pos, after, guard⟩ s (rg ++ (r1 ++ r2)) [(d, u)] [] :=
  St1.val hg hd rfl (hx.looks.app hy.looks) fun c A w _ hr => by
    have h1 := bool_of (hx.rep (c := c) (a := A) (w := w) fun p hp => hr p (by simp [hp]))
    subst ha
    exact ⟨_, by simp [execOp, h1, asBool], hy.rep fun p hp => hr p (by simp [hp])⟩
theorem S.pickF {u : X} (hg : Gd all s guard rg) (hd : (Nat.blt d 1000 && Nat.blt d E.nt) = true) (hx : OpS s x (.bool a) r1) (hz : OpS s z u r2) (ha : a = false) :
    St1 E all ⟨some d, .pick x y z, ty, pos, after, guard⟩ s (rg ++ (r1 ++ r2)) [(d, u)] [] :=
  St1.val hg hd rfl (hx.looks.app hz.looks) fun c A w _ hr => by
    have h1 := bool_of (hx.rep (c := c) (a := A) (w := w) fun p hp => hr p (by simp [hp]))
    subst ha
    exact ⟨_, by simp [execOp, h1, asBool], hz.rep fun p hp => hr p (by simp [hp])⟩
theorem S.int2 {op : BinOp} {t t2 : Nat} {u : X} {v : Value} (hg : Gd all s guard rg) (hd : (Nat.blt d 1000 && Nat.blt d E.nt) = true) (hx : OpS s x (.int k m) r1) (hy : OpS s y (.int k n) r2)
    (hrun : k.wrap m = m → k.wrap n = n → (∀ w, (binOp op t (.int k m) (.int k n)).run E.P w = .ok v w) ∧ ∀ c, RepT c u v) :
    St1 E all ⟨some d, .binOp op t x y t2, ty, pos, after, guard⟩ s (rg ++ (r1 ++ r2)) [(d, u)] [] :=
  St1.val hg hd rfl (hx.looks.app hy.looks) fun c A w _ hr => by
    obtain ⟨h1, e1⟩ := int_of (hx.rep (c := c) (a := A) (w := w) fun p hp => hr p (by simp [hp]))
    obtain ⟨h2, e2⟩ := int_of (hy.rep (c := c) (a := A) (w := w) fun p hp => hr p (by simp [hp]))
    obtain ⟨h3, h4⟩ := hrun e1 e2
    refine ⟨v, ?_, h4 c⟩
    have hq : (eqGuard op t x y (.int k m) (.int k n)).run E.P w = .ok () w := by cases op <;> simp [eqGuard]
    simp [execOp, h1, h2, hq, h3]
theorem S.add {t t2 : Nat} {q : Int} (hg : Gd all s guard rg) (hd : (Nat.blt d 1000 && Nat.blt d E.nt) = true) (hx : OpS s x (.int k m) r1) (hy : OpS s y (.int k n) r2) (hq : k.wrap (m + n) = q) (hq2 : k.wrap q = q) :
    St1 E all ⟨some d, .binOp .add t x y t2, ty, pos, after, guard⟩ s (rg ++ (r1 ++ r2)) [(d, .int k q)] [] :=
  S.int2 hg hd hx hy fun _ _ => ⟨fun w => by simp [binOp, Op.intArith, hq], fun _ => RepD.toT (.int hq2)⟩
theorem S.sub {t t2 : Nat} {q : Int} (hg : Gd all s guard rg) (hd : (Nat.blt d 1000 && Nat.blt d E.nt) = true) (hx : OpS s x (.int k m) r1) (hy : OpS s y (.int k n) r2) (hq : k.wrap (m - n) = q) (hq2 : k.wrap q = q) :
    St1 E all ⟨some d, .binOp .sub t x y t2, ty, pos, after, guard⟩ s (rg ++ (r1 ++ r2)) [(d, .int k q)] [] :=
  S.int2 hg hd hx hy fun _ _ => ⟨fun w => by simp [binOp, Op.intArith, hq], fun _ => RepD.toT (.int hq2)⟩
theorem S.mul {t t2 : Nat} {q : Int} (hg : Gd all s guard rg) (hd : (Nat.blt d 1000 && Nat.blt d E.nt) = true) (hx : OpS s x (.int k m) r1) (hy : OpS s y (.int k n) r2) (hq : k.wrap (m * n) = q) (hq2 : k.wrap q = q) :
    St1 E all ⟨some d, .binOp .mul t x y t2, ty, pos, after, guard⟩ s (rg ++ (r1 ++ r2)) [(d, .int k q)] [] :=
  S.int2 hg hd hx hy fun _ _ => ⟨fun w => by simp [binOp, Op.intArith, hq], fun _ => RepD.toT (.int hq2)⟩
theorem S.quo {t t2 : Nat} {q : Int} (hg : Gd all s guard rg) (hd : (Nat.blt d 1000 && Nat.blt d E.nt) = true) (hx : OpS s x (.int k m) r1) (hy : OpS s y (.int k n) r2) (h0 : n ≠ 0) (hq : k.wrap (m.tdiv n) = q) (hq2 : k.wrap q = q) :
    St1 E all ⟨some d, .binOp .quo t x y t2, ty, pos, after, guard⟩ s (rg ++ (r1 ++ r2)) [(d, .int k q)] [] :=
  S.int2 hg hd hx hy fun _ _ => ⟨fun w => by simp [binOp, Op.intDiv, h0, hq], fun _ => RepD.toT (.int hq2)⟩
theorem S.rem {t t2 : Nat} {q : Int} (hg : Gd all s guard rg) (hd : (Nat.blt d 1000 && Nat.blt d E.nt) = true) (hx : OpS s x (.int k m) r1) (hy : OpS s y (.int k n) r2) (h0 : n ≠ 0) (hq : m.tmod n = q) (hq2 : k.wrap q = q) :
    St1 E all ⟨some d, .binOp .rem t x y t2, ty, pos, after, guard⟩ s (rg ++ (r1 ++ r2)) [(d, .int k q)] [] :=
  S.int2 hg hd hx hy fun _ _ => ⟨fun w => by simp [binOp, Op.intDiv, h0, hq], fun _ => RepD.toT (.int hq2)⟩
theorem S.lss {t t2 : Nat} (hg : Gd all s guard rg) (hd : (Nat.blt d 1000 && Nat.blt d E.nt) = true) (hx : OpS s x (.int k m) r1) (hy : OpS s y (.int k n) r2) :
    St1 E all ⟨some d, .binOp .lss t x y t2, ty, pos, after, guard⟩ s (rg ++ (r1 ++ r2)) [(d, .bool (decide (m < n)))] [] :=
  S.int2 hg hd hx hy fun _ _ => ⟨fun w => by simp [binOp, Op.intCmp], fun _ => RepD.toT (.bool _)⟩
theorem S.leq {t t2 : Nat} (hg : Gd all s guard rg) (hd : (Nat.blt d 1000 && Nat.blt d E.nt) = true) (hx : OpS s x (.int k m) r1) (hy : OpS s y (.int k n) r2) :
    St1 E all ⟨some d, .binOp .leq t x y t2, ty, pos, after, guard⟩ s (rg ++ (r1 ++ r2)) [(d, .bool (decide (m ≤ n)))] [] :=
  S.int2 hg hd hx hy fun _ _ => ⟨fun w => by simp [binOp, Op.intCmp], fun _ => RepD.toT (.bool _)⟩
theorem S.gtr {t t2 : Nat} (hg : Gd all s guard rg) (hd : (Nat.blt d 1000 && Nat.blt d E.nt) = true) (hx : OpS s x (.int k m) r1) (hy : OpS s y (.int k n) r2) :
    St1 E all ⟨some d, .binOp .gtr t x y t2, ty, pos, after, guard⟩ s (rg ++ (r1 ++ r2)) [(d, .bool (decide (n < m)))] [] :=
  S.int2 hg hd hx hy fun _ _ => ⟨fun w => by simp [binOp, Op.intCmp], fun _ => RepD.toT (.bool _)⟩
theorem S.geq {t t2 : Nat} (hg : Gd all s guard rg) (hd : (Nat.blt d 1000 && Nat.blt d E.nt) = true) (hx : OpS s x (.int k m) r1) (hy : OpS s y (.int k n) r2) :
    St1 E all ⟨some d, .binOp .geq t x y t2, ty, pos, after, guard⟩ s (rg ++ (r1 ++ r2)) [(d, .bool (decide (n ≤ m)))] [] :=
  S.int2 hg hd hx hy fun _ _ => ⟨fun w => by simp [binOp, Op.intCmp], fun _ => RepD.toT (.bool _)⟩
theorem S.eql {t t2 : Nat} (hg : Gd all s guard rg) (hd : (Nat.blt d 1000 && Nat.blt d E.nt) = true) (hx : OpS s x (.int k m) r1) (hy : OpS s y (.int k n) r2) :
    St1 E all ⟨some d, .binOp .eql t x y t2, ty, pos, after, guard⟩ s (rg ++ (r1 ++ r2)) [(d, .bool (decide (m = n)))] [] :=
  S.int2 hg hd hx hy fun _ _ => ⟨fun w => by simp [binOp, Op.intCmp]; by_cases h : m = n <;> simp [h], fun _ => RepD.toT (.bool _)⟩
theorem S.neq {t t2 : Nat} (hg : Gd all s guard rg) (hd : (Nat.blt d 1000 && Nat.blt d E.nt) = true) (hx : OpS s x (.int k m) r1) (hy : OpS s y (.int k n) r2) :
    St1 E all ⟨some d, .binOp .neq t x y t2, ty, pos, after, guard⟩ s (rg ++ (r1 ++ r2)) [(d, .bool (decide (m ≠ n)))] [] :=
  S.int2 hg hd hx hy fun _ _ => ⟨fun w => by simp [binOp, Op.intCmp]; by_cases h : m = n <;> simp [h], fun _ => RepD.toT (.bool _)⟩
theorem S.not {t : Nat} (hg : Gd all s guard rg) (hd : (Nat.blt d 1000 && Nat.blt d E.nt) = true) (hx : OpS s x (.bool a) r) :
    St1 E all ⟨some d, .unOp .not t x, ty, pos, after, guard⟩ s (rg ++ r) [(d, .bool (!a))] [] :=
  St1.val hg hd rfl hx.looks fun c A w _ hr => ⟨.bool !a, by simp [execOp, bool_of (hx.rep (c := c) (a := A) (w := w) hr), Op.unary], RepD.toT (.bool _)⟩
theorem S.neg {t : Nat} {q : Int} (hg : Gd all s guard rg) (hd : (Nat.blt d 1000 && Nat.blt d E.nt) = true) (hx : OpS s x (.int k m) r) (hq : k.wrap (0 - m) = q) (hq2 : k.wrap q = q) :
    St1 E all ⟨some d, .unOp .neg t x, ty, pos, after, guard⟩ s (rg ++ r) [(d, .int k q)] [] :=
  St1.val hg hd rfl hx.looks fun c A w _ hr => ⟨.int k q, by simp only [execOp, (int_of (hx.rep (c := c) (a := A) (w := w) hr)).1, Op.unary, Op.intArith, hq]; rfl, RepD.toT (.int hq2)⟩
theorem S.conv {t t' : Nat} {k' : IntKind} {q : Int} {dsc : TypeDesc} (hg : Gd all s guard rg) (hd : (Nat.blt d 1000 && Nat.blt d E.nt) = true) (hx : OpS s x (.int k m) r)
    (h1 : E.P.underlying t = some dsc) (h2 : E.P.underlying t' = some (.int k')) (hq : k'.wrap m = q) (hq2 : k'.wrap q = q) :
    St1 E all ⟨some d, .convert t t' x, ty, pos, after, guard⟩ s (rg ++ r) [(d, .int k' q)] [] :=
  St1.val hg hd rfl hx.looks fun c A w _ hr => ⟨.int k' q, by
    simp only [execOp, (int_of (hx.rep (c := c) (a := A) (w := w) hr)).1, convert, Sem.run_bind, run_underlying h1, run_underlying h2, Result.andThen_ok, Conv.intToInt, hq]; rfl, RepD.toT (.int hq2)⟩
theorem S.max2 {t t1 t2 : Nat} (hg : Gd all s guard rg) (hd : (Nat.blt d 1000 && Nat.blt d E.nt) = true) (hx : OpS s x (.int k m) r1) (hy : OpS s y (.int k n) r2) :
    St1 E all ⟨some d, .call { callee := .builtin .max, args := #[x, y], argTypes := #[t1, t2] }, t, pos, after, guard⟩ s (rg ++ (r1 ++ r2)) [(d, .int k (if m < n then n else m))] [] :=
  St1.val hg hd rfl (hx.looks.app hy.looks) fun c A w _ hr => by
    obtain ⟨h1, e1⟩ := int_of (hx.rep (c := c) (a := A) (w := w) fun p hp => hr p (by simp [hp]))
    obtain ⟨h2, e2⟩ := int_of (hy.rep (c := c) (a := A) (w := w) fun p hp => hr p (by simp [hp]))
    refine ⟨.int k (if m < n then n else m), ?_, RepD.toT (.int (by split <;> assumption))⟩
    simp [execOp, resolve, invoke, builtin, h1, h2, Builtin.max_, Builtin.max2]
theorem S.min2 {t t1 t2 : Nat} (hg : Gd all s guard rg) (hd : (Nat.blt d 1000 && Nat.blt d E.nt) = true) (hx : OpS s x (.int k m) r1) (hy : OpS s y (.int k n) r2) :
    St1 E all ⟨some d, .call { callee := .builtin .min, args := #[x, y], argTypes := #[t1, t2] }, t, pos, after, guard⟩ s (rg ++ (r1 ++ r2)) [(d, .int k (if n < m then n else m))] [] :=
  St1.val hg hd rfl (hx.looks.app hy.looks) fun c A w _ hr => by
    obtain ⟨h1, e1⟩ := int_of (hx.rep (c := c) (a := A) (w := w) fun p hp => hr p (by simp [hp]))
    obtain ⟨h2, e2⟩ := int_of (hy.rep (c := c) (a := A) (w := w) fun p hp => hr p (by simp [hp]))
    refine ⟨.int k (if n < m then n else m), ?_, RepD.toT (.int (by split <;> assumption))⟩
    simp [execOp, resolve, invoke, builtin, h1, h2, Builtin.min_, Builtin.min2]
theorem S.extract {i : Nat} {xs : List X} {u : X} (hg : Gd all s guard rg) (hd : (Nat.blt d 1000 && Nat.blt d E.nt) = true) (hx : OpS s x (.tup xs) r) (hu : xs[i]? = some u) (hnt : isTup u = false) :
    St1 E all ⟨some d, .extract x i, ty, pos, after, guard⟩ s (rg ++ r) [(d, u)] [] :=
  St1.val hg hd rfl hx.looks fun c A w _ hr => by
    obtain ⟨vs, h1, h2⟩ := hx.rep (c := c) (a := A) (w := w) hr
    obtain ⟨v, hv, hvr⟩ := h2.get_right hu
    refine ⟨v, by simp [execOp, h1, Instr.extract, hv], ?_⟩
    cases u <;> first | exact hvr | cases hnt
theorem S.makeFunc {f : Nat} (hg : Gd all s guard rg) (hd : (Nat.blt d 1000 && Nat.blt d E.nt) = true) :
    St1 E all ⟨some d, .makeFunc (.func f) #[] #[], ty, pos, after, guard⟩ s (rg ++ []) [(d, .fn f [])] [] :=
  St1.val hg hd rfl trivial fun c A w _ hr => ⟨.func (.func f) #[] #[], by simp [execOp, Instr.makeFunc], [], rfl, trivial⟩
theorem capC {c : Ctx} {u : X} {v : Value} (h : RepT c u v) (hu : notCell u = false) : RepP c u v := by
  cases u <;> first | exact h | cases hu
theorem S.makeFunc1 {f : Nat} {u : X} (hg : Gd all s guard rg) (hd : (Nat.blt d 1000 && Nat.blt d E.nt) = true) (hx : OpS s x u r) (hu : notCell u = false) :
    St1 E all ⟨some d, .makeFunc (.func f) #[] #[x], ty, pos, after, guard⟩ s (rg ++ r) [(d, .fn f [u])] [] :=
  St1.val hg hd rfl hx.looks fun c A w _ hr => ⟨.func (.func f) #[] #[A.eval x], by simp [execOp, Instr.makeFunc], [A.eval x], rfl, capC (hx.rep hr) hu, trivial⟩
theorem S.makeFunc2 {f : Nat} {u u' : X} (hg : Gd all s guard rg) (hd : (Nat.blt d 1000 && Nat.blt d E.nt) = true) (hx : OpS s x u r1) (hy : OpS s y u' r2)
    (hu : notCell u = false) (hu' : notCell u' = false) :
    St1 E all ⟨some d, .makeFunc (.func f) #[] #[x, y], ty, pos, after, guard⟩ s (rg ++ (r1 ++ r2)) [(d, .fn f [u, u'])] [] :=
  St1.val hg hd rfl (hx.looks.app hy.looks) fun c A w _ hr => ⟨.func (.func f) #[] #[A.eval x, A.eval y], by simp [execOp, Instr.makeFunc], [A.eval x, A.eval y], rfl, capC (hx.rep fun p hp => hr p (by simp [hp])) hu, capC (hy.rep fun p hp => hr p (by simp [hp])) hu', trivial⟩
theorem add_off (b o n : Nat) : (⟨b, o, none⟩ : Addr).add n = ⟨b, o + n, none⟩ := by
  unfold Addr.add; split
  · rename_i h; subst h; rfl
  · rfl
theorem eptr_of {c : Ctx} {cells : List X} {v : Value} (h : RepT c (.eptr cells) v) : ∃ (b off : Nat) (vs : List Value), v = .pointer (some ⟨b, off, none⟩) ∧ cells.length = vs.length ∧ (∀ (i : Nat) (v : Value), vs[i]? = some v → c.h ⟨b, off + i, none⟩ = some v) ∧
    ∀ (i : Nat) (x : X) (v : Value), cells[i]? = some x → vs[i]? = some v → RepD c.h x v := by
  cases h with
  | eptr _ b off vs h1 h2 h3 => exact ⟨b, off, vs, rfl, h1, h2, h3⟩
theorem run_load1 {P : Program} {T : Nat} {sz : Nat} (ht : TyI P T false sz) {b o : Nat} {v : Value} {w : World} (h : w.cell? ⟨b, o, none⟩ = some v) : (Instr.loadAt T (.pointer (some ⟨b, o, none⟩))).run P w = .ok v w := by
  simp [Instr.loadAt, Instr.sureAddr, loadVar, ht.agg, run_load, h]
theorem run_loadN {P : Program} {T : Nat} {sz : Nat} (ht : TyI P T true sz) {b o : Nat} {vs : List Value} {w : World} (hl : vs.length = sz) (h : ∀ (i : Nat) (v : Value), vs[i]? = some v → w.cell? ⟨b, o + i, none⟩ = some v) :
    (Instr.loadAt T (.pointer (some ⟨b, o, none⟩))).run P w = .ok (.agg vs.toArray) w := by
  have := run_loadCells_list (P := P) (w := w) ⟨b, o, none⟩ vs fun j v hv => by rw [add_off]; exact h j v hv
  rw [hl] at this
  simp [Instr.loadAt, Instr.sureAddr, loadVar, ht.agg, ht.size, this]
theorem S.load1 {T : Nat} {u : X} {us : List X} {sz : Nat} (ht : TyI E.P T false sz) (hg : Gd all s guard rg) (hd : (Nat.blt d 1000 && Nat.blt d E.nt) = true) (hx : OpS s x (.eptr us) r) (hu : us[0]? = some u) :
    St1 E all ⟨some d, .load T x, ty, pos, after, guard⟩ s (rg ++ r) [(d, u)] [] :=
  St1.val hg hd rfl hx.looks fun c A w hh hr => by
    obtain ⟨b, off, vs, hv, hl, h1, h2⟩ := eptr_of (hx.rep (c := c) (a := A) (w := w) hr)
    have h0 : 0 < vs.length := by rw [← hl]; exact (List.getElem?_eq_some_iff.1 hu).1
    have hv0 : vs[0]? = some vs[0] := List.getElem?_eq_getElem h0
    refine ⟨vs[0], ?_, RepD.toT (h2 0 u _ hu hv0)⟩
    simp only [execOp, hv]
    rw [Sem.run_bind, run_load1 ht (hh _ _ (by simpa using h1 0 _ hv0))]
    rfl
theorem S.loadN {T n : Nat} {us vs : List X} (ht : TyI E.P T true n) (hg : Gd all s guard rg) (hd : (Nat.blt d 1000 && Nat.blt d E.nt) = true) (hx : OpS s x (.eptr us) r) (hu : us.take n = vs) (hn : Nat.ble n us.length = true) :
    St1 E all ⟨some d, .load T x, ty, pos, after, guard⟩ s (rg ++ r) [(d, .agg vs)] [] :=
  St1.val hg hd rfl hx.looks fun c A w hh hr => by
    subst hu
    rw [Nat.ble_eq] at hn
    obtain ⟨b, off, ws, hv, hl, h1, h2⟩ := eptr_of (hx.rep (c := c) (a := A) (w := w) hr)
    refine ⟨.agg (ws.take n).toArray, ?_, ws.take n, rfl, All2.take n (All2.of_get hl fun i x v hx hv => RepD.toC (h2 i x v hx hv))⟩
    simp only [execOp, hv]
    rw [Sem.run_bind, run_loadN ht (vs := ws.take n) (by simp; omega) fun i v hv => hh _ _ (h1 i v ?_)]
    · rfl
    · rw [List.getElem?_take] at hv; split at hv; exact hv; cases hv
theorem box_of {c : Ctx} {a : Act} {w : World} {k : Nat} {cells : List X} (h : Holds c a w (1000 + k) (.box cells)) (hk : k < 1000) :
    ∃ b T vs, c.loc k = some b ∧ w.heap[b]? = some (.cells vs T (0, 0)) ∧ All2 (RepC c) cells vs.toList := by
  unfold Holds at h
  rw [if_neg (by omega), if_pos (by omega), Nat.add_sub_cancel_left] at h
  rcases h with h | ⟨b, o, h1, h2, T, vs, rfl, h3⟩
  · cases h
  · exact ⟨b, T, vs, h1, h2, h3⟩
theorem ptr_of {c : Ctx} {k off : Nat} {v : Value} (h : RepT c (.ptr k off) v) : ∃ b, c.loc k = some b ∧ v = .pointer (some ⟨b, off, none⟩) := h
theorem C.toT {c : Ctx} {u : X} {v : Value} (h : RepC c u v) (hu : isAT u = false) : RepT c u v := by
  cases u <;> first | exact h | cases hu
theorem S.bload1 {T k off : Nat} {u : X} {us : List X} {sz : Nat} (ht : TyI E.P T false sz) (hg : Gd all s guard rg) (hd : (Nat.blt d 1000 && Nat.blt d E.nt) = true) (hx : OpS s x (.ptr k off) r) (hk : Nat.blt k 1000 = true)
    (hb : look s (1000 + k) = some (.box us)) (hu : us[off]? = some u) (hnt : isAT u = false) :
    St1 E all ⟨some d, .load T x, ty, pos, after, guard⟩ s (rg ++ (r ++ [(1000 + k, .box us)])) [(d, u)] [] :=
  St1.val hg hd rfl (hx.looks.app ⟨hb, trivial⟩) fun c A w hh hr => by
    rw [Nat.blt_eq] at hk
    obtain ⟨b, h1, hv⟩ := ptr_of (hx.rep (c := c) (a := A) (w := w) fun p hp => hr p (by simp [hp]))
    obtain ⟨b', T', vs, h2, h3, h4⟩ := box_of (hr (1000 + k, .box us) (by simp)) hk
    rw [h1] at h2; cases h2
    obtain ⟨v, hvv, hvr⟩ := h4.get_right hu
    refine ⟨v, ?_, C.toT hvr hnt⟩
    simp only [execOp, hv]
    rw [Sem.run_bind, run_load1 ht (v := v)]
    · rfl
    · rw [cell_of_row w b off vs T' (0, 0) h3]; simpa using hvv
theorem S.bloadN {T n k off : Nat} {us us' : List X} (ht : TyI E.P T true n) (hg : Gd all s guard rg) (hd : (Nat.blt d 1000 && Nat.blt d E.nt) = true) (hx : OpS s x (.ptr k off) r) (hk : Nat.blt k 1000 = true)
    (hb : look s (1000 + k) = some (.box us)) (hu : (us.drop off).take n = us') (hn : Nat.ble (off + n) us.length = true) :
    St1 E all ⟨some d, .load T x, ty, pos, after, guard⟩ s (rg ++ (r ++ [(1000 + k, .box us)])) [(d, .agg us')] [] :=
  St1.val hg hd rfl (hx.looks.app ⟨hb, trivial⟩) fun c A w hh hr => by
    subst hu
    rw [Nat.blt_eq] at hk
    rw [Nat.ble_eq] at hn
    obtain ⟨b, h1, hv⟩ := ptr_of (hx.rep (c := c) (a := A) (w := w) fun p hp => hr p (by simp [hp]))
    obtain ⟨b', T', vs, h2, h3, h4⟩ := box_of (hr (1000 + k, .box us) (by simp)) hk
    rw [h1] at h2; cases h2
    refine ⟨.agg ((vs.toList.drop off).take n).toArray, ?_, (vs.toList.drop off).take n, rfl, (h4.drop off).take n⟩
    simp only [execOp, hv]
    have hl := h4.length
    rw [Sem.run_bind, run_loadN ht (vs := (vs.toList.drop off).take n)]
    · rfl
    · simp at hl ⊢; omega
    · intro i v hv
      rw [List.getElem?_take] at hv
      split at hv
      · rw [List.getElem?_drop] at hv
        rw [cell_of_row w b (off + i) vs T' (0, 0) h3]; simpa using hv
      · cases hv
theorem run_fieldAt {P : Program} {T f off : Nat} (hf : FiI P T f off) (b o : Nat) (w : World) : (Instr.fieldAt T (.pointer (some ⟨b, o, none⟩)) f).run P w = .ok (.pointer (some ⟨b, o + off, none⟩)) w := by
  obtain ⟨fields, fl, n, h1, h2, h3, h4, h5⟩ := hf.ex
  simp [Instr.fieldAt, run_underlying h1, h2, Instr.sureAddr, fieldPlace, h5, h4, h3, add_off]
theorem S.bfield {T f k off o : Nat} (hf : FiI E.P T f o) (hg : Gd all s guard rg) (hd : (Nat.blt d 1000 && Nat.blt d E.nt) = true) (hx : OpS s x (.ptr k off) r) :
    St1 E all ⟨some d, .fieldAddr T x f, ty, pos, after, guard⟩ s (rg ++ r) [(d, .ptr k (off + o))] [] :=
  St1.val hg hd rfl hx.looks fun c A w hh hr => by
    obtain ⟨b, h1, hv⟩ := ptr_of (hx.rep (c := c) (a := A) (w := w) hr)
    exact ⟨.pointer (some ⟨b, off + o, none⟩), by simp only [execOp, hv]; rw [Sem.run_bind, run_fieldAt hf]; rfl, b, h1, rfl⟩
theorem S.field {T f o : Nat} {us us' : List X} (hf : FiI E.P T f o) (hg : Gd all s guard rg) (hd : (Nat.blt d 1000 && Nat.blt d E.nt) = true) (hx : OpS s x (.eptr us) r) (hu : us.drop o = us') :
    St1 E all ⟨some d, .fieldAddr T x f, ty, pos, after, guard⟩ s (rg ++ r) [(d, .eptr us')] [] :=
  St1.val hg hd rfl hx.looks fun c A w hh hr => by
    subst hu
    obtain ⟨b, off, vs, hv, hl, h1, h2⟩ := eptr_of (hx.rep (c := c) (a := A) (w := w) hr)
    refine ⟨.pointer (some ⟨b, off + o, none⟩), by simp only [execOp, hv]; rw [Sem.run_bind, run_fieldAt hf]; rfl, .eptr _ b (off + o) (vs.drop o) (by simp [hl]) ?_ ?_⟩
    · intro i v hv; rw [List.getElem?_drop] at hv; rw [Nat.add_assoc]; exact h1 _ _ hv
    · intro i x v hx hv; rw [List.getElem?_drop] at hx hv; exact h2 _ _ _ hx hv
theorem sl_of {c : Ctx} {rows : List (List X)} {v : Value} (h : RepT c (.sl rows) v) : ∃ a cap, v = .slice a rows.length cap ∧ rows.length ≤ cap ∧ cap ≤ maxLen ∧ (rows = [] ∨ ∃ (b off sz : Nat) (vs : List Value), a = some ⟨b, off, none⟩ ∧ (∀ r ∈ rows, r.length = sz) ∧ rows.flatten.length = vs.length ∧
    (∀ (i : Nat) (v : Value), vs[i]? = some v → c.h ⟨b, off + i, none⟩ = some v) ∧ ∀ (i : Nat) (x : X) (v : Value), rows.flatten[i]? = some x → vs[i]? = some v → RepD c.h x v) := by
  cases h with
  | sl0 a cap e => exact ⟨a, cap, rfl, Nat.zero_le _, e, .inl rfl⟩
  | sl _ b off cap sz vs h1 h2 h3 h4 h5 h6 => exact ⟨_, cap, rfl, h1, h2, .inr ⟨b, off, sz, vs, rfl, h3, h4, h5, h6⟩⟩
theorem flatten_length {α : Type} {sz : Nat} : ∀ {rows : List (List α)}, (∀ r ∈ rows, r.length = sz) → rows.flatten.length = rows.length * sz
  | [], _ => by simp
  | r :: rows, h => by
    rw [List.flatten_cons, List.length_append, flatten_length (fun r hr => h r (List.mem_cons_of_mem _ hr)), h r List.mem_cons_self, List.length_cons, Nat.add_mul]; omega
theorem flatten_at {α : Type} {sz : Nat} : ∀ {rows : List (List α)} (i : Nat) {row : List α}, (∀ r ∈ rows, r.length = sz) → rows[i]? = some row → (rows.flatten.drop (i * sz)).take sz = row
  | [], i, row, _, h => by simp at h
  | r :: rows, 0, row, h, hr => by
    simp at hr; subst hr
    have := h r List.mem_cons_self
    simp [← this]
  | r :: rows, i + 1, row, h, hr => by
    have h1 := h r List.mem_cons_self
    rw [List.flatten_cons, Nat.add_mul, Nat.one_mul, Nat.add_comm, ← List.drop_drop]
    have : (r ++ rows.flatten).drop sz = rows.flatten := by rw [← h1]; simp
    rw [this]
    exact flatten_at i (fun r hr => h r (List.mem_cons_of_mem _ hr)) (by simpa using hr)
theorem S.index {t e sz : Nat} {rows : List (List X)} {i : Int} {row : List X} (hs : SlI E.P t e sz) (hg : Gd all s guard rg) (hd : (Nat.blt d 1000 && Nat.blt d E.nt) = true) (hx : OpS s x (.sl rows) r1) (hy : OpS s y (.int k i) r2)
    (h0 : 0 ≤ i) (hi : rows[i.toNat]? = some row) (hsz : row.length = sz) : St1 E all ⟨some d, .indexAddr t x y, ty, pos, after, guard⟩ s (rg ++ (r1 ++ r2)) [(d, .eptr row)] [] :=
  St1.val hg hd rfl (hx.looks.app hy.looks) fun c A w hh hr => by
    obtain ⟨a, cap, hv, h1, h2, h3⟩ := sl_of (hx.rep (c := c) (a := A) (w := w) fun p hp => hr p (by simp [hp]))
    obtain ⟨hw, _⟩ := int_of (hy.rep (c := c) (a := A) (w := w) fun p hp => hr p (by simp [hp]))
    have hlt : i.toNat < rows.length := (List.getElem?_eq_some_iff.1 hi).1
    rcases h3 with rfl | ⟨b, off, sz', vs, rfl, h3, h4, h5, h6⟩
    · simp at hlt
    · have hsz' : sz' = sz := by rw [← hsz]; exact (h3 row (List.mem_of_getElem? hi)).symm
      subst hsz'
      have hfl := flatten_length h3
      have hat := flatten_at i.toNat h3 hi
      have hin : i.toNat * sz' + sz' ≤ rows.length * sz' := by rw [← Nat.succ_mul]; exact Nat.mul_le_mul_right _ hlt
      refine ⟨.pointer (some ⟨b, off + i.toNat * sz', none⟩), ?_, .eptr row b (off + i.toNat * sz') ((vs.drop (i.toNat * sz')).take sz') ?_ ?_ ?_⟩
      · have hi2 : i < (rows.length : Int) := by omega
        simp [execOp, hv, hw, Instr.indexAt, asIntOf, run_underlying hs.und, hs.size, h0, hi2, add_off]
      · rw [hsz]; simp; omega
      · intro j v hv
        rw [List.getElem?_take] at hv
        split at hv
        · rw [List.getElem?_drop] at hv; rw [Nat.add_assoc]; exact h5 _ _ hv
        · cases hv
      · intro j u v hu hv
        rw [List.getElem?_take] at hv
        split at hv
        · rename_i hj
          rw [List.getElem?_drop] at hv
          rw [← hat, List.getElem?_take, if_pos hj, List.getElem?_drop] at hu
          exact h6 _ _ _ hu hv
        · cases hv
theorem wrap_len {n : Nat} (h : n ≤ maxLen) : IntKind.i64.wrap n = n := by
  unfold maxLen at h
  exact IntWalk.i64_in _ ⟨by omega, by omega⟩
theorem S.len {t : Nat} {e sz : Nat} {rows : List (List X)} (hs : SlI E.P t e sz) (hg : Gd all s guard rg) (hd : (Nat.blt d 1000 && Nat.blt d E.nt) = true) (hx : OpS s x (.sl rows) r) :
    St1 E all ⟨some d, .call { callee := .builtin .len, args := #[x], argTypes := #[t] }, ty, pos, after, guard⟩ s (rg ++ r) [(d, .int .i64 rows.length)] [] :=
  St1.val hg hd rfl hx.looks fun c A w hh hr => by
    obtain ⟨a, cap, hv, h1, h2, _⟩ := sl_of (hx.rep (c := c) (a := A) (w := w) hr)
    refine ⟨.int .i64 rows.length, ?_, RepD.toT (.int (wrap_len (Nat.le_trans h1 h2)))⟩
    simp [execOp, resolve, invoke, builtin, hv, Builtin.len_, run_underlying hs.und, goInt]
theorem arr_of {c : Ctx} {a : Act} {w : World} {k sz : Nat} {rows : List (List X)} (h : Holds c a w (2000 + k) (.arr sz rows)) :
    ∃ hv e vs, c.arr k = some (rows.length, hv, true) ∧ w.ownsRow 0 e sz hv rows.length vs ∧ (∀ r ∈ rows, r.length = sz) ∧ All2 (RepD c.h) rows.flatten vs := by
  unfold Holds at h
  by_cases hk : k < 1000
  case neg =>
    rw [if_neg (by omega), if_neg (by omega), if_neg (by omega)] at h
    rcases h with h | ⟨_, J, hJ, _⟩
    · cases h
    · cases hJ
  rw [if_neg (by omega), if_neg (by omega), if_pos (by omega), Nat.add_sub_cancel_left] at h
  rcases h with h | ⟨sz', rows', hv, e, vs, ⟨rfl, rfl, h4⟩, h1, h2, h3⟩
  · cases h
  · exact ⟨hv, e, vs, h1, h2, h3, h4⟩
theorem arr_lt {c : Ctx} {a : Act} {w : World} {k sz : Nat} {rows : List (List X)} (h : Holds c a w (2000 + k) (.arr sz rows)) : k < 1000 := by
  unfold Holds at h
  refine Decidable.byContradiction fun hk => ?_
  rw [if_neg (by omega), if_neg (by omega), if_neg (by omega)] at h
  rcases h with h | ⟨_, J, hJ, _⟩
  · cases h
  · cases hJ
theorem S.lenOwn {t e sz k n w2 : Nat} {rows : List (List X)} (hs : SlI E.P t e sz) (hg : Gd all s guard rg) (hd : (Nat.blt d 1000 && Nat.blt d E.nt) = true) (hx : OpS s x (.own k n) r) (hl : look s (2000 + k) = some (.arr w2 rows)) (hn : rows.length = n) :
    St1 E all ⟨some d, .call { callee := .builtin .len, args := #[x], argTypes := #[t] }, ty, pos, after, guard⟩ s (rg ++ (r ++ [(2000 + k, .arr w2 rows)])) [(d, .int .i64 n)] [] :=
  St1.val hg hd rfl (hx.looks.app ⟨hl, trivial⟩) fun c A w hh hr => by
    subst hn
    obtain ⟨_, m, hv, lv, e1, e2, e3⟩ := hx.rep (c := c) (a := A) (w := w) fun p hp => hr p (by simp [hp])
    obtain ⟨hv', e', vs, f1, f2, f3, f4⟩ := arr_of (hr (2000 + k, .arr w2 rows) (by simp))
    rw [f1] at e1; cases e1
    have hev := e3 rfl
    have hlen : ∃ a cp, hv = .slice a rows.length cp ∧ rows.length ≤ maxLen := by
      rcases f2.2 with ⟨rfl, h0⟩ | ⟨g, cap, cur, rfl, _, _, h5, h6, _⟩
      · exact ⟨none, 0, by rw [h0], by rw [h0]; exact Nat.zero_le _⟩
      · exact ⟨_, _, rfl, Nat.le_trans h5 h6⟩
    obtain ⟨a, cp, rfl, hm⟩ := hlen
    refine ⟨.int .i64 rows.length, ?_, RepD.toT (.int (wrap_len hm))⟩
    simp [execOp, resolve, invoke, builtin, hev, Builtin.len_, run_underlying hs.und, goInt]
theorem S.slen {t : Nat} {l : List UInt8} (hs : E.P.underlying t = some .string) (hg : Gd all s guard rg) (hd : (Nat.blt d 1000 && Nat.blt d E.nt) = true) (hx : OpS s x (.str l) r) :
    St1 E all ⟨some d, .call { callee := .builtin .len, args := #[x], argTypes := #[t] }, ty, pos, after, guard⟩ s (rg ++ r) [(d, .int .i64 l.length)] [] :=
  St1.val hg hd rfl hx.looks fun c A w hh hr => by
    obtain ⟨hv, h1⟩ := str_of (hx.rep (c := c) (a := A) (w := w) hr)
    refine ⟨.int .i64 l.length, ?_, RepD.toT (.int (wrap_len h1))⟩
    have hsz : (⟨l.toArray⟩ : ByteArray).size = l.length := by show l.toArray.size = _; simp
    simp [execOp, resolve, invoke, builtin, hv, Builtin.len_, run_underlying hs, goInt, hsz]
end
end Go.Ab
namespace Go.Ab
open Go.RowKit
def Ct (P : Program) (f : Nat) (args : List X) (res : X) : Prop :=
  ∀ (h : Mem) (w : World) (vs : List Value), (∀ p v, h p = some v → w.cell? p = some v) → All2 (RepV (pureC h)) args vs →
    Calls P f vs.toArray w fun e w' => ∃ v h', e = .returned v ∧ Below w.heap.size w w' ∧ Mem.le h h' ∧ (∀ p v, h' p = some v → h p = some v ∨ w.heap.size ≤ p.block) ∧
      (∀ p v, h' p = some v → w'.cell? p = some v) ∧ RepT (pureC h') res v
def okD : X → Bool
  | .int _ _ | .bool _ | .str _ | .sl _ | .eptr _ => true
  | .raw v => v.oneCell'
  | _ => false
theorem RepD.of_raw {h : Mem} {u v : Value} (e : v = u) (hu : u.oneCell' = true) : RepD h (.raw u) v := by subst e; exact .raw _ hu
theorem D_of {c : Ctx} {u : X} {v : Value} (h : RepC c u v) (hu : okD u = true) : RepD c.h u v := by
  cases u <;> first | exact h | exact RepD.of_raw h hu | cases hu
theorem Ds_of {c : Ctx} : ∀ {us : List X} {vs : List Value}, All2 (RepC c) us vs → us.all okD = true → All2 (RepD c.h) us vs
  | [], [], _, _ => trivial
  | _ :: _, _ :: _, h, ho => by simp only [List.all_cons, Bool.and_eq_true] at ho; exact ⟨D_of h.1 ho.1, Ds_of h.2 ho.2⟩
  | [], _ :: _, h, _ => h.elim
  | _ :: _, [], h, _ => h.elim
inductive ResC (fs : List Nat) (s : St) : X → X → Prop
  | same {x : X} : okC [] x = true → ResC fs s x x
  | own {k n sz : Nat} {rows : List (List X)} (hk : Nat.blt k 1000 = true) (hl : look s (2000 + k) = some (.arr sz rows)) (hn : rows.length = n) (hk9 : fs.contains k = false := by rfl) : ResC fs s (.own k n) (.sl rows)
  | nils : ResC fs s .nils (.sl [])
  | ptr {k off : Nat} {cells cells' : List X} (hk : Nat.blt k 1000 = true) (hl : look s (1000 + k) = some (.box cells)) (hD : cells.all okD = true) (hd : cells.drop off = cells') (hk9 : fs.contains k = false := by rfl) : ResC fs s (.ptr k off) (.eptr cells')
def isFn : X → Bool
  | .fn _ _ => true
  | _ => false
inductive ResV (fs : List Nat) (s : St) : X → X → Prop
  | c {x y : X} : ResC fs s x y → isAT x = false → ResV fs s x y
  | agg {xs ys : List X} : All2 (ResC fs s) xs ys → ResV fs s (.agg xs) (.agg ys)
  | fn {f : Nat} {xs ys : List X} : All2 (ResC fs s) xs ys → xs.all (fun x => !isFn x) = true → ResV fs s (.fn f xs) (.fn f ys)
theorem Base.not_out_loc {E : Env} {U : List Nat} {c : Ctx} {a : Act} {w : World} (hb : Base E U c a w) {k b : Nat} (h : c.loc k = some b) (hk : k ∉ E.fs) : ¬ c.out E.fs b := by
  rintro (hy | ⟨k', h1, h2⟩ | ⟨k', m, hv, h1, h2, h3⟩)
  · exact (hb.Y b hy).2.2.1 k h
  · exact hk ((hb.loc k b h).2.2.2.1 k' h2 ▸ h1)
  · exact (hb.loc k b h).2.2.2.2 k' m hv h2 h3
theorem Base.not_out_arr {E : Env} {U : List Nat} {c : Ctx} {a : Act} {w : World} (hb : Base E U c a w) {k m b : Nat} {hv : Value} (h : c.arr k = some (m, hv, true)) (hbk : hv.ownBlock = some b) (hk : k ∉ E.fs) : ¬ c.out E.fs b := by
  rintro (hy | ⟨k', h1, h2⟩ | ⟨k', m', hv', h1, h2, h3⟩)
  · exact (hb.Y b hy).2.2.2 k m hv h hbk
  · exact (hb.loc k' b h2).2.2.2.2 k m hv h hbk
  · exact hk ((hb.arr k m hv b h hbk).2.2.2 k' m' hv' h2 h3 ▸ h1)
theorem Base.out_X {E : Env} {U : List Nat} {c : Ctx} {a : Act} {w : World} (hb : Base E U c a w) {b : Nat} (h : c.out E.fs b) (hlt : b < E.B) : E.X b := by
  rcases h with hy | ⟨k, h1, h2⟩ | ⟨k, m, hv, h1, h2, h3⟩
  · exact (hb.Y b hy).2.1 hlt
  · rcases (hb.loc k b h2).1 with h | h
    · omega
    · exact h.2
  · rcases (hb.arr k m hv b h2 h3).1 with h | h
    · omega
    · exact h.2
theorem Base.out_lt {E : Env} {U : List Nat} {c : Ctx} {a : Act} {w : World} (hb : Base E U c a w) {b : Nat} (h : c.out E.fs b) : b < w.heap.size := by
  rcases h with hy | ⟨k, h1, h2⟩ | ⟨k, m, hv, h1, h2, h3⟩
  · exact (hb.Y b hy).1
  · exact (hb.loc k b h2).2.1
  · exact (hb.arr k m hv b h2 h3).2.1
open Classical in

noncomputable def Env.fin (E : Env) (c : Ctx) (w : World) : Mem := fun p => if p.block < E.B ∨ c.out E.fs p.block then c.h p else w.cell? p
theorem Env.fin_le {E : Env} {U : List Nat} {c : Ctx} {a : Act} {w : World} (hb : Base E U c a w) : Mem.le c.h (E.fin c w) := by
  intro p v h
  unfold Env.fin
  split
  · exact h
  · exact hb.hw p v h
theorem ctx_cut_ext {c : Ctx} {h' : Mem} (hh : Mem.le c.h h') : Ext (c.cut []) (pureC h') :=
  ⟨hh, fun k b e => by simp [Ctx.cut] at e, fun k m hv lv e => by simp [Ctx.cut] at e⟩
theorem RepD.of_owns {B : Nat} {w : World} {e sz : Nat} {hv : Value} {rows : List (List X)} {vs : List Value} {h h' : Mem} (ho : w.ownsRow B e sz hv rows.length vs) (hr : ∀ r ∈ rows, r.length = sz) (ha : All2 (RepD h) rows.flatten vs)
    (hh : Mem.le h h') (hcell : ∀ b o, hv.ownBlock = some b → h' ⟨b, o, none⟩ = w.cell? ⟨b, o, none⟩) : RepD h' (.sl rows) hv := by
  obtain ⟨h1, ⟨rfl, h2⟩ | ⟨g, cap, cur, rfl, _, hg, hn, hc, hs, ht⟩⟩ := ho
  · have : rows = [] := List.eq_nil_of_length_eq_zero h2
    subst this
    exact .sl0 none 0 (Nat.zero_le _)
  · refine .sl rows g 0 cap sz vs hn hc hr ha.length ?_ ?_
    · intro i v hv
      rw [hcell g _ rfl, cell_of_row w g (0 + i) cur e (0, 0) hg, Nat.zero_add]
      rw [← ht, List.getElem?_take] at hv
      split at hv
      · simpa using hv
      · cases hv
    · intro i x v hx hv
      exact (ha.get hx hv).mono hh
theorem ResC.fin {E : Env} {U : List Nat} {c : Ctx} {a : Act} {w : World} {s : St} (hb : Base E U c a w) (hh : ∀ key x, look s key = some x → Holds c a w key x) {x y : X} {v : Value} (hr : ResC E.fs s x y) (hx : RepC c x v) :
    RepC (pureC (E.fin c w)) y v := by
  cases hr with
  | nils =>
    have : v = .slice none 0 0 := hx
    subst this
    exact RepD.toC (c := (pureC (E.fin c w))) (.sl0 none 0 (Nat.zero_le _))
  | same ho => exact (hx.cut ho).mono (ctx_cut_ext (Env.fin_le hb))
  | @ptr k off cells cells' hk hl hD hd hk9 =>
    subst hd
    obtain ⟨b, h1, rfl⟩ := hx
    obtain ⟨b', T, vs, h2, h3, h4⟩ := box_of (hh (1000 + k) (.box cells) hl) (by rw [Nat.blt_eq] at hk; omega)
    rw [h1] at h2; cases h2
    have hds := Ds_of h4 hD
    have hbB := Env.ok_own (hb.loc k b h1).1 (nfs hk9)
    have hbY := hb.not_out_loc h1 (nfs hk9)
    refine RepD.toC (c := (pureC (E.fin c w))) (RepD.eptr _ b off (vs.toList.drop off) (by have := h4.length; simp at this ⊢; omega) ?_ ?_)
    · intro i v hv
      rw [List.getElem?_drop] at hv
      show E.fin c w ⟨b, off + i, none⟩ = _
      unfold Env.fin
      rw [if_neg (by show ¬ (b < E.B ∨ c.out E.fs b); exact fun h => h.elim (by omega) hbY), cell_of_row w b (off + i) vs T (0, 0) h3]
      simpa using hv
    · intro i x v hx hv
      rw [List.getElem?_drop] at hx hv
      exact (hds.get hx hv).mono (Env.fin_le hb)
  | @own k n sz rows hk hl hn hk9 =>
    obtain ⟨hv, e, vs, h1, h2, h3, h4⟩ := arr_of (hh _ _ hl)
    obtain ⟨_, m, hv', lv, e1, e2, e3⟩ := hx
    rw [h1] at e1
    cases e1
    rw [e3 hn.symm]
    refine RepD.toC (c := (pureC (E.fin c w))) (RepD.of_owns h2 h3 h4 (Env.fin_le hb) fun b o hbk => ?_)
    have hbB := Env.ok_own (hb.arr k _ _ b h1 hbk).1 (nfs hk9)
    show E.fin c w _ = _
    unfold Env.fin
    rw [if_neg (by show ¬ (b < E.B ∨ c.out E.fs b); exact fun h => h.elim (by omega) (hb.not_out_arr h1 hbk (nfs hk9)))]
theorem All2.fin {E : Env} {U : List Nat} {c : Ctx} {a : Act} {w : World} {s : St} (hb : Base E U c a w) (hh : ∀ key x, look s key = some x → Holds c a w key x) : ∀ {xs ys : List X} {vs : List Value}, All2 (ResC E.fs s) xs ys → All2 (RepC c) xs vs →
    All2 (RepC (pureC (E.fin c w))) ys vs
  | [], [], [], _, _ => trivial
  | _ :: _, _ :: _, _ :: _, h, h' => ⟨h.1.fin hb hh h'.1, All2.fin hb hh h.2 h'.2⟩
  | [], _ :: _, _, h, _ => h.elim
  | _ :: _, [], _, h, _ => h.elim
  | [], [], _ :: _, _, h => h.elim
  | _ :: _, _ :: _, [], _, h => h.elim
theorem V.toC {c : Ctx} {u : X} {v : Value} (h : RepV c u v) (hu : isAT u = false) : RepC c u v := by
  cases u <;> first | exact h | cases hu
theorem C.toV {c : Ctx} {u : X} {v : Value} (h : RepC c u v) (hu : isAT u = false) : RepV c u v := by
  cases u <;> first | exact h | cases hu
theorem T.toV {c : Ctx} {u : X} {v : Value} (h : RepT c u v) (hu : isTup u = false) : RepV c u v := by
  cases u <;> first | exact h | cases hu
theorem V.toT {c : Ctx} {u : X} {v : Value} (h : RepV c u v) (hu : isTup u = false) : RepT c u v := by
  cases u <;> first | exact h | cases hu
theorem ResC.notAT {fs : List Nat} {s : St} {x y : X} (h : ResC fs s x y) (hx : isAT x = false) : isAT y = false := by
  cases h with
  | same _ => exact hx
  | own _ _ _ _ => rfl
  | nils => rfl
  | ptr _ _ _ _ _ => rfl
theorem nf_toC {c : Ctx} {x : X} {v : Value} (h : RepP c x v) (hn : isFn x = false) : RepC c x v := by cases x <;> first | exact h | cases hn
theorem nf_toP {c : Ctx} {x : X} {v : Value} (h : RepC c x v) (hn : isFn x = false) : RepP c x v := by cases x <;> first | exact h | cases hn
theorem ResC.nf {fs : List Nat} {s : St} {x y : X} (h : ResC fs s x y) (hx : isFn x = false) : isFn y = false := by
  cases h with
  | same _ => exact hx
  | own _ _ _ _ => rfl
  | nils => rfl
  | ptr _ _ _ _ _ => rfl
theorem All2.finP {E : Env} {U : List Nat} {c : Ctx} {a : Act} {w : World} {s : St} (hb : Base E U c a w) (hh : ∀ key x, look s key = some x → Holds c a w key x) : ∀ {xs ys : List X} {vs : List Value}, All2 (ResC E.fs s) xs ys → xs.all (fun x => !isFn x) = true → All2 (RepP c) xs vs →
    All2 (RepP (pureC (E.fin c w))) ys vs
  | [], [], [], _, _, _ => trivial
  | _ :: _, _ :: _, _ :: _, h, hn, h' => by
    simp only [List.all_cons, Bool.and_eq_true, Bool.not_eq_true'] at hn
    exact ⟨nf_toP (h.1.fin hb hh (nf_toC h'.1 hn.1)) (h.1.nf hn.1), All2.finP hb hh h.2 (by simpa using hn.2) h'.2⟩
  | [], _ :: _, _, h, _, _ => h.elim
  | _ :: _, [], _, h, _, _ => h.elim
  | [], [], _ :: _, _, _, h => h.elim
  | _ :: _, _ :: _, [], _, _, h => h.elim
theorem ResV.fin {E : Env} {U : List Nat} {c : Ctx} {a : Act} {w : World} {s : St} (hb : Base E U c a w) (hh : ∀ key x, look s key = some x → Holds c a w key x) {x y : X} {v : Value} (hr : ResV E.fs s x y) (hx : RepV c x v) :
    RepV (pureC (E.fin c w)) y v := by
  cases hr with
  | c h hn => exact C.toV (h.fin hb hh (V.toC hx hn)) (h.notAT hn)
  | agg h => obtain ⟨vs, h1, h2⟩ := hx; exact ⟨vs, h1, All2.fin hb hh h h2⟩
  | fn h hn => obtain ⟨vs, h1, h2⟩ := hx; exact ⟨vs, h1, All2.finP hb hh h hn h2⟩
theorem tupAT {y : X} (h : isAT y = false) : isTup y = false := by cases y <;> first | rfl | cases h
inductive RetI (E : Env) (s : St) : ResultVar → X → Prop
  | tmp {t : Nat} {x y : X} : Nat.blt t 1000 = true → look s t = some x → ResV E.fs s x y → isTup x = false → RetI E s (.tmp t) y
  | cellN {t T k n : Nat} {cells ys : List X} : Nat.blt t 1000 = true → look s t = some (.ptr k 0) → Nat.blt k 1000 = true → look s (1000 + k) = some (.box cells) → TyI E.P T true n → cells.length = n → All2 (ResC E.fs s) cells ys → RetI E s (.cell t T) (.agg ys)
  | cell1 {t T k n : Nat} {x y : X} : Nat.blt t 1000 = true → look s t = some (.ptr k 0) → Nat.blt k 1000 = true → look s (1000 + k) = some (.box [x]) → TyI E.P T false n → ResC E.fs s x y → isAT x = false → RetI E s (.cell t T) y
def resSem (tmps : Array Value) : ResultVar → Sem Value
  | .tmp t => pure (tmps.getD t undef)
  | .cell a t => do loadVar t (← asAddr (tmps.getD a undef))
theorem ResV.notTup {fs : List Nat} {s : St} {x y : X} (h : ResV fs s x y) (hx : isTup x = false) : isTup y = false := by
  cases h with
  | c h hn => exact tupAT (h.notAT hn)
  | agg _ => rfl
  | fn _ _ => rfl
theorem RetI.fin {E : Env} {U : List Nat} {c : Ctx} {a : Act} {w : World} {s : St} (hb : Base E U c a w) (hh : ∀ key x, look s key = some x → Holds c a w key x) {r : ResultVar} {y : X} (h : RetI E s r y) :
    ∃ v, (resSem a.tmps r).run E.P w = .ok v w ∧ RepV (pureC (E.fin c w)) y v ∧ isTup y = false := by
  cases h with
  | tmp ht hl hr hn => exact ⟨_, rfl, hr.fin hb hh (T.toV ((hh _ _ hl).slot ht) hn), hr.notTup hn⟩
  | cellN ht hl hk hbox hT hlen hres =>
    rw [Nat.blt_eq] at hk
    obtain ⟨b, h1, hv⟩ := ptr_of ((hh _ _ hl).slot ht)
    obtain ⟨b', T', vs, h2, h3, h4⟩ := box_of (hh _ _ hbox) hk
    rw [h1] at h2; cases h2
    refine ⟨.agg vs, ?_, ⟨vs.toList, by simp, All2.fin hb hh hres h4⟩, rfl⟩
    have := run_loadN (P := E.P) hT (b := b) (o := 0) (vs := vs.toList) (w := w) (by rw [← h4.length, hlen]) fun i v hv => by
      rw [cell_of_row w b (0 + i) vs T' (0, 0) h3]; simpa using hv
    simp only [Instr.loadAt, Instr.sureAddr] at this
    simp only [resSem, hv, asAddr]
    simpa using this
  | cell1 ht hl hk hbox hT hres hn =>
    rw [Nat.blt_eq] at hk
    obtain ⟨b, h1, hv⟩ := ptr_of ((hh _ _ hl).slot ht)
    obtain ⟨b', T', vs, h2, h3, h4⟩ := box_of (hh _ _ hbox) hk
    rw [h1] at h2; cases h2
    obtain ⟨v, vs', hvs, hr1, _⟩ := h4.cons_left
    refine ⟨v, ?_, C.toV (hres.fin hb hh hr1) (hres.notAT hn), ?_⟩
    · have := run_load1 (P := E.P) hT (b := b) (o := 0) (v := v) (w := w) (by rw [cell_of_row w b 0 vs T' (0, 0) h3, ← Array.getElem?_toList, hvs]; rfl)
      simp only [Instr.loadAt, Instr.sureAddr] at this
      simp only [resSem, hv, asAddr]
      simpa using this
    · exact tupAT (hres.notAT hn)
def tupOf : List X → X
  | [y] => y
  | ys => .tup ys
def RetQ (E : Env) (rs : List ResultVar) (res : X) : Exit → List Nat → St → Prop := fun e _ s => (e = .ret ∨ e = .normal) ∧ ∃ ys, All2 (RetI E s) rs ys ∧ tupOf ys = res
theorem run_resSems {E : Env} {U : List Nat} {c : Ctx} {a : Act} {w : World} {s : St} (hb : Base E U c a w) (hh : ∀ key x, look s key = some x → Holds c a w key x) : ∀ {rs : List ResultVar} {ys : List X}, All2 (RetI E s) rs ys →
    ∃ vs, (rs.mapM (resSem a.tmps)).run E.P w = .ok vs w ∧ All2 (RepV (pureC (E.fin c w))) ys vs ∧ ∀ y ∈ ys, isTup y = false
  | [], [], _ => ⟨[], rfl, trivial, fun y hy => by cases hy⟩
  | r :: rs, y :: ys, h => by
    obtain ⟨v, h1, h2, h3⟩ := h.1.fin hb hh
    obtain ⟨vs, h4, h5, h6⟩ := run_resSems hb hh h.2
    refine ⟨v :: vs, ?_, ⟨h2, h5⟩, fun y hy => ?_⟩
    · rw [List.mapM_cons]; simp [Sem.run_bind, h1, h4]
    · rcases List.mem_cons.1 hy with rfl | hy
      · exact h3
      · exact h6 y hy
  | [], _ :: _, h => h.elim
  | _ :: _, [], h => h.elim
def argSt : Nat → List X → St
  | _, [] => []
  | i, x :: xs => (i, x) :: argSt (i + 1) xs
theorem look_argSt {key : Nat} {x : X} : ∀ {xs : List X} {i : Nat}, look (argSt i xs) key = some x → i ≤ key ∧ xs[key - i]? = some x
  | [], _, h => by cases h
  | y :: ys, i, h => by
    simp only [argSt, look] at h
    split at h
    · rename_i hb
      have := Nat.eq_of_beq_eq_true hb
      subst this
      cases h
      simp
    · rename_i hb
      have hne : i ≠ key := fun e => hb (by rw [e]; exact Nat.beq_refl key)
      obtain ⟨h1, h2⟩ := look_argSt h
      refine ⟨by omega, ?_⟩
      rw [show key - i = (key - (i + 1)) + 1 by omega, List.getElem?_cons_succ]
      exact h2
abbrev mkE (P : Program) (nt : Nat) (fs : List Nat) (w : World) (c : Ctx) : Env := ⟨P, nt, fs, c, w, none, []⟩
theorem cell_putObj {w : World} {D : Nat} {o o' : Obj} (h : w.heap[D]? = some o) (ho : o.isCells = false) (ho' : o'.isCells = false) (p : Addr) : (w.putObj D o').cell? p = w.cell? p := by
  by_cases hp : p.block = D
  · have h1 : (w.putObj D o').heap[p.block]? = some o' := by rw [hp]; exact World.putObj_heap_same (Array.getElem?_eq_some_iff.1 h).1
    rw [← hp] at h
    unfold World.cell?
    rw [h1, h]
    cases o <;> cases o' <;> simp_all [Obj.isCells]
  · exact World.cell?_of_block (World.putObj_heap_other hp)
theorem leaves_marks {P : Program} {fn : Func} {tmps : Array Value} {R : Ending → World → Prop} {B : Nat} {Z : Nat → Prop} : ∀ (ds : List Deferred) (w : World), ds.Pairwise (· ≠ ·) →
    (∀ d ∈ ds, ∃ D, d = { target := .collected D, args := #[] } ∧ B ≤ D ∧ ¬ Z D ∧ w.heap[D]? = some (.deferred (some []))) →
    (∀ w' : World, w'.os = w.os → w'.tape = w.tape → w'.output = w.output → w'.heap.size = w.heap.size → (∀ k, (k < B ∨ Z k ∨ ∃ o : Obj, w.heap[k]? = some o ∧ o.isCells = true) → w'.heap[k]? = w.heap[k]?) → (∀ p, w'.cell? p = w.cell? p) → ∃ v, (results fn tmps).run P w' = .ok v w' ∧ R (.returned v) w') →
    LeavesInM Fence.wide 0 P fn tmps R ds .returning w
  | [], w, _, _, hR => by
    obtain ⟨v, h1, h2⟩ := hR w rfl rfl rfl rfl (fun _ _ => rfl) (fun _ => rfl)
    exact ⟨v, h1, h2⟩
  | d :: ds, w, hp, hd, hR => by
    obtain ⟨D, rfl, hB, hZ, hD⟩ := hd d List.mem_cons_self
    obtain ⟨hp1, hp2⟩ := List.pairwise_cons.1 hp
    have ho : ∀ k, k ≠ D → (w.putObj D (.deferred none)).heap[k]? = w.heap[k]? := fun k hk => World.putObj_heap_other hk
    refine ⟨(fun h => by cases h), .inl ⟨D, w.putObj D (.deferred none), rfl, ?_, leaves_marks (B := B) (Z := Z) ds _ hp2 ?_ ?_⟩⟩
    · exact run_takeDeferred hD
    · intro d' hd'
      obtain ⟨D', rfl, h1, h2, h3⟩ := hd d' (List.mem_cons_of_mem _ hd')
      exact ⟨D', rfl, h1, h2, (ho D' fun e => hp1 _ hd' (by rw [e])).trans h3⟩
    · intro w' e1 e2 e3 e4 e5 e6
      have hne : ∀ k, (k < B ∨ Z k ∨ ∃ o : Obj, w.heap[k]? = some o ∧ o.isCells = true) → k ≠ D := by
        rintro k hk rfl
        rcases hk with hk | hk | ⟨o, h1, h2⟩
        · omega
        · exact hZ hk
        · rw [hD] at h1; cases h1; cases h2
      refine hR w' e1 e2 e3 (by rw [e4]; simp) (fun k hk => (e5 k ?_).trans (ho k (hne k hk))) fun p => (e6 p).trans (cell_putObj hD rfl rfl p)
      exact hk.imp id (Or.imp id fun ⟨o, h1, h2⟩ => ⟨o, (ho k (hne k hk)).trans h1, h2⟩)
structure CtxOk (fs : List Nat) (c : Ctx) (w : World) : Prop where
  hw : ∀ p v, c.h p = some v → w.cell? p = some v
  loc : ∀ k b, c.loc k = some b → k ∈ fs ∧ b < w.heap.size ∧ (∀ o, c.h ⟨b, o, none⟩ = none) ∧ (∀ k', c.loc k' = some b → k' = k) ∧ (∀ k' m hv, c.arr k' = some (m, hv, true) → hv.ownBlock ≠ some b)
  arr : ∀ k m hv b, c.arr k = some (m, hv, true) → hv.ownBlock = some b → k ∈ fs ∧ b < w.heap.size ∧ (∀ o, c.h ⟨b, o, none⟩ = none) ∧ (∀ k' m' hv', c.arr k' = some (m', hv', true) → hv'.ownBlock = some b → k' = k)
  none : ∀ k, k ∉ fs → c.loc k = none ∧ c.arr k = none
  Y : ∀ b, c.Y b → b < w.heap.size ∧ (∀ k, c.loc k ≠ some b) ∧ (∀ k m hv, c.arr k = some (m, hv, true) → hv.ownBlock ≠ some b)
structure PostG (fs : List Nat) (c : Ctx) (w : World) (wr : St) (res : X) (v : Value) (c' : Ctx) (w' : World) : Prop where
  below : BelX w.heap.size (c.out fs) w w'
  ok : CtxOk fs c' w'
  le : Mem.le c.h c'.h
  new : ∀ p v, c'.h p = some v → c.h p = some v ∨ (w.heap.size ≤ p.block ∧ ¬ c'.out fs p.block)
  out : ∀ b, c'.out fs b → b < w.heap.size → c.out fs b
  loc : ∀ k b, c'.loc k = some b → c.loc k = some b
  arr : ∀ k m hv lv, c'.arr k = some (m, hv, lv) → ∃ m0 hv0 lv0, c.arr k = some (m0, hv0, lv0) ∧ m0 ≤ m ∧ (m0 = m → hv = hv0)
  wr : ∀ p ∈ wr, ∀ a, Holds c' a w' p.1 p.2
  res : RepT c' res v
def CtG (P : Program) (f : Nat) (fs : List Nat) (args : List X) (rd wr : St) (res : X) : Prop :=
  ∀ (c : Ctx) (w : World) (vs : List Value), CtxOk fs c w → (∀ p ∈ rd, ∀ a, Holds c a w p.1 p.2) → All2 (RepV c) args vs →
    Calls P f vs.toArray w fun e w' => ∃ v c', e = .returned v ∧ PostG fs c w wr res v c' w'
def Ctx.pub (c : Ctx) (fs : List Nat) (h : Mem) : Ctx := ⟨h, fun k => if fs.contains k then c.loc k else none, fun k => if fs.contains k then c.arr k else none, c.Y⟩
theorem pub_loc {c : Ctx} {fs : List Nat} {h : Mem} {k b : Nat} (e : (c.pub fs h).loc k = some b) : k ∈ fs ∧ c.loc k = some b := by
  simp only [Ctx.pub] at e; split at e
  · exact ⟨List.contains_iff_mem.1 ‹_›, e⟩
  · cases e
theorem pub_arr {c : Ctx} {fs : List Nat} {h : Mem} {k : Nat} {x : Nat × Value × Bool} (e : (c.pub fs h).arr k = some x) : k ∈ fs ∧ c.arr k = some x := by
  simp only [Ctx.pub] at e; split at e
  · exact ⟨List.contains_iff_mem.1 ‹_›, e⟩
  · cases e
theorem pub_out {c : Ctx} {fs : List Nat} {h : Mem} {b : Nat} (e : (c.pub fs h).out fs b) : c.out fs b := by
  rcases e with hy | ⟨k, h1, h2⟩ | ⟨k, m, hv, h1, h2, h3⟩
  · exact .inl hy
  · exact .inr (.inl ⟨k, h1, (pub_loc h2).2⟩)
  · exact .inr (.inr ⟨k, m, hv, h1, (pub_arr h2).2, h3⟩)
def hiP (fs : List Nat) : X → Bool
  | .ptr k _ => fs.contains k
  | .own k _ => fs.contains k
  | .optr k _ _ => fs.contains k
  | .mptr k => fs.contains k
  | .ownp k _ _ _ _ => fs.contains k
  | _ => true
def hiC (fs : List Nat) : X → Bool
  | .fn _ caps => caps.all (hiP fs)
  | x => hiP fs x
def hiKey (fs : List Nat) (p : Nat × X) : Bool := Nat.ble 1000 p.1 && (match p.2 with
  | .box cells => (fs.any fun k => Nat.beq (1000 + k) p.1) && cells.all (hiC fs)
  | .arr _ _ => fs.any fun k => Nat.beq (2000 + k) p.1
  | .arrn _ _ mid _ => (fs.any fun k => Nat.beq (2000 + k) p.1) && mid.all (hiC fs)
  | .omap _ => fs.any fun k => Nat.beq (1000 + k) p.1
  | .res _ => Nat.ble 3000 p.1
  | _ => false)
theorem RepP.pub {c : Ctx} {fs : List Nat} {h' : Mem} (hh : Mem.le c.h h') {x : X} {v : Value} (h : RepP c x v) (ho : hiP fs x = true) : RepP (c.pub fs h') x v := by
  cases x
  case ptr k off => obtain ⟨b, h1, h2⟩ := h; simp only [hiP] at ho; exact ⟨b, by simp only [Ctx.pub, if_pos ho]; exact h1, h2⟩
  case own k n => obtain ⟨h0, m, hv, lv, h1, h2⟩ := h; simp only [hiP] at ho; exact ⟨h0, m, hv, lv, by simp only [Ctx.pub, if_pos ho]; exact h1, h2⟩
  case optr k n off => obtain ⟨m, hv, lv, h1, h2⟩ := h; simp only [hiP] at ho; exact ⟨m, hv, lv, by simp only [Ctx.pub, if_pos ho]; exact h1, h2⟩
  case mptr k => obtain ⟨b, h1, h2⟩ := h; simp only [hiP] at ho; exact ⟨b, by simp only [Ctx.pub, if_pos ho]; exact h1, h2⟩
  case ownp k n sz lo hi => obtain ⟨h0, m, hv, lv, h1, h2⟩ := h; simp only [hiP] at ho; exact ⟨h0, m, hv, lv, by simp only [Ctx.pub, if_pos ho]; exact h1, h2⟩
  case slc rows => exact ⟨RepD.mono hh h.1, h.2⟩
  case any => exact h
  case raw => exact h
  case nils => exact h
  case cb => exact h
  all_goals exact RepD.mono hh h
theorem RepC.pub {c : Ctx} {fs : List Nat} {h' : Mem} (hh : Mem.le c.h h') {x : X} {v : Value} (h : RepC c x v) (ho : hiC fs x = true) : RepC (c.pub fs h') x v := by
  cases x
  case fn f caps => obtain ⟨vs, h1, h2⟩ := h; exact ⟨vs, h1, All2.cut (R' := RepP (c.pub fs h')) (ok := hiP fs) (fun _ _ h ho => RepP.pub hh h ho) h2 ho⟩
  all_goals (simp only [RepC, hiC] at h ho ⊢; exact RepP.pub hh h ho)
theorem Holds.pub {c : Ctx} {fs : List Nat} {h' : Mem} {w w' : World} (hh : Mem.le c.h h') (hn : ∀ p v, h' p = some v → c.h p = some v ∨ ¬ c.Y p.block) (hw' : ∀ p v, h' p = some v → w'.cell? p = some v) (hB : BelX 0 (fun _ => False) w w')
    (hX : ∀ b, c.out fs b → w'.heap[b]? = w.heap[b]?) {key : Nat} {x : X} {a a' : Act} (h : Holds c a w key x) (ho : hiKey fs (key, x) = true) : Holds (c.pub fs h') a' w' key x := by
  simp only [hiKey, Bool.and_eq_true, Nat.ble_eq] at ho
  obtain ⟨ho1, ho⟩ := ho
  unfold Holds at *
  rw [if_neg (by omega)] at h ⊢
  refine or_snd h fun h => ?_
  split at h
  · rename_i h2
    rw [if_pos h2]
    obtain ⟨b, o, h1, h3, h4⟩ := h
    cases x
    case box cells =>
      obtain ⟨T, vs, h5, h6⟩ := h4
      simp only [Bool.and_eq_true] at ho
      have hf := okU ho.1
      exact ⟨b, o, by simp only [Ctx.pub, hf, if_true]; exact h1, (hX b (.inr (.inl ⟨_, List.contains_iff_mem.1 hf, h1⟩))).trans h3, T, vs, h5, All2.cut (R' := RepC (c.pub fs h')) (ok := hiC fs) (fun _ _ h ho => RepC.pub hh h ho) h6 ho.2⟩
    case omap es =>
      obtain ⟨as, clock, h5, h0, h6⟩ := h4
      simp only at ho
      have hf := okU ho
      exact ⟨b, o, by simp only [Ctx.pub, hf, if_true]; exact h1, (hX b (.inr (.inl ⟨_, List.contains_iff_mem.1 hf, h1⟩))).trans h3, as, clock, h5, h0, h6.mono fun _ _ h => ⟨h.1.mono hh, pure_mono hh h.2⟩⟩
    all_goals exact h4.elim
  · rename_i h2
    rw [if_neg h2]
    split at h
    · rename_i h3
      rw [if_pos h3]
      obtain ⟨sz, rows, hv, e, vs, hx, h1, h4, h5⟩ := h
      have hfx : fs.contains (key - 2000) = true ∧ ArrIs (c.pub fs h') x sz rows vs := by
        cases x
        case arr sz' rows' => exact ⟨okU ho, hx.1, hx.2.1, hx.2.2.mono fun _ _ => RepD.mono hh⟩
        case arrn sz' pre mid post =>
          obtain ⟨q1, q2, v1, v2, v3, q3, q4, q5, q6⟩ := hx
          simp only [Bool.and_eq_true] at ho
          exact ⟨okU ho.1, q1, q2, v1, v2, v3, q3, q4.mono fun _ _ => RepD.mono hh, All2.cut (R' := RepC (c.pub fs h')) (ok := hiC fs) (fun _ _ h ho => RepC.pub hh h ho) q5 ho.2, q6.mono fun _ _ => RepD.mono hh⟩
        all_goals exact hx.elim
      obtain ⟨hf, hx'⟩ := hfx
      refine ⟨sz, rows, hv, e, vs, hx', by simp only [Ctx.pub, hf, if_true]; exact h1, ?_, h5⟩
      refine ⟨h4.1, h4.2.imp id ?_⟩
      rintro ⟨g, cap, cur, e1, e2, e3, r⟩
      refine ⟨g, cap, cur, e1, e2, (hX g (.inr (.inr ⟨_, _, _, List.contains_iff_mem.1 hf, h1, by rw [e1]; rfl⟩))).trans e3, r⟩
    · rename_i h3
      rw [if_neg h3]
      obtain ⟨hk0, J, hx0, hJ, hJ2⟩ := h
      have hx1 : ResIs (c.pub fs h').loc J x := by cases x <;> first | exact hx0 | exact hx0.elim | cases ho
      exact ⟨hk0, J, hx1, hJ, hJ _ _ _ _ _ hJ2 hh hn hw' hB fun b hb => hX b (.inl hb)⟩
def RetG (E : Env) (rs : List ResultVar) (wr : St) (res : X) : Exit → List Nat → St → Prop := fun e U s => RetQ E rs res e U s ∧ Le s wr
theorem slots_start {c : Ctx} {args : List X} {vs : List Value} {n : Nat} {w : World} {ds : List Deferred} (hargs : All2 (RepV c) args vs) (ht : args.all (fun x => !isTup x) = true) (hl2 : args.length ≤ 1000) :
    ∀ key x, look (argSt 0 args) key = some x → Holds c { tmps := vs.toArray ++ Array.replicate n undef, defers := ds } w key x := by
  intro key x hx
  obtain ⟨_, hx⟩ := look_argSt hx
  rw [Nat.sub_zero] at hx
  have hk : key < args.length := (List.getElem?_eq_some_iff.1 hx).1
  have hlen := hargs.length
  unfold Holds
  rw [if_pos (by omega)]
  obtain ⟨v, hv, hvr⟩ := hargs.get_right hx
  have hkv : key < vs.length := by omega
  have : (vs.toArray ++ Array.replicate n undef).getD key undef = v := by
    have h1 : vs[key] = v := by rw [List.getElem?_eq_getElem hkv] at hv; exact Option.some.inj hv
    simp [Array.getElem?_append, hkv, h1]
  rw [this]
  refine V.toT hvr ?_
  have := (List.all_eq_true.1 ht) x (List.mem_of_getElem? hx)
  simpa using this
theorem Base.calm {E : Env} {U : List Nat} {s : St} {c : Ctx} {a : Act} {w w2 : World} (hb : Base E U c a w) (hh : ∀ key x, look s key = some x → Holds c a w key x) (e1 : w2.os = w.os) (e2 : w2.tape = w.tape) (e3 : w2.output = w.output) (e4 : w2.heap.size = w.heap.size)
    (hpin : E.pins = []) (e5 : ∀ k, (k < E.B ∨ c.all k ∨ ∃ o : Obj, w.heap[k]? = some o ∧ o.isCells = true) → w2.heap[k]? = w.heap[k]?) (e6 : ∀ p, w2.cell? p = w.cell? p) :
    Base E U c { a with defers := [] } w2 ∧ ∀ key x, look s key = some x → Holds c { a with defers := [] } w2 key x := by
  refine ⟨⟨hb.below.trans ⟨e1, e2, e3, by omega, fun k hk _ => e5 k (.inl hk)⟩, by rw [e4]; exact hb.hB, hb.nt, ⟨.nil, fun d hd => by cases hd⟩, (fun p hp => by rw [hpin] at hp; cases hp), fun p v h => by rw [e6]; exact hb.hw p v h, hb.hle, hb.hnew, ?_, ?_, hb.used, ?_, hb.loc0, hb.arr0⟩, ?_⟩
  · rw [e4]; exact hb.loc
  · rw [e4]; exact hb.arr
  · rw [e4]; exact hb.Y
  · intro key x hx
    have h := hh key x hx
    unfold Holds at *
    split at h
    · rename_i hk; rw [if_pos hk]; exact h
    · rename_i hk
      rw [if_neg hk]
      refine or_snd h fun h => ?_
      split at h
      · rename_i h2
        rw [if_pos h2]
        obtain ⟨b, o, h1, h3, h4⟩ := h
        exact ⟨b, o, h1, (e5 b (.inr (.inl (.inr (.inl ⟨_, h1⟩))))).trans h3, h4⟩
      · rename_i h2
        rw [if_neg h2]
        split at h
        · rename_i h3
          rw [if_pos h3]
          obtain ⟨sz, rows, hv, e, vs, hx, h1, h4, h5⟩ := h
          refine ⟨sz, rows, hv, e, vs, hx, h1, ⟨h4.1, h4.2.imp id ?_⟩, h5⟩
          rintro ⟨g, cap, cur, f1, f2, f3, r⟩
          exact ⟨g, cap, cur, f1, f2, (e5 g (.inr (.inr ⟨_, f3, rfl⟩))).trans f3, r⟩
        · rename_i h3
          rw [if_neg h3]
          obtain ⟨hk0, J, hx0, hJ, hJ2⟩ := h
          exact ⟨hk0, J, hx0, hJ, hJ _ _ _ _ _ hJ2 (Mem.le_refl _) (fun _ _ e => .inl e) (fun p v h => by rw [e6]; exact hb.hw p v h) ⟨e1, e2, e3, by omega, fun k hk => by omega⟩ fun b hb' => e5 b (.inr (.inl (.inl hb')))⟩
theorem pure_pub {c : Ctx} {fs : List Nat} {h : Mem} : Ext (pureC h) (c.pub fs h) := ⟨Mem.le_refl _, (fun _ _ e => by cases e), (fun _ _ _ _ e => by cases e)⟩
theorem Base.pub {E : Env} {U : List Nat} {c : Ctx} {a : Act} {w' : World} (hb : Base E U c a w') : CtxOk E.fs (c.pub E.fs (E.fin c w')) w' ∧ Mem.le E.h0 (E.fin c w') ∧
    (∀ p v, E.fin c w' p = some v → E.h0 p = some v ∨ (E.B ≤ p.block ∧ ¬ (c.pub E.fs (E.fin c w')).out E.fs p.block)) := by
  have hfin : ∀ p v, E.fin c w' p = some v → w'.cell? p = some v := by
    intro p v h
    unfold Env.fin at h
    split at h
    · exact hb.hw p v h
    · exact h
  have hout : ∀ b o, c.out E.fs b → c.h ⟨b, o, none⟩ = none → E.fin c w' ⟨b, o, none⟩ = none := by
    intro b o h1 h2
    unfold Env.fin
    rw [if_pos (.inr h1)]; exact h2
  have spot : ∀ (p : Addr) v, E.fin c w' p = some v → p = ⟨p.block, p.off, none⟩ := by
    intro p v h
    have h5 := hfin p v h
    have hsp : p.spot = none := by
      cases hsp : p.spot with
      | none => rfl
      | some q => simp only [World.cell?, hsp] at h5; split at h5 <;> simp at h5
    cases p; simp at hsp; subst hsp; rfl
  refine ⟨⟨hfin, ?_, ?_, fun k hk => ?_, ?_⟩, Mem.le_trans hb.hle (Env.fin_le hb), ?_⟩
  · intro k b hk
    obtain ⟨hk0, hk1⟩ := pub_loc hk
    obtain ⟨_, h2, h3, h4, h5⟩ := hb.loc k b hk1
    exact ⟨hk0, h2, fun o => hout b o (.inr (.inl ⟨k, hk0, hk1⟩)) (h3 o), fun k' hk' => h4 k' (pub_loc hk').2, fun k' m hv hk' => h5 k' m hv (pub_arr hk').2⟩
  · intro k m hv b hk hbk
    obtain ⟨hk0, hk1⟩ := pub_arr hk
    obtain ⟨_, h2, h3, h4⟩ := hb.arr k m hv b hk1 hbk
    exact ⟨hk0, h2, fun o => hout b o (.inr (.inr ⟨k, m, hv, hk0, hk1, hbk⟩)) (h3 o), fun k' m' hv' hk' => h4 k' m' hv' (pub_arr hk').2⟩
  · have hk' : E.fs.contains k = false := by simpa using hk
    simp only [Ctx.pub, hk']
    exact ⟨rfl, rfl⟩
  · intro b hy
    obtain ⟨h1, _, h3, h4⟩ := hb.Y b hy
    exact ⟨h1, fun k hk => h3 k (pub_loc hk).2, fun k m hv hk => h4 k m hv (pub_arr hk).2⟩
  · intro p v hp
    have hsp := spot p v hp
    have hp : E.fin c w' p = some v := hp
    unfold Env.fin at hp
    split at hp
    · rcases hb.hnew p v hp with h | ⟨h1, h2⟩
      · exact .inl h
      · refine .inr ⟨h1, fun ho => ?_⟩
        rcases ho with hy | ⟨k, h3, h4⟩ | ⟨k, m, hv, h3, h4, h5⟩
        · exact h2 hy
        · have := (hb.loc k _ (pub_loc h4).2).2.2.1 p.off
          rw [← hsp, hp] at this; cases this
        · have := (hb.arr k m hv _ (pub_arr h4).2 h5).2.2.1 p.off
          rw [← hsp, hp] at this; cases this
    · rename_i hc
      exact .inr ⟨Nat.le_of_not_lt fun h => hc (.inl h), fun ho => hc (.inr (pub_out ho))⟩
theorem PostG.of_baseP {E : Env} {U : List Nat} {s wr : St} {c : Ctx} {a : Act} {w w' : World} {res : X} {v : Value} (hb : Base E U c a w') (hE : E.B = w.heap.size) (hh : ∀ key x, look s key = some x → Holds c a w' key x) (hle : Le s wr) (hwr : wr.all (hiKey E.fs) = true)
    (hr : RepT (c.pub E.fs (E.fin c w')) res v) (hpin : ∀ b, E.X b → E.c0.out E.fs b) (hw0 : E.w0 = w := by rfl) : PostG E.fs E.c0 w wr res v (c.pub E.fs (E.fin c w')) w' := by
  obtain ⟨q1, q2, q3⟩ := hb.pub
  refine ⟨?_, q1, q2, fun p v hp => (q3 p v hp).imp id fun h => ⟨by rw [← hE]; exact h.1, h.2⟩, ?_, ?_, ?_, ?_, hr⟩
  · rw [← hE, ← hw0]; exact hb.below.mono (Nat.le_refl _) fun k _ h => hpin k h
  · intro b ho hlt
    exact hpin _ (hb.out_X (pub_out ho) (by omega))
  · intro k b hk
    obtain ⟨hk0, hk1⟩ := pub_loc hk
    exact hb.loc0 k b hk0 hk1
  · intro k m hv lv hk
    obtain ⟨hk0, hk1⟩ := pub_arr hk
    obtain ⟨m0, hv0, lv0, h1, h2, h3, _⟩ := hb.arr0 k m hv lv hk0 hk1
    exact ⟨m0, hv0, lv0, h1, h2, h3⟩
  · intro p hp a'
    have hl : look s p.1 = some p.2 := by
      have : ∀ {r : St}, Le s r → ∀ p ∈ r, look s p.1 = some p.2 := by
        intro r
        induction r with
        | nil => intro _ p hp; cases hp
        | cons q r ih =>
          intro h p hp
          rcases List.mem_cons.1 hp with rfl | hp
          · exact h.1
          · exact ih h.2 p hp
      exact this hle p hp
    refine Holds.pub (Env.fin_le hb) ?_ q1.hw (BelX.refl _ _ _) (fun _ _ => rfl) (hh _ _ hl) (List.all_eq_true.1 hwr p hp)
    intro q u hq
    unfold Env.fin at hq
    split at hq
    · exact .inl hq
    · rename_i hc; exact .inr fun hy => hc (.inr (.inl hy))
theorem PostG.of_base {E : Env} {U : List Nat} {s wr : St} {c : Ctx} {a : Act} {w w' : World} {res : X} {v : Value} (hb : Base E U c a w') (hE : E.B = w.heap.size) (hh : ∀ key x, look s key = some x → Holds c a w' key x) (hle : Le s wr) (hwr : wr.all (hiKey E.fs) = true)
    (hr : RepT (pureC (E.fin c w')) res v) (hpin : ∀ b, E.X b → E.c0.out E.fs b) (hw0 : E.w0 = w := by rfl) : PostG E.fs E.c0 w wr res v (c.pub E.fs (E.fin c w')) w' := .of_baseP hb hE hh hle hwr (hr.mono pure_pub) hpin hw0
theorem CtG.intro {P : Program} {f nt : Nat} {fn : Func} {code : Code} {rs : List ResultVar} {fs : List Nat} {args : List X} {rd wr : St} {res : X} (hf : P.funcs[f]? = some fn) (hb : fn.body = some code) (hn : fn.ntmps = nt) (hr : fn.results = rs.toArray)
    (hl : Nat.ble args.length nt = true) (ht : args.all (fun x => !isTup x) = true) (hl2 : Nat.ble args.length 1000 = true) (hwr : wr.all (hiKey fs) = true)
    (h : ∀ w c, OK (mkE P nt fs w c) code (den (mkE P nt fs w c) (RetG (mkE P nt fs w c) rs wr res) []) fs (argSt 0 args ++ rd)) : CtG P f fs args rd wr res := by
  intro c0 w vs hc0 hrd' hargs
  refine (callsIn_wide (n := 0)).1 (callsIn_of_wp_marks hf hb trivial ?_ rfl)
  have hlen := hargs.length
  rw [Nat.ble_eq] at hl hl2
  refine wpIn_mono (h w c0 { tmps := vs.toArray ++ Array.replicate (fn.ntmps - vs.toArray.size) undef, defers := [] } w ?_) ?_
  · refine ⟨c0, ⟨BelX.refl _ _ _, Nat.le_refl _, ?_, ⟨.nil, fun d hd => by cases hd⟩, (fun p hp => by cases hp), hc0.hw, Mem.le_refl _, fun p v e => .inl e, ?_, ?_, hc0.none, ?_, fun k b _ e => e, fun k m hv lv _ e => ⟨m, hv, lv, e, Nat.le_refl _, fun _ => rfl, id, fun _ h => .inl h⟩⟩, ?_⟩
    · simp [hn]; omega
    · intro k b hk
      obtain ⟨h1, h2⟩ := hc0.loc k b hk
      exact ⟨.inr ⟨h1, .inl (.inr (.inl ⟨k, h1, hk⟩))⟩, h2⟩
    · intro k m hv b hk hbk
      obtain ⟨h1, h2⟩ := hc0.arr k m hv b hk hbk
      exact ⟨.inr ⟨h1, .inl (.inr (.inr ⟨k, m, hv, h1, hk, hbk⟩))⟩, h2⟩
    · intro b hb
      obtain ⟨h1, h2⟩ := hc0.Y b hb
      exact ⟨h1, fun _ => .inl (.inl hb), h2⟩
    · intro key x hx
      rw [look_append] at hx
      cases hk : look (argSt 0 args) key with
      | some y =>
        rw [hk] at hx; cases hx
        exact slots_start hargs ht hl2 key x hk
      | none =>
        rw [hk] at hx
        exact hrd' _ (look_mem hx) _
  · rintro e a' w' ⟨U', s', ⟨c, hbase, hh⟩, ⟨he, ys, hys, hres⟩, hle⟩
    have hE : (mkE P nt fs w c0).B = w.heap.size := rfl
    have post : LeavesInM Fence.wide 0 P fn a'.tmps (fun e w' => ∃ v c', e = .returned v ∧ PostG fs c0 w wr res v c' w') a'.defers .returning w' := by
      refine leaves_marks (B := w.heap.size) (Z := c.all) a'.defers w' hbase.dfr.1 ?_ ?_
      · intro d hd
        obtain ⟨D, h1, h2, h3, h4⟩ := hbase.dfr.2 d hd
        exact ⟨D, h1, h2, h3, h4⟩
      · intro w2 e1 e2 e3 e4 e5 e6
        obtain ⟨hbase, hh⟩ := hbase.calm hh e1 e2 e3 e4 rfl e5 e6
        obtain ⟨vs', h1, h2, h3⟩ := run_resSems hbase hh hys
        have hrun : (results fn a'.tmps).run P w2 = .ok (if h : vs'.toArray.size = 1 then vs'.toArray[0] else .tuple vs'.toArray) w2 := by
          have he : results fn a'.tmps = (fn.results.mapM (resSem a'.tmps) >>= fun vs => pure (if h : vs.size = 1 then vs[0] else .tuple vs)) := by
            unfold results
            congr 1
          have h1' : (rs.mapM (resSem a'.tmps)).run P w2 = .ok vs' w2 := h1
          rw [he, hr, Array.mapM_eq_mapM_toList]
          simp [h1']
        refine ⟨_, hrun, _, c.pub fs ((mkE P nt fs w c0).fin c w2), rfl, ?_⟩
        exact PostG.of_base hbase hE hh hle hwr (by
          subst hres
          have hl := h2.length
          match ys, vs', h2, h3, hl with
          | [y], [v], h2, h3, _ => exact V.toT h2.1 (h3 y (by simp))
          | [], [], h2, _, _ => exact ⟨[], rfl, trivial⟩
          | y1 :: y2 :: ys, v1 :: v2 :: vs, h2, _, _ => exact ⟨v1 :: v2 :: vs, by simp, h2⟩
          | [_], [], h2, _, _ => exact h2.elim
          | [], _ :: _, h2, _, _ => exact h2.elim
          | [_], _ :: _ :: _, h2, _, _ => exact h2.2.elim
          | _ :: _ :: _, [], h2, _, _ => exact h2.elim
          | _ :: _ :: _, [_], h2, _, _ => exact h2.2.elim) (fun b h => h.elim id fun ⟨p, hp, _⟩ => by cases hp)
    rcases he with rfl | rfl
    · exact post
    · exact post
theorem Ct.of_G {P : Program} {f : Nat} {args : List X} {res : X} (hg : CtG P f [] args [] [] res) : Ct P f args res := by
  intro h w vs hw hargs
  refine (hg (pureC h) w vs ⟨hw, (fun k b e => by cases e), (fun k m hv b e => by cases e), (fun _ _ => ⟨rfl, rfl⟩), (fun b e => e.elim)⟩ (fun p hp => by cases hp) hargs).mono ?_
  rintro e w' ⟨v, c', rfl, hp⟩
  have hno : ∀ b, ¬ (pureC h).out [] b := by
    rintro b (hy | ⟨k, _, e⟩ | ⟨k, m, hv, _, e, _⟩)
    · exact hy
    · cases e
    · cases e
  refine ⟨v, c'.h, rfl, (hp.below.mono (Nat.le_refl _) fun k _ hk => (hno k hk).elim).below, hp.le, fun p v e => (hp.new p v e).imp id And.left, hp.ok.hw, ?_⟩
  have hext : Ext c' (pureC c'.h) := ⟨Mem.le_refl _, (fun k b e => by have e2 := hp.loc k b e; cases e2), fun k m hv lv e => by obtain ⟨_, _, _, e2, _⟩ := hp.arr k m hv lv e; cases e2⟩
  exact hp.res.mono hext
theorem Ct.intro {P : Program} {f nt : Nat} {fn : Func} {code : Code} {rs : List ResultVar} {args : List X} {res : X} (hf : P.funcs[f]? = some fn) (hb : fn.body = some code) (hn : fn.ntmps = nt) (hr : fn.results = rs.toArray)
    (hl : Nat.ble args.length nt = true) (ht : args.all (fun x => !isTup x) = true) (hl2 : Nat.ble args.length 1000 = true) (h : ∀ w c, OK (mkE P nt [] w c) code (den (mkE P nt [] w c) (RetQ (mkE P nt [] w c) rs res) []) [] (argSt 0 args)) : Ct P f args res :=
  Ct.of_G (CtG.intro hf hb hn hr hl ht hl2 rfl fun w c => by
    rw [List.append_nil]
    exact (h w c).mono fun _ _ _ hq => ⟨hq, trivial⟩)
theorem Ret.r1 {E : Env} {U : List Nat} {s : St} {r : ResultVar} {y res : X} (h : RetI E s r y) (he : y = res) : RetQ E [r] res .ret U s := ⟨.inl rfl, [y], ⟨h, trivial⟩, he⟩
theorem Ret.r2 {E : Env} {U : List Nat} {s : St} {r1 r2 : ResultVar} {y1 y2 res : X} (h1 : RetI E s r1 y1) (h2 : RetI E s r2 y2) (he : .tup [y1, y2] = res) : RetQ E [r1, r2] res .ret U s := ⟨.inl rfl, [y1, y2], ⟨h1, h2, trivial⟩, he⟩
theorem All2.z {α β : Type} {R : α → β → Prop} : All2 R [] [] := trivial
theorem All2.k {α β : Type} {R : α → β → Prop} {a : α} {b : β} {as : List α} {bs : List β} (h : R a b) (h' : All2 R as bs) : All2 R (a :: as) (b :: bs) := ⟨h, h'⟩
end Go.Ab
namespace Go.Ab
open Go.RowKit
def RK (E : Env) (all : Array Oper) (l : List Oper) (U : List Nat) (s : St) (Q : Exit → List Nat → St → Prop) : Prop :=
  ∀ (k : Nat), (∀ j, all[k + j]? = l[j]?) → ∀ a w, Good E U s a w → wpOpsIn E.F 0 E.P all (fun e a' w' => ∃ U' s', Good E U' s' a' w' ∧ Q e U' s') (List.range' k l.length) a w
section
variable {E : Env} {all : Array Oper} {l : List Oper} {U : List Nat} {s : St} {Q : Exit → List Nat → St → Prop}
theorem RK.nil (h : Q .normal U s) : RK E all [] U s Q := fun _ _ a w hg => by simpa [wpOpsIn] using ⟨U, s, hg, h⟩
theorem RK.c {o : Oper} {rd wr : St} {al : List Nat} (h : St1 E all o s rd wr al) (hr : RK E all l (al ++ U) (wr ++ s) Q) (ha : (al.all fun k => !U.contains k) = true := by rfl) : RK E all (o :: l) U s Q := by
  intro k hk a w hg
  rw [List.length_cons, List.range'_succ, wpOpsIn_cons]
  refine opIn_wpOpIn (by simpa using hk 0) (h.1.good hg h.2 ha fun a' w' hg' => hr (k + 1) (fun j => ?_) a' w' hg')
  have := hk (j + 1)
  simp only [List.getElem?_cons_succ] at this
  rw [← this]
  congr 1
  omega
theorem RK.split {t : Nat} {b : Bool} (hl : look s t = some (.bool b)) (hx : b = true → RK E all l U ((t, .bool true) :: s) Q) (hy : b = false → RK E all l U ((t, .bool false) :: s) Q) : RK E all l U s Q := by
  intro k hk a w hg
  cases b with
  | true => exact hx rfl k hk a w (hg.imp fun c h => ⟨h.1, fun key x hx => h.2 key x (by
      simp only [look] at hx; split at hx
      · rename_i hb; have := Nat.eq_of_beq_eq_true hb; cases hx; rw [← this]; exact hl
      · exact hx)⟩)
  | false => exact hy rfl k hk a w (hg.imp fun c h => ⟨h.1, fun key x hx => h.2 key x (by
      simp only [look] at hx; split at hx
      · rename_i hb; have := Nat.eq_of_beq_eq_true hb; cases hx; rw [← this]; exact hl
      · exact hx)⟩)
theorem RK.splitD {t : Nat} {p : Prop} [Decidable p] (hl : look s t = some (.bool (decide p))) (hx : p → RK E all l U ((t, .bool true) :: s) Q) (hy : ¬ p → RK E all l U ((t, .bool false) :: s) Q) : RK E all l U s Q :=
  RK.split hl (fun h => hx (of_decide_eq_true h)) (fun h => hy (of_decide_eq_false h))
theorem OK.reg {id : Nat} (h : RK E l.toArray l U s Q) : OK E (.region id l.toArray false) Q U s := by
  intro a w hg
  refine wpIn_region ?_
  have := h 0 (by simp) a w hg
  rw [List.range_eq_range']
  simpa using this
theorem OK.condD {t : Nat} {p : Prop} [Decidable p] {x y : Code} (ht : Nat.blt t 1000 = true) (hl : look s t = some (.bool (decide p))) (hx : p → OK E x Q U s) (hy : ¬ p → OK E y Q U s) : OK E (.cond (.tmp t) x y) Q U s :=
  OK.cond ht hl (fun h => hx (of_decide_eq_true h)) (fun h => hy (of_decide_eq_false h))
theorem OK.condT {t : Nat} {b : Bool} {x y : Code} (ht : Nat.blt t 1000 = true) (hl : look s t = some (.bool b)) (hb : b = true) (hx : OK E x Q U s) : OK E (.cond (.tmp t) x y) Q U s :=
  OK.cond ht hl (fun _ => hx) (fun h => by rw [hb] at h; cases h)
theorem OK.condF {t : Nat} {b : Bool} {x y : Code} (ht : Nat.blt t 1000 = true) (hl : look s t = some (.bool b)) (hb : b = false) (hy : OK E y Q U s) : OK E (.cond (.tmp t) x y) Q U s :=
  OK.cond ht hl (fun h => by rw [hb] at h; cases h) (fun _ => hy)
theorem OK.slLen {t : Nat} {rows : List (List X)} {c : Code} (ht : Nat.blt t 1000 = true) (hl : look s t = some (.sl rows)) (h : rows.length ≤ maxLen → OK E c Q U s) : OK E c Q U s := by
  intro a w hg
  obtain ⟨cx, hb, hh⟩ := hg
  obtain ⟨_, cap, _, h1, h2, _⟩ := sl_of ((hh t _ hl).slot ht)
  exact h (Nat.le_trans h1 h2) a w ⟨cx, hb, hh⟩
theorem OK.strLen {t : Nat} {z : List UInt8} {c : Code} (ht : Nat.blt t 1000 = true) (hl : look s t = some (.str z)) (h : z.length ≤ maxLen → OK E c Q U s) : OK E c Q U s := by
  intro a w hg
  obtain ⟨cx, hb, hh⟩ := hg
  exact h (str_of ((hh t _ hl).slot ht)).2 a w ⟨cx, hb, hh⟩
end
theorem dfr_of {E : Env} {U : List Nat} {c c' : Ctx} {a : Act} {w w' : World} (hb : Base E U c a w) (ho : ∀ b, b < w.heap.size → c'.all b → c.all b) (hd : ∀ (D : Nat) (o : Obj), w.heap[D]? = some o → o.isCells = false → w'.heap[D]? = some o) :
    a.defers.Pairwise (· ≠ ·) ∧ ∀ d ∈ a.defers, ∃ D, d = { target := .collected D, args := #[] } ∧ E.B ≤ D ∧ ¬ c'.all D ∧ w'.heap[D]? = some (.deferred (some [])) :=
  ⟨hb.dfr.1, fun d h => by
    obtain ⟨D, h1, h2, h3, h4⟩ := hb.dfr.2 d h
    exact ⟨D, h1, h2, fun e => h3 (ho D (Array.getElem?_eq_some_iff.1 h4).1 e), hd D _ h4 rfl⟩⟩
theorem pin_of {E : Env} {U : List Nat} {c c' : Ctx} {a : Act} {w w' : World} (hb : Base E U c a w) (ho : ∀ b, b < w.heap.size → c'.all b → c.all b) (hd : ∀ (D : Nat) (o : Obj), w.heap[D]? = some o → o.isCells = false → w'.heap[D]? = some o) :
    ∀ p ∈ E.pins, ¬ c'.all p.1 ∧ p.2.isCells = false ∧ w'.heap[p.1]? = some p.2 := by
  intro p hp
  obtain ⟨h1, h4, h5⟩ := hb.pin p hp
  exact ⟨fun e => h1 (ho _ (Array.getElem?_eq_some_iff.1 h5).1 e), h4, hd _ _ h5 h4⟩
theorem Base.below_grow {E : Env} {U : List Nat} {c : Ctx} {a : Act} {w w' : World} {h' : Mem} (hb : Base E U c a w) (hB : Below w.heap.size w w') (hle : Mem.le c.h h') (hnew : ∀ p v, h' p = some v → c.h p = some v ∨ w.heap.size ≤ p.block)
    (hw' : ∀ p v, h' p = some v → w'.cell? p = some v) : Base E U ⟨h', c.loc, c.arr, c.Y⟩ a w' := by
  have hs := hB.size
  have none_of : ∀ b o, b < w.heap.size → c.h ⟨b, o, none⟩ = none → h' ⟨b, o, none⟩ = none := by
    intro b o hlt hn
    cases hh : h' ⟨b, o, none⟩ with
    | none => rfl
    | some v =>
      rcases hnew _ _ hh with h | h
      · rw [hn] at h; cases h
      · simp only at h; omega
  have hkeep : ∀ (D : Nat) (o : Obj), w.heap[D]? = some o → o.isCells = false → w'.heap[D]? = some o := fun D o h _ => (hB.block D (Array.getElem?_eq_some_iff.1 h).1).trans h
  refine ⟨hb.below.trans (BelX.of (hB.mono hb.hB)), Nat.le_trans hb.hB hs, hb.nt, dfr_of hb (fun _ _ h => h) hkeep, pin_of hb (fun _ _ h => h) hkeep, hw', Mem.le_trans hb.hle hle, ?_, ?_, ?_, hb.used, ?_, hb.loc0, hb.arr0⟩
  · intro p v hp
    rcases hnew p v hp with h | h
    · exact hb.hnew p v h
    · exact .inr ⟨Nat.le_trans hb.hB h, fun hy => by have := (hb.Y _ hy).1; omega⟩
  · intro k b hk
    obtain ⟨h1, h2, h3, h4, h5⟩ := hb.loc k b hk
    exact ⟨h1, Nat.lt_of_lt_of_le h2 hs, fun o => none_of b o h2 (h3 o), h4, h5⟩
  · intro k m hv b hk hbk
    obtain ⟨h1, h2, h3, h4⟩ := hb.arr k m hv b hk hbk
    exact ⟨h1, Nat.lt_of_lt_of_le h2 hs, fun o => none_of b o h2 (h3 o), h4⟩
  · intro b hy
    obtain ⟨h1, h2⟩ := hb.Y b hy
    exact ⟨Nat.lt_of_lt_of_le h1 hs, h2⟩
theorem ownsRow_below {w w' : World} {B e sz : Nat} {hv : Value} {n : Nat} {vs : List Value} (h : w.ownsRow B e sz hv n vs) (hB : Below w.heap.size w w') : w'.ownsRow B e sz hv n vs := by
  refine ⟨h.1, h.2.imp id ?_⟩
  rintro ⟨g, cap, cur, h1, h2, h3, r⟩
  exact ⟨g, cap, cur, h1, h2, (hB.block g (Array.getElem?_eq_some_iff.1 h3).1).trans h3, r⟩
theorem Holds.below {E : Env} {U : List Nat} {c c' : Ctx} {a : Act} {w w' : World} (hb : Base E U c a w) (hB : Below w.heap.size w w') (he : Ext c c') (harr : ∀ k m hv, c.arr k = some (m, hv, true) → c'.arr k = some (m, hv, true)) {key : Nat} {x : X}
    (hY : c'.Y = c.Y) (hnew : ∀ p v, c'.h p = some v → c.h p = some v ∨ w.heap.size ≤ p.block) (hw' : ∀ p v, c'.h p = some v → w'.cell? p = some v) (hk : ¬ key < 1000) (h : Holds c a w key x) : Holds c' a w' key x := by
  unfold Holds at *
  rw [if_neg hk] at h ⊢
  refine or_snd h fun h => ?_
  split at h
  · rename_i h2
    rw [if_pos h2]
    obtain ⟨b, o, h1, h3, h4⟩ := h
    exact ⟨b, o, he.loc _ _ h1, (hB.block b (hb.loc _ _ h1).2.1).trans h3, h4.mono he⟩
  · rename_i h2
    rw [if_neg h2]
    split at h
    · rename_i h6
      rw [if_pos h6]
      obtain ⟨sz, rows, hv, e, vs, hx, h1, h3, h4⟩ := h
      exact ⟨sz, rows, hv, e, vs, hx.mono he, harr _ _ _ h1, ownsRow_below h3 hB, h4⟩
    · rename_i h6
      rw [if_neg h6]
      obtain ⟨hk0, J, hx0, hJ, hJ2⟩ := h
      refine ⟨hk0, J, hx0.mono he.loc, hJ, ?_⟩
      rw [hY]
      exact hJ _ _ _ _ _ hJ2 he.h (fun p v e => (hnew p v e).imp id fun h hy => by have := (hb.Y _ hy).1; omega) hw' (BelX.of (hB.mono (Nat.zero_le _))) fun b hy => hB.block b (hb.Y _ hy).1
theorem below_alloc (w : World) (o : Obj) : Below w.heap.size w (w.alloc o) := (Below.refl _ w).alloc (Nat.le_refl _) o
inductive OpsS (s : St) : List Operand → List X → St → Prop
  | nil : OpsS s [] [] []
  | cons {o : Operand} {os : List Operand} {y : X} {ys : List X} {r r' : St} : OpS s o y r → OpsS s os ys r' → OpsS s (o :: os) (y :: ys) (r ++ r')
theorem OpsS.looks {s : St} {os : List Operand} {ys : List X} {r : St} (h : OpsS s os ys r) : Looks s r := by
  induction h with
  | nil => trivial
  | cons h _ ih => exact h.looks.app ih
theorem OpsS.rep {s : St} {os : List Operand} {ys : List X} {r : St} (h : OpsS s os ys r) {c : Ctx} {a : Act} {w : World} (hr : ∀ p ∈ r, Holds c a w p.1 p.2) : All2 (RepT c) ys (os.map a.eval) := by
  induction h with
  | nil => trivial
  | cons h _ ih => exact ⟨h.rep fun p hp => hr p (List.mem_append_left _ hp), ih fun p hp => hr p (List.mem_append_right _ hp)⟩
def okArg (x : X) : Bool := okV [] x && !isTup x
theorem args_clean {c : Ctx} : ∀ {ys : List X} {vs : List Value}, All2 (RepT c) ys vs → ys.all okArg = true → All2 (RepV (pureC c.h)) ys vs
  | [], [], _, _ => trivial
  | y :: ys, v :: vs, h, ho => by
    simp only [List.all_cons, Bool.and_eq_true, okArg, Bool.not_eq_true'] at ho
    exact ⟨((T.toV h.1 ho.1.2).cut ho.1.1).mono (ctx_cut_ext (Mem.le_refl _)), args_clean h.2 (by simpa [okArg] using ho.2)⟩
  | [], _ :: _, h, _ => h.elim
  | _ :: _, [], h, _ => h.elim
theorem none_ext {h' : Mem} {c : Ctx} : Ext (pureC h') ⟨h', c.loc, c.arr, c.Y⟩ := ⟨Mem.le_refl _, (fun _ _ e => by cases e), (fun _ _ _ _ e => by cases e)⟩
theorem step_call {E : Env} {all : Array Oper} {s r rg : St} {d ty f : Nat} {pos : String} {after : Array Edge} {guard : Option (Nat × Bool)} {fo : Operand} {os : List Operand} {at_ : Array TypeId} {ys caps : List X} {res : X}
    (hg : Gd all s guard rg) (hd : (Nat.blt d 1000 && Nat.blt d E.nt) = true) (hl : Looks s r) (hcall : ∀ args w, (callFunc f args).run E.P w = .ok (.enter f args) w) (hf : Ct E.P f (ys ++ caps) res)
    (hargs : ∀ c a w, (∀ p ∈ r, Holds c a w p.1 p.2) → All2 (RepV (pureC c.h)) ys (os.map a.eval) ∧ ∃ cvs : List Value, a.eval fo = .func (.func f) #[] cvs.toArray ∧ All2 (RepV (pureC c.h)) caps cvs) :
    St1 E all ⟨some d, .call { callee := .value fo, args := os.toArray, argTypes := at_ }, ty, pos, after, guard⟩ s (rg ++ r) [(d, res)] [] := by
  simp only [Bool.and_eq_true, Nat.blt_eq] at hd
  refine ⟨?_, hg.looks.app hl⟩
  intro U c a w hb hr _ next Q hn
  have hw := hg.wanted (o := ⟨some d, .call { callee := .value fo, args := os.toArray, argTypes := at_ }, ty, pos, after, guard⟩) (fun p hp => hr p (List.mem_append_left _ hp))
  obtain ⟨ha, cvs, hfo, hc⟩ := hargs c a w fun p hp => hr p (List.mem_append_right _ hp)
  unfold opIn
  rw [if_pos hw]
  refine ⟨fun _ _ => trivial, ?_⟩
  rw [Oper.semAt_eq _ _ _ fun cl he => by cases he]
  have hrun : (execOp a.eval ⟨some d, .call { callee := .value fo, args := os.toArray, argTypes := at_ }, ty, pos, after, guard⟩).run E.P w = .ok (.enter f (os.map a.eval ++ cvs).toArray) w := by
    simp [execOp, resolve, hfo, Deferred.ofValue, invoke, hcall]
  rw [hrun]
  refine ⟨(fun h => by cases h), ?_⟩
  have hcalls := hf c.h w (os.map a.eval ++ cvs) hb.hw (ha.append hc)
  have h1 : CallsIn E.F (0 - 1) E.P f (os.map a.eval ++ cvs).toArray w _ := (callsIn_wide (n := 0)).2 hcalls
  refine h1.mono ?_
  rintro e w' ⟨v, h', rfl, hB, hle, hnew, hw', hres⟩
  have hdt : d < a.tmps.size := by rw [hb.nt]; exact hd.2
  have hext : Ext c ⟨h', c.loc, c.arr, c.Y⟩ := ⟨hle, fun _ _ e => e, fun _ m hv lv e => ⟨m, hv, lv, e, Nat.le_refl _, fun _ => rfl⟩⟩
  refine hn ⟨h', c.loc, c.arr, c.Y⟩ _ w' ((hb.below_grow hB hle hnew hw').put _ _) hext ?_ ?_
  · intro p hp
    simp only [List.mem_singleton] at hp
    subst hp
    unfold Holds
    rw [if_pos hd.1, getD_put hdt]
    exact hres.mono none_ext
  · intro key y hk hy
    have hne : d ≠ key := hk (d, res) (by simp)
    by_cases h1 : key < 1000
    · refine Holds.put ?_ hne v
      unfold Holds at hy ⊢
      rw [if_pos h1] at hy ⊢
      exact hy.mono hext
    · exact (Holds.below hb hB hext (fun _ _ _ e => e) rfl hnew hw' h1 hy).put hne v
section
variable {E : Env} {all : Array Oper} {s r r1 r2 r3 rg : St} {d ty : Nat} {pos : String} {after : Array Edge} {guard : Option (Nat × Bool)} {x y z : Operand}
theorem S.call {f : Nat} {os : List Operand} {at_ : Array TypeId} {ys : List X} {res : X} (hf : Ct E.P f ys res) (hcall : ∀ args w, (callFunc f args).run E.P w = .ok (.enter f args) w) (hg : Gd all s guard rg) (hd : (Nat.blt d 1000 && Nat.blt d E.nt) = true)
    (ha : OpsS s os ys r) (ho : ys.all okArg = true) : St1 E all ⟨some d, .call { callee := .value (.func f), args := os.toArray, argTypes := at_ }, ty, pos, after, guard⟩ s (rg ++ r) [(d, res)] [] :=
  step_call (caps := []) hg hd ha.looks hcall (by simpa using hf) fun _ _ _ hr => ⟨args_clean (ha.rep hr) ho, [], rfl, trivial⟩
theorem S.callv {f : Nat} {os : List Operand} {at_ : Array TypeId} {ys caps : List X} {res : X} (hf : Ct E.P f (ys ++ caps) res) (hcall : ∀ args w, (callFunc f args).run E.P w = .ok (.enter f args) w) (hg : Gd all s guard rg) (hd : (Nat.blt d 1000 && Nat.blt d E.nt) = true)
    (hx : OpS s x (.fn f caps) r1) (ha : OpsS s os ys r) (ho : ys.all okArg = true) (ho2 : caps.all (okP []) = true) (ho3 : caps.all (fun u => !notCell u) = true) :
    St1 E all ⟨some d, .call { callee := .value x, args := os.toArray, argTypes := at_ }, ty, pos, after, guard⟩ s (rg ++ (r1 ++ r)) [(d, res)] [] :=
  step_call hg hd (hx.looks.app ha.looks) hcall hf fun c a w hr => by
    refine ⟨args_clean (ha.rep fun p hp => hr p (List.mem_append_right _ hp)) ho, ?_⟩
    obtain ⟨cvs, h1, h2⟩ := hx.rep (c := c) (a := a) (w := w) fun p hp => hr p (List.mem_append_left _ hp)
    refine ⟨cvs, h1, ?_⟩
    have : ∀ {us : List X} {vs : List Value}, All2 (RepP c) us vs → us.all (okP []) = true → us.all (fun u => !notCell u) = true → All2 (RepV (pureC c.h)) us vs := by
      intro us
      induction us with
      | nil => intro vs h _ _; exact (All2.nil_left h) ▸ trivial
      | cons u us ih =>
        intro vs h h1 h2
        obtain ⟨v, vs', rfl, hv, hvs⟩ := h.cons_left
        simp only [List.all_cons, Bool.and_eq_true, Bool.not_eq_true'] at h1 h2
        refine ⟨?_, ih hvs h1.2 (by simpa using h2.2)⟩
        have hp := (hv.cut h1.1).mono (ctx_cut_ext (Mem.le_refl c.h))
        have hn := h2.1
        cases u <;> first | exact hp | cases hn
    exact this h2 ho2 ho3
end
end Go.Ab
namespace Go.Ab
open Go.RowKit
def srcD (du : TypeDesc) : Prop := (∃ e, du = .slice e) ∨ du = .string
section
variable {P : Program} (w : World)
theorem run_append_src (base t u ty e e0 : Nat) (du : TypeDesc) (i : TypeInfo) (z : Value) (size bytes : Nat) (ht : P.underlying t = some (.slice e)) (hu : P.underlying u = some du) (hdu : srcD du)
    (hi : P.info? e = some i) (hz : i.zero = some z) (hsize : i.size = size) (hby : i.bytes = bytes) (hzs : z.cells.size = size)
    (v : Value) (n : Nat) (xs : List Value) (hown : w.ownsRow base e0 size v n xs) (x : Value) (m : Nat) (news : List Value) (hlen : ∀ w, (Builtin.lenOf x).run P w = .ok m w) (hl : news.length = m * size)
    (hf : ∀ w' : World, (∀ p, w'.cell? p = w.cell? p) → (Builtin.firstCells size m x).run P w' = .ok news.toArray w') (h1 : ∀ q ∈ news, q.oneCell' = true)
    (h63 : n + m ≤ maxLen) (hbytes : (n + m) * bytes ≤ 140737488355328) (hbase : base ≤ w.heap.size) :
    ∃ v' w' e1, (Builtin.append_ #[t, u] ty #[v, x]).run P w = .ok v' w' ∧ w'.ownsRow base e1 size v' (n + m) (xs ++ news) ∧ w.grownBy w' v.ownBlock ∧ (v'.ownBlock = v.ownBlock ∨ (v'.ownBlock = some w.heap.size ∧ w.heap.size < w'.heap.size)) ∧ (m = 0 → v' = v) ∧ ∃ a l c, v' = .slice a l c := by
  subst hsize
  subst hby
  have hsmall : n + m ≤ 9223372036854775807 := by simp only [maxLen] at h63; omega
  have hlen2 : (xs ++ news).length = (n + m) * i.size := by rw [List.length_append, hown.1, hl, Nat.add_mul]
  have grown : ∀ (old : Nat), (w.drew.alloc (.cells (xs.toArray ++ news.toArray ++ Builtin.zeroCells z.cells (grownCap w (n + m) old e - (n + m))) e)).ownsRow base e i.size
        (.slice (some ⟨w.heap.size, 0, none⟩) (n + m) (grownCap w (n + m) old e)) (n + m) (xs ++ news) := by
    intro old
    have hge := grownCap_ge w (n + m) old e
    have hcm : grownCap w (n + m) old e ≤ maxLen := grownCap_le_maxLen w (n + m) old e h63
    refine ⟨hlen2, .inr ⟨w.heap.size, _, _, rfl, hbase, heap_alloc_new w.drew _, hge, hcm, ?_, ?_⟩⟩
    · simp only [Array.size_append, List.size_toArray, size_zeroCells, hzs, hown.1, hl, ← Nat.add_mul]
      congr 1
      omega
    · simp only [Array.toList_append, List.append_assoc]
      rw [← List.append_assoc, ← hlen2]
      exact List.take_left
  have gby : ∀ (o : Obj) (row : Option Nat), w.grownBy (w.drew.alloc o) row := fun o row => ⟨rfl, rfl, rfl, by simp, fun k hk _ => Below.heap_alloc w.drew o k hk⟩
  rcases hown.2 with ⟨rfl, rfl⟩ | ⟨g, cap, cur, rfl, hbg, hg, hnc, hcm, hcs, htake⟩
  · have hx : xs = [] := List.eq_nil_of_length_eq_zero (by simpa using hown.1)
    subst hx
    by_cases hm : m = 0
    · subst hm
      have hn : news = [] := List.eq_nil_of_length_eq_zero (by simpa using hl)
      subst hn
      refine ⟨.slice none 0 0, w, e, ?_, World.ownsRow_nil w base e i.size, ⟨rfl, rfl, rfl, Nat.le_refl _, fun _ _ _ => rfl⟩, .inl rfl, fun _ => rfl, none, 0, 0, rfl⟩
      have := hf w fun _ => rfl
      rcases hdu with ⟨e', rfl⟩ | rfl <;> simp [Builtin.append_, run_underlying ht, run_underlying hu, sizeOf, typeInfo, hi, hlen, this]
    · have h63' : ¬ (9223372036854775807 < (m : Int)) := by omega
      have h48' : ¬ (281474976710656 < Builtin.nextslicecap m 0 * i.bytes) := by rw [nextslicecap_zero (by omega)]; have hb := hbytes; simp only [Nat.zero_add] at hb; omega
      have hgr := grown 0
      simp only [Nat.zero_add, List.nil_append, Array.empty_append] at hgr ⊢
      refine ⟨.slice (some ⟨w.heap.size, 0, none⟩) m (grownCap w m 0 e), w.drew.alloc (.cells (news.toArray ++ Builtin.zeroCells z.cells (grownCap w m 0 e - m)) e), e, ?_, hgr, gby _ _, .inr ⟨rfl, by simp⟩, fun h => absurd h hm, _, _, _, rfl⟩
      have hff := hf w.drew fun _ => rfl
      rcases hdu with ⟨e', rfl⟩ | rfl <;> simp [Builtin.append_, run_underlying ht, run_underlying hu, sizeOf, typeInfo, zeroValue, hi, hz, hlen, hm, h63', h48', Question.forced, run_firstCells_none, hff, newRow, grownCap]
  · by_cases hroom : n + m ≤ cap
    · have hfit : n * i.size + news.length ≤ cur.size := by rw [hl, hcs, ← Nat.add_mul]; exact Nat.mul_le_mul_right _ hroom
      have hff := hf w fun _ => rfl
      have hst := run_storeCells_at P g (n * i.size) e0 news 0 cur w hg (by simpa using hfit) h1
      simp only [Nat.add_zero] at hst
      refine ⟨.slice (some ⟨g, 0, none⟩) (n + m) cap, w.setRow g (cur.toList.take (n * i.size) ++ news ++ cur.toList.drop (n * i.size + news.length)).toArray, e0, ?_,
        ⟨hlen2, .inr ⟨g, cap, _, rfl, hbg, setRow_heap w g cur _ e0 _ hg, hroom, hcm, ?_, ?_⟩⟩, ⟨rfl, rfl, rfl, by simp, fun k _ hk => setRow_other w g k _ (fun e => hk (by simp [Value.ownBlock, e]))⟩, .inl rfl, (fun h => by subst h; rfl), _, _, _, rfl⟩
      · rcases hdu with ⟨e', rfl⟩ | rfl <;> simp [Builtin.append_, run_underlying ht, run_underlying hu, sizeOf, typeInfo, hi, hlen, hroom, hff, Addr.add_lit, hst]
      · simp only [List.size_toArray, List.length_append, List.length_take, List.length_drop, Array.length_toList]
        omega
      · rw [htake, ← hlen2]
        exact List.take_left
    · have holds : ∀ j u, xs[j]? = some u → w.cell? ((⟨g, 0, none⟩ : Addr).add j) = some u := hown.cells (g := g) rfl
      have hn : ¬ (n + m ≤ cap) := hroom
      have h63' : ¬ (9223372036854775807 < ((n : Int) + (m : Int))) := by omega
      have h48 := growslice_fits (need := n + m) (old := cap) (bytes := i.bytes) (by omega) hbytes
      have h48' : ¬ (281474976710656 < Builtin.nextslicecap (n + m) cap * i.bytes) := by omega
      have hff := hf w.drew fun _ => rfl
      have hfo := run_firstCells_some (P := P) w.drew i.size n ⟨g, 0, none⟩ n cap xs hown.1 (by simpa using holds)
      refine ⟨_, _, e, ?_, grown cap, gby _ _, .inr ⟨rfl, by simp⟩, (fun h => by omega), _, _, _, rfl⟩
      rcases hdu with ⟨e', rfl⟩ | rfl <;> (simp [Builtin.append_, run_underlying ht, run_underlying hu, sizeOf, typeInfo, zeroValue, hi, hz, hlen, hn, h63', h48', Question.forced, hff, hfo, newRow, grownCap]; congr 2; apply Array.ext'; simp [List.append_assoc])
end
def cellsX : X → List X
  | .agg xs => xs
  | x => [x]
def okSt1 : X → Bool
  | .any | .tup _ | .agg _ | .box _ | .arr _ _ | .optr _ _ _ | .cb _ | .res _ | .resb _ _ | .omap _ | .arrn _ _ _ _ | .ownp _ _ _ _ _ => false
  | .raw v => v.oneCell'
  | _ => true
def okSt : X → Bool
  | .agg xs => xs.all okSt1
  | x => okSt1 x
theorem oneCell_of {c : Ctx} {u : X} {v : Value} (h : RepC c u v) (hu : okSt1 u = true) : v.oneCell' = true := by
  cases u with
  | int _ _ => cases h; rfl
  | bool _ => cases h; rfl
  | str _ => cases h; rfl
  | sl _ => cases h <;> rfl
  | eptr _ => cases h; rfl
  | fn f caps => obtain ⟨vs, rfl, _⟩ := h; rfl
  | ptr k off => obtain ⟨b, _, rfl⟩ := h; rfl
  | mptr k => obtain ⟨b, _, rfl⟩ := h; rfl
  | slc rows => obtain ⟨_, a, rfl⟩ := h; rfl
  | own k n => obtain ⟨⟨a, l, cp, rfl⟩, _⟩ := h; rfl
  | raw u => have : v = u := h; subst this; exact hu
  | nils => have : v = .slice none 0 0 := h; subst this; rfl
  | _ => cases hu
theorem cells_of {c : Ctx} {u : X} {v : Value} (h : RepT c u v) (hu : okSt u = true) : All2 (RepC c) (cellsX u) v.cells.toList ∧ ∀ z ∈ v.cells.toList, z.oneCell' = true := by
  have one : ∀ {c : Ctx} {xs : List X} {vs : List Value}, All2 (RepC c) xs vs → xs.all okSt1 = true → ∀ z ∈ vs, z.oneCell' = true := by
    intro c xs
    induction xs with
    | nil => intro vs h _ z hz; rw [All2.nil_left h] at hz; cases hz
    | cons x xs ih =>
      intro vs h ho z hz
      obtain ⟨v, vs', rfl, h1, h2⟩ := h.cons_left
      simp only [List.all_cons, Bool.and_eq_true] at ho
      rcases List.mem_cons.1 hz with rfl | hz
      · exact oneCell_of h1 ho.1
      · exact ih h2 ho.2 z hz
  cases u
  case agg xs => obtain ⟨vs, rfl, h2⟩ := h; exact ⟨by simpa [Value.cells, cellsX] using h2, by simpa [Value.cells] using one h2 hu⟩
  case tup xs => cases hu
  all_goals
    simp only [RepT, RepV] at h
    have ho := oneCell_of h hu
    have hc : v.cells = #[v] := by cases v <;> first | rfl | cases ho
    rw [hc]
    exact ⟨⟨h, trivial⟩, fun z hz => by simp at hz; subst hz; exact ho⟩
def Ctx.box (c : Ctx) (k b : Nat) : Ctx := ⟨c.h, fun j => if j = k then some b else c.loc j, c.arr, c.Y⟩
theorem Base.boxO {E : Env} {U : List Nat} {c : Ctx} {a : Act} {w : World} (hb : Base E U c a w) {k : Nat} (hk9 : k ∉ E.fs) (hk : k ∉ U) (o0 : Obj) :
    Base E ([k] ++ U) (c.box k w.heap.size) a (w.alloc o0) ∧ Ext c (c.box k w.heap.size) ∧ (c.box k w.heap.size).loc k = some w.heap.size ∧ (w.alloc o0).heap[w.heap.size]? = some o0 ∧
      ∀ key y, ¬ key < 1000 → Holds c a w key y → Holds (c.box k w.heap.size) a (w.alloc o0) key y := by
  have hn := (hb.used k hk).1
  have hB := below_alloc w o0
  have hg := hb.below_grow hB (Mem.le_refl _) (fun p v e => .inl e) fun p v e => by
    have h1 := hb.hw p v e
    have h2 : p.block < w.heap.size := block_lt_of_cell h1
    rw [hB.cell h2]; exact h1
  have hold : ∀ j b, c.loc j = some b → (c.box k w.heap.size).loc j = some b := by
    intro j b hj
    simp only [Ctx.box]
    split
    · rename_i e; subst e; rw [hn] at hj; cases hj
    · exact hj
  have hext : Ext c (c.box k w.heap.size) := ⟨Mem.le_refl _, hold, fun _ m hv lv e => ⟨m, hv, lv, e, Nat.le_refl _, fun _ => rfl⟩⟩
  have hnew : ∀ j b, (c.box k w.heap.size).loc j = some b → (j = k ∧ b = w.heap.size) ∨ (j ≠ k ∧ c.loc j = some b) := by
    intro j b hj
    simp only [Ctx.box] at hj
    split at hj
    · rename_i e; exact .inl ⟨e, (Option.some.inj hj).symm⟩
    · rename_i e; exact .inr ⟨e, hj⟩
  have hnone : ∀ o, c.h ⟨w.heap.size, o, none⟩ = none := fun o => by
    cases hh : c.h ⟨w.heap.size, o, none⟩ with
    | none => rfl
    | some v => have := block_lt_of_cell (hb.hw _ _ hh); simp at this
  have hall : ∀ b, b < w.heap.size → (c.box k w.heap.size).all b → c.all b := by
    intro b hlt h
    rcases h with h | ⟨j, h⟩ | h
    · exact .inl h
    · rcases hnew j b h with ⟨_, rfl⟩ | ⟨_, h⟩
      · omega
      · exact .inr (.inl ⟨j, h⟩)
    · exact .inr (.inr h)
  have hkp : ∀ (D : Nat) (o : Obj), w.heap[D]? = some o → o.isCells = false → (w.alloc o0).heap[D]? = some o := fun D o h _ => (hB.block D (Array.getElem?_eq_some_iff.1 h).1).trans h
  have hlo : ∀ j, j ∈ E.fs → (c.box k w.heap.size).loc j = c.loc j := fun j hj => by simp only [Ctx.box]; rw [if_neg (show ¬ j = k from fun e => hk9 (e ▸ hj))]
  refine ⟨⟨hg.below, hg.hB, hg.nt, dfr_of hb hall hkp, pin_of hb hall hkp, hg.hw, hg.hle, hg.hnew, ?_, ?_, ?_, ?_, fun j b hj e => hb.loc0 j b hj (hlo j hj ▸ e), hb.arr0⟩, hext, by simp [Ctx.box], heap_alloc_new w _, fun key y hkey hy => Holds.below hb hB hext (fun _ _ _ e => e) rfl (fun _ _ e => .inl e) hg.hw hkey hy⟩
  · intro j b hj
    rcases hnew j b hj with ⟨rfl, rfl⟩ | ⟨hne, hj2⟩
    · refine ⟨.inl hb.hB, by simp, hnone, fun k' hk' => ?_, fun k' m hv hk' he => ?_⟩
      · rcases hnew k' _ hk' with ⟨rfl, _⟩ | ⟨_, hk'⟩
        · rfl
        · have := (hb.loc k' _ hk').2.1; omega
      · have := (hb.arr k' m hv _ hk' he).2.1; omega
    · obtain ⟨h1, h2, h3, h4, h5⟩ := hg.loc j b hj2
      refine ⟨h1, h2, h3, fun k' hk' => ?_, h5⟩
      rcases hnew k' _ hk' with ⟨rfl, rfl⟩ | ⟨_, hk'⟩
      · have := (hb.loc j _ hj2).2.1; omega
      · exact h4 k' hk'
  · exact hg.arr
  · intro j hj
    simp only [List.mem_append, List.mem_singleton, not_or] at hj
    refine ⟨?_, (hb.used j hj.2).2⟩
    simp only [Ctx.box]
    rw [if_neg hj.1]
    exact (hb.used j hj.2).1
  · intro b hy
    obtain ⟨h1, h2, h3, h4⟩ := hb.Y b hy
    refine ⟨by simp; omega, h2, fun j hj => ?_, h4⟩
    rcases hnew j b hj with ⟨rfl, rfl⟩ | ⟨_, hj2⟩
    · omega
    · exact h3 j hj2
theorem Base.box {E : Env} {U : List Nat} {c : Ctx} {a : Act} {w : World} (hb : Base E U c a w) {k : Nat} (hk9 : k ∉ E.fs) (hk : k ∉ U) (vs : Array Value) (T : TypeId) :
    Base E ([k] ++ U) (c.box k w.heap.size) a (w.alloc (.cells vs T)) ∧ Ext c (c.box k w.heap.size) ∧ (c.box k w.heap.size).loc k = some w.heap.size ∧ (w.alloc (.cells vs T)).heap[w.heap.size]? = some (.cells vs T (0, 0)) ∧
      ∀ key y, ¬ key < 1000 → Holds c a w key y → Holds (c.box k w.heap.size) a (w.alloc (.cells vs T)) key y := hb.boxO hk9 hk _
structure ZeI (P : Program) (T : TypeId) (zx : List X) : Prop where
  ex : ∃ z : Value, (∀ w, (zeroValue T).run P w = .ok z w) ∧ z.cells.toList.map litX = zx ∧ z.cells.toList.all litOk = true
theorem Holds.mkBox {c : Ctx} {a : Act} {w : World} {k b : Nat} {T : TypeId} {vs : Array Value} {us : List X} (hk : k < 1000) (h1 : c.loc k = some b) (h2 : w.heap[b]? = some (.cells vs T (0, 0))) (h3 : All2 (RepC c) us vs.toList) :
    ¬ (1000 + k < 1000) ∧ Holds c a w (1000 + k) (.box us) := by
  refine ⟨by omega, ?_⟩
  unfold Holds
  rw [if_neg (by omega), if_pos (by omega), Nat.add_sub_cancel_left]
  exact .inr ⟨b, _, h1, h2, T, vs, rfl, h3⟩
section
variable {E : Env} {all : Array Oper} {s r r1 r2 r3 rg : St} {d ty : Nat} {pos : String} {after : Array Edge} {guard : Option (Nat × Bool)} {x y z : Operand}
theorem S.alloc {T k : Nat} {zx : List X} (hz : ZeI E.P T zx) (hk : Nat.blt k 1000 = true) (hg : Gd all s guard rg) (hd : (Nat.blt d 1000 && Nat.blt d E.nt) = true) (hk9 : E.fs.contains k = false := by rfl) :
    St1 E all ⟨some d, .alloc T, ty, pos, after, guard⟩ s (rg ++ []) ((d, .ptr k 0) :: [(1000 + k, .box zx)]) [k] :=
  St1.mk hg hd rfl trivial fun U c a w hb _ hal => by
    rw [Nat.blt_eq] at hk
    obtain ⟨zv, h1, h2, h3⟩ := hz.ex
    have hkU : k ∉ U := hal k (by simp)
    obtain ⟨g1, g2, g3, g4, g5⟩ := hb.box (nfs hk9) hkU zv.cells T
    refine ⟨.pointer (some ⟨w.heap.size, 0, none⟩), _, w.alloc (.cells zv.cells T), ?_, g1, g2, ⟨w.heap.size, g3, rfl⟩, ?_, ?_⟩
    · simp [execOp, Instr.alloc, h1, newVar, newRow]
    · intro p hp
      simp only [List.mem_singleton] at hp
      subst hp
      exact Holds.mkBox (by omega) g3 g4 (h2 ▸ lits_rep h3)
    · intro key u hkey _ hu
      exact g5 key u hkey hu
theorem S.box {T k : Nat} {u : X} (hk : Nat.blt k 1000 = true) (hg : Gd all s guard rg) (hd : (Nat.blt d 1000 && Nat.blt d E.nt) = true) (hx : OpS s x u r) (hu : okSt u = true) (hk9 : E.fs.contains k = false := by rfl) :
    St1 E all ⟨some d, .box T x, ty, pos, after, guard⟩ s (rg ++ r) ((d, .ptr k 0) :: [(1000 + k, .box (cellsX u))]) [k] :=
  St1.mk hg hd rfl hx.looks fun U c a w hb hr hal => by
    rw [Nat.blt_eq] at hk
    have hkU : k ∉ U := hal k (by simp)
    have hv := (cells_of (hx.rep (c := c) (a := a) (w := w) hr) hu).1
    obtain ⟨g1, g2, g3, g4, g5⟩ := hb.box (nfs hk9) hkU (a.eval x).cells T
    refine ⟨.pointer (some ⟨w.heap.size, 0, none⟩), _, w.alloc (.cells (a.eval x).cells T), ?_, g1, g2, ⟨w.heap.size, g3, rfl⟩, ?_, ?_⟩
    · simp [execOp, Instr.box, newVar, newRow]
    · intro p hp
      simp only [List.mem_singleton] at hp
      subst hp
      exact Holds.mkBox (by omega) g3 g4 (hv.mono fun _ _ => RepC.mono g2)
    · intro key u hkey _ hu
      exact g5 key u hkey hu
theorem St1.eff {wr : St} {op : Op} (hg : Gd all s guard rg) (hdef : isDefer op = false) (hl : Looks s r)
    (h : ∀ (U : List Nat) (c : Ctx) (a : Act) (w : World), Base E U c a w → (∀ p ∈ r, Holds c a w p.1 p.2) → ∃ w', (execOp a.eval ⟨none, op, ty, pos, after, guard⟩).run E.P w = .ok .skip w' ∧ Base E U c a w' ∧
      (∀ p ∈ wr, ¬ p.1 < 1000 ∧ Holds c a w' p.1 p.2) ∧ (∀ key y, ¬ key < 1000 → (∀ p ∈ wr, p.1 ≠ key) → Holds c a w key y → Holds c a w' key y)) : St1 E all ⟨none, op, ty, pos, after, guard⟩ s (rg ++ r) wr [] := by
  refine ⟨?_, hg.looks.app hl⟩
  intro U c a w hb hr hal next Q hn
  obtain ⟨w', hrun, hb', hwr, hfr⟩ := h U c a w hb (fun p hp => hr p (List.mem_append_right _ hp))
  have hw := hg.wanted (o := ⟨none, op, ty, pos, after, guard⟩) (fun p hp => hr p (List.mem_append_left _ hp))
  unfold opIn
  rw [if_pos hw]
  refine ⟨fun _ _ => trivial, ?_⟩
  rw [Oper.semAt_eq _ _ _ (fun cl he => by simp only at he; rw [he] at hdef; cases hdef), hrun]
  refine hn c a w' hb' (Ext.refl c) (fun p hp => (hwr p hp).2) fun key y hk hy => ?_
  by_cases h1 : key < 1000
  · unfold Holds at hy ⊢; rw [if_pos h1] at hy ⊢; exact hy
  · exact hfr key y h1 hk hy
theorem S.store {T n k off : Nat} {ag : Bool} {u : X} {us us' : List X} (ht : TyI E.P T ag n) (hg : Gd all s guard rg) (hx : OpS s x (.ptr k off) r1) (hy : OpS s y u r2) (hk : Nat.blt k 1000 = true) (hb : look s (1000 + k) = some (.box us))
    (hu : okSt u = true) (hn : (cellsX u).length = n) (hfit : Nat.ble (off + n) us.length = true) (hus : us.take off ++ (cellsX u ++ us.drop (off + n)) = us') :
    St1 E all ⟨none, .store T x y, ty, pos, after, guard⟩ s (rg ++ (r1 ++ (r2 ++ [(1000 + k, .box us)]))) [(1000 + k, .box us')] [] :=
  St1.eff hg rfl (hx.looks.app (hy.looks.app ⟨hb, trivial⟩)) fun U c a w hbase hr => by
    rw [Nat.blt_eq] at hk
    rw [Nat.ble_eq] at hfit
    subst hus
    obtain ⟨b, h1, hv⟩ := ptr_of (hx.rep (c := c) (a := a) (w := w) fun p hp => hr p (by simp [hp]))
    obtain ⟨b', T', vs, h2, h3, h4⟩ := box_of (hr (1000 + k, .box us) (by simp)) hk
    rw [h1] at h2; cases h2
    obtain ⟨hc, ho⟩ := cells_of (hy.rep (c := c) (a := a) (w := w) fun p hp => hr p (by simp [hp])) hu
    have hl := h4.length
    have hcl := hc.length
    have hvl : vs.toList.length = vs.size := by simp
    have hcs : (a.eval y).cells.size = n := by rw [← hn, hcl]; simp
    have hst := run_storeCells_at E.P b off T' (a.eval y).cells.toList 0 vs w h3 (by simp; omega) ho
    simp only [Nat.add_zero] at hst
    obtain ⟨q1, q2, q3, q4, q5⟩ := hbase.loc k b h1
    have hw2 : ∀ p v, c.h p = some v → (w.setRow b (vs.toList.take off ++ (a.eval y).cells.toList ++ vs.toList.drop (off + (a.eval y).cells.toList.length)).toArray).cell? p = some v := by
      intro p v hp
      have hne : p.block ≠ b := fun e => by
        have h5 := hbase.hw p v hp
        have hsp : p.spot = none := by
          cases hsp : p.spot with
          | none => rfl
          | some q => simp only [World.cell?, hsp] at h5; split at h5 <;> simp at h5
        have h6 := q3 p.off
        have : p = ⟨b, p.off, none⟩ := by cases p; simp at e hsp; subst e hsp; rfl
        rw [← this, hp] at h6; cases h6
      rw [cell_setRow_other w b _ p hne]; exact hbase.hw p v hp
    have hkeep : ∀ (D : Nat) (o : Obj), w.heap[D]? = some o → o.isCells = false → (w.setRow b (vs.toList.take off ++ (a.eval y).cells.toList ++ vs.toList.drop (off + (a.eval y).cells.toList.length)).toArray).heap[D]? = some o := fun D o hD ho => by
      rw [setRow_other w b D _ (fun e => by rw [e, h3] at hD; cases hD; cases ho)]; exact hD
    refine ⟨w.setRow b (vs.toList.take off ++ (a.eval y).cells.toList ++ vs.toList.drop (off + (a.eval y).cells.toList.length)).toArray, ?_, ⟨?_, by simpa using hbase.hB, hbase.nt, dfr_of hbase (fun _ _ h => h) hkeep, pin_of hbase (fun _ _ h => h) hkeep, hw2, hbase.hle, hbase.hnew, ?_, ?_, hbase.used, fun b2 hy => by simpa using hbase.Y b2 hy, hbase.loc0, hbase.arr0⟩, ?_, ?_⟩
    · simp [execOp, hv, Instr.storeAt, Instr.sureAddr, storeVar, ht.size, hcs, hst]
    · exact hbase.below.trans ⟨rfl, rfl, rfl, by simp, fun j hj hx => setRow_other w b j _ (Env.ok_turn q1 hj hx)⟩
    · intro j b2 hj
      obtain ⟨p1, p2, p3⟩ := hbase.loc j b2 hj
      exact ⟨p1, by simpa using p2, p3⟩
    · intro j m hv b2 hj hb2
      obtain ⟨p1, p2, p3⟩ := hbase.arr j m hv b2 hj hb2
      exact ⟨p1, by simpa using p2, p3⟩
    · intro p hp
      simp only [List.mem_singleton] at hp
      subst hp
      refine Holds.mkBox hk h1 (setRow_heap w b vs _ T' _ h3) ?_
      have hnn : (a.eval y).cells.toList.length = n := by rw [← hcl, hn]
      rw [hnn]
      simp only [List.append_assoc]
      exact (h4.take off).append (hc.append (h4.drop (off + n)))
    · intro key u2 hkey hne hu2
      have hne2 : key ≠ 1000 + k := fun e => hne _ (List.mem_singleton.2 rfl) e.symm
      unfold Holds at hu2 ⊢
      rw [if_neg hkey] at hu2 ⊢
      refine or_snd hu2 fun hu2 => ?_
      split at hu2
      · rename_i hlt
        rw [if_pos hlt]
        obtain ⟨b2, o2, e1, e2, e3⟩ := hu2
        refine ⟨b2, o2, e1, ?_, e3⟩
        have : b2 ≠ b := fun e => by subst e; have := q4 _ e1; omega
        rw [setRow_other w b b2 _ this]; exact e2
      · rename_i hlt
        rw [if_neg hlt]
        split at hu2
        · rename_i hlt2
          rw [if_pos hlt2]
          obtain ⟨sz, rows, hv2, e, vs2, hx, e1, e2, e3⟩ := hu2
          refine ⟨sz, rows, hv2, e, vs2, hx, e1, ⟨e2.1, e2.2.imp id ?_⟩, e3⟩
          rintro ⟨g, cap, cur, f1, f2, f3, f4⟩
          refine ⟨g, cap, cur, f1, f2, ?_, f4⟩
          have : g ≠ b := fun e => q5 _ _ _ e1 (by rw [f1, ← e]; rfl)
          rw [setRow_other w b g _ this]; exact f3
        · rename_i hlt2
          rw [if_neg hlt2]
          obtain ⟨hk0, J, hx0, hJ, hJ2⟩ := hu2
          refine ⟨hk0, J, hx0, hJ, hJ _ _ _ _ _ hJ2 (Mem.le_refl _) (fun _ _ e => .inl e) hw2 ⟨rfl, rfl, rfl, by simp, fun j hj => by omega⟩ fun b2 hy => setRow_other w b b2 _ fun e => ?_⟩
          subst e
          exact (hbase.Y _ hy).2.2.1 k h1
end
end Go.Ab
namespace Go.Ab
open Go.RowKit
def setsX (off : Nat) : List X → List X → List X
  | [], cs => cs
  | x :: xs, cs => setsX (off + 1) xs (cs.set off x)
def fillX (pl : Nat → Option (Nat × Nat)) (cs : List X) : List (Nat × X) → Option (List X)
  | [] => some cs
  | (i, x) :: rest => match pl i with
    | none => none
    | some (off, size) => if Nat.beq (cellsX x).length size && Nat.ble (off + size) cs.length then fillX pl (setsX off (cellsX x) cs) rest else none
theorem setsX_rep {R : X → Value → Prop} : ∀ (off j0 : Nat) {xs : List X} {vs : List Value} {cs : List X} {cells : Array Value}, All2 R xs vs → All2 R cs cells.toList →
    All2 R (setsX (off + j0) xs cs) ((vs.zipIdx j0).foldl (fun cs (p : Value × Nat) => cs.setIfInBounds (off + p.2) p.1) cells).toList
  | _, _, [], [], _, _, _, h => h
  | off, j0, x :: xs, v :: vs, cs, cells, h, hc => by
    simp only [setsX, List.zipIdx_cons, List.foldl_cons]
    have := setsX_rep off (j0 + 1) (cs := cs.set (off + j0) x) (cells := cells.setIfInBounds (off + j0) v) h.2 (by simpa using All2.set h.1 (off + j0) hc)
    simpa [Nat.add_assoc] using this
  | _, _, [], _ :: _, _, _, h, _ => h.elim
  | _, _, _ :: _, [], _, _, h, _ => h.elim
theorem fill_rep {c : Ctx} (pl : Nat → Option (Nat × Nat)) : ∀ (ps : List (Nat × X)) (vs : List (Nat × Value)) (cs : List X) (cells : Array Value) (out : List X), All2 (RepC c) cs cells.toList →
    All2 (fun p q => p.1 = q.1 ∧ All2 (RepC c) (cellsX p.2) q.2.cells.toList) ps vs → fillX pl cs ps = some out → ∃ cells', Instr.fill pl cells vs = some cells' ∧ All2 (RepC c) out cells'.toList
  | [], [], cs, cells, out, h, _, hf => by simp only [fillX, Option.some.injEq] at hf; subst hf; exact ⟨cells, rfl, h⟩
  | (i, x) :: ps, (j, v) :: vs, cs, cells, out, h, hp, hf => by
    obtain ⟨⟨h1, h2⟩, h3⟩ := hp
    simp only at h1
    subst h1
    simp only [fillX] at hf
    simp only [Instr.fill]
    cases hpl : pl i with
    | none => simp [hpl] at hf
    | some os =>
      obtain ⟨off, size⟩ := os
      simp only [hpl] at hf ⊢
      have hl := h2.length
      have hc := h.length
      simp only [Array.length_toList] at hl hc
      split at hf
      · rename_i hb
        simp only [Bool.and_eq_true, Nat.ble_eq] at hb
        have hs := Nat.eq_of_beq_eq_true hb.1
        rw [if_neg (by simp; omega)]
        have hset := setsX_rep off 0 h2 h
        rw [Nat.add_zero] at hset
        refine fill_rep pl ps vs _ _ out ?_ h3 hf
        rw [← Array.foldl_toList, Array.toList_zipIdx]
        exact hset
      · cases hf
  | [], _ :: _, _, _, _, _, h, _ => h.elim
  | _ :: _, [], _, _, _, _, h, _ => h.elim
structure BuI (P : Program) (T : TypeId) (zs : List Value) (pl : Nat → Option (Nat × Nat)) : Prop where
  ex : ∀ parts, P.built T parts = Instr.fill pl zs.toArray parts
theorem parts_rep {c : Ctx} {f : Operand → Value} : ∀ {ps : List (Nat × Operand)} {us : List X}, All2 (RepT c) us ((ps.map (·.2)).map f) → us.all okSt = true →
    All2 (fun p q => p.1 = q.1 ∧ All2 (RepC c) (cellsX p.2) q.2.cells.toList) ((ps.map (·.1)).zip us) (ps.map fun (i, x) => (i, f x))
  | [], [], _, _ => trivial
  | (i, x) :: ps, u :: us, h, ho => by
    simp only [List.all_cons, Bool.and_eq_true] at ho
    exact ⟨⟨rfl, (cells_of h.1 ho.1).1⟩, parts_rep h.2 ho.2⟩
  | [], _ :: _, h, _ => h.elim
  | _ :: _, [], h, _ => h.elim
section
variable {E : Env} {all : Array Oper} {s r r1 r2 r3 rg : St} {d ty : Nat} {pos : String} {after : Array Edge} {guard : Option (Nat × Bool)} {x y z : Operand}
theorem S.build {T : Nat} {zs : List Value} {pl : Nat → Option (Nat × Nat)} {ps : List (Nat × Operand)} {us out : List X} (hB : BuI E.P T zs pl) (hz : zs.all litOk = true) (hg : Gd all s guard rg) (hd : (Nat.blt d 1000 && Nat.blt d E.nt) = true)
    (hx : OpsS s (ps.map (·.2)) us r) (hu : us.all okSt = true) (hf : fillX pl (zs.map litX) ((ps.map (·.1)).zip us) = some out) :
    St1 E all ⟨some d, .build T ps.toArray, ty, pos, after, guard⟩ s (rg ++ r) [(d, .agg out)] [] :=
  St1.val hg hd rfl hx.looks fun c A w hh hr => by
    obtain ⟨cells, h1, h2⟩ := fill_rep (c := c) pl _ _ _ zs.toArray out (by simpa using lits_rep hz) (parts_rep (hx.rep (c := c) (a := A) (w := w) hr) hu) hf
    refine ⟨.agg cells, ?_, cells.toList, by simp, h2⟩
    have := run_build (P := E.P) w T (ps.map fun (i, x) => (i, A.eval x)).toArray cells (by rw [hB.ex]; exact h1)
    simp only [execOp]
    simp [this]
def Ctx.own (c : Ctx) (k n : Nat) (v : Value) (lv : Bool) : Ctx := ⟨c.h, c.loc, fun j => if j = k then some (n, v, lv) else c.arr j, c.Y⟩
structure ApI (P : Program) (t e sz bytes : Nat) : Prop where
  und : P.underlying t = some (.slice e)
  ex : ∃ i z, P.info? e = some i ∧ i.zero = some z ∧ i.size = sz ∧ i.bytes = bytes ∧ z.cells.size = sz
  pos : 0 < sz
  run : (∀ w, (sizeOf e).run P w = .ok sz w) ∧ ∃ z, (∀ w, (zeroValue e).run P w = .ok z w) ∧ z.cells.size = sz
theorem Base.ownNew {E : Env} {U : List Nat} {c : Ctx} {a : Act} {w w' : World} (hb : Base E U c a w) {k : Nat} (hk9 : k ∉ E.fs) (hk : k ∉ U) {n : Nat} {v : Value} (hB : Below w.heap.size w w') (hv : v.ownBlock = none ∨ (v.ownBlock = some w.heap.size ∧ w.heap.size < w'.heap.size)) :
    Base E ([k] ++ U) (c.own k n v true) a w' ∧ Ext c (c.own k n v true) ∧ (c.own k n v true).arr k = some (n, v, true) ∧
      ∀ key y, ¬ key < 1000 → Holds c a w key y → Holds (c.own k n v true) a w' key y := by
  have hn := (hb.used k hk).2
  have hg := hb.below_grow hB (Mem.le_refl _) (fun p v e => .inl e) fun p v e => by
    have h1 := hb.hw p v e
    have h2 : p.block < w.heap.size := block_lt_of_cell h1
    rw [hB.cell h2]; exact h1
  have hold : ∀ j q, c.arr j = some q → (c.own k n v true).arr j = some q := by
    intro j q hj
    simp only [Ctx.own]
    split
    · rename_i e; subst e; rw [hn] at hj; cases hj
    · exact hj
  have hext : Ext c (c.own k n v true) := ⟨Mem.le_refl _, fun _ _ e => e, fun j m hv lv e => ⟨m, hv, lv, hold _ _ e, Nat.le_refl _, fun _ => rfl⟩⟩
  have hnew : ∀ j m u, (c.own k n v true).arr j = some (m, u, true) → (j = k ∧ u = v) ∨ (j ≠ k ∧ c.arr j = some (m, u, true)) := by
    intro j m u hj
    simp only [Ctx.own] at hj
    split at hj
    · rename_i e; cases hj; exact .inl ⟨e, rfl⟩
    · rename_i e; exact .inr ⟨e, hj⟩
  have hnone : ∀ o, c.h ⟨w.heap.size, o, none⟩ = none := fun o => by
    cases hh : c.h ⟨w.heap.size, o, none⟩ with
    | none => rfl
    | some v => have := block_lt_of_cell (hb.hw _ _ hh); simp at this
  have hvb : ∀ b, v.ownBlock = some b → b = w.heap.size ∧ b < w'.heap.size := by
    intro b e
    rcases hv with h | ⟨h, h'⟩
    · rw [h] at e; cases e
    · rw [h] at e; cases e; exact ⟨rfl, h'⟩
  have hlo : ∀ j, j ∈ E.fs → (c.own k n v true).arr j = c.arr j := fun j hj => by simp only [Ctx.own]; rw [if_neg (show ¬ j = k from fun e => hk9 (e ▸ hj))]
  have hall : ∀ b, b < w.heap.size → (c.own k n v true).all b → c.all b := by
    intro b hlt h
    rcases h with h | h | ⟨j, m, u, h, h2⟩
    · exact .inl h
    · exact .inr (.inl h)
    · rcases hnew j m u h with ⟨_, rfl⟩ | ⟨_, h3⟩
      · have := (hvb b h2).1; omega
      · exact .inr (.inr ⟨j, m, u, h3, h2⟩)
  have hkp : ∀ (D : Nat) (o : Obj), w.heap[D]? = some o → o.isCells = false → w'.heap[D]? = some o := fun D o h _ => (hB.block D (Array.getElem?_eq_some_iff.1 h).1).trans h
  refine ⟨⟨hg.below, hg.hB, hg.nt, dfr_of hb hall hkp, pin_of hb hall hkp, hg.hw, hg.hle, hg.hnew, ?_, ?_, ?_, ?_, hb.loc0, fun j m u lv hj e => hb.arr0 j m u lv hj (hlo j hj ▸ e)⟩, hext, by simp [Ctx.own], fun key y hkey hy => Holds.below hb hB hext (fun _ _ _ e => hold _ _ e) rfl (fun _ _ e => .inl e) hg.hw hkey hy⟩
  · intro j b hj
    obtain ⟨h1, h2, h3, h4, h5⟩ := hg.loc j b hj
    refine ⟨h1, h2, h3, h4, fun k' m u hk' => ?_⟩
    rcases hnew k' m u hk' with ⟨rfl, rfl⟩ | ⟨_, hk'⟩
    · intro e
      have := (hvb b e).1
      have := (hb.loc j b hj).2.1
      omega
    · exact h5 k' m u hk'
  · intro j m u b hj hbk
    rcases hnew j m u hj with ⟨rfl, rfl⟩ | ⟨hne, hj2⟩
    · obtain ⟨rfl, hlt⟩ := hvb b hbk
      refine ⟨.inl hb.hB, hlt, hnone, fun k' m' u' hk' hb' => ?_⟩
      rcases hnew k' m' u' hk' with ⟨rfl, _⟩ | ⟨_, hk'⟩
      · rfl
      · have := (hb.arr k' m' u' _ hk' hb').2.1; omega
    · obtain ⟨h1, h2, h3, h4⟩ := hg.arr j m u b hj2 hbk
      refine ⟨h1, h2, h3, fun k' m' u' hk' hb' => ?_⟩
      rcases hnew k' m' u' hk' with ⟨rfl, rfl⟩ | ⟨_, hk'⟩
      · have h6 := (hvb b hb').1
        have := (hb.arr j m u b hj2 hbk).2.1
        omega
      · exact h4 k' m' u' hk' hb'
  · intro j hj
    simp only [List.mem_append, List.mem_singleton, not_or] at hj
    refine ⟨(hb.used j hj.2).1, ?_⟩
    simp only [Ctx.own]
    rw [if_neg hj.1]
    exact (hb.used j hj.2).2
  · intro b hy
    obtain ⟨h1, h2, h3, h4⟩ := hb.Y b hy
    refine ⟨Nat.lt_of_lt_of_le h1 hB.size, h2, h3, fun j m u hj e => ?_⟩
    rcases hnew j m u hj with ⟨rfl, rfl⟩ | ⟨_, hj2⟩
    · have := (hvb b e).1; omega
    · exact h4 j m u hj2 e
theorem Holds.mkArr {c : Ctx} {a : Act} {w : World} {k sz e : Nat} {hv : Value} {vs : List Value} {rows : List (List X)} (hk : k < 1000) (h1 : c.arr k = some (rows.length, hv, true)) (h2 : w.ownsRow 0 e sz hv rows.length vs)
    (h3 : ∀ q ∈ rows, q.length = sz) (h4 : All2 (RepD c.h) rows.flatten vs) : ¬ (2000 + k < 1000) ∧ Holds c a w (2000 + k) (.arr sz rows) := by
  refine ⟨by omega, ?_⟩
  unfold Holds
  rw [if_neg (by omega), if_neg (by omega), if_pos (by omega), Nat.add_sub_cancel_left]
  exact .inr ⟨sz, rows, hv, e, vs, ⟨rfl, rfl, h4⟩, h1, h2, h3⟩
theorem S.nilOwn {k sz : Nat} (hg : Gd all s guard rg) (hd : (Nat.blt d 1000 && Nat.blt d E.nt) = true) (hk9 : E.fs.contains k = false := by rfl) (hk1 : Nat.blt k 1000 = true := by rfl) :
    St1 E all ⟨some d, .assign (.const (.slice none 0 0)), ty, pos, after, guard⟩ s (rg ++ []) ((d, .own k 0) :: [(2000 + k, .arr sz [])]) [k] :=
  St1.mk hg hd rfl trivial fun U c a w hb _ hal => by
    rw [Nat.blt_eq] at hk1
    have hkU : k ∉ U := hal k (by simp)
    obtain ⟨g1, g2, g3, g4⟩ := hb.ownNew (nfs hk9) hkU (n := 0) (v := .slice none 0 0) (Below.refl _ w) (.inl rfl)
    refine ⟨.slice none 0 0, _, w, rfl, g1, g2, ⟨⟨none, 0, 0, rfl⟩, 0, _, _, g3, Nat.le_refl _, fun _ => rfl⟩, ?_, fun key u hkey _ hu => g4 key u hkey hu⟩
    intro p hp
    simp only [List.mem_singleton] at hp
    subst hp
    exact Holds.mkArr (e := 0) (rows := []) (vs := []) (by omega) g3 (World.ownsRow_nil w _ 0 sz) (fun _ h => by cases h) trivial
theorem S.mkSlice {t e sz bytes n k : Nat} {ps : List (Nat × Operand)} {us : List X} {rows : List (List X)} (hA : ApI E.P t e sz bytes) (hg : Gd all s guard rg) (hd : (Nat.blt d 1000 && Nat.blt d E.nt) = true)
    (hx : OpsS s (ps.map (·.2)) us r) (hu : us.all okSt = true) (_hrows : us.map cellsX = rows) (hf : fillX (fun i => some (i * sz, sz)) (List.replicate (n * sz) .any) ((ps.map (·.1)).zip us) = some rows.flatten)
    (hr : rows.all (fun q => Nat.beq q.length sz) = true) (hn : rows.length = n) (hD : rows.flatten.all okD = true) (hbig : Nat.ble (n * sz) 16777216 = true) (hk9 : E.fs.contains k = false := by rfl) (hk1 : Nat.blt k 1000 = true := by rfl) :
    St1 E all ⟨some d, .buildSlice t n ps.toArray, ty, pos, after, guard⟩ s (rg ++ r) ((d, .own k n) :: [(2000 + k, .arr sz rows)]) [k] :=
  St1.mk hg hd rfl hx.looks fun U c a w hb hrr hal => by
    clear _hrows
    rw [Nat.ble_eq] at hbig
    rw [Nat.blt_eq] at hk1
    have hkU : k ∉ U := hal k (by simp)
    have hrow : ∀ q ∈ rows, q.length = sz := fun q hq => Nat.eq_of_beq_eq_true ((List.all_eq_true.1 hr) q hq)
    have hfl : rows.flatten.length = n * sz := by rw [flatten_length hrow, hn]
    obtain ⟨hsz, zv, hz, hzs⟩ := hA.run
    have hbase : ∀ (q : Array Value), q.size = n * sz → All2 (RepC c) (List.replicate (n * sz) .any) q.toList := fun q hq => All2.of_get (by simp [hq]) fun i u v hu _ => by
      simp only [List.getElem?_replicate] at hu
      split at hu
      · cases hu; exact trivial
      · cases hu
    obtain ⟨cells, h1, h2⟩ := fill_rep (c := c) (fun i => some (i * sz, sz)) _ _ _ (((Array.range (n * sz)).map fun i => (if n * sz = 0 then #[] else zv.cells)[i % (if n * sz = 0 then #[] else zv.cells).size]!)) rows.flatten (hbase _ (by simp)) (parts_rep (hx.rep (c := c) (a := a) (w := w) hrr) hu) hf
    have hcs : cells.size = n * sz := by have := h2.length; rw [hfl] at this; simpa using this.symm
    have hB := below_alloc w (.cells cells e)
    obtain ⟨g1, g2, g3, g4⟩ := hb.ownNew (nfs hk9) hkU (n := n) (v := .slice (some ⟨w.heap.size, 0, none⟩) n n) hB (.inr ⟨rfl, by simp⟩)
    refine ⟨.slice (some ⟨w.heap.size, 0, none⟩) n n, _, w.alloc (.cells cells e), ?_, g1, g2, ⟨⟨_, _, _, rfl⟩, n, _, _, g3, Nat.le_refl _, fun _ => rfl⟩, ?_, fun key u hkey _ hu => g4 key u hkey hu⟩
    · have hnb : ¬ (n * sz > 2 ^ 24) := by omega
      simp only [execOp, Instr.buildSlice, Sem.run_bind, run_underlying hA.und, Result.andThen_ok, hsz, hnb, if_false]
      by_cases h0 : n * sz = 0
      · simp only [h0, if_true] at h1
        simp at h1
        simp [h0, h1, newRow]
      · simp only [h0, if_false] at h1
        simp [h0, hz, h1, newRow]
    · intro p hp
      simp only [List.mem_singleton] at hp
      subst hp
      refine Holds.mkArr (e := e) (vs := cells.toList) (by omega) (by rw [hn]; exact g3) ⟨by simp [hcs, hn], .inr ⟨w.heap.size, n, cells, by rw [hn], Nat.zero_le _, heap_alloc_new w _, by omega, ?_, hcs, ?_⟩⟩ hrow (Ds_of (h2.mono fun _ _ => RepC.mono g2) hD)
      · have := hA.pos
        have : n ≤ n * sz := Nat.le_mul_of_pos_right n this
        unfold maxLen; omega
      · rw [hn, List.take_of_length_le (by simp [hcs])]
end
end Go.Ab
