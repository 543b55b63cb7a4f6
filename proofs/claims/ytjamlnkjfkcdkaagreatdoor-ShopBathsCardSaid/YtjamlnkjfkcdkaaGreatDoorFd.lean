/-
  Abstract states: the frame of a step that yields a value, the operands, the guards, the facts on types.
-/
import Derived.Test.YtjamlnkjfkcdkaaGreatDoorFc
import Derived.IntWalk
namespace Go.Ab
open Go.RowKit

/-! ### literals -/
def litX : Value → X
  | .int k n => .int k n
  | .bool b => .bool b
  | .string s => .str s.data.toList
  | .slice none 0 0 => .nils
  | v => .raw v
def litOk : Value → Bool
  | .int k n => k.wrap n == n
  | .string s => Nat.ble s.data.toList.length maxLen
  | _ => true
theorem litX_rep {c : Ctx} {v : Value} (h : litOk v = true) : RepC c (litX v) v := by
  cases v with
  | int k n => exact RepD.int (by simpa [litOk] using h)
  | bool b => exact RepD.bool b
  | string s => exact RepD.str (h := c.h) s.data.toList (by simpa [litOk] using h)
  | slice a l cp =>
    cases a with
    | none => cases l with
      | zero => cases cp <;> exact rfl
      | succ l => exact rfl
    | some a => exact rfl
  | _ => exact rfl

/-- What an operand holds in a state, and which keys that reads. -/
inductive OpS (s : St) : Operand → X → St → Prop
  | tmp {t : Nat} {y : X} : Nat.blt t 1000 = true → look s t = some y → OpS s (.tmp t) y [(t, y)]
  | cint {k : IntKind} {n : Int} : k.wrap n = n → OpS s (.const (.int k n)) (.int k n) []
  | cbool {b : Bool} : OpS s (.const (.bool b)) (.bool b) []
  | cstr {bs : ByteArray} {l : List UInt8} : bs = ⟨l.toArray⟩ → l.length ≤ maxLen → OpS s (.const (.string bs)) (.str l) []
  | cnil : OpS s (.const (.slice none 0 0)) (.sl []) []
  | cfn {f : Nat} : OpS s (.func f) (.fn f []) []
  | cnils : OpS s (.const (.slice none 0 0)) .nils []
  | cagg {vs : Array Value} {xs : List X} : vs.toList.map litX = xs → vs.toList.all litOk = true → OpS s (.const (.agg vs)) (.agg xs) []
  | craw {v : Value} : OpS s (.const v) (.raw v) []

theorem lits_rep {c : Ctx} : ∀ {vs : List Value}, vs.all litOk = true → All2 (RepC c) (vs.map litX) vs
  | [], _ => trivial
  | v :: vs, h => by simp only [List.all_cons, Bool.and_eq_true] at h; exact ⟨litX_rep h.1, lits_rep h.2⟩
theorem RepD.toT {c : Ctx} {x : X} {v : Value} (h : RepD c.h x v) : RepT c x v := by
  cases h with
  | int e => exact .int e
  | bool b => exact .bool b
  | str s e => exact .str s e
  | sl0 a cap e => exact .sl0 a cap e
  | sl rows b off cap sz vs h1 h2 h3 h4 h5 h6 => exact .sl rows b off cap sz vs h1 h2 h3 h4 h5 h6
  | eptr cells b off vs h1 h2 h3 => exact .eptr cells b off vs h1 h2 h3
theorem RepD.toC {c : Ctx} {x : X} {v : Value} (h : RepD c.h x v) : RepC c x v := by
  cases h with
  | int e => exact .int e
  | bool b => exact .bool b
  | str s e => exact .str s e
  | sl0 a cap e => exact .sl0 a cap e
  | sl rows b off cap sz vs h1 h2 h3 h4 h5 h6 => exact .sl rows b off cap sz vs h1 h2 h3 h4 h5 h6
  | eptr cells b off vs h1 h2 h3 => exact .eptr cells b off vs h1 h2 h3
theorem Holds.slot {c : Ctx} {a : Act} {w : World} {t : Nat} {x : X} (h : Holds c a w t x) (ht : Nat.blt t 1000 = true) : RepT c x (a.tmps.getD t undef) := by
  unfold Holds at h
  rwa [if_pos (by rw [Nat.blt_eq] at ht; exact ht)] at h

theorem OpS.looks {s : St} {o : Operand} {y : X} {r : St} (h : OpS s o y r) : Looks s r := by
  cases h with
  | tmp _ h => exact ⟨h, trivial⟩
  | _ => exact trivial
theorem OpS.rep {s : St} {o : Operand} {y : X} {r : St} (h : OpS s o y r) {c : Ctx} {a : Act} {w : World} (hr : ∀ p ∈ r, Holds c a w p.1 p.2) : RepT c y (a.eval o) := by
  cases h with
  | tmp ht _ => exact (hr _ List.mem_cons_self).slot ht
  | cint e => exact RepD.toT (.int e)
  | cbool => exact RepD.toT (.bool _)
  | cstr e hl => subst e; exact RepD.toT (.str _ hl)
  | cnil => exact RepD.toT (.sl0 none 0 (Nat.zero_le _))
  | cfn => exact ⟨[], rfl, trivial⟩
  | cnils => exact rfl
  | cagg e hl => subst e; exact ⟨_, by simp [Act.eval], lits_rep hl⟩
  | craw => exact rfl

/-- An operation's guard, decided. -/
inductive Gd (all : Array Oper) (s : St) : Option (Nat × Bool) → St → Prop
  | none : Gd all s none []
  | yes {j t : Nat} {b b' : Bool} : (all[j]?).bind (·.dst) = some t → Nat.blt t 1000 = true → look s t = some (.bool b') → b' = b → Gd all s (some (j, b)) [(t, .bool b')]
theorem Gd.looks {all : Array Oper} {s : St} {g : Option (Nat × Bool)} {r : St} (h : Gd all s g r) : Looks s r := by
  cases h with
  | none => exact trivial
  | yes _ _ h _ => exact ⟨h, trivial⟩
theorem bool_slot {c : Ctx} {a : Act} {t : Nat} {b : Bool} (h : RepT c (.bool b) (a.tmps.getD t undef)) : a.tmps[t]? = some (.bool b) := by
  have h1 : a.tmps.getD t undef = .bool b := by
    generalize a.tmps.getD t undef = v at h
    cases h; rfl
  simp only [Array.getD] at h1
  split at h1
  · rename_i ht; simp only [Array.getInternal_eq_getElem] at h1; rw [Array.getElem?_eq_getElem ht, h1]
  · cases h1
theorem Gd.wanted {all : Array Oper} {s : St} {o : Oper} {r : St} (h : Gd all s o.guard r) {c : Ctx} {a : Act} {w : World} (hr : ∀ p ∈ r, Holds c a w p.1 p.2) :
    Region.wanted o (yielded all a.tmps) = true := by
  unfold Region.wanted
  generalize o.guard = g at h
  cases h with
  | none => rfl
  | yes hd ht _ he =>
    subst he
    have := bool_slot ((hr _ List.mem_cons_self).slot ht)
    simp [yielded, hd, this]

theorem Looks.app {s : St} : ∀ {r r' : St}, Looks s r → Looks s r' → Looks s (r ++ r')
  | [], _, _, h => h
  | _ :: _, _, h, h' => ⟨h.1, Looks.app h.2 h'⟩

def St1 (E : Env) (all : Array Oper) (o : Oper) (s rd wr : St) (al : List Nat) : Prop := Step E all o rd wr al ∧ Looks s rd

theorem Lx.c {E : Env} {all : Array Oper} {o : Oper} {l : List Oper} {U U' : List Nat} {s s' : St} {L : List Lab} {rd wr : St} {al : List Nat} (h : St1 E all o s rd wr al)
    (hr : Lx E all l (al ++ U) (wr ++ s) L U' s') (ha : (al.all fun k => !U.contains k) = true := by rfl) : Lx E all (o :: l) U s (⟨rd, wr, al⟩ :: L) U' s' := .cons h.1 h.2 ha hr

def isDefer : Op → Bool
  | .defer _ => true
  | _ => false

theorem Base.put {E : Env} {U : List Nat} {c : Ctx} {a : Act} {w : World} (h : Base E U c a w) (d : Option Tmp) (v : Value) : Base E U c (a.put d v) w := by
  refine ⟨h.below, h.hB, ?_, ?_, h.pin, h.hw, h.hle, h.hnew, h.loc, h.arr, h.used, h.Y, h.loc0, h.arr0⟩
  · cases d <;> simp [Act.put, h.nt]
  · cases d <;> exact h.dfr
theorem Holds.put {c : Ctx} {a : Act} {w : World} {d key : Nat} {x : X} (h : Holds c a w key x) (hne : d ≠ key) (v : Value) : Holds c (a.put (some d) v) w key x := by
  unfold Holds at *
  split at h
  · rename_i hk
    rw [if_pos hk]
    simpa [Act.put, Array.getElem?_setIfInBounds_ne hne] using h
  · rename_i hk; rw [if_neg hk]; exact h
theorem getD_put {a : Act} {d : Nat} (hd : d < a.tmps.size) (v : Value) : (a.put (some d) v).tmps.getD d undef = v := by
  simp [Act.put, hd]

/-- What an operation of a value does, apart from its slot. -/
def Does (E : Env) (op : Op) (o : Oper) (r wr : St) (al : List Nat) (x : X) : Prop :=
  ∀ (U : List Nat) (c : Ctx) (a : Act) (w : World), Base E U c a w → (∀ p ∈ r, Holds c a w p.1 p.2) → (∀ k ∈ al, k ∉ U) →
    ∃ v c' w', (execOp a.eval { o with op := op }).run E.P w = .ok (.value v) w' ∧ Base E (al ++ U) c' a w' ∧ Ext c c' ∧ RepT c' x v ∧
      (∀ p ∈ wr, ¬ p.1 < 1000 ∧ Holds c' a w' p.1 p.2) ∧ (∀ key y, ¬ key < 1000 → (∀ p ∈ wr, p.1 ≠ key) → Holds c a w key y → Holds c' a w' key y)

theorem St1.mk {E : Env} {all : Array Oper} {s r rg wr : St} {al : List Nat} {d ty : Nat} {op : Op} {pos : String} {after : Array Edge} {guard : Option (Nat × Bool)} {x : X}
    (hg : Gd all s guard rg) (hd : (Nat.blt d 1000 && Nat.blt d E.nt) = true) (hdef : isDefer op = false) (hl : Looks s r)
    (h : Does E op ⟨some d, op, ty, pos, after, guard⟩ r wr al x) : St1 E all ⟨some d, op, ty, pos, after, guard⟩ s (rg ++ r) ((d, x) :: wr) al := by
  simp only [Bool.and_eq_true, Nat.blt_eq] at hd
  refine ⟨?_, hg.looks.app hl⟩
  intro U c a w hb hr hal next Q hn
  obtain ⟨v, c', w', hrun, hb', hext, hx, hwr, hfr⟩ := h U c a w hb (fun p hp => hr p (List.mem_append_right _ hp)) hal
  have hw := hg.wanted (o := ⟨some d, op, ty, pos, after, guard⟩) (fun p hp => hr p (List.mem_append_left _ hp))
  unfold opIn
  rw [if_pos hw]
  refine ⟨fun _ _ => trivial, ?_⟩
  have hs : Oper.semAt E.F.round a.eval ⟨some d, op, ty, pos, after, guard⟩ = execOp a.eval ⟨some d, op, ty, pos, after, guard⟩ :=
    Oper.semAt_eq _ _ _ fun cl he => by simp only at he; rw [he] at hdef; cases hdef
  rw [hs, hrun]
  have hdt : d < a.tmps.size := by rw [hb.nt]; exact hd.2
  refine hn c' _ w' (hb'.put _ _) hext ?_ ?_
  · intro p hp
    rcases List.mem_cons.1 hp with rfl | hp
    · unfold Holds; rw [if_pos hd.1, getD_put hdt]; exact hx
    · exact (hwr p hp).2.put (fun e => (hwr p hp).1 (e ▸ hd.1)) v
  · intro key y hk hy
    have hne : d ≠ key := hk (d, x) List.mem_cons_self
    by_cases h1 : key < 1000
    · refine Holds.put ?_ hne v
      unfold Holds at hy ⊢
      rw [if_pos h1] at hy ⊢
      exact hy.mono hext
    · exact (hfr key y h1 (fun p hp => hk p (List.mem_cons_of_mem _ hp)) hy).put hne v

/-- An operation that only computes. -/
theorem St1.val {E : Env} {all : Array Oper} {s r rg : St} {d ty : Nat} {op : Op} {pos : String} {after : Array Edge} {guard : Option (Nat × Bool)} {x : X}
    (hg : Gd all s guard rg) (hd : (Nat.blt d 1000 && Nat.blt d E.nt) = true) (hdef : isDefer op = false) (hl : Looks s r)
    (h : ∀ (c : Ctx) (a : Act) (w : World), (∀ p v, c.h p = some v → w.cell? p = some v) → (∀ p ∈ r, Holds c a w p.1 p.2) →
      ∃ v, (execOp a.eval ⟨some d, op, ty, pos, after, guard⟩).run E.P w = .ok (.value v) w ∧ RepT c x v) : St1 E all ⟨some d, op, ty, pos, after, guard⟩ s (rg ++ r) [(d, x)] [] := by
  refine St1.mk hg hd hdef hl fun U c a w hb hr _ => ?_
  obtain ⟨v, h1, h2⟩ := h c a w hb.hw hr
  exact ⟨v, c, w, h1, hb, Ext.refl c, h2, (fun p hp => by cases hp), fun key y _ _ hy => hy⟩

theorem step_skip {E : Env} {all : Array Oper} {s r : St} {d ty j : Nat} {op : Op} {pos : String} {after : Array Edge} {b' : Bool} (hl : Looks s r) (hd : (Nat.blt d 1000 && Nat.blt d E.nt) = true)
    (hn : ∀ c a w, (∀ p ∈ r, Holds c a w p.1 p.2) → (yielded all a.tmps j == some b') = false) : St1 E all ⟨some d, op, ty, pos, after, some (j, b')⟩ s r [(d, .tup [])] [] := by
  simp only [Bool.and_eq_true, Nat.blt_eq] at hd
  refine ⟨?_, hl⟩
  intro U c a w hbase hr _ next Q hnx
  have hw : Region.wanted (⟨some d, op, ty, pos, after, some (j, b')⟩ : Oper) (yielded all a.tmps) = false := hn c a w hr
  unfold opIn
  rw [if_neg (by rw [hw]; simp)]
  have hdt : d < a.tmps.size := by rw [hbase.nt]; exact hd.2
  refine hnx c _ w (hbase.put _ _) (Ext.refl c) ?_ ?_
  · intro p hp
    simp only [List.mem_singleton] at hp
    subst hp
    unfold Holds
    rw [if_pos hd.1, getD_put hdt]
    exact ⟨[], rfl, trivial⟩
  · intro key y hk hy
    exact hy.put (hk (d, .tup []) (by simp)) _
/-- A guarded operation that is passed by. -/
theorem S.skip {E : Env} {all : Array Oper} {s : St} {d ty j t : Nat} {op : Op} {pos : String} {after : Array Edge} {b b' : Bool}
    (ht : (all[j]?).bind (·.dst) = some t) (ht2 : Nat.blt t 1000 = true) (hl : look s t = some (.bool b)) (hb : (b == b') = false) (hd : (Nat.blt d 1000 && Nat.blt d E.nt) = true) : St1 E all ⟨some d, op, ty, pos, after, some (j, b')⟩ s [(t, .bool b)] [(d, .tup [])] [] :=
  step_skip ⟨hl, trivial⟩ hd fun c a w hr => by
    have h1 := bool_slot ((hr (t, .bool b) List.mem_cons_self).slot ht2)
    simp only [yielded, ht, Option.bind_some, h1]
    simpa using hb
/-- The same where the guard itself was passed by. -/
theorem S.skipU {E : Env} {all : Array Oper} {s : St} {d ty j t : Nat} {op : Op} {pos : String} {after : Array Edge} {b' : Bool}
    (ht : (all[j]?).bind (·.dst) = some t) (ht2 : Nat.blt t 1000 = true) (hl : look s t = some (.tup [])) (hd : (Nat.blt d 1000 && Nat.blt d E.nt) = true) : St1 E all ⟨some d, op, ty, pos, after, some (j, b')⟩ s [(t, .tup [])] [(d, .tup [])] [] :=
  step_skip ⟨hl, trivial⟩ hd fun c a w hr => by
    obtain ⟨vs, h1, h2⟩ := (hr (t, .tup []) List.mem_cons_self).slot ht2
    have h3 : vs = [] := All2.nil_left h2
    subst h3
    have h4 : ∀ b, a.tmps[t]? ≠ some (.bool b) := fun b e => by
      have : a.tmps.getD t undef = .bool b := by simp [Array.getD_eq_getD_getElem?, e]
      rw [this] at h1; cases h1
    simp only [yielded, ht, Option.bind_some]
    first
    | rfl
    | (split
       · rename_i e; exact absurd e (h4 _)
       · rfl)
end Go.Ab
