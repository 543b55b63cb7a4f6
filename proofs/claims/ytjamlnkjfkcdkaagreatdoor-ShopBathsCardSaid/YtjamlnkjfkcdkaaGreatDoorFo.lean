/-
  Abstract states: a range over a function.
-/
import Derived.Test.YtjamlnkjfkcdkaaGreatDoorFn
namespace Go.Ab
open Go.RowKit

/-- What a callback with a state comes to over a list; false: it has stopped. -/
def iterG {σ α : Type} (g : σ → α → σ × Bool) : σ → List α → σ × Bool
  | s, [] => (s, true)
  | s, x :: l => if (g s x).2 = true then iterG g (g s x).1 l else ((g s x).1, false)
theorem iterG_snoc {σ α : Type} (g : σ → α → σ × Bool) : ∀ (l : List α) (s : σ) (x : α), iterG g s (l ++ [x]) = if (iterG g s l).2 = true then g (iterG g s l).1 x else iterG g s l
  | [], s, x => by
    simp only [List.nil_append, iterG, if_true]
    split
    · rename_i h; exact Prod.ext rfl h.symm
    · rename_i h; exact Prod.ext rfl (by simpa using (Bool.eq_false_iff.2 h).symm)
  | y :: l, s, x => by
    simp only [List.cons_append, iterG]
    split
    · rename_i h; rw [iterG_snoc g l]
    · rfl
/-- An iterator: it calls what it is given with each of some pieces of data, as long as the answer is true. -/
def SeqOk {α : Type} (P : Program) (gf : Nat) (caps : List X) (encs : α → List X) (l : List α) : Prop :=
  ∀ {σ : Type} (J : σ → Mem → (Nat → Prop) → World → Prop) (g : σ → α → σ × Bool) (s0 : σ) (Φ : Value → Prop), (∀ s, Stable (J s)) →
    (∀ v, Φ v → ∀ (i : Nat) (x : α), l[i]? = some x → (iterG g s0 (l.take i)).2 = true → CbOk P v (encs x) (.bool (g (iterG g s0 (l.take i)).1 x).2) (J (iterG g s0 (l.take i)).1) (J (g (iterG g s0 (l.take i)).1 x).1)) →
    CtG P gf [] (.cb Φ :: caps) [(3000, .res (J s0))] [(3000, .res (J (iterG g s0 l).1))] (.tup [])

def jumpOf : Exit → Option (Option Code)
  | .normal => some none
  | .ret => some (some .ret)
  | .exit id => some (some (.exit id))
  | _ => none
/-- What is asked at a round's end. -/
def RoundQ {σ : Type} (boxes : σ → St) (p : σ × Option Code) : Exit → List Nat → St → Prop := fun e _ s => jumpOf e = some p.2 ∧ Le s (boxes p.1)
def psSt : List Nat → List X → St
  | p :: ps, x :: xs => (p, x) :: psSt ps xs
  | _, _ => []

/-- The record of a range, its rounds' activation. -/
structure Rg where
  fn : FuncId
  tmps : Array Value
  ps : Array Tmp
  assign : Code
  body : Code
  D : Nat
def Rg.obj (r : Rg) (st : LoopState) (pe : Option Code) : Obj := .loop { state := st, pending := pe, fn := r.fn, tmps := r.tmps, params := r.ps, assign := r.assign, body := r.body, defers := r.D }
def rst (pe : Option Code) : LoopState := if pe.isNone then .ready else .done

/-- What the activation knows while another one ranges for it. -/
def JR (E : Env) (u : List Nat) (a : Act) (B1 l : Nat) (r : Rg) (st : St) (pe : Option Code) : Mem → (Nat → Prop) → World → Prop := fun h Y W =>
  ∃ c, Base E u c a W ∧ Mem.le c.h h ∧ (∀ p v, h p = some v → c.h p = some v ∨ (E.B ≤ p.block ∧ ¬ c.all p.block)) ∧ (∀ b, b < B1 → Y b) ∧ (∀ b, c.all b → Y b) ∧ W.heap[l]? = some (r.obj (rst pe) pe) ∧ ¬ c.all l ∧
    ∀ key x, look st key = some x → Holds c a W key x

/-- A state's facts where all blocks that are named stay as they are. -/
theorem keep_holds {c : Ctx} {a a' : Act} {w w' : World} {key : Nat} {x : X} (hk : ∀ b, c.all b → w'.heap[b]? = w.heap[b]?) (hw : ∀ p v, c.h p = some v → w'.cell? p = some v) (hB : BelX 0 (fun _ => False) w w') (ht : a'.tmps = a.tmps) (h : Holds c a w key x) : Holds c a' w' key x := by
  unfold Holds at *
  rw [ht]
  split at h
  · rename_i h1; rw [if_pos h1]; exact h
  · rename_i h1
    rw [if_neg h1]
    refine or_snd h fun h => ?_
    split at h
    · rename_i h2
      rw [if_pos h2]
      obtain ⟨b, o, h1, h3, h4⟩ := h
      exact ⟨b, o, h1, (hk b (.inr (.inl ⟨_, h1⟩))).trans h3, h4⟩
    · rename_i h2
      rw [if_neg h2]
      split at h
      · rename_i h6
        rw [if_pos h6]
        obtain ⟨sz, rows, hv, e, vs, hx, h1, h3, h4⟩ := h
        refine ⟨sz, rows, hv, e, vs, hx, h1, ⟨h3.1, h3.2.imp id ?_⟩, h4⟩
        rintro ⟨g, cap, cur, f1, f2, f3, r⟩
        exact ⟨g, cap, cur, f1, f2, (hk g (.inr (.inr ⟨_, _, _, h1, by rw [f1]; rfl⟩))).trans f3, r⟩
      · rename_i h6
        rw [if_neg h6]
        obtain ⟨hk0, J, hx0, hJ, hJ2⟩ := h
        exact ⟨hk0, J, hx0, hJ, hJ _ _ _ _ _ hJ2 (Mem.le_refl _) (fun _ _ e => .inl e) hw hB fun b hy => hk b (.inl hy)⟩
/-- The frame's facts where all blocks that are named, marked or from before stay as they are. -/
theorem Base.keep {E : Env} {u : List Nat} {c : Ctx} {a : Act} {w w' : World} (hb : Base E u c a w) (hpins : E.pins = []) (hB : BelX 0 (fun _ => False) w w') (hlow : ∀ b, b < E.B → w'.heap[b]? = w.heap[b]?) (hw : ∀ p v, c.h p = some v → w'.cell? p = some v)
    (hD : ∀ D, w.heap[D]? = some (.deferred (some [])) → { target := .collected D, args := #[] } ∈ a.defers → w'.heap[D]? = some (.deferred (some []))) : Base E u c a w' := by
  refine ⟨hb.below.trans ⟨hB.os, hB.tape, hB.output, hB.size, fun k hk _ => hlow k hk⟩, Nat.le_trans hb.hB hB.size, hb.nt, ⟨hb.dfr.1, fun d hd => ?_⟩, (fun p hp => by rw [hpins] at hp; cases hp), hw, hb.hle, hb.hnew, ?_, ?_, hb.used, ?_, hb.loc0, hb.arr0⟩
  · obtain ⟨D, rfl, h2, h3, h4⟩ := hb.dfr.2 d hd
    exact ⟨D, rfl, h2, h3, hD D h4 hd⟩
  · intro k b hk
    obtain ⟨h1, h2, h3⟩ := hb.loc k b hk
    exact ⟨h1, Nat.lt_of_lt_of_le h2 hB.size, h3⟩
  · intro k m hv b hk hbk
    obtain ⟨h1, h2, h3⟩ := hb.arr k m hv b hk hbk
    exact ⟨h1, Nat.lt_of_lt_of_le h2 hB.size, h3⟩
  · intro b hy
    obtain ⟨h1, h2⟩ := hb.Y b hy
    exact ⟨Nat.lt_of_lt_of_le h1 hB.size, h2⟩
theorem JR.stable {E : Env} {u : List Nat} {a : Act} {B1 l : Nat} {r : Rg} {st : St} {pe : Option Code} (hpins : E.pins = []) (hB1 : E.B ≤ B1) (hl : l < B1) (hdef : ∀ D, ({ target := .collected D, args := #[] } : Deferred) ∈ a.defers → D < B1) : Stable (JR E u a B1 l r st pe) := by
  rintro h h' Y w w' ⟨c, hb, hle, hnw, hlow, hall, hrec, hnl, hh⟩ hle2 hnw2 hw' hB hY
  have hw : ∀ p v, c.h p = some v → w'.cell? p = some v := fun p v e => hw' p v (hle2 p v (hle p v e))
  refine ⟨c, hb.keep hpins hB (fun b hb' => hY b (hlow b (Nat.lt_of_lt_of_le hb' hB1))) hw (fun D h1 h2 => (hY D (hlow D (hdef D h2))).trans h1), Mem.le_trans hle hle2, ?_, hlow, hall, (hY l (hlow l hl)).trans hrec, hnl, fun key x hx => keep_holds (fun b hb' => hY b (hall b hb')) hw hB rfl (hh key x hx)⟩
  intro p v hp
  rcases hnw2 p v hp with h1 | h1
  · exact hnw p v h1
  · exact .inr ⟨Nat.le_of_not_lt fun e => h1 (hlow _ (Nat.lt_of_lt_of_le e hB1)), fun e => h1 (hall _ e)⟩

/-! ### a round -/
def rE (E : Env) (u : List Nat) (c0 : Ctx) (w0 : World) (l : Nat) (pins : List (Nat × Obj)) : Env := ⟨E.P, E.nt, u, c0, w0, some l, pins⟩
theorem foldl_size : ∀ (ps : List (Nat × Value)) (t : Array Value), (ps.foldl (fun t (p : Nat × Value) => t.setIfInBounds p.1 p.2) t).size = t.size
  | [], t => rfl
  | p :: ps, t => by rw [List.foldl_cons, foldl_size ps]; simp
theorem foldl_other (k : Nat) : ∀ (ps : List (Nat × Value)) (t : Array Value), (∀ p ∈ ps, p.1 ≠ k) → (ps.foldl (fun t (p : Nat × Value) => t.setIfInBounds p.1 p.2) t).getD k undef = t.getD k undef
  | [], t, _ => rfl
  | p :: ps, t, h => by
    rw [List.foldl_cons, foldl_other k ps _ fun q hq => h q (List.mem_cons_of_mem _ hq)]
    simp only [Array.getD_eq_getD_getElem?, Array.getElem?_setIfInBounds_ne (h p List.mem_cons_self)]
theorem psSt_look : ∀ (ps : List Nat) (xs : List X) {key : Nat} {x : X}, look (psSt ps xs) key = some x → key ∈ ps
  | [], _, _, _, h => by cases h
  | _ :: _, [], _, _, h => by cases h
  | p :: ps, y :: xs, key, x, h => by
    simp only [psSt, look] at h
    split at h
    · rename_i hb; rw [← Nat.eq_of_beq_eq_true hb]; exact List.mem_cons_self
    · exact List.mem_cons_of_mem _ (psSt_look ps xs h)
theorem psSt_none : ∀ (ps : List Nat) (xs : List X) {key : Nat}, ps.length = xs.length → look (psSt ps xs) key = none → key ∉ ps
  | [], _, _, _, _ => by simp
  | _ :: _, [], _, h, _ => by simp at h
  | p :: ps, y :: xs, key, hl, h => by
    simp only [psSt, look] at h
    split at h
    · cases h
    · rename_i hb
      have hne : key ≠ p := fun e => hb (by rw [e]; exact Nat.beq_refl p)
      simp only [List.mem_cons, not_or]
      exact ⟨hne, psSt_none ps xs (by simpa using hl) h⟩
theorem ps_holds {c : Ctx} : ∀ (ps : List Nat) (xs : List X) (vs : List Value) (t : Array Value), ps.length = xs.length → All2 (RepV c) xs vs → ps.Pairwise (· ≠ ·) → (∀ p ∈ ps, p < t.size) → xs.all (fun x => !isTup x) = true →
    ∀ key x, look (psSt ps xs) key = some x → RepT c x (((ps.zip vs).foldl (fun t (p : Nat × Value) => t.setIfInBounds p.1 p.2) t).getD key undef)
  | [], [], _, _, _, _, _, _, _, _, _, h => by cases h
  | p :: ps, y :: xs, vs, t, hl, hv, hp, ht, htup, key, x, h => by
    obtain ⟨v, vs', rfl, h1, h2⟩ := hv.cons_left
    obtain ⟨hp1, hp2⟩ := List.pairwise_cons.1 hp
    simp only [List.all_cons, Bool.and_eq_true, Bool.not_eq_true'] at htup
    rw [List.zip_cons_cons, List.foldl_cons]
    simp only [psSt, look] at h
    split at h
    · rename_i hb
      have := Nat.eq_of_beq_eq_true hb
      subst this
      cases h
      rw [foldl_other p _ _ fun q hq => (hp1 q.1 (List.of_mem_zip hq).1).symm]
      have hlt := ht p List.mem_cons_self
      rw [show (t.setIfInBounds p v).getD p undef = v by simp [hlt]]
      exact V.toT h1 htup.1
    · exact ps_holds ps xs vs' _ (by simpa using hl) h2 hp2 (fun q hq => by simpa using ht q (List.mem_cons_of_mem _ hq)) (by simpa using htup.2) key x h
  | [], _ :: _, _, _, h, _, _, _, _, _, _, _ => by simp at h
  | _ :: _, [], _, _, h, _, _, _, _, _, _, _ => by simp at h
theorem grow_holds {c : Ctx} {h : Mem} {a a' : Act} {w : World} {key : Nat} {x : X} (hle : Mem.le c.h h) (hnw : ∀ p v, h p = some v → c.h p = some v ∨ ¬ c.Y p.block) (hw : ∀ p v, h p = some v → w.cell? p = some v) (hk : ¬ key < 1000) (hh : Holds c a w key x) :
    Holds ⟨h, c.loc, c.arr, c.Y⟩ a' w key x := by
  have hext : Ext c ⟨h, c.loc, c.arr, c.Y⟩ := ⟨hle, fun _ _ e => e, fun _ m hv lv e => ⟨m, hv, lv, e, Nat.le_refl _, fun _ => rfl⟩⟩
  unfold Holds at *
  rw [if_neg hk] at hh ⊢
  refine or_snd hh fun hh => ?_
  split at hh
  · rename_i h2
    rw [if_pos h2]
    obtain ⟨b, o, h1, h3, h4⟩ := hh
    exact ⟨b, o, h1, h3, h4.mono hext⟩
  · rename_i h2
    rw [if_neg h2]
    split at hh
    · rename_i h6
      rw [if_pos h6]
      obtain ⟨sz, rows, hv, e, vs, hx, h1, h3, h4⟩ := hh
      exact ⟨sz, rows, hv, e, vs, hx.mono hext, h1, h3, h4⟩
    · rename_i h6
      rw [if_neg h6]
      obtain ⟨hk0, J, hx0, hJ, hJ2⟩ := hh
      exact ⟨hk0, J, hx0, hJ, hJ _ _ _ _ _ hJ2 hle hnw hw (BelX.refl _ _ _) fun _ _ => rfl⟩

section
variable {E : Env} {u U : List Nat} {c0 : Ctx} {w0 : World} {l D : Nat} {o1 o2 o3 : Obj}
theorem repin {s : St} {a : Act} {w : World} (hg : Good (rE E u c0 w0 l [(l, o1), (D, o3)]) U s a w) (h1 : o1.isCells = false) (h2 : o2.isCells = false) (hne : o1 ≠ .deferred (some [])) (hD : D ≠ l) : Good (rE E u c0 w0 l [(l, o2), (D, o3)]) U s a (w.putObj l o2) := by
  obtain ⟨c, hb, hh⟩ := hg
  obtain ⟨p1, p2, p3⟩ := hb.pin (l, o1) (by simp [rE])
  obtain ⟨q1, q2, q3⟩ := hb.pin (D, o3) (by simp [rE])
  have hX : ∀ b, (rE E u c0 w0 l [(l, o1), (D, o3)]).X b → (rE E u c0 w0 l [(l, o2), (D, o3)]).X b := by
    rintro b (h | ⟨p, hp, rfl⟩)
    · exact .inl h
    · refine .inr ?_
      simp only [rE, List.mem_cons, List.not_mem_nil, or_false] at hp
      rcases hp with rfl | rfl
      · exact ⟨(l, o2), by simp [rE], rfl⟩
      · exact ⟨(D, o3), by simp [rE], rfl⟩
  have ho : ∀ k, k ≠ l → (w.putObj l o2).heap[k]? = w.heap[k]? := fun k hk => World.putObj_heap_other hk
  have hsz : (w.putObj l o2).heap.size = w.heap.size := by simp
  have hcell : ∀ p, (w.putObj l o2).cell? p = w.cell? p := cell_putObj p3 h1 h2
  have hok : ∀ k b, (rE E u c0 w0 l [(l, o1), (D, o3)]).ok k b → (rE E u c0 w0 l [(l, o2), (D, o3)]).ok k b := fun k b h => h.imp id fun h => ⟨h.1, hX b h.2⟩
  refine ⟨c, ⟨(hb.below.mono (Nat.le_refl _) fun k _ h => hX k h).trans ⟨rfl, rfl, rfl, by rw [hsz]; exact Nat.le_refl _, fun k _ hx => ho k fun e => hx (.inr ⟨(l, o2), by simp [rE], e.symm⟩)⟩, by rw [hsz]; exact hb.hB, hb.nt, ⟨hb.dfr.1, fun d hd => ?_⟩, ?_, fun p v e => by rw [hcell]; exact hb.hw p v e, hb.hle, hb.hnew, ?_, ?_, hb.used, ?_, hb.loc0, hb.arr0⟩, fun key x hx => ?_⟩
  · obtain ⟨D', f1, f2, f3, f4⟩ := hb.dfr.2 d hd
    refine ⟨D', f1, f2, f3, (ho D' fun e => ?_).trans f4⟩
    subst e
    rw [p3] at f4
    exact hne (Option.some.inj f4)
  · intro p hp
    simp only [rE, List.mem_cons, List.not_mem_nil, or_false] at hp
    rcases hp with rfl | rfl
    · exact ⟨p1, h2, World.putObj_heap_same (Array.getElem?_eq_some_iff.1 p3).1⟩
    · exact ⟨q1, q2, (ho D hD).trans q3⟩
  · intro k b hk
    rw [hsz]
    obtain ⟨f1, f2⟩ := hb.loc k b hk
    exact ⟨hok k b f1, f2⟩
  · intro k m hv b hk hbk
    rw [hsz]
    obtain ⟨f1, f2⟩ := hb.arr k m hv b hk hbk
    exact ⟨hok k b f1, f2⟩
  · intro b hy
    rw [hsz]
    obtain ⟨f1, f2, f3⟩ := hb.Y b hy
    exact ⟨f1, fun h => hX b (f2 h), f3⟩
  · exact keep_holds (fun b hb' => ho b fun e => p1 (e ▸ hb')) (fun p v e => by rw [hcell]; exact hb.hw p v e) ⟨rfl, rfl, rfl, by rw [hsz]; exact Nat.le_refl _, fun k hk => by omega⟩ rfl (hh key x hx)
end
end Go.Ab
