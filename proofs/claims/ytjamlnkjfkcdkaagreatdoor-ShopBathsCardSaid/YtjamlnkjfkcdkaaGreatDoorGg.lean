/-
  Abstract states: loads of structs out of slices of the activation's own; a box becomes data; four results.
-/
import Derived.Test.YtjamlnkjfkcdkaaGreatDoorGf
namespace Go.Ab
open Go.RowKit
theorem Ret.r4 {E : Env} {U : List Nat} {s : St} {r1 r2 r3 r4 : ResultVar} {y1 y2 y3 y4 res : X} (h1 : RetI E s r1 y1) (h2 : RetI E s r2 y2) (h3 : RetI E s r3 y3) (h4 : RetI E s r4 y4) (he : .tup [y1, y2, y3, y4] = res) : RetQ E [r1, r2, r3, r4] res .ret U s :=
  ⟨.inl rfl, [y1, y2, y3, y4], ⟨h1, h2, h3, h4, trivial⟩, he⟩
section
variable {E : Env} {all : Array Oper} {s r r1 r2 r3 rg : St} {d ty : Nat} {pos : String} {after : Array Edge} {guard : Option (Nat × Bool)} {x y z : Operand}
theorem drop_flat {α : Type} {sz : Nat} : ∀ {rows : List (List α)} {i : Nat} {u : List α}, (∀ q ∈ rows, q.length = sz) → rows[i]? = some u → ∃ tl, rows.flatten.drop (i * sz) = u ++ tl
  | [], _, _, _, h => by simp at h
  | q :: rows, 0, u, _, h => by simp at h; subst h; exact ⟨rows.flatten, by simp⟩
  | q :: rows, i + 1, u, hr, h => by
    obtain ⟨tl, e⟩ := drop_flat (rows := rows) (i := i) (fun p hp => hr p (List.mem_cons_of_mem q hp)) (by simpa using h)
    refine ⟨tl, ?_⟩
    rw [List.flatten_cons, Nat.succ_mul, Nat.add_comm, List.drop_append, ← hr q List.mem_cons_self]
    simp only [List.drop_of_length_le (Nat.le_add_right _ _), List.nil_append, Nat.add_sub_cancel_left]
    rw [hr q List.mem_cons_self]
    exact e
/-- A struct out of a slice of the activation's own. -/
theorem S.oload {T k n off sz i : Nat} {us : List X} {rows : List (List X)} (ht : TyI E.P T true sz) (hg : Gd all s guard rg) (hd : (Nat.blt d 1000 && Nat.blt d E.nt) = true) (hx : OpS s x (.optr k n off) r) (hl : look s (2000 + k) = some (.arr sz rows)) (hn : rows.length = n)
    (hoff : off = i * sz) (hu : rows[i]? = some us) : St1 E all ⟨some d, .load T x, ty, pos, after, guard⟩ s (rg ++ (r ++ [(2000 + k, .arr sz rows)])) [(d, .agg us)] [] :=
  St1.val hg hd rfl (hx.looks.app ⟨hl, trivial⟩) fun c A w hh hr => by
    subst hn
    subst hoff
    obtain ⟨m, hv, lv, e1, e2, e3⟩ := optr_of (hx.rep (c := c) (a := A) (w := w) fun p hp => hr p (by simp [hp]))
    obtain ⟨v, e', vs, g1, g2, g3, g4⟩ := arr_of (hr (2000 + k, .arr sz rows) (by simp))
    rw [e1] at g1
    cases g1
    obtain ⟨b, l, cp, rfl, hp⟩ := e3 rfl
    have hus : us.length = sz := g3 us (List.mem_of_getElem? hu)
    obtain ⟨tl, etl⟩ := drop_flat g3 hu
    have h5 : All2 (RepD c.h) us ((vs.drop (i * sz)).take sz) := by
      have h6 := (g4.drop (i * sz)).take sz
      rw [etl, ← hus, List.take_left] at h6
      rwa [hus] at h6
    have hlen := h5.length
    refine ⟨.agg ((vs.drop (i * sz)).take sz).toArray, ?_, _, rfl, h5.mono fun _ _ h => RepD.toC h⟩
    simp only [execOp, hp]
    rw [Sem.run_bind, run_loadN ht (vs := (vs.drop (i * sz)).take sz) (by omega) fun j v hv => ?_]
    · rfl
    · rw [List.getElem?_take] at hv
      split at hv
      · rw [List.getElem?_drop] at hv
        have := g2.cells (g := b) rfl (i * sz + j) v hv
        rw [add_off] at this
        rwa [show 0 + (i * sz + j) = i * sz + j by omega] at this
      · cases hv
theorem Base.addH {U : List Nat} {c : Ctx} {a : Act} {w : World} (hb : Base E U c a w) {b : Nat} (h1 : E.B ≤ b) (h3 : ∀ k, c.loc k ≠ some b) (h4 : ∀ k m hv, c.arr k = some (m, hv, true) → hv.ownBlock ≠ some b) (h5 : ¬ c.Y b) {h' : Mem} (hh' : h' = fun p => if p.block = b then w.cell? p else c.h p) :
    Base E U ⟨h', c.loc, c.arr, c.Y⟩ a w ∧ Mem.le c.h h' ∧ (∀ p v, h' p = some v → c.h p = some v ∨ ¬ c.Y p.block) ∧ (∀ p v, h' p = some v → w.cell? p = some v) := by
  have hle : Mem.le c.h h' := by
    intro p u hp
    rw [hh']
    dsimp only
    split
    · exact hb.hw p u hp
    · exact hp
  have hin : ∀ p u, h' p = some u → c.h p = some u ∨ (p.block = b ∧ w.cell? p = some u) := by
    intro p u hp
    rw [hh'] at hp
    dsimp only at hp
    split at hp
    · exact .inr ⟨‹_›, hp⟩
    · exact .inl hp
  have hwn : ∀ p u, h' p = some u → w.cell? p = some u := by
    intro p u hp
    rcases hin p u hp with h | h
    · exact hb.hw p u h
    · exact h.2
  have none_of : ∀ b' o, b' ≠ b → c.h ⟨b', o, none⟩ = none → h' ⟨b', o, none⟩ = none := by
    intro b' o hne hn
    rw [hh']
    dsimp only
    rw [if_neg hne]
    exact hn
  refine ⟨⟨hb.below, hb.hB, hb.nt, hb.dfr, hb.pin, hwn, Mem.le_trans hb.hle hle, ?_, ?_, ?_, hb.used, hb.Y, hb.loc0, hb.arr0⟩, hle, ?_, hwn⟩
  · intro p u hp
    rcases hin p u hp with h | h
    · exact hb.hnew p u h
    · exact .inr ⟨by rw [h.1]; exact h1, by rw [h.1]; exact h5⟩
  · intro j b' hj
    obtain ⟨q1, q2, q3, q4, q5⟩ := hb.loc j b' hj
    exact ⟨q1, q2, fun o => none_of b' o (fun e => h3 j (e ▸ hj)) (q3 o), q4, q5⟩
  · intro j m u b' hj hbk
    obtain ⟨q1, q2, q3, q4⟩ := hb.arr j m u b' hj hbk
    exact ⟨q1, q2, fun o => none_of b' o (fun e => h4 j m u hj (e ▸ hbk)) (q3 o), q4⟩
  · intro p u hp
    rcases hin p u hp with h | h
    · exact .inl h
    · exact .inr (by rw [h.1]; exact h5)
/-- A box that a slot leads to is not written any more: it becomes data. The names that stay are U'. -/
theorem Good.freezeP {U U' : List Nat} {s1 : St} {a : Act} {w : World} {t k : Nat} {cells : List X} (hg : Good E U s a w) (ht : Nat.blt t 1000 = true) (hk : Nat.blt k 1000 = true) (hl : look s t = some (.ptr k 0)) (hl2 : look s (1000 + k) = some (.box cells)) (hD : cells.all okD = true) (hk9 : k ∉ E.fs)
    (hkU : U'.contains k = false) (hle : Le s s1) (ho : s1.all (okKey U') = true) : Good E U' ((t, .eptr cells) :: s1) a w := by
  obtain ⟨c, hb, hh⟩ := hg
  obtain ⟨b, f1, f2⟩ := ptr_of ((hh _ _ hl).slot ht)
  rw [Nat.blt_eq] at ht hk
  obtain ⟨b', T, vs, g1, g2, g3⟩ := box_of (hh _ _ hl2) hk
  rw [f1] at g1
  cases g1
  have g4 : All2 (RepD c.h) cells vs.toList := Ds_of g3 hD
  obtain ⟨q1, q2, q3, q4, q5⟩ := hb.loc k b f1
  have hcell : ∀ (i : Nat) (v : Value), vs.toList[i]? = some v → w.cell? ⟨b, i, none⟩ = some v := fun i v hv => by
    rw [Array.getElem?_toList] at hv
    simp [World.cell?, g2, hv]
  obtain ⟨h', hh'⟩ : ∃ h' : Mem, h' = fun p => if p.block = b then w.cell? p else (c.cut U').h p := ⟨_, rfl⟩
  obtain ⟨t1, t2, t3, t4⟩ := (hb.cut U').addH (b := b) (Env.ok_own q1 hk9) (fun j hj => by
      have hcj : (c.cut U').loc j = some b := hj
      simp only [Ctx.cut] at hcj
      split at hcj
      · rename_i hc
        have := q4 j hcj
        subst this
        rw [hkU] at hc; cases hc
      · cases hcj) (fun j m hv' hj e => by
      have hcj : (c.cut U').arr j = some (m, hv', true) := hj
      simp only [Ctx.cut] at hcj
      split at hcj
      · exact q5 j m hv' hcj e
      · cases hcj) (fun hy => (hb.Y b hy).2.2.1 k f1) hh'
  have hext : Ext (c.cut U') ⟨h', (c.cut U').loc, (c.cut U').arr, (c.cut U').Y⟩ := ⟨t2, fun _ _ e => e, fun _ m hv lv e => ⟨m, hv, lv, e, Nat.le_refl _, fun _ => rfl⟩⟩
  refine ⟨_, t1, fun key x hx => ?_⟩
  simp only [look] at hx
  split at hx
  · rename_i e
    have := Nat.eq_of_beq_eq_true e
    cases hx
    subst this
    unfold Holds
    rw [if_pos ht]
    show RepD h' (.eptr cells) _
    rw [f2]
    refine .eptr cells b 0 vs.toList g4.length (fun i v hv => ?_) fun i x v hx hv => (g4.get hx hv).mono t2
    rw [hh']
    dsimp only
    rw [if_pos rfl, Nat.zero_add]
    exact hcell i v hv
  · have h0 := Holds.cut (hh key x (hle.look key x hx)) (List.all_eq_true.1 ho _ (look_mem hx))
    by_cases hk' : key < 1000
    · unfold Holds at h0 ⊢
      rw [if_pos hk'] at h0 ⊢
      exact h0.mono hext
    · exact grow_holds t2 t3 t4 hk' h0
theorem OK.freezeP {U : List Nat} {code : Code} {Q : Exit → List Nat → St → Prop} (U' : List Nat) (s1 : St) (t : Nat) {k : Nat} {cells : List X} (ht : Nat.blt t 1000 = true) (hk : Nat.blt k 1000 = true) (hl : look s t = some (.ptr k 0)) (hl2 : look s (1000 + k) = some (.box cells)) (hD : cells.all okD = true)
    (hkU : U'.contains k = false) (hle : Le s s1) (ho : s1.all (okKey U') = true) (h : OK E code Q U' ((t, .eptr cells) :: s1)) (hk9 : E.fs.contains k = false := by rfl) : OK E code Q U s := fun a w hg => h a w (hg.freezeP ht hk hl hl2 hD (nfs hk9) hkU hle ho)
/-- A slice of the activation's own, seen as a piece of itself. -/
theorem Good.ownP {U : List Nat} {a : Act} {w : World} {t k n sz : Nat} {rows : List (List X)} (hg : Good E U s a w) (ht : Nat.blt t 1000 = true) (hl : look s t = some (.own k n)) (hl2 : look s (2000 + k) = some (.arr sz rows)) (hn : rows.length = n) : Good E U ((t, .ownp k n sz 0 n) :: s) a w := by
  subst hn
  obtain ⟨c, hb, hh⟩ := hg
  obtain ⟨h0, m, hv, lv, e1, e2, e3⟩ := own_of ((hh _ _ hl).slot ht)
  obtain ⟨v, e', vs, g1, g2, g3, g4⟩ := arr_of (hh _ _ hl2)
  rw [e1] at g1
  cases g1
  have hev := e3 rfl
  obtain ⟨a', cap, q1, q2, q3⟩ := sub_of g2 0 rows.length (Nat.zero_le _) (Nat.le_refl _)
  refine ⟨c, hb, fun key x hx => ?_⟩
  simp only [look] at hx
  split at hx
  · rename_i e
    have := Nat.eq_of_beq_eq_true e
    cases hx
    subst this
    unfold Holds
    rw [if_pos (by simpa using ht)]
    refine ⟨h0, _, _, _, e1, Nat.le_refl _, fun _ => ?_⟩
    have hs : (if cap = 0 then a' else a'.map (·.add (0 * sz))) = a' := by
      split
      · rfl
      · rcases g2.2 with ⟨z1, z2⟩ | ⟨g, cap', cur, z1, _⟩
        · rw [q1] at z1; injection z1 with z3; rw [z3]; rfl
        · rw [q1] at z1
          cases z1
          simp only [Option.map_some, Nat.zero_mul, add_zero']
    rw [hs, Nat.sub_zero, Nat.sub_zero, ← q1] at q3
    rw [hev]
    exact q3
  · exact hh key x hx
theorem OK.ownP {U : List Nat} {code : Code} {Q : Exit → List Nat → St → Prop} (t : Nat) {k n sz : Nat} {rows : List (List X)} (ht : Nat.blt t 1000 = true) (hl : look s t = some (.own k n)) (hl2 : look s (2000 + k) = some (.arr sz rows)) (hn : rows.length = n)
    (h : OK E code Q U ((t, .ownp k n sz 0 n) :: s)) : OK E code Q U s := fun a w hg => h a w (hg.ownP ht hl hl2 hn)
end
end Go.Ab
