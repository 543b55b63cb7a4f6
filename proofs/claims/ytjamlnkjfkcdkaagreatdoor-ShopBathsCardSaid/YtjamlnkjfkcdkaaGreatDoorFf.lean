/-
  Abstract states: the contract of a function that leaves the memory before it alone; how it is proved; how a call uses it.
-/
import Derived.Test.YtjamlnkjfkcdkaaGreatDoorFe
namespace Go.Ab
open Go.RowKit

def Ct (P : Program) (f : Nat) (args : List X) (res : X) : Prop :=
  ∀ (h : Mem) (w : World) (vs : List Value), (∀ p v, h p = some v → w.cell? p = some v) → All2 (RepV (pureC h)) args vs →
    Calls P f vs.toArray w fun e w' => ∃ v h', e = .returned v ∧ Below w.heap.size w w' ∧ Mem.le h h' ∧ (∀ p v, h' p = some v → h p = some v ∨ w.heap.size ≤ p.block) ∧
      (∀ p v, h' p = some v → w'.cell? p = some v) ∧ RepT (pureC h') res v

/-! ### returning -/
def okD : X → Bool
  | .int _ _ | .bool _ | .str _ | .sl _ | .eptr _ => true
  | _ => false
theorem D_of {c : Ctx} {u : X} {v : Value} (h : RepC c u v) (hu : okD u = true) : RepD c.h u v := by
  cases u <;> first | exact h | cases hu
theorem Ds_of {c : Ctx} : ∀ {us : List X} {vs : List Value}, All2 (RepC c) us vs → us.all okD = true → All2 (RepD c.h) us vs
  | [], [], _, _ => trivial
  | _ :: _, _ :: _, h, ho => by simp only [List.all_cons, Bool.and_eq_true] at ho; exact ⟨D_of h.1 ho.1, Ds_of h.2 ho.2⟩
  | [], _ :: _, h, _ => h.elim
  | _ :: _, [], h, _ => h.elim
inductive ResC (fs : List Nat) (s : St) : X → X → Prop
  | same {x : X} : okC [] x = true → ResC fs s x x
  | own {k n sz : Nat} {rows : List (List X)} (hk : Nat.blt k 1000 = true) (hl : look s (2000 + k) = some (.arr sz rows)) (hn : rows.length = n) (hk9 : fs.contains k = false := by rfl) : ResC fs s (.own k n) (.sl rows)
  | nils : ResC fs s .nils (.sl [])
  | ptr {k off : Nat} {cells cells' : List X} (hk : Nat.blt k 1000 = true) (hl : look s (1000 + k) = some (.box cells)) (hD : cells.all okD = true) (hd : cells.drop off = cells') (hk9 : fs.contains k = false := by rfl) : ResC fs s (.ptr k off) (.eptr cells')
theorem ResC.nils' {fs : List Nat} {s : St} : ResC fs s .nils (.sl []) := .nils
def isFn : X → Bool
  | .fn _ _ => true
  | _ => false
inductive ResV (fs : List Nat) (s : St) : X → X → Prop
  | c {x y : X} : ResC fs s x y → isAT x = false → ResV fs s x y
  | agg {xs ys : List X} : All2 (ResC fs s) xs ys → ResV fs s (.agg xs) (.agg ys)
  | fn {f : Nat} {xs ys : List X} : All2 (ResC fs s) xs ys → xs.all (fun x => !isFn x) = true → ResV fs s (.fn f xs) (.fn f ys)
theorem Base.not_out_loc {E : Env} {U : List Nat} {c : Ctx} {a : Act} {w : World} (hb : Base E U c a w) {k b : Nat} (h : c.loc k = some b) (hk : k ∉ E.fs) : ¬ c.out E.fs b := by
  rintro (hy | ⟨k', h1, h2⟩ | ⟨k', m, hv, h1, h2, h3⟩)
  · exact (hb.Y b hy).2.2.1 k h
  · exact hk ((hb.loc k b h).2.2.2.1 k' h2 ▸ h1)
  · exact (hb.loc k b h).2.2.2.2 k' m hv h2 h3
theorem Base.not_out_arr {E : Env} {U : List Nat} {c : Ctx} {a : Act} {w : World} (hb : Base E U c a w) {k m b : Nat} {hv : Value} (h : c.arr k = some (m, hv, true)) (hbk : hv.ownBlock = some b) (hk : k ∉ E.fs) : ¬ c.out E.fs b := by
  rintro (hy | ⟨k', h1, h2⟩ | ⟨k', m', hv', h1, h2, h3⟩)
  · exact (hb.Y b hy).2.2.2 k m hv h hbk
  · exact (hb.loc k' b h2).2.2.2.2 k m hv h hbk
  · exact hk ((hb.arr k m hv b h hbk).2.2.2 k' m' hv' h2 h3 ▸ h1)
theorem Base.out_X {E : Env} {U : List Nat} {c : Ctx} {a : Act} {w : World} (hb : Base E U c a w) {b : Nat} (h : c.out E.fs b) (hlt : b < E.B) : E.X b := by
  rcases h with hy | ⟨k, h1, h2⟩ | ⟨k, m, hv, h1, h2, h3⟩
  · exact (hb.Y b hy).2.1 hlt
  · rcases (hb.loc k b h2).1 with h | h
    · omega
    · exact h.2
  · rcases (hb.arr k m hv b h2 h3).1 with h | h
    · omega
    · exact h.2
theorem Base.out_lt {E : Env} {U : List Nat} {c : Ctx} {a : Act} {w : World} (hb : Base E U c a w) {b : Nat} (h : c.out E.fs b) : b < w.heap.size := by
  rcases h with hy | ⟨k, h1, h2⟩ | ⟨k, m, hv, h1, h2, h3⟩
  · exact (hb.Y b hy).1
  · exact (hb.loc k b h2).2.1
  · exact (hb.arr k m hv b h2 h3).2.1

open Classical in
/-- What is not written any more behind the activation: what was so, and all that is its own. -/
noncomputable def Env.fin (E : Env) (c : Ctx) (w : World) : Mem := fun p => if p.block < E.B ∨ c.out E.fs p.block then c.h p else w.cell? p
theorem Env.fin_le {E : Env} {U : List Nat} {c : Ctx} {a : Act} {w : World} (hb : Base E U c a w) : Mem.le c.h (E.fin c w) := by
  intro p v h
  unfold Env.fin
  split
  · exact h
  · exact hb.hw p v h
theorem ctx_cut_ext {c : Ctx} {h' : Mem} (hh : Mem.le c.h h') : Ext (c.cut []) (pureC h') :=
  ⟨hh, fun k b e => by simp [Ctx.cut] at e, fun k m hv lv e => by simp [Ctx.cut] at e⟩
/-- A row of the activation's own, read as data that is not written any more. -/
theorem RepD.of_owns {B : Nat} {w : World} {e sz : Nat} {hv : Value} {rows : List (List X)} {vs : List Value} {h h' : Mem} (ho : w.ownsRow B e sz hv rows.length vs) (hr : ∀ r ∈ rows, r.length = sz) (ha : All2 (RepD h) rows.flatten vs)
    (hh : Mem.le h h') (hcell : ∀ b o, hv.ownBlock = some b → h' ⟨b, o, none⟩ = w.cell? ⟨b, o, none⟩) : RepD h' (.sl rows) hv := by
  obtain ⟨h1, ⟨rfl, h2⟩ | ⟨g, cap, cur, rfl, _, hg, hn, hc, hs, ht⟩⟩ := ho
  · have : rows = [] := List.eq_nil_of_length_eq_zero h2
    subst this
    exact .sl0 none 0 (Nat.zero_le _)
  · refine .sl rows g 0 cap sz vs hn hc hr ha.length ?_ ?_
    · intro i v hv
      rw [hcell g _ rfl, cell_of_row w g (0 + i) cur e (0, 0) hg, Nat.zero_add]
      rw [← ht, List.getElem?_take] at hv
      split at hv
      · simpa using hv
      · cases hv
    · intro i x v hx hv
      exact (ha.get hx hv).mono hh
theorem ResC.fin {E : Env} {U : List Nat} {c : Ctx} {a : Act} {w : World} {s : St} (hb : Base E U c a w) (hh : ∀ key x, look s key = some x → Holds c a w key x) {x y : X} {v : Value} (hr : ResC E.fs s x y) (hx : RepC c x v) :
    RepC (pureC (E.fin c w)) y v := by
  cases hr with
  | nils =>
    have : v = .slice none 0 0 := hx
    subst this
    exact RepD.toC (c := (pureC (E.fin c w))) (.sl0 none 0 (Nat.zero_le _))
  | same ho => exact (hx.cut ho).mono (ctx_cut_ext (Env.fin_le hb))
  | @ptr k off cells cells' hk hl hD hd hk9 =>
    subst hd
    obtain ⟨b, h1, rfl⟩ := hx
    obtain ⟨b', T, vs, h2, h3, h4⟩ := box_of (hh (1000 + k) (.box cells) hl) (by rw [Nat.blt_eq] at hk; omega)
    rw [h1] at h2; cases h2
    have hds := Ds_of h4 hD
    have hbB := Env.ok_own (hb.loc k b h1).1 (nfs hk9)
    have hbY := hb.not_out_loc h1 (nfs hk9)
    refine RepD.toC (c := (pureC (E.fin c w))) (RepD.eptr _ b off (vs.toList.drop off) (by have := h4.length; simp at this ⊢; omega) ?_ ?_)
    · intro i v hv
      rw [List.getElem?_drop] at hv
      show E.fin c w ⟨b, off + i, none⟩ = _
      unfold Env.fin
      rw [if_neg (by show ¬ (b < E.B ∨ c.out E.fs b); exact fun h => h.elim (by omega) hbY), cell_of_row w b (off + i) vs T (0, 0) h3]
      simpa using hv
    · intro i x v hx hv
      rw [List.getElem?_drop] at hx hv
      exact (hds.get hx hv).mono (Env.fin_le hb)
  | @own k n sz rows hk hl hn hk9 =>
    obtain ⟨hv, e, vs, h1, h2, h3, h4⟩ := arr_of (hh _ _ hl)
    obtain ⟨_, m, hv', lv, e1, e2, e3⟩ := hx
    rw [h1] at e1
    cases e1
    rw [e3 hn.symm]
    refine RepD.toC (c := (pureC (E.fin c w))) (RepD.of_owns h2 h3 h4 (Env.fin_le hb) fun b o hbk => ?_)
    have hbB := Env.ok_own (hb.arr k _ _ b h1 hbk).1 (nfs hk9)
    show E.fin c w _ = _
    unfold Env.fin
    rw [if_neg (by show ¬ (b < E.B ∨ c.out E.fs b); exact fun h => h.elim (by omega) (hb.not_out_arr h1 hbk (nfs hk9)))]
theorem All2.fin {E : Env} {U : List Nat} {c : Ctx} {a : Act} {w : World} {s : St} (hb : Base E U c a w) (hh : ∀ key x, look s key = some x → Holds c a w key x) : ∀ {xs ys : List X} {vs : List Value}, All2 (ResC E.fs s) xs ys → All2 (RepC c) xs vs →
    All2 (RepC (pureC (E.fin c w))) ys vs
  | [], [], [], _, _ => trivial
  | _ :: _, _ :: _, _ :: _, h, h' => ⟨h.1.fin hb hh h'.1, All2.fin hb hh h.2 h'.2⟩
  | [], _ :: _, _, h, _ => h.elim
  | _ :: _, [], _, h, _ => h.elim
  | [], [], _ :: _, _, h => h.elim
  | _ :: _, _ :: _, [], _, h => h.elim
theorem V.toC {c : Ctx} {u : X} {v : Value} (h : RepV c u v) (hu : isAT u = false) : RepC c u v := by
  cases u <;> first | exact h | cases hu
theorem C.toV {c : Ctx} {u : X} {v : Value} (h : RepC c u v) (hu : isAT u = false) : RepV c u v := by
  cases u <;> first | exact h | cases hu
theorem T.toV {c : Ctx} {u : X} {v : Value} (h : RepT c u v) (hu : isTup u = false) : RepV c u v := by
  cases u <;> first | exact h | cases hu
theorem V.toT {c : Ctx} {u : X} {v : Value} (h : RepV c u v) (hu : isTup u = false) : RepT c u v := by
  cases u <;> first | exact h | cases hu
theorem ResC.notAT {fs : List Nat} {s : St} {x y : X} (h : ResC fs s x y) (hx : isAT x = false) : isAT y = false := by
  cases h with
  | same _ => exact hx
  | own _ _ _ _ => rfl
  | nils => rfl
  | ptr _ _ _ _ _ => rfl
theorem nf_toC {c : Ctx} {x : X} {v : Value} (h : RepP c x v) (hn : isFn x = false) : RepC c x v := by cases x <;> first | exact h | cases hn
theorem nf_toP {c : Ctx} {x : X} {v : Value} (h : RepC c x v) (hn : isFn x = false) : RepP c x v := by cases x <;> first | exact h | cases hn
theorem ResC.nf {fs : List Nat} {s : St} {x y : X} (h : ResC fs s x y) (hx : isFn x = false) : isFn y = false := by
  cases h with
  | same _ => exact hx
  | own _ _ _ _ => rfl
  | nils => rfl
  | ptr _ _ _ _ _ => rfl
theorem All2.finP {E : Env} {U : List Nat} {c : Ctx} {a : Act} {w : World} {s : St} (hb : Base E U c a w) (hh : ∀ key x, look s key = some x → Holds c a w key x) : ∀ {xs ys : List X} {vs : List Value}, All2 (ResC E.fs s) xs ys → xs.all (fun x => !isFn x) = true → All2 (RepP c) xs vs →
    All2 (RepP (pureC (E.fin c w))) ys vs
  | [], [], [], _, _, _ => trivial
  | _ :: _, _ :: _, _ :: _, h, hn, h' => by
    simp only [List.all_cons, Bool.and_eq_true, Bool.not_eq_true'] at hn
    exact ⟨nf_toP (h.1.fin hb hh (nf_toC h'.1 hn.1)) (h.1.nf hn.1), All2.finP hb hh h.2 (by simpa using hn.2) h'.2⟩
  | [], _ :: _, _, h, _, _ => h.elim
  | _ :: _, [], _, h, _, _ => h.elim
  | [], [], _ :: _, _, _, h => h.elim
  | _ :: _, _ :: _, [], _, _, h => h.elim
theorem ResV.fin {E : Env} {U : List Nat} {c : Ctx} {a : Act} {w : World} {s : St} (hb : Base E U c a w) (hh : ∀ key x, look s key = some x → Holds c a w key x) {x y : X} {v : Value} (hr : ResV E.fs s x y) (hx : RepV c x v) :
    RepV (pureC (E.fin c w)) y v := by
  cases hr with
  | c h hn => exact C.toV (h.fin hb hh (V.toC hx hn)) (h.notAT hn)
  | agg h => obtain ⟨vs, h1, h2⟩ := hx; exact ⟨vs, h1, All2.fin hb hh h h2⟩
  | fn h hn => obtain ⟨vs, h1, h2⟩ := hx; exact ⟨vs, h1, All2.finP hb hh h hn h2⟩

theorem tupAT {y : X} (h : isAT y = false) : isTup y = false := by cases y <;> first | rfl | cases h
/-- One result variable. -/
inductive RetI (E : Env) (s : St) : ResultVar → X → Prop
  | tmp {t : Nat} {x y : X} : Nat.blt t 1000 = true → look s t = some x → ResV E.fs s x y → isTup x = false → RetI E s (.tmp t) y
  | cellN {t T k n : Nat} {cells ys : List X} : Nat.blt t 1000 = true → look s t = some (.ptr k 0) → Nat.blt k 1000 = true → look s (1000 + k) = some (.box cells) → TyI E.P T true n → cells.length = n → All2 (ResC E.fs s) cells ys → RetI E s (.cell t T) (.agg ys)
  | cell1 {t T k n : Nat} {x y : X} : Nat.blt t 1000 = true → look s t = some (.ptr k 0) → Nat.blt k 1000 = true → look s (1000 + k) = some (.box [x]) → TyI E.P T false n → ResC E.fs s x y → isAT x = false → RetI E s (.cell t T) y
def resSem (tmps : Array Value) : ResultVar → Sem Value
  | .tmp t => pure (tmps.getD t undef)
  | .cell a t => do loadVar t (← asAddr (tmps.getD a undef))
theorem ResV.notTup {fs : List Nat} {s : St} {x y : X} (h : ResV fs s x y) (hx : isTup x = false) : isTup y = false := by
  cases h with
  | c h hn => exact tupAT (h.notAT hn)
  | agg _ => rfl
  | fn _ _ => rfl
theorem RetI.fin {E : Env} {U : List Nat} {c : Ctx} {a : Act} {w : World} {s : St} (hb : Base E U c a w) (hh : ∀ key x, look s key = some x → Holds c a w key x) {r : ResultVar} {y : X} (h : RetI E s r y) :
    ∃ v, (resSem a.tmps r).run E.P w = .ok v w ∧ RepV (pureC (E.fin c w)) y v ∧ isTup y = false := by
  cases h with
  | tmp ht hl hr hn => exact ⟨_, rfl, hr.fin hb hh (T.toV ((hh _ _ hl).slot ht) hn), hr.notTup hn⟩
  | cellN ht hl hk hbox hT hlen hres =>
    rw [Nat.blt_eq] at hk
    obtain ⟨b, h1, hv⟩ := ptr_of ((hh _ _ hl).slot ht)
    obtain ⟨b', T', vs, h2, h3, h4⟩ := box_of (hh _ _ hbox) hk
    rw [h1] at h2; cases h2
    refine ⟨.agg vs, ?_, ⟨vs.toList, by simp, All2.fin hb hh hres h4⟩, rfl⟩
    have := run_loadN (P := E.P) hT (b := b) (o := 0) (vs := vs.toList) (w := w) (by rw [← h4.length, hlen]) fun i v hv => by
      rw [cell_of_row w b (0 + i) vs T' (0, 0) h3]; simpa using hv
    simp only [Instr.loadAt, Instr.sureAddr] at this
    simp only [resSem, hv, asAddr]
    simpa using this
  | cell1 ht hl hk hbox hT hres hn =>
    rw [Nat.blt_eq] at hk
    obtain ⟨b, h1, hv⟩ := ptr_of ((hh _ _ hl).slot ht)
    obtain ⟨b', T', vs, h2, h3, h4⟩ := box_of (hh _ _ hbox) hk
    rw [h1] at h2; cases h2
    obtain ⟨v, vs', hvs, hr1, _⟩ := h4.cons_left
    refine ⟨v, ?_, C.toV (hres.fin hb hh hr1) (hres.notAT hn), ?_⟩
    · have := run_load1 (P := E.P) hT (b := b) (o := 0) (v := v) (w := w) (by rw [cell_of_row w b 0 vs T' (0, 0) h3, ← Array.getElem?_toList, hvs]; rfl)
      simp only [Instr.loadAt, Instr.sureAddr] at this
      simp only [resSem, hv, asAddr]
      simpa using this
    · exact tupAT (hres.notAT hn)
def tupOf : List X → X
  | [y] => y
  | ys => .tup ys
def RetQ (E : Env) (rs : List ResultVar) (res : X) : Exit → List Nat → St → Prop := fun e _ s => (e = .ret ∨ e = .normal) ∧ ∃ ys, All2 (RetI E s) rs ys ∧ tupOf ys = res
theorem run_resSems {E : Env} {U : List Nat} {c : Ctx} {a : Act} {w : World} {s : St} (hb : Base E U c a w) (hh : ∀ key x, look s key = some x → Holds c a w key x) : ∀ {rs : List ResultVar} {ys : List X}, All2 (RetI E s) rs ys →
    ∃ vs, (rs.mapM (resSem a.tmps)).run E.P w = .ok vs w ∧ All2 (RepV (pureC (E.fin c w))) ys vs ∧ ∀ y ∈ ys, isTup y = false
  | [], [], _ => ⟨[], rfl, trivial, fun y hy => by cases hy⟩
  | r :: rs, y :: ys, h => by
    obtain ⟨v, h1, h2, h3⟩ := h.1.fin hb hh
    obtain ⟨vs, h4, h5, h6⟩ := run_resSems hb hh h.2
    refine ⟨v :: vs, ?_, ⟨h2, h5⟩, fun y hy => ?_⟩
    · rw [List.mapM_cons]; simp [Sem.run_bind, h1, h4]
    · rcases List.mem_cons.1 hy with rfl | hy
      · exact h3
      · exact h6 y hy
  | [], _ :: _, h => h.elim
  | _ :: _, [], h => h.elim

def argSt : Nat → List X → St
  | _, [] => []
  | i, x :: xs => (i, x) :: argSt (i + 1) xs
theorem look_argSt {key : Nat} {x : X} : ∀ {xs : List X} {i : Nat}, look (argSt i xs) key = some x → i ≤ key ∧ xs[key - i]? = some x
  | [], _, h => by cases h
  | y :: ys, i, h => by
    simp only [argSt, look] at h
    split at h
    · rename_i hb
      have := Nat.eq_of_beq_eq_true hb
      subst this
      cases h
      simp
    · rename_i hb
      have hne : i ≠ key := fun e => hb (by rw [e]; exact Nat.beq_refl key)
      obtain ⟨h1, h2⟩ := look_argSt h
      refine ⟨by omega, ?_⟩
      rw [show key - i = (key - (i + 1)) + 1 by omega, List.getElem?_cons_succ]
      exact h2
abbrev mkE (P : Program) (nt : Nat) (fs : List Nat) (w : World) (c : Ctx) : Env := ⟨P, nt, fs, c, w, none, []⟩

theorem cell_putObj {w : World} {D : Nat} {o o' : Obj} (h : w.heap[D]? = some o) (ho : o.isCells = false) (ho' : o'.isCells = false) (p : Addr) : (w.putObj D o').cell? p = w.cell? p := by
  by_cases hp : p.block = D
  · have h1 : (w.putObj D o').heap[p.block]? = some o' := by rw [hp]; exact World.putObj_heap_same (Array.getElem?_eq_some_iff.1 h).1
    rw [← hp] at h
    unfold World.cell?
    rw [h1, h]
    cases o <;> cases o' <;> simp_all [Obj.isCells]
  · exact World.cell?_of_block (World.putObj_heap_other hp)
/-- Marks of ranges over functions: the frame leaves through them. -/
theorem leaves_marks {P : Program} {fn : Func} {tmps : Array Value} {R : Ending → World → Prop} {B : Nat} {Z : Nat → Prop} : ∀ (ds : List Deferred) (w : World), ds.Pairwise (· ≠ ·) →
    (∀ d ∈ ds, ∃ D, d = { target := .collected D, args := #[] } ∧ B ≤ D ∧ ¬ Z D ∧ w.heap[D]? = some (.deferred (some []))) →
    (∀ w' : World, w'.os = w.os → w'.tape = w.tape → w'.output = w.output → w'.heap.size = w.heap.size → (∀ k, (k < B ∨ Z k ∨ ∃ o : Obj, w.heap[k]? = some o ∧ o.isCells = true) → w'.heap[k]? = w.heap[k]?) → (∀ p, w'.cell? p = w.cell? p) → ∃ v, (results fn tmps).run P w' = .ok v w' ∧ R (.returned v) w') →
    LeavesInM Fence.wide 0 P fn tmps R ds .returning w
  | [], w, _, _, hR => by
    obtain ⟨v, h1, h2⟩ := hR w rfl rfl rfl rfl (fun _ _ => rfl) (fun _ => rfl)
    exact ⟨v, h1, h2⟩
  | d :: ds, w, hp, hd, hR => by
    obtain ⟨D, rfl, hB, hZ, hD⟩ := hd d List.mem_cons_self
    obtain ⟨hp1, hp2⟩ := List.pairwise_cons.1 hp
    have ho : ∀ k, k ≠ D → (w.putObj D (.deferred none)).heap[k]? = w.heap[k]? := fun k hk => World.putObj_heap_other hk
    refine ⟨(fun h => by cases h), .inl ⟨D, w.putObj D (.deferred none), rfl, ?_, leaves_marks (B := B) (Z := Z) ds _ hp2 ?_ ?_⟩⟩
    · exact run_takeDeferred hD
    · intro d' hd'
      obtain ⟨D', rfl, h1, h2, h3⟩ := hd d' (List.mem_cons_of_mem _ hd')
      exact ⟨D', rfl, h1, h2, (ho D' fun e => hp1 _ hd' (by rw [e])).trans h3⟩
    · intro w' e1 e2 e3 e4 e5 e6
      have hne : ∀ k, (k < B ∨ Z k ∨ ∃ o : Obj, w.heap[k]? = some o ∧ o.isCells = true) → k ≠ D := by
        rintro k hk rfl
        rcases hk with hk | hk | ⟨o, h1, h2⟩
        · omega
        · exact hZ hk
        · rw [hD] at h1; cases h1; cases h2
      refine hR w' e1 e2 e3 (by rw [e4]; simp) (fun k hk => (e5 k ?_).trans (ho k (hne k hk))) fun p => (e6 p).trans (cell_putObj hD rfl rfl p)
      exact hk.imp id (Or.imp id fun ⟨o, h1, h2⟩ => ⟨o, (ho k (hne k hk)).trans h1, h2⟩)
/-- What is true of what a call is given of others. -/
structure CtxOk (fs : List Nat) (c : Ctx) (w : World) : Prop where
  hw : ∀ p v, c.h p = some v → w.cell? p = some v
  loc : ∀ k b, c.loc k = some b → k ∈ fs ∧ b < w.heap.size ∧ (∀ o, c.h ⟨b, o, none⟩ = none) ∧ (∀ k', c.loc k' = some b → k' = k) ∧ (∀ k' m hv, c.arr k' = some (m, hv, true) → hv.ownBlock ≠ some b)
  arr : ∀ k m hv b, c.arr k = some (m, hv, true) → hv.ownBlock = some b → k ∈ fs ∧ b < w.heap.size ∧ (∀ o, c.h ⟨b, o, none⟩ = none) ∧ (∀ k' m' hv', c.arr k' = some (m', hv', true) → hv'.ownBlock = some b → k' = k)
  none : ∀ k, k ∉ fs → c.loc k = none ∧ c.arr k = none
  Y : ∀ b, c.Y b → b < w.heap.size ∧ (∀ k, c.loc k ≠ some b) ∧ (∀ k m hv, c.arr k = some (m, hv, true) → hv.ownBlock ≠ some b)

/-- The contract of a call that may turn what is of others. -/
structure PostG (fs : List Nat) (c : Ctx) (w : World) (wr : St) (res : X) (v : Value) (c' : Ctx) (w' : World) : Prop where
  below : BelX w.heap.size (c.out fs) w w'
  ok : CtxOk fs c' w'
  le : Mem.le c.h c'.h
  new : ∀ p v, c'.h p = some v → c.h p = some v ∨ (w.heap.size ≤ p.block ∧ ¬ c'.out fs p.block)
  out : ∀ b, c'.out fs b → b < w.heap.size → c.out fs b
  loc : ∀ k b, c'.loc k = some b → c.loc k = some b
  arr : ∀ k m hv lv, c'.arr k = some (m, hv, lv) → ∃ m0 hv0 lv0, c.arr k = some (m0, hv0, lv0) ∧ m0 ≤ m ∧ (m0 = m → hv = hv0)
  wr : ∀ p ∈ wr, ∀ a, Holds c' a w' p.1 p.2
  res : RepT c' res v
def CtG (P : Program) (f : Nat) (fs : List Nat) (args : List X) (rd wr : St) (res : X) : Prop :=
  ∀ (c : Ctx) (w : World) (vs : List Value), CtxOk fs c w → (∀ p ∈ rd, ∀ a, Holds c a w p.1 p.2) → All2 (RepV c) args vs →
    Calls P f vs.toArray w fun e w' => ∃ v c', e = .returned v ∧ PostG fs c w wr res v c' w'

def Ctx.pub (c : Ctx) (fs : List Nat) (h : Mem) : Ctx := ⟨h, fun k => if fs.contains k then c.loc k else none, fun k => if fs.contains k then c.arr k else none, c.Y⟩
theorem pub_loc {c : Ctx} {fs : List Nat} {h : Mem} {k b : Nat} (e : (c.pub fs h).loc k = some b) : k ∈ fs ∧ c.loc k = some b := by
  simp only [Ctx.pub] at e; split at e
  · exact ⟨List.contains_iff_mem.1 ‹_›, e⟩
  · cases e
theorem pub_arr {c : Ctx} {fs : List Nat} {h : Mem} {k : Nat} {x : Nat × Value × Bool} (e : (c.pub fs h).arr k = some x) : k ∈ fs ∧ c.arr k = some x := by
  simp only [Ctx.pub] at e; split at e
  · exact ⟨List.contains_iff_mem.1 ‹_›, e⟩
  · cases e
theorem pub_out {c : Ctx} {fs : List Nat} {h : Mem} {b : Nat} (e : (c.pub fs h).out fs b) : c.out fs b := by
  rcases e with hy | ⟨k, h1, h2⟩ | ⟨k, m, hv, h1, h2, h3⟩
  · exact .inl hy
  · exact .inr (.inl ⟨k, h1, (pub_loc h2).2⟩)
  · exact .inr (.inr ⟨k, m, hv, h1, (pub_arr h2).2, h3⟩)
/-- Where a piece of data holds names of fs alone. -/
def hiP (fs : List Nat) : X → Bool
  | .ptr k _ => fs.contains k
  | .own k _ => fs.contains k
  | .optr k _ _ => fs.contains k
  | .mptr k => fs.contains k
  | .ownp k _ _ _ _ => fs.contains k
  | _ => true
def hiC (fs : List Nat) : X → Bool
  | .fn _ caps => caps.all (hiP fs)
  | x => hiP fs x
def hiKey (fs : List Nat) (p : Nat × X) : Bool := Nat.ble 1000 p.1 && (match p.2 with
  | .box cells => (fs.any fun k => Nat.beq (1000 + k) p.1) && cells.all (hiC fs)
  | .arr _ _ => fs.any fun k => Nat.beq (2000 + k) p.1
  | .arrn _ _ mid _ => (fs.any fun k => Nat.beq (2000 + k) p.1) && mid.all (hiC fs)
  | .omap _ => fs.any fun k => Nat.beq (1000 + k) p.1
  | .res _ => Nat.ble 3000 p.1
  | _ => false)
theorem RepP.pub {c : Ctx} {fs : List Nat} {h' : Mem} (hh : Mem.le c.h h') {x : X} {v : Value} (h : RepP c x v) (ho : hiP fs x = true) : RepP (c.pub fs h') x v := by
  cases x
  case ptr k off => obtain ⟨b, h1, h2⟩ := h; simp only [hiP] at ho; exact ⟨b, by simp only [Ctx.pub, if_pos ho]; exact h1, h2⟩
  case own k n => obtain ⟨h0, m, hv, lv, h1, h2⟩ := h; simp only [hiP] at ho; exact ⟨h0, m, hv, lv, by simp only [Ctx.pub, if_pos ho]; exact h1, h2⟩
  case optr k n off => obtain ⟨m, hv, lv, h1, h2⟩ := h; simp only [hiP] at ho; exact ⟨m, hv, lv, by simp only [Ctx.pub, if_pos ho]; exact h1, h2⟩
  case mptr k => obtain ⟨b, h1, h2⟩ := h; simp only [hiP] at ho; exact ⟨b, by simp only [Ctx.pub, if_pos ho]; exact h1, h2⟩
  case ownp k n sz lo hi => obtain ⟨h0, m, hv, lv, h1, h2⟩ := h; simp only [hiP] at ho; exact ⟨h0, m, hv, lv, by simp only [Ctx.pub, if_pos ho]; exact h1, h2⟩
  case slc rows => exact ⟨RepD.mono hh h.1, h.2⟩
  case any => exact h
  case raw => exact h
  case nils => exact h
  case cb => exact h
  all_goals exact RepD.mono hh h
theorem RepC.pub {c : Ctx} {fs : List Nat} {h' : Mem} (hh : Mem.le c.h h') {x : X} {v : Value} (h : RepC c x v) (ho : hiC fs x = true) : RepC (c.pub fs h') x v := by
  cases x
  case fn f caps => obtain ⟨vs, h1, h2⟩ := h; exact ⟨vs, h1, All2.cut (R' := RepP (c.pub fs h')) (ok := hiP fs) (fun _ _ h ho => RepP.pub hh h ho) h2 ho⟩
  all_goals (simp only [RepC, hiC] at h ho ⊢; exact RepP.pub hh h ho)
theorem Holds.pub {c : Ctx} {fs : List Nat} {h' : Mem} {w w' : World} (hh : Mem.le c.h h') (hn : ∀ p v, h' p = some v → c.h p = some v ∨ ¬ c.Y p.block) (hw' : ∀ p v, h' p = some v → w'.cell? p = some v) (hB : BelX 0 (fun _ => False) w w')
    (hX : ∀ b, c.out fs b → w'.heap[b]? = w.heap[b]?) {key : Nat} {x : X} {a a' : Act} (h : Holds c a w key x) (ho : hiKey fs (key, x) = true) : Holds (c.pub fs h') a' w' key x := by
  simp only [hiKey, Bool.and_eq_true, Nat.ble_eq] at ho
  obtain ⟨ho1, ho⟩ := ho
  unfold Holds at *
  rw [if_neg (by omega)] at h ⊢
  refine or_snd h fun h => ?_
  split at h
  · rename_i h2
    rw [if_pos h2]
    obtain ⟨b, o, h1, h3, h4⟩ := h
    cases x
    case box cells =>
      obtain ⟨T, vs, h5, h6⟩ := h4
      simp only [Bool.and_eq_true] at ho
      have hf := okU ho.1
      exact ⟨b, o, by simp only [Ctx.pub, hf, if_true]; exact h1, (hX b (.inr (.inl ⟨_, List.contains_iff_mem.1 hf, h1⟩))).trans h3, T, vs, h5, All2.cut (R' := RepC (c.pub fs h')) (ok := hiC fs) (fun _ _ h ho => RepC.pub hh h ho) h6 ho.2⟩
    case omap es =>
      obtain ⟨as, clock, h5, h0, h6⟩ := h4
      simp only at ho
      have hf := okU ho
      exact ⟨b, o, by simp only [Ctx.pub, hf, if_true]; exact h1, (hX b (.inr (.inl ⟨_, List.contains_iff_mem.1 hf, h1⟩))).trans h3, as, clock, h5, h0, h6.mono fun _ _ h => ⟨h.1.mono hh, pure_mono hh h.2⟩⟩
    all_goals exact h4.elim
  · rename_i h2
    rw [if_neg h2]
    split at h
    · rename_i h3
      rw [if_pos h3]
      obtain ⟨sz, rows, hv, e, vs, hx, h1, h4, h5⟩ := h
      have hfx : fs.contains (key - 2000) = true ∧ ArrIs (c.pub fs h') x sz rows vs := by
        cases x
        case arr sz' rows' => exact ⟨okU ho, hx.1, hx.2.1, hx.2.2.mono fun _ _ => RepD.mono hh⟩
        case arrn sz' pre mid post =>
          obtain ⟨q1, q2, v1, v2, v3, q3, q4, q5, q6⟩ := hx
          simp only [Bool.and_eq_true] at ho
          exact ⟨okU ho.1, q1, q2, v1, v2, v3, q3, q4.mono fun _ _ => RepD.mono hh, All2.cut (R' := RepC (c.pub fs h')) (ok := hiC fs) (fun _ _ h ho => RepC.pub hh h ho) q5 ho.2, q6.mono fun _ _ => RepD.mono hh⟩
        all_goals exact hx.elim
      obtain ⟨hf, hx'⟩ := hfx
      refine ⟨sz, rows, hv, e, vs, hx', by simp only [Ctx.pub, hf, if_true]; exact h1, ?_, h5⟩
      refine ⟨h4.1, h4.2.imp id ?_⟩
      rintro ⟨g, cap, cur, e1, e2, e3, r⟩
      refine ⟨g, cap, cur, e1, e2, (hX g (.inr (.inr ⟨_, _, _, List.contains_iff_mem.1 hf, h1, by rw [e1]; rfl⟩))).trans e3, r⟩
    · rename_i h3
      rw [if_neg h3]
      obtain ⟨hk0, J, hx0, hJ, hJ2⟩ := h
      have hx1 : ResIs (c.pub fs h').loc J x := by cases x <;> first | exact hx0 | exact hx0.elim | cases ho
      exact ⟨hk0, J, hx1, hJ, hJ _ _ _ _ _ hJ2 hh hn hw' hB fun b hb => hX b (.inl hb)⟩

def RetG (E : Env) (rs : List ResultVar) (wr : St) (res : X) : Exit → List Nat → St → Prop := fun e U s => RetQ E rs res e U s ∧ Le s wr
theorem slots_start {c : Ctx} {args : List X} {vs : List Value} {n : Nat} {w : World} {ds : List Deferred} (hargs : All2 (RepV c) args vs) (ht : args.all (fun x => !isTup x) = true) (hl2 : args.length ≤ 1000) :
    ∀ key x, look (argSt 0 args) key = some x → Holds c { tmps := vs.toArray ++ Array.replicate n undef, defers := ds } w key x := by
  intro key x hx
  obtain ⟨_, hx⟩ := look_argSt hx
  rw [Nat.sub_zero] at hx
  have hk : key < args.length := (List.getElem?_eq_some_iff.1 hx).1
  have hlen := hargs.length
  unfold Holds
  rw [if_pos (by omega)]
  obtain ⟨v, hv, hvr⟩ := hargs.get_right hx
  have hkv : key < vs.length := by omega
  have : (vs.toArray ++ Array.replicate n undef).getD key undef = v := by
    have h1 : vs[key] = v := by rw [List.getElem?_eq_getElem hkv] at hv; exact Option.some.inj hv
    simp [Array.getElem?_append, hkv, h1]
  rw [this]
  refine V.toT hvr ?_
  have := (List.all_eq_true.1 ht) x (List.mem_of_getElem? hx)
  simpa using this
theorem fin_cells {E : Env} {c : Ctx} {w w' : World} (h : ∀ p, w'.cell? p = w.cell? p) : E.fin c w' = E.fin c w := by
  funext p; unfold Env.fin; rw [h]
theorem Base.calm {E : Env} {U : List Nat} {s : St} {c : Ctx} {a : Act} {w w2 : World} (hb : Base E U c a w) (hh : ∀ key x, look s key = some x → Holds c a w key x) (e1 : w2.os = w.os) (e2 : w2.tape = w.tape) (e3 : w2.output = w.output) (e4 : w2.heap.size = w.heap.size)
    (hpin : E.pins = []) (e5 : ∀ k, (k < E.B ∨ c.all k ∨ ∃ o : Obj, w.heap[k]? = some o ∧ o.isCells = true) → w2.heap[k]? = w.heap[k]?) (e6 : ∀ p, w2.cell? p = w.cell? p) :
    Base E U c { a with defers := [] } w2 ∧ ∀ key x, look s key = some x → Holds c { a with defers := [] } w2 key x := by
  refine ⟨⟨hb.below.trans ⟨e1, e2, e3, by omega, fun k hk _ => e5 k (.inl hk)⟩, by rw [e4]; exact hb.hB, hb.nt, ⟨.nil, fun d hd => by cases hd⟩, (fun p hp => by rw [hpin] at hp; cases hp), fun p v h => by rw [e6]; exact hb.hw p v h, hb.hle, hb.hnew, ?_, ?_, hb.used, ?_, hb.loc0, hb.arr0⟩, ?_⟩
  · rw [e4]; exact hb.loc
  · rw [e4]; exact hb.arr
  · rw [e4]; exact hb.Y
  · intro key x hx
    have h := hh key x hx
    unfold Holds at *
    split at h
    · rename_i hk; rw [if_pos hk]; exact h
    · rename_i hk
      rw [if_neg hk]
      refine or_snd h fun h => ?_
      split at h
      · rename_i h2
        rw [if_pos h2]
        obtain ⟨b, o, h1, h3, h4⟩ := h
        exact ⟨b, o, h1, (e5 b (.inr (.inl (.inr (.inl ⟨_, h1⟩))))).trans h3, h4⟩
      · rename_i h2
        rw [if_neg h2]
        split at h
        · rename_i h3
          rw [if_pos h3]
          obtain ⟨sz, rows, hv, e, vs, hx, h1, h4, h5⟩ := h
          refine ⟨sz, rows, hv, e, vs, hx, h1, ⟨h4.1, h4.2.imp id ?_⟩, h5⟩
          rintro ⟨g, cap, cur, f1, f2, f3, r⟩
          exact ⟨g, cap, cur, f1, f2, (e5 g (.inr (.inr ⟨_, f3, rfl⟩))).trans f3, r⟩
        · rename_i h3
          rw [if_neg h3]
          obtain ⟨hk0, J, hx0, hJ, hJ2⟩ := h
          exact ⟨hk0, J, hx0, hJ, hJ _ _ _ _ _ hJ2 (Mem.le_refl _) (fun _ _ e => .inl e) (fun p v h => by rw [e6]; exact hb.hw p v h) ⟨e1, e2, e3, by omega, fun k hk => by omega⟩ fun b hb' => e5 b (.inr (.inl (.inl hb')))⟩
theorem pure_pub {c : Ctx} {fs : List Nat} {h : Mem} : Ext (pureC h) (c.pub fs h) := ⟨Mem.le_refl _, (fun _ _ e => by cases e), (fun _ _ _ _ e => by cases e)⟩
theorem Base.pub {E : Env} {U : List Nat} {c : Ctx} {a : Act} {w' : World} (hb : Base E U c a w') : CtxOk E.fs (c.pub E.fs (E.fin c w')) w' ∧ Mem.le E.h0 (E.fin c w') ∧
    (∀ p v, E.fin c w' p = some v → E.h0 p = some v ∨ (E.B ≤ p.block ∧ ¬ (c.pub E.fs (E.fin c w')).out E.fs p.block)) := by
  have hfin : ∀ p v, E.fin c w' p = some v → w'.cell? p = some v := by
    intro p v h
    unfold Env.fin at h
    split at h
    · exact hb.hw p v h
    · exact h
  have hout : ∀ b o, c.out E.fs b → c.h ⟨b, o, none⟩ = none → E.fin c w' ⟨b, o, none⟩ = none := by
    intro b o h1 h2
    unfold Env.fin
    rw [if_pos (.inr h1)]; exact h2
  have spot : ∀ (p : Addr) v, E.fin c w' p = some v → p = ⟨p.block, p.off, none⟩ := by
    intro p v h
    have h5 := hfin p v h
    have hsp : p.spot = none := by
      cases hsp : p.spot with
      | none => rfl
      | some q => simp only [World.cell?, hsp] at h5; split at h5 <;> simp at h5
    cases p; simp at hsp; subst hsp; rfl
  refine ⟨⟨hfin, ?_, ?_, fun k hk => ?_, ?_⟩, Mem.le_trans hb.hle (Env.fin_le hb), ?_⟩
  · intro k b hk
    obtain ⟨hk0, hk1⟩ := pub_loc hk
    obtain ⟨_, h2, h3, h4, h5⟩ := hb.loc k b hk1
    exact ⟨hk0, h2, fun o => hout b o (.inr (.inl ⟨k, hk0, hk1⟩)) (h3 o), fun k' hk' => h4 k' (pub_loc hk').2, fun k' m hv hk' => h5 k' m hv (pub_arr hk').2⟩
  · intro k m hv b hk hbk
    obtain ⟨hk0, hk1⟩ := pub_arr hk
    obtain ⟨_, h2, h3, h4⟩ := hb.arr k m hv b hk1 hbk
    exact ⟨hk0, h2, fun o => hout b o (.inr (.inr ⟨k, m, hv, hk0, hk1, hbk⟩)) (h3 o), fun k' m' hv' hk' => h4 k' m' hv' (pub_arr hk').2⟩
  · have hk' : E.fs.contains k = false := by simpa using hk
    simp only [Ctx.pub, hk']
    exact ⟨rfl, rfl⟩
  · intro b hy
    obtain ⟨h1, _, h3, h4⟩ := hb.Y b hy
    exact ⟨h1, fun k hk => h3 k (pub_loc hk).2, fun k m hv hk => h4 k m hv (pub_arr hk).2⟩
  · intro p v hp
    have hsp := spot p v hp
    have hp : E.fin c w' p = some v := hp
    unfold Env.fin at hp
    split at hp
    · rcases hb.hnew p v hp with h | ⟨h1, h2⟩
      · exact .inl h
      · refine .inr ⟨h1, fun ho => ?_⟩
        rcases ho with hy | ⟨k, h3, h4⟩ | ⟨k, m, hv, h3, h4, h5⟩
        · exact h2 hy
        · have := (hb.loc k _ (pub_loc h4).2).2.2.1 p.off
          rw [← hsp, hp] at this; cases this
        · have := (hb.arr k m hv _ (pub_arr h4).2 h5).2.2.1 p.off
          rw [← hsp, hp] at this; cases this
    · rename_i hc
      exact .inr ⟨Nat.le_of_not_lt fun h => hc (.inl h), fun ho => hc (.inr (pub_out ho))⟩
theorem PostG.of_baseP {E : Env} {U : List Nat} {s wr : St} {c : Ctx} {a : Act} {w w' : World} {res : X} {v : Value} (hb : Base E U c a w') (hE : E.B = w.heap.size) (hh : ∀ key x, look s key = some x → Holds c a w' key x) (hle : Le s wr) (hwr : wr.all (hiKey E.fs) = true)
    (hr : RepT (c.pub E.fs (E.fin c w')) res v) (hpin : ∀ b, E.X b → E.c0.out E.fs b) (hw0 : E.w0 = w := by rfl) : PostG E.fs E.c0 w wr res v (c.pub E.fs (E.fin c w')) w' := by
  obtain ⟨q1, q2, q3⟩ := hb.pub
  refine ⟨?_, q1, q2, fun p v hp => (q3 p v hp).imp id fun h => ⟨by rw [← hE]; exact h.1, h.2⟩, ?_, ?_, ?_, ?_, hr⟩
  · rw [← hE, ← hw0]; exact hb.below.mono (Nat.le_refl _) fun k _ h => hpin k h
  · intro b ho hlt
    exact hpin _ (hb.out_X (pub_out ho) (by omega))
  · intro k b hk
    obtain ⟨hk0, hk1⟩ := pub_loc hk
    exact hb.loc0 k b hk0 hk1
  · intro k m hv lv hk
    obtain ⟨hk0, hk1⟩ := pub_arr hk
    obtain ⟨m0, hv0, lv0, h1, h2, h3, _⟩ := hb.arr0 k m hv lv hk0 hk1
    exact ⟨m0, hv0, lv0, h1, h2, h3⟩
  · intro p hp a'
    have hl : look s p.1 = some p.2 := by
      have : ∀ {r : St}, Le s r → ∀ p ∈ r, look s p.1 = some p.2 := by
        intro r
        induction r with
        | nil => intro _ p hp; cases hp
        | cons q r ih =>
          intro h p hp
          rcases List.mem_cons.1 hp with rfl | hp
          · exact h.1
          · exact ih h.2 p hp
      exact this hle p hp
    refine Holds.pub (Env.fin_le hb) ?_ q1.hw (BelX.refl _ _ _) (fun _ _ => rfl) (hh _ _ hl) (List.all_eq_true.1 hwr p hp)
    intro q u hq
    unfold Env.fin at hq
    split at hq
    · exact .inl hq
    · rename_i hc; exact .inr fun hy => hc (.inr (.inl hy))
theorem PostG.of_base {E : Env} {U : List Nat} {s wr : St} {c : Ctx} {a : Act} {w w' : World} {res : X} {v : Value} (hb : Base E U c a w') (hE : E.B = w.heap.size) (hh : ∀ key x, look s key = some x → Holds c a w' key x) (hle : Le s wr) (hwr : wr.all (hiKey E.fs) = true)
    (hr : RepT (pureC (E.fin c w')) res v) (hpin : ∀ b, E.X b → E.c0.out E.fs b) (hw0 : E.w0 = w := by rfl) : PostG E.fs E.c0 w wr res v (c.pub E.fs (E.fin c w')) w' := .of_baseP hb hE hh hle hwr (hr.mono pure_pub) hpin hw0
theorem CtG.intro {P : Program} {f nt : Nat} {fn : Func} {code : Code} {rs : List ResultVar} {fs : List Nat} {args : List X} {rd wr : St} {res : X} (hf : P.funcs[f]? = some fn) (hb : fn.body = some code) (hn : fn.ntmps = nt) (hr : fn.results = rs.toArray)
    (hl : Nat.ble args.length nt = true) (ht : args.all (fun x => !isTup x) = true) (hl2 : Nat.ble args.length 1000 = true) (hwr : wr.all (hiKey fs) = true)
    (h : ∀ w c, OK (mkE P nt fs w c) code (den (mkE P nt fs w c) (RetG (mkE P nt fs w c) rs wr res) []) fs (argSt 0 args ++ rd)) : CtG P f fs args rd wr res := by
  intro c0 w vs hc0 hrd' hargs
  refine (callsIn_wide (n := 0)).1 (callsIn_of_wp_marks hf hb trivial ?_ rfl)
  have hlen := hargs.length
  rw [Nat.ble_eq] at hl hl2
  refine wpIn_mono (h w c0 { tmps := vs.toArray ++ Array.replicate (fn.ntmps - vs.toArray.size) undef, defers := [] } w ?_) ?_
  · refine ⟨c0, ⟨BelX.refl _ _ _, Nat.le_refl _, ?_, ⟨.nil, fun d hd => by cases hd⟩, (fun p hp => by cases hp), hc0.hw, Mem.le_refl _, fun p v e => .inl e, ?_, ?_, hc0.none, ?_, fun k b _ e => e, fun k m hv lv _ e => ⟨m, hv, lv, e, Nat.le_refl _, fun _ => rfl, id, fun _ h => .inl h⟩⟩, ?_⟩
    · simp [hn]; omega
    · intro k b hk
      obtain ⟨h1, h2⟩ := hc0.loc k b hk
      exact ⟨.inr ⟨h1, .inl (.inr (.inl ⟨k, h1, hk⟩))⟩, h2⟩
    · intro k m hv b hk hbk
      obtain ⟨h1, h2⟩ := hc0.arr k m hv b hk hbk
      exact ⟨.inr ⟨h1, .inl (.inr (.inr ⟨k, m, hv, h1, hk, hbk⟩))⟩, h2⟩
    · intro b hb
      obtain ⟨h1, h2⟩ := hc0.Y b hb
      exact ⟨h1, fun _ => .inl (.inl hb), h2⟩
    · intro key x hx
      rw [look_append] at hx
      cases hk : look (argSt 0 args) key with
      | some y =>
        rw [hk] at hx; cases hx
        exact slots_start hargs ht hl2 key x hk
      | none =>
        rw [hk] at hx
        exact hrd' _ (look_mem hx) _
  · rintro e a' w' ⟨U', s', ⟨c, hbase, hh⟩, ⟨he, ys, hys, hres⟩, hle⟩
    have hE : (mkE P nt fs w c0).B = w.heap.size := rfl
    have post : LeavesInM Fence.wide 0 P fn a'.tmps (fun e w' => ∃ v c', e = .returned v ∧ PostG fs c0 w wr res v c' w') a'.defers .returning w' := by
      refine leaves_marks (B := w.heap.size) (Z := c.all) a'.defers w' hbase.dfr.1 ?_ ?_
      · intro d hd
        obtain ⟨D, h1, h2, h3, h4⟩ := hbase.dfr.2 d hd
        exact ⟨D, h1, h2, h3, h4⟩
      · intro w2 e1 e2 e3 e4 e5 e6
        obtain ⟨hbase, hh⟩ := hbase.calm hh e1 e2 e3 e4 rfl e5 e6
        obtain ⟨vs', h1, h2, h3⟩ := run_resSems hbase hh hys
        have hrun : (results fn a'.tmps).run P w2 = .ok (if h : vs'.toArray.size = 1 then vs'.toArray[0] else .tuple vs'.toArray) w2 := by
          have he : results fn a'.tmps = (fn.results.mapM (resSem a'.tmps) >>= fun vs => pure (if h : vs.size = 1 then vs[0] else .tuple vs)) := by
            unfold results
            congr 1
          have h1' : (rs.mapM (resSem a'.tmps)).run P w2 = .ok vs' w2 := h1
          rw [he, hr, Array.mapM_eq_mapM_toList]
          simp [h1']
        refine ⟨_, hrun, _, c.pub fs ((mkE P nt fs w c0).fin c w2), rfl, ?_⟩
        exact PostG.of_base hbase hE hh hle hwr (by
          subst hres
          have hl := h2.length
          match ys, vs', h2, h3, hl with
          | [y], [v], h2, h3, _ => exact V.toT h2.1 (h3 y (by simp))
          | [], [], h2, _, _ => exact ⟨[], rfl, trivial⟩
          | y1 :: y2 :: ys, v1 :: v2 :: vs, h2, _, _ => exact ⟨v1 :: v2 :: vs, by simp, h2⟩
          | [_], [], h2, _, _ => exact h2.elim
          | [], _ :: _, h2, _, _ => exact h2.elim
          | [_], _ :: _ :: _, h2, _, _ => exact h2.2.elim
          | _ :: _ :: _, [], h2, _, _ => exact h2.elim
          | _ :: _ :: _, [_], h2, _, _ => exact h2.2.elim) (fun b h => h.elim id fun ⟨p, hp, _⟩ => by cases hp)
    rcases he with rfl | rfl
    · exact post
    · exact post

theorem Ct.of_G {P : Program} {f : Nat} {args : List X} {res : X} (hg : CtG P f [] args [] [] res) : Ct P f args res := by
  intro h w vs hw hargs
  refine (hg (pureC h) w vs ⟨hw, (fun k b e => by cases e), (fun k m hv b e => by cases e), (fun _ _ => ⟨rfl, rfl⟩), (fun b e => e.elim)⟩ (fun p hp => by cases hp) hargs).mono ?_
  rintro e w' ⟨v, c', rfl, hp⟩
  have hno : ∀ b, ¬ (pureC h).out [] b := by
    rintro b (hy | ⟨k, _, e⟩ | ⟨k, m, hv, _, e, _⟩)
    · exact hy
    · cases e
    · cases e
  refine ⟨v, c'.h, rfl, (hp.below.mono (Nat.le_refl _) fun k _ hk => (hno k hk).elim).below, hp.le, fun p v e => (hp.new p v e).imp id And.left, hp.ok.hw, ?_⟩
  have hext : Ext c' (pureC c'.h) := ⟨Mem.le_refl _, (fun k b e => by have e2 := hp.loc k b e; cases e2), fun k m hv lv e => by obtain ⟨_, _, _, e2, _⟩ := hp.arr k m hv lv e; cases e2⟩
  exact hp.res.mono hext
theorem Ct.intro {P : Program} {f nt : Nat} {fn : Func} {code : Code} {rs : List ResultVar} {args : List X} {res : X} (hf : P.funcs[f]? = some fn) (hb : fn.body = some code) (hn : fn.ntmps = nt) (hr : fn.results = rs.toArray)
    (hl : Nat.ble args.length nt = true) (ht : args.all (fun x => !isTup x) = true) (hl2 : Nat.ble args.length 1000 = true) (h : ∀ w c, OK (mkE P nt [] w c) code (den (mkE P nt [] w c) (RetQ (mkE P nt [] w c) rs res) []) [] (argSt 0 args)) : Ct P f args res :=
  Ct.of_G (CtG.intro hf hb hn hr hl ht hl2 rfl fun w c => by
    rw [List.append_nil]
    exact (h w c).mono fun _ _ _ hq => ⟨hq, trivial⟩)
theorem Ret.r1 {E : Env} {U : List Nat} {s : St} {r : ResultVar} {y res : X} (h : RetI E s r y) (he : y = res) : RetQ E [r] res .ret U s := ⟨.inl rfl, [y], ⟨h, trivial⟩, he⟩
theorem Ret.r2 {E : Env} {U : List Nat} {s : St} {r1 r2 : ResultVar} {y1 y2 res : X} (h1 : RetI E s r1 y1) (h2 : RetI E s r2 y2) (he : .tup [y1, y2] = res) : RetQ E [r1, r2] res .ret U s := ⟨.inl rfl, [y1, y2], ⟨h1, h2, trivial⟩, he⟩
theorem Ret.r3 {E : Env} {U : List Nat} {s : St} {r1 r2 r3 : ResultVar} {y1 y2 y3 res : X} (h1 : RetI E s r1 y1) (h2 : RetI E s r2 y2) (h3 : RetI E s r3 y3) (he : .tup [y1, y2, y3] = res) : RetQ E [r1, r2, r3] res .ret U s :=
  ⟨.inl rfl, [y1, y2, y3], ⟨h1, h2, h3, trivial⟩, he⟩
theorem All2.z {α β : Type} {R : α → β → Prop} : All2 R [] [] := trivial
theorem All2.k {α β : Type} {R : α → β → Prop} {a : α} {b : β} {as : List α} {bs : List β} (h : R a b) (h' : All2 R as bs) : All2 R (a :: as) (b :: bs) := ⟨h, h'⟩
end Go.Ab
