import Derived.Test.YtpfepjgnojfppaaGreatDoorFd
namespace Go.Ab
open Go.RowKit
theorem Base.append {E : Env} {U : List Nat} {c : Ctx} {a : Act} {w w' : World} (hb : Base E U c a w) {k n n' : Nat} {v v' : Value} (hk : c.arr k = some (n, v, true)) (hg : w.grownBy w' v.ownBlock) (hn : n ≤ n') (hnv : n = n' → v' = v)
    (hv : v'.ownBlock = v.ownBlock ∨ (v'.ownBlock = some w.heap.size ∧ w.heap.size < w'.heap.size)) (hcl : ∀ (D : Nat) (o : Obj), v.ownBlock = some D → w.heap[D]? = some o → o.isCells = true) :
    Base E U (c.own k n' v' true) a w' ∧ Ext c (c.own k n' v' true) ∧ (c.own k n' v' true).arr k = some (n', v', true) ∧
      ∀ key y, ¬ key < 1000 → key ≠ 2000 + k → Holds c a w key y → Holds (c.own k n' v' true) a w' key y := by
  have hlt : ∀ p v, c.h p = some v → p.block < w.heap.size := fun p v e => block_lt_of_cell (hb.hw p v e)
  have hold : ∀ j m u lv, c.arr j = some (m, u, lv) → ∃ m' u' lv', (c.own k n' v' true).arr j = some (m', u', lv') ∧ m ≤ m' ∧ (m = m' → u' = u) := by
    intro j m u lv hj
    simp only [Ctx.own]
    split
    · rename_i e; subst e; rw [hk] at hj; cases hj; exact ⟨n', v', true, rfl, hn, hnv⟩
    · exact ⟨m, u, lv, hj, Nat.le_refl _, fun _ => rfl⟩
  have hext : Ext c (c.own k n' v' true) := ⟨Mem.le_refl _, fun _ _ e => e, hold⟩
  have hnew : ∀ j m u, (c.own k n' v' true).arr j = some (m, u, true) → (j = k ∧ u = v') ∨ (j ≠ k ∧ c.arr j = some (m, u, true)) := by
    intro j m u hj
    simp only [Ctx.own] at hj
    split at hj
    · rename_i e; cases hj; exact .inl ⟨e, rfl⟩
    · rename_i e; exact .inr ⟨e, hj⟩
  have hvb : ∀ b, v'.ownBlock = some b → (v.ownBlock = some b) ∨ (b = w.heap.size ∧ b < w'.heap.size) := by
    intro b e
    rcases hv with h | ⟨h, h'⟩
    · exact .inl (h ▸ e)
    · rw [h] at e; cases e; exact .inr ⟨rfl, h'⟩
  have notv : ∀ b, v.ownBlock = some b → E.ok k b ∧ b < w.heap.size ∧ (∀ o, c.h ⟨b, o, none⟩ = none) ∧ (∀ k' m' hv', c.arr k' = some (m', hv', true) → hv'.ownBlock = some b → k' = k) := fun b e => hb.arr k n v b hk e
  have hwn : ∀ p u, c.h p = some u → w'.cell? p = some u := by
    intro p u hp
    have h1 := hb.hw p u hp
    refine hg.cell h1 fun e => ?_
    have hsp : p.spot = none := by
      cases hsp : p.spot with
      | none => rfl
      | some q => simp only [World.cell?, hsp] at h1; split at h1 <;> simp at h1
    have h6 := (notv p.block e.symm).2.2.1 p.off
    have : p = ⟨p.block, p.off, none⟩ := by cases p; simp at hsp; subst hsp; rfl
    rw [← this, hp] at h6; cases h6
  have hkeep : ∀ (D : Nat) (o : Obj), w.heap[D]? = some o → o.isCells = false → w'.heap[D]? = some o := fun D o hD ho => (hg.block D (Array.getElem?_eq_some_iff.1 hD).1 fun e => by have := hcl D o e.symm hD; rw [ho] at this; cases this).trans hD
  have hall : ∀ b, b < w.heap.size → (c.own k n' v' true).all b → c.all b := by
    intro b hlt2 ho
    rcases ho with hy | h | ⟨j, m, u, h2, h3⟩
    · exact .inl hy
    · exact .inr (.inl h)
    · rcases hnew j m u h2 with ⟨rfl, rfl⟩ | ⟨_, h2⟩
      · rcases hvb b h3 with h | ⟨h, _⟩
        · exact .inr (.inr ⟨_, _, _, hk, h⟩)
        · omega
      · exact .inr (.inr ⟨j, m, u, h2, h3⟩)
  refine ⟨⟨hb.below.trans ⟨hg.os, hg.tape, hg.output, hg.size, fun j hj hx => hg.block j (Nat.lt_of_lt_of_le hj hb.hB) fun e => Env.ok_turn (notv j e.symm).1 hj hx rfl⟩, Nat.le_trans hb.hB hg.size, hb.nt, dfr_of hb hall hkeep, pin_of hb hall hkeep, hwn, hb.hle, hb.hnew, ?_, ?_, ?_, ?_, hb.loc0, ?_⟩, hext, by simp [Ctx.own], ?_⟩
  · intro j b hj
    obtain ⟨h1, h2, h3, h4, h5⟩ := hb.loc j b hj
    refine ⟨h1, Nat.lt_of_lt_of_le h2 hg.size, h3, h4, fun k' m u hk' => ?_⟩
    rcases hnew k' m u hk' with ⟨rfl, rfl⟩ | ⟨_, hk'⟩
    · intro e
      rcases hvb b e with h | ⟨h, _⟩
      · exact h5 _ _ _ hk h
      · omega
    · exact h5 k' m u hk'
  · intro j m u b hj hbk
    rcases hnew j m u hj with ⟨rfl, rfl⟩ | ⟨hne, hj2⟩
    · rcases hvb b hbk with h | ⟨rfl, hltb⟩
      · obtain ⟨h1, h2, h3, h4⟩ := notv b h
        refine ⟨h1, Nat.lt_of_lt_of_le h2 hg.size, h3, fun k' m' u' hk' hb' => ?_⟩
        rcases hnew k' m' u' hk' with ⟨rfl, _⟩ | ⟨_, hk'⟩
        · rfl
        · exact h4 k' m' u' hk' hb'
      · refine ⟨.inl hb.hB, hltb, fun o => ?_, fun k' m' u' hk' hb' => ?_⟩
        · cases hh : c.h ⟨w.heap.size, o, none⟩ with
          | none => exact hh
          | some v => have := hlt _ _ hh; simp at this
        · rcases hnew k' m' u' hk' with ⟨rfl, _⟩ | ⟨_, hk'⟩
          · rfl
          · have := (hb.arr k' m' u' _ hk' hb').2.1; omega
    · obtain ⟨h1, h2, h3, h4⟩ := hb.arr j m u b hj2 hbk
      refine ⟨h1, Nat.lt_of_lt_of_le h2 hg.size, h3, fun k' m' u' hk' hb' => ?_⟩
      rcases hnew k' m' u' hk' with ⟨rfl, rfl⟩ | ⟨_, hk'⟩
      · rcases hvb b hb' with h | ⟨h, _⟩
        · exact ((notv b h).2.2.2 j m u hj2 hbk).symm
        · omega
      · exact h4 k' m' u' hk' hb'
  · intro j hj
    refine ⟨(hb.used j hj).1, ?_⟩
    simp only [Ctx.own]
    split
    · rename_i e; subst e; have := (hb.used _ hj).2; rw [hk] at this; cases this
    · exact (hb.used j hj).2
  · intro b hy
    obtain ⟨h1, h2, h3, h4⟩ := hb.Y b hy
    refine ⟨Nat.lt_of_lt_of_le h1 hg.size, h2, h3, fun j m u hj e => ?_⟩
    rcases hnew j m u hj with ⟨rfl, rfl⟩ | ⟨_, hj2⟩
    · rcases hvb b e with h | ⟨h, _⟩
      · exact h4 _ _ _ hk h
      · omega
    · exact h4 j m u hj2 e
  · intro j m u lv hj e
    simp only [Ctx.own] at e
    split at e
    · rename_i e2
      subst e2
      cases e
      obtain ⟨m0, hv0, lv0, f1, f2, f3, f4, f5⟩ := hb.arr0 _ _ _ _ hj hk
      refine ⟨m0, hv0, lv0, f1, by omega, fun e => by rw [hnv (by omega)]; exact f3 (by omega), fun _ => f4 rfl, fun b hb2 => ?_⟩
      rcases hvb b hb2 with h | ⟨h, _⟩
      · exact f5 b h
      · exact .inr (h ▸ hb.hB)
    · exact hb.arr0 j m u lv hj e
  · intro key u hkey hne hu
    unfold Holds at hu ⊢
    rw [if_neg hkey] at hu ⊢
    refine or_snd hu fun hu => ?_
    split at hu
    · rename_i h2
      rw [if_pos h2]
      obtain ⟨b, o, h1, h3, h4⟩ := hu
      refine ⟨b, o, h1, (hg.block b (hb.loc _ _ h1).2.1 fun e => ?_).trans h3, h4.mono hext⟩
      exact (hb.loc _ _ h1).2.2.2.2 _ _ _ hk e.symm
    · rename_i h2
      rw [if_neg h2]
      split at hu
      · rename_i h6
        rw [if_pos h6]
        obtain ⟨sz, rows, hv2, e, vs, hx, h1, h3, h4⟩ := hu
        have hj : key - 2000 ≠ k := by omega
        refine ⟨sz, rows, hv2, e, vs, hx.mono hext, by simp only [Ctx.own]; rw [if_neg hj]; exact h1, ⟨h3.1, h3.2.imp id ?_⟩, h4⟩
        rintro ⟨g, cap, cur, f1, f2, f3, f4⟩
        refine ⟨g, cap, cur, f1, f2, (hg.block g (Array.getElem?_eq_some_iff.1 f3).1 fun e => ?_).trans f3, f4⟩
        exact hj ((notv g e.symm).2.2.2 _ _ _ h1 (by rw [f1]; rfl))
      · rename_i h6
        rw [if_neg h6]
        obtain ⟨hk0, J, hx0, hJ, hJ2⟩ := hu
        refine ⟨hk0, J, hx0, hJ, hJ _ _ _ _ _ hJ2 (Mem.le_refl _) (fun _ _ e => .inl e) hwn ⟨hg.os, hg.tape, hg.output, hg.size, fun j hj => by omega⟩ fun b hy => hg.block b (hb.Y b hy).1 fun e => ?_⟩
        exact (hb.Y b hy).2.2.2 _ _ _ hk e.symm
theorem not_dfr {w : World} {B e sz n : Nat} {v : Value} {xs : List Value} (h : w.ownsRow B e sz v n xs) : ∀ (D : Nat) (o : Obj), v.ownBlock = some D → w.heap[D]? = some o → o.isCells = true := by
  intro D o hD hd
  rcases h.2 with ⟨rfl, _⟩ | ⟨g, cap, cur, rfl, _, hg, _⟩
  · cases hD
  · cases hD; rw [hg] at hd; cases hd; rfl
theorem own_of {c : Ctx} {k n : Nat} {v : Value} (h : RepT c (.own k n) v) : (∃ a l cp, v = .slice a l cp) ∧ ∃ m hv lv, c.arr k = some (m, hv, lv) ∧ n ≤ m ∧ (n = m → v = hv) := h
section
variable {E : Env} {all : Array Oper} {s r r1 r2 r3 rg : St} {d ty : Nat} {pos : String} {after : Array Edge} {guard : Option (Nat × Bool)} {x y z : Operand}
theorem append_any {t u e sz bytes k n m : Nat} {du : TypeDesc} {rows rows2 : List (List X)} (hA : ApI E.P t e sz bytes) (hu : E.P.underlying u = some du) (hdu : srcD du) (hg : Gd all s guard rg) (hd : (Nat.blt d 1000 && Nat.blt d E.nt) = true)
    (hx : OpS s x (.own k n) r1) (hl : look s (2000 + k) = some (.arr sz rows)) (hn : rows.length = n) (hl2 : Looks s r2) (hr2 : ∀ q ∈ rows2, q.length = sz) (hm : rows2.length = m) (hbd : (n + m) * bytes ≤ 140737488355328) (hbm : n + m ≤ maxLen)
    (hsrc : ∀ c a w, (∀ p v, c.h p = some v → w.cell? p = some v) → (∀ p ∈ r2, Holds c a w p.1 p.2) → ∃ news, All2 (RepD c.h) rows2.flatten news ∧ (∀ w, (Builtin.lenOf (a.eval y)).run E.P w = .ok m w) ∧ (∀ q ∈ news, q.oneCell' = true) ∧
      ∀ w' : World, (∀ p, w'.cell? p = w.cell? p) → (Builtin.firstCells sz m (a.eval y)).run E.P w' = .ok news.toArray w') :
    St1 E all ⟨some d, .call { callee := .builtin .append, args := #[x, y], argTypes := #[t, u] }, ty, pos, after, guard⟩ s (rg ++ (r1 ++ ([(2000 + k, .arr sz rows)] ++ r2))) ((d, .own k (n + m)) :: [(2000 + k, .arr sz (rows ++ rows2))]) [] :=
  St1.mk hg hd rfl (hx.looks.app (Looks.app (r := [(2000 + k, .arr sz rows)]) ⟨hl, trivial⟩ hl2)) fun U c a w hb hr _ => by
    subst hn
    obtain ⟨hv0, m0, hv, lv, e1, e2, e3⟩ := own_of (hx.rep (c := c) (a := a) (w := w) fun p hp => hr p (by simp [hp]))
    obtain ⟨v, e', vs, g1, g2, g3, g4⟩ := arr_of (hr (2000 + k, .arr sz rows) (by simp))
    rw [e1] at g1
    cases g1
    obtain ⟨news, n1, n2, n3, n4⟩ := hsrc c a w hb.hw fun p hp => hr p (by simp [hp])
    obtain ⟨i, zv, i1, i2, i3, i4, i5⟩ := hA.ex
    have hfl2 : news.length = m * sz := by rw [← n1.length, flatten_length hr2, hm]
    have hev := e3 rfl
    obtain ⟨v', w', e1', q1, q2, q3, q4, q5, q6⟩ := run_append_src (P := E.P) w 0 t u ty e e' du i zv sz bytes hA.und hu hdu i1 i2 i3 i4 i5 _ rows.length vs g2 (a.eval y) m news n2 hfl2 n4 n3 hbm hbd (Nat.zero_le _)
    obtain ⟨p1, p2, p3, p4⟩ := hb.append (n' := rows.length + m) (v' := v') e1 q3 (by omega) (fun h => q5 (by omega)) q4 (not_dfr g2)
    refine ⟨v', _, w', ?_, p1, p2, ⟨q6, _, _, _, p3, Nat.le_refl _, fun _ => rfl⟩, ?_, fun key y hkey hne hy => p4 key y hkey (fun e => hne _ (List.mem_singleton.2 rfl) e.symm) hy⟩
    · simp only [execOp, resolve, invoke, builtin, Sem.run_bind, Sem.run_pure, Result.andThen_ok, List.map_toArray, List.map_cons, List.map_nil, hev, q1]
    · intro p hp
      simp only [List.mem_singleton] at hp
      subst hp
      refine Holds.mkArr (e := e1') (arr_lt (hr (2000 + k, .arr sz rows) (by simp))) (by rw [List.length_append, hm]; exact p3) (by rw [List.length_append, hm]; exact q2) (fun q hq => ?_) ?_
      · rcases List.mem_append.1 hq with h | h
        · exact g3 q h
        · exact hr2 q h
      · rw [List.flatten_append]
        exact (g4.append n1).mono fun _ _ => RepD.mono p2.h
theorem srcD_sl {e : Nat} : srcD (.slice e) := .inl ⟨e, rfl⟩
theorem oneCell_D {h : Mem} {x : X} {v : Value} (r : RepD h x v) : v.oneCell' = true := by cases r <;> first | rfl | assumption
theorem oneCells_D {h : Mem} : ∀ {xs : List X} {vs : List Value}, All2 (RepD h) xs vs → ∀ q ∈ vs, q.oneCell' = true
  | [], [], _, q, hq => by cases hq
  | _ :: _, v :: vs, h, q, hq => by
    rcases List.mem_cons.1 hq with rfl | hq
    · exact oneCell_D h.1
    · exact oneCells_D h.2 q hq
  | [], _ :: _, h, _, _ => h.elim
  | _ :: _, [], h, _, _ => h.elim
theorem S.append {t e sz bytes k n j m : Nat} {rows rows2 : List (List X)} (hA : ApI E.P t e sz bytes) (hg : Gd all s guard rg) (hd : (Nat.blt d 1000 && Nat.blt d E.nt) = true)
    (hx : OpS s x (.own k n) r1) (hl : look s (2000 + k) = some (.arr sz rows)) (hn : rows.length = n) (hy : OpS s y (.own j m) r2) (hl2 : look s (2000 + j) = some (.arr sz rows2)) (hm : rows2.length = m) (hbd : (n + m) * bytes ≤ 140737488355328) (hbm : n + m ≤ maxLen) :
    St1 E all ⟨some d, .call { callee := .builtin .append, args := #[x, y], argTypes := #[t, t] }, ty, pos, after, guard⟩ s (rg ++ (r1 ++ ([(2000 + k, .arr sz rows)] ++ (r2 ++ [(2000 + j, .arr sz rows2)])))) ((d, .own k (n + m)) :: [(2000 + k, .arr sz (rows ++ rows2))]) [] := by
  have hr2 : Looks s (r2 ++ [(2000 + j, X.arr sz rows2)]) := hy.looks.app ⟨hl2, trivial⟩
  -- the rows' widths come out of the state itself
  by_cases hw : ∀ q ∈ rows2, q.length = sz
  · refine append_any hA hA.und srcD_sl hg hd hx hl hn hr2 hw hm hbd hbm fun c a w hh hr => ?_
    subst hm
    obtain ⟨_, m0, hv, lv, e1, e2, e3⟩ := own_of (hy.rep (c := c) (a := a) (w := w) fun p hp => hr p (by simp [hp]))
    obtain ⟨v, e', vs, g1, g2, g3, g4⟩ := arr_of (hr (2000 + j, .arr sz rows2) (by simp))
    rw [e1] at g1
    cases g1
    have hev := e3 rfl
    refine ⟨vs, g4, ?_, oneCells_D g4, ?_⟩
    · intro w2
      rw [hev]
      rcases g2.2 with ⟨rfl, h0⟩ | ⟨g, cap, cur, rfl, _⟩
      · simp [Builtin.lenOf, h0]
      · simp [Builtin.lenOf]
    · intro w' hw'
      rw [hev]
      rcases g2.2 with ⟨rfl, h0⟩ | ⟨g, cap, cur, rfl, h1, h2, h3, h4, h5, h6⟩
      · have : vs = [] := List.eq_nil_of_length_eq_zero (by rw [g2.1, h0]; simp)
        subst this
        simp [Builtin.firstCells]
      · exact run_firstCells_some w' sz rows2.length ⟨g, 0, none⟩ rows2.length cap vs g2.1 fun i u hu => by rw [hw']; exact g2.cells (g := g) rfl i u hu
  · refine ⟨?_, hg.looks.app (hx.looks.app (Looks.app (r := [(2000 + k, .arr sz rows)]) ⟨hl, trivial⟩ hr2))⟩
    intro U c a w hb hr
    obtain ⟨v, e', vs, g1, g2, g3, g4⟩ := arr_of (hr (2000 + j, .arr sz rows2) (by simp))
    exact absurd g3 hw
theorem S.appendSl {t e sz bytes k n m : Nat} {rows rows2 : List (List X)} (hA : ApI E.P t e sz bytes) (hg : Gd all s guard rg) (hd : (Nat.blt d 1000 && Nat.blt d E.nt) = true)
    (hx : OpS s x (.own k n) r1) (hl : look s (2000 + k) = some (.arr sz rows)) (hn : rows.length = n) (hy : OpS s y (.sl rows2) r2) (hw : ∀ q ∈ rows2, q.length = sz) (hm : rows2.length = m) (hbd : (n + m) * bytes ≤ 140737488355328) (hbm : n + m ≤ maxLen) :
    St1 E all ⟨some d, .call { callee := .builtin .append, args := #[x, y], argTypes := #[t, t] }, ty, pos, after, guard⟩ s (rg ++ (r1 ++ ([(2000 + k, .arr sz rows)] ++ r2))) ((d, .own k (n + m)) :: [(2000 + k, .arr sz (rows ++ rows2))]) [] :=
  append_any hA hA.und srcD_sl hg hd hx hl hn hy.looks hw hm hbd hbm fun c a w hh hr => by
    subst hm
    obtain ⟨ad, cap, hv, h1, h2, h3⟩ := sl_of (hy.rep (c := c) (a := a) (w := w) hr)
    rcases h3 with rfl | ⟨b, off, sz', vs, rfl, h3, h4, h5, h6⟩
    · refine ⟨[], trivial, fun w => by rw [hv]; simp [Builtin.lenOf], (fun q hq => by cases hq), fun w' hw' => ?_⟩
      rw [hv]
      cases ad with
      | none => simp [Builtin.firstCells]
      | some ad => exact run_firstCells_some w' sz 0 ad 0 cap [] (by simp) fun i u hu => by simp at hu
    · have ha : All2 (RepD c.h) rows2.flatten vs := All2.of_get h4 fun i u v hu hv => h6 i u v hu hv
      refine ⟨vs, ha, fun w => by rw [hv]; simp [Builtin.lenOf], oneCells_D ha, fun w' hw' => ?_⟩
      rw [hv]
      exact run_firstCells_some w' sz rows2.length ⟨b, off, none⟩ rows2.length cap vs (by rw [← h4, flatten_length hw]) fun i u hu => by rw [hw', add_off]; exact hh _ _ (h5 i u hu)
theorem Base.freezeT {U : List Nat} {c : Ctx} {a : Act} {w : World} {t k sz : Nat} {rows : List (List X)} (hb : Base E U c a w) (ht : Nat.blt t 1000 = true) (hl : Holds c a w t (.own k rows.length)) (hl2 : Holds c a w (2000 + k) (.arr sz rows)) (hk9 : k ∉ E.fs) :
    ∃ c', Base E U c' a w ∧ Ext c c' ∧ Holds c' a w t (.sl rows) ∧ ∀ key u, 2000 + k ≠ key → Holds c a w key u → Holds c' a w key u := by
  obtain ⟨_, m0, hv, lv, e1, e2, e3⟩ := own_of (hl.slot ht)
  obtain ⟨v, e', vs, g1, g2, g3, g4⟩ := arr_of hl2
  rw [e1] at g1
  cases g1
  have hev := e3 rfl
  obtain ⟨h', hh'⟩ : ∃ h' : Mem, h' = fun p => if hv.ownBlock = some p.block then w.cell? p else c.h p := ⟨_, rfl⟩
  have hblk : ∀ b, hv.ownBlock = some b → E.ok k b ∧ b < w.heap.size ∧ (∀ o, c.h ⟨b, o, none⟩ = none) ∧ (∀ k' m' hv', c.arr k' = some (m', hv', true) → hv'.ownBlock = some b → k' = k) := fun b e => hb.arr k _ _ b e1 e
  have hle : Mem.le c.h h' := by
    intro p u hp
    rw [hh']
    dsimp only
    split
    · exact hb.hw p u hp
    · exact hp
  have hin : ∀ p u, h' p = some u → c.h p = some u ∨ (hv.ownBlock = some p.block ∧ w.cell? p = some u) := by
    intro p u hp
    rw [hh'] at hp
    dsimp only at hp
    split at hp
    · exact .inr ⟨‹_›, hp⟩
    · exact .inl hp
  have hext : Ext c ⟨h', c.loc, fun j => if j = k then some (rows.length, hv, false) else c.arr j, c.Y⟩ := ⟨hle, fun _ _ e => e, fun j m u lv e => by
    by_cases hj : j = k
    · subst hj; rw [e1] at e; cases e; exact ⟨_, _, false, if_pos rfl, Nat.le_refl _, fun _ => rfl⟩
    · exact ⟨m, u, lv, (if_neg hj).trans e, Nat.le_refl _, fun _ => rfl⟩⟩
  have harr : ∀ j m u, (if j = k then some (rows.length, hv, false) else c.arr j) = some (m, u, true) → j ≠ k ∧ c.arr j = some (m, u, true) := by
    intro j m u hj
    split at hj
    · cases hj
    · exact ⟨‹_›, hj⟩
  have hall : ∀ b, b < w.heap.size → (Ctx.mk h' c.loc (fun j => if j = k then some (rows.length, hv, false) else c.arr j) c.Y).all b → c.all b := by
    intro b _ ho
    rcases ho with hy | h | ⟨j, m, u, h2, h3⟩
    · exact .inl hy
    · exact .inr (.inl h)
    · exact .inr (.inr ⟨j, m, u, (harr j m u h2).2, h3⟩)
  have hwn : ∀ p u, h' p = some u → w.cell? p = some u := by
    intro p u hp
    rcases hin p u hp with h | h
    · exact hb.hw p u h
    · exact h.2
  refine ⟨⟨h', c.loc, fun j => if j = k then some (rows.length, hv, false) else c.arr j, c.Y⟩, ⟨hb.below, hb.hB, hb.nt, dfr_of hb hall (fun _ _ h _ => h), pin_of hb hall (fun _ _ h _ => h), hwn, Mem.le_trans hb.hle hle, ?_, ?_, ?_, ?_, ?_, hb.loc0, ?_⟩, hext, ?_, ?_⟩
  · intro p u hp
    rcases hin p u hp with h | h
    · exact hb.hnew p u h
    · exact .inr ⟨Env.ok_own (hblk _ h.1).1 hk9, fun hy => (hb.Y _ hy).2.2.2 _ _ _ e1 h.1⟩
  · intro j b hj
    obtain ⟨h1, h2, h3, h4, h5⟩ := hb.loc j b hj
    refine ⟨h1, h2, fun o => ?_, h4, fun k' m u hk' => h5 k' m u (harr _ _ _ hk').2⟩
    cases hq : h' ⟨b, o, none⟩ with
    | none => exact hq
    | some u =>
      rcases hin _ _ hq with h | h
      · rw [h3 o] at h; cases h
      · exact absurd h.1 (h5 _ _ _ e1)
  · intro j m u b hj hbk
    obtain ⟨hjk, hj⟩ := harr j m u hj
    obtain ⟨h1, h2, h3, h4⟩ := hb.arr j m u b hj hbk
    refine ⟨h1, h2, fun o => ?_, fun k' m' u' hk' hb' => h4 k' m' u' (harr _ _ _ hk').2 hb'⟩
    cases hq : h' ⟨b, o, none⟩ with
    | none => exact hq
    | some u =>
      rcases hin _ _ hq with h | h
      · rw [h3 o] at h; cases h
      · exact absurd ((hblk b h.1).2.2.2 j m _ hj hbk) hjk
  · intro j hj
    refine ⟨(hb.used j hj).1, ?_⟩
    dsimp only
    split
    · rename_i e; subst e; have := (hb.used _ hj).2; rw [e1] at this; cases this
    · exact (hb.used j hj).2
  · intro b hy
    obtain ⟨h1, h2, h3, h4⟩ := hb.Y b hy
    exact ⟨h1, h2, h3, fun j m u hj e => h4 j m u (harr j m u hj).2 e⟩
  · intro j m u lv hj e
    exact hb.arr0 j m u lv hj ((if_neg (show ¬ j = k from fun e => hk9 (e ▸ hj))).symm.trans e)
  · rw [Nat.blt_eq] at ht
    unfold Holds
    rw [if_pos ht, hev]
    refine RepD.toT (c := ⟨h', c.loc, _, c.Y⟩) (RepD.of_owns g2 g3 g4 hle fun b o hbk => ?_)
    rw [hh']
    dsimp only
    rw [if_pos hbk]
  · intro key u hne h0
    unfold Holds at h0 ⊢
    split at h0
    · rename_i hlt; rw [if_pos hlt]; exact h0.mono hext
    · rename_i hlt
      rw [if_neg hlt]
      refine or_snd h0 fun h0 => ?_
      split at h0
      · rename_i h2
        rw [if_pos h2]
        obtain ⟨b, o, f1, f2, f3⟩ := h0
        exact ⟨b, o, f1, f2, f3.mono hext⟩
      · rename_i h2
        rw [if_neg h2]
        split at h0
        · rename_i h6
          rw [if_pos h6]
          obtain ⟨sz2, rows2, hv2, e2', vs2, f4, f1, f2, f3⟩ := h0
          have hj : key - 2000 ≠ k := by omega
          generalize key - 2000 = j at f1 hj
          exact ⟨sz2, rows2, hv2, e2', vs2, f4.mono hext, (if_neg hj).trans f1, f2, f3⟩
        · rename_i h6
          rw [if_neg h6]
          obtain ⟨hk0, J, hx0, hJ, hJ2⟩ := h0
          exact ⟨hk0, J, hx0, hJ, hJ _ _ _ _ _ hJ2 hle (fun p v e => (hin p v e).imp id fun h hy => (hb.Y _ hy).2.2.2 _ _ _ e1 h.1) hwn (BelX.refl _ _ _) fun _ _ => rfl⟩
theorem Good.freeze {U : List Nat} {a : Act} {w : World} {t k n sz : Nat} {rows : List (List X)} (hg : Good E U s a w) (ht : Nat.blt t 1000 = true) (hl : look s t = some (.own k n)) (hl2 : look s (2000 + k) = some (.arr sz rows)) (hn : rows.length = n) (hk9 : k ∉ E.fs) :
    Good E U ((t, .sl rows) :: (2000 + k, .any) :: s) a w := by
  subst hn
  obtain ⟨c, hb, hh⟩ := hg
  obtain ⟨c', q1, q2, q3, q4⟩ := hb.freezeT ht (hh _ _ hl) (hh _ _ hl2) hk9
  refine ⟨c', q1, fun key x hx => ?_⟩
  simp only [look] at hx
  split at hx
  · rename_i hk
    have := Nat.eq_of_beq_eq_true hk
    cases hx
    subst this
    exact q3
  · split at hx
    · rename_i hk
      have := Nat.eq_of_beq_eq_true hk
      cases hx
      subst this
      unfold Holds
      rw [if_neg (by omega)]
      exact .inl rfl
    · rename_i hk
      exact q4 key x (fun e => hk (by rw [e]; exact Nat.beq_refl key)) (hh key x hx)
theorem OK.freeze {U : List Nat} {code : Code} {Q : Exit → List Nat → St → Prop} (t : Nat) {k n sz : Nat} {rows : List (List X)} (ht : Nat.blt t 1000 = true) (hl : look s t = some (.own k n)) (hl2 : look s (2000 + k) = some (.arr sz rows)) (hn : rows.length = n)
    (h : OK E code Q U ((t, .sl rows) :: (2000 + k, .any) :: s)) (hk9 : E.fs.contains k = false := by rfl) : OK E code Q U s := fun a w hg => h a w (hg.freeze ht hl hl2 hn (nfs hk9))
end
end Go.Ab
