/-
  Abstract states: a round of a range over a function, out of the walk of its body; the statement.
-/
import Derived.Test.YtjamlnkjfkcdkaaGreatDoorFp
namespace Go.Ab
open Go.RowKit

section
variable {E : Env} {u : List Nat} {a : Act} {W : World} {B1 l : Nat} {h : Mem} {Y : Nat → Prop} {σ : Type}
theorem round_ok (hpins : E.pins = []) (r : Rg) {slots : St} {boxes : σ → St} {s0 s1 : σ} {j : Option Code} {ps : List Nat} {xs : List X} {vs : List Value} (hEl : E.B ≤ l) (hl1 : l < B1) (hDB : E.B ≤ r.D) (hD1 : r.D < B1) (hD : ({ target := .collected r.D, args := #[] } : Deferred) ∈ a.defers)
    (hDl : r.D ≠ l) (htm : r.tmps = a.tmps) (hps : r.ps = ps.toArray) (hpl : ps.length = xs.length) (hpw : ps.Pairwise (· ≠ ·)) (hpt : ∀ p ∈ ps, p < E.nt) (hp1 : ∀ p ∈ ps, p < 1000) (htup : xs.all (fun x => !isTup x) = true)
    (hYlt : ∀ b, Y b → b < W.heap.size) (hwW : ∀ p v, h p = some v → W.cell? p = some v) (hJ : JR E u a B1 l r (slots ++ boxes s0) none h Y W) (hargs : All2 (RepV (pureC h)) xs vs)
    (hhi : (boxes s1).all (hiKey u) = true) (hslots : slots.all (slotOk (boxes s1)) = true)
    (hwalk : ∀ (c0 : Ctx) (w0 : World) (p1 p2 : List (Nat × Obj)), OK (rE E u c0 w0 l p1) r.assign (fun e U s' => e = .normal ∧ OK (rE E u c0 w0 l p2) r.body (den (rE E u c0 w0 l p2) (RoundQ boxes (s1, j)) []) U s') u (psSt ps xs ++ (slots ++ boxes s0))) :
    YieldAt Fence.wide 0 E.P l vs.toArray W fun e W' => ∃ v h' Y', e = .returned v ∧ PostJ h Y W h' Y' W' ∧ JR E u a B1 l r (slots ++ boxes s1) j h' Y' W' ∧ RepT (pureC h') (.bool j.isNone) v := by
  obtain ⟨c, hb, hle, hnw, hlow, hall, hrec, hnl, hh⟩ := hJ
  have hvl := hargs.length
  have hrec' : W.heap[l]? = some (.loop { state := .ready, pending := none, fn := r.fn, tmps := r.tmps, params := r.ps, assign := r.assign, body := r.body, defers := r.D }) := hrec
  refine ⟨r.fn, _, r.assign, r.body, run_yield hrec' (by rw [hps]; simp; omega), roundIn_of_wpIn trivial ?_⟩
  have hfold : (r.ps.zip vs.toArray).foldl (fun tmps (x : Nat × Value) => match x with | (t, a) => tmps.setIfInBounds t a) r.tmps = (ps.zip vs).foldl (fun t (p : Nat × Value) => t.setIfInBounds p.1 p.2) a.tmps := by
    rw [hps, htm, ← Array.foldl_toList]
    simp
  rw [hfold]
  obtain ⟨t1, ht1⟩ : ∃ t1, t1 = (ps.zip vs).foldl (fun t (p : Nat × Value) => t.setIfInBounds p.1 p.2) a.tmps := ⟨_, rfl⟩
  rw [← ht1]
  have hsz : t1.size = a.tmps.size := by rw [ht1]; exact foldl_size _ _
  have hlW := (Array.getElem?_eq_some_iff.1 hrec).1
  obtain ⟨D', d1, d2, d3, d4⟩ := hb.dfr.2 _ hD
  have hDD : r.D = D' := by have := congrArg Deferred.target d1; simpa using this
  subst hDD
  have hnoneOf : ∀ b, c.all b → ∀ o, c.h ⟨b, o, none⟩ = none → h ⟨b, o, none⟩ = none := by
    intro b hb2 o hn
    cases hq : h ⟨b, o, none⟩ with
    | none => rfl
    | some v =>
      rcases hnw _ _ hq with h1 | h1
      · rw [hn] at h1; cases h1
      · exact absurd hb2 h1.2
  have good : Good (rE E u ⟨h, c.loc, c.arr, c.Y⟩ W l [(l, r.obj .ready none), (r.D, .deferred (some []))]) u (psSt ps xs ++ (slots ++ boxes s0)) { tmps := t1, defers := [] } W := by
    refine ⟨⟨h, c.loc, c.arr, c.Y⟩, ⟨BelX.refl _ _ _, Nat.le_refl _, by show t1.size = E.nt; rw [hsz, hb.nt], ⟨.nil, fun d hd => by cases hd⟩, ?_, hwW, Mem.le_refl _, fun p v e => .inl e, ?_, ?_, hb.used, ?_, fun k b _ e => e, fun k m hv lv _ e => ⟨m, hv, lv, e, Nat.le_refl _, fun _ => rfl, id, fun _ h => .inl h⟩⟩, ?_⟩
    · intro p hp
      simp only [rE, List.mem_cons, List.not_mem_nil, or_false] at hp
      rcases hp with rfl | rfl
      · exact ⟨hnl, rfl, hrec⟩
      · exact ⟨d3, rfl, d4⟩
    · intro k b hk
      obtain ⟨f1, f2, f3, f4⟩ := hb.loc k b hk
      exact ⟨.inr ⟨used_mem hb hk, .inl (.inr (.inl ⟨k, used_mem hb hk, hk⟩))⟩, f2, fun o => hnoneOf b (.inr (.inl ⟨k, hk⟩)) o (f3 o), f4⟩
    · intro k m hv b hk hbk
      obtain ⟨f1, f2, f3, f4⟩ := hb.arr k m hv b hk hbk
      exact ⟨.inr ⟨used_mem2 hb hk, .inl (.inr (.inr ⟨k, m, hv, used_mem2 hb hk, hk, hbk⟩))⟩, f2, fun o => hnoneOf b (.inr (.inr ⟨k, m, hv, hk, hbk⟩)) o (f3 o), f4⟩
    · intro b hy
      obtain ⟨f1, f2, f3⟩ := hb.Y b hy
      exact ⟨f1, fun _ => .inl (.inl hy), f3⟩
    · intro key x hx
      rw [look_append] at hx
      cases hk : look (psSt ps xs) key with
      | some y =>
        rw [hk] at hx
        have hxy : y = x := by simpa using hx
        subst hxy
        have hkp := psSt_look ps xs hk
        unfold Holds
        rw [if_pos (hp1 key hkp)]
        simp only [ht1]
        exact (ps_holds ps xs vs a.tmps hpl hargs hpw (fun p hp => by rw [hb.nt]; exact hpt p hp) htup key y hk).mono (pure_ext (c := ⟨h, c.loc, c.arr, c.Y⟩) rfl)
      | none =>
        rw [hk] at hx
        have h0 := hh key x hx
        by_cases hlt : key < 1000
        · unfold Holds at h0 ⊢
          rw [if_pos hlt] at h0 ⊢
          have hg : t1.getD key undef = a.tmps.getD key undef := by
            rw [ht1]
            exact foldl_other key _ _ fun q hq e => psSt_none ps xs hpl hk (e ▸ (List.of_mem_zip hq).1)
          show RepT _ x (t1.getD key undef)
          rw [hg]
          exact h0.mono (show Ext c ⟨h, c.loc, c.arr, c.Y⟩ from ⟨hle, fun _ _ e => e, fun _ m hv lv e => ⟨m, hv, lv, e, Nat.le_refl _, fun _ => rfl⟩⟩)
        · exact grow_holds hle (fun p v e => (hnw p v e).imp id fun h hy => h.2 (.inl hy)) hwW hlt h0
  have hF : ∀ p, (rE E u ⟨h, c.loc, c.arr, c.Y⟩ W l p).F = Fence.wide.inRound l := fun _ => rfl
  have hwalk1 := hwalk ⟨h, c.loc, c.arr, c.Y⟩ W [(l, r.obj .ready none), (r.D, .deferred (some []))] [(l, r.obj .busy none), (r.D, .deferred (some []))] _ _ good
  rw [hF] at hwalk1
  refine wpIn_mono hwalk1 ?_
  rintro e a1 w1 ⟨U', s', hg1, rfl, hbody⟩
  have hrec1 : w1.heap[l]? = some (r.obj .ready none) := by
    obtain ⟨c', hb', _⟩ := hg1
    exact (hb'.pin (l, r.obj .ready none) (by simp [rE])).2.2
  have hg2 := repin (o2 := r.obj .busy none) hg1 rfl rfl (by intro e; cases e) hDl
  refine ⟨_, run_beginRound (r := { state := .ready, pending := none, fn := r.fn, tmps := r.tmps, params := r.ps, assign := r.assign, body := r.body, defers := r.D }) hrec1 rfl, ?_⟩
  have hbody1 := hbody a1 _ hg2
  rw [hF] at hbody1
  refine wpIn_mono hbody1 ?_
  rintro e3 a3 w3 ⟨U3, s3, ⟨c3, hb3, hh3⟩, hj, hl3⟩
  have hrec3 : w3.heap[l]? = some (.loop { state := .busy, pending := none, fn := r.fn, tmps := r.tmps, params := r.ps, assign := r.assign, body := r.body, defers := r.D }) := (hb3.pin (l, r.obj .busy none) (by simp [rE])).2.2
  obtain ⟨h', Y', f1, f2⟩ := round_fin hpins r (slots := slots) (bx := boxes s0) (j := j) hb hEl hDB hD hDl hle hnw hlow hall hYlt hrec hnl hwW hb3 hh3 hl3 hhi hslots hh (hlow l hl1) (hlow _ hD1)
  have hend := run_endRound (P := E.P) j hrec3
  have fin : ∃ v w', (Instr.endRound l j).run E.P w3 = .ok v w' ∧ ∃ v' h' Y', Ending.returned v = .returned v' ∧ PostJ h Y W h' Y' w' ∧ JR E u a B1 l r (slots ++ boxes s1) j h' Y' w' ∧ RepT (pureC h') (.bool j.isNone) v' :=
    ⟨_, _, hend, .bool j.isNone, h', Y', rfl, f1, f2, RepD.bool _⟩
  cases e3 with
  | normal => cases hj; exact fin
  | ret => cases hj; exact fin
  | exit id => cases hj; exact fin
  | goto t => cases hj
  | panic ch => cases hj
  | outgrown => cases hj
end

section
variable {E : Env} {Q : Exit → List Nat → St → Prop} {k : List Kn} {U : List Nat} {s : St}
theorem OK.exitOut {id : Nat} {k : List Kn} (hp : popTo id k = none) (h : Q (.exit id) U s) : OK E (.exit id) (den E Q k) U s := fun _ _ hg => wpIn_exit ⟨U, s, hg, by
  induction k with
  | nil => exact h
  | cons x k ih =>
    cases x with
    | code c => exact ih hp
    | lp J => exact ih hp
    | blk i =>
      simp only [popTo] at hp
      simp only [den]
      split
      · rename_i hb; rw [if_pos hb] at hp; cases hp
      · rename_i hb; rw [if_neg hb] at hp; exact ih hp⟩
/-- What the callback of a range comes to: the state, and a jump that ends it. -/
def stepG {σ α : Type} (step : σ → α → σ × Option Code) (p : σ × Option Code) (x : α) : (σ × Option Code) × Bool := (step p.1 x, (step p.1 x).2.isNone)
theorem iter_none {σ α : Type} (step : σ → α → σ × Option Code) (s0 : σ) : ∀ (l : List α) (p : σ × Option Code), p.2 = none → ((iterG (stepG step) p l).2 = true ↔ (iterG (stepG step) p l).1.2 = none)
  | [], p, h => by simp [iterG, h]
  | x :: l, p, h => by
    simp only [iterG]
    split
    · rename_i h1; exact iter_none step s0 l _ (by simpa [stepG] using h1)
    · rename_i h1
      constructor
      · intro h; cases h
      · intro h2; exact absurd (show (stepG step p x).2 = true by simp only [stepG] at h2 ⊢; rw [h2]; rfl) h1
/-- 'for .. := range f { .. }'. -/
theorem OK.rangeFunc {σ α : Type} {go : Operand} {ps : List Nat} {assign body : Code} {gf : Nat} {caps : List X} {encs : α → List X} {L : List α} {r : St} (u : List Nat) (slots : St) (boxes : σ → St) (s0 : σ) (step : σ → α → σ × Option Code)
    (hseq : SeqOk E.P gf caps encs L) (hcall : ∀ args w, (callFunc gf args).run E.P w = .ok (.enter gf args) w) (hro : E.round = none) (hpins : E.pins = []) (hg : OpS s go (.fn gf caps) r) (hc1 : caps.all (okP []) = true) (hc2 : caps.all (fun u => !notCell u) = true)
    (hle : Le s (slots ++ boxes s0)) (ho : ∀ q, (slots ++ boxes q).all (okKey u) = true) (hhi : ∀ q, (boxes q).all (hiKey u) = true) (hslots : ∀ q, slots.all (slotOk (boxes q)) = true)
    (hpl : ∀ x, (encs x).length = ps.length) (htup : ∀ x, (encs x).all (fun x => !isTup x) = true) (hpw : ps.Pairwise (· ≠ ·)) (hpt : ps.all (fun p => Nat.blt p E.nt && Nat.blt p 1000) = true)
    (hround : ∀ (i : Nat) (x : α) (q : σ), L[i]? = some x → iterG (stepG step) (s0, none) (L.take i) = ((q, none), true) → ∀ (l : Nat) (c0 : Ctx) (w0 : World) (p1 p2 : List (Nat × Obj)),
      OK (rE E u c0 w0 l p1) assign (fun e U s' => e = .normal ∧ OK (rE E u c0 w0 l p2) body (den (rE E u c0 w0 l p2) (RoundQ boxes (step q x)) []) U s') u (psSt ps (encs x) ++ (slots ++ boxes q)))
    (hend : ∀ q, iterG (stepG step) (s0, none) L = ((q, none), true) → den E Q k .normal u (slots ++ boxes q))
    (hjump : ∀ q cd, (iterG (stepG step) (s0, none) L).1 = (q, some cd) → OK E cd (den E Q k) u (slots ++ boxes q)) : OK E (.rangeFunc go ps.toArray assign body) (den E Q k) U s := by
  intro a w hg0
  obtain ⟨c, hb, hh⟩ := hg0
  obtain ⟨cvs, hev, hcv0⟩ := hg.rep (c := c) (a := a) (w := w) fun p hp => hh _ _ (hg.looks.all p hp)
  have hcv : All2 (RepV (pureC c.h)) caps cvs := by
    have : ∀ {us : List X} {vs : List Value}, All2 (RepP c) us vs → us.all (okP []) = true → us.all (fun u => !notCell u) = true → All2 (RepV (pureC c.h)) us vs := by
      intro us
      induction us with
      | nil => intro vs h _ _; exact (All2.nil_left h) ▸ trivial
      | cons u us ih =>
        intro vs h h1 h2
        obtain ⟨v, vs', rfl, hv, hvs⟩ := h.cons_left
        simp only [List.all_cons, Bool.and_eq_true, Bool.not_eq_true'] at h1 h2
        refine ⟨?_, ih hvs h1.2 (by simpa using h2.2)⟩
        have hp := (hv.cut h1.1).mono (ctx_cut_ext (Mem.le_refl c.h))
        have hn := h2.1
        cases u <;> first | exact hp | cases hn
    exact this hcv0 hc1 hc2
  clear hcv0
  have hb5 := hb.cut u
  have hh5 : ∀ key x, look (slots ++ boxes s0) key = some x → Holds (c.cut u) a w key x := fun key x hx => Holds.cut (hh key x (hle.mem hx)) (List.all_eq_true.1 (ho s0) _ (look_mem hx))
  have hch : (c.cut u).h = c.h := rfl
  generalize c.cut u = c5 at hb5 hh5 hch
  rw [← hch] at hcv
  clear hb hh hle hg hch
  refine wpIn_rangeFunc fun fn hfn => ?_
  obtain ⟨r, hr⟩ : ∃ r : Rg, r = { fn := fn, tmps := a.tmps, ps := ps.toArray, assign := assign, body := body, D := w.heap.size } := ⟨_, rfl⟩
  obtain ⟨W1, hW1⟩ : ∃ W1, (w.alloc (.deferred (some []))).alloc (r.obj .ready none) = W1 := ⟨_, rfl⟩
  have sz1 : W1.heap.size = w.heap.size + 2 := by rw [← hW1]; simp
  have hlow1 : ∀ k, k < w.heap.size → W1.heap[k]? = w.heap[k]? := fun k hk => by
    rw [← hW1, Below.heap_alloc _ _ _ (by simp; omega), Below.heap_alloc _ _ _ hk]
  have hL1 : W1.heap[w.heap.size + 1]? = some (r.obj .ready none) := by
    rw [← hW1]; have := World.alloc_heap_new (w.alloc (.deferred (some []))) (r.obj .ready none); rwa [World.size_alloc] at this
  have hK1 : W1.heap[w.heap.size]? = some (.deferred (some [])) := by
    rw [← hW1]; exact (Below.heap_alloc _ _ _ (by simp)).trans (World.alloc_heap_new w _)
  have hBW : Below w.heap.size w W1 := by rw [← hW1]; exact (((Below.refl _ w).alloc (Nat.le_refl _) _).alloc (by simp) _)
  obtain ⟨a1, ha1⟩ : ∃ a1 : Act, a1 = { a with defers := { target := .collected w.heap.size, args := #[] } :: a.defers } := ⟨_, rfl⟩
  have hEF : E.F.round = none := hro
  have hw1 : ∀ p v, c5.h p = some v → W1.cell? p = some v := fun p v e => by
    have h1 := hb5.hw p v e
    rw [hBW.cell (block_lt_of_cell h1)]; exact h1
  have hb6 : Base E u c5 a W1 := hb5.below_grow hBW (Mem.le_refl _) (fun p v e => .inl e) hw1
  have hall6 : ∀ b, c5.all b → b < w.heap.size := by
    rintro b (h | ⟨k, h⟩ | ⟨k, m, hv, h, h2⟩)
    · exact (hb5.Y b h).1
    · exact (hb5.loc k b h).2.1
    · exact (hb5.arr k m hv b h h2).2.1
  have hb7 : Base E u c5 a1 W1 := by
    rw [ha1]
    refine ⟨hb6.below, hb6.hB, hb6.nt, ⟨?_, ?_⟩, hb6.pin, hb6.hw, hb6.hle, hb6.hnew, hb6.loc, hb6.arr, hb6.used, hb6.Y, hb6.loc0, hb6.arr0⟩
    · refine List.pairwise_cons.2 ⟨fun d hd e => ?_, hb6.dfr.1⟩
      obtain ⟨D, f1, f2, f3, f4⟩ := hb5.dfr.2 d hd
      subst f1
      have := (Array.getElem?_eq_some_iff.1 f4).1
      have h2 : w.heap.size = D := by have := congrArg Deferred.target e; simpa using this
      omega
    · intro d hd
      rcases List.mem_cons.1 hd with rfl | hd
      · exact ⟨w.heap.size, rfl, hb5.hB, fun h => by have := hall6 _ h; omega, hK1⟩
      · exact hb6.dfr.2 d hd
  have hh7 : ∀ key x, look (slots ++ boxes s0) key = some x → Holds c5 a1 W1 key x := fun key x hx => keep_holds (fun b hb' => hlow1 b (hall6 b hb')) hw1 (BelX.of (hBW.mono (Nat.zero_le _))) (by rw [ha1]) (hh5 key x hx)
  obtain ⟨J, hJ⟩ : ∃ J : σ × Option Code → Mem → (Nat → Prop) → World → Prop, J = fun q => JR E u a1 W1.heap.size (w.heap.size + 1) r (slots ++ boxes q.1) q.2 := ⟨_, rfl⟩
  have hEB : E.B ≤ w.heap.size := hb5.hB
  have hst : ∀ q, Stable (J q) := fun q => by
    rw [hJ]
    refine JR.stable hpins (by omega) (by omega) ?_
    intro D hD
    rw [ha1] at hD
    rcases List.mem_cons.1 hD with e | hD
    · have h2 : D = w.heap.size := by have := congrArg Deferred.target e; simpa using this
      omega
    · obtain ⟨D', f1, f2, f3, f4⟩ := hb5.dfr.2 _ hD
      have h2 : D = D' := by have := congrArg Deferred.target f1; simpa using this
      have := (Array.getElem?_eq_some_iff.1 f4).1
      omega
  have hnow : ∀ i x, L[i]? = some x → (iterG (stepG step) (s0, none) (L.take i)).2 = true → ∃ q, iterG (stepG step) (s0, none) (L.take i) = ((q, none), true) := by
    intro i x _ h
    have h2 := (iter_none step s0 (L.take i) (s0, none) rfl).1 h
    refine ⟨(iterG (stepG step) (s0, none) (L.take i)).1.1, ?_⟩
    refine Prod.ext (Prod.ext rfl h2) h
  have hcb : ∀ v, v = Value.func (.yield (w.heap.size + 1)) #[] #[] → ∀ (i : Nat) (x : α), L[i]? = some x → (iterG (stepG step) (s0, none) (L.take i)).2 = true →
      CbOk E.P v (encs x) (.bool (stepG step (iterG (stepG step) (s0, none) (L.take i)).1 x).2) (J (iterG (stepG step) (s0, none) (L.take i)).1) (J (stepG step (iterG (stepG step) (s0, none) (L.take i)).1 x).1) := by
    rintro v rfl i x hx hrun
    obtain ⟨q, hq⟩ := hnow i x hx hrun
    rw [hq]
    intro h Y W vs hwW hYlt hJ0 hargs
    refine .inr ⟨w.heap.size + 1, rfl, ?_⟩
    have hJ0' : JR E u a1 W1.heap.size (w.heap.size + 1) r (slots ++ boxes q) none h Y W := by rw [hJ] at hJ0; exact hJ0
    have := round_ok (s1 := (step q x).1) (j := (step q x).2) hpins r (ps := ps) (xs := encs x) (vs := vs) (B1 := W1.heap.size) (by omega) (by omega) (by rw [hr]; exact hEB) (by rw [hr]; show w.heap.size < _; omega) (by rw [ha1, hr]; exact List.mem_cons_self) (by rw [hr]; show w.heap.size ≠ _; omega) (by rw [hr, ha1]) (by rw [hr]) (hpl x).symm hpw
      (fun p hp => by have := List.all_eq_true.1 hpt p hp; simp only [Bool.and_eq_true, Nat.blt_eq] at this; exact this.1) (fun p hp => by have := List.all_eq_true.1 hpt p hp; simp only [Bool.and_eq_true, Nat.blt_eq] at this; exact this.2) (htup x) hYlt hwW hJ0' hargs (hhi _) (hslots _)
      (fun c0 w0 p1 p2 => by rw [hr]; exact hround i x q hx hq _ c0 w0 p1 p2)
    rw [hJ]
    exact this
  have hG := hseq J (stepG step) (s0, none) (fun v => v = .func (.yield (w.heap.size + 1)) #[] #[]) hst hcb
  have hCtx : CtxOk [] ⟨c5.h, fun _ => none, fun _ => none, fun b => b < W1.heap.size⟩ W1 := ⟨hw1, (fun k b e => by cases e), (fun k m hv b e => by cases e), (fun _ _ => ⟨rfl, rfl⟩), fun b hy => ⟨hy, (fun k e => by cases e), (fun k m hv e => by cases e)⟩⟩
  have hrd : ∀ p ∈ [(3000, X.res (J (s0, none)))], ∀ b : Act, Holds ⟨c5.h, fun _ => none, fun _ => none, fun b => b < W1.heap.size⟩ b W1 p.1 p.2 := by
    intro p hp b
    simp only [List.mem_singleton] at hp
    subst hp
    unfold Holds
    rw [if_neg (by omega), if_neg (by omega), if_neg (by omega)]
    refine .inr ⟨rfl, _, rfl, hst _, ?_⟩
    rw [hJ]
    exact ⟨c5, hb7, Mem.le_refl _, fun p v e => .inl e, fun b hb' => hb', fun b hb' => by have := hall6 b hb'; show b < _; omega, hL1, fun h => by have := hall6 _ h; omega, hh7⟩
  have hcalls := hG _ W1 (.func (.yield (w.heap.size + 1)) #[] #[] :: cvs) hCtx hrd ⟨rfl, hcv.mono fun _ _ h => h.mono (pure_ext (c := ⟨c5.h, fun _ => none, fun _ => none, fun b => b < W1.heap.size⟩) rfl)⟩
  have harr : (Value.func (.yield (w.heap.size + 1)) #[] #[] :: cvs).toArray = #[Value.func (.yield (w.heap.size + 1)) #[] #[]] ++ cvs.toArray := by simp
  refine ⟨w.heap.size + 1, [{ target := .collected w.heap.size, args := #[] }], W1, { target := .fn (.func gf) cvs.toArray, args := #[.func (.yield (w.heap.size + 1)) #[] #[]] }, W1, gf, #[.func (.yield (w.heap.size + 1)) #[] #[]] ++ cvs.toArray, W1, ?_, ?_, ?_, ?_, (fun h => by cases h), ?_⟩
  · rw [hEF, ← hW1, hr]; exact run_enterLoop_outer _ _ _ _ _
  · simp only [resolve, hev]
    simp [go_sem]
  · intro f' hf'; trivial
  · simp [invoke, go_sem, hcall]
  · have h1 : CallsIn E.F (0 - 1) E.P gf (#[.func (.yield (w.heap.size + 1)) #[] #[]] ++ cvs.toArray) W1 _ := (callsIn_wide (n := 0)).2 (harr ▸ hcalls)
    refine h1.mono ?_
    rintro e W2 ⟨v, c', rfl, hp⟩
    have hJ1 := hp.wr (3000, .res (J (iterG (stepG step) (s0, none) L).1)) (by simp) a1
    unfold Holds at hJ1
    rw [if_neg (by omega), if_neg (by omega), if_neg (by omega)] at hJ1
    rcases hJ1 with h | ⟨_, J', e1, _, hJ2⟩
    · cases h
    cases e1
    rw [hJ] at hJ2
    obtain ⟨q, hq⟩ : ∃ q, q = (iterG (stepG step) (s0, none) L).1 := ⟨_, rfl⟩
    rw [← hq] at hJ2
    obtain ⟨c8, hb8, _, _, _, hall8, hrec8, hnl8, hh8⟩ := hJ2
    have hend8 := run_endLoop (P := E.P) (l := w.heap.size + 1) (w := W2) (r := { state := rst q.2, pending := q.2, fn := r.fn, tmps := r.tmps, params := r.ps, assign := r.assign, body := r.body, defers := r.D }) hrec8 (by show rst q.2 ≠ .busy; unfold rst; split <;> (intro h; cases h))
    refine ⟨q.2, _, hend8, ?_⟩
    obtain ⟨W3, hW3⟩ : ∃ W3, W3 = W2.putObj (w.heap.size + 1) (.loop { state := .exhausted, pending := q.2, fn := r.fn, tmps := r.tmps, params := r.ps, assign := r.assign, body := r.body, defers := r.D }) := ⟨_, rfl⟩
    have ho3 : ∀ k, k ≠ w.heap.size + 1 → W3.heap[k]? = W2.heap[k]? := fun k hk => by rw [hW3]; exact World.putObj_heap_other hk
    have hc3 : ∀ p, W3.cell? p = W2.cell? p := fun p => by rw [hW3]; exact cell_putObj hrec8 rfl rfl p
    have hB3 : BelX 0 (fun _ => False) W2 W3 := by rw [hW3]; exact ⟨rfl, rfl, rfl, by simp, fun k hk => by omega⟩
    have good : Good E u (slots ++ boxes q.1) a1 W3 := by
      refine ⟨c8, hb8.keep hpins hB3 (fun b hb' => ho3 b (by omega)) (fun p v e => by rw [hc3]; exact hb8.hw p v e) ?_, fun key x hx => keep_holds (fun b hb' => ho3 b fun e => hnl8 (e ▸ hb')) (fun p v e => by rw [hc3]; exact hb8.hw p v e) hB3 rfl (hh8 key x hx)⟩
      intro D f1 _
      refine (ho3 D ?_).trans f1
      rintro rfl
      rw [hrec8] at f1; cases f1
    show (match q.2 with | none => _ | some c => _)
    have ha1' : ({ tmps := a.tmps, defers := [{ target := .collected w.heap.size, args := #[] }] ++ a.defers } : Act) = a1 := by rw [ha1]; rfl
    rw [← hW3]
    cases hq2 : q.2 with
    | none =>
      refine ⟨u, slots ++ boxes q.1, by rw [ha1']; exact good, hend q.1 ?_⟩
      refine Prod.ext (hq.symm.trans (Prod.ext rfl hq2)) ((iter_none step s0 L (s0, none) rfl).2 (by rw [← hq]; exact hq2))
    | some cd =>
      have := hjump q.1 cd (hq.symm.trans (Prod.ext rfl hq2)) a1 W3 good
      rw [ha1']
      exact this
end
end Go.Ab
