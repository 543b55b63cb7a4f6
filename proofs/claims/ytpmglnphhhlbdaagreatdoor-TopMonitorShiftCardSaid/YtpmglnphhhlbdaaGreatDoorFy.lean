import Derived.MapKept
import Derived.Test.YtpmglnphhhlbdaaGreatDoorFx
namespace Go.Ab
open Go.RowKit
theorem res_of {c : Ctx} {a : Act} {w : World} {J : Mem → (Nat → Prop) → World → Prop} (h : Holds c a w 3000 (.res J)) : Stable J ∧ J c.h c.Y w := by
  unfold Holds at h
  rw [if_neg (by omega), if_neg (by omega), if_neg (by omega)] at h
  rcases h with h | ⟨_, J', e, h1, h2⟩
  · cases h
  · have e' : J = J' := e
    subst e'
    exact ⟨h1, h2⟩
theorem resb_of {c : Ctx} {a : Act} {w : World} {k : Nat} {Jb : Nat → Mem → (Nat → Prop) → World → Prop} (h : Holds c a w 3000 (.resb k Jb)) : ∃ b, c.loc k = some b ∧ Stable (Jb b) ∧ Jb b c.h c.Y w := by
  unfold Holds at h
  rw [if_neg (by omega), if_neg (by omega), if_neg (by omega)] at h
  rcases h with h | ⟨_, J', ⟨b, e1, e2⟩, h1, h2⟩
  · cases h
  · subst e2
    exact ⟨b, e1, h1, h2⟩
theorem Holds.mkRes {c : Ctx} {a : Act} {w : World} {J : Mem → (Nat → Prop) → World → Prop} (h1 : Stable J) (h2 : J c.h c.Y w) : Holds c a w 3000 (.res J) := by
  unfold Holds
  rw [if_neg (by omega), if_neg (by omega), if_neg (by omega)]
  exact .inr ⟨rfl, J, rfl, h1, h2⟩
theorem adr_spot {w : World} {p : Addr} {v : Value} (h : w.cell? p = some v) : p = ⟨p.block, p.off, none⟩ := by
  have hsp : p.spot = none := by
    cases hsp : p.spot with
    | none => rfl
    | some q => simp only [World.cell?, hsp] at h; split at h <;> simp at h
  cases p; simp at hsp; subst hsp; rfl
section
variable {E : Env} {all : Array Oper} {s r r1 r2 r3 rg : St} {d ty : Nat} {pos : String} {after : Array Edge} {guard : Option (Nat × Bool)} {x y z : Operand}
theorem S.rnil {v : Value} {ad : Addr} (hg : Gd all s guard rg) (hd : (Nat.blt d 1000 && Nat.blt d E.nt) = true) (hx : OpS s x (.raw v) r) (hv : v = .pointer (some ad)) :
    St1 E all ⟨some d, .nilCheck x, ty, pos, after, guard⟩ s (rg ++ r) [(d, .raw (.pointer (some ad)))] [] :=
  St1.val hg hd rfl hx.looks fun c A w _ hr => by
    have h0 : A.eval x = v := hx.rep (c := c) (a := A) (w := w) hr
    subst hv
    exact ⟨_, by simp only [execOp, h0]; rfl, rfl⟩
theorem S.rfield {T f o b off : Nat} (hf : FiI E.P T f o) (hg : Gd all s guard rg) (hd : (Nat.blt d 1000 && Nat.blt d E.nt) = true) (hx : OpS s x (.raw (.pointer (some ⟨b, off, none⟩))) r) :
    St1 E all ⟨some d, .fieldAddr T x f, ty, pos, after, guard⟩ s (rg ++ r) [(d, .raw (.pointer (some ⟨b, off + o, none⟩)))] [] :=
  St1.val hg hd rfl hx.looks fun c A w _ hr => by
    have h0 : A.eval x = .pointer (some ⟨b, off, none⟩) := hx.rep (c := c) (a := A) (w := w) hr
    refine ⟨_, ?_, rfl⟩
    simp only [execOp, h0]
    rw [Sem.run_bind, run_fieldAt hf]
    rfl
theorem S.rload1 {T tsz b o : Nat} {u : X} {J : Mem → (Nat → Prop) → World → Prop} (ht : TyI E.P T false tsz) (hg : Gd all s guard rg) (hd : (Nat.blt d 1000 && Nat.blt d E.nt) = true) (hx : OpS s x (.raw (.pointer (some ⟨b, o, none⟩))) r) (hl : look s 3000 = some (.res J))
    (hv : ∀ h Y w, J h Y w → ∃ v, w.cell? ⟨b, o, none⟩ = some v ∧ RepT (pureC h) u v) : St1 E all ⟨some d, .load T x, ty, pos, after, guard⟩ s (rg ++ (r ++ [(3000, .res J)])) [(d, u)] [] :=
  St1.val hg hd rfl (hx.looks.app ⟨hl, trivial⟩) fun c A w _ hr => by
    have h0 : A.eval x = .pointer (some ⟨b, o, none⟩) := hx.rep (c := c) (a := A) (w := w) fun p hp => hr p (by simp [hp])
    obtain ⟨v, h1, h2⟩ := hv _ _ _ (res_of (hr (3000, .res J) (by simp))).2
    refine ⟨v, ?_, h2.mono (pure_ext rfl)⟩
    simp only [execOp, h0]
    rw [Sem.run_bind, run_load1 ht h1]
    rfl
theorem S.rloadN {T n b o : Nat} {us : List X} {J : Mem → (Nat → Prop) → World → Prop} (ht : TyI E.P T true n) (hg : Gd all s guard rg) (hd : (Nat.blt d 1000 && Nat.blt d E.nt) = true) (hx : OpS s x (.raw (.pointer (some ⟨b, o, none⟩))) r) (hl : look s 3000 = some (.res J))
    (hv : ∀ h Y w, J h Y w → ∃ vs : List Value, vs.length = n ∧ (∀ (i : Nat) (v : Value), vs[i]? = some v → w.cell? ⟨b, o + i, none⟩ = some v) ∧ All2 (RepC (pureC h)) us vs) : St1 E all ⟨some d, .load T x, ty, pos, after, guard⟩ s (rg ++ (r ++ [(3000, .res J)])) [(d, .agg us)] [] :=
  St1.val hg hd rfl (hx.looks.app ⟨hl, trivial⟩) fun c A w _ hr => by
    have h0 : A.eval x = .pointer (some ⟨b, o, none⟩) := hx.rep (c := c) (a := A) (w := w) fun p hp => hr p (by simp [hp])
    obtain ⟨vs, h1, h2, h3⟩ := hv _ _ _ (res_of (hr (3000, .res J) (by simp))).2
    refine ⟨.agg vs.toArray, ?_, vs, rfl, h3.mono fun _ _ => RepC.mono (pure_ext rfl)⟩
    simp only [execOp, h0]
    rw [Sem.run_bind, run_loadN ht h1 h2]
    rfl
theorem St1.res {op : Op} {J : Mem → (Nat → Prop) → World → Prop} {xr : X} (hg : Gd all s guard rg) (hdef : isDefer op = false) (hl : Looks s r) (hl3 : look s 3000 = some (.res J))
    (h : ∀ (U : List Nat) (c : Ctx) (a : Act) (w : World), Base E U c a w → (∀ p ∈ r, Holds c a w p.1 p.2) → J c.h c.Y w → ∃ w', (execOp a.eval ⟨none, op, ty, pos, after, guard⟩).run E.P w = .ok .skip w' ∧ PostJ c.h c.Y w c.h c.Y w' ∧ Holds c a w' 3000 xr) :
    St1 E all ⟨none, op, ty, pos, after, guard⟩ s (rg ++ (r ++ [(3000, .res J)])) [(3000, xr)] [] := by
  refine ⟨?_, hg.looks.app (hl.app ⟨hl3, trivial⟩)⟩
  intro U c a w hb hr hal next Q hnx
  have hw := hg.wanted (o := ⟨none, op, ty, pos, after, guard⟩) (fun p hp => hr p (List.mem_append_left _ hp))
  obtain ⟨w', hrun, hp, hx⟩ := h U c a w hb (fun p hp => hr p (by simp [hp])) (res_of (hr (3000, .res J) (by simp))).2
  unfold opIn
  rw [if_pos hw]
  refine ⟨fun _ _ => trivial, ?_⟩
  rw [Oper.semAt_eq _ _ _ (fun cl he => by simp only at he; rw [he] at hdef; cases hdef), hrun]
  refine hnx c a w' (hb.turn hp) (Ext.refl c) (fun p hp => ?_) fun key u hk hu => ?_
  · simp only [List.mem_singleton] at hp
    subst hp
    exact hx
  · have hne : 3000 ≠ key := hk (3000, xr) (by simp)
    by_cases h1 : key < 1000
    · unfold Holds at hu ⊢; rw [if_pos h1] at hu ⊢; exact hu
    · exact Holds.turn hb hp h1 (fun e => hne e.symm) hu
theorem post_set {c : Ctx} {U : List Nat} {a : Act} {w w' : World} {b : Nat} (hb : Base E U c a w) (hY : c.Y b) (hn : ∀ o, c.h ⟨b, o, none⟩ = none) (hos : w'.os = w.os) (htp : w'.tape = w.tape) (hout : w'.output = w.output) (hsz : w'.heap.size = w.heap.size) (ho : ∀ j, j ≠ b → w'.heap[j]? = w.heap[j]?) : PostJ c.h c.Y w c.h c.Y w' := by
  refine ⟨⟨hos, htp, hout, by omega, fun j _ hy => ho j fun e => hy (e ▸ hY)⟩, Mem.le_refl _, fun _ _ e => .inl e, fun p v hp => ?_, fun j hy => by have := (hb.Y j hy).1; omega, fun j hy _ => hy⟩
  have h1 := hb.hw p v hp
  have hne : p.block ≠ b := fun e => by
    have h2 := adr_spot h1
    have h3 := hn p.off
    rw [← e, ← h2, hp] at h3; cases h3
  rw [World.cell?_of_block (ho _ hne)]
  exact h1
theorem S.rstore1 {T tsz b o : Nat} {u : X} {v0 : Value} {J J' : Mem → (Nat → Prop) → World → Prop} (ht : TyI E.P T false tsz) (h1s : tsz = 1) (hg : Gd all s guard rg) (hx : OpS s x (.raw (.pointer (some ⟨b, o, none⟩))) r1) (hy : OpS s y u r2) (hl : look s 3000 = some (.res J)) (hu : ∀ c v, RepT c u v → v = v0) (hc : v0.cells = #[v0]) (hone : v0.oneCell' = true)
    (hJ : ∀ h Y w, J h Y w → Y b ∧ (∀ o', h ⟨b, o', none⟩ = none) ∧ ∃ vs T', w.heap[b]? = some (.cells vs T' (0, 0)) ∧ o < vs.size ∧ J' h Y (w.setRow b (vs.toList.take o ++ [v0] ++ vs.toList.drop (o + 1)).toArray)) (hS : Stable J') :
    St1 E all ⟨none, .store T x y, ty, pos, after, guard⟩ s (rg ++ ((r1 ++ r2) ++ [(3000, .res J)])) [(3000, .res J')] [] :=
  St1.res hg rfl (hx.looks.app hy.looks) hl fun U c a w hb hr hj => by
    subst h1s
    have h0 : a.eval x = .pointer (some ⟨b, o, none⟩) := hx.rep (c := c) (a := a) (w := w) fun p hp => hr p (by simp [hp])
    have hv : a.eval y = v0 := hu c _ (hy.rep (c := c) (a := a) (w := w) fun p hp => hr p (by simp [hp]))
    obtain ⟨hY, hn, vs, T', hh, ho, hj'⟩ := hJ _ _ _ hj
    have hst := run_storeCells_at E.P b o T' [v0] 0 vs w hh (by simp; omega) (by simpa using hone)
    simp only [Nat.add_zero, List.length_cons, List.length_nil, Nat.zero_add] at hst
    refine ⟨w.setRow b (vs.toList.take o ++ [v0] ++ vs.toList.drop (o + 1)).toArray, ?_, post_set hb hY hn rfl rfl rfl (by simp) fun j hj => setRow_other w b j _ hj, Holds.mkRes hS hj'⟩
    have hsz : v0.cells.size = 1 := by rw [hc]; rfl
    simp [execOp, h0, hv, Instr.storeAt, Instr.sureAddr, storeVar, ht.size, hc, hst]
theorem S.rlen {t kt e rb n : Nat} {J : Mem → (Nat → Prop) → World → Prop} (ht : E.P.underlying t = some (.map kt e)) (hg : Gd all s guard rg) (hd : (Nat.blt d 1000 && Nat.blt d E.nt) = true) (hx : OpS s x (.raw (.map (some rb))) r) (hl : look s 3000 = some (.res J))
    (hJ : ∀ h Y w, J h Y w → ∃ es clock, w.heap[rb]? = some (.map es clock) ∧ es.size = n) (hn : n ≤ maxLen) :
    St1 E all ⟨some d, .call { callee := .builtin .len, args := #[x], argTypes := #[t] }, ty, pos, after, guard⟩ s (rg ++ (r ++ [(3000, .res J)])) [(d, .int .i64 n)] [] :=
  St1.val hg hd rfl (hx.looks.app ⟨hl, trivial⟩) fun c A w _ hr => by
    have h0 : A.eval x = .map (some rb) := hx.rep (c := c) (a := A) (w := w) fun p hp => hr p (by simp [hp])
    obtain ⟨es, clock, h1, rfl⟩ := hJ _ _ _ (res_of (hr (3000, .res J) (by simp))).2
    refine ⟨.int .i64 es.size, ?_, RepD.toT (.int (wrap_len hn))⟩
    simp [execOp, resolve, invoke, builtin, h0, Builtin.len_, run_underlying ht, MapKept.run_getObj_map h1, goInt]
theorem S.lookup {t kt e rb : Nat} {n : Int} {vp : Value} {ok : Bool} {J : Mem → (Nat → Prop) → World → Prop} (ht : E.P.underlying t = some (.map kt e)) (hk : E.P.underlying kt = some (.int .i64)) (hz : ∀ w, (zeroValue e).run E.P w = .ok (.pointer none) w) (hg : Gd all s guard rg) (hd : (Nat.blt d 1000 && Nat.blt d E.nt) = true)
    (hx : OpS s x (.raw (.map (some rb))) r1) (hy : OpS s y (.int .i64 n) r2) (hl : look s 3000 = some (.res J))
    (hJ : ∀ h Y w, J h Y w → ∃ es clock, w.heap[rb]? = some (.map es clock) ∧ ((ok = true ∧ ∃ i, Instr.findNow (.int .i64) (.int .i64 n) es.toList 0 = some (some (i, vp))) ∨ (ok = false ∧ vp = .pointer none ∧ Instr.findNow (.int .i64) (.int .i64 n) es.toList 0 = some none))) :
    St1 E all ⟨some d, .lookup t x y true, ty, pos, after, guard⟩ s (rg ++ (r1 ++ (r2 ++ [(3000, .res J)]))) [(d, .tup [.raw vp, .bool ok])] [] :=
  St1.val hg hd rfl (hx.looks.app (hy.looks.app ⟨hl, trivial⟩)) fun c A w _ hr => by
    have h0 : A.eval x = .map (some rb) := hx.rep (c := c) (a := A) (w := w) fun p hp => hr p (by simp [hp])
    obtain ⟨h1, _⟩ := int_of (hy.rep (c := c) (a := A) (w := w) fun p hp => hr p (by simp [hp]))
    obtain ⟨es, clock, h2, h3⟩ := hJ _ _ _ (res_of (hr (3000, .res J) (by simp))).2
    have hkey : MapKept.IsKey (.int .i64) (.int .i64 n) := rfl
    refine ⟨.tuple #[vp, .bool ok], ?_, [vp, .bool ok], rfl, rfl, RepD.bool ok, trivial⟩
    rcases h3 with ⟨rfl, i, h3⟩ | ⟨rfl, rfl, h3⟩
    · simp [execOp, h0, h1, Instr.lookup, run_underlying ht, MapKept.run_getObj_map h2, MapKept.run_checkKey hk hkey, MapKept.run_findKey hk h3]
    · simp [execOp, h0, h1, Instr.lookup, run_underlying ht, MapKept.run_getObj_map h2, MapKept.run_checkKey hk hkey, MapKept.run_findKey hk h3, hz]
theorem S.mapIns {t kt e rb k : Nat} {n : Int} {J : Mem → (Nat → Prop) → World → Prop} {Jb : Nat → Mem → (Nat → Prop) → World → Prop} (ht : E.P.underlying t = some (.map kt e)) (hk : E.P.underlying kt = some (.int .i64)) (hg : Gd all s guard rg)
    (hx : OpS s x (.raw (.map (some rb))) r1) (hy : OpS s y (.int .i64 n) r2) (hz : OpS s z (.ptr k 0) r3) (hl : look s 3000 = some (.res J))
    (hJ : ∀ h Y w b, J h Y w → Y rb ∧ (∀ o', h ⟨rb, o', none⟩ = none) ∧ ∃ es clock, w.heap[rb]? = some (.map es clock) ∧ Instr.findNow (.int .i64) (.int .i64 n) es.toList 0 = some none ∧
      Jb b h Y { w with heap := w.heap.setIfInBounds rb (.map (es.push ⟨.int .i64 n, .pointer (some ⟨b, 0, none⟩), clock⟩) (clock + 1)) }) (hS : ∀ b, Stable (Jb b)) :
    St1 E all ⟨none, .mapUpdate t x y z, ty, pos, after, guard⟩ s (rg ++ ((r1 ++ (r2 ++ r3)) ++ [(3000, .res J)])) [(3000, .resb k Jb)] [] :=
  St1.res hg rfl (hx.looks.app (hy.looks.app hz.looks)) hl fun U c a w hb hr hj => by
    have h0 : a.eval x = .map (some rb) := hx.rep (c := c) (a := a) (w := w) fun p hp => hr p (by simp [hp])
    obtain ⟨h1, _⟩ := int_of (hy.rep (c := c) (a := a) (w := w) fun p hp => hr p (by simp [hp]))
    obtain ⟨b, hb1, hb2⟩ := ptr_of (hz.rep (c := c) (a := a) (w := w) fun p hp => hr p (by simp [hp]))
    obtain ⟨hY, hn, es, clock, h2, h3, hj'⟩ := hJ _ _ _ b hj
    have hkey : MapKept.IsKey (.int .i64) (.int .i64 n) := rfl
    refine ⟨{ w with heap := w.heap.setIfInBounds rb (.map (es.push ⟨.int .i64 n, .pointer (some ⟨b, 0, none⟩), clock⟩) (clock + 1)) }, ?_, post_set hb hY hn rfl rfl rfl (by simp) fun j hj => (MapKept.heap_set h2).2 j hj, ?_⟩
    · simp [execOp, h0, h1, hb2, Instr.mapUpdate, run_underlying ht, MapKept.run_getObj_map h2, MapKept.run_checkKey hk hkey, MapKept.run_findKey hk h3, MapKept.run_setObj_map _ h2]
    · unfold Holds
      rw [if_neg (by omega), if_neg (by omega), if_neg (by omega)]
      exact .inr ⟨rfl, Jb b, ⟨b, hb1, rfl⟩, hS b, hj'⟩
theorem RK.makeMap {l : List Oper} {U : List Nat} {Q : Exit → List Nat → St → Prop} {t : Nat} (hd : (Nat.blt d 1000 && Nat.blt d E.nt) = true)
    (h : ∀ rb, RK E all l U ((d, .raw (.map (some rb))) :: (3000, .res fun h Y w => Y rb ∧ (∀ o, h ⟨rb, o, none⟩ = none) ∧ w.heap[rb]? = some (.map #[] 0)) :: s) Q) : RK E all (⟨some d, .makeMap t none, ty, pos, after, none⟩ :: l) U s Q := by
  simp only [Bool.and_eq_true, Nat.blt_eq] at hd
  intro k hk a w hg
  rw [List.length_cons, List.range'_succ, wpOpsIn_cons]
  refine opIn_wpOpIn (by simpa using hk 0) ?_
  obtain ⟨c, hb, hh⟩ := hg
  have hw : Region.wanted (⟨some d, .makeMap t none, ty, pos, after, none⟩ : Oper) (yielded all a.tmps) = true := rfl
  unfold opIn
  rw [if_pos hw]
  refine ⟨fun _ _ => trivial, ?_⟩
  rw [Oper.semAt_eq _ _ _ fun cl he => by cases he]
  have hrun : (execOp a.eval ⟨some d, .makeMap t none, ty, pos, after, none⟩).run E.P w = .ok (.value (.map (some w.heap.size))) (w.alloc (.map #[] 0)) := rfl
  rw [hrun]
  have hB := below_alloc w (.map #[] 0)
  have hnone : ∀ o, c.h ⟨w.heap.size, o, none⟩ = none := fun o => by
    cases hh : c.h ⟨w.heap.size, o, none⟩ with
    | none => rfl
    | some v => have := block_lt_of_cell (hb.hw _ _ hh); simp at this
  have hp : PostJ c.h c.Y w c.h (fun b => c.Y b ∨ b = w.heap.size) (w.alloc (.map #[] 0)) := by
    refine ⟨⟨hB.os, hB.tape, hB.output, hB.size, fun k hk _ => hB.block k hk⟩, Mem.le_refl _, fun _ _ e => .inl e, fun p v e => ?_, fun b hy => ?_, fun b hy hlt => ?_⟩
    · have h1 := hb.hw p v e
      rw [hB.cell (block_lt_of_cell h1)]; exact h1
    · have hs : (w.alloc (.map #[] 0)).heap.size = w.heap.size + 1 := by show (w.heap.push _).size = _; rw [Array.size_push]
      rcases hy with hy | rfl
      · have := (hb.Y b hy).1; omega
      · omega
    · rcases hy with hy | rfl
      · exact hy
      · omega
  have hdt : d < a.tmps.size := by rw [hb.nt]; exact hd.2
  refine h w.heap.size (k + 1) (fun j => ?_) _ _ ⟨⟨c.h, c.loc, c.arr, fun b => c.Y b ∨ b = w.heap.size⟩, (hb.turn hp).put _ _, fun key u hu => ?_⟩
  · have := hk (j + 1)
    simp only [List.getElem?_cons_succ] at this
    rw [← this]
    congr 1
    omega
  · have hext : Ext c ⟨c.h, c.loc, c.arr, fun b => c.Y b ∨ b = w.heap.size⟩ := ⟨Mem.le_refl _, fun _ _ e => e, fun _ m hv lv e => ⟨m, hv, lv, e, Nat.le_refl _, fun _ => rfl⟩⟩
    simp only [look] at hu
    split at hu
    · rename_i e
      have := Nat.eq_of_beq_eq_true e
      cases hu
      subst this
      unfold Holds
      rw [if_pos hd.1, getD_put hdt]
      rfl
    · rename_i hne
      have hne' : d ≠ key := fun e => hne (by rw [e]; exact Nat.beq_refl _)
      split at hu
      · rename_i e
        have := Nat.eq_of_beq_eq_true e
        cases hu
        subst this
        refine Holds.mkRes ?_ ⟨.inr rfl, hnone, heap_alloc_new w _⟩
        intro h h' Y w w' ⟨q1, q2, q3⟩ hle hnew hw' hB2 hX
        refine ⟨q1, fun o => ?_, (hX _ q1).trans q3⟩
        cases hh : h' ⟨_, o, none⟩ with
        | none => rfl
        | some v =>
          rcases hnew _ _ hh with h5 | h5
          · rw [q2 o] at h5; cases h5
          · exact absurd q1 h5
      · rename_i hne3
        have hne3' : key ≠ 3000 := fun e => hne3 (by rw [e]; exact Nat.beq_refl _)
        have h0 := hh key u hu
        by_cases h1 : key < 1000
        · refine Holds.put ?_ hne' _
          unfold Holds at h0 ⊢
          rw [if_pos h1] at h0 ⊢
          exact h0.mono hext
        · exact (Holds.turn hb hp h1 hne3' h0).put hne' _
end
section
variable {E : Env} {U : List Nat} {s : St} {a : Act} {w : World} {c : Ctx}
theorem Base.addY (hb : Base E U c a w) {b : Nat} (h1 : b < w.heap.size) (h2 : b < E.B → E.X b) (h3 : ∀ k, c.loc k ≠ some b) (h4 : ∀ k m hv, c.arr k = some (m, hv, true) → hv.ownBlock ≠ some b) (h5 : ∀ o, c.h ⟨b, o, none⟩ = none) (h6 : ∃ o : Obj, w.heap[b]? = some o ∧ o.isCells = true) :
    Base E U ⟨c.h, c.loc, c.arr, fun x => c.Y x ∨ x = b⟩ a w := by
  have hall : ∀ D, (Ctx.mk c.h c.loc c.arr fun x => c.Y x ∨ x = b).all D → c.all D ∨ D = b := by
    intro D h
    rcases h with (h | h) | h | h
    · exact .inl (.inl h)
    · exact .inr h
    · exact .inl (.inr (.inl h))
    · exact .inl (.inr (.inr h))
  have hnc : ∀ (D : Nat) (o : Obj), w.heap[D]? = some o → o.isCells = false → D ≠ b := by
    rintro D o q1 q2 rfl
    obtain ⟨o', q3, q4⟩ := h6
    rw [q1] at q3; cases q3; rw [q2] at q4; cases q4
  refine ⟨hb.below, hb.hB, hb.nt, ⟨hb.dfr.1, fun d hd => ?_⟩, fun p hp => ?_, hb.hw, hb.hle, fun p v hp => ?_, hb.loc, hb.arr, hb.used, fun x hy => ?_, hb.loc0, hb.arr0⟩
  · obtain ⟨D, q1, q2, q3, q4⟩ := hb.dfr.2 d hd
    exact ⟨D, q1, q2, fun e => (hall D e).elim q3 (hnc D _ q4 rfl), q4⟩
  · obtain ⟨q1, q2, q3⟩ := hb.pin p hp
    exact ⟨fun e => (hall _ e).elim q1 (hnc _ _ q3 q2), q2, q3⟩
  · refine (hb.hnew p v hp).imp id fun ⟨q1, q2⟩ => ⟨q1, ?_⟩
    rintro (hy | hy)
    · exact q2 hy
    · have q3 := adr_spot (hb.hw p v hp)
      have q4 := h5 p.off
      rw [← hy, ← q3, hp] at q4; cases q4
  · rcases hy with hy | rfl
    · exact hb.Y x hy
    · exact ⟨h1, h2, h3, h4⟩
theorem Holds.addY {b key : Nat} {x : X} (hne : key ≠ 3000) (h : Holds c a w key x) : Holds ⟨c.h, c.loc, c.arr, fun x => c.Y x ∨ x = b⟩ a w key x := by
  have hext : Ext c ⟨c.h, c.loc, c.arr, fun x => c.Y x ∨ x = b⟩ := ⟨Mem.le_refl _, fun _ _ e => e, fun _ m hv lv e => ⟨m, hv, lv, e, Nat.le_refl _, fun _ => rfl⟩⟩
  unfold Holds at *
  split at h
  · rename_i h1; rw [if_pos h1]; exact h.mono hext
  · rename_i h1
    rw [if_neg h1]
    refine or_snd h fun h => ?_
    split at h
    · rename_i h2
      rw [if_pos h2]
      obtain ⟨b, o, q1, q3, q4⟩ := h
      exact ⟨b, o, q1, q3, q4.mono hext⟩
    · rename_i h2
      rw [if_neg h2]
      split at h
      · rename_i h6
        rw [if_pos h6]
        obtain ⟨sz, rows, hv, e, vs, hx, q1, q3⟩ := h
        exact ⟨sz, rows, hv, e, vs, hx.mono hext, q1, q3⟩
      · exact absurd h.1 hne
theorem Good.give {U' : List Nat} {s1 : St} {t k : Nat} {cells : List X} (hg : Good E U s a w) (ht : look s t = some (.ptr k 0)) (ht1 : Nat.blt t 1000 = true) (hb : look s (1000 + k) = some (.box cells)) (hk1 : Nat.blt k 1000 = true) (hk9 : k ∉ E.fs) (hkU : U'.contains k = false) (hl : Le s s1) (ho : s1.all (okKey U') = true) (h3 : s1.all (fun p => !Nat.beq p.1 3000) = true)
    {R : Nat → Mem → (Nat → Prop) → World → Prop} (hR : ∀ c b, Base E U c a w → (∀ key x, look s key = some x → Holds c a w key x) → c.loc k = some b → R b c.h c.Y w) :
    ∃ b, ∀ J : Mem → (Nat → Prop) → World → Prop, Stable J → (∀ h Y T vs, R b h Y w → w.heap[b]? = some (.cells vs T (0, 0)) → (∃ c : Ctx, c.h = h ∧ All2 (RepC c) cells vs.toList) → (∀ o, h ⟨b, o, none⟩ = none) → ¬ Y b → J h (fun x => Y x ∨ x = b) w) →
      Good E U' ((t, .raw (.pointer (some ⟨b, 0, none⟩))) :: (3000, .res J) :: s1) a w := by
  obtain ⟨c, hbs, hh⟩ := hg
  rw [Nat.blt_eq] at hk1
  obtain ⟨b, hb1, hv⟩ := ptr_of ((hh _ _ ht).slot ht1)
  obtain ⟨b', T, vs, hb2, hb3, hb4⟩ := box_of (hh _ _ hb) hk1
  rw [hb1] at hb2
  cases hb2
  obtain ⟨q1, q2, q3, q4, q5⟩ := hbs.loc k b hb1
  have hr := hR c b hbs hh hb1
  refine ⟨b, fun J hS hJ => ?_⟩
  have hnY : ¬ c.Y b := fun hy => (hbs.Y b hy).2.2.1 k hb1
  have hj : J c.h (fun x => c.Y x ∨ x = b) w := by
    exact hJ c.h c.Y T vs hr hb3 ⟨c, rfl, hb4⟩ q3 hnY
  have hcut := hbs.cut U'
  have hb' := hcut.addY (b := b) q2 (fun hlt => by rcases q1 with q1 | q1; omega; exact q1.2) (fun j hj => by
      have hcj : (c.cut U').loc j = some b := hj
      simp only [Ctx.cut] at hcj
      split at hcj
      · rename_i hc
        have := q4 j hcj
        subst this
        rw [hkU] at hc; cases hc
      · cases hcj) (fun j m hv' hj e => by
      have hcj : (c.cut U').arr j = some (m, hv', true) := hj
      simp only [Ctx.cut] at hcj
      split at hcj
      · exact q5 j m hv' hcj e
      · cases hcj) q3 ⟨_, hb3, rfl⟩
  refine ⟨_, hb', fun key x hx => ?_⟩
  simp only [look] at hx
  split at hx
  · rename_i e
    have := Nat.eq_of_beq_eq_true e
    cases hx
    subst this
    unfold Holds
    rw [if_pos (by simpa using ht1)]
    exact hv
  · split at hx
    · rename_i e
      have := Nat.eq_of_beq_eq_true e
      cases hx
      subst this
      exact Holds.mkRes hS hj
    · have hm := look_mem hx
      have hne : key ≠ 3000 := fun e => by
        have := List.all_eq_true.1 h3 _ hm
        rw [e] at this
        simp at this
      exact Holds.addY hne (Holds.cut (hh key x (hl.look key x hx)) (List.all_eq_true.1 ho _ hm))
theorem Good.resEx {ι : Type} {J : ι → Mem → (Nat → Prop) → World → Prop} (hg : Good E U s a w) (hl : look s 3000 = some (.res fun h Y w => ∃ q, J q h Y w)) (hS : ∀ q, Stable (J q)) : ∃ q, Good E U ((3000, .res (J q)) :: s) a w := by
  obtain ⟨c, hb, hh⟩ := hg
  obtain ⟨_, q, hq⟩ := res_of (hh _ _ hl)
  refine ⟨q, c, hb, fun key x hx => ?_⟩
  simp only [look] at hx
  split at hx
  · rename_i e
    have := Nat.eq_of_beq_eq_true e
    cases hx
    subst this
    exact Holds.mkRes (hS q) hq
  · exact hh key x hx
theorem OK.resEx {code : Code} {Q : Exit → List Nat → St → Prop} {ι : Type} {J : ι → Mem → (Nat → Prop) → World → Prop} (hl : look s 3000 = some (.res fun h Y w => ∃ q, J q h Y w)) (hS : ∀ q, Stable (J q)) (h : ∀ q, OK E code Q U ((3000, .res (J q)) :: s)) : OK E code Q U s := fun a w hg => by
  obtain ⟨q, hq⟩ := hg.resEx hl hS
  exact h q a w hq
theorem OK.giveR {code : Code} {Q : Exit → List Nat → St → Prop} {J0 : Mem → (Nat → Prop) → World → Prop} {J : Nat → Mem → (Nat → Prop) → World → Prop} (U' : List Nat) (s1 : St) (t : Nat) {k : Nat} {cells : List X} (hl3 : look s 3000 = some (.res J0)) (ht : look s t = some (.ptr k 0)) (ht1 : Nat.blt t 1000 = true) (hb : look s (1000 + k) = some (.box cells)) (hk1 : Nat.blt k 1000 = true) (hk9 : E.fs.contains k = false)
    (hkU : U'.contains k = false) (hl : Le s s1) (ho : s1.all (okKey U') = true) (h3 : s1.all (fun p => !Nat.beq p.1 3000) = true) (hS : ∀ b, Stable (J b))
    (hJ : ∀ b h Y T vs w, J0 h Y w → w.heap[b]? = some (.cells vs T (0, 0)) → (∃ c : Ctx, c.h = h ∧ All2 (RepC c) cells vs.toList) → (∀ o, h ⟨b, o, none⟩ = none) → ¬ Y b → J b h (fun x => Y x ∨ x = b) w)
    (h : ∀ b, OK E code Q U' ((t, .raw (.pointer (some ⟨b, 0, none⟩))) :: (3000, .res (J b)) :: s1)) : OK E code Q U s := fun a w hg => by
  obtain ⟨b, hb'⟩ := hg.give (U' := U') (s1 := s1) (R := fun _ h Y w => J0 h Y w) ht ht1 hb hk1 (nfs hk9) hkU hl ho h3 fun c b _ hh _ => (res_of (hh _ _ hl3)).2
  exact h b a w (hb' (J b) (hS b) fun h Y T vs q1 q2 q3 q4 q5 => hJ b h Y T vs w q1 q2 q3 q4 q5)
theorem OK.giveB {code : Code} {Q : Exit → List Nat → St → Prop} {Jb : Nat → Mem → (Nat → Prop) → World → Prop} {J : Mem → (Nat → Prop) → World → Prop} (U' : List Nat) (s1 : St) (t : Nat) {k : Nat} {cells : List X} (hl3 : look s 3000 = some (.resb k Jb)) (ht : look s t = some (.ptr k 0)) (ht1 : Nat.blt t 1000 = true) (hb : look s (1000 + k) = some (.box cells)) (hk1 : Nat.blt k 1000 = true) (hk9 : E.fs.contains k = false)
    (hkU : U'.contains k = false) (hl : Le s s1) (ho : s1.all (okKey U') = true) (h3 : s1.all (fun p => !Nat.beq p.1 3000) = true) (hS : Stable J)
    (hJ : ∀ b h Y T vs w, Jb b h Y w → w.heap[b]? = some (.cells vs T (0, 0)) → (∃ c : Ctx, c.h = h ∧ All2 (RepC c) cells vs.toList) → (∀ o, h ⟨b, o, none⟩ = none) → ¬ Y b → J h (fun x => Y x ∨ x = b) w)
    (h : ∀ b, OK E code Q U' ((t, .raw (.pointer (some ⟨b, 0, none⟩))) :: (3000, .res J) :: s1)) : OK E code Q U s := fun a w hg => by
  obtain ⟨b, hb'⟩ := hg.give (U' := U') (s1 := s1) (R := fun b h Y w => Jb b h Y w) ht ht1 hb hk1 (nfs hk9) hkU hl ho h3 fun c b _ hh hc => by
    obtain ⟨b', e1, _, e2⟩ := resb_of (hh _ _ hl3)
    rw [hc] at e1
    cases e1
    exact e2
  exact h b a w (hb' J hS fun h Y T vs q1 q2 q3 q4 q5 => hJ b h Y T vs w q1 q2 q3 q4 q5)
theorem OK.resTo {code : Code} {Q : Exit → List Nat → St → Prop} {J J' : Mem → (Nat → Prop) → World → Prop} (hl : look s 3000 = some (.res J)) (hS : Stable J') (hJ : ∀ h Y w, J h Y w → J' h Y w) (h : OK E code Q U ((3000, .res J') :: s)) : OK E code Q U s := fun a w hg => by
  obtain ⟨c, hb, hh⟩ := hg
  refine h a w ⟨c, hb, fun key x hx => ?_⟩
  simp only [look] at hx
  split at hx
  · rename_i e
    have := Nat.eq_of_beq_eq_true e
    cases hx
    subst this
    exact Holds.mkRes hS (hJ _ _ _ (res_of (hh _ _ hl)).2)
  · exact hh key x hx
end
end Go.Ab
namespace Go.Ab
open Go.RowKit
theorem cb_of_first {P : Program} {f : Nat} {v1 : Value} {ys : List X} {res : X} {J0 J1 : Mem → (Nat → Prop) → World → Prop} (hf : CtG P f [] (.raw v1 :: ys) [(3000, .res J0)] [(3000, .res J1)] res) (hcall : ∀ args w, (callFunc f args).run P w = .ok (.enter f args) w) (hs : scal res = true) (hS : Stable J0) :
    CbOk P (.func (.func f) #[v1] #[]) ys res J0 J1 := by
  intro h Y w vs hw hY hJ hargs
  refine .inl ⟨f, #[v1], #[], rfl, hcall, ?_⟩
  have h1 := hf ⟨h, fun _ => none, fun _ => none, Y⟩ w (v1 :: vs) ⟨hw, (fun k b e => by cases e), (fun k m hv b e => by cases e), (fun _ _ => ⟨rfl, rfl⟩), (fun b hy => ⟨hY b hy, (fun k e => by cases e), (fun k m hv e => by cases e)⟩)⟩
    (fun p hp a => by
      simp only [List.mem_singleton] at hp
      subst hp
      exact Holds.mkRes hS hJ)
    ⟨rfl, hargs.mono fun _ _ => RepV.mono (pure_ext rfl)⟩
  have e : (v1 :: vs).toArray = #[v1] ++ vs.toArray ++ #[] := by simp
  rw [e] at h1
  refine h1.mono ?_
  rintro en w' ⟨u, c', rfl, hpg⟩
  have out0 : ∀ b, (Ctx.mk h (fun _ => none) (fun _ => none) Y).out [] b → Y b := by
    rintro b (hy | ⟨k, q, _⟩ | ⟨k, m, hv, q, _⟩)
    · exact hy
    · cases q
    · cases q
  have out1 : ∀ b, c'.out [] b → c'.Y b := by
    rintro b (hy | ⟨k, q, _⟩ | ⟨k, m, hv, q, _⟩)
    · exact hy
    · cases q
    · cases q
  refine ⟨u, c'.h, c'.Y, rfl, ⟨hpg.below.mono (Nat.le_refl _) fun k _ hk => out0 k hk, hpg.le, fun p v hp => (hpg.new p v hp).imp id fun q => ⟨q.1, fun hy => q.2 (.inl hy)⟩, hpg.ok.hw, fun b hy => (hpg.ok.Y b hy).1, fun b hy hlt => out0 b (hpg.out b (.inl hy) hlt)⟩, ?_, scal_any hs hpg.res⟩
  exact (res_of (hpg.wr (3000, .res J1) (by simp) { tmps := #[], defers := [] })).2
section
variable {E : Env} {all : Array Oper} {s r r1 r2 r3 rg : St} {d ty : Nat} {pos : String} {after : Array Edge} {guard : Option (Nat × Bool)} {x y z : Operand}
theorem S.makeFuncF {f : Nat} {v : Value} (hg : Gd all s guard rg) (hd : (Nat.blt d 1000 && Nat.blt d E.nt) = true) (hx : OpS s x (.raw v) r) :
    St1 E all ⟨some d, .makeFunc (.func f) #[x] #[], ty, pos, after, guard⟩ s (rg ++ r) [(d, .raw (.func (.func f) #[v] #[]))] [] :=
  St1.val hg hd rfl hx.looks fun c A w _ hr => by
    have h0 : A.eval x = v := hx.rep (c := c) (a := A) (w := w) hr
    exact ⟨.func (.func f) #[v] #[], by simp [execOp, Instr.makeFunc, h0], rfl⟩
theorem S.callF {g : Nat} {os : List Operand} {at_ : Array TypeId} {ys xs : List X} {v0 : Value} {res : X} {J0 J1 : Mem → (Nat → Prop) → World → Prop} (hf : CtG E.P g [] (ys ++ [.cb fun v => v = v0]) [(3000, .res J0)] [(3000, .res J1)] res) (hS : Stable J1)
    (hcall : ∀ args w, (callFunc g args).run E.P w = .ok (.enter g args) w) (hg : Gd all s guard rg) (hd : (Nat.blt d 1000 && Nat.blt d E.nt) = true) (ha : OpsS s os xs r) (hx : ys ++ [.raw v0] = xs) (ho : ys.all okArg = true) (hl : look s 3000 = some (.res J0)) (hs : scal res = true) :
    St1 E all ⟨some d, .call { callee := .value (.func g), args := os.toArray, argTypes := at_ }, ty, pos, after, guard⟩ s (rg ++ (r ++ [(3000, .res J0)])) ((d, res) :: [(3000, .res J1)]) [] := by
  subst hx
  simp only [Bool.and_eq_true, Nat.blt_eq] at hd
  refine ⟨?_, hg.looks.app (ha.looks.app ⟨hl, trivial⟩)⟩
  intro U c a w hb hr _ next Q hn
  have hw := hg.wanted (o := ⟨some d, .call { callee := .value (.func g), args := os.toArray, argTypes := at_ }, ty, pos, after, guard⟩) (fun p hp => hr p (List.mem_append_left _ hp))
  obtain ⟨vs1, u0, e1, hys, hu0⟩ := All2.split1 (ha.rep (c := c) (a := a) (w := w) fun p hp => hr p (by simp [hp]))
  have hargs := args_clean hys ho
  have hv0 : u0 = v0 := hu0
  subst hv0
  unfold opIn
  rw [if_pos hw]
  refine ⟨fun _ _ => trivial, ?_⟩
  rw [Oper.semAt_eq _ _ _ fun cl he => by cases he]
  have hfo : a.eval (.func g) = .func (.func g) #[] #[] := rfl
  have hrun : (execOp a.eval ⟨some d, .call { callee := .value (.func g), args := os.toArray, argTypes := at_ }, ty, pos, after, guard⟩).run E.P w = .ok (.enter g (vs1 ++ [u0]).toArray) w := by
    rw [← e1]
    simp [execOp, resolve, hfo, Deferred.ofValue, invoke, hcall]
  rw [hrun]
  refine ⟨(fun h => by cases h), ?_⟩
  obtain ⟨hS0, hJ0⟩ := res_of (hr (3000, .res J0) (by simp))
  have hc0 := hf ⟨c.h, fun _ => none, fun _ => none, c.Y⟩ w (vs1 ++ [u0])
    ⟨hb.hw, (fun k b e => by cases e), (fun k m hv b e => by cases e), (fun _ _ => ⟨rfl, rfl⟩), (fun b hy => ⟨(hb.Y b hy).1, (fun k e => by cases e), (fun k m hv e => by cases e)⟩)⟩
    (fun p hp a' => by
      simp only [List.mem_singleton] at hp
      subst hp
      exact Holds.mkRes hS0 hJ0)
    ((hargs.mono fun _ _ => RepV.mono (pure_ext (c := Ctx.mk c.h (fun _ => none) (fun _ => none) c.Y) rfl)).append (show All2 (RepV (Ctx.mk c.h (fun _ => none) (fun _ => none) c.Y)) [X.cb fun v => v = u0] [u0] from ⟨rfl, trivial⟩))
  have h1 : CallsIn E.F (0 - 1) E.P g (vs1 ++ [u0]).toArray w _ := (callsIn_wide (n := 0)).2 hc0
  refine h1.mono ?_
  rintro en w' ⟨u, c2, rfl, hpg⟩
  obtain ⟨_, hJ1⟩ := res_of (hpg.wr (3000, .res J1) (by simp) a)
  have out0 : ∀ b, (Ctx.mk c.h (fun _ => none) (fun _ => none) c.Y).out [] b → c.Y b := by
    rintro b (hy | ⟨k, q, _⟩ | ⟨k, m, hv, q, _⟩)
    · exact hy
    · cases q
    · cases q
  have hp : PostJ c.h c.Y w c2.h c2.Y w' := ⟨hpg.below.mono (Nat.le_refl _) fun k _ hk => out0 k hk, hpg.le, fun p v hp => (hpg.new p v hp).imp id fun q => ⟨q.1, fun hy => q.2 (.inl hy)⟩, hpg.ok.hw, fun b hy => (hpg.ok.Y b hy).1, fun b hy hlt => out0 b (hpg.out b (.inl hy) hlt)⟩
  have hext : Ext c ⟨c2.h, c.loc, c.arr, c2.Y⟩ := ⟨hp.le, fun _ _ e => e, fun _ m hv lv e => ⟨m, hv, lv, e, Nat.le_refl _, fun _ => rfl⟩⟩
  have hdt : d < a.tmps.size := by rw [hb.nt]; exact hd.2
  refine hn ⟨c2.h, c.loc, c.arr, c2.Y⟩ _ w' ((hb.turn hp).put _ _) hext ?_ ?_
  · intro p hp2
    simp only [List.mem_cons, List.not_mem_nil, or_false] at hp2
    rcases hp2 with rfl | rfl
    · unfold Holds
      rw [if_pos hd.1, getD_put hdt]
      exact scal_any hs hpg.res
    · exact (Holds.mkRes (c := ⟨c2.h, c.loc, c.arr, c2.Y⟩) (a := a) hS hJ1).put (by show d ≠ 3000; omega) u
  · intro key y hk hy
    have hne : d ≠ key := hk (d, res) (by simp)
    have hne2 : 3000 ≠ key := hk (3000, .res J1) (by simp)
    by_cases h1 : key < 1000
    · refine Holds.put ?_ hne u
      unfold Holds at hy ⊢
      rw [if_pos h1] at hy ⊢
      exact hy.mono hext
    · exact (Holds.turn hb hp h1 (fun e => hne2 e.symm) hy).put hne u
end
def CtX (P : Program) (f : Nat) (args : List X) {ι : Type} (res : ι → X) (J : ι → Mem → (Nat → Prop) → World → Prop) : Prop :=
  ∀ (h : Mem) (w : World) (vs : List Value), (∀ p v, h p = some v → w.cell? p = some v) → All2 (RepV (pureC h)) args vs →
    Calls P f vs.toArray w fun en w' => ∃ q v h' Y', en = .returned v ∧ PostJ h (fun _ => False) w h' Y' w' ∧ RepT (pureC h') (res q) v ∧ J q h' Y' w'
def RetX (E : Env) (rs : List ResultVar) {ι : Type} (res : ι → X) (J : ι → Mem → (Nat → Prop) → World → Prop) : Exit → List Nat → St → Prop := fun e U s => ∃ q, RetQ E rs (res q) e U s ∧ look s 3000 = some (.res (J q))
theorem CtX.intro {P : Program} {f nt : Nat} {fn : Func} {code : Code} {rs : List ResultVar} {args : List X} {ι : Type} {res : ι → X} {J : ι → Mem → (Nat → Prop) → World → Prop} (hf : P.funcs[f]? = some fn) (hb : fn.body = some code) (hn : fn.ntmps = nt) (hr : fn.results = rs.toArray)
    (hl : Nat.ble args.length nt = true) (ht : args.all (fun x => !isTup x) = true) (hl2 : Nat.ble args.length 1000 = true)
    (h : ∀ w c, OK (mkE P nt [] w c) code (den (mkE P nt [] w c) (RetX (mkE P nt [] w c) rs res J) []) [] (argSt 0 args)) : CtX P f args res J := by
  intro h0 w vs hw hargs
  refine (callsIn_wide (n := 0)).1 (callsIn_of_wp_marks hf hb trivial ?_ rfl)
  have hlen := hargs.length
  rw [Nat.ble_eq] at hl hl2
  have hno : ∀ b, ¬ (pureC h0).out [] b := by
    rintro b (hy | ⟨k, _, e⟩ | ⟨k, m, hv, _, e, _⟩)
    · exact hy
    · cases e
    · cases e
  refine wpIn_mono (h w (pureC h0) { tmps := vs.toArray ++ Array.replicate (fn.ntmps - vs.toArray.size) undef, defers := [] } w ?_) ?_
  · refine ⟨pureC h0, ⟨BelX.refl _ _ _, Nat.le_refl _, ?_, ⟨.nil, fun d hd => by cases hd⟩, (fun p hp => by cases hp), hw, Mem.le_refl _, fun p v e => .inl e, (fun k b e => by cases e), (fun k m hv b e => by cases e), (fun _ _ => ⟨rfl, rfl⟩), (fun b e => e.elim), (fun k b _ e => by cases e), (fun k m hv lv _ e => by cases e)⟩, fun key x hx => slots_start hargs ht hl2 key x hx⟩
    simp [hn]; omega
  · rintro e a' w' ⟨U', s', ⟨c, hbase, hh⟩, q, ⟨he, ys, hys, hres⟩, hl3⟩
    have hE : (mkE P nt [] w (pureC h0)).B = w.heap.size := rfl
    have post : LeavesInM Fence.wide 0 P fn a'.tmps (fun en w' => ∃ q v h' Y', en = .returned v ∧ PostJ h0 (fun _ => False) w h' Y' w' ∧ RepT (pureC h') (res q) v ∧ J q h' Y' w') a'.defers .returning w' := by
      refine leaves_marks (B := w.heap.size) (Z := c.all) a'.defers w' hbase.dfr.1 ?_ ?_
      · intro d hd
        obtain ⟨D, h1, h2, h3, h4⟩ := hbase.dfr.2 d hd
        exact ⟨D, h1, h2, h3, h4⟩
      · intro w2 e1 e2 e3 e4 e5 e6
        obtain ⟨hbase, hh⟩ := hbase.calm hh e1 e2 e3 e4 rfl e5 e6
        obtain ⟨vs', h1, h2, h3⟩ := run_resSems hbase hh hys
        have hrun : (results fn a'.tmps).run P w2 = .ok (if h : vs'.toArray.size = 1 then vs'.toArray[0] else .tuple vs'.toArray) w2 := by
          have he : results fn a'.tmps = (fn.results.mapM (resSem a'.tmps) >>= fun vs => pure (if h : vs.size = 1 then vs[0] else .tuple vs)) := by
            unfold results
            congr 1
          have h1' : (rs.mapM (resSem a'.tmps)).run P w2 = .ok vs' w2 := h1
          rw [he, hr, Array.mapM_eq_mapM_toList]
          simp [h1']
        have hpg := PostG.of_base (s := s') (wr := [(3000, .res (J q))]) (res := res q) (v := if h : vs'.toArray.size = 1 then vs'.toArray[0] else .tuple vs'.toArray) hbase hE hh ⟨hl3, trivial⟩ rfl (by
          rw [← hres]
          have hl := h2.length
          match ys, vs', h2, h3, hl with
          | [y], [v], h2, h3, _ => exact V.toT h2.1 (h3 y (by simp))
          | [], [], h2, _, _ => exact ⟨[], rfl, trivial⟩
          | y1 :: y2 :: ys, v1 :: v2 :: vs, h2, _, _ => exact ⟨v1 :: v2 :: vs, by simp, h2⟩
          | [_], [], h2, _, _ => exact h2.elim
          | [], _ :: _, h2, _, _ => exact h2.elim
          | [_], _ :: _ :: _, h2, _, _ => exact h2.2.elim
          | _ :: _ :: _, [], h2, _, _ => exact h2.elim
          | _ :: _ :: _, [_], h2, _, _ => exact h2.2.elim) (fun b h => h.elim id fun ⟨p, hp, _⟩ => by cases hp)
        obtain ⟨_, hJ1⟩ := res_of (hpg.wr (3000, .res (J q)) (by simp) { tmps := #[], defers := [] })
        refine ⟨_, hrun, q, _, (c.pub [] ((mkE P nt [] w (pureC h0)).fin c w2)).h, (c.pub [] ((mkE P nt [] w (pureC h0)).fin c w2)).Y, rfl, ⟨hpg.below.mono (Nat.le_refl _) fun k _ hk => (hno k hk).elim, hpg.le, fun p v hp => (hpg.new p v hp).imp id fun q => ⟨q.1, fun hy => q.2 (.inl hy)⟩, hpg.ok.hw, fun b hy => (hpg.ok.Y b hy).1, fun b hy hlt => hno b (hpg.out b (.inl hy) hlt)⟩, ?_, hJ1⟩
        refine hpg.res.mono ⟨Mem.le_refl _, fun k b e => ?_, fun k m hv lv e => ?_⟩
        · have e2 := hpg.loc k b e; cases e2
        · obtain ⟨_, _, _, e2, _⟩ := hpg.arr k m hv lv e; cases e2
    rcases he with rfl | rfl
    · exact post
    · exact post
section
variable {E : Env} {all : Array Oper} {s r r1 r2 r3 rg : St} {d ty : Nat} {pos : String} {after : Array Edge} {x y z : Operand}
theorem RK.callX {l : List Oper} {U : List Nat} {Q : Exit → List Nat → St → Prop} {g : Nat} {os : List Operand} {at_ : Array TypeId} {ys : List X} {ι : Type} {res : ι → X} {J : ι → Mem → (Nat → Prop) → World → Prop} (hf : CtX E.P g ys res J) (hS : ∀ q, Stable (J q)) (hm : ∀ q h Y Y' w, J q h Y w → (∀ b, Y b → Y' b) → J q h Y' w)
    (hcall : ∀ args w, (callFunc g args).run E.P w = .ok (.enter g args) w) (hd : (Nat.blt d 1000 && Nat.blt d E.nt) = true) (ha : OpsS s os ys r) (ho : ys.all okArg = true)
    (h : ∀ q, RK E all l U ((d, res q) :: (3000, .res (J q)) :: s) Q) : RK E all (⟨some d, .call { callee := .value (.func g), args := os.toArray, argTypes := at_ }, ty, pos, after, none⟩ :: l) U s Q := by
  simp only [Bool.and_eq_true, Nat.blt_eq] at hd
  intro k hk a w hg
  rw [List.length_cons, List.range'_succ, wpOpsIn_cons]
  refine opIn_wpOpIn (by simpa using hk 0) ?_
  obtain ⟨c, hb, hh⟩ := hg
  have hw : Region.wanted (⟨some d, .call { callee := .value (.func g), args := os.toArray, argTypes := at_ }, ty, pos, after, none⟩ : Oper) (yielded all a.tmps) = true := rfl
  have hargs := args_clean (ha.rep (c := c) (a := a) (w := w) fun p hp => hh p.1 p.2 (ha.looks.all p hp)) ho
  unfold opIn
  rw [if_pos hw]
  refine ⟨fun _ _ => trivial, ?_⟩
  rw [Oper.semAt_eq _ _ _ fun cl he => by cases he]
  have hfo : a.eval (.func g) = .func (.func g) #[] #[] := rfl
  have hrun : (execOp a.eval ⟨some d, .call { callee := .value (.func g), args := os.toArray, argTypes := at_ }, ty, pos, after, none⟩).run E.P w = .ok (.enter g (os.map a.eval).toArray) w := by
    simp [execOp, resolve, hfo, Deferred.ofValue, invoke, hcall]
  rw [hrun]
  refine ⟨(fun h => by cases h), ?_⟩
  have h1 : CallsIn E.F (0 - 1) E.P g (os.map a.eval).toArray w _ := (callsIn_wide (n := 0)).2 (hf c.h w _ hb.hw hargs)
  refine h1.mono ?_
  rintro en w' ⟨q, v, h', Y', rfl, hp, hres, hJ⟩
  have hfr : ∀ b, Y' b → w.heap.size ≤ b := fun b hy => Nat.le_of_not_lt fun hlt => hp.out b hy hlt
  have hp2 : PostJ c.h c.Y w h' (fun b => c.Y b ∨ Y' b) w' := by
    refine ⟨hp.below.mono (Nat.le_refl _) fun _ _ e => e.elim, hp.le, fun p v hv => (hp.new p v hv).imp id fun e => ⟨e.1, ?_⟩, hp.hw, fun b hy => ?_, fun b hy hlt => ?_⟩
    · rintro (hy | hy)
      · have := (hb.Y _ hy).1; have := e.1; omega
      · exact e.2 hy
    · rcases hy with hy | hy
      · have := (hb.Y b hy).1; have := hp.below.size; omega
      · exact hp.lt b hy
    · rcases hy with hy | hy
      · exact hy
      · have := hfr b hy; omega
  have hext : Ext c ⟨h', c.loc, c.arr, fun b => c.Y b ∨ Y' b⟩ := ⟨hp.le, fun _ _ e => e, fun _ m hv lv e => ⟨m, hv, lv, e, Nat.le_refl _, fun _ => rfl⟩⟩
  have hdt : d < a.tmps.size := by rw [hb.nt]; exact hd.2
  refine h q (k + 1) (fun j => ?_) _ _ ⟨⟨h', c.loc, c.arr, fun b => c.Y b ∨ Y' b⟩, (hb.turn hp2).put _ _, fun key u hu => ?_⟩
  · have := hk (j + 1)
    simp only [List.getElem?_cons_succ] at this
    rw [← this]
    congr 1
    omega
  · simp only [look] at hu
    split at hu
    · rename_i e
      have := Nat.eq_of_beq_eq_true e
      cases hu
      subst this
      unfold Holds
      rw [if_pos hd.1, getD_put hdt]
      exact hres.mono (pure_ext (c := ⟨h', c.loc, c.arr, fun b => c.Y b ∨ Y' b⟩) rfl)
    · rename_i hne
      have hne' : d ≠ key := fun e => hne (by rw [e]; exact Nat.beq_refl _)
      split at hu
      · rename_i e
        have := Nat.eq_of_beq_eq_true e
        cases hu
        subst this
        exact (Holds.mkRes (c := ⟨h', c.loc, c.arr, fun b => c.Y b ∨ Y' b⟩) (a := a) (hS q) (hm q _ _ _ _ hJ fun b hy => .inr hy)).put (by show d ≠ 3000; omega) v
      · rename_i hne3
        have hne3' : key ≠ 3000 := fun e => hne3 (by rw [e]; exact Nat.beq_refl _)
        have h0 := hh key u hu
        by_cases h1 : key < 1000
        · refine Holds.put ?_ hne' _
          unfold Holds at h0 ⊢
          rw [if_pos h1] at h0 ⊢
          exact h0.mono hext
        · exact (Holds.turn hb hp2 h1 hne3' h0).put hne' _
end
theorem OK.lit {E : Env} {U : List Nat} {s : St} {code : Code} {Q : Exit → List Nat → St → Prop} {t : Nat} {b b' : Bool} (hl : look s t = some (.bool b)) (hb : b = b') (h : OK E code Q U ((t, .bool b') :: s)) : OK E code Q U s := fun a w hg => by
  subst hb
  obtain ⟨c, hbs, hh⟩ := hg
  refine h a w ⟨c, hbs, fun key x hx => ?_⟩
  simp only [look] at hx
  split at hx
  · rename_i e
    have := Nat.eq_of_beq_eq_true e
    cases hx
    subst this
    exact hh _ _ hl
  · exact hh key x hx
end Go.Ab
namespace Go.Ab
open Go.RowKit
def lendV (fs : List Nat) (t : St) : X → Bool
  | .agg xs => xs.all (lendC fs t)
  | x => lendC fs t x
def lendT (fs : List Nat) (t : St) : X → Bool
  | .tup xs => xs.all (lendV fs t)
  | x => lendV fs t x
theorem RepV.lend {c : Ctx} {fs : List Nat} {t : St} {x : X} {v : Value} (h : RepV c x v) (ho : lendV fs t x = true) : RepV (c.lend fs t) x v := by
  cases x
  case agg xs => obtain ⟨vs, h1, h2⟩ := h; exact ⟨vs, h1, All2.cut (R' := RepC (c.lend fs t)) (ok := lendC fs t) (fun _ _ h ho => RepC.lend h ho) h2 ho⟩
  all_goals (simp only [RepV, lendV] at h ho ⊢; exact RepC.lend h ho)
theorem RepV.back {c c3 : Ctx} {fs : List Nat} {t : St} {x : X} {v : Value} (h : RepV c3 x v) (ho : lendV fs t x = true) : RepV (c.back c3 fs t) x v := by
  cases x
  case agg xs => obtain ⟨vs, h1, h2⟩ := h; exact ⟨vs, h1, All2.cut (R' := RepC (c.back c3 fs t)) (ok := lendC fs t) (fun _ _ h ho => RepC.back h ho) h2 ho⟩
  all_goals (simp only [RepV, lendV] at h ho ⊢; exact RepC.back h ho)
theorem RepT.back {c c3 : Ctx} {fs : List Nat} {t : St} {x : X} {v : Value} (h : RepT c3 x v) (ho : lendT fs t x = true) : RepT (c.back c3 fs t) x v := by
  cases x
  case tup xs => obtain ⟨vs, h1, h2⟩ := h; exact ⟨vs, h1, All2.cut (R' := RepV (c.back c3 fs t)) (ok := lendV fs t) (fun _ _ h ho => RepV.back h ho) h2 ho⟩
  all_goals (simp only [RepT, lendT] at h ho ⊢; exact RepV.back h ho)
end Go.Ab
namespace Go.Ab
open Go.RowKit
theorem lkI {a b : Int} (h : a = b) : some (X.int .i64 a) = some (X.int .i64 b) := by rw [h]
end Go.Ab
