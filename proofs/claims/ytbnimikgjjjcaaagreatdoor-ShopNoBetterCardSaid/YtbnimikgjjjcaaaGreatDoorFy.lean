import Derived.MapKept
import Derived.Test.YtbnimikgjjjcaaaGreatDoorFx
namespace Go.Ab
open Go.RowKit
theorem res_of {c : Ctx} {a : Act} {w : World} {J : Mem → (Nat → Prop) → World → Prop} (h : Holds c a w 3000 (.res J)) : Stable J ∧ J c.h c.Y w := by
  unfold Holds at h
  rw [if_neg (by omega), if_neg (by omega), if_neg (by omega)] at h
  rcases h with h | ⟨_, J', e, h1, h2⟩
  · cases h
  · have e' : J = J' := e
    subst e'
    exact ⟨h1, h2⟩
theorem Holds.mkRes {c : Ctx} {a : Act} {w : World} {J : Mem → (Nat → Prop) → World → Prop} (h1 : Stable J) (h2 : J c.h c.Y w) : Holds c a w 3000 (.res J) := by
  unfold Holds
  rw [if_neg (by omega), if_neg (by omega), if_neg (by omega)]
  exact .inr ⟨rfl, J, rfl, h1, h2⟩
theorem adr_spot {w : World} {p : Addr} {v : Value} (h : w.cell? p = some v) : p = ⟨p.block, p.off, none⟩ := by
  have hsp : p.spot = none := by
    cases hsp : p.spot with
    | none => rfl
    | some q => simp only [World.cell?, hsp] at h; split at h <;> simp at h
  cases p; simp at hsp; subst hsp; rfl
section
variable {E : Env} {all : Array Oper} {s r r1 r2 r3 rg : St} {d ty : Nat} {pos : String} {after : Array Edge} {guard : Option (Nat × Bool)} {x y z : Operand}
theorem St1.res {op : Op} {J : Mem → (Nat → Prop) → World → Prop} {xr : X} (hg : Gd all s guard rg) (hdef : isDefer op = false) (hl : Looks s r) (hl3 : look s 3000 = some (.res J))
    (h : ∀ (U : List Nat) (c : Ctx) (a : Act) (w : World), Base E U c a w → (∀ p ∈ r, Holds c a w p.1 p.2) → J c.h c.Y w → ∃ w', (execOp a.eval ⟨none, op, ty, pos, after, guard⟩).run E.P w = .ok .skip w' ∧ PostJ c.h c.Y w c.h c.Y w' ∧ Holds c a w' 3000 xr) :
    St1 E all ⟨none, op, ty, pos, after, guard⟩ s (rg ++ (r ++ [(3000, .res J)])) [(3000, xr)] [] := by
  refine ⟨?_, hg.looks.app (hl.app ⟨hl3, trivial⟩)⟩
  intro U c a w hb hr hal next Q hnx
  have hw := hg.wanted (o := ⟨none, op, ty, pos, after, guard⟩) (fun p hp => hr p (List.mem_append_left _ hp))
  obtain ⟨w', hrun, hp, hx⟩ := h U c a w hb (fun p hp => hr p (by simp [hp])) (res_of (hr (3000, .res J) (by simp))).2
  unfold opIn
  rw [if_pos hw]
  refine ⟨fun _ _ => trivial, ?_⟩
  rw [Oper.semAt_eq _ _ _ (fun cl he => by simp only at he; rw [he] at hdef; cases hdef), hrun]
  refine hnx c a w' (hb.turn hp) (Ext.refl c) (fun p hp => ?_) fun key u hk hu => ?_
  · simp only [List.mem_singleton] at hp
    subst hp
    exact hx
  · have hne : 3000 ≠ key := hk (3000, xr) (by simp)
    by_cases h1 : key < 1000
    · unfold Holds at hu ⊢; rw [if_pos h1] at hu ⊢; exact hu
    · exact Holds.turn hb hp h1 (fun e => hne e.symm) hu
theorem post_set {c : Ctx} {U : List Nat} {a : Act} {w w' : World} {b : Nat} (hb : Base E U c a w) (hY : c.Y b) (hn : ∀ o, c.h ⟨b, o, none⟩ = none) (hos : w'.os = w.os) (htp : w'.tape = w.tape) (hout : w'.output = w.output) (hsz : w'.heap.size = w.heap.size) (ho : ∀ j, j ≠ b → w'.heap[j]? = w.heap[j]?) : PostJ c.h c.Y w c.h c.Y w' := by
  refine ⟨⟨hos, htp, hout, by omega, fun j _ hy => ho j fun e => hy (e ▸ hY)⟩, Mem.le_refl _, fun _ _ e => .inl e, fun p v hp => ?_, fun j hy => by have := (hb.Y j hy).1; omega, fun j hy _ => hy⟩
  have h1 := hb.hw p v hp
  have hne : p.block ≠ b := fun e => by
    have h2 := adr_spot h1
    have h3 := hn p.off
    rw [← e, ← h2, hp] at h3; cases h3
  rw [World.cell?_of_block (ho _ hne)]
  exact h1
theorem S.rstore1 {T tsz b o : Nat} {u : X} {v0 : Value} {J J' : Mem → (Nat → Prop) → World → Prop} (ht : TyI E.P T false tsz) (h1s : tsz = 1) (hg : Gd all s guard rg) (hx : OpS s x (.raw (.pointer (some ⟨b, o, none⟩))) r1) (hy : OpS s y u r2) (hl : look s 3000 = some (.res J)) (hu : ∀ c v, RepT c u v → v = v0) (hc : v0.cells = #[v0]) (hone : v0.oneCell' = true)
    (hJ : ∀ h Y w, J h Y w → Y b ∧ (∀ o', h ⟨b, o', none⟩ = none) ∧ ∃ vs T', w.heap[b]? = some (.cells vs T' (0, 0)) ∧ o < vs.size ∧ J' h Y (w.setRow b (vs.toList.take o ++ [v0] ++ vs.toList.drop (o + 1)).toArray)) (hS : Stable J') :
    St1 E all ⟨none, .store T x y, ty, pos, after, guard⟩ s (rg ++ ((r1 ++ r2) ++ [(3000, .res J)])) [(3000, .res J')] [] :=
  St1.res hg rfl (hx.looks.app hy.looks) hl fun U c a w hb hr hj => by
    subst h1s
    have h0 : a.eval x = .pointer (some ⟨b, o, none⟩) := hx.rep (c := c) (a := a) (w := w) fun p hp => hr p (by simp [hp])
    have hv : a.eval y = v0 := hu c _ (hy.rep (c := c) (a := a) (w := w) fun p hp => hr p (by simp [hp]))
    obtain ⟨hY, hn, vs, T', hh, ho, hj'⟩ := hJ _ _ _ hj
    have hst := run_storeCells_at E.P b o T' [v0] 0 vs w hh (by simp; omega) (by simpa using hone)
    simp only [Nat.add_zero, List.length_cons, List.length_nil, Nat.zero_add] at hst
    refine ⟨w.setRow b (vs.toList.take o ++ [v0] ++ vs.toList.drop (o + 1)).toArray, ?_, post_set hb hY hn rfl rfl rfl (by simp) fun j hj => setRow_other w b j _ hj, Holds.mkRes hS hj'⟩
    have hsz : v0.cells.size = 1 := by rw [hc]; rfl
    simp [execOp, h0, hv, Instr.storeAt, Instr.sureAddr, storeVar, ht.size, hc, hst]
theorem S.lookup {t kt e rb : Nat} {n : Int} {vp : Value} {ok : Bool} {J : Mem → (Nat → Prop) → World → Prop} (ht : E.P.underlying t = some (.map kt e)) (hk : E.P.underlying kt = some (.int .i64)) (hz : ∀ w, (zeroValue e).run E.P w = .ok (.pointer none) w) (hg : Gd all s guard rg) (hd : (Nat.blt d 1000 && Nat.blt d E.nt) = true)
    (hx : OpS s x (.raw (.map (some rb))) r1) (hy : OpS s y (.int .i64 n) r2) (hl : look s 3000 = some (.res J))
    (hJ : ∀ h Y w, J h Y w → ∃ es clock, w.heap[rb]? = some (.map es clock) ∧ ((ok = true ∧ ∃ i, Instr.findNow (.int .i64) (.int .i64 n) es.toList 0 = some (some (i, vp))) ∨ (ok = false ∧ vp = .pointer none ∧ Instr.findNow (.int .i64) (.int .i64 n) es.toList 0 = some none))) :
    St1 E all ⟨some d, .lookup t x y true, ty, pos, after, guard⟩ s (rg ++ (r1 ++ (r2 ++ [(3000, .res J)]))) [(d, .tup [.raw vp, .bool ok])] [] :=
  St1.val hg hd rfl (hx.looks.app (hy.looks.app ⟨hl, trivial⟩)) fun c A w _ hr => by
    have h0 : A.eval x = .map (some rb) := hx.rep (c := c) (a := A) (w := w) fun p hp => hr p (by simp [hp])
    obtain ⟨h1, _⟩ := int_of (hy.rep (c := c) (a := A) (w := w) fun p hp => hr p (by simp [hp]))
    obtain ⟨es, clock, h2, h3⟩ := hJ _ _ _ (res_of (hr (3000, .res J) (by simp))).2
    have hkey : MapKept.IsKey (.int .i64) (.int .i64 n) := rfl
    refine ⟨.tuple #[vp, .bool ok], ?_, [vp, .bool ok], rfl, rfl, RepD.bool ok, trivial⟩
    rcases h3 with ⟨rfl, i, h3⟩ | ⟨rfl, rfl, h3⟩
    · simp [execOp, h0, h1, Instr.lookup, run_underlying ht, MapKept.run_getObj_map h2, MapKept.run_checkKey hk hkey, MapKept.run_findKey hk h3]
    · simp [execOp, h0, h1, Instr.lookup, run_underlying ht, MapKept.run_getObj_map h2, MapKept.run_checkKey hk hkey, MapKept.run_findKey hk h3, hz]
theorem RK.makeMap {l : List Oper} {U : List Nat} {Q : Exit → List Nat → St → Prop} {t : Nat} (hd : (Nat.blt d 1000 && Nat.blt d E.nt) = true)
    (h : ∀ rb, RK E all l U ((d, .raw (.map (some rb))) :: (3000, .res fun h Y w => Y rb ∧ (∀ o, h ⟨rb, o, none⟩ = none) ∧ w.heap[rb]? = some (.map #[] 0)) :: s) Q) : RK E all (⟨some d, .makeMap t none, ty, pos, after, none⟩ :: l) U s Q := by
  simp only [Bool.and_eq_true, Nat.blt_eq] at hd
  intro k hk a w hg
  rw [List.length_cons, List.range'_succ, wpOpsIn_cons]
  refine opIn_wpOpIn (by simpa using hk 0) ?_
  obtain ⟨c, hb, hh⟩ := hg
  have hw : Region.wanted (⟨some d, .makeMap t none, ty, pos, after, none⟩ : Oper) (yielded all a.tmps) = true := rfl
  unfold opIn
  rw [if_pos hw]
  refine ⟨fun _ _ => trivial, ?_⟩
  rw [Oper.semAt_eq _ _ _ fun cl he => by cases he]
  have hrun : (execOp a.eval ⟨some d, .makeMap t none, ty, pos, after, none⟩).run E.P w = .ok (.value (.map (some w.heap.size))) (w.alloc (.map #[] 0)) := rfl
  rw [hrun]
  have hB := below_alloc w (.map #[] 0)
  have hnone : ∀ o, c.h ⟨w.heap.size, o, none⟩ = none := fun o => by
    cases hh : c.h ⟨w.heap.size, o, none⟩ with
    | none => rfl
    | some v => have := block_lt_of_cell (hb.hw _ _ hh); simp at this
  have hp : PostJ c.h c.Y w c.h (fun b => c.Y b ∨ b = w.heap.size) (w.alloc (.map #[] 0)) := by
    refine ⟨⟨hB.os, hB.tape, hB.output, hB.size, fun k hk _ => hB.block k hk⟩, Mem.le_refl _, fun _ _ e => .inl e, fun p v e => ?_, fun b hy => ?_, fun b hy hlt => ?_⟩
    · have h1 := hb.hw p v e
      rw [hB.cell (block_lt_of_cell h1)]; exact h1
    · have hs : (w.alloc (.map #[] 0)).heap.size = w.heap.size + 1 := by show (w.heap.push _).size = _; rw [Array.size_push]
      rcases hy with hy | rfl
      · have := (hb.Y b hy).1; omega
      · omega
    · rcases hy with hy | rfl
      · exact hy
      · omega
  have hdt : d < a.tmps.size := by rw [hb.nt]; exact hd.2
  refine h w.heap.size (k + 1) (fun j => ?_) _ _ ⟨⟨c.h, c.loc, c.arr, fun b => c.Y b ∨ b = w.heap.size⟩, (hb.turn hp).put _ _, fun key u hu => ?_⟩
  · have := hk (j + 1)
    simp only [List.getElem?_cons_succ] at this
    rw [← this]
    congr 1
    omega
  · have hext : Ext c ⟨c.h, c.loc, c.arr, fun b => c.Y b ∨ b = w.heap.size⟩ := ⟨Mem.le_refl _, fun _ _ e => e, fun _ m hv lv e => ⟨m, hv, lv, e, Nat.le_refl _, fun _ => rfl⟩⟩
    simp only [look] at hu
    split at hu
    · rename_i e
      have := Nat.eq_of_beq_eq_true e
      cases hu
      subst this
      unfold Holds
      rw [if_pos hd.1, getD_put hdt]
      rfl
    · rename_i hne
      have hne' : d ≠ key := fun e => hne (by rw [e]; exact Nat.beq_refl _)
      split at hu
      · rename_i e
        have := Nat.eq_of_beq_eq_true e
        cases hu
        subst this
        refine Holds.mkRes ?_ ⟨.inr rfl, hnone, heap_alloc_new w _⟩
        intro h h' Y w w' ⟨q1, q2, q3⟩ hle hnew hw' hB2 hX
        refine ⟨q1, fun o => ?_, (hX _ q1).trans q3⟩
        cases hh : h' ⟨_, o, none⟩ with
        | none => rfl
        | some v =>
          rcases hnew _ _ hh with h5 | h5
          · rw [q2 o] at h5; cases h5
          · exact absurd q1 h5
      · rename_i hne3
        have hne3' : key ≠ 3000 := fun e => hne3 (by rw [e]; exact Nat.beq_refl _)
        have h0 := hh key u hu
        by_cases h1 : key < 1000
        · refine Holds.put ?_ hne' _
          unfold Holds at h0 ⊢
          rw [if_pos h1] at h0 ⊢
          exact h0.mono hext
        · exact (Holds.turn hb hp h1 hne3' h0).put hne' _
end
end Go.Ab
namespace Go.Ab
open Go.RowKit
def CtX (P : Program) (f : Nat) (args : List X) {ι : Type} (res : ι → X) (J : ι → Mem → (Nat → Prop) → World → Prop) : Prop :=
  ∀ (h : Mem) (w : World) (vs : List Value), (∀ p v, h p = some v → w.cell? p = some v) → All2 (RepV (pureC h)) args vs →
    Calls P f vs.toArray w fun en w' => ∃ q v h' Y', en = .returned v ∧ PostJ h (fun _ => False) w h' Y' w' ∧ RepT (pureC h') (res q) v ∧ J q h' Y' w'
def RetX (E : Env) (rs : List ResultVar) {ι : Type} (res : ι → X) (J : ι → Mem → (Nat → Prop) → World → Prop) : Exit → List Nat → St → Prop := fun e U s => ∃ q, RetQ E rs (res q) e U s ∧ look s 3000 = some (.res (J q))
theorem CtX.intro {P : Program} {f nt : Nat} {fn : Func} {code : Code} {rs : List ResultVar} {args : List X} {ι : Type} {res : ι → X} {J : ι → Mem → (Nat → Prop) → World → Prop} (hf : P.funcs[f]? = some fn) (hb : fn.body = some code) (hn : fn.ntmps = nt) (hr : fn.results = rs.toArray)
    (hl : Nat.ble args.length nt = true) (ht : args.all (fun x => !isTup x) = true) (hl2 : Nat.ble args.length 1000 = true)
    (h : ∀ w c, OK (mkE P nt [] w c) code (den (mkE P nt [] w c) (RetX (mkE P nt [] w c) rs res J) []) [] (argSt 0 args)) : CtX P f args res J := by
  intro h0 w vs hw hargs
  refine (callsIn_wide (n := 0)).1 (callsIn_of_wp_marks hf hb trivial ?_ rfl)
  have hlen := hargs.length
  rw [Nat.ble_eq] at hl hl2
  have hno : ∀ b, ¬ (pureC h0).out [] b := by
    rintro b (hy | ⟨k, _, e⟩ | ⟨k, m, hv, _, e, _⟩)
    · exact hy
    · cases e
    · cases e
  refine wpIn_mono (h w (pureC h0) { tmps := vs.toArray ++ Array.replicate (fn.ntmps - vs.toArray.size) undef, defers := [] } w ?_) ?_
  · refine ⟨pureC h0, ⟨BelX.refl _ _ _, Nat.le_refl _, ?_, ⟨.nil, fun d hd => by cases hd⟩, (fun p hp => by cases hp), hw, Mem.le_refl _, fun p v e => .inl e, (fun k b e => by cases e), (fun k m hv b e => by cases e), (fun _ _ => ⟨rfl, rfl⟩), (fun b e => e.elim), (fun k b _ e => by cases e), (fun k m hv lv _ e => by cases e)⟩, fun key x hx => slots_start hargs ht hl2 key x hx⟩
    simp [hn]; omega
  · rintro e a' w' ⟨U', s', ⟨c, hbase, hh⟩, q, ⟨he, ys, hys, hres⟩, hl3⟩
    have hE : (mkE P nt [] w (pureC h0)).B = w.heap.size := rfl
    have post : LeavesInM Fence.wide 0 P fn a'.tmps (fun en w' => ∃ q v h' Y', en = .returned v ∧ PostJ h0 (fun _ => False) w h' Y' w' ∧ RepT (pureC h') (res q) v ∧ J q h' Y' w') a'.defers .returning w' := by
      refine leaves_marks (B := w.heap.size) (Z := c.all) a'.defers w' hbase.dfr.1 ?_ ?_
      · intro d hd
        obtain ⟨D, h1, h2, h3, h4⟩ := hbase.dfr.2 d hd
        exact ⟨D, h1, h2, h3, h4⟩
      · intro w2 e1 e2 e3 e4 e5 e6
        obtain ⟨hbase, hh⟩ := hbase.calm hh e1 e2 e3 e4 rfl e5 e6
        obtain ⟨vs', h1, h2, h3⟩ := run_resSems hbase hh hys
        have hrun : (results fn a'.tmps).run P w2 = .ok (if h : vs'.toArray.size = 1 then vs'.toArray[0] else .tuple vs'.toArray) w2 := by
          have he : results fn a'.tmps = (fn.results.mapM (resSem a'.tmps) >>= fun vs => pure (if h : vs.size = 1 then vs[0] else .tuple vs)) := by
            unfold results
            congr 1
          have h1' : (rs.mapM (resSem a'.tmps)).run P w2 = .ok vs' w2 := h1
          rw [he, hr, Array.mapM_eq_mapM_toList]
          simp [h1']
        have hpg := PostG.of_base (s := s') (wr := [(3000, .res (J q))]) (res := res q) (v := if h : vs'.toArray.size = 1 then vs'.toArray[0] else .tuple vs'.toArray) hbase hE hh ⟨hl3, trivial⟩ rfl (by
          rw [← hres]
          have hl := h2.length
          match ys, vs', h2, h3, hl with
          | [y], [v], h2, h3, _ => exact V.toT h2.1 (h3 y (by simp))
          | [], [], h2, _, _ => exact ⟨[], rfl, trivial⟩
          | y1 :: y2 :: ys, v1 :: v2 :: vs, h2, _, _ => exact ⟨v1 :: v2 :: vs, by simp, h2⟩
          | [_], [], h2, _, _ => exact h2.elim
          | [], _ :: _, h2, _, _ => exact h2.elim
          | [_], _ :: _ :: _, h2, _, _ => exact h2.2.elim
          | _ :: _ :: _, [], h2, _, _ => exact h2.elim
          | _ :: _ :: _, [_], h2, _, _ => exact h2.2.elim) (fun b h => h.elim id fun ⟨p, hp, _⟩ => by cases hp)
        obtain ⟨_, hJ1⟩ := res_of (hpg.wr (3000, .res (J q)) (by simp) { tmps := #[], defers := [] })
        refine ⟨_, hrun, q, _, (c.pub [] ((mkE P nt [] w (pureC h0)).fin c w2)).h, (c.pub [] ((mkE P nt [] w (pureC h0)).fin c w2)).Y, rfl, ⟨hpg.below.mono (Nat.le_refl _) fun k _ hk => (hno k hk).elim, hpg.le, fun p v hp => (hpg.new p v hp).imp id fun q => ⟨q.1, fun hy => q.2 (.inl hy)⟩, hpg.ok.hw, fun b hy => (hpg.ok.Y b hy).1, fun b hy hlt => hno b (hpg.out b (.inl hy) hlt)⟩, ?_, hJ1⟩
        refine hpg.res.mono ⟨Mem.le_refl _, fun k b e => ?_, fun k m hv lv e => ?_⟩
        · have e2 := hpg.loc k b e; cases e2
        · obtain ⟨_, _, _, e2, _⟩ := hpg.arr k m hv lv e; cases e2
    rcases he with rfl | rfl
    · exact post
    · exact post
section
variable {E : Env} {all : Array Oper} {s r r1 r2 r3 rg : St} {d ty : Nat} {pos : String} {after : Array Edge} {x y z : Operand}
theorem RK.callX {l : List Oper} {U : List Nat} {Q : Exit → List Nat → St → Prop} {g : Nat} {os : List Operand} {at_ : Array TypeId} {ys : List X} {ι : Type} {res : ι → X} {J : ι → Mem → (Nat → Prop) → World → Prop} (hf : CtX E.P g ys res J) (hS : ∀ q, Stable (J q)) (hm : ∀ q h Y Y' w, J q h Y w → (∀ b, Y b → Y' b) → J q h Y' w)
    (hcall : ∀ args w, (callFunc g args).run E.P w = .ok (.enter g args) w) (hd : (Nat.blt d 1000 && Nat.blt d E.nt) = true) (ha : OpsS s os ys r) (ho : ys.all okArg = true)
    (h : ∀ q, RK E all l U ((d, res q) :: (3000, .res (J q)) :: s) Q) : RK E all (⟨some d, .call { callee := .value (.func g), args := os.toArray, argTypes := at_ }, ty, pos, after, none⟩ :: l) U s Q := by
  simp only [Bool.and_eq_true, Nat.blt_eq] at hd
  intro k hk a w hg
  rw [List.length_cons, List.range'_succ, wpOpsIn_cons]
  refine opIn_wpOpIn (by simpa using hk 0) ?_
  obtain ⟨c, hb, hh⟩ := hg
  have hw : Region.wanted (⟨some d, .call { callee := .value (.func g), args := os.toArray, argTypes := at_ }, ty, pos, after, none⟩ : Oper) (yielded all a.tmps) = true := rfl
  have hargs := args_clean (ha.rep (c := c) (a := a) (w := w) fun p hp => hh p.1 p.2 (ha.looks.all p hp)) ho
  unfold opIn
  rw [if_pos hw]
  refine ⟨fun _ _ => trivial, ?_⟩
  rw [Oper.semAt_eq _ _ _ fun cl he => by cases he]
  have hfo : a.eval (.func g) = .func (.func g) #[] #[] := rfl
  have hrun : (execOp a.eval ⟨some d, .call { callee := .value (.func g), args := os.toArray, argTypes := at_ }, ty, pos, after, none⟩).run E.P w = .ok (.enter g (os.map a.eval).toArray) w := by
    simp [execOp, resolve, hfo, Deferred.ofValue, invoke, hcall]
  rw [hrun]
  refine ⟨(fun h => by cases h), ?_⟩
  have h1 : CallsIn E.F (0 - 1) E.P g (os.map a.eval).toArray w _ := (callsIn_wide (n := 0)).2 (hf c.h w _ hb.hw hargs)
  refine h1.mono ?_
  rintro en w' ⟨q, v, h', Y', rfl, hp, hres, hJ⟩
  have hfr : ∀ b, Y' b → w.heap.size ≤ b := fun b hy => Nat.le_of_not_lt fun hlt => hp.out b hy hlt
  have hp2 : PostJ c.h c.Y w h' (fun b => c.Y b ∨ Y' b) w' := by
    refine ⟨hp.below.mono (Nat.le_refl _) fun _ _ e => e.elim, hp.le, fun p v hv => (hp.new p v hv).imp id fun e => ⟨e.1, ?_⟩, hp.hw, fun b hy => ?_, fun b hy hlt => ?_⟩
    · rintro (hy | hy)
      · have := (hb.Y _ hy).1; have := e.1; omega
      · exact e.2 hy
    · rcases hy with hy | hy
      · have := (hb.Y b hy).1; have := hp.below.size; omega
      · exact hp.lt b hy
    · rcases hy with hy | hy
      · exact hy
      · have := hfr b hy; omega
  have hext : Ext c ⟨h', c.loc, c.arr, fun b => c.Y b ∨ Y' b⟩ := ⟨hp.le, fun _ _ e => e, fun _ m hv lv e => ⟨m, hv, lv, e, Nat.le_refl _, fun _ => rfl⟩⟩
  have hdt : d < a.tmps.size := by rw [hb.nt]; exact hd.2
  refine h q (k + 1) (fun j => ?_) _ _ ⟨⟨h', c.loc, c.arr, fun b => c.Y b ∨ Y' b⟩, (hb.turn hp2).put _ _, fun key u hu => ?_⟩
  · have := hk (j + 1)
    simp only [List.getElem?_cons_succ] at this
    rw [← this]
    congr 1
    omega
  · simp only [look] at hu
    split at hu
    · rename_i e
      have := Nat.eq_of_beq_eq_true e
      cases hu
      subst this
      unfold Holds
      rw [if_pos hd.1, getD_put hdt]
      exact hres.mono (pure_ext (c := ⟨h', c.loc, c.arr, fun b => c.Y b ∨ Y' b⟩) rfl)
    · rename_i hne
      have hne' : d ≠ key := fun e => hne (by rw [e]; exact Nat.beq_refl _)
      split at hu
      · rename_i e
        have := Nat.eq_of_beq_eq_true e
        cases hu
        subst this
        exact (Holds.mkRes (c := ⟨h', c.loc, c.arr, fun b => c.Y b ∨ Y' b⟩) (a := a) (hS q) (hm q _ _ _ _ hJ fun b hy => .inr hy)).put (by show d ≠ 3000; omega) v
      · rename_i hne3
        have hne3' : key ≠ 3000 := fun e => hne3 (by rw [e]; exact Nat.beq_refl _)
        have h0 := hh key u hu
        by_cases h1 : key < 1000
        · refine Holds.put ?_ hne' _
          unfold Holds at h0 ⊢
          rw [if_pos h1] at h0 ⊢
          exact h0.mono hext
        · exact (Holds.turn hb hp2 h1 hne3' h0).put hne' _
end
theorem OK.lit {E : Env} {U : List Nat} {s : St} {code : Code} {Q : Exit → List Nat → St → Prop} {t : Nat} {b b' : Bool} (hl : look s t = some (.bool b)) (hb : b = b') (h : OK E code Q U ((t, .bool b') :: s)) : OK E code Q U s := fun a w hg => by
  subst hb
  obtain ⟨c, hbs, hh⟩ := hg
  refine h a w ⟨c, hbs, fun key x hx => ?_⟩
  simp only [look] at hx
  split at hx
  · rename_i e
    have := Nat.eq_of_beq_eq_true e
    cases hx
    subst this
    exact hh _ _ hl
  · exact hh key x hx
end Go.Ab
namespace Go.Ab
open Go.RowKit
def lookL {α : Type} : List (List UInt8 × α) → List UInt8 → Option α
  | [], _ => none
  | p :: l, k => if p.1 = k then some p.2 else lookL l k
def putL {α : Type} : List (List UInt8 × α) → List UInt8 → α → List (List UInt8 × α)
  | [], k, v => [(k, v)]
  | p :: l, k, v => if p.1 = k then (k, v) :: l else p :: putL l k v
def mapX (l : List (List UInt8 × X)) : List (X × X) := l.map fun p => (.str p.1, p.2)
abbrev MRel (h : Mem) : X × X → MapEntry → Prop := fun p m => RepD h p.1 m.key ∧ RepV (pureC h) p.2 m.val
theorem str_key {h : Mem} {s : List UInt8} {v : Value} (r : RepD h (.str s) v) : v = .string ⟨s.toArray⟩ := by cases r; rfl
theorem same_str (a b : List UInt8) : Instr.sameNow .string (.string ⟨a.toArray⟩) (.string ⟨b.toArray⟩) = some (decide (b = a)) := by
  have h : ((⟨a.toArray⟩ : ByteArray) == ⟨b.toArray⟩) = decide (b = a) := by
    rw [Bool.eq_iff_iff, MapKept.bytes_beq, decide_eq_true_iff]
    constructor
    · intro e
      have := congrArg (fun x : ByteArray => x.data.toList) e
      simpa using this.symm
    · rintro rfl; rfl
  simp only [Instr.sameNow, h]
theorem find_str {h : Mem} {k : List UInt8} : ∀ {l : List (List UInt8 × X)} {es : List MapEntry} (i : Nat), All2 (MRel h) (mapX l) es →
    (lookL l k = none ∧ Instr.findNow .string (.string ⟨k.toArray⟩) es i = some none ∧ (∀ m ∈ es, m.key ≠ .string ⟨k.toArray⟩) ∧ ∀ u, putL l k u = l ++ [(k, u)]) ∨
    ∃ j u m, lookL l k = some u ∧ Instr.findNow .string (.string ⟨k.toArray⟩) es i = some (some (i + j, m.val)) ∧ es[j]? = some m ∧ m.key = .string ⟨k.toArray⟩ ∧ RepV (pureC h) u m.val ∧ l[j]? = some (k, u) ∧ ∀ u', putL l k u' = l.set j (k, u')
  | [], [], i, _ => .inl ⟨rfl, rfl, (fun m hm => by cases hm), fun u => rfl⟩
  | p :: l, m :: es, i, hr => by
    obtain ⟨⟨h1, h2⟩, h3⟩ := hr
    have hk := str_key h1
    by_cases hp : p.1 = k
    · refine .inr ⟨0, p.2, m, by simp [lookL, hp], ?_, rfl, by rw [hk, hp], h2, by rw [← hp]; rfl, fun u' => by simp [putL, hp]⟩
      rw [Instr.findNow, hk, same_str, decide_eq_true hp]
      rfl
    · have hf : ∀ i, Instr.findNow .string (.string ⟨k.toArray⟩) (m :: es) i = Instr.findNow .string (.string ⟨k.toArray⟩) es (i + 1) := by
        intro i
        rw [Instr.findNow, hk, same_str, decide_eq_false hp]
      rcases find_str (k := k) (i + 1) h3 with ⟨q1, q2, q3, q4⟩ | ⟨j, u, m', q1, q2, q3, q4, q5, q6, q7⟩
      · refine .inl ⟨by simp [lookL, hp, q1], by rw [hf]; exact q2, fun m' hm => ?_, fun u => by simp [putL, hp, q4]⟩
        rcases List.mem_cons.1 hm with rfl | hm
        · rw [hk]
          intro e
          have := same_str k p.1
          rw [e] at this
          have h5 := same_str k k
          rw [decide_eq_true rfl] at h5
          rw [h5] at this
          simp at this
          exact hp this
        · exact q3 m' hm
      · refine .inr ⟨j + 1, u, m', by simp [lookL, hp, q1], by rw [hf, q2]; congr 3; omega, by simpa using q3, q4, q5, by simpa using q6, fun u' => by simp [putL, hp, q7]⟩
  | [], _ :: _, _, h => h.elim
  | _ :: _, [], _, h => h.elim
section
variable {E : Env} {U : List Nat} {c : Ctx} {a : Act} {w w' : World}
theorem Base.turnBox (hb : Base E U c a w) {k b : Nat} (h1 : c.loc k = some b) (e1 : w'.os = w.os) (e2 : w'.tape = w.tape) (e3 : w'.output = w.output) (e4 : w'.heap.size = w.heap.size) (e5 : ∀ j, j ≠ b → w'.heap[j]? = w.heap[j]?) :
    Base E U c a w' ∧ ∀ key y, ¬ key < 1000 → key ≠ 1000 + k → Holds c a w key y → Holds c a w' key y := by
  obtain ⟨q1, q2, q3, q4, q5⟩ := hb.loc k b h1
  have hall : c.all b := .inr (.inl ⟨k, h1⟩)
  have hw2 : ∀ p v, c.h p = some v → w'.cell? p = some v := by
    intro p v hp
    have h0 := hb.hw p v hp
    have hne : p.block ≠ b := fun e => by
      have h2 := adr_spot h0
      have h3 := q3 p.off
      rw [← e, ← h2, hp] at h3; cases h3
    rw [World.cell?_of_block (e5 _ hne)]
    exact h0
  refine ⟨⟨hb.below.trans ⟨e1, e2, e3, by omega, fun j hj hx => e5 j (Env.ok_turn q1 hj hx)⟩, by rw [e4]; exact hb.hB, hb.nt, ⟨hb.dfr.1, fun d hd => ?_⟩, fun p hp => ?_, hw2, hb.hle, hb.hnew, ?_, ?_, hb.used, ?_, hb.loc0, hb.arr0⟩, ?_⟩
  · obtain ⟨D, h2, h3, h4, h5⟩ := hb.dfr.2 d hd
    exact ⟨D, h2, h3, h4, (e5 D fun e => h4 (by rw [e]; exact hall)).trans h5⟩
  · obtain ⟨h2, h3, h4⟩ := hb.pin p hp
    exact ⟨h2, h3, (e5 _ fun e => h2 (by rw [e]; exact hall)).trans h4⟩
  · rw [e4]; exact hb.loc
  · rw [e4]; exact hb.arr
  · rw [e4]; exact hb.Y
  · intro key u hkey hne hu
    unfold Holds at hu ⊢
    rw [if_neg hkey] at hu ⊢
    refine or_snd hu fun hu => ?_
    split at hu
    · rename_i hlt
      rw [if_pos hlt]
      obtain ⟨b2, o2, f1, f2, f3⟩ := hu
      refine ⟨b2, o2, f1, (e5 b2 fun e => ?_).trans f2, f3⟩
      subst e
      have := q4 _ f1
      omega
    · rename_i hlt
      rw [if_neg hlt]
      split at hu
      · rename_i hlt2
        rw [if_pos hlt2]
        obtain ⟨sz, rows, hv2, e, vs2, hx, f1, f2, f3⟩ := hu
        refine ⟨sz, rows, hv2, e, vs2, hx, f1, ⟨f2.1, f2.2.imp id ?_⟩, f3⟩
        rintro ⟨g, cap, cur, p1, p2, p3, p4⟩
        exact ⟨g, cap, cur, p1, p2, (e5 g fun e => q5 _ _ _ f1 (by rw [p1, ← e]; rfl)).trans p3, p4⟩
      · rename_i hlt2
        rw [if_neg hlt2]
        obtain ⟨hk0, J, hx0, hJ, hJ2⟩ := hu
        exact ⟨hk0, J, hx0, hJ, hJ _ _ _ _ _ hJ2 (Mem.le_refl _) (fun _ _ e => .inl e) hw2 ⟨e1, e2, e3, by omega, fun j hj => by omega⟩ fun b2 hy => e5 b2 fun e => by subst e; exact (hb.Y _ hy).2.2.1 k h1⟩
end
section
variable {E : Env} {all : Array Oper} {s r r1 r2 r3 rg : St} {d ty : Nat} {pos : String} {after : Array Edge} {guard : Option (Nat × Bool)} {x y z : Operand}
theorem omap_of {c : Ctx} {a : Act} {w : World} {k : Nat} {es : List (X × X)} (h : Holds c a w (1000 + k) (.omap es)) (hk : k < 1000) :
    ∃ b mes clock, c.loc k = some b ∧ w.heap[b]? = some (.map mes clock) ∧ MapKept.Stamped mes clock ∧ All2 (MRel c.h) es mes.toList := by
  unfold Holds at h
  rw [if_neg (by omega), if_pos (by omega), Nat.add_sub_cancel_left] at h
  rcases h with h | ⟨b, o, h1, h2, mes, clock, rfl, h3, h4⟩
  · cases h
  · exact ⟨b, mes, clock, h1, h2, h3, h4⟩
theorem Holds.mkMap {c : Ctx} {a : Act} {w : World} {k b clock : Nat} {mes : Array MapEntry} {es : List (X × X)} (hk : k < 1000) (h1 : c.loc k = some b) (h2 : w.heap[b]? = some (.map mes clock)) (h3 : MapKept.Stamped mes clock) (h4 : All2 (MRel c.h) es mes.toList) :
    ¬ (1000 + k < 1000) ∧ Holds c a w (1000 + k) (.omap es) := by
  refine ⟨by omega, ?_⟩
  unfold Holds
  rw [if_neg (by omega), if_pos (by omega), Nat.add_sub_cancel_left]
  exact .inr ⟨b, _, h1, h2, mes, clock, rfl, h3, h4⟩
theorem mptr_of {c : Ctx} {k : Nat} {v : Value} (h : RepT c (.mptr k) v) : ∃ b, c.loc k = some b ∧ v = .map (some b) := h
theorem S.makeMapO {t k : Nat} (hk : Nat.blt k 1000 = true) (hg : Gd all s guard rg) (hd : (Nat.blt d 1000 && Nat.blt d E.nt) = true) (hk9 : E.fs.contains k = false := by rfl) :
    St1 E all ⟨some d, .makeMap t none, ty, pos, after, guard⟩ s (rg ++ []) ((d, .mptr k) :: [(1000 + k, .omap [])]) [k] :=
  St1.mk hg hd rfl trivial fun U c a w hb _ hal => by
    rw [Nat.blt_eq] at hk
    have hkU : k ∉ U := hal k (by simp)
    obtain ⟨g1, g2, g3, g4, g5⟩ := hb.boxO (nfs hk9) hkU (.map #[] 0)
    refine ⟨.map (some w.heap.size), _, w.alloc (.map #[] 0), rfl, g1, g2, ⟨w.heap.size, g3, rfl⟩, ?_, ?_⟩
    · intro p hp
      simp only [List.mem_singleton] at hp
      subst hp
      exact Holds.mkMap (by omega) g3 g4 (MapKept.stamped_empty 0) trivial
    · intro key u hkey _ hu
      exact g5 key u hkey hu
theorem S.lookupO {t kt e k : Nat} {key : List UInt8} {l : List (List UInt8 × X)} {es : List (X × X)} {zv : Value} {zx : X} (ht : E.P.underlying t = some (.map kt e)) (hk : E.P.underlying kt = some .string) (hz : ∀ w, (zeroValue e).run E.P w = .ok zv w) (hzx : ∀ c, RepV c zx zv) (hg : Gd all s guard rg) (hd : (Nat.blt d 1000 && Nat.blt d E.nt) = true)
    (hx : OpS s x (.mptr k) r1) (hy : OpS s y (.str key) r2) (hl : look s (1000 + k) = some (.omap es)) (hes : es = mapX l) (hk1 : Nat.blt k 1000 = true := by rfl) :
    St1 E all ⟨some d, .lookup t x y true, ty, pos, after, guard⟩ s (rg ++ (r1 ++ (r2 ++ [(1000 + k, .omap es)]))) [(d, .tup [(lookL l key).getD zx, .bool (lookL l key).isSome])] [] :=
  St1.val hg hd rfl (hx.looks.app (hy.looks.app ⟨hl, trivial⟩)) fun c A w _ hr => by
    subst hes
    rw [Nat.blt_eq] at hk1
    obtain ⟨b, h1, h0⟩ := mptr_of (hx.rep (c := c) (a := A) (w := w) fun p hp => hr p (by simp [hp]))
    obtain ⟨b', mes, clock, h2, h3, _, h4⟩ := omap_of (hr (1000 + k, .omap (mapX l)) (by simp)) hk1
    rw [h1] at h2
    cases h2
    obtain ⟨h5, _⟩ := str_of (hy.rep (c := c) (a := A) (w := w) fun p hp => hr p (by simp [hp]))
    have hkey : MapKept.IsKey .string (.string ⟨key.toArray⟩) := trivial
    rcases find_str (k := key) 0 h4 with ⟨q1, q2, _⟩ | ⟨j, u, m, q1, q2, _, _, q5, _⟩
    · rw [q1]
      refine ⟨.tuple #[zv, .bool false], ?_, [zv, .bool false], rfl, hzx c, RepD.bool false, trivial⟩
      simp [execOp, h0, h5, Instr.lookup, run_underlying ht, MapKept.run_getObj_map h3, MapKept.run_checkKey hk hkey, MapKept.run_findKey hk q2, hz]
    · rw [q1]
      refine ⟨.tuple #[m.val, .bool true], ?_, [m.val, .bool true], rfl, q5.mono (pure_ext rfl), RepD.bool true, trivial⟩
      simp [execOp, h0, h5, Instr.lookup, run_underlying ht, MapKept.run_getObj_map h3, MapKept.run_checkKey hk hkey, MapKept.run_findKey hk q2]
theorem map_put {h : Mem} {key : List UInt8} {u : X} {v : Value} {l : List (List UInt8 × X)} {mes : Array MapEntry} {clock : Nat} (hs : MapKept.Stamped mes clock) (hr : All2 (MRel h) (mapX l) mes.toList) (hk : RepD h (.str key) (.string ⟨key.toArray⟩)) (hv : RepV (pureC h) u v) :
    (Instr.findNow .string (.string ⟨key.toArray⟩) mes.toList 0 = some none ∧ MapKept.Stamped (mes.push ⟨.string ⟨key.toArray⟩, v, clock⟩) (clock + 1) ∧ All2 (MRel h) (mapX (putL l key u)) (mes.push ⟨.string ⟨key.toArray⟩, v, clock⟩).toList) ∨
    ∃ j m, Instr.findNow .string (.string ⟨key.toArray⟩) mes.toList 0 = some (some (j, m.val)) ∧ mes[j]? = some m ∧ m.key = .string ⟨key.toArray⟩ ∧ MapKept.Stamped (mes.modify j fun e => { e with key := .string ⟨key.toArray⟩, val := v }) clock ∧
      All2 (MRel h) (mapX (putL l key u)) (mes.modify j fun e => { e with key := .string ⟨key.toArray⟩, val := v }).toList := by
  rcases find_str (k := key) 0 hr with ⟨q1, q2, q3, q4⟩ | ⟨j, u0, m, q1, q2, q3, q4, q5, q6, q7⟩
  · refine .inl ⟨q2, MapKept.stamped_push hs q3, ?_⟩
    rw [q4, Array.toList_push]
    simp only [mapX, List.map_append, List.map_cons, List.map_nil]
    exact hr.append ⟨⟨hk, hv⟩, trivial⟩
  · rw [Nat.zero_add] at q2
    have q3' : mes[j]? = some m := by simpa using q3
    refine .inr ⟨j, m, q2, q3', q4, MapKept.stamped_modify hs j _ (fun _ _ => rfl) (fun e _ he => by rw [q3'] at he; cases he; exact q4.symm), ?_⟩
    rw [q7]
    have hlen := hr.length
    refine All2.of_get (by simpa [mapX] using hlen) fun i p m' hp hm => ?_
    simp only [mapX, List.getElem?_map, List.getElem?_set] at hp
    rw [Array.getElem?_toList, Array.getElem?_modify] at hm
    by_cases hij : j = i
    · subst hij
      rw [if_pos rfl, q3'] at hm
      have hlt : j < l.length := (List.getElem?_eq_some_iff.1 q6).1
      simp [hlt] at hp
      simp at hm
      subst hp
      subst hm
      exact ⟨hk, hv⟩
    · rw [if_neg hij] at hm
      rw [if_neg hij] at hp
      exact hr.get (i := i) (by simpa [mapX] using hp) (by simpa using hm)
theorem S.mapSetO {t kt e k : Nat} {key : List UInt8} {u : X} {l : List (List UInt8 × X)} {es es' : List (X × X)} (ht : E.P.underlying t = some (.map kt e)) (hk : E.P.underlying kt = some .string) (hg : Gd all s guard rg)
    (hx : OpS s x (.mptr k) r1) (hy : OpS s y (.str key) r2) (hz : OpS s z u r3) (hu : okArg u = true) (hl : look s (1000 + k) = some (.omap es)) (hes : es = mapX l) (hes' : mapX (putL l key u) = es') (hk1 : Nat.blt k 1000 = true := by rfl) :
    St1 E all ⟨none, .mapUpdate t x y z, ty, pos, after, guard⟩ s (rg ++ (r1 ++ (r2 ++ (r3 ++ [(1000 + k, .omap es)])))) [(1000 + k, .omap es')] [] :=
  St1.eff hg rfl (hx.looks.app (hy.looks.app (hz.looks.app ⟨hl, trivial⟩))) fun U c a w hb hr => by
    subst hes
    subst hes'
    rw [Nat.blt_eq] at hk1
    obtain ⟨b, h1, h0⟩ := mptr_of (hx.rep (c := c) (a := a) (w := w) fun p hp => hr p (by simp [hp]))
    obtain ⟨b', mes, clock, h2, h3, hs, h4⟩ := omap_of (hr (1000 + k, .omap (mapX l)) (by simp)) hk1
    rw [h1] at h2
    cases h2
    have hyr := hy.rep (c := c) (a := a) (w := w) fun p hp => hr p (by simp [hp])
    obtain ⟨h5, _⟩ := str_of hyr
    have hkD : RepD c.h (.str key) (.string ⟨key.toArray⟩) := h5 ▸ hyr
    have hzr := hz.rep (c := c) (a := a) (w := w) fun p hp => hr p (by simp [hp])
    have hv : RepV (pureC c.h) u (a.eval z) := (args_clean (ys := [u]) (vs := [a.eval z]) ⟨hzr, trivial⟩ (by simp [hu])).1
    have hkey : MapKept.IsKey .string (.string ⟨key.toArray⟩) := trivial
    rcases map_put hs h4 hkD hv with ⟨q2, q3, q4⟩ | ⟨j, m, q2, q3, q5, q6, q7⟩
    · obtain ⟨p1, p2⟩ := hb.turnBox (w' := { w with heap := w.heap.setIfInBounds b (.map (mes.push ⟨.string ⟨key.toArray⟩, a.eval z, clock⟩) (clock + 1)) }) h1 rfl rfl rfl (by simp) fun j hj => (MapKept.heap_set h3).2 j hj
      refine ⟨_, ?_, p1, ?_, fun key' y hkey hne hy => p2 key' y hkey (fun e => hne _ (List.mem_singleton.2 rfl) e.symm) hy⟩
      · simp [execOp, h0, h5, Instr.mapUpdate, run_underlying ht, MapKept.run_getObj_map h3, MapKept.run_checkKey hk hkey, MapKept.run_findKey hk q2, MapKept.run_setObj_map _ h3]
      · intro p hp
        simp only [List.mem_singleton] at hp
        subst hp
        exact Holds.mkMap hk1 h1 (MapKept.heap_set h3).1 q3 q4
    · obtain ⟨p1, p2⟩ := hb.turnBox (w' := { w with heap := w.heap.setIfInBounds b (.map (mes.modify j fun e => { e with key := .string ⟨key.toArray⟩, val := a.eval z }) clock) }) h1 rfl rfl rfl (by simp) fun j hj => (MapKept.heap_set h3).2 j hj
      refine ⟨_, ?_, p1, ?_, fun key' y hkey hne hy => p2 key' y hkey (fun e => hne _ (List.mem_singleton.2 rfl) e.symm) hy⟩
      · simp [execOp, h0, h5, Instr.mapUpdate, run_underlying ht, MapKept.run_getObj_map h3, MapKept.run_checkKey hk hkey, MapKept.run_findKey hk q2, q3, q5, MapKept.run_keyThatStays hkey, MapKept.run_setObj_map _ h3]
      · intro p hp
        simp only [List.mem_singleton] at hp
        subst hp
        exact Holds.mkMap hk1 h1 (MapKept.heap_set h3).1 q6 q7
end
end Go.Ab
namespace Go.Ab
open Go.RowKit
theorem arrn_of {c : Ctx} {a : Act} {w : World} {k sz : Nat} {pre post : List (List X)} {mid : List X} (h : Holds c a w (2000 + k) (.arrn sz pre mid post)) :
    k < 1000 ∧ ∃ hv e vs, c.arr k = some (pre.length + (post.length + 1), hv, true) ∧ w.ownsRow 0 e sz hv (pre.length + (post.length + 1)) vs ∧ (∀ r ∈ pre ++ mid :: post, r.length = sz) ∧ ∃ v1 v2 v3, vs = v1 ++ (v2 ++ v3) ∧ All2 (RepD c.h) pre.flatten v1 ∧ All2 (RepC c) mid v2 ∧ All2 (RepD c.h) post.flatten v3 := by
  unfold Holds at h
  by_cases hk : k < 1000
  case neg =>
    rw [if_neg (by omega), if_neg (by omega), if_neg (by omega)] at h
    rcases h with h | ⟨_, J, hJ, _⟩
    · cases h
    · cases hJ
  rw [if_neg (by omega), if_neg (by omega), if_pos (by omega), Nat.add_sub_cancel_left] at h
  rcases h with h | ⟨sz', rows', hv, e, vs, ⟨rfl, rfl, h4⟩, h1, h2, h3⟩
  · cases h
  · rw [List.length_append, List.length_cons] at h1 h2
    exact ⟨hk, hv, e, vs, h1, h2, h3, h4⟩
theorem Holds.mkArrn {c : Ctx} {a : Act} {w : World} {k sz e n : Nat} {hv : Value} {vs v1 v2 v3 : List Value} {pre post : List (List X)} {mid : List X} (hk : k < 1000) (hn : pre.length + (post.length + 1) = n) (h1 : c.arr k = some (n, hv, true)) (h2 : w.ownsRow 0 e sz hv n vs)
    (h3 : ∀ q ∈ pre ++ mid :: post, q.length = sz) (h4 : vs = v1 ++ (v2 ++ v3)) (h5 : All2 (RepD c.h) pre.flatten v1) (h6 : All2 (RepC c) mid v2) (h7 : All2 (RepD c.h) post.flatten v3) : ¬ (2000 + k < 1000) ∧ Holds c a w (2000 + k) (.arrn sz pre mid post) := by
  subst hn
  refine ⟨by omega, ?_⟩
  unfold Holds
  rw [if_neg (by omega), if_neg (by omega), if_pos (by omega), Nat.add_sub_cancel_left]
  refine .inr ⟨sz, _, hv, e, vs, ⟨rfl, rfl, v1, v2, v3, h4, h5, h6, h7⟩, ?_, ?_, h3⟩
  · rw [List.length_append, List.length_cons]; exact h1
  · rw [List.length_append, List.length_cons]; exact h2
section
variable {E : Env} {all : Array Oper} {s r r1 r2 r3 rg : St} {d ty : Nat} {pos : String} {after : Array Edge} {guard : Option (Nat × Bool)} {x y z : Operand}
theorem S.mkSliceN {t e sz bytes k : Nat} {ps : List (Nat × Operand)} {us : List X} {mid : List X} (hA : ApI E.P t e sz bytes) (hg : Gd all s guard rg) (hd : (Nat.blt d 1000 && Nat.blt d E.nt) = true)
    (hx : OpsS s (ps.map (·.2)) us r) (hu : us.all okSt = true) (_hrows : us.map cellsX = [mid]) (hf : fillX (fun i => some (i * sz, sz)) (List.replicate (1 * sz) .any) ((ps.map (·.1)).zip us) = some mid)
    (hr : Nat.beq mid.length sz = true) (hbig : Nat.ble (1 * sz) 16777216 = true) (hk9 : E.fs.contains k = false := by rfl) (hk1 : Nat.blt k 1000 = true := by rfl) :
    St1 E all ⟨some d, .buildSlice t 1 ps.toArray, ty, pos, after, guard⟩ s (rg ++ r) ((d, .own k 1) :: [(2000 + k, .arrn sz [] mid [])]) [k] :=
  St1.mk hg hd rfl hx.looks fun U c a w hb hrr hal => by
    clear _hrows
    rw [Nat.ble_eq] at hbig
    rw [Nat.blt_eq] at hk1
    have hkU : k ∉ U := hal k (by simp)
    have hrow := Nat.eq_of_beq_eq_true hr
    obtain ⟨hsz, zv, hz, hzs⟩ := hA.run
    have hbase : ∀ (q : Array Value), q.size = 1 * sz → All2 (RepC c) (List.replicate (1 * sz) .any) q.toList := fun q hq => All2.of_get (by simp [hq]) fun i u v hu _ => by
      simp only [List.getElem?_replicate] at hu
      split at hu
      · cases hu; exact trivial
      · cases hu
    obtain ⟨cells, h1, h2⟩ := fill_rep (c := c) (fun i => some (i * sz, sz)) _ _ _ (((Array.range (1 * sz)).map fun i => (if 1 * sz = 0 then #[] else zv.cells)[i % (if 1 * sz = 0 then #[] else zv.cells).size]!)) mid (hbase _ (by simp)) (parts_rep (hx.rep (c := c) (a := a) (w := w) hrr) hu) hf
    have hcs : cells.size = 1 * sz := by have := h2.length; rw [hrow] at this; simpa using this.symm
    have hB := below_alloc w (.cells cells e)
    obtain ⟨g1, g2, g3, g4⟩ := hb.ownNew (nfs hk9) hkU (n := 1) (v := .slice (some ⟨w.heap.size, 0, none⟩) 1 1) hB (.inr ⟨rfl, by simp⟩)
    have hp := hA.pos
    refine ⟨.slice (some ⟨w.heap.size, 0, none⟩) 1 1, _, w.alloc (.cells cells e), ?_, g1, g2, ⟨⟨_, _, _, rfl⟩, 1, _, _, g3, Nat.le_refl _, fun _ => rfl⟩, ?_, fun key u hkey _ hu => g4 key u hkey hu⟩
    · have hnb : ¬ (1 * sz > 2 ^ 24) := by omega
      simp only [execOp, Instr.buildSlice, Sem.run_bind, run_underlying hA.und, Result.andThen_ok, hsz, hnb, if_false]
      have h0 : ¬ (1 * sz = 0) := by omega
      simp only [h0, if_false] at h1
      have h0' : ¬ sz = 0 := by omega
      simp at h1
      simp [hz, h0', h1, newRow]
    · intro p hp2
      simp only [List.mem_singleton] at hp2
      subst hp2
      refine Holds.mkArrn (e := e) (n := 1) (vs := cells.toList) (v1 := []) (v2 := cells.toList) (v3 := []) (pre := []) (post := []) (by omega) rfl g3 ⟨by simp [hcs], .inr ⟨w.heap.size, 1, cells, rfl, Nat.zero_le _, heap_alloc_new w _, Nat.le_refl _, by unfold maxLen; omega, hcs, ?_⟩⟩ ?_ (by simp) trivial (h2.mono fun _ _ => RepC.mono g2) trivial
      · rw [List.take_of_length_le (by simp [hcs])]
      · intro q hq
        simp only [List.nil_append, List.mem_singleton] at hq
        subst hq
        exact hrow
theorem S.appendNN {t e sz bytes k n j : Nat} {rows : List (List X)} {mid : List X} (hA : ApI E.P t e sz bytes) (hg : Gd all s guard rg) (hd : (Nat.blt d 1000 && Nat.blt d E.nt) = true)
    (hx : OpS s x (.own k n) r1) (hl : look s (2000 + k) = some (.arr sz rows)) (hn : rows.length = n) (hy : OpS s y (.own j 1) r2) (hl2 : look s (2000 + j) = some (.arrn sz [] mid [])) (ho : mid.all okSt1 = true) (hbd : (n + 1) * bytes ≤ 140737488355328) (hbm : n + 1 ≤ maxLen) :
    St1 E all ⟨some d, .call { callee := .builtin .append, args := #[x, y], argTypes := #[t, t] }, ty, pos, after, guard⟩ s (rg ++ (r1 ++ ([(2000 + k, .arr sz rows)] ++ (r2 ++ [(2000 + j, .arrn sz [] mid [])])))) ((d, .own k (n + 1)) :: [(2000 + k, .arrn sz rows mid [])]) [] :=
  St1.mk hg hd rfl (hx.looks.app (Looks.app (r := [(2000 + k, .arr sz rows)]) ⟨hl, trivial⟩ (hy.looks.app ⟨hl2, trivial⟩))) fun U c a w hb hr _ => by
    subst hn
    obtain ⟨hv0, m0, hv, lv, e1, e2, e3⟩ := own_of (hx.rep (c := c) (a := a) (w := w) fun p hp => hr p (by simp [hp]))
    obtain ⟨v, e', vs, g1, g2, g3, g4⟩ := arr_of (hr (2000 + k, .arr sz rows) (by simp))
    rw [e1] at g1
    cases g1
    obtain ⟨_, m0', hv', lv', f1, f2, f3⟩ := own_of (hy.rep (c := c) (a := a) (w := w) fun p hp => hr p (by simp [hp]))
    obtain ⟨_, v', e'', vs', p1, p2, p3, v1, v2, v3, p4, p5, p6, p7⟩ := arrn_of (hr (2000 + j, .arrn sz [] mid []) (by simp))
    simp only [List.length_nil, Nat.zero_add] at p1 p2
    rw [p1] at f1
    cases f1
    have hyv := f3 rfl
    have hv1 : v1 = [] := All2.nil_left p5
    have hv3 : v3 = [] := All2.nil_left p7
    subst hv1
    subst hv3
    rw [List.nil_append, List.append_nil] at p4
    subst p4
    obtain ⟨i, zv, i1, i2, i3, i4, i5⟩ := hA.ex
    have hmid : mid.length = sz := p3 mid (by simp)
    have hfl2 : vs'.length = 1 * sz := by rw [← p6.length, hmid, Nat.one_mul]
    have hev := e3 rfl
    have hone : ∀ q ∈ vs', q.oneCell' = true := by
      clear hfl2 p2 hyv p3 hmid hl2 hr
      induction mid generalizing vs' with
      | nil => intro q hq; rw [All2.nil_left p6] at hq; cases hq
      | cons u us ih =>
        obtain ⟨v0, vs0, rfl, h1, h2⟩ := p6.cons_left
        simp only [List.all_cons, Bool.and_eq_true] at ho
        intro q hq
        rcases List.mem_cons.1 hq with rfl | hq
        · exact oneCell_of h1 ho.1
        · exact ih ho.2 _ h2 q hq
    obtain ⟨vr, w', e1', q1, q2, q3, q4, q5, q6⟩ := run_append_src (P := E.P) w 0 t t ty e e' (.slice e) i zv sz bytes hA.und hA.und srcD_sl i1 i2 i3 i4 i5 _ rows.length vs g2 (a.eval y) 1 vs' (by
        intro w2
        rw [hyv]
        rcases p2.2 with ⟨rfl, h0⟩ | ⟨g, cap, cur, rfl, _⟩
        · cases h0
        · simp [Builtin.lenOf]) hfl2 (by
        intro w' hw'
        rw [hyv]
        rcases p2.2 with ⟨rfl, h0⟩ | ⟨g, cap, cur, rfl, h1, h2, h3, h4, h5, h6⟩
        · cases h0
        · exact run_firstCells_some w' sz 1 ⟨g, 0, none⟩ 1 cap vs' p2.1 fun i u hu => by rw [hw']; exact p2.cells (g := g) rfl i u hu) hone hbm hbd (Nat.zero_le _)
    obtain ⟨t1, t2, t3, t4⟩ := hb.append (n' := rows.length + 1) (v' := vr) e1 q3 (by omega) (fun h => by omega) q4 (not_dfr g2)
    refine ⟨vr, _, w', ?_, t1, t2, ⟨q6, _, _, _, t3, Nat.le_refl _, fun _ => rfl⟩, ?_, fun key y hkey hne hy => t4 key y hkey (fun e => hne _ (List.mem_singleton.2 rfl) e.symm) hy⟩
    · simp only [execOp, resolve, invoke, builtin, Sem.run_bind, Sem.run_pure, Result.andThen_ok, List.map_toArray, List.map_cons, List.map_nil, hev, q1]
    · intro p hp
      simp only [List.mem_singleton] at hp
      subst hp
      refine Holds.mkArrn (e := e1') (n := rows.length + 1) (v1 := vs) (v2 := vs') (v3 := []) (pre := rows) (post := []) (arr_lt (hr (2000 + k, .arr sz rows) (by simp))) rfl t3 q2 (fun q hq => ?_) (by simp) (g4.mono fun _ _ => RepD.mono t2.h) (p6.mono fun _ _ => RepC.mono t2) trivial
      rcases List.mem_append.1 hq with h | h
      · exact g3 q h
      · simp only [List.mem_singleton] at h; subst h; exact hmid
theorem S.lenN {t e sz k n w2 : Nat} {pre post : List (List X)} {mid : List X} (hs : SlI E.P t e sz) (hg : Gd all s guard rg) (hd : (Nat.blt d 1000 && Nat.blt d E.nt) = true) (hx : OpS s x (.own k n) r) (hl : look s (2000 + k) = some (.arrn w2 pre mid post)) (hn : pre.length + (post.length + 1) = n) :
    St1 E all ⟨some d, .call { callee := .builtin .len, args := #[x], argTypes := #[t] }, ty, pos, after, guard⟩ s (rg ++ (r ++ [(2000 + k, .arrn w2 pre mid post)])) [(d, .int .i64 n)] [] :=
  St1.val hg hd rfl (hx.looks.app ⟨hl, trivial⟩) fun c A w hh hr => by
    subst hn
    obtain ⟨_, m, hv, lv, e1, e2, e3⟩ := hx.rep (c := c) (a := A) (w := w) fun p hp => hr p (by simp [hp])
    obtain ⟨_, hv', e', vs, f1, f2, f3, f4⟩ := arrn_of (hr (2000 + k, .arrn w2 pre mid post) (by simp))
    rw [f1] at e1; cases e1
    have hev := e3 rfl
    rcases f2.2 with ⟨rfl, h0⟩ | ⟨g, cap, cur, rfl, _, _, h5, h6, _⟩
    · omega
    · refine ⟨.int .i64 (pre.length + (post.length + 1) : Nat), ?_, RepD.toT (.int (wrap_len (Nat.le_trans h5 h6)))⟩
      simp [execOp, resolve, invoke, builtin, hev, Builtin.len_, run_underlying hs.und, goInt]
theorem S.oindexN {t e sz k n i : Nat} {j : Int} {pre post : List (List X)} {mid : List X} (hs : SlI E.P t e sz) (hg : Gd all s guard rg) (hd : (Nat.blt d 1000 && Nat.blt d E.nt) = true) (hx : OpS s x (.own k n) r1) (hl : look s (2000 + k) = some (.arrn sz pre mid post)) (hn : pre.length + (post.length + 1) = n)
    (hy : OpS s y (.int .i64 j) r2) (hj : j = i) (hi : i < n) : St1 E all ⟨some d, .indexAddr t x y, ty, pos, after, guard⟩ s (rg ++ (r1 ++ (r2 ++ [(2000 + k, .arrn sz pre mid post)]))) [(d, .optr k n (i * sz))] [] :=
  St1.val hg hd rfl (hx.looks.app (hy.looks.app ⟨hl, trivial⟩)) fun c A w hh hr => by
    subst hn
    subst hj
    obtain ⟨_, m, hv, lv, e1, e2, e3⟩ := own_of (hx.rep (c := c) (a := A) (w := w) fun p hp => hr p (by simp [hp]))
    obtain ⟨hw, _⟩ := int_of (hy.rep (c := c) (a := A) (w := w) fun p hp => hr p (by simp [hp]))
    obtain ⟨_, v, e', vs, g1, g2, g3, g4⟩ := arrn_of (hr (2000 + k, .arrn sz pre mid post) (by simp))
    rw [e1] at g1
    cases g1
    have hev := e3 rfl
    rcases g2.2 with ⟨_, h0⟩ | ⟨g, cap, cur, rfl, _⟩
    · omega
    · refine ⟨.pointer (some ⟨g, i * sz, none⟩), ?_, _, _, _, e1, Nat.le_refl _, fun _ => ⟨g, _, cap, rfl, rfl⟩⟩
      simp [execOp, hev, hw, Instr.indexAt, asIntOf, run_underlying hs.und, hs.size, add_off]
      intro h1
      omega
theorem S.nilCheckN {k n off sz : Nat} {pre post : List (List X)} {mid : List X} (hg : Gd all s guard rg) (hd : (Nat.blt d 1000 && Nat.blt d E.nt) = true) (hx : OpS s x (.optr k n off) r) (hl : look s (2000 + k) = some (.arrn sz pre mid post)) (hn : pre.length + (post.length + 1) = n) :
    St1 E all ⟨some d, .nilCheck x, ty, pos, after, guard⟩ s (rg ++ (r ++ [(2000 + k, .arrn sz pre mid post)])) [(d, .optr k n off)] [] :=
  St1.val hg hd rfl (hx.looks.app ⟨hl, trivial⟩) fun c A w hh hr => by
    subst hn
    have h0 := hx.rep (c := c) (a := A) (w := w) fun p hp => hr p (by simp [hp])
    obtain ⟨m, hv, lv, e1, e2, e3⟩ := optr_of h0
    obtain ⟨_, v, e', vs, g1, g2, g3, g4⟩ := arrn_of (hr (2000 + k, .arrn sz pre mid post) (by simp))
    rw [e1] at g1
    cases g1
    obtain ⟨b, l, cp, _, hp⟩ := e3 rfl
    refine ⟨A.eval x, ?_, h0⟩
    simp only [execOp, hp]
    rfl
theorem S.ofieldN {T f o k n off sz : Nat} {pre post : List (List X)} {mid : List X} (hf : FiI E.P T f o) (hg : Gd all s guard rg) (hd : (Nat.blt d 1000 && Nat.blt d E.nt) = true) (hx : OpS s x (.optr k n off) r) (hl : look s (2000 + k) = some (.arrn sz pre mid post)) (hn : pre.length + (post.length + 1) = n) :
    St1 E all ⟨some d, .fieldAddr T x f, ty, pos, after, guard⟩ s (rg ++ (r ++ [(2000 + k, .arrn sz pre mid post)])) [(d, .optr k n (off + o))] [] :=
  St1.val hg hd rfl (hx.looks.app ⟨hl, trivial⟩) fun c A w hh hr => by
    subst hn
    obtain ⟨m, hv, lv, e1, e2, e3⟩ := optr_of (hx.rep (c := c) (a := A) (w := w) fun p hp => hr p (by simp [hp]))
    obtain ⟨_, v, e', vs, g1, g2, g3, g4⟩ := arrn_of (hr (2000 + k, .arrn sz pre mid post) (by simp))
    rw [e1] at g1
    cases g1
    obtain ⟨b, l, cp, rfl, hp⟩ := e3 rfl
    refine ⟨.pointer (some ⟨b, off + o, none⟩), ?_, _, _, _, e1, Nat.le_refl _, fun _ => ⟨b, l, cp, rfl, rfl⟩⟩
    simp only [execOp, hp]
    rw [Sem.run_bind, run_fieldAt hf]
    rfl
theorem S.oloadN1 {T k n off i sz tsz : Nat} {u : X} {pre post : List (List X)} {mid : List X} (ht : TyI E.P T false tsz) (hg : Gd all s guard rg) (hd : (Nat.blt d 1000 && Nat.blt d E.nt) = true) (hx : OpS s x (.optr k n off) r) (hl : look s (2000 + k) = some (.arrn sz pre mid post)) (hn : pre.length + (post.length + 1) = n)
    (hoff : off = pre.length * sz + i) (hu : mid[i]? = some u) (hnt : isAT u = false) : St1 E all ⟨some d, .load T x, ty, pos, after, guard⟩ s (rg ++ (r ++ [(2000 + k, .arrn sz pre mid post)])) [(d, u)] [] :=
  St1.val hg hd rfl (hx.looks.app ⟨hl, trivial⟩) fun c A w hh hr => by
    subst hn
    subst hoff
    obtain ⟨m, hv, lv, e1, e2, e3⟩ := optr_of (hx.rep (c := c) (a := A) (w := w) fun p hp => hr p (by simp [hp]))
    obtain ⟨_, v, e', vs, g1, g2, g3, v1, v2, v3, g4, g5, g6, g7⟩ := arrn_of (hr (2000 + k, .arrn sz pre mid post) (by simp))
    rw [e1] at g1
    cases g1
    obtain ⟨b, l, cp, rfl, hp⟩ := e3 rfl
    obtain ⟨v, hvv, hvr⟩ := g6.get_right hu
    refine ⟨v, ?_, C.toT hvr hnt⟩
    have h1 : v1.length = pre.length * sz := by rw [← g5.length, flatten_length fun q hq => g3 q (by simp [hq])]
    simp only [execOp, hp]
    rw [Sem.run_bind, run_load1 ht (v := v)]
    · rfl
    · have := g2.cells (g := b) rfl (pre.length * sz + i) v (by
        rw [g4, List.getElem?_append_right (by omega), h1, Nat.add_sub_cancel_left, List.getElem?_append_left (List.getElem?_eq_some_iff.1 hvv).1]
        exact hvv)
      rwa [add_off, Nat.zero_add] at this
theorem S.ostoreN1 {T k n off i sz tsz : Nat} {u : X} {pre post : List (List X)} {mid mid' : List X} (ht : TyI E.P T false tsz) (h1s : tsz = 1) (hg : Gd all s guard rg) (hx : OpS s x (.optr k n off) r1) (hy : OpS s y u r2) (hl : look s (2000 + k) = some (.arrn sz pre mid post)) (hn : pre.length + (post.length + 1) = n)
    (hoff : off = pre.length * sz + i) (hi : i < mid.length) (ho : okSt1 u = true) (hmid : mid.set i u = mid') (hk1 : Nat.blt k 1000 = true := by rfl) :
    St1 E all ⟨none, .store T x y, ty, pos, after, guard⟩ s (rg ++ (r1 ++ (r2 ++ [(2000 + k, .arrn sz pre mid post)]))) [(2000 + k, .arrn sz pre mid' post)] [] := by
  subst hmid
  subst hn
  subst hoff
  subst h1s
  rw [Nat.blt_eq] at hk1
  refine ⟨?_, hg.looks.app (hx.looks.app (hy.looks.app ⟨hl, trivial⟩))⟩
  intro U c a w hb hr hal next Q hnx
  have hw := hg.wanted (o := ⟨none, .store T x y, ty, pos, after, guard⟩) (fun p hp => hr p (List.mem_append_left _ hp))
  obtain ⟨m, hv, lv, e1, e2, e3⟩ := optr_of (hx.rep (c := c) (a := a) (w := w) fun p hp => hr p (by simp [hp]))
  obtain ⟨_, v, e', vs, g1, g2, g3, v1, v2, v3, g4, g5, g6, g7⟩ := arrn_of (hr (2000 + k, .arrn sz pre mid post) (by simp))
  rw [e1] at g1
  cases g1
  obtain ⟨b, l, cp, rfl, hp⟩ := e3 rfl
  have hyr := hy.rep (c := c) (a := a) (w := w) fun p hp => hr p (by simp [hp])
  have hok : okSt u = true := by cases u <;> first | exact ho | cases ho
  obtain ⟨hc, hone⟩ := cells_of hyr hok
  have hcx : cellsX u = [u] := by cases u <;> first | rfl | cases ho
  rw [hcx] at hc
  have hcl := hc.length
  have hcs : (a.eval y).cells.toList.length = 1 := by rw [← hcl]; rfl
  rcases g2.2 with ⟨h0, _⟩ | ⟨g, cap, cur, hs, hz, hgc, hnc, hcm, hcs2, htake⟩
  · cases h0
  cases hs
  have hv1 : v1.length = pre.length * sz := by rw [← g5.length, flatten_length fun q hq => g3 q (by simp [hq])]
  have hmid : mid.length = sz := g3 mid (by simp)
  have hv2 : v2.length = sz := by rw [← g6.length, hmid]
  have hvl := g2.1
  have hle : pre.length * sz + i + 1 ≤ (pre.length + (post.length + 1)) * sz := by
    have h1 : (pre.length + 1) * sz ≤ (pre.length + (post.length + 1)) * sz := Nat.mul_le_mul_right _ (by omega)
    rw [Nat.succ_mul] at h1
    omega
  have hle2 : (pre.length + (post.length + 1)) * sz ≤ cp * sz := Nat.mul_le_mul_right _ hnc
  have hst := run_storeCells_at E.P b (pre.length * sz + i) e' (a.eval y).cells.toList 0 cur w hgc (by simp only [Nat.add_zero]; omega) hone
  simp only [Nat.add_zero] at hst
  obtain ⟨w', hw'⟩ : ∃ w', w' = w.setRow b (cur.toList.take (pre.length * sz + i) ++ (a.eval y).cells.toList ++ cur.toList.drop (pre.length * sz + i + (a.eval y).cells.toList.length)).toArray := ⟨_, rfl⟩
  have hgb : w.grownBy w' (some b) := by
    subst hw'
    exact ⟨rfl, rfl, rfl, by simp, fun k _ hk => setRow_other w b k _ (fun e => hk (by rw [e]))⟩
  obtain ⟨p1, p2, p3, p4⟩ := hb.append (n' := pre.length + (post.length + 1)) (v' := .slice (some ⟨b, 0, none⟩) (pre.length + (post.length + 1)) cp) e1 hgb (Nat.le_refl _) (fun _ => rfl) (.inl rfl) (not_dfr g2)
  have hrun : (execOp a.eval ⟨none, .store T x y, ty, pos, after, guard⟩).run E.P w = .ok .skip w' := by
    subst hw'
    have hcs' : (a.eval y).cells.size = 1 := by simpa using hcs
    simp [execOp, hp, Instr.storeAt, Instr.sureAddr, storeVar, ht.size, hcs', hst]
  unfold opIn
  rw [if_pos hw]
  refine ⟨fun _ _ => trivial, ?_⟩
  rw [Oper.semAt_eq _ _ _ (fun cl he => by cases he), hrun]
  obtain ⟨nv, hnv⟩ : ∃ nv, (a.eval y).cells.toList = [nv] := by
    cases hq : (a.eval y).cells.toList with
    | nil => rw [hq] at hcs; cases hcs
    | cons q qs => rw [hq] at hcs; cases qs with
      | nil => exact ⟨q, rfl⟩
      | cons _ _ => simp at hcs
  rw [hnv] at hc hw' hcs
  refine hnx _ a w' p1 p2 ?_ ?_
  · intro p hp
    simp only [List.mem_singleton] at hp
    subst hp
    have hnew : vs.take (pre.length * sz + i) ++ ([nv] ++ vs.drop (pre.length * sz + i + 1)) = v1 ++ (v2.set i nv ++ v3) := by
      have hi2 : i < v2.length := by omega
      rw [g4, List.take_append, List.take_of_length_le (l := v1) (by omega), hv1, Nat.add_sub_cancel_left, List.drop_append, List.drop_of_length_le (l := v1) (by omega), hv1, show pre.length * sz + i + 1 - pre.length * sz = i + 1 by omega, List.nil_append,
        List.take_append_of_le_length (by omega), List.drop_append_of_le_length (by omega), List.set_eq_take_append_cons_drop, if_pos hi2]
      simp only [List.append_assoc, List.cons_append, List.nil_append]
    refine (Holds.mkArrn (e := e') (n := pre.length + (post.length + 1)) (vs := v1 ++ (v2.set i nv ++ v3)) (v1 := v1) (v2 := v2.set i nv) (v3 := v3) hk1 rfl p3 ?_ ?_ rfl (g5.mono fun _ _ => RepD.mono p2.h) (All2.set (hc.1.mono p2) i (g6.mono fun _ _ => RepC.mono p2)) (g7.mono fun _ _ => RepD.mono p2.h)).2
    · refine ⟨?_, .inr ⟨b, cp, _, rfl, Nat.zero_le _, by rw [hw']; exact setRow_heap w b cur _ e' _ hgc, hnc, hcm, ?_, ?_⟩⟩
      · rw [← hvl, g4]; simp only [List.length_append, List.length_set]
      · simp only [List.size_toArray, List.length_append, List.length_take, List.length_drop, Array.length_toList, hcs, hcs2]; omega
      · rw [← hnew, ← htake]
        simp only [List.append_assoc, hcs]
        exact take_store (n := (pre.length + (post.length + 1)) * sz) rfl hle (by simp [hcs2]; omega)
    · intro q hq
      simp only [List.mem_append, List.mem_cons] at hq
      rcases hq with hq | rfl | hq
      · exact g3 q (by simp [hq])
      · rw [List.length_set]; exact hmid
      · exact g3 q (by simp [hq])
  · intro key u' hk hu
    have hne : (2000 + k : Nat) ≠ key := hk (2000 + k, .arrn sz pre (mid.set i u) post) (by simp)
    by_cases h1 : key < 1000
    · unfold Holds at hu ⊢
      rw [if_pos h1] at hu ⊢
      exact hu.mono p2
    · exact p4 key u' h1 (fun e => hne e.symm) hu
end
section
variable {E : Env} {U : List Nat} {s : St} {a : Act} {w : World}
theorem Good.arrClose {k sz : Nat} {pre post rows : List (List X)} {mid : List X} (hg : Good E U s a w) (hl : look s (2000 + k) = some (.arrn sz pre mid post)) (hD : mid.all okD = true) (hr : pre ++ mid :: post = rows) : Good E U ((2000 + k, .arr sz rows) :: s) a w := by
  subst hr
  obtain ⟨c, hb, hh⟩ := hg
  refine ⟨c, hb, fun key y hy => ?_⟩
  simp only [look] at hy
  split at hy
  · rename_i h
    have := Nat.eq_of_beq_eq_true h
    cases hy
    subst this
    obtain ⟨hk, hv, e, vs, h1, h2, h3, v1, v2, v3, rfl, h5, h6, h7⟩ := arrn_of (hh _ _ hl)
    refine (Holds.mkArr (e := e) (vs := v1 ++ (v2 ++ v3)) hk (by rw [List.length_append, List.length_cons]; exact h1) (by rw [List.length_append, List.length_cons]; exact h2) h3 ?_).2
    rw [List.flatten_append, List.flatten_cons]
    exact h5.append ((Ds_of h6 hD).append h7)
  · exact hh key y hy
theorem OK.arrClose {code : Code} {Q : Exit → List Nat → St → Prop} (k : Nat) {sz : Nat} {pre post rows : List (List X)} {mid : List X} (hl : look s (2000 + k) = some (.arrn sz pre mid post)) (hD : mid.all okD = true) (hr : pre ++ mid :: post = rows)
    (h : OK E code Q U ((2000 + k, .arr sz rows) :: s)) : OK E code Q U s := fun a w hg => h a w (hg.arrClose hl hD hr)
theorem Good.freezeArr {k i j n sz sz2 : Nat} {pre post rows : List (List X)} {mid mid' : List X} (hg : Good E U s a w) (hl : look s (2000 + k) = some (.arrn sz pre mid post)) (hi : mid[i]? = some (.own j n)) (hl2 : look s (2000 + j) = some (.arr sz2 rows)) (hn : rows.length = n)
    (hc : mid.set i (.sl rows) = mid') (hne : k ≠ j) (hk9 : j ∉ E.fs) : Good E U ((2000 + k, .arrn sz pre mid' post) :: (2000 + j, .any) :: s) a w := by
  subst hc
  subst hn
  obtain ⟨c, hbs, hh⟩ := hg
  obtain ⟨hv, e', vs, g1, g2, g3, g4⟩ := arr_of (hh _ _ hl2)
  obtain ⟨c', f1, f2, f3, f4⟩ := hbs.freeze g1 hk9
  refine ⟨c', f1, fun key y hy => ?_⟩
  simp only [look] at hy
  split at hy
  · rename_i h
    have := Nat.eq_of_beq_eq_true h
    cases hy
    subst this
    have h0 := f4 (2000 + k) _ (by omega) (by omega) (hh _ _ hl)
    obtain ⟨hk, hv2, e, vs2, h1, h2, h3, v1, v2, v3, h4, h5, h6, h7⟩ := arrn_of h0
    have h8 := hh _ _ hl
    obtain ⟨_, hv3, e3, vs3, k1, k2, k3, u1, u2, u3, k4, k5, k6, k7⟩ := arrn_of h8
    refine (Holds.mkArrn (e := e) hk rfl h1 h2 (fun q hq => ?_) h4 h5 ?_ h7).2
    · simp only [List.mem_append, List.mem_cons] at hq
      rcases hq with hq | rfl | hq
      · exact h3 q (by simp [hq])
      · rw [List.length_set]; exact h3 mid (by simp)
      · exact h3 q (by simp [hq])
    · refine All2.of_get (by simpa using h6.length) fun j2 u v hu hv' => ?_
      rw [List.getElem?_set] at hu
      split at hu
      · rename_i hij
        subst hij
        split at hu
        · cases hu
          obtain ⟨_, m, hv0, lv, p1, p2, p3⟩ := h6.get hi hv'
          obtain ⟨m1, hv1, lv1, r1, r2, r3⟩ := f2.arr _ _ _ _ g1
          rw [r1] at p1
          cases p1
          have hvv : v = hv := by
            have hu2 : v2 = u2 := by
              have e1 : vs2 = vs3 := by
                obtain ⟨m4, hv4, lv4, r4, r5, r6⟩ := f2.arr _ _ _ _ k1
                rw [r4] at h1
                cases h1
                have := r6 rfl
                subst this
                rcases h2.2 with ⟨z1, z2⟩ | ⟨g, cap, cur, z1, z2, z3, z4, z5, z6, z7⟩
                · omega
                · rcases k2.2 with ⟨y1, y2⟩ | ⟨g', cap', cur', y1, y2, y3, y4, y5, y6, y7⟩
                  · omega
                  · rw [y1] at z1
                    cases z1
                    rw [y3] at z3
                    cases z3
                    rw [← z7, ← y7]
              rw [h4, k4] at e1
              have l1 : v1.length = u1.length := by rw [← h5.length, k5.length]
              have e2 := List.append_inj e1 l1
              have l2 : v2.length = u2.length := by rw [← h6.length, k6.length]
              exact (List.append_inj e2.2 l2).1
            subst hu2
            obtain ⟨_, m5, hv5, lv5, p4, p5, p6⟩ := k6.get hi hv'
            rw [g1] at p4
            cases p4
            exact p6 rfl
          rw [hvv]
          exact RepD.toC (c := c') (RepD.of_owns g2 g3 g4 f2.h fun b o hbk => f3 _ hbk)
        · cases hu
      · exact h6.get hu hv'
  · split at hy
    · rename_i h
      have := Nat.eq_of_beq_eq_true h
      cases hy
      subst this
      unfold Holds
      rw [if_neg (by omega)]
      exact .inl rfl
    · rename_i hne1 hne2
      have h0 := hh key y hy
      have hne3 : key ≠ 2000 + j := fun e => hne2 (by rw [e]; exact Nat.beq_refl _)
      by_cases hlt : key < 1000
      · unfold Holds at h0 ⊢
        rw [if_pos hlt] at h0 ⊢
        exact h0.mono f2
      · exact f4 key y hlt hne3 h0
theorem OK.freezeArr {code : Code} {Q : Exit → List Nat → St → Prop} (k i : Nat) {j n sz sz2 : Nat} {pre post rows : List (List X)} {mid mid' : List X} (hl : look s (2000 + k) = some (.arrn sz pre mid post)) (hi : mid[i]? = some (.own j n)) (hl2 : look s (2000 + j) = some (.arr sz2 rows)) (hn : rows.length = n)
    (hc : mid.set i (.sl rows) = mid') (hne : Nat.beq k j = false) (h : OK E code Q U ((2000 + k, .arrn sz pre mid' post) :: (2000 + j, .any) :: s)) (hk9 : E.fs.contains j = false := by rfl) : OK E code Q U s := fun a w hg => h a w (hg.freezeArr hl hi hl2 hn hc (fun e => by rw [e, Nat.beq_refl] at hne; cases hne) (nfs hk9))
end
end Go.Ab
namespace Go.Ab
open Go.RowKit
theorem add_zero' (b o : Nat) : (⟨b, o, none⟩ : Addr).add 0 = ⟨b, o, none⟩ := by rw [add_off]; rfl
theorem sub_of {w : World} {e sz n : Nat} {hv : Value} {vs : List Value} (h : w.ownsRow 0 e sz hv n vs) (lo hi : Nat) (_h1 : lo ≤ hi) (_h2 : hi ≤ n) : ∃ a cap, hv = .slice a n cap ∧ n ≤ cap ∧
    SubOf hv sz lo hi (.slice (if cap = lo then a else a.map (·.add (lo * sz))) (hi - lo) (cap - lo)) := by
  rcases h.2 with ⟨rfl, rfl⟩ | ⟨g, cap, cur, rfl, p1, p2, p3, p4, p5, p6⟩
  · have h0 : lo = 0 := by omega
    subst h0
    exact ⟨none, 0, rfl, Nat.le_refl _, none, 0, 0, _, _, rfl, rfl, fun _ => ⟨rfl, rfl⟩, fun h => by omega⟩
  · refine ⟨_, cap, rfl, p3, _, n, cap, _, _, rfl, rfl, fun h0 => ?_, fun h => ⟨g, rfl, ?_⟩⟩
    · subst h0
      refine ⟨?_, Nat.sub_zero _⟩
      split
      · rfl
      · simp only [Option.map_some, Nat.zero_mul, add_zero']
    · rw [if_neg (by omega)]
      simp only [Option.map_some, add_off, Nat.zero_add]
structure ZrI (P : Program) (e sz : Nat) (zrow : List X) : Prop where
  ex : ∃ z, (∀ w, (zeroValue e).run P w = .ok z w) ∧ z.cells.size = sz ∧ (∀ q ∈ z.cells.toList, q.oneCell' = true) ∧ ∀ h, All2 (RepD h) zrow z.cells.toList
section
variable {E : Env} {all : Array Oper} {s r r1 r2 r3 rg : St} {d ty : Nat} {pos : String} {after : Array Edge} {guard : Option (Nat × Bool)} {x y z : Operand}
theorem S.sliceOwn {t e sz k n lo hi : Nat} {rows : List (List X)} {il ih : Option Operand} (hs : SlI E.P t e sz) (hg : Gd all s guard rg) (hd : (Nat.blt d 1000 && Nat.blt d E.nt) = true) (hx : OpS s x (.own k n) r1) (hl : look s (2000 + k) = some (.arr sz rows)) (hn : rows.length = n)
    (h1 : (il = none ∧ lo = 0 ∧ r2 = []) ∨ ∃ o i, il = some o ∧ OpS s o (.int .i64 i) r2 ∧ i = lo) (h2 : (ih = none ∧ hi = n ∧ r3 = []) ∨ ∃ o i, ih = some o ∧ OpS s o (.int .i64 i) r3 ∧ i = hi) (hle : lo ≤ hi) (hle2 : hi ≤ n) :
    St1 E all ⟨some d, .slice t x il ih none, ty, pos, after, guard⟩ s (rg ++ (r1 ++ (r2 ++ (r3 ++ [(2000 + k, .arr sz rows)])))) [(d, .ownp k n sz lo hi)] [] := by
  have k1 : Looks s r2 := by rcases h1 with ⟨_, _, rfl⟩ | ⟨_, _, _, h, _⟩; trivial; exact h.looks
  have k2 : Looks s r3 := by rcases h2 with ⟨_, _, rfl⟩ | ⟨_, _, _, h, _⟩; trivial; exact h.looks
  refine St1.val hg hd rfl (hx.looks.app (k1.app (k2.app ⟨hl, trivial⟩))) fun c A w hh hr => ?_
  subst hn
  obtain ⟨_, m, hv, lv, e1, e2, e3⟩ := own_of (hx.rep (c := c) (a := A) (w := w) fun p hp => hr p (by simp [hp]))
  obtain ⟨v, e', vs, g1, g2, g3, g4⟩ := arr_of (hr (2000 + k, .arr sz rows) (by simp))
  rw [e1] at g1
  cases g1
  have hev := e3 rfl
  obtain ⟨a, cap, q1, q2, q3⟩ := sub_of g2 lo hi hle hle2
  rw [q1] at hev
  refine ⟨.slice (if cap = lo then a else a.map (·.add (lo * sz))) (hi - lo) (cap - lo), ?_, ⟨_, _, _, rfl⟩, _, _, _, e1, Nat.le_refl _, fun _ => q3⟩
  have kl : ∀ o i, OpS s o (.int .i64 i) r2 → A.eval o = .int .i64 i := fun o i h => (int_of (h.rep (c := c) (a := A) (w := w) fun p hp => hr p (by simp [hp]))).1
  have kh : ∀ o i, OpS s o (.int .i64 i) r3 → A.eval o = .int .i64 i := fun o i h => (int_of (h.rep (c := c) (a := A) (w := w) fun p hp => hr p (by simp [hp]))).1
  have hcap : hi ≤ cap := by omega
  have hlo2 : lo ≤ rows.length := by omega
  rcases h1 with ⟨rfl, rfl, rfl⟩ | ⟨ol, il, rfl, f1, rfl⟩ <;> rcases h2 with ⟨rfl, rfl, rfl⟩ | ⟨oh, ih, rfl, f2, rfl⟩
  · simp [execOp, hev, Instr.sliceAt, Instr.slice, run_underlying hs.und, Instr.sliceBounds, hs.size]
  · simp [execOp, hev, kh _ _ f2, Instr.sliceAt, Instr.slice, run_underlying hs.und, Instr.sliceBounds, Instr.sliceBound, asIntOf, hs.size, hcap]
  · simp [execOp, hev, kl _ _ f1, Instr.sliceAt, Instr.slice, run_underlying hs.und, Instr.sliceBounds, Instr.sliceBound, asIntOf, hs.size, hlo2]
  · simp [execOp, hev, kl _ _ f1, kh _ _ f2, Instr.sliceAt, Instr.slice, run_underlying hs.und, Instr.sliceBounds, Instr.sliceBound, asIntOf, hs.size, hcap, hle]
theorem S.clearOwn {t e sz bytes k n lo : Nat} {rows rows' : List (List X)} {zrow : List X} (hA : ApI E.P t e sz bytes) (hZ : ZrI E.P e sz zrow) (hg : Gd all s guard rg) (hx : OpS s x (.ownp k n sz lo n) r) (hl : look s (2000 + k) = some (.arr sz rows)) (hn : rows.length = n) (hlo : lo ≤ n) (hrows : rows.take lo ++ List.replicate (n - lo) zrow = rows') (hk1 : Nat.blt k 1000 = true := by rfl) :
    St1 E all ⟨none, .call { callee := .builtin .clear, args := #[x], argTypes := #[t] }, ty, pos, after, guard⟩ s (rg ++ (r ++ [(2000 + k, .arr sz rows)])) [(2000 + k, .arr sz rows')] [] := by
  subst hrows
  subst hn
  rw [Nat.blt_eq] at hk1
  refine ⟨?_, hg.looks.app (hx.looks.app ⟨hl, trivial⟩)⟩
  intro U c a w hb hr hal next Q hnx
  have hw := hg.wanted (o := ⟨none, .call { callee := .builtin .clear, args := #[x], argTypes := #[t] }, ty, pos, after, guard⟩) (fun p hp => hr p (List.mem_append_left _ hp))
  have hxr : RepP c (.ownp k rows.length sz lo rows.length) (a.eval x) := hx.rep (c := c) (a := a) (w := w) fun p hp => hr p (by simp [hp])
  obtain ⟨_, m, hv, lv, e1, e2, e3⟩ := hxr
  obtain ⟨v, e', vs, g1, g2, g3, g4⟩ := arr_of (hr (2000 + k, .arr sz rows) (by simp))
  rw [e1] at g1
  cases g1
  obtain ⟨ad, l, cp, a', cp', q1, q2, q3, q4⟩ := e3 rfl
  obtain ⟨zv, z1, z2, z3, z4⟩ := hZ.ex
  have hzl : zrow.length = sz := by rw [(z4 c.h).length, ← z2]; simp
  unfold opIn
  rw [if_pos hw]
  refine ⟨fun _ _ => trivial, ?_⟩
  rw [Oper.semAt_eq _ _ _ (fun cl he => by cases he)]
  by_cases h0 : lo = rows.length
  · subst h0
    have hrun : (execOp a.eval ⟨none, .call { callee := .builtin .clear, args := #[x], argTypes := #[t] }, ty, pos, after, guard⟩).run E.P w = .ok (.value (.tuple #[])) w := by
      rw [Nat.sub_self] at q2
      simp [execOp, resolve, invoke, builtin, q2, Builtin.clear_, run_underlying hA.und]
      cases a' <;> simp
    rw [hrun]
    refine hnx c a w hb (Ext.refl c) (fun p hp => ?_) fun key u _ hu => hu
    simp only [List.mem_singleton] at hp
    subst hp
    rw [Nat.sub_self, List.replicate_zero, List.append_nil, List.take_length]
    exact hr (2000 + k, .arr sz rows) (by simp)
  · obtain ⟨b, p1, p2⟩ := q4 (by omega)
    subst p1
    subst p2
    rcases g2.2 with ⟨h1, _⟩ | ⟨g, cap, cur, hs, hzz, hgc, hnc, hcm, hcs2, htake⟩
    · rw [h1] at q1; cases q1
    rw [hs] at q1
    cases q1
    subst hs
    have hvl : vs.length = rows.length * sz := g2.1
    obtain ⟨zs, hzs⟩ : ∃ zs, zs = (Builtin.zeroCells zv.cells (rows.length - lo)).toList := ⟨_, rfl⟩
    have hzlen : zs.length = (rows.length - lo) * sz := by rw [hzs, Array.length_toList, size_zeroCells, z2]
    have hsum : lo * sz + (rows.length - lo) * sz = rows.length * sz := by rw [← Nat.add_mul]; congr 1; omega
    have hle2 : rows.length * sz ≤ cp * sz := Nat.mul_le_mul_right _ hnc
    have hpos := hA.pos
    have hzget : ∀ (j : Nat) (v : Value), zs[j]? = some v → zv.cells[j % sz]? = some v := by
      intro j v hj
      have hlt : j < (rows.length - lo) * sz := by rw [← hzlen]; exact (List.getElem?_eq_some_iff.1 hj).1
      have hlt2 : j % sz < zv.cells.size := by rw [z2]; exact Nat.mod_lt _ hpos
      rw [hzs, Array.getElem?_toList] at hj
      simp only [Builtin.zeroCells, Array.getElem?_map, z2] at hj
      have hr0 : (Array.range ((rows.length - lo) * sz))[j]? = some j := by simp [hlt]
      rw [hr0] at hj
      simp only [Option.map_some, Option.some.injEq] at hj
      rw [Array.getElem?_eq_getElem hlt2, ← hj]
      rw [getElem!_pos zv.cells (j % sz) hlt2]
    have hone : ∀ q ∈ zs, q.oneCell' = true := by
      intro q hq
      obtain ⟨j, hj⟩ := List.getElem?_of_mem hq
      exact z3 q (List.mem_of_getElem? (i := j % sz) (by rw [Array.getElem?_toList]; exact hzget j q hj))
    have hst := run_storeCells_at E.P b (lo * sz) e' zs 0 cur w hgc (by simp only [Nat.add_zero]; omega) hone
    simp only [Nat.add_zero] at hst
    obtain ⟨w', hw'⟩ : ∃ w', w' = w.setRow b (cur.toList.take (lo * sz) ++ zs ++ cur.toList.drop (lo * sz + zs.length)).toArray := ⟨_, rfl⟩
    have hgb : w.grownBy w' (some b) := by
      subst hw'
      exact ⟨rfl, rfl, rfl, by simp, fun k _ hk => setRow_other w b k _ (fun e => hk (by rw [e]))⟩
    obtain ⟨t1, t2, t3, t4⟩ := hb.append (n' := rows.length) (v' := .slice (some ⟨b, 0, none⟩) rows.length cp) e1 hgb (Nat.le_refl _) (fun _ => rfl) (.inl rfl) (not_dfr g2)
    have hnz : rows.length - lo ≠ 0 := by omega
    have hrun : (execOp a.eval ⟨none, .call { callee := .builtin .clear, args := #[x], argTypes := #[t] }, ty, pos, after, guard⟩).run E.P w = .ok (.value (.tuple #[])) w' := by
      subst hw'
      rw [hzs] at hst ⊢
      obtain ⟨q, hq⟩ : ∃ q, rows.length - lo = q + 1 := ⟨rows.length - lo - 1, by omega⟩
      rw [hq] at hst q2 ⊢
      simp [execOp, resolve, invoke, builtin, q2, Builtin.clear_, run_underlying hA.und, z1, hst]
    rw [hrun]
    refine hnx _ a w' t1 t2 ?_ ?_
    · intro p hp
      simp only [List.mem_singleton] at hp
      subst hp
      have hl1 : (rows.take lo ++ List.replicate (rows.length - lo) zrow).length = rows.length := by rw [List.length_append, List.length_take, List.length_replicate]; omega
      refine (Holds.mkArr (e := e') (vs := vs.take (lo * sz) ++ zs) hk1 (by rw [hl1]; exact t3) ?_ (fun q hq => ?_) ?_).2
      · rw [hl1]
        refine ⟨?_, .inr ⟨b, cp, _, rfl, Nat.zero_le _, by rw [hw']; exact setRow_heap w b cur _ e' _ hgc, hnc, hcm, ?_, ?_⟩⟩
        · rw [List.length_append, List.length_take, hzlen, hvl]; omega
        · simp only [List.size_toArray, List.length_append, List.length_take, List.length_drop, Array.length_toList, hzlen, hcs2]; omega
        · have h5 := take_store (l := cur.toList) (news := zs) (a := lo * sz) (s := (rows.length - lo) * sz) (n := rows.length * sz) hzlen (by omega) (by simp [hcs2]; omega)
          rw [hsum] at h5
          rw [hzlen, hsum, List.append_assoc, h5, ← htake, List.drop_of_length_le (by rw [List.length_take]; omega), List.append_nil]
      · rcases List.mem_append.1 hq with h | h
        · exact g3 q (List.mem_of_mem_take h)
        · rw [List.eq_of_mem_replicate h]; exact hzl
      · rw [List.flatten_append]
        have e6 : (rows.take lo).flatten = rows.flatten.take (lo * sz) := by
          have h7 : (rows.take lo).flatten.length = lo * sz := by rw [flatten_length (sz := sz) fun q hq => g3 q (List.mem_of_mem_take hq), List.length_take, Nat.min_eq_left hlo]
          conv => rhs; rw [← List.take_append_drop lo rows, List.flatten_append, ← h7]
          rw [List.take_left]
        rw [e6]
        refine ((g4.take (lo * sz)).mono fun _ _ => RepD.mono t2.h).append (All2.of_get ?_ fun j u v hu hv => ?_)
        · rw [flatten_length (sz := sz) fun q hq => by rw [List.eq_of_mem_replicate hq]; exact hzl, List.length_replicate, hzlen]
        · rw [flat_repl] at hu
          split at hu
          · have h8 := hzget j v hv
            rw [hzl] at hu
            exact (z4 _).get hu (by rw [Array.getElem?_toList]; exact h8)
          · cases hu
    · intro key u hk hu
      have hne : (2000 + k : Nat) ≠ key := hk (2000 + k, _) (List.mem_singleton.2 rfl)
      by_cases h1 : key < 1000
      · unfold Holds at hu ⊢
        rw [if_pos h1] at hu ⊢
        exact hu.mono t2
      · exact t4 key u h1 (fun e => hne e.symm) hu
theorem S.sliceClip {t e sz : Nat} {rows : List (List X)} {i j : Int} (hs : SlI E.P t e sz) (hg : Gd all s guard rg) (hd : (Nat.blt d 1000 && Nat.blt d E.nt) = true) (hx : OpS s x (.sl rows) r1) (hy : OpS s y (.int .i64 i) r2) (hz : OpS s z (.int .i64 j) r3) (hi : i = rows.length) (hj : j = rows.length) :
    St1 E all ⟨some d, .slice t x none (some y) (some z), ty, pos, after, guard⟩ s (rg ++ (r1 ++ (r2 ++ r3))) [(d, .slc rows)] [] :=
  St1.val hg hd rfl (hx.looks.app (hy.looks.app hz.looks)) fun c A w hh hr => by
    have hrep : RepD c.h (.sl rows) (A.eval x) := hx.rep (c := c) (a := A) (w := w) fun p hp => hr p (by simp [hp])
    have hyv := (int_of (hy.rep (c := c) (a := A) (w := w) fun p hp => hr p (by simp [hp]))).1
    have hzv := (int_of (hz.rep (c := c) (a := A) (w := w) fun p hp => hr p (by simp [hp]))).1
    subst hi
    subst hj
    obtain ⟨v0, hv0⟩ : ∃ v0, A.eval x = v0 := ⟨_, rfl⟩
    rw [hv0] at hrep
    cases hrep with
    | sl0 a cap h =>
      refine ⟨.slice a 0 0, ?_, .sl0 a 0 (Nat.zero_le _), a, rfl⟩
      simp [execOp, hv0, hyv, hzv, Instr.sliceAt, Instr.slice, run_underlying hs.und, Instr.sliceBounds, Instr.sliceBound, asIntOf, hs.size]
    | sl _ b off cap sz' vs h1 h2 h3 h4 h5 h6 =>
      refine ⟨.slice (some ⟨b, off, none⟩) rows.length rows.length, ?_, .sl rows b off rows.length sz' vs (Nat.le_refl _) (Nat.le_trans h1 h2) h3 h4 h5 h6, _, rfl⟩
      simp [execOp, hv0, hyv, hzv, Instr.sliceAt, Instr.slice, run_underlying hs.und, Instr.sliceBounds, Instr.sliceBound, asIntOf, hs.size, h1, add_zero']
end
section
variable {P : Program} (w : World)
theorem run_append_clip (t ty e : Nat) (i : TypeInfo) (z : Value) (size bytes : Nat) (ht : P.underlying t = some (.slice e)) (hi : P.info? e = some i) (hz : i.zero = some z) (hsize : i.size = size) (hby : i.bytes = bytes) (hzs : z.cells.size = size)
    (a : Option Addr) (n : Nat) (xs : List Value) (hxl : xs.length = n * size) (ha : (a = none ∧ n = 0) ∨ ∃ A, a = some A ∧ ∀ j u, xs[j]? = some u → w.cell? (A.add j) = some u) (x : Value) (m : Nat) (hm : 0 < m) (news : List Value) (hlen : ∀ w, (Builtin.lenOf x).run P w = .ok m w) (hl : news.length = m * size)
    (hf : ∀ w' : World, (∀ p, w'.cell? p = w.cell? p) → (Builtin.firstCells size m x).run P w' = .ok news.toArray w') (h63 : n + m ≤ maxLen) (hbytes : (n + m) * bytes ≤ 140737488355328) :
    ∃ cap cells, (Builtin.append_ #[t, t] ty #[.slice a n n, x]).run P w = .ok (.slice (some ⟨w.heap.size, 0, none⟩) (n + m) cap) (w.drew.alloc (.cells cells e)) ∧ (w.drew.alloc (.cells cells e)).ownsRow 0 e size (.slice (some ⟨w.heap.size, 0, none⟩) (n + m) cap) (n + m) (xs ++ news) := by
  subst hsize
  subst hby
  have hsmall : n + m ≤ 9223372036854775807 := by simp only [maxLen] at h63; omega
  have hlen2 : (xs ++ news).length = (n + m) * i.size := by rw [List.length_append, hxl, hl, Nat.add_mul]
  have grown : ∀ (old : Nat), (w.drew.alloc (.cells (xs.toArray ++ news.toArray ++ Builtin.zeroCells z.cells (grownCap w (n + m) old e - (n + m))) e)).ownsRow 0 e i.size
        (.slice (some ⟨w.heap.size, 0, none⟩) (n + m) (grownCap w (n + m) old e)) (n + m) (xs ++ news) := by
    intro old
    have hge := grownCap_ge w (n + m) old e
    have hcm : grownCap w (n + m) old e ≤ maxLen := grownCap_le_maxLen w (n + m) old e h63
    refine ⟨hlen2, .inr ⟨w.heap.size, _, _, rfl, Nat.zero_le _, heap_alloc_new w.drew _, hge, hcm, ?_, ?_⟩⟩
    · simp only [Array.size_append, List.size_toArray, size_zeroCells, hzs, hxl, hl, ← Nat.add_mul]
      congr 1
      omega
    · simp only [Array.toList_append, List.append_assoc]
      rw [← List.append_assoc, ← hlen2]
      exact List.take_left
  have hn : ¬ (n + m ≤ n) := by omega
  have h63' : ¬ (9223372036854775807 < ((n : Int) + (m : Int))) := by omega
  have h48 := growslice_fits (need := n + m) (old := n) (bytes := i.bytes) (by omega) hbytes
  have h48' : ¬ (281474976710656 < Builtin.nextslicecap (n + m) n * i.bytes) := by omega
  have hff := hf w.drew fun _ => rfl
  have hfo : (Builtin.firstCells i.size n (.slice a n n)).run P w.drew = .ok xs.toArray w.drew := by
    rcases ha with ⟨rfl, rfl⟩ | ⟨A, rfl, hc⟩
    · have hx0 : xs = [] := List.eq_nil_of_length_eq_zero (by simpa using hxl)
      subst hx0
      simp [Builtin.firstCells]
    · exact run_firstCells_some (P := P) w.drew i.size n A n n xs hxl (by simpa using hc)
  refine ⟨_, _, ?_, grown n⟩
  simp [Builtin.append_, run_underlying ht, sizeOf, typeInfo, zeroValue, hi, hz, hlen, hn, h63', h48', Question.forced, hff, hfo, newRow, grownCap]
  congr 2
  apply Array.ext'
  simp [List.append_assoc]
end
section
variable {E : Env} {all : Array Oper} {s r r1 r2 r3 rg : St} {d ty : Nat} {pos : String} {after : Array Edge} {guard : Option (Nat × Bool)} {x y z : Operand}
theorem Good.arrOwn {U : List Nat} {a : Act} {w : World} {k i j sz sz2 : Nat} {pre post : List (List X)} {mid mid' : List X} (hg : Good E U s a w) (hl : look s (2000 + k) = some (.arrn sz pre mid post)) (hi : mid[i]? = some .nils) (hc : mid.set i (.own j 0) = mid') (hj : (U.contains j) = false) (hj9 : j ∉ E.fs) (hj1 : Nat.blt j 1000 = true) :
    Good E (j :: U) ((2000 + k, .arrn sz pre mid' post) :: (2000 + j, .arr sz2 []) :: s) a w := by
  subst hc
  obtain ⟨c, hbs, hh⟩ := hg
  have hjU : j ∉ U := by simpa using hj
  rw [Nat.blt_eq] at hj1
  obtain ⟨g1, g2, g3, g4⟩ := hbs.ownNew hj9 hjU (n := 0) (v := .slice none 0 0) (Below.refl _ w) (.inl rfl)
  refine ⟨_, g1, fun key y hy => ?_⟩
  simp only [look] at hy
  split at hy
  · rename_i h
    have := Nat.eq_of_beq_eq_true h
    cases hy
    subst this
    have h0 := g4 _ _ (by omega) (hh _ _ hl)
    obtain ⟨hk, hv2, e, vs2, h1, h2, h3, v1, v2, v3, h4, h5, h6, h7⟩ := arrn_of h0
    refine (Holds.mkArrn (e := e) hk rfl h1 h2 (fun q hq => ?_) h4 h5 ?_ h7).2
    · simp only [List.mem_append, List.mem_cons] at hq
      rcases hq with hq | rfl | hq
      · exact h3 q (by simp [hq])
      · rw [List.length_set]; exact h3 mid (by simp)
      · exact h3 q (by simp [hq])
    · refine All2.of_get (by simpa using h6.length) fun j2 u v hu hv' => ?_
      rw [List.getElem?_set] at hu
      split at hu
      · rename_i hij
        subst hij
        split at hu
        · cases hu
          have hv0 : v = .slice none 0 0 := h6.get hi hv'
          subst hv0
          exact ⟨⟨none, 0, 0, rfl⟩, 0, _, _, g3, Nat.le_refl _, fun _ => rfl⟩
        · cases hu
      · exact h6.get hu hv'
  · split at hy
    · rename_i h
      have := Nat.eq_of_beq_eq_true h
      cases hy
      subst this
      exact (Holds.mkArr (e := 0) (rows := []) (vs := []) (by omega) g3 (World.ownsRow_nil w _ 0 sz2) (fun _ h => by cases h) trivial).2
    · have h0 := hh key y hy
      by_cases hlt : key < 1000
      · unfold Holds at h0 ⊢
        rw [if_pos hlt] at h0 ⊢
        exact h0.mono g2
      · exact g4 key y hlt h0
theorem OK.arrOwn {U : List Nat} {code : Code} {Q : Exit → List Nat → St → Prop} (k i j sz2 : Nat) {sz : Nat} {pre post : List (List X)} {mid mid' : List X} (hl : look s (2000 + k) = some (.arrn sz pre mid post)) (hi : mid[i]? = some .nils) (hc : mid.set i (.own j 0) = mid') (hj : (U.contains j) = false)
    (h : OK E code Q (j :: U) ((2000 + k, .arrn sz pre mid' post) :: (2000 + j, .arr sz2 []) :: s)) (hj9 : E.fs.contains j = false := by rfl) (hj1 : Nat.blt j 1000 = true := by rfl) : OK E code Q U s := fun a w hg => h a w (hg.arrOwn hl hi hc hj (nfs hj9) hj1)
theorem Good.freezePre {U : List Nat} {a : Act} {w : World} {t k n m sz : Nat} {rows rows' : List (List X)} (hg : Good E U s a w) (ht : Nat.blt t 1000 = true) (hl : look s t = some (.ownp k n sz 0 m)) (hl2 : look s (2000 + k) = some (.arr sz rows)) (hn : rows.length = n) (hm : m ≤ n) (hr : rows.take m = rows') (hk9 : k ∉ E.fs) :
    Good E U ((t, .sl rows') :: (2000 + k, .any) :: s) a w := by
  subst hr
  subst hn
  obtain ⟨c, hbs, hh⟩ := hg
  have hx : RepP c (.ownp k rows.length sz 0 m) (a.tmps.getD t undef) := (hh _ _ hl).slot ht
  obtain ⟨_, m0, hv, lv, e1, e2, e3⟩ := hx
  obtain ⟨v, e', vs, g1, g2, g3, g4⟩ := arr_of (hh _ _ hl2)
  rw [e1] at g1
  cases g1
  obtain ⟨ad, l, cp, a', cp', q1, q2, q3, q4⟩ := e3 rfl
  obtain ⟨rfl, rfl⟩ := q3 rfl
  obtain ⟨c', f1, f2, f3, f4⟩ := hbs.freeze e1 hk9
  have hml : (rows.take m).length = m := by rw [List.length_take]; omega
  have hpre : w.ownsRow 0 e' sz (.slice a' m cp') m (vs.take (m * sz)) := by
    have hvl := g2.1
    have hle : m * sz ≤ rows.length * sz := Nat.mul_le_mul_right _ hm
    rcases g2.2 with ⟨h1, h2⟩ | ⟨g, cap, cur, h1, s1, s2, s3, s4, s5, s6⟩
    · rw [q1] at h1
      cases h1
      have : m = 0 := by omega
      subst this
      exact ⟨by simp, .inl ⟨rfl, rfl⟩⟩
    · rw [q1] at h1
      cases h1
      refine ⟨by rw [List.length_take, hvl]; omega, .inr ⟨g, cp', cur, rfl, s1, s2, by omega, s4, s5, ?_⟩⟩
      rw [← s6, List.take_take, Nat.min_eq_left hle]
  refine ⟨c', f1, fun key y hy => ?_⟩
  simp only [look] at hy
  split at hy
  · rename_i h
    have := Nat.eq_of_beq_eq_true h
    cases hy
    subst this
    rw [Nat.blt_eq] at ht
    unfold Holds
    rw [if_pos ht, q2, Nat.sub_zero]
    have e6 : (rows.take m).flatten = rows.flatten.take (m * sz) := by
      have h7 : (rows.take m).flatten.length = m * sz := by rw [flatten_length (sz := sz) fun q hq => g3 q (List.mem_of_mem_take hq), hml]
      conv => rhs; rw [← List.take_append_drop m rows, List.flatten_append, ← h7]
      rw [List.take_left]
    refine RepD.toT (c := c') (RepD.of_owns (h := c.h) (vs := vs.take (m * sz)) (by rw [hml]; exact hpre) (fun q hq => g3 q (List.mem_of_mem_take hq)) (by rw [e6]; exact g4.take _) f2.h fun b o hbk => f3 _ (by rw [q1]; cases a' <;> exact hbk))
  · split at hy
    · rename_i h
      have := Nat.eq_of_beq_eq_true h
      cases hy
      subst this
      unfold Holds
      rw [if_neg (by omega)]
      exact .inl rfl
    · rename_i hne1 hne2
      have h0 := hh key y hy
      have hne : key ≠ 2000 + k := fun e => hne2 (by rw [e]; exact Nat.beq_refl _)
      by_cases hlt : key < 1000
      · unfold Holds at h0 ⊢
        rw [if_pos hlt] at h0 ⊢
        exact h0.mono f2
      · exact f4 key y hlt hne h0
theorem OK.freezePre {U : List Nat} {code : Code} {Q : Exit → List Nat → St → Prop} (t : Nat) {k n m sz : Nat} {rows rows' : List (List X)} (ht : Nat.blt t 1000 = true) (hl : look s t = some (.ownp k n sz 0 m)) (hl2 : look s (2000 + k) = some (.arr sz rows)) (hn : rows.length = n) (hm : m ≤ n) (hr : rows.take m = rows')
    (h : OK E code Q U ((t, .sl rows') :: (2000 + k, .any) :: s)) (hk9 : E.fs.contains k = false := by rfl) : OK E code Q U s := fun a w hg => h a w (hg.freezePre ht hl hl2 hn hm hr (nfs hk9))
end
end Go.Ab
namespace Go.Ab
open Go.RowKit
def RetN (E : Env) (t : Nat) (wr : St) (y : X) : Exit → List Nat → St → Prop := fun e _ s => (e = .ret ∨ e = .normal) ∧ look s t = some y ∧ Le s wr
theorem CtG.introP {P : Program} {f nt t : Nat} {fn : Func} {code : Code} {fs : List Nat} {args : List X} {rd wr : St} {y : X} (hf : P.funcs[f]? = some fn) (hb : fn.body = some code) (hn : fn.ntmps = nt) (hr : fn.results = #[.tmp t]) (ht1 : Nat.blt t 1000 = true) (hy : hiP fs y = true) (hnc : notCell y = false)
    (hl : Nat.ble args.length nt = true) (ht : args.all (fun x => !isTup x) = true) (hl2 : Nat.ble args.length 1000 = true) (hwr : wr.all (hiKey fs) = true)
    (h : ∀ w c, OK (mkE P nt fs w c) code (den (mkE P nt fs w c) (RetN (mkE P nt fs w c) t wr y) []) fs (argSt 0 args ++ rd)) : CtG P f fs args rd wr y := by
  intro c0 w vs hc0 hrd' hargs
  refine (callsIn_wide (n := 0)).1 (callsIn_of_wp_marks hf hb trivial ?_ rfl)
  have hlen := hargs.length
  rw [Nat.ble_eq] at hl hl2
  refine wpIn_mono (h w c0 { tmps := vs.toArray ++ Array.replicate (fn.ntmps - vs.toArray.size) undef, defers := [] } w ?_) ?_
  · refine ⟨c0, ⟨BelX.refl _ _ _, Nat.le_refl _, ?_, ⟨.nil, fun d hd => by cases hd⟩, (fun p hp => by cases hp), hc0.hw, Mem.le_refl _, fun p v e => .inl e, ?_, ?_, hc0.none, ?_, fun k b _ e => e, fun k m hv lv _ e => ⟨m, hv, lv, e, Nat.le_refl _, fun _ => rfl, id, fun _ h => .inl h⟩⟩, ?_⟩
    · simp [hn]; omega
    · intro k b hk
      obtain ⟨h1, h2⟩ := hc0.loc k b hk
      exact ⟨.inr ⟨h1, .inl (.inr (.inl ⟨k, h1, hk⟩))⟩, h2⟩
    · intro k m hv b hk hbk
      obtain ⟨h1, h2⟩ := hc0.arr k m hv b hk hbk
      exact ⟨.inr ⟨h1, .inl (.inr (.inr ⟨k, m, hv, h1, hk, hbk⟩))⟩, h2⟩
    · intro b hb
      obtain ⟨h1, h2⟩ := hc0.Y b hb
      exact ⟨h1, fun _ => .inl (.inl hb), h2⟩
    · intro key x hx
      rw [look_append] at hx
      cases hk : look (argSt 0 args) key with
      | some y =>
        rw [hk] at hx; cases hx
        exact slots_start hargs ht hl2 key x hk
      | none =>
        rw [hk] at hx
        exact hrd' _ (look_mem hx) _
  · rintro e a' w' ⟨U', s', ⟨c, hbase, hh⟩, ⟨he, hys, hle⟩⟩
    have hE : (mkE P nt fs w c0).B = w.heap.size := rfl
    have post : LeavesInM Fence.wide 0 P fn a'.tmps (fun e w' => ∃ v c', e = .returned v ∧ PostG fs c0 w wr y v c' w') a'.defers .returning w' := by
      refine leaves_marks (B := w.heap.size) (Z := c.all) a'.defers w' hbase.dfr.1 ?_ ?_
      · intro d hd
        obtain ⟨D, h1, h2, h3, h4⟩ := hbase.dfr.2 d hd
        exact ⟨D, h1, h2, h3, h4⟩
      · intro w2 e1 e2 e3 e4 e5 e6
        obtain ⟨hbase, hh⟩ := hbase.calm hh e1 e2 e3 e4 rfl e5 e6
        have hrun : (results fn a'.tmps).run P w2 = .ok (a'.tmps.getD t undef) w2 := by
          unfold results
          rw [hr]
          simp
        refine ⟨_, hrun, _, c.pub fs ((mkE P nt fs w c0).fin c w2), rfl, ?_⟩
        refine PostG.of_baseP hbase hE hh hle hwr ?_ (fun b h => h.elim id fun ⟨p, hp, _⟩ => by cases hp)
        have hq : RepT c y (a'.tmps.getD t undef) := (hh _ _ hys).slot ht1
        have hqP : RepP c y (a'.tmps.getD t undef) := by cases y <;> first | exact hq | cases hnc
        have hqP2 := hqP.pub (h' := (mkE P nt fs w c0).fin c w2) (Env.fin_le hbase) hy
        show RepT (c.pub fs _) y _
        cases y <;> first | exact hqP2 | cases hnc
    rcases he with rfl | rfl
    · exact post
    · exact post
def lendV (fs : List Nat) (t : St) : X → Bool
  | .agg xs => xs.all (lendC fs t)
  | x => lendC fs t x
def lendT (fs : List Nat) (t : St) : X → Bool
  | .tup xs => xs.all (lendV fs t)
  | x => lendV fs t x
theorem RepV.lend {c : Ctx} {fs : List Nat} {t : St} {x : X} {v : Value} (h : RepV c x v) (ho : lendV fs t x = true) : RepV (c.lend fs t) x v := by
  cases x
  case agg xs => obtain ⟨vs, h1, h2⟩ := h; exact ⟨vs, h1, All2.cut (R' := RepC (c.lend fs t)) (ok := lendC fs t) (fun _ _ h ho => RepC.lend h ho) h2 ho⟩
  all_goals (simp only [RepV, lendV] at h ho ⊢; exact RepC.lend h ho)
theorem RepV.back {c c3 : Ctx} {fs : List Nat} {t : St} {x : X} {v : Value} (h : RepV c3 x v) (ho : lendV fs t x = true) : RepV (c.back c3 fs t) x v := by
  cases x
  case agg xs => obtain ⟨vs, h1, h2⟩ := h; exact ⟨vs, h1, All2.cut (R' := RepC (c.back c3 fs t)) (ok := lendC fs t) (fun _ _ h ho => RepC.back h ho) h2 ho⟩
  all_goals (simp only [RepV, lendV] at h ho ⊢; exact RepC.back h ho)
theorem RepT.back {c c3 : Ctx} {fs : List Nat} {t : St} {x : X} {v : Value} (h : RepT c3 x v) (ho : lendT fs t x = true) : RepT (c.back c3 fs t) x v := by
  cases x
  case tup xs => obtain ⟨vs, h1, h2⟩ := h; exact ⟨vs, h1, All2.cut (R' := RepV (c.back c3 fs t)) (ok := lendV fs t) (fun _ _ h ho => RepV.back h ho) h2 ho⟩
  all_goals (simp only [RepT, lendT] at h ho ⊢; exact RepV.back h ho)
theorem args_lend {c : Ctx} {fs : List Nat} {t : St} : ∀ {ys : List X} {vs : List Value}, All2 (RepT c) ys vs → ys.all (fun y => lendV fs t y && !isTup y) = true → All2 (RepV (c.lend fs t)) ys vs
  | [], [], _, _ => trivial
  | y :: ys, v :: vs, h, ho => by
    simp only [List.all_cons, Bool.and_eq_true, Bool.not_eq_true'] at ho
    exact ⟨(T.toV h.1 ho.1.2).lend ho.1.1, args_lend h.2 (by simpa using ho.2)⟩
  | [], _ :: _, h, _ => h.elim
  | _ :: _, [], h, _ => h.elim
section
variable {E : Env} {all : Array Oper} {s r r1 r2 r3 rg : St} {d ty : Nat} {pos : String} {after : Array Edge} {guard : Option (Nat × Bool)} {x y z : Operand}
theorem S.callG {g : Nat} {fs : List Nat} {os : List Operand} {at_ : Array TypeId} {ys : List X} {res : X} {t t' : St} (hf : CtG E.P g fs ys t t' res)
    (hcall : ∀ args w, (callFunc g args).run E.P w = .ok (.enter g args) w) (hg : Gd all s guard rg) (hd : (Nat.blt d 1000 && Nat.blt d E.nt) = true) (ha : OpsS s os ys r) (ho : ys.all (fun y => lendV fs t y && !isTup y) = true)
    (hl : Looks s t) (ht : t.all (lendKey fs t) = true) (ht2 : t'.all (lendKey fs t) = true) (hcov : cover fs t t' = true) (hhas : fs.all (fun k => hasB t k || hasA t k) = true) (hdis : fs.all (fun k => !E.fs.contains k) = true) (hres : lendT fs t res = true) :
    St1 E all ⟨some d, .call { callee := .value (.func g), args := os.toArray, argTypes := at_ }, ty, pos, after, guard⟩ s (rg ++ (r ++ t)) ((d, res) :: t') [] := by
  simp only [Bool.and_eq_true, Nat.blt_eq] at hd
  refine ⟨?_, hg.looks.app (ha.looks.app hl)⟩
  intro U c a w hb hr _ next Q hn
  have hw := hg.wanted (o := ⟨some d, .call { callee := .value (.func g), args := os.toArray, argTypes := at_ }, ty, pos, after, guard⟩) (fun p hp => hr p (List.mem_append_left _ hp))
  have hargs := args_lend (fs := fs) (t := t) (ha.rep (c := c) (a := a) (w := w) fun p hp => hr p (by simp [hp])) ho
  unfold opIn
  rw [if_pos hw]
  refine ⟨fun _ _ => trivial, ?_⟩
  rw [Oper.semAt_eq _ _ _ fun cl he => by cases he]
  have hfo : a.eval (.func g) = .func (.func g) #[] #[] := rfl
  have hrun : (execOp a.eval ⟨some d, .call { callee := .value (.func g), args := os.toArray, argTypes := at_ }, ty, pos, after, guard⟩).run E.P w = .ok (.enter g (os.map a.eval).toArray) w := by
    simp [execOp, resolve, hfo, Deferred.ofValue, invoke, hcall]
  rw [hrun]
  refine ⟨(fun h => by cases h), ?_⟩
  have hholds : ∀ p ∈ t, Holds c a w p.1 p.2 := fun p hp => hr p (by simp [hp])
  have hc0 := hf (c.lend fs t) w (os.map a.eval) (lend_ctx hb) (fun p hp a' => (hholds p hp).lend (List.all_eq_true.1 ht p hp)) hargs
  have h1 : CallsIn E.F (0 - 1) E.P g (os.map a.eval).toArray w _ := (callsIn_wide (n := 0)).2 hc0
  refine h1.mono ?_
  rintro en w' ⟨u, c3, rfl, hpg⟩
  have hext0 : Ext (c.lend fs t) c3 := by
    refine ⟨hpg.le, fun k b e => ?_, fun k m hv lv e => ?_⟩
    · obtain ⟨hk, hhb, _⟩ := lend_loc e
      obtain ⟨h1, h2, _⟩ := cover_of hcov hk
      obtain ⟨x0, hx0, hm⟩ := hasB_mem (h2 hhb)
      obtain ⟨b', q1⟩ := boxes_of (hpg.wr _ hm { tmps := #[], defers := [] }) hx0 h1
      have := hpg.loc k b' q1
      rw [e] at this
      cases this
      exact q1
    · obtain ⟨hk, hha, _⟩ := lend_arr e
      obtain ⟨h1, _, h2⟩ := cover_of hcov hk
      obtain ⟨x0, hx0, hm⟩ := hasA_mem (h2 hha)
      obtain ⟨⟨_, _, _⟩, q1⟩ := arrs_of (hpg.wr _ hm { tmps := #[], defers := [] }) hx0
      obtain ⟨m0, hv0, lv0, q2, q3, q4⟩ := hpg.arr k _ _ _ q1
      rw [e] at q2
      cases q2
      exact ⟨_, _, _, q1, q3, q4⟩
  have hB : Backs E c c3 w w' fs t := by
    refine ⟨fun k hk => ?_, fun k hk => ?_, fun k hk => ⟨fun h => ?_, fun h => ?_⟩, hpg.below, hpg.le, fun p v hp => (hpg.new p v hp).imp id And.left, hpg.ok, hpg.out, hext0⟩
    · have := List.all_eq_true.1 hdis k hk; simpa using this
    · have := List.all_eq_true.1 hhas k hk; simpa using this
    · obtain ⟨x0, hx0, hm⟩ := hasB_mem h
      exact boxes_of (hholds _ hm) hx0 (cover_of hcov hk).1
    · obtain ⟨x0, hx0, hm⟩ := hasA_mem h
      exact arrs_of (hholds _ hm) hx0
  have hext := hB.ext'
  have hdt : d < a.tmps.size := by rw [hb.nt]; exact hd.2
  have tk : ∀ p ∈ t', 1000 ≤ p.1 := by
    intro p hp
    have h := List.all_eq_true.1 ht2 p hp
    obtain ⟨key, y⟩ := p
    unfold lendKey at h
    cases y
    case box cells => simp only [Bool.and_eq_true, Nat.ble_eq] at h; exact h.1.1.1.1
    case arr sz rows => simp only [Bool.and_eq_true, Nat.ble_eq] at h; show 1000 ≤ key; have := h.1.1.1; omega
    case omap es => simp only [Bool.and_eq_true, Nat.ble_eq] at h; exact h.1.1.1
    case arrn sz pre mid post => simp only [Bool.and_eq_true, Nat.ble_eq] at h; show 1000 ≤ key; have := h.1.1.1.1; omega
    all_goals cases h
  refine hn (c.back c3 fs t) _ w' ((hb.back hB).put _ _) hext ?_ ?_
  · intro p hp
    rcases List.mem_cons.1 hp with rfl | hp
    · unfold Holds
      rw [if_pos hd.1, getD_put hdt]
      exact hpg.res.back hres
    · have h := Holds.fromLent (c := c) (a' := a) (hpg.wr p hp a) (List.all_eq_true.1 ht2 p hp)
      exact h.put (by have := tk p hp; omega) u
  · intro key y hk2 hy
    have hne : d ≠ key := hk2 (d, res) (by simp)
    by_cases h1 : key < 1000
    · refine Holds.put ?_ hne u
      unfold Holds at hy ⊢
      rw [if_pos h1] at hy ⊢
      exact hy.mono hext
    · refine (Holds.back hb hB h1 (fun k hk3 => ⟨fun h e => ?_, fun h e => ?_⟩) hy).put hne u
      · obtain ⟨x0, _, hm⟩ := hasB_mem ((cover_of hcov hk3).2.1 h)
        exact hk2 _ (List.mem_cons_of_mem _ hm) e.symm
      · obtain ⟨x0, _, hm⟩ := hasA_mem ((cover_of hcov hk3).2.2 h)
        exact hk2 _ (List.mem_cons_of_mem _ hm) e.symm
end
end Go.Ab
namespace Go.Ab
open Go.RowKit
theorem lkI {a b : Int} (h : a = b) : some (X.int .i64 a) = some (X.int .i64 b) := by rw [h]
section
variable {E : Env} {all : Array Oper} {s r r1 r2 r3 r4 rg : St} {d ty : Nat} {pos : String} {after : Array Edge} {guard : Option (Nat × Bool)} {x y z t : Operand}
theorem S.makeFunc3 {f : Nat} {u u' u'' : X} (hg : Gd all s guard rg) (hd : (Nat.blt d 1000 && Nat.blt d E.nt) = true) (hx : OpS s x u r1) (hy : OpS s y u' r2) (hz : OpS s z u'' r3)
    (hu : notCell u = false) (hu' : notCell u' = false) (hu'' : notCell u'' = false) :
    St1 E all ⟨some d, .makeFunc (.func f) #[] #[x, y, z], ty, pos, after, guard⟩ s (rg ++ (r1 ++ (r2 ++ r3))) [(d, .fn f [u, u', u''])] [] :=
  St1.val hg hd rfl (hx.looks.app (hy.looks.app hz.looks)) fun c A w _ hr => ⟨.func (.func f) #[] #[A.eval x, A.eval y, A.eval z], by simp [execOp, Instr.makeFunc], [A.eval x, A.eval y, A.eval z], rfl, capC (hx.rep fun p hp => hr p (by simp [hp])) hu, capC (hy.rep fun p hp => hr p (by simp [hp])) hu', capC (hz.rep fun p hp => hr p (by simp [hp])) hu'', trivial⟩
def setX (keys : List (List UInt8)) : List (X × X) := keys.map fun s => (.str s, .agg [])
theorem setX_mapX (keys : List (List UInt8)) : setX keys = mapX (keys.map fun s => (s, .agg [])) := by simp [setX, mapX]
theorem lookL_set {α : Type} (a : α) (k : List UInt8) : ∀ keys : List (List UInt8), lookL (keys.map fun s => (s, a)) k = if k ∈ keys then some a else none
  | [] => rfl
  | s :: keys => by
    simp only [List.map_cons, lookL]
    by_cases h : s = k
    · simp [h]
    · rw [if_neg h, lookL_set a k keys]
      simp [List.mem_cons, Ne.symm h]
theorem putL_set {α : Type} (a : α) (k : List UInt8) : ∀ keys : List (List UInt8), k ∉ keys → putL (keys.map fun s => (s, a)) k a = (keys ++ [k]).map fun s => (s, a)
  | [], _ => rfl
  | s :: keys, h => by
    simp only [List.mem_cons, not_or] at h
    simp only [List.map_cons, putL, List.cons_append]
    rw [if_neg (Ne.symm h.1), putL_set a k keys h.2]
theorem S.lookupSet {t kt e k : Nat} {key : List UInt8} {keys : List (List UInt8)} {es : List (X × X)} {zv : Value} (ht : E.P.underlying t = some (.map kt e)) (hk : E.P.underlying kt = some .string) (hz : ∀ w, (zeroValue e).run E.P w = .ok zv w) (hzx : ∀ c, RepV c (.agg []) zv) (hg : Gd all s guard rg) (hd : (Nat.blt d 1000 && Nat.blt d E.nt) = true)
    (hx : OpS s x (.mptr k) r1) (hy : OpS s y (.str key) r2) (hl : look s (1000 + k) = some (.omap es)) (hes : es = setX keys) (hk1 : Nat.blt k 1000 = true := by rfl) :
    St1 E all ⟨some d, .lookup t x y true, ty, pos, after, guard⟩ s (rg ++ (r1 ++ (r2 ++ [(1000 + k, .omap es)]))) [(d, .tup [.agg [], .bool (decide (key ∈ keys))])] [] := by
  have h := S.lookupO (pos := pos) (after := after) (ty := ty) (l := keys.map fun s => (s, X.agg [])) (zx := .agg []) ht hk hz hzx hg hd hx hy hl (hes.trans (setX_mapX keys)) hk1
  rw [lookL_set] at h
  by_cases hm : key ∈ keys
  · rw [if_pos hm] at h
    rw [decide_eq_true hm]
    exact h
  · rw [if_neg hm] at h
    rw [decide_eq_false hm]
    exact h
theorem S.setAdd {t kt e k : Nat} {key : List UInt8} {keys : List (List UInt8)} {es : List (X × X)} (ht : E.P.underlying t = some (.map kt e)) (hk : E.P.underlying kt = some .string) (hg : Gd all s guard rg)
    (hx : OpS s x (.mptr k) r1) (hy : OpS s y (.str key) r2) (hz : OpS s z (.agg []) r3) (hl : look s (1000 + k) = some (.omap es)) (hes : es = setX keys) (hn : key ∉ keys) (hk1 : Nat.blt k 1000 = true := by rfl) :
    St1 E all ⟨none, .mapUpdate t x y z, ty, pos, after, guard⟩ s (rg ++ (r1 ++ (r2 ++ (r3 ++ [(1000 + k, .omap es)])))) [(1000 + k, .omap (setX (keys ++ [key])))] [] :=
  S.mapSetO (l := keys.map fun s => (s, X.agg [])) ht hk hg hx hy hz rfl hl (hes.trans (setX_mapX keys)) (by rw [putL_set _ _ _ hn, ← setX_mapX]) hk1
end
end Go.Ab
namespace Go.Ab
open Go.RowKit
section
variable {E : Env} {all : Array Oper} {s r r1 r2 r3 rg : St} {d ty : Nat} {pos : String} {after : Array Edge} {guard : Option (Nat × Bool)} {x y z : Operand}
theorem S.callCB {g : Nat} {os : List Operand} {at_ : Array TypeId} {ys xs : List X} {Φ : Value → Prop} {res : X} {J0 J1 : Mem → (Nat → Prop) → World → Prop} (hf : CtG E.P g [] (ys ++ [.cb Φ]) [(3000, .res J0)] [(3000, .res J1)] res) (hS : Stable J1)
    (hcall : ∀ args w, (callFunc g args).run E.P w = .ok (.enter g args) w) (hg : Gd all s guard rg) (hd : (Nat.blt d 1000 && Nat.blt d E.nt) = true) (ha : OpsS s os xs r) (hx : ys ++ [.cb Φ] = xs) (ho : ys.all okArg = true) (hl : look s 3000 = some (.res J0)) (hs : scal res = true) :
    St1 E all ⟨some d, .call { callee := .value (.func g), args := os.toArray, argTypes := at_ }, ty, pos, after, guard⟩ s (rg ++ (r ++ [(3000, .res J0)])) ((d, res) :: [(3000, .res J1)]) [] := by
  subst hx
  simp only [Bool.and_eq_true, Nat.blt_eq] at hd
  refine ⟨?_, hg.looks.app (ha.looks.app ⟨hl, trivial⟩)⟩
  intro U c a w hb hr _ next Q hn
  have hw := hg.wanted (o := ⟨some d, .call { callee := .value (.func g), args := os.toArray, argTypes := at_ }, ty, pos, after, guard⟩) (fun p hp => hr p (List.mem_append_left _ hp))
  obtain ⟨vs1, u0, e1, hys, hu0⟩ := All2.split1 (ha.rep (c := c) (a := a) (w := w) fun p hp => hr p (by simp [hp]))
  have hargs := args_clean hys ho
  have hv0 : Φ u0 := hu0
  unfold opIn
  rw [if_pos hw]
  refine ⟨fun _ _ => trivial, ?_⟩
  rw [Oper.semAt_eq _ _ _ fun cl he => by cases he]
  have hfo : a.eval (.func g) = .func (.func g) #[] #[] := rfl
  have hrun : (execOp a.eval ⟨some d, .call { callee := .value (.func g), args := os.toArray, argTypes := at_ }, ty, pos, after, guard⟩).run E.P w = .ok (.enter g (vs1 ++ [u0]).toArray) w := by
    rw [← e1]
    simp [execOp, resolve, hfo, Deferred.ofValue, invoke, hcall]
  rw [hrun]
  refine ⟨(fun h => by cases h), ?_⟩
  obtain ⟨hS0, hJ0⟩ := res_of (hr (3000, .res J0) (by simp))
  have hc0 := hf ⟨c.h, fun _ => none, fun _ => none, c.Y⟩ w (vs1 ++ [u0])
    ⟨hb.hw, (fun k b e => by cases e), (fun k m hv b e => by cases e), (fun _ _ => ⟨rfl, rfl⟩), (fun b hy => ⟨(hb.Y b hy).1, (fun k e => by cases e), (fun k m hv e => by cases e)⟩)⟩
    (fun p hp a' => by
      simp only [List.mem_singleton] at hp
      subst hp
      exact Holds.mkRes hS0 hJ0)
    ((hargs.mono fun _ _ => RepV.mono (pure_ext (c := Ctx.mk c.h (fun _ => none) (fun _ => none) c.Y) rfl)).append (show All2 (RepV (Ctx.mk c.h (fun _ => none) (fun _ => none) c.Y)) [X.cb Φ] [u0] from ⟨hv0, trivial⟩))
  have h1 : CallsIn E.F (0 - 1) E.P g (vs1 ++ [u0]).toArray w _ := (callsIn_wide (n := 0)).2 hc0
  refine h1.mono ?_
  rintro en w' ⟨u, c2, rfl, hpg⟩
  obtain ⟨_, hJ1⟩ := res_of (hpg.wr (3000, .res J1) (by simp) a)
  have out0 : ∀ b, (Ctx.mk c.h (fun _ => none) (fun _ => none) c.Y).out [] b → c.Y b := by
    rintro b (hy | ⟨k, q, _⟩ | ⟨k, m, hv, q, _⟩)
    · exact hy
    · cases q
    · cases q
  have hp : PostJ c.h c.Y w c2.h c2.Y w' := ⟨hpg.below.mono (Nat.le_refl _) fun k _ hk => out0 k hk, hpg.le, fun p v hp => (hpg.new p v hp).imp id fun q => ⟨q.1, fun hy => q.2 (.inl hy)⟩, hpg.ok.hw, fun b hy => (hpg.ok.Y b hy).1, fun b hy hlt => out0 b (hpg.out b (.inl hy) hlt)⟩
  have hext : Ext c ⟨c2.h, c.loc, c.arr, c2.Y⟩ := ⟨hp.le, fun _ _ e => e, fun _ m hv lv e => ⟨m, hv, lv, e, Nat.le_refl _, fun _ => rfl⟩⟩
  have hdt : d < a.tmps.size := by rw [hb.nt]; exact hd.2
  refine hn ⟨c2.h, c.loc, c.arr, c2.Y⟩ _ w' ((hb.turn hp).put _ _) hext ?_ ?_
  · intro p hp2
    simp only [List.mem_cons, List.not_mem_nil, or_false] at hp2
    rcases hp2 with rfl | rfl
    · unfold Holds
      rw [if_pos hd.1, getD_put hdt]
      exact scal_any hs hpg.res
    · exact (Holds.mkRes (c := ⟨c2.h, c.loc, c.arr, c2.Y⟩) (a := a) hS hJ1).put (by show d ≠ 3000; omega) u
  · intro key y hk hy
    have hne : d ≠ key := hk (d, res) (by simp)
    have hne2 : 3000 ≠ key := hk (3000, .res J1) (by simp)
    by_cases h1 : key < 1000
    · refine Holds.put ?_ hne u
      unfold Holds at hy ⊢
      rw [if_pos h1] at hy ⊢
      exact hy.mono hext
    · exact (Holds.turn hb hp h1 (fun e => hne2 e.symm) hy).put hne u
theorem S.appendClipD {t e sz bytes j m : Nat} {rows rows2 rows' : List (List X)} (hA : ApI E.P t e sz bytes) (hg : Gd all s guard rg) (hd : (Nat.blt d 1000 && Nat.blt d E.nt) = true) (hx : OpS s x (.slc rows) r1) (hw : ∀ q ∈ rows, q.length = sz)
    (hy : OpS s y (.own j m) r2) (hl2 : look s (2000 + j) = some (.arr sz rows2)) (hm : rows2.length = m) (hm0 : 0 < m) (hrows : rows ++ rows2 = rows') (hbd : (rows.length + m) * bytes ≤ 140737488355328) (hbm : rows.length + m ≤ maxLen) :
    St1 E all ⟨some d, .call { callee := .builtin .append, args := #[x, y], argTypes := #[t, t] }, ty, pos, after, guard⟩ s (rg ++ (r1 ++ (r2 ++ [(2000 + j, .arr sz rows2)]))) [(d, .sl rows')] [] :=
  St1.mk hg hd rfl (hx.looks.app (hy.looks.app ⟨hl2, trivial⟩)) fun U c a w hb hr hal => by
    clear hal
    subst hrows
    subst hm
    have hxr : RepP c (.slc rows) (a.eval x) := hx.rep (c := c) (a := a) (w := w) fun p hp => hr p (by simp [hp])
    obtain ⟨hxD, ad, hxv⟩ := hxr
    obtain ⟨_, m0, hv, lv, e1, e2, e3⟩ := own_of (hy.rep (c := c) (a := a) (w := w) fun p hp => hr p (by simp [hp]))
    obtain ⟨v, e', vs, g1, g2, g3, g4⟩ := arr_of (hr (2000 + j, .arr sz rows2) (by simp))
    rw [e1] at g1
    cases g1
    have hyv := e3 rfl
    obtain ⟨i, zv, i1, i2, i3, i4, i5⟩ := hA.ex
    obtain ⟨xs, x1, x2, x3⟩ : ∃ xs : List Value, xs.length = rows.length * sz ∧ All2 (RepD c.h) rows.flatten xs ∧ ((ad = none ∧ rows.length = 0) ∨ ∃ A, ad = some A ∧ ∀ j u, xs[j]? = some u → w.cell? (A.add j) = some u) := by
      rw [hxv] at hxD
      cases hxD with
      | sl0 _ cap h =>
        refine ⟨[], by simp, trivial, ?_⟩
        cases ad with
        | none => exact .inl ⟨rfl, rfl⟩
        | some A => exact .inr ⟨A, rfl, fun j u h => by simp at h⟩
      | sl _ b off cap sz' vs0 h1 h2 h3 h4 h5 h6 =>
        exact ⟨vs0, by rw [← h4, flatten_length hw], All2.of_get h4 fun i u v hu hv => h6 i u v hu hv, .inr ⟨_, rfl, fun j u hu => by rw [add_off]; exact hb.hw _ _ (h5 j u hu)⟩⟩
    obtain ⟨cap, cells, q1, q2⟩ := run_append_clip (P := E.P) w t ty e i zv sz bytes hA.und i1 i2 i3 i4 i5 ad rows.length xs x1 x3 (a.eval y) rows2.length hm0 vs (by
        intro w2
        rw [hyv]
        rcases g2.2 with ⟨rfl, h0⟩ | ⟨g, cap, cur, rfl, _⟩
        · omega
        · simp [Builtin.lenOf]) g2.1 (by
        intro w' hw'
        rw [hyv]
        rcases g2.2 with ⟨rfl, h0⟩ | ⟨g, cap, cur, rfl, h1, h2, h3, h4, h5, h6⟩
        · omega
        · exact run_firstCells_some w' sz rows2.length ⟨g, 0, none⟩ rows2.length cap vs g2.1 fun i u hu => by rw [hw']; exact g2.cells (g := g) rfl i u hu) hbm hbd
    obtain ⟨w', hw'⟩ : ∃ w', w' = w.drew.alloc (.cells cells e) := ⟨_, rfl⟩
    rw [← hw'] at q1 q2
    have hB : Below w.heap.size w w' := hw' ▸ ((Below.refl w.heap.size w).drew).alloc (Nat.le_refl _) (.cells cells e)
    obtain ⟨h', hh'⟩ : ∃ h' : Mem, h' = fun p => if p.block = w.heap.size then w'.cell? p else c.h p := ⟨_, rfl⟩
    have hle : Mem.le c.h h' := by
      intro p u hp
      rw [hh']
      dsimp only
      rw [if_neg (by have := block_lt_of_cell (hb.hw p u hp); omega)]
      exact hp
    have hnw : ∀ p u, h' p = some u → c.h p = some u ∨ w.heap.size ≤ p.block := fun p u hp => by
      rw [hh'] at hp
      dsimp only at hp
      split at hp
      · exact .inr (by omega)
      · exact .inl hp
    have hbase2 := hb.below_grow hB hle hnw (fun p u hp => by
      rw [hh'] at hp
      dsimp only at hp
      split at hp
      · exact hp
      · rw [hB.cell (block_lt_of_cell (hb.hw p u hp))]; exact hb.hw p u hp)
    have hext : Ext c ⟨h', c.loc, c.arr, c.Y⟩ := ⟨hle, fun _ _ e => e, fun _ m hv lv e => ⟨m, hv, lv, e, Nat.le_refl _, fun _ => rfl⟩⟩
    refine ⟨.slice (some ⟨w.heap.size, 0, none⟩) (rows.length + rows2.length) cap, ⟨h', c.loc, c.arr, c.Y⟩, w', ?_, hbase2, hext, ?_, (fun p hp => by cases hp), fun key u hkey _ hu => Holds.below hb hB hext (fun _ _ _ e => e) rfl hnw hbase2.hw hkey hu⟩
    · simp only [execOp, resolve, invoke, builtin, Sem.run_bind, Sem.run_pure, Result.andThen_ok, List.map_toArray, List.map_cons, List.map_nil, hxv, q1]
    · refine RepD.toT (c := ⟨h', c.loc, c.arr, c.Y⟩) (RepD.of_owns (h := c.h) (rows := rows ++ rows2) (vs := xs ++ vs) (by rw [List.length_append]; exact q2) (fun q hq => ?_) (by rw [List.flatten_append]; exact x2.append g4) hle fun b o hbk => ?_)
      · rcases List.mem_append.1 hq with h | h
        · exact hw q h
        · exact g3 q h
      · cases hbk
        rw [hh']
        dsimp only
        rw [if_pos rfl]
theorem S.eqnilN {t t2 e : Nat} (ht : E.P.underlying t = some (.slice e)) (hg : Gd all s guard rg) (hd : (Nat.blt d 1000 && Nat.blt d E.nt) = true) (hx : OpS s x .nils r) :
    St1 E all ⟨some d, .binOp .eql t x (.const (.slice none 0 0)) t2, ty, pos, after, guard⟩ s (rg ++ r) [(d, .bool true)] [] :=
  St1.val hg hd rfl hx.looks fun c A w _ hr => by
    have hv : A.eval x = .slice none 0 0 := hx.rep (c := c) (a := A) (w := w) hr
    refine ⟨.bool true, ?_, RepD.toT (.bool _)⟩
    have hc : A.eval (.const (.slice none 0 0)) = .slice none 0 0 := rfl
    have hq : (eqGuard .eql t x (.const (.slice none 0 0)) (.slice none 0 0) (.slice none 0 0)).run E.P w = .ok () w := by simp [eqGuard]
    have hr := Lib.run_eql_slice_nil (P := E.P) w t e none 0 0 0 0 ht
    simp only [execOp, hv, hc, Sem.run_bind, hq, Result.andThen_ok, hr]
    rfl
end
end Go.Ab
namespace Go.Ab
open Go.RowKit
theorem Ret.r4 {E : Env} {U : List Nat} {s : St} {r1 r2 r3 r4 : ResultVar} {y1 y2 y3 y4 res : X} (h1 : RetI E s r1 y1) (h2 : RetI E s r2 y2) (h3 : RetI E s r3 y3) (h4 : RetI E s r4 y4) (he : .tup [y1, y2, y3, y4] = res) : RetQ E [r1, r2, r3, r4] res .ret U s :=
  ⟨.inl rfl, [y1, y2, y3, y4], ⟨h1, h2, h3, h4, trivial⟩, he⟩
section
variable {E : Env} {all : Array Oper} {s r r1 r2 r3 rg : St} {d ty : Nat} {pos : String} {after : Array Edge} {guard : Option (Nat × Bool)} {x y z : Operand}
theorem drop_flat {α : Type} {sz : Nat} : ∀ {rows : List (List α)} {i : Nat} {u : List α}, (∀ q ∈ rows, q.length = sz) → rows[i]? = some u → ∃ tl, rows.flatten.drop (i * sz) = u ++ tl
  | [], _, _, _, h => by simp at h
  | q :: rows, 0, u, _, h => by simp at h; subst h; exact ⟨rows.flatten, by simp⟩
  | q :: rows, i + 1, u, hr, h => by
    obtain ⟨tl, e⟩ := drop_flat (rows := rows) (i := i) (fun p hp => hr p (List.mem_cons_of_mem q hp)) (by simpa using h)
    refine ⟨tl, ?_⟩
    rw [List.flatten_cons, Nat.succ_mul, Nat.add_comm, List.drop_append, ← hr q List.mem_cons_self]
    simp only [List.drop_of_length_le (Nat.le_add_right _ _), List.nil_append, Nat.add_sub_cancel_left]
    rw [hr q List.mem_cons_self]
    exact e
theorem S.oload {T k n off sz i : Nat} {us : List X} {rows : List (List X)} (ht : TyI E.P T true sz) (hg : Gd all s guard rg) (hd : (Nat.blt d 1000 && Nat.blt d E.nt) = true) (hx : OpS s x (.optr k n off) r) (hl : look s (2000 + k) = some (.arr sz rows)) (hn : rows.length = n)
    (hoff : off = i * sz) (hu : rows[i]? = some us) : St1 E all ⟨some d, .load T x, ty, pos, after, guard⟩ s (rg ++ (r ++ [(2000 + k, .arr sz rows)])) [(d, .agg us)] [] :=
  St1.val hg hd rfl (hx.looks.app ⟨hl, trivial⟩) fun c A w hh hr => by
    subst hn
    subst hoff
    obtain ⟨m, hv, lv, e1, e2, e3⟩ := optr_of (hx.rep (c := c) (a := A) (w := w) fun p hp => hr p (by simp [hp]))
    obtain ⟨v, e', vs, g1, g2, g3, g4⟩ := arr_of (hr (2000 + k, .arr sz rows) (by simp))
    rw [e1] at g1
    cases g1
    obtain ⟨b, l, cp, rfl, hp⟩ := e3 rfl
    have hus : us.length = sz := g3 us (List.mem_of_getElem? hu)
    obtain ⟨tl, etl⟩ := drop_flat g3 hu
    have h5 : All2 (RepD c.h) us ((vs.drop (i * sz)).take sz) := by
      have h6 := (g4.drop (i * sz)).take sz
      rw [etl, ← hus, List.take_left] at h6
      rwa [hus] at h6
    have hlen := h5.length
    refine ⟨.agg ((vs.drop (i * sz)).take sz).toArray, ?_, _, rfl, h5.mono fun _ _ h => RepD.toC h⟩
    simp only [execOp, hp]
    rw [Sem.run_bind, run_loadN ht (vs := (vs.drop (i * sz)).take sz) (by omega) fun j v hv => ?_]
    · rfl
    · rw [List.getElem?_take] at hv
      split at hv
      · rw [List.getElem?_drop] at hv
        have := g2.cells (g := b) rfl (i * sz + j) v hv
        rw [add_off] at this
        rwa [show 0 + (i * sz + j) = i * sz + j by omega] at this
      · cases hv
theorem Base.addH {U : List Nat} {c : Ctx} {a : Act} {w : World} (hb : Base E U c a w) {b : Nat} (h1 : E.B ≤ b) (h3 : ∀ k, c.loc k ≠ some b) (h4 : ∀ k m hv, c.arr k = some (m, hv, true) → hv.ownBlock ≠ some b) (h5 : ¬ c.Y b) {h' : Mem} (hh' : h' = fun p => if p.block = b then w.cell? p else c.h p) :
    Base E U ⟨h', c.loc, c.arr, c.Y⟩ a w ∧ Mem.le c.h h' ∧ (∀ p v, h' p = some v → c.h p = some v ∨ ¬ c.Y p.block) ∧ (∀ p v, h' p = some v → w.cell? p = some v) := by
  have hle : Mem.le c.h h' := by
    intro p u hp
    rw [hh']
    dsimp only
    split
    · exact hb.hw p u hp
    · exact hp
  have hin : ∀ p u, h' p = some u → c.h p = some u ∨ (p.block = b ∧ w.cell? p = some u) := by
    intro p u hp
    rw [hh'] at hp
    dsimp only at hp
    split at hp
    · exact .inr ⟨‹_›, hp⟩
    · exact .inl hp
  have hwn : ∀ p u, h' p = some u → w.cell? p = some u := by
    intro p u hp
    rcases hin p u hp with h | h
    · exact hb.hw p u h
    · exact h.2
  have none_of : ∀ b' o, b' ≠ b → c.h ⟨b', o, none⟩ = none → h' ⟨b', o, none⟩ = none := by
    intro b' o hne hn
    rw [hh']
    dsimp only
    rw [if_neg hne]
    exact hn
  refine ⟨⟨hb.below, hb.hB, hb.nt, hb.dfr, hb.pin, hwn, Mem.le_trans hb.hle hle, ?_, ?_, ?_, hb.used, hb.Y, hb.loc0, hb.arr0⟩, hle, ?_, hwn⟩
  · intro p u hp
    rcases hin p u hp with h | h
    · exact hb.hnew p u h
    · exact .inr ⟨by rw [h.1]; exact h1, by rw [h.1]; exact h5⟩
  · intro j b' hj
    obtain ⟨q1, q2, q3, q4, q5⟩ := hb.loc j b' hj
    exact ⟨q1, q2, fun o => none_of b' o (fun e => h3 j (e ▸ hj)) (q3 o), q4, q5⟩
  · intro j m u b' hj hbk
    obtain ⟨q1, q2, q3, q4⟩ := hb.arr j m u b' hj hbk
    exact ⟨q1, q2, fun o => none_of b' o (fun e => h4 j m u hj (e ▸ hbk)) (q3 o), q4⟩
  · intro p u hp
    rcases hin p u hp with h | h
    · exact .inl h
    · exact .inr (by rw [h.1]; exact h5)
theorem Good.freezeP {U U' : List Nat} {s1 : St} {a : Act} {w : World} {t k : Nat} {cells : List X} (hg : Good E U s a w) (ht : Nat.blt t 1000 = true) (hk : Nat.blt k 1000 = true) (hl : look s t = some (.ptr k 0)) (hl2 : look s (1000 + k) = some (.box cells)) (hD : cells.all okD = true) (hk9 : k ∉ E.fs)
    (hkU : U'.contains k = false) (hle : Le s s1) (ho : s1.all (okKey U') = true) : Good E U' ((t, .eptr cells) :: s1) a w := by
  obtain ⟨c, hb, hh⟩ := hg
  obtain ⟨b, f1, f2⟩ := ptr_of ((hh _ _ hl).slot ht)
  rw [Nat.blt_eq] at ht hk
  obtain ⟨b', T, vs, g1, g2, g3⟩ := box_of (hh _ _ hl2) hk
  rw [f1] at g1
  cases g1
  have g4 : All2 (RepD c.h) cells vs.toList := Ds_of g3 hD
  obtain ⟨q1, q2, q3, q4, q5⟩ := hb.loc k b f1
  have hcell : ∀ (i : Nat) (v : Value), vs.toList[i]? = some v → w.cell? ⟨b, i, none⟩ = some v := fun i v hv => by
    rw [Array.getElem?_toList] at hv
    simp [World.cell?, g2, hv]
  obtain ⟨h', hh'⟩ : ∃ h' : Mem, h' = fun p => if p.block = b then w.cell? p else (c.cut U').h p := ⟨_, rfl⟩
  obtain ⟨t1, t2, t3, t4⟩ := (hb.cut U').addH (b := b) (Env.ok_own q1 hk9) (fun j hj => by
      have hcj : (c.cut U').loc j = some b := hj
      simp only [Ctx.cut] at hcj
      split at hcj
      · rename_i hc
        have := q4 j hcj
        subst this
        rw [hkU] at hc; cases hc
      · cases hcj) (fun j m hv' hj e => by
      have hcj : (c.cut U').arr j = some (m, hv', true) := hj
      simp only [Ctx.cut] at hcj
      split at hcj
      · exact q5 j m hv' hcj e
      · cases hcj) (fun hy => (hb.Y b hy).2.2.1 k f1) hh'
  have hext : Ext (c.cut U') ⟨h', (c.cut U').loc, (c.cut U').arr, (c.cut U').Y⟩ := ⟨t2, fun _ _ e => e, fun _ m hv lv e => ⟨m, hv, lv, e, Nat.le_refl _, fun _ => rfl⟩⟩
  refine ⟨_, t1, fun key x hx => ?_⟩
  simp only [look] at hx
  split at hx
  · rename_i e
    have := Nat.eq_of_beq_eq_true e
    cases hx
    subst this
    unfold Holds
    rw [if_pos ht]
    show RepD h' (.eptr cells) _
    rw [f2]
    refine .eptr cells b 0 vs.toList g4.length (fun i v hv => ?_) fun i x v hx hv => (g4.get hx hv).mono t2
    rw [hh']
    dsimp only
    rw [if_pos rfl, Nat.zero_add]
    exact hcell i v hv
  · have h0 := Holds.cut (hh key x (hle.look key x hx)) (List.all_eq_true.1 ho _ (look_mem hx))
    by_cases hk' : key < 1000
    · unfold Holds at h0 ⊢
      rw [if_pos hk'] at h0 ⊢
      exact h0.mono hext
    · exact grow_holds t2 t3 t4 hk' h0
theorem OK.freezeP {U : List Nat} {code : Code} {Q : Exit → List Nat → St → Prop} (U' : List Nat) (s1 : St) (t : Nat) {k : Nat} {cells : List X} (ht : Nat.blt t 1000 = true) (hk : Nat.blt k 1000 = true) (hl : look s t = some (.ptr k 0)) (hl2 : look s (1000 + k) = some (.box cells)) (hD : cells.all okD = true)
    (hkU : U'.contains k = false) (hle : Le s s1) (ho : s1.all (okKey U') = true) (h : OK E code Q U' ((t, .eptr cells) :: s1)) (hk9 : E.fs.contains k = false := by rfl) : OK E code Q U s := fun a w hg => h a w (hg.freezeP ht hk hl hl2 hD (nfs hk9) hkU hle ho)
theorem Good.ownP {U : List Nat} {a : Act} {w : World} {t k n sz : Nat} {rows : List (List X)} (hg : Good E U s a w) (ht : Nat.blt t 1000 = true) (hl : look s t = some (.own k n)) (hl2 : look s (2000 + k) = some (.arr sz rows)) (hn : rows.length = n) : Good E U ((t, .ownp k n sz 0 n) :: s) a w := by
  subst hn
  obtain ⟨c, hb, hh⟩ := hg
  obtain ⟨h0, m, hv, lv, e1, e2, e3⟩ := own_of ((hh _ _ hl).slot ht)
  obtain ⟨v, e', vs, g1, g2, g3, g4⟩ := arr_of (hh _ _ hl2)
  rw [e1] at g1
  cases g1
  have hev := e3 rfl
  obtain ⟨a', cap, q1, q2, q3⟩ := sub_of g2 0 rows.length (Nat.zero_le _) (Nat.le_refl _)
  refine ⟨c, hb, fun key x hx => ?_⟩
  simp only [look] at hx
  split at hx
  · rename_i e
    have := Nat.eq_of_beq_eq_true e
    cases hx
    subst this
    unfold Holds
    rw [if_pos (by simpa using ht)]
    refine ⟨h0, _, _, _, e1, Nat.le_refl _, fun _ => ?_⟩
    have hs : (if cap = 0 then a' else a'.map (·.add (0 * sz))) = a' := by
      split
      · rfl
      · rcases g2.2 with ⟨z1, z2⟩ | ⟨g, cap', cur, z1, _⟩
        · rw [q1] at z1; injection z1 with z3; rw [z3]; rfl
        · rw [q1] at z1
          cases z1
          simp only [Option.map_some, Nat.zero_mul, add_zero']
    rw [hs, Nat.sub_zero, Nat.sub_zero, ← q1] at q3
    rw [hev]
    exact q3
  · exact hh key x hx
theorem OK.ownP {U : List Nat} {code : Code} {Q : Exit → List Nat → St → Prop} (t : Nat) {k n sz : Nat} {rows : List (List X)} (ht : Nat.blt t 1000 = true) (hl : look s t = some (.own k n)) (hl2 : look s (2000 + k) = some (.arr sz rows)) (hn : rows.length = n)
    (h : OK E code Q U ((t, .ownp k n sz 0 n) :: s)) : OK E code Q U s := fun a w hg => h a w (hg.ownP ht hl hl2 hn)
end
end Go.Ab
