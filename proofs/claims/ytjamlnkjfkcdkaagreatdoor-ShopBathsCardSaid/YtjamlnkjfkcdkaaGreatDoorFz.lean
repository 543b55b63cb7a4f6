/-
  Abstract states: methods as function values; calls that are given a function value of others; functions that hand on a pointer to memory of the resource.
-/
import Derived.Test.YtjamlnkjfkcdkaaGreatDoorFy
namespace Go.Ab
open Go.RowKit
/-- A method with its receiver, as a function value of others. -/
theorem cb_of_first {P : Program} {f : Nat} {v1 : Value} {ys : List X} {res : X} {J0 J1 : Mem → (Nat → Prop) → World → Prop} (hf : CtG P f [] (.raw v1 :: ys) [(3000, .res J0)] [(3000, .res J1)] res) (hcall : ∀ args w, (callFunc f args).run P w = .ok (.enter f args) w) (hs : scal res = true) (hS : Stable J0) :
    CbOk P (.func (.func f) #[v1] #[]) ys res J0 J1 := by
  intro h Y w vs hw hY hJ hargs
  refine .inl ⟨f, #[v1], #[], rfl, hcall, ?_⟩
  have h1 := hf ⟨h, fun _ => none, fun _ => none, Y⟩ w (v1 :: vs) ⟨hw, (fun k b e => by cases e), (fun k m hv b e => by cases e), (fun _ _ => ⟨rfl, rfl⟩), (fun b hy => ⟨hY b hy, (fun k e => by cases e), (fun k m hv e => by cases e)⟩)⟩
    (fun p hp a => by
      simp only [List.mem_singleton] at hp
      subst hp
      exact Holds.mkRes hS hJ)
    ⟨rfl, hargs.mono fun _ _ => RepV.mono (pure_ext rfl)⟩
  have e : (v1 :: vs).toArray = #[v1] ++ vs.toArray ++ #[] := by simp
  rw [e] at h1
  refine h1.mono ?_
  rintro en w' ⟨u, c', rfl, hpg⟩
  have out0 : ∀ b, (Ctx.mk h (fun _ => none) (fun _ => none) Y).out [] b → Y b := by
    rintro b (hy | ⟨k, q, _⟩ | ⟨k, m, hv, q, _⟩)
    · exact hy
    · cases q
    · cases q
  have out1 : ∀ b, c'.out [] b → c'.Y b := by
    rintro b (hy | ⟨k, q, _⟩ | ⟨k, m, hv, q, _⟩)
    · exact hy
    · cases q
    · cases q
  refine ⟨u, c'.h, c'.Y, rfl, ⟨hpg.below.mono (Nat.le_refl _) fun k _ hk => out0 k hk, hpg.le, fun p v hp => (hpg.new p v hp).imp id fun q => ⟨q.1, fun hy => q.2 (.inl hy)⟩, hpg.ok.hw, fun b hy => (hpg.ok.Y b hy).1, fun b hy hlt => out0 b (hpg.out b (.inl hy) hlt)⟩, ?_, scal_any hs hpg.res⟩
  exact (res_of (hpg.wr (3000, .res J1) (by simp) { tmps := #[], defers := [] })).2
section
variable {E : Env} {all : Array Oper} {s r r1 r2 r3 rg : St} {d ty : Nat} {pos : String} {after : Array Edge} {guard : Option (Nat × Bool)} {x y z : Operand}
theorem S.makeFuncF {f : Nat} {v : Value} (hg : Gd all s guard rg) (hd : (Nat.blt d 1000 && Nat.blt d E.nt) = true) (hx : OpS s x (.raw v) r) :
    St1 E all ⟨some d, .makeFunc (.func f) #[x] #[], ty, pos, after, guard⟩ s (rg ++ r) [(d, .raw (.func (.func f) #[v] #[]))] [] :=
  St1.val hg hd rfl hx.looks fun c A w _ hr => by
    have h0 : A.eval x = v := hx.rep (c := c) (a := A) (w := w) hr
    exact ⟨.func (.func f) #[v] #[], by simp [execOp, Instr.makeFunc, h0], rfl⟩
/-- A call that turns the resource, and is given a function value. -/
theorem S.callF {g : Nat} {os : List Operand} {at_ : Array TypeId} {ys xs : List X} {v0 : Value} {res : X} {J0 J1 : Mem → (Nat → Prop) → World → Prop} (hf : CtG E.P g [] (ys ++ [.cb fun v => v = v0]) [(3000, .res J0)] [(3000, .res J1)] res) (hS : Stable J1)
    (hcall : ∀ args w, (callFunc g args).run E.P w = .ok (.enter g args) w) (hg : Gd all s guard rg) (hd : (Nat.blt d 1000 && Nat.blt d E.nt) = true) (ha : OpsS s os xs r) (hx : ys ++ [.raw v0] = xs) (ho : ys.all okArg = true) (hl : look s 3000 = some (.res J0)) (hs : scal res = true) :
    St1 E all ⟨some d, .call { callee := .value (.func g), args := os.toArray, argTypes := at_ }, ty, pos, after, guard⟩ s (rg ++ (r ++ [(3000, .res J0)])) ((d, res) :: [(3000, .res J1)]) [] := by
  subst hx
  simp only [Bool.and_eq_true, Nat.blt_eq] at hd
  refine ⟨?_, hg.looks.app (ha.looks.app ⟨hl, trivial⟩)⟩
  intro U c a w hb hr _ next Q hn
  have hw := hg.wanted (o := ⟨some d, .call { callee := .value (.func g), args := os.toArray, argTypes := at_ }, ty, pos, after, guard⟩) (fun p hp => hr p (List.mem_append_left _ hp))
  obtain ⟨vs1, u0, e1, hys, hu0⟩ := All2.split1 (ha.rep (c := c) (a := a) (w := w) fun p hp => hr p (by simp [hp]))
  have hargs := args_clean hys ho
  have hv0 : u0 = v0 := hu0
  subst hv0
  unfold opIn
  rw [if_pos hw]
  refine ⟨fun _ _ => trivial, ?_⟩
  rw [Oper.semAt_eq _ _ _ fun cl he => by cases he]
  have hfo : a.eval (.func g) = .func (.func g) #[] #[] := rfl
  have hrun : (execOp a.eval ⟨some d, .call { callee := .value (.func g), args := os.toArray, argTypes := at_ }, ty, pos, after, guard⟩).run E.P w = .ok (.enter g (vs1 ++ [u0]).toArray) w := by
    rw [← e1]
    simp [execOp, resolve, hfo, Deferred.ofValue, invoke, hcall]
  rw [hrun]
  refine ⟨(fun h => by cases h), ?_⟩
  obtain ⟨hS0, hJ0⟩ := res_of (hr (3000, .res J0) (by simp))
  have hc0 := hf ⟨c.h, fun _ => none, fun _ => none, c.Y⟩ w (vs1 ++ [u0])
    ⟨hb.hw, (fun k b e => by cases e), (fun k m hv b e => by cases e), (fun _ _ => ⟨rfl, rfl⟩), (fun b hy => ⟨(hb.Y b hy).1, (fun k e => by cases e), (fun k m hv e => by cases e)⟩)⟩
    (fun p hp a' => by
      simp only [List.mem_singleton] at hp
      subst hp
      exact Holds.mkRes hS0 hJ0)
    ((hargs.mono fun _ _ => RepV.mono (pure_ext (c := Ctx.mk c.h (fun _ => none) (fun _ => none) c.Y) rfl)).append (show All2 (RepV (Ctx.mk c.h (fun _ => none) (fun _ => none) c.Y)) [X.cb fun v => v = u0] [u0] from ⟨rfl, trivial⟩))
  have h1 : CallsIn E.F (0 - 1) E.P g (vs1 ++ [u0]).toArray w _ := (callsIn_wide (n := 0)).2 hc0
  refine h1.mono ?_
  rintro en w' ⟨u, c2, rfl, hpg⟩
  obtain ⟨_, hJ1⟩ := res_of (hpg.wr (3000, .res J1) (by simp) a)
  have out0 : ∀ b, (Ctx.mk c.h (fun _ => none) (fun _ => none) c.Y).out [] b → c.Y b := by
    rintro b (hy | ⟨k, q, _⟩ | ⟨k, m, hv, q, _⟩)
    · exact hy
    · cases q
    · cases q
  have hp : PostJ c.h c.Y w c2.h c2.Y w' := ⟨hpg.below.mono (Nat.le_refl _) fun k _ hk => out0 k hk, hpg.le, fun p v hp => (hpg.new p v hp).imp id fun q => ⟨q.1, fun hy => q.2 (.inl hy)⟩, hpg.ok.hw, fun b hy => (hpg.ok.Y b hy).1, fun b hy hlt => out0 b (hpg.out b (.inl hy) hlt)⟩
  have hext : Ext c ⟨c2.h, c.loc, c.arr, c2.Y⟩ := ⟨hp.le, fun _ _ e => e, fun _ m hv lv e => ⟨m, hv, lv, e, Nat.le_refl _, fun _ => rfl⟩⟩
  have hdt : d < a.tmps.size := by rw [hb.nt]; exact hd.2
  refine hn ⟨c2.h, c.loc, c.arr, c2.Y⟩ _ w' ((hb.turn hp).put _ _) hext ?_ ?_
  · intro p hp2
    simp only [List.mem_cons, List.not_mem_nil, or_false] at hp2
    rcases hp2 with rfl | rfl
    · unfold Holds
      rw [if_pos hd.1, getD_put hdt]
      exact scal_any hs hpg.res
    · exact (Holds.mkRes (c := ⟨c2.h, c.loc, c.arr, c2.Y⟩) (a := a) hS hJ1).put (by show d ≠ 3000; omega) u
  · intro key y hk hy
    have hne : d ≠ key := hk (d, res) (by simp)
    have hne2 : 3000 ≠ key := hk (3000, .res J1) (by simp)
    by_cases h1 : key < 1000
    · refine Holds.put ?_ hne u
      unfold Holds at hy ⊢
      rw [if_pos h1] at hy ⊢
      exact hy.mono hext
    · exact (Holds.turn hb hp h1 (fun e => hne2 e.symm) hy).put hne u
end
/-- A function that hands on a pointer to new memory, of which the resource knows. -/
def CtX (P : Program) (f : Nat) (args : List X) {ι : Type} (res : ι → X) (J : ι → Mem → (Nat → Prop) → World → Prop) : Prop :=
  ∀ (h : Mem) (w : World) (vs : List Value), (∀ p v, h p = some v → w.cell? p = some v) → All2 (RepV (pureC h)) args vs →
    Calls P f vs.toArray w fun en w' => ∃ q v h' Y', en = .returned v ∧ PostJ h (fun _ => False) w h' Y' w' ∧ RepT (pureC h') (res q) v ∧ J q h' Y' w'
def RetX (E : Env) (rs : List ResultVar) {ι : Type} (res : ι → X) (J : ι → Mem → (Nat → Prop) → World → Prop) : Exit → List Nat → St → Prop := fun e U s => ∃ q, RetQ E rs (res q) e U s ∧ look s 3000 = some (.res (J q))
theorem CtX.intro {P : Program} {f nt : Nat} {fn : Func} {code : Code} {rs : List ResultVar} {args : List X} {ι : Type} {res : ι → X} {J : ι → Mem → (Nat → Prop) → World → Prop} (hf : P.funcs[f]? = some fn) (hb : fn.body = some code) (hn : fn.ntmps = nt) (hr : fn.results = rs.toArray)
    (hl : Nat.ble args.length nt = true) (ht : args.all (fun x => !isTup x) = true) (hl2 : Nat.ble args.length 1000 = true)
    (h : ∀ w c, OK (mkE P nt [] w c) code (den (mkE P nt [] w c) (RetX (mkE P nt [] w c) rs res J) []) [] (argSt 0 args)) : CtX P f args res J := by
  intro h0 w vs hw hargs
  refine (callsIn_wide (n := 0)).1 (callsIn_of_wp_marks hf hb trivial ?_ rfl)
  have hlen := hargs.length
  rw [Nat.ble_eq] at hl hl2
  have hno : ∀ b, ¬ (pureC h0).out [] b := by
    rintro b (hy | ⟨k, _, e⟩ | ⟨k, m, hv, _, e, _⟩)
    · exact hy
    · cases e
    · cases e
  refine wpIn_mono (h w (pureC h0) { tmps := vs.toArray ++ Array.replicate (fn.ntmps - vs.toArray.size) undef, defers := [] } w ?_) ?_
  · refine ⟨pureC h0, ⟨BelX.refl _ _ _, Nat.le_refl _, ?_, ⟨.nil, fun d hd => by cases hd⟩, (fun p hp => by cases hp), hw, Mem.le_refl _, fun p v e => .inl e, (fun k b e => by cases e), (fun k m hv b e => by cases e), (fun _ _ => ⟨rfl, rfl⟩), (fun b e => e.elim), (fun k b _ e => by cases e), (fun k m hv lv _ e => by cases e)⟩, fun key x hx => slots_start hargs ht hl2 key x hx⟩
    simp [hn]; omega
  · rintro e a' w' ⟨U', s', ⟨c, hbase, hh⟩, q, ⟨he, ys, hys, hres⟩, hl3⟩
    have hE : (mkE P nt [] w (pureC h0)).B = w.heap.size := rfl
    have post : LeavesInM Fence.wide 0 P fn a'.tmps (fun en w' => ∃ q v h' Y', en = .returned v ∧ PostJ h0 (fun _ => False) w h' Y' w' ∧ RepT (pureC h') (res q) v ∧ J q h' Y' w') a'.defers .returning w' := by
      refine leaves_marks (B := w.heap.size) (Z := c.all) a'.defers w' hbase.dfr.1 ?_ ?_
      · intro d hd
        obtain ⟨D, h1, h2, h3, h4⟩ := hbase.dfr.2 d hd
        exact ⟨D, h1, h2, h3, h4⟩
      · intro w2 e1 e2 e3 e4 e5 e6
        obtain ⟨hbase, hh⟩ := hbase.calm hh e1 e2 e3 e4 rfl e5 e6
        obtain ⟨vs', h1, h2, h3⟩ := run_resSems hbase hh hys
        have hrun : (results fn a'.tmps).run P w2 = .ok (if h : vs'.toArray.size = 1 then vs'.toArray[0] else .tuple vs'.toArray) w2 := by
          have he : results fn a'.tmps = (fn.results.mapM (resSem a'.tmps) >>= fun vs => pure (if h : vs.size = 1 then vs[0] else .tuple vs)) := by
            unfold results
            congr 1
          have h1' : (rs.mapM (resSem a'.tmps)).run P w2 = .ok vs' w2 := h1
          rw [he, hr, Array.mapM_eq_mapM_toList]
          simp [h1']
        have hpg := PostG.of_base (s := s') (wr := [(3000, .res (J q))]) (res := res q) (v := if h : vs'.toArray.size = 1 then vs'.toArray[0] else .tuple vs'.toArray) hbase hE hh ⟨hl3, trivial⟩ rfl (by
          rw [← hres]
          have hl := h2.length
          match ys, vs', h2, h3, hl with
          | [y], [v], h2, h3, _ => exact V.toT h2.1 (h3 y (by simp))
          | [], [], h2, _, _ => exact ⟨[], rfl, trivial⟩
          | y1 :: y2 :: ys, v1 :: v2 :: vs, h2, _, _ => exact ⟨v1 :: v2 :: vs, by simp, h2⟩
          | [_], [], h2, _, _ => exact h2.elim
          | [], _ :: _, h2, _, _ => exact h2.elim
          | [_], _ :: _ :: _, h2, _, _ => exact h2.2.elim
          | _ :: _ :: _, [], h2, _, _ => exact h2.elim
          | _ :: _ :: _, [_], h2, _, _ => exact h2.2.elim) (fun b h => h.elim id fun ⟨p, hp, _⟩ => by cases hp)
        obtain ⟨_, hJ1⟩ := res_of (hpg.wr (3000, .res (J q)) (by simp) { tmps := #[], defers := [] })
        refine ⟨_, hrun, q, _, (c.pub [] ((mkE P nt [] w (pureC h0)).fin c w2)).h, (c.pub [] ((mkE P nt [] w (pureC h0)).fin c w2)).Y, rfl, ⟨hpg.below.mono (Nat.le_refl _) fun k _ hk => (hno k hk).elim, hpg.le, fun p v hp => (hpg.new p v hp).imp id fun q => ⟨q.1, fun hy => q.2 (.inl hy)⟩, hpg.ok.hw, fun b hy => (hpg.ok.Y b hy).1, fun b hy hlt => hno b (hpg.out b (.inl hy) hlt)⟩, ?_, hJ1⟩
        refine hpg.res.mono ⟨Mem.le_refl _, fun k b e => ?_, fun k m hv lv e => ?_⟩
        · have e2 := hpg.loc k b e; cases e2
        · obtain ⟨_, _, _, e2, _⟩ := hpg.arr k m hv lv e; cases e2
    rcases he with rfl | rfl
    · exact post
    · exact post
section
variable {E : Env} {all : Array Oper} {s r r1 r2 r3 rg : St} {d ty : Nat} {pos : String} {after : Array Edge} {x y z : Operand}
/-- A call of such a function. -/
theorem RK.callX {l : List Oper} {U : List Nat} {Q : Exit → List Nat → St → Prop} {g : Nat} {os : List Operand} {at_ : Array TypeId} {ys : List X} {ι : Type} {res : ι → X} {J : ι → Mem → (Nat → Prop) → World → Prop} (hf : CtX E.P g ys res J) (hS : ∀ q, Stable (J q)) (hm : ∀ q h Y Y' w, J q h Y w → (∀ b, Y b → Y' b) → J q h Y' w)
    (hcall : ∀ args w, (callFunc g args).run E.P w = .ok (.enter g args) w) (hd : (Nat.blt d 1000 && Nat.blt d E.nt) = true) (ha : OpsS s os ys r) (ho : ys.all okArg = true)
    (h : ∀ q, RK E all l U ((d, res q) :: (3000, .res (J q)) :: s) Q) : RK E all (⟨some d, .call { callee := .value (.func g), args := os.toArray, argTypes := at_ }, ty, pos, after, none⟩ :: l) U s Q := by
  simp only [Bool.and_eq_true, Nat.blt_eq] at hd
  intro k hk a w hg
  rw [List.length_cons, List.range'_succ, wpOpsIn_cons]
  refine opIn_wpOpIn (by simpa using hk 0) ?_
  obtain ⟨c, hb, hh⟩ := hg
  have hw : Region.wanted (⟨some d, .call { callee := .value (.func g), args := os.toArray, argTypes := at_ }, ty, pos, after, none⟩ : Oper) (yielded all a.tmps) = true := rfl
  have hargs := args_clean (ha.rep (c := c) (a := a) (w := w) fun p hp => hh p.1 p.2 (ha.looks.all p hp)) ho
  unfold opIn
  rw [if_pos hw]
  refine ⟨fun _ _ => trivial, ?_⟩
  rw [Oper.semAt_eq _ _ _ fun cl he => by cases he]
  have hfo : a.eval (.func g) = .func (.func g) #[] #[] := rfl
  have hrun : (execOp a.eval ⟨some d, .call { callee := .value (.func g), args := os.toArray, argTypes := at_ }, ty, pos, after, none⟩).run E.P w = .ok (.enter g (os.map a.eval).toArray) w := by
    simp [execOp, resolve, hfo, Deferred.ofValue, invoke, hcall]
  rw [hrun]
  refine ⟨(fun h => by cases h), ?_⟩
  have h1 : CallsIn E.F (0 - 1) E.P g (os.map a.eval).toArray w _ := (callsIn_wide (n := 0)).2 (hf c.h w _ hb.hw hargs)
  refine h1.mono ?_
  rintro en w' ⟨q, v, h', Y', rfl, hp, hres, hJ⟩
  have hfr : ∀ b, Y' b → w.heap.size ≤ b := fun b hy => Nat.le_of_not_lt fun hlt => hp.out b hy hlt
  have hp2 : PostJ c.h c.Y w h' (fun b => c.Y b ∨ Y' b) w' := by
    refine ⟨hp.below.mono (Nat.le_refl _) fun _ _ e => e.elim, hp.le, fun p v hv => (hp.new p v hv).imp id fun e => ⟨e.1, ?_⟩, hp.hw, fun b hy => ?_, fun b hy hlt => ?_⟩
    · rintro (hy | hy)
      · have := (hb.Y _ hy).1; have := e.1; omega
      · exact e.2 hy
    · rcases hy with hy | hy
      · have := (hb.Y b hy).1; have := hp.below.size; omega
      · exact hp.lt b hy
    · rcases hy with hy | hy
      · exact hy
      · have := hfr b hy; omega
  have hext : Ext c ⟨h', c.loc, c.arr, fun b => c.Y b ∨ Y' b⟩ := ⟨hp.le, fun _ _ e => e, fun _ m hv lv e => ⟨m, hv, lv, e, Nat.le_refl _, fun _ => rfl⟩⟩
  have hdt : d < a.tmps.size := by rw [hb.nt]; exact hd.2
  refine h q (k + 1) (fun j => ?_) _ _ ⟨⟨h', c.loc, c.arr, fun b => c.Y b ∨ Y' b⟩, (hb.turn hp2).put _ _, fun key u hu => ?_⟩
  · have := hk (j + 1)
    simp only [List.getElem?_cons_succ] at this
    rw [← this]
    congr 1
    omega
  · simp only [look] at hu
    split at hu
    · rename_i e
      have := Nat.eq_of_beq_eq_true e
      cases hu
      subst this
      unfold Holds
      rw [if_pos hd.1, getD_put hdt]
      exact hres.mono (pure_ext (c := ⟨h', c.loc, c.arr, fun b => c.Y b ∨ Y' b⟩) rfl)
    · rename_i hne
      have hne' : d ≠ key := fun e => hne (by rw [e]; exact Nat.beq_refl _)
      split at hu
      · rename_i e
        have := Nat.eq_of_beq_eq_true e
        cases hu
        subst this
        exact (Holds.mkRes (c := ⟨h', c.loc, c.arr, fun b => c.Y b ∨ Y' b⟩) (a := a) (hS q) (hm q _ _ _ _ hJ fun b hy => .inr hy)).put (by show d ≠ 3000; omega) v
      · rename_i hne3
        have hne3' : key ≠ 3000 := fun e => hne3 (by rw [e]; exact Nat.beq_refl _)
        have h0 := hh key u hu
        by_cases h1 : key < 1000
        · refine Holds.put ?_ hne' _
          unfold Holds at h0 ⊢
          rw [if_pos h1] at h0 ⊢
          exact h0.mono hext
        · exact (Holds.turn hb hp2 h1 hne3' h0).put hne' _
end
theorem OK.lit {E : Env} {U : List Nat} {s : St} {code : Code} {Q : Exit → List Nat → St → Prop} {t : Nat} {b b' : Bool} (hl : look s t = some (.bool b)) (hb : b = b') (h : OK E code Q U ((t, .bool b') :: s)) : OK E code Q U s := fun a w hg => by
  subst hb
  obtain ⟨c, hbs, hh⟩ := hg
  refine h a w ⟨c, hbs, fun key x hx => ?_⟩
  simp only [look] at hx
  split at hx
  · rename_i e
    have := Nat.eq_of_beq_eq_true e
    cases hx
    subst this
    exact hh _ _ hl
  · exact hh key x hx
/-- A condition whose answer is kept. -/
theorem OK.condL {E : Env} {U : List Nat} {s : St} {Q : Exit → List Nat → St → Prop} {t : Nat} {b : Bool} {x y : Code} (ht : Nat.blt t 1000 = true) (hl : look s t = some (.bool b)) (hx : b = true → OK E x Q U ((t, .bool true) :: s)) (hy : b = false → OK E y Q U ((t, .bool false) :: s)) : OK E (.cond (.tmp t) x y) Q U s :=
  OK.cond ht hl (fun h => OK.lit hl h (hx h)) (fun h => OK.lit hl h (hy h))
end Go.Ab
