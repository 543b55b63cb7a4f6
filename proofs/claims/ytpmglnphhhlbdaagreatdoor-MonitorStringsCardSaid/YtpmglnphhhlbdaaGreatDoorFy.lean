import Derived.MapKept
import Derived.Test.YtpmglnphhhlbdaaGreatDoorFx
namespace Go.Ab
open Go.RowKit
theorem res_of {c : Ctx} {a : Act} {w : World} {J : Mem → (Nat → Prop) → World → Prop} (h : Holds c a w 3000 (.res J)) : Stable J ∧ J c.h c.Y w := by
  unfold Holds at h
  rw [if_neg (by omega), if_neg (by omega), if_neg (by omega)] at h
  rcases h with h | ⟨_, J', e, h1, h2⟩
  · cases h
  · have e' : J = J' := e
    subst e'
    exact ⟨h1, h2⟩
section
variable {E : Env} {all : Array Oper} {s r r1 r2 r3 rg : St} {d ty : Nat} {pos : String} {after : Array Edge} {guard : Option (Nat × Bool)} {x y z : Operand}
theorem St1.res {op : Op} {J : Mem → (Nat → Prop) → World → Prop} {xr : X} (hg : Gd all s guard rg) (hdef : isDefer op = false) (hl : Looks s r) (hl3 : look s 3000 = some (.res J))
    (h : ∀ (U : List Nat) (c : Ctx) (a : Act) (w : World), Base E U c a w → (∀ p ∈ r, Holds c a w p.1 p.2) → J c.h c.Y w → ∃ w', (execOp a.eval ⟨none, op, ty, pos, after, guard⟩).run E.P w = .ok .skip w' ∧ PostJ c.h c.Y w c.h c.Y w' ∧ Holds c a w' 3000 xr) :
    St1 E all ⟨none, op, ty, pos, after, guard⟩ s (rg ++ (r ++ [(3000, .res J)])) [(3000, xr)] [] := by
  refine ⟨?_, hg.looks.app (hl.app ⟨hl3, trivial⟩)⟩
  intro U c a w hb hr hal next Q hnx
  have hw := hg.wanted (o := ⟨none, op, ty, pos, after, guard⟩) (fun p hp => hr p (List.mem_append_left _ hp))
  obtain ⟨w', hrun, hp, hx⟩ := h U c a w hb (fun p hp => hr p (by simp [hp])) (res_of (hr (3000, .res J) (by simp))).2
  unfold opIn
  rw [if_pos hw]
  refine ⟨fun _ _ => trivial, ?_⟩
  rw [Oper.semAt_eq _ _ _ (fun cl he => by simp only at he; rw [he] at hdef; cases hdef), hrun]
  refine hnx c a w' (hb.turn hp) (Ext.refl c) (fun p hp => ?_) fun key u hk hu => ?_
  · simp only [List.mem_singleton] at hp
    subst hp
    exact hx
  · have hne : 3000 ≠ key := hk (3000, xr) (by simp)
    by_cases h1 : key < 1000
    · unfold Holds at hu ⊢; rw [if_pos h1] at hu ⊢; exact hu
    · exact Holds.turn hb hp h1 (fun e => hne e.symm) hu
end
end Go.Ab
namespace Go.Ab
open Go.RowKit
def CtX (P : Program) (f : Nat) (args : List X) {ι : Type} (res : ι → X) (J : ι → Mem → (Nat → Prop) → World → Prop) : Prop :=
  ∀ (h : Mem) (w : World) (vs : List Value), (∀ p v, h p = some v → w.cell? p = some v) → All2 (RepV (pureC h)) args vs →
    Calls P f vs.toArray w fun en w' => ∃ q v h' Y', en = .returned v ∧ PostJ h (fun _ => False) w h' Y' w' ∧ RepT (pureC h') (res q) v ∧ J q h' Y' w'
def RetX (E : Env) (rs : List ResultVar) {ι : Type} (res : ι → X) (J : ι → Mem → (Nat → Prop) → World → Prop) : Exit → List Nat → St → Prop := fun e U s => ∃ q, RetQ E rs (res q) e U s ∧ look s 3000 = some (.res (J q))
theorem CtX.intro {P : Program} {f nt : Nat} {fn : Func} {code : Code} {rs : List ResultVar} {args : List X} {ι : Type} {res : ι → X} {J : ι → Mem → (Nat → Prop) → World → Prop} (hf : P.funcs[f]? = some fn) (hb : fn.body = some code) (hn : fn.ntmps = nt) (hr : fn.results = rs.toArray)
    (hl : Nat.ble args.length nt = true) (ht : args.all (fun x => !isTup x) = true) (hl2 : Nat.ble args.length 1000 = true)
    (h : ∀ w c, OK (mkE P nt [] w c) code (den (mkE P nt [] w c) (RetX (mkE P nt [] w c) rs res J) []) [] (argSt 0 args)) : CtX P f args res J := by
  intro h0 w vs hw hargs
  refine (callsIn_wide (n := 0)).1 (callsIn_of_wp_marks hf hb trivial ?_ rfl)
  have hlen := hargs.length
  rw [Nat.ble_eq] at hl hl2
  have hno : ∀ b, ¬ (pureC h0).out [] b := by
    rintro b (hy | ⟨k, _, e⟩ | ⟨k, m, hv, _, e, _⟩)
    · exact hy
    · cases e
    · cases e
  refine wpIn_mono (h w (pureC h0) { tmps := vs.toArray ++ Array.replicate (fn.ntmps - vs.toArray.size) undef, defers := [] } w ?_) ?_
  · refine ⟨pureC h0, ⟨BelX.refl _ _ _, Nat.le_refl _, ?_, ⟨.nil, fun d hd => by cases hd⟩, (fun p hp => by cases hp), hw, Mem.le_refl _, fun p v e => .inl e, (fun k b e => by cases e), (fun k m hv b e => by cases e), (fun _ _ => ⟨rfl, rfl⟩), (fun b e => e.elim), (fun k b _ e => by cases e), (fun k m hv lv _ e => by cases e)⟩, fun key x hx => slots_start hargs ht hl2 key x hx⟩
    simp [hn]; omega
  · rintro e a' w' ⟨U', s', ⟨c, hbase, hh⟩, q, ⟨he, ys, hys, hres⟩, hl3⟩
    have hE : (mkE P nt [] w (pureC h0)).B = w.heap.size := rfl
    have post : LeavesInM Fence.wide 0 P fn a'.tmps (fun en w' => ∃ q v h' Y', en = .returned v ∧ PostJ h0 (fun _ => False) w h' Y' w' ∧ RepT (pureC h') (res q) v ∧ J q h' Y' w') a'.defers .returning w' := by
      refine leaves_marks (B := w.heap.size) (Z := c.all) a'.defers w' hbase.dfr.1 ?_ ?_
      · intro d hd
        obtain ⟨D, h1, h2, h3, h4⟩ := hbase.dfr.2 d hd
        exact ⟨D, h1, h2, h3, h4⟩
      · intro w2 e1 e2 e3 e4 e5 e6
        obtain ⟨hbase, hh⟩ := hbase.calm hh e1 e2 e3 e4 rfl e5 e6
        obtain ⟨vs', h1, h2, h3⟩ := run_resSems hbase hh hys
        have hrun : (results fn a'.tmps).run P w2 = .ok (if h : vs'.toArray.size = 1 then vs'.toArray[0] else .tuple vs'.toArray) w2 := by
          have he : results fn a'.tmps = (fn.results.mapM (resSem a'.tmps) >>= fun vs => pure (if h : vs.size = 1 then vs[0] else .tuple vs)) := by
            unfold results
            congr 1
          have h1' : (rs.mapM (resSem a'.tmps)).run P w2 = .ok vs' w2 := h1
          rw [he, hr, Array.mapM_eq_mapM_toList]
          simp [h1']
        have hpg := PostG.of_base (s := s') (wr := [(3000, .res (J q))]) (res := res q) (v := if h : vs'.toArray.size = 1 then vs'.toArray[0] else .tuple vs'.toArray) hbase hE hh ⟨hl3, trivial⟩ rfl (by
          rw [← hres]
          have hl := h2.length
          match ys, vs', h2, h3, hl with
          | [y], [v], h2, h3, _ => exact V.toT h2.1 (h3 y (by simp))
          | [], [], h2, _, _ => exact ⟨[], rfl, trivial⟩
          | y1 :: y2 :: ys, v1 :: v2 :: vs, h2, _, _ => exact ⟨v1 :: v2 :: vs, by simp, h2⟩
          | [_], [], h2, _, _ => exact h2.elim
          | [], _ :: _, h2, _, _ => exact h2.elim
          | [_], _ :: _ :: _, h2, _, _ => exact h2.2.elim
          | _ :: _ :: _, [], h2, _, _ => exact h2.elim
          | _ :: _ :: _, [_], h2, _, _ => exact h2.2.elim) (fun b h => h.elim id fun ⟨p, hp, _⟩ => by cases hp)
        obtain ⟨_, hJ1⟩ := res_of (hpg.wr (3000, .res (J q)) (by simp) { tmps := #[], defers := [] })
        refine ⟨_, hrun, q, _, (c.pub [] ((mkE P nt [] w (pureC h0)).fin c w2)).h, (c.pub [] ((mkE P nt [] w (pureC h0)).fin c w2)).Y, rfl, ⟨hpg.below.mono (Nat.le_refl _) fun k _ hk => (hno k hk).elim, hpg.le, fun p v hp => (hpg.new p v hp).imp id fun q => ⟨q.1, fun hy => q.2 (.inl hy)⟩, hpg.ok.hw, fun b hy => (hpg.ok.Y b hy).1, fun b hy hlt => hno b (hpg.out b (.inl hy) hlt)⟩, ?_, hJ1⟩
        refine hpg.res.mono ⟨Mem.le_refl _, fun k b e => ?_, fun k m hv lv e => ?_⟩
        · have e2 := hpg.loc k b e; cases e2
        · obtain ⟨_, _, _, e2, _⟩ := hpg.arr k m hv lv e; cases e2
    rcases he with rfl | rfl
    · exact post
    · exact post
theorem OK.lit {E : Env} {U : List Nat} {s : St} {code : Code} {Q : Exit → List Nat → St → Prop} {t : Nat} {b b' : Bool} (hl : look s t = some (.bool b)) (hb : b = b') (h : OK E code Q U ((t, .bool b') :: s)) : OK E code Q U s := fun a w hg => by
  subst hb
  obtain ⟨c, hbs, hh⟩ := hg
  refine h a w ⟨c, hbs, fun key x hx => ?_⟩
  simp only [look] at hx
  split at hx
  · rename_i e
    have := Nat.eq_of_beq_eq_true e
    cases hx
    subst this
    exact hh _ _ hl
  · exact hh key x hx
end Go.Ab
namespace Go.Ab
open Go.RowKit
def lendV (fs : List Nat) (t : St) : X → Bool
  | .agg xs => xs.all (lendC fs t)
  | x => lendC fs t x
def lendT (fs : List Nat) (t : St) : X → Bool
  | .tup xs => xs.all (lendV fs t)
  | x => lendV fs t x
theorem RepV.lend {c : Ctx} {fs : List Nat} {t : St} {x : X} {v : Value} (h : RepV c x v) (ho : lendV fs t x = true) : RepV (c.lend fs t) x v := by
  cases x
  case agg xs => obtain ⟨vs, h1, h2⟩ := h; exact ⟨vs, h1, All2.cut (R' := RepC (c.lend fs t)) (ok := lendC fs t) (fun _ _ h ho => RepC.lend h ho) h2 ho⟩
  all_goals (simp only [RepV, lendV] at h ho ⊢; exact RepC.lend h ho)
theorem RepV.back {c c3 : Ctx} {fs : List Nat} {t : St} {x : X} {v : Value} (h : RepV c3 x v) (ho : lendV fs t x = true) : RepV (c.back c3 fs t) x v := by
  cases x
  case agg xs => obtain ⟨vs, h1, h2⟩ := h; exact ⟨vs, h1, All2.cut (R' := RepC (c.back c3 fs t)) (ok := lendC fs t) (fun _ _ h ho => RepC.back h ho) h2 ho⟩
  all_goals (simp only [RepV, lendV] at h ho ⊢; exact RepC.back h ho)
theorem RepT.back {c c3 : Ctx} {fs : List Nat} {t : St} {x : X} {v : Value} (h : RepT c3 x v) (ho : lendT fs t x = true) : RepT (c.back c3 fs t) x v := by
  cases x
  case tup xs => obtain ⟨vs, h1, h2⟩ := h; exact ⟨vs, h1, All2.cut (R' := RepV (c.back c3 fs t)) (ok := lendV fs t) (fun _ _ h ho => RepV.back h ho) h2 ho⟩
  all_goals (simp only [RepT, lendT] at h ho ⊢; exact RepV.back h ho)
end Go.Ab
namespace Go.Ab
open Go.RowKit
theorem lkI {a b : Int} (h : a = b) : some (X.int .i64 a) = some (X.int .i64 b) := by rw [h]
end Go.Ab
