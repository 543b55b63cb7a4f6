/-
  Abstract states: a function whose result is a piece of the caller's memory; a call that is lent memory of the caller's own.
-/
import Derived.Test.YtjamlnkjfkcdkaaGreatDoorGc
namespace Go.Ab
open Go.RowKit
def RetN (E : Env) (t : Nat) (wr : St) (y : X) : Exit → List Nat → St → Prop := fun e _ s => (e = .ret ∨ e = .normal) ∧ look s t = some y ∧ Le s wr
theorem CtG.introP {P : Program} {f nt t : Nat} {fn : Func} {code : Code} {fs : List Nat} {args : List X} {rd wr : St} {y : X} (hf : P.funcs[f]? = some fn) (hb : fn.body = some code) (hn : fn.ntmps = nt) (hr : fn.results = #[.tmp t]) (ht1 : Nat.blt t 1000 = true) (hy : hiP fs y = true) (hnc : notCell y = false)
    (hl : Nat.ble args.length nt = true) (ht : args.all (fun x => !isTup x) = true) (hl2 : Nat.ble args.length 1000 = true) (hwr : wr.all (hiKey fs) = true)
    (h : ∀ w c, OK (mkE P nt fs w c) code (den (mkE P nt fs w c) (RetN (mkE P nt fs w c) t wr y) []) fs (argSt 0 args ++ rd)) : CtG P f fs args rd wr y := by
  intro c0 w vs hc0 hrd' hargs
  refine (callsIn_wide (n := 0)).1 (callsIn_of_wp_marks hf hb trivial ?_ rfl)
  have hlen := hargs.length
  rw [Nat.ble_eq] at hl hl2
  refine wpIn_mono (h w c0 { tmps := vs.toArray ++ Array.replicate (fn.ntmps - vs.toArray.size) undef, defers := [] } w ?_) ?_
  · refine ⟨c0, ⟨BelX.refl _ _ _, Nat.le_refl _, ?_, ⟨.nil, fun d hd => by cases hd⟩, (fun p hp => by cases hp), hc0.hw, Mem.le_refl _, fun p v e => .inl e, ?_, ?_, hc0.none, ?_, fun k b _ e => e, fun k m hv lv _ e => ⟨m, hv, lv, e, Nat.le_refl _, fun _ => rfl, id, fun _ h => .inl h⟩⟩, ?_⟩
    · simp [hn]; omega
    · intro k b hk
      obtain ⟨h1, h2⟩ := hc0.loc k b hk
      exact ⟨.inr ⟨h1, .inl (.inr (.inl ⟨k, h1, hk⟩))⟩, h2⟩
    · intro k m hv b hk hbk
      obtain ⟨h1, h2⟩ := hc0.arr k m hv b hk hbk
      exact ⟨.inr ⟨h1, .inl (.inr (.inr ⟨k, m, hv, h1, hk, hbk⟩))⟩, h2⟩
    · intro b hb
      obtain ⟨h1, h2⟩ := hc0.Y b hb
      exact ⟨h1, fun _ => .inl (.inl hb), h2⟩
    · intro key x hx
      rw [look_append] at hx
      cases hk : look (argSt 0 args) key with
      | some y =>
        rw [hk] at hx; cases hx
        exact slots_start hargs ht hl2 key x hk
      | none =>
        rw [hk] at hx
        exact hrd' _ (look_mem hx) _
  · rintro e a' w' ⟨U', s', ⟨c, hbase, hh⟩, ⟨he, hys, hle⟩⟩
    have hE : (mkE P nt fs w c0).B = w.heap.size := rfl
    have post : LeavesInM Fence.wide 0 P fn a'.tmps (fun e w' => ∃ v c', e = .returned v ∧ PostG fs c0 w wr y v c' w') a'.defers .returning w' := by
      refine leaves_marks (B := w.heap.size) (Z := c.all) a'.defers w' hbase.dfr.1 ?_ ?_
      · intro d hd
        obtain ⟨D, h1, h2, h3, h4⟩ := hbase.dfr.2 d hd
        exact ⟨D, h1, h2, h3, h4⟩
      · intro w2 e1 e2 e3 e4 e5 e6
        obtain ⟨hbase, hh⟩ := hbase.calm hh e1 e2 e3 e4 rfl e5 e6
        have hrun : (results fn a'.tmps).run P w2 = .ok (a'.tmps.getD t undef) w2 := by
          unfold results
          rw [hr]
          simp
        refine ⟨_, hrun, _, c.pub fs ((mkE P nt fs w c0).fin c w2), rfl, ?_⟩
        refine PostG.of_baseP hbase hE hh hle hwr ?_ (fun b h => h.elim id fun ⟨p, hp, _⟩ => by cases hp)
        have hq : RepT c y (a'.tmps.getD t undef) := (hh _ _ hys).slot ht1
        have hqP : RepP c y (a'.tmps.getD t undef) := by cases y <;> first | exact hq | cases hnc
        have hqP2 := hqP.pub (h' := (mkE P nt fs w c0).fin c w2) (Env.fin_le hbase) hy
        show RepT (c.pub fs _) y _
        cases y <;> first | exact hqP2 | cases hnc
    rcases he with rfl | rfl
    · exact post
    · exact post
def lendV (fs : List Nat) (t : St) : X → Bool
  | .agg xs => xs.all (lendC fs t)
  | x => lendC fs t x
def lendT (fs : List Nat) (t : St) : X → Bool
  | .tup xs => xs.all (lendV fs t)
  | x => lendV fs t x
theorem RepV.lend {c : Ctx} {fs : List Nat} {t : St} {x : X} {v : Value} (h : RepV c x v) (ho : lendV fs t x = true) : RepV (c.lend fs t) x v := by
  cases x
  case agg xs => obtain ⟨vs, h1, h2⟩ := h; exact ⟨vs, h1, All2.cut (R' := RepC (c.lend fs t)) (ok := lendC fs t) (fun _ _ h ho => RepC.lend h ho) h2 ho⟩
  all_goals (simp only [RepV, lendV] at h ho ⊢; exact RepC.lend h ho)
theorem RepV.back {c c3 : Ctx} {fs : List Nat} {t : St} {x : X} {v : Value} (h : RepV c3 x v) (ho : lendV fs t x = true) : RepV (c.back c3 fs t) x v := by
  cases x
  case agg xs => obtain ⟨vs, h1, h2⟩ := h; exact ⟨vs, h1, All2.cut (R' := RepC (c.back c3 fs t)) (ok := lendC fs t) (fun _ _ h ho => RepC.back h ho) h2 ho⟩
  all_goals (simp only [RepV, lendV] at h ho ⊢; exact RepC.back h ho)
theorem RepT.back {c c3 : Ctx} {fs : List Nat} {t : St} {x : X} {v : Value} (h : RepT c3 x v) (ho : lendT fs t x = true) : RepT (c.back c3 fs t) x v := by
  cases x
  case tup xs => obtain ⟨vs, h1, h2⟩ := h; exact ⟨vs, h1, All2.cut (R' := RepV (c.back c3 fs t)) (ok := lendV fs t) (fun _ _ h ho => RepV.back h ho) h2 ho⟩
  all_goals (simp only [RepT, lendT] at h ho ⊢; exact RepV.back h ho)
theorem args_lend {c : Ctx} {fs : List Nat} {t : St} : ∀ {ys : List X} {vs : List Value}, All2 (RepT c) ys vs → ys.all (fun y => lendV fs t y && !isTup y) = true → All2 (RepV (c.lend fs t)) ys vs
  | [], [], _, _ => trivial
  | y :: ys, v :: vs, h, ho => by
    simp only [List.all_cons, Bool.and_eq_true, Bool.not_eq_true'] at ho
    exact ⟨(T.toV h.1 ho.1.2).lend ho.1.1, args_lend h.2 (by simpa using ho.2)⟩
  | [], _ :: _, h, _ => h.elim
  | _ :: _, [], h, _ => h.elim
section
variable {E : Env} {all : Array Oper} {s r r1 r2 r3 rg : St} {d ty : Nat} {pos : String} {after : Array Edge} {guard : Option (Nat × Bool)} {x y z : Operand}
theorem S.callG {g : Nat} {fs : List Nat} {os : List Operand} {at_ : Array TypeId} {ys : List X} {res : X} {t t' : St} (hf : CtG E.P g fs ys t t' res)
    (hcall : ∀ args w, (callFunc g args).run E.P w = .ok (.enter g args) w) (hg : Gd all s guard rg) (hd : (Nat.blt d 1000 && Nat.blt d E.nt) = true) (ha : OpsS s os ys r) (ho : ys.all (fun y => lendV fs t y && !isTup y) = true)
    (hl : Looks s t) (ht : t.all (lendKey fs t) = true) (ht2 : t'.all (lendKey fs t) = true) (hcov : cover fs t t' = true) (hhas : fs.all (fun k => hasB t k || hasA t k) = true) (hdis : fs.all (fun k => !E.fs.contains k) = true) (hres : lendT fs t res = true) :
    St1 E all ⟨some d, .call { callee := .value (.func g), args := os.toArray, argTypes := at_ }, ty, pos, after, guard⟩ s (rg ++ (r ++ t)) ((d, res) :: t') [] := by
  simp only [Bool.and_eq_true, Nat.blt_eq] at hd
  refine ⟨?_, hg.looks.app (ha.looks.app hl)⟩
  intro U c a w hb hr _ next Q hn
  have hw := hg.wanted (o := ⟨some d, .call { callee := .value (.func g), args := os.toArray, argTypes := at_ }, ty, pos, after, guard⟩) (fun p hp => hr p (List.mem_append_left _ hp))
  have hargs := args_lend (fs := fs) (t := t) (ha.rep (c := c) (a := a) (w := w) fun p hp => hr p (by simp [hp])) ho
  unfold opIn
  rw [if_pos hw]
  refine ⟨fun _ _ => trivial, ?_⟩
  rw [Oper.semAt_eq _ _ _ fun cl he => by cases he]
  have hfo : a.eval (.func g) = .func (.func g) #[] #[] := rfl
  have hrun : (execOp a.eval ⟨some d, .call { callee := .value (.func g), args := os.toArray, argTypes := at_ }, ty, pos, after, guard⟩).run E.P w = .ok (.enter g (os.map a.eval).toArray) w := by
    simp [execOp, resolve, hfo, Deferred.ofValue, invoke, hcall]
  rw [hrun]
  refine ⟨(fun h => by cases h), ?_⟩
  have hholds : ∀ p ∈ t, Holds c a w p.1 p.2 := fun p hp => hr p (by simp [hp])
  have hc0 := hf (c.lend fs t) w (os.map a.eval) (lend_ctx hb) (fun p hp a' => (hholds p hp).lend (List.all_eq_true.1 ht p hp)) hargs
  have h1 : CallsIn E.F (0 - 1) E.P g (os.map a.eval).toArray w _ := (callsIn_wide (n := 0)).2 hc0
  refine h1.mono ?_
  rintro en w' ⟨u, c3, rfl, hpg⟩
  have hext0 : Ext (c.lend fs t) c3 := by
    refine ⟨hpg.le, fun k b e => ?_, fun k m hv lv e => ?_⟩
    · obtain ⟨hk, hhb, _⟩ := lend_loc e
      obtain ⟨h1, h2, _⟩ := cover_of hcov hk
      obtain ⟨x0, hx0, hm⟩ := hasB_mem (h2 hhb)
      obtain ⟨b', q1⟩ := boxes_of (hpg.wr _ hm { tmps := #[], defers := [] }) hx0 h1
      have := hpg.loc k b' q1
      rw [e] at this
      cases this
      exact q1
    · obtain ⟨hk, hha, _⟩ := lend_arr e
      obtain ⟨h1, _, h2⟩ := cover_of hcov hk
      obtain ⟨x0, hx0, hm⟩ := hasA_mem (h2 hha)
      obtain ⟨⟨_, _, _⟩, q1⟩ := arrs_of (hpg.wr _ hm { tmps := #[], defers := [] }) hx0
      obtain ⟨m0, hv0, lv0, q2, q3, q4⟩ := hpg.arr k _ _ _ q1
      rw [e] at q2
      cases q2
      exact ⟨_, _, _, q1, q3, q4⟩
  have hB : Backs E c c3 w w' fs t := by
    refine ⟨fun k hk => ?_, fun k hk => ?_, fun k hk => ⟨fun h => ?_, fun h => ?_⟩, hpg.below, hpg.le, fun p v hp => (hpg.new p v hp).imp id And.left, hpg.ok, hpg.out, hext0⟩
    · have := List.all_eq_true.1 hdis k hk; simpa using this
    · have := List.all_eq_true.1 hhas k hk; simpa using this
    · obtain ⟨x0, hx0, hm⟩ := hasB_mem h
      exact boxes_of (hholds _ hm) hx0 (cover_of hcov hk).1
    · obtain ⟨x0, hx0, hm⟩ := hasA_mem h
      exact arrs_of (hholds _ hm) hx0
  have hext := hB.ext'
  have hdt : d < a.tmps.size := by rw [hb.nt]; exact hd.2
  have tk : ∀ p ∈ t', 1000 ≤ p.1 := by
    intro p hp
    have h := List.all_eq_true.1 ht2 p hp
    obtain ⟨key, y⟩ := p
    unfold lendKey at h
    cases y
    case box cells => simp only [Bool.and_eq_true, Nat.ble_eq] at h; exact h.1.1.1.1
    case arr sz rows => simp only [Bool.and_eq_true, Nat.ble_eq] at h; show 1000 ≤ key; have := h.1.1.1; omega
    case omap es => simp only [Bool.and_eq_true, Nat.ble_eq] at h; exact h.1.1.1
    case arrn sz pre mid post => simp only [Bool.and_eq_true, Nat.ble_eq] at h; show 1000 ≤ key; have := h.1.1.1.1; omega
    all_goals cases h
  refine hn (c.back c3 fs t) _ w' ((hb.back hB).put _ _) hext ?_ ?_
  · intro p hp
    rcases List.mem_cons.1 hp with rfl | hp
    · unfold Holds
      rw [if_pos hd.1, getD_put hdt]
      exact hpg.res.back hres
    · have h := Holds.fromLent (c := c) (a' := a) (hpg.wr p hp a) (List.all_eq_true.1 ht2 p hp)
      exact h.put (by have := tk p hp; omega) u
  · intro key y hk2 hy
    have hne : d ≠ key := hk2 (d, res) (by simp)
    by_cases h1 : key < 1000
    · refine Holds.put ?_ hne u
      unfold Holds at hy ⊢
      rw [if_pos h1] at hy ⊢
      exact hy.mono hext
    · refine (Holds.back hb hB h1 (fun k hk3 => ⟨fun h e => ?_, fun h e => ?_⟩) hy).put hne u
      · obtain ⟨x0, _, hm⟩ := hasB_mem ((cover_of hcov hk3).2.1 h)
        exact hk2 _ (List.mem_cons_of_mem _ hm) e.symm
      · obtain ⟨x0, _, hm⟩ := hasA_mem ((cover_of hcov hk3).2.2 h)
        exact hk2 _ (List.mem_cons_of_mem _ hm) e.symm
end
end Go.Ab
