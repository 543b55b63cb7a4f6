/-
  Abstract states: functions whose result is a new slice, which is of the caller's own; what becomes data within a region.
-/
import Derived.Test.YtjamlnkjfkcdkaaGreatDoorFu
namespace Go.Ab
open Go.RowKit
def CtO (P : Program) (f : Nat) (args : List X) (sz : Nat) (rows : List (List X)) : Prop :=
  ∀ (h : Mem) (w : World) (vs : List Value), (∀ p v, h p = some v → w.cell? p = some v) → All2 (RepV (pureC h)) args vs →
    Calls P f vs.toArray w fun en w' => ∃ v h' e us, en = .returned v ∧ Below w.heap.size w w' ∧ Mem.le h h' ∧ (∀ p v, h' p = some v → h p = some v ∨ w.heap.size ≤ p.block) ∧ (∀ p v, h' p = some v → w'.cell? p = some v) ∧
      w'.ownsRow 0 e sz v rows.length us ∧ (∀ q ∈ rows, q.length = sz) ∧ All2 (RepD h') rows.flatten us ∧ (∀ b, v.ownBlock = some b → w.heap.size ≤ b ∧ ∀ o, h' ⟨b, o, none⟩ = none)
def RetO (E : Env) (t sz : Nat) (rows : List (List X)) : Exit → List Nat → St → Prop := fun e _ s => (e = .ret ∨ e = .normal) ∧
  ∃ k n, look s t = some (.own k n) ∧ Nat.blt t 1000 = true ∧ look s (2000 + k) = some (.arr sz rows) ∧ rows.length = n ∧ E.fs.contains k = false
theorem RetO.mk {E : Env} {U : List Nat} {s : St} {t k n sz : Nat} {rows rows' : List (List X)} (hl : look s t = some (.own k n)) (ht : Nat.blt t 1000 = true) (ha : look s (2000 + k) = some (.arr sz rows')) (hn : rows'.length = n) (he : rows' = rows) (hk9 : E.fs.contains k = false := by rfl) :
    RetO E t sz rows .ret U s := by
  subst he
  exact ⟨.inl rfl, k, n, hl, ht, ha, hn, hk9⟩
theorem CtO.intro {P : Program} {f nt t sz : Nat} {fn : Func} {code : Code} {args : List X} {rows : List (List X)} (hf : P.funcs[f]? = some fn) (hb : fn.body = some code) (hn : fn.ntmps = nt) (hr : fn.results = #[.tmp t])
    (hl : Nat.ble args.length nt = true) (ht : args.all (fun x => !isTup x) = true) (hl2 : Nat.ble args.length 1000 = true)
    (h : ∀ w c, OK (mkE P nt [] w c) code (den (mkE P nt [] w c) (RetO (mkE P nt [] w c) t sz rows) []) [] (argSt 0 args)) : CtO P f args sz rows := by
  intro h0 w vs hw hargs
  refine (callsIn_wide (n := 0)).1 (callsIn_of_wp_marks hf hb trivial ?_ rfl)
  have hlen := hargs.length
  rw [Nat.ble_eq] at hl hl2
  have hno : ∀ b, ¬ (pureC h0).out [] b := by
    rintro b (hy | ⟨k, _, e⟩ | ⟨k, m, hv, _, e, _⟩)
    · exact hy
    · cases e
    · cases e
  refine wpIn_mono (h w (pureC h0) { tmps := vs.toArray ++ Array.replicate (fn.ntmps - vs.toArray.size) undef, defers := [] } w ?_) ?_
  · refine ⟨pureC h0, ⟨BelX.refl _ _ _, Nat.le_refl _, ?_, ⟨.nil, fun d hd => by cases hd⟩, (fun p hp => by cases hp), hw, Mem.le_refl _, fun p v e => .inl e, (fun k b e => by cases e), (fun k m hv b e => by cases e), (fun _ _ => ⟨rfl, rfl⟩), (fun b e => e.elim), (fun k b _ e => by cases e), (fun k m hv lv _ e => by cases e)⟩, fun key x hx => slots_start hargs ht hl2 key x hx⟩
    simp [hn]; omega
  · rintro e a' w' ⟨U', s', ⟨c, hbase, hh⟩, he, k, n, l1, l2, l3, l4, l5⟩
    have post : LeavesInM Fence.wide 0 P fn a'.tmps (fun en w' => ∃ v h' e us, en = .returned v ∧ Below w.heap.size w w' ∧ Mem.le h0 h' ∧ (∀ p v, h' p = some v → h0 p = some v ∨ w.heap.size ≤ p.block) ∧ (∀ p v, h' p = some v → w'.cell? p = some v) ∧
        w'.ownsRow 0 e sz v rows.length us ∧ (∀ q ∈ rows, q.length = sz) ∧ All2 (RepD h') rows.flatten us ∧ (∀ b, v.ownBlock = some b → w.heap.size ≤ b ∧ ∀ o, h' ⟨b, o, none⟩ = none)) a'.defers .returning w' := by
      refine leaves_marks (B := w.heap.size) (Z := c.all) a'.defers w' hbase.dfr.1 ?_ ?_
      · intro d hd
        obtain ⟨D, h1, h2, h3, h4⟩ := hbase.dfr.2 d hd
        exact ⟨D, h1, h2, h3, h4⟩
      · intro w2 e1 e2 e3 e4 e5 e6
        obtain ⟨hbase, hh⟩ := hbase.calm hh e1 e2 e3 e4 rfl e5 e6
        obtain ⟨_, m, hv', lv, q1, q2, q3⟩ := own_of ((hh t _ l1).slot l2)
        obtain ⟨v, e', us, g1, g2, g3, g4⟩ := arr_of (hh _ _ l3)
        rw [g1] at q1
        cases q1
        have hev := q3 l4.symm
        have hrun : (results fn a'.tmps).run P w2 = .ok (a'.tmps.getD t undef) w2 := by
          have he : results fn a'.tmps = (fn.results.mapM (resSem a'.tmps) >>= fun vs => pure (if h : vs.size = 1 then vs[0] else .tuple vs)) := by
            unfold results
            congr 1
          rw [he, hr, Array.mapM_eq_mapM_toList]
          simp [resSem]
        refine ⟨_, hrun, hv', c.h, e', us, by rw [show a'.tmps.getD t undef = hv' from hev], (hbase.below.mono (Nat.le_refl _) fun k _ hk => ?_).below, hbase.hle, fun p v hp => (hbase.hnew p v hp).imp id And.left, hbase.hw, g2, g3, g4, fun b hbk => ?_⟩
        · rcases hk with hk | ⟨p, hp, _⟩
          · exact (hno k hk).elim
          · cases hp
        · obtain ⟨r1, _, r3, _⟩ := hbase.arr k _ hv' b g1 hbk
          exact ⟨Env.ok_own r1 (nfs l5), r3⟩
    rcases he with rfl | rfl
    · exact post
    · exact post
/-- A slice whose block is nobody's becomes the activation's own. -/
theorem Base.ownAdd {E : Env} {U : List Nat} {c : Ctx} {a : Act} {w : World} (hb : Base E U c a w) {k : Nat} (hk9 : k ∉ E.fs) (hk : k ∉ U) {n : Nat} {v : Value}
    (hv : ∀ b, v.ownBlock = some b → E.B ≤ b ∧ b < w.heap.size ∧ (∀ o, c.h ⟨b, o, none⟩ = none) ∧ ¬ c.all b ∧ ∃ o : Obj, w.heap[b]? = some o ∧ o.isCells = true) :
    Base E ([k] ++ U) (c.own k n v true) a w ∧ Ext c (c.own k n v true) ∧ (c.own k n v true).arr k = some (n, v, true) ∧
      ∀ key y, ¬ key < 1000 → Holds c a w key y → Holds (c.own k n v true) a w key y := by
  have hn := (hb.used k hk).2
  have hold : ∀ j q, c.arr j = some q → (c.own k n v true).arr j = some q := by
    intro j q hj
    simp only [Ctx.own]
    split
    · rename_i e; subst e; rw [hn] at hj; cases hj
    · exact hj
  have hext : Ext c (c.own k n v true) := ⟨Mem.le_refl _, fun _ _ e => e, fun j m hv lv e => ⟨m, hv, lv, hold _ _ e, Nat.le_refl _, fun _ => rfl⟩⟩
  have hnew : ∀ j m u, (c.own k n v true).arr j = some (m, u, true) → (j = k ∧ u = v) ∨ (j ≠ k ∧ c.arr j = some (m, u, true)) := by
    intro j m u hj
    simp only [Ctx.own] at hj
    split at hj
    · rename_i e; cases hj; exact .inl ⟨e, rfl⟩
    · rename_i e; exact .inr ⟨e, hj⟩
  have hlo : ∀ j, j ∈ E.fs → (c.own k n v true).arr j = c.arr j := fun j hj => by simp only [Ctx.own]; rw [if_neg (show ¬ j = k from fun e => hk9 (e ▸ hj))]
  have hall : ∀ b, (c.own k n v true).all b → c.all b ∨ v.ownBlock = some b := by
    intro b h
    rcases h with h | h | ⟨j, m, u, h, h2⟩
    · exact .inl (.inl h)
    · exact .inl (.inr (.inl h))
    · rcases hnew j m u h with ⟨_, rfl⟩ | ⟨_, h3⟩
      · exact .inr h2
      · exact .inl (.inr (.inr ⟨j, m, u, h3, h2⟩))
  have hnc : ∀ (D : Nat) (o : Obj), w.heap[D]? = some o → o.isCells = false → v.ownBlock ≠ some D := by
    intro D o h1 h2 e
    obtain ⟨_, _, _, _, o', h3, h4⟩ := hv D e
    rw [h1] at h3; cases h3; rw [h2] at h4; cases h4
  refine ⟨⟨hb.below, hb.hB, hb.nt, ⟨hb.dfr.1, fun d hd => ?_⟩, fun p hp => ?_, hb.hw, hb.hle, hb.hnew, ?_, ?_, ?_, ?_, hb.loc0, fun j m u lv hj e => hb.arr0 j m u lv hj (hlo j hj ▸ e)⟩, hext, by simp [Ctx.own], ?_⟩
  · obtain ⟨D, h1, h2, h3, h4⟩ := hb.dfr.2 d hd
    exact ⟨D, h1, h2, fun e => (hall D e).elim h3 (hnc D _ h4 rfl), h4⟩
  · obtain ⟨h1, h2, h3⟩ := hb.pin p hp
    exact ⟨fun e => (hall _ e).elim h1 (hnc _ _ h3 h2), h2, h3⟩
  · intro j b hj
    obtain ⟨h1, h2, h3, h4, h5⟩ := hb.loc j b hj
    refine ⟨h1, h2, h3, h4, fun k' m u hk' e => ?_⟩
    rcases hnew k' m u hk' with ⟨rfl, rfl⟩ | ⟨_, hk'⟩
    · exact (hv b e).2.2.2.1 (.inr (.inl ⟨j, hj⟩))
    · exact h5 k' m u hk' e
  · intro j m u b hj hbk
    rcases hnew j m u hj with ⟨rfl, rfl⟩ | ⟨hne, hj2⟩
    · obtain ⟨h1, h2, h3, h4, _⟩ := hv b hbk
      refine ⟨.inl h1, h2, h3, fun k' m' u' hk' hb' => ?_⟩
      rcases hnew k' m' u' hk' with ⟨rfl, _⟩ | ⟨_, hk'⟩
      · rfl
      · exact absurd (.inr (.inr ⟨k', m', u', hk', hb'⟩)) h4
    · obtain ⟨h1, h2, h3, h4⟩ := hb.arr j m u b hj2 hbk
      refine ⟨h1, h2, h3, fun k' m' u' hk' hb' => ?_⟩
      rcases hnew k' m' u' hk' with ⟨rfl, rfl⟩ | ⟨_, hk'⟩
      · exact absurd (.inr (.inr ⟨j, m, u, hj2, hbk⟩)) (hv b hb').2.2.2.1
      · exact h4 k' m' u' hk' hb'
  · intro j hj
    simp only [List.mem_append, List.mem_singleton, not_or] at hj
    refine ⟨(hb.used j hj.2).1, ?_⟩
    simp only [Ctx.own]
    rw [if_neg hj.1]
    exact (hb.used j hj.2).2
  · intro b hy
    obtain ⟨h1, h2, h3, h4⟩ := hb.Y b hy
    refine ⟨h1, h2, h3, fun j m u hj e => ?_⟩
    rcases hnew j m u hj with ⟨rfl, rfl⟩ | ⟨_, hj2⟩
    · exact (hv b e).2.2.2.1 (.inl hy)
    · exact h4 j m u hj2 e
  · intro key y hkey hy
    unfold Holds at hy ⊢
    rw [if_neg hkey] at hy ⊢
    refine or_snd hy fun hy => ?_
    split at hy
    · rename_i h2
      rw [if_pos h2]
      obtain ⟨b, o, h1, h3, h4⟩ := hy
      exact ⟨b, o, h1, h3, h4.mono hext⟩
    · rename_i h2
      rw [if_neg h2]
      split at hy
      · rename_i h6
        rw [if_pos h6]
        obtain ⟨sz, rows, hv2, e, vs, hx, h1, h3, h4⟩ := hy
        exact ⟨sz, rows, hv2, e, vs, hx.mono hext, hold _ _ h1, h3, h4⟩
      · rename_i h6
        rw [if_neg h6]
        exact hy
section
variable {E : Env} {all : Array Oper} {s r r1 r2 r3 rg : St} {d ty : Nat} {pos : String} {after : Array Edge} {guard : Option (Nat × Bool)} {x y z : Operand}
/-- A call whose result is a new slice of the activation's own. -/
theorem S.callO {f k sz n : Nat} {os : List Operand} {at_ : Array TypeId} {ys : List X} {rows : List (List X)} (hf : CtO E.P f ys sz rows) (hcall : ∀ args w, (callFunc f args).run E.P w = .ok (.enter f args) w) (hg : Gd all s guard rg) (hd : (Nat.blt d 1000 && Nat.blt d E.nt) = true)
    (ha : OpsS s os ys r) (ho : ys.all okArg = true) (hn : rows.length = n) (hk9 : E.fs.contains k = false := by rfl) (hk1 : Nat.blt k 1000 = true := by rfl) :
    St1 E all ⟨some d, .call { callee := .value (.func f), args := os.toArray, argTypes := at_ }, ty, pos, after, guard⟩ s (rg ++ r) ((d, .own k n) :: [(2000 + k, .arr sz rows)]) [k] := by
  subst hn
  simp only [Bool.and_eq_true, Nat.blt_eq] at hd
  rw [Nat.blt_eq] at hk1
  refine ⟨?_, hg.looks.app ha.looks⟩
  intro U c a w hb hr hal next Q hnx
  have hw := hg.wanted (o := ⟨some d, .call { callee := .value (.func f), args := os.toArray, argTypes := at_ }, ty, pos, after, guard⟩) (fun p hp => hr p (List.mem_append_left _ hp))
  have hargs := args_clean (ha.rep (c := c) (a := a) (w := w) fun p hp => hr p (List.mem_append_right _ hp)) ho
  have hkU : k ∉ U := hal k (by simp)
  unfold opIn
  rw [if_pos hw]
  refine ⟨fun _ _ => trivial, ?_⟩
  rw [Oper.semAt_eq _ _ _ fun cl he => by cases he]
  have hfo : a.eval (.func f) = .func (.func f) #[] #[] := rfl
  have hrun : (execOp a.eval ⟨some d, .call { callee := .value (.func f), args := os.toArray, argTypes := at_ }, ty, pos, after, guard⟩).run E.P w = .ok (.enter f (os.map a.eval).toArray) w := by
    simp [execOp, resolve, hfo, Deferred.ofValue, invoke, hcall]
  rw [hrun]
  refine ⟨(fun h => by cases h), ?_⟩
  have h1 : CallsIn E.F (0 - 1) E.P f (os.map a.eval).toArray w _ := (callsIn_wide (n := 0)).2 (hf c.h w _ hb.hw hargs)
  refine h1.mono ?_
  rintro en w' ⟨v, h', e, us, rfl, hB, hle, hnew, hw', hown, hsz, hrep, hblk⟩
  have hb1 := hb.below_grow hB hle hnew hw'
  have hext1 : Ext c ⟨h', c.loc, c.arr, c.Y⟩ := ⟨hle, fun _ _ e => e, fun _ m hv lv e => ⟨m, hv, lv, e, Nat.le_refl _, fun _ => rfl⟩⟩
  have hvs : ∃ a l cp, v = .slice a l cp := by
    rcases hown.2 with ⟨rfl, _⟩ | ⟨g, cap, cur, rfl, _⟩
    · exact ⟨_, _, _, rfl⟩
    · exact ⟨_, _, _, rfl⟩
  obtain ⟨g1, g2, g3, g4⟩ := hb1.ownAdd (nfs hk9) hkU (n := rows.length) (v := v) (by
    intro b hbk
    obtain ⟨h2, h3⟩ := hblk b hbk
    have hcell : ∃ o : Obj, w'.heap[b]? = some o ∧ o.isCells = true := by
      rcases hown.2 with ⟨rfl, _⟩ | ⟨g, cap, cur, rfl, _, hg', _⟩
      · cases hbk
      · cases hbk; exact ⟨_, hg', rfl⟩
    obtain ⟨o, ho1, ho2⟩ := hcell
    refine ⟨Nat.le_trans hb.hB h2, (Array.getElem?_eq_some_iff.1 ho1).1, h3, ?_, o, ho1, ho2⟩
    rintro (hy | ⟨j, hj⟩ | ⟨j, m, hv, hj, hjb⟩)
    · have := (hb.Y b hy).1; omega
    · have := (hb.loc j b hj).2.1; omega
    · have := (hb.arr j m hv b hj hjb).2.1; omega)
  have hdt : d < a.tmps.size := by rw [hb.nt]; exact hd.2
  have hhold := Holds.mkArr (a := a) (e := e) (rows := rows) (vs := us) (sz := sz) (by omega) g3 hown hsz hrep
  refine hnx _ _ _ (g1.put _ _) (hext1.trans g2) ?_ ?_
  · intro p hp
    simp only [List.mem_cons, List.not_mem_nil, or_false] at hp
    rcases hp with rfl | rfl
    · unfold Holds
      rw [if_pos hd.1, getD_put hdt]
      exact ⟨hvs, rows.length, _, _, g3, Nat.le_refl _, fun _ => rfl⟩
    · exact hhold.2.put (by show d ≠ 2000 + k; omega) _
  · intro key u hk hu
    have hne : d ≠ key := hk (d, .own k rows.length) (by simp)
    by_cases h1 : key < 1000
    · refine Holds.put ?_ hne _
      unfold Holds at hu ⊢
      rw [if_pos h1] at hu ⊢
      exact hu.mono (hext1.trans g2)
    · exact (g4 key u h1 (Holds.below hb hB hext1 (fun _ _ _ e => e) rfl hnew hw' h1 hu)).put hne _
end
end Go.Ab
