/-
  Abstract states: a call that hands on a function value of others; append where there is no room, as data.
-/
import Derived.Test.YtjamlnkjfkcdkaaGreatDoorGe
namespace Go.Ab
open Go.RowKit
section
variable {E : Env} {all : Array Oper} {s r r1 r2 r3 rg : St} {d ty : Nat} {pos : String} {after : Array Edge} {guard : Option (Nat × Bool)} {x y z : Operand}
/-- A call that turns the resource, and is given a function value of others. -/
theorem S.callCB {g : Nat} {os : List Operand} {at_ : Array TypeId} {ys xs : List X} {Φ : Value → Prop} {res : X} {J0 J1 : Mem → (Nat → Prop) → World → Prop} (hf : CtG E.P g [] (ys ++ [.cb Φ]) [(3000, .res J0)] [(3000, .res J1)] res) (hS : Stable J1)
    (hcall : ∀ args w, (callFunc g args).run E.P w = .ok (.enter g args) w) (hg : Gd all s guard rg) (hd : (Nat.blt d 1000 && Nat.blt d E.nt) = true) (ha : OpsS s os xs r) (hx : ys ++ [.cb Φ] = xs) (ho : ys.all okArg = true) (hl : look s 3000 = some (.res J0)) (hs : scal res = true) :
    St1 E all ⟨some d, .call { callee := .value (.func g), args := os.toArray, argTypes := at_ }, ty, pos, after, guard⟩ s (rg ++ (r ++ [(3000, .res J0)])) ((d, res) :: [(3000, .res J1)]) [] := by
  subst hx
  simp only [Bool.and_eq_true, Nat.blt_eq] at hd
  refine ⟨?_, hg.looks.app (ha.looks.app ⟨hl, trivial⟩)⟩
  intro U c a w hb hr _ next Q hn
  have hw := hg.wanted (o := ⟨some d, .call { callee := .value (.func g), args := os.toArray, argTypes := at_ }, ty, pos, after, guard⟩) (fun p hp => hr p (List.mem_append_left _ hp))
  obtain ⟨vs1, u0, e1, hys, hu0⟩ := All2.split1 (ha.rep (c := c) (a := a) (w := w) fun p hp => hr p (by simp [hp]))
  have hargs := args_clean hys ho
  have hv0 : Φ u0 := hu0
  unfold opIn
  rw [if_pos hw]
  refine ⟨fun _ _ => trivial, ?_⟩
  rw [Oper.semAt_eq _ _ _ fun cl he => by cases he]
  have hfo : a.eval (.func g) = .func (.func g) #[] #[] := rfl
  have hrun : (execOp a.eval ⟨some d, .call { callee := .value (.func g), args := os.toArray, argTypes := at_ }, ty, pos, after, guard⟩).run E.P w = .ok (.enter g (vs1 ++ [u0]).toArray) w := by
    rw [← e1]
    simp [execOp, resolve, hfo, Deferred.ofValue, invoke, hcall]
  rw [hrun]
  refine ⟨(fun h => by cases h), ?_⟩
  obtain ⟨hS0, hJ0⟩ := res_of (hr (3000, .res J0) (by simp))
  have hc0 := hf ⟨c.h, fun _ => none, fun _ => none, c.Y⟩ w (vs1 ++ [u0])
    ⟨hb.hw, (fun k b e => by cases e), (fun k m hv b e => by cases e), (fun _ _ => ⟨rfl, rfl⟩), (fun b hy => ⟨(hb.Y b hy).1, (fun k e => by cases e), (fun k m hv e => by cases e)⟩)⟩
    (fun p hp a' => by
      simp only [List.mem_singleton] at hp
      subst hp
      exact Holds.mkRes hS0 hJ0)
    ((hargs.mono fun _ _ => RepV.mono (pure_ext (c := Ctx.mk c.h (fun _ => none) (fun _ => none) c.Y) rfl)).append (show All2 (RepV (Ctx.mk c.h (fun _ => none) (fun _ => none) c.Y)) [X.cb Φ] [u0] from ⟨hv0, trivial⟩))
  have h1 : CallsIn E.F (0 - 1) E.P g (vs1 ++ [u0]).toArray w _ := (callsIn_wide (n := 0)).2 hc0
  refine h1.mono ?_
  rintro en w' ⟨u, c2, rfl, hpg⟩
  obtain ⟨_, hJ1⟩ := res_of (hpg.wr (3000, .res J1) (by simp) a)
  have out0 : ∀ b, (Ctx.mk c.h (fun _ => none) (fun _ => none) c.Y).out [] b → c.Y b := by
    rintro b (hy | ⟨k, q, _⟩ | ⟨k, m, hv, q, _⟩)
    · exact hy
    · cases q
    · cases q
  have hp : PostJ c.h c.Y w c2.h c2.Y w' := ⟨hpg.below.mono (Nat.le_refl _) fun k _ hk => out0 k hk, hpg.le, fun p v hp => (hpg.new p v hp).imp id fun q => ⟨q.1, fun hy => q.2 (.inl hy)⟩, hpg.ok.hw, fun b hy => (hpg.ok.Y b hy).1, fun b hy hlt => out0 b (hpg.out b (.inl hy) hlt)⟩
  have hext : Ext c ⟨c2.h, c.loc, c.arr, c2.Y⟩ := ⟨hp.le, fun _ _ e => e, fun _ m hv lv e => ⟨m, hv, lv, e, Nat.le_refl _, fun _ => rfl⟩⟩
  have hdt : d < a.tmps.size := by rw [hb.nt]; exact hd.2
  refine hn ⟨c2.h, c.loc, c.arr, c2.Y⟩ _ w' ((hb.turn hp).put _ _) hext ?_ ?_
  · intro p hp2
    simp only [List.mem_cons, List.not_mem_nil, or_false] at hp2
    rcases hp2 with rfl | rfl
    · unfold Holds
      rw [if_pos hd.1, getD_put hdt]
      exact scal_any hs hpg.res
    · exact (Holds.mkRes (c := ⟨c2.h, c.loc, c.arr, c2.Y⟩) (a := a) hS hJ1).put (by show d ≠ 3000; omega) u
  · intro key y hk hy
    have hne : d ≠ key := hk (d, res) (by simp)
    have hne2 : 3000 ≠ key := hk (3000, .res J1) (by simp)
    by_cases h1 : key < 1000
    · refine Holds.put ?_ hne u
      unfold Holds at hy ⊢
      rw [if_pos h1] at hy ⊢
      exact hy.mono hext
    · exact (Holds.turn hb hp h1 (fun e => hne2 e.symm) hy).put hne u
/-- append where there is no room, as data. -/
theorem S.appendClipD {t e sz bytes j m : Nat} {rows rows2 rows' : List (List X)} (hA : ApI E.P t e sz bytes) (hg : Gd all s guard rg) (hd : (Nat.blt d 1000 && Nat.blt d E.nt) = true) (hx : OpS s x (.slc rows) r1) (hw : ∀ q ∈ rows, q.length = sz)
    (hy : OpS s y (.own j m) r2) (hl2 : look s (2000 + j) = some (.arr sz rows2)) (hm : rows2.length = m) (hm0 : 0 < m) (hrows : rows ++ rows2 = rows') (hbd : (rows.length + m) * bytes ≤ 140737488355328) (hbm : rows.length + m ≤ maxLen) :
    St1 E all ⟨some d, .call { callee := .builtin .append, args := #[x, y], argTypes := #[t, t] }, ty, pos, after, guard⟩ s (rg ++ (r1 ++ (r2 ++ [(2000 + j, .arr sz rows2)]))) [(d, .sl rows')] [] :=
  St1.mk hg hd rfl (hx.looks.app (hy.looks.app ⟨hl2, trivial⟩)) fun U c a w hb hr hal => by
    clear hal
    subst hrows
    subst hm
    have hxr : RepP c (.slc rows) (a.eval x) := hx.rep (c := c) (a := a) (w := w) fun p hp => hr p (by simp [hp])
    obtain ⟨hxD, ad, hxv⟩ := hxr
    obtain ⟨_, m0, hv, lv, e1, e2, e3⟩ := own_of (hy.rep (c := c) (a := a) (w := w) fun p hp => hr p (by simp [hp]))
    obtain ⟨v, e', vs, g1, g2, g3, g4⟩ := arr_of (hr (2000 + j, .arr sz rows2) (by simp))
    rw [e1] at g1
    cases g1
    have hyv := e3 rfl
    obtain ⟨i, zv, i1, i2, i3, i4, i5⟩ := hA.ex
    obtain ⟨xs, x1, x2, x3⟩ : ∃ xs : List Value, xs.length = rows.length * sz ∧ All2 (RepD c.h) rows.flatten xs ∧ ((ad = none ∧ rows.length = 0) ∨ ∃ A, ad = some A ∧ ∀ j u, xs[j]? = some u → w.cell? (A.add j) = some u) := by
      rw [hxv] at hxD
      cases hxD with
      | sl0 _ cap h =>
        refine ⟨[], by simp, trivial, ?_⟩
        cases ad with
        | none => exact .inl ⟨rfl, rfl⟩
        | some A => exact .inr ⟨A, rfl, fun j u h => by simp at h⟩
      | sl _ b off cap sz' vs0 h1 h2 h3 h4 h5 h6 =>
        exact ⟨vs0, by rw [← h4, flatten_length hw], All2.of_get h4 fun i u v hu hv => h6 i u v hu hv, .inr ⟨_, rfl, fun j u hu => by rw [add_off]; exact hb.hw _ _ (h5 j u hu)⟩⟩
    obtain ⟨cap, cells, q1, q2⟩ := run_append_clip (P := E.P) w t ty e i zv sz bytes hA.und i1 i2 i3 i4 i5 ad rows.length xs x1 x3 (a.eval y) rows2.length hm0 vs (by
        intro w2
        rw [hyv]
        rcases g2.2 with ⟨rfl, h0⟩ | ⟨g, cap, cur, rfl, _⟩
        · omega
        · simp [Builtin.lenOf]) g2.1 (by
        intro w' hw'
        rw [hyv]
        rcases g2.2 with ⟨rfl, h0⟩ | ⟨g, cap, cur, rfl, h1, h2, h3, h4, h5, h6⟩
        · omega
        · exact run_firstCells_some w' sz rows2.length ⟨g, 0, none⟩ rows2.length cap vs g2.1 fun i u hu => by rw [hw']; exact g2.cells (g := g) rfl i u hu) hbm hbd
    obtain ⟨w', hw'⟩ : ∃ w', w' = w.drew.alloc (.cells cells e) := ⟨_, rfl⟩
    rw [← hw'] at q1 q2
    have hB : Below w.heap.size w w' := hw' ▸ ((Below.refl w.heap.size w).drew).alloc (Nat.le_refl _) (.cells cells e)
    obtain ⟨h', hh'⟩ : ∃ h' : Mem, h' = fun p => if p.block = w.heap.size then w'.cell? p else c.h p := ⟨_, rfl⟩
    have hle : Mem.le c.h h' := by
      intro p u hp
      rw [hh']
      dsimp only
      rw [if_neg (by have := block_lt_of_cell (hb.hw p u hp); omega)]
      exact hp
    have hnw : ∀ p u, h' p = some u → c.h p = some u ∨ w.heap.size ≤ p.block := fun p u hp => by
      rw [hh'] at hp
      dsimp only at hp
      split at hp
      · exact .inr (by omega)
      · exact .inl hp
    have hbase2 := hb.below_grow hB hle hnw (fun p u hp => by
      rw [hh'] at hp
      dsimp only at hp
      split at hp
      · exact hp
      · rw [hB.cell (block_lt_of_cell (hb.hw p u hp))]; exact hb.hw p u hp)
    have hext : Ext c ⟨h', c.loc, c.arr, c.Y⟩ := ⟨hle, fun _ _ e => e, fun _ m hv lv e => ⟨m, hv, lv, e, Nat.le_refl _, fun _ => rfl⟩⟩
    refine ⟨.slice (some ⟨w.heap.size, 0, none⟩) (rows.length + rows2.length) cap, ⟨h', c.loc, c.arr, c.Y⟩, w', ?_, hbase2, hext, ?_, (fun p hp => by cases hp), fun key u hkey _ hu => Holds.below hb hB hext (fun _ _ _ e => e) rfl hnw hbase2.hw hkey hu⟩
    · simp only [execOp, resolve, invoke, builtin, Sem.run_bind, Sem.run_pure, Result.andThen_ok, List.map_toArray, List.map_cons, List.map_nil, hxv, q1]
    · refine RepD.toT (c := ⟨h', c.loc, c.arr, c.Y⟩) (RepD.of_owns (h := c.h) (rows := rows ++ rows2) (vs := xs ++ vs) (by rw [List.length_append]; exact q2) (fun q hq => ?_) (by rw [List.flatten_append]; exact x2.append g4) hle fun b o hbk => ?_)
      · rcases List.mem_append.1 hq with h | h
        · exact hw q h
        · exact g3 q h
      · cases hbk
        rw [hh']
        dsimp only
        rw [if_pos rfl]
/-- l[:0:0]: nothing, without room. -/
theorem S.slice00 {t e sz : Nat} {rows : List (List X)} {i j : Int} (hs : SlI E.P t e sz) (hg : Gd all s guard rg) (hd : (Nat.blt d 1000 && Nat.blt d E.nt) = true) (hx : OpS s x (.sl rows) r1) (hy : OpS s y (.int .i64 i) r2) (hz : OpS s z (.int .i64 j) r3) (hi : i = 0) (hj : j = 0) :
    St1 E all ⟨some d, .slice t x none (some y) (some z), ty, pos, after, guard⟩ s (rg ++ (r1 ++ (r2 ++ r3))) [(d, .slc [])] [] :=
  St1.val hg hd rfl (hx.looks.app (hy.looks.app hz.looks)) fun c A w hh hr => by
    have hrep : RepD c.h (.sl rows) (A.eval x) := hx.rep (c := c) (a := A) (w := w) fun p hp => hr p (by simp [hp])
    have hyv := (int_of (hy.rep (c := c) (a := A) (w := w) fun p hp => hr p (by simp [hp]))).1
    have hzv := (int_of (hz.rep (c := c) (a := A) (w := w) fun p hp => hr p (by simp [hp]))).1
    subst hi
    subst hj
    obtain ⟨v0, hv0⟩ : ∃ v0, A.eval x = v0 := ⟨_, rfl⟩
    rw [hv0] at hrep
    cases hrep with
    | sl0 a cap h =>
      refine ⟨.slice a 0 0, ?_, .sl0 a 0 (Nat.zero_le _), a, rfl⟩
      simp [execOp, hv0, hyv, hzv, Instr.sliceAt, Instr.slice, run_underlying hs.und, Instr.sliceBounds, Instr.sliceBound, asIntOf, hs.size]
    | sl _ b off cap sz' vs h1 h2 h3 h4 h5 h6 =>
      refine ⟨.slice (some ⟨b, off, none⟩) 0 0, ?_, .sl0 _ 0 (Nat.zero_le _), _, rfl⟩
      simp [execOp, hv0, hyv, hzv, Instr.sliceAt, Instr.slice, run_underlying hs.und, Instr.sliceBounds, Instr.sliceBound, asIntOf, hs.size, add_zero']
/-- append of data where there is no room: new memory. -/
theorem S.appendClipS {t e sz bytes k m : Nat} {rows rows2 rows' : List (List X)} (hA : ApI E.P t e sz bytes) (hg : Gd all s guard rg) (hd : (Nat.blt d 1000 && Nat.blt d E.nt) = true) (hx : OpS s x (.slc rows) r1) (hw : ∀ q ∈ rows, q.length = sz)
    (hy : OpS s y (.sl rows2) r2) (hw2 : ∀ q ∈ rows2, q.length = sz) (hm : rows2.length = m) (hm0 : 0 < m) (hrows : rows ++ rows2 = rows') (hbd : (rows.length + m) * bytes ≤ 140737488355328) (hbm : rows.length + m ≤ maxLen) (hk9 : E.fs.contains k = false := by rfl) (hk1 : Nat.blt k 1000 = true := by rfl) :
    St1 E all ⟨some d, .call { callee := .builtin .append, args := #[x, y], argTypes := #[t, t] }, ty, pos, after, guard⟩ s (rg ++ (r1 ++ r2)) ((d, .own k (rows.length + m)) :: [(2000 + k, .arr sz rows')]) [k] :=
  St1.mk hg hd rfl (hx.looks.app hy.looks) fun U c a w hb hr hal => by
    subst hrows
    subst hm
    rw [Nat.blt_eq] at hk1
    have hkU : k ∉ U := hal k (by simp)
    have hxr : RepP c (.slc rows) (a.eval x) := hx.rep (c := c) (a := a) (w := w) fun p hp => hr p (by simp [hp])
    obtain ⟨hxD, ad, hxv⟩ := hxr
    have hyD : RepD c.h (.sl rows2) (a.eval y) := hy.rep (c := c) (a := a) (w := w) fun p hp => hr p (by simp [hp])
    obtain ⟨yv, hyv⟩ : ∃ yv, a.eval y = yv := ⟨_, rfl⟩
    rw [hyv] at hyD
    obtain ⟨yb, yo, ycap, vs, e1, e2, e3, e4⟩ : ∃ b off cap, ∃ vs : List Value, yv = .slice (some ⟨b, off, none⟩) rows2.length cap ∧ vs.length = rows2.length * sz ∧ All2 (RepD c.h) rows2.flatten vs ∧ (∀ j u, vs[j]? = some u → w.cell? ⟨b, off + j, none⟩ = some u) := by
      cases hyD with
      | sl0 _ cap h => simp at hm0
      | sl _ b off cap sz' vs0 h1 h2 h3 h4 h5 h6 => exact ⟨b, off, cap, vs0, rfl, by rw [← h4, flatten_length hw2], All2.of_get h4 fun i u v hu hv => h6 i u v hu hv, fun j u hu => hb.hw _ _ (h5 j u hu)⟩
    obtain ⟨i, zv, i1, i2, i3, i4, i5⟩ := hA.ex
    obtain ⟨xs, x1, x2, x3⟩ : ∃ xs : List Value, xs.length = rows.length * sz ∧ All2 (RepD c.h) rows.flatten xs ∧ ((ad = none ∧ rows.length = 0) ∨ ∃ A, ad = some A ∧ ∀ j u, xs[j]? = some u → w.cell? (A.add j) = some u) := by
      rw [hxv] at hxD
      cases hxD with
      | sl0 _ cap h =>
        refine ⟨[], by simp, trivial, ?_⟩
        cases ad with
        | none => exact .inl ⟨rfl, rfl⟩
        | some A => exact .inr ⟨A, rfl, fun j u h => by simp at h⟩
      | sl _ b off cap sz' vs0 h1 h2 h3 h4 h5 h6 =>
        exact ⟨vs0, by rw [← h4, flatten_length hw], All2.of_get h4 fun i u v hu hv => h6 i u v hu hv, .inr ⟨_, rfl, fun j u hu => by rw [add_off]; exact hb.hw _ _ (h5 j u hu)⟩⟩
    obtain ⟨cap, cells, q1, q2⟩ := run_append_clip (P := E.P) w t ty e i zv sz bytes hA.und i1 i2 i3 i4 i5 ad rows.length xs x1 x3 yv rows2.length hm0 vs (by
        intro w2
        rw [e1]
        simp [Builtin.lenOf]) e2 (by
        intro w' hw'
        rw [e1]
        exact run_firstCells_some w' sz rows2.length ⟨yb, yo, none⟩ rows2.length ycap vs e2 fun i u hu => by rw [hw', add_off]; exact e4 i u hu) hbm hbd
    have hB : Below w.heap.size w (w.drew.alloc (.cells cells e)) := ((Below.refl w.heap.size w).drew).alloc (Nat.le_refl _) (.cells cells e)
    have hsz : w.heap.size < (w.drew.alloc (.cells cells e)).heap.size := by
      show w.heap.size < (w.heap.push _).size
      rw [Array.size_push]
      omega
    obtain ⟨t1, t2, t3, t4⟩ := hb.ownNew (nfs hk9) hkU (n := rows.length + rows2.length) (v := .slice (some ⟨w.heap.size, 0, none⟩) (rows.length + rows2.length) cap) hB (.inr ⟨rfl, hsz⟩)
    refine ⟨_, _, _, ?_, t1, t2, ⟨⟨_, _, _, rfl⟩, _, _, _, t3, Nat.le_refl _, fun _ => rfl⟩, ?_, fun key u hkey _ hu => t4 key u hkey hu⟩
    · simp only [execOp, resolve, invoke, builtin, Sem.run_bind, Sem.run_pure, Result.andThen_ok, List.map_toArray, List.map_cons, List.map_nil, hxv, hyv, q1]
    · intro p hp
      simp only [List.mem_singleton] at hp
      subst hp
      refine Holds.mkArr (e := e) (vs := xs ++ vs) (by omega) (by rw [List.length_append]; exact t3) (by rw [List.length_append]; exact q2) (fun q hq => ?_) ?_
      · rcases List.mem_append.1 hq with h | h
        · exact hw q h
        · exact hw2 q h
      · rw [List.flatten_append]
        exact (x2.append e3).mono fun _ _ => RepD.mono t2.h
/-- A nil slice is nil. -/
theorem S.eqnilN {t t2 e : Nat} (ht : E.P.underlying t = some (.slice e)) (hg : Gd all s guard rg) (hd : (Nat.blt d 1000 && Nat.blt d E.nt) = true) (hx : OpS s x .nils r) :
    St1 E all ⟨some d, .binOp .eql t x (.const (.slice none 0 0)) t2, ty, pos, after, guard⟩ s (rg ++ r) [(d, .bool true)] [] :=
  St1.val hg hd rfl hx.looks fun c A w _ hr => by
    have hv : A.eval x = .slice none 0 0 := hx.rep (c := c) (a := A) (w := w) hr
    refine ⟨.bool true, ?_, RepD.toT (.bool _)⟩
    have hc : A.eval (.const (.slice none 0 0)) = .slice none 0 0 := rfl
    have hq : (eqGuard .eql t x (.const (.slice none 0 0)) (.slice none 0 0) (.slice none 0 0)).run E.P w = .ok () w := by simp [eqGuard]
    have hr := Lib.run_eql_slice_nil (P := E.P) w t e none 0 0 0 0 ht
    simp only [execOp, hv, hc, Sem.run_bind, hq, Result.andThen_ok, hr]
    rfl
end
end Go.Ab
