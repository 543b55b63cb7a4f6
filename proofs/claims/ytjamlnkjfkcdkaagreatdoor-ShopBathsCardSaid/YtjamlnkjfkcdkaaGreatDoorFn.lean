/-
  Abstract states: function values of others, which turn only what is theirs; ranges over functions.
-/
import Derived.Test.YtjamlnkjfkcdkaaGreatDoorFm
namespace Go.Ab
open Go.RowKit

structure PostJ (h : Mem) (Y : Nat → Prop) (w : World) (h' : Mem) (Y' : Nat → Prop) (w' : World) : Prop where
  below : BelX w.heap.size Y w w'
  le : Mem.le h h'
  new : ∀ p v, h' p = some v → h p = some v ∨ (w.heap.size ≤ p.block ∧ ¬ Y' p.block)
  hw : ∀ p v, h' p = some v → w'.cell? p = some v
  lt : ∀ b, Y' b → b < w'.heap.size
  out : ∀ b, Y' b → b < w.heap.size → Y b

theorem pure_ext {h : Mem} {c : Ctx} (hc : c.h = h) : Ext (pureC h) c := ⟨by rw [hc]; exact Mem.le_refl _, (fun _ _ e => by cases e), (fun _ _ _ _ e => by cases e)⟩
/-- A call of a function value: of a function with what it has caught, or of a round. -/
def CallV (P : Program) (v : Value) (args : Array Value) (w : World) (R : Ending → World → Prop) : Prop :=
  (∃ f first caps, v = .func (.func f) first caps ∧ (∀ args w, (callFunc f args).run P w = .ok (.enter f args) w) ∧ Calls P f (first ++ args ++ caps) w R) ∨
  (∃ l, v = .func (.yield l) #[] #[] ∧ YieldAt Fence.wide 0 P l args w R)

def CbOk (P : Program) (v : Value) (ys : List X) (res : X) (J0 J1 : Mem → (Nat → Prop) → World → Prop) : Prop :=
  ∀ (h : Mem) (Y : Nat → Prop) (w : World) (vs : List Value), (∀ p v, h p = some v → w.cell? p = some v) → (∀ b, Y b → b < w.heap.size) → J0 h Y w → All2 (RepV (pureC h)) ys vs →
    CallV P v vs.toArray w fun e w' => ∃ u h' Y', e = .returned u ∧ PostJ h Y w h' Y' w' ∧ J1 h' Y' w' ∧ RepT (pureC h') res u

section
variable {E : Env} {U : List Nat} {c : Ctx} {a : Act} {w w' : World} {h' : Mem} {Y' : Nat → Prop}
theorem Base.turn (hb : Base E U c a w) (hp : PostJ c.h c.Y w h' Y' w') : Base E U ⟨h', c.loc, c.arr, Y'⟩ a w' := by
  have hs := hp.below.size
  have none_of : ∀ b o, b < w.heap.size → c.h ⟨b, o, none⟩ = none → h' ⟨b, o, none⟩ = none := by
    intro b o hlt hn
    cases hh : h' ⟨b, o, none⟩ with
    | none => rfl
    | some v =>
      rcases hp.new _ _ hh with h | h
      · rw [hn] at h; cases h
      · have := h.1; simp only at this; omega
  have hall : ∀ b, b < w.heap.size → (Ctx.mk h' c.loc c.arr Y').all b → c.all b := by
    intro b hlt h
    rcases h with h | h | h
    · exact .inl (hp.out b h hlt)
    · exact .inr (.inl h)
    · exact .inr (.inr h)
  have hsame : ∀ D o, ¬ c.all D → w.heap[D]? = some o → w'.heap[D]? = some o := fun D o h1 h2 => (hp.below.block D (Array.getElem?_eq_some_iff.1 h2).1 fun hy => h1 (.inl hy)).trans h2
  refine ⟨hb.below.trans (hp.below.mono hb.hB fun k hk hy => (hb.Y k hy).2.1 hk), Nat.le_trans hb.hB hs, hb.nt, ⟨hb.dfr.1, fun d hd => ?_⟩, ?_, hp.hw, Mem.le_trans hb.hle hp.le, ?_, ?_, ?_, hb.used, ?_, hb.loc0, hb.arr0⟩
  · obtain ⟨D, h1, h2, h3, h4⟩ := hb.dfr.2 d hd
    exact ⟨D, h1, h2, fun e => h3 (hall D (Array.getElem?_eq_some_iff.1 h4).1 e), hsame D _ h3 h4⟩
  · intro p hp2
    obtain ⟨h1, h2, h3⟩ := hb.pin p hp2
    exact ⟨fun e => h1 (hall _ (Array.getElem?_eq_some_iff.1 h3).1 e), h2, hsame _ _ h1 h3⟩
  · intro p v hv
    rcases hp.new p v hv with h | h
    · rcases hb.hnew p v h with h1 | ⟨h1, h2⟩
      · exact .inl h1
      · exact .inr ⟨h1, fun hy => h2 (hp.out _ hy (block_lt_of_cell (hb.hw p v h)))⟩
    · exact .inr ⟨Nat.le_trans hb.hB h.1, h.2⟩
  · intro k b hk
    obtain ⟨h1, h2, h3, h4, h5⟩ := hb.loc k b hk
    exact ⟨h1, Nat.lt_of_lt_of_le h2 hs, fun o => none_of b o h2 (h3 o), h4, h5⟩
  · intro k m hv b hk hbk
    obtain ⟨h1, h2, h3, h4⟩ := hb.arr k m hv b hk hbk
    exact ⟨h1, Nat.lt_of_lt_of_le h2 hs, fun o => none_of b o h2 (h3 o), h4⟩
  · intro b hy
    refine ⟨hp.lt b hy, fun hlt => (hb.Y b (hp.out b hy (Nat.lt_of_lt_of_le hlt hb.hB))).2.1 hlt, fun k hk => ?_, fun k m hv hk hbk => ?_⟩
    · have := (hb.loc k b hk).2.1
      exact (hb.Y b (hp.out b hy this)).2.2.1 k hk
    · have := (hb.arr k m hv b hk hbk).2.1
      exact (hb.Y b (hp.out b hy this)).2.2.2 k m hv hk hbk
theorem Holds.turn (hb : Base E U c a w) (hp : PostJ c.h c.Y w h' Y' w') {key : Nat} {x : X} (hk : ¬ key < 1000) (hne : key ≠ 3000) (h : Holds c a w key x) : Holds ⟨h', c.loc, c.arr, Y'⟩ a w' key x := by
  have hext : Ext c ⟨h', c.loc, c.arr, Y'⟩ := ⟨hp.le, fun _ _ e => e, fun _ m hv lv e => ⟨m, hv, lv, e, Nat.le_refl _, fun _ => rfl⟩⟩
  unfold Holds at *
  rw [if_neg hk] at h ⊢
  refine or_snd h fun h => ?_
  split at h
  · rename_i h2
    rw [if_pos h2]
    obtain ⟨b, o, h1, h3, h4⟩ := h
    exact ⟨b, o, h1, (hp.below.block b (hb.loc _ _ h1).2.1 fun hy => (hb.Y b hy).2.2.1 _ h1).trans h3, h4.mono hext⟩
  · rename_i h2
    rw [if_neg h2]
    split at h
    · rename_i h6
      rw [if_pos h6]
      obtain ⟨sz, rows, hv, e, vs, hx, h1, h3, h4⟩ := h
      refine ⟨sz, rows, hv, e, vs, hx.mono hext, h1, ⟨h3.1, h3.2.imp id ?_⟩, h4⟩
      rintro ⟨g, cap, cur, f1, f2, f3, r⟩
      exact ⟨g, cap, cur, f1, f2, (hp.below.block g (Array.getElem?_eq_some_iff.1 f3).1 fun hy => (hb.Y g hy).2.2.2 _ _ _ h1 (by rw [f1]; rfl)).trans f3, r⟩
    · exact absurd h.1 hne
end

section
variable {E : Env} {all : Array Oper} {s r r1 r2 r3 rg : St} {d ty : Nat} {pos : String} {after : Array Edge} {guard : Option (Nat × Bool)} {x y z : Operand}
/-- A call of a function value of others. -/
theorem S.callcb {os : List Operand} {at_ : Array TypeId} {ys : List X} {res : X} {Φ : Value → Prop} {J0 J1 : Mem → (Nat → Prop) → World → Prop} (hΦ : ∀ v, Φ v → CbOk E.P v ys res J0 J1) (hJ1 : Stable J1) (hg : Gd all s guard rg) (hd : (Nat.blt d 1000 && Nat.blt d E.nt) = true)
    (hx : OpS s x (.cb Φ) r1) (ha : OpsS s os ys r) (ho : ys.all okArg = true) (hl : look s 3000 = some (.res J0)) :
    St1 E all ⟨some d, .call { callee := .value x, args := os.toArray, argTypes := at_ }, ty, pos, after, guard⟩ s (rg ++ (r1 ++ (r ++ [(3000, .res J0)]))) [(d, res), (3000, .res J1)] [] := by
  simp only [Bool.and_eq_true, Nat.blt_eq] at hd
  refine ⟨?_, hg.looks.app (hx.looks.app (ha.looks.app ⟨hl, trivial⟩))⟩
  intro U c a w hb hr _ next Q hn
  have hw := hg.wanted (o := ⟨some d, .call { callee := .value x, args := os.toArray, argTypes := at_ }, ty, pos, after, guard⟩) (fun p hp => hr p (List.mem_append_left _ hp))
  have hv : Φ (a.eval x) := hx.rep (c := c) (a := a) (w := w) fun p hp => hr p (by simp [hp])
  have hJ : HoldsRes c w 3000 (.res J0) := by
    have := hr (3000, .res J0) (by simp)
    unfold Holds at this
    rw [if_neg (by omega), if_neg (by omega), if_neg (by omega)] at this
    rcases this with h | h
    · cases h
    · exact h
  obtain ⟨_, J, e, _, hJ0⟩ := hJ
  cases e
  have hargs := args_clean (ha.rep (c := c) (a := a) (w := w) fun p hp => hr p (by simp [hp])) ho
  unfold opIn
  rw [if_pos hw]
  refine ⟨fun _ _ => trivial, ?_⟩
  rw [Oper.semAt_eq _ _ _ fun cl he => by cases he]
  have fin : ∀ u h' Y' w', PostJ c.h c.Y w h' Y' w' → J1 h' Y' w' → RepT (pureC h') res u → next (a.put (some d) u) w' := by
    intro u h' Y' w' hp hj hres
    have hdt : d < a.tmps.size := by rw [hb.nt]; exact hd.2
    have hext : Ext c ⟨h', c.loc, c.arr, Y'⟩ := ⟨hp.le, fun _ _ e => e, fun _ m hv lv e => ⟨m, hv, lv, e, Nat.le_refl _, fun _ => rfl⟩⟩
    refine hn ⟨h', c.loc, c.arr, Y'⟩ _ w' ((hb.turn hp).put _ _) hext ?_ ?_
    · intro p hp2
      simp only [List.mem_cons, List.not_mem_nil, or_false] at hp2
      rcases hp2 with rfl | rfl
      · unfold Holds
        rw [if_pos hd.1, getD_put hdt]
        exact hres.mono (pure_ext (c := ⟨h', c.loc, c.arr, Y'⟩) rfl)
      · unfold Holds
        rw [if_neg (by omega), if_neg (by omega), if_neg (by omega)]
        exact .inr ⟨rfl, J1, rfl, hJ1, hj⟩
    · intro key y hk hy
      have hne : d ≠ key := hk (d, res) (by simp)
      have hne2 : 3000 ≠ key := hk (3000, .res J1) (by simp)
      by_cases h1 : key < 1000
      · refine Holds.put ?_ hne u
        unfold Holds at hy ⊢
        rw [if_pos h1] at hy ⊢
        exact hy.mono hext
      · exact (Holds.turn hb hp h1 (fun e => hne2 e.symm) hy).put hne u
  rcases hΦ _ hv c.h c.Y w _ hb.hw (fun b hy => (hb.Y b hy).1) hJ0 hargs with ⟨f, first, caps, e1, hcall, hcalls⟩ | ⟨l, e1, fn, tmps, assign, body, hy, hround⟩
  · have hrun : (execOp a.eval ⟨some d, .call { callee := .value x, args := os.toArray, argTypes := at_ }, ty, pos, after, guard⟩).run E.P w = .ok (.enter f (first ++ (os.map a.eval).toArray ++ caps)) w := by
      simp [execOp, resolve, e1, Deferred.ofValue, invoke, hcall, Array.append_assoc]
    rw [hrun]
    refine ⟨(fun h => by cases h), ?_⟩
    have h1 : CallsIn E.F (0 - 1) E.P f (first ++ (os.map a.eval).toArray ++ caps) w _ := (callsIn_wide (n := 0)).2 hcalls
    refine h1.mono ?_
    rintro e w' ⟨u, h', Y', rfl, hp, hj, hres⟩
    exact fin u h' Y' w' hp hj hres
  · have hrun : (execOp a.eval ⟨some d, .call { callee := .value x, args := os.toArray, argTypes := at_ }, ty, pos, after, guard⟩).run E.P w = .ok (.round l fn tmps assign body) w := by
      simp [execOp, resolve, e1, Deferred.ofValue, invoke]
      simpa using hy
    rw [hrun]
    refine ⟨(fun h => by cases h), ?_⟩
    have h1 : RoundIn E.F (0 - 1) E.P l fn tmps assign body w _ := hround
    refine h1.mono ?_
    rintro e w' ⟨u, h', Y', rfl, hp, hj, hres⟩
    exact fin u h' Y' w' hp hj hres
end
end Go.Ab
