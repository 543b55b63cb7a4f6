/-
  Abstract states: calls, boxes, slices of the activation's own.
-/
import Derived.Test.YtjamlnkjfkcdkaaGreatDoorFf
namespace Go.Ab
open Go.RowKit

/-! ### a region, walked on its way -/
def RK (E : Env) (all : Array Oper) (l : List Oper) (U : List Nat) (s : St) (Q : Exit → List Nat → St → Prop) : Prop :=
  ∀ (k : Nat), (∀ j, all[k + j]? = l[j]?) → ∀ a w, Good E U s a w → wpOpsIn E.F 0 E.P all (fun e a' w' => ∃ U' s', Good E U' s' a' w' ∧ Q e U' s') (List.range' k l.length) a w
section
variable {E : Env} {all : Array Oper} {l : List Oper} {U : List Nat} {s : St} {Q : Exit → List Nat → St → Prop}
theorem RK.nil (h : Q .normal U s) : RK E all [] U s Q := fun _ _ a w hg => by simpa [wpOpsIn] using ⟨U, s, hg, h⟩
theorem RK.c {o : Oper} {rd wr : St} {al : List Nat} (h : St1 E all o s rd wr al) (hr : RK E all l (al ++ U) (wr ++ s) Q) (ha : (al.all fun k => !U.contains k) = true := by rfl) : RK E all (o :: l) U s Q := by
  intro k hk a w hg
  rw [List.length_cons, List.range'_succ, wpOpsIn_cons]
  refine opIn_wpOpIn (by simpa using hk 0) (h.1.good hg h.2 ha fun a' w' hg' => hr (k + 1) (fun j => ?_) a' w' hg')
  have := hk (j + 1)
  simp only [List.getElem?_cons_succ] at this
  rw [← this]
  congr 1
  omega
theorem RK.split {t : Nat} {b : Bool} (hl : look s t = some (.bool b)) (hx : b = true → RK E all l U ((t, .bool true) :: s) Q) (hy : b = false → RK E all l U ((t, .bool false) :: s) Q) : RK E all l U s Q := by
  intro k hk a w hg
  cases b with
  | true => exact hx rfl k hk a w (hg.imp fun c h => ⟨h.1, fun key x hx => h.2 key x (by
      simp only [look] at hx; split at hx
      · rename_i hb; have := Nat.eq_of_beq_eq_true hb; cases hx; rw [← this]; exact hl
      · exact hx)⟩)
  | false => exact hy rfl k hk a w (hg.imp fun c h => ⟨h.1, fun key x hx => h.2 key x (by
      simp only [look] at hx; split at hx
      · rename_i hb; have := Nat.eq_of_beq_eq_true hb; cases hx; rw [← this]; exact hl
      · exact hx)⟩)
theorem RK.splitD {t : Nat} {p : Prop} [Decidable p] (hl : look s t = some (.bool (decide p))) (hx : p → RK E all l U ((t, .bool true) :: s) Q) (hy : ¬ p → RK E all l U ((t, .bool false) :: s) Q) : RK E all l U s Q :=
  RK.split hl (fun h => hx (of_decide_eq_true h)) (fun h => hy (of_decide_eq_false h))
theorem OK.reg {id : Nat} (h : RK E l.toArray l U s Q) : OK E (.region id l.toArray false) Q U s := by
  intro a w hg
  refine wpIn_region ?_
  have := h 0 (by simp) a w hg
  rw [List.range_eq_range']
  simpa using this
theorem OK.condD {t : Nat} {p : Prop} [Decidable p] {x y : Code} (ht : Nat.blt t 1000 = true) (hl : look s t = some (.bool (decide p))) (hx : p → OK E x Q U s) (hy : ¬ p → OK E y Q U s) : OK E (.cond (.tmp t) x y) Q U s :=
  OK.cond ht hl (fun h => hx (of_decide_eq_true h)) (fun h => hy (of_decide_eq_false h))
theorem OK.condT {t : Nat} {b : Bool} {x y : Code} (ht : Nat.blt t 1000 = true) (hl : look s t = some (.bool b)) (hb : b = true) (hx : OK E x Q U s) : OK E (.cond (.tmp t) x y) Q U s :=
  OK.cond ht hl (fun _ => hx) (fun h => by rw [hb] at h; cases h)
theorem OK.condF {t : Nat} {b : Bool} {x y : Code} (ht : Nat.blt t 1000 = true) (hl : look s t = some (.bool b)) (hb : b = false) (hy : OK E y Q U s) : OK E (.cond (.tmp t) x y) Q U s :=
  OK.cond ht hl (fun h => by rw [hb] at h; cases h) (fun _ => hy)
/-- Facts that a state bears. -/
theorem OK.slLen {t : Nat} {rows : List (List X)} {c : Code} (ht : Nat.blt t 1000 = true) (hl : look s t = some (.sl rows)) (h : rows.length ≤ maxLen → OK E c Q U s) : OK E c Q U s := by
  intro a w hg
  obtain ⟨cx, hb, hh⟩ := hg
  obtain ⟨_, cap, _, h1, h2, _⟩ := sl_of ((hh t _ hl).slot ht)
  exact h (Nat.le_trans h1 h2) a w ⟨cx, hb, hh⟩
theorem OK.strLen {t : Nat} {z : List UInt8} {c : Code} (ht : Nat.blt t 1000 = true) (hl : look s t = some (.str z)) (h : z.length ≤ maxLen → OK E c Q U s) : OK E c Q U s := by
  intro a w hg
  obtain ⟨cx, hb, hh⟩ := hg
  exact h (str_of ((hh t _ hl).slot ht)).2 a w ⟨cx, hb, hh⟩
theorem OK.intB {t : Nat} {k : IntKind} {n : Int} {c : Code} (ht : Nat.blt t 1000 = true) (hl : look s t = some (.int k n)) (h : k.wrap n = n → OK E c Q U s) : OK E c Q U s := by
  intro a w hg
  obtain ⟨cx, hb, hh⟩ := hg
  exact h (int_of ((hh t _ hl).slot ht)).2 a w ⟨cx, hb, hh⟩
theorem i64_bd {n : Int} (h : IntKind.i64.wrap n = n) : -9223372036854775808 ≤ n ∧ n ≤ 9223372036854775807 := by
  rw [IntKind.wrap_i64] at h
  omega
end

theorem dfr_of {E : Env} {U : List Nat} {c c' : Ctx} {a : Act} {w w' : World} (hb : Base E U c a w) (ho : ∀ b, b < w.heap.size → c'.all b → c.all b) (hd : ∀ (D : Nat) (o : Obj), w.heap[D]? = some o → o.isCells = false → w'.heap[D]? = some o) :
    a.defers.Pairwise (· ≠ ·) ∧ ∀ d ∈ a.defers, ∃ D, d = { target := .collected D, args := #[] } ∧ E.B ≤ D ∧ ¬ c'.all D ∧ w'.heap[D]? = some (.deferred (some [])) :=
  ⟨hb.dfr.1, fun d h => by
    obtain ⟨D, h1, h2, h3, h4⟩ := hb.dfr.2 d h
    exact ⟨D, h1, h2, fun e => h3 (ho D (Array.getElem?_eq_some_iff.1 h4).1 e), hd D _ h4 rfl⟩⟩
theorem pin_of {E : Env} {U : List Nat} {c c' : Ctx} {a : Act} {w w' : World} (hb : Base E U c a w) (ho : ∀ b, b < w.heap.size → c'.all b → c.all b) (hd : ∀ (D : Nat) (o : Obj), w.heap[D]? = some o → o.isCells = false → w'.heap[D]? = some o) :
    ∀ p ∈ E.pins, ¬ c'.all p.1 ∧ p.2.isCells = false ∧ w'.heap[p.1]? = some p.2 := by
  intro p hp
  obtain ⟨h1, h4, h5⟩ := hb.pin p hp
  exact ⟨fun e => h1 (ho _ (Array.getElem?_eq_some_iff.1 h5).1 e), h4, hd _ _ h5 h4⟩
/-! ### new memory -/
theorem Base.below_grow {E : Env} {U : List Nat} {c : Ctx} {a : Act} {w w' : World} {h' : Mem} (hb : Base E U c a w) (hB : Below w.heap.size w w') (hle : Mem.le c.h h') (hnew : ∀ p v, h' p = some v → c.h p = some v ∨ w.heap.size ≤ p.block)
    (hw' : ∀ p v, h' p = some v → w'.cell? p = some v) : Base E U ⟨h', c.loc, c.arr, c.Y⟩ a w' := by
  have hs := hB.size
  have none_of : ∀ b o, b < w.heap.size → c.h ⟨b, o, none⟩ = none → h' ⟨b, o, none⟩ = none := by
    intro b o hlt hn
    cases hh : h' ⟨b, o, none⟩ with
    | none => rfl
    | some v =>
      rcases hnew _ _ hh with h | h
      · rw [hn] at h; cases h
      · simp only at h; omega
  have hkeep : ∀ (D : Nat) (o : Obj), w.heap[D]? = some o → o.isCells = false → w'.heap[D]? = some o := fun D o h _ => (hB.block D (Array.getElem?_eq_some_iff.1 h).1).trans h
  refine ⟨hb.below.trans (BelX.of (hB.mono hb.hB)), Nat.le_trans hb.hB hs, hb.nt, dfr_of hb (fun _ _ h => h) hkeep, pin_of hb (fun _ _ h => h) hkeep, hw', Mem.le_trans hb.hle hle, ?_, ?_, ?_, hb.used, ?_, hb.loc0, hb.arr0⟩
  · intro p v hp
    rcases hnew p v hp with h | h
    · exact hb.hnew p v h
    · exact .inr ⟨Nat.le_trans hb.hB h, fun hy => by have := (hb.Y _ hy).1; omega⟩
  · intro k b hk
    obtain ⟨h1, h2, h3, h4, h5⟩ := hb.loc k b hk
    exact ⟨h1, Nat.lt_of_lt_of_le h2 hs, fun o => none_of b o h2 (h3 o), h4, h5⟩
  · intro k m hv b hk hbk
    obtain ⟨h1, h2, h3, h4⟩ := hb.arr k m hv b hk hbk
    exact ⟨h1, Nat.lt_of_lt_of_le h2 hs, fun o => none_of b o h2 (h3 o), h4⟩
  · intro b hy
    obtain ⟨h1, h2⟩ := hb.Y b hy
    exact ⟨Nat.lt_of_lt_of_le h1 hs, h2⟩
theorem ownsRow_below {w w' : World} {B e sz : Nat} {hv : Value} {n : Nat} {vs : List Value} (h : w.ownsRow B e sz hv n vs) (hB : Below w.heap.size w w') : w'.ownsRow B e sz hv n vs := by
  refine ⟨h.1, h.2.imp id ?_⟩
  rintro ⟨g, cap, cur, h1, h2, h3, r⟩
  exact ⟨g, cap, cur, h1, h2, (hB.block g (Array.getElem?_eq_some_iff.1 h3).1).trans h3, r⟩
theorem Holds.below {E : Env} {U : List Nat} {c c' : Ctx} {a : Act} {w w' : World} (hb : Base E U c a w) (hB : Below w.heap.size w w') (he : Ext c c') (harr : ∀ k m hv, c.arr k = some (m, hv, true) → c'.arr k = some (m, hv, true)) {key : Nat} {x : X}
    (hY : c'.Y = c.Y) (hnew : ∀ p v, c'.h p = some v → c.h p = some v ∨ w.heap.size ≤ p.block) (hw' : ∀ p v, c'.h p = some v → w'.cell? p = some v) (hk : ¬ key < 1000) (h : Holds c a w key x) : Holds c' a w' key x := by
  unfold Holds at *
  rw [if_neg hk] at h ⊢
  refine or_snd h fun h => ?_
  split at h
  · rename_i h2
    rw [if_pos h2]
    obtain ⟨b, o, h1, h3, h4⟩ := h
    exact ⟨b, o, he.loc _ _ h1, (hB.block b (hb.loc _ _ h1).2.1).trans h3, h4.mono he⟩
  · rename_i h2
    rw [if_neg h2]
    split at h
    · rename_i h6
      rw [if_pos h6]
      obtain ⟨sz, rows, hv, e, vs, hx, h1, h3, h4⟩ := h
      exact ⟨sz, rows, hv, e, vs, hx.mono he, harr _ _ _ h1, ownsRow_below h3 hB, h4⟩
    · rename_i h6
      rw [if_neg h6]
      obtain ⟨hk0, J, hx0, hJ, hJ2⟩ := h
      refine ⟨hk0, J, hx0.mono he.loc, hJ, ?_⟩
      rw [hY]
      exact hJ _ _ _ _ _ hJ2 he.h (fun p v e => (hnew p v e).imp id fun h hy => by have := (hb.Y _ hy).1; omega) hw' (BelX.of (hB.mono (Nat.zero_le _))) fun b hy => hB.block b (hb.Y _ hy).1
theorem below_alloc (w : World) (o : Obj) : Below w.heap.size w (w.alloc o) := (Below.refl _ w).alloc (Nat.le_refl _) o

/-! ### calls -/
inductive OpsS (s : St) : List Operand → List X → St → Prop
  | nil : OpsS s [] [] []
  | cons {o : Operand} {os : List Operand} {y : X} {ys : List X} {r r' : St} : OpS s o y r → OpsS s os ys r' → OpsS s (o :: os) (y :: ys) (r ++ r')
theorem OpsS.looks {s : St} {os : List Operand} {ys : List X} {r : St} (h : OpsS s os ys r) : Looks s r := by
  induction h with
  | nil => trivial
  | cons h _ ih => exact h.looks.app ih
theorem OpsS.rep {s : St} {os : List Operand} {ys : List X} {r : St} (h : OpsS s os ys r) {c : Ctx} {a : Act} {w : World} (hr : ∀ p ∈ r, Holds c a w p.1 p.2) : All2 (RepT c) ys (os.map a.eval) := by
  induction h with
  | nil => trivial
  | cons h _ ih => exact ⟨h.rep fun p hp => hr p (List.mem_append_left _ hp), ih fun p hp => hr p (List.mem_append_right _ hp)⟩
/-- What goes into a call: data. -/
def okArg (x : X) : Bool := okV [] x && !isTup x
theorem args_clean {c : Ctx} : ∀ {ys : List X} {vs : List Value}, All2 (RepT c) ys vs → ys.all okArg = true → All2 (RepV (pureC c.h)) ys vs
  | [], [], _, _ => trivial
  | y :: ys, v :: vs, h, ho => by
    simp only [List.all_cons, Bool.and_eq_true, okArg, Bool.not_eq_true'] at ho
    exact ⟨((T.toV h.1 ho.1.2).cut ho.1.1).mono (ctx_cut_ext (Mem.le_refl _)), args_clean h.2 (by simpa [okArg] using ho.2)⟩
  | [], _ :: _, h, _ => h.elim
  | _ :: _, [], h, _ => h.elim
theorem none_ext {h' : Mem} {c : Ctx} : Ext (pureC h') ⟨h', c.loc, c.arr, c.Y⟩ := ⟨Mem.le_refl _, (fun _ _ e => by cases e), (fun _ _ _ _ e => by cases e)⟩

theorem step_call {E : Env} {all : Array Oper} {s r rg : St} {d ty f : Nat} {pos : String} {after : Array Edge} {guard : Option (Nat × Bool)} {fo : Operand} {os : List Operand} {at_ : Array TypeId} {ys caps : List X} {res : X}
    (hg : Gd all s guard rg) (hd : (Nat.blt d 1000 && Nat.blt d E.nt) = true) (hl : Looks s r) (hcall : ∀ args w, (callFunc f args).run E.P w = .ok (.enter f args) w) (hf : Ct E.P f (ys ++ caps) res)
    (hargs : ∀ c a w, (∀ p ∈ r, Holds c a w p.1 p.2) → All2 (RepV (pureC c.h)) ys (os.map a.eval) ∧ ∃ cvs : List Value, a.eval fo = .func (.func f) #[] cvs.toArray ∧ All2 (RepV (pureC c.h)) caps cvs) :
    St1 E all ⟨some d, .call { callee := .value fo, args := os.toArray, argTypes := at_ }, ty, pos, after, guard⟩ s (rg ++ r) [(d, res)] [] := by
  simp only [Bool.and_eq_true, Nat.blt_eq] at hd
  refine ⟨?_, hg.looks.app hl⟩
  intro U c a w hb hr _ next Q hn
  have hw := hg.wanted (o := ⟨some d, .call { callee := .value fo, args := os.toArray, argTypes := at_ }, ty, pos, after, guard⟩) (fun p hp => hr p (List.mem_append_left _ hp))
  obtain ⟨ha, cvs, hfo, hc⟩ := hargs c a w fun p hp => hr p (List.mem_append_right _ hp)
  unfold opIn
  rw [if_pos hw]
  refine ⟨fun _ _ => trivial, ?_⟩
  rw [Oper.semAt_eq _ _ _ fun cl he => by cases he]
  have hrun : (execOp a.eval ⟨some d, .call { callee := .value fo, args := os.toArray, argTypes := at_ }, ty, pos, after, guard⟩).run E.P w = .ok (.enter f (os.map a.eval ++ cvs).toArray) w := by
    simp [execOp, resolve, hfo, Deferred.ofValue, invoke, hcall]
  rw [hrun]
  refine ⟨(fun h => by cases h), ?_⟩
  have hcalls := hf c.h w (os.map a.eval ++ cvs) hb.hw (ha.append hc)
  have h1 : CallsIn E.F (0 - 1) E.P f (os.map a.eval ++ cvs).toArray w _ := (callsIn_wide (n := 0)).2 hcalls
  refine h1.mono ?_
  rintro e w' ⟨v, h', rfl, hB, hle, hnew, hw', hres⟩
  have hdt : d < a.tmps.size := by rw [hb.nt]; exact hd.2
  have hext : Ext c ⟨h', c.loc, c.arr, c.Y⟩ := ⟨hle, fun _ _ e => e, fun _ m hv lv e => ⟨m, hv, lv, e, Nat.le_refl _, fun _ => rfl⟩⟩
  refine hn ⟨h', c.loc, c.arr, c.Y⟩ _ w' ((hb.below_grow hB hle hnew hw').put _ _) hext ?_ ?_
  · intro p hp
    simp only [List.mem_singleton] at hp
    subst hp
    unfold Holds
    rw [if_pos hd.1, getD_put hdt]
    exact hres.mono none_ext
  · intro key y hk hy
    have hne : d ≠ key := hk (d, res) (by simp)
    by_cases h1 : key < 1000
    · refine Holds.put ?_ hne v
      unfold Holds at hy ⊢
      rw [if_pos h1] at hy ⊢
      exact hy.mono hext
    · exact (Holds.below hb hB hext (fun _ _ _ e => e) rfl hnew hw' h1 hy).put hne v

section
variable {E : Env} {all : Array Oper} {s r r1 r2 r3 rg : St} {d ty : Nat} {pos : String} {after : Array Edge} {guard : Option (Nat × Bool)} {x y z : Operand}
theorem S.call {f : Nat} {os : List Operand} {at_ : Array TypeId} {ys : List X} {res : X} (hf : Ct E.P f ys res) (hcall : ∀ args w, (callFunc f args).run E.P w = .ok (.enter f args) w) (hg : Gd all s guard rg) (hd : (Nat.blt d 1000 && Nat.blt d E.nt) = true)
    (ha : OpsS s os ys r) (ho : ys.all okArg = true) : St1 E all ⟨some d, .call { callee := .value (.func f), args := os.toArray, argTypes := at_ }, ty, pos, after, guard⟩ s (rg ++ r) [(d, res)] [] :=
  step_call (caps := []) hg hd ha.looks hcall (by simpa using hf) fun _ _ _ hr => ⟨args_clean (ha.rep hr) ho, [], rfl, trivial⟩
theorem S.callv {f : Nat} {os : List Operand} {at_ : Array TypeId} {ys caps : List X} {res : X} (hf : Ct E.P f (ys ++ caps) res) (hcall : ∀ args w, (callFunc f args).run E.P w = .ok (.enter f args) w) (hg : Gd all s guard rg) (hd : (Nat.blt d 1000 && Nat.blt d E.nt) = true)
    (hx : OpS s x (.fn f caps) r1) (ha : OpsS s os ys r) (ho : ys.all okArg = true) (ho2 : caps.all (okP []) = true) (ho3 : caps.all (fun u => !notCell u) = true) :
    St1 E all ⟨some d, .call { callee := .value x, args := os.toArray, argTypes := at_ }, ty, pos, after, guard⟩ s (rg ++ (r1 ++ r)) [(d, res)] [] :=
  step_call hg hd (hx.looks.app ha.looks) hcall hf fun c a w hr => by
    refine ⟨args_clean (ha.rep fun p hp => hr p (List.mem_append_right _ hp)) ho, ?_⟩
    obtain ⟨cvs, h1, h2⟩ := hx.rep (c := c) (a := a) (w := w) fun p hp => hr p (List.mem_append_left _ hp)
    refine ⟨cvs, h1, ?_⟩
    have : ∀ {us : List X} {vs : List Value}, All2 (RepP c) us vs → us.all (okP []) = true → us.all (fun u => !notCell u) = true → All2 (RepV (pureC c.h)) us vs := by
      intro us
      induction us with
      | nil => intro vs h _ _; exact (All2.nil_left h) ▸ trivial
      | cons u us ih =>
        intro vs h h1 h2
        obtain ⟨v, vs', rfl, hv, hvs⟩ := h.cons_left
        simp only [List.all_cons, Bool.and_eq_true, Bool.not_eq_true'] at h1 h2
        refine ⟨?_, ih hvs h1.2 (by simpa using h2.2)⟩
        have hp := (hv.cut h1.1).mono (ctx_cut_ext (Mem.le_refl c.h))
        have hn := h2.1
        cases u <;> first | exact hp | cases hn
    exact this h2 ho2 ho3
end
end Go.Ab
