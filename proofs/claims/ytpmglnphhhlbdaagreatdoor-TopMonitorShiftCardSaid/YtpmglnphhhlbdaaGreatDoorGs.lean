import Derived.Laws.IdiomStrings
import Derived.Lib.AtoiAll
import Derived.Lib.Bytealg
import Derived.Lib.Itoa
import Derived.Lib.LaidTab
import Derived.Test.YtpmglnphhhlbdaaGreatDoorGh
namespace Go.Ab
open Go.RowKit
theorem extract_list (l : List UInt8) (lo hi : Nat) : (⟨l.toArray⟩ : ByteArray).extract lo hi = ⟨((l.take hi).drop lo).toArray⟩ := by
  apply ByteArray.ext
  rw [ByteArray.data_extract]
  simp [List.extract_eq_take_drop, List.drop_take]
section
variable {E : Env} {all : Array Oper} {s r r1 r2 r3 rg : St} {d ty : Nat} {pos : String} {after : Array Edge} {guard : Option (Nat × Bool)} {x y z : Operand}
theorem S.strsl {t lo hi : Nat} {l l' : List UInt8} {il ih : Option Operand} (ht : StrI E.P t) (hg : Gd all s guard rg) (hd : (Nat.blt d 1000 && Nat.blt d E.nt) = true) (hx : OpS s x (.str l) r1)
    (h1 : (il = none ∧ lo = 0 ∧ r2 = []) ∨ ∃ o i, il = some o ∧ OpS s o (.int .i64 i) r2 ∧ i = lo) (h2 : (ih = none ∧ hi = l.length ∧ r3 = []) ∨ ∃ o i, ih = some o ∧ OpS s o (.int .i64 i) r3 ∧ i = hi) (hle : lo ≤ hi) (hle2 : hi ≤ l.length) (hl' : (l.take hi).drop lo = l') :
    St1 E all ⟨some d, .slice t x il ih none, ty, pos, after, guard⟩ s (rg ++ (r1 ++ (r2 ++ r3))) [(d, .str l')] [] := by
  have k1 : Looks s r2 := by rcases h1 with ⟨_, _, rfl⟩ | ⟨_, _, _, h, _⟩; trivial; exact h.looks
  have k2 : Looks s r3 := by rcases h2 with ⟨_, _, rfl⟩ | ⟨_, _, _, h, _⟩; trivial; exact h.looks
  subst hl'
  refine St1.val hg hd rfl (hx.looks.app (k1.app k2)) fun c A w hh hr => ?_
  obtain ⟨hv, hm⟩ := str_of (hx.rep (c := c) (a := A) (w := w) fun p hp => hr p (by simp [hp]))
  have hsz : (⟨l.toArray⟩ : ByteArray).size = l.length := by show l.toArray.size = _; simp
  have hs : RepD c.h (.str ((l.take hi).drop lo)) (.string ((⟨l.toArray⟩ : ByteArray).extract lo hi)) := by
    rw [extract_list]
    exact .str _ (by rw [List.length_drop, List.length_take]; omega)
  refine ⟨_, ?_, RepD.toT hs⟩
  have kl : ∀ o i, OpS s o (.int .i64 i) r2 → A.eval o = .int .i64 i := fun o i h => (int_of (h.rep (c := c) (a := A) (w := w) fun p hp => hr p (by simp [hp]))).1
  have kh : ∀ o i, OpS s o (.int .i64 i) r3 → A.eval o = .int .i64 i := fun o i h => (int_of (h.rep (c := c) (a := A) (w := w) fun p hp => hr p (by simp [hp]))).1
  rcases h1 with ⟨rfl, rfl, rfl⟩ | ⟨ol, il, rfl, e1, rfl⟩ <;> rcases h2 with ⟨rfl, rfl, rfl⟩ | ⟨oh, ih, rfl, e2, rfl⟩
  · have h9 := extract_list l 0 l.length
    rw [List.take_length, List.drop_zero] at h9
    simp [execOp, hv, Instr.sliceAt, Instr.slice, run_underlying ht.und, Instr.sliceBounds, h9]
  · simp [execOp, hv, kh _ _ e2, Instr.sliceAt, Instr.slice, run_underlying ht.und, Instr.sliceBounds, Instr.sliceBound, asIntOf, hsz, hle2]
  · have hlo2 : lo ≤ l.length := hle
    simp [execOp, hv, kl _ _ e1, Instr.sliceAt, Instr.slice, run_underlying ht.und, Instr.sliceBounds, Instr.sliceBound, asIntOf, hsz, hlo2]
  · simp [execOp, hv, kl _ _ e1, kh _ _ e2, Instr.sliceAt, Instr.slice, run_underlying ht.und, Instr.sliceBounds, Instr.sliceBound, asIntOf, hsz, hle, hle2]
def ExtSB (P : Program) (f : Nat) (F : List UInt8 → UInt8 → Int) : Prop := ∀ (s : ByteArray) (c : Int) (w : World), (callFunc f #[.string s, .int .u8 c]).run P w = .ok (.value (.int .i64 (F s.data.toList c.toNat.toUInt8))) w
theorem S.extSB {f : Nat} {F : List UInt8 → UInt8 → Int} {at_ : Array TypeId} {l : List UInt8} {c : Int} {n : Int} (hf : ExtSB E.P f F) (hg : Gd all s guard rg) (hd : (Nat.blt d 1000 && Nat.blt d E.nt) = true) (hx : OpS s x (.str l) r1) (hy : OpS s y (.int .u8 c) r2) (hn : F l c.toNat.toUInt8 = n) (hw : IntKind.i64.wrap n = n) :
    St1 E all ⟨some d, .call { callee := .value (.func f), args := #[x, y], argTypes := at_ }, ty, pos, after, guard⟩ s (rg ++ (r1 ++ r2)) [(d, .int .i64 n)] [] :=
  St1.val hg hd rfl (hx.looks.app hy.looks) fun c' A w _ hr => by
    have h1 := (str_of (hx.rep (c := c') (a := A) (w := w) fun p hp => hr p (by simp [hp]))).1
    have h2 := (int_of (hy.rep (c := c') (a := A) (w := w) fun p hp => hr p (by simp [hp]))).1
    refine ⟨.int .i64 n, ?_, RepD.toT (.int hw)⟩
    have hfo : A.eval (.func f) = .func (.func f) #[] #[] := rfl
    have h3 := hf ⟨l.toArray⟩ c w
    rw [show (⟨l.toArray⟩ : ByteArray).data.toList = l from rfl, hn] at h3
    simp [execOp, resolve, hfo, h1, h2, Deferred.ofValue, invoke, h3]
def ErrV (ok : Bool) (v : Value) : Prop := (ok = true ∧ v = .nilIface) ∨ (ok = false ∧ ∃ te pe, v = .iface te pe)
theorem S.eqerr {t t2 : Nat} {ok : Bool} {ms : Array (String × TypeId)} (ht0 : E.P.underlying t = some (.interface ms)) (hg : Gd all s guard rg) (hd : (Nat.blt d 1000 && Nat.blt d E.nt) = true) (hx : OpS s x (.cb (ErrV ok)) r) :
    St1 E all ⟨some d, .binOp .eql t x (.const .nilIface) t2, ty, pos, after, guard⟩ s (rg ++ r) [(d, .bool ok)] [] :=
  St1.val hg hd rfl hx.looks fun c A w _ hr => by
    have ht : E.P.underlying t = some (.interface (E.P.methodsAt t)) := by
      have : E.P.methodsAt t = ms := by unfold Program.methodsAt; rw [ht0]
      rw [this]; exact ht0
    have h0 : ErrV ok (A.eval x) := hx.rep (c := c) (a := A) (w := w) hr
    have hc : A.eval (.const .nilIface) = .nilIface := rfl
    refine ⟨.bool ok, ?_, RepD.toT (.bool _)⟩
    rcases h0 with ⟨rfl, hv⟩ | ⟨rfl, te, pe, hv⟩
    · have h1 := run_equal_nil_nil (P := E.P) w t ht
      have hq : (eqGuard .eql t x (.const .nilIface) .nilIface .nilIface).run E.P w = .ok () w := by rw [eqGuard_nil_constR]; rfl
      simp [execOp, hv, hc, hq, binOp, h1]
    · have h1 := run_equal_held_nil (P := E.P) w t te pe ht
      have hq : (eqGuard .eql t x (.const .nilIface) (.iface te pe) .nilIface).run E.P w = .ok () w := by simp [eqGuard]
      simp [execOp, hv, hc, hq, binOp, h1]
end
structure ItoaI (P : Program) (f : Nat) : Prop where
  g : ∃ g, P.globalNamed "internal/strconv.uint64pow10" = some g
  i : ∀ (n : Int) (w : World), -9223372036854775808 ≤ n → n ≤ 9223372036854775807 → Lib.TabIs P w "internal/strconv.uint64pow10" .u64 Lib.pow10Tab → Calls P f #[.int .i64 n] w fun e w' => e = .returned (.string ⟨(Lib.itoa n).toArray⟩) ∧ Below w.heap.size w w'
theorem Tabs.pow10 {P : Program} {w : World} (h : Tabs P w) {g : Nat} (hg : P.globalNamed "internal/strconv.uint64pow10" = some g) : Lib.TabIs P w "internal/strconv.uint64pow10" .u64 Lib.pow10Tab := by
  obtain ⟨T, d, e⟩ := h.pow g hg
  unfold Lib.TabIs World.var?
  rw [hg]
  simp only [Option.bind_some, e]
theorem i64_rng {n : Int} (h : IntKind.i64.wrap n = n) : -9223372036854775808 ≤ n ∧ n ≤ 9223372036854775807 := by
  rw [IntKind.wrap_i64] at h
  omega
theorem ItoaI.ct {P : Program} {f : Nat} (h : ItoaI P f) {n : Int} (hlen : (Lib.itoa n).length ≤ 140737488355328) : CtT P f [.int .i64 n] (.str (Lib.itoa n)) := by
  intro m w vs ht hw ha
  obtain ⟨v1, vs', rfl, h1, h2⟩ := ha.cons_left
  have := h2.nil_left
  subst this
  have h1' : RepD m (.int .i64 n) v1 := h1
  cases h1' with
  | int hn =>
    obtain ⟨g, hg⟩ := h.g
    obtain ⟨r1, r2⟩ := i64_rng hn
    refine (h.i n w r1 r2 (ht.pow10 hg)).mono ?_
    rintro e w' ⟨rfl, hB⟩
    exact ⟨_, m, rfl, hB, Mem.le_refl m, fun _ _ h => .inl h, fun p v hp => by rw [hB.cell (block_lt_of_cell (hw p v hp))]; exact hw p v hp, .str _ (by unfold maxLen; omega)⟩
def atoiV (l : List UInt8) : Int := match Lib.atoiAll l with
  | .ok v => v
  | Lib.NumEnd.syntax => 0
  | .range => Lib.atoiSat l
def atoiOk (l : List UInt8) : Bool := match Lib.atoiAll l with
  | .ok _ => true
  | _ => false
structure AtoiI (P : Program) (f : Nat) : Prop where
  g1 : ∃ g, P.globalNamed "strconv.ErrSyntax" = some g
  g2 : ∃ g, P.globalNamed "strconv.ErrRange" = some g
  i : ∀ (l : List UInt8) (w : World) (es er : Nat), l.length ≤ 140737488355328 → P.globalNamed "strconv.ErrSyntax" = some es → P.globalNamed "strconv.ErrRange" = some er → (∃ ev, w.cell? ⟨es, 0, none⟩ = some ev ∧ (ev = .nilIface ∨ ∃ te pe, ev = .iface te pe)) → (∃ ev, w.cell? ⟨er, 0, none⟩ = some ev ∧ (ev = .nilIface ∨ ∃ te pe, ev = .iface te pe)) →
    Calls P f #[.string ⟨l.toArray⟩] w fun e w' => ∃ u, e = .returned (.tuple #[.int .i64 (atoiV l), u]) ∧ ErrV (atoiOk l) u ∧ Below w.heap.size w w'
theorem AtoiI.ct {P : Program} {f : Nat} (h : AtoiI P f) {l : List UInt8} (hlen : l.length ≤ 140737488355328) (hv : IntKind.i64.wrap (atoiV l) = atoiV l) : CtT P f [.str l] (.tup [.int .i64 (atoiV l), .cb (ErrV (atoiOk l))]) := by
  intro m w vs ht hw ha
  obtain ⟨v1, vs', rfl, h1, h2⟩ := ha.cons_left
  have := h2.nil_left
  subst this
  have h1' : RepD m (.str l) v1 := h1
  cases h1'
  obtain ⟨g1, hg1⟩ := h.g1
  obtain ⟨g2, hg2⟩ := h.g2
  refine (h.i l w g1 g2 hlen hg1 hg2 (ht.err _ (.inr rfl) _ hg1) (ht.err _ (.inl rfl) _ hg2)).mono ?_
  rintro e w' ⟨u, rfl, hu, hB⟩
  exact ⟨_, m, rfl, hB, Mem.le_refl m, fun _ _ h => .inl h, fun p v hp => by rw [hB.cell (block_lt_of_cell (hw p v hp))]; exact hw p v hp, _, rfl, RepD.int hv, hu, trivial⟩
end Go.Ab
namespace Go.Ab
open Go.RowKit
section
variable {E : Env} {U : List Nat} {s : St} {Q : Exit → List Nat → St → Prop} {k : List Kn}
theorem OK.join {G : Type} (u : List Nat) (st : G → St) (pre : G → Prop) {x y : Code} (ho : ∀ g, (st g).all (okKey u) = true) (hx : OK E x (den E Q (.lp (fun _ s' => ∃ g, pre g ∧ Le s' (st g)) :: k)) U s) (hy : ∀ g, pre g → OK E y (den E Q k) u (st g)) : OK E (.seq x y) (den E Q k) U s :=
  OK.seq (hx.mono fun e U s hd => by
    cases e with
    | normal => obtain ⟨g, hp, hl⟩ := hd; exact OK.weak (hy g hp) hl (ho g)
    | _ => exact hd)
end
def IsRep (x : X) : Prop := ∃ m v, RepD m x v
theorem IsRep.mem {rows : List (List X)} (h : IsRep (.sl rows)) {x : X} (hx : x ∈ rows.flatten) : IsRep x := by
  obtain ⟨m, v, h⟩ := h
  obtain ⟨ad, cap, hv, q1, q2, q3⟩ := sl_of (c := pureC m) (RepD.toT h)
  rcases q3 with q3 | ⟨b, off, sz', cs, _, q4, q5, q6, q7⟩
  · rw [q3] at hx
    cases hx
  · obtain ⟨i, hi, rfl⟩ := List.getElem_of_mem hx
    have hi2 : i < cs.length := by omega
    exact ⟨m, cs[i], q7 i _ _ (List.getElem?_eq_getElem hi) (List.getElem?_eq_getElem hi2)⟩
theorem IsRep.int {k : IntKind} {n : Int} (h : IsRep (.int k n)) : k.wrap n = n := by
  obtain ⟨m, v, h⟩ := h
  cases h
  assumption
section
variable {E : Env} {U : List Nat} {s : St} {Q : Exit → List Nat → St → Prop}
theorem OK.slRep {t : Nat} {rows : List (List X)} {c : Code} (ht : Nat.blt t 1000 = true) (hl : look s t = some (.sl rows)) (h : IsRep (.sl rows) → OK E c Q U s) : OK E c Q U s := by
  intro a w hg
  obtain ⟨cx, hb, hh⟩ := hg
  exact h ⟨cx.h, _, D_of ((hh t _ hl).slot ht) rfl⟩ a w ⟨cx, hb, hh⟩
end
end Go.Ab
namespace Go.Ab
open Go.RowKit
theorem scalD {h h' : Mem} {x : X} {v : Value} (hs : scal1 x = true) (hr : RepD h x v) : RepD h' x v := by
  cases x <;> first | (cases hr; first | exact RepD.int ‹_› | exact RepD.bool _ | exact RepD.str _ ‹_›) | cases hs
theorem scalDs {h h' : Mem} : ∀ {xs : List X} {vs : List Value}, (∀ x ∈ xs, scal1 x = true) → All2 (RepD h) xs vs → All2 (RepD h') xs vs
  | [], _, _, h => (All2.nil_left h) ▸ trivial
  | x :: xs, vs, hs, h => by
    obtain ⟨v, vs', rfl, q1, q2⟩ := h.cons_left
    exact ⟨scalD (hs x List.mem_cons_self) q1, scalDs (fun y hy => hs y (List.mem_cons_of_mem _ hy)) q2⟩
section
variable {E : Env} {all : Array Oper} {s r r1 r2 r3 rg : St} {d ty : Nat} {pos : String} {after : Array Edge} {guard : Option (Nat × Bool)} {x y z : Operand}
theorem S.callOL {f k sz n : Nat} {os : List Operand} {at_ : Array TypeId} {xs ys : List X} {rows : List (List X)} (hf : CtO E.P f ys sz rows) (hsc : ∀ q ∈ rows, ∀ x ∈ q, scal1 x = true) (hcall : ∀ args w, (callFunc f args).run E.P w = .ok (.enter f args) w) (hg : Gd all s guard rg) (hd : (Nat.blt d 1000 && Nat.blt d E.nt) = true)
    (ha : OpsS s os xs r) (hl : LendVs s xs ys r2) (hn : rows.length = n) (hk9 : E.fs.contains k = false := by rfl) (hk1 : Nat.blt k 1000 = true := by rfl) :
    St1 E all ⟨some d, .call { callee := .value (.func f), args := os.toArray, argTypes := at_ }, ty, pos, after, guard⟩ s (rg ++ (r ++ r2)) ((d, .own k n) :: [(2000 + k, .arr sz rows)]) [k] := by
  subst hn
  simp only [Bool.and_eq_true, Nat.blt_eq] at hd
  rw [Nat.blt_eq] at hk1
  refine ⟨?_, hg.looks.app (ha.looks.app hl.looks)⟩
  intro U c a w hb hr hal next Q hnx
  have hw := hg.wanted (o := ⟨some d, .call { callee := .value (.func f), args := os.toArray, argTypes := at_ }, ty, pos, after, guard⟩) (fun p hp => hr p (List.mem_append_left _ hp))
  have hr2 : ∀ p ∈ r ++ r2, Holds c a w p.1 p.2 := fun p hp => hr p (List.mem_append_right _ hp)
  have hargs := hl.rep hb (fun p hp => hr2 p (List.mem_append_right _ hp)) (ha.rep fun p hp => hr2 p (List.mem_append_left _ hp))
  have hkU : k ∉ U := hal k (by simp)
  unfold opIn
  rw [if_pos hw]
  refine ⟨fun _ _ => trivial, ?_⟩
  rw [Oper.semAt_eq _ _ _ fun cl he => by cases he]
  have hfo : a.eval (.func f) = .func (.func f) #[] #[] := rfl
  have hrun : (execOp a.eval ⟨some d, .call { callee := .value (.func f), args := os.toArray, argTypes := at_ }, ty, pos, after, guard⟩).run E.P w = .ok (.enter f (os.map a.eval).toArray) w := by
    simp [execOp, resolve, hfo, Deferred.ofValue, invoke, hcall]
  rw [hrun]
  refine ⟨(fun h => by cases h), ?_⟩
  have h1 : CallsIn E.F (0 - 1) E.P f (os.map a.eval).toArray w _ := (callsIn_wide (n := 0)).2 (hf (lendM w) w _ (fun p v hp => hp) hargs)
  refine h1.mono ?_
  rintro en w' ⟨v, h', e, us, rfl, hB, _, _, _, hown, hsz, hrep0, hblk⟩
  have hrep : All2 (RepD c.h) rows.flatten us := scalDs (fun x hx => by obtain ⟨q, hq, hx⟩ := List.mem_flatten.1 hx; exact hsc q hq x hx) hrep0
  have hw1 : ∀ p v, c.h p = some v → w'.cell? p = some v := fun p v e => by
    have h1 := hb.hw p v e
    have h2 : p.block < w.heap.size := block_lt_of_cell h1
    rw [hB.cell h2]; exact h1
  have hb1 := hb.below_grow hB (Mem.le_refl _) (fun p v e => .inl e) hw1
  have hvs : ∃ a l cp, v = .slice a l cp := by
    rcases hown.2 with ⟨rfl, _⟩ | ⟨g, cap, cur, rfl, _⟩
    · exact ⟨_, _, _, rfl⟩
    · exact ⟨_, _, _, rfl⟩
  obtain ⟨g1, g2, g3, g4⟩ := hb1.ownAdd (nfs hk9) hkU (n := rows.length) (v := v) (by
    intro b hbk
    obtain ⟨h2, _⟩ := hblk b hbk
    have hcell : ∃ o : Obj, w'.heap[b]? = some o ∧ o.isCells = true := by
      rcases hown.2 with ⟨rfl, _⟩ | ⟨g, cap, cur, rfl, _, hg', _⟩
      · cases hbk
      · cases hbk; exact ⟨_, hg', rfl⟩
    obtain ⟨o, ho1, ho2⟩ := hcell
    refine ⟨Nat.le_trans hb.hB h2, (Array.getElem?_eq_some_iff.1 ho1).1, fun o => ?_, ?_, _, ho1, ho2⟩
    · cases hh : c.h ⟨b, o, none⟩ with
      | none => rfl
      | some u =>
        have h5 : b < w.heap.size := block_lt_of_cell (hb.hw _ _ hh)
        omega
    rintro (hy | ⟨j, hj⟩ | ⟨j, m, hv, hj, hjb⟩)
    · have := (hb.Y b hy).1; omega
    · have := (hb.loc j b hj).2.1; omega
    · have := (hb.arr j m hv b hj hjb).2.1; omega)
  have hdt : d < a.tmps.size := by rw [hb.nt]; exact hd.2
  have hhold := Holds.mkArr (a := a) (e := e) (rows := rows) (vs := us) (sz := sz) (by omega) g3 hown hsz hrep
  refine hnx _ _ _ (g1.put _ _) g2 ?_ ?_
  · intro p hp
    simp only [List.mem_cons, List.not_mem_nil, or_false] at hp
    rcases hp with rfl | rfl
    · unfold Holds
      rw [if_pos hd.1, getD_put hdt]
      exact ⟨hvs, rows.length, _, _, g3, Nat.le_refl _, fun _ => rfl⟩
    · exact hhold.2.put (by show d ≠ 2000 + k; omega) _
  · intro key u hk hu
    have hne : d ≠ key := hk (d, .own k rows.length) (by simp)
    by_cases h1 : key < 1000
    · refine Holds.put ?_ hne _
      unfold Holds at hu ⊢
      rw [if_pos h1] at hu ⊢
      exact hu.mono g2
    · exact (g4 key u h1 (Holds.below hb hB (Ext.refl c) (fun _ _ _ e => e) rfl (fun _ _ e => .inl e) hw1 h1 hu)).put hne _
end
end Go.Ab
