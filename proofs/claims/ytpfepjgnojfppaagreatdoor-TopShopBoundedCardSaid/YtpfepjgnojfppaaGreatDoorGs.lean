import Derived.Laws.IdiomStrings
import Derived.Lib.AtoiAll
import Derived.Lib.Bytealg
import Derived.Lib.Itoa
import Derived.Lib.LaidTab
import Derived.Test.YtpfepjgnojfppaaGreatDoorGh
namespace Go.Ab
open Go.RowKit
theorem extract_list (l : List UInt8) (lo hi : Nat) : (⟨l.toArray⟩ : ByteArray).extract lo hi = ⟨((l.take hi).drop lo).toArray⟩ := by
  apply ByteArray.ext
  rw [ByteArray.data_extract]
  simp [List.extract_eq_take_drop, List.drop_take]
section
variable {E : Env} {all : Array Oper} {s r r1 r2 r3 rg : St} {d ty : Nat} {pos : String} {after : Array Edge} {guard : Option (Nat × Bool)} {x y z : Operand}
theorem S.strsl {t lo hi : Nat} {l l' : List UInt8} {il ih : Option Operand} (ht : StrI E.P t) (hg : Gd all s guard rg) (hd : (Nat.blt d 1000 && Nat.blt d E.nt) = true) (hx : OpS s x (.str l) r1)
    (h1 : (il = none ∧ lo = 0 ∧ r2 = []) ∨ ∃ o i, il = some o ∧ OpS s o (.int .i64 i) r2 ∧ i = lo) (h2 : (ih = none ∧ hi = l.length ∧ r3 = []) ∨ ∃ o i, ih = some o ∧ OpS s o (.int .i64 i) r3 ∧ i = hi) (hle : lo ≤ hi) (hle2 : hi ≤ l.length) (hl' : (l.take hi).drop lo = l') :
    St1 E all ⟨some d, .slice t x il ih none, ty, pos, after, guard⟩ s (rg ++ (r1 ++ (r2 ++ r3))) [(d, .str l')] [] := by
  have k1 : Looks s r2 := by rcases h1 with ⟨_, _, rfl⟩ | ⟨_, _, _, h, _⟩; trivial; exact h.looks
  have k2 : Looks s r3 := by rcases h2 with ⟨_, _, rfl⟩ | ⟨_, _, _, h, _⟩; trivial; exact h.looks
  subst hl'
  refine St1.val hg hd rfl (hx.looks.app (k1.app k2)) fun c A w hh hr => ?_
  obtain ⟨hv, hm⟩ := str_of (hx.rep (c := c) (a := A) (w := w) fun p hp => hr p (by simp [hp]))
  have hsz : (⟨l.toArray⟩ : ByteArray).size = l.length := by show l.toArray.size = _; simp
  have hs : RepD c.h (.str ((l.take hi).drop lo)) (.string ((⟨l.toArray⟩ : ByteArray).extract lo hi)) := by
    rw [extract_list]
    exact .str _ (by rw [List.length_drop, List.length_take]; omega)
  refine ⟨_, ?_, RepD.toT hs⟩
  have kl : ∀ o i, OpS s o (.int .i64 i) r2 → A.eval o = .int .i64 i := fun o i h => (int_of (h.rep (c := c) (a := A) (w := w) fun p hp => hr p (by simp [hp]))).1
  have kh : ∀ o i, OpS s o (.int .i64 i) r3 → A.eval o = .int .i64 i := fun o i h => (int_of (h.rep (c := c) (a := A) (w := w) fun p hp => hr p (by simp [hp]))).1
  rcases h1 with ⟨rfl, rfl, rfl⟩ | ⟨ol, il, rfl, e1, rfl⟩ <;> rcases h2 with ⟨rfl, rfl, rfl⟩ | ⟨oh, ih, rfl, e2, rfl⟩
  · have h9 := extract_list l 0 l.length
    rw [List.take_length, List.drop_zero] at h9
    simp [execOp, hv, Instr.sliceAt, Instr.slice, run_underlying ht.und, Instr.sliceBounds, h9]
  · simp [execOp, hv, kh _ _ e2, Instr.sliceAt, Instr.slice, run_underlying ht.und, Instr.sliceBounds, Instr.sliceBound, asIntOf, hsz, hle2]
  · have hlo2 : lo ≤ l.length := hle
    simp [execOp, hv, kl _ _ e1, Instr.sliceAt, Instr.slice, run_underlying ht.und, Instr.sliceBounds, Instr.sliceBound, asIntOf, hsz, hlo2]
  · simp [execOp, hv, kl _ _ e1, kh _ _ e2, Instr.sliceAt, Instr.slice, run_underlying ht.und, Instr.sliceBounds, Instr.sliceBound, asIntOf, hsz, hle, hle2]
def ExtSB (P : Program) (f : Nat) (F : List UInt8 → UInt8 → Int) : Prop := ∀ (s : ByteArray) (c : Int) (w : World), (callFunc f #[.string s, .int .u8 c]).run P w = .ok (.value (.int .i64 (F s.data.toList c.toNat.toUInt8))) w
theorem S.extSB {f : Nat} {F : List UInt8 → UInt8 → Int} {at_ : Array TypeId} {l : List UInt8} {c : Int} {n : Int} (hf : ExtSB E.P f F) (hg : Gd all s guard rg) (hd : (Nat.blt d 1000 && Nat.blt d E.nt) = true) (hx : OpS s x (.str l) r1) (hy : OpS s y (.int .u8 c) r2) (hn : F l c.toNat.toUInt8 = n) (hw : IntKind.i64.wrap n = n) :
    St1 E all ⟨some d, .call { callee := .value (.func f), args := #[x, y], argTypes := at_ }, ty, pos, after, guard⟩ s (rg ++ (r1 ++ r2)) [(d, .int .i64 n)] [] :=
  St1.val hg hd rfl (hx.looks.app hy.looks) fun c' A w _ hr => by
    have h1 := (str_of (hx.rep (c := c') (a := A) (w := w) fun p hp => hr p (by simp [hp]))).1
    have h2 := (int_of (hy.rep (c := c') (a := A) (w := w) fun p hp => hr p (by simp [hp]))).1
    refine ⟨.int .i64 n, ?_, RepD.toT (.int hw)⟩
    have hfo : A.eval (.func f) = .func (.func f) #[] #[] := rfl
    have h3 := hf ⟨l.toArray⟩ c w
    rw [show (⟨l.toArray⟩ : ByteArray).data.toList = l from rfl, hn] at h3
    simp [execOp, resolve, hfo, h1, h2, Deferred.ofValue, invoke, h3]
def ErrV (ok : Bool) (v : Value) : Prop := (ok = true ∧ v = .nilIface) ∨ (ok = false ∧ ∃ te pe, v = .iface te pe)
theorem S.eqerr {t t2 : Nat} {ok : Bool} {ms : Array (String × TypeId)} (ht0 : E.P.underlying t = some (.interface ms)) (hg : Gd all s guard rg) (hd : (Nat.blt d 1000 && Nat.blt d E.nt) = true) (hx : OpS s x (.cb (ErrV ok)) r) :
    St1 E all ⟨some d, .binOp .eql t x (.const .nilIface) t2, ty, pos, after, guard⟩ s (rg ++ r) [(d, .bool ok)] [] :=
  St1.val hg hd rfl hx.looks fun c A w _ hr => by
    have ht : E.P.underlying t = some (.interface (E.P.methodsAt t)) := by
      have : E.P.methodsAt t = ms := by unfold Program.methodsAt; rw [ht0]
      rw [this]; exact ht0
    have h0 : ErrV ok (A.eval x) := hx.rep (c := c) (a := A) (w := w) hr
    have hc : A.eval (.const .nilIface) = .nilIface := rfl
    refine ⟨.bool ok, ?_, RepD.toT (.bool _)⟩
    rcases h0 with ⟨rfl, hv⟩ | ⟨rfl, te, pe, hv⟩
    · have h1 := run_equal_nil_nil (P := E.P) w t ht
      have hq : (eqGuard .eql t x (.const .nilIface) .nilIface .nilIface).run E.P w = .ok () w := by rw [eqGuard_nil_constR]; rfl
      simp [execOp, hv, hc, hq, binOp, h1]
    · have h1 := run_equal_held_nil (P := E.P) w t te pe ht
      have hq : (eqGuard .eql t x (.const .nilIface) (.iface te pe) .nilIface).run E.P w = .ok () w := by simp [eqGuard]
      simp [execOp, hv, hc, hq, binOp, h1]
end
structure ItoaI (P : Program) (f : Nat) : Prop where
  g : ∃ g, P.globalNamed "internal/strconv.uint64pow10" = some g
  i : ∀ (n : Int) (w : World), -9223372036854775808 ≤ n → n ≤ 9223372036854775807 → Lib.TabIs P w "internal/strconv.uint64pow10" .u64 Lib.pow10Tab → Calls P f #[.int .i64 n] w fun e w' => e = .returned (.string ⟨(Lib.itoa n).toArray⟩) ∧ Below w.heap.size w w'
theorem Tabs.pow10 {P : Program} {w : World} (h : Tabs P w) {g : Nat} (hg : P.globalNamed "internal/strconv.uint64pow10" = some g) : Lib.TabIs P w "internal/strconv.uint64pow10" .u64 Lib.pow10Tab := by
  obtain ⟨T, d, e⟩ := h.pow g hg
  unfold Lib.TabIs World.var?
  rw [hg]
  simp only [Option.bind_some, e]
theorem i64_rng {n : Int} (h : IntKind.i64.wrap n = n) : -9223372036854775808 ≤ n ∧ n ≤ 9223372036854775807 := by
  rw [IntKind.wrap_i64] at h
  omega
theorem ItoaI.ct {P : Program} {f : Nat} (h : ItoaI P f) {n : Int} (hlen : (Lib.itoa n).length ≤ 140737488355328) : CtT P f [.int .i64 n] (.str (Lib.itoa n)) := by
  intro m w vs ht hw ha
  obtain ⟨v1, vs', rfl, h1, h2⟩ := ha.cons_left
  have := h2.nil_left
  subst this
  have h1' : RepD m (.int .i64 n) v1 := h1
  cases h1' with
  | int hn =>
    obtain ⟨g, hg⟩ := h.g
    obtain ⟨r1, r2⟩ := i64_rng hn
    refine (h.i n w r1 r2 (ht.pow10 hg)).mono ?_
    rintro e w' ⟨rfl, hB⟩
    exact ⟨_, m, rfl, hB, Mem.le_refl m, fun _ _ h => .inl h, fun p v hp => by rw [hB.cell (block_lt_of_cell (hw p v hp))]; exact hw p v hp, .str _ (by unfold maxLen; omega)⟩
def atoiV (l : List UInt8) : Int := match Lib.atoiAll l with
  | .ok v => v
  | Lib.NumEnd.syntax => 0
  | .range => Lib.atoiSat l
def atoiOk (l : List UInt8) : Bool := match Lib.atoiAll l with
  | .ok _ => true
  | _ => false
structure AtoiI (P : Program) (f : Nat) : Prop where
  g1 : ∃ g, P.globalNamed "strconv.ErrSyntax" = some g
  g2 : ∃ g, P.globalNamed "strconv.ErrRange" = some g
  i : ∀ (l : List UInt8) (w : World) (es er : Nat), l.length ≤ 140737488355328 → P.globalNamed "strconv.ErrSyntax" = some es → P.globalNamed "strconv.ErrRange" = some er → (∃ ev, w.cell? ⟨es, 0, none⟩ = some ev ∧ (ev = .nilIface ∨ ∃ te pe, ev = .iface te pe)) → (∃ ev, w.cell? ⟨er, 0, none⟩ = some ev ∧ (ev = .nilIface ∨ ∃ te pe, ev = .iface te pe)) →
    Calls P f #[.string ⟨l.toArray⟩] w fun e w' => ∃ u, e = .returned (.tuple #[.int .i64 (atoiV l), u]) ∧ ErrV (atoiOk l) u ∧ Below w.heap.size w w'
theorem AtoiI.ct {P : Program} {f : Nat} (h : AtoiI P f) {l : List UInt8} (hlen : l.length ≤ 140737488355328) (hv : IntKind.i64.wrap (atoiV l) = atoiV l) : CtT P f [.str l] (.tup [.int .i64 (atoiV l), .cb (ErrV (atoiOk l))]) := by
  intro m w vs ht hw ha
  obtain ⟨v1, vs', rfl, h1, h2⟩ := ha.cons_left
  have := h2.nil_left
  subst this
  have h1' : RepD m (.str l) v1 := h1
  cases h1'
  obtain ⟨g1, hg1⟩ := h.g1
  obtain ⟨g2, hg2⟩ := h.g2
  refine (h.i l w g1 g2 hlen hg1 hg2 (ht.err _ (.inr rfl) _ hg1) (ht.err _ (.inl rfl) _ hg2)).mono ?_
  rintro e w' ⟨u, rfl, hu, hB⟩
  exact ⟨_, m, rfl, hB, Mem.le_refl m, fun _ _ h => .inl h, fun p v hp => by rw [hB.cell (block_lt_of_cell (hw p v hp))]; exact hw p v hp, _, rfl, RepD.int hv, hu, trivial⟩
end Go.Ab
namespace Go.Ab
open Go.RowKit
section
variable {E : Env} {all : Array Oper} {s r r1 r2 rg : St} {d ty : Nat} {pos : String} {after : Array Edge} {guard : Option (Nat × Bool)} {x y : Operand}
theorem S.aggidx {t e m i : Nat} {j : Int} {us : List X} {u : X} (hs : E.P.underlying t = some (.array m e)) (ht : TyI E.P e false 1) (hg : Gd all s guard rg) (hd : (Nat.blt d 1000 && Nat.blt d E.nt) = true) (hx : OpS s x (.agg us) r1) (hy : OpS s y (.int .i64 j) r2) (hj : j = i) (hi : i < m)
    (hu : us[i]? = some u) (hnt : isAT u = false) : St1 E all ⟨some d, .index t x y, ty, pos, after, guard⟩ s (rg ++ (r1 ++ r2)) [(d, u)] [] :=
  St1.val hg hd rfl (hx.looks.app hy.looks) fun c A w hh hr => by
    subst hj
    obtain ⟨vs, h1, h2⟩ := hx.rep (c := c) (a := A) (w := w) fun p hp => hr p (by simp [hp])
    obtain ⟨hw, _⟩ := int_of (hy.rep (c := c) (a := A) (w := w) fun p hp => hr p (by simp [hp]))
    obtain ⟨v, hv, hr2⟩ := h2.get_right hu
    refine ⟨v, ?_, C.toT hr2 hnt⟩
    have hlt : i < vs.length := (List.getElem?_eq_some_iff.1 hv).1
    have hget : vs[i] = v := (List.getElem?_eq_some_iff.1 hv).2
    simp only [execOp, h1, hw, Instr.index]
    rw [Sem.run_bind]
    simp [asIntOf, run_underlying hs, ht.size, part, ht.agg, hlt, hget]
    intro h9
    omega
theorem S.nilCheckB {k off : Nat} (hg : Gd all s guard rg) (hd : (Nat.blt d 1000 && Nat.blt d E.nt) = true) (hx : OpS s x (.ptr k off) r) :
    St1 E all ⟨some d, .nilCheck x, ty, pos, after, guard⟩ s (rg ++ r) [(d, .ptr k off)] [] :=
  St1.val hg hd rfl hx.looks fun c A w hh hr => by
    have h0 := hx.rep (c := c) (a := A) (w := w) hr
    obtain ⟨b, h1, hv⟩ := ptr_of h0
    refine ⟨A.eval x, ?_, h0⟩
    simp only [execOp, hv]
    rfl
end
section
variable {E : Env} {U : List Nat} {s : St} {Q : Exit → List Nat → St → Prop} {k : List Kn}
theorem OK.join {G : Type} (u : List Nat) (st : G → St) (pre : G → Prop) {x y : Code} (ho : ∀ g, (st g).all (okKey u) = true) (hx : OK E x (den E Q (.lp (fun _ s' => ∃ g, pre g ∧ Le s' (st g)) :: k)) U s) (hy : ∀ g, pre g → OK E y (den E Q k) u (st g)) : OK E (.seq x y) (den E Q k) U s :=
  OK.seq (hx.mono fun e U s hd => by
    cases e with
    | normal => obtain ⟨g, hp, hl⟩ := hd; exact OK.weak (hy g hp) hl (ho g)
    | _ => exact hd)
end
def IsRep (x : X) : Prop := ∃ m v, RepD m x v
theorem IsRep.mem {rows : List (List X)} (h : IsRep (.sl rows)) {x : X} (hx : x ∈ rows.flatten) : IsRep x := by
  obtain ⟨m, v, h⟩ := h
  obtain ⟨ad, cap, hv, q1, q2, q3⟩ := sl_of (c := pureC m) (RepD.toT h)
  rcases q3 with q3 | ⟨b, off, sz', cs, _, q4, q5, q6, q7⟩
  · rw [q3] at hx
    cases hx
  · obtain ⟨i, hi, rfl⟩ := List.getElem_of_mem hx
    have hi2 : i < cs.length := by omega
    exact ⟨m, cs[i], q7 i _ _ (List.getElem?_eq_getElem hi) (List.getElem?_eq_getElem hi2)⟩
theorem IsRep.int {k : IntKind} {n : Int} (h : IsRep (.int k n)) : k.wrap n = n := by
  obtain ⟨m, v, h⟩ := h
  cases h
  assumption
section
variable {E : Env} {U : List Nat} {s : St} {Q : Exit → List Nat → St → Prop}
theorem OK.slRep {t : Nat} {rows : List (List X)} {c : Code} (ht : Nat.blt t 1000 = true) (hl : look s t = some (.sl rows)) (h : IsRep (.sl rows) → OK E c Q U s) : OK E c Q U s := by
  intro a w hg
  obtain ⟨cx, hb, hh⟩ := hg
  exact h ⟨cx.h, _, D_of ((hh t _ hl).slot ht) rfl⟩ a w ⟨cx, hb, hh⟩
end
end Go.Ab
namespace Go.Ab
open Go.RowKit
theorem flat_set1 {sz f : Nat} {u : X} {row : List X} : ∀ {rows : List (List X)} {i : Nat}, (∀ q ∈ rows, q.length = sz) → rows[i]? = some row → f < sz → (rows.set i (row.set f u)).flatten = rows.flatten.set (i * sz + f) u
  | [], i, _, h, _ => by simp at h
  | r :: rows, 0, hr, h, hf => by
    simp only [List.getElem?_cons_zero, Option.some.injEq] at h
    subst h
    have := hr r List.mem_cons_self
    rw [List.set_cons_zero, List.flatten_cons, List.flatten_cons, List.set_append_left _ _ (by omega), Nat.zero_mul, Nat.zero_add]
  | r :: rows, i + 1, hr, h, hf => by
    simp only [List.getElem?_cons_succ] at h
    have h1 := hr r List.mem_cons_self
    have h2 : (i + 1) * sz + f = r.length + (i * sz + f) := by rw [h1, Nat.succ_mul]; omega
    rw [List.set_cons_succ, List.flatten_cons, List.flatten_cons, flat_set1 (fun q hq => hr q (List.mem_cons_of_mem _ hq)) h hf, h2, List.set_append_right _ _ (by omega), Nat.add_sub_cancel_left]
section
variable {E : Env} {all : Array Oper} {s r1 r2 rg : St} {ty : Nat} {pos : String} {after : Array Edge} {guard : Option (Nat × Bool)} {x y : Operand}
theorem S.ostoreF {T k n i f off sz : Nat} {u : X} {row : List X} {rows rows' : List (List X)} (ht : TyI E.P T false 1) (hg : Gd all s guard rg) (hx : OpS s x (.optr k n off) r1) (hy : OpS s y u r2) (hl : look s (2000 + k) = some (.arr sz rows)) (hn : rows.length = n) (hoff : off = i * sz + f) (hf : f < sz) (hrow : rows[i]? = some row)
    (ho : okSt1 u = true) (hD : okD u = true) (hrows : rows.set i (row.set f u) = rows') (hk1 : Nat.blt k 1000 = true := by rfl) :
    St1 E all ⟨none, .store T x y, ty, pos, after, guard⟩ s (rg ++ (r1 ++ (r2 ++ [(2000 + k, .arr sz rows)]))) [(2000 + k, .arr sz rows')] [] := by
  subst hrows
  subst hn
  subst hoff
  rw [Nat.blt_eq] at hk1
  refine ⟨?_, hg.looks.app (hx.looks.app (hy.looks.app ⟨hl, trivial⟩))⟩
  intro U c a w hb hr hal next Q hnx
  have hw := hg.wanted (o := ⟨none, .store T x y, ty, pos, after, guard⟩) (fun p hp => hr p (List.mem_append_left _ hp))
  obtain ⟨m, hv, lv, e1, e2, e3⟩ := optr_of (hx.rep (c := c) (a := a) (w := w) fun p hp => hr p (by simp [hp]))
  obtain ⟨v, e', vs, g1, g2, g3, g4⟩ := arr_of (hr (2000 + k, .arr sz rows) (by simp))
  rw [e1] at g1
  cases g1
  obtain ⟨b, l, cp, rfl, hp⟩ := e3 rfl
  have hyr := hy.rep (c := c) (a := a) (w := w) fun p hp => hr p (by simp [hp])
  have hok : okSt u = true := by cases u <;> first | exact ho | cases ho
  obtain ⟨hc, hone⟩ := cells_of hyr hok
  have hcx : cellsX u = [u] := by cases u <;> first | rfl | cases ho
  rw [hcx] at hc
  have hi : i < rows.length := (List.getElem?_eq_some_iff.1 hrow).1
  have hds := Ds_of hc (by simpa using hD)
  have hcl := hc.length
  have hcs : (a.eval y).cells.toList.length = 1 := by rw [← hcl]; rfl
  rcases g2.2 with ⟨h0, _⟩ | ⟨g, cap, cur, hs, hz, hgc, hnc, hcm, hcs2, htake⟩
  · cases h0
  cases hs
  have hvl : vs.length = rows.length * sz := g2.1
  have hle0 : i * sz + sz ≤ rows.length * sz := by rw [← Nat.succ_mul]; exact Nat.mul_le_mul_right _ hi
  have hle : (i * sz + f) + 1 ≤ rows.length * sz := by omega
  have hle2 : rows.length * sz ≤ cp * sz := Nat.mul_le_mul_right _ hnc
  have hst := run_storeCells_at E.P b (i * sz + f) e' (a.eval y).cells.toList 0 cur w hgc (by simp only [Nat.add_zero]; omega) hone
  simp only [Nat.add_zero] at hst
  obtain ⟨w', hw'⟩ : ∃ w', w' = w.setRow b (cur.toList.take (i * sz + f) ++ (a.eval y).cells.toList ++ cur.toList.drop (i * sz + f + (a.eval y).cells.toList.length)).toArray := ⟨_, rfl⟩
  have hgb : w.grownBy w' (some b) := by
    subst hw'
    exact ⟨rfl, rfl, rfl, by simp, fun k _ hk => setRow_other w b k _ (fun e => hk (by rw [e]))⟩
  obtain ⟨p1, p2, p3, p4⟩ := hb.append (n' := rows.length) (v' := .slice (some ⟨b, 0, none⟩) rows.length cp) e1 hgb (Nat.le_refl _) (fun _ => rfl) (.inl rfl) (not_dfr g2)
  have hrun : (execOp a.eval ⟨none, .store T x y, ty, pos, after, guard⟩).run E.P w = .ok .skip w' := by
    subst hw'
    have hcs' : (a.eval y).cells.size = 1 := by simpa using hcs
    simp [execOp, hp, Instr.storeAt, Instr.sureAddr, storeVar, ht.size, hcs', hst]
  unfold opIn
  rw [if_pos hw]
  refine ⟨fun _ _ => trivial, ?_⟩
  rw [Oper.semAt_eq _ _ _ (fun cl he => by cases he), hrun]
  refine hnx _ a w' p1 p2 ?_ ?_
  · intro p hp
    simp only [List.mem_singleton] at hp
    subst hp
    have hrl : ∀ q ∈ rows.set i (row.set f u), q.length = sz := fun q hq => by
      rcases List.mem_or_eq_of_mem_set hq with h | h
      · exact g3 q h
      · rw [h, List.length_set]; exact g3 row (List.mem_of_getElem? hrow)
    refine (Holds.mkArr (e := e') (vs := vs.take (i * sz + f) ++ ((a.eval y).cells.toList ++ vs.drop (i * sz + f + 1))) hk1 (by rw [List.length_set]; exact p3) ?_ hrl ?_).2
    · rw [List.length_set]
      refine ⟨?_, .inr ⟨b, cp, _, rfl, Nat.zero_le _, by rw [hw']; exact setRow_heap w b cur _ e' _ hgc, hnc, hcm, ?_, ?_⟩⟩
      · simp only [List.length_append, List.length_take, List.length_drop, hcs, hvl]; omega
      · simp only [List.size_toArray, List.length_append, List.length_take, List.length_drop, Array.length_toList, hcs, hcs2]; omega
      · rw [hcs, ← htake]
        simp only [List.append_assoc]
        exact take_store (n := rows.length * sz) hcs hle (Nat.le_trans hle2 (by simp [hcs2]))
    · have hfl : rows.flatten.length = rows.length * sz := by rw [← hvl]; exact g4.length
      rw [flat_set1 g3 hrow hf, List.set_eq_take_append_cons_drop, if_pos (by rw [hfl]; omega)]
      exact ((g4.take (i * sz + f)).append (hds.append (g4.drop (i * sz + f + 1)))).mono fun _ _ => RepD.mono p2.h
  · intro key u2 hk hu
    have hne : (2000 + k : Nat) ≠ key := hk (2000 + k, .arr sz (rows.set i (row.set f u))) (by simp)
    by_cases h1 : key < 1000
    · unfold Holds at hu ⊢
      rw [if_pos h1] at hu ⊢
      exact hu.mono p2
    · exact p4 key u2 h1 (fun e => hne e.symm) hu
end
end Go.Ab
