import Derived.Laws.IdiomStrings
import Derived.Lib.AtoiAll
import Derived.Lib.Bytealg
import Derived.Lib.Itoa
import Derived.Lib.LaidTab
import Derived.Test.YtpmglnphhhlbdaaGreatDoorGh
namespace Go.Ab
open Go.RowKit
theorem extract_list (l : List UInt8) (lo hi : Nat) : (⟨l.toArray⟩ : ByteArray).extract lo hi = ⟨((l.take hi).drop lo).toArray⟩ := by
  apply ByteArray.ext
  rw [ByteArray.data_extract]
  simp [List.extract_eq_take_drop, List.drop_take]
section
variable {E : Env} {all : Array Oper} {s r r1 r2 r3 rg : St} {d ty : Nat} {pos : String} {after : Array Edge} {guard : Option (Nat × Bool)} {x y z : Operand}
theorem S.strsl {t lo hi : Nat} {l l' : List UInt8} {il ih : Option Operand} (ht : StrI E.P t) (hg : Gd all s guard rg) (hd : (Nat.blt d 1000 && Nat.blt d E.nt) = true) (hx : OpS s x (.str l) r1)
    (h1 : (il = none ∧ lo = 0 ∧ r2 = []) ∨ ∃ o i, il = some o ∧ OpS s o (.int .i64 i) r2 ∧ i = lo) (h2 : (ih = none ∧ hi = l.length ∧ r3 = []) ∨ ∃ o i, ih = some o ∧ OpS s o (.int .i64 i) r3 ∧ i = hi) (hle : lo ≤ hi) (hle2 : hi ≤ l.length) (hl' : (l.take hi).drop lo = l') :
    St1 E all ⟨some d, .slice t x il ih none, ty, pos, after, guard⟩ s (rg ++ (r1 ++ (r2 ++ r3))) [(d, .str l')] [] := by
  have k1 : Looks s r2 := by rcases h1 with ⟨_, _, rfl⟩ | ⟨_, _, _, h, _⟩; trivial; exact h.looks
  have k2 : Looks s r3 := by rcases h2 with ⟨_, _, rfl⟩ | ⟨_, _, _, h, _⟩; trivial; exact h.looks
  subst hl'
  refine St1.val hg hd rfl (hx.looks.app (k1.app k2)) fun c A w hh hr => ?_
  obtain ⟨hv, hm⟩ := str_of (hx.rep (c := c) (a := A) (w := w) fun p hp => hr p (by simp [hp]))
  have hsz : (⟨l.toArray⟩ : ByteArray).size = l.length := by show l.toArray.size = _; simp
  have hs : RepD c.h (.str ((l.take hi).drop lo)) (.string ((⟨l.toArray⟩ : ByteArray).extract lo hi)) := by
    rw [extract_list]
    exact .str _ (by rw [List.length_drop, List.length_take]; omega)
  refine ⟨_, ?_, RepD.toT hs⟩
  have kl : ∀ o i, OpS s o (.int .i64 i) r2 → A.eval o = .int .i64 i := fun o i h => (int_of (h.rep (c := c) (a := A) (w := w) fun p hp => hr p (by simp [hp]))).1
  have kh : ∀ o i, OpS s o (.int .i64 i) r3 → A.eval o = .int .i64 i := fun o i h => (int_of (h.rep (c := c) (a := A) (w := w) fun p hp => hr p (by simp [hp]))).1
  rcases h1 with ⟨rfl, rfl, rfl⟩ | ⟨ol, il, rfl, e1, rfl⟩ <;> rcases h2 with ⟨rfl, rfl, rfl⟩ | ⟨oh, ih, rfl, e2, rfl⟩
  · have h9 := extract_list l 0 l.length
    rw [List.take_length, List.drop_zero] at h9
    simp [execOp, hv, Instr.sliceAt, Instr.slice, run_underlying ht.und, Instr.sliceBounds, h9]
  · simp [execOp, hv, kh _ _ e2, Instr.sliceAt, Instr.slice, run_underlying ht.und, Instr.sliceBounds, Instr.sliceBound, asIntOf, hsz, hle2]
  · have hlo2 : lo ≤ l.length := hle
    simp [execOp, hv, kl _ _ e1, Instr.sliceAt, Instr.slice, run_underlying ht.und, Instr.sliceBounds, Instr.sliceBound, asIntOf, hsz, hlo2]
  · simp [execOp, hv, kl _ _ e1, kh _ _ e2, Instr.sliceAt, Instr.slice, run_underlying ht.und, Instr.sliceBounds, Instr.sliceBound, asIntOf, hsz, hle, hle2]
theorem S.bytesStr {src dst e : Nat} {l : List UInt8} {rows : List (List X)} (hs : E.P.underlying src = some (.slice e)) (he : E.P.underlying e = some (.int .u8)) (ht : E.P.underlying dst = some .string) (hg : Gd all s guard rg) (hd : (Nat.blt d 1000 && Nat.blt d E.nt) = true) (hx : OpS s x (.sl rows) r)
    (hr : rows = l.map fun b => [.int .u8 (b.toNat : Int)]) (h0 : l ≠ []) (hlen : l.length ≤ 140737488355328) : St1 E all ⟨some d, .convert src dst x, ty, pos, after, guard⟩ s (rg ++ r) [(d, .str l)] [] :=
  St1.val hg hd rfl hx.looks fun c A w hw hr' => by
    subst hr
    obtain ⟨a, cap, hv, p1, p2, p3⟩ := sl_of (hx.rep (c := c) (a := A) (w := w) hr')
    rw [List.length_map] at hv
    refine ⟨.string ⟨l.toArray⟩, ?_, RepD.toT (.str _ (by unfold maxLen; omega))⟩
    rcases p3 with p3 | ⟨b, off, sz', vs, rfl, h3, h4, h5, h6⟩
    · exact absurd (List.map_eq_nil_iff.1 p3) h0
    · have hfl : (l.map fun b => [X.int .u8 (b.toNat : Int)]).flatten = l.map fun b => X.int .u8 (b.toNat : Int) := by
        clear hv p1 h4 h5 h6 h0 hlen h3 hx
        induction l with
        | nil => rfl
        | cons x l ih => simp only [List.map_cons, List.flatten_cons, List.singleton_append, ih]
      rw [hfl] at h4 h6
      have hc : ∀ j (hj : j < l.length), w.cell? ((⟨b, off, none⟩ : Addr).add j) = some (.int .u8 (l[j].toNat : Int)) := by
        intro j hj
        rw [add_off]
        have hvl : j < vs.length := by rw [← h4, List.length_map]; exact hj
        have h7 := h6 j (.int .u8 (l[j].toNat : Int)) vs[j] (by rw [List.getElem?_map, List.getElem?_eq_getElem hj]; rfl) (List.getElem?_eq_getElem hvl)
        have h8 := hw _ _ (h5 j vs[j] (List.getElem?_eq_getElem hvl))
        rw [h8]
        generalize vs[j] = z at h7
        cases h7
        rfl
      have hrun := run_convert_bytes_back (P := E.P) w src dst e ⟨b, off, none⟩ cap l hs he ht hc
      simp [execOp, hv, hrun]
def ExtSB (P : Program) (f : Nat) (F : List UInt8 → UInt8 → Int) : Prop := ∀ (s : ByteArray) (c : Int) (w : World), (callFunc f #[.string s, .int .u8 c]).run P w = .ok (.value (.int .i64 (F s.data.toList c.toNat.toUInt8))) w
theorem S.extSB {f : Nat} {F : List UInt8 → UInt8 → Int} {at_ : Array TypeId} {l : List UInt8} {c : Int} {n : Int} (hf : ExtSB E.P f F) (hg : Gd all s guard rg) (hd : (Nat.blt d 1000 && Nat.blt d E.nt) = true) (hx : OpS s x (.str l) r1) (hy : OpS s y (.int .u8 c) r2) (hn : F l c.toNat.toUInt8 = n) (hw : IntKind.i64.wrap n = n) :
    St1 E all ⟨some d, .call { callee := .value (.func f), args := #[x, y], argTypes := at_ }, ty, pos, after, guard⟩ s (rg ++ (r1 ++ r2)) [(d, .int .i64 n)] [] :=
  St1.val hg hd rfl (hx.looks.app hy.looks) fun c' A w _ hr => by
    have h1 := (str_of (hx.rep (c := c') (a := A) (w := w) fun p hp => hr p (by simp [hp]))).1
    have h2 := (int_of (hy.rep (c := c') (a := A) (w := w) fun p hp => hr p (by simp [hp]))).1
    refine ⟨.int .i64 n, ?_, RepD.toT (.int hw)⟩
    have hfo : A.eval (.func f) = .func (.func f) #[] #[] := rfl
    have h3 := hf ⟨l.toArray⟩ c w
    rw [show (⟨l.toArray⟩ : ByteArray).data.toList = l from rfl, hn] at h3
    simp [execOp, resolve, hfo, h1, h2, Deferred.ofValue, invoke, h3]
def ErrV (ok : Bool) (v : Value) : Prop := (ok = true ∧ v = .nilIface) ∨ (ok = false ∧ ∃ te pe, v = .iface te pe)
theorem S.eqerr {t t2 : Nat} {ok : Bool} {ms : Array (String × TypeId)} (ht0 : E.P.underlying t = some (.interface ms)) (hg : Gd all s guard rg) (hd : (Nat.blt d 1000 && Nat.blt d E.nt) = true) (hx : OpS s x (.cb (ErrV ok)) r) :
    St1 E all ⟨some d, .binOp .eql t x (.const .nilIface) t2, ty, pos, after, guard⟩ s (rg ++ r) [(d, .bool ok)] [] :=
  St1.val hg hd rfl hx.looks fun c A w _ hr => by
    have ht : E.P.underlying t = some (.interface (E.P.methodsAt t)) := by
      have : E.P.methodsAt t = ms := by unfold Program.methodsAt; rw [ht0]
      rw [this]; exact ht0
    have h0 : ErrV ok (A.eval x) := hx.rep (c := c) (a := A) (w := w) hr
    have hc : A.eval (.const .nilIface) = .nilIface := rfl
    refine ⟨.bool ok, ?_, RepD.toT (.bool _)⟩
    rcases h0 with ⟨rfl, hv⟩ | ⟨rfl, te, pe, hv⟩
    · have h1 := run_equal_nil_nil (P := E.P) w t ht
      have hq : (eqGuard .eql t x (.const .nilIface) .nilIface .nilIface).run E.P w = .ok () w := by rw [eqGuard_nil_constR]; rfl
      simp [execOp, hv, hc, hq, binOp, h1]
    · have h1 := run_equal_held_nil (P := E.P) w t te pe ht
      have hq : (eqGuard .eql t x (.const .nilIface) (.iface te pe) .nilIface).run E.P w = .ok () w := by simp [eqGuard]
      simp [execOp, hv, hc, hq, binOp, h1]
end
structure ItoaI (P : Program) (f : Nat) : Prop where
  g : ∃ g, P.globalNamed "internal/strconv.uint64pow10" = some g
  i : ∀ (n : Int) (w : World), -9223372036854775808 ≤ n → n ≤ 9223372036854775807 → Lib.TabIs P w "internal/strconv.uint64pow10" .u64 Lib.pow10Tab → Calls P f #[.int .i64 n] w fun e w' => e = .returned (.string ⟨(Lib.itoa n).toArray⟩) ∧ Below w.heap.size w w'
theorem Tabs.pow10 {P : Program} {w : World} (h : Tabs P w) {g : Nat} (hg : P.globalNamed "internal/strconv.uint64pow10" = some g) : Lib.TabIs P w "internal/strconv.uint64pow10" .u64 Lib.pow10Tab := by
  obtain ⟨T, d, e⟩ := h.pow g hg
  unfold Lib.TabIs World.var?
  rw [hg]
  simp only [Option.bind_some, e]
theorem i64_rng {n : Int} (h : IntKind.i64.wrap n = n) : -9223372036854775808 ≤ n ∧ n ≤ 9223372036854775807 := by
  rw [IntKind.wrap_i64] at h
  omega
theorem ItoaI.ct {P : Program} {f : Nat} (h : ItoaI P f) {n : Int} (hlen : (Lib.itoa n).length ≤ 140737488355328) : CtT P f [.int .i64 n] (.str (Lib.itoa n)) := by
  intro m w vs ht hw ha
  obtain ⟨v1, vs', rfl, h1, h2⟩ := ha.cons_left
  have := h2.nil_left
  subst this
  have h1' : RepD m (.int .i64 n) v1 := h1
  cases h1' with
  | int hn =>
    obtain ⟨g, hg⟩ := h.g
    obtain ⟨r1, r2⟩ := i64_rng hn
    refine (h.i n w r1 r2 (ht.pow10 hg)).mono ?_
    rintro e w' ⟨rfl, hB⟩
    exact ⟨_, m, rfl, hB, Mem.le_refl m, fun _ _ h => .inl h, fun p v hp => by rw [hB.cell (block_lt_of_cell (hw p v hp))]; exact hw p v hp, .str _ (by unfold maxLen; omega)⟩
def atoiV (l : List UInt8) : Int := match Lib.atoiAll l with
  | .ok v => v
  | Lib.NumEnd.syntax => 0
  | .range => Lib.atoiSat l
def atoiOk (l : List UInt8) : Bool := match Lib.atoiAll l with
  | .ok _ => true
  | _ => false
structure AtoiI (P : Program) (f : Nat) : Prop where
  g1 : ∃ g, P.globalNamed "strconv.ErrSyntax" = some g
  g2 : ∃ g, P.globalNamed "strconv.ErrRange" = some g
  i : ∀ (l : List UInt8) (w : World) (es er : Nat), l.length ≤ 140737488355328 → P.globalNamed "strconv.ErrSyntax" = some es → P.globalNamed "strconv.ErrRange" = some er → (∃ ev, w.cell? ⟨es, 0, none⟩ = some ev ∧ (ev = .nilIface ∨ ∃ te pe, ev = .iface te pe)) → (∃ ev, w.cell? ⟨er, 0, none⟩ = some ev ∧ (ev = .nilIface ∨ ∃ te pe, ev = .iface te pe)) →
    Calls P f #[.string ⟨l.toArray⟩] w fun e w' => ∃ u, e = .returned (.tuple #[.int .i64 (atoiV l), u]) ∧ ErrV (atoiOk l) u ∧ Below w.heap.size w w'
theorem AtoiI.ct {P : Program} {f : Nat} (h : AtoiI P f) {l : List UInt8} (hlen : l.length ≤ 140737488355328) (hv : IntKind.i64.wrap (atoiV l) = atoiV l) : CtT P f [.str l] (.tup [.int .i64 (atoiV l), .cb (ErrV (atoiOk l))]) := by
  intro m w vs ht hw ha
  obtain ⟨v1, vs', rfl, h1, h2⟩ := ha.cons_left
  have := h2.nil_left
  subst this
  have h1' : RepD m (.str l) v1 := h1
  cases h1'
  obtain ⟨g1, hg1⟩ := h.g1
  obtain ⟨g2, hg2⟩ := h.g2
  refine (h.i l w g1 g2 hlen hg1 hg2 (ht.err _ (.inr rfl) _ hg1) (ht.err _ (.inl rfl) _ hg2)).mono ?_
  rintro e w' ⟨u, rfl, hu, hB⟩
  exact ⟨_, m, rfl, hB, Mem.le_refl m, fun _ _ h => .inl h, fun p v hp => by rw [hB.cell (block_lt_of_cell (hw p v hp))]; exact hw p v hp, _, rfl, RepD.int hv, hu, trivial⟩
end Go.Ab
namespace Go.Ab
open Go.RowKit
section
variable {E : Env} {U : List Nat} {s : St} {Q : Exit → List Nat → St → Prop} {k : List Kn}
theorem OK.join {G : Type} (u : List Nat) (st : G → St) (pre : G → Prop) {x y : Code} (ho : ∀ g, (st g).all (okKey u) = true) (hx : OK E x (den E Q (.lp (fun _ s' => ∃ g, pre g ∧ Le s' (st g)) :: k)) U s) (hy : ∀ g, pre g → OK E y (den E Q k) u (st g)) : OK E (.seq x y) (den E Q k) U s :=
  OK.seq (hx.mono fun e U s hd => by
    cases e with
    | normal => obtain ⟨g, hp, hl⟩ := hd; exact OK.weak (hy g hp) hl (ho g)
    | _ => exact hd)
end
def IsRep (x : X) : Prop := ∃ m v, RepD m x v
theorem IsRep.mem {rows : List (List X)} (h : IsRep (.sl rows)) {x : X} (hx : x ∈ rows.flatten) : IsRep x := by
  obtain ⟨m, v, h⟩ := h
  obtain ⟨ad, cap, hv, q1, q2, q3⟩ := sl_of (c := pureC m) (RepD.toT h)
  rcases q3 with q3 | ⟨b, off, sz', cs, _, q4, q5, q6, q7⟩
  · rw [q3] at hx
    cases hx
  · obtain ⟨i, hi, rfl⟩ := List.getElem_of_mem hx
    have hi2 : i < cs.length := by omega
    exact ⟨m, cs[i], q7 i _ _ (List.getElem?_eq_getElem hi) (List.getElem?_eq_getElem hi2)⟩
theorem IsRep.int {k : IntKind} {n : Int} (h : IsRep (.int k n)) : k.wrap n = n := by
  obtain ⟨m, v, h⟩ := h
  cases h
  assumption
section
variable {E : Env} {U : List Nat} {s : St} {Q : Exit → List Nat → St → Prop}
theorem OK.slRep {t : Nat} {rows : List (List X)} {c : Code} (ht : Nat.blt t 1000 = true) (hl : look s t = some (.sl rows)) (h : IsRep (.sl rows) → OK E c Q U s) : OK E c Q U s := by
  intro a w hg
  obtain ⟨cx, hb, hh⟩ := hg
  exact h ⟨cx.h, _, D_of ((hh t _ hl).slot ht) rfl⟩ a w ⟨cx, hb, hh⟩
end
end Go.Ab
namespace Go.Ab
open Go.RowKit
def SlNil (b : Bool) (v : Value) : Prop := ∃ ad n cap, v = .slice ad n cap ∧ ad.isNone = b
section
variable {E : Env} {all : Array Oper} {l : List Oper} {U : List Nat} {s r rg : St} {Q : Exit → List Nat → St → Prop} {d ty : Nat} {pos : String} {after : Array Edge} {guard : Option (Nat × Bool)} {x : Operand}
theorem RK.slSplit {t : Nat} {rows : List (List X)} (ht : Nat.blt t 1000 = true) (hl : look s t = some (.sl rows)) (h : ∀ b, (b = true → rows = []) → RK E all l U ((t, .cb (SlNil b)) :: s) Q) : RK E all l U s Q := by
  intro k hk a w hg
  obtain ⟨c, hb, hh⟩ := hg
  have h0 := (hh t _ hl).slot ht
  obtain ⟨ad, cap, hv, _, _, q3⟩ := sl_of h0
  have hnil : ad.isNone = true → rows = [] := fun e => by
    rcases q3 with q3 | ⟨b, off, sz', cs, rfl, _⟩
    · exact q3
    · cases e
  refine h ad.isNone hnil k hk a w ⟨c, hb, fun key y hy => ?_⟩
  simp only [look] at hy
  split at hy
  · rename_i he
    have hkt := Nat.eq_of_beq_eq_true he
    cases hy
    rw [← hkt]
    unfold Holds
    rw [Nat.blt_eq] at ht
    rw [if_pos ht]
    exact ⟨ad, _, cap, hv, rfl⟩
  · exact hh key y hy
theorem S.eqnilB {t t2 e : Nat} {b : Bool} (ht : E.P.underlying t = some (.slice e)) (hg : Gd all s guard rg) (hd : (Nat.blt d 1000 && Nat.blt d E.nt) = true) (hx : OpS s x (.cb (SlNil b)) r) :
    St1 E all ⟨some d, .binOp .eql t x (.const (.slice none 0 0)) t2, ty, pos, after, guard⟩ s (rg ++ r) [(d, .bool b)] [] :=
  St1.val hg hd rfl hx.looks fun c A w _ hr => by
    have h0 : SlNil b (A.eval x) := hx.rep (c := c) (a := A) (w := w) hr
    obtain ⟨ad, n, cap, hv, rfl⟩ := h0
    refine ⟨.bool ad.isNone, ?_, RepD.toT (.bool _)⟩
    have hc : A.eval (.const (.slice none 0 0)) = .slice none 0 0 := rfl
    have hq : (eqGuard .eql t x (.const (.slice none 0 0)) (.slice ad n cap) (.slice none 0 0)).run E.P w = .ok () w := by simp [eqGuard]
    have hr := Lib.run_eql_slice_nil (P := E.P) w t e ad n cap 0 0 ht
    simp only [execOp, hv, hc, Sem.run_bind, hq, Result.andThen_ok, hr]
    cases ad <;> rfl
end
theorem RepD.recap {h : Mem} {rows : List (List X)} {a : Option Addr} {n cap cap' : Nat} (hr : RepD h (.sl rows) (.slice a n cap)) (h1 : n ≤ cap') (h2 : cap' ≤ cap) : RepD h (.sl rows) (.slice a n cap') := by
  cases hr with
  | sl0 _ _ hc => exact .sl0 _ _ (Nat.le_trans h2 hc)
  | sl _ b off _ sz vs p1 p2 p3 p4 p5 p6 => exact .sl rows b off cap' sz vs h1 (Nat.le_trans h2 p2) p3 p4 p5 p6
section
variable {E : Env} {all : Array Oper} {s r1 r2 r3 r4 rg : St} {d ty : Nat} {pos : String} {after : Array Edge} {guard : Option (Nat × Bool)} {x y z z2 : Operand}
theorem S.slice3 {α : Type} {t e sz lo hi : Nat} {l l' : List α} {f : α → List X} {i j j2 : Int} (hs : SlI E.P t e sz) (hf : ∀ a, (f a).length = sz) (hg : Gd all s guard rg) (hd : (Nat.blt d 1000 && Nat.blt d E.nt) = true) (hx : OpS s x (.sl (l.map f)) r1)
    (hy : OpS s y (.int .i64 i) r2) (hz : OpS s z (.int .i64 j) r3) (hz2 : OpS s z2 (.int .i64 j2) r4) (hi1 : i = lo) (hj : j = hi) (hj2 : j2 = hi) (hle : lo ≤ hi) (hle2 : hi ≤ l.length) (hl' : (l.take hi).drop lo = l') :
    St1 E all ⟨some d, .slice t x (some y) (some z) (some z2), ty, pos, after, guard⟩ s (rg ++ (r1 ++ (r2 ++ (r3 ++ r4)))) [(d, .sl (l'.map f))] [] := by
  subst hl'
  subst hi1
  subst hj
  subst hj2
  refine St1.val hg hd rfl (hx.looks.app (hy.looks.app (hz.looks.app hz2.looks))) fun c A w hh hr => ?_
  have hrep := hx.rep (c := c) (a := A) (w := w) fun p hp => hr p (by simp [hp])
  obtain ⟨a, cap, hv, p1, p2, _⟩ := sl_of hrep
  rw [hv] at hrep
  have hD : RepD c.h (.sl (l.map f)) (.slice a (l.map f).length cap) := hrep
  have hsl := sl_slice (lo := lo) (hi := hi) hD (fun q hq => by obtain ⟨a, _, rfl⟩ := List.mem_map.1 hq; exact hf a) hle (by simpa using hle2)
  rw [List.map_drop, List.map_take]
  rw [List.length_map] at p1 hv
  have hcap : hi ≤ cap := by omega
  have ky := (int_of (hy.rep (c := c) (a := A) (w := w) fun p hp => hr p (by simp [hp]))).1
  have kz := (int_of (hz.rep (c := c) (a := A) (w := w) fun p hp => hr p (by simp [hp]))).1
  have kz2 := (int_of (hz2.rep (c := c) (a := A) (w := w) fun p hp => hr p (by simp [hp]))).1
  by_cases e : hi = lo
  · subst e
    have hnil : ((l.map f).take hi).drop hi = [] := List.drop_eq_nil_of_le (by rw [List.length_take]; omega)
    rw [hnil]
    refine ⟨.slice a 0 0, ?_, RepD.toT (.sl0 a 0 (Nat.zero_le _))⟩
    simp [execOp, hv, ky, kz, kz2, Instr.sliceAt, Instr.slice, run_underlying hs.und, Instr.sliceBounds, Instr.sliceBound, asIntOf, hs.size, hcap]
  · have hc : ¬ cap = lo := by omega
    rw [if_neg hc] at hsl
    refine ⟨_, ?_, RepD.toT (hsl.recap (cap' := hi - lo) (Nat.le_refl _) (by omega))⟩
    simp [execOp, hv, ky, kz, kz2, Instr.sliceAt, Instr.slice, run_underlying hs.und, Instr.sliceBounds, Instr.sliceBound, asIntOf, hs.size, hcap, hle, e]
end
end Go.Ab
