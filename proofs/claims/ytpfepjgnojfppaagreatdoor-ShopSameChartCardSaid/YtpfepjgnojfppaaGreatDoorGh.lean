import Derived.Laws.Concat
import Derived.Lib.Join
import Derived.Test.YtpfepjgnojfppaaGreatDoorFy
namespace Go.Ab
open Go.RowKit
section
variable {E : Env} {all : Array Oper} {s r r1 r2 r3 rg : St} {d ty : Nat} {pos : String} {after : Array Edge} {guard : Option (Nat × Bool)} {x y z : Operand}
theorem S.sadd {t t2 : Nat} {l l' : List UInt8} (hg : Gd all s guard rg) (hd : (Nat.blt d 1000 && Nat.blt d E.nt) = true) (hx : OpS s x (.str l) r1) (hy : OpS s y (.str l') r2) (hb : l.length + l'.length ≤ 140737488355328) :
    St1 E all ⟨some d, .binOp .add t x y t2, ty, pos, after, guard⟩ s (rg ++ (r1 ++ r2)) [(d, .str (l ++ l'))] [] :=
  St1.val hg hd rfl (hx.looks.app hy.looks) fun c A w _ hr => by
    have h1 := (str_of (hx.rep (c := c) (a := A) (w := w) fun p hp => hr p (by simp [hp]))).1
    have h2 := (str_of (hy.rep (c := c) (a := A) (w := w) fun p hp => hr p (by simp [hp]))).1
    refine ⟨.string ⟨(l ++ l').toArray⟩, ?_, RepD.toT (.str _ (by rw [List.length_append]; unfold maxLen; omega))⟩
    have h3 := run_string_add_sum (P := E.P) w ⟨l.toArray⟩ ⟨l'.toArray⟩ (by simp [ByteArray.size]; omega)
    rw [ByteArray.mk_append_mk] at h3
    simp [execOp, h1, h2, eqGuard, binOp, h3]
end
theorem Ct.ofCalls {P : Program} {f : Nat} {args : List X} {res : X} (h : ∀ (m : Mem) (w : World) (vs : List Value), (∀ p v, m p = some v → w.cell? p = some v) → All2 (RepV (pureC m)) args vs → Calls P f vs.toArray w fun e w' => ∃ v, e = .returned v ∧ Below w.heap.size w w' ∧ RepT (pureC m) res v) : Ct P f args res := by
  intro m w vs hw ha
  refine (h m w vs hw ha).mono ?_
  rintro e w' ⟨v, rfl, hB, hr⟩
  exact ⟨v, m, rfl, hB, Mem.le_refl m, fun _ _ h => .inl h, fun p v hp => by rw [hB.cell (block_lt_of_cell (hw p v hp))]; exact hw p v hp, hr⟩
structure JoinI (P : Program) (f : Nat) : Prop where
  j0 : ∀ (a : Option Addr) (c : Nat) (sep : ByteArray) (w : World), Calls P f #[.slice a 0 c, .string sep] w fun e w' => e = .returned (.string ⟨#[]⟩) ∧ w' = w
  j1 : ∀ (bk o c : Nat) (xs : List ByteArray) (sep : ByteArray) (w : World), (∀ (j : Nat) (x : ByteArray), xs[j]? = some x → w.cell? ⟨bk, o + j, none⟩ = some (.string x)) → bk < w.heap.size → xs.length ≤ 140737488355328 → xs.length ≤ c → (Lib.join (xs.map (·.data.toList)) sep.data.toList).length ≤ 140737488355328 →
    Calls P f #[.slice (some ⟨bk, o, none⟩) xs.length c, .string sep] w fun e w' => e = .returned (.string ⟨(Lib.join (xs.map (·.data.toList)) sep.data.toList).toArray⟩) ∧ Below w.heap.size w w'
theorem flat_strs (l : List (List UInt8)) : (l.map fun s => [X.str s]).flatten = l.map X.str := by
  induction l with
  | nil => rfl
  | cons s l ih => simp only [List.map_cons, List.flatten_cons, ih, List.singleton_append]
theorem strs_of {h : Mem} : ∀ {l : List (List UInt8)} {vs : List Value}, All2 (RepD h) (l.map X.str) vs → vs = l.map fun s => Value.string ⟨s.toArray⟩
  | [], [], _ => rfl
  | s :: l, v :: vs, h => by
    obtain ⟨h1, h2⟩ := h
    cases h1
    rw [strs_of h2]
    rfl
  | [], _ :: _, h => h.elim
  | _ :: _, [], h => h.elim
theorem JoinI.ct {P : Program} {f : Nat} (hJ : JoinI P f) {l : List (List UInt8)} {sep : List UInt8} (hn : l.length ≤ 100000) (hlen : (Lib.join l sep).length ≤ 140737488355328) : Ct P f [.sl (l.map fun s => [.str s]), .str sep] (.str (Lib.join l sep)) := by
  refine Ct.ofCalls fun m w vs hw ha => ?_
  obtain ⟨v1, vs', rfl, h1, h2⟩ := ha.cons_left
  obtain ⟨v2, vs2, rfl, h3, h4⟩ := h2.cons_left
  have := h4.nil_left
  subst this
  have h3' : RepD m (.str sep) v2 := h3
  cases h3'
  have h1' : RepT (pureC m) (.sl (l.map fun s => [.str s])) v1 := h1
  have hs : RepD m (.str (Lib.join l sep)) (.string ⟨(Lib.join l sep).toArray⟩) := .str _ (by unfold maxLen; omega)
  obtain ⟨ad, cap, hv, q1, q2, q3⟩ := sl_of h1'
  rw [List.length_map] at hv q1
  subst hv
  rcases q3 with q3 | ⟨b, off, sz', cs, rfl, q4, q5, q6, q7⟩
  · have hl : l = [] := List.map_eq_nil_iff.1 q3
    subst hl
    refine (hJ.j0 ad cap ⟨sep.toArray⟩ w).mono ?_
    rintro e w' ⟨rfl, rfl⟩
    exact ⟨_, rfl, Below.refl _ _, hs⟩
  · obtain ⟨xs, hxs⟩ : ∃ xs : List ByteArray, xs = l.map fun s => (⟨s.toArray⟩ : ByteArray) := ⟨_, rfl⟩
    have hcs : cs = l.map fun s => Value.string ⟨s.toArray⟩ := by
      refine strs_of (h := m) (All2.of_get (by rw [← q5, flat_strs]) fun i x v hx hv => q7 i x v (by rw [flat_strs]; exact hx) hv)
    have hlx : xs.length = l.length := by rw [hxs, List.length_map]
    have hdat : xs.map (·.data.toList) = l := by rw [hxs, List.map_map]; exact List.map_id'' (fun s => rfl) l
    have hcell : ∀ (j : Nat) (x : ByteArray), xs[j]? = some x → w.cell? ⟨b, off + j, none⟩ = some (.string x) := by
      intro j x hx
      refine hw _ _ (q6 j _ ?_)
      rw [hcs, List.getElem?_map]
      rw [hxs, List.getElem?_map] at hx
      cases hl : l[j]? with
      | none => rw [hl] at hx; cases hx
      | some s => rw [hl] at hx; cases hx; rfl
    by_cases h0 : l = []
    · subst h0
      refine (hJ.j0 _ cap ⟨sep.toArray⟩ w).mono ?_
      rintro e w' ⟨rfl, rfl⟩
      exact ⟨_, rfl, Below.refl _ _, hs⟩
    · have hpos : 0 < l.length := List.length_pos_iff.2 h0
      have hbk : b < w.heap.size := by
        have hx0 : xs[0]? = some xs[0] := List.getElem?_eq_getElem (by omega)
        exact block_lt_of_cell (a := ⟨b, off + 0, none⟩) (hcell 0 _ hx0)
      have hc := hJ.j1 b off cap xs ⟨sep.toArray⟩ w hcell hbk (by omega) (by omega) (by rw [hdat]; exact hlen)
      rw [hlx, hdat] at hc
      refine hc.mono ?_
      rintro e w' ⟨rfl, hB⟩
      exact ⟨_, rfl, hB, hs⟩
theorem join_len {B : Nat} {sep : List UInt8} : ∀ {l : List (List UInt8)}, (∀ s ∈ l, s.length ≤ B) → (Lib.join l sep).length ≤ l.length * (B + sep.length)
  | [], _ => by simp [Lib.join_nil]
  | x :: r, h => by
    rw [Lib.join_length]
    have h1 : Lib.lens (x :: r) ≤ (x :: r).length * B := by
      have : ∀ {l : List (List UInt8)}, (∀ s ∈ l, s.length ≤ B) → Lib.lens l ≤ l.length * B := by
        intro l
        induction l with
        | nil => intro _; simp [Lib.lens]
        | cons y l ih =>
          intro hl
          have h2 := ih fun s hs => hl s (List.mem_cons_of_mem y hs)
          have h3 := hl y List.mem_cons_self
          unfold Lib.lens at h2 ⊢
          simp only [List.map_cons, List.sum_cons, List.length_cons, Nat.add_mul, Nat.one_mul]
          omega
      exact this h
    have h2 : sep.length * r.length ≤ (x :: r).length * sep.length := by
      rw [Nat.mul_comm, List.length_cons, Nat.add_mul]
      omega
    rw [Nat.mul_add]
    omega
end Go.Ab
namespace Go.Ab
open Go.RowKit
structure FtI (P : Program) (T f o Tf : Nat) : Prop where
  ex : ∃ fields fl, P.underlying T = some (.struct fields) ∧ fields[f]? = some fl ∧ fl.offset = o ∧ fl.type = Tf
section
variable {E : Env} {all : Array Oper} {s r rg : St} {d ty : Nat} {pos : String} {after : Array Edge} {guard : Option (Nat × Bool)} {x : Operand}
theorem S.fieldG {T f o Tf n : Nat} {us us' : List X} (hf : FtI E.P T f o Tf) (ht : TyI E.P Tf true n) (hg : Gd all s guard rg) (hd : (Nat.blt d 1000 && Nat.blt d E.nt) = true) (hx : OpS s x (.agg us) r) (hu : (us.drop o).take n = us') :
    St1 E all ⟨some d, .field T x f, ty, pos, after, guard⟩ s (rg ++ r) [(d, .agg us')] [] :=
  St1.val hg hd rfl hx.looks fun c A w hh hr => by
    subst hu
    obtain ⟨vs, h1, h2⟩ := hx.rep (c := c) (a := A) (w := w) hr
    obtain ⟨fields, fl, e1, e2, e3, e4⟩ := hf.ex
    refine ⟨.agg (((vs.drop o).take n).toArray), ?_, (vs.drop o).take n, rfl, (h2.drop o).take n⟩
    simp only [execOp, h1, Instr.field]
    rw [Sem.run_bind, Sem.run_bind, run_underlying e1]
    simp [e2, part, asAgg, e3, e4, ht.agg, ht.size]
end
end Go.Ab
