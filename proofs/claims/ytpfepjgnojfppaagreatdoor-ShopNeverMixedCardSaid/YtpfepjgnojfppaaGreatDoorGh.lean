import Derived.Laws.Concat
import Derived.Lib.Join
import Derived.Test.YtpfepjgnojfppaaGreatDoorFy
namespace Go.Ab
open Go.RowKit
section
variable {E : Env} {all : Array Oper} {s r r1 r2 r3 rg : St} {d ty : Nat} {pos : String} {after : Array Edge} {guard : Option (Nat × Bool)} {x y z : Operand}
theorem S.sadd {t t2 : Nat} {l l' : List UInt8} (hg : Gd all s guard rg) (hd : (Nat.blt d 1000 && Nat.blt d E.nt) = true) (hx : OpS s x (.str l) r1) (hy : OpS s y (.str l') r2) (hb : l.length + l'.length ≤ 140737488355328) :
    St1 E all ⟨some d, .binOp .add t x y t2, ty, pos, after, guard⟩ s (rg ++ (r1 ++ r2)) [(d, .str (l ++ l'))] [] :=
  St1.val hg hd rfl (hx.looks.app hy.looks) fun c A w _ hr => by
    have h1 := (str_of (hx.rep (c := c) (a := A) (w := w) fun p hp => hr p (by simp [hp]))).1
    have h2 := (str_of (hy.rep (c := c) (a := A) (w := w) fun p hp => hr p (by simp [hp]))).1
    refine ⟨.string ⟨(l ++ l').toArray⟩, ?_, RepD.toT (.str _ (by rw [List.length_append]; unfold maxLen; omega))⟩
    have h3 := run_string_add_sum (P := E.P) w ⟨l.toArray⟩ ⟨l'.toArray⟩ (by simp [ByteArray.size]; omega)
    rw [ByteArray.mk_append_mk] at h3
    simp [execOp, h1, h2, eqGuard, binOp, h3]
end
theorem Ct.ofCalls {P : Program} {f : Nat} {args : List X} {res : X} (h : ∀ (m : Mem) (w : World) (vs : List Value), (∀ p v, m p = some v → w.cell? p = some v) → All2 (RepV (pureC m)) args vs → Calls P f vs.toArray w fun e w' => ∃ v, e = .returned v ∧ Below w.heap.size w w' ∧ RepT (pureC m) res v) : Ct P f args res := by
  intro m w vs hw ha
  refine (h m w vs hw ha).mono ?_
  rintro e w' ⟨v, rfl, hB, hr⟩
  exact ⟨v, m, rfl, hB, Mem.le_refl m, fun _ _ h => .inl h, fun p v hp => by rw [hB.cell (block_lt_of_cell (hw p v hp))]; exact hw p v hp, hr⟩
structure JoinI (P : Program) (f : Nat) : Prop where
  j0 : ∀ (a : Option Addr) (c : Nat) (sep : ByteArray) (w : World), Calls P f #[.slice a 0 c, .string sep] w fun e w' => e = .returned (.string ⟨#[]⟩) ∧ w' = w
  j1 : ∀ (bk o c : Nat) (xs : List ByteArray) (sep : ByteArray) (w : World), (∀ (j : Nat) (x : ByteArray), xs[j]? = some x → w.cell? ⟨bk, o + j, none⟩ = some (.string x)) → bk < w.heap.size → xs.length ≤ 140737488355328 → xs.length ≤ c → (Lib.join (xs.map (·.data.toList)) sep.data.toList).length ≤ 140737488355328 →
    Calls P f #[.slice (some ⟨bk, o, none⟩) xs.length c, .string sep] w fun e w' => e = .returned (.string ⟨(Lib.join (xs.map (·.data.toList)) sep.data.toList).toArray⟩) ∧ Below w.heap.size w w'
theorem flat_strs (l : List (List UInt8)) : (l.map fun s => [X.str s]).flatten = l.map X.str := by
  induction l with
  | nil => rfl
  | cons s l ih => simp only [List.map_cons, List.flatten_cons, ih, List.singleton_append]
theorem strs_of {h : Mem} : ∀ {l : List (List UInt8)} {vs : List Value}, All2 (RepD h) (l.map X.str) vs → vs = l.map fun s => Value.string ⟨s.toArray⟩
  | [], [], _ => rfl
  | s :: l, v :: vs, h => by
    obtain ⟨h1, h2⟩ := h
    cases h1
    rw [strs_of h2]
    rfl
  | [], _ :: _, h => h.elim
  | _ :: _, [], h => h.elim
theorem JoinI.ct {P : Program} {f : Nat} (hJ : JoinI P f) {l : List (List UInt8)} {sep : List UInt8} (hn : l.length ≤ 100000) (hlen : (Lib.join l sep).length ≤ 140737488355328) : Ct P f [.sl (l.map fun s => [.str s]), .str sep] (.str (Lib.join l sep)) := by
  refine Ct.ofCalls fun m w vs hw ha => ?_
  obtain ⟨v1, vs', rfl, h1, h2⟩ := ha.cons_left
  obtain ⟨v2, vs2, rfl, h3, h4⟩ := h2.cons_left
  have := h4.nil_left
  subst this
  have h3' : RepD m (.str sep) v2 := h3
  cases h3'
  have h1' : RepT (pureC m) (.sl (l.map fun s => [.str s])) v1 := h1
  have hs : RepD m (.str (Lib.join l sep)) (.string ⟨(Lib.join l sep).toArray⟩) := .str _ (by unfold maxLen; omega)
  obtain ⟨ad, cap, hv, q1, q2, q3⟩ := sl_of h1'
  rw [List.length_map] at hv q1
  subst hv
  rcases q3 with q3 | ⟨b, off, sz', cs, rfl, q4, q5, q6, q7⟩
  · have hl : l = [] := List.map_eq_nil_iff.1 q3
    subst hl
    refine (hJ.j0 ad cap ⟨sep.toArray⟩ w).mono ?_
    rintro e w' ⟨rfl, rfl⟩
    exact ⟨_, rfl, Below.refl _ _, hs⟩
  · obtain ⟨xs, hxs⟩ : ∃ xs : List ByteArray, xs = l.map fun s => (⟨s.toArray⟩ : ByteArray) := ⟨_, rfl⟩
    have hcs : cs = l.map fun s => Value.string ⟨s.toArray⟩ := by
      refine strs_of (h := m) (All2.of_get (by rw [← q5, flat_strs]) fun i x v hx hv => q7 i x v (by rw [flat_strs]; exact hx) hv)
    have hlx : xs.length = l.length := by rw [hxs, List.length_map]
    have hdat : xs.map (·.data.toList) = l := by rw [hxs, List.map_map]; exact List.map_id'' (fun s => rfl) l
    have hcell : ∀ (j : Nat) (x : ByteArray), xs[j]? = some x → w.cell? ⟨b, off + j, none⟩ = some (.string x) := by
      intro j x hx
      refine hw _ _ (q6 j _ ?_)
      rw [hcs, List.getElem?_map]
      rw [hxs, List.getElem?_map] at hx
      cases hl : l[j]? with
      | none => rw [hl] at hx; cases hx
      | some s => rw [hl] at hx; cases hx; rfl
    by_cases h0 : l = []
    · subst h0
      refine (hJ.j0 _ cap ⟨sep.toArray⟩ w).mono ?_
      rintro e w' ⟨rfl, rfl⟩
      exact ⟨_, rfl, Below.refl _ _, hs⟩
    · have hpos : 0 < l.length := List.length_pos_iff.2 h0
      have hbk : b < w.heap.size := by
        have hx0 : xs[0]? = some xs[0] := List.getElem?_eq_getElem (by omega)
        exact block_lt_of_cell (a := ⟨b, off + 0, none⟩) (hcell 0 _ hx0)
      have hc := hJ.j1 b off cap xs ⟨sep.toArray⟩ w hcell hbk (by omega) (by omega) (by rw [hdat]; exact hlen)
      rw [hlx, hdat] at hc
      refine hc.mono ?_
      rintro e w' ⟨rfl, hB⟩
      exact ⟨_, rfl, hB, hs⟩
theorem join_len {B : Nat} {sep : List UInt8} : ∀ {l : List (List UInt8)}, (∀ s ∈ l, s.length ≤ B) → (Lib.join l sep).length ≤ l.length * (B + sep.length)
  | [], _ => by simp [Lib.join_nil]
  | x :: r, h => by
    rw [Lib.join_length]
    have h1 : Lib.lens (x :: r) ≤ (x :: r).length * B := by
      have : ∀ {l : List (List UInt8)}, (∀ s ∈ l, s.length ≤ B) → Lib.lens l ≤ l.length * B := by
        intro l
        induction l with
        | nil => intro _; simp [Lib.lens]
        | cons y l ih =>
          intro hl
          have h2 := ih fun s hs => hl s (List.mem_cons_of_mem y hs)
          have h3 := hl y List.mem_cons_self
          unfold Lib.lens at h2 ⊢
          simp only [List.map_cons, List.sum_cons, List.length_cons, Nat.add_mul, Nat.one_mul]
          omega
      exact this h
    have h2 : sep.length * r.length ≤ (x :: r).length * sep.length := by
      rw [Nat.mul_comm, List.length_cons, Nat.add_mul]
      omega
    rw [Nat.mul_add]
    omega
end Go.Ab
namespace Go.Ab
open Go.RowKit
def pmX (m : List (List UInt8 × Int)) : List (List UInt8 × X) := m.map fun p => (p.1, X.int .i64 p.2)
theorem look_pmX (k : List UInt8) : ∀ m : List (List UInt8 × Int), lookL (pmX m) k = (lookL m k).map (X.int .i64)
  | [] => rfl
  | p :: m => by
    have ih := look_pmX k m
    simp only [pmX, List.map_cons, lookL] at ih ⊢
    split
    · rfl
    · exact ih
theorem put_pmX (k : List UInt8) (v : Int) : ∀ m : List (List UInt8 × Int), putL (pmX m) k (.int .i64 v) = pmX (putL m k v)
  | [] => rfl
  | p :: m => by
    have ih := put_pmX k v m
    simp only [pmX, List.map_cons, putL] at ih ⊢
    split
    · rfl
    · rw [ih]; rfl
section
variable {E : Env} {all : Array Oper} {s r r1 r2 r3 rg : St} {d ty : Nat} {pos : String} {after : Array Edge} {guard : Option (Nat × Bool)} {x y z : Operand}
theorem S.lookupI {t kt e k : Nat} {key : List UInt8} {m : List (List UInt8 × Int)} {zv : Value} (ht : E.P.underlying t = some (.map kt e)) (hk : E.P.underlying kt = some .string) (hz : ∀ w, (zeroValue e).run E.P w = .ok zv w) (hzx : ∀ c, RepV c (.int .i64 0) zv) (hg : Gd all s guard rg) (hd : (Nat.blt d 1000 && Nat.blt d E.nt) = true)
    (hx : OpS s x (.mptr k) r1) (hy : OpS s y (.str key) r2) (hl : look s (1000 + k) = some (.omap (mapX (pmX m)))) (hk1 : Nat.blt k 1000 = true := by rfl) :
    St1 E all ⟨some d, .lookup t x y false, ty, pos, after, guard⟩ s (rg ++ (r1 ++ (r2 ++ [(1000 + k, .omap (mapX (pmX m)))]))) [(d, .int .i64 ((lookL m key).getD 0))] [] := by
  have e : (lookL (pmX m) key).getD (.int .i64 0) = .int .i64 ((lookL m key).getD 0) := by
    rw [look_pmX]
    cases lookL m key <;> rfl
  have h := S.lookupO1 (l := pmX m) (zx := .int .i64 0) (pos := pos) (after := after) (ty := ty) ht hk hz hzx hg hd hx hy hl rfl (by rw [e]; rfl) hk1
  rw [e] at h
  exact h
theorem S.mapSetI {t kt e k : Nat} {key : List UInt8} {v : Int} {m m' : List (List UInt8 × Int)} (ht : E.P.underlying t = some (.map kt e)) (hk : E.P.underlying kt = some .string) (hg : Gd all s guard rg)
    (hx : OpS s x (.mptr k) r1) (hy : OpS s y (.str key) r2) (hz : OpS s z (.int .i64 v) r3) (hl : look s (1000 + k) = some (.omap (mapX (pmX m)))) (hm : putL m key v = m') (hk1 : Nat.blt k 1000 = true := by rfl) :
    St1 E all ⟨none, .mapUpdate t x y z, ty, pos, after, guard⟩ s (rg ++ (r1 ++ (r2 ++ (r3 ++ [(1000 + k, .omap (mapX (pmX m)))])))) [(1000 + k, .omap (mapX (pmX m')))] [] :=
  S.mapSetO ht hk hg hx hy hz rfl hl rfl (by rw [put_pmX, hm]) hk1
end
end Go.Ab
namespace Go.Ab
open Go.RowKit
inductive Pl where
  | s (l : List UInt8)
  | i (n : Int)
def Pl.v : Pl → Value
  | .s l => .string ⟨l.toArray⟩
  | .i n => .int .i64 n
def Pl.is (P : Program) (T : Nat) : Pl → Prop
  | .s _ => P.underlying T = some .string
  | .i _ => P.underlying T = some (.int .i64)
def Pl.same : Pl → Pl → Bool
  | .s _, .s _ => true
  | .i _, .i _ => true
  | _, _ => false
def Pl.eq : Pl → Pl → Bool
  | .s a, .s b => decide (a = b)
  | .i a, .i b => decide (a = b)
  | _, _ => false
def plEq : List Pl → List Pl → Bool
  | [], [] => true
  | a :: xs0, b :: ys0 => a.eq b && plEq xs0 ys0
  | _, _ => false
def PlFs (P : Program) : Nat → List Field → List Pl → Prop
  | _, [], [] => True
  | o, f :: fs, p :: ps => (f.name == "_") = false ∧ f.offset = o ∧ p.is P f.type ∧ (∀ w, (isAgg f.type).run P w = .ok false w) ∧ PlFs P (o + 1) fs ps
  | _, _, _ => False
theorem Pl.is_same {P : Program} {T : Nat} : ∀ {a b : Pl}, a.is P T → a.same b = true → b.is P T
  | .s _, .s _, h, _ => h
  | .i _, .i _, h, _ => h
  | .s _, .i _, _, h => by cases h
  | .i _, .s _, _, h => by cases h
theorem run_equalIn_pl {P : Program} {T d : Nat} {a b : Pl} (w : World) (ha : a.is P T) (hb : b.is P T) : (Op.equalIn (d + 1) T a.v b.v).run P w = .ok (a.eq b) w := by
  cases a with
  | s a =>
    cases b with
    | s b =>
      have := run_equalIn_string w d T ⟨a.toArray⟩ ⟨b.toArray⟩ ha
      rw [ByteArray.toList_eq, ByteArray.toList_eq] at this
      simp only [Pl.v, Pl.eq]
      rw [this]
      congr 1
      by_cases h : a = b <;> simp [h]
    | i b => unfold Pl.is at ha hb; rw [ha] at hb; cases hb
  | i a =>
    cases b with
    | s b => unfold Pl.is at ha hb; rw [ha] at hb; cases hb
    | i b =>
      simp only [Pl.v, Pl.eq]
      rw [run_equalIn_int w d T .i64 .i64 a b ha]
      rfl
theorem eqFields_pl {P : Program} {d : Nat} (w : World) : ∀ (fs : List Field) (xs ys : List Pl) (px py : List Value), PlFs P px.length fs xs → PlFs P px.length fs ys → px.length = py.length →
    (Op.eqFields (d + 1) (px ++ xs.map Pl.v).toArray (py ++ ys.map Pl.v).toArray fs).run P w = .ok (plEq xs ys) w
  | [], [], [], _, _, _, _, _ => by simp [Op.eqFields, plEq]
  | f :: fs, x :: xs, y :: ys, px, py, hx, hy, hl => by
    obtain ⟨h1, h2, h3, h4, h5⟩ := hx
    obtain ⟨_, _, g3, _, g5⟩ := hy
    have part_at : ∀ (pz : List Value) (z : Pl) (zs : List Pl), pz.length = px.length → (part f.type (pz ++ (z :: zs).map Pl.v).toArray f.offset).run P w = .ok z.v w := by
      intro pz z zs e
      have hat : (pz ++ (z :: zs).map Pl.v)[f.offset]? = some z.v := by rw [h2, ← e]; simp
      rw [List.map_cons] at hat ⊢
      have hlt := (List.getElem?_eq_some_iff.1 hat).1
      have hv := (List.getElem?_eq_some_iff.1 hat).2
      simp [part, h4, hat]
    have h1' : (f.name != "_") = true := by simp only [bne, h1]; rfl
    simp only [Op.eqFields]
    rw [if_pos (by simpa using h1)]
    simp only [Sem.run_bind, part_at px x xs rfl, part_at py y ys hl.symm, Result.andThen_ok]
    rw [run_equalIn_pl w h3 g3]
    simp only [Result.andThen_ok]
    have ih := eqFields_pl (d := d) w fs xs ys (px ++ [x.v]) (py ++ [y.v]) (by rw [List.length_append]; exact h5) (by rw [List.length_append]; exact g5) (by simp [hl])
    rw [List.append_assoc, List.append_assoc, List.singleton_append, List.singleton_append] at ih
    cases he : x.eq y with
    | true => simpa [plEq, he] using ih
    | false => simp [plEq, he]
  | [], _ :: _, _, _, _, h, _, _ => h.elim
  | [], [], _ :: _, _, _, _, h, _ => h.elim
  | _ :: _, [], _, _, _, h, _, _ => h.elim
  | _ :: _, _ :: _, [], _, _, _, h, _ => h.elim
structure EqP (P : Program) (t : Nat) (ks : List Pl) : Prop where
  guard : P.eqGuardType P.depth t = false
  und : P.underlying t = some (.struct (P.fieldsOf t))
  held : P.stoodInHeld t = false
  fs : PlFs P 0 (P.fieldsOf t).toList ks
theorem EqP.of {P : Program} {t : Nat} {ks : List Pl} {fs : Array Field} (hg : P.eqGuardType P.depth t = false) (hu : P.underlying t = some (.struct fs)) (hp : P.stoodInHeld t = false) (hf : PlFs P 0 fs.toList ks) : EqP P t ks := by
  have hfo : P.fieldsOf t = fs := by unfold Program.fieldsOf; rw [hu]
  exact ⟨hg, by rw [hfo]; exact hu, hp, by rw [hfo]; exact hf⟩
theorem PlFs.same {P : Program} : ∀ {o : Nat} {fs : List Field} {ks xs : List Pl}, PlFs P o fs ks → ks.map (fun k => k.same) = xs.map (fun k => k.same) → PlFs P o fs xs
  | _, [], [], [], _, _ => trivial
  | _, f :: fs, k :: ks, x :: xs, ⟨h1, h2, h3, h4, h5⟩, h => by
    simp only [List.map_cons, List.cons.injEq] at h
    refine ⟨h1, h2, Pl.is_same h3 ?_, h4, PlFs.same h5 h.2⟩
    rw [h.1]
    cases x <;> rfl
  | _, [], [], _ :: _, _, h => by simp at h
  | _, _ :: _, _ :: _, [], _, h => by simp at h
  | _, [], _ :: _, _, h, _ => h.elim
  | _, _ :: _, [], _, h, _ => h.elim
theorem EqP.run {P : Program} {t : Nat} {ks xs ys : List Pl} (he : EqP P t ks) (hx : ks.map (fun k => k.same) = xs.map (fun k => k.same)) (hy : ks.map (fun k => k.same) = ys.map (fun k => k.same)) (w : World) :
    (Op.equalIn 10000 t (.agg (xs.map Pl.v).toArray) (.agg (ys.map Pl.v).toArray)).run P w = .ok (plEq xs ys) w := by
  rw [run_equalIn_struct w 9999 t _ _ he.und he.held]
  exact eqFields_pl (d := 9998) w _ xs ys [] [] (he.fs.same hx) (he.fs.same hy) rfl
end Go.Ab
