import Derived.Laws.Concat
import Derived.Lib.Join
import Derived.Test.YtbnimikgjjjcaaaGreatDoorFy
namespace Go.Ab
open Go.RowKit
section
variable {E : Env} {all : Array Oper} {s r r1 r2 r3 rg : St} {d ty : Nat} {pos : String} {after : Array Edge} {guard : Option (Nat × Bool)} {x y z : Operand}
theorem S.sadd {t t2 : Nat} {l l' : List UInt8} (hg : Gd all s guard rg) (hd : (Nat.blt d 1000 && Nat.blt d E.nt) = true) (hx : OpS s x (.str l) r1) (hy : OpS s y (.str l') r2) (hb : l.length + l'.length ≤ 140737488355328) :
    St1 E all ⟨some d, .binOp .add t x y t2, ty, pos, after, guard⟩ s (rg ++ (r1 ++ r2)) [(d, .str (l ++ l'))] [] :=
  St1.val hg hd rfl (hx.looks.app hy.looks) fun c A w _ hr => by
    have h1 := (str_of (hx.rep (c := c) (a := A) (w := w) fun p hp => hr p (by simp [hp]))).1
    have h2 := (str_of (hy.rep (c := c) (a := A) (w := w) fun p hp => hr p (by simp [hp]))).1
    refine ⟨.string ⟨(l ++ l').toArray⟩, ?_, RepD.toT (.str _ (by rw [List.length_append]; unfold maxLen; omega))⟩
    have h3 := run_string_add_sum (P := E.P) w ⟨l.toArray⟩ ⟨l'.toArray⟩ (by simp [ByteArray.size]; omega)
    rw [ByteArray.mk_append_mk] at h3
    simp [execOp, h1, h2, eqGuard, binOp, h3]
end
theorem Ct.ofCalls {P : Program} {f : Nat} {args : List X} {res : X} (h : ∀ (m : Mem) (w : World) (vs : List Value), (∀ p v, m p = some v → w.cell? p = some v) → All2 (RepV (pureC m)) args vs → Calls P f vs.toArray w fun e w' => ∃ v, e = .returned v ∧ Below w.heap.size w w' ∧ RepT (pureC m) res v) : Ct P f args res := by
  intro m w vs hw ha
  refine (h m w vs hw ha).mono ?_
  rintro e w' ⟨v, rfl, hB, hr⟩
  exact ⟨v, m, rfl, hB, Mem.le_refl m, fun _ _ h => .inl h, fun p v hp => by rw [hB.cell (block_lt_of_cell (hw p v hp))]; exact hw p v hp, hr⟩
structure JoinI (P : Program) (f : Nat) : Prop where
  j0 : ∀ (a : Option Addr) (c : Nat) (sep : ByteArray) (w : World), Calls P f #[.slice a 0 c, .string sep] w fun e w' => e = .returned (.string ⟨#[]⟩) ∧ w' = w
  j1 : ∀ (bk o c : Nat) (xs : List ByteArray) (sep : ByteArray) (w : World), (∀ (j : Nat) (x : ByteArray), xs[j]? = some x → w.cell? ⟨bk, o + j, none⟩ = some (.string x)) → bk < w.heap.size → xs.length ≤ 140737488355328 → xs.length ≤ c → (Lib.join (xs.map (·.data.toList)) sep.data.toList).length ≤ 140737488355328 →
    Calls P f #[.slice (some ⟨bk, o, none⟩) xs.length c, .string sep] w fun e w' => e = .returned (.string ⟨(Lib.join (xs.map (·.data.toList)) sep.data.toList).toArray⟩) ∧ Below w.heap.size w w'
theorem flat_strs (l : List (List UInt8)) : (l.map fun s => [X.str s]).flatten = l.map X.str := by
  induction l with
  | nil => rfl
  | cons s l ih => simp only [List.map_cons, List.flatten_cons, ih, List.singleton_append]
theorem strs_of {h : Mem} : ∀ {l : List (List UInt8)} {vs : List Value}, All2 (RepD h) (l.map X.str) vs → vs = l.map fun s => Value.string ⟨s.toArray⟩
  | [], [], _ => rfl
  | s :: l, v :: vs, h => by
    obtain ⟨h1, h2⟩ := h
    cases h1
    rw [strs_of h2]
    rfl
  | [], _ :: _, h => h.elim
  | _ :: _, [], h => h.elim
theorem JoinI.ct {P : Program} {f : Nat} (hJ : JoinI P f) {l : List (List UInt8)} {sep : List UInt8} (hn : l.length ≤ 100000) (hlen : (Lib.join l sep).length ≤ 140737488355328) : Ct P f [.sl (l.map fun s => [.str s]), .str sep] (.str (Lib.join l sep)) := by
  refine Ct.ofCalls fun m w vs hw ha => ?_
  obtain ⟨v1, vs', rfl, h1, h2⟩ := ha.cons_left
  obtain ⟨v2, vs2, rfl, h3, h4⟩ := h2.cons_left
  have := h4.nil_left
  subst this
  have h3' : RepD m (.str sep) v2 := h3
  cases h3'
  have h1' : RepT (pureC m) (.sl (l.map fun s => [.str s])) v1 := h1
  have hs : RepD m (.str (Lib.join l sep)) (.string ⟨(Lib.join l sep).toArray⟩) := .str _ (by unfold maxLen; omega)
  obtain ⟨ad, cap, hv, q1, q2, q3⟩ := sl_of h1'
  rw [List.length_map] at hv q1
  subst hv
  rcases q3 with q3 | ⟨b, off, sz', cs, rfl, q4, q5, q6, q7⟩
  · have hl : l = [] := List.map_eq_nil_iff.1 q3
    subst hl
    refine (hJ.j0 ad cap ⟨sep.toArray⟩ w).mono ?_
    rintro e w' ⟨rfl, rfl⟩
    exact ⟨_, rfl, Below.refl _ _, hs⟩
  · obtain ⟨xs, hxs⟩ : ∃ xs : List ByteArray, xs = l.map fun s => (⟨s.toArray⟩ : ByteArray) := ⟨_, rfl⟩
    have hcs : cs = l.map fun s => Value.string ⟨s.toArray⟩ := by
      refine strs_of (h := m) (All2.of_get (by rw [← q5, flat_strs]) fun i x v hx hv => q7 i x v (by rw [flat_strs]; exact hx) hv)
    have hlx : xs.length = l.length := by rw [hxs, List.length_map]
    have hdat : xs.map (·.data.toList) = l := by rw [hxs, List.map_map]; exact List.map_id'' (fun s => rfl) l
    have hcell : ∀ (j : Nat) (x : ByteArray), xs[j]? = some x → w.cell? ⟨b, off + j, none⟩ = some (.string x) := by
      intro j x hx
      refine hw _ _ (q6 j _ ?_)
      rw [hcs, List.getElem?_map]
      rw [hxs, List.getElem?_map] at hx
      cases hl : l[j]? with
      | none => rw [hl] at hx; cases hx
      | some s => rw [hl] at hx; cases hx; rfl
    by_cases h0 : l = []
    · subst h0
      refine (hJ.j0 _ cap ⟨sep.toArray⟩ w).mono ?_
      rintro e w' ⟨rfl, rfl⟩
      exact ⟨_, rfl, Below.refl _ _, hs⟩
    · have hpos : 0 < l.length := List.length_pos_iff.2 h0
      have hbk : b < w.heap.size := by
        have hx0 : xs[0]? = some xs[0] := List.getElem?_eq_getElem (by omega)
        exact block_lt_of_cell (a := ⟨b, off + 0, none⟩) (hcell 0 _ hx0)
      have hc := hJ.j1 b off cap xs ⟨sep.toArray⟩ w hcell hbk (by omega) (by omega) (by rw [hdat]; exact hlen)
      rw [hlx, hdat] at hc
      refine hc.mono ?_
      rintro e w' ⟨rfl, hB⟩
      exact ⟨_, rfl, hB, hs⟩
theorem join_len {B : Nat} {sep : List UInt8} : ∀ {l : List (List UInt8)}, (∀ s ∈ l, s.length ≤ B) → (Lib.join l sep).length ≤ l.length * (B + sep.length)
  | [], _ => by simp [Lib.join_nil]
  | x :: r, h => by
    rw [Lib.join_length]
    have h1 : Lib.lens (x :: r) ≤ (x :: r).length * B := by
      have : ∀ {l : List (List UInt8)}, (∀ s ∈ l, s.length ≤ B) → Lib.lens l ≤ l.length * B := by
        intro l
        induction l with
        | nil => intro _; simp [Lib.lens]
        | cons y l ih =>
          intro hl
          have h2 := ih fun s hs => hl s (List.mem_cons_of_mem y hs)
          have h3 := hl y List.mem_cons_self
          unfold Lib.lens at h2 ⊢
          simp only [List.map_cons, List.sum_cons, List.length_cons, Nat.add_mul, Nat.one_mul]
          omega
      exact this h
    have h2 : sep.length * r.length ≤ (x :: r).length * sep.length := by
      rw [Nat.mul_comm, List.length_cons, Nat.add_mul]
      omega
    rw [Nat.mul_add]
    omega
end Go.Ab
namespace Go.Ab
open Go.RowKit
inductive Pl where
  | s (l : List UInt8)
  | i (n : Int)
def Pl.v : Pl → Value
  | .s l => .string ⟨l.toArray⟩
  | .i n => .int .i64 n
def Pl.x : Pl → X
  | .s l => .str l
  | .i n => .int .i64 n
def Pl.is (P : Program) (T : Nat) : Pl → Prop
  | .s _ => P.underlying T = some .string
  | .i _ => P.underlying T = some (.int .i64)
def Pl.same : Pl → Pl → Bool
  | .s _, .s _ => true
  | .i _, .i _ => true
  | _, _ => false
def Pl.eq : Pl → Pl → Bool
  | .s a, .s b => decide (a = b)
  | .i a, .i b => decide (a = b)
  | _, _ => false
def plEq : List Pl → List Pl → Bool
  | [], [] => true
  | a :: xs0, b :: ys0 => a.eq b && plEq xs0 ys0
  | _, _ => false
def PlFs (P : Program) : Nat → List Field → List Pl → Prop
  | _, [], [] => True
  | o, f :: fs, p :: ps => (f.name == "_") = false ∧ f.offset = o ∧ p.is P f.type ∧ (∀ w, (isAgg f.type).run P w = .ok false w) ∧ PlFs P (o + 1) fs ps
  | _, _, _ => False
theorem Pl.is_same {P : Program} {T : Nat} : ∀ {a b : Pl}, a.is P T → a.same b = true → b.is P T
  | .s _, .s _, h, _ => h
  | .i _, .i _, h, _ => h
  | .s _, .i _, _, h => by cases h
  | .i _, .s _, _, h => by cases h
theorem run_equalIn_pl {P : Program} {T d : Nat} {a b : Pl} (w : World) (ha : a.is P T) (hb : b.is P T) : (Op.equalIn (d + 1) T a.v b.v).run P w = .ok (a.eq b) w := by
  cases a with
  | s a =>
    cases b with
    | s b =>
      have := run_equalIn_string w d T ⟨a.toArray⟩ ⟨b.toArray⟩ ha
      rw [ByteArray.toList_eq, ByteArray.toList_eq] at this
      simp only [Pl.v, Pl.eq]
      rw [this]
      congr 1
      by_cases h : a = b <;> simp [h]
    | i b => unfold Pl.is at ha hb; rw [ha] at hb; cases hb
  | i a =>
    cases b with
    | s b => unfold Pl.is at ha hb; rw [ha] at hb; cases hb
    | i b =>
      simp only [Pl.v, Pl.eq]
      rw [run_equalIn_int w d T .i64 .i64 a b ha]
      rfl
theorem eqFields_pl {P : Program} {d : Nat} (w : World) : ∀ (fs : List Field) (xs ys : List Pl) (px py : List Value), PlFs P px.length fs xs → PlFs P px.length fs ys → px.length = py.length →
    (Op.eqFields (d + 1) (px ++ xs.map Pl.v).toArray (py ++ ys.map Pl.v).toArray fs).run P w = .ok (plEq xs ys) w
  | [], [], [], _, _, _, _, _ => by simp [Op.eqFields, plEq]
  | f :: fs, x :: xs, y :: ys, px, py, hx, hy, hl => by
    obtain ⟨h1, h2, h3, h4, h5⟩ := hx
    obtain ⟨_, _, g3, _, g5⟩ := hy
    have part_at : ∀ (pz : List Value) (z : Pl) (zs : List Pl), pz.length = px.length → (part f.type (pz ++ (z :: zs).map Pl.v).toArray f.offset).run P w = .ok z.v w := by
      intro pz z zs e
      have hat : (pz ++ (z :: zs).map Pl.v)[f.offset]? = some z.v := by rw [h2, ← e]; simp
      rw [List.map_cons] at hat ⊢
      have hlt := (List.getElem?_eq_some_iff.1 hat).1
      have hv := (List.getElem?_eq_some_iff.1 hat).2
      simp [part, h4, hat]
    have h1' : (f.name != "_") = true := by simp only [bne, h1]; rfl
    simp only [Op.eqFields]
    rw [if_pos (by simpa using h1)]
    simp only [Sem.run_bind, part_at px x xs rfl, part_at py y ys hl.symm, Result.andThen_ok]
    rw [run_equalIn_pl w h3 g3]
    simp only [Result.andThen_ok]
    have ih := eqFields_pl (d := d) w fs xs ys (px ++ [x.v]) (py ++ [y.v]) (by rw [List.length_append]; exact h5) (by rw [List.length_append]; exact g5) (by simp [hl])
    rw [List.append_assoc, List.append_assoc, List.singleton_append, List.singleton_append] at ih
    cases he : x.eq y with
    | true => simpa [plEq, he] using ih
    | false => simp [plEq, he]
  | [], _ :: _, _, _, _, h, _, _ => h.elim
  | [], [], _ :: _, _, _, _, h, _ => h.elim
  | _ :: _, [], _, _, _, h, _, _ => h.elim
  | _ :: _, _ :: _, [], _, _, _, h, _ => h.elim
structure EqP (P : Program) (t : Nat) (ks : List Pl) : Prop where
  guard : P.eqGuardType P.depth t = false
  und : P.underlying t = some (.struct (P.fieldsOf t))
  held : P.stoodInHeld t = false
  fs : PlFs P 0 (P.fieldsOf t).toList ks
theorem EqP.of {P : Program} {t : Nat} {ks : List Pl} {fs : Array Field} (hg : P.eqGuardType P.depth t = false) (hu : P.underlying t = some (.struct fs)) (hp : P.stoodInHeld t = false) (hf : PlFs P 0 fs.toList ks) : EqP P t ks := by
  have hfo : P.fieldsOf t = fs := by unfold Program.fieldsOf; rw [hu]
  exact ⟨hg, by rw [hfo]; exact hu, hp, by rw [hfo]; exact hf⟩
theorem PlFs.same {P : Program} : ∀ {o : Nat} {fs : List Field} {ks xs : List Pl}, PlFs P o fs ks → ks.map (fun k => k.same) = xs.map (fun k => k.same) → PlFs P o fs xs
  | _, [], [], [], _, _ => trivial
  | _, f :: fs, k :: ks, x :: xs, ⟨h1, h2, h3, h4, h5⟩, h => by
    simp only [List.map_cons, List.cons.injEq] at h
    refine ⟨h1, h2, Pl.is_same h3 ?_, h4, PlFs.same h5 h.2⟩
    rw [h.1]
    cases x <;> rfl
  | _, [], [], _ :: _, _, h => by simp at h
  | _, _ :: _, _ :: _, [], _, h => by simp at h
  | _, [], _ :: _, _, h, _ => h.elim
  | _, _ :: _, [], _, h, _ => h.elim
theorem EqP.run {P : Program} {t : Nat} {ks xs ys : List Pl} (he : EqP P t ks) (hx : ks.map (fun k => k.same) = xs.map (fun k => k.same)) (hy : ks.map (fun k => k.same) = ys.map (fun k => k.same)) (w : World) :
    (Op.equalIn 10000 t (.agg (xs.map Pl.v).toArray) (.agg (ys.map Pl.v).toArray)).run P w = .ok (plEq xs ys) w := by
  rw [run_equalIn_struct w 9999 t _ _ he.und he.held]
  exact eqFields_pl (d := 9998) w _ xs ys [] [] (he.fs.same hx) (he.fs.same hy) rfl
end Go.Ab
namespace Go.Ab
open Go.RowKit
def ptrV (b : Nat) : Value := .pointer (some ⟨b, 0, none⟩)
def NewBox (B : Nat) (h : Mem) (w : World) (b : Nat) (cells : List X) : Prop := B ≤ b ∧ (∀ o, h ⟨b, o, none⟩ = none) ∧ ∃ T vs, w.heap[b]? = some (.cells vs T (0, 0)) ∧ All2 (RepD h) cells vs.toList
def CtN (P : Program) (f : Nat) (args : List X) (g : Nat) (bxs : List (List X)) : Prop :=
  ∀ (h : Mem) (w : World) (vs : List Value), (∀ p v, h p = some v → w.cell? p = some v) → All2 (RepV (pureC h)) args vs →
    Calls P f vs.toArray w fun en w' => ∃ bs h', en = .returned (.func (.func g) #[] (bs.map ptrV).toArray) ∧ Below w.heap.size w w' ∧ Mem.le h h' ∧ (∀ p v, h' p = some v → h p = some v ∨ w.heap.size ≤ p.block) ∧ (∀ p v, h' p = some v → w'.cell? p = some v) ∧
      bs.Pairwise (· ≠ ·) ∧ All2 (NewBox w.heap.size h' w') bs bxs
def kbOk (fs : List Nat) (p : Nat × List X) : Bool := p.2.all okD && Nat.blt p.1 1000 && !fs.contains p.1
def RetN2 (E : Env) (t g : Nat) (kb : List (Nat × List X)) : Exit → List Nat → St → Prop := fun e _ s => (e = .ret ∨ e = .normal) ∧
  look s t = some (.fn g (kb.map fun p => .ptr p.1 0)) ∧ Nat.blt t 1000 = true ∧ Looks s (boxSt kb) ∧ kb.all (kbOk E.fs) = true
theorem nboxes_of {fs : List Nat} {c : Ctx} {a : Act} {w : World} : ∀ {kb : List (Nat × List X)} {vs : List Value}, All2 (RepP c) (kb.map fun p => X.ptr p.1 0) vs → (∀ p ∈ kb, Holds c a w (1000 + p.1) (.box p.2)) → kb.all (kbOk fs) = true →
    ∃ bs : List Nat, vs = bs.map ptrV ∧ All2 (fun b (p : Nat × List X) => c.loc p.1 = some b ∧ ∃ T cs, w.heap[b]? = some (.cells cs T (0, 0)) ∧ All2 (RepD c.h) p.2 cs.toList) bs kb
  | [], [], _, _, _ => ⟨[], rfl, trivial⟩
  | p :: kb, v :: vs, h, hb, hk => by
    obtain ⟨h1, h2⟩ := h
    simp only [List.all_cons, Bool.and_eq_true] at hk
    obtain ⟨bs, e1, e2⟩ := nboxes_of h2 (fun q hq => hb q (List.mem_cons_of_mem _ hq)) hk.2
    obtain ⟨b, l1, l2⟩ := h1
    have hk1 := hk.1
    simp only [kbOk, Bool.and_eq_true, Nat.blt_eq] at hk1
    obtain ⟨b', T, cs, f1, f2, f3⟩ := box_of (hb p List.mem_cons_self) hk1.1.2
    rw [l1] at f1
    cases f1
    exact ⟨b :: bs, by rw [e1, l2]; rfl, ⟨l1, T, cs, f2, Ds_of f3 hk1.1.1⟩, e2⟩
  | [], _ :: _, h, _, _ => h.elim
  | _ :: _, [], h, _, _ => h.elim
theorem All2.mem_left {α β : Type} {R : α → β → Prop} : ∀ {xs0 : List α} {ys0 : List β}, All2 R xs0 ys0 → ∀ {a : α}, a ∈ xs0 → ∃ b ∈ ys0, R a b
  | [], [], _, a, ha => by cases ha
  | x :: xs0, y :: ys0, h, a, ha => by
    rcases List.mem_cons.1 ha with rfl | ha
    · exact ⟨y, List.mem_cons_self, h.1⟩
    · obtain ⟨b, hb, hr⟩ := All2.mem_left h.2 ha
      exact ⟨b, List.mem_cons_of_mem _ hb, hr⟩
  | [], _ :: _, h, _, _ => h.elim
  | _ :: _, [], h, _, _ => h.elim
theorem CtN.intro {P : Program} {f nt t g : Nat} {fn : Func} {code : Code} {args : List X} {kb : List (Nat × List X)} (hf : P.funcs[f]? = some fn) (hb : fn.body = some code) (hn : fn.ntmps = nt) (hr : fn.results = #[.tmp t])
    (hl : Nat.ble args.length nt = true) (ht : args.all (fun x => !isTup x) = true) (hl2 : Nat.ble args.length 1000 = true) (hd : (kb.map (·.1)).Pairwise (· ≠ ·))
    (h : ∀ w c, OK (mkE P nt [] w c) code (den (mkE P nt [] w c) (RetN2 (mkE P nt [] w c) t g kb) []) [] (argSt 0 args)) : CtN P f args g (kb.map (·.2)) := by
  intro h0 w vs hw hargs
  refine (callsIn_wide (n := 0)).1 (callsIn_of_wp_marks hf hb trivial ?_ rfl)
  have hlen := hargs.length
  rw [Nat.ble_eq] at hl hl2
  have hno : ∀ b, ¬ (pureC h0).out [] b := by
    rintro b (hy | ⟨k, _, e⟩ | ⟨k, m, hv, _, e, _⟩)
    · exact hy
    · cases e
    · cases e
  refine wpIn_mono (h w (pureC h0) { tmps := vs.toArray ++ Array.replicate (fn.ntmps - vs.toArray.size) undef, defers := [] } w ?_) ?_
  · refine ⟨pureC h0, ⟨BelX.refl _ _ _, Nat.le_refl _, ?_, ⟨.nil, fun d hd => by cases hd⟩, (fun p hp => by cases hp), hw, Mem.le_refl _, fun p v e => .inl e, (fun k b e => by cases e), (fun k m hv b e => by cases e), (fun _ _ => ⟨rfl, rfl⟩), (fun b e => e.elim), (fun k b _ e => by cases e), (fun k m hv lv _ e => by cases e)⟩, fun key x hx => slots_start hargs ht hl2 key x hx⟩
    simp [hn]; omega
  · rintro e a' w' ⟨U', s', ⟨c, hbase, hh⟩, he, l1, l2, l3, l4⟩
    have post : LeavesInM Fence.wide 0 P fn a'.tmps (fun en w' => ∃ bs h', en = .returned (.func (.func g) #[] (bs.map ptrV).toArray) ∧ Below w.heap.size w w' ∧ Mem.le h0 h' ∧ (∀ p v, h' p = some v → h0 p = some v ∨ w.heap.size ≤ p.block) ∧ (∀ p v, h' p = some v → w'.cell? p = some v) ∧
        bs.Pairwise (· ≠ ·) ∧ All2 (NewBox w.heap.size h' w') bs (kb.map (·.2))) a'.defers .returning w' := by
      refine leaves_marks (B := w.heap.size) (Z := c.all) a'.defers w' hbase.dfr.1 ?_ ?_
      · intro d hd
        obtain ⟨D, h1, h2, h3, h4⟩ := hbase.dfr.2 d hd
        exact ⟨D, h1, h2, h3, h4⟩
      · intro w2 e1 e2 e3 e4 e5 e6
        obtain ⟨hbase, hh⟩ := hbase.calm hh e1 e2 e3 e4 rfl e5 e6
        obtain ⟨vs1, hev, hcap⟩ : RepT c (.fn g (kb.map fun p => .ptr p.1 0)) (a'.tmps.getD t undef) := by
          have := hh t _ l1
          unfold Holds at this
          rw [if_pos (by rwa [Nat.blt_eq] at l2)] at this
          exact this
        obtain ⟨bs, rfl, hbs⟩ := nboxes_of (fs := []) hcap (fun p hp => hh _ _ (l3.all (1000 + p.1, .box p.2) (List.mem_map.2 ⟨p, hp, rfl⟩))) l4
        have hrun : (results fn a'.tmps).run P w2 = .ok (a'.tmps.getD t undef) w2 := by
          have he : results fn a'.tmps = (fn.results.mapM (resSem a'.tmps) >>= fun vs => pure (if h : vs.size = 1 then vs[0] else .tuple vs)) := by
            unfold results
            congr 1
          rw [he, hr, Array.mapM_eq_mapM_toList]
          simp [resSem]
        refine ⟨_, hrun, bs, c.h, by rw [hev], (hbase.below.mono (Nat.le_refl _) fun k _ hk => ?_).below, hbase.hle, fun p v hp => (hbase.hnew p v hp).imp id And.left, hbase.hw, ?_, ?_⟩
        · rcases hk with hk | ⟨p, hp, _⟩
          · exact (hno k hk).elim
          · cases hp
        · have : ∀ {bs : List Nat} {kb : List (Nat × List X)}, All2 (fun b (p : Nat × List X) => c.loc p.1 = some b ∧ ∃ T cs, w2.heap[b]? = some (.cells cs T (0, 0)) ∧ All2 (RepD c.h) p.2 cs.toList) bs kb → (kb.map (·.1)).Pairwise (· ≠ ·) → bs.Pairwise (· ≠ ·) := by
            intro bs
            induction bs with
            | nil => intro _ _ _; exact List.Pairwise.nil
            | cons b bs ih =>
              intro kb h hd
              cases kb with
              | nil => exact h.elim
              | cons p kb =>
                rw [List.map_cons, List.pairwise_cons] at hd
                refine List.pairwise_cons.2 ⟨fun b' hb' e => ?_, ih h.2 hd.2⟩
                obtain ⟨q, hq, hq2, _⟩ := All2.mem_left h.2 hb'
                subst e
                exact hd.1 q.1 (List.mem_map.2 ⟨q, hq, rfl⟩) ((hbase.loc q.1 b hq2).2.2.2.1 p.1 h.1.1)
          exact this hbs hd
        · have : ∀ {bs : List Nat} {kb : List (Nat × List X)}, All2 (fun b (p : Nat × List X) => c.loc p.1 = some b ∧ ∃ T cs, w2.heap[b]? = some (.cells cs T (0, 0)) ∧ All2 (RepD c.h) p.2 cs.toList) bs kb → All2 (NewBox w.heap.size c.h w2) bs (kb.map (·.2)) := by
            intro bs
            induction bs with
            | nil => intro kb h; cases kb with | nil => trivial | cons _ _ => exact h.elim
            | cons b bs ih =>
              intro kb h
              cases kb with
              | nil => exact h.elim
              | cons p kb =>
                obtain ⟨⟨f1, T, cs, f2, f3⟩, f4⟩ := h
                obtain ⟨q1, _, q3, _⟩ := hbase.loc p.1 b f1
                exact ⟨⟨Env.ok_own q1 (by simp), q3, T, cs, f2, f3⟩, ih f4⟩
          exact this hbs
    rcases he with rfl | rfl
    · exact post
    · exact post
end Go.Ab
