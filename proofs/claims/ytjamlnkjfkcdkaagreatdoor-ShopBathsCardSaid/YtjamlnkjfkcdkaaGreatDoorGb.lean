/-
  Abstract states: slices of the activation's own with a row in which there is more than data.
-/
import Derived.Test.YtjamlnkjfkcdkaaGreatDoorGa
namespace Go.Ab
open Go.RowKit
def isArrn : X → Bool
  | .arrn _ _ _ _ => true
  | _ => false
theorem arrn_of {c : Ctx} {a : Act} {w : World} {k sz : Nat} {pre post : List (List X)} {mid : List X} (h : Holds c a w (2000 + k) (.arrn sz pre mid post)) :
    k < 1000 ∧ ∃ hv e vs, c.arr k = some (pre.length + (post.length + 1), hv, true) ∧ w.ownsRow 0 e sz hv (pre.length + (post.length + 1)) vs ∧ (∀ r ∈ pre ++ mid :: post, r.length = sz) ∧ ∃ v1 v2 v3, vs = v1 ++ (v2 ++ v3) ∧ All2 (RepD c.h) pre.flatten v1 ∧ All2 (RepC c) mid v2 ∧ All2 (RepD c.h) post.flatten v3 := by
  unfold Holds at h
  by_cases hk : k < 1000
  case neg =>
    rw [if_neg (by omega), if_neg (by omega), if_neg (by omega)] at h
    rcases h with h | ⟨_, J, hJ, _⟩
    · cases h
    · cases hJ
  rw [if_neg (by omega), if_neg (by omega), if_pos (by omega), Nat.add_sub_cancel_left] at h
  rcases h with h | ⟨sz', rows', hv, e, vs, ⟨rfl, rfl, h4⟩, h1, h2, h3⟩
  · cases h
  · rw [List.length_append, List.length_cons] at h1 h2
    exact ⟨hk, hv, e, vs, h1, h2, h3, h4⟩
theorem Holds.mkArrn {c : Ctx} {a : Act} {w : World} {k sz e n : Nat} {hv : Value} {vs v1 v2 v3 : List Value} {pre post : List (List X)} {mid : List X} (hk : k < 1000) (hn : pre.length + (post.length + 1) = n) (h1 : c.arr k = some (n, hv, true)) (h2 : w.ownsRow 0 e sz hv n vs)
    (h3 : ∀ q ∈ pre ++ mid :: post, q.length = sz) (h4 : vs = v1 ++ (v2 ++ v3)) (h5 : All2 (RepD c.h) pre.flatten v1) (h6 : All2 (RepC c) mid v2) (h7 : All2 (RepD c.h) post.flatten v3) : ¬ (2000 + k < 1000) ∧ Holds c a w (2000 + k) (.arrn sz pre mid post) := by
  subst hn
  refine ⟨by omega, ?_⟩
  unfold Holds
  rw [if_neg (by omega), if_neg (by omega), if_pos (by omega), Nat.add_sub_cancel_left]
  refine .inr ⟨sz, _, hv, e, vs, ⟨rfl, rfl, v1, v2, v3, h4, h5, h6, h7⟩, ?_, ?_, h3⟩
  · rw [List.length_append, List.length_cons]; exact h1
  · rw [List.length_append, List.length_cons]; exact h2
section
variable {E : Env} {all : Array Oper} {s r r1 r2 r3 rg : St} {d ty : Nat} {pos : String} {after : Array Edge} {guard : Option (Nat × Bool)} {x y z : Operand}
/-- A slice literal of one row, whatever it holds. -/
theorem S.mkSliceN {t e sz bytes k : Nat} {ps : List (Nat × Operand)} {us : List X} {mid : List X} (hA : ApI E.P t e sz bytes) (hg : Gd all s guard rg) (hd : (Nat.blt d 1000 && Nat.blt d E.nt) = true)
    (hx : OpsS s (ps.map (·.2)) us r) (hu : us.all okSt = true) (_hrows : us.map cellsX = [mid]) (hf : fillX (fun i => some (i * sz, sz)) (List.replicate (1 * sz) .any) ((ps.map (·.1)).zip us) = some mid)
    (hr : Nat.beq mid.length sz = true) (hbig : Nat.ble (1 * sz) 16777216 = true) (hk9 : E.fs.contains k = false := by rfl) (hk1 : Nat.blt k 1000 = true := by rfl) :
    St1 E all ⟨some d, .buildSlice t 1 ps.toArray, ty, pos, after, guard⟩ s (rg ++ r) ((d, .own k 1) :: [(2000 + k, .arrn sz [] mid [])]) [k] :=
  St1.mk hg hd rfl hx.looks fun U c a w hb hrr hal => by
    clear _hrows
    rw [Nat.ble_eq] at hbig
    rw [Nat.blt_eq] at hk1
    have hkU : k ∉ U := hal k (by simp)
    have hrow := Nat.eq_of_beq_eq_true hr
    obtain ⟨hsz, zv, hz, hzs⟩ := hA.run
    have hbase : ∀ (q : Array Value), q.size = 1 * sz → All2 (RepC c) (List.replicate (1 * sz) .any) q.toList := fun q hq => All2.of_get (by simp [hq]) fun i u v hu _ => by
      simp only [List.getElem?_replicate] at hu
      split at hu
      · cases hu; exact trivial
      · cases hu
    obtain ⟨cells, h1, h2⟩ := fill_rep (c := c) (fun i => some (i * sz, sz)) _ _ _ (((Array.range (1 * sz)).map fun i => (if 1 * sz = 0 then #[] else zv.cells)[i % (if 1 * sz = 0 then #[] else zv.cells).size]!)) mid (hbase _ (by simp)) (parts_rep (hx.rep (c := c) (a := a) (w := w) hrr) hu) hf
    have hcs : cells.size = 1 * sz := by have := h2.length; rw [hrow] at this; simpa using this.symm
    have hB := below_alloc w (.cells cells e)
    obtain ⟨g1, g2, g3, g4⟩ := hb.ownNew (nfs hk9) hkU (n := 1) (v := .slice (some ⟨w.heap.size, 0, none⟩) 1 1) hB (.inr ⟨rfl, by simp⟩)
    have hp := hA.pos
    refine ⟨.slice (some ⟨w.heap.size, 0, none⟩) 1 1, _, w.alloc (.cells cells e), ?_, g1, g2, ⟨⟨_, _, _, rfl⟩, 1, _, _, g3, Nat.le_refl _, fun _ => rfl⟩, ?_, fun key u hkey _ hu => g4 key u hkey hu⟩
    · have hnb : ¬ (1 * sz > 2 ^ 24) := by omega
      simp only [execOp, Instr.buildSlice, Sem.run_bind, run_underlying hA.und, Result.andThen_ok, hsz, hnb, if_false]
      have h0 : ¬ (1 * sz = 0) := by omega
      simp only [h0, if_false] at h1
      have h0' : ¬ sz = 0 := by omega
      simp at h1
      simp [hz, h0', h1, newRow]
    · intro p hp2
      simp only [List.mem_singleton] at hp2
      subst hp2
      refine Holds.mkArrn (e := e) (n := 1) (vs := cells.toList) (v1 := []) (v2 := cells.toList) (v3 := []) (pre := []) (post := []) (by omega) rfl g3 ⟨by simp [hcs], .inr ⟨w.heap.size, 1, cells, rfl, Nat.zero_le _, heap_alloc_new w _, Nat.le_refl _, by unfold maxLen; omega, hcs, ?_⟩⟩ ?_ (by simp) trivial (h2.mono fun _ _ => RepC.mono g2) trivial
      · rw [List.take_of_length_le (by simp [hcs])]
      · intro q hq
        simp only [List.nil_append, List.mem_singleton] at hq
        subst hq
        exact hrow
/-- append(own, such a literal). -/
theorem S.appendNN {t e sz bytes k n j : Nat} {rows : List (List X)} {mid : List X} (hA : ApI E.P t e sz bytes) (hg : Gd all s guard rg) (hd : (Nat.blt d 1000 && Nat.blt d E.nt) = true)
    (hx : OpS s x (.own k n) r1) (hl : look s (2000 + k) = some (.arr sz rows)) (hn : rows.length = n) (hy : OpS s y (.own j 1) r2) (hl2 : look s (2000 + j) = some (.arrn sz [] mid [])) (ho : mid.all okSt1 = true) (hbd : (n + 1) * bytes ≤ 140737488355328) (hbm : n + 1 ≤ maxLen) :
    St1 E all ⟨some d, .call { callee := .builtin .append, args := #[x, y], argTypes := #[t, t] }, ty, pos, after, guard⟩ s (rg ++ (r1 ++ ([(2000 + k, .arr sz rows)] ++ (r2 ++ [(2000 + j, .arrn sz [] mid [])])))) ((d, .own k (n + 1)) :: [(2000 + k, .arrn sz rows mid [])]) [] :=
  St1.mk hg hd rfl (hx.looks.app (Looks.app (r := [(2000 + k, .arr sz rows)]) ⟨hl, trivial⟩ (hy.looks.app ⟨hl2, trivial⟩))) fun U c a w hb hr _ => by
    subst hn
    obtain ⟨hv0, m0, hv, lv, e1, e2, e3⟩ := own_of (hx.rep (c := c) (a := a) (w := w) fun p hp => hr p (by simp [hp]))
    obtain ⟨v, e', vs, g1, g2, g3, g4⟩ := arr_of (hr (2000 + k, .arr sz rows) (by simp))
    rw [e1] at g1
    cases g1
    obtain ⟨_, m0', hv', lv', f1, f2, f3⟩ := own_of (hy.rep (c := c) (a := a) (w := w) fun p hp => hr p (by simp [hp]))
    obtain ⟨_, v', e'', vs', p1, p2, p3, v1, v2, v3, p4, p5, p6, p7⟩ := arrn_of (hr (2000 + j, .arrn sz [] mid []) (by simp))
    simp only [List.length_nil, Nat.zero_add] at p1 p2
    rw [p1] at f1
    cases f1
    have hyv := f3 rfl
    have hv1 : v1 = [] := All2.nil_left p5
    have hv3 : v3 = [] := All2.nil_left p7
    subst hv1
    subst hv3
    rw [List.nil_append, List.append_nil] at p4
    subst p4
    obtain ⟨i, zv, i1, i2, i3, i4, i5⟩ := hA.ex
    have hmid : mid.length = sz := p3 mid (by simp)
    have hfl2 : vs'.length = 1 * sz := by rw [← p6.length, hmid, Nat.one_mul]
    have hev := e3 rfl
    have hone : ∀ q ∈ vs', q.oneCell' = true := by
      clear hfl2 p2 hyv p3 hmid hl2 hr
      induction mid generalizing vs' with
      | nil => intro q hq; rw [All2.nil_left p6] at hq; cases hq
      | cons u us ih =>
        obtain ⟨v0, vs0, rfl, h1, h2⟩ := p6.cons_left
        simp only [List.all_cons, Bool.and_eq_true] at ho
        intro q hq
        rcases List.mem_cons.1 hq with rfl | hq
        · exact oneCell_of h1 ho.1
        · exact ih ho.2 _ h2 q hq
    obtain ⟨vr, w', e1', q1, q2, q3, q4, q5, q6⟩ := run_append_src (P := E.P) w 0 t t ty e e' (.slice e) i zv sz bytes hA.und hA.und srcD_sl i1 i2 i3 i4 i5 _ rows.length vs g2 (a.eval y) 1 vs' (by
        intro w2
        rw [hyv]
        rcases p2.2 with ⟨rfl, h0⟩ | ⟨g, cap, cur, rfl, _⟩
        · cases h0
        · simp [Builtin.lenOf]) hfl2 (by
        intro w' hw'
        rw [hyv]
        rcases p2.2 with ⟨rfl, h0⟩ | ⟨g, cap, cur, rfl, h1, h2, h3, h4, h5, h6⟩
        · cases h0
        · exact run_firstCells_some w' sz 1 ⟨g, 0, none⟩ 1 cap vs' p2.1 fun i u hu => by rw [hw']; exact p2.cells (g := g) rfl i u hu) hone hbm hbd (Nat.zero_le _)
    obtain ⟨t1, t2, t3, t4⟩ := hb.append (n' := rows.length + 1) (v' := vr) e1 q3 (by omega) (fun h => by omega) q4 (not_dfr g2)
    refine ⟨vr, _, w', ?_, t1, t2, ⟨q6, _, _, _, t3, Nat.le_refl _, fun _ => rfl⟩, ?_, fun key y hkey hne hy => t4 key y hkey (fun e => hne _ (List.mem_singleton.2 rfl) e.symm) hy⟩
    · simp only [execOp, resolve, invoke, builtin, Sem.run_bind, Sem.run_pure, Result.andThen_ok, List.map_toArray, List.map_cons, List.map_nil, hev, q1]
    · intro p hp
      simp only [List.mem_singleton] at hp
      subst hp
      refine Holds.mkArrn (e := e1') (n := rows.length + 1) (v1 := vs) (v2 := vs') (v3 := []) (pre := rows) (post := []) (arr_lt (hr (2000 + k, .arr sz rows) (by simp))) rfl t3 q2 (fun q hq => ?_) (by simp) (g4.mono fun _ _ => RepD.mono t2.h) (p6.mono fun _ _ => RepC.mono t2) trivial
      rcases List.mem_append.1 hq with h | h
      · exact g3 q h
      · simp only [List.mem_singleton] at h; subst h; exact hmid
theorem S.lenN {t e sz k n w2 : Nat} {pre post : List (List X)} {mid : List X} (hs : SlI E.P t e sz) (hg : Gd all s guard rg) (hd : (Nat.blt d 1000 && Nat.blt d E.nt) = true) (hx : OpS s x (.own k n) r) (hl : look s (2000 + k) = some (.arrn w2 pre mid post)) (hn : pre.length + (post.length + 1) = n) :
    St1 E all ⟨some d, .call { callee := .builtin .len, args := #[x], argTypes := #[t] }, ty, pos, after, guard⟩ s (rg ++ (r ++ [(2000 + k, .arrn w2 pre mid post)])) [(d, .int .i64 n)] [] :=
  St1.val hg hd rfl (hx.looks.app ⟨hl, trivial⟩) fun c A w hh hr => by
    subst hn
    obtain ⟨_, m, hv, lv, e1, e2, e3⟩ := hx.rep (c := c) (a := A) (w := w) fun p hp => hr p (by simp [hp])
    obtain ⟨_, hv', e', vs, f1, f2, f3, f4⟩ := arrn_of (hr (2000 + k, .arrn w2 pre mid post) (by simp))
    rw [f1] at e1; cases e1
    have hev := e3 rfl
    rcases f2.2 with ⟨rfl, h0⟩ | ⟨g, cap, cur, rfl, _, _, h5, h6, _⟩
    · omega
    · refine ⟨.int .i64 (pre.length + (post.length + 1) : Nat), ?_, RepD.toT (.int (wrap_len (Nat.le_trans h5 h6)))⟩
      simp [execOp, resolve, invoke, builtin, hev, Builtin.len_, run_underlying hs.und, goInt]
theorem S.oindexN {t e sz k n i : Nat} {j : Int} {pre post : List (List X)} {mid : List X} (hs : SlI E.P t e sz) (hg : Gd all s guard rg) (hd : (Nat.blt d 1000 && Nat.blt d E.nt) = true) (hx : OpS s x (.own k n) r1) (hl : look s (2000 + k) = some (.arrn sz pre mid post)) (hn : pre.length + (post.length + 1) = n)
    (hy : OpS s y (.int .i64 j) r2) (hj : j = i) (hi : i < n) : St1 E all ⟨some d, .indexAddr t x y, ty, pos, after, guard⟩ s (rg ++ (r1 ++ (r2 ++ [(2000 + k, .arrn sz pre mid post)]))) [(d, .optr k n (i * sz))] [] :=
  St1.val hg hd rfl (hx.looks.app (hy.looks.app ⟨hl, trivial⟩)) fun c A w hh hr => by
    subst hn
    subst hj
    obtain ⟨_, m, hv, lv, e1, e2, e3⟩ := own_of (hx.rep (c := c) (a := A) (w := w) fun p hp => hr p (by simp [hp]))
    obtain ⟨hw, _⟩ := int_of (hy.rep (c := c) (a := A) (w := w) fun p hp => hr p (by simp [hp]))
    obtain ⟨_, v, e', vs, g1, g2, g3, g4⟩ := arrn_of (hr (2000 + k, .arrn sz pre mid post) (by simp))
    rw [e1] at g1
    cases g1
    have hev := e3 rfl
    rcases g2.2 with ⟨_, h0⟩ | ⟨g, cap, cur, rfl, _⟩
    · omega
    · refine ⟨.pointer (some ⟨g, i * sz, none⟩), ?_, _, _, _, e1, Nat.le_refl _, fun _ => ⟨g, _, cap, rfl, rfl⟩⟩
      simp [execOp, hev, hw, Instr.indexAt, asIntOf, run_underlying hs.und, hs.size, add_off]
      intro h1
      omega
theorem S.nilCheckN {k n off sz : Nat} {pre post : List (List X)} {mid : List X} (hg : Gd all s guard rg) (hd : (Nat.blt d 1000 && Nat.blt d E.nt) = true) (hx : OpS s x (.optr k n off) r) (hl : look s (2000 + k) = some (.arrn sz pre mid post)) (hn : pre.length + (post.length + 1) = n) :
    St1 E all ⟨some d, .nilCheck x, ty, pos, after, guard⟩ s (rg ++ (r ++ [(2000 + k, .arrn sz pre mid post)])) [(d, .optr k n off)] [] :=
  St1.val hg hd rfl (hx.looks.app ⟨hl, trivial⟩) fun c A w hh hr => by
    subst hn
    have h0 := hx.rep (c := c) (a := A) (w := w) fun p hp => hr p (by simp [hp])
    obtain ⟨m, hv, lv, e1, e2, e3⟩ := optr_of h0
    obtain ⟨_, v, e', vs, g1, g2, g3, g4⟩ := arrn_of (hr (2000 + k, .arrn sz pre mid post) (by simp))
    rw [e1] at g1
    cases g1
    obtain ⟨b, l, cp, _, hp⟩ := e3 rfl
    refine ⟨A.eval x, ?_, h0⟩
    simp only [execOp, hp]
    rfl
theorem S.ofieldN {T f o k n off sz : Nat} {pre post : List (List X)} {mid : List X} (hf : FiI E.P T f o) (hg : Gd all s guard rg) (hd : (Nat.blt d 1000 && Nat.blt d E.nt) = true) (hx : OpS s x (.optr k n off) r) (hl : look s (2000 + k) = some (.arrn sz pre mid post)) (hn : pre.length + (post.length + 1) = n) :
    St1 E all ⟨some d, .fieldAddr T x f, ty, pos, after, guard⟩ s (rg ++ (r ++ [(2000 + k, .arrn sz pre mid post)])) [(d, .optr k n (off + o))] [] :=
  St1.val hg hd rfl (hx.looks.app ⟨hl, trivial⟩) fun c A w hh hr => by
    subst hn
    obtain ⟨m, hv, lv, e1, e2, e3⟩ := optr_of (hx.rep (c := c) (a := A) (w := w) fun p hp => hr p (by simp [hp]))
    obtain ⟨_, v, e', vs, g1, g2, g3, g4⟩ := arrn_of (hr (2000 + k, .arrn sz pre mid post) (by simp))
    rw [e1] at g1
    cases g1
    obtain ⟨b, l, cp, rfl, hp⟩ := e3 rfl
    refine ⟨.pointer (some ⟨b, off + o, none⟩), ?_, _, _, _, e1, Nat.le_refl _, fun _ => ⟨b, l, cp, rfl, rfl⟩⟩
    simp only [execOp, hp]
    rw [Sem.run_bind, run_fieldAt hf]
    rfl
theorem S.oloadN1 {T k n off i sz tsz : Nat} {u : X} {pre post : List (List X)} {mid : List X} (ht : TyI E.P T false tsz) (hg : Gd all s guard rg) (hd : (Nat.blt d 1000 && Nat.blt d E.nt) = true) (hx : OpS s x (.optr k n off) r) (hl : look s (2000 + k) = some (.arrn sz pre mid post)) (hn : pre.length + (post.length + 1) = n)
    (hoff : off = pre.length * sz + i) (hu : mid[i]? = some u) (hnt : isAT u = false) : St1 E all ⟨some d, .load T x, ty, pos, after, guard⟩ s (rg ++ (r ++ [(2000 + k, .arrn sz pre mid post)])) [(d, u)] [] :=
  St1.val hg hd rfl (hx.looks.app ⟨hl, trivial⟩) fun c A w hh hr => by
    subst hn
    subst hoff
    obtain ⟨m, hv, lv, e1, e2, e3⟩ := optr_of (hx.rep (c := c) (a := A) (w := w) fun p hp => hr p (by simp [hp]))
    obtain ⟨_, v, e', vs, g1, g2, g3, v1, v2, v3, g4, g5, g6, g7⟩ := arrn_of (hr (2000 + k, .arrn sz pre mid post) (by simp))
    rw [e1] at g1
    cases g1
    obtain ⟨b, l, cp, rfl, hp⟩ := e3 rfl
    obtain ⟨v, hvv, hvr⟩ := g6.get_right hu
    refine ⟨v, ?_, C.toT hvr hnt⟩
    have h1 : v1.length = pre.length * sz := by rw [← g5.length, flatten_length fun q hq => g3 q (by simp [hq])]
    simp only [execOp, hp]
    rw [Sem.run_bind, run_load1 ht (v := v)]
    · rfl
    · have := g2.cells (g := b) rfl (pre.length * sz + i) v (by
        rw [g4, List.getElem?_append_right (by omega), h1, Nat.add_sub_cancel_left, List.getElem?_append_left (List.getElem?_eq_some_iff.1 hvv).1]
        exact hvv)
      rwa [add_off, Nat.zero_add] at this
/-- A store of one cell through a pointer into that row. -/
theorem S.ostoreN1 {T k n off i sz tsz : Nat} {u : X} {pre post : List (List X)} {mid mid' : List X} (ht : TyI E.P T false tsz) (h1s : tsz = 1) (hg : Gd all s guard rg) (hx : OpS s x (.optr k n off) r1) (hy : OpS s y u r2) (hl : look s (2000 + k) = some (.arrn sz pre mid post)) (hn : pre.length + (post.length + 1) = n)
    (hoff : off = pre.length * sz + i) (hi : i < mid.length) (ho : okSt1 u = true) (hmid : mid.set i u = mid') (hk1 : Nat.blt k 1000 = true := by rfl) :
    St1 E all ⟨none, .store T x y, ty, pos, after, guard⟩ s (rg ++ (r1 ++ (r2 ++ [(2000 + k, .arrn sz pre mid post)]))) [(2000 + k, .arrn sz pre mid' post)] [] := by
  subst hmid
  subst hn
  subst hoff
  subst h1s
  rw [Nat.blt_eq] at hk1
  refine ⟨?_, hg.looks.app (hx.looks.app (hy.looks.app ⟨hl, trivial⟩))⟩
  intro U c a w hb hr hal next Q hnx
  have hw := hg.wanted (o := ⟨none, .store T x y, ty, pos, after, guard⟩) (fun p hp => hr p (List.mem_append_left _ hp))
  obtain ⟨m, hv, lv, e1, e2, e3⟩ := optr_of (hx.rep (c := c) (a := a) (w := w) fun p hp => hr p (by simp [hp]))
  obtain ⟨_, v, e', vs, g1, g2, g3, v1, v2, v3, g4, g5, g6, g7⟩ := arrn_of (hr (2000 + k, .arrn sz pre mid post) (by simp))
  rw [e1] at g1
  cases g1
  obtain ⟨b, l, cp, rfl, hp⟩ := e3 rfl
  have hyr := hy.rep (c := c) (a := a) (w := w) fun p hp => hr p (by simp [hp])
  have hok : okSt u = true := by cases u <;> first | exact ho | cases ho
  obtain ⟨hc, hone⟩ := cells_of hyr hok
  have hcx : cellsX u = [u] := by cases u <;> first | rfl | cases ho
  rw [hcx] at hc
  have hcl := hc.length
  have hcs : (a.eval y).cells.toList.length = 1 := by rw [← hcl]; rfl
  rcases g2.2 with ⟨h0, _⟩ | ⟨g, cap, cur, hs, hz, hgc, hnc, hcm, hcs2, htake⟩
  · cases h0
  cases hs
  have hv1 : v1.length = pre.length * sz := by rw [← g5.length, flatten_length fun q hq => g3 q (by simp [hq])]
  have hmid : mid.length = sz := g3 mid (by simp)
  have hv2 : v2.length = sz := by rw [← g6.length, hmid]
  have hvl := g2.1
  have hle : pre.length * sz + i + 1 ≤ (pre.length + (post.length + 1)) * sz := by
    have h1 : (pre.length + 1) * sz ≤ (pre.length + (post.length + 1)) * sz := Nat.mul_le_mul_right _ (by omega)
    rw [Nat.succ_mul] at h1
    omega
  have hle2 : (pre.length + (post.length + 1)) * sz ≤ cp * sz := Nat.mul_le_mul_right _ hnc
  have hst := run_storeCells_at E.P b (pre.length * sz + i) e' (a.eval y).cells.toList 0 cur w hgc (by simp only [Nat.add_zero]; omega) hone
  simp only [Nat.add_zero] at hst
  obtain ⟨w', hw'⟩ : ∃ w', w' = w.setRow b (cur.toList.take (pre.length * sz + i) ++ (a.eval y).cells.toList ++ cur.toList.drop (pre.length * sz + i + (a.eval y).cells.toList.length)).toArray := ⟨_, rfl⟩
  have hgb : w.grownBy w' (some b) := by
    subst hw'
    exact ⟨rfl, rfl, rfl, by simp, fun k _ hk => setRow_other w b k _ (fun e => hk (by rw [e]))⟩
  obtain ⟨p1, p2, p3, p4⟩ := hb.append (n' := pre.length + (post.length + 1)) (v' := .slice (some ⟨b, 0, none⟩) (pre.length + (post.length + 1)) cp) e1 hgb (Nat.le_refl _) (fun _ => rfl) (.inl rfl) (not_dfr g2)
  have hrun : (execOp a.eval ⟨none, .store T x y, ty, pos, after, guard⟩).run E.P w = .ok .skip w' := by
    subst hw'
    have hcs' : (a.eval y).cells.size = 1 := by simpa using hcs
    simp [execOp, hp, Instr.storeAt, Instr.sureAddr, storeVar, ht.size, hcs', hst]
  unfold opIn
  rw [if_pos hw]
  refine ⟨fun _ _ => trivial, ?_⟩
  rw [Oper.semAt_eq _ _ _ (fun cl he => by cases he), hrun]
  obtain ⟨nv, hnv⟩ : ∃ nv, (a.eval y).cells.toList = [nv] := by
    cases hq : (a.eval y).cells.toList with
    | nil => rw [hq] at hcs; cases hcs
    | cons q qs => rw [hq] at hcs; cases qs with
      | nil => exact ⟨q, rfl⟩
      | cons _ _ => simp at hcs
  rw [hnv] at hc hw' hcs
  refine hnx _ a w' p1 p2 ?_ ?_
  · intro p hp
    simp only [List.mem_singleton] at hp
    subst hp
    have hnew : vs.take (pre.length * sz + i) ++ ([nv] ++ vs.drop (pre.length * sz + i + 1)) = v1 ++ (v2.set i nv ++ v3) := by
      have hi2 : i < v2.length := by omega
      rw [g4, List.take_append, List.take_of_length_le (l := v1) (by omega), hv1, Nat.add_sub_cancel_left, List.drop_append, List.drop_of_length_le (l := v1) (by omega), hv1, show pre.length * sz + i + 1 - pre.length * sz = i + 1 by omega, List.nil_append,
        List.take_append_of_le_length (by omega), List.drop_append_of_le_length (by omega), List.set_eq_take_append_cons_drop, if_pos hi2]
      simp only [List.append_assoc, List.cons_append, List.nil_append]
    refine (Holds.mkArrn (e := e') (n := pre.length + (post.length + 1)) (vs := v1 ++ (v2.set i nv ++ v3)) (v1 := v1) (v2 := v2.set i nv) (v3 := v3) hk1 rfl p3 ?_ ?_ rfl (g5.mono fun _ _ => RepD.mono p2.h) (All2.set (hc.1.mono p2) i (g6.mono fun _ _ => RepC.mono p2)) (g7.mono fun _ _ => RepD.mono p2.h)).2
    · refine ⟨?_, .inr ⟨b, cp, _, rfl, Nat.zero_le _, by rw [hw']; exact setRow_heap w b cur _ e' _ hgc, hnc, hcm, ?_, ?_⟩⟩
      · rw [← hvl, g4]; simp only [List.length_append, List.length_set]
      · simp only [List.size_toArray, List.length_append, List.length_take, List.length_drop, Array.length_toList, hcs, hcs2]; omega
      · rw [← hnew, ← htake]
        simp only [List.append_assoc, hcs]
        exact take_store (n := (pre.length + (post.length + 1)) * sz) rfl hle (by simp [hcs2]; omega)
    · intro q hq
      simp only [List.mem_append, List.mem_cons] at hq
      rcases hq with hq | rfl | hq
      · exact g3 q (by simp [hq])
      · rw [List.length_set]; exact hmid
      · exact g3 q (by simp [hq])
  · intro key u' hk hu
    have hne : (2000 + k : Nat) ≠ key := hk (2000 + k, .arrn sz pre (mid.set i u) post) (by simp)
    by_cases h1 : key < 1000
    · unfold Holds at hu ⊢
      rw [if_pos h1] at hu ⊢
      exact hu.mono p2
    · exact p4 key u' h1 (fun e => hne e.symm) hu
end
section
variable {E : Env} {U : List Nat} {s : St} {a : Act} {w : World}
/-- That row holds data alone: it is one of the others. -/
theorem Good.arrClose {k sz : Nat} {pre post rows : List (List X)} {mid : List X} (hg : Good E U s a w) (hl : look s (2000 + k) = some (.arrn sz pre mid post)) (hD : mid.all okD = true) (hr : pre ++ mid :: post = rows) : Good E U ((2000 + k, .arr sz rows) :: s) a w := by
  subst hr
  obtain ⟨c, hb, hh⟩ := hg
  refine ⟨c, hb, fun key y hy => ?_⟩
  simp only [look] at hy
  split at hy
  · rename_i h
    have := Nat.eq_of_beq_eq_true h
    cases hy
    subst this
    obtain ⟨hk, hv, e, vs, h1, h2, h3, v1, v2, v3, rfl, h5, h6, h7⟩ := arrn_of (hh _ _ hl)
    refine (Holds.mkArr (e := e) (vs := v1 ++ (v2 ++ v3)) hk (by rw [List.length_append, List.length_cons]; exact h1) (by rw [List.length_append, List.length_cons]; exact h2) h3 ?_).2
    rw [List.flatten_append, List.flatten_cons]
    exact h5.append ((Ds_of h6 hD).append h7)
  · exact hh key y hy
theorem OK.arrClose {code : Code} {Q : Exit → List Nat → St → Prop} (k : Nat) {sz : Nat} {pre post rows : List (List X)} {mid : List X} (hl : look s (2000 + k) = some (.arrn sz pre mid post)) (hD : mid.all okD = true) (hr : pre ++ mid :: post = rows)
    (h : OK E code Q U ((2000 + k, .arr sz rows) :: s)) : OK E code Q U s := fun a w hg => h a w (hg.arrClose hl hD hr)
theorem Good.arrOpen {k sz : Nat} {pre post rows : List (List X)} {mid : List X} (hg : Good E U s a w) (hl : look s (2000 + k) = some (.arr sz rows)) (hr : pre ++ mid :: post = rows) : Good E U ((2000 + k, .arrn sz pre mid post) :: s) a w := by
  subst hr
  obtain ⟨c, hb, hh⟩ := hg
  refine ⟨c, hb, fun key y hy => ?_⟩
  simp only [look] at hy
  split at hy
  · rename_i h
    have := Nat.eq_of_beq_eq_true h
    cases hy
    subst this
    have hk := arr_lt (hh _ _ hl)
    obtain ⟨hv, e, vs, h1, h2, h3, h4⟩ := arr_of (hh _ _ hl)
    rw [List.length_append, List.length_cons] at h1 h2
    rw [List.flatten_append, List.flatten_cons] at h4
    have hlen := h4.length
    simp only [List.length_append] at hlen
    have e1 : vs = vs.take pre.flatten.length ++ ((vs.drop pre.flatten.length).take mid.length ++ (vs.drop pre.flatten.length).drop mid.length) := by rw [List.take_append_drop, List.take_append_drop]
    have q1 := h4.take pre.flatten.length
    have q2 := h4.drop pre.flatten.length
    rw [List.take_left] at q1
    rw [List.drop_left] at q2
    have q3 := q2.take mid.length
    have q4 := q2.drop mid.length
    rw [List.take_left] at q3
    rw [List.drop_left] at q4
    exact (Holds.mkArrn (e := e) hk rfl h1 h2 h3 e1 q1 (q3.mono fun _ _ => RepD.toC) q4).2
  · exact hh key y hy
theorem OK.arrOpen {code : Code} {Q : Exit → List Nat → St → Prop} (k : Nat) {sz : Nat} {rows : List (List X)} (pre : List (List X)) (mid : List X) (post : List (List X)) (hl : look s (2000 + k) = some (.arr sz rows)) (hr : pre ++ mid :: post = rows)
    (h : OK E code Q U ((2000 + k, .arrn sz pre mid post) :: s)) : OK E code Q U s := fun a w hg => h a w (hg.arrOpen hl hr)
/-- A slice of the activation's own to which that row points: it becomes data in place. -/
theorem Good.freezeArr {k i j n sz sz2 : Nat} {pre post rows : List (List X)} {mid mid' : List X} (hg : Good E U s a w) (hl : look s (2000 + k) = some (.arrn sz pre mid post)) (hi : mid[i]? = some (.own j n)) (hl2 : look s (2000 + j) = some (.arr sz2 rows)) (hn : rows.length = n)
    (hc : mid.set i (.sl rows) = mid') (hne : k ≠ j) (hk9 : j ∉ E.fs) : Good E U ((2000 + k, .arrn sz pre mid' post) :: (2000 + j, .any) :: s) a w := by
  subst hc
  subst hn
  obtain ⟨c, hbs, hh⟩ := hg
  obtain ⟨hv, e', vs, g1, g2, g3, g4⟩ := arr_of (hh _ _ hl2)
  obtain ⟨c', f1, f2, f3, f4⟩ := hbs.freeze g1 hk9
  refine ⟨c', f1, fun key y hy => ?_⟩
  simp only [look] at hy
  split at hy
  · rename_i h
    have := Nat.eq_of_beq_eq_true h
    cases hy
    subst this
    have h0 := f4 (2000 + k) _ (by omega) (by omega) (hh _ _ hl)
    obtain ⟨hk, hv2, e, vs2, h1, h2, h3, v1, v2, v3, h4, h5, h6, h7⟩ := arrn_of h0
    have h8 := hh _ _ hl
    obtain ⟨_, hv3, e3, vs3, k1, k2, k3, u1, u2, u3, k4, k5, k6, k7⟩ := arrn_of h8
    refine (Holds.mkArrn (e := e) hk rfl h1 h2 (fun q hq => ?_) h4 h5 ?_ h7).2
    · simp only [List.mem_append, List.mem_cons] at hq
      rcases hq with hq | rfl | hq
      · exact h3 q (by simp [hq])
      · rw [List.length_set]; exact h3 mid (by simp)
      · exact h3 q (by simp [hq])
    · refine All2.of_get (by simpa using h6.length) fun j2 u v hu hv' => ?_
      rw [List.getElem?_set] at hu
      split at hu
      · rename_i hij
        subst hij
        split at hu
        · cases hu
          obtain ⟨_, m, hv0, lv, p1, p2, p3⟩ := h6.get hi hv'
          obtain ⟨m1, hv1, lv1, r1, r2, r3⟩ := f2.arr _ _ _ _ g1
          rw [r1] at p1
          cases p1
          have hvv : v = hv := by
            have hu2 : v2 = u2 := by
              have e1 : vs2 = vs3 := by
                obtain ⟨m4, hv4, lv4, r4, r5, r6⟩ := f2.arr _ _ _ _ k1
                rw [r4] at h1
                cases h1
                have := r6 rfl
                subst this
                rcases h2.2 with ⟨z1, z2⟩ | ⟨g, cap, cur, z1, z2, z3, z4, z5, z6, z7⟩
                · omega
                · rcases k2.2 with ⟨y1, y2⟩ | ⟨g', cap', cur', y1, y2, y3, y4, y5, y6, y7⟩
                  · omega
                  · rw [y1] at z1
                    cases z1
                    rw [y3] at z3
                    cases z3
                    rw [← z7, ← y7]
              rw [h4, k4] at e1
              have l1 : v1.length = u1.length := by rw [← h5.length, k5.length]
              have e2 := List.append_inj e1 l1
              have l2 : v2.length = u2.length := by rw [← h6.length, k6.length]
              exact (List.append_inj e2.2 l2).1
            subst hu2
            obtain ⟨_, m5, hv5, lv5, p4, p5, p6⟩ := k6.get hi hv'
            rw [g1] at p4
            cases p4
            exact p6 rfl
          rw [hvv]
          exact RepD.toC (c := c') (RepD.of_owns g2 g3 g4 f2.h fun b o hbk => f3 _ hbk)
        · cases hu
      · exact h6.get hu hv'
  · split at hy
    · rename_i h
      have := Nat.eq_of_beq_eq_true h
      cases hy
      subst this
      unfold Holds
      rw [if_neg (by omega)]
      exact .inl rfl
    · rename_i hne1 hne2
      have h0 := hh key y hy
      have hne3 : key ≠ 2000 + j := fun e => hne2 (by rw [e]; exact Nat.beq_refl _)
      by_cases hlt : key < 1000
      · unfold Holds at h0 ⊢
        rw [if_pos hlt] at h0 ⊢
        exact h0.mono f2
      · exact f4 key y hlt hne3 h0
theorem OK.freezeArr {code : Code} {Q : Exit → List Nat → St → Prop} (k i : Nat) {j n sz sz2 : Nat} {pre post rows : List (List X)} {mid mid' : List X} (hl : look s (2000 + k) = some (.arrn sz pre mid post)) (hi : mid[i]? = some (.own j n)) (hl2 : look s (2000 + j) = some (.arr sz2 rows)) (hn : rows.length = n)
    (hc : mid.set i (.sl rows) = mid') (hne : Nat.beq k j = false) (h : OK E code Q U ((2000 + k, .arrn sz pre mid' post) :: (2000 + j, .any) :: s)) (hk9 : E.fs.contains j = false := by rfl) : OK E code Q U s := fun a w hg => h a w (hg.freezeArr hl hi hl2 hn hc (fun e => by rw [e, Nat.beq_refl] at hne; cases hne) (nfs hk9))
end
end Go.Ab
