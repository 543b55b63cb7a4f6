/-
  Abstract states: pieces of slices of the activation's own; a slice without room; a call that is lent memory of the caller's own.
-/
import Derived.Test.YtjamlnkjfkcdkaaGreatDoorGb
namespace Go.Ab
open Go.RowKit
theorem add_zero' (b o : Nat) : (⟨b, o, none⟩ : Addr).add 0 = ⟨b, o, none⟩ := by rw [add_off]; rfl
theorem sub_of {w : World} {e sz n : Nat} {hv : Value} {vs : List Value} (h : w.ownsRow 0 e sz hv n vs) (lo hi : Nat) (_h1 : lo ≤ hi) (_h2 : hi ≤ n) : ∃ a cap, hv = .slice a n cap ∧ n ≤ cap ∧
    SubOf hv sz lo hi (.slice (if cap = lo then a else a.map (·.add (lo * sz))) (hi - lo) (cap - lo)) := by
  rcases h.2 with ⟨rfl, rfl⟩ | ⟨g, cap, cur, rfl, p1, p2, p3, p4, p5, p6⟩
  · have h0 : lo = 0 := by omega
    subst h0
    exact ⟨none, 0, rfl, Nat.le_refl _, none, 0, 0, _, _, rfl, rfl, fun _ => ⟨rfl, rfl⟩, fun h => by omega⟩
  · refine ⟨_, cap, rfl, p3, _, n, cap, _, _, rfl, rfl, fun h0 => ?_, fun h => ⟨g, rfl, ?_⟩⟩
    · subst h0
      refine ⟨?_, Nat.sub_zero _⟩
      split
      · rfl
      · simp only [Option.map_some, Nat.zero_mul, add_zero']
    · rw [if_neg (by omega)]
      simp only [Option.map_some, add_off, Nat.zero_add]
structure ZrI (P : Program) (e sz : Nat) (zrow : List X) : Prop where
  ex : ∃ z, (∀ w, (zeroValue e).run P w = .ok z w) ∧ z.cells.size = sz ∧ (∀ q ∈ z.cells.toList, q.oneCell' = true) ∧ ∀ h, All2 (RepD h) zrow z.cells.toList
section
variable {E : Env} {all : Array Oper} {s r r1 r2 r3 rg : St} {d ty : Nat} {pos : String} {after : Array Edge} {guard : Option (Nat × Bool)} {x y z : Operand}
theorem S.sliceOwn {t e sz k n lo hi : Nat} {rows : List (List X)} {il ih : Option Operand} (hs : SlI E.P t e sz) (hg : Gd all s guard rg) (hd : (Nat.blt d 1000 && Nat.blt d E.nt) = true) (hx : OpS s x (.own k n) r1) (hl : look s (2000 + k) = some (.arr sz rows)) (hn : rows.length = n)
    (h1 : (il = none ∧ lo = 0 ∧ r2 = []) ∨ ∃ o i, il = some o ∧ OpS s o (.int .i64 i) r2 ∧ i = lo) (h2 : (ih = none ∧ hi = n ∧ r3 = []) ∨ ∃ o i, ih = some o ∧ OpS s o (.int .i64 i) r3 ∧ i = hi) (hle : lo ≤ hi) (hle2 : hi ≤ n) :
    St1 E all ⟨some d, .slice t x il ih none, ty, pos, after, guard⟩ s (rg ++ (r1 ++ (r2 ++ (r3 ++ [(2000 + k, .arr sz rows)])))) [(d, .ownp k n sz lo hi)] [] := by
  have k1 : Looks s r2 := by rcases h1 with ⟨_, _, rfl⟩ | ⟨_, _, _, h, _⟩; trivial; exact h.looks
  have k2 : Looks s r3 := by rcases h2 with ⟨_, _, rfl⟩ | ⟨_, _, _, h, _⟩; trivial; exact h.looks
  refine St1.val hg hd rfl (hx.looks.app (k1.app (k2.app ⟨hl, trivial⟩))) fun c A w hh hr => ?_
  subst hn
  obtain ⟨_, m, hv, lv, e1, e2, e3⟩ := own_of (hx.rep (c := c) (a := A) (w := w) fun p hp => hr p (by simp [hp]))
  obtain ⟨v, e', vs, g1, g2, g3, g4⟩ := arr_of (hr (2000 + k, .arr sz rows) (by simp))
  rw [e1] at g1
  cases g1
  have hev := e3 rfl
  obtain ⟨a, cap, q1, q2, q3⟩ := sub_of g2 lo hi hle hle2
  rw [q1] at hev
  refine ⟨.slice (if cap = lo then a else a.map (·.add (lo * sz))) (hi - lo) (cap - lo), ?_, ⟨_, _, _, rfl⟩, _, _, _, e1, Nat.le_refl _, fun _ => q3⟩
  have kl : ∀ o i, OpS s o (.int .i64 i) r2 → A.eval o = .int .i64 i := fun o i h => (int_of (h.rep (c := c) (a := A) (w := w) fun p hp => hr p (by simp [hp]))).1
  have kh : ∀ o i, OpS s o (.int .i64 i) r3 → A.eval o = .int .i64 i := fun o i h => (int_of (h.rep (c := c) (a := A) (w := w) fun p hp => hr p (by simp [hp]))).1
  have hcap : hi ≤ cap := by omega
  have hlo2 : lo ≤ rows.length := by omega
  rcases h1 with ⟨rfl, rfl, rfl⟩ | ⟨ol, il, rfl, f1, rfl⟩ <;> rcases h2 with ⟨rfl, rfl, rfl⟩ | ⟨oh, ih, rfl, f2, rfl⟩
  · simp [execOp, hev, Instr.sliceAt, Instr.slice, run_underlying hs.und, Instr.sliceBounds, hs.size]
  · simp [execOp, hev, kh _ _ f2, Instr.sliceAt, Instr.slice, run_underlying hs.und, Instr.sliceBounds, Instr.sliceBound, asIntOf, hs.size, hcap]
  · simp [execOp, hev, kl _ _ f1, Instr.sliceAt, Instr.slice, run_underlying hs.und, Instr.sliceBounds, Instr.sliceBound, asIntOf, hs.size, hlo2]
  · simp [execOp, hev, kl _ _ f1, kh _ _ f2, Instr.sliceAt, Instr.slice, run_underlying hs.und, Instr.sliceBounds, Instr.sliceBound, asIntOf, hs.size, hcap, hle]
/-- clear(own[lo:]). -/
theorem S.clearOwn {t e sz bytes k n lo : Nat} {rows rows' : List (List X)} {zrow : List X} (hA : ApI E.P t e sz bytes) (hZ : ZrI E.P e sz zrow) (hg : Gd all s guard rg) (hx : OpS s x (.ownp k n sz lo n) r) (hl : look s (2000 + k) = some (.arr sz rows)) (hn : rows.length = n) (hlo : lo ≤ n) (hrows : rows.take lo ++ List.replicate (n - lo) zrow = rows') (hk1 : Nat.blt k 1000 = true := by rfl) :
    St1 E all ⟨none, .call { callee := .builtin .clear, args := #[x], argTypes := #[t] }, ty, pos, after, guard⟩ s (rg ++ (r ++ [(2000 + k, .arr sz rows)])) [(2000 + k, .arr sz rows')] [] := by
  subst hrows
  subst hn
  rw [Nat.blt_eq] at hk1
  refine ⟨?_, hg.looks.app (hx.looks.app ⟨hl, trivial⟩)⟩
  intro U c a w hb hr hal next Q hnx
  have hw := hg.wanted (o := ⟨none, .call { callee := .builtin .clear, args := #[x], argTypes := #[t] }, ty, pos, after, guard⟩) (fun p hp => hr p (List.mem_append_left _ hp))
  have hxr : RepP c (.ownp k rows.length sz lo rows.length) (a.eval x) := hx.rep (c := c) (a := a) (w := w) fun p hp => hr p (by simp [hp])
  obtain ⟨_, m, hv, lv, e1, e2, e3⟩ := hxr
  obtain ⟨v, e', vs, g1, g2, g3, g4⟩ := arr_of (hr (2000 + k, .arr sz rows) (by simp))
  rw [e1] at g1
  cases g1
  obtain ⟨ad, l, cp, a', cp', q1, q2, q3, q4⟩ := e3 rfl
  obtain ⟨zv, z1, z2, z3, z4⟩ := hZ.ex
  have hzl : zrow.length = sz := by rw [(z4 c.h).length, ← z2]; simp
  unfold opIn
  rw [if_pos hw]
  refine ⟨fun _ _ => trivial, ?_⟩
  rw [Oper.semAt_eq _ _ _ (fun cl he => by cases he)]
  by_cases h0 : lo = rows.length
  · subst h0
    have hrun : (execOp a.eval ⟨none, .call { callee := .builtin .clear, args := #[x], argTypes := #[t] }, ty, pos, after, guard⟩).run E.P w = .ok (.value (.tuple #[])) w := by
      rw [Nat.sub_self] at q2
      simp [execOp, resolve, invoke, builtin, q2, Builtin.clear_, run_underlying hA.und]
      cases a' <;> simp
    rw [hrun]
    refine hnx c a w hb (Ext.refl c) (fun p hp => ?_) fun key u _ hu => hu
    simp only [List.mem_singleton] at hp
    subst hp
    rw [Nat.sub_self, List.replicate_zero, List.append_nil, List.take_length]
    exact hr (2000 + k, .arr sz rows) (by simp)
  · obtain ⟨b, p1, p2⟩ := q4 (by omega)
    subst p1
    subst p2
    rcases g2.2 with ⟨h1, _⟩ | ⟨g, cap, cur, hs, hzz, hgc, hnc, hcm, hcs2, htake⟩
    · rw [h1] at q1; cases q1
    rw [hs] at q1
    cases q1
    subst hs
    have hvl : vs.length = rows.length * sz := g2.1
    obtain ⟨zs, hzs⟩ : ∃ zs, zs = (Builtin.zeroCells zv.cells (rows.length - lo)).toList := ⟨_, rfl⟩
    have hzlen : zs.length = (rows.length - lo) * sz := by rw [hzs, Array.length_toList, size_zeroCells, z2]
    have hsum : lo * sz + (rows.length - lo) * sz = rows.length * sz := by rw [← Nat.add_mul]; congr 1; omega
    have hle2 : rows.length * sz ≤ cp * sz := Nat.mul_le_mul_right _ hnc
    have hpos := hA.pos
    have hzget : ∀ (j : Nat) (v : Value), zs[j]? = some v → zv.cells[j % sz]? = some v := by
      intro j v hj
      have hlt : j < (rows.length - lo) * sz := by rw [← hzlen]; exact (List.getElem?_eq_some_iff.1 hj).1
      have hlt2 : j % sz < zv.cells.size := by rw [z2]; exact Nat.mod_lt _ hpos
      rw [hzs, Array.getElem?_toList] at hj
      simp only [Builtin.zeroCells, Array.getElem?_map, z2] at hj
      have hr0 : (Array.range ((rows.length - lo) * sz))[j]? = some j := by simp [hlt]
      rw [hr0] at hj
      simp only [Option.map_some, Option.some.injEq] at hj
      rw [Array.getElem?_eq_getElem hlt2, ← hj]
      rw [getElem!_pos zv.cells (j % sz) hlt2]
    have hone : ∀ q ∈ zs, q.oneCell' = true := by
      intro q hq
      obtain ⟨j, hj⟩ := List.getElem?_of_mem hq
      exact z3 q (List.mem_of_getElem? (i := j % sz) (by rw [Array.getElem?_toList]; exact hzget j q hj))
    have hst := run_storeCells_at E.P b (lo * sz) e' zs 0 cur w hgc (by simp only [Nat.add_zero]; omega) hone
    simp only [Nat.add_zero] at hst
    obtain ⟨w', hw'⟩ : ∃ w', w' = w.setRow b (cur.toList.take (lo * sz) ++ zs ++ cur.toList.drop (lo * sz + zs.length)).toArray := ⟨_, rfl⟩
    have hgb : w.grownBy w' (some b) := by
      subst hw'
      exact ⟨rfl, rfl, rfl, by simp, fun k _ hk => setRow_other w b k _ (fun e => hk (by rw [e]))⟩
    obtain ⟨t1, t2, t3, t4⟩ := hb.append (n' := rows.length) (v' := .slice (some ⟨b, 0, none⟩) rows.length cp) e1 hgb (Nat.le_refl _) (fun _ => rfl) (.inl rfl) (not_dfr g2)
    have hnz : rows.length - lo ≠ 0 := by omega
    have hrun : (execOp a.eval ⟨none, .call { callee := .builtin .clear, args := #[x], argTypes := #[t] }, ty, pos, after, guard⟩).run E.P w = .ok (.value (.tuple #[])) w' := by
      subst hw'
      rw [hzs] at hst ⊢
      obtain ⟨q, hq⟩ : ∃ q, rows.length - lo = q + 1 := ⟨rows.length - lo - 1, by omega⟩
      rw [hq] at hst q2 ⊢
      simp [execOp, resolve, invoke, builtin, q2, Builtin.clear_, run_underlying hA.und, z1, hst]
    rw [hrun]
    refine hnx _ a w' t1 t2 ?_ ?_
    · intro p hp
      simp only [List.mem_singleton] at hp
      subst hp
      have hl1 : (rows.take lo ++ List.replicate (rows.length - lo) zrow).length = rows.length := by rw [List.length_append, List.length_take, List.length_replicate]; omega
      refine (Holds.mkArr (e := e') (vs := vs.take (lo * sz) ++ zs) hk1 (by rw [hl1]; exact t3) ?_ (fun q hq => ?_) ?_).2
      · rw [hl1]
        refine ⟨?_, .inr ⟨b, cp, _, rfl, Nat.zero_le _, by rw [hw']; exact setRow_heap w b cur _ e' _ hgc, hnc, hcm, ?_, ?_⟩⟩
        · rw [List.length_append, List.length_take, hzlen, hvl]; omega
        · simp only [List.size_toArray, List.length_append, List.length_take, List.length_drop, Array.length_toList, hzlen, hcs2]; omega
        · have h5 := take_store (l := cur.toList) (news := zs) (a := lo * sz) (s := (rows.length - lo) * sz) (n := rows.length * sz) hzlen (by omega) (by simp [hcs2]; omega)
          rw [hsum] at h5
          rw [hzlen, hsum, List.append_assoc, h5, ← htake, List.drop_of_length_le (by rw [List.length_take]; omega), List.append_nil]
      · rcases List.mem_append.1 hq with h | h
        · exact g3 q (List.mem_of_mem_take h)
        · rw [List.eq_of_mem_replicate h]; exact hzl
      · rw [List.flatten_append]
        have e6 : (rows.take lo).flatten = rows.flatten.take (lo * sz) := by
          have h7 : (rows.take lo).flatten.length = lo * sz := by rw [flatten_length (sz := sz) fun q hq => g3 q (List.mem_of_mem_take hq), List.length_take, Nat.min_eq_left hlo]
          conv => rhs; rw [← List.take_append_drop lo rows, List.flatten_append, ← h7]
          rw [List.take_left]
        rw [e6]
        refine ((g4.take (lo * sz)).mono fun _ _ => RepD.mono t2.h).append (All2.of_get ?_ fun j u v hu hv => ?_)
        · rw [flatten_length (sz := sz) fun q hq => by rw [List.eq_of_mem_replicate hq]; exact hzl, List.length_replicate, hzlen]
        · rw [flat_repl] at hu
          split at hu
          · have h8 := hzget j v hv
            rw [hzl] at hu
            exact (z4 _).get hu (by rw [Array.getElem?_toList]; exact h8)
          · cases hu
    · intro key u hk hu
      have hne : (2000 + k : Nat) ≠ key := hk (2000 + k, _) (List.mem_singleton.2 rfl)
      by_cases h1 : key < 1000
      · unfold Holds at hu ⊢
        rw [if_pos h1] at hu ⊢
        exact hu.mono t2
      · exact t4 key u h1 (fun e => hne e.symm) hu
/-- l[:len(l):len(l)]: a slice of data without room. -/
theorem S.sliceClip {t e sz : Nat} {rows : List (List X)} {i j : Int} (hs : SlI E.P t e sz) (hg : Gd all s guard rg) (hd : (Nat.blt d 1000 && Nat.blt d E.nt) = true) (hx : OpS s x (.sl rows) r1) (hy : OpS s y (.int .i64 i) r2) (hz : OpS s z (.int .i64 j) r3) (hi : i = rows.length) (hj : j = rows.length) :
    St1 E all ⟨some d, .slice t x none (some y) (some z), ty, pos, after, guard⟩ s (rg ++ (r1 ++ (r2 ++ r3))) [(d, .slc rows)] [] :=
  St1.val hg hd rfl (hx.looks.app (hy.looks.app hz.looks)) fun c A w hh hr => by
    have hrep : RepD c.h (.sl rows) (A.eval x) := hx.rep (c := c) (a := A) (w := w) fun p hp => hr p (by simp [hp])
    have hyv := (int_of (hy.rep (c := c) (a := A) (w := w) fun p hp => hr p (by simp [hp]))).1
    have hzv := (int_of (hz.rep (c := c) (a := A) (w := w) fun p hp => hr p (by simp [hp]))).1
    subst hi
    subst hj
    obtain ⟨v0, hv0⟩ : ∃ v0, A.eval x = v0 := ⟨_, rfl⟩
    rw [hv0] at hrep
    cases hrep with
    | sl0 a cap h =>
      refine ⟨.slice a 0 0, ?_, .sl0 a 0 (Nat.zero_le _), a, rfl⟩
      simp [execOp, hv0, hyv, hzv, Instr.sliceAt, Instr.slice, run_underlying hs.und, Instr.sliceBounds, Instr.sliceBound, asIntOf, hs.size]
    | sl _ b off cap sz' vs h1 h2 h3 h4 h5 h6 =>
      refine ⟨.slice (some ⟨b, off, none⟩) rows.length rows.length, ?_, .sl rows b off rows.length sz' vs (Nat.le_refl _) (Nat.le_trans h1 h2) h3 h4 h5 h6, _, rfl⟩
      simp [execOp, hv0, hyv, hzv, Instr.sliceAt, Instr.slice, run_underlying hs.und, Instr.sliceBounds, Instr.sliceBound, asIntOf, hs.size, h1, add_zero']
end
section
variable {P : Program} (w : World)
/-- append where there is no room: new memory. -/
theorem run_append_clip (t ty e : Nat) (i : TypeInfo) (z : Value) (size bytes : Nat) (ht : P.underlying t = some (.slice e)) (hi : P.info? e = some i) (hz : i.zero = some z) (hsize : i.size = size) (hby : i.bytes = bytes) (hzs : z.cells.size = size)
    (a : Option Addr) (n : Nat) (xs : List Value) (hxl : xs.length = n * size) (ha : (a = none ∧ n = 0) ∨ ∃ A, a = some A ∧ ∀ j u, xs[j]? = some u → w.cell? (A.add j) = some u) (x : Value) (m : Nat) (hm : 0 < m) (news : List Value) (hlen : ∀ w, (Builtin.lenOf x).run P w = .ok m w) (hl : news.length = m * size)
    (hf : ∀ w' : World, (∀ p, w'.cell? p = w.cell? p) → (Builtin.firstCells size m x).run P w' = .ok news.toArray w') (h63 : n + m ≤ maxLen) (hbytes : (n + m) * bytes ≤ 140737488355328) :
    ∃ cap cells, (Builtin.append_ #[t, t] ty #[.slice a n n, x]).run P w = .ok (.slice (some ⟨w.heap.size, 0, none⟩) (n + m) cap) (w.drew.alloc (.cells cells e)) ∧ (w.drew.alloc (.cells cells e)).ownsRow 0 e size (.slice (some ⟨w.heap.size, 0, none⟩) (n + m) cap) (n + m) (xs ++ news) := by
  subst hsize
  subst hby
  have hsmall : n + m ≤ 9223372036854775807 := by simp only [maxLen] at h63; omega
  have hlen2 : (xs ++ news).length = (n + m) * i.size := by rw [List.length_append, hxl, hl, Nat.add_mul]
  have grown : ∀ (old : Nat), (w.drew.alloc (.cells (xs.toArray ++ news.toArray ++ Builtin.zeroCells z.cells (grownCap w (n + m) old e - (n + m))) e)).ownsRow 0 e i.size
        (.slice (some ⟨w.heap.size, 0, none⟩) (n + m) (grownCap w (n + m) old e)) (n + m) (xs ++ news) := by
    intro old
    have hge := grownCap_ge w (n + m) old e
    have hcm : grownCap w (n + m) old e ≤ maxLen := grownCap_le_maxLen w (n + m) old e h63
    refine ⟨hlen2, .inr ⟨w.heap.size, _, _, rfl, Nat.zero_le _, heap_alloc_new w.drew _, hge, hcm, ?_, ?_⟩⟩
    · simp only [Array.size_append, List.size_toArray, size_zeroCells, hzs, hxl, hl, ← Nat.add_mul]
      congr 1
      omega
    · simp only [Array.toList_append, List.append_assoc]
      rw [← List.append_assoc, ← hlen2]
      exact List.take_left
  have hn : ¬ (n + m ≤ n) := by omega
  have h63' : ¬ (9223372036854775807 < ((n : Int) + (m : Int))) := by omega
  have h48 := growslice_fits (need := n + m) (old := n) (bytes := i.bytes) (by omega) hbytes
  have h48' : ¬ (281474976710656 < Builtin.nextslicecap (n + m) n * i.bytes) := by omega
  have hff := hf w.drew fun _ => rfl
  have hfo : (Builtin.firstCells i.size n (.slice a n n)).run P w.drew = .ok xs.toArray w.drew := by
    rcases ha with ⟨rfl, rfl⟩ | ⟨A, rfl, hc⟩
    · have hx0 : xs = [] := List.eq_nil_of_length_eq_zero (by simpa using hxl)
      subst hx0
      simp [Builtin.firstCells]
    · exact run_firstCells_some (P := P) w.drew i.size n A n n xs hxl (by simpa using hc)
  refine ⟨_, _, ?_, grown n⟩
  simp [Builtin.append_, run_underlying ht, sizeOf, typeInfo, zeroValue, hi, hz, hlen, hn, h63', h48', Question.forced, hff, hfo, newRow, grownCap]
  congr 2
  apply Array.ext'
  simp [List.append_assoc]
end
section
variable {E : Env} {all : Array Oper} {s r r1 r2 r3 rg : St} {d ty : Nat} {pos : String} {after : Array Edge} {guard : Option (Nat × Bool)} {x y z : Operand}
theorem S.appendClip {t e sz bytes k j m : Nat} {rows rows2 rows' : List (List X)} (hA : ApI E.P t e sz bytes) (hg : Gd all s guard rg) (hd : (Nat.blt d 1000 && Nat.blt d E.nt) = true) (hx : OpS s x (.slc rows) r1) (hw : ∀ q ∈ rows, q.length = sz)
    (hy : OpS s y (.own j m) r2) (hl2 : look s (2000 + j) = some (.arr sz rows2)) (hm : rows2.length = m) (hm0 : 0 < m) (hrows : rows ++ rows2 = rows') (hbd : (rows.length + m) * bytes ≤ 140737488355328) (hbm : rows.length + m ≤ maxLen) (hk9 : E.fs.contains k = false := by rfl) (hk1 : Nat.blt k 1000 = true := by rfl) :
    St1 E all ⟨some d, .call { callee := .builtin .append, args := #[x, y], argTypes := #[t, t] }, ty, pos, after, guard⟩ s (rg ++ (r1 ++ (r2 ++ [(2000 + j, .arr sz rows2)]))) ((d, .own k (rows.length + m)) :: [(2000 + k, .arr sz rows')]) [k] :=
  St1.mk hg hd rfl (hx.looks.app (hy.looks.app ⟨hl2, trivial⟩)) fun U c a w hb hr hal => by
    subst hrows
    subst hm
    rw [Nat.blt_eq] at hk1
    have hkU : k ∉ U := hal k (by simp)
    have hxr : RepP c (.slc rows) (a.eval x) := hx.rep (c := c) (a := a) (w := w) fun p hp => hr p (by simp [hp])
    obtain ⟨hxD, ad, hxv⟩ := hxr
    obtain ⟨_, m0, hv, lv, e1, e2, e3⟩ := own_of (hy.rep (c := c) (a := a) (w := w) fun p hp => hr p (by simp [hp]))
    obtain ⟨v, e', vs, g1, g2, g3, g4⟩ := arr_of (hr (2000 + j, .arr sz rows2) (by simp))
    rw [e1] at g1
    cases g1
    have hyv := e3 rfl
    obtain ⟨i, zv, i1, i2, i3, i4, i5⟩ := hA.ex
    obtain ⟨xs, x1, x2, x3⟩ : ∃ xs : List Value, xs.length = rows.length * sz ∧ All2 (RepD c.h) rows.flatten xs ∧ ((ad = none ∧ rows.length = 0) ∨ ∃ A, ad = some A ∧ ∀ j u, xs[j]? = some u → w.cell? (A.add j) = some u) := by
      rw [hxv] at hxD
      cases hxD with
      | sl0 _ cap h =>
        refine ⟨[], by simp, trivial, ?_⟩
        cases ad with
        | none => exact .inl ⟨rfl, rfl⟩
        | some A => exact .inr ⟨A, rfl, fun j u h => by simp at h⟩
      | sl _ b off cap sz' vs0 h1 h2 h3 h4 h5 h6 =>
        exact ⟨vs0, by rw [← h4, flatten_length hw], All2.of_get h4 fun i u v hu hv => h6 i u v hu hv, .inr ⟨_, rfl, fun j u hu => by rw [add_off]; exact hb.hw _ _ (h5 j u hu)⟩⟩
    obtain ⟨cap, cells, q1, q2⟩ := run_append_clip (P := E.P) w t ty e i zv sz bytes hA.und i1 i2 i3 i4 i5 ad rows.length xs x1 x3 (a.eval y) rows2.length hm0 vs (by
        intro w2
        rw [hyv]
        rcases g2.2 with ⟨rfl, h0⟩ | ⟨g, cap, cur, rfl, _⟩
        · omega
        · simp [Builtin.lenOf]) g2.1 (by
        intro w' hw'
        rw [hyv]
        rcases g2.2 with ⟨rfl, h0⟩ | ⟨g, cap, cur, rfl, h1, h2, h3, h4, h5, h6⟩
        · omega
        · exact run_firstCells_some w' sz rows2.length ⟨g, 0, none⟩ rows2.length cap vs g2.1 fun i u hu => by rw [hw']; exact g2.cells (g := g) rfl i u hu) hbm hbd
    have hB : Below w.heap.size w (w.drew.alloc (.cells cells e)) := ((Below.refl w.heap.size w).drew).alloc (Nat.le_refl _) (.cells cells e)
    have hsz : w.heap.size < (w.drew.alloc (.cells cells e)).heap.size := by
      show w.heap.size < (w.heap.push _).size
      rw [Array.size_push]
      omega
    obtain ⟨t1, t2, t3, t4⟩ := hb.ownNew (nfs hk9) hkU (n := rows.length + rows2.length) (v := .slice (some ⟨w.heap.size, 0, none⟩) (rows.length + rows2.length) cap) hB (.inr ⟨rfl, hsz⟩)
    refine ⟨_, _, _, ?_, t1, t2, ⟨⟨_, _, _, rfl⟩, _, _, _, t3, Nat.le_refl _, fun _ => rfl⟩, ?_, fun key u hkey _ hu => t4 key u hkey hu⟩
    · simp only [execOp, resolve, invoke, builtin, Sem.run_bind, Sem.run_pure, Result.andThen_ok, List.map_toArray, List.map_cons, List.map_nil, hxv, q1]
    · intro p hp
      simp only [List.mem_singleton] at hp
      subst hp
      refine Holds.mkArr (e := e) (vs := xs ++ vs) (by omega) (by rw [List.length_append]; exact t3) (by rw [List.length_append]; exact q2) (fun q hq => ?_) ?_
      · rcases List.mem_append.1 hq with h | h
        · exact hw q h
        · exact g3 q h
      · rw [List.flatten_append]
        exact (x2.append g4).mono fun _ _ => RepD.mono t2.h
/-- A call of a closure that reads memory of the activation's own. -/
theorem S.callvL {f : Nat} {os : List Operand} {at_ : Array TypeId} {ys caps caps' : List X} {res : X} (hf : Ct E.P f (ys ++ caps') res) (hcall : ∀ args w, (callFunc f args).run E.P w = .ok (.enter f args) w) (hg : Gd all s guard rg) (hd : (Nat.blt d 1000 && Nat.blt d E.nt) = true)
    (hx : OpS s x (.fn f caps) r1) (ha : OpsS s os ys r) (hl : LendVs s ys ys r2) (hc : LendPs s caps caps' r3) (hn : caps'.all (fun u => !notCell u) = true) (hs : scal res = true) :
    St1 E all ⟨some d, .call { callee := .value x, args := os.toArray, argTypes := at_ }, ty, pos, after, guard⟩ s (rg ++ (r1 ++ (r ++ (r2 ++ r3)))) [(d, res)] [] :=
  step_callL hg hd (hx.looks.app (ha.looks.app (hl.looks.app hc.looks))) hcall hf hs fun U c a w hb hr => by
    refine ⟨hl.rep hb (fun p hp => hr p (by simp [hp])) (ha.rep fun p hp => hr p (by simp [hp])), ?_⟩
    obtain ⟨cvs, h1, h2⟩ := hx.rep (c := c) (a := a) (w := w) fun p hp => hr p (by simp [hp])
    refine ⟨cvs, h1, ?_⟩
    have h3 := hc.rep hb (fun p hp => hr p (by simp [hp])) h2
    exact Pc.toV h3 hn
/-- A nil slice in that row, taken for one of the activation's own. -/
theorem Good.arrOwn {U : List Nat} {a : Act} {w : World} {k i j sz sz2 : Nat} {pre post : List (List X)} {mid mid' : List X} (hg : Good E U s a w) (hl : look s (2000 + k) = some (.arrn sz pre mid post)) (hi : mid[i]? = some .nils) (hc : mid.set i (.own j 0) = mid') (hj : (U.contains j) = false) (hj9 : j ∉ E.fs) (hj1 : Nat.blt j 1000 = true) :
    Good E (j :: U) ((2000 + k, .arrn sz pre mid' post) :: (2000 + j, .arr sz2 []) :: s) a w := by
  subst hc
  obtain ⟨c, hbs, hh⟩ := hg
  have hjU : j ∉ U := by simpa using hj
  rw [Nat.blt_eq] at hj1
  obtain ⟨g1, g2, g3, g4⟩ := hbs.ownNew hj9 hjU (n := 0) (v := .slice none 0 0) (Below.refl _ w) (.inl rfl)
  refine ⟨_, g1, fun key y hy => ?_⟩
  simp only [look] at hy
  split at hy
  · rename_i h
    have := Nat.eq_of_beq_eq_true h
    cases hy
    subst this
    have h0 := g4 _ _ (by omega) (hh _ _ hl)
    obtain ⟨hk, hv2, e, vs2, h1, h2, h3, v1, v2, v3, h4, h5, h6, h7⟩ := arrn_of h0
    refine (Holds.mkArrn (e := e) hk rfl h1 h2 (fun q hq => ?_) h4 h5 ?_ h7).2
    · simp only [List.mem_append, List.mem_cons] at hq
      rcases hq with hq | rfl | hq
      · exact h3 q (by simp [hq])
      · rw [List.length_set]; exact h3 mid (by simp)
      · exact h3 q (by simp [hq])
    · refine All2.of_get (by simpa using h6.length) fun j2 u v hu hv' => ?_
      rw [List.getElem?_set] at hu
      split at hu
      · rename_i hij
        subst hij
        split at hu
        · cases hu
          have hv0 : v = .slice none 0 0 := h6.get hi hv'
          subst hv0
          exact ⟨⟨none, 0, 0, rfl⟩, 0, _, _, g3, Nat.le_refl _, fun _ => rfl⟩
        · cases hu
      · exact h6.get hu hv'
  · split at hy
    · rename_i h
      have := Nat.eq_of_beq_eq_true h
      cases hy
      subst this
      exact (Holds.mkArr (e := 0) (rows := []) (vs := []) (by omega) g3 (World.ownsRow_nil w _ 0 sz2) (fun _ h => by cases h) trivial).2
    · have h0 := hh key y hy
      by_cases hlt : key < 1000
      · unfold Holds at h0 ⊢
        rw [if_pos hlt] at h0 ⊢
        exact h0.mono g2
      · exact g4 key y hlt h0
theorem OK.arrOwn {U : List Nat} {code : Code} {Q : Exit → List Nat → St → Prop} (k i j sz2 : Nat) {sz : Nat} {pre post : List (List X)} {mid mid' : List X} (hl : look s (2000 + k) = some (.arrn sz pre mid post)) (hi : mid[i]? = some .nils) (hc : mid.set i (.own j 0) = mid') (hj : (U.contains j) = false)
    (h : OK E code Q (j :: U) ((2000 + k, .arrn sz pre mid' post) :: (2000 + j, .arr sz2 []) :: s)) (hj9 : E.fs.contains j = false := by rfl) (hj1 : Nat.blt j 1000 = true := by rfl) : OK E code Q U s := fun a w hg => h a w (hg.arrOwn hl hi hc hj (nfs hj9) hj1)
/-- A beginning of a slice of the activation's own becomes data. -/
theorem Good.freezePre {U : List Nat} {a : Act} {w : World} {t k n m sz : Nat} {rows rows' : List (List X)} (hg : Good E U s a w) (ht : Nat.blt t 1000 = true) (hl : look s t = some (.ownp k n sz 0 m)) (hl2 : look s (2000 + k) = some (.arr sz rows)) (hn : rows.length = n) (hm : m ≤ n) (hr : rows.take m = rows') (hk9 : k ∉ E.fs) :
    Good E U ((t, .sl rows') :: (2000 + k, .any) :: s) a w := by
  subst hr
  subst hn
  obtain ⟨c, hbs, hh⟩ := hg
  have hx : RepP c (.ownp k rows.length sz 0 m) (a.tmps.getD t undef) := (hh _ _ hl).slot ht
  obtain ⟨_, m0, hv, lv, e1, e2, e3⟩ := hx
  obtain ⟨v, e', vs, g1, g2, g3, g4⟩ := arr_of (hh _ _ hl2)
  rw [e1] at g1
  cases g1
  obtain ⟨ad, l, cp, a', cp', q1, q2, q3, q4⟩ := e3 rfl
  obtain ⟨rfl, rfl⟩ := q3 rfl
  obtain ⟨c', f1, f2, f3, f4⟩ := hbs.freeze e1 hk9
  have hml : (rows.take m).length = m := by rw [List.length_take]; omega
  have hpre : w.ownsRow 0 e' sz (.slice a' m cp') m (vs.take (m * sz)) := by
    have hvl := g2.1
    have hle : m * sz ≤ rows.length * sz := Nat.mul_le_mul_right _ hm
    rcases g2.2 with ⟨h1, h2⟩ | ⟨g, cap, cur, h1, s1, s2, s3, s4, s5, s6⟩
    · rw [q1] at h1
      cases h1
      have : m = 0 := by omega
      subst this
      exact ⟨by simp, .inl ⟨rfl, rfl⟩⟩
    · rw [q1] at h1
      cases h1
      refine ⟨by rw [List.length_take, hvl]; omega, .inr ⟨g, cp', cur, rfl, s1, s2, by omega, s4, s5, ?_⟩⟩
      rw [← s6, List.take_take, Nat.min_eq_left hle]
  refine ⟨c', f1, fun key y hy => ?_⟩
  simp only [look] at hy
  split at hy
  · rename_i h
    have := Nat.eq_of_beq_eq_true h
    cases hy
    subst this
    rw [Nat.blt_eq] at ht
    unfold Holds
    rw [if_pos ht, q2, Nat.sub_zero]
    have e6 : (rows.take m).flatten = rows.flatten.take (m * sz) := by
      have h7 : (rows.take m).flatten.length = m * sz := by rw [flatten_length (sz := sz) fun q hq => g3 q (List.mem_of_mem_take hq), hml]
      conv => rhs; rw [← List.take_append_drop m rows, List.flatten_append, ← h7]
      rw [List.take_left]
    refine RepD.toT (c := c') (RepD.of_owns (h := c.h) (vs := vs.take (m * sz)) (by rw [hml]; exact hpre) (fun q hq => g3 q (List.mem_of_mem_take hq)) (by rw [e6]; exact g4.take _) f2.h fun b o hbk => f3 _ (by rw [q1]; cases a' <;> exact hbk))
  · split at hy
    · rename_i h
      have := Nat.eq_of_beq_eq_true h
      cases hy
      subst this
      unfold Holds
      rw [if_neg (by omega)]
      exact .inl rfl
    · rename_i hne1 hne2
      have h0 := hh key y hy
      have hne : key ≠ 2000 + k := fun e => hne2 (by rw [e]; exact Nat.beq_refl _)
      by_cases hlt : key < 1000
      · unfold Holds at h0 ⊢
        rw [if_pos hlt] at h0 ⊢
        exact h0.mono f2
      · exact f4 key y hlt hne h0
theorem OK.freezePre {U : List Nat} {code : Code} {Q : Exit → List Nat → St → Prop} (t : Nat) {k n m sz : Nat} {rows rows' : List (List X)} (ht : Nat.blt t 1000 = true) (hl : look s t = some (.ownp k n sz 0 m)) (hl2 : look s (2000 + k) = some (.arr sz rows)) (hn : rows.length = n) (hm : m ≤ n) (hr : rows.take m = rows')
    (h : OK E code Q U ((t, .sl rows') :: (2000 + k, .any) :: s)) (hk9 : E.fs.contains k = false := by rfl) : OK E code Q U s := fun a w hg => h a w (hg.freezePre ht hl hl2 hn hm hr (nfs hk9))
end
end Go.Ab
