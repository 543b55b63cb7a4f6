import Derived.Laws.IdiomStrings
import Derived.Lib.AtoiAll
import Derived.Lib.Bytealg
import Derived.Lib.Itoa
import Derived.Lib.LaidTab
import Derived.Test.YtbnimikgjjjcaaaGreatDoorGh
namespace Go.Ab
open Go.RowKit
section
variable {E : Env} {all : Array Oper} {s r r1 r2 r3 rg : St} {d ty : Nat} {pos : String} {after : Array Edge} {guard : Option (Nat × Bool)} {x y z : Operand}
def ErrV (ok : Bool) (v : Value) : Prop := (ok = true ∧ v = .nilIface) ∨ (ok = false ∧ ∃ te pe, v = .iface te pe)
end
structure ItoaI (P : Program) (f : Nat) : Prop where
  g : ∃ g, P.globalNamed "internal/strconv.uint64pow10" = some g
  i : ∀ (n : Int) (w : World), -9223372036854775808 ≤ n → n ≤ 9223372036854775807 → Lib.TabIs P w "internal/strconv.uint64pow10" .u64 Lib.pow10Tab → Calls P f #[.int .i64 n] w fun e w' => e = .returned (.string ⟨(Lib.itoa n).toArray⟩) ∧ Below w.heap.size w w'
theorem Tabs.pow10 {P : Program} {w : World} (h : Tabs P w) {g : Nat} (hg : P.globalNamed "internal/strconv.uint64pow10" = some g) : Lib.TabIs P w "internal/strconv.uint64pow10" .u64 Lib.pow10Tab := by
  obtain ⟨T, d, e⟩ := h.pow g hg
  unfold Lib.TabIs World.var?
  rw [hg]
  simp only [Option.bind_some, e]
theorem i64_rng {n : Int} (h : IntKind.i64.wrap n = n) : -9223372036854775808 ≤ n ∧ n ≤ 9223372036854775807 := by
  rw [IntKind.wrap_i64] at h
  omega
theorem ItoaI.ct {P : Program} {f : Nat} (h : ItoaI P f) {n : Int} (hlen : (Lib.itoa n).length ≤ 140737488355328) : CtT P f [.int .i64 n] (.str (Lib.itoa n)) := by
  intro m w vs ht hw ha
  obtain ⟨v1, vs', rfl, h1, h2⟩ := ha.cons_left
  have := h2.nil_left
  subst this
  have h1' : RepD m (.int .i64 n) v1 := h1
  cases h1' with
  | int hn =>
    obtain ⟨g, hg⟩ := h.g
    obtain ⟨r1, r2⟩ := i64_rng hn
    refine (h.i n w r1 r2 (ht.pow10 hg)).mono ?_
    rintro e w' ⟨rfl, hB⟩
    exact ⟨_, m, rfl, hB, Mem.le_refl m, fun _ _ h => .inl h, fun p v hp => by rw [hB.cell (block_lt_of_cell (hw p v hp))]; exact hw p v hp, .str _ (by unfold maxLen; omega)⟩
def atoiV (l : List UInt8) : Int := match Lib.atoiAll l with
  | .ok v => v
  | Lib.NumEnd.syntax => 0
  | .range => Lib.atoiSat l
def atoiOk (l : List UInt8) : Bool := match Lib.atoiAll l with
  | .ok _ => true
  | _ => false
structure AtoiI (P : Program) (f : Nat) : Prop where
  g1 : ∃ g, P.globalNamed "strconv.ErrSyntax" = some g
  g2 : ∃ g, P.globalNamed "strconv.ErrRange" = some g
  i : ∀ (l : List UInt8) (w : World) (es er : Nat), l.length ≤ 140737488355328 → P.globalNamed "strconv.ErrSyntax" = some es → P.globalNamed "strconv.ErrRange" = some er → (∃ ev, w.cell? ⟨es, 0, none⟩ = some ev ∧ (ev = .nilIface ∨ ∃ te pe, ev = .iface te pe)) → (∃ ev, w.cell? ⟨er, 0, none⟩ = some ev ∧ (ev = .nilIface ∨ ∃ te pe, ev = .iface te pe)) →
    Calls P f #[.string ⟨l.toArray⟩] w fun e w' => ∃ u, e = .returned (.tuple #[.int .i64 (atoiV l), u]) ∧ ErrV (atoiOk l) u ∧ Below w.heap.size w w'
theorem AtoiI.ct {P : Program} {f : Nat} (h : AtoiI P f) {l : List UInt8} (hlen : l.length ≤ 140737488355328) (hv : IntKind.i64.wrap (atoiV l) = atoiV l) : CtT P f [.str l] (.tup [.int .i64 (atoiV l), .cb (ErrV (atoiOk l))]) := by
  intro m w vs ht hw ha
  obtain ⟨v1, vs', rfl, h1, h2⟩ := ha.cons_left
  have := h2.nil_left
  subst this
  have h1' : RepD m (.str l) v1 := h1
  cases h1'
  obtain ⟨g1, hg1⟩ := h.g1
  obtain ⟨g2, hg2⟩ := h.g2
  refine (h.i l w g1 g2 hlen hg1 hg2 (ht.err _ (.inr rfl) _ hg1) (ht.err _ (.inl rfl) _ hg2)).mono ?_
  rintro e w' ⟨u, rfl, hu, hB⟩
  exact ⟨_, m, rfl, hB, Mem.le_refl m, fun _ _ h => .inl h, fun p v hp => by rw [hB.cell (block_lt_of_cell (hw p v hp))]; exact hw p v hp, _, rfl, RepD.int hv, hu, trivial⟩
end Go.Ab
namespace Go.Ab
open Go.RowKit
section
variable {E : Env} {U : List Nat} {s : St} {Q : Exit → List Nat → St → Prop} {k : List Kn}
theorem OK.join {G : Type} (u : List Nat) (st : G → St) (pre : G → Prop) {x y : Code} (ho : ∀ g, (st g).all (okKey u) = true) (hx : OK E x (den E Q (.lp (fun _ s' => ∃ g, pre g ∧ Le s' (st g)) :: k)) U s) (hy : ∀ g, pre g → OK E y (den E Q k) u (st g)) : OK E (.seq x y) (den E Q k) U s :=
  OK.seq (hx.mono fun e U s hd => by
    cases e with
    | normal => obtain ⟨g, hp, hl⟩ := hd; exact OK.weak (hy g hp) hl (ho g)
    | _ => exact hd)
end
def IsRep (x : X) : Prop := ∃ m v, RepD m x v
theorem IsRep.mem {rows : List (List X)} (h : IsRep (.sl rows)) {x : X} (hx : x ∈ rows.flatten) : IsRep x := by
  obtain ⟨m, v, h⟩ := h
  obtain ⟨ad, cap, hv, q1, q2, q3⟩ := sl_of (c := pureC m) (RepD.toT h)
  rcases q3 with q3 | ⟨b, off, sz', cs, _, q4, q5, q6, q7⟩
  · rw [q3] at hx
    cases hx
  · obtain ⟨i, hi, rfl⟩ := List.getElem_of_mem hx
    have hi2 : i < cs.length := by omega
    exact ⟨m, cs[i], q7 i _ _ (List.getElem?_eq_getElem hi) (List.getElem?_eq_getElem hi2)⟩
theorem IsRep.int {k : IntKind} {n : Int} (h : IsRep (.int k n)) : k.wrap n = n := by
  obtain ⟨m, v, h⟩ := h
  cases h
  assumption
end Go.Ab
namespace Go.Ab
open Go.RowKit
structure RW where
  a : Option Addr
  cap : Nat
  n : Nat
abbrev RW.v (r : RW) : Value := .slice r.a r.n r.cap
abbrev RW.b (r : RW) : Nat := (r.a.getD ⟨0, 0, none⟩).block
abbrev intVs (l : List Int) : List Value := l.map (Value.int .i64)
abbrev intRows (l : List Int) : List (List X) := l.map fun n => [X.int .i64 n]
def RWOk (h : Mem) (Y : Nat → Prop) (w : World) (r : RW) (l : List Int) : Prop :=
  l.length = r.n ∧ (∃ e, w.ownsRow 0 e 1 r.v r.n (intVs l)) ∧ (∀ n ∈ l, IntKind.i64.wrap n = n) ∧ ∀ b, r.v.ownBlock = some b → Y b ∧ ∀ o, h ⟨b, o, none⟩ = none
def JRow (q : List RW) (L : List (List Int)) (h : Mem) (Y : Nat → Prop) (w : World) : Prop :=
  q.length = L.length ∧ (∀ (i : Nat) (r : RW) (l : List Int), q[i]? = some r → L[i]? = some l → RWOk h Y w r l) ∧ q.Pairwise fun r s => ∀ b, r.v.ownBlock = some b → s.v.ownBlock ≠ some b
theorem JRow.stable (q : List RW) (L : List (List Int)) : Stable (JRow q L) := by
  intro h h' Y w w' ⟨q0, q1, q2⟩ hle hnew hw hB hY
  refine ⟨q0, fun i r l hr hl => ?_, q2⟩
  obtain ⟨p0, ⟨e, p1⟩, p2, p3⟩ := q1 i r l hr hl
  refine ⟨p0, ⟨e, p1.1, p1.2.imp id ?_⟩, p2, fun b hb => ?_⟩
  · rintro ⟨g, cap, cur, h1, h2, h3, r'⟩
    exact ⟨g, cap, cur, h1, h2, (hY g (p3 g (by rw [h1]; rfl)).1).trans h3, r'⟩
  · obtain ⟨y1, y2⟩ := p3 b hb
    refine ⟨y1, fun o => ?_⟩
    cases hh : h' ⟨b, o, none⟩ with
    | none => rfl
    | some v =>
      rcases hnew _ _ hh with h5 | h5
      · rw [y2 o] at h5; cases h5
      · exact absurd y1 h5
theorem JRow.mono {q : List RW} {L : List (List Int)} {h : Mem} {Y Y' : Nat → Prop} {w : World} (hj : JRow q L h Y w) (hY : ∀ b, Y b → Y' b) : JRow q L h Y' w :=
  ⟨hj.1, fun i r l hr hl => by
    obtain ⟨p0, p1, p2, p3⟩ := hj.2.1 i r l hr hl
    exact ⟨p0, p1, p2, fun b hb => ⟨hY b (p3 b hb).1, (p3 b hb).2⟩⟩, hj.2.2⟩
theorem ints_vs {h : Mem} : ∀ {l : List Int} {vs : List Value}, All2 (RepD h) (intRows l).flatten vs → vs = intVs l ∧ ∀ n ∈ l, IntKind.i64.wrap n = n
  | [], [], _ => ⟨rfl, fun _ h => by cases h⟩
  | [], _ :: _, h => h.elim
  | _ :: _, [], h => h.elim
  | n :: l, v :: vs, ⟨h1, h2⟩ => by
    obtain ⟨e1, e2⟩ := ints_vs h2
    cases h1 with
    | int e =>
      refine ⟨by rw [e1]; rfl, fun m hm => ?_⟩
      rcases List.mem_cons.1 hm with rfl | hm
      · exact e
      · exact e2 m hm
theorem vs_ints {h : Mem} : ∀ {l : List Int}, (∀ n ∈ l, IntKind.i64.wrap n = n) → All2 (RepD h) (intRows l).flatten (intVs l)
  | [], _ => trivial
  | n :: l, hl => ⟨.int (hl n List.mem_cons_self), vs_ints fun m hm => hl m (List.mem_cons_of_mem _ hm)⟩
theorem JRow.at {q : List RW} {L : List (List Int)} {h : Mem} {Y : Nat → Prop} {w : World} (hj : JRow q L h Y w) {i : Nat} {r : RW} {l : List Int} (hr : q[i]? = some r) (hl : L[i]? = some l) (h0 : 0 < l.length) :
    r.a = some ⟨r.b, 0, none⟩ ∧ Y r.b ∧ (∀ o, h ⟨r.b, o, none⟩ = none) ∧ ∃ e cur, w.heap[r.b]? = some (.cells cur e (0, 0)) ∧ r.n ≤ r.cap ∧ r.cap ≤ maxLen ∧ cur.size = r.cap ∧ cur.toList.take r.n = intVs l := by
  obtain ⟨p0, ⟨e, _, p1⟩, p2, p3⟩ := hj.2.1 i r l hr hl
  rcases p1 with ⟨_, e2⟩ | ⟨g, cap, cur, h1, _, h3, h4, h5, h6, h7⟩
  · omega
  · have ha : r.a = some ⟨g, 0, none⟩ := by have := h1; simp only [RW.v, Value.slice.injEq] at this; exact this.1
    have hc : r.cap = cap := by have := h1; simp only [RW.v, Value.slice.injEq] at this; exact this.2.2
    have hb : r.b = g := by unfold RW.b; rw [ha]; rfl
    obtain ⟨y1, y2⟩ := p3 g (by rw [h1]; rfl)
    subst hc
    rw [hb]
    rw [Nat.mul_one] at h6 h7
    exact ⟨ha, y1, y2, e, cur, h3, h4, h5, h6, h7⟩
theorem JRow.store {q : List RW} {L : List (List Int)} {h : Mem} {Y : Nat → Prop} {w : World} (hj : JRow q L h Y w) {i k : Nat} {r : RW} {l : List Int} {z : Int} (hr : q[i]? = some r) (hl : L[i]? = some l) (hk : k < l.length) (hz : IntKind.i64.wrap z = z) :
    Y r.b ∧ (∀ o', h ⟨r.b, o', none⟩ = none) ∧ ∃ vs T', w.heap[r.b]? = some (.cells vs T' (0, 0)) ∧ k < vs.size ∧ JRow q (L.set i (l.set k z)) h Y (w.setRow r.b (vs.toList.take k ++ [Value.int .i64 z] ++ vs.toList.drop (k + 1)).toArray) := by
  obtain ⟨ha, hY, hn, e, cur, h3, h4, h5, h6, h7⟩ := hj.at hr hl (by omega)
  have hrn : l.length = r.n := (hj.2.1 i r l hr hl).1
  refine ⟨hY, hn, cur, e, h3, by omega, by rw [List.length_set]; exact hj.1, fun j s m hs hm => ?_, hj.2.2⟩
  have hil : i < L.length := (List.getElem?_eq_some_iff.1 hl).1
  by_cases hij : j = i
  · subst hij
    rw [hr] at hs
    cases hs
    rw [List.getElem?_set_self hil] at hm
    cases hm
    obtain ⟨p0, _, p2, p3⟩ := hj.2.1 j r l hr hl
    refine ⟨by rw [List.length_set]; exact p0, ⟨e, ?_, .inr ⟨r.b, r.cap, (cur.toList.take k ++ [Value.int .i64 z] ++ cur.toList.drop (k + 1)).toArray, by unfold RW.v; rw [ha], Nat.zero_le _, setRow_heap w r.b cur _ e (0, 0) h3, h4, h5, ?_, ?_⟩⟩, fun n hn => ?_, p3⟩
    · rw [List.length_map, List.length_set]; omega
    · have : cur.toList.length = r.cap := by simpa using h6
      simp only [List.size_toArray, List.length_append, List.length_take, List.length_drop, List.length_singleton]
      omega
    · have hcl : cur.toList.length = r.cap := by simpa using h6
      have hset : cur.toList.take k ++ [Value.int .i64 z] ++ cur.toList.drop (k + 1) = cur.toList.set k (.int .i64 z) := by
        rw [List.append_assoc, List.singleton_append, List.set_eq_take_append_cons_drop, if_pos (by omega)]
      have hts : ∀ (xs : List Value) (v : Value) (m : Nat), (xs.set k v).take m = (xs.take m).set k v := fun xs v m => by
        apply List.ext_getElem?
        intro j
        simp only [List.getElem?_take, List.getElem?_set, List.length_take]
        by_cases h1 : j < m
        · by_cases h2 : k = j
          · subst h2; simp [h1, Nat.lt_min]
          · simp [h1, h2]
        · by_cases h2 : k = j
          · subst h2; simp [h1]; omega
          · simp [h1, h2]
      rw [Nat.mul_one, List.toList_toArray, hset, hts, h7]
      unfold intVs
      rw [List.map_set]
    · rcases List.mem_or_eq_of_mem_set hn with hn | rfl
      · exact p2 n hn
      · exact hz
  · rw [List.getElem?_set_ne (Ne.symm hij)] at hm
    obtain ⟨p0, ⟨e', p1, p1'⟩, p2, p3⟩ := hj.2.1 j s m hs hm
    refine ⟨p0, ⟨e', p1, p1'.imp id ?_⟩, p2, p3⟩
    rintro ⟨g, cap, cur', g1, g2, g3, g4⟩
    refine ⟨g, cap, cur', g1, g2, ?_, g4⟩
    rw [setRow_other w r.b g _ ?_]
    · exact g3
    · rintro rfl
      have hb1 : s.v.ownBlock = some r.b := by rw [g1]; rfl
      have hb2 : r.v.ownBlock = some r.b := by unfold RW.v; rw [ha]; rfl
      obtain ⟨hjl, hs2⟩ := List.getElem?_eq_some_iff.1 hs
      obtain ⟨hil2, hr2⟩ := List.getElem?_eq_some_iff.1 hr
      rcases Nat.lt_or_gt_of_ne hij with hlt | hlt
      · exact (List.pairwise_iff_getElem.1 hj.2.2) j i hjl hil2 hlt r.b (by rw [hs2]; exact hb1) (by rw [hr2]; exact hb2)
      · exact (List.pairwise_iff_getElem.1 hj.2.2) i j hil2 hjl hlt r.b (by rw [hr2]; exact hb2) (by rw [hs2]; exact hb1)
section
variable {E : Env} {U : List Nat} {s : St} {code : Code} {Q : Exit → List Nat → St → Prop}
theorem OK.resNew {J : Mem → (Nat → Prop) → World → Prop} (hS : Stable J) (hJ : ∀ h Y w, J h Y w) (h : OK E code Q U ((3000, .res J) :: s)) : OK E code Q U s := fun a w ⟨c, hb, hh⟩ => by
  refine h a w ⟨c, hb, fun key x hx => ?_⟩
  simp only [look] at hx
  split at hx
  · rename_i e
    have := Nat.eq_of_beq_eq_true e
    cases hx
    subst this
    exact Holds.mkRes hS (hJ _ _ _)
  · exact hh key x hx
theorem Base.giveA {c : Ctx} {a : Act} {w : World} {k n : Nat} {hv : Value} (hb : Base E U c a w) (e1 : c.arr k = some (n, hv, true)) (hk9 : k ∉ E.fs) :
    Base E U ⟨c.h, c.loc, fun j => if j = k then some (n, hv, false) else c.arr j, fun b => c.Y b ∨ hv.ownBlock = some b⟩ a w := by
  have hblk : ∀ b, hv.ownBlock = some b → E.ok k b ∧ b < w.heap.size ∧ (∀ o, c.h ⟨b, o, none⟩ = none) ∧ (∀ k' m' hv', c.arr k' = some (m', hv', true) → hv'.ownBlock = some b → k' = k) := fun b e => hb.arr k _ _ b e1 e
  have harr : ∀ j m u, (if j = k then some (n, hv, false) else c.arr j) = some (m, u, true) → j ≠ k ∧ c.arr j = some (m, u, true) := by
    intro j m u hj
    split at hj
    · cases hj
    · exact ⟨‹_›, hj⟩
  have hall : ∀ b, b < w.heap.size → (Ctx.mk c.h c.loc (fun j => if j = k then some (n, hv, false) else c.arr j) fun b => c.Y b ∨ hv.ownBlock = some b).all b → c.all b := by
    intro b _ ho
    rcases ho with (hy | hy) | h | ⟨j, m, u, h2, h3⟩
    · exact .inl hy
    · exact .inr (.inr ⟨k, n, hv, e1, hy⟩)
    · exact .inr (.inl h)
    · exact .inr (.inr ⟨j, m, u, (harr j m u h2).2, h3⟩)
  refine ⟨hb.below, hb.hB, hb.nt, dfr_of hb hall (fun _ _ h _ => h), pin_of hb hall (fun _ _ h _ => h), hb.hw, hb.hle, ?_, ?_, ?_, ?_, ?_, hb.loc0, ?_⟩
  · intro p u hp
    refine (hb.hnew p u hp).imp id fun ⟨q1, q2⟩ => ⟨q1, fun hy => hy.elim q2 fun e => ?_⟩
    have q3 := adr_spot (hb.hw p u hp)
    have q4 := (hblk _ e).2.2.1 p.off
    rw [← q3, hp] at q4; cases q4
  · intro j b hj
    obtain ⟨h1, h2, h3, h4, h5⟩ := hb.loc j b hj
    exact ⟨h1, h2, h3, h4, fun k' m u hk' => h5 k' m u (harr _ _ _ hk').2⟩
  · intro j m u b hj hbk
    obtain ⟨hjk, hj⟩ := harr j m u hj
    obtain ⟨h1, h2, h3, h4⟩ := hb.arr j m u b hj hbk
    exact ⟨h1, h2, h3, fun k' m' u' hk' hb' => h4 k' m' u' (harr _ _ _ hk').2 hb'⟩
  · intro j hj
    refine ⟨(hb.used j hj).1, ?_⟩
    dsimp only
    split
    · rename_i e; subst e; have := (hb.used _ hj).2; rw [e1] at this; cases this
    · exact (hb.used j hj).2
  · intro b hy
    rcases hy with hy | hy
    · obtain ⟨h1, h2, h3, h4⟩ := hb.Y b hy
      exact ⟨h1, h2, h3, fun j m u hj e => h4 j m u (harr j m u hj).2 e⟩
    · obtain ⟨h1, h2, h3, h4⟩ := hblk b hy
      refine ⟨h2, fun hlt => absurd (Env.ok_own h1 hk9) (by omega), fun j hj => (hb.loc j b hj).2.2.2.2 k n hv e1 hy, fun j m u hj e => ?_⟩
      obtain ⟨hjk, hj⟩ := harr j m u hj
      exact hjk (h4 j m u hj e)
  · intro j m u lv hj e
    exact hb.arr0 j m u lv hj ((if_neg (show ¬ j = k from fun e => hk9 (e ▸ hj))).symm.trans e)
theorem Good.giveRow {a : Act} {w : World} (t : Nat) {k n : Nat} {q : List RW} {L : List (List Int)} {l : List Int} {rows : List (List X)} (ht : Nat.blt t 1000 = true) (hl : look s t = some (.own k n)) (hl2 : look s (2000 + k) = some (.arr 1 rows)) (hr : rows = intRows l) (hn : l.length = n) (hl3 : look s 3000 = some (.res (JRow q L)))
    (hk9 : E.fs.contains k = false) (hg : Good E U s a w) : ∃ r : RW, Good E U ((t, .raw r.v) :: (2000 + k, .any) :: (3000, .res (JRow (q ++ [r]) (L ++ [l]))) :: s) a w := by
  subst hr
  obtain ⟨c, hb, hh⟩ := hg
  obtain ⟨_, m0, hv, lv, e1, e2, e3⟩ := own_of ((hh _ _ hl).slot ht)
  obtain ⟨v, e', vs, g1, g2, g3, g4⟩ := arr_of (hh _ _ hl2)
  rw [List.length_map, hn] at g1 g2
  rw [e1] at g1
  cases g1
  have hev := e3 rfl
  obtain ⟨hvs, hwr⟩ := ints_vs g4
  subst hvs
  obtain ⟨r, hrv, hrn⟩ : ∃ r : RW, hv = r.v ∧ r.n = n := by
    rcases g2.2 with ⟨rfl, h0⟩ | ⟨g, cap, cur, rfl, _⟩
    · exact ⟨⟨none, 0, 0⟩, rfl, h0.symm⟩
    · exact ⟨⟨some ⟨g, 0, none⟩, cap, n⟩, rfl, rfl⟩
  have hb2 := hb.giveA e1 (nfs hk9)
  have hext : Ext c ⟨c.h, c.loc, fun j => if j = k then some (n, hv, false) else c.arr j, fun b => c.Y b ∨ hv.ownBlock = some b⟩ := ⟨Mem.le_refl _, fun _ _ e => e, fun j m u lv e => by
    by_cases hj : j = k
    · subst hj; rw [e1] at e; cases e; exact ⟨_, _, false, if_pos rfl, Nat.le_refl _, fun _ => rfl⟩
    · exact ⟨m, u, lv, (if_neg hj).trans e, Nat.le_refl _, fun _ => rfl⟩⟩
  obtain ⟨_, hj⟩ := res_of (hh _ _ hl3)
  have hnY : ∀ b, hv.ownBlock = some b → ¬ c.Y b := fun b hbk hy => (hb.Y b hy).2.2.2 _ _ _ e1 hbk
  refine ⟨r, _, hb2, fun key x hx => ?_⟩
  simp only [look] at hx
  split at hx
  · rename_i e
    have := Nat.eq_of_beq_eq_true e
    cases hx
    subst this
    rw [Nat.blt_eq] at ht
    unfold Holds
    rw [if_pos ht, hev]
    exact hrv
  · rename_i ht2
    split at hx
    · rename_i e
      have := Nat.eq_of_beq_eq_true e
      cases hx
      subst this
      unfold Holds
      rw [if_neg (by omega)]
      exact .inl rfl
    · rename_i hk2
      split at hx
      · rename_i e
        have := Nat.eq_of_beq_eq_true e
        cases hx
        subst this
        refine Holds.mkRes (JRow.stable _ _) ⟨by rw [List.length_append, List.length_append, hj.1]; rfl, fun i r' l' hr' hl' => ?_, ?_⟩
        · by_cases hi : i < q.length
          · rw [List.getElem?_append_left hi] at hr'
            rw [List.getElem?_append_left (by have := hj.1; omega)] at hl'
            obtain ⟨p0, p1, p2, p3⟩ := hj.2.1 i r' l' hr' hl'
            exact ⟨p0, p1, p2, fun b hb => ⟨.inl (p3 b hb).1, (p3 b hb).2⟩⟩
          · have hiq : i = q.length := by
              have := (List.getElem?_eq_some_iff.1 hr').1
              rw [List.length_append, List.length_singleton] at this
              omega
            subst hiq
            rw [List.getElem?_append_right (Nat.le_refl _), Nat.sub_self] at hr'
            rw [hj.1, List.getElem?_append_right (Nat.le_refl _), Nat.sub_self] at hl'
            cases hr'
            cases hl'
            subst hrv
            refine ⟨by rw [hn, hrn], ⟨e', by rw [hrn]; exact g2⟩, hwr, fun b hb' => ⟨.inr hb', (hb.arr _ _ _ b e1 hb').2.2.1⟩⟩
        · rw [List.pairwise_append]
          refine ⟨hj.2.2, List.pairwise_singleton _ _, fun r1 h1 r2 h2 b hb1 hb2' => ?_⟩
          rw [List.mem_singleton] at h2
          subst h2
          obtain ⟨i, hi, rfl⟩ := List.getElem_of_mem h1
          have p := hj.2.1 i q[i] (L[i]'(by have := hj.1; omega)) (List.getElem?_eq_getElem hi) (List.getElem?_eq_getElem _)
          exact hnY b (by rw [hrv]; exact hb2') (p.2.2.2 b hb1).1
      · rename_i hk3
        have h0 := hh key x hx
        have hkk : 2000 + k ≠ key := fun e => hk2 (by rw [e]; exact Nat.beq_refl _)
        have hk3' : key ≠ 3000 := fun e => hk3 (by rw [e]; exact Nat.beq_refl _)
        unfold Holds at h0 ⊢
        split at h0
        · rename_i hlt; rw [if_pos hlt]; exact h0.mono hext
        · rename_i hlt
          rw [if_neg hlt]
          refine or_snd h0 fun h0 => ?_
          split at h0
          · rename_i h2
            rw [if_pos h2]
            obtain ⟨b, o, f1, f2, f3⟩ := h0
            exact ⟨b, o, f1, f2, f3.mono hext⟩
          · rename_i h2
            rw [if_neg h2]
            split at h0
            · rename_i h6
              rw [if_pos h6]
              obtain ⟨sz2, rows2, hv2, e2', vs2, f4, f1, f2, f3⟩ := h0
              have hj : key - 2000 ≠ k := by omega
              generalize key - 2000 = j at f1 hj
              exact ⟨sz2, rows2, hv2, e2', vs2, f4.mono hext, (if_neg hj).trans f1, f2, f3⟩
            · exact absurd h0.1 hk3'
theorem OK.giveRow (t : Nat) {k n : Nat} {q : List RW} {L : List (List Int)} {l : List Int} {rows : List (List X)} (ht : Nat.blt t 1000 = true) (hl : look s t = some (.own k n)) (hl2 : look s (2000 + k) = some (.arr 1 rows)) (hr : rows = intRows l) (hn : l.length = n) (hl3 : look s 3000 = some (.res (JRow q L)))
    (h : ∀ r : RW, OK E code Q U ((t, .raw r.v) :: (2000 + k, .any) :: (3000, .res (JRow (q ++ [r]) (L ++ [l]))) :: s)) (hk9 : E.fs.contains k = false := by rfl) : OK E code Q U s := fun a w hg => by
  obtain ⟨r, h1⟩ := hg.giveRow t ht hl hl2 hr hn hl3 hk9
  exact h r a w h1
theorem RK.giveRow {all : Array Oper} {ops : List Oper} (t : Nat) {k n : Nat} {q : List RW} {L : List (List Int)} {l : List Int} {rows : List (List X)} (ht : Nat.blt t 1000 = true) (hl : look s t = some (.own k n)) (hl2 : look s (2000 + k) = some (.arr 1 rows)) (hr : rows = intRows l) (hn : l.length = n) (hl3 : look s 3000 = some (.res (JRow q L)))
    (h : ∀ r : RW, RK E all ops U ((t, .raw r.v) :: (2000 + k, .any) :: (3000, .res (JRow (q ++ [r]) (L ++ [l]))) :: s) Q) (hk9 : E.fs.contains k = false := by rfl) : RK E all ops U s Q := fun j hj a w hg => by
  obtain ⟨r, h1⟩ := hg.giveRow t ht hl hl2 hr hn hl3 hk9
  exact h r j hj a w h1
theorem raws_data {h h' : Mem} {Y : Nat → Prop} {w : World} {q : List RW} {L : List (List Int)} {v : Value} (hle : Mem.le h h') (hj : JRow q L h Y w) (hin : ∀ r ∈ q, ∀ b o, r.v.ownBlock = some b → h' ⟨b, o, none⟩ = w.cell? ⟨b, o, none⟩) (hr : RepD h (.sl (q.map fun r => [X.raw r.v])) v) :
    RepD h' (.sl (L.map fun l => [X.sl (intRows l)])) v := by
  have hlen : (q.map fun r => [X.raw r.v]).length = (L.map fun l => [X.sl (intRows l)]).length := by rw [List.length_map, List.length_map, hj.1]
  have hone : ∀ {α : Type} (f : α → X) (l : List α), (l.map fun x => [f x]).flatten = l.map f := fun f l => by
    induction l with
    | nil => rfl
    | cons x l ih => rw [List.map_cons, List.flatten_cons, ih]; rfl
  obtain ⟨a, cap, rfl, h1, h2, h3⟩ := sl_of (c := pureC h) hr
  rw [hlen] at h1 ⊢
  rcases h3 with h3 | ⟨b, off, sz, vs, rfl, h3, h4, h5, h6⟩
  · have hq : (L.map fun l => [X.sl (intRows l)]) = [] := List.eq_nil_of_length_eq_zero (by rw [← hlen, h3]; rfl)
    rw [hq]
    exact .sl0 a cap h2
  · refine .sl _ b off cap 1 vs h1 h2 (fun r hr => by obtain ⟨l, _, rfl⟩ := List.mem_map.1 hr; rfl) ?_ (fun i v hv => hle _ _ (h5 i v hv)) fun i x v hx hv => ?_
    · rw [← h4, hone (fun l => X.sl (intRows l)) L, hone (fun r : RW => X.raw r.v) q, List.length_map, List.length_map, hj.1]
    · rw [hone (fun l => X.sl (intRows l)) L, List.getElem?_map] at hx
      cases hL : L[i]? with
      | none => rw [hL] at hx; cases hx
      | some l =>
        rw [hL] at hx
        cases hx
        have hi : i < q.length := by have := (List.getElem?_eq_some_iff.1 hL).1; have := hj.1; omega
        have hq : q[i]? = some q[i] := List.getElem?_eq_getElem hi
        have hrv := h6 i (.raw q[i].v) v (by rw [hone (fun r : RW => X.raw r.v) q, List.getElem?_map, hq]; rfl) hv
        cases hrv with
        | raw u hu =>
          obtain ⟨p0, ⟨e, p1⟩, p2, p3⟩ := hj.2.1 i _ l hq hL
          exact RepD.of_owns (rows := intRows l) (h := h) (by rw [List.length_map, p0]; exact p1) (fun r hr => by obtain ⟨n, _, rfl⟩ := List.mem_map.1 hr; rfl) (vs_ints p2) hle fun b o hb => hin _ (List.getElem_mem hi) b o hb
open Classical in

theorem OK.resFrz (k i : Nat) {q : List RW} {L : List (List Int)} {cells cells' : List X} (hX : ∀ b, ¬ E.X b) (hk : Nat.blt k 1000 = true) (hl : look s (1000 + k) = some (.box cells)) (hl3 : look s 3000 = some (.res (JRow q L))) (hc : cells[i]? = some (.sl (q.map fun r => [X.raw r.v]))) (hc2 : cells.set i (.sl (L.map fun l => [X.sl (intRows l)])) = cells')
    (h : OK E code Q U ((1000 + k, .box cells') :: (3000, .any) :: s)) : OK E code Q U s := fun a w ⟨c, hb, hh⟩ => by
  rw [Nat.blt_eq] at hk
  obtain ⟨_, hj⟩ := res_of (hh _ _ hl3)
  obtain ⟨P, hP⟩ : ∃ P : Nat → Prop, P = fun b => ∃ r ∈ q, r.v.ownBlock = some b := ⟨_, rfl⟩
  have hPY : ∀ b, P b → c.Y b ∧ ∀ o, c.h ⟨b, o, none⟩ = none := fun b hp => by
    rw [hP] at hp
    obtain ⟨r, hr, e⟩ := hp
    obtain ⟨i, hi, rfl⟩ := List.getElem_of_mem hr
    exact (hj.2.1 i q[i] (L[i]'(by have := hj.1; omega)) (List.getElem?_eq_getElem hi) (List.getElem?_eq_getElem _)).2.2.2 b e
  obtain ⟨h', hh'⟩ : ∃ h' : Mem, h' = fun p => if P p.block then w.cell? p else c.h p := ⟨_, rfl⟩
  have hle : Mem.le c.h h' := by
    intro p u hp
    rw [hh']
    dsimp only
    split
    · exact hb.hw p u hp
    · exact hp
  have hin : ∀ p u, h' p = some u → c.h p = some u ∨ (P p.block ∧ w.cell? p = some u) := by
    intro p u hp
    rw [hh'] at hp
    dsimp only at hp
    split at hp
    · exact .inr ⟨‹_›, hp⟩
    · exact .inl hp
  have hwn : ∀ p u, h' p = some u → w.cell? p = some u := fun p u hp => (hin p u hp).elim (hb.hw p u) fun e => e.2
  have hext : Ext c ⟨h', c.loc, c.arr, fun b => c.Y b ∧ ¬ P b⟩ := ⟨hle, fun _ _ e => e, fun j m u lv e => ⟨m, u, lv, e, Nat.le_refl _, fun _ => rfl⟩⟩
  have hall : ∀ b, b < w.heap.size → (Ctx.mk h' c.loc c.arr fun b => c.Y b ∧ ¬ P b).all b → c.all b := by
    intro b _ ho
    rcases ho with hy | h | h
    · exact .inl hy.1
    · exact .inr (.inl h)
    · exact .inr (.inr h)
  have hnone : ∀ b o, ¬ c.Y b → c.h ⟨b, o, none⟩ = none → h' ⟨b, o, none⟩ = none := by
    intro b o hy hn
    cases hq : h' ⟨b, o, none⟩ with
    | none => rfl
    | some u =>
      rcases hin _ _ hq with h | h
      · rw [hn] at h; cases h
      · exact absurd (hPY b h.1).1 hy
  have hb2 : Base E U ⟨h', c.loc, c.arr, fun b => c.Y b ∧ ¬ P b⟩ a w := by
    refine ⟨hb.below, hb.hB, hb.nt, dfr_of hb hall (fun _ _ h _ => h), pin_of hb hall (fun _ _ h _ => h), hwn, Mem.le_trans hb.hle hle, ?_, ?_, ?_, hb.used, ?_, hb.loc0, hb.arr0⟩
    · intro p u hp
      rcases hin p u hp with h | h
      · exact (hb.hnew p u h).imp id fun e => ⟨e.1, fun hy => e.2 hy.1⟩
      · refine .inr ⟨?_, fun hy => hy.2 h.1⟩
        obtain ⟨_, h2, _⟩ := hb.Y _ (hPY _ h.1).1
        by_cases hlt : p.block < E.B
        · exact absurd (h2 hlt) (hX _)
        · omega
    · intro j b hj
      obtain ⟨h1, h2, h3, h4, h5⟩ := hb.loc j b hj
      exact ⟨h1, h2, fun o => hnone b o (fun hy => (hb.Y b hy).2.2.1 j hj) (h3 o), h4, h5⟩
    · intro j m u b hj hbk
      obtain ⟨h1, h2, h3, h4⟩ := hb.arr j m u b hj hbk
      exact ⟨h1, h2, fun o => hnone b o (fun hy => (hb.Y b hy).2.2.2 j m u hj hbk) (h3 o), h4⟩
    · intro b hy
      exact hb.Y b hy.1
  refine h a w ⟨_, hb2, fun key x hx => ?_⟩
  simp only [look] at hx
  split at hx
  · rename_i e
    have := Nat.eq_of_beq_eq_true e
    cases hx
    subst this
    obtain ⟨b, T, vs, f1, f2, f3⟩ := box_of (hh _ _ hl) hk
    unfold Holds
    rw [if_neg (by omega), if_pos (by omega), Nat.add_sub_cancel_left]
    refine .inr ⟨b, _, f1, f2, T, vs, rfl, ?_⟩
    obtain ⟨v, hv, hrv⟩ := f3.get_right hc
    have hlt : i < vs.toList.length := (List.getElem?_eq_some_iff.1 hv).1
    have h7 : RepC ⟨h', c.loc, c.arr, fun b => c.Y b ∧ ¬ P b⟩ (.sl (L.map fun l => [X.sl (intRows l)])) v := RepD.toC (c := ⟨h', c.loc, c.arr, fun b => c.Y b ∧ ¬ P b⟩) (raws_data (h := c.h) hle hj (fun r hr b o e => by
      rw [hh']
      dsimp only
      rw [if_pos (by rw [hP]; exact ⟨r, hr, e⟩)]) hrv)
    have h8 := (f3.mono fun _ _ => RepC.mono hext).set h7 i
    rw [hc2] at h8
    have h9 : vs.toList.set i v = vs.toList := by
      obtain ⟨h10, rfl⟩ := List.getElem?_eq_some_iff.1 hv
      exact List.set_getElem_self h10
    rwa [h9] at h8
  · split at hx
    · rename_i e
      have := Nat.eq_of_beq_eq_true e
      cases hx
      subst this
      unfold Holds
      rw [if_neg (by omega)]
      exact .inl rfl
    · rename_i hk3
      have hk3' : key ≠ 3000 := fun e => hk3 (by rw [e]; exact Nat.beq_refl _)
      have h0 := hh key x hx
      unfold Holds at h0 ⊢
      split at h0
      · rename_i hlt; rw [if_pos hlt]; exact h0.mono hext
      · rename_i hlt
        rw [if_neg hlt]
        refine or_snd h0 fun h0 => ?_
        split at h0
        · rename_i h2
          rw [if_pos h2]
          obtain ⟨b, o, f1, f2, f3⟩ := h0
          exact ⟨b, o, f1, f2, f3.mono hext⟩
        · rename_i h2
          rw [if_neg h2]
          split at h0
          · rename_i h6
            rw [if_pos h6]
            obtain ⟨sz2, rows2, hv2, e2', vs2, f4, f1, f2, f3⟩ := h0
            exact ⟨sz2, rows2, hv2, e2', vs2, f4.mono hext, f1, f2, f3⟩
          · exact absurd h0.1 hk3'
end
section
variable {E : Env} {all : Array Oper} {s r1 r2 rg : St} {d ty : Nat} {pos : String} {after : Array Edge} {guard : Option (Nat × Bool)} {x y : Operand}
theorem S.rslen {t e sz : Nat} {r : RW} (hs : SlI E.P t e sz) (hm : r.n ≤ maxLen) (hg : Gd all s guard rg) (hd : (Nat.blt d 1000 && Nat.blt d E.nt) = true) (hx : OpS s x (.raw r.v) r1) :
    St1 E all ⟨some d, .call { callee := .builtin .len, args := #[x], argTypes := #[t] }, ty, pos, after, guard⟩ s (rg ++ r1) [(d, .int .i64 r.n)] [] :=
  St1.val hg hd rfl hx.looks fun c A w hh hr => by
    have hv : A.eval x = .slice r.a r.n r.cap := hx.rep (c := c) (a := A) (w := w) hr
    refine ⟨.int .i64 r.n, ?_, RepD.toT (.int (wrap_len hm))⟩
    simp [execOp, resolve, invoke, builtin, hv, Builtin.len_, run_underlying hs.und, goInt]
theorem S.ridx {t e i n : Nat} {z : Int} {q : List RW} {L : List (List Int)} {r : RW} {l : List Int} (hs : SlI E.P t e 1) (hg : Gd all s guard rg) (hd : (Nat.blt d 1000 && Nat.blt d E.nt) = true) (hx : OpS s x (.raw r.v) r1) (hy : OpS s y (.int .i64 z) r2) (hl : look s 3000 = some (.res (JRow q L)))
    (hq : q[i]? = some r) (hL : L[i]? = some l) (hz : z = n) (hn : n < l.length) : St1 E all ⟨some d, .indexAddr t x y, ty, pos, after, guard⟩ s (rg ++ ((r1 ++ r2) ++ [(3000, .res (JRow q L))])) [(d, .raw (.pointer (some ⟨r.b, n, none⟩)))] [] :=
  St1.val hg hd rfl ((hx.looks.app hy.looks).app ⟨hl, trivial⟩) fun c A w hh hr => by
    have hv : A.eval x = .slice r.a r.n r.cap := hx.rep (c := c) (a := A) (w := w) fun p hp => hr p (by simp [hp])
    obtain ⟨hw, _⟩ := int_of (hy.rep (c := c) (a := A) (w := w) fun p hp => hr p (by simp [hp]))
    have hj := (res_of (hr (3000, .res (JRow q L)) (by simp))).2
    obtain ⟨ha, _, _, e', cur, h3, h4, h5, h6, h7⟩ := hj.at hq hL (by omega)
    have hrn : l.length = r.n := (hj.2.1 i r l hq hL).1
    subst hz
    have hpos : (0 : Int) ≤ (n : Int) := by omega
    have hlt : (n : Int) < (r.n : Int) := by omega
    rw [ha] at hv
    refine ⟨.pointer (some ⟨r.b, n, none⟩), ?_, rfl⟩
    have hlt2 : ¬ r.n ≤ n := by omega
    simp [execOp, hv, hw, Instr.indexAt, asIntOf, run_underlying hs.und, hs.size, add_off, hlt2]
end
end Go.Ab
namespace Go.Ab
open Go.RowKit
inductive LxX (E : Env) (all : Array Oper) : Option Nat → List Oper → List Nat → St → List Lab → List Nat → St → Prop
  | nil {U : List Nat} {s : St} : LxX E all none [] U s [] U s
  | cons {o : Oper} {k : Option Nat} {l : List Oper} {U U' : List Nat} {s s' : St} {L : List Lab} {rd wr : St} {al : List Nat} : Step E all o rd wr al → Looks s rd → (al.all fun k => !U.contains k) = true →
      LxX E all k l (al ++ U) (wr ++ s) L U' s' → LxX E all (k.map (· + 1)) (o :: l) U s (⟨rd, wr, al⟩ :: L) U' s'
  | xop {o : Oper} {l : List Oper} {U U' : List Nat} {s s' : St} {L : List Lab} {rd wr : St} {al : List Nat} : Looks s rd → (al.all fun k => !U.contains k) = true →
      LxX E all none l (al ++ U) (wr ++ s) L U' s' → LxX E all (some 0) (o :: l) U s (⟨rd, wr, al⟩ :: L) U' s'
structure LxS (E : Env) (all : Array Oper) (k : Option Nat) (l : List Oper) (U : List Nat) (s : St) (L : List Lab) (U' : List Nat) (s' : St) : Prop where
  length : L.length = l.length
  stAll : ∀ D : Nat → Bool, (∀ j, j < l.length → D j = true) → stD L D s = s' ∧ uD L D U = U'
  at' : ∀ (i : Nat) (b : Lab), L[i]? = some b → ∃ o, l[i]? = some o ∧ (k ≠ some i → Step E all o b.rd b.wr b.al) ∧ Looks (stD L (fun j => decide (j < i)) s) b.rd ∧ ∀ k ∈ b.al, k ∉ uD L (fun j => decide (j < i)) U
section
variable {E : Env} {all : Array Oper} {o : Oper} {l : List Oper} {U U' : List Nat} {s s' : St} {L : List Lab} {rd wr : St} {al : List Nat}
theorem LxS.cons {k k2 : Option Nat} (hs : k2 ≠ some 0 → Step E all o rd wr al) (hk : ∀ i, k2 ≠ some (i + 1) → k ≠ some i) (hl : Looks s rd) (hal : (al.all fun k => !U.contains k) = true) (h : LxS E all k l (al ++ U) (wr ++ s) L U' s') : LxS E all k2 (o :: l) U s (⟨rd, wr, al⟩ :: L) U' s' := by
  refine ⟨by simp [h.length], fun D hD => ?_, fun i b hb => ?_⟩
  · have h0 : D 0 = true := hD 0 (by simp)
    have := h.stAll (fun j => D (j + 1)) (fun j hj => hD (j + 1) (by simp; omega))
    simpa [stD, uD, h0] using this
  · cases i with
    | zero =>
      simp at hb
      subst hb
      refine ⟨o, rfl, hs, ?_, ?_⟩
      · have : (fun j => decide (j < 0)) = (fun _ : Nat => false) := by funext j; simp
        rw [this, stD_false]; exact hl
      · have : (fun j => decide (j < 0)) = (fun _ : Nat => false) := by funext j; simp
        rw [this, uD_false]
        intro k hk
        simpa using (List.all_eq_true.1 hal) k hk
    | succ i =>
      obtain ⟨o', ho, h1, h2, h3⟩ := h.at' i b (by simpa using hb)
      refine ⟨o', by simpa using ho, fun e => h1 (hk i e), ?_, ?_⟩
      · have : (fun j => decide (j + 1 < i + 1)) = (fun j => decide (j < i)) := by funext j; simp
        simpa [stD, this] using h2
      · have : (fun j => decide (j + 1 < i + 1)) = (fun j => decide (j < i)) := by funext j; simp
        simpa [uD, this] using h3
end
theorem LxX.s {E : Env} {all : Array Oper} {k : Option Nat} {l : List Oper} {U U' : List Nat} {s s' : St} {L : List Lab} (h : LxX E all k l U s L U' s') : LxS E all k l U s L U' s' := by
  induction h with
  | nil => exact ⟨rfl, fun D _ => ⟨rfl, rfl⟩, fun i b hb => by simp at hb⟩
  | cons hs hl hal _ ih =>
    refine ih.cons (fun _ => hs) (fun i e he => e ?_) hl hal
    rw [he]; rfl
  | xop hl hal _ ih => exact ih.cons (fun e => absurd rfl e) (fun i _ e => by cases e) hl hal
section
variable {E : Env} {k : Option Nat} {l : List Oper} {U U' : List Nat} {s s' : St} {L : List Lab}
theorem ready_nil (hdown : downOk 0 l = true) {listed : Array Bool} (hsz : listed.size = l.length) (hr : Region.ready .any l.toArray listed = []) : ∀ j, j < l.length → listed.getD j false = true := by
  intro j
  induction j using Nat.strongRecOn with
  | _ j ih =>
    intro hj
    by_cases hd : listed.getD j false = true
    · exact hd
    · exfalso
      have hmem : j ∈ Region.ready .any l.toArray listed := by
        rw [mem_ready]
        refine ⟨?_, l[j], by simp [hj], fun e he hb => ?_⟩
        · have hj' : j < listed.size := by omega
          simp [Array.getElem?_eq_getElem hj'] at hd ⊢
          exact hd
        · have := downOk_spec hdown j l[j] (by simp [hj]) e he hb
          exact ih e.on (by omega) (by omega)
      rw [hr] at hmem
      cases hmem
theorem fuel_out {listed : Array Bool} (hsz : listed.size = l.length) (hun : unl listed.toList ≤ 0) : Region.ready .any l.toArray listed = [] := by
  have hall : ∀ j, j < l.length → listed.getD j false = true := fun j hj => by
    have := unl_zero listed.toList (by omega) j (by simpa [hsz] using hj)
    simpa using this
  rw [List.eq_nil_iff_forall_not_mem]
  intro j hj
  obtain ⟨h0, o, ho, _⟩ := mem_ready.1 hj
  have hj' : j < l.length := by simpa using (Array.getElem?_eq_some_iff.1 ho).1
  have := hall j hj'
  have hj2 : j < listed.size := by omega
  simp [Array.getElem?_eq_getElem hj2] at h0 this
  rw [h0] at this; cases this
theorem draw_step (h : LxS E l.toArray k l U s L U' s') (hc : drawOk l L = true) {listed : Array Bool} {a : Act} {w : World} (hsz : listed.size = l.length) (hcl : Closed l (fun j => listed.getD j false)) {c : Ctx}
    (hbase : Base E (uD L (fun j => listed.getD j false) U) c a w) (hholds : ∀ key x, look (stD L (fun j => listed.getD j false) s) key = some x → Holds c a w key x) {i : Nat} (hi : i ∈ Region.ready .any l.toArray listed) {o : Oper} (ho0 : l[i]? = some o) {B : Lab} (hB : L[i]? = some B) :
    (∀ p ∈ B.rd, Holds c a w p.1 p.2) ∧ (∀ k ∈ B.al, k ∉ uD L (fun j => listed.getD j false) U) ∧
      ∀ c' a' w', Base E (B.al ++ uD L (fun j => listed.getD j false) U) c' a' w' → (∀ p ∈ B.wr, Holds c' a' w' p.1 p.2) → (∀ key x, (∀ p ∈ B.wr, p.1 ≠ key) → Holds c a w key x → Holds c' a' w' key x) →
        Closed l (fun j => (listed.setIfInBounds i true).getD j false) ∧ unl (listed.setIfInBounds i true).toList + 1 = unl listed.toList ∧ Good E (uD L (fun j => (listed.setIfInBounds i true).getD j false) U) (stD L (fun j => (listed.setIfInBounds i true).getD j false) s) a' w' := by
  simp only [drawOk, Bool.and_eq_true] at hc
  obtain ⟨hdown, hclash⟩ := hc
  have hlen := h.length
  obtain ⟨h0, o, ho, hedges⟩ := mem_ready.1 hi
  have hil : i < l.length := by simpa using (Array.getElem?_eq_some_iff.1 ho).1
  have hio : l[i]? = some o := by simpa using ho
  have hiL : i < L.length := by omega
  have hisz : i < listed.size := by omega
  have hbi : L[i]? = some L[i] := List.getElem?_eq_getElem hiL
  have hDi : listed.getD i false = false := by
    simp [Array.getElem?_eq_getElem hisz] at h0 ⊢; exact h0
  have hBL : B = L[i] := by rw [hbi] at hB; cases hB; rfl
  subst hBL
  obtain ⟨o', ho', _, hlook, hfresh⟩ := h.at' i L[i] hbi
  rw [hio] at ho'; cases ho'
  have hready : ReadyAt l (fun j => listed.getD j false) i := fun o' ho' e he hb => by
    rw [hio] at ho'; cases ho'; exact hedges e he hb
  -- of two operations that clash, who comes first has been done, or will not be done before
  have ord : ∀ (j : Nat) (b : Lab), L[j]? = some b → (clash b L[i] = true ∨ clash L[i] b = true) → j ≠ i → listed.getD j false = decide (j < i) := by
    intro j b hb hcla hne
    have hjl : j < l.length := by rw [← hlen]; exact (List.getElem?_eq_some_iff.1 hb).1
    have sym : ∀ x y : Lab, clash x y = true → clash y x = true := by
      intro x y hxy
      have comm : ∀ s t : St, meets s t = true → meets t s = true := by
        intro s t hst
        cases hts : meets t s with
        | true => rfl
        | false =>
          exfalso
          have : ∀ s t : St, meets s t = true → ∃ p ∈ s, keyIn p.1 t = true := by
            intro s
            induction s with
            | nil => intro t h; simp [meets] at h
            | cons p s ih => intro t h; simp only [meets, Bool.or_eq_true] at h; rcases h with h | h
                             · exact ⟨p, List.mem_cons_self, h⟩
                             · obtain ⟨q, hq, hk⟩ := ih t h; exact ⟨q, List.mem_cons_of_mem _ hq, hk⟩
          obtain ⟨p, hp, hk⟩ := this s t hst
          have : ∃ q ∈ t, q.1 = p.1 := by
            have kk : ∀ (t : St), keyIn p.1 t = true → ∃ q ∈ t, q.1 = p.1 := by
              intro t
              induction t with
              | nil => intro h; simp [keyIn] at h
              | cons q t ih => intro h; simp only [keyIn, Bool.or_eq_true] at h; rcases h with h | h
                               · exact ⟨q, List.mem_cons_self, Nat.eq_of_beq_eq_true h⟩
                               · obtain ⟨q', hq, he⟩ := ih h; exact ⟨q', List.mem_cons_of_mem _ hq, he⟩
            exact kk t hk
          exact meets_false hts this p hp rfl
      simp only [clash, Bool.or_eq_true] at hxy ⊢
      rcases hxy with (h1 | h1) | h1
      · exact .inr (comm _ _ h1)
      · exact .inl (.inr (comm _ _ h1))
      · exact .inl (.inl (comm _ _ h1))
    rcases Nat.lt_or_ge j i with hlt | hge
    · have hk : clash b L[i] = true := hcla.elim id (sym _ _)
      have hsp := clashOk_spec (clashAll_spec hclash i L[i] hbi) j b hb (by omega) hk
      simp only [Nat.zero_add] at hsp
      have := clos_sound hcl l [] [] rfl rfl (by simp) i j hsp hil hready
      simpa [hlt] using this
    · have hgt : i < j := by omega
      have hk : clash L[i] b = true := hcla.elim (sym _ _) id
      have hsp := clashOk_spec (clashAll_spec hclash j b hb) i L[i] hbi (by omega) hk
      simp only [Nat.zero_add] at hsp
      cases hdj : listed.getD j false with
      | false => simp; omega
      | true =>
        exfalso
        have := clos_sound hcl l [] [] rfl rfl (by simp) j i hsp hjl (fun o' ho' e he hb' => hcl j o' ho' hdj e he hb')
        simp only [hDi] at this
        cases this
  refine ⟨?_, ?_, fun c' a' w' hbase' hwr hfr => ?_⟩
  · intro p hp
    refine hholds _ _ ?_
    have hx := hlook.all p hp
    rw [look_stD] at hx ⊢
    rw [lastw_congr L (fun j => listed.getD j false) (fun j => decide (j < i)) fun j b hb hn => ?_]
    · exact hx
    · by_cases hji : j = i
      · subst hji; simp [hDi]
      · refine ord j b hb ?_ hji
        left
        simp only [clash, Bool.or_eq_true]
        left; left
        cases hm : meets b.wr L[i].rd with
        | true => rfl
        | false =>
          exfalso
          obtain ⟨y, hy⟩ : ∃ y, look b.wr p.1 = some y := by cases hq : look b.wr p.1 with | none => exact absurd hq hn | some y => exact ⟨y, rfl⟩
          exact meets_false hm ⟨_, look_mem hy, rfl⟩ p hp rfl
  · intro k hk hmem
    rcases (mem_uD L _ U).1 hmem with hu | ⟨j, b, hb, hd, hkb⟩
    · exact hfresh k hk ((mem_uD L _ U).2 (.inl hu))
    · by_cases hji : j = i
      · subst hji; simp only [hDi] at hd; cases hd
      · rcases Nat.lt_or_ge j i with hlt | hge
        · exact hfresh k hk ((mem_uD L _ U).2 (.inr ⟨j, b, hb, by simpa using hlt, hkb⟩))
        · obtain ⟨_, _, _, _, hfj⟩ := h.at' j b hb
          exact hfj k hkb ((mem_uD L _ U).2 (.inr ⟨i, L[i], hbi, by simp; omega, hk⟩))
  · have hset : ∀ j, (listed.setIfInBounds i true).getD j false = if j = i then true else listed.getD j false := by
      intro j
      by_cases hji : j = i
      · subst hji; simp [hisz]
      · rw [if_neg hji, getD_set_ne false (Ne.symm hji)]
    refine ⟨?_, ?_, ⟨c', hbase'.moreU ?_, ?_⟩⟩
    · intro j o' ho' hd e he hb
      simp only [hset] at hd ⊢
      split
      · rfl
      · by_cases hji : j = i
        · subst hji; rw [hio] at ho'; cases ho'; exact hedges e he hb
        · rw [if_neg hji] at hd; exact hcl j o' ho' hd e he hb
    · have := unl_set listed.toList i (by
        simp only [Array.getElem?_toList, Array.getElem?_eq_getElem hisz]
        simp [Array.getElem?_eq_getElem hisz] at hDi
        rw [hDi])
      simp only [Array.toList_setIfInBounds]
      omega
    · intro k hk
      rw [mem_uD]
      rcases List.mem_append.1 hk with hk | hk
      · exact .inr ⟨i, L[i], hbi, by simp [hset], hk⟩
      · rcases (mem_uD L _ U).1 hk with hu | ⟨j, b, hb, hd, hkb⟩
        · exact .inl hu
        · exact .inr ⟨j, b, hb, by simp only [hset]; split; rfl; exact hd, hkb⟩
    · intro key x hx
      by_cases hkw : look L[i].wr key = none
      · refine hfr key x (look_none.1 hkw) (hholds key x ?_)
        rw [look_stD] at hx ⊢
        rw [← hx]
        congr 1
        refine lastw_congr L _ _ fun j b hb hn => ?_
        rw [hset]
        split
        · rename_i hji; subst hji; rw [hbi] at hb; cases hb; exact absurd hkw hn
        · rfl
      · obtain ⟨y, hy⟩ : ∃ y, look L[i].wr key = some y := by cases hq : look L[i].wr key with | none => exact absurd hq hkw | some y => exact ⟨y, rfl⟩
        have hxy : x = y := by
          rw [look_stD, lastw_congr L _ (fun j => decide (j < i + 1)) fun j b hb hn => ?_] at hx
          · have hat : lastw L (fun j => decide (j < i + 1)) key = some y := by
              have : ∀ (L : List Lab) (i : Nat) (b : Lab) (y : X), L[i]? = some b → look b.wr key = some y → lastw L (fun j => decide (j < i + 1)) key = some y := by
                intro L
                induction L with
                | nil => intro i b y h; simp at h
                | cons c L ihL =>
                  intro i b y hb hy
                  cases i with
                  | zero =>
                    simp at hb; subst hb
                    have hz : lastw L (fun j => decide (j + 1 < 0 + 1)) key = none := by
                      have : ∀ M : List Lab, lastw M (fun _ => false) key = none := by
                        intro M; induction M with
                        | nil => rfl
                        | cons d M ihM => simpa [lastw] using ihM
                      have he : (fun j => decide (j + 1 < 0 + 1)) = (fun _ : Nat => false) := by funext j; simp
                      rw [he]; exact this L
                    rw [lastw, hz]; simpa using hy
                  | succ i =>
                    have he : (fun j => decide (j + 1 < i + 1 + 1)) = (fun j => decide (j < i + 1)) := by funext j; simp
                    rw [lastw, he, ihL i b y (by simpa using hb) hy]; rfl
              exact this L i L[i] y hbi hy
            rw [hat] at hx
            cases hx; rfl
          · rw [hset]
            split
            · rename_i hji; subst hji; simp
            · rename_i hji
              have := ord j b hb (by
                left
                simp only [clash, Bool.or_eq_true]
                left; right
                cases hm : meets b.wr L[i].wr with
                | true => rfl
                | false =>
                  exfalso
                  obtain ⟨z, hz⟩ : ∃ z, look b.wr key = some z := by cases hq : look b.wr key with | none => exact absurd hq hn | some z => exact ⟨z, rfl⟩
                  exact meets_false hm ⟨_, look_mem hz, rfl⟩ _ (look_mem hy) rfl) hji
              rw [this]
              by_cases hlt : j < i
              · simp [hlt]; omega
              · simp [hlt]; omega
        subst hxy
        exact hwr _ (look_mem hy)
theorem draw_anyS (h : LxS E l.toArray k l U s L U' s') (hc : drawOk l L = true) (Q : Exit → Act → World → Prop) (hQ : ∀ a w, Good E U' s' a w → Q .normal a w) :
    ∀ (fuel : Nat) (listed : Array Bool) (a : Act) (w : World), listed.size = l.length → unl listed.toList ≤ fuel → Closed l (fun j => listed.getD j false) → (∀ x, k = some x → listed.getD x false = true) →
      Good E (uD L (fun j => listed.getD j false) U) (stD L (fun j => listed.getD j false) s) a w → wpAnyIn E.F 0 E.P .any l.toArray Q fuel listed a w := by
  have hdown : downOk 0 l = true := by
    have := hc
    simp only [drawOk, Bool.and_eq_true] at this
    exact this.1
  have fin : ∀ (listed : Array Bool) (a : Act) (w : World), listed.size = l.length → Good E (uD L (fun j => listed.getD j false) U) (stD L (fun j => listed.getD j false) s) a w →
      Region.ready .any l.toArray listed = [] → Q .normal a w := by
    intro listed a w hsz hg hr
    have := h.stAll _ (ready_nil hdown hsz hr)
    rw [this.1, this.2] at hg
    exact hQ a w hg
  intro fuel
  induction fuel with
  | zero =>
    intro listed a w hsz hun hcl hk hg
    have hr := fuel_out hsz hun
    exact ⟨hr, fin listed a w hsz hg hr⟩
  | succ fuel ih =>
    intro listed a w hsz hun hcl hk hg
    refine ⟨fin listed a w hsz hg, fun i hi => ?_⟩
    obtain ⟨h0, o, ho, hedges⟩ := mem_ready.1 hi
    have hil : i < l.length := by simpa using (Array.getElem?_eq_some_iff.1 ho).1
    have hio : l[i]? = some o := by simpa using ho
    have hbi : L[i]? = some (L[i]'(by have := h.length; omega)) := List.getElem?_eq_getElem _
    obtain ⟨o', ho', hstep, _, _⟩ := h.at' i _ hbi
    rw [hio] at ho'; cases ho'
    have hki : k ≠ some i := fun e => by
      have h1 := hk i e
      have hisz : i < listed.size := by omega
      simp [Array.getElem?_eq_getElem hisz] at h0 h1
      rw [h0] at h1; cases h1
    obtain ⟨c, hbase, hholds⟩ := hg
    obtain ⟨p1, p2, p3⟩ := draw_step h hc hsz hcl hbase hholds hi hio hbi
    refine opIn_wpOpIn ho (hstep hki _ c a w hbase p1 p2 _ Q ?_)
    intro c' a' w' hb' _ hwr hfr
    obtain ⟨q1, q2, q3⟩ := p3 c' a' w' hb' hwr hfr
    refine ih _ a' w' (by simpa using hsz) (by omega) q1 (fun x hx => ?_) q3
    by_cases hxi : x = i
    · exact absurd (hxi ▸ hx) hki
    · rw [getD_set_ne false (Ne.symm hxi)]; exact hk x hx
def StepX (E : Env) (all : Array Oper) (o : Oper) {ι : Type} (rd : St) (wr : ι → St) (al : List Nat) : Prop :=
  ∀ (U : List Nat) (c : Ctx) (a : Act) (w : World), Base E U c a w → (∀ p ∈ rd, Holds c a w p.1 p.2) → (∀ k ∈ al, k ∉ U) →
    ∀ (next : Act → World → Prop) (Q : Exit → Act → World → Prop),
      (∀ q c' a' w', Base E (al ++ U) c' a' w' → (∀ p ∈ wr q, Holds c' a' w' p.1 p.2) →
        (∀ key x, (∀ p ∈ wr q, p.1 ≠ key) → Holds c a w key x → Holds c' a' w' key x) → next a' w') →
      opIn E all o next Q a w
theorem stD_pre {x : Nat} {D : Nat → Bool} (hD : ∀ j, x ≤ j → D j = false) : ∀ {L1 L2 : List Lab} (s : St) (_ : L1.length = L2.length) (_ : ∀ j, j < x → L1[j]? = L2[j]?), stD L1 D s = stD L2 D s ∧ ∀ U, uD L1 D U = uD L2 D U := by
  induction x generalizing D with
  | zero =>
    intro L1 L2 s hl _
    have h0 : D = fun _ => false := by funext j; exact hD j (Nat.zero_le _)
    subst h0
    exact ⟨by rw [stD_false, stD_false], fun U => by rw [uD_false, uD_false]⟩
  | succ x ih =>
    intro L1 L2 s hl hj
    match L1, L2, hl with
    | [], [], _ => exact ⟨rfl, fun _ => rfl⟩
    | b1 :: L1, b2 :: L2, hl =>
      have e : b1 = b2 := by simpa using hj 0 (by omega)
      subst e
      have ih2 := fun s => ih (D := fun j => D (j + 1)) (fun j hx => hD (j + 1) (by omega)) (L1 := L1) (L2 := L2) s (by simpa using hl) (fun j hx => by simpa using hj (j + 1) (by omega))
      exact ⟨by rw [stD, stD]; exact (ih2 _).1, fun U => by rw [uD, uD]; exact (ih2 s).2 _⟩
theorem draw_X {ι : Type} (q0 : ι) {x : Nat} {ox : Oper} {rd : St} {wr : ι → St} {al : List Nat} {Lq : ι → List Lab} {sq : ι → St} (h : ∀ q, LxS E l.toArray (some x) l U s (Lq q) U' (sq q)) (hc : ∀ q, drawOk l (Lq q) = true)
    (hpre : ∀ q q' j, j < x → (Lq q)[j]? = (Lq q')[j]?) (hx : ∀ q, (Lq q)[x]? = some ⟨rd, wr q, al⟩) (hox : l[x]? = some ox) (hX : StepX E l.toArray ox rd wr al) (hdep : ∀ j, x < j → j < l.length → ((clos l []).getD j 0).testBit x = true)
    (Q : Exit → Act → World → Prop) (hQ : ∀ q a w, Good E U' (sq q) a w → Q .normal a w) :
    ∀ (fuel : Nat) (listed : Array Bool) (a : Act) (w : World), listed.size = l.length → unl listed.toList ≤ fuel → Closed l (fun j => listed.getD j false) → (∀ j, x ≤ j → listed.getD j false = false) →
      Good E (uD (Lq q0) (fun j => listed.getD j false) U) (stD (Lq q0) (fun j => listed.getD j false) s) a w → wpAnyIn E.F 0 E.P .any l.toArray Q fuel listed a w := by
  have hdown : downOk 0 l = true := by
    have := hc q0
    simp only [drawOk, Bool.and_eq_true] at this
    exact this.1
  have hxl : x < l.length := (List.getElem?_eq_some_iff.1 hox).1
  have fin : ∀ (listed : Array Bool), listed.size = l.length → (∀ j, x ≤ j → listed.getD j false = false) → Region.ready .any l.toArray listed ≠ [] := by
    intro listed hsz hj hr
    have := ready_nil hdown hsz hr x hxl
    rw [hj x (Nat.le_refl _)] at this; cases this
  intro fuel
  induction fuel with
  | zero =>
    intro listed a w hsz hun _ hj _
    exact absurd (fuel_out hsz hun) (fin listed hsz hj)
  | succ fuel ih =>
    intro listed a w hsz hun hcl hj hg
    refine ⟨fun hr => absurd hr (fin listed hsz hj), fun i hi => ?_⟩
    obtain ⟨h0, o, ho, hedges⟩ := mem_ready.1 hi
    have hil : i < l.length := by simpa using (Array.getElem?_eq_some_iff.1 ho).1
    have hio : l[i]? = some o := by simpa using ho
    have hisz : i < listed.size := by omega
    have hDi : listed.getD i false = false := by
      simp [Array.getElem?_eq_getElem hisz] at h0 ⊢; exact h0
    obtain ⟨c, hbase, hholds⟩ := hg
    have hsame : ∀ q, stD (Lq q) (fun j => listed.getD j false) s = stD (Lq q0) (fun j => listed.getD j false) s ∧ uD (Lq q) (fun j => listed.getD j false) U = uD (Lq q0) (fun j => listed.getD j false) U := fun q => by
      have := stD_pre (x := x) (D := fun j => listed.getD j false) hj (L1 := Lq q) (L2 := Lq q0) s (by rw [(h q).length, (h q0).length]) (fun j hjx => hpre q q0 j hjx)
      exact ⟨this.1, this.2 U⟩
    by_cases hix : i = x
    · subst hix
      rw [hio] at hox
      cases hox
      obtain ⟨p1, p2, _⟩ := draw_step (h q0) (hc q0) hsz hcl hbase hholds hi hio (hx q0)
      refine opIn_wpOpIn ho (hX _ c a w hbase p1 p2 _ Q ?_)
      intro q c' a' w' hb' hwr hfr
      obtain ⟨_, _, p3⟩ := draw_step (h q) (hc q) hsz hcl (by rw [(hsame q).2]; exact hbase) (fun key y hy => hholds key y (by rw [← (hsame q).1]; exact hy)) hi hio (hx q)
      obtain ⟨q1, q2, q3⟩ := p3 c' a' w' (by rw [(hsame q).2]; exact hb') hwr hfr
      refine draw_anyS (h q) (hc q) Q (hQ q) fuel _ a' w' (by simpa using hsz) (by omega) q1 (fun y hy => ?_) q3
      cases hy
      simp [hisz]
    · have hlt : i < x := by
        rcases Nat.lt_or_ge i x with h1 | h1
        · exact h1
        · exfalso
          have hb := hdep i (by omega) hil
          have hD := clos_sound hcl l [] [] rfl rfl (by simp) i x hb hil (fun o' ho' e he hb => by rw [hio] at ho'; cases ho'; exact hedges e he hb)
          rw [hj x (Nat.le_refl _)] at hD; cases hD
      have hbi : (Lq q0)[i]? = some ((Lq q0)[i]'(by have := (h q0).length; omega)) := List.getElem?_eq_getElem _
      obtain ⟨o', ho', hstep, _, _⟩ := (h q0).at' i _ hbi
      rw [hio] at ho'; cases ho'
      obtain ⟨p1, p2, p3⟩ := draw_step (h q0) (hc q0) hsz hcl hbase hholds hi hio hbi
      refine opIn_wpOpIn ho (hstep (fun e => hix (by cases e; rfl)) _ c a w hbase p1 p2 _ Q ?_)
      intro c' a' w' hb' _ hwr hfr
      obtain ⟨q1, q2, q3⟩ := p3 c' a' w' hb' hwr hfr
      refine ih _ a' w' (by simpa using hsz) (by omega) q1 (fun j hjx => ?_) q3
      rw [getD_set_ne false (by omega)]; exact hj j hjx
theorem OK.regionDrawX {ι : Type} {id : Nat} {Q : Exit → List Nat → St → Prop} (hm : E.P.follows .mixedOrders = true) (q0 : ι) {x : Nat} {ox : Oper} {rd : St} {wr : ι → St} {al : List Nat} {Lq : ι → List Lab} {sq : ι → St} (h : ∀ q, LxX E l.toArray (some x) l U s (Lq q) U' (sq q))
    (hX : StepX E l.toArray ox rd wr al) (hc : ∀ q, drawOk l (Lq q) = true) (hpre : ∀ q q' j, j < x → (Lq q)[j]? = (Lq q')[j]?) (hx : ∀ q, (Lq q)[x]? = some ⟨rd, wr q, al⟩) (hox : l[x]? = some ox) (hdep : ∀ j, x < j → j < l.length → ((clos l []).getD j 0).testBit x = true)
    (hQ : ∀ q, Q .normal U' (sq q)) : OK E (.region id l.toArray true) Q U s := by
  intro a w hg
  refine wpIn_region_draw fun t => ?_
  simp only [Region.schedule, hm, Bool.true_or, if_true]
  refine wpAnyIn_sound _ t _ a _ ?_
  refine draw_X q0 (fun q => (h q).s) hc hpre hx hox hX hdep _ (fun q a w hg => ⟨U', sq q, hg, hQ q⟩) l.toArray.size (Array.replicate l.toArray.size false) a w.drew (by simp) ?_ ?_ ?_ ?_
  · have : ∀ n : Nat, unl (List.replicate n false) = n := by intro n; simp [unl]
    simp [this]
  · intro i o _ hd
    exfalso
    have h0 : false = true := (repl_getD l.toArray.size i).symm.trans hd
    cases h0
  · intro j _; exact repl_getD _ _
  · have : (fun j => (Array.replicate l.toArray.size false).getD j false) = (fun _ : Nat => false) := by
      funext j
      exact repl_getD _ j
    rw [this, stD_false, uD_false]
    exact hg.drew
end
end Go.Ab
namespace Go.Ab
open Go.RowKit
theorem Ct.introP {P : Program} {f nt : Nat} {fn : Func} {code : Code} {rs : List ResultVar} {args : List X} {res : X} (hf : P.funcs[f]? = some fn) (hb : fn.body = some code) (hn : fn.ntmps = nt) (hr : fn.results = rs.toArray)
    (hl : Nat.ble args.length nt = true) (ht : args.all (fun x => !isTup x) = true) (hl2 : Nat.ble args.length 1000 = true)
    (h : ∀ w h0, OK (mkE P nt [] w (pureC h0)) code (den (mkE P nt [] w (pureC h0)) (RetQ (mkE P nt [] w (pureC h0)) rs res) []) [] (argSt 0 args)) : Ct P f args res := by
  intro h0 w vs hw hargs
  refine (callsIn_wide (n := 0)).1 (callsIn_of_wp_marks hf hb trivial ?_ rfl)
  have hlen := hargs.length
  rw [Nat.ble_eq] at hl hl2
  have hno : ∀ b, ¬ (pureC h0).out [] b := by
    rintro b (hy | ⟨k, _, e⟩ | ⟨k, m, hv, _, e, _⟩)
    · exact hy
    · cases e
    · cases e
  refine wpIn_mono (h w h0 { tmps := vs.toArray ++ Array.replicate (fn.ntmps - vs.toArray.size) undef, defers := [] } w ?_) ?_
  · refine ⟨pureC h0, ⟨BelX.refl _ _ _, Nat.le_refl _, ?_, ⟨.nil, fun d hd => by cases hd⟩, (fun p hp => by cases hp), hw, Mem.le_refl _, fun p v e => .inl e, (fun k b e => by cases e), (fun k m hv b e => by cases e), (fun _ _ => ⟨rfl, rfl⟩), (fun b e => e.elim), (fun k b _ e => by cases e), (fun k m hv lv _ e => by cases e)⟩, fun key x hx => slots_start hargs ht hl2 key x hx⟩
    simp [hn]; omega
  · rintro e a' w' ⟨U', s', ⟨c, hbase, hh⟩, he, ys, hys, hres⟩
    have hE : (mkE P nt [] w (pureC h0)).B = w.heap.size := rfl
    have post : LeavesInM Fence.wide 0 P fn a'.tmps (fun en w' => ∃ v h', en = .returned v ∧ Below w.heap.size w w' ∧ Mem.le h0 h' ∧ (∀ p v, h' p = some v → h0 p = some v ∨ w.heap.size ≤ p.block) ∧ (∀ p v, h' p = some v → w'.cell? p = some v) ∧ RepT (pureC h') res v) a'.defers .returning w' := by
      refine leaves_marks (B := w.heap.size) (Z := c.all) a'.defers w' hbase.dfr.1 ?_ ?_
      · intro d hd
        obtain ⟨D, h1, h2, h3, h4⟩ := hbase.dfr.2 d hd
        exact ⟨D, h1, h2, h3, h4⟩
      · intro w2 e1 e2 e3 e4 e5 e6
        obtain ⟨hbase, hh⟩ := hbase.calm hh e1 e2 e3 e4 rfl e5 e6
        obtain ⟨vs', h1, h2, h3⟩ := run_resSems hbase hh hys
        have hrun : (results fn a'.tmps).run P w2 = .ok (if h : vs'.toArray.size = 1 then vs'.toArray[0] else .tuple vs'.toArray) w2 := by
          have he : results fn a'.tmps = (fn.results.mapM (resSem a'.tmps) >>= fun vs => pure (if h : vs.size = 1 then vs[0] else .tuple vs)) := by
            unfold results
            congr 1
          have h1' : (rs.mapM (resSem a'.tmps)).run P w2 = .ok vs' w2 := h1
          rw [he, hr, Array.mapM_eq_mapM_toList]
          simp [h1']
        have hpg := PostG.of_base (s := s') (wr := []) (res := res) (v := if h : vs'.toArray.size = 1 then vs'.toArray[0] else .tuple vs'.toArray) hbase hE hh trivial rfl (by
          rw [← hres]
          have hl := h2.length
          match ys, vs', h2, h3, hl with
          | [y], [v], h2, h3, _ => exact V.toT h2.1 (h3 y (by simp))
          | [], [], h2, _, _ => exact ⟨[], rfl, trivial⟩
          | y1 :: y2 :: ys, v1 :: v2 :: vs, h2, _, _ => exact ⟨v1 :: v2 :: vs, by simp, h2⟩
          | [_], [], h2, _, _ => exact h2.elim
          | [], _ :: _, h2, _, _ => exact h2.elim
          | [_], _ :: _ :: _, h2, _, _ => exact h2.2.elim
          | _ :: _ :: _, [], h2, _, _ => exact h2.elim
          | _ :: _ :: _, [_], h2, _, _ => exact h2.2.elim) (fun b h => h.elim id fun ⟨p, hp, _⟩ => by cases hp)
        refine ⟨_, hrun, _, (c.pub [] ((mkE P nt [] w (pureC h0)).fin c w2)).h, rfl, (hpg.below.mono (Nat.le_refl _) fun k _ hk => (hno k hk).elim).below, hpg.le, fun p v hp => (hpg.new p v hp).imp id And.left, hpg.ok.hw, ?_⟩
        refine hpg.res.mono ⟨Mem.le_refl _, fun k b e => ?_, fun k m hv lv e => ?_⟩
        · have e2 := hpg.loc k b e; cases e2
        · obtain ⟨_, _, _, e2, _⟩ := hpg.arr k m hv lv e; cases e2
    rcases he with rfl | rfl
    · exact post
    · exact post
theorem noX {P : Program} {nt : Nat} {w : World} {h0 : Mem} : ∀ b, ¬ (mkE P nt [] w (pureC h0)).X b := by
  rintro b (hy | ⟨p, hp, _⟩)
  · rcases hy with hy | ⟨k, _, e⟩ | ⟨k, m, hv, _, e, _⟩
    · exact hy
    · cases e
    · cases e
  · cases hp
theorem OK.resFact {E : Env} {U : List Nat} {s : St} {code : Code} {Q : Exit → List Nat → St → Prop} {J : Mem → (Nat → Prop) → World → Prop} {p : Prop} (hl : look s 3000 = some (.res J)) (hp : ∀ h Y w, J h Y w → p) (h : p → OK E code Q U s) : OK E code Q U s := fun a w hg => by
  obtain ⟨c, hb, hh⟩ := hg
  exact h (hp _ _ _ (res_of (hh _ _ hl)).2) a w ⟨c, hb, hh⟩
section
variable {E : Env} {all : Array Oper} {s r r1 r2 r3 rg : St} {d ty : Nat} {pos : String} {after : Array Edge}
theorem LxX.c {k : Option Nat} {o : Oper} {l : List Oper} {U U' : List Nat} {s' : St} {L : List Lab} {rd wr : St} {al : List Nat} (h : St1 E all o s rd wr al)
    (hr : LxX E all k l (al ++ U) (wr ++ s) L U' s') (ha : (al.all fun k => !U.contains k) = true := by rfl) : LxX E all (k.map (· + 1)) (o :: l) U s (⟨rd, wr, al⟩ :: L) U' s' := .cons h.1 h.2 ha hr
theorem LxX.cs {x : Nat} {o : Oper} {l : List Oper} {U U' : List Nat} {s' : St} {L : List Lab} {rd wr : St} {al : List Nat} (h : St1 E all o s rd wr al)
    (hr : LxX E all (some x) l (al ++ U) (wr ++ s) L U' s') (ha : (al.all fun k => !U.contains k) = true := by rfl) : LxX E all (some (x + 1)) (o :: l) U s (⟨rd, wr, al⟩ :: L) U' s' := LxX.c (k := some x) h hr ha
theorem LxX.cn {o : Oper} {l : List Oper} {U U' : List Nat} {s' : St} {L : List Lab} {rd wr : St} {al : List Nat} (h : St1 E all o s rd wr al)
    (hr : LxX E all none l (al ++ U) (wr ++ s) L U' s') (ha : (al.all fun k => !U.contains k) = true := by rfl) : LxX E all none (o :: l) U s (⟨rd, wr, al⟩ :: L) U' s' := LxX.c (k := none) h hr ha
theorem LxX.x {o : Oper} {l : List Oper} {U U' : List Nat} {s' : St} {L : List Lab} {rd wr : St} {al : List Nat} (hl : Looks s rd)
    (hr : LxX E all none l (al ++ U) (wr ++ s) L U' s') (ha : (al.all fun k => !U.contains k) = true := by rfl) : LxX E all (some 0) (o :: l) U s (⟨rd, wr, al⟩ :: L) U' s' := .xop hl ha hr
theorem S.callX {g : Nat} {os : List Operand} {at_ : Array TypeId} {ys : List X} {ι : Type} {res : ι → X} {J : ι → Mem → (Nat → Prop) → World → Prop} (hf : CtX E.P g ys res J) (hS : ∀ q, Stable (J q)) (hm : ∀ q h Y Y' w, J q h Y w → (∀ b, Y b → Y' b) → J q h Y' w)
    (hcall : ∀ args w, (callFunc g args).run E.P w = .ok (.enter g args) w) (hd : (Nat.blt d 1000 && Nat.blt d E.nt) = true) (ha : OpsS s os ys r) (ho : ys.all okArg = true) :
    StepX E all ⟨some d, .call { callee := .value (.func g), args := os.toArray, argTypes := at_ }, ty, pos, after, none⟩ r (fun q => [(d, res q), (3000, .res (J q))]) [] := by
  simp only [Bool.and_eq_true, Nat.blt_eq] at hd
  intro U c a w hb hr _ next Q hnx
  have hw : Region.wanted (⟨some d, .call { callee := .value (.func g), args := os.toArray, argTypes := at_ }, ty, pos, after, none⟩ : Oper) (yielded all a.tmps) = true := rfl
  have hargs := args_clean (ha.rep (c := c) (a := a) (w := w) hr) ho
  unfold opIn
  rw [if_pos hw]
  refine ⟨fun _ _ => trivial, ?_⟩
  rw [Oper.semAt_eq _ _ _ fun cl he => by cases he]
  have hfo : a.eval (.func g) = .func (.func g) #[] #[] := rfl
  have hrun : (execOp a.eval ⟨some d, .call { callee := .value (.func g), args := os.toArray, argTypes := at_ }, ty, pos, after, none⟩).run E.P w = .ok (.enter g (os.map a.eval).toArray) w := by
    simp [execOp, resolve, hfo, Deferred.ofValue, invoke, hcall]
  rw [hrun]
  refine ⟨(fun h => by cases h), ?_⟩
  have h1 : CallsIn E.F (0 - 1) E.P g (os.map a.eval).toArray w _ := (callsIn_wide (n := 0)).2 (hf c.h w _ hb.hw hargs)
  refine h1.mono ?_
  rintro en w' ⟨q, v, h', Y', rfl, hp, hres, hJ⟩
  have hfr : ∀ b, Y' b → w.heap.size ≤ b := fun b hy => Nat.le_of_not_lt fun hlt => hp.out b hy hlt
  have hp2 : PostJ c.h c.Y w h' (fun b => c.Y b ∨ Y' b) w' := by
    refine ⟨hp.below.mono (Nat.le_refl _) fun _ _ e => e.elim, hp.le, fun p v hv => (hp.new p v hv).imp id fun e => ⟨e.1, ?_⟩, hp.hw, fun b hy => ?_, fun b hy hlt => ?_⟩
    · rintro (hy | hy)
      · have := (hb.Y _ hy).1; have := e.1; omega
      · exact e.2 hy
    · rcases hy with hy | hy
      · have := (hb.Y b hy).1; have := hp.below.size; omega
      · exact hp.lt b hy
    · rcases hy with hy | hy
      · exact hy
      · have := hfr b hy; omega
  have hext : Ext c ⟨h', c.loc, c.arr, fun b => c.Y b ∨ Y' b⟩ := ⟨hp.le, fun _ _ e => e, fun _ m hv lv e => ⟨m, hv, lv, e, Nat.le_refl _, fun _ => rfl⟩⟩
  have hdt : d < a.tmps.size := by rw [hb.nt]; exact hd.2
  refine hnx q ⟨h', c.loc, c.arr, fun b => c.Y b ∨ Y' b⟩ _ _ ((hb.turn hp2).put _ _) ?_ ?_
  · intro p hp'
    simp only [List.mem_cons, List.not_mem_nil, or_false] at hp'
    rcases hp' with rfl | rfl
    · unfold Holds
      rw [if_pos hd.1, getD_put hdt]
      exact hres.mono (pure_ext (c := ⟨h', c.loc, c.arr, fun b => c.Y b ∨ Y' b⟩) rfl)
    · exact (Holds.mkRes (c := ⟨h', c.loc, c.arr, fun b => c.Y b ∨ Y' b⟩) (a := a) (hS q) (hm q _ _ _ _ hJ fun b hy => .inr hy)).put (by show d ≠ 3000; omega) v
  · intro key u hk h0
    have hne' : d ≠ key := hk (d, res q) (by simp)
    have hne3' : key ≠ 3000 := fun e => hk (3000, .res (J q)) (by simp) e.symm
    by_cases h1 : key < 1000
    · refine Holds.put ?_ hne' _
      unfold Holds at h0 ⊢
      rw [if_pos h1] at h0 ⊢
      exact h0.mono hext
    · exact (Holds.turn hb hp2 h1 hne3' h0).put hne' _
end
end Go.Ab
