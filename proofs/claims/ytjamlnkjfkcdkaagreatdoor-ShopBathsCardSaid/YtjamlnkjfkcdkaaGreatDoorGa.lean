/-
  Abstract states: maps of the activation's own, from strings to data.
-/
import Derived.Test.YtjamlnkjfkcdkaaGreatDoorFz
namespace Go.Ab
open Go.RowKit
def lookL {α : Type} : List (List UInt8 × α) → List UInt8 → Option α
  | [], _ => none
  | p :: l, k => if p.1 = k then some p.2 else lookL l k
def putL {α : Type} : List (List UInt8 × α) → List UInt8 → α → List (List UInt8 × α)
  | [], k, v => [(k, v)]
  | p :: l, k, v => if p.1 = k then (k, v) :: l else p :: putL l k v
def mapX (l : List (List UInt8 × X)) : List (X × X) := l.map fun p => (.str p.1, p.2)
abbrev MRel (h : Mem) : X × X → MapEntry → Prop := fun p m => RepD h p.1 m.key ∧ RepV (pureC h) p.2 m.val
theorem str_key {h : Mem} {s : List UInt8} {v : Value} (r : RepD h (.str s) v) : v = .string ⟨s.toArray⟩ := by cases r; rfl
theorem same_str (a b : List UInt8) : Instr.sameNow .string (.string ⟨a.toArray⟩) (.string ⟨b.toArray⟩) = some (decide (b = a)) := by
  have h : ((⟨a.toArray⟩ : ByteArray) == ⟨b.toArray⟩) = decide (b = a) := by
    rw [Bool.eq_iff_iff, MapKept.bytes_beq, decide_eq_true_iff]
    constructor
    · intro e
      have := congrArg (fun x : ByteArray => x.data.toList) e
      simpa using this.symm
    · rintro rfl; rfl
  simp only [Instr.sameNow, h]
theorem find_str {h : Mem} {k : List UInt8} : ∀ {l : List (List UInt8 × X)} {es : List MapEntry} (i : Nat), All2 (MRel h) (mapX l) es →
    (lookL l k = none ∧ Instr.findNow .string (.string ⟨k.toArray⟩) es i = some none ∧ (∀ m ∈ es, m.key ≠ .string ⟨k.toArray⟩) ∧ ∀ u, putL l k u = l ++ [(k, u)]) ∨
    ∃ j u m, lookL l k = some u ∧ Instr.findNow .string (.string ⟨k.toArray⟩) es i = some (some (i + j, m.val)) ∧ es[j]? = some m ∧ m.key = .string ⟨k.toArray⟩ ∧ RepV (pureC h) u m.val ∧ l[j]? = some (k, u) ∧ ∀ u', putL l k u' = l.set j (k, u')
  | [], [], i, _ => .inl ⟨rfl, rfl, (fun m hm => by cases hm), fun u => rfl⟩
  | p :: l, m :: es, i, hr => by
    obtain ⟨⟨h1, h2⟩, h3⟩ := hr
    have hk := str_key h1
    by_cases hp : p.1 = k
    · refine .inr ⟨0, p.2, m, by simp [lookL, hp], ?_, rfl, by rw [hk, hp], h2, by rw [← hp]; rfl, fun u' => by simp [putL, hp]⟩
      rw [Instr.findNow, hk, same_str, decide_eq_true hp]
      rfl
    · have hf : ∀ i, Instr.findNow .string (.string ⟨k.toArray⟩) (m :: es) i = Instr.findNow .string (.string ⟨k.toArray⟩) es (i + 1) := by
        intro i
        rw [Instr.findNow, hk, same_str, decide_eq_false hp]
      rcases find_str (k := k) (i + 1) h3 with ⟨q1, q2, q3, q4⟩ | ⟨j, u, m', q1, q2, q3, q4, q5, q6, q7⟩
      · refine .inl ⟨by simp [lookL, hp, q1], by rw [hf]; exact q2, fun m' hm => ?_, fun u => by simp [putL, hp, q4]⟩
        rcases List.mem_cons.1 hm with rfl | hm
        · rw [hk]
          intro e
          have := same_str k p.1
          rw [e] at this
          have h5 := same_str k k
          rw [decide_eq_true rfl] at h5
          rw [h5] at this
          simp at this
          exact hp this
        · exact q3 m' hm
      · refine .inr ⟨j + 1, u, m', by simp [lookL, hp, q1], by rw [hf, q2]; congr 3; omega, by simpa using q3, q4, q5, by simpa using q6, fun u' => by simp [putL, hp, q7]⟩
  | [], _ :: _, _, h => h.elim
  | _ :: _, [], _, h => h.elim
section
variable {E : Env} {U : List Nat} {c : Ctx} {a : Act} {w w' : World}
/-- A named block turns, and nothing else. -/
theorem Base.turnBox (hb : Base E U c a w) {k b : Nat} (h1 : c.loc k = some b) (e1 : w'.os = w.os) (e2 : w'.tape = w.tape) (e3 : w'.output = w.output) (e4 : w'.heap.size = w.heap.size) (e5 : ∀ j, j ≠ b → w'.heap[j]? = w.heap[j]?) :
    Base E U c a w' ∧ ∀ key y, ¬ key < 1000 → key ≠ 1000 + k → Holds c a w key y → Holds c a w' key y := by
  obtain ⟨q1, q2, q3, q4, q5⟩ := hb.loc k b h1
  have hall : c.all b := .inr (.inl ⟨k, h1⟩)
  have hw2 : ∀ p v, c.h p = some v → w'.cell? p = some v := by
    intro p v hp
    have h0 := hb.hw p v hp
    have hne : p.block ≠ b := fun e => by
      have h2 := adr_spot h0
      have h3 := q3 p.off
      rw [← e, ← h2, hp] at h3; cases h3
    rw [World.cell?_of_block (e5 _ hne)]
    exact h0
  refine ⟨⟨hb.below.trans ⟨e1, e2, e3, by omega, fun j hj hx => e5 j (Env.ok_turn q1 hj hx)⟩, by rw [e4]; exact hb.hB, hb.nt, ⟨hb.dfr.1, fun d hd => ?_⟩, fun p hp => ?_, hw2, hb.hle, hb.hnew, ?_, ?_, hb.used, ?_, hb.loc0, hb.arr0⟩, ?_⟩
  · obtain ⟨D, h2, h3, h4, h5⟩ := hb.dfr.2 d hd
    exact ⟨D, h2, h3, h4, (e5 D fun e => h4 (by rw [e]; exact hall)).trans h5⟩
  · obtain ⟨h2, h3, h4⟩ := hb.pin p hp
    exact ⟨h2, h3, (e5 _ fun e => h2 (by rw [e]; exact hall)).trans h4⟩
  · rw [e4]; exact hb.loc
  · rw [e4]; exact hb.arr
  · rw [e4]; exact hb.Y
  · intro key u hkey hne hu
    unfold Holds at hu ⊢
    rw [if_neg hkey] at hu ⊢
    refine or_snd hu fun hu => ?_
    split at hu
    · rename_i hlt
      rw [if_pos hlt]
      obtain ⟨b2, o2, f1, f2, f3⟩ := hu
      refine ⟨b2, o2, f1, (e5 b2 fun e => ?_).trans f2, f3⟩
      subst e
      have := q4 _ f1
      omega
    · rename_i hlt
      rw [if_neg hlt]
      split at hu
      · rename_i hlt2
        rw [if_pos hlt2]
        obtain ⟨sz, rows, hv2, e, vs2, hx, f1, f2, f3⟩ := hu
        refine ⟨sz, rows, hv2, e, vs2, hx, f1, ⟨f2.1, f2.2.imp id ?_⟩, f3⟩
        rintro ⟨g, cap, cur, p1, p2, p3, p4⟩
        exact ⟨g, cap, cur, p1, p2, (e5 g fun e => q5 _ _ _ f1 (by rw [p1, ← e]; rfl)).trans p3, p4⟩
      · rename_i hlt2
        rw [if_neg hlt2]
        obtain ⟨hk0, J, hx0, hJ, hJ2⟩ := hu
        exact ⟨hk0, J, hx0, hJ, hJ _ _ _ _ _ hJ2 (Mem.le_refl _) (fun _ _ e => .inl e) hw2 ⟨e1, e2, e3, by omega, fun j hj => by omega⟩ fun b2 hy => e5 b2 fun e => by subst e; exact (hb.Y _ hy).2.2.1 k h1⟩
end
section
variable {E : Env} {all : Array Oper} {s r r1 r2 r3 rg : St} {d ty : Nat} {pos : String} {after : Array Edge} {guard : Option (Nat × Bool)} {x y z : Operand}
theorem omap_of {c : Ctx} {a : Act} {w : World} {k : Nat} {es : List (X × X)} (h : Holds c a w (1000 + k) (.omap es)) (hk : k < 1000) :
    ∃ b mes clock, c.loc k = some b ∧ w.heap[b]? = some (.map mes clock) ∧ MapKept.Stamped mes clock ∧ All2 (MRel c.h) es mes.toList := by
  unfold Holds at h
  rw [if_neg (by omega), if_pos (by omega), Nat.add_sub_cancel_left] at h
  rcases h with h | ⟨b, o, h1, h2, mes, clock, rfl, h3, h4⟩
  · cases h
  · exact ⟨b, mes, clock, h1, h2, h3, h4⟩
theorem Holds.mkMap {c : Ctx} {a : Act} {w : World} {k b clock : Nat} {mes : Array MapEntry} {es : List (X × X)} (hk : k < 1000) (h1 : c.loc k = some b) (h2 : w.heap[b]? = some (.map mes clock)) (h3 : MapKept.Stamped mes clock) (h4 : All2 (MRel c.h) es mes.toList) :
    ¬ (1000 + k < 1000) ∧ Holds c a w (1000 + k) (.omap es) := by
  refine ⟨by omega, ?_⟩
  unfold Holds
  rw [if_neg (by omega), if_pos (by omega), Nat.add_sub_cancel_left]
  exact .inr ⟨b, _, h1, h2, mes, clock, rfl, h3, h4⟩
theorem mptr_of {c : Ctx} {k : Nat} {v : Value} (h : RepT c (.mptr k) v) : ∃ b, c.loc k = some b ∧ v = .map (some b) := h
theorem S.makeMapO {t k : Nat} (hk : Nat.blt k 1000 = true) (hg : Gd all s guard rg) (hd : (Nat.blt d 1000 && Nat.blt d E.nt) = true) (hk9 : E.fs.contains k = false := by rfl) :
    St1 E all ⟨some d, .makeMap t none, ty, pos, after, guard⟩ s (rg ++ []) ((d, .mptr k) :: [(1000 + k, .omap [])]) [k] :=
  St1.mk hg hd rfl trivial fun U c a w hb _ hal => by
    rw [Nat.blt_eq] at hk
    have hkU : k ∉ U := hal k (by simp)
    obtain ⟨g1, g2, g3, g4, g5⟩ := hb.boxO (nfs hk9) hkU (.map #[] 0)
    refine ⟨.map (some w.heap.size), _, w.alloc (.map #[] 0), rfl, g1, g2, ⟨w.heap.size, g3, rfl⟩, ?_, ?_⟩
    · intro p hp
      simp only [List.mem_singleton] at hp
      subst hp
      exact Holds.mkMap (by omega) g3 g4 (MapKept.stamped_empty 0) trivial
    · intro key u hkey _ hu
      exact g5 key u hkey hu
theorem S.lookupO {t kt e k : Nat} {key : List UInt8} {l : List (List UInt8 × X)} {es : List (X × X)} {zv : Value} {zx : X} (ht : E.P.underlying t = some (.map kt e)) (hk : E.P.underlying kt = some .string) (hz : ∀ w, (zeroValue e).run E.P w = .ok zv w) (hzx : ∀ c, RepV c zx zv) (hg : Gd all s guard rg) (hd : (Nat.blt d 1000 && Nat.blt d E.nt) = true)
    (hx : OpS s x (.mptr k) r1) (hy : OpS s y (.str key) r2) (hl : look s (1000 + k) = some (.omap es)) (hes : es = mapX l) (hk1 : Nat.blt k 1000 = true := by rfl) :
    St1 E all ⟨some d, .lookup t x y true, ty, pos, after, guard⟩ s (rg ++ (r1 ++ (r2 ++ [(1000 + k, .omap es)]))) [(d, .tup [(lookL l key).getD zx, .bool (lookL l key).isSome])] [] :=
  St1.val hg hd rfl (hx.looks.app (hy.looks.app ⟨hl, trivial⟩)) fun c A w _ hr => by
    subst hes
    rw [Nat.blt_eq] at hk1
    obtain ⟨b, h1, h0⟩ := mptr_of (hx.rep (c := c) (a := A) (w := w) fun p hp => hr p (by simp [hp]))
    obtain ⟨b', mes, clock, h2, h3, _, h4⟩ := omap_of (hr (1000 + k, .omap (mapX l)) (by simp)) hk1
    rw [h1] at h2
    cases h2
    obtain ⟨h5, _⟩ := str_of (hy.rep (c := c) (a := A) (w := w) fun p hp => hr p (by simp [hp]))
    have hkey : MapKept.IsKey .string (.string ⟨key.toArray⟩) := trivial
    rcases find_str (k := key) 0 h4 with ⟨q1, q2, _⟩ | ⟨j, u, m, q1, q2, _, _, q5, _⟩
    · rw [q1]
      refine ⟨.tuple #[zv, .bool false], ?_, [zv, .bool false], rfl, hzx c, RepD.bool false, trivial⟩
      simp [execOp, h0, h5, Instr.lookup, run_underlying ht, MapKept.run_getObj_map h3, MapKept.run_checkKey hk hkey, MapKept.run_findKey hk q2, hz]
    · rw [q1]
      refine ⟨.tuple #[m.val, .bool true], ?_, [m.val, .bool true], rfl, q5.mono (pure_ext rfl), RepD.bool true, trivial⟩
      simp [execOp, h0, h5, Instr.lookup, run_underlying ht, MapKept.run_getObj_map h3, MapKept.run_checkKey hk hkey, MapKept.run_findKey hk q2]
theorem S.lookupO1 {t kt e k : Nat} {key : List UInt8} {l : List (List UInt8 × X)} {es : List (X × X)} {zv : Value} {zx : X} (ht : E.P.underlying t = some (.map kt e)) (hk : E.P.underlying kt = some .string) (hz : ∀ w, (zeroValue e).run E.P w = .ok zv w) (hzx : ∀ c, RepV c zx zv) (hg : Gd all s guard rg) (hd : (Nat.blt d 1000 && Nat.blt d E.nt) = true)
    (hx : OpS s x (.mptr k) r1) (hy : OpS s y (.str key) r2) (hl : look s (1000 + k) = some (.omap es)) (hes : es = mapX l) (hnt : isTup ((lookL l key).getD zx) = false) (hk1 : Nat.blt k 1000 = true := by rfl) :
    St1 E all ⟨some d, .lookup t x y false, ty, pos, after, guard⟩ s (rg ++ (r1 ++ (r2 ++ [(1000 + k, .omap es)]))) [(d, (lookL l key).getD zx)] [] :=
  St1.val hg hd rfl (hx.looks.app (hy.looks.app ⟨hl, trivial⟩)) fun c A w _ hr => by
    subst hes
    rw [Nat.blt_eq] at hk1
    obtain ⟨b, h1, h0⟩ := mptr_of (hx.rep (c := c) (a := A) (w := w) fun p hp => hr p (by simp [hp]))
    obtain ⟨b', mes, clock, h2, h3, _, h4⟩ := omap_of (hr (1000 + k, .omap (mapX l)) (by simp)) hk1
    rw [h1] at h2
    cases h2
    obtain ⟨h5, _⟩ := str_of (hy.rep (c := c) (a := A) (w := w) fun p hp => hr p (by simp [hp]))
    have hkey : MapKept.IsKey .string (.string ⟨key.toArray⟩) := trivial
    rcases find_str (k := key) 0 h4 with ⟨q1, q2, _⟩ | ⟨j, u, m, q1, q2, _, _, q5, _⟩
    · rw [q1] at hnt ⊢
      refine ⟨zv, ?_, V.toT (hzx c) hnt⟩
      simp [execOp, h0, h5, Instr.lookup, run_underlying ht, MapKept.run_getObj_map h3, MapKept.run_checkKey hk hkey, MapKept.run_findKey hk q2, hz]
    · rw [q1] at hnt ⊢
      refine ⟨m.val, ?_, V.toT (q5.mono (pure_ext rfl)) hnt⟩
      simp [execOp, h0, h5, Instr.lookup, run_underlying ht, MapKept.run_getObj_map h3, MapKept.run_checkKey hk hkey, MapKept.run_findKey hk q2]
theorem map_put {h : Mem} {key : List UInt8} {u : X} {v : Value} {l : List (List UInt8 × X)} {mes : Array MapEntry} {clock : Nat} (hs : MapKept.Stamped mes clock) (hr : All2 (MRel h) (mapX l) mes.toList) (hk : RepD h (.str key) (.string ⟨key.toArray⟩)) (hv : RepV (pureC h) u v) :
    (Instr.findNow .string (.string ⟨key.toArray⟩) mes.toList 0 = some none ∧ MapKept.Stamped (mes.push ⟨.string ⟨key.toArray⟩, v, clock⟩) (clock + 1) ∧ All2 (MRel h) (mapX (putL l key u)) (mes.push ⟨.string ⟨key.toArray⟩, v, clock⟩).toList) ∨
    ∃ j m, Instr.findNow .string (.string ⟨key.toArray⟩) mes.toList 0 = some (some (j, m.val)) ∧ mes[j]? = some m ∧ m.key = .string ⟨key.toArray⟩ ∧ MapKept.Stamped (mes.modify j fun e => { e with key := .string ⟨key.toArray⟩, val := v }) clock ∧
      All2 (MRel h) (mapX (putL l key u)) (mes.modify j fun e => { e with key := .string ⟨key.toArray⟩, val := v }).toList := by
  rcases find_str (k := key) 0 hr with ⟨q1, q2, q3, q4⟩ | ⟨j, u0, m, q1, q2, q3, q4, q5, q6, q7⟩
  · refine .inl ⟨q2, MapKept.stamped_push hs q3, ?_⟩
    rw [q4, Array.toList_push]
    simp only [mapX, List.map_append, List.map_cons, List.map_nil]
    exact hr.append ⟨⟨hk, hv⟩, trivial⟩
  · rw [Nat.zero_add] at q2
    have q3' : mes[j]? = some m := by simpa using q3
    refine .inr ⟨j, m, q2, q3', q4, MapKept.stamped_modify hs j _ (fun _ _ => rfl) (fun e _ he => by rw [q3'] at he; cases he; exact q4.symm), ?_⟩
    rw [q7]
    have hlen := hr.length
    refine All2.of_get (by simpa [mapX] using hlen) fun i p m' hp hm => ?_
    simp only [mapX, List.getElem?_map, List.getElem?_set] at hp
    rw [Array.getElem?_toList, Array.getElem?_modify] at hm
    by_cases hij : j = i
    · subst hij
      rw [if_pos rfl, q3'] at hm
      have hlt : j < l.length := (List.getElem?_eq_some_iff.1 q6).1
      simp [hlt] at hp
      simp at hm
      subst hp
      subst hm
      exact ⟨hk, hv⟩
    · rw [if_neg hij] at hm
      rw [if_neg hij] at hp
      exact hr.get (i := i) (by simpa [mapX] using hp) (by simpa using hm)
theorem S.mapSetO {t kt e k : Nat} {key : List UInt8} {u : X} {l : List (List UInt8 × X)} {es es' : List (X × X)} (ht : E.P.underlying t = some (.map kt e)) (hk : E.P.underlying kt = some .string) (hg : Gd all s guard rg)
    (hx : OpS s x (.mptr k) r1) (hy : OpS s y (.str key) r2) (hz : OpS s z u r3) (hu : okArg u = true) (hl : look s (1000 + k) = some (.omap es)) (hes : es = mapX l) (hes' : mapX (putL l key u) = es') (hk1 : Nat.blt k 1000 = true := by rfl) :
    St1 E all ⟨none, .mapUpdate t x y z, ty, pos, after, guard⟩ s (rg ++ (r1 ++ (r2 ++ (r3 ++ [(1000 + k, .omap es)])))) [(1000 + k, .omap es')] [] :=
  St1.eff hg rfl (hx.looks.app (hy.looks.app (hz.looks.app ⟨hl, trivial⟩))) fun U c a w hb hr => by
    subst hes
    subst hes'
    rw [Nat.blt_eq] at hk1
    obtain ⟨b, h1, h0⟩ := mptr_of (hx.rep (c := c) (a := a) (w := w) fun p hp => hr p (by simp [hp]))
    obtain ⟨b', mes, clock, h2, h3, hs, h4⟩ := omap_of (hr (1000 + k, .omap (mapX l)) (by simp)) hk1
    rw [h1] at h2
    cases h2
    have hyr := hy.rep (c := c) (a := a) (w := w) fun p hp => hr p (by simp [hp])
    obtain ⟨h5, _⟩ := str_of hyr
    have hkD : RepD c.h (.str key) (.string ⟨key.toArray⟩) := h5 ▸ hyr
    have hzr := hz.rep (c := c) (a := a) (w := w) fun p hp => hr p (by simp [hp])
    have hv : RepV (pureC c.h) u (a.eval z) := (args_clean (ys := [u]) (vs := [a.eval z]) ⟨hzr, trivial⟩ (by simp [hu])).1
    have hkey : MapKept.IsKey .string (.string ⟨key.toArray⟩) := trivial
    rcases map_put hs h4 hkD hv with ⟨q2, q3, q4⟩ | ⟨j, m, q2, q3, q5, q6, q7⟩
    · obtain ⟨p1, p2⟩ := hb.turnBox (w' := { w with heap := w.heap.setIfInBounds b (.map (mes.push ⟨.string ⟨key.toArray⟩, a.eval z, clock⟩) (clock + 1)) }) h1 rfl rfl rfl (by simp) fun j hj => (MapKept.heap_set h3).2 j hj
      refine ⟨_, ?_, p1, ?_, fun key' y hkey hne hy => p2 key' y hkey (fun e => hne _ (List.mem_singleton.2 rfl) e.symm) hy⟩
      · simp [execOp, h0, h5, Instr.mapUpdate, run_underlying ht, MapKept.run_getObj_map h3, MapKept.run_checkKey hk hkey, MapKept.run_findKey hk q2, MapKept.run_setObj_map _ h3]
      · intro p hp
        simp only [List.mem_singleton] at hp
        subst hp
        exact Holds.mkMap hk1 h1 (MapKept.heap_set h3).1 q3 q4
    · obtain ⟨p1, p2⟩ := hb.turnBox (w' := { w with heap := w.heap.setIfInBounds b (.map (mes.modify j fun e => { e with key := .string ⟨key.toArray⟩, val := a.eval z }) clock) }) h1 rfl rfl rfl (by simp) fun j hj => (MapKept.heap_set h3).2 j hj
      refine ⟨_, ?_, p1, ?_, fun key' y hkey hne hy => p2 key' y hkey (fun e => hne _ (List.mem_singleton.2 rfl) e.symm) hy⟩
      · simp [execOp, h0, h5, Instr.mapUpdate, run_underlying ht, MapKept.run_getObj_map h3, MapKept.run_checkKey hk hkey, MapKept.run_findKey hk q2, q3, q5, MapKept.run_keyThatStays hkey, MapKept.run_setObj_map _ h3]
      · intro p hp
        simp only [List.mem_singleton] at hp
        subst hp
        exact Holds.mkMap hk1 h1 (MapKept.heap_set h3).1 q6 q7
end
end Go.Ab
