/-
  Abstract states: a round of a range over a function; the statement.
-/
import Derived.Test.YtjamlnkjfkcdkaaGreatDoorFo
namespace Go.Ab
open Go.RowKit

theorem spot_none {w : World} {p : Addr} {v : Value} (h : w.cell? p = some v) : p = ⟨p.block, p.off, none⟩ := by
  have hsp : p.spot = none := by
    cases hsp : p.spot with
    | none => rfl
    | some q => simp only [World.cell?, hsp] at h; split at h <;> simp at h
  cases p; simp at hsp; subst hsp; rfl
theorem used_mem {E : Env} {u : List Nat} {c : Ctx} {a : Act} {w : World} (hb : Base E u c a w) {k b : Nat} (h : c.loc k = some b) : k ∈ u :=
  Decidable.byContradiction fun hk => by rw [(hb.used k hk).1] at h; cases h
theorem used_mem2 {E : Env} {u : List Nat} {c : Ctx} {a : Act} {w : World} (hb : Base E u c a w) {k : Nat} {q : Nat × Value × Bool} (h : c.arr k = some q) : k ∈ u :=
  Decidable.byContradiction fun hk => by rw [(hb.used k hk).2] at h; cases h
/-- Slots that a round leaves as they are: data, and pointers to boxes that are known behind it. -/
def slotOk (bx : St) (p : Nat × X) : Bool := Nat.blt p.1 1000 && (okT [] p.2 || match p.2 with
  | .ptr k _ => Nat.blt k 1000 && (match look bx (1000 + k) with | some (.box _) => true | _ => false)
  | _ => false)
theorem Le.mem {s r : St} (h : Le s r) {k : Nat} {x : X} (hx : Ab.look r k = some x) : Ab.look s k = some x := Le.look h k x hx

section
variable {E : Env} {u U3 : List Nat} {c : Ctx} {a a3 : Act} {W w3 : World} {B1 l : Nat} {h : Mem} {Y : Nat → Prop}
/-- What has been done for a round, seen from the activation. -/
theorem round_fin (hpins : E.pins = []) (r : Rg) {slots bx bx' s3 : St} {j : Option Code} {c3 : Ctx} (hb : Base E u c a W) (hEl : E.B ≤ l) (_hDB : E.B ≤ r.D) (hD : ({ target := .collected r.D, args := #[] } : Deferred) ∈ a.defers) (hDl : r.D ≠ l)
    (hle : Mem.le c.h h) (hnw : ∀ p v, h p = some v → c.h p = some v ∨ (E.B ≤ p.block ∧ ¬ c.all p.block)) (hlow : ∀ b, b < B1 → Y b) (hall : ∀ b, c.all b → Y b) (hYlt : ∀ b, Y b → b < W.heap.size) (hlW : W.heap[l]? = some (r.obj .ready none)) (hnl : ¬ c.all l)
    (hwW : ∀ p v, h p = some v → W.cell? p = some v)
    (hb3 : Base (rE E u ⟨h, c.loc, c.arr, c.Y⟩ W l [(l, r.obj .busy none), (r.D, .deferred (some []))]) U3 c3 a3 w3) (hh3 : ∀ key x, look s3 key = some x → Holds c3 a3 w3 key x) (hl3 : Le s3 bx') (hhi : bx'.all (hiKey u) = true)
    (hslots : slots.all (slotOk bx') = true) (hhs : ∀ key x, look (slots ++ bx) key = some x → Holds c a W key x) (hlY : Y l) (_hDY : Y r.D) :
    ∃ h' Y', PostJ h Y W h' Y' (w3.putObj l (r.obj (rst j) j)) ∧ JR E u a B1 l r (slots ++ bx') j h' Y' (w3.putObj l (r.obj (rst j) j)) := by
  obtain ⟨Er, hEr⟩ : ∃ Er, Er = rE E u ⟨h, c.loc, c.arr, c.Y⟩ W l [(l, r.obj .busy none), (r.D, .deferred (some []))] := ⟨_, rfl⟩
  rw [← hEr] at hb3
  have eB : Er.B = W.heap.size := by rw [hEr]; rfl
  have efs : Er.fs = u := by rw [hEr]; rfl
  have ec0 : Er.c0 = ⟨h, c.loc, c.arr, c.Y⟩ := by rw [hEr]; rfl
  have ew0 : Er.w0 = W := by rw [hEr]; rfl
  have eh0 : Er.h0 = h := by rw [hEr]; rfl
  obtain ⟨p1, p2, p3⟩ := hb3.pin (l, r.obj .busy none) (by rw [hEr]; simp [rE])
  obtain ⟨q1, q2, q3⟩ := hb3.pin (r.D, .deferred (some [])) (by rw [hEr]; simp [rE])
  simp only at p1 p3 q1 q3
  have hXof : ∀ b, Er.X b → (Er.c0.out u b) ∨ b = l ∨ b = r.D := by
    rintro b (h | ⟨p, hp, rfl⟩)
    · rw [efs] at h; exact .inl h
    · rw [hEr] at hp
      simp only [rE, List.mem_cons, List.not_mem_nil, or_false] at hp
      rcases hp with rfl | rfl
      · exact .inr (.inl rfl)
      · exact .inr (.inr rfl)
  have hc0all : ∀ b, Er.c0.out u b → c.all b := by
    rw [ec0]
    rintro b (hy | ⟨k, _, hk⟩ | ⟨k, m, hv, _, hk⟩)
    · exact .inl hy
    · exact .inr (.inl ⟨k, hk⟩)
    · exact .inr (.inr ⟨k, m, hv, hk⟩)
  obtain ⟨h', hh'⟩ : ∃ h', h' = Er.fin c3 w3 := ⟨_, rfl⟩
  obtain ⟨c4, hc4⟩ : ∃ c4, c4 = c3.pub u h' := ⟨_, rfl⟩
  obtain ⟨g1, g2, g3⟩ := hb3.pub
  rw [efs, ← hh', ← hc4] at g1 g3
  rw [eh0, ← hh'] at g2
  rw [eh0, eB] at g3
  have c4h : c4.h = h' := by rw [hc4]; rfl
  have c4Y : c4.Y = c3.Y := by rw [hc4]; rfl
  have sub : ∀ b, c4.all b → c3.all b := by
    rw [hc4]
    rintro b (hy | ⟨k, hk⟩ | ⟨k, m, hv, hk, hbk⟩)
    · exact .inl hy
    · exact .inr (.inl ⟨k, (pub_loc hk).2⟩)
    · exact .inr (.inr ⟨k, m, hv, (pub_arr hk).2, hbk⟩)
  have c4out : ∀ b, c4.all b → c4.out u b := by
    rintro b (hy | ⟨k, hk⟩ | ⟨k, m, hv, hk, hbk⟩)
    · exact .inl hy
    · exact .inr (.inl ⟨k, (g1.loc k b hk).1, hk⟩)
    · exact .inr (.inr ⟨k, m, hv, (g1.arr k m hv b hk hbk).1, hk, hbk⟩)
  have old : ∀ b, b < W.heap.size → c4.all b → c.all b := by
    intro b hlt h4
    have hX : Er.X b := by
      have := hb3.out_X (b := b) (by rw [efs]; have := c4out b h4; rw [hc4] at this; exact pub_out this) (by rw [eB]; exact hlt)
      exact this
    rcases hXof b hX with h | rfl | rfl
    · exact hc0all b h
    · exact absurd (sub _ h4) p1
    · exact absurd (sub _ h4) q1
  have lt4 : ∀ b, c4.all b → b < w3.heap.size := fun b h4 => hb3.out_lt (b := b) (by rw [efs]; have := c4out b h4; rw [hc4] at this; exact pub_out this)
  have hs3 : W.heap.size ≤ w3.heap.size := by have := hb3.below.size; rw [ew0] at this; exact this
  obtain ⟨w4, hw4⟩ : ∃ w4, w4 = w3.putObj l (r.obj (rst j) j) := ⟨_, rfl⟩
  rw [← hw4]
  have hsz : w4.heap.size = w3.heap.size := by rw [hw4]; simp
  have hoth : ∀ k, k ≠ l → w4.heap[k]? = w3.heap[k]? := fun k hk => by rw [hw4]; exact World.putObj_heap_other hk
  have hcell : ∀ p, w4.cell? p = w3.cell? p := fun p => by rw [hw4]; exact cell_putObj p3 rfl rfl p
  have hrec4 : w4.heap[l]? = some (r.obj (rst j) j) := by rw [hw4]; exact World.putObj_heap_same (Array.getElem?_eq_some_iff.1 p3).1
  have e3 : w4.os = W.os ∧ w4.tape = W.tape ∧ w4.output = W.output := by
    have := hb3.below
    rw [ew0] at this
    rw [hw4]
    exact ⟨this.os, this.tape, this.output⟩
  have same : ∀ k, k < W.heap.size → ¬ c.all k → k ≠ l → w4.heap[k]? = W.heap[k]? := by
    intro k hk hn hkl
    rw [hoth k hkl]
    by_cases hkD : k = r.D
    · subst hkD
      obtain ⟨D', f1, _, _, f4⟩ := hb.dfr.2 _ hD
      have : r.D = D' := by have := congrArg Deferred.target f1; simpa using this
      rw [q3, this, f4]
    · have := hb3.below.block k (by rw [eB]; exact hk) (fun hX => by
        rcases hXof k hX with h | rfl | rfl
        · exact hn (hc0all _ h)
        · exact hkl rfl
        · exact hkD rfl)
      rw [ew0] at this
      exact this
  have hw4h : ∀ p v, h' p = some v → w4.cell? p = some v := fun p v hp => by rw [hcell]; have := g1.hw p v; rw [c4h] at this; exact this hp
  have hlowE : ∀ k, k < E.B → ¬ E.X k → w4.heap[k]? = W.heap[k]? := by
    intro k hk hX
    refine same k (Nat.lt_of_lt_of_le hk hb.hB) ?_ (by omega)
    rintro (hy | ⟨n, hn⟩ | ⟨n, m, hv, hn, hbn⟩)
    · exact hX ((hb.Y k hy).2.1 hk)
    · exact Env.ok_turn (hb.loc n k hn).1 hk hX rfl
    · exact Env.ok_turn (hb.arr n m hv k hn hbn).1 hk hX rfl
  have base4 : Base E u c4 a w4 := by
    refine ⟨hb.below.trans ⟨e3.1, e3.2.1, e3.2.2, by omega, hlowE⟩, by have := hb.hB; omega, hb.nt, ⟨hb.dfr.1, fun d hd => ?_⟩, (fun p hp => by rw [hpins] at hp; cases hp), fun p v hp => hw4h p v (by rw [← c4h]; exact hp), ?_, ?_, ?_, ?_, g1.none, ?_, ?_, ?_⟩
    · obtain ⟨D', f1, f2, f3, f4⟩ := hb.dfr.2 d hd
      have hlt := (Array.getElem?_eq_some_iff.1 f4).1
      refine ⟨D', f1, f2, fun h4 => f3 (old D' hlt h4), (same D' hlt f3 ?_).trans f4⟩
      rintro rfl
      rw [hlW] at f4; cases f4
    · rw [c4h]; exact Mem.le_trans hb.hle (Mem.le_trans hle g2)
    · intro p v hp
      rw [c4h] at hp
      rcases g3 p v hp with h1 | ⟨h1, h2⟩
      · have hlt : p.block < W.heap.size := block_lt_of_cell (hwW p v h1)
        rcases hnw p v h1 with h5 | ⟨h5, h6⟩
        · rcases hb.hnew p v h5 with h7 | ⟨h7, h8⟩
          · exact .inl h7
          · refine .inr ⟨h7, fun hy => ?_⟩
            rcases old _ hlt (.inl hy) with hy2 | ⟨k, hk⟩ | ⟨k, m, hv, hk, hbk⟩
            · exact h8 hy2
            · have := (hb.loc k _ hk).2.2.1 p.off
              rw [← spot_none (hb.hw p v h5), h5] at this; cases this
            · have := (hb.arr k m hv _ hk hbk).2.2.1 p.off
              rw [← spot_none (hb.hw p v h5), h5] at this; cases this
        · exact .inr ⟨h5, fun hy => h6 (old _ hlt (.inl hy))⟩
      · exact .inr ⟨Nat.le_trans hb.hB h1, fun hy => h2 (.inl hy)⟩
    · intro k b hk
      obtain ⟨f1, f2, f3, f4, f5⟩ := g1.loc k b hk
      have h7 := hb3.loc0 k b (by rw [efs]; exact f1) (by rw [hc4] at hk; exact (pub_loc hk).2)
      rw [ec0] at h7
      exact ⟨(hb.loc k b h7).1, by omega, f3, f4, f5⟩
    · intro k m hv b hk hbk
      obtain ⟨f1, f2, f3, f4⟩ := g1.arr k m hv b hk hbk
      obtain ⟨m0, hv0, lv0, k1, k2, k3, k4, k5⟩ := hb3.arr0 k m hv true (by rw [efs]; exact f1) (by rw [hc4] at hk; exact (pub_arr hk).2)
      rw [ec0] at k1
      have := k4 rfl
      subst this
      refine ⟨?_, by omega, f3, f4⟩
      rcases k5 b hbk with h | h
      · exact (hb.arr k m0 hv0 b k1 h).1
      · exact .inl (by rw [eB] at h; have := hb.hB; omega)
    · intro b hy
      obtain ⟨f1, f2, f3⟩ := g1.Y b hy
      refine ⟨by omega, fun hlt => ?_, f2, f3⟩
      rcases old b (Nat.lt_of_lt_of_le hlt hb.hB) (.inl hy) with hy2 | ⟨k, hk⟩ | ⟨k, m, hv, hk, hbk⟩
      · exact (hb.Y b hy2).2.1 hlt
      · exact ((hb.loc k b hk).1.resolve_left (by omega)).2
      · exact ((hb.arr k m hv b hk hbk).1.resolve_left (by omega)).2
    · intro k b hk hkb
      have h7 := hb3.loc0 k b (by rw [efs]; exact (g1.loc k b hkb).1) (by rw [hc4] at hkb; exact (pub_loc hkb).2)
      rw [ec0] at h7
      exact hb.loc0 k b hk h7
    · intro k m hv lv hk hka
      rw [hc4] at hka
      obtain ⟨f1, f2⟩ := pub_arr hka
      obtain ⟨m0, hv0, lv0, k1, k2, k3, k4, k5⟩ := hb3.arr0 k m hv lv (by rw [efs]; exact f1) f2
      rw [ec0] at k1
      obtain ⟨m1, hv1, lv1, n1, n2, n3, n4, n5⟩ := hb.arr0 k m0 hv0 lv0 hk k1
      refine ⟨m1, hv1, lv1, n1, by omega, fun e => by rw [k3 (by omega), n3 (by omega)], fun e => n4 (k4 e), fun b hb' => ?_⟩
      rcases k5 b hb' with h | h
      · exact n5 b h
      · exact .inr (by rw [eB] at h; have := hb.hB; omega)
  refine ⟨h', fun b => Y b ∨ c4.all b, ⟨⟨e3.1, e3.2.1, e3.2.2, by omega, fun k hk hn => same k hk (fun h => hn (hall k h)) (fun e => hn (e ▸ hlY))⟩, g2, ?_, hw4h, ?_, ?_⟩, c4, base4, by rw [c4h]; exact Mem.le_refl _, fun p v hp => .inl (by rw [c4h]; exact hp), fun b hb' => .inl (hlow b hb'), fun b h4 => .inr h4, hrec4, fun h4 => p1 (sub l h4), ?_⟩
  · intro p v hp
    rcases g3 p v hp with h1 | ⟨h1, h2⟩
    · exact .inl h1
    · refine .inr ⟨h1, fun hy => ?_⟩
      rcases hy with hy | hy
      · have := hYlt _ hy; omega
      · exact h2 (c4out _ hy)
  · rintro b (hy | hy)
    · have := hYlt b hy; omega
    · have := lt4 b hy; omega
  · rintro b (hy | hy) hlt
    · exact hy
    · exact hall b (old b hlt hy)
  · have bxh : ∀ key x, look bx' key = some x → Holds c4 a w4 key x := by
      intro key x hx
      have h7 := hh3 key x (hl3.mem hx)
      have h8 : Holds (c3.pub u h') a w3 key x := by
        refine Holds.pub (fs := u) (w := w3) (by rw [hh']; exact Env.fin_le hb3) ?_ (fun p v hp => by have := g1.hw p v; rw [c4h] at this; exact this hp) (BelX.refl _ _ _) (fun _ _ => rfl) h7 (List.all_eq_true.1 hhi (key, x) (look_mem hx))
        intro q v hq
        rw [hh'] at hq
        unfold Env.fin at hq
        split at hq
        · exact .inl hq
        · rename_i hc; exact .inr fun hy => hc (.inr (.inl hy))
      rw [← hc4] at h8
      exact keep_holds (fun b hb' => hoth b fun e => p1 (sub l (e ▸ hb'))) (fun p v hp => hw4h p v (by rw [← c4h]; exact hp)) ⟨by rw [hw4]; rfl, by rw [hw4]; rfl, by rw [hw4]; rfl, by omega, fun k hk => by omega⟩ rfl h8
    intro key x hx
    rw [look_append] at hx
    cases hk : look slots key with
    | none => rw [hk] at hx; exact bxh key x hx
    | some y =>
      rw [hk] at hx
      have hxy : y = x := by simpa using hx
      subst hxy
      clear hx
      have hs := List.all_eq_true.1 hslots (key, y) (look_mem hk)
      simp only [slotOk, Bool.and_eq_true, Nat.blt_eq] at hs
      have h7 := hhs key y (by rw [look_append, hk]; rfl)
      unfold Holds at h7 ⊢
      rw [if_pos hs.1] at h7 ⊢
      have hs2 := hs.2
      rw [Bool.or_eq_true] at hs2
      rcases hs2 with hs2 | hs2
      · exact (h7.cut hs2).mono ⟨by show Mem.le c.h c4.h; rw [c4h]; exact Mem.le_trans hle g2, (fun k b e => by simp [Ctx.cut] at e), (fun k m hv lv e => by simp [Ctx.cut] at e)⟩
      · cases y <;> first | cases hs2 | skip
        rename_i k off
        simp only [Bool.and_eq_true, Nat.blt_eq] at hs2
        obtain ⟨b, e1, e2⟩ := h7
        refine ⟨b, ?_, e2⟩
        have hs3' := hs2.2
        cases hlk : look bx' (1000 + k) with
        | none => rw [hlk] at hs3'; cases hs3'
        | some z =>
          rw [hlk] at hs3'
          cases z <;> first | cases hs3' | skip
          obtain ⟨b', T, vs, f1, f2, f3⟩ := box_of (bxh _ _ hlk) hs2.1
          have h9 : c3.loc k = some b' ∧ k ∈ u := by rw [hc4] at f1; exact ⟨(pub_loc f1).2, (pub_loc f1).1⟩
          have h8 := hb3.loc0 k b' (by rw [efs]; exact h9.2) h9.1
          rw [ec0] at h8
          have : c.loc k = some b' := h8
          rw [e1] at this
          cases this
          exact f1
end
end Go.Ab
