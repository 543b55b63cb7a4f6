/-
  Abstract states: a library's function that makes an empty slice with room, for the activation's own.
-/
import Derived.Test.YtjamlnkjfkcdkaaGreatDoorFt
import Derived.Shelf.Spec.SlicesGrow
namespace Go.Ab
open Go.RowKit
/-- slices.Grow of the nil slice: an empty slice with room for n elements, of new memory. -/
def GrowsNil (P : Program) (f e sz bytes : Nat) : Prop :=
  ∀ (n : Nat) (w : World), 0 < n → n * bytes ≤ 140737488355328 → n ≤ 4611686018427387904 →
    Calls P f #[.slice none 0 0, .int .i64 n] w fun en w' => ∃ cap cells, en = .returned (.slice (some ⟨w.heap.size, 0, none⟩) 0 cap) ∧ w' = w.drew.alloc (.cells cells e) ∧ cells.size = cap * sz ∧ cap ≤ maxLen
section
variable {E : Env} {all : Array Oper} {s r r1 r2 r3 rg : St} {d ty : Nat} {pos : String} {after : Array Edge} {guard : Option (Nat × Bool)} {x y z : Operand}
theorem S.growNil {f k e sz bytes n : Nat} {i : Int} {at_ : Array TypeId} (hf : GrowsNil E.P f e sz bytes) (hcall : ∀ args w, (callFunc f args).run E.P w = .ok (.enter f args) w) (hg : Gd all s guard rg) (hd : (Nat.blt d 1000 && Nat.blt d E.nt) = true)
    (hy : OpS s y (.int .i64 i) r) (hi : i = n) (h0 : 0 < n) (hb1 : n * bytes ≤ 140737488355328) (hb2 : n ≤ 4611686018427387904) (hk9 : E.fs.contains k = false := by rfl) (hk1 : Nat.blt k 1000 = true := by rfl) :
    St1 E all ⟨some d, .call { callee := .value (.func f), args := #[.const (.slice none 0 0), y], argTypes := at_ }, ty, pos, after, guard⟩ s (rg ++ r) ((d, .own k 0) :: [(2000 + k, .arr sz [])]) [k] := by
  simp only [Bool.and_eq_true, Nat.blt_eq] at hd
  rw [Nat.blt_eq] at hk1
  refine ⟨?_, hg.looks.app hy.looks⟩
  intro U c a w hb hr hal next Q hnx
  have hw := hg.wanted (o := ⟨some d, .call { callee := .value (.func f), args := #[.const (.slice none 0 0), y], argTypes := at_ }, ty, pos, after, guard⟩) (fun p hp => hr p (List.mem_append_left _ hp))
  obtain ⟨hyv, _⟩ := int_of (hy.rep (c := c) (a := a) (w := w) fun p hp => hr p (List.mem_append_right _ hp))
  subst hi
  have hkU : k ∉ U := hal k (by simp)
  unfold opIn
  rw [if_pos hw]
  refine ⟨fun _ _ => trivial, ?_⟩
  rw [Oper.semAt_eq _ _ _ fun cl he => by cases he]
  have hrun : (execOp a.eval ⟨some d, .call { callee := .value (.func f), args := #[.const (.slice none 0 0), y], argTypes := at_ }, ty, pos, after, guard⟩).run E.P w = .ok (.enter f #[.slice none 0 0, .int .i64 n]) w := by
    have hfo : a.eval (.func f) = .func (.func f) #[] #[] := rfl
    have hco : a.eval (.const (.slice none 0 0)) = .slice none 0 0 := rfl
    simp [execOp, resolve, hfo, hco, hyv, Deferred.ofValue, invoke, hcall]
  rw [hrun]
  refine ⟨(fun h => by cases h), ?_⟩
  have h1 : CallsIn E.F (0 - 1) E.P f #[.slice none 0 0, .int .i64 n] w _ := (callsIn_wide (n := 0)).2 (hf n w h0 hb1 hb2)
  refine h1.mono ?_
  rintro en w' ⟨cap, cells, rfl, rfl, hcs, hcap⟩
  have hB : Below w.heap.size w (w.drew.alloc (.cells cells e)) := ((Below.refl w.heap.size w).drew).alloc (Nat.le_refl _) (.cells cells e)
  have hsz : w.heap.size < (w.drew.alloc (.cells cells e)).heap.size := by
    show w.heap.size < (w.heap.push _).size
    rw [Array.size_push]
    omega
  obtain ⟨g1, g2, g3, g4⟩ := hb.ownNew (nfs hk9) hkU (n := 0) (v := .slice (some ⟨w.heap.size, 0, none⟩) 0 cap) hB (.inr ⟨rfl, hsz⟩)
  have hdt : d < a.tmps.size := by rw [hb.nt]; exact hd.2
  have hhold := Holds.mkArr (a := a) (e := e) (rows := []) (vs := []) (sz := sz) (by omega) g3 (show (w.drew.alloc (.cells cells e)).ownsRow 0 e sz (.slice (some ⟨w.heap.size, 0, none⟩) 0 cap) 0 [] from ⟨by simp, .inr ⟨w.heap.size, cap, cells, rfl, Nat.zero_le _, heap_alloc_new w.drew _, Nat.zero_le _, hcap, hcs, by simp⟩⟩) (fun _ h => by cases h) trivial
  refine hnx _ _ _ (g1.put _ _) g2 ?_ ?_
  · intro p hp
    simp only [List.mem_cons, List.not_mem_nil, or_false] at hp
    rcases hp with rfl | rfl
    · unfold Holds
      rw [if_pos hd.1, getD_put hdt]
      exact ⟨⟨_, _, _, rfl⟩, 0, _, _, g3, Nat.le_refl _, fun _ => rfl⟩
    · exact hhold.2.put (by show d ≠ 2000 + k; omega) _
  · intro key u hk hu
    have hne : d ≠ key := hk (d, .own k 0) (by simp)
    by_cases h1 : key < 1000
    · refine Holds.put ?_ hne _
      unfold Holds at hu ⊢
      rw [if_pos h1] at hu ⊢
      exact hu.mono g2
    · exact (g4 key u h1 hu).put hne _
end
/-- What the library's contract of slices.Grow says at the nil slice. -/
theorem growsNil_of {P : Program} {ρ : Go.Shelf.Ren} (L : Go.Proofs.Lays8.n4 P ρ) {t e sz bytes f : Nat} (hA : ApI P t e sz bytes) (he : ρ.t 25 = e) (hf : ρ.f 4 = f) : GrowsNil P f e sz bytes := by
  subst he
  subst hf
  intro n w h0 h1 h2
  obtain ⟨i0, z, hi, hz, hs, hb, hzs⟩ := hA.ex
  subst hs
  subst hb
  refine (Go.Proofs.Any8.slices_Grow_grow L i0 z hi hz hA.pos none 0 0 n [] w (Nat.le_refl _) (by omega) (by simpa using h1) (by omega) (by simp) (fun _ => rfl) (fun a h => by cases h)).mono ?_
  rintro en w' ⟨rfl, rfl⟩
  refine ⟨_, _, rfl, rfl, ?_, grownCap_le_maxLen w (0 + n) 0 _ (by unfold maxLen; omega)⟩
  have hge := grownCap_ge w (0 + n) 0 (ρ.t 25)
  rw [Array.size_append, Array.size_append, size_zeroCells, size_zeroCells, hzs, List.size_toArray, List.length_nil]
  simp only [Nat.zero_add, Nat.sub_zero, ← Nat.add_mul] at *
  rw [Nat.add_sub_cancel' hge]
end Go.Ab
