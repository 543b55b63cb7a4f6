import Derived.Test.YtpfepjgnojfppaaGreatDoorGh
import Derived.Test.YtpfepjgnojfppaaGreatDoorKp
import Derived.Test.YtpfepjgnojfppaaGreatDoorTz
namespace Go.Proofs.YtpfepjgnojfppaaGreatDoor
open Go.Ab
structure PreOk (n : Nat) (o : List Int) : Prop where
  rng : ∀ x ∈ o, 0 ≤ x ∧ x < (n : Int)
  dis : ∀ (i j : Nat) (hi : i < o.length) (hj : j < o.length), i < j → o[i] ≠ o[j]
theorem PreOk.ord {n : Nat} {o : List Int} (h : PreOk n o) (hl : o.length = n) : OrdOkN n o := ⟨hl, h.rng, h.dis⟩
theorem free_not {o : List Int} {i : Nat} (h : freeI o i = true) : ∀ x ∈ o, x ≠ (i : Int) := by
  unfold freeI at h
  rw [Bool.not_eq_true', List.any_eq_false] at h
  intro x hx e
  exact h x hx (decide_eq_true e.symm)
theorem PreOk.snoc {n : Nat} {o : List Int} {i : Nat} (h : PreOk n o) (hi : i < n) (hf : freeI o i = true) : PreOk n (o ++ [(i : Int)]) := by
  refine ⟨fun x hx => ?_, fun j k hj hk hjk => ?_⟩
  · rcases List.mem_append.1 hx with hx | hx
    · exact h.rng x hx
    · rw [List.mem_singleton] at hx; omega
  · rw [List.length_append, List.length_singleton] at hj hk
    rw [List.getElem_append_left (by omega)]
    by_cases e : k < o.length
    · rw [List.getElem_append_left e]; exact h.dis j k (by omega) e hjk
    · rw [List.getElem_append_right (by omega)]
      simp only [List.getElem_singleton]
      exact free_not hf _ (List.getElem_mem _)
theorem pre_nil (n : Nat) : PreOk n [] := ⟨(fun x hx => by cases hx), (fun i j hi _ _ => by simp at hi)⟩
theorem mom_snoc (l : List Job) (c : Changes) (o : List Int) (x : Int) : momTo l c (o ++ [x]) (o ++ [x]).length = afterT l c (momTo l c o o.length) x := by
  unfold momTo
  rw [List.take_length, List.take_length, List.foldl_append]
  rfl
def QOk (l : List Job) (c : Changes) (q : List Int × Moment) : Prop := OrdOkN l.length q.1 ∧ q.2 = momTo l c q.1 q.1.length
theorem ordTo_ok {l : List Job} {c : Changes} {f : Nat} {o : List Int} {q : List Int × Moment} (ih : ∀ o q, o.length + f = l.length → PreOk l.length o → (q.1 = [] ∨ QOk l c q) → ((ordersGo l c f o (momTo l c o o.length) q).1 = [] ∨ QOk l c (ordersGo l c f o (momTo l c o o.length) q)))
    (ho : o.length + (f + 1) = l.length) (hp : PreOk l.length o) (hq : q.1 = [] ∨ QOk l c q) : ∀ n, n ≤ l.length → ((ordTo l c f o (momTo l c o o.length) q n).1 = [] ∨ QOk l c (ordTo l c f o (momTo l c o o.length) q n))
  | 0, _ => hq
  | n + 1, h => by
    have h1 := ordTo_ok ih ho hp hq n (by omega)
    cases hf : freeI o n with
    | true =>
      rw [ordTo_T hf, ← mom_snoc]
      exact ih _ _ (by rw [List.length_append, List.length_singleton]; omega) (hp.snoc (by omega) hf) h1
    | false =>
      rw [ordTo_F hf]
      exact h1
theorem go_ok {l : List Job} {c : Changes} : ∀ (f : Nat) (o : List Int) (q : List Int × Moment), o.length + f = l.length → PreOk l.length o → (q.1 = [] ∨ QOk l c q) → ((ordersGo l c f o (momTo l c o o.length) q).1 = [] ∨ QOk l c (ordersGo l c f o (momTo l c o o.length) q))
  | 0, o, q, ho, hp, hq => by
    show (stepB q o (momTo l c o o.length)).1 = [] ∨ QOk l c (stepB q o (momTo l c o o.length))
    unfold stepB
    split
    · exact .inr ⟨hp.ord (by omega), rfl⟩
    · exact hq
  | f + 1, o, q, ho, hp, hq => by
    rw [ordersGo_succ]
    exact ordTo_ok (go_ok f) ho hp hq _ (Nat.le_refl _)
theorem go_q {l : List Job} {c : Changes} (hl : 0 < l.length) {f : Nat} {o : List Int} {q : List Int × Moment} (ho : o.length + f = l.length) (hp : PreOk l.length o) (hq : q.1 = [] ∨ QOk l c q) : QOk l c (ordersGo l c f o (momTo l c o o.length) q) :=
  (go_ok f o q ho hp hq).resolve_left (orders_ne l c hl f o _ q ho)
theorem best_q {l : List Job} (c : Changes) (hl : 0 < l.length) : QOk l c (bestT l c) := go_q hl (by simp) (pre_nil _) (.inl rfl)
end Go.Proofs.YtpfepjgnojfppaaGreatDoor
