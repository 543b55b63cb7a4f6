import Derived.Test.YtbnimikgjjjcaaaGreatDoorKr
import Derived.Test.YtbnimikgjjjcaaaGreatDoorTy
namespace Go.Proofs.YtbnimikgjjjcaaaGreatDoor
open Go.Ab
def LeM (a b : Moment) : Prop := a.late < b.late ∨ (a.late = b.late ∧ a.changes ≤ b.changes)
theorem LeM.refl (a : Moment) : LeM a a := .inr ⟨rfl, Int.le_refl _⟩
theorem LeM.trans {a b c : Moment} (h : LeM a b) (h2 : LeM b c) : LeM a c := by unfold LeM at *; omega
theorem stepB_le (q : List Int × Moment) (o : List Int) (m : Moment) : LeM (stepB q o m).2 m ∧ (q.1 ≠ [] → LeM (stepB q o m).2 q.2) := by
  unfold stepB
  split
  · rename_i h
    refine ⟨LeM.refl _, fun h0 => ?_⟩
    rcases h with h | h
    · exact absurd h h0
    · unfold LeM; rcases h with h | h
      · exact .inl h
      · exact .inr ⟨h.1, Int.le_of_lt h.2⟩
  · rename_i h
    refine ⟨?_, fun _ => LeM.refl _⟩
    have h1 : ¬ (m.late < q.2.late) := fun e => h (.inr (.inl e))
    have h2 : ¬ (m.late = q.2.late ∧ m.changes < q.2.changes) := fun e => h (.inr (.inr e))
    unfold LeM
    omega
theorem ordTo_mono {l : List Job} {c : Changes} {f : Nat} {o : List Int} {m : Moment} (hl : 0 < l.length) (ho : o.length + (f + 1) = l.length) (ih : ∀ o m q, o.length + f = l.length → q.1 ≠ [] → LeM (ordersGo l c f o m q).2 q.2) : ∀ (q : List Int × Moment) (n k : Nat), n ≤ k → (ordTo l c f o m q n).1 ≠ [] → (ordTo l c f o m q k).1 ≠ [] ∧ LeM (ordTo l c f o m q k).2 (ordTo l c f o m q n).2
  | q, n, 0, h, h0 => by
    obtain rfl : n = 0 := by omega
    exact ⟨h0, LeM.refl _⟩
  | q, n, k + 1, h, h0 => by
    by_cases e : n = k + 1
    · subst e; exact ⟨h0, LeM.refl _⟩
    · obtain ⟨h1, h2⟩ := ordTo_mono hl ho ih q n k (by omega) h0
      cases hf : freeI o k with
      | true =>
        rw [ordTo_T hf]
        have hlen : (o ++ [(k : Int)]).length + f = l.length := by rw [List.length_append, List.length_singleton]; omega
        exact ⟨orders_ne l c hl f _ _ _ hlen, (ih _ _ _ hlen h1).trans h2⟩
      | false =>
        rw [ordTo_F hf]
        exact ⟨h1, h2⟩
theorem go_mono {l : List Job} {c : Changes} (hl : 0 < l.length) : ∀ (f : Nat) (o : List Int) (m : Moment) (q : List Int × Moment), o.length + f = l.length → q.1 ≠ [] → LeM (ordersGo l c f o m q).2 q.2
  | 0, o, m, q, _, hq => (stepB_le q o m).2 hq
  | f + 1, o, m, q, ho, hq => by
    rw [ordersGo_succ]
    exact (ordTo_mono hl ho (go_mono hl f) q 0 l.length (Nat.zero_le _) hq).2
theorem go_best {l : List Job} {c : Changes} (hl : 0 < l.length) {p : List Int} (hp : OrdOkN l.length p) : ∀ (f : Nat) (o : List Int) (q : List Int × Moment), o.length + f = l.length → p.take o.length = o → LeM (ordersGo l c f o (momTo l c o o.length) q).2 (momTo l c p p.length)
  | 0, o, q, ho, he => by
    have hpl := hp.len
    have : p = o := by rw [← he, List.take_of_length_le (by omega)]
    subst this
    exact (stepB_le q p _).1
  | f + 1, o, q, ho, he => by
    have hpl := hp.len
    have hk : o.length < p.length := by omega
    have hr := hp.rng _ (List.getElem_mem hk)
    obtain ⟨i, hi⟩ : ∃ i : Nat, p[o.length] = (i : Int) := ⟨p[o.length].toNat, by omega⟩
    have hfree : freeI o i = true := by
      unfold freeI
      rw [Bool.not_eq_true', List.any_eq_false]
      intro x hx e
      rw [← he] at hx
      obtain ⟨j, hj, rfl⟩ := List.mem_take_iff_getElem.1 hx
      have := hp.dis j o.length (by omega) hk (by omega)
      exact this ((of_decide_eq_true e).symm.trans hi.symm |>.symm ▸ rfl)
    have hlen : (o ++ [(i : Int)]).length + f = l.length := by rw [List.length_append, List.length_singleton]; omega
    have ht : p.take (o ++ [(i : Int)]).length = o ++ [(i : Int)] := by
      rw [List.length_append, List.length_singleton, List.take_succ_eq_append_getElem hk, he, hi]
    rw [ordersGo_succ]
    have h1 := go_best (c := c) hl hp f (o ++ [(i : Int)]) (ordTo l c f o (momTo l c o o.length) q i) hlen ht
    rw [mom_snoc, ← ordTo_T hfree] at h1
    have h0 : (ordTo l c f o (momTo l c o o.length) q (i + 1)).1 ≠ [] := by
      rw [ordTo_T hfree]
      exact orders_ne l c hl f _ _ _ hlen
    exact (ordTo_mono hl ho (go_mono hl f) q (i + 1) l.length (by omega) h0).2.trans h1
theorem best_le {l : List Job} {c : Changes} (hl : 0 < l.length) {p : List Int} (hp : OrdOkN l.length p) : LeM (bestT l c).2 (momTo l c p p.length) := go_best hl hp l.length [] ([], ⟨0, 0, 0, 0⟩) (by simp) (by simp)
theorem BothOk.jobs {l : List Job} {c : Changes} (h : BothOk l c) : JobsOk l := ⟨⟨h.len.1, h.len.2⟩, fun j hj => by have := h.job j hj; omega⟩
theorem sumS_nn0 {l : List Job} (ht : ∀ i : Nat, i < l.length → 0 ≤ tickAt l i) : ∀ b : List Int, (∀ x ∈ b, 0 ≤ x ∧ x < (l.length : Int)) → 0 ≤ sumS l b
  | [], _ => Int.le_refl _
  | x :: b, hb => by
    have h1 := hb x List.mem_cons_self
    have h2 := ht x.toNat (by omega)
    rw [Int.toNat_of_nonneg h1.1] at h2
    have h3 := sumS_nn0 ht b fun y hy => hb y (List.mem_cons_of_mem _ hy)
    simp only [sumS] at *
    omega
theorem sub_sum {l : List Job} (ht : ∀ i : Nat, i < l.length → 0 ≤ tickAt l i) : ∀ (a b : List Int), a.Nodup → (∀ x ∈ a, x ∈ b) → (∀ x ∈ b, 0 ≤ x ∧ x < (l.length : Int)) → sumS l a ≤ sumS l b
  | [], b, _, _, hb => sumS_nn0 ht b hb
  | x :: a, b, hn, hs, hb => by
    rw [List.nodup_cons] at hn
    have h1 := sub_sum ht a (b.erase x) hn.2 (fun y hy => (List.mem_erase_of_ne (fun e => hn.1 (by rw [← e]; exact hy))).2 (hs y (List.mem_cons_of_mem _ hy))) (fun y hy => hb y (List.mem_of_mem_erase hy))
    rw [sumS_erase l b x (hs x List.mem_cons_self)]
    simp only [sumS]
    omega
theorem sumS_app (l : List Job) : ∀ a b : List Int, sumS l (a ++ b) = sumS l a + sumS l b
  | [], b => by simp [sumS]
  | x :: a, b => by
    have := sumS_app l a b
    rw [List.cons_append]
    simp only [sumS]
    omega
theorem mom_time {l : List Job} {c : Changes} {o : List Int} {k : Nat} (h : k < o.length) : (momTo l c o (k + 1)).time = (momTo l c o k).time + (chgAt c (momTo l c o k).setup (jobAt l o[k]).setup + tickAt l o[k]) := by
  rw [mom_succ h]
  rfl
theorem late_mono {l : List Job} {c : Changes} {o : List Int} {k : Nat} (h : k < o.length) : (momTo l c o k).late ≤ (momTo l c o (k + 1)).late := by
  rw [late_succ h]
  exact maxI_l _ _
theorem late_sum {l : List Job} {c : Changes} (hB : BothOk l c) {o : List Int} (ho : OrdOkN l.length o) (d : Int) : ∀ k, k ≤ o.length →
    sumS l ((o.take k).filter fun x => decide (dueAt l x ≤ d)) ≤ (momTo l c o k).time ∧ (((o.take k).filter fun x => decide (dueAt l x ≤ d)) ≠ [] → sumS l ((o.take k).filter fun x => decide (dueAt l x ≤ d)) - d ≤ (momTo l c o k).late)
  | 0, _ => by
    refine ⟨?_, fun h => absurd rfl h⟩
    show (0 : Int) ≤ 0
    exact Int.le_refl _
  | k + 1, h => by
    have hk : k < o.length := by omega
    obtain ⟨h1, h2⟩ := late_sum hB ho d k (by omega)
    have hr := ho.rng _ (List.getElem_mem hk)
    have ha := hB.jobs.at hr.1 hr.2
    have hm := mom_okN hB ho k (by omega)
    have hc : 0 ≤ chgAt c (momTo l c o k).setup (jobAt l o[k]).setup := by
      obtain ⟨hj1, hj2⟩ := job_at hr.1 hr.2
      have hjb := hB.job _ (List.getElem_mem hj1)
      have hjs := hB.set _ (List.getElem_mem hj1)
      obtain ⟨m1, m2, m3, m4⟩ := hm
      obtain ⟨hc1, hc2, hc3, hc4⟩ := chg_at hB m2 ⟨hjb.1.1, hjs⟩
      rw [hj2]
      exact hc4.1
    have ht := mom_time (l := l) (c := c) hk
    have hlm := late_mono (l := l) (c := c) hk
    have hls := late_succ (l := l) (c := c) hk
    rw [List.take_succ_eq_append_getElem hk, List.filter_append]
    by_cases e : dueAt l o[k] ≤ d
    · have hf : [o[k]].filter (fun x => decide (dueAt l x ≤ d)) = [o[k]] := by rw [List.filter_cons, if_pos (decide_eq_true e), List.filter_nil]
      rw [hf, sumS_app]
      have h3 : sumS l [o[k]] = tickAt l o[k] := by simp [sumS]
      rw [h3]
      have h4 := maxI_r (momTo l c o k).late ((momTo l c o (k + 1)).time - dueAt l o[k])
      rw [← hls] at h4
      exact ⟨by omega, fun _ => by omega⟩
    · have hf : [o[k]].filter (fun x => decide (dueAt l x ≤ d)) = [] := by rw [List.filter_cons, if_neg (by simpa using e), List.filter_nil]
      rw [hf, List.append_nil]
      exact ⟨by omega, fun h0 => by have := h2 h0; omega⟩
theorem sel_sum {l : List Job} {d : Int} : ∀ k, sumS l (selTo l d k) = sumTo l d k
  | 0 => rfl
  | k + 1 => by
    unfold selTo sumTo
    split
    · rw [sumS_app, sel_sum k]; simp [sumS]
    · exact sel_sum k
theorem bound_late {l : List Job} {c : Changes} (hB : BothOk l c) {o : List Int} (ho : OrdOkN l.length o) : (bndTo l l.length).1 ≤ (momTo l c o o.length).late := by
  have hJ := hB.jobs
  obtain ⟨j, hj, e⟩ := bnd_is hJ l.length (by have := hJ.len; omega) (Nat.le_refl _)
  rw [e]
  show sumTo l (dueAt l j) l.length - dueAt l j ≤ _
  obtain ⟨h1, h2⟩ := late_sum hB ho (dueAt l j) o.length (Nat.le_refl _)
  rw [List.take_length] at h1 h2
  obtain ⟨k, hk, ek⟩ := order_on ho hj
  have hr := ho.rng _ (List.getElem_mem hk)
  have hm : (j : Int) ∈ o.filter fun x => decide (dueAt l x ≤ dueAt l j) := List.mem_filter.2 ⟨by rw [show (j : Int) = o[k] by omega]; exact List.getElem_mem hk, by simp⟩
  have h3 := h2 (List.ne_nil_of_mem hm)
  have h4 := sub_sum (l := l) (fun i hi => by have := (hJ.at (i := (i : Int)) (by omega) (by omega)).1.1; omega) (selTo l (dueAt l j) l.length) (o.filter fun x => decide (dueAt l x ≤ dueAt l j)) ((sel_up _).imp fun h => by omega)
    (fun x hx => by
      obtain ⟨q1, q2, q3⟩ := (sel_mem _ _).1 hx
      obtain ⟨k2, hk2, ek2⟩ := order_on ho (i := x.toNat) (by omega)
      have hr2 := ho.rng _ (List.getElem_mem hk2)
      exact List.mem_filter.2 ⟨by rw [show x = o[k2] by omega]; exact List.getElem_mem hk2, by simpa using q3⟩)
    (fun x hx => ho.rng x (List.mem_filter.1 hx).1)
  rw [sel_sum] at h4
  omega
def zeroC (c : Changes) : Changes := ⟨c.start, c.ticks.map fun r => r.map fun _ => 0⟩
theorem zero_at {c : Changes} (a b : Int) : chgAt (zeroC c) a b = 0 := by
  unfold chgAt zeroC
  simp only [List.getD_eq_getElem?_getD, List.getElem?_map]
  cases c.ticks[a.toNat]? with
  | none => rfl
  | some r =>
    simp only [Option.map_some, Option.getD_some, List.getElem?_map]
    cases r[b.toNat]? <;> rfl
theorem zero_time {l : List Job} {c : Changes} {o : List Int} : ∀ k, k ≤ o.length → (momTo l (zeroC c) o k).time = sumS l (o.take k)
  | 0, _ => rfl
  | k + 1, h => by
    rw [mom_time (by omega), zero_at, zero_time k (by omega), List.take_succ_eq_append_getElem (by omega), sumS_app]
    simp [sumS]
def byDue (l : List Job) : List Int := ((List.range l.length).map fun i : Nat => (i : Int)).mergeSort fun x y => decide (dueAt l x ≤ dueAt l y)
theorem byDue_perm (l : List Job) : (byDue l).Perm ((List.range l.length).map fun i : Nat => (i : Int)) := List.mergeSort_perm _ _
theorem byDue_ok (l : List Job) : OrdOkN l.length (byDue l) := by
  have hp := byDue_perm l
  refine ⟨by rw [hp.length_eq]; simp, fun x hx => ?_, ?_⟩
  · obtain ⟨i, hi, rfl⟩ := List.mem_map.1 (hp.mem_iff.1 hx)
    have := List.mem_range.1 hi
    omega
  · have hn : (byDue l).Nodup := by
      rw [hp.nodup_iff]
      unfold List.Nodup
      rw [List.pairwise_map]
      exact List.nodup_range.imp fun h e => h (by omega)
    intro i j hi hj hij
    exact List.pairwise_iff_getElem.1 hn i j hi hj hij
theorem byDue_up (l : List Job) : (byDue l).Pairwise fun x y => dueAt l x ≤ dueAt l y := by
  have := List.pairwise_mergeSort (le := fun x y => decide (dueAt l x ≤ dueAt l y)) (fun a b c h1 h2 => decide_eq_true (Int.le_trans (of_decide_eq_true h1) (of_decide_eq_true h2))) (fun a b => by rcases Int.le_total (dueAt l a) (dueAt l b) with h | h <;> simp [h]) ((List.range l.length).map fun i : Nat => (i : Int))
  exact this.imp fun h => of_decide_eq_true h
theorem due_late {l : List Job} {c : Changes} (hJ : JobsOk l) : (momTo l (zeroC c) (byDue l) (byDue l).length).late ≤ (bndTo l l.length).1 := by
  have ho := byDue_ok l
  have hol := ho.len
  have hln := hJ.len
  have hge : -200000 ≤ (bndTo l l.length).1 := by
    obtain ⟨j, hj, e⟩ := bnd_is hJ l.length (by omega) (Nat.le_refl _)
    rw [e]
    have h1 := sum_nn (l := l) (d := dueAt l j) l.length fun i hi => by have := (hJ.at (i := (i : Int)) (by omega) (by omega)).1.1; omega
    have h2 := (hJ.at (i := (j : Int)) (by omega) (by omega)).2
    show -200000 ≤ sumTo l (dueAt l j) l.length - dueAt l j
    omega
  rcases late_in (l := l) (c := zeroC c) (o := byDue l) (byDue l).length (Nat.le_refl _) with h | ⟨j, hj, h⟩
  · omega
  · rw [h, zero_time (j + 1) (by omega)]
    have hr := ho.rng _ (List.getElem_mem hj)
    have h1 := sum_le (l := l) (d := dueAt l (byDue l)[j]) l.length (fun i hi => by have := (hJ.at (i := (i : Int)) (by omega) (by omega)).1.1; omega) ((byDue l).take (j + 1)) ((order_nodup ho).sublist (List.take_sublist _ _)) fun x hx => by
      have hx2 := ho.rng x (List.mem_of_mem_take hx)
      obtain ⟨k, hk, rfl⟩ := List.mem_take_iff_getElem.1 hx
      refine ⟨hx2.1, hx2.2, ?_⟩
      by_cases e : k = j
      · subst e; exact Int.le_refl _
      · exact List.pairwise_iff_getElem.1 (byDue_up l) k j (by omega) hj (by omega)
    have h2 := bnd_ge l l.length (byDue l)[j].toNat (by omega)
    rw [Int.toNat_of_nonneg hr.1] at h2
    omega
theorem each_00 {α : Type} {g : Nat → α → Int} : ∀ {l : List α} {k : Nat}, (∀ (i : Nat) (h : i < l.length), g (k + i) l[i] = 0) → eachGo g k l = (0, 0)
  | [], _, _ => rfl
  | x :: l, k, h => by
    have h0 := h 0 (by simp)
    simp only [Nat.add_zero, List.getElem_cons_zero] at h0
    rw [eachGo, if_neg (by rw [h0]; decide)]
    exact each_00 fun i hi => by
      have := h (i + 1) (by simpa using hi)
      rw [show k + (i + 1) = k + 1 + i by omega] at this
      simpa using this
theorem zero_len (c : Changes) : (zeroC c).ticks.length = c.ticks.length := by simp [zeroC]
theorem both_zero {l : List Job} {c : Changes} (h : bothE l c = 0) : bothE l (zeroC c) = 0 := by
  have hB := both_ok h
  have hz := zero_len c
  have hr : eachGo (rowE c.ticks.length) 0 (zeroC c).ticks = (0, 0) := each_00 fun i hi => by
    rw [Nat.zero_add]
    have hi2 : i < c.ticks.length := hz ▸ hi
    have e : (zeroC c).ticks[i] = c.ticks[i].map fun _ => (0 : Int) := by simp [zeroC]
    rw [e]
    exact row_0 (by rw [List.length_map]; exact (hB.row _ (List.getElem_mem hi2)).1) (each_00 fun k hk => by rw [Nat.zero_add, List.getElem_map]; exact cell_0 (by omega) (.inr rfl))
  have hs : strange l (zeroC c) = strange l c := by unfold strange; rw [hz]
  have hc : (chgChk (zeroC c)).2 = 0 := by
    rw [chg_end (by rw [hz]; exact hB.rows) (by rw [hz]; exact hr), hz]
    exact if_pos hB.start
  unfold bothE at h ⊢
  split at h
  · contradiction
  · rename_i h1
    split at h
    · contradiction
    · split at h
      · cases h
      · rename_i h3
        rw [if_neg h1, hc, if_neg (by decide), hs, if_neg h3]
theorem best_ord {l : List Job} {c : Changes} (h : bothE l c = 0) : OrdOkN l.length (bestT l c).1 ∧ (bestT l c).2 = momTo l c (bestT l c).1 (bestT l c).1.length := by
  have := (both_ok h).len
  exact best_q c (by omega)
theorem bound_best {l : List Job} {c : Changes} (h : bothE l c = 0) : (bndTo l l.length).1 ≤ (bestT l c).2.late := by
  obtain ⟨h1, h2⟩ := best_ord h
  rw [h2]
  exact bound_late (both_ok h) h1
theorem zero_best {l : List Job} {c : Changes} (h : bothE l c = 0) : (bestT l (zeroC c)).2.late = (bndTo l l.length).1 := by
  have hz := both_zero h
  have h1 := bound_best hz
  have hl := (both_ok h).len
  have h2 := best_le (c := zeroC c) (by omega) (byDue_ok l)
  have h3 := due_late (c := c) (both_ok h).jobs
  unfold LeM at h2
  omega
end Go.Proofs.YtbnimikgjjjcaaaGreatDoor
