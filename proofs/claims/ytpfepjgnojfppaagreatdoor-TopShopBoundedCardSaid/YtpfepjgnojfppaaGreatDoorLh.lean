import Derived.Test.YtpfepjgnojfppaaGreatDoorKj
import Derived.Test.YtpfepjgnojfppaaGreatDoorKu
import Derived.Test.YtpfepjgnojfppaaGreatDoorLf
import Derived.Test.YtpfepjgnojfppaaGreatDoorTz
namespace Go.Proofs.YtpfepjgnojfppaaGreatDoor
open Go.Ab
structure WOk (c : Changes) (w : Int) : Prop where
  nn : 0 ≤ w
  le : ∀ r ∈ c.ticks, ∀ x ∈ r, x ≤ w
theorem WOk.chg {c : Changes} {w : Int} (h : WOk c w) (a b : Int) : chgAt c a b ≤ w := by
  unfold chgAt
  simp only [List.getD_eq_getElem?_getD]
  cases hr : c.ticks[a.toNat]? with
  | none => exact h.nn
  | some r =>
    simp only [Option.getD_some]
    cases hx : r[b.toNat]? with
    | none => exact h.nn
    | some x => exact h.le r (List.mem_of_getElem? hr) x (List.mem_of_getElem? hx)
theorem maxI_ub {a b d : Int} (h1 : a ≤ d) (h2 : b ≤ d) : maxI a b ≤ d := by unfold maxI; split <;> omega
theorem w_time {l : List Job} {c : Changes} {w : Int} (hw : WOk c w) {o : List Int} : ∀ k, k ≤ o.length → (momTo l c o k).time ≤ (momTo l (zeroC c) o k).time + w * (k : Int)
  | 0, _ => by simp [momTo, beginT]
  | k + 1, h => by
    have h1 := w_time hw (l := l) (o := o) k (by omega)
    have h2 := hw.chg (momTo l c o k).setup (jobAt l o[k]).setup
    rw [mom_time (by omega), mom_time (c := zeroC c) (by omega), zero_at]
    have h3 : w * ((k + 1 : Nat) : Int) = w * (k : Int) + w := by rw [Int.natCast_add, Int.mul_add]; simp
    omega
theorem w_late {l : List Job} {c : Changes} {w : Int} (hw : WOk c w) {o : List Int} : ∀ k, k ≤ o.length → (momTo l c o k).late ≤ (momTo l (zeroC c) o k).late + w * (k : Int)
  | 0, _ => by simp [momTo, beginT]
  | k + 1, h => by
    have h1 := w_late hw (l := l) (o := o) k (by omega)
    have h2 := w_time hw (l := l) (o := o) (k + 1) h
    have h3 : w * ((k + 1 : Nat) : Int) = w * (k : Int) + w := by rw [Int.natCast_add, Int.mul_add]; simp
    have h4 := hw.nn
    rw [late_succ (by omega), late_succ (c := zeroC c) (by omega)]
    have h5 := maxI_l (momTo l (zeroC c) o k).late ((momTo l (zeroC c) o (k + 1)).time - dueAt l o[k])
    have h6 := maxI_r (momTo l (zeroC c) o k).late ((momTo l (zeroC c) o (k + 1)).time - dueAt l o[k])
    refine maxI_ub ?_ ?_ <;> omega
theorem best_w {l : List Job} {c : Changes} {w : Int} (h : bothE l c = 0) (hw : WOk c w) : (bestT l c).2.late ≤ (bndTo l l.length).1 + w * (l.length : Int) := by
  have hB := both_ok h
  have hJ := hB.jobs
  have ho := byDue_ok l
  have h1 := best_le (c := c) (by have := hB.len; omega) ho
  have h2 := w_late hw (l := l) (o := byDue l) (byDue l).length (Nat.le_refl _)
  have h3 := due_late (c := c) hJ
  rw [ho.len] at h1 h2 h3
  have h4 : (bestT l c).2.late ≤ (momTo l c (byDue l) l.length).late := by
    rcases h1 with h1 | h1 <;> omega
  omega
def later (d : Int) (j : Job) : Job := ⟨j.name, j.setup, j.ticks, if j.due + d < 100000 then j.due + d else 100000⟩
def laterTo (d : Int) (l : List Job) (i : Nat) : List Job := (l.take i).map (later d) ++ l.drop i
theorem laterTo_0 (d : Int) (l : List Job) : laterTo d l 0 = l := by simp [laterTo]
theorem laterTo_len (d : Int) (l : List Job) (i : Nat) : (laterTo d l i).length = l.length := by simp [laterTo]; omega
theorem laterTo_all (d : Int) {l : List Job} {i : Nat} (h : i = l.length) : laterTo d l i = l.map (later d) := by simp [laterTo, h]
theorem laterTo_get {d : Int} {l : List Job} {i : Nat} (h : i < l.length) : (laterTo d l i)[i]? = some l[i] := by
  have hl : ((l.take i).map (later d)).length = i := by simp; omega
  unfold laterTo
  rw [List.getElem?_append_right (by rw [hl]; exact Nat.le_refl _), hl, Nat.sub_self, List.drop_eq_getElem_cons h]
  rfl
theorem laterTo_set {d : Int} {l : List Job} {i : Nat} (h : i < l.length) : (laterTo d l i).set i (later d l[i]) = laterTo d l (i + 1) := by
  unfold laterTo
  have hl : ((l.take i).map (later d)).length = i := by simp; omega
  rw [List.set_append_right _ _ (by rw [hl]; exact Nat.le_refl _), hl, Nat.sub_self, List.drop_eq_getElem_cons h, List.set_cons_zero, List.take_succ_eq_append_getElem h, List.map_append]
  simp
theorem later_at {d : Int} {l : List Job} {i : Int} (h0 : 0 ≤ i) (h : i < (l.length : Int)) : jobAt (l.map (later d)) i = later d (jobAt l i) := by
  unfold jobAt
  rw [getD_at (by simp; omega), getD_at (by omega)]
  simp
theorem later_mom {l : List Job} {c : Changes} {d : Int} (hd : 0 ≤ d) (hB : BothOk l c) {o : List Int} (ho : OrdOkN l.length o) : ∀ k, k ≤ o.length → (momTo (l.map (later d)) c o k).time = (momTo l c o k).time ∧ (momTo (l.map (later d)) c o k).setup = (momTo l c o k).setup ∧ (momTo (l.map (later d)) c o k).late ≤ (momTo l c o k).late
  | 0, _ => ⟨rfl, rfl, Int.le_refl _⟩
  | k + 1, h => by
    obtain ⟨h1, h2, h3⟩ := later_mom hd hB ho k (by omega)
    have hr := ho.rng _ (List.getElem_mem (show k < o.length by omega))
    have ha := later_at (d := d) hr.1 hr.2
    have hj := hB.job (jobAt l o[k]) (by unfold jobAt; rw [getD_at (by omega)]; exact List.getElem_mem _)
    have hdue : (jobAt l o[k]).due ≤ (later d (jobAt l o[k])).due := by
      show (jobAt l o[k]).due ≤ (if (jobAt l o[k]).due + d < 100000 then (jobAt l o[k]).due + d else 100000)
      split <;> omega
    rw [mom_succ (by omega), mom_succ (l := l) (by omega)]
    unfold afterT
    rw [ha, h1, h2]
    refine ⟨rfl, rfl, ?_⟩
    show maxI _ (_ - (later d (jobAt l o[k])).due) ≤ maxI _ _
    show maxI _ ((momTo l c o k).time + (chgAt c (momTo l c o k).setup (jobAt l o[k]).setup + (jobAt l o[k]).ticks) - (later d (jobAt l o[k])).due) ≤ _
    have h5 := maxI_l (momTo l c o k).late ((momTo l c o k).time + (chgAt c (momTo l c o k).setup (jobAt l o[k]).setup + (jobAt l o[k]).ticks) - (jobAt l o[k]).due)
    have h6 := maxI_r (momTo l c o k).late ((momTo l c o k).time + (chgAt c (momTo l c o k).setup (jobAt l o[k]).setup + (jobAt l o[k]).ticks) - (jobAt l o[k]).due)
    refine maxI_ub ?_ ?_ <;> omega
def onAt (t : Int) (r : Run) : Prop := r.start ≤ t ∧ t ≤ r.start + r.ticks - 1
theorem pow_off {t : Int} {r : Run} (h : ¬ onAt t r) : powOf t r = 0 := if_neg h
theorem pow_on {t : Int} {r : Run} (h : onAt t r) : powOf t r = r.power := if_pos h
theorem power_off {t : Int} : ∀ {L : List Run}, (∀ r ∈ L, ¬ onAt t r) → powerT t L = 0
  | [], _ => rfl
  | r :: L, h => by
    rw [powerT, pow_off (h r List.mem_cons_self), power_off fun x hx => h x (List.mem_cons_of_mem _ hx)]
    rfl
theorem power_one {t P : Int} (hP : 0 ≤ P) : ∀ {L : List Run}, L.Pairwise (fun a b => ¬ (onAt t a ∧ onAt t b)) → (∀ r ∈ L, r.power ≤ P) → powerT t L ≤ P
  | [], _, _ => hP
  | r :: L, hd, hp => by
    rw [List.pairwise_cons] at hd
    rw [powerT]
    by_cases h : onAt t r
    · rw [pow_on h, power_off fun x hx e => hd.1 x hx ⟨h, e⟩]
      have := hp r List.mem_cons_self
      omega
    · rw [pow_off h]
      have := power_one hP hd.2 fun x hx => hp x (List.mem_cons_of_mem _ hx)
      omega
theorem power_has {t : Int} : ∀ {L : List Run}, (∀ r ∈ L, 0 ≤ r.power) → ∀ r ∈ L, onAt t r → r.power ≤ powerT t L
  | [], _, r, hr, _ => by cases hr
  | x :: L, hp, r, hr, ho => by
    have hx : 0 ≤ powOf t x := by
      unfold powOf
      have := hp x List.mem_cons_self
      split <;> omega
    have hL : 0 ≤ powerT t L := by
      clear ho hr
      induction L with
      | nil => exact Int.le_refl _
      | cons y L ih =>
        have h1 := ih fun z hz => hp z (by rcases List.mem_cons.1 hz with e | e; exact e ▸ List.mem_cons_self; exact List.mem_cons_of_mem _ (List.mem_cons_of_mem _ e))
        have h2 := hp y (List.mem_cons_of_mem _ List.mem_cons_self)
        rw [powerT]
        unfold powOf
        split <;> omega
    rw [powerT]
    rcases List.mem_cons.1 hr with rfl | hr
    · rw [pow_on ho]; omega
    · have := power_has (fun z hz => hp z (List.mem_cons_of_mem _ hz)) r hr ho
      omega
theorem peak_fold {l : List Run} {P : Int} : ∀ (L : List Run) (q : Int × Int), q.1 ≤ P → (∀ r ∈ L, powerT r.start l ≤ P) → (L.foldl (peakStep l) q).1 ≤ P ∧ q.1 ≤ (L.foldl (peakStep l) q).1 ∧ ∀ r ∈ L, powerT r.start l ≤ (L.foldl (peakStep l) q).1
  | [], q, hq, _ => ⟨hq, Int.le_refl _, fun r hr => by cases hr⟩
  | r :: L, q, hq, hL => by
    have hr := hL r List.mem_cons_self
    have hs : (peakStep l q r).1 ≤ P ∧ q.1 ≤ (peakStep l q r).1 ∧ powerT r.start l ≤ (peakStep l q r).1 := by
      unfold peakStep
      split <;> (try dsimp only) <;> omega
    obtain ⟨h1, h2, h3⟩ := peak_fold L (peakStep l q r) hs.1 fun x hx => hL x (List.mem_cons_of_mem _ hx)
    rw [List.foldl_cons]
    refine ⟨h1, by omega, fun x hx => ?_⟩
    rcases List.mem_cons.1 hx with rfl | hx
    · omega
    · exact h3 x hx
theorem peak_one {l : List Run} {P : Int} (hP : 0 ≤ P) (hd : ∀ t, l.Pairwise fun a b => ¬ (onAt t a ∧ onAt t b)) (hp : ∀ r ∈ l, (0 ≤ r.power ∧ r.power ≤ P) ∧ 1 ≤ r.ticks) (hx : P = 0 ∨ ∃ r ∈ l, r.power = P) : (peakT l).1 = P := by
  obtain ⟨h1, h2, h3⟩ := peak_fold (l := l) (P := P) l (0, 0) hP fun r _ => power_one hP (hd _) fun x hx => (hp x hx).1.2
  have h1' : (peakT l).1 ≤ P := h1
  have h2' : 0 ≤ (peakT l).1 := h2
  rcases hx with hx | ⟨r, hr, e⟩
  · omega
  · have h4 : powerT r.start l ≤ (peakT l).1 := h3 r hr
    have h5 := power_has (t := r.start) (fun x hx => (hp x hx).1.1) r hr ⟨Int.le_refl _, by have := (hp r hr).2; omega⟩
    omega
theorem sub_len : ∀ (a b : List Int), a.Nodup → (∀ x ∈ a, x ∈ b) → a.length ≤ b.length
  | [], _, _, _ => Nat.zero_le _
  | x :: a, b, hn, hs => by
    rw [List.nodup_cons] at hn
    have h0 := hs x List.mem_cons_self
    have h1 := sub_len a (b.erase x) hn.2 (fun y hy => (List.mem_erase_of_ne (fun e => hn.1 (by rw [← e]; exact hy))).2 (hs y (List.mem_cons_of_mem _ hy)))
    rw [List.length_erase_of_mem h0] at h1
    have h2 := List.length_pos_of_mem h0
    rw [List.length_cons]
    omega
theorem ord_sur {n : Nat} {o : List Int} (h : OrdOkN n o) {i : Nat} (hi : i < n) : ∃ j, ∃ hj : j < o.length, o[j] = (i : Int) := by
  have hm : (i : Int) ∈ o := by
    refine Decidable.byContradiction fun hn => ?_
    have hle := sub_len o (((List.range n).map fun k : Nat => (k : Int)).erase (i : Int)) (order_nodup h) fun x hx => by
      have hr := h.rng x hx
      exact (List.mem_erase_of_ne (fun e => hn (by rw [← e]; exact hx))).2 (List.mem_map.2 ⟨x.toNat, List.mem_range.2 (by omega), by omega⟩)
    rw [List.length_erase_of_mem (List.mem_map.2 ⟨i, List.mem_range.2 hi, rfl⟩), List.length_map, List.length_range, h.len] at hle
    omega
  obtain ⟨j, hj, e⟩ := List.getElem_of_mem hm
  exact ⟨j, hj, e⟩
theorem mom_step {l : List Job} {c : Changes} (hB : BothOk l c) {o : List Int} (ho : OrdOkN l.length o) {k : Nat} (h : k < o.length) : (momTo l c o k).time + tickAt l o[k] ≤ (momTo l c o (k + 1)).time := by
  have hm := mom_okN hB ho k (by omega)
  have hr := ho.rng _ (List.getElem_mem h)
  have hj := hB.set (jobAt l o[k]) (by unfold jobAt; rw [getD_at (by omega)]; exact List.getElem_mem _)
  have hj2 := hB.job (jobAt l o[k]) (by unfold jobAt; rw [getD_at (by omega)]; exact List.getElem_mem _)
  have hc := chg_at hB (a := (momTo l c o k).setup) (b := (jobAt l o[k]).setup) hm.2.1 ⟨hj2.1.1, hj⟩
  rw [mom_time h]
  omega
theorem mom_up {l : List Job} {c : Changes} (hB : BothOk l c) {o : List Int} (ho : OrdOkN l.length o) {a : Nat} : ∀ b, a ≤ b → b ≤ o.length → (momTo l c o a).time ≤ (momTo l c o b).time
  | 0, h, _ => by rw [show a = 0 by omega]; exact Int.le_refl _
  | b + 1, h, h2 => by
    by_cases e : a = b + 1
    · rw [e]; exact Int.le_refl _
    · have h3 := mom_up hB ho (a := a) b (by omega) (by omega)
      have h4 := mom_step hB ho (k := b) (by omega)
      have hr := ho.rng _ (List.getElem_mem (show b < o.length by omega))
      have hj2 := hB.job (jobAt l o[b]) (by unfold jobAt; rw [getD_at (by omega)]; exact List.getElem_mem _)
      have : 1 ≤ tickAt l o[b] := hj2.2.1.1
      omega
def runAt (l : List Job) (T : List Int) (i : Nat) : Run := ⟨T.getD i 0 - tickAt l i, tickAt l i, tickAt l i⟩
def runsTo (l : List Job) (T : List Int) (k : Nat) : List Run := (List.range k).map (runAt l T)
theorem runsTo_succ (l : List Job) (T : List Int) (k : Nat) : runsTo l T (k + 1) = runsTo l T k ++ [runAt l T k] := by unfold runsTo; rw [List.range_succ, List.map_append]; rfl
theorem run_time {l : List Job} {c : Changes} (hB : BothOk l c) {o : List Int} (ho : OrdOkN l.length o) {i : Nat} (hi : i < l.length) : ∃ j, j < o.length ∧ (timesT l c o).getD i 0 = (momTo l c o (j + 1)).time ∧ (momTo l c o j).time + tickAt l i ≤ (momTo l c o (j + 1)).time ∧ ∃ hj : j < o.length, o[j] = (i : Int) := by
  obtain ⟨j, hj, e⟩ := ord_sur ho hi
  have h1 := times_at (c := c) ho o.length (Nat.le_refl _) j hj hj
  have h2 := mom_step hB ho hj
  rw [e] at h1 h2
  rw [times_all] at h1
  exact ⟨j, hj, by simpa using h1, h2, hj, e⟩
theorem runs_apart {l : List Job} {c : Changes} (hB : BothOk l c) {o : List Int} (ho : OrdOkN l.length o) (t : Int) : (runsTo l (timesT l c o) l.length).Pairwise fun a b => ¬ (onAt t a ∧ onAt t b) := by
  unfold runsTo
  rw [List.pairwise_map]
  refine List.pairwise_iff_getElem.2 fun a b ha hb hab => ?_
  simp only [List.getElem_range]
  rw [List.length_range] at ha hb
  obtain ⟨j, hj, e1, e2, hj', e3⟩ := run_time hB ho ha
  obtain ⟨k, hk, f1, f2, hk', f3⟩ := run_time hB ho hb
  have hne : j ≠ k := by
    intro e
    subst e
    rw [e3] at f3
    omega
  rintro ⟨⟨p1, p2⟩, q1, q2⟩
  simp only [runAt] at p1 p2 q1 q2
  rcases Nat.lt_or_gt_of_ne hne with h | h
  · have := mom_up hB ho (a := j + 1) k (by omega) (by omega)
    omega
  · have := mom_up hB ho (a := k + 1) j (by omega) (by omega)
    omega
end Go.Proofs.YtpfepjgnojfppaaGreatDoor
