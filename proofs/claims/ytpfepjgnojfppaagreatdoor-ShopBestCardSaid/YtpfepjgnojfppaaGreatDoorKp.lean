import Derived.Test.YtpfepjgnojfppaaGreatDoorGh
import Derived.Test.YtpfepjgnojfppaaGreatDoorKo
import Derived.Test.YtpfepjgnojfppaaGreatDoorTy
namespace Go.Proofs.YtpfepjgnojfppaaGreatDoor
open Go.Ab
def momTo (l : List Job) (c : Changes) (o : List Int) (k : Nat) : Moment := (o.take k).foldl (afterT l c) (beginT c)
theorem mom_succ {l : List Job} {c : Changes} {o : List Int} {k : Nat} (h : k < o.length) : momTo l c o (k + 1) = afterT l c (momTo l c o k) o[k] := by
  unfold momTo
  rw [List.take_succ_eq_append_getElem h, List.foldl_append]
  rfl
theorem mom_okN {l : List Job} {c : Changes} {o : List Int} (hB : BothOk l c) (ho : OrdOkN l.length o) : ∀ k, k ≤ o.length → MomOk c k (momTo l c o k)
  | 0, _ => begin_ok hB
  | k + 1, h => by
    have hr := ho.rng _ (List.getElem_mem (show k < o.length by omega))
    rw [mom_succ (by omega)]
    exact after_ok hB (mom_okN hB ho k (by omega)) hr.1 hr.2
def stepsT (l : List Job) (c : Changes) (o : List Int) : List (Int × Moment) := (List.range o.length).map fun k => (o.getD k 0, momTo l c o (k + 1))
theorem steps_len (l : List Job) (c : Changes) (o : List Int) : (stepsT l c o).length = o.length := by unfold stepsT; simp
theorem steps_get {l : List Job} {c : Changes} {o : List Int} {k : Nat} (h : k < o.length) (h2 : k < (stepsT l c o).length) : (stepsT l c o)[k] = (o[k], momTo l c o (k + 1)) := by
  simp only [stepsT, List.getElem_map, List.getElem_range]
  rw [getD_at h]
theorem steps_snoc {l : List Job} {c : Changes} {o : List Int} {k : Nat} (h : k < o.length) : (stepsT l c o).take (k + 1) = (stepsT l c o).take k ++ [(o[k], momTo l c o (k + 1))] := by
  rw [List.take_succ_eq_append_getElem (by rw [steps_len]; exact h), steps_get h]
def setT (q : List Int) (x : Int × Moment) : List Int := q.set x.1.toNat x.2.time
def timesTo (l : List Job) (c : Changes) (o : List Int) (k : Nat) : List Int := ((stepsT l c o).take k).foldl setT (List.replicate l.length 0)
def timesT (l : List Job) (c : Changes) (o : List Int) : List Int := (stepsT l c o).foldl setT (List.replicate l.length 0)
theorem times_all (l : List Job) (c : Changes) (o : List Int) : timesTo l c o o.length = timesT l c o := by unfold timesTo timesT; rw [← steps_len l c o, List.take_length]
theorem times_succ {l : List Job} {c : Changes} {o : List Int} {k : Nat} (h : k < o.length) : timesTo l c o (k + 1) = (timesTo l c o k).set o[k].toNat (momTo l c o (k + 1)).time := by
  unfold timesTo
  rw [steps_snoc h, List.foldl_append]
  rfl
theorem times_len {l : List Job} {c : Changes} {o : List Int} : ∀ k, k ≤ o.length → (timesTo l c o k).length = l.length
  | 0, _ => by unfold timesTo; simp
  | k + 1, h => by rw [times_succ (by omega), List.length_set, times_len k (by omega)]
theorem times_at {l : List Job} {c : Changes} {o : List Int} (ho : OrdOkN l.length o) : ∀ (k : Nat), k ≤ o.length → ∀ (j : Nat) (hj : j < k) (h2 : j < o.length), (timesTo l c o k).getD o[j].toNat 0 = (momTo l c o (j + 1)).time
  | 0, _, _, hj, _ => by omega
  | k + 1, h, j, hj, h2 => by
    have hr := ho.rng _ (List.getElem_mem h2)
    have hl := times_len (l := l) (c := c) (o := o) k (by omega)
    have hl2 := ho.len
    rw [times_succ (by omega)]
    by_cases e : j = k
    · subst e
      rw [getD_at (by rw [List.length_set]; omega), List.getElem_set_self]
    · have hd := ho.dis j k h2 (by omega) (by omega)
      have hr2 := ho.rng _ (List.getElem_mem (show k < o.length by omega))
      rw [getD_at (by rw [List.length_set]; omega), List.getElem_set_ne (by omega), ← getD_at (d := 0) (by omega)]
      exact times_at ho k (by omega) j (by omega) h2
theorem few_max : ∀ (n : Nat) (o : List Int), o.Nodup → (∀ x ∈ o, 0 ≤ x ∧ x < (n : Int)) → o.length ≤ n
  | 0, o, _, h => by
    cases o with
    | nil => exact Nat.le_refl _
    | cons x o => have := h x List.mem_cons_self; omega
  | n + 1, o, hn, h => by
    have h1 := few_max n (o.erase (n : Int)) (hn.erase _) fun x hx => by
      have h2 := (hn.mem_erase_iff).1 hx
      have h3 := h x h2.2
      have h4 := h2.1
      omega
    rw [List.length_erase] at h1
    split at h1 <;> omega
theorem order_nodup {n : Nat} {o : List Int} (ho : OrdOkN n o) : o.Nodup := by
  unfold List.Nodup
  rw [List.pairwise_iff_getElem]
  intro i j hi hj hij
  exact ho.dis i j hi hj hij
theorem order_on {n : Nat} {o : List Int} (ho : OrdOkN n o) {i : Nat} (hi : i < n) : ∃ (j : Nat) (hj : j < o.length), o[j].toNat = i := by
  have hm : (i : Int) ∈ o := by
    refine Decidable.byContradiction fun hn => ?_
    have h1 := few_max n ((i : Int) :: o) (List.nodup_cons.2 ⟨hn, order_nodup ho⟩) fun x hx => by
      rcases List.mem_cons.1 hx with rfl | hx
      · omega
      · exact ho.rng x hx
    have := ho.len
    rw [List.length_cons] at h1
    omega
  obtain ⟨j, hj, e⟩ := List.getElem_of_mem hm
  exact ⟨j, hj, by omega⟩
def dueAt (l : List Job) (i : Int) : Int := (jobAt l i).due
theorem late_succ {l : List Job} {c : Changes} {o : List Int} {k : Nat} (h : k < o.length) : (momTo l c o (k + 1)).late = maxI (momTo l c o k).late ((momTo l c o (k + 1)).time - dueAt l o[k]) := by
  rw [mom_succ h]
  rfl
theorem late_ge {l : List Job} {c : Changes} {o : List Int} : ∀ k, k ≤ o.length → ∀ (j : Nat) (hj : j < k) (h2 : j < o.length), (momTo l c o (j + 1)).time - dueAt l o[j] ≤ (momTo l c o k).late
  | 0, _, _, hj, _ => by omega
  | k + 1, h, j, hj, h2 => by
    rw [late_succ (by omega)]
    unfold maxI
    by_cases e : j = k
    · subst e; split <;> omega
    · have := late_ge (l := l) (c := c) (o := o) k (by omega) j (by omega) h2
      split <;> omega
theorem late_in {l : List Job} {c : Changes} {o : List Int} : ∀ k, k ≤ o.length → (momTo l c o k).late = -200000 ∨ ∃ (j : Nat) (h2 : j < o.length), (momTo l c o k).late = (momTo l c o (j + 1)).time - dueAt l o[j]
  | 0, _ => .inl rfl
  | k + 1, h => by
    rw [late_succ (by omega)]
    unfold maxI
    split
    · exact .inr ⟨k, by omega, rfl⟩
    · exact late_in k (by omega)
def lateGo (l : List Job) (T : List Int) : Nat → Int
  | 0 => T.getD 0 0 - dueAt l 0
  | k + 1 => maxI (lateGo l T k) (T.getD k 0 - dueAt l k)
theorem go_ge {l : List Job} {T : List Int} : ∀ (k i : Nat), i < k → T.getD i 0 - dueAt l i ≤ lateGo l T k
  | 0, i, h => by omega
  | k + 1, i, h => by
    unfold lateGo maxI
    by_cases e : i = k
    · subst e; split <;> omega
    · have := go_ge (l := l) (T := T) k i (by omega)
      split <;> omega
theorem go_in {l : List Job} {T : List Int} (n : Nat) (hn : 0 < n) : ∀ k, k ≤ n → ∃ i : Nat, i < n ∧ lateGo l T k = T.getD i 0 - dueAt l i
  | 0, _ => ⟨0, hn, rfl⟩
  | k + 1, h => by
    unfold lateGo maxI
    split
    · exact ⟨k, by omega, rfl⟩
    · exact go_in n hn k (by omega)
theorem late_eq {l : List Job} {c : Changes} {o : List Int} (hB : BothOk l c) (ho : OrdOkN l.length o) : lateGo l (timesT l c o) l.length = (momTo l c o o.length).late := by
  have hl := ho.len
  have hn := hB.len
  have hta : ∀ (j : Nat) (hj : j < o.length), (timesT l c o).getD o[j].toNat 0 - dueAt l ((o[j].toNat : Nat) : Int) = (momTo l c o (j + 1)).time - dueAt l o[j] := fun j hj => by
    have hr := ho.rng _ (List.getElem_mem hj)
    rw [← times_all, times_at ho o.length (Nat.le_refl _) j hj hj, show ((o[j].toNat : Nat) : Int) = o[j] by omega]
  refine Int.le_antisymm ?_ ?_
  · obtain ⟨i, hi, e⟩ := go_in (l := l) (T := timesT l c o) l.length (by omega) l.length (Nat.le_refl _)
    obtain ⟨j, hj, ej⟩ := order_on ho hi
    rw [e, ← ej, hta j hj]
    exact late_ge o.length (Nat.le_refl _) j hj hj
  · have hd : -100000 ≤ (momTo l c o (0 + 1)).time - dueAt l (o[0]'(by omega)) := by
      have hm := (mom_okN hB ho 1 (by omega)).1
      have hr := ho.rng _ (List.getElem_mem (show 0 < o.length by omega))
      obtain ⟨h2, e⟩ := job_at hr.1 hr.2
      have hj := (hB.job _ (List.getElem_mem h2)).2.2
      unfold dueAt
      rw [e]
      simp only [Nat.zero_add]
      omega
    rcases late_in (l := l) (c := c) (o := o) o.length (Nat.le_refl _) with h | ⟨j, hj, e⟩
    · have := late_ge (l := l) (c := c) (o := o) o.length (Nat.le_refl _) 0 (by omega) (by omega)
      omega
    · have hr := ho.rng _ (List.getElem_mem hj)
      rw [e, ← hta j hj]
      exact go_ge _ _ (by omega)
set_option maxHeartbeats 1000000 in
theorem ref9_Times {l : List Job} {c : Changes} {o : List Int} (hB : BothOk l c) (ho : OrdOkN l.length o) : Ct Tryz.prog 51 [.sl (l.map Job.cs), .agg c.cs, .sl (o.map (fun n => [.int .i64 n]))] (ints (timesT l c o)) := by
  refine Ct.intro (rs := [.tmp 6]) Tryz.func51 rfl Tryz.ntmps51 Tryz.results51 rfl rfl rfl fun w h => ?_
  have hol := ho.len
  have hBl := hB.len
  refine OK.seq ?_
  refine OK.reg ?_
  refine RK.c (S.box (k := 4) rfl .none rfl (.tmp rfl rfl) rfl) ?_
  refine RK.c (S.assign .none rfl .cnil) ?_
  refine RK.nil ?_
  refine Ab.D.code ?_
  refine OK.seq ?_
  refine OK.reg ?_
  refine RK.c (S.move .none rfl (.tmp rfl rfl)) ?_
  refine RK.c (S.lenM si22 .none rfl (.tmp rfl rfl)) ?_
  refine RK.c (S.make (k := 14) (n := l.length) ai30 (⟨⟨Tryz.t3, _, by kernel_rfl, rfl, fun h => ⟨.int rfl, trivial⟩⟩⟩ : MkI Tryz.prog 3 [.int .i64 (0)]) .none rfl (.tmp rfl rfl) (.tmp rfl rfl) (by omega) (by omega) (by unfold maxLen; omega)) ?_
  refine RK.c (S.assign .none rfl (.tmp rfl rfl)) ?_
  refine RK.nil ?_
  refine Ab.D.code ?_
  refine OK.seq ?_
  refine OK.regionDraw follows (.c (S.bfield fi25_0 .none rfl (.tmp rfl rfl))
    (.c (S.bload1 ti3 .none rfl (.tmp rfl rfl) rfl rfl rfl rfl)
    (.c (S.assign .none rfl (.cint rfl))
    (.c (S.assign .none rfl (.tmp rfl rfl))
    .nil)))) (by kernel_rfl) ?_
  refine Ab.D.code ?_
  refine OK.seq ?_
  refine OK.seq ?_
  refine OK.reg ?_
  refine RK.c (S.assign .none rfl (.cint rfl)) ?_
  refine RK.nil ?_
  refine Ab.D.code ?_
  refine OK.block ?_
  refine OK.loop (G := Nat) [4, 14] (fun i => [(0, .sl (l.map Job.cs)), (2, .sl (o.map (fun n => [.int .i64 n]))), (4, .ptr 4 0), (1004, .box c.cs), (7, .own 14 l.length), (2014, .arr 1 ((timesTo l c o i).map (fun n => [.int .i64 n]))), (8, .int .i64 (momTo l c o i).time), (9, .int .i64 (momTo l c o i).setup), (10, .int .i64 i)]) (fun i => i ≤ o.length) (fun i => o.length - i) 0 (Nat.zero_le _) ⟨rfl, rfl, rfl, rfl, (lk_own (by first | rfl | (simp; done) | (simp; omega))), (lk_arr (by simp [timesTo])), rfl, rfl, rfl, trivial⟩ (fun _ => rfl) ?_
  rintro i hi
  refine OK.seq ?_
  refine OK.seq ?_
  refine OK.reg ?_
  refine RK.c (S.move .none rfl (.tmp rfl rfl)) ?_
  refine RK.c (S.move .none rfl (.tmp rfl rfl)) ?_
  refine RK.c (S.lenM si30 .none rfl (.tmp rfl rfl)) ?_
  refine RK.c (S.lss .none rfl (.tmp rfl rfl) (.tmp rfl rfl)) ?_
  refine RK.nil ?_
  refine Ab.D.code ?_
  refine OK.condD rfl rfl (fun c20 => ?_) (fun c20 => ?_)
  ·
    have hil : i < o.length := by omega
    have hor := ho.rng _ (List.getElem_mem hil)
    obtain ⟨hj1, hj2⟩ := job_at hor.1 hor.2
    have hjb := hB.job _ (List.getElem_mem hj1)
    have hjs := hB.set _ (List.getElem_mem hj1)
    obtain ⟨m1, m2, m3, m4⟩ := mom_okN hB ho i (by omega)
    obtain ⟨hc1, hc2, hc3, hc4⟩ := chg_at hB m2 ⟨hjb.1.1, hjs⟩
    rw [hc3] at hc4
    have hsu := mom_succ (l := l) (c := c) hil
    have hst : (momTo l c o (i + 1)).time = (momTo l c o i).time + ((c.ticks[(momTo l c o i).setup.toNat])[l[o[i].toNat].setup.toNat] + l[o[i].toNat].ticks) := by rw [hsu]; unfold afterT; rw [hj2, hc3]
    have hss : (momTo l c o (i + 1)).setup = l[o[i].toNat].setup := by rw [hsu]; unfold afterT; rw [hj2]
    have htl := times_len (l := l) (c := c) (o := o) i (by omega)
    refine OK.skip ?_
    refine Ab.D.code ?_
    refine OK.seq ?_
    refine OK.block ?_
    refine OK.seq ?_
    refine OK.reg ?_
    refine RK.c (S.move .none rfl (.tmp rfl rfl)) ?_
    refine RK.c (S.move .none rfl (.tmp rfl rfl)) ?_
    refine RK.c (S.move .none rfl (.tmp rfl rfl)) ?_
    refine RK.c (S.indexM (n := i) si30 .none rfl (.tmp rfl rfl) (.tmp rfl rfl) rfl hil rfl) ?_
    refine RK.c (S.load1 ti3 .none rfl (.tmp rfl rfl) rfl) ?_
    refine RK.c (S.indexM (n := o[i].toNat) si22 .none rfl (.tmp rfl rfl) (.tmp rfl rfl) (by omega) hj1 rfl) ?_
    refine RK.c (S.loadN ti114 .none rfl (.tmp rfl rfl) rfl rfl) ?_
    refine RK.c (S.alloc (k := 11) ze114 rfl .none rfl) ?_
    refine RK.c (S.store ti114 .none (.tmp rfl rfl) (.tmp rfl rfl) rfl rfl rfl rfl rfl rfl) ?_
    refine RK.nil ?_
    refine Ab.D.code ?_
    refine OK.seq ?_
    refine OK.regionDraw follows (.c (S.move .none rfl (.tmp rfl rfl))
      (.c (S.bfield fi25_1 .none rfl (.tmp rfl rfl))
      (.c (S.bload1 ti23 .none rfl (.tmp rfl rfl) rfl rfl rfl rfl)
      (.c (S.move .none rfl (.tmp rfl rfl))
      (.c (S.indexM (n := (momTo l c o i).setup.toNat) si23 .none rfl (.tmp rfl rfl) (.tmp rfl rfl) (by omega) hc1 rfl)
      (.c (S.load1 ti30 .none rfl (.tmp rfl rfl) rfl)
      (.c (S.bfield fi114_1 .none rfl (.tmp rfl rfl))
      (.c (S.bload1 ti3 .none rfl (.tmp rfl rfl) rfl rfl rfl rfl)
      (.c (S.indexM (n := l[o[i].toNat].setup.toNat) si30 .none rfl (.tmp rfl rfl) (.tmp rfl rfl) (by omega) hc2 rfl)
      (.c (S.load1 ti3 .none rfl (.tmp rfl rfl) rfl)
      (.c (S.add .none rfl (.tmp rfl rfl) (.tmp rfl rfl) (IntWalk.i64_in _ (by omega)) (IntWalk.i64_in _ (by omega)))
      (.c (S.bfield fi114_2 .none rfl (.tmp rfl rfl))
      (.c (S.bload1 ti3 .none rfl (.tmp rfl rfl) rfl rfl rfl rfl)
      (.c (S.add .none rfl (.tmp rfl rfl) (.tmp rfl rfl) (IntWalk.i64_in _ (by omega)) (IntWalk.i64_in _ (by omega)))
      (.c (S.assign .none rfl (.tmp rfl rfl))
      .nil))))))))))))))) (by kernel_rfl) ?_
    refine Ab.D.code ?_
    refine OK.seq ?_
    refine OK.reg ?_
    refine RK.c (S.bfield fi114_1 .none rfl (.tmp rfl rfl)) ?_
    refine RK.c (S.bload1 ti3 .none rfl (.tmp rfl rfl) rfl rfl rfl rfl) ?_
    refine RK.c (S.assign .none rfl (.tmp rfl rfl)) ?_
    refine RK.nil ?_
    refine Ab.D.code ?_
    refine OK.reg ?_
    refine RK.c (S.move .none rfl (.tmp rfl rfl)) ?_
    refine RK.c (S.move .none rfl (.tmp rfl rfl)) ?_
    refine RK.c (S.move .none rfl (.tmp rfl rfl)) ?_
    refine RK.c (S.indexM (n := i) si30 .none rfl (.tmp rfl rfl) (.tmp rfl rfl) rfl hil rfl) ?_
    refine RK.c (S.load1 ti3 .none rfl (.tmp rfl rfl) rfl) ?_
    refine RK.c (S.move .none rfl (.tmp rfl rfl)) ?_
    refine RK.c (S.oindex (i := o[i].toNat) si30 .none rfl (.tmp rfl rfl) rfl (by simp; omega) (.tmp rfl rfl) (by omega) (by omega)) ?_
    refine RK.c (S.ostore1 (i := o[i].toNat) ti3 rfl .none (.tmp rfl rfl) (.tmp rfl rfl) rfl (by simp; omega) rfl (by omega) rfl rfl rfl) ?_
    refine RK.nil ?_
    refine Ab.D.blk ?_
    refine Ab.D.code ?_
    refine OK.reg ?_
    refine RK.c (S.move .none rfl (.tmp rfl rfl)) ?_
    refine RK.c (S.add .none rfl (.tmp rfl rfl) (.cint rfl) (IntWalk.i64_in _ (by omega)) (IntWalk.i64_in _ (by omega))) ?_
    refine RK.c (S.assign .none rfl (.tmp rfl rfl)) ?_
    refine RK.nil ?_
    refine Ab.D.lp ⟨i + 1, (by omega), (by omega), rfl, rfl, rfl, rfl, (lk_own (by first | rfl | (simp; done) | (simp; omega))), (lk_arr (by rw [times_succ hil, List.map_set, hst, ← Int.add_assoc])), (lkI (by rw [hst]; omega)), (lkI hss.symm), rfl, trivial⟩
  ·
    have htl := times_len (l := l) (c := c) (o := o) i (by omega)
    refine OK.exit rfl ?_
    refine Ab.D.code ?_
    refine OK.seq ?_
    refine OK.reg ?_
    refine RK.c (S.move .none rfl (.tmp rfl rfl)) ?_
    refine RK.c (S.assign .none rfl (.tmp rfl rfl)) ?_
    refine RK.nil ?_
    refine Ab.D.code ?_
    refine OK.ret (Ret.r1 (.tmp rfl rfl (.c (.own rfl rfl (by first | rfl | (simp; done) | (simp; omega))) rfl) rfl) ?_)
    rw [← times_all, show o.length = i by omega]
    all_goals rfl
set_option maxHeartbeats 1000000 in
theorem ref9_Late {l : List Job} {c : Changes} {o : List Int} (hB : BothOk l c) (ho : OrdOkN l.length o) : Ct Tryz.prog 20 [.sl (l.map Job.cs), .agg c.cs, .sl (o.map (fun n => [.int .i64 n]))] (.tup [.int .i64 (momTo l c o o.length).late, .int .i64 (momTo l c o o.length).changes]) := by
  refine Ct.intro (rs := [.tmp 6, .tmp 7]) Tryz.func20 rfl Tryz.ntmps20 Tryz.results20 rfl rfl rfl fun w h => ?_
  have hol := ho.len
  have hBl := hB.len
  have htl : (timesT l c o).length = l.length := by rw [← times_all]; exact times_len _ (Nat.le_refl _)
  have htb : ∀ (k : Nat) (h : k < (timesT l c o).length), 0 ≤ (timesT l c o)[k] ∧ (timesT l c o)[k] ≤ 2000000 := fun k h => by
    obtain ⟨j, hj, e⟩ := order_on ho (show k < l.length by omega)
    have h1 := times_at (c := c) ho o.length (Nat.le_refl _) j hj hj
    rw [times_all, e, getD_at h] at h1
    have h2 := (mom_okN hB ho (j + 1) (by omega)).1
    omega
  have hdb : ∀ (k : Nat) (h : k < l.length), 0 ≤ l[k].due ∧ l[k].due ≤ 100000 := fun k h => (hB.job _ (List.getElem_mem h)).2.2
  have hda : ∀ (k : Nat) (h : k < l.length), dueAt l (k : Int) = l[k].due := fun k h => by unfold dueAt jobAt; rw [Int.toNat_natCast, getD_at h]
  have hg0 : lateGo l (timesT l c o) 0 = (timesT l c o)[0] - l[0].due := by unfold lateGo; rw [getD_at (by omega)]; have := hda 0 (by omega); simp only [Int.ofNat_zero, Int.natCast_zero] at this; rw [this]
  have htb0 := htb 0 (by omega)
  have hdb0 := hdb 0 (by omega)
  refine OK.seq ?_
  refine OK.reg ?_
  refine RK.c (S.box (k := 4) rfl .none rfl (.tmp rfl rfl) rfl) ?_
  refine RK.c (S.assign .none rfl (.cint rfl)) ?_
  refine RK.c (S.assign .none rfl (.cint rfl)) ?_
  refine RK.nil ?_
  refine Ab.D.code ?_
  refine OK.seq ?_
  refine OK.reg ?_
  refine RK.c (S.move .none rfl (.tmp rfl rfl)) ?_
  refine RK.c (S.bloadN ti25 .none rfl (.tmp rfl rfl) rfl rfl rfl rfl) ?_
  refine RK.c (S.move .none rfl (.tmp rfl rfl)) ?_
  refine RK.c (S.call (ref9_Times hB ho) Tryz.call51 .none rfl (.cons (.tmp rfl rfl) (.cons (.tmp rfl rfl) (.cons (.tmp rfl rfl) .nil))) rfl) ?_
  refine RK.c (S.assign .none rfl (.tmp rfl rfl)) ?_
  refine RK.nil ?_
  refine Ab.D.code ?_
  refine OK.seq ?_
  refine OK.regionDraw follows (.c (S.move .none rfl (.tmp rfl rfl))
    (.c (S.indexM (n := 0) si30 .none rfl (.tmp rfl rfl) (.cint rfl) rfl (by omega) rfl)
    (.c (S.load1 ti3 .none rfl (.tmp rfl rfl) rfl)
    (.c (S.move .none rfl (.tmp rfl rfl))
    (.c (S.indexM (n := 0) si22 .none rfl (.tmp rfl rfl) (.cint rfl) rfl (by omega) rfl)
    (.c (S.field fi114_3 .none rfl (.tmp rfl rfl) rfl)
    (.c (S.load1 ti3 .none rfl (.tmp rfl rfl) rfl)
    (.c (S.sub .none rfl (.tmp rfl rfl) (.tmp rfl rfl) (IntWalk.i64_in _ (by omega)) (IntWalk.i64_in _ (by omega)))
    (.c (S.bfield fi25_0 .none rfl (.tmp rfl rfl))
    (.c (S.bload1 ti3 .none rfl (.tmp rfl rfl) rfl rfl rfl rfl)
    (.c (S.assign .none rfl (.tmp rfl rfl))
    (.c (S.assign .none rfl (.cint rfl))
    (.c (S.assign .none rfl (.tmp rfl rfl))
    .nil))))))))))))) (by kernel_rfl) ?_
  refine Ab.D.code ?_
  refine OK.seq ?_
  refine OK.seq ?_
  refine OK.reg ?_
  refine RK.c (S.assign .none rfl (.cint rfl)) ?_
  refine RK.nil ?_
  refine Ab.D.code ?_
  refine OK.block ?_
  refine OK.loop (G := Nat) [] (fun i => [(0, .sl (l.map Job.cs)), (2, .sl (o.map (fun n => [.int .i64 n]))), (8, ints (timesT l c o)), (9, .int .i64 (lateGo l (timesT l c o) i)), (10, .int .i64 (momTo l c o i).changes), (11, .int .i64 (momTo l c o i).setup), (12, .int .i64 i)]) (fun i => i ≤ l.length) (fun i => l.length - i) 0 (Nat.zero_le _) ⟨rfl, rfl, rfl, (lkI hg0.symm), rfl, rfl, rfl, trivial⟩ (fun _ => rfl) ?_
  rintro i hi
  refine OK.seq ?_
  refine OK.seq ?_
  refine OK.reg ?_
  refine RK.c (S.move .none rfl (.tmp rfl rfl)) ?_
  refine RK.c (S.move .none rfl (.tmp rfl rfl)) ?_
  refine RK.c (S.lenM si22 .none rfl (.tmp rfl rfl)) ?_
  refine RK.c (S.lss .none rfl (.tmp rfl rfl) (.tmp rfl rfl)) ?_
  refine RK.nil ?_
  refine Ab.D.code ?_
  refine OK.condD rfl rfl (fun c30 => ?_) (fun c30 => ?_)
  ·
    have hil : i < o.length := by omega
    have hor := ho.rng _ (List.getElem_mem hil)
    obtain ⟨hj1, hj2⟩ := job_at hor.1 hor.2
    have hjb := hB.job _ (List.getElem_mem hj1)
    have hjs := hB.set _ (List.getElem_mem hj1)
    obtain ⟨m1, m2, m3, m4⟩ := mom_okN hB ho i (by omega)
    obtain ⟨hc1, hc2, hc3, hc4⟩ := chg_at hB m2 ⟨hjb.1.1, hjs⟩
    rw [hc3] at hc4
    have hsu := mom_succ (l := l) (c := c) hil
    have hst : (momTo l c o (i + 1)).time = (momTo l c o i).time + ((c.ticks[(momTo l c o i).setup.toNat])[l[o[i].toNat].setup.toNat] + l[o[i].toNat].ticks) := by rw [hsu]; unfold afterT; rw [hj2, hc3]
    have hss : (momTo l c o (i + 1)).setup = l[o[i].toNat].setup := by rw [hsu]; unfold afterT; rw [hj2]
    have hgs : lateGo l (timesT l c o) (i + 1) = (if lateGo l (timesT l c o) i < (timesT l c o)[i] - l[i].due then (timesT l c o)[i] - l[i].due else lateGo l (timesT l c o) i) := by show maxI (lateGo l (timesT l c o) i) ((timesT l c o).getD i 0 - dueAt l (i : Int)) = _; rw [getD_at (by omega), hda i (by omega)]; rfl
    have htb1 := htb i (by omega)
    have hdb1 := hdb i (by omega)
    refine OK.skip ?_
    refine Ab.D.code ?_
    refine OK.seq ?_
    refine OK.block ?_
    refine OK.seq ?_
    refine OK.regionDraw follows (.c (S.move .none rfl (.tmp rfl rfl))
      (.c (S.move .none rfl (.tmp rfl rfl))
      (.c (S.move .none rfl (.tmp rfl rfl))
      (.c (S.indexM (n := i) si30 .none rfl (.tmp rfl rfl) (.tmp rfl rfl) rfl (by omega) rfl)
      (.c (S.load1 ti3 .none rfl (.tmp rfl rfl) rfl)
      (.c (S.move .none rfl (.tmp rfl rfl))
      (.c (S.move .none rfl (.tmp rfl rfl))
      (.c (S.indexM (n := i) si22 .none rfl (.tmp rfl rfl) (.tmp rfl rfl) rfl (by omega) rfl)
      (.c (S.field fi114_3 .none rfl (.tmp rfl rfl) rfl)
      (.c (S.load1 ti3 .none rfl (.tmp rfl rfl) rfl)
      (.c (S.sub .none rfl (.tmp rfl rfl) (.tmp rfl rfl) (IntWalk.i64_in _ (by omega)) (IntWalk.i64_in _ (by omega)))
      (.c (S.max2 .none rfl (.tmp rfl rfl) (.tmp rfl rfl))
      (.c (S.assign .none rfl (.tmp rfl rfl))
      .nil))))))))))))) (by kernel_rfl) ?_
    refine Ab.D.code ?_
    refine OK.seq ?_
    refine OK.seq ?_
    refine OK.reg ?_
    refine RK.c (S.move .none rfl (.tmp rfl rfl)) ?_
    refine RK.c (S.move .none rfl (.tmp rfl rfl)) ?_
    refine RK.c (S.move .none rfl (.tmp rfl rfl)) ?_
    refine RK.c (S.indexM (n := i) si30 .none rfl (.tmp rfl rfl) (.tmp rfl rfl) rfl hil rfl) ?_
    refine RK.c (S.load1 ti3 .none rfl (.tmp rfl rfl) rfl) ?_
    refine RK.c (S.indexM (n := o[i].toNat) si22 .none rfl (.tmp rfl rfl) (.tmp rfl rfl) (by omega) hj1 rfl) ?_
    refine RK.c (S.field fi114_1 .none rfl (.tmp rfl rfl) rfl) ?_
    refine RK.c (S.load1 ti3 .none rfl (.tmp rfl rfl) rfl) ?_
    refine RK.c (S.move .none rfl (.tmp rfl rfl)) ?_
    refine RK.c (S.neq .none rfl (.tmp rfl rfl) (.tmp rfl rfl)) ?_
    refine RK.nil ?_
    refine Ab.D.code ?_
    refine OK.condD rfl rfl (fun c54 => ?_) (fun c54 => ?_)
    ·
      have hch : (momTo l c o (i + 1)).changes = (momTo l c o i).changes + 1 := by rw [hsu]; unfold afterT; rw [hj2]; exact if_pos (fun e => c54 e.symm)
      refine OK.reg ?_
      refine RK.c (S.move .none rfl (.tmp rfl rfl)) ?_
      refine RK.c (S.add .none rfl (.tmp rfl rfl) (.cint rfl) (IntWalk.i64_in _ (by omega)) (IntWalk.i64_in _ (by omega))) ?_
      refine RK.c (S.assign .none rfl (.tmp rfl rfl)) ?_
      refine RK.nil ?_
      refine Ab.D.code ?_
      refine OK.reg ?_
      refine RK.c (S.move .none rfl (.tmp rfl rfl)) ?_
      refine RK.c (S.move .none rfl (.tmp rfl rfl)) ?_
      refine RK.c (S.move .none rfl (.tmp rfl rfl)) ?_
      refine RK.c (S.indexM (n := i) si30 .none rfl (.tmp rfl rfl) (.tmp rfl rfl) rfl hil rfl) ?_
      refine RK.c (S.load1 ti3 .none rfl (.tmp rfl rfl) rfl) ?_
      refine RK.c (S.indexM (n := o[i].toNat) si22 .none rfl (.tmp rfl rfl) (.tmp rfl rfl) (by omega) hj1 rfl) ?_
      refine RK.c (S.field fi114_1 .none rfl (.tmp rfl rfl) rfl) ?_
      refine RK.c (S.load1 ti3 .none rfl (.tmp rfl rfl) rfl) ?_
      refine RK.c (S.assign .none rfl (.tmp rfl rfl)) ?_
      refine RK.nil ?_
      refine Ab.D.blk ?_
      refine Ab.D.code ?_
      refine OK.reg ?_
      refine RK.c (S.move .none rfl (.tmp rfl rfl)) ?_
      refine RK.c (S.add .none rfl (.tmp rfl rfl) (.cint rfl) (IntWalk.i64_in _ (by omega)) (IntWalk.i64_in _ (by omega))) ?_
      refine RK.c (S.assign .none rfl (.tmp rfl rfl)) ?_
      refine RK.nil ?_
      refine Ab.D.lp ⟨i + 1, (by omega), (by omega), rfl, rfl, rfl, (lkI hgs.symm), (lkI hch.symm), (lkI hss.symm), rfl, trivial⟩
    ·
      have hch : (momTo l c o (i + 1)).changes = (momTo l c o i).changes := by rw [hsu]; unfold afterT; rw [hj2]; exact if_neg (fun q => c54 (fun e => q e.symm))
      refine OK.skip ?_
      refine Ab.D.code ?_
      refine OK.reg ?_
      refine RK.c (S.move .none rfl (.tmp rfl rfl)) ?_
      refine RK.c (S.move .none rfl (.tmp rfl rfl)) ?_
      refine RK.c (S.move .none rfl (.tmp rfl rfl)) ?_
      refine RK.c (S.indexM (n := i) si30 .none rfl (.tmp rfl rfl) (.tmp rfl rfl) rfl hil rfl) ?_
      refine RK.c (S.load1 ti3 .none rfl (.tmp rfl rfl) rfl) ?_
      refine RK.c (S.indexM (n := o[i].toNat) si22 .none rfl (.tmp rfl rfl) (.tmp rfl rfl) (by omega) hj1 rfl) ?_
      refine RK.c (S.field fi114_1 .none rfl (.tmp rfl rfl) rfl) ?_
      refine RK.c (S.load1 ti3 .none rfl (.tmp rfl rfl) rfl) ?_
      refine RK.c (S.assign .none rfl (.tmp rfl rfl)) ?_
      refine RK.nil ?_
      refine Ab.D.blk ?_
      refine Ab.D.code ?_
      refine OK.reg ?_
      refine RK.c (S.move .none rfl (.tmp rfl rfl)) ?_
      refine RK.c (S.add .none rfl (.tmp rfl rfl) (.cint rfl) (IntWalk.i64_in _ (by omega)) (IntWalk.i64_in _ (by omega))) ?_
      refine RK.c (S.assign .none rfl (.tmp rfl rfl)) ?_
      refine RK.nil ?_
      refine Ab.D.lp ⟨i + 1, (by omega), (by omega), rfl, rfl, rfl, (lkI hgs.symm), (lkI hch.symm), (lkI hss.symm), rfl, trivial⟩
  ·
    refine OK.exit rfl ?_
    refine Ab.D.code ?_
    refine OK.seq ?_
    refine OK.reg ?_
    refine RK.c (S.move .none rfl (.tmp rfl rfl)) ?_
    refine RK.c (S.move .none rfl (.tmp rfl rfl)) ?_
    refine RK.c (S.assign .none rfl (.tmp rfl rfl)) ?_
    refine RK.c (S.assign .none rfl (.tmp rfl rfl)) ?_
    refine RK.nil ?_
    refine Ab.D.code ?_
    refine OK.ret (Ret.r2 (.tmp rfl rfl (.c (.same rfl) rfl) rfl) (.tmp rfl rfl (.c (.same rfl) rfl) rfl) ?_)
    have hie : i = l.length := by omega
    rw [hie, late_eq hB ho, ← hol]
    all_goals rfl
end Go.Proofs.YtpfepjgnojfppaaGreatDoor
