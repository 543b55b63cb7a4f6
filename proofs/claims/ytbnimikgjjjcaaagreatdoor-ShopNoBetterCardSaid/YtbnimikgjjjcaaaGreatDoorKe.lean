import Derived.Test.YtbnimikgjjjcaaaGreatDoorFy
import Derived.Test.YtbnimikgjjjcaaaGreatDoorKd
namespace Go.Proofs.YtbnimikgjjjcaaaGreatDoor
open Go.Ab
theorem after_eq {l : List Job} {c : Changes} {m : Moment} {i : Int} {j : Job} {t : Int} (hj : jobAt l i = j) (ht : chgAt c m.setup j.setup = t) : afterT l c m i = ⟨m.time + (t + j.ticks), j.setup, if m.setup ≠ j.setup then m.changes + 1 else m.changes, maxI m.late (m.time + (t + j.ticks) - j.due)⟩ := by
  unfold afterT
  rw [hj, ht]
def freeI (o : List Int) (i : Nat) : Bool := !o.any fun x => decide ((i : Int) = x)
def ordTo (l : List Job) (c : Changes) (f : Nat) (o : List Int) (m : Moment) (q : List Int × Moment) (n : Nat) : List Int × Moment :=
  ((List.range n).filter (freeI o)).foldl (fun q (i : Nat) => ordersGo l c f (o ++ [(i : Int)]) (afterT l c m i) q) q
theorem ordTo_T {l : List Job} {c : Changes} {f : Nat} {o : List Int} {m : Moment} {q : List Int × Moment} {n : Nat} (h : freeI o n = true) : ordTo l c f o m q (n + 1) = ordersGo l c f (o ++ [(n : Int)]) (afterT l c m n) (ordTo l c f o m q n) := by
  have hf : [n].filter (freeI o) = [n] := by rw [List.filter_cons, if_pos h, List.filter_nil]
  rw [ordTo, List.range_succ, List.filter_append, List.foldl_append, hf]
  rfl
theorem ordTo_F {l : List Job} {c : Changes} {f : Nat} {o : List Int} {m : Moment} {q : List Int × Moment} {n : Nat} (h : freeI o n = false) : ordTo l c f o m q (n + 1) = ordTo l c f o m q n := by
  have hf : [n].filter (freeI o) = [] := by rw [List.filter_cons, if_neg (by rw [h]; decide), List.filter_nil]
  rw [ordTo, List.range_succ, List.filter_append, List.foldl_append, hf]
  rfl
theorem ordersGo_succ (l : List Job) (c : Changes) (f : Nat) (o : List Int) (m : Moment) (q : List Int × Moment) : ordersGo l c (f + 1) o m q = ordTo l c f o m q l.length := rfl
abbrev OrdCb (l : List Job) (J : List Int × Moment → Mem → (Nat → Prop) → World → Prop) (Φ : Value → Prop) : Prop := ∀ (o : List Int) (m : Moment) (q : List Int × Moment), o.length = l.length → ∀ v : Value, Φ v → CbOk Tryz.prog v [ints o, .agg m.cs] (.tup []) (J q) (J (stepB q o m))
abbrev OrdOk (l : List Job) (c : Changes) (J : List Int × Moment → Mem → (Nat → Prop) → World → Prop) (Φ : Value → Prop) (f : Nat) : Prop := ∀ (o : List Int) (m : Moment) (q : List Int × Moment), o.length + f = l.length → MomOk c o.length m →
  CtG Tryz.prog 29 [] ([.agg (lineCs l c), ints o, .agg m.cs] ++ [.cb Φ]) [(3000, .res (J q))] [(3000, .res (J (ordersGo l c f o m q)))] (.tup [])
def bN (q : List Int × Moment) : St := [(1010, .box [.nils]), (1011, .box q.2.cs)]
def bS (q : List Int × Moment) : St := [(1010, .box [ints q.1]), (1011, .box q.2.cs)]
def JB (cL : Ctx) (q : List Int × Moment) : Mem → (Nat → Prop) → World → Prop := if q.1 = [] then LentJ [10, 11] (bN ([], ⟨0, 0, 0, 0⟩)) cL (bN q) else LentJ [10, 11] (bN ([], ⟨0, 0, 0, 0⟩)) cL (bS q)
theorem JB_stable (cL : Ctx) (q : List Int × Moment) : Stable (JB cL q) := by
  unfold JB
  split
  · exact LentJ.stable rfl
  · exact LentJ.stable rfl
theorem few_in : ∀ (n : Nat) (o : List Int), (∀ i : Nat, i < n → (i : Int) ∈ o) → n ≤ o.length
  | 0, _, _ => Nat.zero_le _
  | n + 1, o, h => by
    have h1 := h n (by omega)
    have h2 := few_in n (o.erase (n : Int)) fun i hi => (List.mem_erase_of_ne (by omega)).2 (h i (by omega))
    rw [List.length_erase_of_mem h1] at h2
    have := List.length_pos_of_mem h1
    omega
theorem free_ex {n : Nat} {o : List Int} (h : o.length < n) : ∃ i, i < n ∧ freeI o i = true := by
  refine Decidable.byContradiction fun hn => ?_
  have := few_in n o fun i hi => by
    have h1 : ¬ freeI o i = true := fun e => hn ⟨i, hi, e⟩
    unfold freeI at h1
    simp only [Bool.not_eq_true', Bool.not_eq_false, List.any_eq_true, decide_eq_true_eq] at h1
    obtain ⟨x, hx, e⟩ := h1
    rw [e]; exact hx
  omega
theorem stepB_ne {q : List Int × Moment} {o : List Int} {m : Moment} (h : o ≠ []) : (stepB q o m).1 ≠ [] := by
  unfold stepB
  split
  · exact h
  · rename_i h1; exact fun e => h1 (.inl e)
theorem foldl_keep {α β : Type} {P : β → Prop} {g : β → α → β} (h : ∀ b a, P b → P (g b a)) : ∀ (l : List α) (b : β), P b → P (l.foldl g b)
  | [], _, hb => hb
  | a :: l, b, hb => foldl_keep h l (g b a) (h b a hb)
theorem foldl_some {α β : Type} {P : β → Prop} {g : β → α → β} (h : ∀ b a, P b → P (g b a)) {a : α} (ha : ∀ b, P (g b a)) : ∀ (l : List α) (b : β), a ∈ l → P (l.foldl g b)
  | x :: l, b, hm => by
    rw [List.foldl_cons]
    rcases List.mem_cons.1 hm with rfl | hm
    · exact foldl_keep h l _ (ha b)
    · exact foldl_some h ha l _ hm
theorem orders_keep (l : List Job) (c : Changes) (hl : 0 < l.length) : ∀ (f : Nat) (o : List Int) (m : Moment) (q : List Int × Moment), o.length + f = l.length → q.1 ≠ [] → (ordersGo l c f o m q).1 ≠ []
  | 0, o, m, q, ho, _ => stepB_ne (by intro e; rw [e] at ho; simp at ho; omega)
  | f + 1, o, m, q, ho, hq => by
    show (List.foldl _ q _).1 ≠ []
    exact foldl_keep (P := fun q : List Int × Moment => q.1 ≠ []) (fun b a hb => orders_keep l c hl f _ _ _ (by simp; omega) hb) _ _ hq
theorem orders_ne (l : List Job) (c : Changes) (hl : 0 < l.length) : ∀ (f : Nat) (o : List Int) (m : Moment) (q : List Int × Moment), o.length + f = l.length → (ordersGo l c f o m q).1 ≠ []
  | 0, o, m, q, ho => stepB_ne (by intro e; rw [e] at ho; simp at ho; omega)
  | f + 1, o, m, q, ho => by
    obtain ⟨i, hi, hf⟩ := free_ex (o := o) (n := l.length) (by omega)
    show (List.foldl _ q _).1 ≠ []
    refine foldl_some (P := fun q : List Int × Moment => q.1 ≠ []) (a := i) (fun b a hb => orders_keep l c hl f _ _ _ (by simp; omega) hb) (fun b => orders_ne l c hl f _ _ _ (by simp; omega)) _ _ ?_
    exact List.mem_filter.2 ⟨List.mem_range.2 hi, hf⟩
theorem best_ne {l : List Job} (c : Changes) (hl : 0 < l.length) : (bestT l c).1 ≠ [] := orders_ne l c hl l.length [] _ _ (by simp)
theorem shp_openFar {j : Job} {c : Changes} : Ct Tryz.prog 64 [.agg j.cs, .eptr c.cs] (.bool (decide (j.setup ≥ (c.ticks.length : Int)))) := by
 refine Ct.intro (rs := [.tmp 3]) Tryz.func64 rfl Tryz.ntmps64 Tryz.results64 rfl rfl rfl fun w h => ?_
 refine OK.seq (OK.reg ?_)
 refine RK.c (S.box (k := 2) rfl .none rfl (.tmp rfl rfl) rfl) ?_
 refine RK.c (S.assign .none rfl .cbool) ?_
 refine RK.nil (Ab.D.code (OK.seq (OK.reg ?_)))
 refine RK.c (S.bfield fi70_1 .none rfl (.tmp rfl rfl)) ?_
 refine RK.c (S.bload1 ti3 .none rfl (.tmp rfl rfl) rfl rfl rfl rfl) ?_
 refine RK.c (S.field fi25_1 .none rfl (.tmp rfl rfl) rfl) ?_
 refine RK.c (S.load1 ti23 .none rfl (.tmp rfl rfl) rfl) ?_
 refine RK.c (S.lenM si23 .none rfl (.tmp rfl rfl)) ?_
 refine RK.c (S.geq .none rfl (.tmp rfl rfl) (.tmp rfl rfl)) ?_
 refine RK.c (S.assign .none rfl (.tmp rfl rfl)) ?_
 refine RK.nil (Ab.D.code ?_)
 refine OK.ret (Ret.r1 (.tmp rfl rfl (.c (.same rfl) rfl) rfl) ?_)
 rfl
theorem shp_open {l : List Job} {c : Changes} : Ct Tryz.prog 28 [.sl (l.map Job.cs), .agg c.cs] (.tup [.agg (lineCs l c), .int .i64 (bothE l c)]) := by
 refine Ct.intro (rs := [.cell 4 75, .tmp 5]) Tryz.func28 rfl Tryz.ntmps28 Tryz.results28 rfl rfl rfl fun w h => ?_
 refine OK.seq (OK.reg ?_)
 refine RK.c (S.box (k := 3) rfl .none rfl (.tmp rfl rfl) rfl) ?_
 refine RK.c (S.alloc (k := 4) ze75 rfl .none rfl) ?_
 refine RK.c (S.assign .none rfl (.cint rfl)) ?_
 refine RK.nil (Ab.D.code (OK.seq (OK.reg ?_)))
 refine RK.c (S.bloadN ti25 .none rfl (.tmp rfl rfl) rfl rfl rfl rfl) ?_
 refine RK.c (S.call (shp_CheckChanges) Tryz.call62 .none rfl (.cons (.tmp rfl rfl) .nil) rfl) ?_
 refine RK.c (S.move .none rfl (.tmp rfl rfl)) ?_
 refine RK.c (S.extract .none rfl (.tmp rfl rfl) rfl rfl) ?_
 refine RK.c (S.extract .none rfl (.tmp rfl rfl) rfl rfl) ?_
 refine RK.c (S.assign .none rfl (.tmp rfl rfl)) ?_
 refine RK.c (S.assign .none rfl (.tmp rfl rfl)) ?_
 refine RK.nil (Ab.D.code (OK.seq (OK.reg ?_)))
 refine RK.c (S.move .none rfl (.tmp rfl rfl)) ?_
 refine RK.c (S.makeFunc1 .none rfl (.tmp rfl rfl) rfl) ?_
 refine RK.c (S.callL (containsFunc_Job (l := l) (g := fun j => decide (j.setup ≥ (c.ticks.length : Int))) (caps := [.eptr c.cs]) (fun j _ => shp_openFar) Tryz.call64 ⟨rfl, rfl⟩) Tryz.call63 .none rfl (.cons (.tmp rfl rfl) (.cons (.tmp rfl rfl) .nil)) (.cons (.same rfl) (.cons (.fn (.cons (.ptr rfl rfl rfl rfl) .nil)) .nil)) rfl) ?_
 refine RK.c (S.assign .none rfl (.tmp rfl rfl)) ?_
 refine RK.nil (Ab.D.code ?_)
 refine OK.seq ?_
 refine OK.regionDraw follows (.c (S.move .none rfl (.tmp rfl rfl))
  (.c (S.bloadN ti25 .none rfl (.tmp rfl rfl) rfl rfl rfl rfl)
  (.c (S.build bu75 rfl .none rfl (.cons (.tmp rfl rfl) (.cons (.tmp rfl rfl) .nil)) rfl rfl)
  (.c (S.move .none rfl (.tmp rfl rfl))
  (.c (S.call (shp_jobsErr) Tryz.call39 .none rfl (.cons (.tmp rfl rfl) .nil) rfl)
  (.c (S.move .none rfl (.tmp rfl rfl))
  (.c (S.move .none rfl (.tmp rfl rfl))
  (.c (S.not .none rfl (.tmp rfl rfl))
  (.c (S.call (shop_unless) Tryz.call40 .none rfl (.cons (.tmp rfl rfl) (.cons (.cint rfl) .nil)) rfl)
  (.c (S.mkSlice (k := 26) (rows := [[_], [_], [_]]) ai130 .none rfl (.cons (.tmp rfl rfl) (.cons (.tmp rfl rfl) (.cons (.tmp rfl rfl) .nil))) rfl rfl rfl rfl rfl rfl rfl)
  (.c (S.callL (shop_first (l := [_, _, _])) Tryz.call36 .none rfl (.cons (.tmp rfl rfl) .nil) (.cons (.p (.own rfl rfl) rfl) .nil) rfl)
  (.c (S.store ti75 .none (.tmp rfl rfl) (.tmp rfl rfl) rfl rfl rfl rfl rfl rfl)
  (.c (S.assign .none rfl (.tmp rfl rfl))
  .nil))))))))))))) (by kernel_rfl) ?_
 refine Ab.D.code ?_
 refine OK.ret (Ret.r2 (.cellN rfl rfl rfl rfl ti75 rfl (.k (.same rfl) (.k (.same rfl) (.k (.same rfl) .z)))) (.tmp rfl rfl (.c (.same rfl) rfl) rfl) ?_)
 rw [← both_eq]
 rfl
theorem shp_begin {l : List Job} {c : Changes} : Ct Tryz.prog 30 [.agg (lineCs l c)] (.agg (beginT c).cs) := by
 refine Ct.intro (rs := [.cell 2 79]) Tryz.func30 rfl Tryz.ntmps30 Tryz.results30 rfl rfl rfl fun w h => ?_
 refine OK.seq (OK.reg ?_)
 refine RK.c (S.box (k := 1) rfl .none rfl (.tmp rfl rfl) rfl) ?_
 refine RK.c (S.alloc (k := 2) ze79 rfl .none rfl) ?_
 refine RK.nil (Ab.D.code (OK.seq (OK.reg ?_)))
 refine RK.c (S.bfield fi75_1 .none rfl (.tmp rfl rfl)) ?_
 refine RK.c (S.bfield fi25_0 .none rfl (.tmp rfl rfl)) ?_
 refine RK.c (S.bload1 ti3 .none rfl (.tmp rfl rfl) rfl rfl rfl rfl) ?_
 refine RK.c (S.build bu79 rfl .none rfl (.cons (.tmp rfl rfl) (.cons (.cint rfl) .nil)) rfl rfl) ?_
 refine RK.c (S.store ti79 .none (.tmp rfl rfl) (.tmp rfl rfl) rfl rfl rfl rfl rfl rfl) ?_
 refine RK.nil (Ab.D.code ?_)
 refine OK.ret (Ret.r1 (.cellN rfl rfl rfl rfl ti79 rfl (.k (.same rfl) (.k (.same rfl) (.k (.same rfl) (.k (.same rfl) .z))))) ?_)
 rfl
theorem shp_after {l : List Job} {c : Changes} {m : Moment} {i : Int} {k : Nat} (hB : BothOk l c) (hm : MomOk c k m) (hk : k ≤ 100) (h0 : 0 ≤ i ∧ i < (l.length : Int)) : Ct Tryz.prog 67 [.agg (lineCs l c), .agg m.cs, .int .i64 i] (.agg (afterT l c m i).cs) := by
 refine Ct.intro (rs := [.cell 6 79]) Tryz.func67 rfl Tryz.ntmps67 Tryz.results67 rfl rfl rfl fun w h => ?_
 obtain ⟨hi, hje⟩ := job_at h0.1 h0.2
 have hj := hB.job _ (List.getElem_mem hi)
 have hs := hB.set _ (List.getElem_mem hi)
 obtain ⟨m1, m2, m3, m4⟩ := hm
 obtain ⟨hc1, hc2, hce, hcb1, hcb2⟩ := chg_at hB (b := l[i.toNat].setup) m2 ⟨hj.1.1, hs⟩
 rw [hce] at hcb1 hcb2
 refine OK.seq (OK.reg ?_)
 refine RK.c (S.box (k := 3) rfl .none rfl (.tmp rfl rfl) rfl) ?_
 refine RK.c (S.box (k := 4) rfl .none rfl (.tmp rfl rfl) rfl) ?_
 refine RK.c (S.alloc (k := 6) ze79 rfl .none rfl) ?_
 refine RK.nil (Ab.D.code (OK.seq (OK.reg ?_)))
 refine RK.c (S.bfield fi75_0 .none rfl (.tmp rfl rfl)) ?_
 refine RK.c (S.bload1 ti22 .none rfl (.tmp rfl rfl) rfl rfl rfl rfl) ?_
 refine RK.c (S.move .none rfl (.tmp rfl rfl)) ?_
 refine RK.c (S.indexM (n := i.toNat) si22 .none rfl (.tmp rfl rfl) (.tmp rfl rfl) (Int.toNat_of_nonneg h0.1).symm hi rfl) ?_
 refine RK.c (S.loadN ti70 .none rfl (.tmp rfl rfl) rfl rfl) ?_
 refine RK.c (S.alloc (k := 7) ze70 rfl .none rfl) ?_
 refine RK.c (S.store ti70 .none (.tmp rfl rfl) (.tmp rfl rfl) rfl rfl rfl rfl rfl rfl) ?_
 refine RK.nil (Ab.D.code ?_)
 refine OK.seq ?_
 refine OK.regionDraw follows (.c (S.bfield fi79_0 .none rfl (.tmp rfl rfl))
  (.c (S.bload1 ti3 .none rfl (.tmp rfl rfl) rfl rfl rfl rfl)
  (.c (S.bfield fi75_1 .none rfl (.tmp rfl rfl))
  (.c (S.bfield fi25_1 .none rfl (.tmp rfl rfl))
  (.c (S.bload1 ti23 .none rfl (.tmp rfl rfl) rfl rfl rfl rfl)
  (.c (S.bfield fi79_1 .none rfl (.tmp rfl rfl))
  (.c (S.bload1 ti3 .none rfl (.tmp rfl rfl) rfl rfl rfl rfl)
  (.c (S.indexM (n := m.setup.toNat) si23 .none rfl (.tmp rfl rfl) (.tmp rfl rfl) (Int.toNat_of_nonneg m2.1).symm hc1 rfl)
  (.c (S.load1 ti26 .none rfl (.tmp rfl rfl) rfl)
  (.c (S.bfield fi70_1 .none rfl (.tmp rfl rfl))
  (.c (S.bload1 ti3 .none rfl (.tmp rfl rfl) rfl rfl rfl rfl)
  (.c (S.indexM (n := l[i.toNat].setup.toNat) si26 .none rfl (.tmp rfl rfl) (.tmp rfl rfl) (Int.toNat_of_nonneg hj.1.1).symm hc2 rfl)
  (.c (S.load1 ti3 .none rfl (.tmp rfl rfl) rfl)
  (.c (S.bfield fi70_2 .none rfl (.tmp rfl rfl))
  (.c (S.bload1 ti3 .none rfl (.tmp rfl rfl) rfl rfl rfl rfl)
  (.c (S.add .none rfl (.tmp rfl rfl) (.tmp rfl rfl) (IntWalk.i64_in _ (by omega)) (IntWalk.i64_in _ (by omega)))
  (.c (S.add .none rfl (.tmp rfl rfl) (.tmp rfl rfl) (IntWalk.i64_in _ (by omega)) (IntWalk.i64_in _ (by omega)))
  (.c (S.bfield fi79_0 .none rfl (.tmp rfl rfl))
  (.c (S.store ti3 .none (.tmp rfl rfl) (.tmp rfl rfl) rfl rfl rfl rfl rfl rfl)
  .nil))))))))))))))))))) (by kernel_rfl) ?_
 refine Ab.D.code (OK.seq (OK.seq (OK.reg ?_)))
 refine RK.c (S.bfield fi79_1 .none rfl (.tmp rfl rfl)) ?_
 refine RK.c (S.bload1 ti3 .none rfl (.tmp rfl rfl) rfl rfl rfl rfl) ?_
 refine RK.c (S.bfield fi70_1 .none rfl (.tmp rfl rfl)) ?_
 refine RK.c (S.bload1 ti3 .none rfl (.tmp rfl rfl) rfl rfl rfl rfl) ?_
 refine RK.c (S.neq .none rfl (.tmp rfl rfl) (.tmp rfl rfl)) ?_
 refine RK.nil (Ab.D.code ?_)
 refine OK.condD rfl rfl (fun c35 => ?_) (fun c35 => ?_)
 ·
  refine OK.reg ?_
  refine RK.c (S.bfield fi79_2 .none rfl (.tmp rfl rfl)) ?_
  refine RK.c (S.bload1 ti3 .none rfl (.tmp rfl rfl) rfl rfl rfl rfl) ?_
  refine RK.c (S.add .none rfl (.tmp rfl rfl) (.cint rfl) (IntWalk.i64_in _ (by omega)) (IntWalk.i64_in _ (by omega))) ?_
  refine RK.c (S.bfield fi79_2 .none rfl (.tmp rfl rfl)) ?_
  refine RK.c (S.store ti3 .none (.tmp rfl rfl) (.tmp rfl rfl) rfl rfl rfl rfl rfl rfl) ?_
  refine RK.nil (Ab.D.code ?_)
  refine OK.seq ?_
  refine OK.regionDraw follows (.c (S.bfield fi70_1 .none rfl (.tmp rfl rfl))
   (.c (S.bload1 ti3 .none rfl (.tmp rfl rfl) rfl rfl rfl rfl)
   (.c (S.bfield fi79_3 .none rfl (.tmp rfl rfl))
   (.c (S.bload1 ti3 .none rfl (.tmp rfl rfl) rfl rfl rfl rfl)
   (.c (S.bfield fi79_0 .none rfl (.tmp rfl rfl))
   (.c (S.bload1 ti3 .none rfl (.tmp rfl rfl) rfl rfl rfl rfl)
   (.c (S.bfield fi70_3 .none rfl (.tmp rfl rfl))
   (.c (S.bload1 ti3 .none rfl (.tmp rfl rfl) rfl rfl rfl rfl)
   (.c (S.sub .none rfl (.tmp rfl rfl) (.tmp rfl rfl) (IntWalk.i64_in _ (by omega)) (IntWalk.i64_in _ (by omega)))
   (.c (S.max2 .none rfl (.tmp rfl rfl) (.tmp rfl rfl))
   (.c (S.bfield fi79_1 .none rfl (.tmp rfl rfl))
   (.c (S.store ti3 .none (.tmp rfl rfl) (.tmp rfl rfl) rfl rfl rfl rfl rfl rfl)
   (.c (S.bfield fi79_3 .none rfl (.tmp rfl rfl))
   (.c (S.store ti3 .none (.tmp rfl rfl) (.tmp rfl rfl) rfl rfl rfl rfl rfl rfl)
   .nil)))))))))))))) (by kernel_rfl) ?_
  refine Ab.D.code (OK.seq (OK.reg ?_))
  refine RK.c (S.bloadN ti79 .none rfl (.tmp rfl rfl) rfl rfl rfl rfl) ?_
  refine RK.c (S.store ti79 .none (.tmp rfl rfl) (.tmp rfl rfl) rfl rfl rfl rfl rfl rfl) ?_
  refine RK.nil (Ab.D.code ?_)
  refine OK.ret (Ret.r1 (.cellN rfl rfl rfl rfl ti79 rfl (.k (.same rfl) (.k (.same rfl) (.k (.same rfl) (.k (.same rfl) .z))))) ?_)
  rw [after_eq hje hce, if_pos c35]
  rfl
 ·
  refine OK.skip ?_
  refine Ab.D.code ?_
  refine OK.seq ?_
  refine OK.regionDraw follows (.c (S.bfield fi70_1 .none rfl (.tmp rfl rfl))
   (.c (S.bload1 ti3 .none rfl (.tmp rfl rfl) rfl rfl rfl rfl)
   (.c (S.bfield fi79_3 .none rfl (.tmp rfl rfl))
   (.c (S.bload1 ti3 .none rfl (.tmp rfl rfl) rfl rfl rfl rfl)
   (.c (S.bfield fi79_0 .none rfl (.tmp rfl rfl))
   (.c (S.bload1 ti3 .none rfl (.tmp rfl rfl) rfl rfl rfl rfl)
   (.c (S.bfield fi70_3 .none rfl (.tmp rfl rfl))
   (.c (S.bload1 ti3 .none rfl (.tmp rfl rfl) rfl rfl rfl rfl)
   (.c (S.sub .none rfl (.tmp rfl rfl) (.tmp rfl rfl) (IntWalk.i64_in _ (by omega)) (IntWalk.i64_in _ (by omega)))
   (.c (S.max2 .none rfl (.tmp rfl rfl) (.tmp rfl rfl))
   (.c (S.bfield fi79_1 .none rfl (.tmp rfl rfl))
   (.c (S.store ti3 .none (.tmp rfl rfl) (.tmp rfl rfl) rfl rfl rfl rfl rfl rfl)
   (.c (S.bfield fi79_3 .none rfl (.tmp rfl rfl))
   (.c (S.store ti3 .none (.tmp rfl rfl) (.tmp rfl rfl) rfl rfl rfl rfl rfl rfl)
   .nil)))))))))))))) (by kernel_rfl) ?_
  refine Ab.D.code (OK.seq (OK.reg ?_))
  refine RK.c (S.bloadN ti79 .none rfl (.tmp rfl rfl) rfl rfl rfl rfl) ?_
  refine RK.c (S.store ti79 .none (.tmp rfl rfl) (.tmp rfl rfl) rfl rfl rfl rfl rfl rfl) ?_
  refine RK.nil (Ab.D.code ?_)
  refine OK.ret (Ret.r1 (.cellN rfl rfl rfl rfl ti79 rfl (.k (.same rfl) (.k (.same rfl) (.k (.same rfl) (.k (.same rfl) .z))))) ?_)
  rw [after_eq hje hce, if_neg c35]
  rfl
theorem index_int {l : List Int} {v : Int} : Ct Tryz.prog 96 [.sl (l.map (fun n => [.int .i64 n])), .int .i64 v] (.int .i64 (idxGo (fun x => decide (v = x)) 0 l)) := by
 refine Ct.intro (rs := [.tmp 4]) Tryz.func96 rfl Tryz.ntmps96 Tryz.results96 rfl rfl rfl fun w h => ?_
 refine OK.slLen (rows := l.map (fun n => [.int .i64 n])) (t := 0) rfl rfl fun hlen => ?_
 rw [List.length_map] at hlen
 unfold maxLen at hlen
 refine OK.seq (OK.reg ?_)
 refine RK.c (S.assign .none rfl (.cint rfl)) ?_
 refine RK.nil (Ab.D.code (OK.seq (OK.seq (OK.reg ?_))))
 refine RK.c (S.move .none rfl (.tmp rfl rfl)) ?_
 refine RK.c (S.lenM si26 .none rfl (.tmp rfl rfl)) ?_
 refine RK.c (S.move .none rfl (.cint rfl)) ?_
 refine RK.nil (Ab.D.code ?_)
 refine OK.block ?_
 refine OK.loop (G := Nat) [] (fun i => [(0, .sl (l.map (fun n => [.int .i64 n]))), (1, .int .i64 v), (6, .sl (l.map (fun n => [.int .i64 n]))), (7, .int .i64 l.length), (8, .int .i64 i)]) (fun i => i ≤ l.length ∧ idxGo (fun x => decide (v = x)) 0 l = idxGo (fun x => decide (v = x)) i (l.drop i)) (fun i => l.length - i) 0 ⟨Nat.zero_le _, rfl⟩ ⟨rfl, rfl, rfl, rfl, rfl, trivial⟩ (fun _ => rfl) ?_
 rintro i ⟨hi, hg⟩
 refine OK.seq (OK.reg ?_)
 refine RK.c (S.lss .none rfl (.tmp rfl rfl) (.tmp rfl rfl)) ?_
 refine RK.nil (Ab.D.code ?_)
 refine OK.seq ?_
 refine OK.condD rfl rfl (fun c9 => ?_) (fun c9 => ?_)
 ·
  refine OK.skip ?_
  refine Ab.D.code ?_
  refine OK.seq ?_
  refine OK.block ?_
  refine OK.seq (OK.reg ?_)
  refine RK.c (S.move .none rfl (.tmp rfl rfl)) ?_
  refine RK.c (S.assign .none rfl (.tmp rfl rfl)) ?_
  refine RK.nil (Ab.D.code (OK.seq (OK.reg ?_)))
  refine RK.c (S.move .none rfl (.tmp rfl rfl)) ?_
  refine RK.c (S.move .none rfl (.tmp rfl rfl)) ?_
  refine RK.c (S.move .none rfl (.tmp rfl rfl)) ?_
  refine RK.c (S.indexM si26 .none rfl (.tmp rfl rfl) (.tmp rfl rfl) rfl (by omega) rfl) ?_
  refine RK.c (S.load1 ti3 .none rfl (.tmp rfl rfl) rfl) ?_
  refine RK.c (S.eql .none rfl (.tmp rfl rfl) (.tmp rfl rfl)) ?_
  refine RK.nil (Ab.D.code ?_)
  refine OK.condD rfl rfl (fun c16 => ?_) (fun c16 => ?_)
  ·
   refine OK.seq (OK.reg ?_)
   refine RK.c (S.move .none rfl (.tmp rfl rfl)) ?_
   refine RK.c (S.assign .none rfl (.tmp rfl rfl)) ?_
   refine RK.nil (Ab.D.code ?_)
   refine OK.ret (Ret.r1 (.tmp rfl rfl (.c (.same rfl) rfl) rfl) ?_)
   rw [hg, idxGo_drop _ (by omega)]
   simp_all
  ·
   refine OK.skip ?_
   refine Ab.D.blk ?_
   refine Ab.D.code (OK.reg ?_)
   refine RK.c (S.add .none rfl (.tmp rfl rfl) (.cint rfl) (IntWalk.i64_in _ (by omega)) (IntWalk.i64_in _ (by omega))) ?_
   refine RK.c (S.move .none rfl (.tmp rfl rfl)) ?_
   refine RK.nil ?_
   refine Ab.D.lp ⟨i + 1, ⟨by omega, ?_⟩, (by omega), rfl, rfl, rfl, rfl, rfl, trivial⟩
   rw [hg, idxGo_drop _ (by omega)]
   simp_all
 ·
  refine OK.exit rfl ?_
  refine Ab.D.code (OK.seq (OK.reg ?_))
  refine RK.c (S.assign .none rfl (.cint rfl)) ?_
  refine RK.nil (Ab.D.code ?_)
  refine OK.ret (Ret.r1 (.tmp rfl rfl (.c (.same rfl) rfl) rfl) ?_)
  have : i = l.length := by omega
  subst this
  rw [hg, List.drop_length]
  rfl
theorem contains_int {l : List Int} {v : Int} : Ct Tryz.prog 65 [ints l, .int .i64 v] (.bool (l.any (fun x => decide (v = x)))) := by
 refine Ct.intro (rs := [.tmp 4]) Tryz.func65 rfl Tryz.ntmps65 Tryz.results65 rfl rfl rfl fun w h => ?_
 refine OK.seq (OK.reg ?_)
 refine RK.c (S.assign .none rfl .cbool) ?_
 refine RK.nil (Ab.D.code (OK.seq (OK.reg ?_)))
 refine RK.c (S.move .none rfl (.tmp rfl rfl)) ?_
 refine RK.c (S.move .none rfl (.tmp rfl rfl)) ?_
 refine RK.c (S.call (index_int) Tryz.call96 .none rfl (.cons (.tmp rfl rfl) (.cons (.tmp rfl rfl) .nil)) rfl) ?_
 refine RK.c (S.geq .none rfl (.tmp rfl rfl) (.cint rfl)) ?_
 refine RK.c (S.assign .none rfl (.tmp rfl rfl)) ?_
 refine RK.nil (Ab.D.code ?_)
 refine OK.ret (Ret.r1 (.tmp rfl rfl (.c (.same rfl) rfl) rfl) ?_)
 exact ret_b (by rw [← idxGo_any _ l 0])
theorem clip_int {l : List Int} : Ct Tryz.prog 66 [ints l] (.slc (l.map (fun n => [.int .i64 n]))) := by
 refine Ct.intro (rs := [.tmp 2]) Tryz.func66 rfl Tryz.ntmps66 Tryz.results66 rfl rfl rfl fun w h => ?_
 refine OK.slLen (rows := l.map (fun n => [.int .i64 n])) (t := 0) rfl rfl fun hlen => ?_
 rw [List.length_map] at hlen
 unfold maxLen at hlen
 refine OK.seq (OK.reg ?_)
 refine RK.c (S.assign .none rfl .cnil) ?_
 refine RK.nil (Ab.D.code (OK.seq (OK.reg ?_)))
 refine RK.c (S.move .none rfl (.tmp rfl rfl)) ?_
 refine RK.c (S.move .none rfl (.tmp rfl rfl)) ?_
 refine RK.c (S.lenM si26 .none rfl (.tmp rfl rfl)) ?_
 refine RK.c (S.move .none rfl (.tmp rfl rfl)) ?_
 refine RK.c (S.lenM si26 .none rfl (.tmp rfl rfl)) ?_
 refine RK.c (S.sliceClip si26 .none rfl (.tmp rfl rfl) (.tmp rfl rfl) (.tmp rfl rfl) (by rw [List.length_map]) (by rw [List.length_map])) ?_
 refine RK.c (S.assign .none rfl (.tmp rfl rfl)) ?_
 refine RK.nil (Ab.D.code ?_)
 refine OK.ret (Ret.r1 (.tmp rfl rfl (.c (.same rfl) rfl) rfl) ?_)
 rfl
theorem clone_int {l : List Int} (h0 : 0 < l.length) (hn : l.length ≤ 100000) : Ct Tryz.prog 32 [ints l] (ints l) := by
 refine Ct.intro (rs := [.tmp 2]) Tryz.func32 rfl Tryz.ntmps32 Tryz.results32 rfl rfl rfl fun w h => ?_
 refine OK.seq (OK.reg ?_)
 refine RK.c (S.assign .none rfl .cnil) ?_
 refine RK.nil (Ab.D.code (OK.seq (OK.seq (OK.reg ?_))))
 refine RK.c (S.move .none rfl (.tmp rfl rfl)) ?_
 refine RK.c (S.eqnil Tryz.underlying26 .none rfl (.tmp rfl rfl) (by simp; omega)) ?_
 refine RK.nil (Ab.D.code ?_)
 refine OK.condF rfl rfl rfl ?_
 refine OK.skip ?_
 refine Ab.D.code (OK.seq (OK.reg ?_))
 refine RK.c (S.mkSlice (k := 5) (rows := []) ai26 .none rfl .nil rfl rfl rfl rfl rfl rfl rfl) ?_
 refine RK.c (S.move .none rfl (.tmp rfl rfl)) ?_
 refine RK.c (S.appendSl ai26 .none rfl (.tmp rfl rfl) rfl (by first | rfl | (simp; done) | (simp; omega)) (.tmp rfl rfl) (by simp) (List.length_map ..) (by omega) (by simp only [maxLen]; omega)) ?_
 refine RK.c (S.assign .none rfl (.tmp rfl rfl)) ?_
 refine RK.nil (Ab.D.code ?_)
 refine OK.ret (Ret.r1 (.tmp rfl rfl (.c (.own rfl rfl (by first | rfl | (simp; done) | (simp; omega))) rfl) rfl) ?_)
 rfl
theorem shp_orders0 {l : List Job} {c : Changes} {o : List Int} {m : Moment} {q : List Int × Moment} {Φ : Value → Prop} {J : List Int × Moment → Mem → (Nat → Prop) → World → Prop} (hΦ : OrdCb l J Φ) (hJ : ∀ q, Stable (J q)) (ho : o.length = l.length) : CtG Tryz.prog 29 [] [.agg (lineCs l c), ints o, .agg m.cs, .cb Φ] [(3000, .res (J q))] [(3000, .res (J (stepB q o m)))] (.tup []) := by
 refine CtG.intro (rs := []) Tryz.func29 rfl Tryz.ntmps29 Tryz.results29 rfl rfl rfl rfl fun w h => ?_
 refine OK.seq (OK.reg ?_)
 refine RK.c (S.box (k := 4) rfl .none rfl (.tmp rfl rfl) rfl) ?_
 refine RK.c (S.box (k := 6) rfl .none rfl (.tmp rfl rfl) rfl) ?_
 refine RK.nil (Ab.D.code (OK.seq (OK.seq (OK.reg ?_))))
 refine RK.c (S.move .none rfl (.tmp rfl rfl)) ?_
 refine RK.c (S.lenM si26 .none rfl (.tmp rfl rfl)) ?_
 refine RK.c (S.bfield fi75_0 .none rfl (.tmp rfl rfl)) ?_
 refine RK.c (S.bload1 ti22 .none rfl (.tmp rfl rfl) rfl rfl rfl rfl) ?_
 refine RK.c (S.lenM si22 .none rfl (.tmp rfl rfl)) ?_
 refine RK.c (S.eql .none rfl (.tmp rfl rfl) (.tmp rfl rfl)) ?_
 refine RK.nil (Ab.D.code ?_)
 refine OK.condD rfl rfl (fun c14 => ?_) (fun c14 => ?_)
 ·
  refine OK.seq (OK.reg ?_)
  refine RK.c (S.move .none rfl (.tmp rfl rfl)) ?_
  refine RK.c (S.move .none rfl (.tmp rfl rfl)) ?_
  refine RK.c (S.bloadN ti79 .none rfl (.tmp rfl rfl) rfl rfl rfl rfl) ?_
  refine RK.c (S.callcb (J1 := J (stepB q o m)) (hΦ o m q ho) (hJ _) .none rfl (.tmp rfl rfl) (.cons (.tmp rfl rfl) (.cons (.tmp rfl rfl) .nil)) rfl rfl) ?_
  refine RK.nil (Ab.D.code ?_)
  exact OK.ret ⟨⟨.inl rfl, [], trivial, rfl⟩, rfl, trivial⟩
 ·
  exfalso
  omega
theorem shp_ordersS {l : List Job} {c : Changes} {o : List Int} {m : Moment} {q : List Int × Moment} {Φ : Value → Prop} {J : List Int × Moment → Mem → (Nat → Prop) → World → Prop} {f : Nat} (hB : BothOk l c) (hm : MomOk c o.length m) (hJ : ∀ q, Stable (J q)) (ho : o.length + (f + 1) = l.length) (ih : OrdOk l c J Φ f) : CtG Tryz.prog 29 [] [.agg (lineCs l c), ints o, .agg m.cs, .cb Φ] [(3000, .res (J q))] [(3000, .res (J (ordersGo l c (f + 1) o m q)))] (.tup []) := by
 refine CtG.intro (rs := []) Tryz.func29 rfl Tryz.ntmps29 Tryz.results29 rfl rfl rfl rfl fun w h => ?_
 have hl := hB.len
 refine OK.seq (OK.reg ?_)
 refine RK.c (S.box (k := 4) rfl .none rfl (.tmp rfl rfl) rfl) ?_
 refine RK.c (S.box (k := 6) rfl .none rfl (.tmp rfl rfl) rfl) ?_
 refine RK.nil (Ab.D.code (OK.seq (OK.seq (OK.reg ?_))))
 refine RK.c (S.move .none rfl (.tmp rfl rfl)) ?_
 refine RK.c (S.lenM si26 .none rfl (.tmp rfl rfl)) ?_
 refine RK.c (S.bfield fi75_0 .none rfl (.tmp rfl rfl)) ?_
 refine RK.c (S.bload1 ti22 .none rfl (.tmp rfl rfl) rfl rfl rfl rfl) ?_
 refine RK.c (S.lenM si22 .none rfl (.tmp rfl rfl)) ?_
 refine RK.c (S.eql .none rfl (.tmp rfl rfl) (.tmp rfl rfl)) ?_
 refine RK.nil (Ab.D.code ?_)
 refine OK.condD rfl rfl (fun c14 => ?_) (fun c14 => ?_)
 ·
  exfalso
  omega
 ·
  refine OK.skip ?_
  refine Ab.D.code (OK.seq (OK.reg ?_))
  refine RK.c (S.bfield fi75_0 .none rfl (.tmp rfl rfl)) ?_
  refine RK.c (S.bload1 ti22 .none rfl (.tmp rfl rfl) rfl rfl rfl rfl) ?_
  refine RK.c (S.lenM si22 .none rfl (.tmp rfl rfl)) ?_
  refine RK.c (S.move .none rfl (.cint rfl)) ?_
  refine RK.nil (Ab.D.code ?_)
  refine OK.block ?_
  refine OK.loop (G := Nat) [4, 6] (fun i => [(3, .cb Φ), (4, .ptr 4 0), (6, .ptr 6 0), (1004, .box (lineCs l c)), (1006, .box m.cs), (1, ints o), (21, .int .i64 l.length), (22, .int .i64 i), (3000, .res (J (ordTo l c f o m q i)))]) (fun i => i ≤ l.length) (fun i => l.length - i) 0 (Nat.zero_le _) ⟨rfl, rfl, rfl, rfl, rfl, rfl, rfl, rfl, rfl, trivial⟩ (fun _ => rfl) ?_
  rintro i hi
  refine OK.seq (OK.reg ?_)
  refine RK.c (S.lss .none rfl (.tmp rfl rfl) (.tmp rfl rfl)) ?_
  refine RK.nil (Ab.D.code ?_)
  refine OK.seq ?_
  refine OK.condD rfl rfl (fun c23 => ?_) (fun c23 => ?_)
  ·
   refine OK.skip ?_
   refine Ab.D.code ?_
   refine OK.seq ?_
   refine OK.block ?_
   refine OK.seq (OK.reg ?_)
   refine RK.c (S.move .none rfl (.tmp rfl rfl)) ?_
   refine RK.c (S.assign .none rfl (.tmp rfl rfl)) ?_
   refine RK.nil (Ab.D.code (OK.seq (OK.reg ?_)))
   refine RK.c (S.move .none rfl (.tmp rfl rfl)) ?_
   refine RK.c (S.move .none rfl (.tmp rfl rfl)) ?_
   refine RK.c (S.call (contains_int) Tryz.call65 .none rfl (.cons (.tmp rfl rfl) (.cons (.tmp rfl rfl) .nil)) rfl) ?_
   refine RK.c (S.not .none rfl (.tmp rfl rfl)) ?_
   refine RK.nil (Ab.D.code ?_)
   refine OK.cond rfl rfl (fun c28 => ?_) (fun c28 => ?_)
   ·
    have hma := after_ok hB hm (i := (i : Int)) (by omega) (by omega)
    refine OK.regionDraw follows (.c (S.bloadN ti75 .none rfl (.tmp rfl rfl) rfl rfl rfl rfl)
     (.c (S.move .none rfl (.tmp rfl rfl))
     (.c (S.call (clip_int) Tryz.call66 .none rfl (.cons (.tmp rfl rfl) .nil) rfl)
     (.c (S.move .none rfl (.tmp rfl rfl))
     (.c (S.mkSlice (k := 33) (rows := [[_]]) ai26 .none rfl (.cons (.tmp rfl rfl) .nil) rfl rfl rfl rfl rfl rfl rfl)
     (.c (S.appendClipD (rows' := (o ++ [(i : Int)]).map fun n => [.int .i64 n]) ai26 .none rfl (.tmp rfl rfl) (by simp) (.tmp rfl rfl) rfl rfl (by decide) (by simp) (by rw [List.length_map]; omega) (by rw [List.length_map]; simp only [maxLen]; omega))
     (.c (S.bloadN ti75 .none rfl (.tmp rfl rfl) rfl rfl rfl rfl)
     (.c (S.bloadN ti79 .none rfl (.tmp rfl rfl) rfl rfl rfl rfl)
     (.c (S.move .none rfl (.tmp rfl rfl))
     (.c (S.call (shp_after hB hm (i := (i : Int)) (by omega) ⟨by omega, by omega⟩) Tryz.call67 .none rfl (.cons (.tmp rfl rfl) (.cons (.tmp rfl rfl) (.cons (.tmp rfl rfl) .nil))) rfl)
     (.c (S.move .none rfl (.tmp rfl rfl))
     (.c (S.callCB (ih (o ++ [(i : Int)]) (afterT l c m i) (ordTo l c f o m q i) (by simp only [List.length_append, List.length_singleton]; omega) (by rw [List.length_append, List.length_singleton]; exact hma)) (hJ _) Tryz.call29 .none rfl (.cons (.tmp rfl rfl) (.cons (.tmp rfl rfl) (.cons (.tmp rfl rfl) (.cons (.tmp rfl rfl) .nil)))) rfl rfl rfl rfl)
     .nil)))))))))))) (by kernel_rfl) ?_
    refine Ab.D.blk ?_
    refine Ab.D.code (OK.reg ?_)
    refine RK.c (S.add .none rfl (.tmp rfl rfl) (.cint rfl) (IntWalk.i64_in _ (by omega)) (IntWalk.i64_in _ (by omega))) ?_
    refine RK.c (S.move .none rfl (.tmp rfl rfl)) ?_
    refine RK.nil ?_
    refine Ab.D.lp ⟨i + 1, (by omega), (by omega), rfl, rfl, rfl, rfl, rfl, rfl, rfl, rfl, (lk_res (by first | rw [ordTo_T c28] | rw [ordTo_F (by simpa [freeI] using c28)])), trivial⟩
   ·
    refine OK.skip ?_
    refine Ab.D.blk ?_
    refine Ab.D.code (OK.reg ?_)
    refine RK.c (S.add .none rfl (.tmp rfl rfl) (.cint rfl) (IntWalk.i64_in _ (by omega)) (IntWalk.i64_in _ (by omega))) ?_
    refine RK.c (S.move .none rfl (.tmp rfl rfl)) ?_
    refine RK.nil ?_
    refine Ab.D.lp ⟨i + 1, (by omega), (by omega), rfl, rfl, rfl, rfl, rfl, rfl, rfl, rfl, (lk_res (by first | rw [ordTo_T c28] | rw [ordTo_F (by simpa [freeI] using c28)])), trivial⟩
  ·
   refine OK.exit rfl ?_
   have hil : i = l.length := by omega
   exact ⟨⟨.inr rfl, [], trivial, rfl⟩, (lk_res (by rw [show i = l.length by omega]; rfl)), trivial⟩
theorem shp_orders {l : List Job} {c : Changes} {Φ : Value → Prop} {J : List Int × Moment → Mem → (Nat → Prop) → World → Prop} (hB : BothOk l c) (hΦ : OrdCb l J Φ) (hJ : ∀ q, Stable (J q)) : ∀ f, OrdOk l c J Φ f
  | 0 => fun _ _ _ ho _ => shp_orders0 (c := c) hΦ hJ ho
  | f + 1 => fun _ _ _ ho hm => shp_ordersS hB hm hJ ho (shp_orders hB hΦ hJ f)
theorem shp_best0 {o : List Int} {m n : Moment} (h0 : 0 < o.length) (hn : o.length ≤ 100000) : CtG Tryz.prog 31 [10, 11] [ints o, .agg m.cs, .ptr 10 0, .ptr 11 0] [(1010, .box [.nils]), (1011, .box n.cs)] [(1010, .box [ints o]), (1011, .box m.cs)] (.tup []) := by
 refine CtG.intro (rs := []) Tryz.func31 rfl Tryz.ntmps31 Tryz.results31 rfl rfl rfl rfl fun w h => ?_
 refine OK.seq (OK.reg ?_)
 refine RK.c (S.box (k := 5) rfl .none rfl (.tmp rfl rfl) rfl) ?_
 refine RK.nil (Ab.D.code (OK.seq (OK.reg ?_)))
 refine RK.c (S.bload1 ti26 .none rfl (.tmp rfl rfl) rfl rfl rfl rfl) ?_
 refine RK.c (S.eqnilN Tryz.underlying26 .none rfl (.tmp rfl rfl)) ?_
 refine RK.c (S.move .none rfl (.tmp rfl rfl)) ?_
 refine RK.c (S.skip rfl rfl rfl rfl rfl) ?_
 refine RK.c (S.skip rfl rfl rfl rfl rfl) ?_
 refine RK.c (S.skip rfl rfl rfl rfl rfl) ?_
 refine RK.c (S.skip rfl rfl rfl rfl rfl) ?_
 refine RK.c (S.skip rfl rfl rfl rfl rfl) ?_
 refine RK.c (S.pickT .none rfl (.tmp rfl rfl) .cbool rfl) ?_
 refine RK.c (S.move .none rfl (.tmp rfl rfl)) ?_
 refine RK.c (S.skip rfl rfl rfl rfl rfl) ?_
 refine RK.c (S.skip rfl rfl rfl rfl rfl) ?_
 refine RK.c (S.skip rfl rfl rfl rfl rfl) ?_
 refine RK.c (S.skip rfl rfl rfl rfl rfl) ?_
 refine RK.c (S.skip rfl rfl rfl rfl rfl) ?_
 refine RK.c (S.skip rfl rfl rfl rfl rfl) ?_
 refine RK.c (S.skipU rfl rfl rfl rfl) ?_
 refine RK.c (S.skipU rfl rfl rfl rfl) ?_
 refine RK.c (S.skipU rfl rfl rfl rfl) ?_
 refine RK.c (S.skipU rfl rfl rfl rfl) ?_
 refine RK.c (S.skipU rfl rfl rfl rfl) ?_
 refine RK.c (S.skip rfl rfl rfl rfl rfl) ?_
 refine RK.c (S.pickT .none rfl (.tmp rfl rfl) .cbool rfl) ?_
 refine RK.nil (Ab.D.code ?_)
 refine OK.condT rfl rfl rfl ?_
 refine OK.regionDraw follows (.c (S.move .none rfl (.tmp rfl rfl))
  (.c (S.call (clone_int h0 hn) Tryz.call32 .none rfl (.cons (.tmp rfl rfl) .nil) rfl)
  (.c (S.bloadN ti79 .none rfl (.tmp rfl rfl) rfl rfl rfl rfl)
  (.c (S.store ti26 .none (.tmp rfl rfl) (.tmp rfl rfl) rfl rfl rfl rfl rfl rfl)
  (.c (S.store ti79 .none (.tmp rfl rfl) (.tmp rfl rfl) rfl rfl rfl rfl rfl rfl)
  .nil))))) (by kernel_rfl) ?_
 exact ⟨⟨.inr rfl, [], trivial, rfl⟩, rfl, rfl, trivial⟩
theorem shp_best1 {o b : List Int} {m n : Moment} (h0 : 0 < o.length) (hn : o.length ≤ 100000) (hb : 0 < b.length) : CtG Tryz.prog 31 [10, 11] [ints o, .agg m.cs, .ptr 10 0, .ptr 11 0] [(1010, .box [ints b]), (1011, .box n.cs)] [(1010, .box [ints (stepB (b, n) o m).1]), (1011, .box (stepB (b, n) o m).2.cs)] (.tup []) := by
 refine CtG.intro (rs := []) Tryz.func31 rfl Tryz.ntmps31 Tryz.results31 rfl rfl rfl rfl fun w h => ?_
 have hb0 : b ≠ [] := fun e => by rw [e] at hb; simp at hb
 refine OK.seq (OK.reg ?_)
 refine RK.c (S.box (k := 5) rfl .none rfl (.tmp rfl rfl) rfl) ?_
 refine RK.nil (Ab.D.code (OK.seq (OK.reg ?_)))
 refine RK.c (S.bload1 ti26 .none rfl (.tmp rfl rfl) rfl rfl rfl rfl) ?_
 refine RK.c (S.eqnil Tryz.underlying26 .none rfl (.tmp rfl rfl) (by simp; omega)) ?_
 refine RK.c (S.move .none rfl (.tmp rfl rfl)) ?_
 refine RK.c (S.bfield fi79_3 (.yes rfl rfl rfl rfl) rfl (.tmp rfl rfl)) ?_
 refine RK.c (S.bload1 ti3 (.yes rfl rfl rfl rfl) rfl (.tmp rfl rfl) rfl rfl rfl rfl) ?_
 refine RK.c (S.bfield fi79_3 (.yes rfl rfl rfl rfl) rfl (.tmp rfl rfl)) ?_
 refine RK.c (S.bload1 ti3 (.yes rfl rfl rfl rfl) rfl (.tmp rfl rfl) rfl rfl rfl rfl) ?_
 refine RK.c (S.lss (.yes rfl rfl rfl rfl) rfl (.tmp rfl rfl) (.tmp rfl rfl)) ?_
 refine RK.c (S.pickF .none rfl (.tmp rfl rfl) (.tmp rfl rfl) rfl) ?_
 refine RK.c (S.move .none rfl (.tmp rfl rfl)) ?_
 refine RK.splitD (t := 15) rfl (fun g15 => ?_) (fun g15 => ?_)
 ·
  refine RK.c (S.skip rfl rfl rfl rfl rfl) ?_
  refine RK.c (S.skip rfl rfl rfl rfl rfl) ?_
  refine RK.c (S.skip rfl rfl rfl rfl rfl) ?_
  refine RK.c (S.skip rfl rfl rfl rfl rfl) ?_
  refine RK.c (S.skip rfl rfl rfl rfl rfl) ?_
  refine RK.c (S.skip rfl rfl rfl rfl rfl) ?_
  refine RK.c (S.skipU rfl rfl rfl rfl) ?_
  refine RK.c (S.skipU rfl rfl rfl rfl) ?_
  refine RK.c (S.skipU rfl rfl rfl rfl) ?_
  refine RK.c (S.skipU rfl rfl rfl rfl) ?_
  refine RK.c (S.skipU rfl rfl rfl rfl) ?_
  refine RK.c (S.skip rfl rfl rfl rfl rfl) ?_
  refine RK.c (S.pickT .none rfl (.tmp rfl rfl) .cbool rfl) ?_
  refine RK.nil (Ab.D.code ?_)
  refine OK.condT rfl rfl rfl ?_
  refine OK.regionDraw follows (.c (S.move .none rfl (.tmp rfl rfl))
   (.c (S.call (clone_int h0 hn) Tryz.call32 .none rfl (.cons (.tmp rfl rfl) .nil) rfl)
   (.c (S.bloadN ti79 .none rfl (.tmp rfl rfl) rfl rfl rfl rfl)
   (.c (S.store ti26 .none (.tmp rfl rfl) (.tmp rfl rfl) rfl rfl rfl rfl rfl rfl)
   (.c (S.store ti79 .none (.tmp rfl rfl) (.tmp rfl rfl) rfl rfl rfl rfl rfl rfl)
   .nil))))) (by kernel_rfl) ?_
  have hs : stepB (b, n) o m = (o, m) := if_pos (.inr (.inl g15))
  exact ⟨⟨.inr rfl, [], trivial, rfl⟩, (by rw [hs]; rfl), (by rw [hs]; rfl), trivial⟩
 ·
  refine RK.c (S.bfield fi79_3 (.yes rfl rfl rfl rfl) rfl (.tmp rfl rfl)) ?_
  refine RK.c (S.bload1 ti3 (.yes rfl rfl rfl rfl) rfl (.tmp rfl rfl) rfl rfl rfl rfl) ?_
  refine RK.c (S.bfield fi79_3 (.yes rfl rfl rfl rfl) rfl (.tmp rfl rfl)) ?_
  refine RK.c (S.bload1 ti3 (.yes rfl rfl rfl rfl) rfl (.tmp rfl rfl) rfl rfl rfl rfl) ?_
  refine RK.c (S.eql (.yes rfl rfl rfl rfl) rfl (.tmp rfl rfl) (.tmp rfl rfl)) ?_
  refine RK.c (S.move (.yes rfl rfl rfl rfl) rfl (.tmp rfl rfl)) ?_
  refine RK.splitD (t := 21) rfl (fun g21 => ?_) (fun g21 => ?_)
  ·
   refine RK.c (S.bfield fi79_2 (.yes rfl rfl rfl rfl) rfl (.tmp rfl rfl)) ?_
   refine RK.c (S.bload1 ti3 (.yes rfl rfl rfl rfl) rfl (.tmp rfl rfl) rfl rfl rfl rfl) ?_
   refine RK.c (S.bfield fi79_2 (.yes rfl rfl rfl rfl) rfl (.tmp rfl rfl)) ?_
   refine RK.c (S.bload1 ti3 (.yes rfl rfl rfl rfl) rfl (.tmp rfl rfl) rfl rfl rfl rfl) ?_
   refine RK.c (S.lss (.yes rfl rfl rfl rfl) rfl (.tmp rfl rfl) (.tmp rfl rfl)) ?_
   refine RK.c (S.pickT (.yes rfl rfl rfl rfl) rfl (.tmp rfl rfl) (.tmp rfl rfl) rfl) ?_
   refine RK.c (S.pickF .none rfl (.tmp rfl rfl) (.tmp rfl rfl) rfl) ?_
   refine RK.nil (Ab.D.code ?_)
   refine OK.condD rfl rfl (fun c28 => ?_) (fun c28 => ?_)
   ·
    refine OK.regionDraw follows (.c (S.move .none rfl (.tmp rfl rfl))
     (.c (S.call (clone_int h0 hn) Tryz.call32 .none rfl (.cons (.tmp rfl rfl) .nil) rfl)
     (.c (S.bloadN ti79 .none rfl (.tmp rfl rfl) rfl rfl rfl rfl)
     (.c (S.store ti26 .none (.tmp rfl rfl) (.tmp rfl rfl) rfl rfl rfl rfl rfl rfl)
     (.c (S.store ti79 .none (.tmp rfl rfl) (.tmp rfl rfl) rfl rfl rfl rfl rfl rfl)
     .nil))))) (by kernel_rfl) ?_
    have hs : stepB (b, n) o m = (o, m) := if_pos (.inr (.inr ⟨g21, c28⟩))
    exact ⟨⟨.inr rfl, [], trivial, rfl⟩, (by rw [hs]; rfl), (by rw [hs]; rfl), trivial⟩
   ·
    refine OK.skip ?_
    have hs : stepB (b, n) o m = (b, n) := if_neg (by rintro (h | h | h); exact hb0 h; exact g15 h; exact c28 h.2)
    exact ⟨⟨.inr rfl, [], trivial, rfl⟩, (by rw [hs]; rfl), (by rw [hs]; rfl), trivial⟩
  ·
   refine RK.c (S.skip rfl rfl rfl rfl rfl) ?_
   refine RK.c (S.skip rfl rfl rfl rfl rfl) ?_
   refine RK.c (S.skip rfl rfl rfl rfl rfl) ?_
   refine RK.c (S.skip rfl rfl rfl rfl rfl) ?_
   refine RK.c (S.skip rfl rfl rfl rfl rfl) ?_
   refine RK.c (S.pickF (.yes rfl rfl rfl rfl) rfl (.tmp rfl rfl) .cbool rfl) ?_
   refine RK.c (S.pickF .none rfl (.tmp rfl rfl) (.tmp rfl rfl) rfl) ?_
   refine RK.nil (Ab.D.code ?_)
   refine OK.condF rfl rfl rfl ?_
   refine OK.skip ?_
   have hs : stepB (b, n) o m = (b, n) := if_neg (by rintro (h | h | h); exact hb0 h; exact g15 h; exact g21 h.1)
   exact ⟨⟨.inr rfl, [], trivial, rfl⟩, (by rw [hs]; rfl), (by rw [hs]; rfl), trivial⟩
theorem best_cb {l : List Job} (hl : 0 < l.length) (hl7 : l.length ≤ 7) (cL : Ctx) (v0 : Value) (hv : RepC cL (.fn 31 [.ptr 10 0, .ptr 11 0]) v0) : OrdCb l (JB cL) (fun v => v = v0) := by
  intro o m q ho v hv2
  subst hv2
  have h0 : 0 < o.length := by omega
  by_cases hq : q.1 = []
  · have hs : stepB q o m = (o, m) := if_pos (.inl hq)
    have ho0 : ¬ (o = []) := fun e => by rw [e] at h0; simp at h0
    rw [hs]
    unfold JB
    rw [if_pos hq, if_neg ho0]
    exact cb_of_G (shp_best0 (n := q.2) h0 (by omega)) Tryz.call31 rfl hv rfl rfl
  · obtain ⟨b, n⟩ := q
    have hb : 0 < b.length := List.length_pos_iff.2 hq
    have hs : (stepB (b, n) o m).1 ≠ [] := stepB_ne fun e => by rw [e] at h0; simp at h0
    unfold JB
    rw [if_neg hq, if_neg hs]
    exact cb_of_G (shp_best1 h0 (by omega) hb) Tryz.call31 rfl hv rfl rfl
theorem shp_BestOf {l : List Job} {c : Changes} : Ct Tryz.prog 8 [.sl (l.map Job.cs), .agg c.cs] (.tup [ints (if bothE l c = 0 then (bestT l c).1 else []), .int .i64 (if bothE l c = 0 then (bestT l c).2.late else 0), .int .i64 (if bothE l c = 0 then (bestT l c).2.changes else 0), .int .i64 (bothE l c)]) := by
 refine Ct.intro (rs := [.tmp 4, .tmp 5, .tmp 6, .tmp 7]) Tryz.func8 rfl Tryz.ntmps8 Tryz.results8 rfl rfl rfl fun w h => ?_
 refine OK.seq (OK.reg ?_)
 refine RK.c (S.box (k := 3) rfl .none rfl (.tmp rfl rfl) rfl) ?_
 refine RK.c (S.assign .none rfl .cnil) ?_
 refine RK.c (S.assign .none rfl (.cint rfl)) ?_
 refine RK.c (S.assign .none rfl (.cint rfl)) ?_
 refine RK.c (S.assign .none rfl (.cint rfl)) ?_
 refine RK.nil (Ab.D.code (OK.seq (OK.reg ?_)))
 refine RK.c (S.move .none rfl (.tmp rfl rfl)) ?_
 refine RK.c (S.bloadN ti25 .none rfl (.tmp rfl rfl) rfl rfl rfl rfl) ?_
 refine RK.c (S.call (shp_open) Tryz.call28 .none rfl (.cons (.tmp rfl rfl) (.cons (.tmp rfl rfl) .nil)) rfl) ?_
 refine RK.c (S.move .none rfl (.tmp rfl rfl)) ?_
 refine RK.c (S.extract .none rfl (.tmp rfl rfl) rfl rfl) ?_
 refine RK.c (S.extract .none rfl (.tmp rfl rfl) rfl rfl) ?_
 refine RK.c (S.alloc (k := 8) ze75 rfl .none rfl) ?_
 refine RK.c (S.store ti75 .none (.tmp rfl rfl) (.tmp rfl rfl) rfl rfl rfl rfl rfl rfl) ?_
 refine RK.c (S.assign .none rfl (.tmp rfl rfl)) ?_
 refine RK.nil (Ab.D.code (OK.seq (OK.seq (OK.reg ?_))))
 refine RK.c (S.move .none rfl (.tmp rfl rfl)) ?_
 refine RK.c (S.neq .none rfl (.tmp rfl rfl) (.cint rfl)) ?_
 refine RK.nil (Ab.D.code ?_)
 refine OK.condD rfl rfl (fun c19 => ?_) (fun c19 => ?_)
 ·
  refine OK.seq (OK.reg ?_)
  refine RK.c (S.move .none rfl (.tmp rfl rfl)) ?_
  refine RK.c (S.assign .none rfl .cnil) ?_
  refine RK.c (S.assign .none rfl (.cint rfl)) ?_
  refine RK.c (S.assign .none rfl (.cint rfl)) ?_
  refine RK.c (S.assign .none rfl (.tmp rfl rfl)) ?_
  refine RK.nil (Ab.D.code ?_)
  refine OK.ret (Ret.r4 (.tmp rfl rfl (.c (.same rfl) rfl) rfl) (.tmp rfl rfl (.c (.same rfl) rfl) rfl) (.tmp rfl rfl (.c (.same rfl) rfl) rfl) (.tmp rfl rfl (.c (.same rfl) rfl) rfl) ?_)
  rw [if_neg c19, if_neg c19, if_neg c19]
  rfl
 ·
  have he : bothE l c = 0 := Decidable.not_not.1 c19
  have hB := both_ok he
  have hl := hB.len
  have hcb : ∀ (cL : Ctx) (v0 : Value), RepC cL (.fn 31 [.ptr 10 0, .ptr 11 0]) v0 → CtG Tryz.prog 29 [] ([.agg (lineCs l c), .sl [], .agg (beginT c).cs] ++ [.cb fun v => v = v0]) [(3000, .res (LentJ [10, 11] [(1010, .box [.nils]), (1011, .box [.int .i64 0, .int .i64 0, .int .i64 0, .int .i64 0])] cL [(1010, .box [.nils]), (1011, .box [.int .i64 0, .int .i64 0, .int .i64 0, .int .i64 0])]))] [(3000, .res (LentJ [10, 11] [(1010, .box [.nils]), (1011, .box [.int .i64 0, .int .i64 0, .int .i64 0, .int .i64 0])] cL [(1010, .box [ints (bestT l c).1]), (1011, .box (bestT l c).2.cs)]))] (.tup []) := fun cL v0 hv => by
    have h1 := shp_orders hB (best_cb (by omega) (by omega) cL v0 hv) (JB_stable cL) l.length [] (beginT c) ([], ⟨0, 0, 0, 0⟩) (by simp) (begin_ok hB)
    have h2 : JB cL (ordersGo l c l.length [] (beginT c) ([], ⟨0, 0, 0, 0⟩)) = LentJ [10, 11] (bN ([], ⟨0, 0, 0, 0⟩)) cL (bS (bestT l c)) := if_neg (best_ne c (by omega))
    rw [h2] at h1
    exact h1
  refine OK.skip ?_
  refine Ab.D.code (OK.seq (OK.reg ?_))
  refine RK.c (S.alloc (k := 10) ze26 rfl .none rfl) ?_
  refine RK.nil (Ab.D.code (OK.seq (OK.reg ?_)))
  refine RK.c (S.alloc (k := 11) ze79 rfl .none rfl) ?_
  refine RK.nil (Ab.D.code ?_)
  refine OK.seq ?_
  refine OK.regionDraw follows (.c (S.bloadN ti75 .none rfl (.tmp rfl rfl) rfl rfl rfl rfl)
   (.c (S.bloadN ti75 .none rfl (.tmp rfl rfl) rfl rfl rfl rfl)
   (.c (S.call (shp_begin) Tryz.call30 .none rfl (.cons (.tmp rfl rfl) .nil) rfl)
   (.c (S.makeFunc2 .none rfl (.tmp rfl rfl) (.tmp rfl rfl) rfl rfl)
   (.c (S.callE (fs := [10, 11]) (t := [(1010, .box [.nils]), (1011, .box [.int .i64 0, .int .i64 0, .int .i64 0, .int .i64 0])]) (t' := [(1010, .box [ints (bestT l c).1]), (1011, .box (bestT l c).2.cs)]) (hcb) Tryz.call29 .none rfl (.cons (.tmp rfl rfl) (.cons .cnil (.cons (.tmp rfl rfl) (.cons (.tmp rfl rfl) .nil)))) rfl rfl rfl ⟨rfl, rfl, trivial⟩ (by kernel_rfl) (by kernel_rfl) (by kernel_rfl) (by kernel_rfl) (by kernel_rfl) rfl rfl)
   .nil))))) (by kernel_rfl) ?_
  refine Ab.D.code ?_
  refine OK.seq ?_
  refine OK.regionDraw follows (.c (S.bload1 ti26 .none rfl (.tmp rfl rfl) rfl rfl rfl rfl)
   (.c (S.bfield fi79_3 .none rfl (.tmp rfl rfl))
   (.c (S.bload1 ti3 .none rfl (.tmp rfl rfl) rfl rfl rfl rfl)
   (.c (S.bfield fi79_2 .none rfl (.tmp rfl rfl))
   (.c (S.bload1 ti3 .none rfl (.tmp rfl rfl) rfl rfl rfl rfl)
   (.c (S.assign .none rfl (.tmp rfl rfl))
   (.c (S.assign .none rfl (.tmp rfl rfl))
   (.c (S.assign .none rfl (.tmp rfl rfl))
   (.c (S.assign .none rfl (.cint rfl))
   .nil))))))))) (by kernel_rfl) ?_
  refine Ab.D.code ?_
  refine OK.ret (Ret.r4 (.tmp rfl rfl (.c (.same rfl) rfl) rfl) (.tmp rfl rfl (.c (.same rfl) rfl) rfl) (.tmp rfl rfl (.c (.same rfl) rfl) rfl) (.tmp rfl rfl (.c (.same rfl) rfl) rfl) ?_)
  rw [if_pos he, if_pos he, if_pos he, he]
end Go.Proofs.YtbnimikgjjjcaaaGreatDoor
