import Derived.Test.YtpfepjgnojfppaaGreatDoorGh
import Derived.Test.YtpfepjgnojfppaaGreatDoorKo
import Derived.Test.YtpfepjgnojfppaaGreatDoorTz
namespace Go.Proofs.YtpfepjgnojfppaaGreatDoor
open Go.Ab
def momTo (l : List Job) (c : Changes) (o : List Int) (k : Nat) : Moment := (o.take k).foldl (afterT l c) (beginT c)
theorem mom_succ {l : List Job} {c : Changes} {o : List Int} {k : Nat} (h : k < o.length) : momTo l c o (k + 1) = afterT l c (momTo l c o k) o[k] := by
  unfold momTo
  rw [List.take_succ_eq_append_getElem h, List.foldl_append]
  rfl
theorem mom_okN {l : List Job} {c : Changes} {o : List Int} (hB : BothOk l c) (ho : OrdOkN l.length o) : ∀ k, k ≤ o.length → MomOk c k (momTo l c o k)
  | 0, _ => begin_ok hB
  | k + 1, h => by
    have hr := ho.rng _ (List.getElem_mem (show k < o.length by omega))
    rw [mom_succ (by omega)]
    exact after_ok hB (mom_okN hB ho k (by omega)) hr.1 hr.2
def stepsT (l : List Job) (c : Changes) (o : List Int) : List (Int × Moment) := (List.range o.length).map fun k => (o.getD k 0, momTo l c o (k + 1))
theorem steps_len (l : List Job) (c : Changes) (o : List Int) : (stepsT l c o).length = o.length := by unfold stepsT; simp
theorem steps_get {l : List Job} {c : Changes} {o : List Int} {k : Nat} (h : k < o.length) (h2 : k < (stepsT l c o).length) : (stepsT l c o)[k] = (o[k], momTo l c o (k + 1)) := by
  simp only [stepsT, List.getElem_map, List.getElem_range]
  rw [getD_at h]
theorem steps_at {l : List Job} {c : Changes} {o : List Int} {k : Nat} (h : k < o.length) : (stepsT l c o)[k]? = some (o[k], momTo l c o (k + 1)) := by
  rw [List.getElem?_eq_getElem (by rw [steps_len]; exact h), steps_get h]
theorem steps_of {l : List Job} {c : Changes} {o : List Int} {k : Nat} {x : Int × Moment} (h : (stepsT l c o)[k]? = some x) : ∃ h2 : k < o.length, x = (o[k], momTo l c o (k + 1)) := by
  have h2 : k < o.length := by
    have := (List.getElem?_eq_some_iff.1 h).1
    rwa [steps_len] at this
  rw [steps_at h2] at h
  exact ⟨h2, (Option.some.inj h).symm⟩
theorem steps_snoc {l : List Job} {c : Changes} {o : List Int} {k : Nat} (h : k < o.length) : (stepsT l c o).take (k + 1) = (stepsT l c o).take k ++ [(o[k], momTo l c o (k + 1))] := by
  rw [List.take_succ_eq_append_getElem (by rw [steps_len]; exact h), steps_get h]
theorem steps_cut {l : List Job} {c : Changes} {o : List Int} {k : Nat} (h : k < o.length) : (stepsT l c o).take k ++ (o[k], momTo l c o (k + 1)) :: (stepsT l c o).drop (k + 1) = stepsT l c o := by
  rw [← steps_get h (by rw [steps_len]; exact h), ← List.drop_eq_getElem_cons, List.take_append_drop]
abbrev StepCb (σ : Type) (J : σ → Mem → (Nat → Prop) → World → Prop) (g : σ → Int × Moment → σ × Bool) (s0 : σ) (Φ : Value → Prop) (D : List (Int × Moment)) : Prop :=
  ∀ v, Φ v → ∀ (i : Nat) (x : Int × Moment), D[i]? = some x → (iterG g s0 (D.take i)).2 = true → CbOk Tryz.prog v [.int .i64 x.1, .agg x.2.cs] (.bool (g (iterG g s0 (D.take i)).1 x).2) (J (iterG g s0 (D.take i)).1) (J (g (iterG g s0 (D.take i)).1 x).1)
def setT (q : List Int) (x : Int × Moment) : List Int := q.set x.1.toNat x.2.time
def timesTo (l : List Job) (c : Changes) (o : List Int) (k : Nat) : List Int := ((stepsT l c o).take k).foldl setT (List.replicate l.length 0)
def timesT (l : List Job) (c : Changes) (o : List Int) : List Int := (stepsT l c o).foldl setT (List.replicate l.length 0)
theorem times_all (l : List Job) (c : Changes) (o : List Int) : timesTo l c o o.length = timesT l c o := by unfold timesTo timesT; rw [← steps_len l c o, List.take_length]
theorem times_succ {l : List Job} {c : Changes} {o : List Int} {k : Nat} (h : k < o.length) : timesTo l c o (k + 1) = (timesTo l c o k).set o[k].toNat (momTo l c o (k + 1)).time := by
  unfold timesTo
  rw [steps_snoc h, List.foldl_append]
  rfl
theorem times_len {l : List Job} {c : Changes} {o : List Int} : ∀ k, k ≤ o.length → (timesTo l c o k).length = l.length
  | 0, _ => by unfold timesTo; simp
  | k + 1, h => by rw [times_succ (by omega), List.length_set, times_len k (by omega)]
theorem times_at {l : List Job} {c : Changes} {o : List Int} (ho : OrdOkN l.length o) : ∀ (k : Nat), k ≤ o.length → ∀ (j : Nat) (hj : j < k) (h2 : j < o.length), (timesTo l c o k).getD o[j].toNat 0 = (momTo l c o (j + 1)).time
  | 0, _, _, hj, _ => by omega
  | k + 1, h, j, hj, h2 => by
    have hr := ho.rng _ (List.getElem_mem h2)
    have hl := times_len (l := l) (c := c) (o := o) k (by omega)
    have hl2 := ho.len
    rw [times_succ (by omega)]
    by_cases e : j = k
    · subst e
      rw [getD_at (by rw [List.length_set]; omega), List.getElem_set_self]
    · have hd := ho.dis j k h2 (by omega) (by omega)
      have hr2 := ho.rng _ (List.getElem_mem (show k < o.length by omega))
      rw [getD_at (by rw [List.length_set]; omega), List.getElem_set_ne (by omega), ← getD_at (d := 0) (by omega)]
      exact times_at ho k (by omega) j (by omega) h2
theorem few_max : ∀ (n : Nat) (o : List Int), o.Nodup → (∀ x ∈ o, 0 ≤ x ∧ x < (n : Int)) → o.length ≤ n
  | 0, o, _, h => by
    cases o with
    | nil => exact Nat.le_refl _
    | cons x o => have := h x List.mem_cons_self; omega
  | n + 1, o, hn, h => by
    have h1 := few_max n (o.erase (n : Int)) (hn.erase _) fun x hx => by
      have h2 := (hn.mem_erase_iff).1 hx
      have h3 := h x h2.2
      have h4 := h2.1
      omega
    rw [List.length_erase] at h1
    split at h1 <;> omega
theorem order_nodup {n : Nat} {o : List Int} (ho : OrdOkN n o) : o.Nodup := by
  unfold List.Nodup
  rw [List.pairwise_iff_getElem]
  intro i j hi hj hij
  exact ho.dis i j hi hj hij
theorem order_on {n : Nat} {o : List Int} (ho : OrdOkN n o) {i : Nat} (hi : i < n) : ∃ (j : Nat) (hj : j < o.length), o[j].toNat = i := by
  have hm : (i : Int) ∈ o := by
    refine Decidable.byContradiction fun hn => ?_
    have h1 := few_max n ((i : Int) :: o) (List.nodup_cons.2 ⟨hn, order_nodup ho⟩) fun x hx => by
      rcases List.mem_cons.1 hx with rfl | hx
      · omega
      · exact ho.rng x hx
    have := ho.len
    rw [List.length_cons] at h1
    omega
  obtain ⟨j, hj, e⟩ := List.getElem_of_mem hm
  exact ⟨j, hj, by omega⟩
def dueAt (l : List Job) (i : Int) : Int := (jobAt l i).due
theorem late_succ {l : List Job} {c : Changes} {o : List Int} {k : Nat} (h : k < o.length) : (momTo l c o (k + 1)).late = maxI (momTo l c o k).late ((momTo l c o (k + 1)).time - dueAt l o[k]) := by
  rw [mom_succ h]
  rfl
theorem late_in {l : List Job} {c : Changes} {o : List Int} : ∀ k, k ≤ o.length → (momTo l c o k).late = -200000 ∨ ∃ (j : Nat) (h2 : j < o.length), (momTo l c o k).late = (momTo l c o (j + 1)).time - dueAt l o[j]
  | 0, _ => .inl rfl
  | k + 1, h => by
    rw [late_succ (by omega)]
    unfold maxI
    split
    · exact .inr ⟨k, by omega, rfl⟩
    · exact late_in k (by omega)
def ordE2 (l : List Job) (c : Changes) (o : List Int) : Int := if bothE l c ≠ 0 then bothE l c else orderE l.length o
def timR (l : List Job) (c : Changes) (o : List Int) : List Int := if ordE2 l c o = 0 then timesT l c o else []
theorem ord2_ok {l : List Job} {c : Changes} {o : List Int} (h : ordE2 l c o = 0) : BothOk l c ∧ OrdOkN l.length o := by
  unfold ordE2 at h
  split at h
  · contradiction
  · rename_i h1
    exact ⟨both_ok (Decidable.not_not.1 h1), order_ok h⟩
theorem iter_foldG {σ α : Type} (f : σ → α → σ) (l : List α) (q0 : σ) : iterG (Ab.stepG (fun (q : σ) (d : α) => (f q d, (none : Option Code)))) (q0, none) l = ((l.foldl f q0, none), true) := iter_fold f l q0
theorem shp_steps {l : List Job} {c : Changes} {o : List Int} : Ct Tryz.prog 99 [.agg (lineCs l c), .sl (o.map (fun n => [.int .i64 n]))] (.fn 147 [.eptr (lineCs l c), .eptr [.sl (o.map (fun n => [.int .i64 n]))]]) := by
 refine Ct.intro (rs := [.tmp 4]) Tryz.func99 rfl Tryz.ntmps99 Tryz.results99 rfl rfl rfl fun w h => ?_
 refine OK.seq (OK.reg ?_)
 refine RK.c (S.box (k := 2) rfl .none rfl (.tmp rfl rfl) rfl) ?_
 refine RK.c (S.box (k := 3) rfl .none rfl (.tmp rfl rfl) rfl) ?_
 refine RK.c (S.assign .none rfl .craw) ?_
 refine RK.nil (Ab.D.code (OK.seq (OK.reg ?_)))
 refine RK.c (S.makeFunc2 .none rfl (.tmp rfl rfl) (.tmp rfl rfl) rfl rfl) ?_
 refine RK.c (S.assign .none rfl (.tmp rfl rfl)) ?_
 refine RK.nil (Ab.D.code ?_)
 refine OK.ret (Ret.r1 (.tmp rfl rfl (.fn (.k (.ptr rfl rfl rfl rfl) (.k (.ptr rfl rfl rfl rfl) .z)) rfl) rfl) ?_)
 rfl
set_option maxHeartbeats 1000000 in
theorem shp_steps1 {l : List Job} {c : Changes} {o : List Int} (hB : BothOk l c) (ho : OrdOkN l.length o) {σ : Type} (J : σ → Mem → (Nat → Prop) → World → Prop) (g : σ → Int × Moment → σ × Bool) (s0 : σ) (Φ : Value → Prop) (hst : ∀ s, Stable (J s)) (hcb : StepCb σ J g s0 Φ (stepsT l c o)) : CtG Tryz.prog 147 [] [.cb Φ, .eptr (lineCs l c), .eptr [.sl (o.map (fun n => [.int .i64 n]))]] [(3000, .res (J s0))] [(3000, .res (J (iterG g s0 (stepsT l c o)).1))] (.tup []) := by
 refine CtG.intro (rs := []) Tryz.func147 rfl Tryz.ntmps147 Tryz.results147 rfl rfl rfl rfl fun w h => ?_
 have hol := ho.len
 have hBl := hB.len
 refine OK.seq (OK.reg ?_)
 refine RK.c (S.loadN ti131 .none rfl (.tmp rfl rfl) rfl rfl) ?_
 refine RK.c (S.call (shp_begin) Tryz.call79 .none rfl (.cons (.tmp rfl rfl) .nil) rfl) ?_
 refine RK.c (S.alloc (k := 4) ze135 rfl .none rfl) ?_
 refine RK.c (S.store ti135 .none (.tmp rfl rfl) (.tmp rfl rfl) rfl rfl rfl rfl rfl rfl) ?_
 refine RK.nil (Ab.D.code (OK.seq (OK.reg ?_)))
 refine RK.c (S.load1 ti30 .none rfl (.tmp rfl rfl) rfl) ?_
 refine RK.c (S.lenM si30 .none rfl (.tmp rfl rfl)) ?_
 refine RK.c (S.move .none rfl (.cint rfl)) ?_
 refine RK.nil (Ab.D.code ?_)
 refine OK.block ?_
 refine OK.loop (G := Nat) [4] (fun i => [(0, .cb Φ), (1, .eptr (lineCs l c)), (4, .ptr 4 0), (1004, .box (momTo l c o i).cs), (9, .sl (o.map (fun n => [.int .i64 n]))), (10, .int .i64 o.length), (11, .int .i64 i), (3000, .res (J (iterG g s0 ((stepsT l c o).take i)).1))]) (fun i => i ≤ o.length ∧ (iterG g s0 ((stepsT l c o).take i)).2 = true) (fun i => o.length - i) 0 ⟨Nat.zero_le _, rfl⟩ ⟨rfl, rfl, rfl, rfl, rfl, rfl, rfl, rfl, trivial⟩ (fun _ => rfl) ?_
 rintro i ⟨hi, hrun⟩
 refine OK.seq (OK.reg ?_)
 refine RK.c (S.lss .none rfl (.tmp rfl rfl) (.tmp rfl rfl)) ?_
 refine RK.nil (Ab.D.code ?_)
 refine OK.seq ?_
 refine OK.condD rfl rfl (fun c12 => ?_) (fun c12 => ?_)
 ·
  have hil : i < o.length := by omega
  have hor := ho.rng _ (List.getElem_mem hil)
  have hmo := mom_okN hB ho i (by omega)
  have hms := mom_succ (l := l) (c := c) hil
  refine OK.skip ?_
  refine Ab.D.code ?_
  refine OK.seq ?_
  refine OK.block ?_
  refine OK.seq (OK.reg ?_)
  refine RK.c (S.indexM (n := i) si30 .none rfl (.tmp rfl rfl) (.tmp rfl rfl) rfl hil rfl) ?_
  refine RK.c (S.load1 ti3 .none rfl (.tmp rfl rfl) rfl) ?_
  refine RK.c (S.assign .none rfl (.tmp rfl rfl)) ?_
  refine RK.nil (Ab.D.code (OK.seq (OK.reg ?_)))
  refine RK.c (S.loadN ti131 .none rfl (.tmp rfl rfl) rfl rfl) ?_
  refine RK.c (S.bloadN ti135 .none rfl (.tmp rfl rfl) rfl rfl rfl rfl) ?_
  refine RK.c (S.move .none rfl (.tmp rfl rfl)) ?_
  refine RK.c (S.call (shp_after hB hmo (by omega) hor) Tryz.call135 .none rfl (.cons (.tmp rfl rfl) (.cons (.tmp rfl rfl) (.cons (.tmp rfl rfl) .nil))) rfl) ?_
  refine RK.c (S.store ti135 .none (.tmp rfl rfl) (.tmp rfl rfl) rfl rfl rfl rfl rfl rfl) ?_
  refine RK.nil (Ab.D.code ?_)
  refine OK.seq ?_
  rw [← hms]
  refine OK.reg ?_
  refine RK.c (S.move .none rfl (.tmp rfl rfl)) ?_
  refine RK.c (S.move .none rfl (.tmp rfl rfl)) ?_
  refine RK.c (S.bloadN ti135 .none rfl (.tmp rfl rfl) rfl rfl rfl rfl) ?_
  refine RK.c (S.callcb (J1 := J (g (iterG g s0 ((stepsT l c o).take i)).1 (o[i], momTo l c o (i + 1))).1) ((fun v hv => hcb v hv i _ (steps_at hil) hrun)) (hst _) .none rfl (.tmp rfl rfl) (.cons (.tmp rfl rfl) (.cons (.tmp rfl rfl) .nil)) rfl rfl) ?_
  refine RK.c (S.not .none rfl (.tmp rfl rfl)) ?_
  refine RK.nil (Ab.D.code ?_)
  refine OK.cond rfl rfl (fun c23 => ?_) (fun c23 => ?_)
  ·
   have hstop : (g (iterG g s0 ((stepsT l c o).take i)).1 (o[i], momTo l c o (i + 1))).2 = false := by simpa using c23
   have hit := iter_stop (rest := (stepsT l c o).drop (i + 1)) hrun hstop
   rw [steps_cut hil] at hit
   exact OK.ret ⟨⟨.inl rfl, [], trivial, rfl⟩, lk_res (by rw [hit]), trivial⟩
  ·
   have hcont : (g (iterG g s0 ((stepsT l c o).take i)).1 (o[i], momTo l c o (i + 1))).2 = true := by simpa using c23
   refine OK.skip ?_
   refine Ab.D.blk ?_
   refine Ab.D.code (OK.reg ?_)
   refine RK.c (S.add .none rfl (.tmp rfl rfl) (.cint rfl) (IntWalk.i64_in _ (by omega)) (IntWalk.i64_in _ (by omega))) ?_
   refine RK.c (S.move .none rfl (.tmp rfl rfl)) ?_
   refine RK.nil ?_
   refine Ab.D.lp ⟨i + 1, ⟨by omega, by rw [steps_snoc hil, iter_go hrun hcont]⟩, (by omega), rfl, rfl, rfl, rfl, rfl, rfl, rfl, (lk_res (by rw [steps_snoc hil, iter_go hrun hcont])), trivial⟩
 ·
  refine OK.exit rfl ?_
  exact ⟨⟨.inr rfl, [], trivial, rfl⟩, lk_res (by rw [show i = (stepsT l c o).length by rw [steps_len]; omega, List.take_length]), trivial⟩
set_option maxHeartbeats 1000000 in
theorem shp_TimesOf {l : List Job} {c : Changes} {o : List Int} : Ct Tryz.prog 46 [.sl (l.map Job.cs), .agg c.cs, .sl (o.map (fun n => [.int .i64 n]))] (.tup [ints (timR l c o), .int .i64 (ordE2 l c o)]) := by
  refine Ct.intro (rs := [.tmp 6, .tmp 7]) Tryz.func46 rfl Tryz.ntmps46 Tryz.results46 rfl rfl rfl fun w h => ?_
  refine OK.slLen (rows := l.map Job.cs) (t := 0) rfl rfl fun hlen => ?_
  rw [List.length_map] at hlen
  unfold maxLen at hlen
  refine OK.seq (OK.reg ?_)
  refine RK.c (S.box (k := 4) rfl .none rfl (.tmp rfl rfl) rfl) ?_
  refine RK.c (S.assign .none rfl .cnil) ?_
  refine RK.c (S.assign .none rfl (.cint rfl)) ?_
  refine RK.nil (Ab.D.code (OK.seq (OK.reg ?_)))
  refine RK.c (S.move .none rfl (.tmp rfl rfl)) ?_
  refine RK.c (S.bloadN ti25 .none rfl (.tmp rfl rfl) rfl rfl rfl rfl) ?_
  refine RK.c (S.call (shp_open) Tryz.call77 .none rfl (.cons (.tmp rfl rfl) (.cons (.tmp rfl rfl) .nil)) rfl) ?_
  refine RK.c (S.move .none rfl (.tmp rfl rfl)) ?_
  refine RK.c (S.extract .none rfl (.tmp rfl rfl) rfl rfl) ?_
  refine RK.c (S.extract .none rfl (.tmp rfl rfl) rfl rfl) ?_
  refine RK.c (S.alloc (k := 8) ze131 rfl .none rfl) ?_
  refine RK.c (S.store ti131 .none (.tmp rfl rfl) (.tmp rfl rfl) rfl rfl rfl rfl rfl rfl) ?_
  refine RK.c (S.assign .none rfl (.tmp rfl rfl)) ?_
  refine RK.nil (Ab.D.code (OK.seq (OK.seq (OK.reg ?_))))
  refine RK.c (S.move .none rfl (.tmp rfl rfl)) ?_
  refine RK.c (S.bloadN ti131 .none rfl (.tmp rfl rfl) rfl rfl rfl rfl) ?_
  refine RK.c (S.move .none rfl (.tmp rfl rfl)) ?_
  refine RK.c (S.call (shp_orderErr) Tryz.call98 .none rfl (.cons (.tmp rfl rfl) (.cons (.tmp rfl rfl) .nil)) rfl) ?_
  refine RK.c (S.mkSlice (k := 23) (rows := [[_], [_]]) ai191 .none rfl (.cons (.tmp rfl rfl) (.cons (.tmp rfl rfl) .nil)) rfl rfl rfl rfl rfl rfl rfl) ?_
  refine RK.c (S.callL (shop_first (l := [_, _])) Tryz.call85 .none rfl (.cons (.tmp rfl rfl) .nil) (.cons (.p (.own rfl rfl) rfl) .nil) rfl) ?_
  refine RK.c (S.assign .none rfl (.tmp rfl rfl)) ?_
  refine RK.nil (Ab.D.code (OK.seq (OK.reg ?_)))
  refine RK.c (S.move .none rfl (.tmp rfl rfl)) ?_
  refine RK.c (S.neq .none rfl (.tmp rfl rfl) (.cint rfl)) ?_
  refine RK.nil (Ab.D.code ?_)
  refine OK.condD rfl rfl (fun c26 => ?_) (fun c26 => ?_)
  ·
    rw [firstE2] at c26
    refine OK.seq (OK.reg ?_)
    refine RK.c (S.move .none rfl (.tmp rfl rfl)) ?_
    refine RK.c (S.assign .none rfl .cnil) ?_
    refine RK.c (S.assign .none rfl (.tmp rfl rfl)) ?_
    refine RK.nil (Ab.D.code ?_)
    refine OK.ret (Ret.r2 (.tmp rfl rfl (.c (.same rfl) rfl) rfl) (.tmp rfl rfl (.c (.same rfl) rfl) rfl) ?_)
    have he : ordE2 l c o = firstE [bothE l c, orderE l.length o] := by rw [firstE2]; rfl
    rw [timR, if_neg (by rw [he, firstE2]; exact c26), he]
    rfl
  ·
    have hE : firstE [bothE l c, orderE l.length o] = 0 := Decidable.not_not.1 c26
    rw [firstE2] at hE
    have hE2 : ordE2 l c o = 0 := hE
    obtain ⟨hB, ho⟩ := ord2_ok hE2
    have hol := ho.len
    have hBl := hB.len
    refine OK.skip ?_
    refine Ab.D.code (OK.seq (OK.reg ?_))
    refine RK.c (S.move .none rfl (.tmp rfl rfl)) ?_
    refine RK.c (S.lenM si22 .none rfl (.tmp rfl rfl)) ?_
    refine RK.c (S.make (k := 30) (n := l.length) ai30 (⟨⟨Tryz.t3, _, by kernel_rfl, rfl, fun h => ⟨.int rfl, trivial⟩⟩⟩ : MkI Tryz.prog 3 [.int .i64 (0)]) .none rfl (.tmp rfl rfl) (.tmp rfl rfl) (by omega) (by omega) (by unfold maxLen; omega)) ?_
    refine RK.c (S.alloc (k := 10) ze30 rfl .none rfl) ?_
    refine RK.c (S.store ti30 .none (.tmp rfl rfl) (.tmp rfl rfl) rfl rfl rfl rfl rfl rfl) ?_
    refine RK.nil (Ab.D.code (OK.seq (OK.seq (OK.reg ?_))))
    refine RK.c (S.bloadN ti131 .none rfl (.tmp rfl rfl) rfl rfl rfl rfl) ?_
    refine RK.c (S.move .none rfl (.tmp rfl rfl)) ?_
    refine RK.c (S.call (shp_steps) Tryz.call99 .none rfl (.cons (.tmp rfl rfl) (.cons (.tmp rfl rfl) .nil)) rfl) ?_
    refine RK.nil (Ab.D.code ?_)
    refine OK.block ?_
    refine OK.rangeFunc (ps := [34, 35]) (encs := (fun x => [.int .i64 x.1, .agg x.2.cs])) (L := (stepsT l c o)) [10, 30] [(10, .ptr 10 0)] (fun q => [(1010, .box [.own 30 l.length]), (2030, .arr 1 (q.map (fun n => [.int .i64 n])))]) (List.replicate l.length (0 : Int)) (fun q x => (setT q x, none)) ((fun J g s0 Φ hst hcb => shp_steps1 hB ho J g s0 Φ hst hcb)) Tryz.call147 (.inl rfl) (.tmp rfl rfl) rfl rfl ⟨rfl, rfl, (lk_arr (by first | rfl | (simp; done) | (simp; omega))), trivial⟩ (fun _ => rfl) (fun _ => rfl) (fun _ => rfl) (fun _ => rfl) (fun _ => rfl) (by decide) rfl ?_ ?_ ?_
    · rintro i x q hx hq lr c0 w0 p1 p2 hR1 hR2
      rw [iter_foldG] at hq
      have hq2 : timesTo l c o i = q := by simpa [timesTo] using hq
      obtain ⟨hil, hxe⟩ := steps_of hx
      have hor := ho.rng _ (List.getElem_mem hil)
      have hql : q.length = l.length := by rw [← hq2]; exact times_len i (by omega)
      have hx1 : 0 ≤ x.1 ∧ x.1 < (l.length : Int) := by rw [hxe]; exact hor
      refine OK.den0 ?_
      refine OK.seq (OK.reg ?_)
      refine RK.c (S.assign .none rfl (.tmp rfl rfl)) ?_
      refine RK.nil (Ab.D.code (OK.reg ?_))
      refine RK.c (S.alloc (k := 12) ze135 rfl .none rfl) ?_
      refine RK.c (S.store ti135 .none (.tmp rfl rfl) (.tmp rfl rfl) rfl rfl rfl rfl rfl rfl) ?_
      refine RK.nil ?_
      refine ⟨rfl, ?_⟩
      refine OK.block ?_
      refine OK.reg ?_
      refine RK.c (S.bload1 ti30 .none rfl (.tmp rfl rfl) rfl rfl rfl rfl) ?_
      refine RK.c (S.move .none rfl (.tmp rfl rfl)) ?_
      refine RK.c (S.bfield fi135_0 .none rfl (.tmp rfl rfl)) ?_
      refine RK.c (S.bload1 ti3 .none rfl (.tmp rfl rfl) rfl rfl rfl rfl) ?_
      refine RK.c (S.oindex (i := x.1.toNat) si30 .none rfl (.tmp rfl rfl) rfl (by simp; omega) (.tmp rfl rfl) (by omega) (by omega)) ?_
      refine RK.c (S.ostore1 (i := x.1.toNat) ti3 rfl .none (.tmp rfl rfl) (.tmp rfl rfl) rfl (by simp; omega) rfl (by omega) rfl rfl rfl) ?_
      refine RK.nil ?_
      refine Ab.D.blk ?_
      exact ⟨rfl, rfl, lk_arr (by unfold setT; rw [List.map_set]), trivial⟩
    · rintro q hq
      rw [iter_foldG] at hq
      have hq2 : timesT l c o = q := by simpa [timesT] using hq
      have hql : q.length = l.length := by rw [← hq2, ← times_all]; exact times_len _ (Nat.le_refl _)
      refine Ab.D.blk ?_
      refine Ab.D.code (OK.seq (OK.reg ?_))
      refine RK.c (S.bload1 ti30 .none rfl (.tmp rfl rfl) rfl rfl rfl rfl) ?_
      refine RK.c (S.assign .none rfl (.tmp rfl rfl)) ?_
      refine RK.c (S.assign .none rfl (.cint rfl)) ?_
      refine RK.nil (Ab.D.code ?_)
      refine OK.ret (Ret.r2 (.tmp rfl rfl (.c (.own rfl rfl (by first | rfl | (simp; done) | (simp; omega))) rfl) rfl) (.tmp rfl rfl (.c (.same rfl) rfl) rfl) ?_)
      rw [timR, if_pos hE2, hE2, hq2]
      all_goals rfl
    · rintro q cd hq
      rw [iter_foldG] at hq
      cases hq
end Go.Proofs.YtpfepjgnojfppaaGreatDoor
