import Derived.Test.YtbnimikgjjjcaaaGreatDoorGh
import Derived.Test.YtbnimikgjjjcaaaGreatDoorKo
import Derived.Test.YtbnimikgjjjcaaaGreatDoorTy
namespace Go.Proofs.YtbnimikgjjjcaaaGreatDoor
open Go.Ab
def momTo (l : List Job) (c : Changes) (o : List Int) (k : Nat) : Moment := (o.take k).foldl (afterT l c) (beginT c)
theorem mom_succ {l : List Job} {c : Changes} {o : List Int} {k : Nat} (h : k < o.length) : momTo l c o (k + 1) = afterT l c (momTo l c o k) o[k] := by
  unfold momTo
  rw [List.take_succ_eq_append_getElem h, List.foldl_append]
  rfl
theorem mom_okN {l : List Job} {c : Changes} {o : List Int} (hB : BothOk l c) (ho : OrdOkN l.length o) : ∀ k, k ≤ o.length → MomOk c k (momTo l c o k)
  | 0, _ => begin_ok hB
  | k + 1, h => by
    have hr := ho.rng _ (List.getElem_mem (show k < o.length by omega))
    rw [mom_succ (by omega)]
    exact after_ok hB (mom_okN hB ho k (by omega)) hr.1 hr.2
def stepsT (l : List Job) (c : Changes) (o : List Int) : List (Int × Moment) := (List.range o.length).map fun k => (o.getD k 0, momTo l c o (k + 1))
theorem steps_len (l : List Job) (c : Changes) (o : List Int) : (stepsT l c o).length = o.length := by unfold stepsT; simp
theorem steps_get {l : List Job} {c : Changes} {o : List Int} {k : Nat} (h : k < o.length) (h2 : k < (stepsT l c o).length) : (stepsT l c o)[k] = (o[k], momTo l c o (k + 1)) := by
  simp only [stepsT, List.getElem_map, List.getElem_range]
  rw [getD_at h]
theorem steps_at {l : List Job} {c : Changes} {o : List Int} {k : Nat} (h : k < o.length) : (stepsT l c o)[k]? = some (o[k], momTo l c o (k + 1)) := by
  rw [List.getElem?_eq_getElem (by rw [steps_len]; exact h), steps_get h]
theorem steps_snoc {l : List Job} {c : Changes} {o : List Int} {k : Nat} (h : k < o.length) : (stepsT l c o).take (k + 1) = (stepsT l c o).take k ++ [(o[k], momTo l c o (k + 1))] := by
  rw [List.take_succ_eq_append_getElem (by rw [steps_len]; exact h), steps_get h]
theorem steps_cut {l : List Job} {c : Changes} {o : List Int} {k : Nat} (h : k < o.length) : (stepsT l c o).take k ++ (o[k], momTo l c o (k + 1)) :: (stepsT l c o).drop (k + 1) = stepsT l c o := by
  rw [← steps_get h (by rw [steps_len]; exact h), ← List.drop_eq_getElem_cons, List.take_append_drop]
abbrev StepCb (σ : Type) (J : σ → Mem → (Nat → Prop) → World → Prop) (g : σ → Int × Moment → σ × Bool) (s0 : σ) (Φ : Value → Prop) (D : List (Int × Moment)) : Prop :=
  ∀ v, Φ v → ∀ (i : Nat) (x : Int × Moment), D[i]? = some x → (iterG g s0 (D.take i)).2 = true → CbOk Tryz.prog v [.int .i64 x.1, .agg x.2.cs] (.bool (g (iterG g s0 (D.take i)).1 x).2) (J (iterG g s0 (D.take i)).1) (J (g (iterG g s0 (D.take i)).1 x).1)
theorem few_max : ∀ (n : Nat) (o : List Int), o.Nodup → (∀ x ∈ o, 0 ≤ x ∧ x < (n : Int)) → o.length ≤ n
  | 0, o, _, h => by
    cases o with
    | nil => exact Nat.le_refl _
    | cons x o => have := h x List.mem_cons_self; omega
  | n + 1, o, hn, h => by
    have h1 := few_max n (o.erase (n : Int)) (hn.erase _) fun x hx => by
      have h2 := (hn.mem_erase_iff).1 hx
      have h3 := h x h2.2
      have h4 := h2.1
      omega
    rw [List.length_erase] at h1
    split at h1 <;> omega
theorem order_nodup {n : Nat} {o : List Int} (ho : OrdOkN n o) : o.Nodup := by
  unfold List.Nodup
  rw [List.pairwise_iff_getElem]
  intro i j hi hj hij
  exact ho.dis i j hi hj hij
theorem order_on {n : Nat} {o : List Int} (ho : OrdOkN n o) {i : Nat} (hi : i < n) : ∃ (j : Nat) (hj : j < o.length), o[j].toNat = i := by
  have hm : (i : Int) ∈ o := by
    refine Decidable.byContradiction fun hn => ?_
    have h1 := few_max n ((i : Int) :: o) (List.nodup_cons.2 ⟨hn, order_nodup ho⟩) fun x hx => by
      rcases List.mem_cons.1 hx with rfl | hx
      · omega
      · exact ho.rng x hx
    have := ho.len
    rw [List.length_cons] at h1
    omega
  obtain ⟨j, hj, e⟩ := List.getElem_of_mem hm
  exact ⟨j, hj, by omega⟩
def dueAt (l : List Job) (i : Int) : Int := (jobAt l i).due
theorem late_succ {l : List Job} {c : Changes} {o : List Int} {k : Nat} (h : k < o.length) : (momTo l c o (k + 1)).late = maxI (momTo l c o k).late ((momTo l c o (k + 1)).time - dueAt l o[k]) := by
  rw [mom_succ h]
  rfl
theorem late_in {l : List Job} {c : Changes} {o : List Int} : ∀ k, k ≤ o.length → (momTo l c o k).late = -200000 ∨ ∃ (j : Nat) (h2 : j < o.length), (momTo l c o k).late = (momTo l c o (j + 1)).time - dueAt l o[j]
  | 0, _ => .inl rfl
  | k + 1, h => by
    rw [late_succ (by omega)]
    unfold maxI
    split
    · exact .inr ⟨k, by omega, rfl⟩
    · exact late_in k (by omega)
def ordE2 (l : List Job) (c : Changes) (o : List Int) : Int := if bothE l c ≠ 0 then bothE l c else orderE l.length o
def latR (l : List Job) (c : Changes) (o : List Int) : Int := if ordE2 l c o = 0 then (momTo l c o o.length).late else 0
def chaR (l : List Job) (c : Changes) (o : List Int) : Int := if ordE2 l c o = 0 then (momTo l c o o.length).changes else 0
theorem ord2_ok {l : List Job} {c : Changes} {o : List Int} (h : ordE2 l c o = 0) : BothOk l c ∧ OrdOkN l.length o := by
  unfold ordE2 at h
  split at h
  · contradiction
  · rename_i h1
    exact ⟨both_ok (Decidable.not_not.1 h1), order_ok h⟩
theorem iter_foldG {σ α : Type} (f : σ → α → σ) (l : List α) (q0 : σ) : iterG (Ab.stepG (fun (q : σ) (d : α) => (f q d, (none : Option Code)))) (q0, none) l = ((l.foldl f q0, none), true) := iter_fold f l q0
theorem last_steps (l : List Job) (c : Changes) (o : List Int) (h : 0 < o.length) : (stepsT l c o).foldl (fun (_ : Moment) (x : Int × Moment) => x.2) ⟨0, 0, 0, 0⟩ = momTo l c o o.length := by
  have h1 := steps_snoc (l := l) (c := c) (o := o) (k := o.length - 1) (by omega)
  rw [show o.length - 1 + 1 = o.length by omega] at h1
  have h2 : (stepsT l c o).take o.length = stepsT l c o := by rw [← steps_len l c o, List.take_length]
  rw [← h2, h1, List.foldl_append]
  rfl
theorem shp_steps {l : List Job} {c : Changes} {o : List Int} : Ct Tryz.prog 38 [.agg (lineCs l c), .sl (o.map (fun n => [.int .i64 n]))] (.fn 68 [.eptr (lineCs l c), .eptr [.sl (o.map (fun n => [.int .i64 n]))]]) := by
 refine Ct.intro (rs := [.tmp 4]) Tryz.func38 rfl Tryz.ntmps38 Tryz.results38 rfl rfl rfl fun w h => ?_
 refine OK.seq (OK.reg ?_)
 refine RK.c (S.box (k := 2) rfl .none rfl (.tmp rfl rfl) rfl) ?_
 refine RK.c (S.box (k := 3) rfl .none rfl (.tmp rfl rfl) rfl) ?_
 refine RK.c (S.assign .none rfl .craw) ?_
 refine RK.nil (Ab.D.code (OK.seq (OK.reg ?_)))
 refine RK.c (S.makeFunc2 .none rfl (.tmp rfl rfl) (.tmp rfl rfl) rfl rfl) ?_
 refine RK.c (S.assign .none rfl (.tmp rfl rfl)) ?_
 refine RK.nil (Ab.D.code ?_)
 refine OK.ret (Ret.r1 (.tmp rfl rfl (.fn (.k (.ptr rfl rfl rfl rfl) (.k (.ptr rfl rfl rfl rfl) .z)) rfl) rfl) ?_)
 rfl
set_option maxHeartbeats 1000000 in
theorem shp_steps1 {l : List Job} {c : Changes} {o : List Int} (hB : BothOk l c) (ho : OrdOkN l.length o) {σ : Type} (J : σ → Mem → (Nat → Prop) → World → Prop) (g : σ → Int × Moment → σ × Bool) (s0 : σ) (Φ : Value → Prop) (hst : ∀ s, Stable (J s)) (hcb : StepCb σ J g s0 Φ (stepsT l c o)) : CtG Tryz.prog 68 [] [.cb Φ, .eptr (lineCs l c), .eptr [.sl (o.map (fun n => [.int .i64 n]))]] [(3000, .res (J s0))] [(3000, .res (J (iterG g s0 (stepsT l c o)).1))] (.tup []) := by
 refine CtG.intro (rs := []) Tryz.func68 rfl Tryz.ntmps68 Tryz.results68 rfl rfl rfl rfl fun w h => ?_
 have hol := ho.len
 have hBl := hB.len
 refine OK.seq (OK.reg ?_)
 refine RK.c (S.loadN ti75 .none rfl (.tmp rfl rfl) rfl rfl) ?_
 refine RK.c (S.call (shp_begin) Tryz.call30 .none rfl (.cons (.tmp rfl rfl) .nil) rfl) ?_
 refine RK.c (S.alloc (k := 4) ze79 rfl .none rfl) ?_
 refine RK.c (S.store ti79 .none (.tmp rfl rfl) (.tmp rfl rfl) rfl rfl rfl rfl rfl rfl) ?_
 refine RK.nil (Ab.D.code (OK.seq (OK.reg ?_)))
 refine RK.c (S.load1 ti26 .none rfl (.tmp rfl rfl) rfl) ?_
 refine RK.c (S.lenM si26 .none rfl (.tmp rfl rfl)) ?_
 refine RK.c (S.move .none rfl (.cint rfl)) ?_
 refine RK.nil (Ab.D.code ?_)
 refine OK.block ?_
 refine OK.loop (G := Nat) [4] (fun i => [(0, .cb Φ), (1, .eptr (lineCs l c)), (4, .ptr 4 0), (1004, .box (momTo l c o i).cs), (9, .sl (o.map (fun n => [.int .i64 n]))), (10, .int .i64 o.length), (11, .int .i64 i), (3000, .res (J (iterG g s0 ((stepsT l c o).take i)).1))]) (fun i => i ≤ o.length ∧ (iterG g s0 ((stepsT l c o).take i)).2 = true) (fun i => o.length - i) 0 ⟨Nat.zero_le _, rfl⟩ ⟨rfl, rfl, rfl, rfl, rfl, rfl, rfl, rfl, trivial⟩ (fun _ => rfl) ?_
 rintro i ⟨hi, hrun⟩
 refine OK.seq (OK.reg ?_)
 refine RK.c (S.lss .none rfl (.tmp rfl rfl) (.tmp rfl rfl)) ?_
 refine RK.nil (Ab.D.code ?_)
 refine OK.seq ?_
 refine OK.condD rfl rfl (fun c12 => ?_) (fun c12 => ?_)
 ·
  have hil : i < o.length := by omega
  have hor := ho.rng _ (List.getElem_mem hil)
  have hmo := mom_okN hB ho i (by omega)
  have hms := mom_succ (l := l) (c := c) hil
  refine OK.skip ?_
  refine Ab.D.code ?_
  refine OK.seq ?_
  refine OK.block ?_
  refine OK.seq (OK.reg ?_)
  refine RK.c (S.indexM (n := i) si26 .none rfl (.tmp rfl rfl) (.tmp rfl rfl) rfl hil rfl) ?_
  refine RK.c (S.load1 ti3 .none rfl (.tmp rfl rfl) rfl) ?_
  refine RK.c (S.assign .none rfl (.tmp rfl rfl)) ?_
  refine RK.nil (Ab.D.code (OK.seq (OK.reg ?_)))
  refine RK.c (S.loadN ti75 .none rfl (.tmp rfl rfl) rfl rfl) ?_
  refine RK.c (S.bloadN ti79 .none rfl (.tmp rfl rfl) rfl rfl rfl rfl) ?_
  refine RK.c (S.move .none rfl (.tmp rfl rfl)) ?_
  refine RK.c (S.call (shp_after hB hmo (by omega) hor) Tryz.call67 .none rfl (.cons (.tmp rfl rfl) (.cons (.tmp rfl rfl) (.cons (.tmp rfl rfl) .nil))) rfl) ?_
  refine RK.c (S.store ti79 .none (.tmp rfl rfl) (.tmp rfl rfl) rfl rfl rfl rfl rfl rfl) ?_
  refine RK.nil (Ab.D.code ?_)
  refine OK.seq ?_
  rw [← hms]
  refine OK.reg ?_
  refine RK.c (S.move .none rfl (.tmp rfl rfl)) ?_
  refine RK.c (S.move .none rfl (.tmp rfl rfl)) ?_
  refine RK.c (S.bloadN ti79 .none rfl (.tmp rfl rfl) rfl rfl rfl rfl) ?_
  refine RK.c (S.callcb (J1 := J (g (iterG g s0 ((stepsT l c o).take i)).1 (o[i], momTo l c o (i + 1))).1) ((fun v hv => hcb v hv i _ (steps_at hil) hrun)) (hst _) .none rfl (.tmp rfl rfl) (.cons (.tmp rfl rfl) (.cons (.tmp rfl rfl) .nil)) rfl rfl) ?_
  refine RK.c (S.not .none rfl (.tmp rfl rfl)) ?_
  refine RK.nil (Ab.D.code ?_)
  refine OK.cond rfl rfl (fun c23 => ?_) (fun c23 => ?_)
  ·
   have hstop : (g (iterG g s0 ((stepsT l c o).take i)).1 (o[i], momTo l c o (i + 1))).2 = false := by simpa using c23
   have hit := iter_stop (rest := (stepsT l c o).drop (i + 1)) hrun hstop
   rw [steps_cut hil] at hit
   exact OK.ret ⟨⟨.inl rfl, [], trivial, rfl⟩, lk_res (by rw [hit]), trivial⟩
  ·
   have hcont : (g (iterG g s0 ((stepsT l c o).take i)).1 (o[i], momTo l c o (i + 1))).2 = true := by simpa using c23
   refine OK.skip ?_
   refine Ab.D.blk ?_
   refine Ab.D.code (OK.reg ?_)
   refine RK.c (S.add .none rfl (.tmp rfl rfl) (.cint rfl) (IntWalk.i64_in _ (by omega)) (IntWalk.i64_in _ (by omega))) ?_
   refine RK.c (S.move .none rfl (.tmp rfl rfl)) ?_
   refine RK.nil ?_
   refine Ab.D.lp ⟨i + 1, ⟨by omega, by rw [steps_snoc hil, iter_go hrun hcont]⟩, (by omega), rfl, rfl, rfl, rfl, rfl, rfl, rfl, (lk_res (by rw [steps_snoc hil, iter_go hrun hcont])), trivial⟩
 ·
  refine OK.exit rfl ?_
  exact ⟨⟨.inr rfl, [], trivial, rfl⟩, lk_res (by rw [show i = (stepsT l c o).length by rw [steps_len]; omega, List.take_length]), trivial⟩
set_option maxHeartbeats 1000000 in
theorem shp_LateBy {l : List Job} {c : Changes} {o : List Int} : Ct Tryz.prog 12 [.sl (l.map Job.cs), .agg c.cs, .sl (o.map (fun n => [.int .i64 n]))] (.tup [.int .i64 (latR l c o), .int .i64 (chaR l c o), .int .i64 (ordE2 l c o)]) := by
  refine Ct.intro (rs := [.tmp 6, .tmp 7, .tmp 8]) Tryz.func12 rfl Tryz.ntmps12 Tryz.results12 rfl rfl rfl fun w h => ?_
  refine OK.seq (OK.reg ?_)
  refine RK.c (S.box (k := 4) rfl .none rfl (.tmp rfl rfl) rfl) ?_
  refine RK.c (S.assign .none rfl (.cint rfl)) ?_
  refine RK.c (S.assign .none rfl (.cint rfl)) ?_
  refine RK.c (S.assign .none rfl (.cint rfl)) ?_
  refine RK.nil (Ab.D.code (OK.seq (OK.reg ?_)))
  refine RK.c (S.move .none rfl (.tmp rfl rfl)) ?_
  refine RK.c (S.bloadN ti25 .none rfl (.tmp rfl rfl) rfl rfl rfl rfl) ?_
  refine RK.c (S.call (shp_open) Tryz.call28 .none rfl (.cons (.tmp rfl rfl) (.cons (.tmp rfl rfl) .nil)) rfl) ?_
  refine RK.c (S.move .none rfl (.tmp rfl rfl)) ?_
  refine RK.c (S.extract .none rfl (.tmp rfl rfl) rfl rfl) ?_
  refine RK.c (S.extract .none rfl (.tmp rfl rfl) rfl rfl) ?_
  refine RK.c (S.alloc (k := 9) ze75 rfl .none rfl) ?_
  refine RK.c (S.store ti75 .none (.tmp rfl rfl) (.tmp rfl rfl) rfl rfl rfl rfl rfl rfl) ?_
  refine RK.c (S.assign .none rfl (.tmp rfl rfl)) ?_
  refine RK.nil (Ab.D.code (OK.seq (OK.seq (OK.reg ?_))))
  refine RK.c (S.move .none rfl (.tmp rfl rfl)) ?_
  refine RK.c (S.bloadN ti75 .none rfl (.tmp rfl rfl) rfl rfl rfl rfl) ?_
  refine RK.c (S.move .none rfl (.tmp rfl rfl)) ?_
  refine RK.c (S.call (shp_orderErr) Tryz.call37 .none rfl (.cons (.tmp rfl rfl) (.cons (.tmp rfl rfl) .nil)) rfl) ?_
  refine RK.c (S.mkSlice (k := 24) (rows := [[_], [_]]) ai130 .none rfl (.cons (.tmp rfl rfl) (.cons (.tmp rfl rfl) .nil)) rfl rfl rfl rfl rfl rfl rfl) ?_
  refine RK.c (S.callL (shop_first (l := [_, _])) Tryz.call36 .none rfl (.cons (.tmp rfl rfl) .nil) (.cons (.p (.own rfl rfl) rfl) .nil) rfl) ?_
  refine RK.c (S.assign .none rfl (.tmp rfl rfl)) ?_
  refine RK.nil (Ab.D.code (OK.seq (OK.reg ?_)))
  refine RK.c (S.move .none rfl (.tmp rfl rfl)) ?_
  refine RK.c (S.neq .none rfl (.tmp rfl rfl) (.cint rfl)) ?_
  refine RK.nil (Ab.D.code ?_)
  refine OK.condD rfl rfl (fun c27 => ?_) (fun c27 => ?_)
  ·
    rw [firstE2] at c27
    refine OK.seq (OK.reg ?_)
    refine RK.c (S.move .none rfl (.tmp rfl rfl)) ?_
    refine RK.c (S.assign .none rfl (.cint rfl)) ?_
    refine RK.c (S.assign .none rfl (.cint rfl)) ?_
    refine RK.c (S.assign .none rfl (.tmp rfl rfl)) ?_
    refine RK.nil (Ab.D.code ?_)
    refine OK.ret (Ret.r3 (.tmp rfl rfl (.c (.same rfl) rfl) rfl) (.tmp rfl rfl (.c (.same rfl) rfl) rfl) (.tmp rfl rfl (.c (.same rfl) rfl) rfl) ?_)
    have he : ordE2 l c o = firstE [bothE l c, orderE l.length o] := by rw [firstE2]; rfl
    rw [latR, if_neg (by rw [he, firstE2]; exact c27), chaR, if_neg (by rw [he, firstE2]; exact c27), he]
    all_goals rfl
  ·
    have hE : firstE [bothE l c, orderE l.length o] = 0 := Decidable.not_not.1 c27
    rw [firstE2] at hE
    have hE2 : ordE2 l c o = 0 := hE
    obtain ⟨hB, ho⟩ := ord2_ok hE2
    have hol := ho.len
    have hBl := hB.len
    refine OK.skip ?_
    refine Ab.D.code (OK.seq (OK.reg ?_))
    refine RK.c (S.alloc (k := 11) ze79 rfl .none rfl) ?_
    refine RK.nil (Ab.D.code (OK.seq (OK.seq (OK.reg ?_))))
    refine RK.c (S.bloadN ti75 .none rfl (.tmp rfl rfl) rfl rfl rfl rfl) ?_
    refine RK.c (S.move .none rfl (.tmp rfl rfl)) ?_
    refine RK.c (S.call (shp_steps) Tryz.call38 .none rfl (.cons (.tmp rfl rfl) (.cons (.tmp rfl rfl) .nil)) rfl) ?_
    refine RK.nil (Ab.D.code ?_)
    refine OK.block ?_
    refine OK.rangeFunc (ps := [32, 33]) (encs := (fun x => [.int .i64 x.1, .agg x.2.cs])) (L := (stepsT l c o)) [11] [(11, .ptr 11 0)] (fun q => [(1011, .box q.cs)]) (⟨0, 0, 0, 0⟩ : Moment) (fun _ x => (x.2, none)) ((fun J g s0 Φ hst hcb => shp_steps1 hB ho J g s0 Φ hst hcb)) Tryz.call68 (.inl rfl) (.tmp rfl rfl) rfl rfl ⟨rfl, rfl, trivial⟩ (fun _ => rfl) (fun _ => rfl) (fun _ => rfl) (fun _ => rfl) (fun _ => rfl) (by decide) rfl ?_ ?_ ?_
    · rintro i x q hx hq lr c0 w0 p1 p2 hR1 hR2
      refine OK.reg ?_
      refine RK.c (S.alloc (k := 13) ze79 rfl .none rfl) ?_
      refine RK.c (S.store ti79 .none (.tmp rfl rfl) (.tmp rfl rfl) rfl rfl rfl rfl rfl rfl) ?_
      refine RK.nil ?_
      refine ⟨rfl, ?_⟩
      refine OK.block ?_
      refine OK.reg ?_
      refine RK.c (S.bloadN ti79 .none rfl (.tmp rfl rfl) rfl rfl rfl rfl) ?_
      refine RK.c (S.store ti79 .none (.tmp rfl rfl) (.tmp rfl rfl) rfl rfl rfl rfl rfl rfl) ?_
      refine RK.nil ?_
      refine Ab.D.blk ?_
      exact ⟨rfl, rfl, trivial⟩
    · rintro q hq
      rw [iter_foldG] at hq
      have hq2 : momTo l c o o.length = q := by rw [← last_steps l c o (by omega)]; simpa using hq
      refine Ab.D.blk ?_
      refine Ab.D.code ?_
      refine OK.seq ?_
      refine OK.regionDraw follows (.c (S.bfield fi79_3 .none rfl (.tmp rfl rfl))
        (.c (S.bload1 ti3 .none rfl (.tmp rfl rfl) rfl rfl rfl rfl)
        (.c (S.bfield fi79_2 .none rfl (.tmp rfl rfl))
        (.c (S.bload1 ti3 .none rfl (.tmp rfl rfl) rfl rfl rfl rfl)
        (.c (S.assign .none rfl (.tmp rfl rfl))
        (.c (S.assign .none rfl (.tmp rfl rfl))
        (.c (S.assign .none rfl (.cint rfl))
        .nil))))))) (by kernel_rfl) ?_
      refine Ab.D.code ?_
      refine OK.ret (Ret.r3 (.tmp rfl rfl (.c (.same rfl) rfl) rfl) (.tmp rfl rfl (.c (.same rfl) rfl) rfl) (.tmp rfl rfl (.c (.same rfl) rfl) rfl) ?_)
      rw [latR, if_pos hE2, chaR, if_pos hE2, hE2, hq2]
      all_goals rfl
    · rintro q cd hq
      rw [iter_foldG] at hq
      cases hq
end Go.Proofs.YtbnimikgjjjcaaaGreatDoor
namespace Go.Proofs.YtbnimikgjjjcaaaGreatDoor
open Go.Ab
structure PreOk (n : Nat) (o : List Int) : Prop where
  rng : ∀ x ∈ o, 0 ≤ x ∧ x < (n : Int)
  dis : ∀ (i j : Nat) (hi : i < o.length) (hj : j < o.length), i < j → o[i] ≠ o[j]
theorem PreOk.ord {n : Nat} {o : List Int} (h : PreOk n o) (hl : o.length = n) : OrdOkN n o := ⟨hl, h.rng, h.dis⟩
theorem free_not {o : List Int} {i : Nat} (h : freeI o i = true) : ∀ x ∈ o, x ≠ (i : Int) := by
  unfold freeI at h
  rw [Bool.not_eq_true', List.any_eq_false] at h
  intro x hx e
  exact h x hx (decide_eq_true e.symm)
theorem PreOk.snoc {n : Nat} {o : List Int} {i : Nat} (h : PreOk n o) (hi : i < n) (hf : freeI o i = true) : PreOk n (o ++ [(i : Int)]) := by
  refine ⟨fun x hx => ?_, fun j k hj hk hjk => ?_⟩
  · rcases List.mem_append.1 hx with hx | hx
    · exact h.rng x hx
    · rw [List.mem_singleton] at hx; omega
  · rw [List.length_append, List.length_singleton] at hj hk
    rw [List.getElem_append_left (by omega)]
    by_cases e : k < o.length
    · rw [List.getElem_append_left e]; exact h.dis j k (by omega) e hjk
    · rw [List.getElem_append_right (by omega)]
      simp only [List.getElem_singleton]
      exact free_not hf _ (List.getElem_mem _)
theorem pre_nil (n : Nat) : PreOk n [] := ⟨(fun x hx => by cases hx), (fun i j hi _ _ => by simp at hi)⟩
theorem mom_snoc (l : List Job) (c : Changes) (o : List Int) (x : Int) : momTo l c (o ++ [x]) (o ++ [x]).length = afterT l c (momTo l c o o.length) x := by
  unfold momTo
  rw [List.take_length, List.take_length, List.foldl_append]
  rfl
def QOk (l : List Job) (c : Changes) (q : List Int × Moment) : Prop := OrdOkN l.length q.1 ∧ q.2 = momTo l c q.1 q.1.length
theorem ordTo_ok {l : List Job} {c : Changes} {f : Nat} {o : List Int} {q : List Int × Moment} (ih : ∀ o q, o.length + f = l.length → PreOk l.length o → (q.1 = [] ∨ QOk l c q) → ((ordersGo l c f o (momTo l c o o.length) q).1 = [] ∨ QOk l c (ordersGo l c f o (momTo l c o o.length) q)))
    (ho : o.length + (f + 1) = l.length) (hp : PreOk l.length o) (hq : q.1 = [] ∨ QOk l c q) : ∀ n, n ≤ l.length → ((ordTo l c f o (momTo l c o o.length) q n).1 = [] ∨ QOk l c (ordTo l c f o (momTo l c o o.length) q n))
  | 0, _ => hq
  | n + 1, h => by
    have h1 := ordTo_ok ih ho hp hq n (by omega)
    cases hf : freeI o n with
    | true =>
      rw [ordTo_T hf, ← mom_snoc]
      exact ih _ _ (by rw [List.length_append, List.length_singleton]; omega) (hp.snoc (by omega) hf) h1
    | false =>
      rw [ordTo_F hf]
      exact h1
theorem go_ok {l : List Job} {c : Changes} : ∀ (f : Nat) (o : List Int) (q : List Int × Moment), o.length + f = l.length → PreOk l.length o → (q.1 = [] ∨ QOk l c q) → ((ordersGo l c f o (momTo l c o o.length) q).1 = [] ∨ QOk l c (ordersGo l c f o (momTo l c o o.length) q))
  | 0, o, q, ho, hp, hq => by
    show (stepB q o (momTo l c o o.length)).1 = [] ∨ QOk l c (stepB q o (momTo l c o o.length))
    unfold stepB
    split
    · exact .inr ⟨hp.ord (by omega), rfl⟩
    · exact hq
  | f + 1, o, q, ho, hp, hq => by
    rw [ordersGo_succ]
    exact ordTo_ok (go_ok f) ho hp hq _ (Nat.le_refl _)
theorem go_q {l : List Job} {c : Changes} (hl : 0 < l.length) {f : Nat} {o : List Int} {q : List Int × Moment} (ho : o.length + f = l.length) (hp : PreOk l.length o) (hq : q.1 = [] ∨ QOk l c q) : QOk l c (ordersGo l c f o (momTo l c o o.length) q) :=
  (go_ok f o q ho hp hq).resolve_left (orders_ne l c hl f o _ q ho)
theorem best_q {l : List Job} (c : Changes) (hl : 0 < l.length) : QOk l c (bestT l c) := go_q hl (by simp) (pre_nil _) (.inl rfl)
theorem baseO_CopyInts {l : List Int} (hlen : l.length ≤ 100000) : CtO Tryz.prog 13 [ints l] 1 (l.map (fun n => [.int .i64 n])) := by
 refine CtO.intro Tryz.func13 rfl Tryz.ntmps13 Tryz.results13 rfl rfl rfl fun w h => ?_
 refine OK.seq (OK.reg ?_)
 refine RK.c (S.assign .none rfl .cnil) ?_
 refine RK.nil (Ab.D.code (OK.seq (OK.reg ?_)))
 refine RK.c (S.mkSlice (k := 3) (rows := []) ai26 .none rfl .nil rfl rfl rfl rfl rfl rfl rfl) ?_
 refine RK.c (S.move .none rfl (.tmp rfl rfl)) ?_
 refine RK.c (S.appendSl ai26 .none rfl (.tmp rfl rfl) rfl (by first | rfl | (simp; done) | (simp; omega)) (.tmp rfl rfl) (by intro q hq; obtain ⟨x, _, rfl⟩ := List.mem_map.1 hq; rfl) rfl (by simp only [List.length_map]; omega) (by simp only [maxLen, List.length_map]; omega)) ?_
 refine RK.c (S.assign .none rfl (.tmp rfl rfl)) ?_
 refine RK.nil (Ab.D.code ?_)
 refine OK.ret (RetO.mk rfl rfl rfl (by first | rfl | (simp; done) | (simp; omega)) ?_)
 rfl
end Go.Proofs.YtbnimikgjjjcaaaGreatDoor
