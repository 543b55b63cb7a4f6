import Derived.Test.YtbnimikgjjjcaaaGreatDoorKg
import Derived.Test.YtbnimikgjjjcaaaGreatDoorTy
namespace Go.Proofs.YtbnimikgjjjcaaaGreatDoor
open Go.Ab
def fewJ (l : List Job) : Bool := decide (l.length ≤ 9) && l.all fun j => decide (j.name.length ≤ 30)
def fewC (c : Changes) : Bool := decide (c.ticks.length ≤ 7) && c.ticks.all fun r => decide (r.length ≤ 9)
theorem few_c {c : Changes} (h : fewC c = true) : c.ticks.length ≤ 7 ∧ ∀ r ∈ c.ticks, r.length ≤ 9 := by
  unfold fewC at h
  rw [Bool.and_eq_true, decide_eq_true_eq, List.all_eq_true] at h
  exact ⟨h.1, fun r hr => of_decide_eq_true (h.2 r hr)⟩
theorem few_j {l : List Job} (h : fewJ l = true) : l.length ≤ 9 := by
  unfold fewJ at h
  rw [Bool.and_eq_true, decide_eq_true_eq] at h
  exact h.1
theorem all_dropG {α : Type} (g : α → Bool) {l : List α} {i : Nat} (h : i < l.length) : (l.drop i).all g = (g l[i] && (l.drop (i + 1)).all g) := by rw [List.drop_eq_getElem_cons h, List.all_cons]
theorem any_dropG {α : Type} (g : α → Bool) {l : List α} {i : Nat} (h : i < l.length) : (l.drop i).any g = (g l[i] || (l.drop (i + 1)).any g) := by rw [List.drop_eq_getElem_cons h, List.any_cons]
theorem has_names (l : List Job) (s : List UInt8) : hasText (l.map (·.name)) s = l.any fun o => decide (o.name = s) := by
  unfold hasText
  rw [List.any_map]
  congr 1
  funext o
  exact decide_eq_decide.2 ⟨Eq.symm, Eq.symm⟩
theorem job_name {l : List Job} {i : Nat} {j : Job} (h : nameOk j.name = false) : jobE l i j = 4 := by rw [jobE, firstE3, h]; rfl
theorem job_dup {l : List Job} {i : Nat} {j : Job} (h : nameOk j.name = true) (h2 : (l.take i).any (fun o => decide (o.name = j.name)) = true) : jobE l i j = 5 := by rw [jobE, firstE3, h, h2]; rfl
theorem job_rng {l : List Job} {i : Nat} {j : Job} (h : nameOk j.name = true) (h2 : (l.take i).any (fun o => decide (o.name = j.name)) = false) (h3 : rightJ j = false) : jobE l i j = 2 := by rw [jobE, firstE3, h, h2, h3]; rfl
theorem job_fine {l : List Job} {i : Nat} {j : Job} (h : nameOk j.name = true) (h2 : (l.take i).any (fun o => decide (o.name = j.name)) = false) (h3 : rightJ j = true) : jobE l i j = 0 := by rw [jobE, firstE3, h, h2, h3]; rfl
theorem each_at {α : Type} {g : Nat → α → Int} {l : List α} {i : Nat} {e : Int} (hg : eachGo g 0 l = eachGo g i (l.drop i)) (hi : i < l.length) (he : g i l[i] = e) (h0 : e ≠ 0) : eachGo g 0 l = ((i : Int), e) := by rw [hg, eachGo_drop _ hi, he, if_pos h0]
theorem each_on {α : Type} {g : Nat → α → Int} {l : List α} {i : Nat} (hg : eachGo g 0 l = eachGo g i (l.drop i)) (hi : i < l.length) (he : g i l[i] = 0) : eachGo g 0 l = eachGo g (i + 1) (l.drop (i + 1)) := by rw [hg, eachGo_drop _ hi, he, if_neg (by decide)]
theorem each_end {α : Type} {g : Nat → α → Int} {l : List α} {i : Nat} (hg : eachGo g 0 l = eachGo g i (l.drop i)) (hi : i = l.length) : eachGo g 0 l = (0, 0) := by rw [hg, hi, List.drop_length]; rfl
theorem jobs_is {l : List Job} (h : 1 ≤ l.length ∧ l.length ≤ 7) : jobsChk l = eachGo (jobE l) 0 l := by rw [jobsChk, if_neg (by omega), if_neg (by omega)]
theorem cell_2 {i k : Nat} {t : Int} (h : ¬ (0 ≤ t ∧ t ≤ 100000)) : cellE i k t = 2 := by rw [cellE, firstE2, decide_eq_false h]; rfl
theorem cell_3 {i k : Nat} {t : Int} (h : 0 ≤ t ∧ t ≤ 100000) (h2 : (i : Int) = k) (h3 : t ≠ 0) : cellE i k t = 3 := by rw [cellE, firstE2, decide_eq_true h, decide_eq_false (show ¬ ((i : Int) ≠ k) from fun q => q h2), decide_eq_false h3]; rfl
theorem cell_0 {i k : Nat} {t : Int} (h : 0 ≤ t ∧ t ≤ 100000) (h2 : (i : Int) ≠ k ∨ t = 0) : cellE i k t = 0 := by
  rw [cellE, firstE2, decide_eq_true h]
  rcases h2 with h2 | h2
  · rw [decide_eq_true h2]; rfl
  · rw [decide_eq_true h2, Bool.or_true]; rfl
theorem row_10 {n i : Nat} {r : List Int} (h : r.length ≠ n) : rowE n i r = 10 := if_pos h
theorem row_at {n i k : Nat} {r : List Int} {e : Int} (h : r.length = n) (hg : eachGo (cellE i) 0 r = ((k : Int), e)) : rowE n i r = e := by unfold rowE; rw [if_neg (fun q => q h), hg]
theorem row_0 {n i : Nat} {r : List Int} (h : r.length = n) (hg : eachGo (cellE i) 0 r = (0, 0)) : rowE n i r = 0 := by unfold rowE; rw [if_neg (fun q => q h), hg]
theorem chg_is {c : Changes} (h : 1 ≤ c.ticks.length ∧ c.ticks.length ≤ 5) {i : Nat} {e : Int} (hg : eachGo (rowE c.ticks.length) 0 c.ticks = ((i : Int), e)) (h0 : e ≠ 0) : chgChk c = ((i : Int), e) := by
  rw [chgChk, if_neg (by omega), if_neg (by omega), hg, if_pos h0]
theorem chg_end {c : Changes} (h : 1 ≤ c.ticks.length ∧ c.ticks.length ≤ 5) (hg : eachGo (rowE c.ticks.length) 0 c.ticks = (0, 0)) : chgChk c = (0, if 0 ≤ c.start ∧ c.start ≤ (c.ticks.length : Int) - 1 then 0 else 6) := by
  rw [chgChk, if_neg (by omega), if_neg (by omega), hg, if_neg (by decide)]
def ordE (n : Nat) (o : List Int) (i : Nat) (x : Int) : Int := firstE [unlessE (decide (0 ≤ x ∧ x ≤ (n : Int) - 1)) 6, unlessE (!(o.take i).any fun y => decide (x = y)) 23]
def orderE (n : Nat) (o : List Int) : Int := if o.length ≠ n then 10 else (eachGo (ordE n o) 0 o).2
theorem ord_6 {n i : Nat} {o : List Int} {x : Int} (h : ¬ (0 ≤ x ∧ x ≤ (n : Int) - 1)) : ordE n o i x = 6 := by rw [ordE, firstE2, decide_eq_false h]; rfl
theorem ord_23 {n i : Nat} {o : List Int} {x : Int} (h : 0 ≤ x ∧ x ≤ (n : Int) - 1) (h2 : ((o.take i).any fun y => decide (x = y)) = true) : ordE n o i x = 23 := by rw [ordE, firstE2, decide_eq_true h, h2]; rfl
theorem ord_0 {n i : Nat} {o : List Int} {x : Int} (h : 0 ≤ x ∧ x ≤ (n : Int) - 1) (h2 : ((o.take i).any fun y => decide (x = y)) = false) : ordE n o i x = 0 := by rw [ordE, firstE2, decide_eq_true h, h2]; rfl
theorem order_is {n i : Nat} {o : List Int} {e : Int} (h : o.length = n) (hg : eachGo (ordE n o) 0 o = ((i : Int), e)) : orderE n o = e := by unfold orderE; rw [if_neg (fun q => q h), hg]
theorem order_end {n : Nat} {o : List Int} (h : o.length = n) (hg : eachGo (ordE n o) 0 o = (0, 0)) : orderE n o = 0 := by unfold orderE; rw [if_neg (fun q => q h), hg]
def hasI (l : List Int) (n : Int) : Bool := l.any fun x => decide (x = n)
theorem hasI_any (l : List Int) (x : Int) : hasI l x = l.any fun y => decide (x = y) := by
  unfold hasI
  congr 1
  funext y
  exact decide_eq_decide.2 ⟨Eq.symm, Eq.symm⟩
structure OrdOkN (n : Nat) (o : List Int) : Prop where
  len : o.length = n
  rng : ∀ x ∈ o, 0 ≤ x ∧ x < (n : Int)
  dis : ∀ (i j : Nat) (hi : i < o.length) (hj : j < o.length), i < j → o[i] ≠ o[j]
theorem order_ok {n : Nat} {o : List Int} (h : orderE n o = 0) : OrdOkN n o := by
  unfold orderE at h
  split at h
  · cases h
  · rename_i h1
    have hz := each_zero _ o 0 h
    refine ⟨Decidable.not_not.1 h1, fun x hx => ?_, fun i j hi hj hij he => ?_⟩
    · obtain ⟨i, hi, rfl⟩ := List.getElem_of_mem hx
      have := of_decide_eq_true (un_0 (by decide) (first2_0 (hz i hi)).1)
      omega
    · have h2 := un_0 (by decide) (first2_0 (hz j hj)).2
      rw [Nat.zero_add, Bool.not_eq_true', List.any_eq_false] at h2
      refine h2 o[i] ?_ (decide_eq_true he.symm)
      exact List.mem_take_iff_getElem.2 ⟨i, by omega, rfl⟩
theorem base_Has {l : List Int} {n : Int} : Ct Tryz.prog 35 [ints l, .int .i64 n] (.bool (hasI l n)) := by
 refine Ct.intro (rs := [.tmp 4]) Tryz.func35 rfl Tryz.ntmps35 Tryz.results35 rfl rfl rfl fun w h => ?_
 refine OK.slLen (rows := l.map fun n => [.int .i64 n]) (t := 0) rfl rfl fun hlen => ?_
 rw [List.length_map] at hlen
 unfold maxLen at hlen
 refine OK.seq (OK.reg ?_)
 refine RK.c (S.assign .none rfl .cbool) ?_
 refine RK.nil (Ab.D.code (OK.seq (OK.seq (OK.reg ?_))))
 refine RK.c (S.assign .none rfl (.cint rfl)) ?_
 refine RK.nil (Ab.D.code ?_)
 refine OK.block ?_
 refine OK.loop (G := Nat) [] (fun i => [(0, ints l), (1, .int .i64 n), (5, .int .i64 i)]) (fun i => i ≤ l.length ∧ hasI l n = hasI (l.drop i) n) (fun i => l.length - i) 0 ⟨Nat.zero_le _, rfl⟩ ⟨rfl, rfl, rfl, trivial⟩ (fun _ => rfl) ?_
 rintro i ⟨hi, hg⟩
 refine OK.seq (OK.seq (OK.reg ?_))
 refine RK.c (S.move .none rfl (.tmp rfl rfl)) ?_
 refine RK.c (S.move .none rfl (.tmp rfl rfl)) ?_
 refine RK.c (S.lenM si26 .none rfl (.tmp rfl rfl)) ?_
 refine RK.c (S.lss .none rfl (.tmp rfl rfl) (.tmp rfl rfl)) ?_
 refine RK.nil (Ab.D.code ?_)
 refine OK.condD rfl rfl (fun c9 => ?_) (fun c9 => ?_)
 ·
  refine OK.skip ?_
  refine Ab.D.code ?_
  refine OK.seq ?_
  refine OK.block ?_
  refine OK.seq (OK.reg ?_)
  refine RK.c (S.move .none rfl (.tmp rfl rfl)) ?_
  refine RK.c (S.move .none rfl (.tmp rfl rfl)) ?_
  refine RK.c (S.indexM si26 .none rfl (.tmp rfl rfl) (.tmp rfl rfl) rfl (by omega) rfl) ?_
  refine RK.c (S.load1 ti3 .none rfl (.tmp rfl rfl) rfl) ?_
  refine RK.c (S.move .none rfl (.tmp rfl rfl)) ?_
  refine RK.c (S.eql .none rfl (.tmp rfl rfl) (.tmp rfl rfl)) ?_
  refine RK.nil (Ab.D.code ?_)
  refine OK.condD rfl rfl (fun c17 => ?_) (fun c17 => ?_)
  ·
   refine OK.seq (OK.reg ?_)
   refine RK.c (S.assign .none rfl .cbool) ?_
   refine RK.nil (Ab.D.code ?_)
   refine OK.ret (Ret.r1 (.tmp rfl rfl (.c (.same rfl) rfl) rfl) ?_)
   refine ret_b ?_
   rw [hg, hasI, any_drop _ (by omega), decide_eq_true c17, Bool.true_or]
  ·
   refine OK.skip ?_
   refine Ab.D.blk ?_
   refine Ab.D.code (OK.reg ?_)
   refine RK.c (S.move .none rfl (.tmp rfl rfl)) ?_
   refine RK.c (S.add .none rfl (.tmp rfl rfl) (.cint rfl) (IntWalk.i64_in _ (by omega)) (IntWalk.i64_in _ (by omega))) ?_
   refine RK.c (S.assign .none rfl (.tmp rfl rfl)) ?_
   refine RK.nil ?_
   refine Ab.D.lp ⟨i + 1, ⟨by omega, ?_⟩, (by omega), rfl, rfl, rfl, trivial⟩
   rw [hg, hasI, any_drop _ (by omega), decide_eq_false c17, Bool.false_or]
   rfl
 ·
  refine OK.exit rfl ?_
  refine Ab.D.code (OK.seq (OK.reg ?_))
  refine RK.c (S.assign .none rfl .cbool) ?_
  refine RK.nil (Ab.D.code ?_)
  refine OK.ret (Ret.r1 (.tmp rfl rfl (.c (.same rfl) rfl) rfl) ?_)
  refine ret_b ?_
  rw [hg, show i = l.length by omega, List.drop_length]
  rfl
theorem law9_fewJobs {l : List Job} : Ct Tryz.prog 5 [.sl (l.map Job.cs)] (.bool (fewJ l)) := by
 refine Ct.intro (rs := [.tmp 2]) Tryz.func5 rfl Tryz.ntmps5 Tryz.results5 rfl rfl rfl fun w h => ?_
 refine OK.slLen (rows := l.map Job.cs) (t := 0) rfl rfl fun hlen => ?_
 rw [List.length_map] at hlen
 unfold maxLen at hlen
 refine OK.seq (OK.reg ?_)
 refine RK.c (S.assign .none rfl .cbool) ?_
 refine RK.nil (Ab.D.code (OK.seq (OK.seq (OK.reg ?_))))
 refine RK.c (S.move .none rfl (.tmp rfl rfl)) ?_
 refine RK.c (S.lenM si22 .none rfl (.tmp rfl rfl)) ?_
 refine RK.c (S.gtr .none rfl (.tmp rfl rfl) (.cint rfl)) ?_
 refine RK.nil (Ab.D.code ?_)
 refine OK.condD rfl rfl (fun c6 => ?_) (fun c6 => ?_)
 ·
  refine OK.seq (OK.reg ?_)
  refine RK.c (S.assign .none rfl .cbool) ?_
  refine RK.nil (Ab.D.code ?_)
  refine OK.ret (Ret.r1 (.tmp rfl rfl (.c (.same rfl) rfl) rfl) ?_)
  refine ret_b ?_
  unfold fewJ
  rw [decide_eq_false (by omega)]
  rfl
 ·
  refine OK.skip ?_
  refine Ab.D.code (OK.seq (OK.seq (OK.reg ?_)))
  refine RK.c (S.assign .none rfl (.cint rfl)) ?_
  refine RK.nil (Ab.D.code ?_)
  refine OK.block ?_
  refine OK.loop (G := Nat) [] (fun i => [(0, .sl (l.map Job.cs)), (3, .int .i64 i)]) (fun i => i ≤ l.length ∧ (l.all fun j => decide (j.name.length ≤ 30)) = (l.drop i).all fun j => decide (j.name.length ≤ 30)) (fun i => l.length - i) 0 ⟨Nat.zero_le _, rfl⟩ ⟨rfl, rfl, trivial⟩ (fun _ => rfl) ?_
  rintro i ⟨hi, hg⟩
  refine OK.seq (OK.seq (OK.reg ?_))
  refine RK.c (S.move .none rfl (.tmp rfl rfl)) ?_
  refine RK.c (S.move .none rfl (.tmp rfl rfl)) ?_
  refine RK.c (S.lenM si22 .none rfl (.tmp rfl rfl)) ?_
  refine RK.c (S.lss .none rfl (.tmp rfl rfl) (.tmp rfl rfl)) ?_
  refine RK.nil (Ab.D.code ?_)
  refine OK.condD rfl rfl (fun c10 => ?_) (fun c10 => ?_)
  ·
   refine OK.skip ?_
   refine Ab.D.code ?_
   refine OK.seq ?_
   refine OK.block ?_
   refine OK.seq (OK.reg ?_)
   refine RK.c (S.move .none rfl (.tmp rfl rfl)) ?_
   refine RK.c (S.move .none rfl (.tmp rfl rfl)) ?_
   refine RK.c (S.indexM (n := i) si22 .none rfl (.tmp rfl rfl) (.tmp rfl rfl) rfl (by omega) rfl) ?_
   refine RK.c (S.field fi70_0 .none rfl (.tmp rfl rfl) rfl) ?_
   refine RK.c (S.load1 ti9 .none rfl (.tmp rfl rfl) rfl) ?_
   refine RK.c (S.slen Tryz.underlying9 .none rfl (.tmp rfl rfl)) ?_
   refine RK.c (S.gtr .none rfl (.tmp rfl rfl) (.cint rfl)) ?_
   refine RK.nil (Ab.D.code ?_)
   refine OK.condD rfl rfl (fun c19 => ?_) (fun c19 => ?_)
   ·
    refine OK.seq (OK.reg ?_)
    refine RK.c (S.assign .none rfl .cbool) ?_
    refine RK.nil (Ab.D.code ?_)
    refine OK.ret (Ret.r1 (.tmp rfl rfl (.c (.same rfl) rfl) rfl) ?_)
    refine ret_b ?_
    unfold fewJ
    rw [hg, all_dropG _ (show i < l.length by omega), decide_eq_false (show ¬ l[i].name.length ≤ 30 by omega), Bool.false_and, Bool.and_false]
   ·
    refine OK.skip ?_
    refine Ab.D.blk ?_
    refine Ab.D.code (OK.reg ?_)
    refine RK.c (S.move .none rfl (.tmp rfl rfl)) ?_
    refine RK.c (S.add .none rfl (.tmp rfl rfl) (.cint rfl) (IntWalk.i64_in _ (by omega)) (IntWalk.i64_in _ (by omega))) ?_
    refine RK.c (S.assign .none rfl (.tmp rfl rfl)) ?_
    refine RK.nil ?_
    refine Ab.D.lp ⟨i + 1, ⟨by omega, ?_⟩, (by omega), rfl, rfl, trivial⟩
    rw [hg, all_dropG _ (by omega), decide_eq_true (by omega), Bool.true_and]
  ·
   refine OK.exit rfl ?_
   refine Ab.D.code (OK.seq (OK.reg ?_))
   refine RK.c (S.assign .none rfl .cbool) ?_
   refine RK.nil (Ab.D.code ?_)
   refine OK.ret (Ret.r1 (.tmp rfl rfl (.c (.same rfl) rfl) rfl) ?_)
   refine ret_b ?_
   unfold fewJ
   rw [hg, show i = l.length by omega, List.drop_length, decide_eq_true (by omega)]
   rfl
theorem law9_fewChanges {c : Changes} : Ct Tryz.prog 6 [.agg c.cs] (.bool (fewC c)) := by
 refine Ct.intro (rs := [.tmp 2]) Tryz.func6 rfl Tryz.ntmps6 Tryz.results6 rfl rfl rfl fun w h => ?_
 refine OK.aggLen 0 1 (c.ticks.map fun l => [.sl (l.map fun n => [.int .i64 n])]) rfl rfl rfl fun hlen => ?_
 rw [List.length_map] at hlen
 unfold maxLen at hlen
 refine OK.seq (OK.reg ?_)
 refine RK.c (S.box (k := 1) rfl .none rfl (.tmp rfl rfl) rfl) ?_
 refine RK.c (S.assign .none rfl .cbool) ?_
 refine RK.nil (Ab.D.code (OK.seq (OK.seq (OK.reg ?_))))
 refine RK.c (S.bfield fi25_1 .none rfl (.tmp rfl rfl)) ?_
 refine RK.c (S.bload1 ti23 .none rfl (.tmp rfl rfl) rfl rfl rfl rfl) ?_
 refine RK.c (S.lenM si23 .none rfl (.tmp rfl rfl)) ?_
 refine RK.c (S.gtr .none rfl (.tmp rfl rfl) (.cint rfl)) ?_
 refine RK.nil (Ab.D.code ?_)
 refine OK.condD rfl rfl (fun c7 => ?_) (fun c7 => ?_)
 ·
  refine OK.seq (OK.reg ?_)
  refine RK.c (S.assign .none rfl .cbool) ?_
  refine RK.nil (Ab.D.code ?_)
  refine OK.ret (Ret.r1 (.tmp rfl rfl (.c (.same rfl) rfl) rfl) ?_)
  refine ret_b ?_
  unfold fewC
  rw [decide_eq_false (by omega)]
  rfl
 ·
  refine OK.skip ?_
  refine Ab.D.code (OK.seq (OK.seq (OK.reg ?_)))
  refine RK.c (S.assign .none rfl (.cint rfl)) ?_
  refine RK.nil (Ab.D.code ?_)
  refine OK.block ?_
  refine OK.loop (G := Nat) [1] (fun i => [(1, .ptr 1 0), (1001, .box c.cs), (3, .int .i64 i)]) (fun i => i ≤ c.ticks.length ∧ (c.ticks.all fun r => decide (r.length ≤ 9)) = (c.ticks.drop i).all fun r => decide (r.length ≤ 9)) (fun i => c.ticks.length - i) 0 ⟨Nat.zero_le _, rfl⟩ ⟨rfl, rfl, rfl, trivial⟩ (fun _ => rfl) ?_
  rintro i ⟨hi, hg⟩
  refine OK.seq (OK.seq (OK.reg ?_))
  refine RK.c (S.move .none rfl (.tmp rfl rfl)) ?_
  refine RK.c (S.bfield fi25_1 .none rfl (.tmp rfl rfl)) ?_
  refine RK.c (S.bload1 ti23 .none rfl (.tmp rfl rfl) rfl rfl rfl rfl) ?_
  refine RK.c (S.lenM si23 .none rfl (.tmp rfl rfl)) ?_
  refine RK.c (S.lss .none rfl (.tmp rfl rfl) (.tmp rfl rfl)) ?_
  refine RK.nil (Ab.D.code ?_)
  refine OK.condD rfl rfl (fun c12 => ?_) (fun c12 => ?_)
  ·
   refine OK.skip ?_
   refine Ab.D.code ?_
   refine OK.seq ?_
   refine OK.block ?_
   refine OK.seq (OK.reg ?_)
   refine RK.c (S.bfield fi25_1 .none rfl (.tmp rfl rfl)) ?_
   refine RK.c (S.bload1 ti23 .none rfl (.tmp rfl rfl) rfl rfl rfl rfl) ?_
   refine RK.c (S.move .none rfl (.tmp rfl rfl)) ?_
   refine RK.c (S.indexM (n := i) si23 .none rfl (.tmp rfl rfl) (.tmp rfl rfl) rfl (by omega) rfl) ?_
   refine RK.c (S.load1 ti26 .none rfl (.tmp rfl rfl) rfl) ?_
   refine RK.c (S.lenM si26 .none rfl (.tmp rfl rfl)) ?_
   refine RK.c (S.gtr .none rfl (.tmp rfl rfl) (.cint rfl)) ?_
   refine RK.nil (Ab.D.code ?_)
   refine OK.condD rfl rfl (fun c21 => ?_) (fun c21 => ?_)
   ·
    refine OK.seq (OK.reg ?_)
    refine RK.c (S.assign .none rfl .cbool) ?_
    refine RK.nil (Ab.D.code ?_)
    refine OK.ret (Ret.r1 (.tmp rfl rfl (.c (.same rfl) rfl) rfl) ?_)
    refine ret_b ?_
    unfold fewC
    rw [hg, all_dropG _ (show i < c.ticks.length by omega), decide_eq_false (show ¬ c.ticks[i].length ≤ 9 by omega), Bool.false_and, Bool.and_false]
   ·
    refine OK.skip ?_
    refine Ab.D.blk ?_
    refine Ab.D.code (OK.reg ?_)
    refine RK.c (S.move .none rfl (.tmp rfl rfl)) ?_
    refine RK.c (S.add .none rfl (.tmp rfl rfl) (.cint rfl) (IntWalk.i64_in _ (by omega)) (IntWalk.i64_in _ (by omega))) ?_
    refine RK.c (S.assign .none rfl (.tmp rfl rfl)) ?_
    refine RK.nil ?_
    refine Ab.D.lp ⟨i + 1, ⟨by omega, ?_⟩, (by omega), rfl, rfl, rfl, trivial⟩
    rw [hg, all_dropG _ (by omega), decide_eq_true (by omega), Bool.true_and]
  ·
   refine OK.exit rfl ?_
   refine Ab.D.code (OK.seq (OK.reg ?_))
   refine RK.c (S.assign .none rfl .cbool) ?_
   refine RK.nil (Ab.D.code ?_)
   refine OK.ret (Ret.r1 (.tmp rfl rfl (.c (.same rfl) rfl) rfl) ?_)
   refine ret_b ?_
   unfold fewC
   rw [hg, show i = c.ticks.length by omega, List.drop_length, decide_eq_true (by omega)]
   rfl
theorem ref9_CheckJobs {l : List Job} : Ct Tryz.prog 60 [.sl (l.map Job.cs)] (pair (jobsChk l)) := by
 refine Ct.intro (rs := [.tmp 2, .tmp 3]) Tryz.func60 rfl Tryz.ntmps60 Tryz.results60 rfl rfl rfl fun w h => ?_
 refine OK.seq (OK.reg ?_)
 refine RK.c (S.assign .none rfl (.cint rfl)) ?_
 refine RK.c (S.assign .none rfl (.cint rfl)) ?_
 refine RK.nil (Ab.D.code (OK.seq (OK.seq (OK.reg ?_))))
 refine RK.c (S.move .none rfl (.tmp rfl rfl)) ?_
 refine RK.c (S.lenM si22 .none rfl (.tmp rfl rfl)) ?_
 refine RK.c (S.eql .none rfl (.tmp rfl rfl) (.cint rfl)) ?_
 refine RK.nil (Ab.D.code ?_)
 refine OK.condD rfl rfl (fun c9 => ?_) (fun c9 => ?_)
 ·
  refine OK.seq (OK.reg ?_)
  refine RK.c (S.assign .none rfl (.cint rfl)) ?_
  refine RK.c (S.assign .none rfl (.cint rfl)) ?_
  refine RK.nil (Ab.D.code ?_)
  refine OK.ret (Ret.r2 (.tmp rfl rfl (.c (.same rfl) rfl) rfl) (.tmp rfl rfl (.c (.same rfl) rfl) rfl) ?_)
  refine ret_p ?_
  rw [jobsChk, if_pos (by omega)]
 ·
  refine OK.skip ?_
  refine Ab.D.code (OK.seq (OK.seq (OK.reg ?_)))
  refine RK.c (S.move .none rfl (.tmp rfl rfl)) ?_
  refine RK.c (S.lenM si22 .none rfl (.tmp rfl rfl)) ?_
  refine RK.c (S.gtr .none rfl (.tmp rfl rfl) (.cint rfl)) ?_
  refine RK.nil (Ab.D.code ?_)
  refine OK.condD rfl rfl (fun c12 => ?_) (fun c12 => ?_)
  ·
   refine OK.seq (OK.reg ?_)
   refine RK.c (S.assign .none rfl (.cint rfl)) ?_
   refine RK.c (S.assign .none rfl (.cint rfl)) ?_
   refine RK.nil (Ab.D.code ?_)
   refine OK.ret (Ret.r2 (.tmp rfl rfl (.c (.same rfl) rfl) rfl) (.tmp rfl rfl (.c (.same rfl) rfl) rfl) ?_)
   refine ret_p ?_
   rw [jobsChk, if_neg (by omega), if_pos (by omega)]
  ·
   refine OK.skip ?_
   refine Ab.D.code (OK.seq (OK.reg ?_))
   refine RK.c (S.nilOwn (k := 4) (sz := 1) .none rfl) ?_
   refine RK.nil (Ab.D.code (OK.seq (OK.seq (OK.reg ?_))))
   refine RK.c (S.assign .none rfl (.cint rfl)) ?_
   refine RK.nil (Ab.D.code ?_)
   refine OK.block ?_
   refine OK.loop (G := Nat) [4] (fun i => [(0, .sl (l.map Job.cs)), (4, .own 4 i), (2004, .arr 1 (((l.take i).map (·.name)).map fun s => [.str s])), (5, .int .i64 i)]) (fun i => i ≤ l.length ∧ eachGo (jobE l) 0 l = eachGo (jobE l) i (l.drop i)) (fun i => l.length - i) 0 ⟨Nat.zero_le _, rfl⟩ ⟨rfl, (lk_own (by first | rfl | (simp; done) | (simp; omega))), (lk_arr (by first | rfl | (simp; done) | (simp; omega))), rfl, trivial⟩ (fun _ => rfl) ?_
   rintro i ⟨hi, hg⟩
   refine OK.seq (OK.seq (OK.reg ?_))
   refine RK.c (S.move .none rfl (.tmp rfl rfl)) ?_
   refine RK.c (S.move .none rfl (.tmp rfl rfl)) ?_
   refine RK.c (S.lenM si22 .none rfl (.tmp rfl rfl)) ?_
   refine RK.c (S.lss .none rfl (.tmp rfl rfl) (.tmp rfl rfl)) ?_
   refine RK.nil (Ab.D.code ?_)
   refine OK.condD rfl rfl (fun c16 => ?_) (fun c16 => ?_)
   ·
    have hnt : ((l.take i).map (·.name)).length = i := by simp; omega
    have hjs := jobs_is (l := l) (by omega)
    have hhn := has_names (l.take i) l[i].name
    refine OK.skip ?_
    refine Ab.D.code ?_
    refine OK.seq ?_
    refine OK.block ?_
    refine OK.seq (OK.reg ?_)
    refine RK.c (S.move .none rfl (.tmp rfl rfl)) ?_
    refine RK.c (S.move .none rfl (.tmp rfl rfl)) ?_
    refine RK.c (S.indexM (n := i) si22 .none rfl (.tmp rfl rfl) (.tmp rfl rfl) rfl (by omega) rfl) ?_
    refine RK.c (S.loadN ti70 .none rfl (.tmp rfl rfl) rfl rfl) ?_
    refine RK.c (S.alloc (k := 6) ze70 rfl .none rfl) ?_
    refine RK.c (S.store ti70 .none (.tmp rfl rfl) (.tmp rfl rfl) rfl rfl rfl rfl rfl rfl) ?_
    refine RK.nil (Ab.D.code (OK.seq (OK.seq (OK.reg ?_))))
    refine RK.c (S.bfield fi70_0 .none rfl (.tmp rfl rfl)) ?_
    refine RK.c (S.bload1 ti9 .none rfl (.tmp rfl rfl) rfl rfl rfl rfl) ?_
    refine RK.c (S.call (base_IsName) Tryz.call93 .none rfl (.cons (.tmp rfl rfl) .nil) rfl) ?_
    refine RK.c (S.not .none rfl (.tmp rfl rfl)) ?_
    refine RK.nil (Ab.D.code ?_)
    refine OK.cond rfl rfl (fun c26 => ?_) (fun c26 => ?_)
    ·
     refine OK.seq (OK.reg ?_)
     refine RK.c (S.move .none rfl (.tmp rfl rfl)) ?_
     refine RK.c (S.assign .none rfl (.tmp rfl rfl)) ?_
     refine RK.c (S.assign .none rfl (.cint rfl)) ?_
     refine RK.nil (Ab.D.code ?_)
     refine OK.ret (Ret.r2 (.tmp rfl rfl (.c (.same rfl) rfl) rfl) (.tmp rfl rfl (.c (.same rfl) rfl) rfl) ?_)
     refine ret_p ?_
     rw [hjs, each_at hg (by omega) (job_name (by simpa using c26)) (by decide)]
    ·
     refine OK.skip ?_
     refine Ab.D.code (OK.seq (OK.seq (OK.reg ?_)))
     refine RK.c (S.move .none rfl (.tmp rfl rfl)) ?_
     refine RK.c (S.bfield fi70_0 .none rfl (.tmp rfl rfl)) ?_
     refine RK.c (S.bload1 ti9 .none rfl (.tmp rfl rfl) rfl rfl rfl rfl) ?_
     refine RK.c (S.callL (base_HasText (l := (l.take i).map (·.name))) Tryz.call94 .none rfl (.cons (.tmp rfl rfl) (.cons (.tmp rfl rfl) .nil)) (.cons (.p (.own rfl (by simp; omega)) rfl) (.cons (.same rfl) .nil)) rfl) ?_
     refine RK.nil (Ab.D.code ?_)
     refine OK.cond rfl rfl (fun c31 => ?_) (fun c31 => ?_)
     ·
      have hdu := hhn.symm.trans c31
      refine OK.seq (OK.reg ?_)
      refine RK.c (S.move .none rfl (.tmp rfl rfl)) ?_
      refine RK.c (S.assign .none rfl (.tmp rfl rfl)) ?_
      refine RK.c (S.assign .none rfl (.cint rfl)) ?_
      refine RK.nil (Ab.D.code ?_)
      refine OK.ret (Ret.r2 (.tmp rfl rfl (.c (.same rfl) rfl) rfl) (.tmp rfl rfl (.c (.same rfl) rfl) rfl) ?_)
      refine ret_p ?_
      rw [hjs, each_at hg (by omega) (job_dup (by simpa using c26) hdu) (by decide)]
     ·
      have hdn := hhn.symm.trans c31
      refine OK.skip ?_
      refine Ab.D.code (OK.seq (OK.seq (OK.reg ?_)))
      refine RK.c (S.bfield fi70_1 .none rfl (.tmp rfl rfl)) ?_
      refine RK.c (S.bload1 ti3 .none rfl (.tmp rfl rfl) rfl rfl rfl rfl) ?_
      refine RK.c (S.call (base_Within) Tryz.call34 .none rfl (.cons (.tmp rfl rfl) (.cons (.cint rfl) (.cons (.cint rfl) .nil))) rfl) ?_
      refine RK.c (S.notD .none rfl (.tmp rfl rfl)) ?_
      refine RK.c (S.move .none rfl (.tmp rfl rfl)) ?_
      refine RK.splitD (t := 37) rfl (fun g37 => ?_) (fun g37 => ?_)
      ·
       refine RK.c (S.skip rfl rfl rfl rfl rfl) ?_
       refine RK.c (S.skip rfl rfl rfl rfl rfl) ?_
       refine RK.c (S.skip rfl rfl rfl rfl rfl) ?_
       refine RK.c (S.skip rfl rfl rfl rfl rfl) ?_
       refine RK.c (S.pickT .none rfl (.tmp rfl rfl) .cbool rfl) ?_
       refine RK.c (S.move .none rfl (.tmp rfl rfl)) ?_
       refine RK.c (S.skip rfl rfl rfl rfl rfl) ?_
       refine RK.c (S.skip rfl rfl rfl rfl rfl) ?_
       refine RK.c (S.skip rfl rfl rfl rfl rfl) ?_
       refine RK.c (S.skip rfl rfl rfl rfl rfl) ?_
       refine RK.c (S.pickT .none rfl (.tmp rfl rfl) .cbool rfl) ?_
       refine RK.nil (Ab.D.code ?_)
       refine OK.condT rfl rfl rfl ?_
       refine OK.seq (OK.reg ?_)
       refine RK.c (S.move .none rfl (.tmp rfl rfl)) ?_
       refine RK.c (S.assign .none rfl (.tmp rfl rfl)) ?_
       refine RK.c (S.assign .none rfl (.cint rfl)) ?_
       refine RK.nil (Ab.D.code ?_)
       refine OK.ret (Ret.r2 (.tmp rfl rfl (.c (.same rfl) rfl) rfl) (.tmp rfl rfl (.c (.same rfl) rfl) rfl) ?_)
       refine ret_p ?_
       rw [hjs, each_at hg (by omega) (job_rng (by simpa using c26) hdn (by unfold rightJ; simp only [Bool.and_eq_false_iff, decide_eq_false_iff_not]; omega)) (by decide)]
      ·
       refine RK.c (S.bfield fi70_2 (.yes rfl rfl rfl rfl) rfl (.tmp rfl rfl)) ?_
       refine RK.c (S.bload1 ti3 (.yes rfl rfl rfl rfl) rfl (.tmp rfl rfl) rfl rfl rfl rfl) ?_
       refine RK.c (S.call (base_Within) Tryz.call34 (.yes rfl rfl rfl rfl) rfl (.cons (.tmp rfl rfl) (.cons (.cint rfl) (.cons (.cint rfl) .nil))) rfl) ?_
       refine RK.c (S.notD (.yes rfl rfl rfl rfl) rfl (.tmp rfl rfl)) ?_
       refine RK.c (S.pickF .none rfl (.tmp rfl rfl) (.tmp rfl rfl) rfl) ?_
       refine RK.c (S.move .none rfl (.tmp rfl rfl)) ?_
       refine RK.splitD (t := 43) rfl (fun g43 => ?_) (fun g43 => ?_)
       ·
        refine RK.c (S.skip rfl rfl rfl rfl rfl) ?_
        refine RK.c (S.skip rfl rfl rfl rfl rfl) ?_
        refine RK.c (S.skip rfl rfl rfl rfl rfl) ?_
        refine RK.c (S.skip rfl rfl rfl rfl rfl) ?_
        refine RK.c (S.pickT .none rfl (.tmp rfl rfl) .cbool rfl) ?_
        refine RK.nil (Ab.D.code ?_)
        refine OK.condT rfl rfl rfl ?_
        refine OK.seq (OK.reg ?_)
        refine RK.c (S.move .none rfl (.tmp rfl rfl)) ?_
        refine RK.c (S.assign .none rfl (.tmp rfl rfl)) ?_
        refine RK.c (S.assign .none rfl (.cint rfl)) ?_
        refine RK.nil (Ab.D.code ?_)
        refine OK.ret (Ret.r2 (.tmp rfl rfl (.c (.same rfl) rfl) rfl) (.tmp rfl rfl (.c (.same rfl) rfl) rfl) ?_)
        refine ret_p ?_
        rw [hjs, each_at hg (by omega) (job_rng (by simpa using c26) hdn (by unfold rightJ; simp only [Bool.and_eq_false_iff, decide_eq_false_iff_not]; omega)) (by decide)]
       ·
        refine RK.c (S.bfield fi70_3 (.yes rfl rfl rfl rfl) rfl (.tmp rfl rfl)) ?_
        refine RK.c (S.bload1 ti3 (.yes rfl rfl rfl rfl) rfl (.tmp rfl rfl) rfl rfl rfl rfl) ?_
        refine RK.c (S.call (ref9_isTicks) Tryz.call61 (.yes rfl rfl rfl rfl) rfl (.cons (.tmp rfl rfl) .nil) rfl) ?_
        refine RK.c (S.notD (.yes rfl rfl rfl rfl) rfl (.tmp rfl rfl)) ?_
        refine RK.c (S.pickF .none rfl (.tmp rfl rfl) (.tmp rfl rfl) rfl) ?_
        refine RK.nil (Ab.D.code ?_)
        refine OK.condD rfl rfl (fun c48 => ?_) (fun c48 => ?_)
        ·
         refine OK.seq (OK.reg ?_)
         refine RK.c (S.move .none rfl (.tmp rfl rfl)) ?_
         refine RK.c (S.assign .none rfl (.tmp rfl rfl)) ?_
         refine RK.c (S.assign .none rfl (.cint rfl)) ?_
         refine RK.nil (Ab.D.code ?_)
         refine OK.ret (Ret.r2 (.tmp rfl rfl (.c (.same rfl) rfl) rfl) (.tmp rfl rfl (.c (.same rfl) rfl) rfl) ?_)
         refine ret_p ?_
         rw [hjs, each_at hg (by omega) (job_rng (by simpa using c26) hdn (by unfold rightJ; simp only [Bool.and_eq_false_iff, decide_eq_false_iff_not]; omega)) (by decide)]
        ·
         refine OK.skip ?_
         refine Ab.D.code (OK.reg ?_)
         refine RK.c (S.move .none rfl (.tmp rfl rfl)) ?_
         refine RK.c (S.bfield fi70_0 .none rfl (.tmp rfl rfl)) ?_
         refine RK.c (S.bload1 ti9 .none rfl (.tmp rfl rfl) rfl rfl rfl rfl) ?_
         refine RK.c (S.mkSlice (k := 53) (rows := [[_]]) ai121 .none rfl (.cons (.tmp rfl rfl) .nil) rfl rfl rfl rfl rfl rfl rfl) ?_
         refine RK.c (S.append ai121 .none rfl (.tmp rfl rfl) rfl (by simp; omega) (.tmp rfl rfl) rfl (by first | rfl | (simp; done) | (simp; omega)) (by omega) (by simp only [maxLen]; omega)) ?_
         refine RK.c (S.assign .none rfl (.tmp rfl rfl)) ?_
         refine RK.nil ?_
         refine Ab.D.blk ?_
         refine Ab.D.code (OK.reg ?_)
         refine RK.c (S.move .none rfl (.tmp rfl rfl)) ?_
         refine RK.c (S.add .none rfl (.tmp rfl rfl) (.cint rfl) (IntWalk.i64_in _ (by omega)) (IntWalk.i64_in _ (by omega))) ?_
         refine RK.c (S.assign .none rfl (.tmp rfl rfl)) ?_
         refine RK.nil ?_
         refine Ab.D.lp ⟨i + 1, ⟨by omega, each_on hg (by omega) (job_fine (by simpa using c26) hdn (by unfold rightJ; simp only [Bool.and_eq_true, decide_eq_true_eq]; omega))⟩, (by omega), rfl, (lk_own (by omega)), (lk_arr (by rw [List.take_succ_eq_append_getElem (by omega), List.map_append, List.map_append]; rfl)), rfl, trivial⟩
   ·
    refine OK.exit rfl ?_
    refine Ab.D.code (OK.seq (OK.reg ?_))
    refine RK.c (S.assign .none rfl (.cint rfl)) ?_
    refine RK.c (S.assign .none rfl (.cint rfl)) ?_
    refine RK.nil (Ab.D.code ?_)
    refine OK.ret (Ret.r2 (.tmp rfl rfl (.c (.same rfl) rfl) rfl) (.tmp rfl rfl (.c (.same rfl) rfl) rfl) ?_)
    refine ret_p ?_
    rw [jobs_is (by omega), each_end hg (by omega)]
theorem ref9_JobsErr {l : List Job} : Ct Tryz.prog 26 [.sl (l.map Job.cs)] (.int .i64 (jobsChk l).2) := by
 refine Ct.intro (rs := [.tmp 2]) Tryz.func26 rfl Tryz.ntmps26 Tryz.results26 rfl rfl rfl fun w h => ?_
 refine OK.seq (OK.reg ?_)
 refine RK.c (S.assign .none rfl (.cint rfl)) ?_
 refine RK.nil (Ab.D.code (OK.seq (OK.reg ?_)))
 refine RK.c (S.move .none rfl (.tmp rfl rfl)) ?_
 refine RK.c (S.call (ref9_CheckJobs) Tryz.call60 .none rfl (.cons (.tmp rfl rfl) .nil) rfl) ?_
 refine RK.c (S.move .none rfl (.tmp rfl rfl)) ?_
 refine RK.c (S.extract .none rfl (.tmp rfl rfl) rfl rfl) ?_
 refine RK.c (S.extract .none rfl (.tmp rfl rfl) rfl rfl) ?_
 refine RK.c (S.assign .none rfl (.tmp rfl rfl)) ?_
 refine RK.c (S.assign .none rfl (.tmp rfl rfl)) ?_
 refine RK.nil (Ab.D.code (OK.seq (OK.reg ?_)))
 refine RK.c (S.move .none rfl (.tmp rfl rfl)) ?_
 refine RK.c (S.assign .none rfl (.tmp rfl rfl)) ?_
 refine RK.nil (Ab.D.code ?_)
 refine OK.ret (Ret.r1 (.tmp rfl rfl (.c (.same rfl) rfl) rfl) ?_)
 rfl
theorem ref9_CheckChanges {c : Changes} : Ct Tryz.prog 27 [.agg c.cs] (pair (chgChk c)) := by
 refine Ct.intro (rs := [.tmp 2, .tmp 3]) Tryz.func27 rfl Tryz.ntmps27 Tryz.results27 rfl rfl rfl fun w h => ?_
 refine OK.aggLen 0 1 (c.ticks.map fun l => [.sl (l.map fun n => [.int .i64 n])]) rfl rfl rfl fun hlen => ?_
 rw [List.length_map] at hlen
 unfold maxLen at hlen
 refine OK.seq (OK.reg ?_)
 refine RK.c (S.box (k := 1) rfl .none rfl (.tmp rfl rfl) rfl) ?_
 refine RK.c (S.assign .none rfl (.cint rfl)) ?_
 refine RK.c (S.assign .none rfl (.cint rfl)) ?_
 refine RK.nil (Ab.D.code (OK.seq (OK.seq (OK.reg ?_))))
 refine RK.c (S.bfield fi25_1 .none rfl (.tmp rfl rfl)) ?_
 refine RK.c (S.bload1 ti23 .none rfl (.tmp rfl rfl) rfl rfl rfl rfl) ?_
 refine RK.c (S.lenM si23 .none rfl (.tmp rfl rfl)) ?_
 refine RK.c (S.eql .none rfl (.tmp rfl rfl) (.cint rfl)) ?_
 refine RK.nil (Ab.D.code ?_)
 refine OK.condD rfl rfl (fun c9 => ?_) (fun c9 => ?_)
 ·
  refine OK.seq (OK.reg ?_)
  refine RK.c (S.assign .none rfl (.cint rfl)) ?_
  refine RK.c (S.assign .none rfl (.cint rfl)) ?_
  refine RK.nil (Ab.D.code ?_)
  refine OK.ret (Ret.r2 (.tmp rfl rfl (.c (.same rfl) rfl) rfl) (.tmp rfl rfl (.c (.same rfl) rfl) rfl) ?_)
  refine ret_p ?_
  rw [chgChk, if_pos (by omega)]
 ·
  refine OK.skip ?_
  refine Ab.D.code (OK.seq (OK.seq (OK.reg ?_)))
  refine RK.c (S.bfield fi25_1 .none rfl (.tmp rfl rfl)) ?_
  refine RK.c (S.bload1 ti23 .none rfl (.tmp rfl rfl) rfl rfl rfl rfl) ?_
  refine RK.c (S.lenM si23 .none rfl (.tmp rfl rfl)) ?_
  refine RK.c (S.gtr .none rfl (.tmp rfl rfl) (.cint rfl)) ?_
  refine RK.nil (Ab.D.code ?_)
  refine OK.condD rfl rfl (fun c13 => ?_) (fun c13 => ?_)
  ·
   refine OK.seq (OK.reg ?_)
   refine RK.c (S.assign .none rfl (.cint rfl)) ?_
   refine RK.c (S.assign .none rfl (.cint rfl)) ?_
   refine RK.nil (Ab.D.code ?_)
   refine OK.ret (Ret.r2 (.tmp rfl rfl (.c (.same rfl) rfl) rfl) (.tmp rfl rfl (.c (.same rfl) rfl) rfl) ?_)
   refine ret_p ?_
   rw [chgChk, if_neg (by omega), if_pos (by omega)]
  ·
   refine OK.skip ?_
   refine Ab.D.code (OK.seq (OK.seq (OK.reg ?_)))
   refine RK.c (S.assign .none rfl (.cint rfl)) ?_
   refine RK.nil (Ab.D.code ?_)
   refine OK.block ?_
   refine OK.loop (G := Nat) [1] (fun i => [(1, .ptr 1 0), (1001, .box c.cs), (4, .int .i64 i)]) (fun i => i ≤ c.ticks.length ∧ eachGo (rowE c.ticks.length) 0 c.ticks = eachGo (rowE c.ticks.length) i (c.ticks.drop i)) (fun i => c.ticks.length - i) 0 ⟨Nat.zero_le _, rfl⟩ ⟨rfl, rfl, rfl, trivial⟩ (fun _ => rfl) ?_
   rintro i ⟨hi, hg⟩
   refine OK.seq (OK.seq (OK.reg ?_))
   refine RK.c (S.move .none rfl (.tmp rfl rfl)) ?_
   refine RK.c (S.bfield fi25_1 .none rfl (.tmp rfl rfl)) ?_
   refine RK.c (S.bload1 ti23 .none rfl (.tmp rfl rfl) rfl rfl rfl rfl) ?_
   refine RK.c (S.lenM si23 .none rfl (.tmp rfl rfl)) ?_
   refine RK.c (S.lss .none rfl (.tmp rfl rfl) (.tmp rfl rfl)) ?_
   refine RK.nil (Ab.D.code ?_)
   refine OK.condD rfl rfl (fun c18 => ?_) (fun c18 => ?_)
   ·
    have hcl : 1 ≤ c.ticks.length ∧ c.ticks.length ≤ 5 := by omega
    refine OK.skip ?_
    refine Ab.D.code ?_
    refine OK.seq ?_
    refine OK.block ?_
    refine OK.seq ?_
    refine OK.seq ?_
    refine OK.regionDraw follows (.c (S.bfield fi25_1 .none rfl (.tmp rfl rfl))
     (.c (S.bload1 ti23 .none rfl (.tmp rfl rfl) rfl rfl rfl rfl)
     (.c (S.move .none rfl (.tmp rfl rfl))
     (.c (S.indexM (n := i) si23 .none rfl (.tmp rfl rfl) (.tmp rfl rfl) rfl (by omega) rfl)
     (.c (S.load1 ti26 .none rfl (.tmp rfl rfl) rfl)
     (.c (S.lenM si26 .none rfl (.tmp rfl rfl))
     (.c (S.bfield fi25_1 .none rfl (.tmp rfl rfl))
     (.c (S.bload1 ti23 .none rfl (.tmp rfl rfl) rfl rfl rfl rfl)
     (.c (S.lenM si23 .none rfl (.tmp rfl rfl))
     (.c (S.neq .none rfl (.tmp rfl rfl) (.tmp rfl rfl))
     .nil)))))))))) (by kernel_rfl) ?_
    refine Ab.D.code ?_
    refine OK.condD rfl rfl (fun c30 => ?_) (fun c30 => ?_)
    ·
     refine OK.seq (OK.reg ?_)
     refine RK.c (S.move .none rfl (.tmp rfl rfl)) ?_
     refine RK.c (S.assign .none rfl (.tmp rfl rfl)) ?_
     refine RK.c (S.assign .none rfl (.cint rfl)) ?_
     refine RK.nil (Ab.D.code ?_)
     refine OK.ret (Ret.r2 (.tmp rfl rfl (.c (.same rfl) rfl) rfl) (.tmp rfl rfl (.c (.same rfl) rfl) rfl) ?_)
     refine ret_p ?_
     rw [chg_is hcl (each_at hg (by omega) (row_10 (by omega)) (by decide)) (by decide)]
    ·
     have hrl : c.ticks[i].length = c.ticks.length := by omega
     refine OK.skip ?_
     refine Ab.D.code (OK.seq (OK.reg ?_))
     refine RK.c (S.assign .none rfl (.cint rfl)) ?_
     refine RK.nil (Ab.D.code ?_)
     refine OK.block ?_
     refine OK.loop (G := Nat) [1] (fun k => [(1, .ptr 1 0), (1001, .box c.cs), (4, .int .i64 i), (5, .int .i64 k)]) (fun k => k ≤ c.ticks[i].length ∧ eachGo (cellE i) 0 c.ticks[i] = eachGo (cellE i) k (c.ticks[i].drop k)) (fun k => c.ticks[i].length - k) 0 ⟨Nat.zero_le _, rfl⟩ ⟨rfl, rfl, rfl, rfl, trivial⟩ (fun _ => rfl) ?_
     rintro k ⟨hk, hg2⟩
     refine OK.seq (OK.seq (OK.reg ?_))
     refine RK.c (S.move .none rfl (.tmp rfl rfl)) ?_
     refine RK.c (S.bfield fi25_1 .none rfl (.tmp rfl rfl)) ?_
     refine RK.c (S.bload1 ti23 .none rfl (.tmp rfl rfl) rfl rfl rfl rfl) ?_
     refine RK.c (S.lenM si23 .none rfl (.tmp rfl rfl)) ?_
     refine RK.c (S.lss .none rfl (.tmp rfl rfl) (.tmp rfl rfl)) ?_
     refine RK.nil (Ab.D.code ?_)
     refine OK.condD rfl rfl (fun c36 => ?_) (fun c36 => ?_)
     ·
      refine OK.skip ?_
      refine Ab.D.code ?_
      refine OK.seq ?_
      refine OK.block ?_
      refine OK.seq (OK.seq (OK.reg ?_))
      refine RK.c (S.bfield fi25_1 .none rfl (.tmp rfl rfl)) ?_
      refine RK.c (S.bload1 ti23 .none rfl (.tmp rfl rfl) rfl rfl rfl rfl) ?_
      refine RK.c (S.move .none rfl (.tmp rfl rfl)) ?_
      refine RK.c (S.indexM (n := i) si23 .none rfl (.tmp rfl rfl) (.tmp rfl rfl) rfl (by omega) rfl) ?_
      refine RK.c (S.load1 ti26 .none rfl (.tmp rfl rfl) rfl) ?_
      refine RK.c (S.move .none rfl (.tmp rfl rfl)) ?_
      refine RK.c (S.indexM (n := k) si26 .none rfl (.tmp rfl rfl) (.tmp rfl rfl) rfl (by omega) rfl) ?_
      refine RK.c (S.load1 ti3 .none rfl (.tmp rfl rfl) rfl) ?_
      refine RK.c (S.call (ref9_isTicks) Tryz.call61 .none rfl (.cons (.tmp rfl rfl) .nil) rfl) ?_
      refine RK.c (S.notD .none rfl (.tmp rfl rfl)) ?_
      refine RK.nil (Ab.D.code ?_)
      refine OK.condD rfl rfl (fun c48 => ?_) (fun c48 => ?_)
      ·
       refine OK.seq (OK.reg ?_)
       refine RK.c (S.move .none rfl (.tmp rfl rfl)) ?_
       refine RK.c (S.assign .none rfl (.tmp rfl rfl)) ?_
       refine RK.c (S.assign .none rfl (.cint rfl)) ?_
       refine RK.nil (Ab.D.code ?_)
       refine OK.ret (Ret.r2 (.tmp rfl rfl (.c (.same rfl) rfl) rfl) (.tmp rfl rfl (.c (.same rfl) rfl) rfl) ?_)
       refine ret_p ?_
       rw [chg_is hcl (each_at hg (by omega) (row_at hrl (each_at hg2 (by omega) (cell_2 (by omega)) (by decide))) (by decide)) (by decide)]
      ·
       refine OK.skip ?_
       refine Ab.D.code (OK.seq (OK.reg ?_))
       refine RK.c (S.move .none rfl (.tmp rfl rfl)) ?_
       refine RK.c (S.move .none rfl (.tmp rfl rfl)) ?_
       refine RK.c (S.eql .none rfl (.tmp rfl rfl) (.tmp rfl rfl)) ?_
       refine RK.c (S.move .none rfl (.tmp rfl rfl)) ?_
       refine RK.splitD (t := 53) rfl (fun g53 => ?_) (fun g53 => ?_)
       ·
        refine RK.c (S.bfield fi25_1 (.yes rfl rfl rfl rfl) rfl (.tmp rfl rfl)) ?_
        refine RK.c (S.bload1 ti23 (.yes rfl rfl rfl rfl) rfl (.tmp rfl rfl) rfl rfl rfl rfl) ?_
        refine RK.c (S.move (.yes rfl rfl rfl rfl) rfl (.tmp rfl rfl)) ?_
        refine RK.c (S.indexM (n := i) si23 (.yes rfl rfl rfl rfl) rfl (.tmp rfl rfl) (.tmp rfl rfl) rfl (by omega) rfl) ?_
        refine RK.c (S.load1 ti26 (.yes rfl rfl rfl rfl) rfl (.tmp rfl rfl) rfl) ?_
        refine RK.c (S.move (.yes rfl rfl rfl rfl) rfl (.tmp rfl rfl)) ?_
        refine RK.c (S.indexM (n := k) si26 (.yes rfl rfl rfl rfl) rfl (.tmp rfl rfl) (.tmp rfl rfl) rfl (by omega) rfl) ?_
        refine RK.c (S.load1 ti3 (.yes rfl rfl rfl rfl) rfl (.tmp rfl rfl) rfl) ?_
        refine RK.c (S.neq (.yes rfl rfl rfl rfl) rfl (.tmp rfl rfl) (.cint rfl)) ?_
        refine RK.c (S.pickT .none rfl (.tmp rfl rfl) (.tmp rfl rfl) rfl) ?_
        refine RK.nil (Ab.D.code ?_)
        refine OK.condD rfl rfl (fun c63 => ?_) (fun c63 => ?_)
        ·
         refine OK.seq (OK.reg ?_)
         refine RK.c (S.move .none rfl (.tmp rfl rfl)) ?_
         refine RK.c (S.assign .none rfl (.tmp rfl rfl)) ?_
         refine RK.c (S.assign .none rfl (.cint rfl)) ?_
         refine RK.nil (Ab.D.code ?_)
         refine OK.ret (Ret.r2 (.tmp rfl rfl (.c (.same rfl) rfl) rfl) (.tmp rfl rfl (.c (.same rfl) rfl) rfl) ?_)
         refine ret_p ?_
         rw [chg_is hcl (each_at hg (by omega) (row_at hrl (each_at hg2 (by omega) (cell_3 (by omega) (by omega) (by omega)) (by decide))) (by decide)) (by decide)]
        ·
         refine OK.skip ?_
         refine Ab.D.blk ?_
         refine Ab.D.code (OK.reg ?_)
         refine RK.c (S.move .none rfl (.tmp rfl rfl)) ?_
         refine RK.c (S.add .none rfl (.tmp rfl rfl) (.cint rfl) (IntWalk.i64_in _ (by omega)) (IntWalk.i64_in _ (by omega))) ?_
         refine RK.c (S.assign .none rfl (.tmp rfl rfl)) ?_
         refine RK.nil ?_
         refine Ab.D.lp ⟨k + 1, ⟨by omega, each_on hg2 (by omega) (cell_0 (by omega) (by omega))⟩, (by omega), rfl, rfl, rfl, rfl, trivial⟩
       ·
        refine RK.c (S.skip rfl rfl rfl rfl rfl) ?_
        refine RK.c (S.skip rfl rfl rfl rfl rfl) ?_
        refine RK.c (S.skip rfl rfl rfl rfl rfl) ?_
        refine RK.c (S.skip rfl rfl rfl rfl rfl) ?_
        refine RK.c (S.skip rfl rfl rfl rfl rfl) ?_
        refine RK.c (S.skip rfl rfl rfl rfl rfl) ?_
        refine RK.c (S.skip rfl rfl rfl rfl rfl) ?_
        refine RK.c (S.skip rfl rfl rfl rfl rfl) ?_
        refine RK.c (S.skip rfl rfl rfl rfl rfl) ?_
        refine RK.c (S.pickF .none rfl (.tmp rfl rfl) .cbool rfl) ?_
        refine RK.nil (Ab.D.code ?_)
        refine OK.condF rfl rfl rfl ?_
        refine OK.skip ?_
        refine Ab.D.blk ?_
        refine Ab.D.code (OK.reg ?_)
        refine RK.c (S.move .none rfl (.tmp rfl rfl)) ?_
        refine RK.c (S.add .none rfl (.tmp rfl rfl) (.cint rfl) (IntWalk.i64_in _ (by omega)) (IntWalk.i64_in _ (by omega))) ?_
        refine RK.c (S.assign .none rfl (.tmp rfl rfl)) ?_
        refine RK.nil ?_
        refine Ab.D.lp ⟨k + 1, ⟨by omega, each_on hg2 (by omega) (cell_0 (by omega) (by omega))⟩, (by omega), rfl, rfl, rfl, rfl, trivial⟩
     ·
      refine OK.exit rfl ?_
      refine Ab.D.blk ?_
      refine Ab.D.code (OK.reg ?_)
      refine RK.c (S.move .none rfl (.tmp rfl rfl)) ?_
      refine RK.c (S.add .none rfl (.tmp rfl rfl) (.cint rfl) (IntWalk.i64_in _ (by omega)) (IntWalk.i64_in _ (by omega))) ?_
      refine RK.c (S.assign .none rfl (.tmp rfl rfl)) ?_
      refine RK.nil ?_
      refine Ab.D.lp ⟨i + 1, ⟨by omega, each_on hg (by omega) (row_0 hrl (each_end hg2 (by omega)))⟩, (by omega), rfl, rfl, rfl, trivial⟩
   ·
    have hce := chg_end (c := c) (by omega) (each_end hg (by omega))
    refine OK.exit rfl ?_
    refine Ab.D.code (OK.seq (OK.seq (OK.reg ?_)))
    refine RK.c (S.bfield fi25_0 .none rfl (.tmp rfl rfl)) ?_
    refine RK.c (S.bload1 ti3 .none rfl (.tmp rfl rfl) rfl rfl rfl rfl) ?_
    refine RK.c (S.bfield fi25_1 .none rfl (.tmp rfl rfl)) ?_
    refine RK.c (S.bload1 ti23 .none rfl (.tmp rfl rfl) rfl rfl rfl rfl) ?_
    refine RK.c (S.lenM si23 .none rfl (.tmp rfl rfl)) ?_
    refine RK.c (S.sub .none rfl (.tmp rfl rfl) (.cint rfl) (IntWalk.i64_in _ (by omega)) (IntWalk.i64_in _ (by omega))) ?_
    refine RK.c (S.call (base_Within) Tryz.call34 .none rfl (.cons (.tmp rfl rfl) (.cons (.cint rfl) (.cons (.tmp rfl rfl) .nil))) rfl) ?_
    refine RK.c (S.notD .none rfl (.tmp rfl rfl)) ?_
    refine RK.nil (Ab.D.code ?_)
    refine OK.condD rfl rfl (fun c72 => ?_) (fun c72 => ?_)
    ·
     refine OK.seq (OK.reg ?_)
     refine RK.c (S.assign .none rfl (.cint rfl)) ?_
     refine RK.c (S.assign .none rfl (.cint rfl)) ?_
     refine RK.nil (Ab.D.code ?_)
     refine OK.ret (Ret.r2 (.tmp rfl rfl (.c (.same rfl) rfl) rfl) (.tmp rfl rfl (.c (.same rfl) rfl) rfl) ?_)
     refine ret_p ?_
     rw [hce, if_neg (by omega)]
    ·
     refine OK.skip ?_
     refine Ab.D.code (OK.seq (OK.reg ?_))
     refine RK.c (S.assign .none rfl (.cint rfl)) ?_
     refine RK.c (S.assign .none rfl (.cint rfl)) ?_
     refine RK.nil (Ab.D.code ?_)
     refine OK.ret (Ret.r2 (.tmp rfl rfl (.c (.same rfl) rfl) rfl) (.tmp rfl rfl (.c (.same rfl) rfl) rfl) ?_)
     refine ret_p ?_
     rw [hce, if_pos (by omega)]
theorem ref9_BothErr {l : List Job} {c : Changes} : Ct Tryz.prog 7 [.sl (l.map Job.cs), .agg c.cs] (.int .i64 (bothE l c)) := by
 refine Ct.intro (rs := [.tmp 4]) Tryz.func7 rfl Tryz.ntmps7 Tryz.results7 rfl rfl rfl fun w h => ?_
 refine OK.slLen (rows := l.map Job.cs) (t := 0) rfl rfl fun hlen => ?_
 rw [List.length_map] at hlen
 unfold maxLen at hlen
 refine OK.aggLen 1 1 (c.ticks.map fun l => [.sl (l.map fun n => [.int .i64 n])]) rfl rfl rfl fun hlen2 => ?_
 refine OK.seq (OK.reg ?_)
 refine RK.c (S.box (k := 3) rfl .none rfl (.tmp rfl rfl) rfl) ?_
 refine RK.c (S.assign .none rfl (.cint rfl)) ?_
 refine RK.nil (Ab.D.code (OK.seq (OK.seq (OK.reg ?_))))
 refine RK.c (S.move .none rfl (.tmp rfl rfl)) ?_
 refine RK.c (S.call (ref9_JobsErr) Tryz.call26 .none rfl (.cons (.tmp rfl rfl) .nil) rfl) ?_
 refine RK.c (S.assign .none rfl (.tmp rfl rfl)) ?_
 refine RK.nil (Ab.D.code (OK.seq (OK.reg ?_)))
 refine RK.c (S.move .none rfl (.tmp rfl rfl)) ?_
 refine RK.c (S.neq .none rfl (.tmp rfl rfl) (.cint rfl)) ?_
 refine RK.nil (Ab.D.code ?_)
 refine OK.condD rfl rfl (fun c12 => ?_) (fun c12 => ?_)
 ·
  refine OK.seq (OK.reg ?_)
  refine RK.c (S.move .none rfl (.tmp rfl rfl)) ?_
  refine RK.c (S.assign .none rfl (.tmp rfl rfl)) ?_
  refine RK.nil (Ab.D.code ?_)
  refine OK.ret (Ret.r1 (.tmp rfl rfl (.c (.same rfl) rfl) rfl) ?_)
  refine ret_i ?_
  rw [bothE, if_pos (by omega)]
 ·
  refine OK.skip ?_
  refine Ab.D.code (OK.seq (OK.seq (OK.reg ?_)))
  refine RK.c (S.bloadN ti25 .none rfl (.tmp rfl rfl) rfl rfl rfl rfl) ?_
  refine RK.c (S.call (ref9_CheckChanges) Tryz.call27 .none rfl (.cons (.tmp rfl rfl) .nil) rfl) ?_
  refine RK.c (S.move .none rfl (.tmp rfl rfl)) ?_
  refine RK.c (S.extract .none rfl (.tmp rfl rfl) rfl rfl) ?_
  refine RK.c (S.extract .none rfl (.tmp rfl rfl) rfl rfl) ?_
  refine RK.c (S.assign .none rfl (.tmp rfl rfl)) ?_
  refine RK.c (S.assign .none rfl (.tmp rfl rfl)) ?_
  refine RK.nil (Ab.D.code (OK.seq (OK.reg ?_)))
  refine RK.c (S.move .none rfl (.tmp rfl rfl)) ?_
  refine RK.c (S.neq .none rfl (.tmp rfl rfl) (.cint rfl)) ?_
  refine RK.nil (Ab.D.code ?_)
  refine OK.condD rfl rfl (fun c20 => ?_) (fun c20 => ?_)
  ·
   refine OK.seq (OK.reg ?_)
   refine RK.c (S.move .none rfl (.tmp rfl rfl)) ?_
   refine RK.c (S.assign .none rfl (.tmp rfl rfl)) ?_
   refine RK.nil (Ab.D.code ?_)
   refine OK.ret (Ret.r1 (.tmp rfl rfl (.c (.same rfl) rfl) rfl) ?_)
   refine ret_i ?_
   rw [bothE, if_neg (by omega), if_pos (by omega)]
  ·
   refine OK.skip ?_
   refine Ab.D.code (OK.seq (OK.seq (OK.reg ?_)))
   refine RK.c (S.assign .none rfl (.cint rfl)) ?_
   refine RK.nil (Ab.D.code ?_)
   refine OK.block ?_
   refine OK.loop (G := Nat) [3] (fun i => [(0, .sl (l.map Job.cs)), (3, .ptr 3 0), (1003, .box c.cs), (8, .int .i64 i)]) (fun i => i ≤ l.length ∧ strange l c = strange (l.drop i) c) (fun i => l.length - i) 0 ⟨Nat.zero_le _, rfl⟩ ⟨rfl, rfl, rfl, rfl, trivial⟩ (fun _ => rfl) ?_
   rintro i ⟨hi, hg⟩
   refine OK.seq (OK.seq (OK.reg ?_))
   refine RK.c (S.move .none rfl (.tmp rfl rfl)) ?_
   refine RK.c (S.move .none rfl (.tmp rfl rfl)) ?_
   refine RK.c (S.lenM si22 .none rfl (.tmp rfl rfl)) ?_
   refine RK.c (S.lss .none rfl (.tmp rfl rfl) (.tmp rfl rfl)) ?_
   refine RK.nil (Ab.D.code ?_)
   refine OK.condD rfl rfl (fun c25 => ?_) (fun c25 => ?_)
   ·
    refine OK.skip ?_
    refine Ab.D.code ?_
    refine OK.seq ?_
    refine OK.block ?_
    refine OK.seq ?_
    refine OK.regionDraw follows (.c (S.move .none rfl (.tmp rfl rfl))
     (.c (S.move .none rfl (.tmp rfl rfl))
     (.c (S.indexM (n := i) si22 .none rfl (.tmp rfl rfl) (.tmp rfl rfl) rfl (by omega) rfl)
     (.c (S.field fi70_1 .none rfl (.tmp rfl rfl) rfl)
     (.c (S.load1 ti3 .none rfl (.tmp rfl rfl) rfl)
     (.c (S.bfield fi25_1 .none rfl (.tmp rfl rfl))
     (.c (S.bload1 ti23 .none rfl (.tmp rfl rfl) rfl rfl rfl rfl)
     (.c (S.lenM si23 .none rfl (.tmp rfl rfl))
     (.c (S.geq .none rfl (.tmp rfl rfl) (.tmp rfl rfl))
     .nil))))))))) (by kernel_rfl) ?_
    refine Ab.D.code ?_
    refine OK.condD rfl rfl (fun c36 => ?_) (fun c36 => ?_)
    ·
     refine OK.seq (OK.reg ?_)
     refine RK.c (S.assign .none rfl (.cint rfl)) ?_
     refine RK.nil (Ab.D.code ?_)
     refine OK.ret (Ret.r1 (.tmp rfl rfl (.c (.same rfl) rfl) rfl) ?_)
     refine ret_i ?_
     rw [bothE, if_neg (by omega), if_neg (by omega), hg]
     unfold strange
     rw [any_dropG _ (show i < l.length by omega), decide_eq_true (by omega)]
     rfl
    ·
     refine OK.skip ?_
     refine Ab.D.blk ?_
     refine Ab.D.code (OK.reg ?_)
     refine RK.c (S.move .none rfl (.tmp rfl rfl)) ?_
     refine RK.c (S.add .none rfl (.tmp rfl rfl) (.cint rfl) (IntWalk.i64_in _ (by omega)) (IntWalk.i64_in _ (by omega))) ?_
     refine RK.c (S.assign .none rfl (.tmp rfl rfl)) ?_
     refine RK.nil ?_
     refine Ab.D.lp ⟨i + 1, ⟨by omega, ?_⟩, (by omega), rfl, rfl, rfl, rfl, trivial⟩
     rw [hg]
     unfold strange
     rw [any_dropG _ (by omega), decide_eq_false (by omega), Bool.false_or]
   ·
    refine OK.exit rfl ?_
    refine Ab.D.code (OK.seq (OK.reg ?_))
    refine RK.c (S.assign .none rfl (.cint rfl)) ?_
    refine RK.nil (Ab.D.code ?_)
    refine OK.ret (Ret.r1 (.tmp rfl rfl (.c (.same rfl) rfl) rfl) ?_)
    refine ret_i ?_
    rw [bothE, if_neg (by omega), if_neg (by omega), hg, show i = l.length by omega, List.drop_length]
    rfl
theorem ref9_OrderErr {l : List Job} {o : List Int} : Ct Tryz.prog 11 [.sl (l.map Job.cs), .sl (o.map (fun n => [.int .i64 n]))] (.int .i64 (orderE l.length o)) := by
 refine Ct.intro (rs := [.tmp 4]) Tryz.func11 rfl Tryz.ntmps11 Tryz.results11 rfl rfl rfl fun w h => ?_
 refine OK.slLen (rows := l.map Job.cs) (t := 0) rfl rfl fun hlen => ?_
 rw [List.length_map] at hlen
 unfold maxLen at hlen
 refine OK.slLen (rows := o.map (fun n => [.int .i64 n])) (t := 1) rfl rfl fun hlen2 => ?_
 rw [List.length_map] at hlen2
 unfold maxLen at hlen2
 refine OK.seq (OK.reg ?_)
 refine RK.c (S.assign .none rfl (.cint rfl)) ?_
 refine RK.nil (Ab.D.code (OK.seq (OK.seq (OK.reg ?_))))
 refine RK.c (S.move .none rfl (.tmp rfl rfl)) ?_
 refine RK.c (S.lenM si26 .none rfl (.tmp rfl rfl)) ?_
 refine RK.c (S.move .none rfl (.tmp rfl rfl)) ?_
 refine RK.c (S.lenM si22 .none rfl (.tmp rfl rfl)) ?_
 refine RK.c (S.neq .none rfl (.tmp rfl rfl) (.tmp rfl rfl)) ?_
 refine RK.nil (Ab.D.code ?_)
 refine OK.condD rfl rfl (fun c10 => ?_) (fun c10 => ?_)
 ·
  refine OK.seq (OK.reg ?_)
  refine RK.c (S.assign .none rfl (.cint rfl)) ?_
  refine RK.nil (Ab.D.code ?_)
  refine OK.ret (Ret.r1 (.tmp rfl rfl (.c (.same rfl) rfl) rfl) ?_)
  refine ret_i ?_
  rw [orderE, if_pos (by omega)]
 ·
  refine OK.skip ?_
  refine Ab.D.code (OK.seq (OK.seq (OK.reg ?_)))
  refine RK.c (S.assign .none rfl (.cint rfl)) ?_
  refine RK.nil (Ab.D.code ?_)
  refine OK.block ?_
  refine OK.loop (G := Nat) [] (fun i => [(0, .sl (l.map Job.cs)), (1, .sl (o.map (fun n => [.int .i64 n]))), (5, .int .i64 i)]) (fun i => i ≤ o.length ∧ eachGo (ordE l.length o) 0 o = eachGo (ordE l.length o) i (o.drop i)) (fun i => o.length - i) 0 ⟨Nat.zero_le _, rfl⟩ ⟨rfl, rfl, rfl, trivial⟩ (fun _ => rfl) ?_
  rintro i ⟨hi, hg⟩
  refine OK.seq (OK.seq (OK.reg ?_))
  refine RK.c (S.move .none rfl (.tmp rfl rfl)) ?_
  refine RK.c (S.move .none rfl (.tmp rfl rfl)) ?_
  refine RK.c (S.lenM si26 .none rfl (.tmp rfl rfl)) ?_
  refine RK.c (S.lss .none rfl (.tmp rfl rfl) (.tmp rfl rfl)) ?_
  refine RK.nil (Ab.D.code ?_)
  refine OK.condD rfl rfl (fun c14 => ?_) (fun c14 => ?_)
  ·
   have hhi := hasI_any (o.take i) o[i]
   refine OK.skip ?_
   refine Ab.D.code ?_
   refine OK.seq ?_
   refine OK.block ?_
   refine OK.seq (OK.seq (OK.reg ?_))
   refine RK.c (S.move .none rfl (.tmp rfl rfl)) ?_
   refine RK.c (S.move .none rfl (.tmp rfl rfl)) ?_
   refine RK.c (S.indexM (n := i) si26 .none rfl (.tmp rfl rfl) (.tmp rfl rfl) rfl (by omega) rfl) ?_
   refine RK.c (S.load1 ti3 .none rfl (.tmp rfl rfl) rfl) ?_
   refine RK.c (S.move .none rfl (.tmp rfl rfl)) ?_
   refine RK.c (S.lenM si22 .none rfl (.tmp rfl rfl)) ?_
   refine RK.c (S.sub .none rfl (.tmp rfl rfl) (.cint rfl) (IntWalk.i64_in _ (by omega)) (IntWalk.i64_in _ (by omega))) ?_
   refine RK.c (S.call (base_Within) Tryz.call34 .none rfl (.cons (.tmp rfl rfl) (.cons (.cint rfl) (.cons (.tmp rfl rfl) .nil))) rfl) ?_
   refine RK.c (S.notD .none rfl (.tmp rfl rfl)) ?_
   refine RK.nil (Ab.D.code ?_)
   refine OK.condD rfl rfl (fun c25 => ?_) (fun c25 => ?_)
   ·
    refine OK.seq (OK.reg ?_)
    refine RK.c (S.assign .none rfl (.cint rfl)) ?_
    refine RK.nil (Ab.D.code ?_)
    refine OK.ret (Ret.r1 (.tmp rfl rfl (.c (.same rfl) rfl) rfl) ?_)
    refine ret_i ?_
    rw [order_is (by omega) (each_at hg (by omega) (ord_6 (by omega)) (by decide))]
   ·
    refine OK.skip ?_
    refine Ab.D.code ?_
    refine OK.seq ?_
    refine OK.regionDraw follows (.c (S.move .none rfl (.tmp rfl rfl))
     (.c (S.move .none rfl (.tmp rfl rfl))
     (.c (S.slice (hi := i) (l' := o.take i) si26 (fun _ => rfl) .none rfl (.tmp rfl rfl) (.inl ⟨rfl, rfl, rfl⟩) (.inr ⟨_, _, rfl, (.tmp rfl rfl), rfl⟩) (Nat.zero_le _) (by omega) rfl)
     (.c (S.move .none rfl (.tmp rfl rfl))
     (.c (S.move .none rfl (.tmp rfl rfl))
     (.c (S.indexM (n := i) si26 .none rfl (.tmp rfl rfl) (.tmp rfl rfl) rfl (by omega) rfl)
     (.c (S.load1 ti3 .none rfl (.tmp rfl rfl) rfl)
     (.c (S.call (base_Has (l := o.take i)) Tryz.call35 .none rfl (.cons (.tmp rfl rfl) (.cons (.tmp rfl rfl) .nil)) rfl)
     .nil)))))))) (by kernel_rfl) ?_
    refine Ab.D.code ?_
    refine OK.cond rfl rfl (fun c33 => ?_) (fun c33 => ?_)
    ·
     refine OK.seq (OK.reg ?_)
     refine RK.c (S.assign .none rfl (.cint rfl)) ?_
     refine RK.nil (Ab.D.code ?_)
     refine OK.ret (Ret.r1 (.tmp rfl rfl (.c (.same rfl) rfl) rfl) ?_)
     refine ret_i ?_
     rw [order_is (by omega) (each_at hg (by omega) (ord_23 (by omega) (hhi.symm.trans c33)) (by decide))]
    ·
     refine OK.skip ?_
     refine Ab.D.blk ?_
     refine Ab.D.code (OK.reg ?_)
     refine RK.c (S.move .none rfl (.tmp rfl rfl)) ?_
     refine RK.c (S.add .none rfl (.tmp rfl rfl) (.cint rfl) (IntWalk.i64_in _ (by omega)) (IntWalk.i64_in _ (by omega))) ?_
     refine RK.c (S.assign .none rfl (.tmp rfl rfl)) ?_
     refine RK.nil ?_
     refine Ab.D.lp ⟨i + 1, ⟨by omega, each_on hg (by omega) (ord_0 (by omega) (hhi.symm.trans c33))⟩, (by omega), rfl, rfl, rfl, trivial⟩
  ·
   refine OK.exit rfl ?_
   refine Ab.D.code (OK.seq (OK.reg ?_))
   refine RK.c (S.assign .none rfl (.cint rfl)) ?_
   refine RK.nil (Ab.D.code ?_)
   refine OK.ret (Ret.r1 (.tmp rfl rfl (.c (.same rfl) rfl) rfl) ?_)
   refine ret_i ?_
   rw [order_end (by omega) (each_end hg (by omega))]
theorem shp_orderErr {l : List Job} {c : Changes} {o : List Int} : Ct Tryz.prog 37 [.agg (lineCs l c), .sl (o.map (fun n => [.int .i64 n]))] (.int .i64 (orderE l.length o)) := by
 refine Ct.intro (rs := [.tmp 4]) Tryz.func37 rfl Tryz.ntmps37 Tryz.results37 rfl rfl rfl fun w h => ?_
 refine OK.aggLen 0 0 (l.map Job.cs) rfl rfl rfl fun hlen => ?_
 rw [List.length_map] at hlen
 unfold maxLen at hlen
 refine OK.slLen (rows := o.map (fun n => [.int .i64 n])) (t := 1) rfl rfl fun hlen2 => ?_
 rw [List.length_map] at hlen2
 unfold maxLen at hlen2
 refine OK.seq (OK.reg ?_)
 refine RK.c (S.box (k := 2) rfl .none rfl (.tmp rfl rfl) rfl) ?_
 refine RK.c (S.assign .none rfl (.cint rfl)) ?_
 refine RK.nil (Ab.D.code (OK.seq (OK.seq (OK.reg ?_))))
 refine RK.c (S.move .none rfl (.tmp rfl rfl)) ?_
 refine RK.c (S.lenM si26 .none rfl (.tmp rfl rfl)) ?_
 refine RK.c (S.bfield fi75_0 .none rfl (.tmp rfl rfl)) ?_
 refine RK.c (S.bload1 ti22 .none rfl (.tmp rfl rfl) rfl rfl rfl rfl) ?_
 refine RK.c (S.lenM si22 .none rfl (.tmp rfl rfl)) ?_
 refine RK.c (S.neq .none rfl (.tmp rfl rfl) (.tmp rfl rfl)) ?_
 refine RK.nil (Ab.D.code ?_)
 refine OK.condD rfl rfl (fun c13 => ?_) (fun c13 => ?_)
 ·
  refine OK.seq (OK.reg ?_)
  refine RK.c (S.assign .none rfl (.cint rfl)) ?_
  refine RK.nil (Ab.D.code ?_)
  refine OK.ret (Ret.r1 (.tmp rfl rfl (.c (.same rfl) rfl) rfl) ?_)
  refine ret_i ?_
  rw [orderE, if_pos (by omega)]
 ·
  refine OK.skip ?_
  refine Ab.D.code (OK.seq (OK.seq (OK.reg ?_)))
  refine RK.c (S.move .none rfl (.tmp rfl rfl)) ?_
  refine RK.c (S.lenM si26 .none rfl (.tmp rfl rfl)) ?_
  refine RK.c (S.move .none rfl (.cint rfl)) ?_
  refine RK.nil (Ab.D.code ?_)
  refine OK.block ?_
  refine OK.loop (G := Nat) [2] (fun i => [(1, .sl (o.map (fun n => [.int .i64 n]))), (2, .ptr 2 0), (1002, .box (lineCs l c)), (14, .sl (o.map (fun n => [.int .i64 n]))), (15, .int .i64 o.length), (16, .int .i64 i)]) (fun i => i ≤ o.length ∧ eachGo (ordE l.length o) 0 o = eachGo (ordE l.length o) i (o.drop i)) (fun i => o.length - i) 0 ⟨Nat.zero_le _, rfl⟩ ⟨rfl, rfl, rfl, rfl, rfl, rfl, trivial⟩ (fun _ => rfl) ?_
  rintro i ⟨hi, hg⟩
  refine OK.seq (OK.reg ?_)
  refine RK.c (S.lss .none rfl (.tmp rfl rfl) (.tmp rfl rfl)) ?_
  refine RK.nil (Ab.D.code ?_)
  refine OK.seq ?_
  refine OK.condD rfl rfl (fun c17 => ?_) (fun c17 => ?_)
  ·
   refine OK.skip ?_
   refine Ab.D.code ?_
   refine OK.seq ?_
   refine OK.block ?_
   refine OK.seq (OK.reg ?_)
   refine RK.c (S.move .none rfl (.tmp rfl rfl)) ?_
   refine RK.c (S.indexM (n := i) si26 .none rfl (.tmp rfl rfl) (.tmp rfl rfl) rfl (by omega) rfl) ?_
   refine RK.c (S.load1 ti3 .none rfl (.tmp rfl rfl) rfl) ?_
   refine RK.c (S.assign .none rfl (.tmp rfl rfl)) ?_
   refine RK.c (S.assign .none rfl (.tmp rfl rfl)) ?_
   refine RK.nil (Ab.D.code ?_)
   refine OK.seq ?_
   refine OK.regionDraw follows (.c (S.move .none rfl (.tmp rfl rfl))
    (.c (S.bfield fi75_0 .none rfl (.tmp rfl rfl))
    (.c (S.bload1 ti22 .none rfl (.tmp rfl rfl) rfl rfl rfl rfl)
    (.c (S.lenM si22 .none rfl (.tmp rfl rfl))
    (.c (S.sub .none rfl (.tmp rfl rfl) (.cint rfl) (IntWalk.i64_in _ (by omega)) (IntWalk.i64_in _ (by omega)))
    (.c (S.call (shp_within) Tryz.call41 .none rfl (.cons (.tmp rfl rfl) (.cons (.cint rfl) (.cons (.tmp rfl rfl) .nil))) rfl)
    (.c (S.call (shop_unless) Tryz.call40 .none rfl (.cons (.tmp rfl rfl) (.cons (.cint rfl) .nil)) rfl)
    (.c (S.move .none rfl (.tmp rfl rfl))
    (.c (S.move .none rfl (.tmp rfl rfl))
    (.c (S.slice (hi := i) (l' := o.take i) si26 (fun _ => rfl) .none rfl (.tmp rfl rfl) (.inl ⟨rfl, rfl, rfl⟩) (.inr ⟨_, _, rfl, (.tmp rfl rfl), rfl⟩) (Nat.zero_le _) (by omega) rfl)
    (.c (S.move .none rfl (.tmp rfl rfl))
    (.c (S.call (contains_int (l := o.take i)) Tryz.call65 .none rfl (.cons (.tmp rfl rfl) (.cons (.tmp rfl rfl) .nil)) rfl)
    (.c (S.not .none rfl (.tmp rfl rfl))
    (.c (S.call (shop_unless) Tryz.call40 .none rfl (.cons (.tmp rfl rfl) (.cons (.cint rfl) .nil)) rfl)
    (.c (S.mkSlice (k := 35) (rows := [[_], [_]]) ai130 .none rfl (.cons (.tmp rfl rfl) (.cons (.tmp rfl rfl) .nil)) rfl rfl rfl rfl rfl rfl rfl)
    (.c (S.callL (shop_first (l := [_, _])) Tryz.call36 .none rfl (.cons (.tmp rfl rfl) .nil) (.cons (.p (.own rfl rfl) rfl) .nil) rfl)
    (.c (S.assign .none rfl (.tmp rfl rfl))
    .nil))))))))))))))))) (by kernel_rfl) ?_
   refine Ab.D.code (OK.seq (OK.reg ?_))
   refine RK.c (S.move .none rfl (.tmp rfl rfl)) ?_
   refine RK.c (S.neq .none rfl (.tmp rfl rfl) (.cint rfl)) ?_
   refine RK.nil (Ab.D.code ?_)
   refine OK.condD rfl rfl (fun c38 => ?_) (fun c38 => ?_)
   ·
    refine OK.seq (OK.reg ?_)
    refine RK.c (S.move .none rfl (.tmp rfl rfl)) ?_
    refine RK.c (S.assign .none rfl (.tmp rfl rfl)) ?_
    refine RK.nil (Ab.D.code ?_)
    refine OK.ret (Ret.r1 (.tmp rfl rfl (.c (.same rfl) rfl) rfl) ?_)
    refine ret_i ?_
    rw [order_is (by omega) (each_at hg (by omega) rfl c38)]
    try rfl
   ·
    refine OK.skip ?_
    refine Ab.D.blk ?_
    refine Ab.D.code (OK.reg ?_)
    refine RK.c (S.add .none rfl (.tmp rfl rfl) (.cint rfl) (IntWalk.i64_in _ (by omega)) (IntWalk.i64_in _ (by omega))) ?_
    refine RK.c (S.move .none rfl (.tmp rfl rfl)) ?_
    refine RK.nil ?_
    refine Ab.D.lp ⟨i + 1, ⟨by omega, each_on hg (by omega) (Decidable.not_not.1 c38)⟩, (by omega), rfl, rfl, rfl, rfl, rfl, rfl, trivial⟩
  ·
   refine OK.exit rfl ?_
   refine Ab.D.code (OK.seq (OK.reg ?_))
   refine RK.c (S.assign .none rfl (.cint rfl)) ?_
   refine RK.nil (Ab.D.code ?_)
   refine OK.ret (Ret.r1 (.tmp rfl rfl (.c (.same rfl) rfl) rfl) ?_)
   refine ret_i ?_
   rw [order_end (by omega) (each_end hg (by omega))]
end Go.Proofs.YtbnimikgjjjcaaaGreatDoor
