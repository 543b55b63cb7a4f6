/-
  Swaps of a coil, by both texts; which swaps last; no other choice that lasts has fewer; the law.
-/
import Derived.Test.YtfjldfkgjejpmaaSh
import Derived.Test.YtfjldfkgjejpmaaWq
namespace Go.Proofs.Ytfjldfkgjejpmaa
open Go.Ab

def jobErr (life n : Int) : Int := if ¬ (1 ≤ n ∧ n ≤ 1000000) then 2 else if n ≤ life then 0 else 13
def swErr (life : Int) (jobs : List Int) : Int := if ¬ (1 ≤ life ∧ life ≤ 1000000) then 2 else if 30 < jobs.length then 8 else (eachGo (fun _ n => jobErr life n) 0 jobs).2
def swGo (life : Int) : Nat → Int → List Int → List Int
  | _, _, [] => []
  | i, u, n :: l => if u + n > life then (i : Int) :: swGo life (i + 1) n l else swGo life (i + 1) (u + n) l
def swT (life : Int) (jobs : List Int) : List Int := swGo life 0 0 jobs
theorem swGo_drop {life : Int} {u : Int} {l : List Int} {i : Nat} (h : i < l.length) : swGo life i u (l.drop i) = if u + l[i] > life then (i : Int) :: swGo life (i + 1) l[i] (l.drop (i + 1)) else swGo life (i + 1) (u + l[i]) (l.drop (i + 1)) := by
  rw [List.drop_eq_getElem_cons h, swGo]
theorem jobErr_0 {life n : Int} (h : jobErr life n = 0) : (1 ≤ n ∧ n ≤ 1000000) ∧ n ≤ life := by
  unfold jobErr at h
  split at h
  · cases h
  · rename_i h1
    split at h
    · rename_i h2; exact ⟨Decidable.not_not.1 h1, h2⟩
    · cases h
structure JobsT (life : Int) (jobs : List Int) : Prop where
  lf : 1 ≤ life ∧ life ≤ 1000000
  len : jobs.length ≤ 30
  job : ∀ (i : Nat) (h : i < jobs.length), (1 ≤ jobs[i] ∧ jobs[i] ≤ 1000000) ∧ jobs[i] ≤ life
theorem jobs_of {life : Int} {jobs : List Int} (h : swErr life jobs = 0) : JobsT life jobs := by
  unfold swErr at h
  split at h
  · cases h
  · rename_i h1
    split at h
    · cases h
    · rename_i h2
      exact ⟨Decidable.not_not.1 h1, by omega, fun i hi => jobErr_0 (eachGo_all _ _ 0 h i hi)⟩
def hasI (l : List Int) (n : Int) : Bool := l.any fun x => decide (x = n)
def ascGo (m : Int) : List Int → Bool
  | [] => true
  | x :: l => decide (0 ≤ x ∧ x ≤ m) && (match l with | [] => true | y :: _ => decide (x < y)) && ascGo m l
def useGo (life : Int) (sw : List Int) : Nat → Int → List Int → Bool
  | _, _, [] => true
  | i, u, n :: l => if (if hasI sw i = true then 0 else u) + n > life then false else useGo life sw (i + 1) ((if hasI sw i = true then 0 else u) + n) l
theorem useGo_drop {life u : Int} {sw l : List Int} {i : Nat} (h : i < l.length) : useGo life sw i u (l.drop i) = if (if hasI sw i = true then 0 else u) + l[i] > life then false else useGo life sw (i + 1) ((if hasI sw i = true then 0 else u) + l[i]) (l.drop (i + 1)) := by
  rw [List.drop_eq_getElem_cons h, useGo]
/-- A swap's own index is right, and is greater than the one before. -/
def stepOk (m : Int) (sw : List Int) (i : Nat) : Bool := decide (0 ≤ sw.getD i 0 ∧ sw.getD i 0 ≤ m) && (decide (i = 0) || decide (sw.getD (i - 1) 0 < sw.getD i 0))
def ascT (m : Int) (sw : List Int) : Bool := (List.range sw.length).all (stepOk m sw)
def lastsT (life : Int) (jobs sw : List Int) : Bool := ascT (jobs.length - 1) sw && useGo life sw 0 0 jobs
def upTo (m : Int) (sw : List Int) (i : Nat) : Bool := (List.range i).all (stepOk m sw)
theorem upTo_succ (m : Int) (sw : List Int) (i : Nat) : upTo m sw (i + 1) = (upTo m sw i && stepOk m sw i) := by
  unfold upTo
  rw [List.range_succ, List.all_append]
  simp
theorem upTo_false {m : Int} {sw : List Int} {i : Nat} (h : i < sw.length) (hs : stepOk m sw i = false) : ascT m sw = false := by
  unfold ascT
  rw [List.all_eq_false]
  exact ⟨i, List.mem_range.2 h, by rw [hs]; exact Bool.false_ne_true⟩
theorem swGo_ge (life : Int) : ∀ (l : List Int) (i : Nat) (u : Int), ∀ x ∈ swGo life i u l, (i : Int) ≤ x ∧ x < ((i + l.length : Nat) : Int)
  | [], _, _, x, h => by cases h
  | n :: l, i, u, x, h => by
    rw [swGo] at h
    split at h
    · rcases List.mem_cons.1 h with rfl | h
      · simp only [List.length_cons]; omega
      · have := swGo_ge life l (i + 1) n x h
        simp only [List.length_cons]; omega
    · have := swGo_ge life l (i + 1) (u + n) x h
      simp only [List.length_cons]; omega
theorem swGo_sorted (life : Int) : ∀ (l : List Int) (i : Nat) (u : Int), (swGo life i u l).Pairwise (fun x y => x < y)
  | [], _, _ => .nil
  | n :: l, i, u => by
    rw [swGo]
    split
    · refine List.pairwise_cons.2 ⟨fun x hx => ?_, swGo_sorted life l (i + 1) n⟩
      have := swGo_ge life l (i + 1) n x hx
      omega
    · exact swGo_sorted life l (i + 1) (u + n)
theorem hasI_append (a b : List Int) (n : Int) : hasI (a ++ b) n = (hasI a n || hasI b n) := by unfold hasI; rw [List.any_append]
theorem hasI_false {l : List Int} {n : Int} (h : ∀ x ∈ l, x ≠ n) : hasI l n = false := by
  unfold hasI
  rw [List.any_eq_false]
  intro x hx
  simpa using h x hx
theorem sw_lasts {life : Int} : ∀ (l : List Int) (i : Nat) (u : Int) (pre : List Int), (∀ x ∈ pre, x < (i : Int)) → (∀ n ∈ l, n ≤ life) → useGo life (pre ++ swGo life i u l) i u l = true
  | [], _, _, _, _, _ => rfl
  | n :: l, i, u, pre, hp, hn => by
    have hpre : hasI pre (i : Int) = false := hasI_false fun x hx => by have := hp x hx; omega
    have hnn := hn n List.mem_cons_self
    rw [useGo, swGo]
    by_cases hc : u + n > life
    · rw [if_pos hc]
      have hi : hasI (pre ++ (i : Int) :: swGo life (i + 1) n l) i = true := by rw [hasI_append]; simp [hasI]
      rw [if_pos hi, if_neg (by omega), Int.zero_add]
      have := sw_lasts l (i + 1) n (pre ++ [(i : Int)]) (fun x hx => by
        rcases List.mem_append.1 hx with h | h
        · have := hp x h; omega
        · simp at h; omega) fun m hm => hn m (List.mem_cons_of_mem _ hm)
      simpa using this
    · rw [if_neg hc]
      have hi : hasI (pre ++ swGo life (i + 1) (u + n) l) i = false := by
        rw [hasI_append, hpre, Bool.false_or]
        exact hasI_false fun x hx => by have := swGo_ge life l (i + 1) (u + n) x hx; omega
      rw [hi]
      simp only [Bool.false_eq_true, if_false]
      rw [if_neg hc]
      exact sw_lasts l (i + 1) (u + n) pre (fun x hx => by have := hp x hx; omega) fun m hm => hn m (List.mem_cons_of_mem _ hm)
theorem sw_asc {life : Int} (jobs : List Int) : ascT (jobs.length - 1) (swT life jobs) = true := by
  unfold ascT
  rw [List.all_eq_true]
  intro i hi
  have hi' := List.mem_range.1 hi
  have h1 := swGo_ge life jobs 0 0 _ (List.getElem_mem hi')
  have h2 := swGo_sorted life jobs 0 0
  rw [List.pairwise_iff_getElem] at h2
  unfold stepOk
  rw [getD_at hi']
  simp only [Bool.and_eq_true, decide_eq_true_eq, Bool.or_eq_true]
  unfold swT at *
  refine ⟨by omega, ?_⟩
  by_cases h0 : i = 0
  · exact .inl h0
  · right
    rw [getD_at (by omega)]
    exact h2 (i - 1) i (by omega) hi' (by omega)
theorem sw_lastsT {life : Int} {jobs : List Int} (h : JobsT life jobs) : lastsT life jobs (swT life jobs) = true := by
  unfold lastsT
  rw [sw_asc, Bool.true_and]
  have := sw_lasts (life := life) jobs 0 0 [] (fun x hx => by cases hx) fun n hn => by
    obtain ⟨i, hi, rfl⟩ := List.getElem_of_mem hn
    exact (h.job i hi).2
  exact this
/-- How many of the jobs from i on have an index among swaps. -/
def cntGo (sw : List Int) : Nat → List Int → Nat
  | _, [] => 0
  | i, _ :: l => (if hasI sw i = true then 1 else 0) + cntGo sw (i + 1) l
theorem cnt_cons (x : Int) (sw : List Int) : ∀ (l : List Int) (i : Nat), cntGo (x :: sw) i l ≤ cntGo [x] i l + cntGo sw i l
  | [], _ => Nat.le_refl _
  | n :: l, i => by
    have h1 := cnt_cons x sw l (i + 1)
    have h2 : hasI (x :: sw) (i : Int) = (hasI [x] i || hasI sw i) := hasI_append [x] sw i
    rw [cntGo, cntGo, cntGo, h2]
    cases hasI [x] (i : Int) <;> cases hasI sw (i : Int) <;> simp <;> omega
theorem cnt_after (x : Int) : ∀ (l : List Int) (i : Nat), x < (i : Int) → cntGo [x] i l = 0
  | [], _, _ => rfl
  | n :: l, i, h => by
    rw [cntGo, cnt_after x l (i + 1) (by omega), hasI_false (by simp; omega)]
    rfl
theorem cnt_one (x : Int) : ∀ (l : List Int) (i : Nat), cntGo [x] i l ≤ 1
  | [], _ => Nat.zero_le _
  | n :: l, i => by
    rw [cntGo]
    by_cases h : x = (i : Int)
    · rw [cnt_after x l (i + 1) (by omega)]
      split <;> omega
    · rw [hasI_false (by simpa using h)]
      have := cnt_one x l (i + 1)
      simp
      exact this
theorem cnt_nil : ∀ (l : List Int) (i : Nat), cntGo [] i l = 0
  | [], _ => rfl
  | n :: l, i => by rw [cntGo, cnt_nil l (i + 1)]; rfl
theorem cnt_le : ∀ (sw l : List Int) (i : Nat), cntGo sw i l ≤ sw.length
  | [], l, i => by rw [cnt_nil]; exact Nat.zero_le _
  | x :: sw, l, i => by
    have h1 := cnt_cons x sw l i
    have h2 := cnt_one x l i
    have h3 := cnt_le sw l i
    rw [List.length_cons]
    omega
theorem sw_best {life : Int} {sw : List Int} : ∀ (l : List Int) (i cg co : Nat) (ug uo : Int), (∀ n ∈ l, 0 ≤ n) → 0 ≤ uo → (cg < co ∨ (cg = co ∧ ug ≤ uo)) → useGo life sw i uo l = true → cg + (swGo life i ug l).length ≤ co + cntGo sw i l
  | [], _, _, _, _, _, _, _, h, _ => by simp only [swGo, cntGo, List.length_nil]; omega
  | n :: l, i, cg, co, ug, uo, hn, h0, h, hu => by
    have hnn := hn n List.mem_cons_self
    have hl := fun m hm => hn m (List.mem_cons_of_mem _ hm)
    rw [useGo] at hu
    rw [swGo, cntGo]
    by_cases hi : hasI sw (i : Int) = true
    · rw [if_pos hi] at hu ⊢
      split at hu
      · cases hu
      · by_cases hc : ug + n > life
        · rw [if_pos hc, List.length_cons]
          have := sw_best l (i + 1) (cg + 1) (co + 1) n (0 + n) hl (by omega) (by omega) hu
          omega
        · rw [if_neg hc]
          have := sw_best l (i + 1) cg (co + 1) (ug + n) (0 + n) hl (by omega) (by omega) hu
          omega
    · rw [if_neg hi] at hu ⊢
      split at hu
      · cases hu
      · by_cases hc : ug + n > life
        · rw [if_pos hc, List.length_cons]
          have := sw_best l (i + 1) (cg + 1) co n (uo + n) hl (by omega) (by omega) hu
          omega
        · rw [if_neg hc]
          have := sw_best l (i + 1) cg co (ug + n) (uo + n) hl (by omega) (by omega) hu
          omega
theorem sw_min {life : Int} {jobs other : List Int} (h : JobsT life jobs) (ho : lastsT life jobs other = true) : (swT life jobs).length ≤ other.length := by
  unfold lastsT at ho
  rw [Bool.and_eq_true] at ho
  have h1 := sw_best (life := life) (sw := other) jobs 0 0 0 0 0 (fun n hn => by obtain ⟨i, hi, rfl⟩ := List.getElem_of_mem hn; have := h.job i hi; omega) (Int.le_refl 0) (by omega) ho.2
  have h2 := cnt_le other jobs 0
  unfold swT
  omega
theorem swGo_len (life : Int) : ∀ (l : List Int) (i : Nat) (u : Int), (swGo life i u l).length ≤ l.length
  | [], _, _ => Nat.le_refl _
  | n :: l, i, u => by
    rw [swGo]
    split
    · have := swGo_len life l (i + 1) n; simp; omega
    · have := swGo_len life l (i + 1) (u + n); simp; omega
theorem swHead (life : Int) (jobs : List Int) : firstE [unlessE (decide (1 ≤ life ∧ life ≤ 1000000)) 2, unlessE (decide ((jobs.length : Int) ≤ 30)) 8] = if ¬ (1 ≤ life ∧ life ≤ 1000000) then 2 else if 30 < jobs.length then 8 else 0 := by
  rw [firstE2]
  by_cases h1 : 1 ≤ life ∧ life ≤ 1000000
  · rw [unlessE_of h1, if_neg (by simp), if_neg (by simpa using h1)]
    by_cases h2 : 30 < jobs.length
    · rw [unlessE_not (by omega), if_pos h2]
    · rw [unlessE_of (by omega), if_neg h2]
  · rw [unlessE_not h1, if_pos (by decide), if_pos h1]

theorem base_Has {l : List Int} {n : Int} : Ct Try.prog 76 [ints l, .int .i64 n] (.bool (hasI l n)) := by
  refine Ct.intro (rs := [.tmp 4]) Try.func76 rfl Try.ntmps76 Try.results76 rfl rfl rfl fun w h => ?_
  refine OK.slLen (rows := l.map fun n => [.int .i64 n]) (t := 0) rfl rfl fun hlen => ?_
  rw [List.length_map] at hlen
  unfold maxLen at hlen
  refine OK.seq ?_
  refine OK.reg ?_
  refine RK.c (S.assign .none rfl .cbool) ?_
  refine RK.nil ?_
  refine Ab.D.code ?_
  refine OK.seq ?_
  refine OK.seq ?_
  refine OK.reg ?_
  refine RK.c (S.assign .none rfl (.cint rfl)) ?_
  refine RK.nil ?_
  refine Ab.D.code ?_
  refine OK.block ?_
  refine OK.loop (G := Nat) [] (fun i => [(0, ints l), (1, .int .i64 n), (5, .int .i64 i)]) (fun i => i ≤ l.length ∧ hasI l n = hasI (l.drop i) n) (fun i => l.length - i) 0 ⟨Nat.zero_le _, rfl⟩ ⟨rfl, rfl, rfl, trivial⟩ (fun _ => rfl) ?_
  rintro i ⟨hi, hg⟩
  refine OK.seq ?_
  refine OK.seq ?_
  refine OK.reg ?_
  refine RK.c (S.move .none rfl (.tmp rfl rfl)) ?_
  refine RK.c (S.move .none rfl (.tmp rfl rfl)) ?_
  refine RK.c (S.lenM si23 .none rfl (.tmp rfl rfl)) ?_
  refine RK.c (S.lss .none rfl (.tmp rfl rfl) (.tmp rfl rfl)) ?_
  refine RK.nil ?_
  refine Ab.D.code ?_
  refine OK.condD rfl rfl (fun c9 => ?_) (fun c9 => ?_)
  ·
    refine OK.skip ?_
    refine Ab.D.code ?_
    refine OK.seq ?_
    refine OK.block ?_
    refine OK.seq ?_
    refine OK.reg ?_
    refine RK.c (S.move .none rfl (.tmp rfl rfl)) ?_
    refine RK.c (S.move .none rfl (.tmp rfl rfl)) ?_
    refine RK.c (S.indexM si23 .none rfl (.tmp rfl rfl) (.tmp rfl rfl) rfl (by omega) rfl) ?_
    refine RK.c (S.load1 ti3 .none rfl (.tmp rfl rfl) rfl) ?_
    refine RK.c (S.move .none rfl (.tmp rfl rfl)) ?_
    refine RK.c (S.eql .none rfl (.tmp rfl rfl) (.tmp rfl rfl)) ?_
    refine RK.nil ?_
    refine Ab.D.code ?_
    refine OK.condD rfl rfl (fun c17 => ?_) (fun c17 => ?_)
    ·
      refine OK.seq ?_
      refine OK.reg ?_
      refine RK.c (S.assign .none rfl .cbool) ?_
      refine RK.nil ?_
      refine Ab.D.code ?_
      refine OK.ret (Ret.r1 (.tmp rfl rfl (.c (.same rfl) rfl) rfl) ?_)
      refine ret_b ?_
      rw [hg, hasI, any_drop _ (by omega), decide_eq_true c17, Bool.true_or]
    ·
      refine OK.skip ?_
      refine Ab.D.blk ?_
      refine Ab.D.code ?_
      refine OK.reg ?_
      refine RK.c (S.move .none rfl (.tmp rfl rfl)) ?_
      refine RK.c (S.add .none rfl (.tmp rfl rfl) (.cint rfl) (IntWalk.i64_in _ (by omega)) (IntWalk.i64_in _ (by omega))) ?_
      refine RK.c (S.assign .none rfl (.tmp rfl rfl)) ?_
      refine RK.nil ?_
      refine Ab.D.lp ⟨i + 1, ⟨by omega, ?_⟩, (by omega), rfl, rfl, rfl, trivial⟩
      rw [hg, hasI, any_drop _ (by omega), decide_eq_false c17, Bool.false_or]
      rfl
  ·
    refine OK.exit rfl ?_
    refine Ab.D.code ?_
    refine OK.seq ?_
    refine OK.reg ?_
    refine RK.c (S.assign .none rfl .cbool) ?_
    refine RK.nil ?_
    refine Ab.D.code ?_
    refine OK.ret (Ret.r1 (.tmp rfl rfl (.c (.same rfl) rfl) rfl) ?_)
    refine ret_b ?_
    rw [hg, show i = l.length by omega, List.drop_length]
    rfl

theorem mon_job {life : Int} {i : Nat} {n : Int} : Ct Try.prog 75 [.int .i64 i, .int .i64 n, .eptr [.int .i64 life]] (.int .i64 (jobErr life n)) := by
  refine Ct.intro (rs := [.tmp 5]) Try.func75 rfl Try.ntmps75 Try.results75 rfl rfl rfl fun w h => ?_
  refine OK.seq ?_
  refine OK.reg ?_
  refine RK.c (S.assign .none rfl (.cint rfl)) ?_
  refine RK.nil ?_
  refine Ab.D.code ?_
  refine OK.seq ?_
  refine OK.regionDraw follows (.c (S.move .none rfl (.tmp rfl rfl))
    (.c (S.call (mon_within) Try.call63 .none rfl (.cons (.tmp rfl rfl) (.cons (.cint rfl) (.cons (.cint rfl) .nil))) rfl)
    (.c (S.call (monitor_unless) Try.call57 .none rfl (.cons (.tmp rfl rfl) (.cons (.cint rfl) .nil)) rfl)
    (.c (S.move .none rfl (.tmp rfl rfl))
    (.c (S.load1 ti3 .none rfl (.tmp rfl rfl) rfl)
    (.c (S.leq .none rfl (.tmp rfl rfl) (.tmp rfl rfl))
    (.c (S.call (monitor_unless) Try.call57 .none rfl (.cons (.tmp rfl rfl) (.cons (.cint rfl) .nil)) rfl)
    (.c (S.mkSlice (k := 13) (rows := [[_], [_]]) ai155 .none rfl (.cons (.tmp rfl rfl) (.cons (.tmp rfl rfl) .nil)) rfl rfl rfl rfl rfl rfl rfl)
    (.c (S.callL (monitor_first (l := [_, _])) Try.call56 .none rfl (.cons (.tmp rfl rfl) .nil) (.cons (.p (.own rfl rfl) rfl) .nil) rfl)
    (.c (S.assign .none rfl (.tmp rfl rfl))
    .nil)))))))))) (by kernel_rfl) ?_
  refine Ab.D.code ?_
  refine OK.ret (Ret.r1 (.tmp rfl rfl (.c (.same rfl) rfl) rfl) ?_)
  refine ret_i ?_
  rw [firstE2]
  unfold jobErr unlessE
  simp only [decide_eq_true_eq, Bool.and_eq_true]
  (repeat' split) <;> omega

theorem mon_SwapsOf {life : Int} {jobs : List Int} : Ct Try.prog 34 [.int .i64 life, ints jobs] (.tup [ints (if swErr life jobs = 0 then swT life jobs else []), .int .i64 (swErr life jobs)]) := by
  refine Ct.intro (rs := [.tmp 4, .tmp 5]) Try.func34 rfl Try.ntmps34 Try.results34 rfl rfl rfl fun w h => ?_
  refine OK.seq ?_
  refine OK.reg ?_
  refine RK.c (S.box (k := 2) rfl .none rfl (.tmp rfl rfl) rfl) ?_
  refine RK.c (S.assign .none rfl .cnil) ?_
  refine RK.c (S.assign .none rfl (.cint rfl)) ?_
  refine RK.nil ?_
  refine Ab.D.code ?_
  refine OK.seq ?_
  refine OK.reg ?_
  refine RK.c (S.bload1 ti3 .none rfl (.tmp rfl rfl) rfl rfl rfl rfl) ?_
  refine RK.c (S.call (mon_within) Try.call63 .none rfl (.cons (.tmp rfl rfl) (.cons (.cint rfl) (.cons (.cint rfl) .nil))) rfl) ?_
  refine RK.c (S.call (monitor_unless) Try.call57 .none rfl (.cons (.tmp rfl rfl) (.cons (.cint rfl) .nil)) rfl) ?_
  refine RK.c (S.move .none rfl (.tmp rfl rfl)) ?_
  refine RK.c (S.lenM si23 .none rfl (.tmp rfl rfl)) ?_
  refine RK.c (S.leq .none rfl (.tmp rfl rfl) (.cint rfl)) ?_
  refine RK.c (S.call (monitor_unless) Try.call57 .none rfl (.cons (.tmp rfl rfl) (.cons (.cint rfl) .nil)) rfl) ?_
  refine RK.c (S.mkSlice (k := 18) (rows := [[_], [_]]) ai155 .none rfl (.cons (.tmp rfl rfl) (.cons (.tmp rfl rfl) .nil)) rfl rfl rfl rfl rfl rfl rfl) ?_
  refine RK.c (S.callL (monitor_first (l := [_, _])) Try.call56 .none rfl (.cons (.tmp rfl rfl) .nil) (.cons (.p (.own rfl rfl) rfl) .nil) rfl) ?_
  refine RK.c (S.assign .none rfl (.tmp rfl rfl)) ?_
  refine RK.nil ?_
  refine Ab.D.code ?_
  refine OK.seq ?_
  refine OK.seq ?_
  refine OK.reg ?_
  refine RK.c (S.move .none rfl (.tmp rfl rfl)) ?_
  refine RK.c (S.eql .none rfl (.tmp rfl rfl) (.cint rfl)) ?_
  refine RK.nil ?_
  refine Ab.D.code ?_
  refine OK.condD rfl rfl (fun c21 => ?_) (fun c21 => ?_)
  ·
    have hh := swHead life jobs
    rw [c21] at hh
    have hq : swErr life jobs = (eachGo (fun _ n => jobErr life n) 0 jobs).2 := by
      unfold swErr
      split at hh
      · cases hh
      · rename_i h1
        rw [if_neg h1]
        split at hh
        · cases hh
        · rename_i h2; rw [if_neg h2]
    refine OK.reg ?_
    refine RK.c (S.move .none rfl (.tmp rfl rfl)) ?_
    refine RK.c (S.makeFunc1 .none rfl (.tmp rfl rfl) rfl) ?_
    refine RK.c (S.callL (each_Int (l := jobs) (g := fun _ n => jobErr life n) (caps := [.eptr [.int .i64 life]]) (fun i x _ => mon_job) Try.call75 ⟨rfl, rfl⟩) Try.call74 .none rfl (.cons (.tmp rfl rfl) (.cons (.tmp rfl rfl) .nil)) (.cons (.same rfl) (.cons (.fn (.cons (.ptr rfl rfl rfl rfl) .nil)) .nil)) rfl) ?_
    refine RK.c (S.move .none rfl (.tmp rfl rfl)) ?_
    refine RK.c (S.extract .none rfl (.tmp rfl rfl) rfl rfl) ?_
    refine RK.c (S.extract .none rfl (.tmp rfl rfl) rfl rfl) ?_
    refine RK.c (S.assign .none rfl (.tmp rfl rfl)) ?_
    refine RK.nil ?_
    refine Ab.D.code ?_
    refine OK.seq ?_
    refine OK.seq ?_
    refine OK.reg ?_
    refine RK.c (S.move .none rfl (.tmp rfl rfl)) ?_
    refine RK.c (S.neq .none rfl (.tmp rfl rfl) (.cint rfl)) ?_
    refine RK.nil ?_
    refine Ab.D.code ?_
    refine OK.condD rfl rfl (fun c29 => ?_) (fun c29 => ?_)
    ·
      refine OK.seq ?_
      refine OK.reg ?_
      refine RK.c (S.move .none rfl (.tmp rfl rfl)) ?_
      refine RK.c (S.assign .none rfl .cnil) ?_
      refine RK.c (S.assign .none rfl (.tmp rfl rfl)) ?_
      refine RK.nil ?_
      refine Ab.D.code ?_
      refine OK.ret (Ret.r2 (.tmp rfl rfl (.c (.same rfl) rfl) rfl) (.tmp rfl rfl (.c (.same rfl) rfl) rfl) ?_)
      rw [if_neg (by omega), hq]
      rfl
    ·
      have he : swErr life jobs = 0 := by omega
      have hjt := jobs_of he
      refine OK.skip ?_
      refine Ab.D.code ?_
      refine OK.seq ?_
      refine OK.reg ?_
      refine RK.c (S.nilOwn (k := 7) (sz := 1) .none rfl) ?_
      refine RK.nil ?_
      refine Ab.D.code ?_
      refine OK.seq ?_
      refine OK.reg ?_
      refine RK.c (S.assign .none rfl (.cint rfl)) ?_
      refine RK.nil ?_
      refine Ab.D.code ?_
      refine OK.seq ?_
      refine OK.seq ?_
      refine OK.reg ?_
      refine RK.c (S.move .none rfl (.tmp rfl rfl)) ?_
      refine RK.c (S.lenM si23 .none rfl (.tmp rfl rfl)) ?_
      refine RK.c (S.move .none rfl (.cint rfl)) ?_
      refine RK.nil ?_
      refine Ab.D.code ?_
      refine OK.block ?_
      refine OK.loop3 [2, 7] (fun (i : Nat) (u : Int) (out : List Int) => [(2, .ptr 2 0), (1002, .box [.int .i64 life]), (7, .own 7 out.length), (2007, .arr 1 (out.map fun n => [.int .i64 n])), (8, .int .i64 u), (31, ints jobs), (32, .int .i64 jobs.length), (33, .int .i64 i)]) (fun i u out => i ≤ jobs.length ∧ out.length ≤ i ∧ (0 ≤ u ∧ u ≤ 1000000) ∧ swT life jobs = out ++ swGo life i u (jobs.drop i)) (fun i u out => jobs.length - i) (0) (0) ([]) ⟨Nat.zero_le _, Nat.le_refl _, by omega, rfl⟩ ⟨rfl, rfl, (lk_own (by first | rfl | (simp; done) | (simp; omega))), (lk_arr (by first | rfl | (simp; done) | (simp; omega))), rfl, rfl, rfl, rfl, trivial⟩ (fun _ _ _ => rfl) ?_
      rintro i u out ⟨hi, ho, hu, hg⟩
      refine OK.seq ?_
      refine OK.reg ?_
      refine RK.c (S.lss .none rfl (.tmp rfl rfl) (.tmp rfl rfl)) ?_
      refine RK.nil ?_
      refine Ab.D.code ?_
      refine OK.seq ?_
      refine OK.condD rfl rfl (fun c34 => ?_) (fun c34 => ?_)
      ·
        have hj := hjt.job i (by omega)
        have hlf := hjt.lf
        refine OK.skip ?_
        refine Ab.D.code ?_
        refine OK.seq ?_
        refine OK.block ?_
        refine OK.seq ?_
        refine OK.reg ?_
        refine RK.c (S.move .none rfl (.tmp rfl rfl)) ?_
        refine RK.c (S.indexM si23 .none rfl (.tmp rfl rfl) (.tmp rfl rfl) rfl (by omega) rfl) ?_
        refine RK.c (S.load1 ti3 .none rfl (.tmp rfl rfl) rfl) ?_
        refine RK.c (S.assign .none rfl (.tmp rfl rfl)) ?_
        refine RK.c (S.assign .none rfl (.tmp rfl rfl)) ?_
        refine RK.nil ?_
        refine Ab.D.code ?_
        refine OK.seq ?_
        refine OK.seq ?_
        refine OK.reg ?_
        refine RK.c (S.move .none rfl (.tmp rfl rfl)) ?_
        refine RK.c (S.move .none rfl (.tmp rfl rfl)) ?_
        refine RK.c (S.add .none rfl (.tmp rfl rfl) (.tmp rfl rfl) (IntWalk.i64_in _ (by omega)) (IntWalk.i64_in _ (by omega))) ?_
        refine RK.c (S.bload1 ti3 .none rfl (.tmp rfl rfl) rfl rfl rfl rfl) ?_
        refine RK.c (S.gtr .none rfl (.tmp rfl rfl) (.tmp rfl rfl)) ?_
        refine RK.nil ?_
        refine Ab.D.code ?_
        refine OK.condD rfl rfl (fun c42 => ?_) (fun c42 => ?_)
        ·
          refine OK.seq ?_
          refine OK.reg ?_
          refine RK.c (S.move .none rfl (.tmp rfl rfl)) ?_
          refine RK.c (S.move .none rfl (.tmp rfl rfl)) ?_
          refine RK.c (S.mkSlice (k := 45) (rows := [[_]]) ai23 .none rfl (.cons (.tmp rfl rfl) .nil) rfl rfl rfl rfl rfl rfl rfl) ?_
          refine RK.c (S.append ai23 .none rfl (.tmp rfl rfl) rfl (by simp) (.tmp rfl rfl) rfl (by first | rfl | (simp; done) | (simp; omega)) (by omega) (by simp only [maxLen]; omega)) ?_
          refine RK.c (S.assign .none rfl (.tmp rfl rfl)) ?_
          refine RK.nil ?_
          refine Ab.D.code ?_
          refine OK.reg ?_
          refine RK.c (S.assign .none rfl (.cint rfl)) ?_
          refine RK.nil ?_
          refine Ab.D.code ?_
          refine OK.reg ?_
          refine RK.c (S.move .none rfl (.tmp rfl rfl)) ?_
          refine RK.c (S.move .none rfl (.tmp rfl rfl)) ?_
          refine RK.c (S.add .none rfl (.tmp rfl rfl) (.tmp rfl rfl) (IntWalk.i64_in _ (by omega)) (IntWalk.i64_in _ (by omega))) ?_
          refine RK.c (S.assign .none rfl (.tmp rfl rfl)) ?_
          refine RK.nil ?_
          refine Ab.D.blk ?_
          refine Ab.D.code ?_
          refine OK.reg ?_
          refine RK.c (S.add .none rfl (.tmp rfl rfl) (.cint rfl) (IntWalk.i64_in _ (by omega)) (IntWalk.i64_in _ (by omega))) ?_
          refine RK.c (S.move .none rfl (.tmp rfl rfl)) ?_
          refine RK.nil ?_
          refine Ab.D.lp ⟨i + 1, jobs[i], out ++ [(i : Int)], ⟨by omega, by first | omega | (simp only [List.length_append, List.length_cons, List.length_nil]; omega), by omega, ?_⟩, (by omega), rfl, rfl, (lk_own (by first | rfl | (simp; done) | (simp; omega))), (lk_arr (by first | rfl | (simp; done) | (simp; omega))), (lk_int (by omega)), rfl, rfl, rfl, trivial⟩
          rw [hg, swGo_drop (by omega), if_pos c42, List.append_assoc, List.singleton_append]
        ·
          refine OK.skip ?_
          refine Ab.D.code ?_
          refine OK.reg ?_
          refine RK.c (S.move .none rfl (.tmp rfl rfl)) ?_
          refine RK.c (S.move .none rfl (.tmp rfl rfl)) ?_
          refine RK.c (S.add .none rfl (.tmp rfl rfl) (.tmp rfl rfl) (IntWalk.i64_in _ (by omega)) (IntWalk.i64_in _ (by omega))) ?_
          refine RK.c (S.assign .none rfl (.tmp rfl rfl)) ?_
          refine RK.nil ?_
          refine Ab.D.blk ?_
          refine Ab.D.code ?_
          refine OK.reg ?_
          refine RK.c (S.add .none rfl (.tmp rfl rfl) (.cint rfl) (IntWalk.i64_in _ (by omega)) (IntWalk.i64_in _ (by omega))) ?_
          refine RK.c (S.move .none rfl (.tmp rfl rfl)) ?_
          refine RK.nil ?_
          refine Ab.D.lp ⟨i + 1, u + jobs[i], out, ⟨by omega, by first | omega | (simp only [List.length_append, List.length_cons, List.length_nil]; omega), by omega, ?_⟩, (by omega), rfl, rfl, (lk_own (by first | rfl | (simp; done) | (simp; omega))), (lk_arr (by first | rfl | (simp; done) | (simp; omega))), (lk_int (by omega)), rfl, rfl, rfl, trivial⟩
          rw [hg, swGo_drop (by omega), if_neg c42]
      ·
        refine OK.exit rfl ?_
        refine Ab.D.code ?_
        refine OK.seq ?_
        refine OK.reg ?_
        refine RK.c (S.move .none rfl (.tmp rfl rfl)) ?_
        refine RK.c (S.assign .none rfl (.tmp rfl rfl)) ?_
        refine RK.c (S.assign .none rfl (.cint rfl)) ?_
        refine RK.nil ?_
        refine Ab.D.code ?_
        refine OK.ret (Ret.r2 (.tmp rfl rfl (.c (.own rfl rfl (by first | rfl | (simp; done) | (simp; omega))) rfl) rfl) (.tmp rfl rfl (.c (.same rfl) rfl) rfl) ?_)
        have hfin : swT life jobs = out := by rw [hg, show i = jobs.length by omega, List.drop_length, swGo, List.append_nil]
        rw [if_pos he, hfin, he]
        rfl
  ·
    have hh := swHead life jobs
    have hq : swErr life jobs = firstE [unlessE (decide (1 ≤ life ∧ life ≤ 1000000)) 2, unlessE (decide ((jobs.length : Int) ≤ 30)) 8] := by
      rw [hh] at c21 ⊢
      unfold swErr
      split
      · rfl
      · rename_i h1
        rw [if_neg h1] at c21
        split
        · rfl
        · rename_i h2; rw [if_neg h2] at c21; exact absurd rfl c21
    refine OK.skip ?_
    refine Ab.D.code ?_
    refine OK.seq ?_
    refine OK.seq ?_
    refine OK.reg ?_
    refine RK.c (S.move .none rfl (.tmp rfl rfl)) ?_
    refine RK.c (S.neq .none rfl (.tmp rfl rfl) (.cint rfl)) ?_
    refine RK.nil ?_
    refine Ab.D.code ?_
    refine OK.condD rfl rfl (fun c29 => ?_) (fun c29 => ?_)
    ·
      refine OK.seq ?_
      refine OK.reg ?_
      refine RK.c (S.move .none rfl (.tmp rfl rfl)) ?_
      refine RK.c (S.assign .none rfl .cnil) ?_
      refine RK.c (S.assign .none rfl (.tmp rfl rfl)) ?_
      refine RK.nil ?_
      refine Ab.D.code ?_
      refine OK.ret (Ret.r2 (.tmp rfl rfl (.c (.same rfl) rfl) rfl) (.tmp rfl rfl (.c (.same rfl) rfl) rfl) ?_)
      rw [if_neg (by omega), hq]
      rfl
    ·
      have he : swErr life jobs = 0 := by omega
      have hjt := jobs_of he
      refine OK.skip ?_
      refine Ab.D.code ?_
      refine OK.seq ?_
      refine OK.reg ?_
      refine RK.c (S.nilOwn (k := 7) (sz := 1) .none rfl) ?_
      refine RK.nil ?_
      refine Ab.D.code ?_
      refine OK.seq ?_
      refine OK.reg ?_
      refine RK.c (S.assign .none rfl (.cint rfl)) ?_
      refine RK.nil ?_
      refine Ab.D.code ?_
      refine OK.seq ?_
      refine OK.seq ?_
      refine OK.reg ?_
      refine RK.c (S.move .none rfl (.tmp rfl rfl)) ?_
      refine RK.c (S.lenM si23 .none rfl (.tmp rfl rfl)) ?_
      refine RK.c (S.move .none rfl (.cint rfl)) ?_
      refine RK.nil ?_
      refine Ab.D.code ?_
      refine OK.block ?_
      refine OK.loop3 [2, 7] (fun (i : Nat) (u : Int) (out : List Int) => [(2, .ptr 2 0), (1002, .box [.int .i64 life]), (7, .own 7 out.length), (2007, .arr 1 (out.map fun n => [.int .i64 n])), (8, .int .i64 u), (31, ints jobs), (32, .int .i64 jobs.length), (33, .int .i64 i)]) (fun i u out => i ≤ jobs.length ∧ out.length ≤ i ∧ (0 ≤ u ∧ u ≤ 1000000) ∧ swT life jobs = out ++ swGo life i u (jobs.drop i)) (fun i u out => jobs.length - i) (0) (0) ([]) ⟨Nat.zero_le _, Nat.le_refl _, by omega, rfl⟩ ⟨rfl, rfl, (lk_own (by first | rfl | (simp; done) | (simp; omega))), (lk_arr (by first | rfl | (simp; done) | (simp; omega))), rfl, rfl, rfl, rfl, trivial⟩ (fun _ _ _ => rfl) ?_
      rintro i u out ⟨hi, ho, hu, hg⟩
      refine OK.seq ?_
      refine OK.reg ?_
      refine RK.c (S.lss .none rfl (.tmp rfl rfl) (.tmp rfl rfl)) ?_
      refine RK.nil ?_
      refine Ab.D.code ?_
      refine OK.seq ?_
      refine OK.condD rfl rfl (fun c34 => ?_) (fun c34 => ?_)
      ·
        have hj := hjt.job i (by omega)
        have hlf := hjt.lf
        refine OK.skip ?_
        refine Ab.D.code ?_
        refine OK.seq ?_
        refine OK.block ?_
        refine OK.seq ?_
        refine OK.reg ?_
        refine RK.c (S.move .none rfl (.tmp rfl rfl)) ?_
        refine RK.c (S.indexM si23 .none rfl (.tmp rfl rfl) (.tmp rfl rfl) rfl (by omega) rfl) ?_
        refine RK.c (S.load1 ti3 .none rfl (.tmp rfl rfl) rfl) ?_
        refine RK.c (S.assign .none rfl (.tmp rfl rfl)) ?_
        refine RK.c (S.assign .none rfl (.tmp rfl rfl)) ?_
        refine RK.nil ?_
        refine Ab.D.code ?_
        refine OK.seq ?_
        refine OK.seq ?_
        refine OK.reg ?_
        refine RK.c (S.move .none rfl (.tmp rfl rfl)) ?_
        refine RK.c (S.move .none rfl (.tmp rfl rfl)) ?_
        refine RK.c (S.add .none rfl (.tmp rfl rfl) (.tmp rfl rfl) (IntWalk.i64_in _ (by omega)) (IntWalk.i64_in _ (by omega))) ?_
        refine RK.c (S.bload1 ti3 .none rfl (.tmp rfl rfl) rfl rfl rfl rfl) ?_
        refine RK.c (S.gtr .none rfl (.tmp rfl rfl) (.tmp rfl rfl)) ?_
        refine RK.nil ?_
        refine Ab.D.code ?_
        refine OK.condD rfl rfl (fun c42 => ?_) (fun c42 => ?_)
        ·
          refine OK.seq ?_
          refine OK.reg ?_
          refine RK.c (S.move .none rfl (.tmp rfl rfl)) ?_
          refine RK.c (S.move .none rfl (.tmp rfl rfl)) ?_
          refine RK.c (S.mkSlice (k := 45) (rows := [[_]]) ai23 .none rfl (.cons (.tmp rfl rfl) .nil) rfl rfl rfl rfl rfl rfl rfl) ?_
          refine RK.c (S.append ai23 .none rfl (.tmp rfl rfl) rfl (by simp) (.tmp rfl rfl) rfl (by first | rfl | (simp; done) | (simp; omega)) (by omega) (by simp only [maxLen]; omega)) ?_
          refine RK.c (S.assign .none rfl (.tmp rfl rfl)) ?_
          refine RK.nil ?_
          refine Ab.D.code ?_
          refine OK.reg ?_
          refine RK.c (S.assign .none rfl (.cint rfl)) ?_
          refine RK.nil ?_
          refine Ab.D.code ?_
          refine OK.reg ?_
          refine RK.c (S.move .none rfl (.tmp rfl rfl)) ?_
          refine RK.c (S.move .none rfl (.tmp rfl rfl)) ?_
          refine RK.c (S.add .none rfl (.tmp rfl rfl) (.tmp rfl rfl) (IntWalk.i64_in _ (by omega)) (IntWalk.i64_in _ (by omega))) ?_
          refine RK.c (S.assign .none rfl (.tmp rfl rfl)) ?_
          refine RK.nil ?_
          refine Ab.D.blk ?_
          refine Ab.D.code ?_
          refine OK.reg ?_
          refine RK.c (S.add .none rfl (.tmp rfl rfl) (.cint rfl) (IntWalk.i64_in _ (by omega)) (IntWalk.i64_in _ (by omega))) ?_
          refine RK.c (S.move .none rfl (.tmp rfl rfl)) ?_
          refine RK.nil ?_
          refine Ab.D.lp ⟨i + 1, jobs[i], out ++ [(i : Int)], ⟨by omega, by first | omega | (simp only [List.length_append, List.length_cons, List.length_nil]; omega), by omega, ?_⟩, (by omega), rfl, rfl, (lk_own (by first | rfl | (simp; done) | (simp; omega))), (lk_arr (by first | rfl | (simp; done) | (simp; omega))), (lk_int (by omega)), rfl, rfl, rfl, trivial⟩
          rw [hg, swGo_drop (by omega), if_pos c42, List.append_assoc, List.singleton_append]
        ·
          refine OK.skip ?_
          refine Ab.D.code ?_
          refine OK.reg ?_
          refine RK.c (S.move .none rfl (.tmp rfl rfl)) ?_
          refine RK.c (S.move .none rfl (.tmp rfl rfl)) ?_
          refine RK.c (S.add .none rfl (.tmp rfl rfl) (.tmp rfl rfl) (IntWalk.i64_in _ (by omega)) (IntWalk.i64_in _ (by omega))) ?_
          refine RK.c (S.assign .none rfl (.tmp rfl rfl)) ?_
          refine RK.nil ?_
          refine Ab.D.blk ?_
          refine Ab.D.code ?_
          refine OK.reg ?_
          refine RK.c (S.add .none rfl (.tmp rfl rfl) (.cint rfl) (IntWalk.i64_in _ (by omega)) (IntWalk.i64_in _ (by omega))) ?_
          refine RK.c (S.move .none rfl (.tmp rfl rfl)) ?_
          refine RK.nil ?_
          refine Ab.D.lp ⟨i + 1, u + jobs[i], out, ⟨by omega, by first | omega | (simp only [List.length_append, List.length_cons, List.length_nil]; omega), by omega, ?_⟩, (by omega), rfl, rfl, (lk_own (by first | rfl | (simp; done) | (simp; omega))), (lk_arr (by first | rfl | (simp; done) | (simp; omega))), (lk_int (by omega)), rfl, rfl, rfl, trivial⟩
          rw [hg, swGo_drop (by omega), if_neg c42]
      ·
        refine OK.exit rfl ?_
        refine Ab.D.code ?_
        refine OK.seq ?_
        refine OK.reg ?_
        refine RK.c (S.move .none rfl (.tmp rfl rfl)) ?_
        refine RK.c (S.assign .none rfl (.tmp rfl rfl)) ?_
        refine RK.c (S.assign .none rfl (.cint rfl)) ?_
        refine RK.nil ?_
        refine Ab.D.code ?_
        refine OK.ret (Ret.r2 (.tmp rfl rfl (.c (.own rfl rfl (by first | rfl | (simp; done) | (simp; omega))) rfl) rfl) (.tmp rfl rfl (.c (.same rfl) rfl) rfl) ?_)
        have hfin : swT life jobs = out := by rw [hg, show i = jobs.length by omega, List.drop_length, swGo, List.append_nil]
        rw [if_pos he, hfin, he]
        rfl

theorem ref_JobsErr {life : Int} {jobs : List Int} : Ct Try.prog 35 [.int .i64 life, ints jobs] (.int .i64 (swErr life jobs)) := by
  refine Ct.intro (rs := [.tmp 4]) Try.func35 rfl Try.ntmps35 Try.results35 rfl rfl rfl fun w h => ?_
  refine OK.seq ?_
  refine OK.reg ?_
  refine RK.c (S.assign .none rfl (.cint rfl)) ?_
  refine RK.nil ?_
  refine Ab.D.code ?_
  refine OK.seq ?_
  refine OK.seq ?_
  refine OK.reg ?_
  refine RK.c (S.move .none rfl (.tmp rfl rfl)) ?_
  refine RK.c (S.call (base_Within) Try.call45 .none rfl (.cons (.tmp rfl rfl) (.cons (.cint rfl) (.cons (.cint rfl) .nil))) rfl) ?_
  refine RK.c (S.notD .none rfl (.tmp rfl rfl)) ?_
  refine RK.nil ?_
  refine Ab.D.code ?_
  refine OK.condD rfl rfl (fun c8 => ?_) (fun c8 => ?_)
  ·
    refine OK.seq ?_
    refine OK.reg ?_
    refine RK.c (S.assign .none rfl (.cint rfl)) ?_
    refine RK.nil ?_
    refine Ab.D.code ?_
    refine OK.ret (Ret.r1 (.tmp rfl rfl (.c (.same rfl) rfl) rfl) ?_)
    refine ret_i ?_
    rw [swErr, if_pos (by simpa using c8)]
  ·
    refine OK.skip ?_
    refine Ab.D.code ?_
    refine OK.seq ?_
    refine OK.seq ?_
    refine OK.reg ?_
    refine RK.c (S.move .none rfl (.tmp rfl rfl)) ?_
    refine RK.c (S.lenM si23 .none rfl (.tmp rfl rfl)) ?_
    refine RK.c (S.gtr .none rfl (.tmp rfl rfl) (.cint rfl)) ?_
    refine RK.nil ?_
    refine Ab.D.code ?_
    refine OK.condD rfl rfl (fun c11 => ?_) (fun c11 => ?_)
    ·
      refine OK.seq ?_
      refine OK.reg ?_
      refine RK.c (S.assign .none rfl (.cint rfl)) ?_
      refine RK.nil ?_
      refine Ab.D.code ?_
      refine OK.ret (Ret.r1 (.tmp rfl rfl (.c (.same rfl) rfl) rfl) ?_)
      refine ret_i ?_
      rw [swErr, if_neg (by simpa using c8), if_pos (by omega)]
    ·
      have hlf : 1 ≤ life ∧ life ≤ 1000000 := by simpa using c8
      have hsw : swErr life jobs = (eachGo (fun _ n => jobErr life n) 0 jobs).2 := by rw [swErr, if_neg (by simpa using hlf), if_neg (by omega)]
      refine OK.skip ?_
      refine Ab.D.code ?_
      refine OK.seq ?_
      refine OK.seq ?_
      refine OK.reg ?_
      refine RK.c (S.assign .none rfl (.cint rfl)) ?_
      refine RK.nil ?_
      refine Ab.D.code ?_
      refine OK.block ?_
      refine OK.loop (G := Nat) [] (fun i => [(0, .int .i64 life), (1, ints jobs), (5, .int .i64 i)]) (fun i => i ≤ jobs.length ∧ eachGo (fun _ n => jobErr life n) 0 jobs = eachGo (fun _ n => jobErr life n) i (jobs.drop i)) (fun i => jobs.length - i) 0 ⟨Nat.zero_le _, rfl⟩ ⟨rfl, rfl, rfl, trivial⟩ (fun _ => rfl) ?_
      rintro i ⟨hi, hg⟩
      refine OK.seq ?_
      refine OK.seq ?_
      refine OK.reg ?_
      refine RK.c (S.move .none rfl (.tmp rfl rfl)) ?_
      refine RK.c (S.move .none rfl (.tmp rfl rfl)) ?_
      refine RK.c (S.lenM si23 .none rfl (.tmp rfl rfl)) ?_
      refine RK.c (S.lss .none rfl (.tmp rfl rfl) (.tmp rfl rfl)) ?_
      refine RK.nil ?_
      refine Ab.D.code ?_
      refine OK.condD rfl rfl (fun c15 => ?_) (fun c15 => ?_)
      ·
        refine OK.skip ?_
        refine Ab.D.code ?_
        refine OK.seq ?_
        refine OK.block ?_
        refine OK.seq ?_
        refine OK.seq ?_
        refine OK.reg ?_
        refine RK.c (S.move .none rfl (.tmp rfl rfl)) ?_
        refine RK.c (S.move .none rfl (.tmp rfl rfl)) ?_
        refine RK.c (S.indexM si23 .none rfl (.tmp rfl rfl) (.tmp rfl rfl) rfl (by omega) rfl) ?_
        refine RK.c (S.load1 ti3 .none rfl (.tmp rfl rfl) rfl) ?_
        refine RK.c (S.call (base_Within) Try.call45 .none rfl (.cons (.tmp rfl rfl) (.cons (.cint rfl) (.cons (.cint rfl) .nil))) rfl) ?_
        refine RK.c (S.notD .none rfl (.tmp rfl rfl)) ?_
        refine RK.nil ?_
        refine Ab.D.code ?_
        refine OK.condD rfl rfl (fun c23 => ?_) (fun c23 => ?_)
        ·
          refine OK.seq ?_
          refine OK.reg ?_
          refine RK.c (S.assign .none rfl (.cint rfl)) ?_
          refine RK.nil ?_
          refine Ab.D.code ?_
          refine OK.ret (Ret.r1 (.tmp rfl rfl (.c (.same rfl) rfl) rfl) ?_)
          have e : jobErr life jobs[i] = 2 := by
            have hc : ¬ (1 ≤ jobs[i] ∧ jobs[i] ≤ 1000000) := by simpa using c23
            rw [jobErr, if_pos hc]
          refine ret_i ?_
          rw [hsw, hg, eachGo_drop _ (by omega), e]
          rfl
        ·
          refine OK.skip ?_
          refine Ab.D.code ?_
          refine OK.seq ?_
          refine OK.reg ?_
          refine RK.c (S.move .none rfl (.tmp rfl rfl)) ?_
          refine RK.c (S.move .none rfl (.tmp rfl rfl)) ?_
          refine RK.c (S.indexM si23 .none rfl (.tmp rfl rfl) (.tmp rfl rfl) rfl (by omega) rfl) ?_
          refine RK.c (S.load1 ti3 .none rfl (.tmp rfl rfl) rfl) ?_
          refine RK.c (S.move .none rfl (.tmp rfl rfl)) ?_
          refine RK.c (S.gtr .none rfl (.tmp rfl rfl) (.tmp rfl rfl)) ?_
          refine RK.nil ?_
          refine Ab.D.code ?_
          refine OK.condD rfl rfl (fun c29 => ?_) (fun c29 => ?_)
          ·
            refine OK.seq ?_
            refine OK.reg ?_
            refine RK.c (S.assign .none rfl (.cint rfl)) ?_
            refine RK.nil ?_
            refine Ab.D.code ?_
            refine OK.ret (Ret.r1 (.tmp rfl rfl (.c (.same rfl) rfl) rfl) ?_)
            have e : jobErr life jobs[i] = 13 := by
              have hc : 1 ≤ jobs[i] ∧ jobs[i] ≤ 1000000 := by simpa using c23
              rw [jobErr, if_neg (by simpa using hc), if_neg (by omega)]
            refine ret_i ?_
            rw [hsw, hg, eachGo_drop _ (by omega), e]
            rfl
          ·
            refine OK.skip ?_
            refine Ab.D.blk ?_
            refine Ab.D.code ?_
            refine OK.reg ?_
            refine RK.c (S.move .none rfl (.tmp rfl rfl)) ?_
            refine RK.c (S.add .none rfl (.tmp rfl rfl) (.cint rfl) (IntWalk.i64_in _ (by omega)) (IntWalk.i64_in _ (by omega))) ?_
            refine RK.c (S.assign .none rfl (.tmp rfl rfl)) ?_
            refine RK.nil ?_
            refine Ab.D.lp ⟨i + 1, ⟨by omega, ?_⟩, (by omega), rfl, rfl, rfl, trivial⟩
            have e : jobErr life jobs[i] = 0 := by
              have hc : 1 ≤ jobs[i] ∧ jobs[i] ≤ 1000000 := by simpa using c23
              rw [jobErr, if_neg (by simpa using hc), if_pos (by omega)]
            rw [hg, eachGo_drop _ (by omega), e]
            rfl
      ·
        refine OK.exit rfl ?_
        refine Ab.D.code ?_
        refine OK.seq ?_
        refine OK.reg ?_
        refine RK.c (S.assign .none rfl (.cint rfl)) ?_
        refine RK.nil ?_
        refine Ab.D.code ?_
        refine OK.ret (Ret.r1 (.tmp rfl rfl (.c (.same rfl) rfl) rfl) ?_)
        refine ret_i ?_
        rw [hsw, hg, show i = jobs.length by omega, List.drop_length]
        rfl

theorem ref_Swaps {life : Int} {jobs : List Int} (hjt : JobsT life jobs) : Ct Try.prog 36 [.int .i64 life, ints jobs] (ints (swT life jobs)) := by
  refine Ct.intro (rs := [.tmp 4]) Try.func36 rfl Try.ntmps36 Try.results36 rfl rfl rfl fun w h => ?_
  have hjl := hjt.len
  refine OK.seq ?_
  refine OK.reg ?_
  refine RK.c (S.assign .none rfl .cnil) ?_
  refine RK.nil ?_
  refine Ab.D.code ?_
  refine OK.seq ?_
  refine OK.reg ?_
  refine RK.c (S.nilOwn (k := 5) (sz := 1) .none rfl) ?_
  refine RK.nil ?_
  refine Ab.D.code ?_
  refine OK.seq ?_
  refine OK.reg ?_
  refine RK.c (S.assign .none rfl (.cint rfl)) ?_
  refine RK.nil ?_
  refine Ab.D.code ?_
  refine OK.seq ?_
  refine OK.seq ?_
  refine OK.reg ?_
  refine RK.c (S.assign .none rfl (.cint rfl)) ?_
  refine RK.nil ?_
  refine Ab.D.code ?_
  refine OK.block ?_
  refine OK.loop3 [5] (fun (i : Nat) (u : Int) (out : List Int) => [(0, .int .i64 life), (1, ints jobs), (5, .own 5 out.length), (2005, .arr 1 (out.map fun n => [.int .i64 n])), (6, .int .i64 u), (7, .int .i64 i)]) (fun i u out => i ≤ jobs.length ∧ out.length ≤ i ∧ (0 ≤ u ∧ u ≤ 1000000) ∧ swT life jobs = out ++ swGo life i u (jobs.drop i)) (fun i u out => jobs.length - i) (0) (0) ([]) ⟨Nat.zero_le _, Nat.le_refl _, by omega, rfl⟩ ⟨rfl, rfl, (lk_own (by first | rfl | (simp; done) | (simp; omega))), (lk_arr (by first | rfl | (simp; done) | (simp; omega))), rfl, rfl, trivial⟩ (fun _ _ _ => rfl) ?_
  rintro i u out ⟨hi, ho, hu, hg⟩
  refine OK.seq ?_
  refine OK.seq ?_
  refine OK.reg ?_
  refine RK.c (S.move .none rfl (.tmp rfl rfl)) ?_
  refine RK.c (S.move .none rfl (.tmp rfl rfl)) ?_
  refine RK.c (S.lenM si23 .none rfl (.tmp rfl rfl)) ?_
  refine RK.c (S.lss .none rfl (.tmp rfl rfl) (.tmp rfl rfl)) ?_
  refine RK.nil ?_
  refine Ab.D.code ?_
  refine OK.condD rfl rfl (fun c11 => ?_) (fun c11 => ?_)
  ·
    have hj := hjt.job i (by omega)
    have hlf := hjt.lf
    refine OK.skip ?_
    refine Ab.D.code ?_
    refine OK.seq ?_
    refine OK.block ?_
    refine OK.seq ?_
    refine OK.seq ?_
    refine OK.reg ?_
    refine RK.c (S.move .none rfl (.tmp rfl rfl)) ?_
    refine RK.c (S.move .none rfl (.tmp rfl rfl)) ?_
    refine RK.c (S.move .none rfl (.tmp rfl rfl)) ?_
    refine RK.c (S.indexM si23 .none rfl (.tmp rfl rfl) (.tmp rfl rfl) rfl (by omega) rfl) ?_
    refine RK.c (S.load1 ti3 .none rfl (.tmp rfl rfl) rfl) ?_
    refine RK.c (S.add .none rfl (.tmp rfl rfl) (.tmp rfl rfl) (IntWalk.i64_in _ (by omega)) (IntWalk.i64_in _ (by omega))) ?_
    refine RK.c (S.move .none rfl (.tmp rfl rfl)) ?_
    refine RK.c (S.gtr .none rfl (.tmp rfl rfl) (.tmp rfl rfl)) ?_
    refine RK.nil ?_
    refine Ab.D.code ?_
    refine OK.condD rfl rfl (fun c21 => ?_) (fun c21 => ?_)
    ·
      refine OK.reg ?_
      refine RK.c (S.move .none rfl (.tmp rfl rfl)) ?_
      refine RK.c (S.move .none rfl (.tmp rfl rfl)) ?_
      refine RK.c (S.mkSlice (k := 24) (rows := [[_]]) ai23 .none rfl (.cons (.tmp rfl rfl) .nil) rfl rfl rfl rfl rfl rfl rfl) ?_
      refine RK.c (S.append ai23 .none rfl (.tmp rfl rfl) rfl (by simp) (.tmp rfl rfl) rfl (by first | rfl | (simp; done) | (simp; omega)) (by omega) (by simp only [maxLen]; omega)) ?_
      refine RK.c (S.assign .none rfl (.tmp rfl rfl)) ?_
      refine RK.c (S.assign .none rfl (.cint rfl)) ?_
      refine RK.nil ?_
      refine Ab.D.code ?_
      refine OK.reg ?_
      refine RK.c (S.move .none rfl (.tmp rfl rfl)) ?_
      refine RK.c (S.move .none rfl (.tmp rfl rfl)) ?_
      refine RK.c (S.move .none rfl (.tmp rfl rfl)) ?_
      refine RK.c (S.indexM si23 .none rfl (.tmp rfl rfl) (.tmp rfl rfl) rfl (by omega) rfl) ?_
      refine RK.c (S.load1 ti3 .none rfl (.tmp rfl rfl) rfl) ?_
      refine RK.c (S.add .none rfl (.tmp rfl rfl) (.tmp rfl rfl) (IntWalk.i64_in _ (by omega)) (IntWalk.i64_in _ (by omega))) ?_
      refine RK.c (S.assign .none rfl (.tmp rfl rfl)) ?_
      refine RK.nil ?_
      refine Ab.D.blk ?_
      refine Ab.D.code ?_
      refine OK.reg ?_
      refine RK.c (S.move .none rfl (.tmp rfl rfl)) ?_
      refine RK.c (S.add .none rfl (.tmp rfl rfl) (.cint rfl) (IntWalk.i64_in _ (by omega)) (IntWalk.i64_in _ (by omega))) ?_
      refine RK.c (S.assign .none rfl (.tmp rfl rfl)) ?_
      refine RK.nil ?_
      refine Ab.D.lp ⟨i + 1, jobs[i], out ++ [(i : Int)], ⟨by omega, by first | omega | (simp only [List.length_append, List.length_cons, List.length_nil]; omega), by omega, ?_⟩, (by omega), rfl, rfl, (lk_own (by first | rfl | (simp; done) | (simp; omega))), (lk_arr (by first | rfl | (simp; done) | (simp; omega))), (lk_int (by omega)), rfl, trivial⟩
      rw [hg, swGo_drop (by omega), if_pos c21, List.append_assoc, List.singleton_append]
    ·
      refine OK.skip ?_
      refine Ab.D.code ?_
      refine OK.reg ?_
      refine RK.c (S.move .none rfl (.tmp rfl rfl)) ?_
      refine RK.c (S.move .none rfl (.tmp rfl rfl)) ?_
      refine RK.c (S.move .none rfl (.tmp rfl rfl)) ?_
      refine RK.c (S.indexM si23 .none rfl (.tmp rfl rfl) (.tmp rfl rfl) rfl (by omega) rfl) ?_
      refine RK.c (S.load1 ti3 .none rfl (.tmp rfl rfl) rfl) ?_
      refine RK.c (S.add .none rfl (.tmp rfl rfl) (.tmp rfl rfl) (IntWalk.i64_in _ (by omega)) (IntWalk.i64_in _ (by omega))) ?_
      refine RK.c (S.assign .none rfl (.tmp rfl rfl)) ?_
      refine RK.nil ?_
      refine Ab.D.blk ?_
      refine Ab.D.code ?_
      refine OK.reg ?_
      refine RK.c (S.move .none rfl (.tmp rfl rfl)) ?_
      refine RK.c (S.add .none rfl (.tmp rfl rfl) (.cint rfl) (IntWalk.i64_in _ (by omega)) (IntWalk.i64_in _ (by omega))) ?_
      refine RK.c (S.assign .none rfl (.tmp rfl rfl)) ?_
      refine RK.nil ?_
      refine Ab.D.lp ⟨i + 1, u + jobs[i], out, ⟨by omega, by first | omega | (simp only [List.length_append, List.length_cons, List.length_nil]; omega), by omega, ?_⟩, (by omega), rfl, rfl, (lk_own (by first | rfl | (simp; done) | (simp; omega))), (lk_arr (by first | rfl | (simp; done) | (simp; omega))), (lk_int (by omega)), rfl, trivial⟩
      rw [hg, swGo_drop (by omega), if_neg c21]
  ·
    refine OK.exit rfl ?_
    refine Ab.D.code ?_
    refine OK.seq ?_
    refine OK.reg ?_
    refine RK.c (S.move .none rfl (.tmp rfl rfl)) ?_
    refine RK.c (S.assign .none rfl (.tmp rfl rfl)) ?_
    refine RK.nil ?_
    refine Ab.D.code ?_
    refine OK.ret (Ret.r1 (.tmp rfl rfl (.c (.own rfl rfl (by first | rfl | (simp; done) | (simp; omega))) rfl) rfl) ?_)
    rw [hg, show i = jobs.length by omega, List.drop_length, swGo, List.append_nil]
    rfl

theorem law_lasts {life : Int} {jobs sw : List Int} (hjt : JobsT life jobs) (hsl : sw.length ≤ 30) : Ct Try.prog 37 [.int .i64 life, ints jobs, ints sw] (.bool (lastsT life jobs sw)) := by
  refine Ct.intro (rs := [.tmp 6]) Try.func37 rfl Try.ntmps37 Try.results37 rfl rfl rfl fun w h => ?_
  have hjl := hjt.len
  refine OK.seq ?_
  refine OK.reg ?_
  refine RK.c (S.assign .none rfl .cbool) ?_
  refine RK.nil ?_
  refine Ab.D.code ?_
  refine OK.seq ?_
  refine OK.seq ?_
  refine OK.reg ?_
  refine RK.c (S.assign .none rfl (.cint rfl)) ?_
  refine RK.nil ?_
  refine Ab.D.code ?_
  refine OK.block ?_
  refine OK.loop (G := Nat) [] (fun i => [(0, .int .i64 life), (1, ints jobs), (2, ints sw), (7, .int .i64 i)]) (fun i => i ≤ sw.length ∧ upTo (jobs.length - 1) sw i = true) (fun i => sw.length - i) 0 ⟨Nat.zero_le _, rfl⟩ ⟨rfl, rfl, rfl, rfl, trivial⟩ (fun _ => rfl) ?_
  rintro i ⟨hi, hg⟩
  refine OK.seq ?_
  refine OK.seq ?_
  refine OK.reg ?_
  refine RK.c (S.move .none rfl (.tmp rfl rfl)) ?_
  refine RK.c (S.move .none rfl (.tmp rfl rfl)) ?_
  refine RK.c (S.lenM si23 .none rfl (.tmp rfl rfl)) ?_
  refine RK.c (S.lss .none rfl (.tmp rfl rfl) (.tmp rfl rfl)) ?_
  refine RK.nil ?_
  refine Ab.D.code ?_
  refine OK.condD rfl rfl (fun c13 => ?_) (fun c13 => ?_)
  ·
    have hgi : sw.getD i 0 = sw[i] := getD_at (by omega)
    refine OK.skip ?_
    refine Ab.D.code ?_
    refine OK.seq ?_
    refine OK.block ?_
    refine OK.seq ?_
    by_cases g25 : ¬ (0 ≤ sw[i] ∧ sw[i] ≤ (jobs.length : Int) - 1)
    ·
      refine OK.regionDraw follows (.c (S.move .none rfl (.tmp rfl rfl))
        (.c (S.move .none rfl (.tmp rfl rfl))
        (.c (S.indexM si23 .none rfl (.tmp rfl rfl) (.tmp rfl rfl) rfl (by omega) rfl)
        (.c (S.load1 ti3 .none rfl (.tmp rfl rfl) rfl)
        (.c (S.move .none rfl (.tmp rfl rfl))
        (.c (S.lenM si23 .none rfl (.tmp rfl rfl))
        (.c (S.sub .none rfl (.tmp rfl rfl) (.cint rfl) (IntWalk.i64_in _ (by omega)) (IntWalk.i64_in _ (by omega)))
        (.c (S.call (base_Within) Try.call45 .none rfl (.cons (.tmp rfl rfl) (.cons (.cint rfl) (.cons (.tmp rfl rfl) .nil))) rfl)
        (.c (S.notD .none rfl (.tmp rfl rfl))
        (.c (S.move .none rfl (.tmp rfl rfl))
        (.c (S.skip rfl rfl rfl (by simp [*]) rfl)
        (.c (S.skip rfl rfl rfl (by simp [*]) rfl)
        (.c (S.skip rfl rfl rfl (by simp [*]) rfl)
        (.c (S.skipU rfl rfl rfl rfl)
        (.c (S.skipU rfl rfl rfl rfl)
        (.c (S.skipU rfl rfl rfl rfl)
        (.c (S.skipU rfl rfl rfl rfl)
        (.c (S.skipU rfl rfl rfl rfl)
        (.c (S.skipU rfl rfl rfl rfl)
        (.c (S.skipU rfl rfl rfl rfl)
        (.c (S.skipU rfl rfl rfl rfl)
        (.c (S.skipU rfl rfl rfl rfl)
        (.c (S.skipU rfl rfl rfl rfl)
        (.c (S.skip rfl rfl rfl (by simp [*]) rfl)
        (.c (S.pickT .none rfl (.tmp rfl rfl) .cbool (by simp [*]))
        .nil))))))))))))))))))))))))) (by kernel_rfl) ?_
      refine Ab.D.code ?_
      refine OK.condT rfl rfl rfl ?_
      refine OK.seq ?_
      refine OK.reg ?_
      refine RK.c (S.assign .none rfl .cbool) ?_
      refine RK.nil ?_
      refine Ab.D.code ?_
      refine OK.ret (Ret.r1 (.tmp rfl rfl (.c (.same rfl) rfl) rfl) ?_)
      refine ret_b ?_
      rw [lastsT, upTo_false (i := i) (by omega) (by unfold stepOk; rw [hgi, decide_eq_false g25, Bool.false_and]), Bool.false_and]
    ·
      by_cases g28 : 0 < i
      ·
        refine OK.regionDraw follows (.c (S.move .none rfl (.tmp rfl rfl))
          (.c (S.move .none rfl (.tmp rfl rfl))
          (.c (S.indexM si23 .none rfl (.tmp rfl rfl) (.tmp rfl rfl) rfl (by omega) rfl)
          (.c (S.load1 ti3 .none rfl (.tmp rfl rfl) rfl)
          (.c (S.move .none rfl (.tmp rfl rfl))
          (.c (S.lenM si23 .none rfl (.tmp rfl rfl))
          (.c (S.sub .none rfl (.tmp rfl rfl) (.cint rfl) (IntWalk.i64_in _ (by omega)) (IntWalk.i64_in _ (by omega)))
          (.c (S.call (base_Within) Try.call45 .none rfl (.cons (.tmp rfl rfl) (.cons (.cint rfl) (.cons (.tmp rfl rfl) .nil))) rfl)
          (.c (S.notD .none rfl (.tmp rfl rfl))
          (.c (S.move .none rfl (.tmp rfl rfl))
          (.c (S.move (.yes rfl rfl rfl (by simp [*])) rfl (.tmp rfl rfl))
          (.c (S.gtr (.yes rfl rfl rfl (by simp [*])) rfl (.tmp rfl rfl) (.cint rfl))
          (.c (S.move (.yes rfl rfl rfl (by simp [*])) rfl (.tmp rfl rfl))
          (.c (S.move (.yes rfl rfl rfl (by simp [*])) rfl (.tmp rfl rfl))
          (.c (S.move (.yes rfl rfl rfl (by simp [*])) rfl (.tmp rfl rfl))
          (.c (S.indexM si23 (.yes rfl rfl rfl (by simp [*])) rfl (.tmp rfl rfl) (.tmp rfl rfl) rfl (by omega) rfl)
          (.c (S.load1 ti3 (.yes rfl rfl rfl (by simp [*])) rfl (.tmp rfl rfl) rfl)
          (.c (S.move (.yes rfl rfl rfl (by simp [*])) rfl (.tmp rfl rfl))
          (.c (S.move (.yes rfl rfl rfl (by simp [*])) rfl (.tmp rfl rfl))
          (.c (S.sub (.yes rfl rfl rfl (by simp [*])) rfl (.tmp rfl rfl) (.cint rfl) (IntWalk.i64_in _ (by omega)) (IntWalk.i64_in _ (by omega)))
          (.c (S.indexM (n := (i - 1)) si23 (.yes rfl rfl rfl (by simp [*])) rfl (.tmp rfl rfl) (.tmp rfl rfl) (by omega) (by omega) rfl)
          (.c (S.load1 ti3 (.yes rfl rfl rfl (by simp [*])) rfl (.tmp rfl rfl) rfl)
          (.c (S.leq (.yes rfl rfl rfl (by simp [*])) rfl (.tmp rfl rfl) (.tmp rfl rfl))
          (.c (S.pickT (.yes rfl rfl rfl (by simp [*])) rfl (.tmp rfl rfl) (.tmp rfl rfl) (by simp [*]))
          (.c (S.pickF .none rfl (.tmp rfl rfl) (.tmp rfl rfl) (by simp [*]))
          .nil))))))))))))))))))))))))) (by kernel_rfl) ?_
        refine Ab.D.code ?_
        refine OK.condD rfl rfl (fun c40 => ?_) (fun c40 => ?_)
        ·
          refine OK.seq ?_
          refine OK.reg ?_
          refine RK.c (S.assign .none rfl .cbool) ?_
          refine RK.nil ?_
          refine Ab.D.code ?_
          refine OK.ret (Ret.r1 (.tmp rfl rfl (.c (.same rfl) rfl) rfl) ?_)
          refine ret_b ?_
          rw [lastsT, upTo_false (i := i) (by omega) (by unfold stepOk; rw [hgi, getD_at (show i - 1 < sw.length by omega), decide_eq_false (p := i = 0) (by omega), decide_eq_false (p := sw[i - 1] < sw[i]) (by omega)]; simp), Bool.false_and]
        ·
          refine OK.skip ?_
          refine Ab.D.blk ?_
          refine Ab.D.code ?_
          refine OK.reg ?_
          refine RK.c (S.move .none rfl (.tmp rfl rfl)) ?_
          refine RK.c (S.add .none rfl (.tmp rfl rfl) (.cint rfl) (IntWalk.i64_in _ (by omega)) (IntWalk.i64_in _ (by omega))) ?_
          refine RK.c (S.assign .none rfl (.tmp rfl rfl)) ?_
          refine RK.nil ?_
          refine Ab.D.lp ⟨i + 1, ⟨by omega, ?_⟩, (by omega), rfl, rfl, rfl, rfl, trivial⟩
          rw [upTo_succ, hg, Bool.true_and]
          unfold stepOk
          rw [hgi]
          simp only [Bool.and_eq_true, decide_eq_true_eq, Bool.or_eq_true]
          first | (refine ⟨Decidable.not_not.1 g25, .inr ?_⟩; rw [getD_at (show i - 1 < sw.length by omega)]; omega) | exact ⟨Decidable.not_not.1 g25, .inl (by omega)⟩
      ·
        refine OK.regionDraw follows (.c (S.move .none rfl (.tmp rfl rfl))
          (.c (S.move .none rfl (.tmp rfl rfl))
          (.c (S.indexM si23 .none rfl (.tmp rfl rfl) (.tmp rfl rfl) rfl (by omega) rfl)
          (.c (S.load1 ti3 .none rfl (.tmp rfl rfl) rfl)
          (.c (S.move .none rfl (.tmp rfl rfl))
          (.c (S.lenM si23 .none rfl (.tmp rfl rfl))
          (.c (S.sub .none rfl (.tmp rfl rfl) (.cint rfl) (IntWalk.i64_in _ (by omega)) (IntWalk.i64_in _ (by omega)))
          (.c (S.call (base_Within) Try.call45 .none rfl (.cons (.tmp rfl rfl) (.cons (.cint rfl) (.cons (.tmp rfl rfl) .nil))) rfl)
          (.c (S.notD .none rfl (.tmp rfl rfl))
          (.c (S.move .none rfl (.tmp rfl rfl))
          (.c (S.move (.yes rfl rfl rfl (by simp [*])) rfl (.tmp rfl rfl))
          (.c (S.gtr (.yes rfl rfl rfl (by simp [*])) rfl (.tmp rfl rfl) (.cint rfl))
          (.c (S.move (.yes rfl rfl rfl (by simp [*])) rfl (.tmp rfl rfl))
          (.c (S.skip rfl rfl rfl (by simp [*]) rfl)
          (.c (S.skip rfl rfl rfl (by simp [*]) rfl)
          (.c (S.skip rfl rfl rfl (by simp [*]) rfl)
          (.c (S.skip rfl rfl rfl (by simp [*]) rfl)
          (.c (S.skip rfl rfl rfl (by simp [*]) rfl)
          (.c (S.skip rfl rfl rfl (by simp [*]) rfl)
          (.c (S.skip rfl rfl rfl (by simp [*]) rfl)
          (.c (S.skip rfl rfl rfl (by simp [*]) rfl)
          (.c (S.skip rfl rfl rfl (by simp [*]) rfl)
          (.c (S.skip rfl rfl rfl (by simp [*]) rfl)
          (.c (S.pickF (.yes rfl rfl rfl (by simp [*])) rfl (.tmp rfl rfl) .cbool (by simp [*]))
          (.c (S.pickF .none rfl (.tmp rfl rfl) (.tmp rfl rfl) (by simp [*]))
          .nil))))))))))))))))))))))))) (by kernel_rfl) ?_
        refine Ab.D.code ?_
        refine OK.condF rfl rfl rfl ?_
        refine OK.skip ?_
        refine Ab.D.blk ?_
        refine Ab.D.code ?_
        refine OK.reg ?_
        refine RK.c (S.move .none rfl (.tmp rfl rfl)) ?_
        refine RK.c (S.add .none rfl (.tmp rfl rfl) (.cint rfl) (IntWalk.i64_in _ (by omega)) (IntWalk.i64_in _ (by omega))) ?_
        refine RK.c (S.assign .none rfl (.tmp rfl rfl)) ?_
        refine RK.nil ?_
        refine Ab.D.lp ⟨i + 1, ⟨by omega, ?_⟩, (by omega), rfl, rfl, rfl, rfl, trivial⟩
        rw [upTo_succ, hg, Bool.true_and]
        unfold stepOk
        rw [hgi]
        simp only [Bool.and_eq_true, decide_eq_true_eq, Bool.or_eq_true]
        first | (refine ⟨Decidable.not_not.1 g25, .inr ?_⟩; rw [getD_at (show i - 1 < sw.length by omega)]; omega) | exact ⟨Decidable.not_not.1 g25, .inl (by omega)⟩
  ·
    refine OK.exit rfl ?_
    refine Ab.D.code ?_
    refine OK.seq ?_
    refine OK.reg ?_
    refine RK.c (S.assign .none rfl (.cint rfl)) ?_
    refine RK.nil ?_
    refine Ab.D.code ?_
    refine OK.seq ?_
    refine OK.seq ?_
    refine OK.reg ?_
    refine RK.c (S.assign .none rfl (.cint rfl)) ?_
    refine RK.nil ?_
    refine Ab.D.code ?_
    refine OK.block ?_
    refine OK.loop2 [] (fun (i2 : Nat) (u : Int) => [(0, .int .i64 life), (1, ints jobs), (2, ints sw), (8, .int .i64 u), (9, .int .i64 i2)]) (fun i2 u => i2 ≤ jobs.length ∧ (0 ≤ u ∧ u ≤ 1000000) ∧ useGo life sw 0 0 jobs = useGo life sw i2 u (jobs.drop i2)) (fun i2 u => jobs.length - i2) (0) (0) ⟨Nat.zero_le _, by omega, rfl⟩ ⟨rfl, rfl, rfl, rfl, rfl, trivial⟩ (fun _ _ => rfl) ?_
    rintro i2 u ⟨hi2, hu, hg2⟩
    refine OK.seq ?_
    refine OK.seq ?_
    refine OK.reg ?_
    refine RK.c (S.move .none rfl (.tmp rfl rfl)) ?_
    refine RK.c (S.move .none rfl (.tmp rfl rfl)) ?_
    refine RK.c (S.lenM si23 .none rfl (.tmp rfl rfl)) ?_
    refine RK.c (S.lss .none rfl (.tmp rfl rfl) (.tmp rfl rfl)) ?_
    refine RK.nil ?_
    refine Ab.D.code ?_
    refine OK.condD rfl rfl (fun c44 => ?_) (fun c44 => ?_)
    ·
      have hj := hjt.job i2 (by omega)
      have hlf := hjt.lf
      refine OK.skip ?_
      refine Ab.D.code ?_
      refine OK.seq ?_
      refine OK.block ?_
      refine OK.seq ?_
      refine OK.seq ?_
      refine OK.reg ?_
      refine RK.c (S.move .none rfl (.tmp rfl rfl)) ?_
      refine RK.c (S.move .none rfl (.tmp rfl rfl)) ?_
      refine RK.c (S.call (base_Has) Try.call76 .none rfl (.cons (.tmp rfl rfl) (.cons (.tmp rfl rfl) .nil)) rfl) ?_
      refine RK.nil ?_
      refine Ab.D.code ?_
      refine OK.cond rfl rfl (fun c49 => ?_) (fun c49 => ?_)
      ·
        refine OK.reg ?_
        refine RK.c (S.assign .none rfl (.cint rfl)) ?_
        refine RK.nil ?_
        refine Ab.D.code ?_
        refine OK.seq ?_
        refine OK.reg ?_
        refine RK.c (S.move .none rfl (.tmp rfl rfl)) ?_
        refine RK.c (S.move .none rfl (.tmp rfl rfl)) ?_
        refine RK.c (S.move .none rfl (.tmp rfl rfl)) ?_
        refine RK.c (S.indexM si23 .none rfl (.tmp rfl rfl) (.tmp rfl rfl) rfl (by omega) rfl) ?_
        refine RK.c (S.load1 ti3 .none rfl (.tmp rfl rfl) rfl) ?_
        refine RK.c (S.add .none rfl (.tmp rfl rfl) (.tmp rfl rfl) (IntWalk.i64_in _ (by omega)) (IntWalk.i64_in _ (by omega))) ?_
        refine RK.c (S.assign .none rfl (.tmp rfl rfl)) ?_
        refine RK.nil ?_
        refine Ab.D.code ?_
        refine OK.seq ?_
        refine OK.reg ?_
        refine RK.c (S.move .none rfl (.tmp rfl rfl)) ?_
        refine RK.c (S.move .none rfl (.tmp rfl rfl)) ?_
        refine RK.c (S.gtr .none rfl (.tmp rfl rfl) (.tmp rfl rfl)) ?_
        refine RK.nil ?_
        refine Ab.D.code ?_
        refine OK.condD rfl rfl (fun c58 => ?_) (fun c58 => ?_)
        ·
          refine OK.seq ?_
          refine OK.reg ?_
          refine RK.c (S.assign .none rfl .cbool) ?_
          refine RK.nil ?_
          refine Ab.D.code ?_
          refine OK.ret (Ret.r1 (.tmp rfl rfl (.c (.same rfl) rfl) rfl) ?_)
          refine ret_b ?_
          rw [lastsT, hg2, useGo_drop (by omega)]
          simp only [c49, if_true, Bool.false_eq_true, if_false]
          rw [if_pos c58, Bool.and_false]
        ·
          refine OK.skip ?_
          refine Ab.D.blk ?_
          refine Ab.D.code ?_
          refine OK.reg ?_
          refine RK.c (S.move .none rfl (.tmp rfl rfl)) ?_
          refine RK.c (S.add .none rfl (.tmp rfl rfl) (.cint rfl) (IntWalk.i64_in _ (by omega)) (IntWalk.i64_in _ (by omega))) ?_
          refine RK.c (S.assign .none rfl (.tmp rfl rfl)) ?_
          refine RK.nil ?_
          refine Ab.D.lp ⟨i2 + 1, 0 + jobs[i2], ⟨by omega, by omega, ?_⟩, (by omega), rfl, rfl, rfl, rfl, rfl, trivial⟩
          rw [hg2, useGo_drop (by omega)]
          simp only [c49, if_true, Bool.false_eq_true, if_false]
          rw [if_neg c58]
      ·
        refine OK.skip ?_
        refine Ab.D.code ?_
        refine OK.seq ?_
        refine OK.reg ?_
        refine RK.c (S.move .none rfl (.tmp rfl rfl)) ?_
        refine RK.c (S.move .none rfl (.tmp rfl rfl)) ?_
        refine RK.c (S.move .none rfl (.tmp rfl rfl)) ?_
        refine RK.c (S.indexM si23 .none rfl (.tmp rfl rfl) (.tmp rfl rfl) rfl (by omega) rfl) ?_
        refine RK.c (S.load1 ti3 .none rfl (.tmp rfl rfl) rfl) ?_
        refine RK.c (S.add .none rfl (.tmp rfl rfl) (.tmp rfl rfl) (IntWalk.i64_in _ (by omega)) (IntWalk.i64_in _ (by omega))) ?_
        refine RK.c (S.assign .none rfl (.tmp rfl rfl)) ?_
        refine RK.nil ?_
        refine Ab.D.code ?_
        refine OK.seq ?_
        refine OK.reg ?_
        refine RK.c (S.move .none rfl (.tmp rfl rfl)) ?_
        refine RK.c (S.move .none rfl (.tmp rfl rfl)) ?_
        refine RK.c (S.gtr .none rfl (.tmp rfl rfl) (.tmp rfl rfl)) ?_
        refine RK.nil ?_
        refine Ab.D.code ?_
        refine OK.condD rfl rfl (fun c58 => ?_) (fun c58 => ?_)
        ·
          refine OK.seq ?_
          refine OK.reg ?_
          refine RK.c (S.assign .none rfl .cbool) ?_
          refine RK.nil ?_
          refine Ab.D.code ?_
          refine OK.ret (Ret.r1 (.tmp rfl rfl (.c (.same rfl) rfl) rfl) ?_)
          refine ret_b ?_
          rw [lastsT, hg2, useGo_drop (by omega)]
          simp only [c49, if_true, Bool.false_eq_true, if_false]
          rw [if_pos c58, Bool.and_false]
        ·
          refine OK.skip ?_
          refine Ab.D.blk ?_
          refine Ab.D.code ?_
          refine OK.reg ?_
          refine RK.c (S.move .none rfl (.tmp rfl rfl)) ?_
          refine RK.c (S.add .none rfl (.tmp rfl rfl) (.cint rfl) (IntWalk.i64_in _ (by omega)) (IntWalk.i64_in _ (by omega))) ?_
          refine RK.c (S.assign .none rfl (.tmp rfl rfl)) ?_
          refine RK.nil ?_
          refine Ab.D.lp ⟨i2 + 1, u + jobs[i2], ⟨by omega, by omega, ?_⟩, (by omega), rfl, rfl, rfl, rfl, rfl, trivial⟩
          rw [hg2, useGo_drop (by omega)]
          simp only [c49, if_true, Bool.false_eq_true, if_false]
          rw [if_neg c58]
    ·
      refine OK.exit rfl ?_
      refine Ab.D.code ?_
      refine OK.seq ?_
      refine OK.reg ?_
      refine RK.c (S.assign .none rfl .cbool) ?_
      refine RK.nil ?_
      refine Ab.D.code ?_
      refine OK.ret (Ret.r1 (.tmp rfl rfl (.c (.same rfl) rfl) rfl) ?_)
      refine ret_b ?_
      have ha : ascT (jobs.length - 1) sw = true := by
        have := hg
        rw [show i = sw.length by omega] at this
        exact this
      rw [lastsT, ha, hg2, show i2 = jobs.length by omega, List.drop_length]
      rfl

theorem law_MonitorSwaps {life : Int} {jobs other : List Int} : Ct Try.prog 6 [.int .i64 life, ints jobs, ints other] (.bool true) := by
  refine Ct.intro (rs := [.tmp 6]) Try.func6 rfl Try.ntmps6 Try.results6 rfl rfl rfl fun w h => ?_
  refine OK.seq ?_
  refine OK.reg ?_
  refine RK.c (S.assign .none rfl .cbool) ?_
  refine RK.nil ?_
  refine Ab.D.code ?_
  refine OK.seq ?_
  refine OK.seq ?_
  refine OK.reg ?_
  refine RK.c (S.call (law_awake) Try.call9 .none rfl .nil rfl) ?_
  refine RK.c (S.not .none rfl (.tmp rfl rfl)) ?_
  refine RK.nil ?_
  refine Ab.D.code ?_
  refine OK.condF rfl rfl rfl ?_
  refine OK.skip ?_
  refine Ab.D.code ?_
  refine OK.seq ?_
  refine OK.seq ?_
  refine OK.reg ?_
  refine RK.c (S.move .none rfl (.tmp rfl rfl)) ?_
  refine RK.c (S.lenM si23 .none rfl (.tmp rfl rfl)) ?_
  refine RK.c (S.gtr .none rfl (.tmp rfl rfl) (.cint rfl)) ?_
  refine RK.c (S.move .none rfl (.tmp rfl rfl)) ?_
  refine RK.splitD (t := 15) rfl (fun g15 => ?_) (fun g15 => ?_)
  ·
    refine RK.c (S.skip rfl rfl rfl rfl rfl) ?_
    refine RK.c (S.skip rfl rfl rfl rfl rfl) ?_
    refine RK.c (S.skip rfl rfl rfl rfl rfl) ?_
    refine RK.c (S.pickT .none rfl (.tmp rfl rfl) .cbool rfl) ?_
    refine RK.nil ?_
    refine Ab.D.code ?_
    refine OK.condT rfl rfl rfl ?_
    refine OK.seq ?_
    refine OK.reg ?_
    refine RK.c (S.assign .none rfl .cbool) ?_
    refine RK.nil ?_
    refine Ab.D.code ?_
    refine OK.ret (Ret.r1 (.tmp rfl rfl (.c (.same rfl) rfl) rfl) ?_)
    first | rfl | (refine ret_abs ?_; omega) | (refine ret_dT ?_; rw [if_neg c31]; rfl) | (refine ret_abs ?_; simp only [hsw, hlast, decide_true, Bool.not_true, Bool.false_eq_true] at *; done) | (refine ret_abs ?_; simp [he] at g50; done) | (refine ret_dT ?_; rw [hsw]; have := hmin (by simpa using g62); omega)
  ·
    refine RK.c (S.move (.yes rfl rfl rfl rfl) rfl (.tmp rfl rfl)) ?_
    refine RK.c (S.lenM si23 (.yes rfl rfl rfl rfl) rfl (.tmp rfl rfl)) ?_
    refine RK.c (S.gtr (.yes rfl rfl rfl rfl) rfl (.tmp rfl rfl) (.cint rfl)) ?_
    refine RK.c (S.pickF .none rfl (.tmp rfl rfl) (.tmp rfl rfl) rfl) ?_
    refine RK.nil ?_
    refine Ab.D.code ?_
    refine OK.condD rfl rfl (fun c19 => ?_) (fun c19 => ?_)
    ·
      refine OK.seq ?_
      refine OK.reg ?_
      refine RK.c (S.assign .none rfl .cbool) ?_
      refine RK.nil ?_
      refine Ab.D.code ?_
      refine OK.ret (Ret.r1 (.tmp rfl rfl (.c (.same rfl) rfl) rfl) ?_)
      first | rfl | (refine ret_abs ?_; omega) | (refine ret_dT ?_; rw [if_neg c31]; rfl) | (refine ret_abs ?_; simp only [hsw, hlast, decide_true, Bool.not_true, Bool.false_eq_true] at *; done) | (refine ret_abs ?_; simp [he] at g50; done) | (refine ret_dT ?_; rw [hsw]; have := hmin (by simpa using g62); omega)
    ·
      refine OK.skip ?_
      refine Ab.D.code ?_
      refine OK.seq ?_
      refine OK.reg ?_
      refine RK.c (S.move .none rfl (.tmp rfl rfl)) ?_
      refine RK.c (S.move .none rfl (.tmp rfl rfl)) ?_
      refine RK.c (S.call (base_CopyInts (by omega)) Try.call13 .none rfl (.cons (.tmp rfl rfl) .nil) rfl) ?_
      refine RK.c (S.call (mon_SwapsOf) Try.call34 .none rfl (.cons (.tmp rfl rfl) (.cons (.tmp rfl rfl) .nil)) rfl) ?_
      refine RK.c (S.move .none rfl (.tmp rfl rfl)) ?_
      refine RK.c (S.extract .none rfl (.tmp rfl rfl) rfl rfl) ?_
      refine RK.c (S.extract .none rfl (.tmp rfl rfl) rfl rfl) ?_
      refine RK.c (S.assign .none rfl (.tmp rfl rfl)) ?_
      refine RK.c (S.assign .none rfl (.tmp rfl rfl)) ?_
      refine RK.nil ?_
      refine Ab.D.code ?_
      refine OK.seq ?_
      refine OK.seq ?_
      refine OK.reg ?_
      refine RK.c (S.move .none rfl (.tmp rfl rfl)) ?_
      refine RK.c (S.move .none rfl (.tmp rfl rfl)) ?_
      refine RK.c (S.call (ref_JobsErr) Try.call35 .none rfl (.cons (.tmp rfl rfl) (.cons (.tmp rfl rfl) .nil)) rfl) ?_
      refine RK.c (S.assign .none rfl (.tmp rfl rfl)) ?_
      refine RK.nil ?_
      refine Ab.D.code ?_
      refine OK.seq ?_
      refine OK.reg ?_
      refine RK.c (S.move .none rfl (.tmp rfl rfl)) ?_
      refine RK.c (S.neq .none rfl (.tmp rfl rfl) (.cint rfl)) ?_
      refine RK.nil ?_
      refine Ab.D.code ?_
      refine OK.condD rfl rfl (fun c31 => ?_) (fun c31 => ?_)
      ·
        refine OK.seq ?_
        refine OK.reg ?_
        refine RK.c (S.move .none rfl (.tmp rfl rfl)) ?_
        refine RK.c (S.move .none rfl (.tmp rfl rfl)) ?_
        refine RK.c (S.eql .none rfl (.tmp rfl rfl) (.tmp rfl rfl)) ?_
        refine RK.c (S.move .none rfl (.tmp rfl rfl)) ?_
        refine RK.splitD (t := 35) rfl (fun g35 => ?_) (fun g35 => ?_)
        ·
          refine RK.c (S.move (.yes rfl rfl rfl rfl) rfl (.tmp rfl rfl)) ?_
          refine RK.c (S.lenM si23 (.yes rfl rfl rfl rfl) rfl (.tmp rfl rfl)) ?_
          refine RK.c (S.eql (.yes rfl rfl rfl rfl) rfl (.tmp rfl rfl) (.cint rfl)) ?_
          refine RK.c (S.pickT .none rfl (.tmp rfl rfl) (.tmp rfl rfl) rfl) ?_
          refine RK.c (S.assign .none rfl (.tmp rfl rfl)) ?_
          refine RK.nil ?_
          refine Ab.D.code ?_
          refine OK.ret (Ret.r1 (.tmp rfl rfl (.c (.same rfl) rfl) rfl) ?_)
          first | rfl | (refine ret_abs ?_; omega) | (refine ret_dT ?_; rw [if_neg c31]; rfl) | (refine ret_abs ?_; simp only [hsw, hlast, decide_true, Bool.not_true, Bool.false_eq_true] at *; done) | (refine ret_abs ?_; simp [he] at g50; done) | (refine ret_dT ?_; rw [hsw]; have := hmin (by simpa using g62); omega)
        ·
          refine RK.c (S.skip rfl rfl rfl rfl rfl) ?_
          refine RK.c (S.skip rfl rfl rfl rfl rfl) ?_
          refine RK.c (S.skip rfl rfl rfl rfl rfl) ?_
          refine RK.c (S.pickF .none rfl (.tmp rfl rfl) .cbool rfl) ?_
          refine RK.c (S.assign .none rfl (.tmp rfl rfl)) ?_
          refine RK.nil ?_
          refine Ab.D.code ?_
          refine OK.ret (Ret.r1 (.tmp rfl rfl (.c (.same rfl) rfl) rfl) ?_)
          first | rfl | (refine ret_abs ?_; omega) | (refine ret_dT ?_; rw [if_neg c31]; rfl) | (refine ret_abs ?_; simp only [hsw, hlast, decide_true, Bool.not_true, Bool.false_eq_true] at *; done) | (refine ret_abs ?_; simp [he] at g50; done) | (refine ret_dT ?_; rw [hsw]; have := hmin (by simpa using g62); omega)
      ·
        have he : swErr life jobs = 0 := Decidable.not_not.1 c31
        have hjt := jobs_of he
        have hjl := hjt.len
        have hsw : (if swErr life jobs = 0 then swT life jobs else []) = swT life jobs := if_pos he
        have hsl : (swT life jobs).length ≤ 30 := by have := swGo_len life jobs 0 0; unfold swT; omega
        have hlast := sw_lastsT hjt
        have hmin : lastsT life jobs other = true → (swT life jobs).length ≤ other.length := sw_min hjt
        refine OK.skip ?_
        refine Ab.D.code ?_
        refine OK.seq ?_
        refine OK.seq ?_
        refine OK.reg ?_
        refine RK.c (S.move .none rfl (.tmp rfl rfl)) ?_
        refine RK.c (S.neq .none rfl (.tmp rfl rfl) (.cint rfl)) ?_
        refine RK.c (S.move .none rfl (.tmp rfl rfl)) ?_
        refine RK.splitD (t := 42) rfl (fun g42 => ?_) (fun g42 => ?_)
        ·
          refine RK.c (S.skip rfl rfl rfl rfl rfl) ?_
          refine RK.c (S.skip rfl rfl rfl rfl rfl) ?_
          refine RK.c (S.skip rfl rfl rfl rfl rfl) ?_
          refine RK.c (S.skip rfl rfl rfl rfl rfl) ?_
          refine RK.c (S.skip rfl rfl rfl rfl rfl) ?_
          refine RK.c (S.skip rfl rfl rfl rfl rfl) ?_
          refine RK.c (S.pickT .none rfl (.tmp rfl rfl) .cbool rfl) ?_
          refine RK.c (S.move .none rfl (.tmp rfl rfl)) ?_
          refine RK.c (S.skip rfl rfl rfl rfl rfl) ?_
          refine RK.c (S.skip rfl rfl rfl rfl rfl) ?_
          refine RK.c (S.skip rfl rfl rfl rfl rfl) ?_
          refine RK.c (S.skip rfl rfl rfl rfl rfl) ?_
          refine RK.c (S.skip rfl rfl rfl rfl rfl) ?_
          refine RK.c (S.pickT .none rfl (.tmp rfl rfl) .cbool rfl) ?_
          refine RK.nil ?_
          refine Ab.D.code ?_
          refine OK.condT rfl rfl rfl ?_
          refine OK.seq ?_
          refine OK.reg ?_
          refine RK.c (S.assign .none rfl .cbool) ?_
          refine RK.nil ?_
          refine Ab.D.code ?_
          refine OK.ret (Ret.r1 (.tmp rfl rfl (.c (.same rfl) rfl) rfl) ?_)
          first | rfl | (refine ret_abs ?_; omega) | (refine ret_dT ?_; rw [if_neg c31]; rfl) | (refine ret_abs ?_; simp only [hsw, hlast, decide_true, Bool.not_true, Bool.false_eq_true] at *; done) | (refine ret_abs ?_; simp [he] at g50; done) | (refine ret_dT ?_; rw [hsw]; have := hmin (by simpa using g62); omega)
        ·
          refine RK.c (S.move (.yes rfl rfl rfl rfl) rfl (.tmp rfl rfl)) ?_
          refine RK.c (S.move (.yes rfl rfl rfl rfl) rfl (.tmp rfl rfl)) ?_
          refine RK.c (S.move (.yes rfl rfl rfl rfl) rfl (.tmp rfl rfl)) ?_
          refine RK.c (S.call (ref_Swaps hjt) Try.call36 (.yes rfl rfl rfl rfl) rfl (.cons (.tmp rfl rfl) (.cons (.tmp rfl rfl) .nil)) rfl) ?_
          refine RK.c (S.call (base_Ints) Try.call16 (.yes rfl rfl rfl rfl) rfl (.cons (.tmp rfl rfl) (.cons (.tmp rfl rfl) .nil)) rfl) ?_
          refine RK.c (S.notD (.yes rfl rfl rfl rfl) rfl (.tmp rfl rfl)) ?_
          refine RK.c (S.pickF .none rfl (.tmp rfl rfl) (.tmp rfl rfl) rfl) ?_
          refine RK.c (S.move .none rfl (.tmp rfl rfl)) ?_
          refine RK.splitD (t := 50) rfl (fun g50 => ?_) (fun g50 => ?_)
          ·
            refine RK.c (S.skip rfl rfl rfl rfl rfl) ?_
            refine RK.c (S.skip rfl rfl rfl rfl rfl) ?_
            refine RK.c (S.skip rfl rfl rfl rfl rfl) ?_
            refine RK.c (S.skip rfl rfl rfl rfl rfl) ?_
            refine RK.c (S.skip rfl rfl rfl rfl rfl) ?_
            refine RK.c (S.pickT .none rfl (.tmp rfl rfl) .cbool rfl) ?_
            refine RK.nil ?_
            refine Ab.D.code ?_
            refine OK.condT rfl rfl rfl ?_
            refine OK.seq ?_
            refine OK.reg ?_
            refine RK.c (S.assign .none rfl .cbool) ?_
            refine RK.nil ?_
            refine Ab.D.code ?_
            refine OK.ret (Ret.r1 (.tmp rfl rfl (.c (.same rfl) rfl) rfl) ?_)
            first | rfl | (refine ret_abs ?_; omega) | (refine ret_dT ?_; rw [if_neg c31]; rfl) | (refine ret_abs ?_; simp only [hsw, hlast, decide_true, Bool.not_true, Bool.false_eq_true] at *; done) | (refine ret_abs ?_; simp [he] at g50; done) | (refine ret_dT ?_; rw [hsw]; have := hmin (by simpa using g62); omega)
          ·
            refine RK.c (S.move (.yes rfl rfl rfl rfl) rfl (.tmp rfl rfl)) ?_
            refine RK.c (S.move (.yes rfl rfl rfl rfl) rfl (.tmp rfl rfl)) ?_
            refine RK.c (S.move (.yes rfl rfl rfl rfl) rfl (.tmp rfl rfl)) ?_
            refine RK.c (S.call (law_lasts (sw := if swErr life jobs = 0 then swT life jobs else []) hjt (by rw [hsw]; exact hsl)) Try.call37 (.yes rfl rfl rfl rfl) rfl (.cons (.tmp rfl rfl) (.cons (.tmp rfl rfl) (.cons (.tmp rfl rfl) .nil))) rfl) ?_
            refine RK.c (S.not (.yes rfl rfl rfl rfl) rfl (.tmp rfl rfl)) ?_
            refine RK.c (S.pickF .none rfl (.tmp rfl rfl) (.tmp rfl rfl) rfl) ?_
            refine RK.nil ?_
            refine Ab.D.code ?_
            refine OK.cond rfl rfl (fun c56 => ?_) (fun c56 => ?_)
            ·
              refine OK.seq ?_
              refine OK.reg ?_
              refine RK.c (S.assign .none rfl .cbool) ?_
              refine RK.nil ?_
              refine Ab.D.code ?_
              refine OK.ret (Ret.r1 (.tmp rfl rfl (.c (.same rfl) rfl) rfl) ?_)
              first | rfl | (refine ret_abs ?_; omega) | (refine ret_dT ?_; rw [if_neg c31]; rfl) | (refine ret_abs ?_; simp only [hsw, hlast, decide_true, Bool.not_true, Bool.false_eq_true] at *; done) | (refine ret_abs ?_; simp [he] at g50; done) | (refine ret_dT ?_; rw [hsw]; have := hmin (by simpa using g62); omega)
            ·
              refine OK.skip ?_
              refine Ab.D.code ?_
              refine OK.seq ?_
              refine OK.reg ?_
              refine RK.c (S.move .none rfl (.tmp rfl rfl)) ?_
              refine RK.c (S.move .none rfl (.tmp rfl rfl)) ?_
              refine RK.c (S.move .none rfl (.tmp rfl rfl)) ?_
              refine RK.c (S.call (law_lasts hjt (by omega)) Try.call37 .none rfl (.cons (.tmp rfl rfl) (.cons (.tmp rfl rfl) (.cons (.tmp rfl rfl) .nil))) rfl) ?_
              refine RK.c (S.not .none rfl (.tmp rfl rfl)) ?_
              refine RK.c (S.move .none rfl (.tmp rfl rfl)) ?_
              refine RK.split (t := 62) rfl (fun g62 => ?_) (fun g62 => ?_)
              ·
                refine RK.c (S.skip rfl rfl rfl rfl rfl) ?_
                refine RK.c (S.skip rfl rfl rfl rfl rfl) ?_
                refine RK.c (S.skip rfl rfl rfl rfl rfl) ?_
                refine RK.c (S.skip rfl rfl rfl rfl rfl) ?_
                refine RK.c (S.skip rfl rfl rfl rfl rfl) ?_
                refine RK.c (S.pickT .none rfl (.tmp rfl rfl) .cbool rfl) ?_
                refine RK.c (S.assign .none rfl (.tmp rfl rfl)) ?_
                refine RK.nil ?_
                refine Ab.D.code ?_
                refine OK.ret (Ret.r1 (.tmp rfl rfl (.c (.same rfl) rfl) rfl) ?_)
                first | rfl | (refine ret_abs ?_; omega) | (refine ret_dT ?_; rw [if_neg c31]; rfl) | (refine ret_abs ?_; simp only [hsw, hlast, decide_true, Bool.not_true, Bool.false_eq_true] at *; done) | (refine ret_abs ?_; simp [he] at g50; done) | (refine ret_dT ?_; rw [hsw]; have := hmin (by simpa using g62); omega)
              ·
                refine RK.c (S.move (.yes rfl rfl rfl rfl) rfl (.tmp rfl rfl)) ?_
                refine RK.c (S.lenM si23 (.yes rfl rfl rfl rfl) rfl (.tmp rfl rfl)) ?_
                refine RK.c (S.move (.yes rfl rfl rfl rfl) rfl (.tmp rfl rfl)) ?_
                refine RK.c (S.lenM si23 (.yes rfl rfl rfl rfl) rfl (.tmp rfl rfl)) ?_
                refine RK.c (S.geq (.yes rfl rfl rfl rfl) rfl (.tmp rfl rfl) (.tmp rfl rfl)) ?_
                refine RK.c (S.pickF .none rfl (.tmp rfl rfl) (.tmp rfl rfl) rfl) ?_
                refine RK.c (S.assign .none rfl (.tmp rfl rfl)) ?_
                refine RK.nil ?_
                refine Ab.D.code ?_
                refine OK.ret (Ret.r1 (.tmp rfl rfl (.c (.same rfl) rfl) rfl) ?_)
                first | rfl | (refine ret_abs ?_; omega) | (refine ret_dT ?_; rw [if_neg c31]; rfl) | (refine ret_abs ?_; simp only [hsw, hlast, decide_true, Bool.not_true, Bool.false_eq_true] at *; done) | (refine ret_abs ?_; simp [he] at g50; done) | (refine ret_dT ?_; rw [hsw]; have := hmin (by simpa using g62); omega)

end Go.Proofs.Ytfjldfkgjejpmaa
