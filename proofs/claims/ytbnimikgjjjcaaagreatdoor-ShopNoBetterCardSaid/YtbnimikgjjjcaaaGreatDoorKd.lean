import Derived.Test.YtbnimikgjjjcaaaGreatDoorKb
namespace Go.Proofs.YtbnimikgjjjcaaaGreatDoor
open Go.Ab
def rightJ (j : Job) : Bool := decide (0 ≤ j.setup ∧ j.setup ≤ 4) && (decide (1 ≤ j.ticks ∧ j.ticks ≤ 100000) && decide (0 ≤ j.due ∧ j.due ≤ 100000))
def jobE (l : List Job) (i : Nat) (j : Job) : Int := firstE [unlessE (nameOk j.name) 4, unlessE (!(l.take i).any (fun o => decide (o.name = j.name))) 5, unlessE (rightJ j) 2]
theorem un_0 {b : Bool} {e : Int} (he : e ≠ 0) (h : unlessE b e = 0) : b = true := by
  cases b
  · exact absurd h he
  · rfl
theorem first2_0 {a b : Int} (h : firstE [a, b] = 0) : a = 0 ∧ b = 0 := by rw [firstE2] at h; split at h <;> omega
theorem first3_0 {a b c : Int} (h : firstE [a, b, c] = 0) : a = 0 ∧ b = 0 ∧ c = 0 := by
  rw [firstE3] at h
  split at h
  · omega
  · split at h <;> omega
theorem jobE_0 {l : List Job} {i : Nat} {j : Job} (h : jobE l i j = 0) : nameOk j.name = true ∧ ((l.take i).any (fun o => decide (o.name = j.name))) = false ∧ (0 ≤ j.setup ∧ j.setup ≤ 4) ∧ (1 ≤ j.ticks ∧ j.ticks ≤ 100000) ∧ (0 ≤ j.due ∧ j.due ≤ 100000) := by
  obtain ⟨h1, h2, h3⟩ := first3_0 h
  have h4 := un_0 (by decide) h3
  simp only [rightJ, Bool.and_eq_true, decide_eq_true_eq] at h4
  exact ⟨un_0 (by decide) h1, by have := un_0 (by decide) h2; simpa using this, h4⟩
def jobsChk (l : List Job) : Int × Int := if l.length = 0 then (0, 10) else if 7 < l.length then (0, 8) else eachGo (jobE l) 0 l
def cellE (i k : Nat) (t : Int) : Int := firstE [unlessE (decide (0 ≤ t ∧ t ≤ 100000)) 2, unlessE (decide ((i : Int) ≠ k) || decide (t = 0)) 3]
def rowE (n i : Nat) (r : List Int) : Int := if r.length ≠ n then 10 else (eachGo (cellE i) 0 r).2
def chgChk (c : Changes) : Int × Int :=
  if c.ticks.length = 0 then (0, 10) else if 5 < c.ticks.length then (0, 8) else
  if (eachGo (rowE c.ticks.length) 0 c.ticks).2 ≠ 0 then eachGo (rowE c.ticks.length) 0 c.ticks else (0, if 0 ≤ c.start ∧ c.start ≤ (c.ticks.length : Int) - 1 then 0 else 6)
def strange (l : List Job) (c : Changes) : Bool := l.any fun j => decide (j.setup ≥ (c.ticks.length : Int))
def bothE (l : List Job) (c : Changes) : Int := if (jobsChk l).2 ≠ 0 then (jobsChk l).2 else if (chgChk c).2 ≠ 0 then (chgChk c).2 else if strange l c = true then 6 else 0
theorem both_eq (l : List Job) (c : Changes) : firstE [(jobsChk l).2, (chgChk c).2, unlessE (!strange l c) 6] = bothE l c := by
  rw [firstE3]
  unfold bothE unlessE
  cases strange l c <;> rfl
def lineCs (l : List Job) (c : Changes) : List X := .sl (l.map Job.cs) :: c.cs
structure Moment where
  time : Int
  setup : Int
  changes : Int
  late : Int
  deriving DecidableEq
def Moment.cs (m : Moment) : List X := [.int .i64 m.time, .int .i64 m.setup, .int .i64 m.changes, .int .i64 m.late]
def beginT (c : Changes) : Moment := ⟨0, c.start, 0, -200000⟩
def jobAt (l : List Job) (i : Int) : Job := l.getD i.toNat ⟨[], 0, 0, 0⟩
def chgAt (c : Changes) (a b : Int) : Int := (c.ticks.getD a.toNat []).getD b.toNat 0
def maxI (a b : Int) : Int := if a < b then b else a
def afterT (l : List Job) (c : Changes) (m : Moment) (i : Int) : Moment :=
  ⟨m.time + (chgAt c m.setup (jobAt l i).setup + (jobAt l i).ticks), (jobAt l i).setup, if m.setup ≠ (jobAt l i).setup then m.changes + 1 else m.changes, maxI m.late (m.time + (chgAt c m.setup (jobAt l i).setup + (jobAt l i).ticks) - (jobAt l i).due)⟩
structure BothOk (l : List Job) (c : Changes) : Prop where
  len : 1 ≤ l.length ∧ l.length ≤ 7
  job : ∀ j ∈ l, (0 ≤ j.setup ∧ j.setup ≤ 4) ∧ (1 ≤ j.ticks ∧ j.ticks ≤ 100000) ∧ (0 ≤ j.due ∧ j.due ≤ 100000)
  set : ∀ j ∈ l, j.setup < (c.ticks.length : Int)
  rows : 1 ≤ c.ticks.length ∧ c.ticks.length ≤ 5
  row : ∀ r ∈ c.ticks, r.length = c.ticks.length ∧ ∀ t ∈ r, 0 ≤ t ∧ t ≤ 100000
  start : 0 ≤ c.start ∧ c.start ≤ (c.ticks.length : Int) - 1
theorem each_zero {α : Type} (g : Nat → α → Int) : ∀ (l : List α) (k : Nat), (eachGo g k l).2 = 0 → ∀ (i : Nat) (h : i < l.length), g (k + i) l[i] = 0
  | [], _, _, i, h => by simp at h
  | x :: l, k, hk, i, h => by
    rw [eachGo] at hk
    split at hk
    · contradiction
    · rename_i h3
      cases i with
      | zero => simpa using h3
      | succ i => have := each_zero g l (k + 1) hk i (by simpa using h); simpa [Nat.add_comm, Nat.add_left_comm] using this
theorem both_ok {l : List Job} {c : Changes} (h : bothE l c = 0) : BothOk l c := by
  unfold bothE at h
  split at h
  · contradiction
  · rename_i h1
    split at h
    · contradiction
    · rename_i h2
      split at h
      · cases h
      · rename_i h3
        have hj : (jobsChk l).2 = 0 := Decidable.not_not.1 h1
        have hc : (chgChk c).2 = 0 := Decidable.not_not.1 h2
        unfold jobsChk at hj
        split at hj
        · cases hj
        · rename_i h4
          split at hj
          · cases hj
          · rename_i h5
            unfold chgChk at hc
            split at hc
            · cases hc
            · rename_i h6
              split at hc
              · cases hc
              · rename_i h7
                split at hc
                · contradiction
                · rename_i h8
                  refine ⟨⟨by omega, by omega⟩, fun j hm => ?_, fun j hm => ?_, ⟨by omega, by omega⟩, fun r hm => ?_, ?_⟩
                  · obtain ⟨i, hi, rfl⟩ := List.getElem_of_mem hm
                    have h9 := each_zero _ l 0 hj i hi
                    exact (jobE_0 h9).2.2
                  · refine Decidable.byContradiction fun hn => h3 ?_
                    unfold strange
                    exact List.any_eq_true.2 ⟨j, hm, decide_eq_true (by omega)⟩
                  · obtain ⟨i, hi, rfl⟩ := List.getElem_of_mem hm
                    have h9 := each_zero _ c.ticks 0 (Decidable.not_not.1 h8) i hi
                    unfold rowE at h9
                    split at h9
                    · cases h9
                    · rename_i h10
                      refine ⟨Decidable.not_not.1 h10, fun t ht => ?_⟩
                      obtain ⟨k, hk, rfl⟩ := List.getElem_of_mem ht
                      have h11 := each_zero _ _ 0 h9 k hk
                      exact of_decide_eq_true (un_0 (by decide) (first2_0 h11).1)
                  · simp only at hc
                    split at hc
                    · assumption
                    · cases hc
def MomOk (c : Changes) (k : Nat) (m : Moment) : Prop := (0 ≤ m.time ∧ m.time ≤ 200000 * (k : Int)) ∧ (0 ≤ m.setup ∧ m.setup < (c.ticks.length : Int)) ∧ (0 ≤ m.changes ∧ m.changes ≤ (k : Int)) ∧ (-200000 ≤ m.late ∧ m.late ≤ 200000 * (k : Int))
theorem begin_ok {l : List Job} {c : Changes} (h : BothOk l c) : MomOk c 0 (beginT c) := by
  have := h.start
  have := h.rows
  unfold MomOk beginT
  simp only
  omega
theorem job_at {l : List Job} {i : Int} (h0 : 0 ≤ i) (h : i < l.length) : ∃ h2 : i.toNat < l.length, jobAt l i = l[i.toNat] := ⟨by omega, getD_at (by omega)⟩
theorem chg_at {l : List Job} {c : Changes} (h : BothOk l c) {a b : Int} (ha : 0 ≤ a ∧ a < (c.ticks.length : Int)) (hb : 0 ≤ b ∧ b < (c.ticks.length : Int)) :
    ∃ (h1 : a.toNat < c.ticks.length) (h2 : b.toNat < (c.ticks[a.toNat]).length), chgAt c a b = (c.ticks[a.toNat])[b.toNat] ∧ 0 ≤ chgAt c a b ∧ chgAt c a b ≤ 100000 := by
  have h1 : a.toNat < c.ticks.length := by omega
  obtain ⟨h3, h4⟩ := h.row _ (List.getElem_mem h1)
  have h2 : b.toNat < (c.ticks[a.toNat]).length := by omega
  have e : chgAt c a b = (c.ticks[a.toNat])[b.toNat] := by unfold chgAt; rw [getD_at h1, getD_at h2]
  refine ⟨h1, h2, e, ?_⟩
  rw [e]
  exact h4 _ (List.getElem_mem h2)
theorem after_ok {l : List Job} {c : Changes} (h : BothOk l c) {k : Nat} {m : Moment} (hm : MomOk c k m) {i : Int} (h0 : 0 ≤ i) (hi : i < l.length) : MomOk c (k + 1) (afterT l c m i) := by
  obtain ⟨h2, e⟩ := job_at h0 hi
  have hj := h.job _ (List.getElem_mem h2)
  have hs := h.set _ (List.getElem_mem h2)
  rw [← e] at hj hs
  obtain ⟨m1, m2, m3, m4⟩ := hm
  obtain ⟨_, _, _, hc⟩ := chg_at h m2 ⟨hj.1.1, hs⟩
  refine ⟨?_, ⟨hj.1.1, hs⟩, ?_, ?_⟩
  · show 0 ≤ m.time + (_ + _) ∧ m.time + (_ + _) ≤ _; omega
  · show 0 ≤ (if m.setup ≠ (jobAt l i).setup then m.changes + 1 else m.changes) ∧ (if m.setup ≠ (jobAt l i).setup then m.changes + 1 else m.changes) ≤ _; split <;> omega
  · show -200000 ≤ maxI _ _ ∧ maxI _ _ ≤ _; unfold maxI; split <;> omega
def stepB (q : List Int × Moment) (o : List Int) (m : Moment) : List Int × Moment := if q.1 = [] ∨ m.late < q.2.late ∨ (m.late = q.2.late ∧ m.changes < q.2.changes) then (o, m) else q
def ordersGo (l : List Job) (c : Changes) : Nat → List Int → Moment → List Int × Moment → List Int × Moment
  | 0, o, m, q => stepB q o m
  | f + 1, o, m, q => ((List.range l.length).filter fun i : Nat => !o.any fun x => decide ((i : Int) = x)).foldl (fun q (i : Nat) => ordersGo l c f (o ++ [(i : Int)]) (afterT l c m i) q) q
def bestT (l : List Job) (c : Changes) : List Int × Moment := ordersGo l c l.length [] (beginT c) ([], ⟨0, 0, 0, 0⟩)
theorem shp_sameJob {o j : Job} : Ct Tryz.prog 97 [.agg o.cs, .eptr j.cs] (.bool (decide (o.name = j.name))) := by
 refine Ct.intro (rs := [.tmp 3]) Tryz.func97 rfl Tryz.ntmps97 Tryz.results97 rfl rfl rfl fun w h => ?_
 refine OK.seq (OK.reg ?_)
 refine RK.c (S.box (k := 2) rfl .none rfl (.tmp rfl rfl) rfl) ?_
 refine RK.c (S.assign .none rfl .cbool) ?_
 refine RK.nil (Ab.D.code (OK.seq (OK.reg ?_)))
 refine RK.c (S.bfield fi70_0 .none rfl (.tmp rfl rfl)) ?_
 refine RK.c (S.bload1 ti9 .none rfl (.tmp rfl rfl) rfl rfl rfl rfl) ?_
 refine RK.c (S.field fi70_0 .none rfl (.tmp rfl rfl) rfl) ?_
 refine RK.c (S.load1 ti9 .none rfl (.tmp rfl rfl) rfl) ?_
 refine RK.c (S.seql .none rfl (.tmp rfl rfl) (.tmp rfl rfl)) ?_
 refine RK.c (S.assign .none rfl (.tmp rfl rfl)) ?_
 refine RK.nil (Ab.D.code ?_)
 refine OK.ret (Ret.r1 (.tmp rfl rfl (.c (.same rfl) rfl) rfl) ?_)
 rfl
set_option maxHeartbeats 1000000 in
theorem shp_CheckJobs {l : List Job} : Ct Tryz.prog 69 [.sl (l.map Job.cs)] (pair (jobsChk l)) := by
 refine Ct.intro (rs := [.tmp 2, .tmp 3]) Tryz.func69 rfl Tryz.ntmps69 Tryz.results69 rfl rfl rfl fun w h => ?_
 refine OK.slLen (rows := l.map Job.cs) (t := 0) rfl rfl fun hlen => ?_
 rw [List.length_map] at hlen
 unfold maxLen at hlen
 refine OK.seq (OK.reg ?_)
 refine RK.c (S.assign .none rfl (.cint rfl)) ?_
 refine RK.c (S.assign .none rfl (.cint rfl)) ?_
 refine RK.nil (Ab.D.code (OK.seq (OK.seq (OK.reg ?_))))
 refine RK.c (S.move .none rfl (.tmp rfl rfl)) ?_
 refine RK.c (S.lenM si22 .none rfl (.tmp rfl rfl)) ?_
 refine RK.c (S.gtr .none rfl (.tmp rfl rfl) (.cint rfl)) ?_
 refine RK.c (S.call (shop_unless) Tryz.call40 .none rfl (.cons (.tmp rfl rfl) (.cons (.cint rfl) .nil)) rfl) ?_
 refine RK.c (S.move .none rfl (.tmp rfl rfl)) ?_
 refine RK.c (S.lenM si22 .none rfl (.tmp rfl rfl)) ?_
 refine RK.c (S.leq .none rfl (.tmp rfl rfl) (.cint rfl)) ?_
 refine RK.c (S.call (shop_unless) Tryz.call40 .none rfl (.cons (.tmp rfl rfl) (.cons (.cint rfl) .nil)) rfl) ?_
 refine RK.c (S.mkSlice (k := 18) (rows := [[_], [_]]) ai130 .none rfl (.cons (.tmp rfl rfl) (.cons (.tmp rfl rfl) .nil)) rfl rfl rfl rfl rfl rfl rfl) ?_
 refine RK.c (S.callL (shop_first (l := [_, _])) Tryz.call36 .none rfl (.cons (.tmp rfl rfl) .nil) (.cons (.p (.own rfl rfl) rfl) .nil) rfl) ?_
 refine RK.c (S.assign .none rfl (.tmp rfl rfl)) ?_
 refine RK.nil (Ab.D.code (OK.seq (OK.reg ?_)))
 refine RK.c (S.move .none rfl (.tmp rfl rfl)) ?_
 refine RK.c (S.neq .none rfl (.tmp rfl rfl) (.cint rfl)) ?_
 refine RK.nil (Ab.D.code ?_)
 refine OK.condD rfl rfl (fun c21 => ?_) (fun c21 => ?_)
 ·
  refine OK.seq (OK.reg ?_)
  refine RK.c (S.move .none rfl (.tmp rfl rfl)) ?_
  refine RK.c (S.assign .none rfl (.cint rfl)) ?_
  refine RK.c (S.assign .none rfl (.tmp rfl rfl)) ?_
  refine RK.nil (Ab.D.code ?_)
  refine OK.ret (Ret.r2 (.tmp rfl rfl (.c (.same rfl) rfl) rfl) (.tmp rfl rfl (.c (.same rfl) rfl) rfl) ?_)
  rw [firstE2] at c21 ⊢
  refine ret_p ?_
  simp only [unlessE, decide_eq_true_eq, jobsChk] at *
  repeat' split at c21
  all_goals (repeat' split)
  all_goals (first | rfl | omega | contradiction)
 ·
  rw [firstE2] at c21
  have hl2 : 1 ≤ l.length ∧ l.length ≤ 7 := by
   unfold unlessE at c21
   simp only [decide_eq_true_eq, ne_eq, Decidable.not_not] at c21
   repeat' split at c21
   all_goals omega
  have he : jobsChk l = eachGo (jobE l) 0 l := by rw [jobsChk, if_neg (by omega), if_neg (by omega)]
  refine OK.skip ?_
  refine Ab.D.code (OK.seq (OK.seq (OK.reg ?_)))
  refine RK.c (S.move .none rfl (.tmp rfl rfl)) ?_
  refine RK.c (S.lenM si22 .none rfl (.tmp rfl rfl)) ?_
  refine RK.c (S.move .none rfl (.cint rfl)) ?_
  refine RK.nil (Ab.D.code ?_)
  refine OK.block ?_
  refine OK.loop (G := Nat) [] (fun i => [(0, .sl (l.map Job.cs)), (23, .sl (l.map Job.cs)), (24, .int .i64 l.length), (25, .int .i64 i)]) (fun i => i ≤ l.length ∧ eachGo (jobE l) 0 l = eachGo (jobE l) i (l.drop i)) (fun i => l.length - i) 0 ⟨Nat.zero_le _, rfl⟩ ⟨rfl, rfl, rfl, rfl, trivial⟩ (fun _ => rfl) ?_
  rintro i ⟨hi, hg⟩
  refine OK.seq (OK.reg ?_)
  refine RK.c (S.lss .none rfl (.tmp rfl rfl) (.tmp rfl rfl)) ?_
  refine RK.nil (Ab.D.code ?_)
  refine OK.seq ?_
  refine OK.condD rfl rfl (fun c26 => ?_) (fun c26 => ?_)
  ·
   refine OK.skip ?_
   refine Ab.D.code ?_
   refine OK.seq ?_
   refine OK.block ?_
   refine OK.seq (OK.reg ?_)
   refine RK.c (S.move .none rfl (.tmp rfl rfl)) ?_
   refine RK.c (S.indexM si22 .none rfl (.tmp rfl rfl) (.tmp rfl rfl) rfl (by omega) rfl) ?_
   refine RK.c (S.loadN ti70 .none rfl (.tmp rfl rfl) rfl rfl) ?_
   refine RK.c (S.alloc (k := 6) ze70 rfl .none rfl) ?_
   refine RK.c (S.assign .none rfl (.tmp rfl rfl)) ?_
   refine RK.c (S.store ti70 .none (.tmp rfl rfl) (.tmp rfl rfl) rfl rfl rfl rfl rfl rfl) ?_
   refine RK.nil (Ab.D.code (OK.seq (OK.reg ?_)))
   refine RK.c (S.move .none rfl (.tmp rfl rfl)) ?_
   refine RK.c (S.move .none rfl (.tmp rfl rfl)) ?_
   refine RK.c (S.slice (hi := i) (l' := l.take i) si22 (fun _ => rfl) .none rfl (.tmp rfl rfl) (.inl ⟨rfl, rfl, rfl⟩) (.inr ⟨_, _, rfl, (.tmp rfl rfl), rfl⟩) (Nat.zero_le _) (by omega) rfl) ?_
   refine RK.c (S.makeFunc1 .none rfl (.tmp rfl rfl) rfl) ?_
   refine RK.c (S.callL (containsFunc_Job (l := l.take i) (g := fun o => decide (o.name = l[i].name)) (caps := [.eptr l[i].cs]) (fun o _ => shp_sameJob) Tryz.call97 ⟨rfl, rfl⟩) Tryz.call63 .none rfl (.cons (.tmp rfl rfl) (.cons (.tmp rfl rfl) .nil)) (.cons (.same rfl) (.cons (.fn (.cons (.ptr rfl rfl rfl rfl) .nil)) .nil)) rfl) ?_
   refine RK.c (S.assign .none rfl (.tmp rfl rfl)) ?_
   refine RK.nil (Ab.D.code (OK.seq (OK.reg ?_)))
   refine RK.c (S.bfield fi70_1 .none rfl (.tmp rfl rfl)) ?_
   refine RK.c (S.bload1 ti3 .none rfl (.tmp rfl rfl) rfl rfl rfl rfl) ?_
   refine RK.c (S.call (shp_within) Tryz.call41 .none rfl (.cons (.tmp rfl rfl) (.cons (.cint rfl) (.cons (.cint rfl) .nil))) rfl) ?_
   refine RK.c (S.move .none rfl (.tmp rfl rfl)) ?_
   refine RK.splitD (t := 38) rfl (fun g38 => ?_) (fun g38 => ?_)
   ·
    refine RK.c (S.bfield fi70_2 (.yes rfl rfl rfl rfl) rfl (.tmp rfl rfl)) ?_
    refine RK.c (S.bload1 ti3 (.yes rfl rfl rfl rfl) rfl (.tmp rfl rfl) rfl rfl rfl rfl) ?_
    refine RK.c (S.call (shp_isTicks) Tryz.call88 (.yes rfl rfl rfl rfl) rfl (.cons (.tmp rfl rfl) (.cons (.cint rfl) .nil)) rfl) ?_
    refine RK.c (S.pickT .none rfl (.tmp rfl rfl) (.tmp rfl rfl) rfl) ?_
    refine RK.c (S.move .none rfl (.tmp rfl rfl)) ?_
    refine RK.splitD (t := 43) rfl (fun g43 => ?_) (fun g43 => ?_)
    ·
     have hr : rightJ l[i] = decide (0 ≤ l[i].due ∧ l[i].due ≤ 100000) := by unfold rightJ; rw [decide_eq_true g38, decide_eq_true g43]; rfl
     refine RK.c (S.bfield fi70_3 (.yes rfl rfl rfl rfl) rfl (.tmp rfl rfl)) ?_
     refine RK.c (S.bload1 ti3 (.yes rfl rfl rfl rfl) rfl (.tmp rfl rfl) rfl rfl rfl rfl) ?_
     refine RK.c (S.call (shp_isTicks) Tryz.call88 (.yes rfl rfl rfl rfl) rfl (.cons (.tmp rfl rfl) (.cons (.cint rfl) .nil)) rfl) ?_
     refine RK.c (S.pickT .none rfl (.tmp rfl rfl) (.tmp rfl rfl) rfl) ?_
     refine RK.c (S.assign .none rfl (.tmp rfl rfl)) ?_
     refine RK.nil (Ab.D.code (OK.seq (OK.reg ?_)))
     refine RK.c (S.bfield fi70_0 .none rfl (.tmp rfl rfl)) ?_
     refine RK.c (S.bload1 ti9 .none rfl (.tmp rfl rfl) rfl rfl rfl rfl) ?_
     refine RK.c (S.call (shp_isName) Tryz.call72 .none rfl (.cons (.tmp rfl rfl) .nil) rfl) ?_
     refine RK.c (S.call (shop_unless) Tryz.call40 .none rfl (.cons (.tmp rfl rfl) (.cons (.cint rfl) .nil)) rfl) ?_
     refine RK.c (S.move .none rfl (.tmp rfl rfl)) ?_
     refine RK.c (S.not .none rfl (.tmp rfl rfl)) ?_
     refine RK.c (S.call (shop_unless) Tryz.call40 .none rfl (.cons (.tmp rfl rfl) (.cons (.cint rfl) .nil)) rfl) ?_
     refine RK.c (S.move .none rfl (.tmp rfl rfl)) ?_
     refine RK.c (S.call (shop_unless) Tryz.call40 .none rfl (.cons (.tmp rfl rfl) (.cons (.cint rfl) .nil)) rfl) ?_
     refine RK.c (S.mkSlice (k := 57) (rows := [[_], [_], [_]]) ai130 .none rfl (.cons (.tmp rfl rfl) (.cons (.tmp rfl rfl) (.cons (.tmp rfl rfl) .nil))) rfl rfl rfl rfl rfl rfl rfl) ?_
     refine RK.c (S.callL (shop_first (l := [_, _, _])) Tryz.call36 .none rfl (.cons (.tmp rfl rfl) .nil) (.cons (.p (.own rfl rfl) rfl) .nil) rfl) ?_
     refine RK.c (S.assign .none rfl (.tmp rfl rfl)) ?_
     refine RK.nil (Ab.D.code (OK.seq (OK.reg ?_)))
     refine RK.c (S.move .none rfl (.tmp rfl rfl)) ?_
     refine RK.c (S.neq .none rfl (.tmp rfl rfl) (.cint rfl)) ?_
     refine RK.nil (Ab.D.code ?_)
     refine OK.condD rfl rfl (fun c60 => ?_) (fun c60 => ?_)
     ·
      generalize hqq : firstE _ = q at c60 ⊢
      have hje : jobE l i l[i] = q := by rw [← hqq, jobE, hr]
      refine OK.seq (OK.reg ?_)
      refine RK.c (S.move .none rfl (.tmp rfl rfl)) ?_
      refine RK.c (S.move .none rfl (.tmp rfl rfl)) ?_
      refine RK.c (S.assign .none rfl (.tmp rfl rfl)) ?_
      refine RK.c (S.assign .none rfl (.tmp rfl rfl)) ?_
      refine RK.nil (Ab.D.code ?_)
      refine OK.ret (Ret.r2 (.tmp rfl rfl (.c (.same rfl) rfl) rfl) (.tmp rfl rfl (.c (.same rfl) rfl) rfl) ?_)
      refine ret_p ?_
      rw [he, hg, eachGo_drop _ (by omega), hje, if_pos c60]
     ·
      generalize hqq : firstE _ = q at c60 ⊢
      have hje : jobE l i l[i] = q := by rw [← hqq, jobE, hr]
      refine OK.skip ?_
      refine Ab.D.blk ?_
      refine Ab.D.code (OK.reg ?_)
      refine RK.c (S.add .none rfl (.tmp rfl rfl) (.cint rfl) (IntWalk.i64_in _ (by omega)) (IntWalk.i64_in _ (by omega))) ?_
      refine RK.c (S.move .none rfl (.tmp rfl rfl)) ?_
      refine RK.nil ?_
      refine Ab.D.lp ⟨i + 1, ⟨by omega, ?_⟩, (by omega), rfl, rfl, rfl, rfl, trivial⟩
      rw [hg, eachGo_drop _ (by omega), if_neg (by rw [hje]; exact c60)]
    ·
     have hr : rightJ l[i] = false := by unfold rightJ; rw [decide_eq_true g38, decide_eq_false g43]; rfl
     refine RK.c (S.skip rfl rfl rfl rfl rfl) ?_
     refine RK.c (S.skip rfl rfl rfl rfl rfl) ?_
     refine RK.c (S.skip rfl rfl rfl rfl rfl) ?_
     refine RK.c (S.pickF .none rfl (.tmp rfl rfl) .cbool rfl) ?_
     refine RK.c (S.assign .none rfl (.tmp rfl rfl)) ?_
     refine RK.nil (Ab.D.code (OK.seq (OK.reg ?_)))
     refine RK.c (S.bfield fi70_0 .none rfl (.tmp rfl rfl)) ?_
     refine RK.c (S.bload1 ti9 .none rfl (.tmp rfl rfl) rfl rfl rfl rfl) ?_
     refine RK.c (S.call (shp_isName) Tryz.call72 .none rfl (.cons (.tmp rfl rfl) .nil) rfl) ?_
     refine RK.c (S.call (shop_unless) Tryz.call40 .none rfl (.cons (.tmp rfl rfl) (.cons (.cint rfl) .nil)) rfl) ?_
     refine RK.c (S.move .none rfl (.tmp rfl rfl)) ?_
     refine RK.c (S.not .none rfl (.tmp rfl rfl)) ?_
     refine RK.c (S.call (shop_unless) Tryz.call40 .none rfl (.cons (.tmp rfl rfl) (.cons (.cint rfl) .nil)) rfl) ?_
     refine RK.c (S.move .none rfl (.tmp rfl rfl)) ?_
     refine RK.c (S.call (shop_unless) Tryz.call40 .none rfl (.cons (.tmp rfl rfl) (.cons (.cint rfl) .nil)) rfl) ?_
     refine RK.c (S.mkSlice (k := 57) (rows := [[_], [_], [_]]) ai130 .none rfl (.cons (.tmp rfl rfl) (.cons (.tmp rfl rfl) (.cons (.tmp rfl rfl) .nil))) rfl rfl rfl rfl rfl rfl rfl) ?_
     refine RK.c (S.callL (shop_first (l := [_, _, _])) Tryz.call36 .none rfl (.cons (.tmp rfl rfl) .nil) (.cons (.p (.own rfl rfl) rfl) .nil) rfl) ?_
     refine RK.c (S.assign .none rfl (.tmp rfl rfl)) ?_
     refine RK.nil (Ab.D.code (OK.seq (OK.reg ?_)))
     refine RK.c (S.move .none rfl (.tmp rfl rfl)) ?_
     refine RK.c (S.neq .none rfl (.tmp rfl rfl) (.cint rfl)) ?_
     refine RK.nil (Ab.D.code ?_)
     refine OK.condD rfl rfl (fun c60 => ?_) (fun c60 => ?_)
     ·
      generalize hqq : firstE _ = q at c60 ⊢
      have hje : jobE l i l[i] = q := by rw [← hqq, jobE, hr]
      refine OK.seq (OK.reg ?_)
      refine RK.c (S.move .none rfl (.tmp rfl rfl)) ?_
      refine RK.c (S.move .none rfl (.tmp rfl rfl)) ?_
      refine RK.c (S.assign .none rfl (.tmp rfl rfl)) ?_
      refine RK.c (S.assign .none rfl (.tmp rfl rfl)) ?_
      refine RK.nil (Ab.D.code ?_)
      refine OK.ret (Ret.r2 (.tmp rfl rfl (.c (.same rfl) rfl) rfl) (.tmp rfl rfl (.c (.same rfl) rfl) rfl) ?_)
      refine ret_p ?_
      rw [he, hg, eachGo_drop _ (by omega), hje, if_pos c60]
     ·
      generalize hqq : firstE _ = q at c60 ⊢
      have hje : jobE l i l[i] = q := by rw [← hqq, jobE, hr]
      refine OK.skip ?_
      refine Ab.D.blk ?_
      refine Ab.D.code (OK.reg ?_)
      refine RK.c (S.add .none rfl (.tmp rfl rfl) (.cint rfl) (IntWalk.i64_in _ (by omega)) (IntWalk.i64_in _ (by omega))) ?_
      refine RK.c (S.move .none rfl (.tmp rfl rfl)) ?_
      refine RK.nil ?_
      refine Ab.D.lp ⟨i + 1, ⟨by omega, ?_⟩, (by omega), rfl, rfl, rfl, rfl, trivial⟩
      rw [hg, eachGo_drop _ (by omega), if_neg (by rw [hje]; exact c60)]
   ·
    have hr : rightJ l[i] = false := by unfold rightJ; rw [decide_eq_false g38]; rfl
    refine RK.c (S.skip rfl rfl rfl rfl rfl) ?_
    refine RK.c (S.skip rfl rfl rfl rfl rfl) ?_
    refine RK.c (S.skip rfl rfl rfl rfl rfl) ?_
    refine RK.c (S.pickF .none rfl (.tmp rfl rfl) .cbool rfl) ?_
    refine RK.c (S.move .none rfl (.tmp rfl rfl)) ?_
    refine RK.c (S.skip rfl rfl rfl rfl rfl) ?_
    refine RK.c (S.skip rfl rfl rfl rfl rfl) ?_
    refine RK.c (S.skip rfl rfl rfl rfl rfl) ?_
    refine RK.c (S.pickF .none rfl (.tmp rfl rfl) .cbool rfl) ?_
    refine RK.c (S.assign .none rfl (.tmp rfl rfl)) ?_
    refine RK.nil (Ab.D.code (OK.seq (OK.reg ?_)))
    refine RK.c (S.bfield fi70_0 .none rfl (.tmp rfl rfl)) ?_
    refine RK.c (S.bload1 ti9 .none rfl (.tmp rfl rfl) rfl rfl rfl rfl) ?_
    refine RK.c (S.call (shp_isName) Tryz.call72 .none rfl (.cons (.tmp rfl rfl) .nil) rfl) ?_
    refine RK.c (S.call (shop_unless) Tryz.call40 .none rfl (.cons (.tmp rfl rfl) (.cons (.cint rfl) .nil)) rfl) ?_
    refine RK.c (S.move .none rfl (.tmp rfl rfl)) ?_
    refine RK.c (S.not .none rfl (.tmp rfl rfl)) ?_
    refine RK.c (S.call (shop_unless) Tryz.call40 .none rfl (.cons (.tmp rfl rfl) (.cons (.cint rfl) .nil)) rfl) ?_
    refine RK.c (S.move .none rfl (.tmp rfl rfl)) ?_
    refine RK.c (S.call (shop_unless) Tryz.call40 .none rfl (.cons (.tmp rfl rfl) (.cons (.cint rfl) .nil)) rfl) ?_
    refine RK.c (S.mkSlice (k := 57) (rows := [[_], [_], [_]]) ai130 .none rfl (.cons (.tmp rfl rfl) (.cons (.tmp rfl rfl) (.cons (.tmp rfl rfl) .nil))) rfl rfl rfl rfl rfl rfl rfl) ?_
    refine RK.c (S.callL (shop_first (l := [_, _, _])) Tryz.call36 .none rfl (.cons (.tmp rfl rfl) .nil) (.cons (.p (.own rfl rfl) rfl) .nil) rfl) ?_
    refine RK.c (S.assign .none rfl (.tmp rfl rfl)) ?_
    refine RK.nil (Ab.D.code (OK.seq (OK.reg ?_)))
    refine RK.c (S.move .none rfl (.tmp rfl rfl)) ?_
    refine RK.c (S.neq .none rfl (.tmp rfl rfl) (.cint rfl)) ?_
    refine RK.nil (Ab.D.code ?_)
    refine OK.condD rfl rfl (fun c60 => ?_) (fun c60 => ?_)
    ·
     generalize hqq : firstE _ = q at c60 ⊢
     have hje : jobE l i l[i] = q := by rw [← hqq, jobE, hr]
     refine OK.seq (OK.reg ?_)
     refine RK.c (S.move .none rfl (.tmp rfl rfl)) ?_
     refine RK.c (S.move .none rfl (.tmp rfl rfl)) ?_
     refine RK.c (S.assign .none rfl (.tmp rfl rfl)) ?_
     refine RK.c (S.assign .none rfl (.tmp rfl rfl)) ?_
     refine RK.nil (Ab.D.code ?_)
     refine OK.ret (Ret.r2 (.tmp rfl rfl (.c (.same rfl) rfl) rfl) (.tmp rfl rfl (.c (.same rfl) rfl) rfl) ?_)
     refine ret_p ?_
     rw [he, hg, eachGo_drop _ (by omega), hje, if_pos c60]
    ·
     generalize hqq : firstE _ = q at c60 ⊢
     have hje : jobE l i l[i] = q := by rw [← hqq, jobE, hr]
     refine OK.skip ?_
     refine Ab.D.blk ?_
     refine Ab.D.code (OK.reg ?_)
     refine RK.c (S.add .none rfl (.tmp rfl rfl) (.cint rfl) (IntWalk.i64_in _ (by omega)) (IntWalk.i64_in _ (by omega))) ?_
     refine RK.c (S.move .none rfl (.tmp rfl rfl)) ?_
     refine RK.nil ?_
     refine Ab.D.lp ⟨i + 1, ⟨by omega, ?_⟩, (by omega), rfl, rfl, rfl, rfl, trivial⟩
     rw [hg, eachGo_drop _ (by omega), if_neg (by rw [hje]; exact c60)]
  ·
   refine OK.exit rfl ?_
   refine Ab.D.code (OK.seq (OK.reg ?_))
   refine RK.c (S.assign .none rfl (.cint rfl)) ?_
   refine RK.c (S.assign .none rfl (.cint rfl)) ?_
   refine RK.nil (Ab.D.code ?_)
   refine OK.ret (Ret.r2 (.tmp rfl rfl (.c (.same rfl) rfl) rfl) (.tmp rfl rfl (.c (.same rfl) rfl) rfl) ?_)
   refine ret_p ?_
   rw [he, hg, show i = l.length by omega, List.drop_length]
   rfl
theorem shp_jobsErr {l : List Job} : Ct Tryz.prog 39 [.sl (l.map Job.cs)] (.int .i64 (jobsChk l).2) := by
 refine Ct.intro (rs := [.tmp 2]) Tryz.func39 rfl Tryz.ntmps39 Tryz.results39 rfl rfl rfl fun w h => ?_
 refine OK.seq (OK.reg ?_)
 refine RK.c (S.assign .none rfl (.cint rfl)) ?_
 refine RK.nil (Ab.D.code (OK.seq (OK.reg ?_)))
 refine RK.c (S.move .none rfl (.tmp rfl rfl)) ?_
 refine RK.c (S.call (shp_CheckJobs) Tryz.call69 .none rfl (.cons (.tmp rfl rfl) .nil) rfl) ?_
 refine RK.c (S.move .none rfl (.tmp rfl rfl)) ?_
 refine RK.c (S.extract .none rfl (.tmp rfl rfl) rfl rfl) ?_
 refine RK.c (S.extract .none rfl (.tmp rfl rfl) rfl rfl) ?_
 refine RK.c (S.assign .none rfl (.tmp rfl rfl)) ?_
 refine RK.c (S.assign .none rfl (.tmp rfl rfl)) ?_
 refine RK.nil (Ab.D.code (OK.seq (OK.reg ?_)))
 refine RK.c (S.move .none rfl (.tmp rfl rfl)) ?_
 refine RK.c (S.assign .none rfl (.tmp rfl rfl)) ?_
 refine RK.nil (Ab.D.code ?_)
 refine OK.ret (Ret.r1 (.tmp rfl rfl (.c (.same rfl) rfl) rfl) ?_)
 rfl
set_option maxHeartbeats 1000000 in
theorem shp_CheckChanges {c : Changes} : Ct Tryz.prog 62 [.agg c.cs] (pair (chgChk c)) := by
 refine Ct.intro (rs := [.tmp 2, .tmp 3]) Tryz.func62 rfl Tryz.ntmps62 Tryz.results62 rfl rfl rfl fun w h => ?_
 refine OK.aggLen 0 1 (c.ticks.map fun l => [.sl (l.map fun n => [.int .i64 n])]) rfl rfl rfl fun hlen => ?_
 rw [List.length_map] at hlen
 unfold maxLen at hlen
 refine OK.seq (OK.reg ?_)
 refine RK.c (S.box (k := 1) rfl .none rfl (.tmp rfl rfl) rfl) ?_
 refine RK.c (S.assign .none rfl (.cint rfl)) ?_
 refine RK.c (S.assign .none rfl (.cint rfl)) ?_
 refine RK.nil (Ab.D.code (OK.seq (OK.reg ?_)))
 refine RK.c (S.bfield fi25_1 .none rfl (.tmp rfl rfl)) ?_
 refine RK.c (S.bload1 ti23 .none rfl (.tmp rfl rfl) rfl rfl rfl rfl) ?_
 refine RK.c (S.lenM si23 .none rfl (.tmp rfl rfl)) ?_
 refine RK.c (S.assign .none rfl (.tmp rfl rfl)) ?_
 refine RK.nil (Ab.D.code (OK.seq (OK.seq (OK.reg ?_))))
 refine RK.c (S.move .none rfl (.tmp rfl rfl)) ?_
 refine RK.c (S.gtr .none rfl (.tmp rfl rfl) (.cint rfl)) ?_
 refine RK.c (S.call (shop_unless) Tryz.call40 .none rfl (.cons (.tmp rfl rfl) (.cons (.cint rfl) .nil)) rfl) ?_
 refine RK.c (S.move .none rfl (.tmp rfl rfl)) ?_
 refine RK.c (S.leq .none rfl (.tmp rfl rfl) (.cint rfl)) ?_
 refine RK.c (S.call (shop_unless) Tryz.call40 .none rfl (.cons (.tmp rfl rfl) (.cons (.cint rfl) .nil)) rfl) ?_
 refine RK.c (S.mkSlice (k := 20) (rows := [[_], [_]]) ai130 .none rfl (.cons (.tmp rfl rfl) (.cons (.tmp rfl rfl) .nil)) rfl rfl rfl rfl rfl rfl rfl) ?_
 refine RK.c (S.callL (shop_first (l := [_, _])) Tryz.call36 .none rfl (.cons (.tmp rfl rfl) .nil) (.cons (.p (.own rfl rfl) rfl) .nil) rfl) ?_
 refine RK.c (S.assign .none rfl (.tmp rfl rfl)) ?_
 refine RK.nil (Ab.D.code (OK.seq (OK.reg ?_)))
 refine RK.c (S.move .none rfl (.tmp rfl rfl)) ?_
 refine RK.c (S.neq .none rfl (.tmp rfl rfl) (.cint rfl)) ?_
 refine RK.nil (Ab.D.code ?_)
 refine OK.condD rfl rfl (fun c23 => ?_) (fun c23 => ?_)
 ·
  refine OK.seq (OK.reg ?_)
  refine RK.c (S.move .none rfl (.tmp rfl rfl)) ?_
  refine RK.c (S.assign .none rfl (.cint rfl)) ?_
  refine RK.c (S.assign .none rfl (.tmp rfl rfl)) ?_
  refine RK.nil (Ab.D.code ?_)
  refine OK.ret (Ret.r2 (.tmp rfl rfl (.c (.same rfl) rfl) rfl) (.tmp rfl rfl (.c (.same rfl) rfl) rfl) ?_)
  rw [firstE2] at c23 ⊢
  refine ret_p ?_
  simp only [unlessE, decide_eq_true_eq, chgChk] at *
  repeat' split at c23
  all_goals (repeat' split)
  all_goals (first | rfl | omega | contradiction)
 ·
  rw [firstE2] at c23
  have hl2 : 1 ≤ c.ticks.length ∧ c.ticks.length ≤ 5 := by
   unfold unlessE at c23
   simp only [decide_eq_true_eq, ne_eq, Decidable.not_not] at c23
   repeat' split at c23
   all_goals omega
  refine OK.skip ?_
  refine Ab.D.code (OK.seq (OK.seq (OK.reg ?_)))
  refine RK.c (S.bfield fi25_1 .none rfl (.tmp rfl rfl)) ?_
  refine RK.c (S.bload1 ti23 .none rfl (.tmp rfl rfl) rfl rfl rfl rfl) ?_
  refine RK.c (S.lenM si23 .none rfl (.tmp rfl rfl)) ?_
  refine RK.c (S.move .none rfl (.cint rfl)) ?_
  refine RK.nil (Ab.D.code ?_)
  refine OK.block ?_
  refine OK.loop (G := Nat) [1] (fun i => [(1, .ptr 1 0), (1001, .box c.cs), (4, .int .i64 c.ticks.length), (26, .sl (c.ticks.map fun l => [.sl (l.map fun n => [.int .i64 n])])), (27, .int .i64 c.ticks.length), (28, .int .i64 i)]) (fun i => i ≤ c.ticks.length ∧ eachGo (rowE c.ticks.length) 0 c.ticks = eachGo (rowE c.ticks.length) i (c.ticks.drop i)) (fun i => c.ticks.length - i) 0 ⟨Nat.zero_le _, rfl⟩ ⟨rfl, rfl, rfl, rfl, rfl, rfl, trivial⟩ (fun _ => rfl) ?_
  rintro i ⟨hi, hg⟩
  refine OK.seq (OK.reg ?_)
  refine RK.c (S.lss .none rfl (.tmp rfl rfl) (.tmp rfl rfl)) ?_
  refine RK.nil (Ab.D.code ?_)
  refine OK.seq ?_
  refine OK.condD rfl rfl (fun c29 => ?_) (fun c29 => ?_)
  ·
   refine OK.skip ?_
   refine Ab.D.code ?_
   refine OK.seq ?_
   refine OK.block ?_
   refine OK.seq (OK.reg ?_)
   refine RK.c (S.move .none rfl (.tmp rfl rfl)) ?_
   refine RK.c (S.indexM si23 .none rfl (.tmp rfl rfl) (.tmp rfl rfl) rfl (by omega) rfl) ?_
   refine RK.c (S.load1 ti26 .none rfl (.tmp rfl rfl) rfl) ?_
   refine RK.c (S.assign .none rfl (.tmp rfl rfl)) ?_
   refine RK.c (S.assign .none rfl (.tmp rfl rfl)) ?_
   refine RK.nil (Ab.D.code (OK.seq (OK.seq (OK.reg ?_))))
   refine RK.c (S.move .none rfl (.tmp rfl rfl)) ?_
   refine RK.c (S.lenM si26 .none rfl (.tmp rfl rfl)) ?_
   refine RK.c (S.move .none rfl (.tmp rfl rfl)) ?_
   refine RK.c (S.neq .none rfl (.tmp rfl rfl) (.tmp rfl rfl)) ?_
   refine RK.nil (Ab.D.code ?_)
   refine OK.condD rfl rfl (fun c36 => ?_) (fun c36 => ?_)
   ·
    refine OK.seq (OK.reg ?_)
    refine RK.c (S.move .none rfl (.tmp rfl rfl)) ?_
    refine RK.c (S.assign .none rfl (.tmp rfl rfl)) ?_
    refine RK.c (S.assign .none rfl (.cint rfl)) ?_
    refine RK.nil (Ab.D.code ?_)
    refine OK.ret (Ret.r2 (.tmp rfl rfl (.c (.same rfl) rfl) rfl) (.tmp rfl rfl (.c (.same rfl) rfl) rfl) ?_)
    refine ret_p ?_
    have he : rowE c.ticks.length i c.ticks[i] = 10 := by rw [rowE, if_pos (by omega)]
    rw [chgChk, if_neg (by omega), if_neg (by omega), hg, eachGo_drop _ (by omega), he]
    rfl
   ·
    have hrl : c.ticks[i].length = c.ticks.length := by omega
    refine OK.skip ?_
    refine Ab.D.code (OK.seq (OK.reg ?_))
    refine RK.c (S.move .none rfl (.tmp rfl rfl)) ?_
    refine RK.c (S.lenM si26 .none rfl (.tmp rfl rfl)) ?_
    refine RK.c (S.move .none rfl (.cint rfl)) ?_
    refine RK.nil (Ab.D.code ?_)
    refine OK.block ?_
    refine OK.loop (G := Nat) [1] (fun k => [(1, .ptr 1 0), (1001, .box c.cs), (4, .int .i64 c.ticks.length), (6, .int .i64 i), (26, .sl (c.ticks.map fun l => [.sl (l.map fun n => [.int .i64 n])])), (27, .int .i64 c.ticks.length), (28, .int .i64 i), (38, ints c.ticks[i]), (39, .int .i64 c.ticks[i].length), (40, .int .i64 k)]) (fun k => k ≤ c.ticks[i].length ∧ eachGo (cellE i) 0 c.ticks[i] = eachGo (cellE i) k (c.ticks[i].drop k)) (fun k => c.ticks[i].length - k) 0 ⟨Nat.zero_le _, rfl⟩ ⟨rfl, rfl, rfl, rfl, rfl, rfl, rfl, rfl, rfl, rfl, trivial⟩ (fun _ => rfl) ?_
    rintro k ⟨hk, hg2⟩
    refine OK.seq (OK.reg ?_)
    refine RK.c (S.lss .none rfl (.tmp rfl rfl) (.tmp rfl rfl)) ?_
    refine RK.nil (Ab.D.code ?_)
    refine OK.seq ?_
    refine OK.condD rfl rfl (fun c41 => ?_) (fun c41 => ?_)
    ·
     refine OK.skip ?_
     refine Ab.D.code ?_
     refine OK.seq ?_
     refine OK.block ?_
     refine OK.seq (OK.reg ?_)
     refine RK.c (S.move .none rfl (.tmp rfl rfl)) ?_
     refine RK.c (S.indexM si26 .none rfl (.tmp rfl rfl) (.tmp rfl rfl) rfl (by omega) rfl) ?_
     refine RK.c (S.load1 ti3 .none rfl (.tmp rfl rfl) rfl) ?_
     refine RK.c (S.assign .none rfl (.tmp rfl rfl)) ?_
     refine RK.c (S.assign .none rfl (.tmp rfl rfl)) ?_
     refine RK.nil (Ab.D.code (OK.seq (OK.reg ?_)))
     refine RK.c (S.move .none rfl (.tmp rfl rfl)) ?_
     refine RK.c (S.call (shp_isTicks) Tryz.call88 .none rfl (.cons (.tmp rfl rfl) (.cons (.cint rfl) .nil)) rfl) ?_
     refine RK.c (S.call (shop_unless) Tryz.call40 .none rfl (.cons (.tmp rfl rfl) (.cons (.cint rfl) .nil)) rfl) ?_
     refine RK.c (S.move .none rfl (.tmp rfl rfl)) ?_
     refine RK.c (S.move .none rfl (.tmp rfl rfl)) ?_
     refine RK.c (S.neq .none rfl (.tmp rfl rfl) (.tmp rfl rfl)) ?_
     refine RK.c (S.move .none rfl (.tmp rfl rfl)) ?_
     refine RK.splitD (t := 51) rfl (fun g51 => ?_) (fun g51 => ?_)
     ·
      have hr : (decide ((i : Int) ≠ k) || decide (c.ticks[i][k] = 0)) = true := by rw [decide_eq_true g51]; rfl
      refine RK.c (S.skip rfl rfl rfl rfl rfl) ?_
      refine RK.c (S.skip rfl rfl rfl rfl rfl) ?_
      refine RK.c (S.pickT .none rfl (.tmp rfl rfl) .cbool rfl) ?_
      refine RK.c (S.call (shop_unless) Tryz.call40 .none rfl (.cons (.tmp rfl rfl) (.cons (.cint rfl) .nil)) rfl) ?_
      refine RK.c (S.mkSlice (k := 56) (rows := [[_], [_]]) ai130 .none rfl (.cons (.tmp rfl rfl) (.cons (.tmp rfl rfl) .nil)) rfl rfl rfl rfl rfl rfl rfl) ?_
      refine RK.c (S.callL (shop_first (l := [_, _])) Tryz.call36 .none rfl (.cons (.tmp rfl rfl) .nil) (.cons (.p (.own rfl rfl) rfl) .nil) rfl) ?_
      refine RK.c (S.assign .none rfl (.tmp rfl rfl)) ?_
      refine RK.nil (Ab.D.code (OK.seq (OK.reg ?_)))
      refine RK.c (S.move .none rfl (.tmp rfl rfl)) ?_
      refine RK.c (S.neq .none rfl (.tmp rfl rfl) (.cint rfl)) ?_
      refine RK.nil (Ab.D.code ?_)
      refine OK.condD rfl rfl (fun c59 => ?_) (fun c59 => ?_)
      ·
       generalize hqq : firstE _ = q at c59 ⊢
       have hce : cellE i k c.ticks[i][k] = q := by rw [← hqq, cellE, hr]
       refine OK.seq (OK.reg ?_)
       refine RK.c (S.move .none rfl (.tmp rfl rfl)) ?_
       refine RK.c (S.move .none rfl (.tmp rfl rfl)) ?_
       refine RK.c (S.assign .none rfl (.tmp rfl rfl)) ?_
       refine RK.c (S.assign .none rfl (.tmp rfl rfl)) ?_
       refine RK.nil (Ab.D.code ?_)
       refine OK.ret (Ret.r2 (.tmp rfl rfl (.c (.same rfl) rfl) rfl) (.tmp rfl rfl (.c (.same rfl) rfl) rfl) ?_)
       refine ret_p ?_
       have he : rowE c.ticks.length i c.ticks[i] = q := by rw [rowE, if_neg (by omega), hg2, eachGo_drop _ (by omega), hce, if_pos c59]
       rw [chgChk, if_neg (by omega), if_neg (by omega), hg, eachGo_drop _ (by omega), he, if_pos c59, if_pos c59]
      ·
       generalize hqq : firstE _ = q at c59 ⊢
       have hce : cellE i k c.ticks[i][k] = q := by rw [← hqq, cellE, hr]
       refine OK.skip ?_
       refine Ab.D.blk ?_
       refine Ab.D.code (OK.reg ?_)
       refine RK.c (S.add .none rfl (.tmp rfl rfl) (.cint rfl) (IntWalk.i64_in _ (by omega)) (IntWalk.i64_in _ (by omega))) ?_
       refine RK.c (S.move .none rfl (.tmp rfl rfl)) ?_
       refine RK.nil ?_
       refine Ab.D.lp ⟨k + 1, ⟨by omega, ?_⟩, (by omega), rfl, rfl, rfl, rfl, rfl, rfl, rfl, rfl, rfl, rfl, trivial⟩
       rw [hg2, eachGo_drop _ (by omega), if_neg (by rw [hce]; exact c59)]
     ·
      have hr : (decide ((i : Int) ≠ k) || decide (c.ticks[i][k] = 0)) = decide (c.ticks[i][k] = 0) := by rw [decide_eq_false g51]; rfl
      refine RK.c (S.move (.yes rfl rfl rfl rfl) rfl (.tmp rfl rfl)) ?_
      refine RK.c (S.eql (.yes rfl rfl rfl rfl) rfl (.tmp rfl rfl) (.cint rfl)) ?_
      refine RK.c (S.pickF .none rfl (.tmp rfl rfl) (.tmp rfl rfl) rfl) ?_
      refine RK.c (S.call (shop_unless) Tryz.call40 .none rfl (.cons (.tmp rfl rfl) (.cons (.cint rfl) .nil)) rfl) ?_
      refine RK.c (S.mkSlice (k := 56) (rows := [[_], [_]]) ai130 .none rfl (.cons (.tmp rfl rfl) (.cons (.tmp rfl rfl) .nil)) rfl rfl rfl rfl rfl rfl rfl) ?_
      refine RK.c (S.callL (shop_first (l := [_, _])) Tryz.call36 .none rfl (.cons (.tmp rfl rfl) .nil) (.cons (.p (.own rfl rfl) rfl) .nil) rfl) ?_
      refine RK.c (S.assign .none rfl (.tmp rfl rfl)) ?_
      refine RK.nil (Ab.D.code (OK.seq (OK.reg ?_)))
      refine RK.c (S.move .none rfl (.tmp rfl rfl)) ?_
      refine RK.c (S.neq .none rfl (.tmp rfl rfl) (.cint rfl)) ?_
      refine RK.nil (Ab.D.code ?_)
      refine OK.condD rfl rfl (fun c59 => ?_) (fun c59 => ?_)
      ·
       generalize hqq : firstE _ = q at c59 ⊢
       have hce : cellE i k c.ticks[i][k] = q := by rw [← hqq, cellE, hr]
       refine OK.seq (OK.reg ?_)
       refine RK.c (S.move .none rfl (.tmp rfl rfl)) ?_
       refine RK.c (S.move .none rfl (.tmp rfl rfl)) ?_
       refine RK.c (S.assign .none rfl (.tmp rfl rfl)) ?_
       refine RK.c (S.assign .none rfl (.tmp rfl rfl)) ?_
       refine RK.nil (Ab.D.code ?_)
       refine OK.ret (Ret.r2 (.tmp rfl rfl (.c (.same rfl) rfl) rfl) (.tmp rfl rfl (.c (.same rfl) rfl) rfl) ?_)
       refine ret_p ?_
       have he : rowE c.ticks.length i c.ticks[i] = q := by rw [rowE, if_neg (by omega), hg2, eachGo_drop _ (by omega), hce, if_pos c59]
       rw [chgChk, if_neg (by omega), if_neg (by omega), hg, eachGo_drop _ (by omega), he, if_pos c59, if_pos c59]
      ·
       generalize hqq : firstE _ = q at c59 ⊢
       have hce : cellE i k c.ticks[i][k] = q := by rw [← hqq, cellE, hr]
       refine OK.skip ?_
       refine Ab.D.blk ?_
       refine Ab.D.code (OK.reg ?_)
       refine RK.c (S.add .none rfl (.tmp rfl rfl) (.cint rfl) (IntWalk.i64_in _ (by omega)) (IntWalk.i64_in _ (by omega))) ?_
       refine RK.c (S.move .none rfl (.tmp rfl rfl)) ?_
       refine RK.nil ?_
       refine Ab.D.lp ⟨k + 1, ⟨by omega, ?_⟩, (by omega), rfl, rfl, rfl, rfl, rfl, rfl, rfl, rfl, rfl, rfl, trivial⟩
       rw [hg2, eachGo_drop _ (by omega), if_neg (by rw [hce]; exact c59)]
    ·
     refine OK.exit rfl ?_
     refine Ab.D.blk ?_
     refine Ab.D.code (OK.reg ?_)
     refine RK.c (S.add .none rfl (.tmp rfl rfl) (.cint rfl) (IntWalk.i64_in _ (by omega)) (IntWalk.i64_in _ (by omega))) ?_
     refine RK.c (S.move .none rfl (.tmp rfl rfl)) ?_
     refine RK.nil ?_
     refine Ab.D.lp ⟨i + 1, ⟨by omega, ?_⟩, (by omega), rfl, rfl, rfl, rfl, rfl, rfl, trivial⟩
     rw [hg, eachGo_drop _ (by omega), if_neg ?_]
     rw [rowE, if_neg (by omega), hg2, show k = c.ticks[i].length by omega, List.drop_length]
     exact fun e => e rfl
  ·
   refine OK.exit rfl ?_
   refine Ab.D.code (OK.seq (OK.reg ?_))
   refine RK.c (S.bfield fi25_0 .none rfl (.tmp rfl rfl)) ?_
   refine RK.c (S.bload1 ti3 .none rfl (.tmp rfl rfl) rfl rfl rfl rfl) ?_
   refine RK.c (S.move .none rfl (.tmp rfl rfl)) ?_
   refine RK.c (S.sub .none rfl (.tmp rfl rfl) (.cint rfl) (IntWalk.i64_in _ (by omega)) (IntWalk.i64_in _ (by omega))) ?_
   refine RK.c (S.call (shp_within) Tryz.call41 .none rfl (.cons (.tmp rfl rfl) (.cons (.cint rfl) (.cons (.tmp rfl rfl) .nil))) rfl) ?_
   refine RK.c (S.call (shop_unless) Tryz.call40 .none rfl (.cons (.tmp rfl rfl) (.cons (.cint rfl) .nil)) rfl) ?_
   refine RK.c (S.assign .none rfl (.cint rfl)) ?_
   refine RK.c (S.assign .none rfl (.tmp rfl rfl)) ?_
   refine RK.nil (Ab.D.code ?_)
   refine OK.ret (Ret.r2 (.tmp rfl rfl (.c (.same rfl) rfl) rfl) (.tmp rfl rfl (.c (.same rfl) rfl) rfl) ?_)
   refine ret_p ?_
   have he : eachGo (rowE c.ticks.length) 0 c.ticks = (0, 0) := by rw [hg, show i = c.ticks.length by omega, List.drop_length]; rfl
   rw [chgChk, if_neg (by omega), if_neg (by omega), he, if_neg (by simp)]
   simp only [unlessE, decide_eq_true_eq]
end Go.Proofs.YtbnimikgjjjcaaaGreatDoor
