/-
  Events: the reference; the law of chutes.
-/
import Derived.Test.YtfjldfkgjejpmaaSh
import Derived.Test.YtfjldfkgjejpmaaFz
import Derived.Test.YtfjldfkgjejpmaaZb
namespace Go.Proofs.Ytfjldfkgjejpmaa
open Go.Ab

structure PartX where
  loaded : Bool
  passed : Bool
  marked : Bool
  chute : Int
def PartX.cs (x : PartX) : List X := [.bool x.loaded, .bool x.passed, .bool x.marked, .int .i64 x.chute]
def partStep (n : Int) (p : PartX) (x : Event) : PartX := if x.part ≠ n then p else if x.kind = 0 then ⟨true, p.passed, p.marked, p.chute⟩ else if x.kind = 1 then ⟨p.loaded, true, p.marked, p.chute⟩ else if x.kind = 2 then ⟨p.loaded, p.passed, true, p.chute⟩ else ⟨p.loaded, p.passed, p.marked, x.kind⟩
def partT (l : List Event) (n : Int) : PartX := l.foldl (partStep n) ⟨false, false, false, 0⟩
theorem partT_snoc {l : List Event} {i : Nat} (h : i < l.length) (n : Int) : partT (l.take (i + 1)) n = partStep n (partT (l.take i) n) l[i] := by
  unfold partT
  rw [← take_snoc h, List.foldl_append]
  rfl
def leavesT (p : PartX) : Bool := p.loaded && decide (p.chute = 0) && p.passed && !p.marked
def evErr (l : List Event) (x : Event) : Int :=
  if ¬ (0 ≤ x.kind ∧ x.kind ≤ 4) then 15 else if ¬ (0 ≤ x.part ∧ x.part ≤ 1000000) then 2 else
  if x.kind = 0 then (if (partT l x.part).loaded = true then 5 else 0) else
  if (partT l x.part).loaded = false ∨ (partT l x.part).chute ≠ 0 then 6 else
  if (x.kind = 1 ∧ ((partT l x.part).passed = true ∨ (partT l x.part).marked = true)) ∨ (x.kind = 2 ∧ (partT l x.part).marked = true) then 20 else
  if x.kind = 3 ∧ leavesT (partT l x.part) = false then 24 else 0
def cntStep (c : Counts) (x : Event) : Counts := if x.kind = 0 then ⟨c.inside + 1, c.good, c.bad⟩ else if x.kind = 3 then ⟨c.inside - 1, c.good + 1, c.bad⟩ else if x.kind = 4 then ⟨c.inside - 1, c.good, c.bad + 1⟩ else c
def cntAt (l : List Event) (i : Nat) : Counts := (l.take i).foldl cntStep ⟨0, 0, 0⟩
theorem cntAt_succ {l : List Event} {i : Nat} (h : i < l.length) : cntAt l (i + 1) = cntStep (cntAt l i) l[i] := by
  unfold cntAt
  rw [← take_snoc h, List.foldl_append]
  rfl
theorem cntAt_bd (l : List Event) : ∀ i, i ≤ l.length → (-(i : Int) ≤ (cntAt l i).inside ∧ (cntAt l i).inside ≤ i) ∧ (0 ≤ (cntAt l i).good ∧ (cntAt l i).good ≤ i) ∧ (0 ≤ (cntAt l i).bad ∧ (cntAt l i).bad ≤ i)
  | 0, _ => by simp [cntAt]
  | i + 1, h => by
    have h1 := cntAt_bd l i (by omega)
    rw [cntAt_succ (by omega)]
    unfold cntStep
    split
    · simp only; omega
    · split
      · simp only; omega
      · split
        · simp only; omega
        · omega
def refG (l : List Event) (i : Nat) (x : Event) : Int := evErr (l.take i) x
def refRun (l : List Event) : Int × Int := if 60 < l.length then (0, 8) else eachGo (refG l) 0 l
def refCnt (l : List Event) : Counts := if (refRun l).2 = 0 then cntAt l l.length else ⟨0, 0, 0⟩
structure MInv (m : Mach) (l : List Event) : Prop where
  mem : ∀ n, n ∈ m.keys ↔ (partT l n).loaded = true
  life : ∀ n, n ∈ m.keys → (m.lf n).passed = (partT l n).passed ∧ (m.lf n).marked = (partT l n).marked ∧ ((m.lf n).left = true ↔ (partT l n).chute ≠ 0)
  none : ∀ n, n ∉ m.keys → partT l n = ⟨false, false, false, 0⟩
theorem inv_err {m : Mach} {l : List Event} (h : MInv m l) (x : Event) : onErr m x = evErr l x := by
  unfold onErr evErr
  by_cases h1 : ¬ (0 ≤ x.kind ∧ x.kind ≤ 4)
  · rw [if_pos h1, if_pos h1]
  · rw [if_neg h1, if_neg h1]
    by_cases h2 : ¬ (0 ≤ x.part ∧ x.part ≤ 1000000)
    · rw [if_pos h2, if_pos h2]
    · rw [if_neg h2, if_neg h2]
      have hm := h.mem x.part
      by_cases h3 : x.kind = 0
      · rw [if_pos h3, if_pos h3]
        by_cases h4 : x.part ∈ m.keys
        · rw [if_pos h4, if_pos (hm.1 h4)]
        · rw [if_neg h4, if_neg (fun e => h4 (hm.2 e))]
      · rw [if_neg h3, if_neg h3]
        by_cases h4 : x.part ∈ m.keys
        · obtain ⟨q1, q2, q3⟩ := h.life x.part h4
          have hl := hm.1 h4
          by_cases h5 : (m.lf x.part).left = true
          · rw [if_pos (.inr h5), if_pos (.inr (q3.1 h5))]
          · have h6 : (partT l x.part).chute = 0 := Decidable.not_not.1 fun e => h5 (q3.2 e)
            rw [if_neg (show ¬ (¬ x.part ∈ m.keys ∨ (m.lf x.part).left = true) by simp [h4, h5]), if_neg (show ¬ ((partT l x.part).loaded = false ∨ (partT l x.part).chute ≠ 0) by simp [hl, h6])]
            have hmay : (m.lf x.part).may = leavesT (partT l x.part) := by
              unfold Life.may leavesT
              rw [q1, q2, hl, h6, show (m.lf x.part).left = false by simpa using h5]
              cases (partT l x.part).passed <;> cases (partT l x.part).marked <;> rfl
            rw [q1, q2, hmay]
            by_cases k1 : x.kind = 1
            · rw [if_pos k1]
              by_cases k2 : (partT l x.part).passed = true ∨ (partT l x.part).marked = true
              · rw [if_pos k2, if_pos (.inl ⟨k1, k2⟩)]
              · rw [if_neg k2, if_neg (by rintro (e | e); exact k2 e.2; omega), if_neg (by omega)]
            · rw [if_neg k1]
              by_cases k2 : x.kind = 2
              · rw [if_pos k2]
                by_cases k3 : (partT l x.part).marked = true
                · rw [if_pos k3, if_pos (.inr ⟨k2, k3⟩)]
                · rw [if_neg k3, if_neg (by rintro (e | e); exact k1 e.1; exact k3 e.2), if_neg (by omega)]
              · rw [if_neg k2, if_neg (show ¬ ((x.kind = 1 ∧ ((partT l x.part).passed = true ∨ (partT l x.part).marked = true)) ∨ (x.kind = 2 ∧ (partT l x.part).marked = true)) by rintro (e | e); exact k1 e.1; exact k2 e.1)]
                by_cases k3 : x.kind = 3
                · rw [if_pos k3]
                  cases hlv : leavesT (partT l x.part) with
                  | true => rw [if_pos rfl, if_neg (by simp)]
                  | false => rw [if_neg (by simp), if_pos ⟨k3, rfl⟩]
                · rw [if_neg k3, if_neg (fun e => k3 e.1)]
        · have hl : (partT l x.part).loaded = false := by
            cases e : (partT l x.part).loaded with
            | false => rfl
            | true => exact absurd (hm.2 e) h4
          rw [if_pos (.inl h4), if_pos (.inl hl)]
theorem part_snoc1 (l : List Event) (x : Event) (n : Int) : partT (l ++ [x]) n = partStep n (partT l n) x := by
  unfold partT
  rw [List.foldl_append]
  rfl
theorem inv_step {m : Mach} {l : List Event} (h : MInv m l) {x : Event} (he : onErr m x = 0) : MInv (onStep m x) (l ++ [x]) := by
  have hk : (0 ≤ x.kind ∧ x.kind ≤ 4) ∧ (0 ≤ x.part ∧ x.part ≤ 1000000) := by
    unfold onErr at he
    split at he
    · cases he
    · split at he
      · cases he
      · exact ⟨Decidable.not_not.1 ‹_›, Decidable.not_not.1 ‹_›⟩
  have hb := on_body (m := m) hk.1 hk.2
  rw [he] at hb
  have hother : ∀ n, x.part ≠ n → partT (l ++ [x]) n = partT l n := fun n hn => by rw [part_snoc1, partStep, if_pos hn]
  unfold onStep
  rw [if_neg (by omega)]
  by_cases k0 : x.kind = 0
  · rw [if_pos k0] at hb ⊢
    have hn : x.part ∉ m.keys := fun e => by rw [if_pos e] at hb; cases hb
    have hnone := h.none x.part hn
    have hown : partT (l ++ [x]) x.part = ⟨true, false, false, 0⟩ := by rw [part_snoc1, partStep, if_neg (by simp), if_pos k0, hnone]
    have hmem : ∀ n, n ∈ (addKey m x.part).keys ↔ n ∈ m.keys ∨ n = x.part := fun n => by show n ∈ m.keys ++ [x.part] ↔ _; rw [List.mem_append, List.mem_singleton]
    refine ⟨fun n => ?_, fun n hn2 => ?_, fun n hn2 => ?_⟩
    · by_cases e : n = x.part
      · subst e; rw [hown, hmem]; simp
      · rw [hother n (fun q => e q.symm), hmem, ← h.mem n]; simp [e]
    · by_cases e : n = x.part
      · subst e
        rw [hown]
        show (upd m.lf x.part ⟨false, false, false⟩ x.part).passed = false ∧ (upd m.lf x.part ⟨false, false, false⟩ x.part).marked = false ∧ ((upd m.lf x.part ⟨false, false, false⟩ x.part).left = true ↔ _)
        rw [upd_same]
        simp
      · rw [hother n (fun q => e q.symm)]
        have h2 := h.life n (((hmem n).1 hn2).resolve_right e)
        show (upd m.lf x.part ⟨false, false, false⟩ n).passed = _ ∧ (upd m.lf x.part ⟨false, false, false⟩ n).marked = _ ∧ ((upd m.lf x.part ⟨false, false, false⟩ n).left = true ↔ _)
        rw [upd_ne _ _ e]
        exact h2
    · have e : ¬ n = x.part := fun e => hn2 ((hmem n).2 (.inr e))
      rw [hother n (fun q => e q.symm)]
      exact h.none n fun q => hn2 ((hmem n).2 (.inl q))
  · rw [if_neg k0] at hb ⊢
    have hin : x.part ∈ m.keys ∧ (m.lf x.part).left = false := by
      by_cases q : ¬ x.part ∈ m.keys ∨ (m.lf x.part).left = true
      · rw [if_pos q] at hb; cases hb
      · refine ⟨Decidable.not_not.1 fun e => q (.inl e), ?_⟩
        cases e : (m.lf x.part).left with
        | false => rfl
        | true => exact absurd (.inr e) q
    obtain ⟨q1, q2, q3⟩ := h.life x.part hin.1
    have hch : (partT l x.part).chute = 0 := Decidable.not_not.1 fun e => by have := q3.2 e; rw [hin.2] at this; cases this
    have hld := (h.mem x.part).1 hin.1
    -- one life is turned
    have turn : ∀ (L : Life) (m' : Mach), m'.keys = m.keys → m'.lf = upd m.lf x.part L → (partT (l ++ [x]) x.part).loaded = true → L.passed = (partT (l ++ [x]) x.part).passed → L.marked = (partT (l ++ [x]) x.part).marked → (L.left = true ↔ (partT (l ++ [x]) x.part).chute ≠ 0) → MInv m' (l ++ [x]) := by
      intro L m' e1 e2 p0 p1 p2 p3
      refine ⟨fun n => ?_, fun n hn2 => ?_, fun n hn2 => ?_⟩
      · rw [e1]
        by_cases e : n = x.part
        · subst e; rw [p0]; simp [hin.1]
        · rw [hother n (fun q => e q.symm)]; exact h.mem n
      · rw [e1] at hn2
        rw [e2]
        by_cases e : n = x.part
        · subst e; rw [upd_same]; exact ⟨p1, p2, p3⟩
        · rw [upd_ne _ _ e, hother n (fun q => e q.symm)]; exact h.life n hn2
      · rw [e1] at hn2
        have e : ¬ n = x.part := fun e => hn2 (e ▸ hin.1)
        rw [hother n (fun q => e q.symm)]; exact h.none n hn2
    by_cases k1 : x.kind = 1
    · rw [if_pos k1]
      have hown : partT (l ++ [x]) x.part = ⟨(partT l x.part).loaded, true, (partT l x.part).marked, (partT l x.part).chute⟩ := by rw [part_snoc1, partStep, if_neg (by simp), if_neg k0, if_pos k1]
      exact turn _ _ rfl rfl (by rw [hown]; exact hld) (by rw [hown]) (by rw [hown]; exact q2) (by rw [hown]; exact q3)
    · rw [if_neg k1]
      by_cases k2 : x.kind = 2
      · rw [if_pos k2]
        have hown : partT (l ++ [x]) x.part = ⟨(partT l x.part).loaded, (partT l x.part).passed, true, (partT l x.part).chute⟩ := by rw [part_snoc1, partStep, if_neg (by simp), if_neg k0, if_neg k1, if_pos k2]
        exact turn _ _ rfl rfl (by rw [hown]; exact hld) (by rw [hown]; exact q1) (by rw [hown]) (by rw [hown]; exact q3)
      · rw [if_neg k2]
        have hown : partT (l ++ [x]) x.part = ⟨(partT l x.part).loaded, (partT l x.part).passed, (partT l x.part).marked, x.kind⟩ := by rw [part_snoc1, partStep, if_neg (by simp), if_neg k0, if_neg k1, if_neg k2]
        have hlt : ∀ m', m'.keys = m.keys → m'.lf = upd m.lf x.part ⟨(m.lf x.part).passed, (m.lf x.part).marked, true⟩ → MInv m' (l ++ [x]) := fun m' e1 e2 => turn _ m' e1 e2 (by rw [hown]; exact hld) (by rw [hown]; exact q1) (by rw [hown]; exact q2) (by rw [hown]; simp; omega)
        split
        · exact hlt _ rfl rfl
        · exact hlt _ rfl rfl
theorem inv_0 : MInv Mach.init [] := ⟨(fun n => by simp [Mach.init, partT]), (fun n hn => by cases hn), fun n _ => rfl⟩
def CInv (m : Mach) (c : Counts) : Prop := c = ⟨(m.keys.length : Int) - m.good - m.bad, m.good, m.bad⟩
theorem cinv_step {m : Mach} {c : Counts} {x : Event} (h : CInv m c) (he : onErr m x = 0) : CInv (onStep m x) (cntStep c x) := by
  have hk : (0 ≤ x.kind ∧ x.kind ≤ 4) := by
    unfold onErr at he
    split at he
    · cases he
    · exact Decidable.not_not.1 ‹_›
  unfold CInv at h ⊢
  subst h
  unfold onStep cntStep
  have n0 : ¬ onErr m x ≠ 0 := by omega
  rw [if_neg n0]
  by_cases k0 : x.kind = 0
  · rw [if_pos k0, if_pos k0]
    simp only [addKey, List.length_append, List.length_cons, List.length_nil, Counts.mk.injEq, and_true]
    omega
  · rw [if_neg k0, if_neg k0]
    by_cases k1 : x.kind = 1
    · rw [if_pos k1, if_neg (show ¬ x.kind = 3 by omega), if_neg (show ¬ x.kind = 4 by omega)]; rfl
    · rw [if_neg k1]
      by_cases k2 : x.kind = 2
      · rw [if_pos k2, if_neg (show ¬ x.kind = 3 by omega), if_neg (show ¬ x.kind = 4 by omega)]; rfl
      · rw [if_neg k2]
        by_cases k3 : x.kind = 3
        · rw [if_pos k3, if_pos k3]
          simp only [setLife, setCounts, Counts.mk.injEq, and_true]
          omega
        · rw [if_neg k3, if_neg k3, if_pos (show x.kind = 4 by omega)]
          simp only [setLife, setCounts, Counts.mk.injEq, true_and]
          omega
theorem run_each {l : List Event} : ∀ (n i : Nat), l.length - i = n → i ≤ l.length → MInv (machAt l i) (l.take i) → CInv (machAt l i) (cntAt l i) →
    eachGo (gRun l) i (l.drop i) = eachGo (refG l) i (l.drop i) ∧ ((eachGo (gRun l) i (l.drop i)).2 = 0 → MInv (machAt l l.length) l ∧ CInv (machAt l l.length) (cntAt l l.length) ∧ eachN (gRun l) i (l.drop i) = l.length)
  | 0, i, hn, hi, h, hc => by
    have e : i = l.length := by omega
    subst e
    rw [List.drop_length]
    rw [List.take_length] at h
    exact ⟨rfl, fun _ => ⟨h, hc, rfl⟩⟩
  | n + 1, i, hn, hi, h, hc => by
    have hlt : i < l.length := by omega
    have hgh : gRun l i l[i] = refG l i l[i] := inv_err h l[i]
    rw [eachGo_drop _ hlt, eachGo_drop _ hlt, eachN_drop _ hlt, ← hgh]
    by_cases he : gRun l i l[i] ≠ 0
    · rw [if_pos he, if_pos he, if_pos he]
      exact ⟨rfl, fun h0 => absurd h0 he⟩
    · rw [if_neg he, if_neg he, if_neg he]
      have he0 : onErr (machAt l i) l[i] = 0 := Decidable.not_not.1 he
      refine run_each n (i + 1) (by omega) (by omega) ?_ ?_
      · rw [machAt_succ hlt, ← take_snoc hlt]
        exact inv_step h he0
      · rw [machAt_succ hlt, cntAt_succ hlt]
        exact cinv_step hc he0
theorem run_all (l : List Event) : runT l = refRun l ∧ ((runT l).2 = 0 → MInv (runM l) l ∧ CInv (runM l) (cntAt l l.length)) := by
  unfold runT refRun runM
  by_cases h : 60 < l.length
  · rw [if_pos h, if_pos h]
    exact ⟨rfl, fun e => by cases e⟩
  · rw [if_neg h, if_neg h, if_neg h]
    have h1 := run_each (l := l) l.length 0 rfl (Nat.zero_le _) inv_0 rfl
    rw [List.drop_zero] at h1
    refine ⟨h1.1, fun e => ?_⟩
    obtain ⟨q1, q2, q3⟩ := h1.2 e
    rw [q3]
    exact ⟨q1, q2⟩
theorem eachGo_fst {α : Type} (g : Nat → α → Int) : ∀ (l : List α) (i : Nat), (eachGo g i l).2 = 0 → (eachGo g i l).1 = 0
  | [], _, _ => rfl
  | x :: l, i, h => by
    rw [eachGo] at h ⊢
    split at h
    · exact absurd h ‹_›
    · rw [if_neg ‹_›]; exact eachGo_fst g l (i + 1) h
theorem idx_eq (l : List Event) : idxOf l = (refRun l).1 := by
  have h := (run_all l).1
  unfold idxOf
  rw [h]
  split
  · rename_i h0
    unfold refRun at h0 ⊢
    split at h0
    · cases h0
    · rw [if_neg ‹_›]; exact (eachGo_fst _ l 0 h0).symm
  · rfl
theorem cnt_eq (l : List Event) : cntOf l = refCnt l := by
  have h := run_all l
  unfold cntOf refCnt
  rw [← h.1]
  split
  · rename_i h0
    exact (h.2 h0).2.symm
  · rfl
theorem leave_eq {l : List Event} {part : Int} (h : leaveE l part = 0) : leaveB l part = leavesT (partT l part) := by
  have h0 : (runT l).2 = 0 := by
    unfold leaveE at h
    split at h
    · exact absurd h ‹_›
    · exact Decidable.not_not.1 ‹_›
  obtain ⟨hi, _⟩ := (run_all l).2 h0
  unfold leaveB
  rw [decide_eq_true h, Bool.true_and]
  by_cases hm : part ∈ (runM l).keys
  · obtain ⟨q1, q2, q3⟩ := hi.life part hm
    have hl := (hi.mem part).1 hm
    rw [decide_eq_true hm, Bool.true_and]
    unfold Life.may leavesT
    rw [q1, q2, hl, Bool.true_and]
    cases hleft : ((runM l).lf part).left with
    | true =>
      have := q3.1 hleft
      simp [this]
    | false =>
      have h2 : (partT l part).chute = 0 := Decidable.not_not.1 fun e => by have := q3.2 e; rw [hleft] at this; cases this
      simp [h2]
  · rw [decide_eq_false hm, Bool.false_and]
    rw [hi.none part hm]
    rfl

theorem ref_PartAfter {l : List Event} {n : Int} : Ct Try.prog 44 [.sl (l.map Event.cs), .int .i64 n] (.agg (partT l n).cs) := by
  refine Ct.intro (rs := [.cell 4 84]) Try.func44 rfl Try.ntmps44 Try.results44 rfl rfl rfl fun w h => ?_
  refine OK.slLen (rows := l.map Event.cs) (t := 0) rfl rfl fun hlen => ?_
  rw [List.length_map] at hlen
  unfold maxLen at hlen
  refine OK.seq ?_
  refine OK.reg ?_
  refine RK.c (S.alloc (k := 4) ze84 rfl .none rfl) ?_
  refine RK.nil ?_
  refine Ab.D.code ?_
  refine OK.seq ?_
  refine OK.reg ?_
  refine RK.c (S.alloc (k := 5) ze84 rfl .none rfl) ?_
  refine RK.nil ?_
  refine Ab.D.code ?_
  refine OK.seq ?_
  refine OK.seq ?_
  refine OK.reg ?_
  refine RK.c (S.assign .none rfl (.cint rfl)) ?_
  refine RK.nil ?_
  refine Ab.D.code ?_
  refine OK.block ?_
  refine OK.loop (G := Nat) [4, 5] (fun i => [(0, .sl (l.map Event.cs)), (1, .int .i64 n), (4, .ptr 4 0), (1004, .box (⟨false, false, false, 0⟩ : PartX).cs), (5, .ptr 5 0), (1005, .box (partT (l.take i) n).cs), (6, .int .i64 i)]) (fun i => i ≤ l.length) (fun i => l.length - i) 0 (Nat.zero_le _) ⟨rfl, rfl, rfl, rfl, rfl, rfl, rfl, trivial⟩ (fun _ => rfl) ?_
  rintro i hi
  refine OK.seq ?_
  refine OK.seq ?_
  refine OK.reg ?_
  refine RK.c (S.move .none rfl (.tmp rfl rfl)) ?_
  refine RK.c (S.move .none rfl (.tmp rfl rfl)) ?_
  refine RK.c (S.lenM si71 .none rfl (.tmp rfl rfl)) ?_
  refine RK.c (S.lss .none rfl (.tmp rfl rfl) (.tmp rfl rfl)) ?_
  refine RK.nil ?_
  refine Ab.D.code ?_
  refine OK.condD rfl rfl (fun c10 => ?_) (fun c10 => ?_)
  ·
    refine OK.skip ?_
    refine Ab.D.code ?_
    refine OK.seq ?_
    refine OK.block ?_
    refine OK.seq ?_
    refine OK.seq ?_
    refine OK.reg ?_
    refine RK.c (S.move .none rfl (.tmp rfl rfl)) ?_
    refine RK.c (S.move .none rfl (.tmp rfl rfl)) ?_
    refine RK.c (S.indexM (n := i) si71 .none rfl (.tmp rfl rfl) (.tmp rfl rfl) rfl (by omega) rfl) ?_
    refine RK.c (S.field fi89_1 .none rfl (.tmp rfl rfl) rfl) ?_
    refine RK.c (S.load1 ti3 .none rfl (.tmp rfl rfl) rfl) ?_
    refine RK.c (S.move .none rfl (.tmp rfl rfl)) ?_
    refine RK.c (S.neq .none rfl (.tmp rfl rfl) (.tmp rfl rfl)) ?_
    refine RK.nil ?_
    refine Ab.D.code ?_
    refine OK.condD rfl rfl (fun c19 => ?_) (fun c19 => ?_)
    ·
      refine OK.exit rfl ?_
      refine Ab.D.code ?_
      refine OK.reg ?_
      refine RK.c (S.move .none rfl (.tmp rfl rfl)) ?_
      refine RK.c (S.add .none rfl (.tmp rfl rfl) (.cint rfl) (IntWalk.i64_in _ (by omega)) (IntWalk.i64_in _ (by omega))) ?_
      refine RK.c (S.assign .none rfl (.tmp rfl rfl)) ?_
      refine RK.nil ?_
      refine Ab.D.lp ⟨i + 1, (by omega), (by omega), rfl, rfl, rfl, rfl, rfl, (show _ = some (X.box (partT (l.take (i + 1)) n).cs) by rw [partT_snoc (by omega)]; unfold partStep; first | (rw [if_pos c19]; rfl) | (rw [if_neg c19, if_pos c31]; rfl) | (rw [if_neg c19, if_neg c31, if_pos c34]; rfl) | (rw [if_neg c19, if_neg c31, if_neg c34, if_pos c37]; rfl) | (rw [if_neg c19, if_neg c31, if_neg c34, if_neg c37]; rfl)), rfl, trivial⟩
    ·
      refine OK.skip ?_
      refine Ab.D.code ?_
      refine OK.seq ?_
      refine OK.reg ?_
      refine RK.c (S.move .none rfl (.tmp rfl rfl)) ?_
      refine RK.c (S.move .none rfl (.tmp rfl rfl)) ?_
      refine RK.c (S.indexM (n := i) si71 .none rfl (.tmp rfl rfl) (.tmp rfl rfl) rfl (by omega) rfl) ?_
      refine RK.c (S.field fi89_0 .none rfl (.tmp rfl rfl) rfl) ?_
      refine RK.c (S.load1 ti3 .none rfl (.tmp rfl rfl) rfl) ?_
      refine RK.nil ?_
      refine Ab.D.code ?_
      refine OK.block ?_
      refine OK.seq ?_
      refine OK.reg ?_
      refine RK.c (S.eql .none rfl (.tmp rfl rfl) (.cint rfl)) ?_
      refine RK.c (S.assign .none rfl (.tmp rfl rfl)) ?_
      refine RK.nil ?_
      refine Ab.D.code ?_
      refine OK.condD rfl rfl (fun c31 => ?_) (fun c31 => ?_)
      ·
        refine OK.reg ?_
        refine RK.c (S.bfield fi84_0 .none rfl (.tmp rfl rfl)) ?_
        refine RK.c (S.store ti4 .none (.tmp rfl rfl) .cbool rfl rfl rfl rfl rfl rfl) ?_
        refine RK.nil ?_
        refine Ab.D.blk ?_
        refine Ab.D.blk ?_
        refine Ab.D.code ?_
        refine OK.reg ?_
        refine RK.c (S.move .none rfl (.tmp rfl rfl)) ?_
        refine RK.c (S.add .none rfl (.tmp rfl rfl) (.cint rfl) (IntWalk.i64_in _ (by omega)) (IntWalk.i64_in _ (by omega))) ?_
        refine RK.c (S.assign .none rfl (.tmp rfl rfl)) ?_
        refine RK.nil ?_
        refine Ab.D.lp ⟨i + 1, (by omega), (by omega), rfl, rfl, rfl, rfl, rfl, (show _ = some (X.box (partT (l.take (i + 1)) n).cs) by rw [partT_snoc (by omega)]; unfold partStep; first | (rw [if_pos c19]; rfl) | (rw [if_neg c19, if_pos c31]; rfl) | (rw [if_neg c19, if_neg c31, if_pos c34]; rfl) | (rw [if_neg c19, if_neg c31, if_neg c34, if_pos c37]; rfl) | (rw [if_neg c19, if_neg c31, if_neg c34, if_neg c37]; rfl)), rfl, trivial⟩
      ·
        refine OK.seq ?_
        refine OK.reg ?_
        refine RK.c (S.eql .none rfl (.tmp rfl rfl) (.cint rfl)) ?_
        refine RK.c (S.assign .none rfl (.tmp rfl rfl)) ?_
        refine RK.nil ?_
        refine Ab.D.code ?_
        refine OK.condD rfl rfl (fun c34 => ?_) (fun c34 => ?_)
        ·
          refine OK.reg ?_
          refine RK.c (S.bfield fi84_1 .none rfl (.tmp rfl rfl)) ?_
          refine RK.c (S.store ti4 .none (.tmp rfl rfl) .cbool rfl rfl rfl rfl rfl rfl) ?_
          refine RK.nil ?_
          refine Ab.D.blk ?_
          refine Ab.D.blk ?_
          refine Ab.D.code ?_
          refine OK.reg ?_
          refine RK.c (S.move .none rfl (.tmp rfl rfl)) ?_
          refine RK.c (S.add .none rfl (.tmp rfl rfl) (.cint rfl) (IntWalk.i64_in _ (by omega)) (IntWalk.i64_in _ (by omega))) ?_
          refine RK.c (S.assign .none rfl (.tmp rfl rfl)) ?_
          refine RK.nil ?_
          refine Ab.D.lp ⟨i + 1, (by omega), (by omega), rfl, rfl, rfl, rfl, rfl, (show _ = some (X.box (partT (l.take (i + 1)) n).cs) by rw [partT_snoc (by omega)]; unfold partStep; first | (rw [if_pos c19]; rfl) | (rw [if_neg c19, if_pos c31]; rfl) | (rw [if_neg c19, if_neg c31, if_pos c34]; rfl) | (rw [if_neg c19, if_neg c31, if_neg c34, if_pos c37]; rfl) | (rw [if_neg c19, if_neg c31, if_neg c34, if_neg c37]; rfl)), rfl, trivial⟩
        ·
          refine OK.seq ?_
          refine OK.reg ?_
          refine RK.c (S.eql .none rfl (.tmp rfl rfl) (.cint rfl)) ?_
          refine RK.c (S.assign .none rfl (.tmp rfl rfl)) ?_
          refine RK.nil ?_
          refine Ab.D.code ?_
          refine OK.condD rfl rfl (fun c37 => ?_) (fun c37 => ?_)
          ·
            refine OK.reg ?_
            refine RK.c (S.bfield fi84_2 .none rfl (.tmp rfl rfl)) ?_
            refine RK.c (S.store ti4 .none (.tmp rfl rfl) .cbool rfl rfl rfl rfl rfl rfl) ?_
            refine RK.nil ?_
            refine Ab.D.blk ?_
            refine Ab.D.blk ?_
            refine Ab.D.code ?_
            refine OK.reg ?_
            refine RK.c (S.move .none rfl (.tmp rfl rfl)) ?_
            refine RK.c (S.add .none rfl (.tmp rfl rfl) (.cint rfl) (IntWalk.i64_in _ (by omega)) (IntWalk.i64_in _ (by omega))) ?_
            refine RK.c (S.assign .none rfl (.tmp rfl rfl)) ?_
            refine RK.nil ?_
            refine Ab.D.lp ⟨i + 1, (by omega), (by omega), rfl, rfl, rfl, rfl, rfl, (show _ = some (X.box (partT (l.take (i + 1)) n).cs) by rw [partT_snoc (by omega)]; unfold partStep; first | (rw [if_pos c19]; rfl) | (rw [if_neg c19, if_pos c31]; rfl) | (rw [if_neg c19, if_neg c31, if_pos c34]; rfl) | (rw [if_neg c19, if_neg c31, if_neg c34, if_pos c37]; rfl) | (rw [if_neg c19, if_neg c31, if_neg c34, if_neg c37]; rfl)), rfl, trivial⟩
          ·
            refine OK.reg ?_
            refine RK.c (S.move .none rfl (.tmp rfl rfl)) ?_
            refine RK.c (S.move .none rfl (.tmp rfl rfl)) ?_
            refine RK.c (S.indexM (n := i) si71 .none rfl (.tmp rfl rfl) (.tmp rfl rfl) rfl (by omega) rfl) ?_
            refine RK.c (S.field fi89_0 .none rfl (.tmp rfl rfl) rfl) ?_
            refine RK.c (S.load1 ti3 .none rfl (.tmp rfl rfl) rfl) ?_
            refine RK.c (S.bfield fi84_3 .none rfl (.tmp rfl rfl)) ?_
            refine RK.c (S.store ti3 .none (.tmp rfl rfl) (.tmp rfl rfl) rfl rfl rfl rfl rfl rfl) ?_
            refine RK.nil ?_
            refine Ab.D.blk ?_
            refine Ab.D.blk ?_
            refine Ab.D.code ?_
            refine OK.reg ?_
            refine RK.c (S.move .none rfl (.tmp rfl rfl)) ?_
            refine RK.c (S.add .none rfl (.tmp rfl rfl) (.cint rfl) (IntWalk.i64_in _ (by omega)) (IntWalk.i64_in _ (by omega))) ?_
            refine RK.c (S.assign .none rfl (.tmp rfl rfl)) ?_
            refine RK.nil ?_
            refine Ab.D.lp ⟨i + 1, (by omega), (by omega), rfl, rfl, rfl, rfl, rfl, (show _ = some (X.box (partT (l.take (i + 1)) n).cs) by rw [partT_snoc (by omega)]; unfold partStep; first | (rw [if_pos c19]; rfl) | (rw [if_neg c19, if_pos c31]; rfl) | (rw [if_neg c19, if_neg c31, if_pos c34]; rfl) | (rw [if_neg c19, if_neg c31, if_neg c34, if_pos c37]; rfl) | (rw [if_neg c19, if_neg c31, if_neg c34, if_neg c37]; rfl)), rfl, trivial⟩
  ·
    refine OK.exit rfl ?_
    refine Ab.D.code ?_
    refine OK.seq ?_
    refine OK.reg ?_
    refine RK.c (S.bloadN ti84 .none rfl (.tmp rfl rfl) rfl rfl rfl rfl) ?_
    refine RK.c (S.store ti84 .none (.tmp rfl rfl) (.tmp rfl rfl) rfl rfl rfl rfl rfl rfl) ?_
    refine RK.nil ?_
    refine Ab.D.code ?_
    refine OK.ret (Ret.r1 (.cellN rfl rfl rfl rfl ti84 rfl (.k (.same rfl) (.k (.same rfl) (.k (.same rfl) (.k (.same rfl) .z))))) ?_)
    rw [show i = l.length by omega, List.take_length]
    rfl

theorem ref_Leaves {p : PartX} : Ct Try.prog 43 [.agg p.cs] (.bool (leavesT p)) := by
  refine Ct.intro (rs := [.tmp 2]) Try.func43 rfl Try.ntmps43 Try.results43 rfl rfl rfl fun w h => ?_
  refine OK.seq ?_
  refine OK.reg ?_
  refine RK.c (S.box (k := 1) rfl .none rfl (.tmp rfl rfl) rfl) ?_
  refine RK.c (S.assign .none rfl .cbool) ?_
  refine RK.nil ?_
  refine Ab.D.code ?_
  refine OK.seq ?_
  refine OK.reg ?_
  refine RK.c (S.bfield fi84_0 .none rfl (.tmp rfl rfl)) ?_
  refine RK.c (S.bload1 ti4 .none rfl (.tmp rfl rfl) rfl rfl rfl rfl) ?_
  refine RK.c (S.move .none rfl (.tmp rfl rfl)) ?_
  refine RK.split (t := 5) rfl (fun g5 => ?_) (fun g5 => ?_)
  ·
    refine RK.c (S.bfield fi84_3 (.yes rfl rfl rfl rfl) rfl (.tmp rfl rfl)) ?_
    refine RK.c (S.bload1 ti3 (.yes rfl rfl rfl rfl) rfl (.tmp rfl rfl) rfl rfl rfl rfl) ?_
    refine RK.c (S.eql (.yes rfl rfl rfl rfl) rfl (.tmp rfl rfl) (.cint rfl)) ?_
    refine RK.c (S.pickT .none rfl (.tmp rfl rfl) (.tmp rfl rfl) rfl) ?_
    refine RK.c (S.move .none rfl (.tmp rfl rfl)) ?_
    refine RK.splitD (t := 10) rfl (fun g10 => ?_) (fun g10 => ?_)
    ·
      refine RK.c (S.bfield fi84_1 (.yes rfl rfl rfl rfl) rfl (.tmp rfl rfl)) ?_
      refine RK.c (S.bload1 ti4 (.yes rfl rfl rfl rfl) rfl (.tmp rfl rfl) rfl rfl rfl rfl) ?_
      refine RK.c (S.pickT .none rfl (.tmp rfl rfl) (.tmp rfl rfl) rfl) ?_
      refine RK.c (S.move .none rfl (.tmp rfl rfl)) ?_
      refine RK.split (t := 14) rfl (fun g14 => ?_) (fun g14 => ?_)
      ·
        refine RK.c (S.bfield fi84_2 (.yes rfl rfl rfl rfl) rfl (.tmp rfl rfl)) ?_
        refine RK.c (S.bload1 ti4 (.yes rfl rfl rfl rfl) rfl (.tmp rfl rfl) rfl rfl rfl rfl) ?_
        refine RK.c (S.not (.yes rfl rfl rfl rfl) rfl (.tmp rfl rfl)) ?_
        refine RK.c (S.pickT .none rfl (.tmp rfl rfl) (.tmp rfl rfl) rfl) ?_
        refine RK.c (S.assign .none rfl (.tmp rfl rfl)) ?_
        refine RK.nil ?_
        refine Ab.D.code ?_
        refine OK.ret (Ret.r1 (.tmp rfl rfl (.c (.same rfl) rfl) rfl) ?_)
        refine ret_b ?_
        simp_all [leavesT]
      ·
        refine RK.c (S.skip rfl rfl rfl rfl rfl) ?_
        refine RK.c (S.skip rfl rfl rfl rfl rfl) ?_
        refine RK.c (S.skip rfl rfl rfl rfl rfl) ?_
        refine RK.c (S.pickF .none rfl (.tmp rfl rfl) .cbool rfl) ?_
        refine RK.c (S.assign .none rfl (.tmp rfl rfl)) ?_
        refine RK.nil ?_
        refine Ab.D.code ?_
        refine OK.ret (Ret.r1 (.tmp rfl rfl (.c (.same rfl) rfl) rfl) ?_)
        refine ret_b ?_
        simp_all [leavesT]
    ·
      refine RK.c (S.skip rfl rfl rfl rfl rfl) ?_
      refine RK.c (S.skip rfl rfl rfl rfl rfl) ?_
      refine RK.c (S.pickF .none rfl (.tmp rfl rfl) .cbool rfl) ?_
      refine RK.c (S.move .none rfl (.tmp rfl rfl)) ?_
      refine RK.c (S.skip rfl rfl rfl rfl rfl) ?_
      refine RK.c (S.skip rfl rfl rfl rfl rfl) ?_
      refine RK.c (S.skip rfl rfl rfl rfl rfl) ?_
      refine RK.c (S.pickF .none rfl (.tmp rfl rfl) .cbool rfl) ?_
      refine RK.c (S.assign .none rfl (.tmp rfl rfl)) ?_
      refine RK.nil ?_
      refine Ab.D.code ?_
      refine OK.ret (Ret.r1 (.tmp rfl rfl (.c (.same rfl) rfl) rfl) ?_)
      refine ret_b ?_
      simp_all [leavesT]
  ·
    refine RK.c (S.skip rfl rfl rfl rfl rfl) ?_
    refine RK.c (S.skip rfl rfl rfl rfl rfl) ?_
    refine RK.c (S.skip rfl rfl rfl rfl rfl) ?_
    refine RK.c (S.pickF .none rfl (.tmp rfl rfl) .cbool rfl) ?_
    refine RK.c (S.move .none rfl (.tmp rfl rfl)) ?_
    refine RK.c (S.skip rfl rfl rfl rfl rfl) ?_
    refine RK.c (S.skip rfl rfl rfl rfl rfl) ?_
    refine RK.c (S.pickF .none rfl (.tmp rfl rfl) .cbool rfl) ?_
    refine RK.c (S.move .none rfl (.tmp rfl rfl)) ?_
    refine RK.c (S.skip rfl rfl rfl rfl rfl) ?_
    refine RK.c (S.skip rfl rfl rfl rfl rfl) ?_
    refine RK.c (S.skip rfl rfl rfl rfl rfl) ?_
    refine RK.c (S.pickF .none rfl (.tmp rfl rfl) .cbool rfl) ?_
    refine RK.c (S.assign .none rfl (.tmp rfl rfl)) ?_
    refine RK.nil ?_
    refine Ab.D.code ?_
    refine OK.ret (Ret.r1 (.tmp rfl rfl (.c (.same rfl) rfl) rfl) ?_)
    refine ret_b ?_
    simp_all [leavesT]

set_option maxHeartbeats 1000000 in
theorem ref_eventErr {l : List Event} {x : Event} : Ct Try.prog 79 [.sl (l.map Event.cs), .agg x.cs] (.int .i64 (evErr l x)) := by
  refine Ct.intro (rs := [.tmp 4]) Try.func79 rfl Try.ntmps79 Try.results79 rfl rfl rfl fun w h => ?_
  refine OK.seq ?_
  refine OK.reg ?_
  refine RK.c (S.box (k := 3) rfl .none rfl (.tmp rfl rfl) rfl) ?_
  refine RK.c (S.assign .none rfl (.cint rfl)) ?_
  refine RK.nil ?_
  refine Ab.D.code ?_
  refine OK.seq ?_
  refine OK.seq ?_
  refine OK.reg ?_
  refine RK.c (S.bfield fi89_0 .none rfl (.tmp rfl rfl)) ?_
  refine RK.c (S.bload1 ti3 .none rfl (.tmp rfl rfl) rfl rfl rfl rfl) ?_
  refine RK.c (S.call (base_Within) Try.call45 .none rfl (.cons (.tmp rfl rfl) (.cons (.cint rfl) (.cons (.cint rfl) .nil))) rfl) ?_
  refine RK.c (S.notD .none rfl (.tmp rfl rfl)) ?_
  refine RK.nil ?_
  refine Ab.D.code ?_
  refine OK.condD rfl rfl (fun c9 => ?_) (fun c9 => ?_)
  ·
    refine OK.seq ?_
    refine OK.reg ?_
    refine RK.c (S.assign .none rfl (.cint rfl)) ?_
    refine RK.nil ?_
    refine Ab.D.code ?_
    refine OK.ret (Ret.r1 (.tmp rfl rfl (.c (.same rfl) rfl) rfl) ?_)
    refine ret_i ?_
    rw [evErr, if_pos (by simpa using c9)]
  ·
    have hk : 0 ≤ x.kind ∧ x.kind ≤ 4 := by simpa using c9
    refine OK.skip ?_
    refine Ab.D.code ?_
    refine OK.seq ?_
    refine OK.seq ?_
    refine OK.reg ?_
    refine RK.c (S.bfield fi89_1 .none rfl (.tmp rfl rfl)) ?_
    refine RK.c (S.bload1 ti3 .none rfl (.tmp rfl rfl) rfl rfl rfl rfl) ?_
    refine RK.c (S.call (ref_PartErr) Try.call42 .none rfl (.cons (.tmp rfl rfl) .nil) rfl) ?_
    refine RK.c (S.neq .none rfl (.tmp rfl rfl) (.cint rfl)) ?_
    refine RK.nil ?_
    refine Ab.D.code ?_
    refine OK.condD rfl rfl (fun c13 => ?_) (fun c13 => ?_)
    ·
      have hp : ¬ (0 ≤ x.part ∧ x.part ≤ 1000000) := fun h => by rw [if_pos h] at c13; exact absurd rfl c13
      refine OK.seq ?_
      refine OK.reg ?_
      refine RK.c (S.assign .none rfl (.cint rfl)) ?_
      refine RK.nil ?_
      refine Ab.D.code ?_
      refine OK.ret (Ret.r1 (.tmp rfl rfl (.c (.same rfl) rfl) rfl) ?_)
      refine ret_i ?_
      rw [evErr, if_neg (not_not_intro hk), if_pos hp]
    ·
      have hp : 0 ≤ x.part ∧ x.part ≤ 1000000 := by
        by_cases h : 0 ≤ x.part ∧ x.part ≤ 1000000
        · exact h
        · rw [if_neg h] at c13; exact absurd (by decide) c13
      have ho : evErr l x = (if x.kind = 0 then (if (partT l x.part).loaded = true then 5 else 0) else if (partT l x.part).loaded = false ∨ (partT l x.part).chute ≠ 0 then 6 else if (x.kind = 1 ∧ ((partT l x.part).passed = true ∨ (partT l x.part).marked = true)) ∨ (x.kind = 2 ∧ (partT l x.part).marked = true) then 20 else if x.kind = 3 ∧ leavesT (partT l x.part) = false then 24 else 0) := by rw [evErr, if_neg (not_not_intro hk), if_neg (not_not_intro hp)]
      refine OK.skip ?_
      refine Ab.D.code ?_
      refine OK.seq ?_
      refine OK.reg ?_
      refine RK.c (S.move .none rfl (.tmp rfl rfl)) ?_
      refine RK.c (S.bfield fi89_1 .none rfl (.tmp rfl rfl)) ?_
      refine RK.c (S.bload1 ti3 .none rfl (.tmp rfl rfl) rfl rfl rfl rfl) ?_
      refine RK.c (S.call (ref_PartAfter) Try.call44 .none rfl (.cons (.tmp rfl rfl) (.cons (.tmp rfl rfl) .nil)) rfl) ?_
      refine RK.c (S.alloc (k := 5) ze84 rfl .none rfl) ?_
      refine RK.c (S.store ti84 .none (.tmp rfl rfl) (.tmp rfl rfl) rfl rfl rfl rfl rfl rfl) ?_
      refine RK.nil ?_
      refine Ab.D.code ?_
      refine OK.seq ?_
      refine OK.seq ?_
      refine OK.reg ?_
      refine RK.c (S.bfield fi89_0 .none rfl (.tmp rfl rfl)) ?_
      refine RK.c (S.bload1 ti3 .none rfl (.tmp rfl rfl) rfl rfl rfl rfl) ?_
      refine RK.c (S.eql .none rfl (.tmp rfl rfl) (.cint rfl)) ?_
      refine RK.nil ?_
      refine Ab.D.code ?_
      refine OK.condD rfl rfl (fun c20 => ?_) (fun c20 => ?_)
      ·
        refine OK.seq ?_
        refine OK.seq ?_
        refine OK.reg ?_
        refine RK.c (S.bfield fi84_0 .none rfl (.tmp rfl rfl)) ?_
        refine RK.c (S.bload1 ti4 .none rfl (.tmp rfl rfl) rfl rfl rfl rfl) ?_
        refine RK.nil ?_
        refine Ab.D.code ?_
        refine OK.cond rfl rfl (fun c22 => ?_) (fun c22 => ?_)
        ·
          refine OK.seq ?_
          refine OK.reg ?_
          refine RK.c (S.assign .none rfl (.cint rfl)) ?_
          refine RK.nil ?_
          refine Ab.D.code ?_
          refine OK.ret (Ret.r1 (.tmp rfl rfl (.c (.same rfl) rfl) rfl) ?_)
          refine ret_i ?_
          rw [ho, if_pos c20, if_pos c22]
        ·
          refine OK.skip ?_
          refine Ab.D.code ?_
          refine OK.seq ?_
          refine OK.reg ?_
          refine RK.c (S.assign .none rfl (.cint rfl)) ?_
          refine RK.nil ?_
          refine Ab.D.code ?_
          refine OK.ret (Ret.r1 (.tmp rfl rfl (.c (.same rfl) rfl) rfl) ?_)
          refine ret_i ?_
          rw [ho, if_pos c20, if_neg (by simp [c22])]
      ·
        refine OK.skip ?_
        refine Ab.D.code ?_
        refine OK.seq ?_
        refine OK.seq ?_
        refine OK.reg ?_
        refine RK.c (S.bfield fi84_0 .none rfl (.tmp rfl rfl)) ?_
        refine RK.c (S.bload1 ti4 .none rfl (.tmp rfl rfl) rfl rfl rfl rfl) ?_
        refine RK.c (S.not .none rfl (.tmp rfl rfl)) ?_
        refine RK.c (S.move .none rfl (.tmp rfl rfl)) ?_
        refine RK.split (t := 26) rfl (fun g26 => ?_) (fun g26 => ?_)
        ·
          refine RK.c (S.skip rfl rfl rfl rfl rfl) ?_
          refine RK.c (S.skip rfl rfl rfl rfl rfl) ?_
          refine RK.c (S.skip rfl rfl rfl rfl rfl) ?_
          refine RK.c (S.pickT .none rfl (.tmp rfl rfl) .cbool rfl) ?_
          refine RK.nil ?_
          refine Ab.D.code ?_
          refine OK.condT rfl rfl rfl ?_
          refine OK.seq ?_
          refine OK.reg ?_
          refine RK.c (S.assign .none rfl (.cint rfl)) ?_
          refine RK.nil ?_
          refine Ab.D.code ?_
          refine OK.ret (Ret.r1 (.tmp rfl rfl (.c (.same rfl) rfl) rfl) ?_)
          refine ret_i ?_
          rw [ho]
          simp_all
        ·
          refine RK.c (S.bfield fi84_3 (.yes rfl rfl rfl rfl) rfl (.tmp rfl rfl)) ?_
          refine RK.c (S.bload1 ti3 (.yes rfl rfl rfl rfl) rfl (.tmp rfl rfl) rfl rfl rfl rfl) ?_
          refine RK.c (S.neq (.yes rfl rfl rfl rfl) rfl (.tmp rfl rfl) (.cint rfl)) ?_
          refine RK.c (S.pickF .none rfl (.tmp rfl rfl) (.tmp rfl rfl) rfl) ?_
          refine RK.nil ?_
          refine Ab.D.code ?_
          refine OK.condD rfl rfl (fun c30 => ?_) (fun c30 => ?_)
          ·
            refine OK.seq ?_
            refine OK.reg ?_
            refine RK.c (S.assign .none rfl (.cint rfl)) ?_
            refine RK.nil ?_
            refine Ab.D.code ?_
            refine OK.ret (Ret.r1 (.tmp rfl rfl (.c (.same rfl) rfl) rfl) ?_)
            refine ret_i ?_
            rw [ho]
            simp_all
          ·
            refine OK.skip ?_
            refine Ab.D.code ?_
            refine OK.seq ?_
            refine OK.block ?_
            refine OK.seq ?_
            refine OK.seq ?_
            refine OK.reg ?_
            refine RK.c (S.bfield fi89_0 .none rfl (.tmp rfl rfl)) ?_
            refine RK.c (S.bload1 ti3 .none rfl (.tmp rfl rfl) rfl rfl rfl rfl) ?_
            refine RK.c (S.eql .none rfl (.tmp rfl rfl) (.cint rfl)) ?_
            refine RK.c (S.move .none rfl (.tmp rfl rfl)) ?_
            refine RK.splitD (t := 35) rfl (fun g35 => ?_) (fun g35 => ?_)
            ·
              refine RK.c (S.bfield fi84_1 (.yes rfl rfl rfl rfl) rfl (.tmp rfl rfl)) ?_
              refine RK.c (S.bload1 ti4 (.yes rfl rfl rfl rfl) rfl (.tmp rfl rfl) rfl rfl rfl rfl) ?_
              refine RK.c (S.move (.yes rfl rfl rfl rfl) rfl (.tmp rfl rfl)) ?_
              refine RK.split (t := 38) rfl (fun g38 => ?_) (fun g38 => ?_)
              ·
                refine RK.c (S.skip rfl rfl rfl rfl rfl) ?_
                refine RK.c (S.skip rfl rfl rfl rfl rfl) ?_
                refine RK.c (S.pickT (.yes rfl rfl rfl rfl) rfl (.tmp rfl rfl) .cbool rfl) ?_
                refine RK.c (S.pickT .none rfl (.tmp rfl rfl) (.tmp rfl rfl) rfl) ?_
                refine RK.c (S.assign .none rfl (.tmp rfl rfl)) ?_
                refine RK.nil ?_
                refine Ab.D.code ?_
                refine OK.condT rfl rfl rfl ?_
                refine OK.skip ?_
                refine Ab.D.code ?_
                refine OK.condT rfl rfl rfl ?_
                refine OK.seq ?_
                refine OK.reg ?_
                refine RK.c (S.assign .none rfl (.cint rfl)) ?_
                refine RK.nil ?_
                refine Ab.D.code ?_
                refine OK.ret (Ret.r1 (.tmp rfl rfl (.c (.same rfl) rfl) rfl) ?_)
                refine ret_i ?_
                rw [ho]
                simp_all
              ·
                refine RK.c (S.bfield fi84_2 (.yes rfl rfl rfl rfl) rfl (.tmp rfl rfl)) ?_
                refine RK.c (S.bload1 ti4 (.yes rfl rfl rfl rfl) rfl (.tmp rfl rfl) rfl rfl rfl rfl) ?_
                refine RK.c (S.pickF (.yes rfl rfl rfl rfl) rfl (.tmp rfl rfl) (.tmp rfl rfl) rfl) ?_
                refine RK.c (S.pickT .none rfl (.tmp rfl rfl) (.tmp rfl rfl) rfl) ?_
                refine RK.c (S.assign .none rfl (.tmp rfl rfl)) ?_
                refine RK.nil ?_
                refine Ab.D.code ?_
                refine OK.condL rfl rfl (fun c31 => ?_) (fun c31 => ?_)
                ·
                  refine OK.skip ?_
                  refine Ab.D.code ?_
                  refine OK.condT rfl rfl rfl ?_
                  refine OK.seq ?_
                  refine OK.reg ?_
                  refine RK.c (S.assign .none rfl (.cint rfl)) ?_
                  refine RK.nil ?_
                  refine Ab.D.code ?_
                  refine OK.ret (Ret.r1 (.tmp rfl rfl (.c (.same rfl) rfl) rfl) ?_)
                  refine ret_i ?_
                  rw [ho]
                  simp_all
                ·
                  refine OK.reg ?_
                  refine RK.c (S.bfield fi89_0 .none rfl (.tmp rfl rfl)) ?_
                  refine RK.c (S.bload1 ti3 .none rfl (.tmp rfl rfl) rfl rfl rfl rfl) ?_
                  refine RK.c (S.eql .none rfl (.tmp rfl rfl) (.cint rfl)) ?_
                  refine RK.c (S.move .none rfl (.tmp rfl rfl)) ?_
                  refine RK.splitD (t := 46) rfl (fun g46 => ?_) (fun g46 => ?_)
                  ·
                    refine RK.c (S.bfield fi84_2 (.yes rfl rfl rfl rfl) rfl (.tmp rfl rfl)) ?_
                    refine RK.c (S.bload1 ti4 (.yes rfl rfl rfl rfl) rfl (.tmp rfl rfl) rfl rfl rfl rfl) ?_
                    refine RK.c (S.pickT .none rfl (.tmp rfl rfl) (.tmp rfl rfl) rfl) ?_
                    refine RK.c (S.assign .none rfl (.tmp rfl rfl)) ?_
                    refine RK.nil ?_
                    refine Ab.D.code ?_
                    refine OK.condL rfl rfl (fun c31 => ?_) (fun c31 => ?_)
                    ·
                      refine OK.seq ?_
                      refine OK.reg ?_
                      refine RK.c (S.assign .none rfl (.cint rfl)) ?_
                      refine RK.nil ?_
                      refine Ab.D.code ?_
                      refine OK.ret (Ret.r1 (.tmp rfl rfl (.c (.same rfl) rfl) rfl) ?_)
                      refine ret_i ?_
                      rw [ho]
                      simp_all
                    ·
                      refine OK.seq ?_
                      refine OK.reg ?_
                      refine RK.c (S.bfield fi89_0 .none rfl (.tmp rfl rfl)) ?_
                      refine RK.c (S.bload1 ti3 .none rfl (.tmp rfl rfl) rfl rfl rfl rfl) ?_
                      refine RK.c (S.eql .none rfl (.tmp rfl rfl) (.cint rfl)) ?_
                      refine RK.c (S.move .none rfl (.tmp rfl rfl)) ?_
                      refine RK.splitD (t := 54) rfl (fun g54 => ?_) (fun g54 => ?_)
                      ·
                        refine RK.c (S.bloadN ti84 (.yes rfl rfl rfl rfl) rfl (.tmp rfl rfl) rfl rfl rfl rfl) ?_
                        refine RK.c (S.call (ref_Leaves) Try.call43 (.yes rfl rfl rfl rfl) rfl (.cons (.tmp rfl rfl) .nil) rfl) ?_
                        refine RK.c (S.not (.yes rfl rfl rfl rfl) rfl (.tmp rfl rfl)) ?_
                        refine RK.c (S.pickT .none rfl (.tmp rfl rfl) (.tmp rfl rfl) rfl) ?_
                        refine RK.c (S.assign .none rfl (.tmp rfl rfl)) ?_
                        refine RK.nil ?_
                        refine Ab.D.code ?_
                        refine OK.cond rfl rfl (fun c50 => ?_) (fun c50 => ?_)
                        ·
                          refine OK.seq ?_
                          refine OK.reg ?_
                          refine RK.c (S.assign .none rfl (.cint rfl)) ?_
                          refine RK.nil ?_
                          refine Ab.D.code ?_
                          refine OK.ret (Ret.r1 (.tmp rfl rfl (.c (.same rfl) rfl) rfl) ?_)
                          refine ret_i ?_
                          rw [ho]
                          simp_all
                        ·
                          refine OK.skip ?_
                          refine Ab.D.blk ?_
                          refine Ab.D.code ?_
                          refine OK.seq ?_
                          refine OK.reg ?_
                          refine RK.c (S.assign .none rfl (.cint rfl)) ?_
                          refine RK.nil ?_
                          refine Ab.D.code ?_
                          refine OK.ret (Ret.r1 (.tmp rfl rfl (.c (.same rfl) rfl) rfl) ?_)
                          refine ret_i ?_
                          rw [ho]
                          simp_all
                      ·
                        refine RK.c (S.skip rfl rfl rfl rfl rfl) ?_
                        refine RK.c (S.skip rfl rfl rfl rfl rfl) ?_
                        refine RK.c (S.skip rfl rfl rfl rfl rfl) ?_
                        refine RK.c (S.pickF .none rfl (.tmp rfl rfl) .cbool rfl) ?_
                        refine RK.c (S.assign .none rfl (.tmp rfl rfl)) ?_
                        refine RK.nil ?_
                        refine Ab.D.code ?_
                        refine OK.condF rfl rfl rfl ?_
                        refine OK.skip ?_
                        refine Ab.D.blk ?_
                        refine Ab.D.code ?_
                        refine OK.seq ?_
                        refine OK.reg ?_
                        refine RK.c (S.assign .none rfl (.cint rfl)) ?_
                        refine RK.nil ?_
                        refine Ab.D.code ?_
                        refine OK.ret (Ret.r1 (.tmp rfl rfl (.c (.same rfl) rfl) rfl) ?_)
                        refine ret_i ?_
                        rw [ho]
                        simp_all
                  ·
                    refine RK.c (S.skip rfl rfl rfl rfl rfl) ?_
                    refine RK.c (S.skip rfl rfl rfl rfl rfl) ?_
                    refine RK.c (S.pickF .none rfl (.tmp rfl rfl) .cbool rfl) ?_
                    refine RK.c (S.assign .none rfl (.tmp rfl rfl)) ?_
                    refine RK.nil ?_
                    refine Ab.D.code ?_
                    refine OK.condF rfl rfl rfl ?_
                    refine OK.seq ?_
                    refine OK.reg ?_
                    refine RK.c (S.bfield fi89_0 .none rfl (.tmp rfl rfl)) ?_
                    refine RK.c (S.bload1 ti3 .none rfl (.tmp rfl rfl) rfl rfl rfl rfl) ?_
                    refine RK.c (S.eql .none rfl (.tmp rfl rfl) (.cint rfl)) ?_
                    refine RK.c (S.move .none rfl (.tmp rfl rfl)) ?_
                    refine RK.splitD (t := 54) rfl (fun g54 => ?_) (fun g54 => ?_)
                    ·
                      refine RK.c (S.bloadN ti84 (.yes rfl rfl rfl rfl) rfl (.tmp rfl rfl) rfl rfl rfl rfl) ?_
                      refine RK.c (S.call (ref_Leaves) Try.call43 (.yes rfl rfl rfl rfl) rfl (.cons (.tmp rfl rfl) .nil) rfl) ?_
                      refine RK.c (S.not (.yes rfl rfl rfl rfl) rfl (.tmp rfl rfl)) ?_
                      refine RK.c (S.pickT .none rfl (.tmp rfl rfl) (.tmp rfl rfl) rfl) ?_
                      refine RK.c (S.assign .none rfl (.tmp rfl rfl)) ?_
                      refine RK.nil ?_
                      refine Ab.D.code ?_
                      refine OK.cond rfl rfl (fun c50 => ?_) (fun c50 => ?_)
                      ·
                        refine OK.seq ?_
                        refine OK.reg ?_
                        refine RK.c (S.assign .none rfl (.cint rfl)) ?_
                        refine RK.nil ?_
                        refine Ab.D.code ?_
                        refine OK.ret (Ret.r1 (.tmp rfl rfl (.c (.same rfl) rfl) rfl) ?_)
                        refine ret_i ?_
                        rw [ho]
                        simp_all
                      ·
                        refine OK.skip ?_
                        refine Ab.D.blk ?_
                        refine Ab.D.code ?_
                        refine OK.seq ?_
                        refine OK.reg ?_
                        refine RK.c (S.assign .none rfl (.cint rfl)) ?_
                        refine RK.nil ?_
                        refine Ab.D.code ?_
                        refine OK.ret (Ret.r1 (.tmp rfl rfl (.c (.same rfl) rfl) rfl) ?_)
                        refine ret_i ?_
                        rw [ho]
                        simp_all
                    ·
                      refine RK.c (S.skip rfl rfl rfl rfl rfl) ?_
                      refine RK.c (S.skip rfl rfl rfl rfl rfl) ?_
                      refine RK.c (S.skip rfl rfl rfl rfl rfl) ?_
                      refine RK.c (S.pickF .none rfl (.tmp rfl rfl) .cbool rfl) ?_
                      refine RK.c (S.assign .none rfl (.tmp rfl rfl)) ?_
                      refine RK.nil ?_
                      refine Ab.D.code ?_
                      refine OK.condF rfl rfl rfl ?_
                      refine OK.skip ?_
                      refine Ab.D.blk ?_
                      refine Ab.D.code ?_
                      refine OK.seq ?_
                      refine OK.reg ?_
                      refine RK.c (S.assign .none rfl (.cint rfl)) ?_
                      refine RK.nil ?_
                      refine Ab.D.code ?_
                      refine OK.ret (Ret.r1 (.tmp rfl rfl (.c (.same rfl) rfl) rfl) ?_)
                      refine ret_i ?_
                      rw [ho]
                      simp_all
            ·
              refine RK.c (S.skip rfl rfl rfl rfl rfl) ?_
              refine RK.c (S.skip rfl rfl rfl rfl rfl) ?_
              refine RK.c (S.skip rfl rfl rfl rfl rfl) ?_
              refine RK.c (S.skipU rfl rfl rfl rfl) ?_
              refine RK.c (S.skipU rfl rfl rfl rfl) ?_
              refine RK.c (S.skip rfl rfl rfl rfl rfl) ?_
              refine RK.c (S.pickF .none rfl (.tmp rfl rfl) .cbool rfl) ?_
              refine RK.c (S.assign .none rfl (.tmp rfl rfl)) ?_
              refine RK.nil ?_
              refine Ab.D.code ?_
              refine OK.condF rfl rfl rfl ?_
              refine OK.reg ?_
              refine RK.c (S.bfield fi89_0 .none rfl (.tmp rfl rfl)) ?_
              refine RK.c (S.bload1 ti3 .none rfl (.tmp rfl rfl) rfl rfl rfl rfl) ?_
              refine RK.c (S.eql .none rfl (.tmp rfl rfl) (.cint rfl)) ?_
              refine RK.c (S.move .none rfl (.tmp rfl rfl)) ?_
              refine RK.splitD (t := 46) rfl (fun g46 => ?_) (fun g46 => ?_)
              ·
                refine RK.c (S.bfield fi84_2 (.yes rfl rfl rfl rfl) rfl (.tmp rfl rfl)) ?_
                refine RK.c (S.bload1 ti4 (.yes rfl rfl rfl rfl) rfl (.tmp rfl rfl) rfl rfl rfl rfl) ?_
                refine RK.c (S.pickT .none rfl (.tmp rfl rfl) (.tmp rfl rfl) rfl) ?_
                refine RK.c (S.assign .none rfl (.tmp rfl rfl)) ?_
                refine RK.nil ?_
                refine Ab.D.code ?_
                refine OK.condL rfl rfl (fun c31 => ?_) (fun c31 => ?_)
                ·
                  refine OK.seq ?_
                  refine OK.reg ?_
                  refine RK.c (S.assign .none rfl (.cint rfl)) ?_
                  refine RK.nil ?_
                  refine Ab.D.code ?_
                  refine OK.ret (Ret.r1 (.tmp rfl rfl (.c (.same rfl) rfl) rfl) ?_)
                  refine ret_i ?_
                  rw [ho]
                  simp_all
                ·
                  refine OK.seq ?_
                  refine OK.reg ?_
                  refine RK.c (S.bfield fi89_0 .none rfl (.tmp rfl rfl)) ?_
                  refine RK.c (S.bload1 ti3 .none rfl (.tmp rfl rfl) rfl rfl rfl rfl) ?_
                  refine RK.c (S.eql .none rfl (.tmp rfl rfl) (.cint rfl)) ?_
                  refine RK.c (S.move .none rfl (.tmp rfl rfl)) ?_
                  refine RK.splitD (t := 54) rfl (fun g54 => ?_) (fun g54 => ?_)
                  ·
                    refine RK.c (S.bloadN ti84 (.yes rfl rfl rfl rfl) rfl (.tmp rfl rfl) rfl rfl rfl rfl) ?_
                    refine RK.c (S.call (ref_Leaves) Try.call43 (.yes rfl rfl rfl rfl) rfl (.cons (.tmp rfl rfl) .nil) rfl) ?_
                    refine RK.c (S.not (.yes rfl rfl rfl rfl) rfl (.tmp rfl rfl)) ?_
                    refine RK.c (S.pickT .none rfl (.tmp rfl rfl) (.tmp rfl rfl) rfl) ?_
                    refine RK.c (S.assign .none rfl (.tmp rfl rfl)) ?_
                    refine RK.nil ?_
                    refine Ab.D.code ?_
                    refine OK.cond rfl rfl (fun c50 => ?_) (fun c50 => ?_)
                    ·
                      refine OK.seq ?_
                      refine OK.reg ?_
                      refine RK.c (S.assign .none rfl (.cint rfl)) ?_
                      refine RK.nil ?_
                      refine Ab.D.code ?_
                      refine OK.ret (Ret.r1 (.tmp rfl rfl (.c (.same rfl) rfl) rfl) ?_)
                      refine ret_i ?_
                      rw [ho]
                      simp_all
                    ·
                      refine OK.skip ?_
                      refine Ab.D.blk ?_
                      refine Ab.D.code ?_
                      refine OK.seq ?_
                      refine OK.reg ?_
                      refine RK.c (S.assign .none rfl (.cint rfl)) ?_
                      refine RK.nil ?_
                      refine Ab.D.code ?_
                      refine OK.ret (Ret.r1 (.tmp rfl rfl (.c (.same rfl) rfl) rfl) ?_)
                      refine ret_i ?_
                      rw [ho]
                      simp_all
                  ·
                    refine RK.c (S.skip rfl rfl rfl rfl rfl) ?_
                    refine RK.c (S.skip rfl rfl rfl rfl rfl) ?_
                    refine RK.c (S.skip rfl rfl rfl rfl rfl) ?_
                    refine RK.c (S.pickF .none rfl (.tmp rfl rfl) .cbool rfl) ?_
                    refine RK.c (S.assign .none rfl (.tmp rfl rfl)) ?_
                    refine RK.nil ?_
                    refine Ab.D.code ?_
                    refine OK.condF rfl rfl rfl ?_
                    refine OK.skip ?_
                    refine Ab.D.blk ?_
                    refine Ab.D.code ?_
                    refine OK.seq ?_
                    refine OK.reg ?_
                    refine RK.c (S.assign .none rfl (.cint rfl)) ?_
                    refine RK.nil ?_
                    refine Ab.D.code ?_
                    refine OK.ret (Ret.r1 (.tmp rfl rfl (.c (.same rfl) rfl) rfl) ?_)
                    refine ret_i ?_
                    rw [ho]
                    simp_all
              ·
                refine RK.c (S.skip rfl rfl rfl rfl rfl) ?_
                refine RK.c (S.skip rfl rfl rfl rfl rfl) ?_
                refine RK.c (S.pickF .none rfl (.tmp rfl rfl) .cbool rfl) ?_
                refine RK.c (S.assign .none rfl (.tmp rfl rfl)) ?_
                refine RK.nil ?_
                refine Ab.D.code ?_
                refine OK.condF rfl rfl rfl ?_
                refine OK.seq ?_
                refine OK.reg ?_
                refine RK.c (S.bfield fi89_0 .none rfl (.tmp rfl rfl)) ?_
                refine RK.c (S.bload1 ti3 .none rfl (.tmp rfl rfl) rfl rfl rfl rfl) ?_
                refine RK.c (S.eql .none rfl (.tmp rfl rfl) (.cint rfl)) ?_
                refine RK.c (S.move .none rfl (.tmp rfl rfl)) ?_
                refine RK.splitD (t := 54) rfl (fun g54 => ?_) (fun g54 => ?_)
                ·
                  refine RK.c (S.bloadN ti84 (.yes rfl rfl rfl rfl) rfl (.tmp rfl rfl) rfl rfl rfl rfl) ?_
                  refine RK.c (S.call (ref_Leaves) Try.call43 (.yes rfl rfl rfl rfl) rfl (.cons (.tmp rfl rfl) .nil) rfl) ?_
                  refine RK.c (S.not (.yes rfl rfl rfl rfl) rfl (.tmp rfl rfl)) ?_
                  refine RK.c (S.pickT .none rfl (.tmp rfl rfl) (.tmp rfl rfl) rfl) ?_
                  refine RK.c (S.assign .none rfl (.tmp rfl rfl)) ?_
                  refine RK.nil ?_
                  refine Ab.D.code ?_
                  refine OK.cond rfl rfl (fun c50 => ?_) (fun c50 => ?_)
                  ·
                    refine OK.seq ?_
                    refine OK.reg ?_
                    refine RK.c (S.assign .none rfl (.cint rfl)) ?_
                    refine RK.nil ?_
                    refine Ab.D.code ?_
                    refine OK.ret (Ret.r1 (.tmp rfl rfl (.c (.same rfl) rfl) rfl) ?_)
                    refine ret_i ?_
                    rw [ho]
                    simp_all
                  ·
                    refine OK.skip ?_
                    refine Ab.D.blk ?_
                    refine Ab.D.code ?_
                    refine OK.seq ?_
                    refine OK.reg ?_
                    refine RK.c (S.assign .none rfl (.cint rfl)) ?_
                    refine RK.nil ?_
                    refine Ab.D.code ?_
                    refine OK.ret (Ret.r1 (.tmp rfl rfl (.c (.same rfl) rfl) rfl) ?_)
                    refine ret_i ?_
                    rw [ho]
                    simp_all
                ·
                  refine RK.c (S.skip rfl rfl rfl rfl rfl) ?_
                  refine RK.c (S.skip rfl rfl rfl rfl rfl) ?_
                  refine RK.c (S.skip rfl rfl rfl rfl rfl) ?_
                  refine RK.c (S.pickF .none rfl (.tmp rfl rfl) .cbool rfl) ?_
                  refine RK.c (S.assign .none rfl (.tmp rfl rfl)) ?_
                  refine RK.nil ?_
                  refine Ab.D.code ?_
                  refine OK.condF rfl rfl rfl ?_
                  refine OK.skip ?_
                  refine Ab.D.blk ?_
                  refine Ab.D.code ?_
                  refine OK.seq ?_
                  refine OK.reg ?_
                  refine RK.c (S.assign .none rfl (.cint rfl)) ?_
                  refine RK.nil ?_
                  refine Ab.D.code ?_
                  refine OK.ret (Ret.r1 (.tmp rfl rfl (.c (.same rfl) rfl) rfl) ?_)
                  refine ret_i ?_
                  rw [ho]
                  simp_all

set_option maxHeartbeats 1000000 in
theorem ref_Run {l : List Event} : Ct Try.prog 41 [.sl (l.map Event.cs)] (.tup [.agg (refCnt l).cs, .int .i64 (refRun l).1, .int .i64 (refRun l).2]) := by
  refine Ct.intro (rs := [.cell 2 73, .tmp 3, .tmp 4]) Try.func41 rfl Try.ntmps41 Try.results41 rfl rfl rfl fun w h => ?_
  refine OK.slLen (rows := l.map Event.cs) (t := 0) rfl rfl fun hlen => ?_
  rw [List.length_map] at hlen
  unfold maxLen at hlen
  refine OK.seq ?_
  refine OK.reg ?_
  refine RK.c (S.alloc (k := 2) ze73 rfl .none rfl) ?_
  refine RK.c (S.assign .none rfl (.cint rfl)) ?_
  refine RK.c (S.assign .none rfl (.cint rfl)) ?_
  refine RK.nil ?_
  refine Ab.D.code ?_
  refine OK.seq ?_
  refine OK.seq ?_
  refine OK.reg ?_
  refine RK.c (S.move .none rfl (.tmp rfl rfl)) ?_
  refine RK.c (S.lenM si71 .none rfl (.tmp rfl rfl)) ?_
  refine RK.c (S.gtr .none rfl (.tmp rfl rfl) (.cint rfl)) ?_
  refine RK.nil ?_
  refine Ab.D.code ?_
  refine OK.condD rfl rfl (fun c10 => ?_) (fun c10 => ?_)
  ·
    refine OK.seq ?_
    refine OK.reg ?_
    refine RK.c (S.build bu73 rfl .none rfl .nil rfl rfl) ?_
    refine RK.c (S.store ti73 .none (.tmp rfl rfl) (.tmp rfl rfl) rfl rfl rfl rfl rfl rfl) ?_
    refine RK.c (S.assign .none rfl (.cint rfl)) ?_
    refine RK.c (S.assign .none rfl (.cint rfl)) ?_
    refine RK.nil ?_
    refine Ab.D.code ?_
    refine OK.ret (Ret.r3 (.cellN rfl rfl rfl rfl ti73 rfl (.k (.same rfl) (.k (.same rfl) (.k (.same rfl) .z)))) (.tmp rfl rfl (.c (.same rfl) rfl) rfl) (.tmp rfl rfl (.c (.same rfl) rfl) rfl) ?_)
    have e : refRun l = (0, 8) := by rw [refRun, if_pos (by omega)]
    rw [refCnt, e, if_neg (by decide)]
    rfl
  ·
    have hr : refRun l = eachGo (refG l) 0 l := by rw [refRun, if_neg (by omega)]
    refine OK.skip ?_
    refine Ab.D.code ?_
    refine OK.seq ?_
    refine OK.reg ?_
    refine RK.c (S.alloc (k := 5) ze73 rfl .none rfl) ?_
    refine RK.nil ?_
    refine Ab.D.code ?_
    refine OK.seq ?_
    refine OK.seq ?_
    refine OK.reg ?_
    refine RK.c (S.assign .none rfl (.cint rfl)) ?_
    refine RK.nil ?_
    refine Ab.D.code ?_
    refine OK.block ?_
    refine OK.loop (G := Nat) [2, 5] (fun i => [(0, .sl (l.map Event.cs)), (2, .ptr 2 0), (1002, .box (⟨0, 0, 0⟩ : Counts).cs), (5, .ptr 5 0), (1005, .box (cntAt l i).cs), (6, .int .i64 i)]) (fun i => i ≤ l.length ∧ eachGo (refG l) 0 l = eachGo (refG l) i (l.drop i)) (fun i => l.length - i) 0 ⟨Nat.zero_le _, rfl⟩ ⟨rfl, rfl, rfl, rfl, rfl, rfl, trivial⟩ (fun _ => rfl) ?_
    rintro i ⟨hi, hg⟩
    refine OK.seq ?_
    refine OK.seq ?_
    refine OK.reg ?_
    refine RK.c (S.move .none rfl (.tmp rfl rfl)) ?_
    refine RK.c (S.move .none rfl (.tmp rfl rfl)) ?_
    refine RK.c (S.lenM si71 .none rfl (.tmp rfl rfl)) ?_
    refine RK.c (S.lss .none rfl (.tmp rfl rfl) (.tmp rfl rfl)) ?_
    refine RK.nil ?_
    refine Ab.D.code ?_
    refine OK.condD rfl rfl (fun c15 => ?_) (fun c15 => ?_)
    ·
      have hcb := cntAt_bd l i (by omega)
      refine OK.skip ?_
      refine Ab.D.code ?_
      refine OK.seq ?_
      refine OK.block ?_
      refine OK.seq ?_
      refine OK.seq ?_
      refine OK.regionDraw follows (.c (S.move .none rfl (.tmp rfl rfl))
        (.c (S.move .none rfl (.tmp rfl rfl))
        (.c (S.slice (hi := i) (l' := l.take i) si71 (fun _ => rfl) .none rfl (.tmp rfl rfl) (.inl ⟨rfl, rfl, rfl⟩) (.inr ⟨_, _, rfl, (.tmp rfl rfl), rfl⟩) (Nat.zero_le _) (by omega) rfl)
        (.c (S.move .none rfl (.tmp rfl rfl))
        (.c (S.move .none rfl (.tmp rfl rfl))
        (.c (S.indexM (n := i) si71 .none rfl (.tmp rfl rfl) (.tmp rfl rfl) rfl (by omega) rfl)
        (.c (S.loadN ti89 .none rfl (.tmp rfl rfl) rfl rfl)
        (.c (S.call (ref_eventErr (l := l.take i) (x := l[i])) Try.call79 .none rfl (.cons (.tmp rfl rfl) (.cons (.tmp rfl rfl) .nil)) rfl)
        (.c (S.assign .none rfl (.tmp rfl rfl))
        .nil))))))))) (by kernel_rfl) ?_
      refine Ab.D.code ?_
      refine OK.seq ?_
      refine OK.reg ?_
      refine RK.c (S.move .none rfl (.tmp rfl rfl)) ?_
      refine RK.c (S.neq .none rfl (.tmp rfl rfl) (.cint rfl)) ?_
      refine RK.nil ?_
      refine Ab.D.code ?_
      refine OK.condD rfl rfl (fun c27 => ?_) (fun c27 => ?_)
      ·
        refine OK.seq ?_
        refine OK.reg ?_
        refine RK.c (S.build bu73 rfl .none rfl .nil rfl rfl) ?_
        refine RK.c (S.move .none rfl (.tmp rfl rfl)) ?_
        refine RK.c (S.move .none rfl (.tmp rfl rfl)) ?_
        refine RK.c (S.store ti73 .none (.tmp rfl rfl) (.tmp rfl rfl) rfl rfl rfl rfl rfl rfl) ?_
        refine RK.c (S.assign .none rfl (.tmp rfl rfl)) ?_
        refine RK.c (S.assign .none rfl (.tmp rfl rfl)) ?_
        refine RK.nil ?_
        refine Ab.D.code ?_
        refine OK.ret (Ret.r3 (.cellN rfl rfl rfl rfl ti73 rfl (.k (.same rfl) (.k (.same rfl) (.k (.same rfl) .z)))) (.tmp rfl rfl (.c (.same rfl) rfl) rfl) (.tmp rfl rfl (.c (.same rfl) rfl) rfl) ?_)
        have e : eachGo (refG l) 0 l = ((i : Int), evErr (l.take i) l[i]) := by rw [hg, eachGo_drop _ (by omega)]; exact if_pos c27
        rw [refCnt, hr, e, if_neg c27]
        rfl
      ·
        refine OK.skip ?_
        refine Ab.D.code ?_
        refine OK.seq ?_
        refine OK.reg ?_
        refine RK.c (S.move .none rfl (.tmp rfl rfl)) ?_
        refine RK.c (S.move .none rfl (.tmp rfl rfl)) ?_
        refine RK.c (S.indexM (n := i) si71 .none rfl (.tmp rfl rfl) (.tmp rfl rfl) rfl (by omega) rfl) ?_
        refine RK.c (S.field fi89_0 .none rfl (.tmp rfl rfl) rfl) ?_
        refine RK.c (S.load1 ti3 .none rfl (.tmp rfl rfl) rfl) ?_
        refine RK.nil ?_
        refine Ab.D.code ?_
        refine OK.block ?_
        refine OK.seq ?_
        refine OK.reg ?_
        refine RK.c (S.eql .none rfl (.tmp rfl rfl) (.cint rfl)) ?_
        refine RK.c (S.assign .none rfl (.tmp rfl rfl)) ?_
        refine RK.nil ?_
        refine Ab.D.code ?_
        refine OK.condD rfl rfl (fun c36 => ?_) (fun c36 => ?_)
        ·
          refine OK.reg ?_
          refine RK.c (S.bfield fi73_0 .none rfl (.tmp rfl rfl)) ?_
          refine RK.c (S.bload1 ti3 .none rfl (.tmp rfl rfl) rfl rfl rfl rfl) ?_
          refine RK.c (S.add .none rfl (.tmp rfl rfl) (.cint rfl) (IntWalk.i64_in _ (by omega)) (IntWalk.i64_in _ (by omega))) ?_
          refine RK.c (S.bfield fi73_0 .none rfl (.tmp rfl rfl)) ?_
          refine RK.c (S.store ti3 .none (.tmp rfl rfl) (.tmp rfl rfl) rfl rfl rfl rfl rfl rfl) ?_
          refine RK.nil ?_
          refine Ab.D.blk ?_
          refine Ab.D.blk ?_
          refine Ab.D.code ?_
          refine OK.reg ?_
          refine RK.c (S.move .none rfl (.tmp rfl rfl)) ?_
          refine RK.c (S.add .none rfl (.tmp rfl rfl) (.cint rfl) (IntWalk.i64_in _ (by omega)) (IntWalk.i64_in _ (by omega))) ?_
          refine RK.c (S.assign .none rfl (.tmp rfl rfl)) ?_
          refine RK.nil ?_
          refine Ab.D.lp ⟨i + 1, ⟨by omega, by rw [hg, eachGo_drop _ (by omega), if_neg (show ¬ refG l i l[i] ≠ 0 from c27)]⟩, (by omega), rfl, rfl, rfl, rfl, (show _ = some (X.box (cntAt l (i + 1)).cs) by rw [cntAt_succ (by omega)]; unfold cntStep; first | (rw [if_pos c36]; rfl) | (rw [if_neg c36, if_pos c42]; rfl) | (rw [if_neg c36, if_neg c42, if_pos c52]; rfl) | (rw [if_neg c36, if_neg c42, if_neg c52]; rfl)), rfl, trivial⟩
        ·
          refine OK.seq ?_
          refine OK.reg ?_
          refine RK.c (S.eql .none rfl (.tmp rfl rfl) (.cint rfl)) ?_
          refine RK.c (S.assign .none rfl (.tmp rfl rfl)) ?_
          refine RK.nil ?_
          refine Ab.D.code ?_
          refine OK.condD rfl rfl (fun c42 => ?_) (fun c42 => ?_)
          ·
            refine OK.reg ?_
            refine RK.c (S.bfield fi73_0 .none rfl (.tmp rfl rfl)) ?_
            refine RK.c (S.bload1 ti3 .none rfl (.tmp rfl rfl) rfl rfl rfl rfl) ?_
            refine RK.c (S.sub .none rfl (.tmp rfl rfl) (.cint rfl) (IntWalk.i64_in _ (by omega)) (IntWalk.i64_in _ (by omega))) ?_
            refine RK.c (S.bfield fi73_1 .none rfl (.tmp rfl rfl)) ?_
            refine RK.c (S.bload1 ti3 .none rfl (.tmp rfl rfl) rfl rfl rfl rfl) ?_
            refine RK.c (S.add .none rfl (.tmp rfl rfl) (.cint rfl) (IntWalk.i64_in _ (by omega)) (IntWalk.i64_in _ (by omega))) ?_
            refine RK.c (S.bfield fi73_0 .none rfl (.tmp rfl rfl)) ?_
            refine RK.c (S.store ti3 .none (.tmp rfl rfl) (.tmp rfl rfl) rfl rfl rfl rfl rfl rfl) ?_
            refine RK.c (S.bfield fi73_1 .none rfl (.tmp rfl rfl)) ?_
            refine RK.c (S.store ti3 .none (.tmp rfl rfl) (.tmp rfl rfl) rfl rfl rfl rfl rfl rfl) ?_
            refine RK.nil ?_
            refine Ab.D.blk ?_
            refine Ab.D.blk ?_
            refine Ab.D.code ?_
            refine OK.reg ?_
            refine RK.c (S.move .none rfl (.tmp rfl rfl)) ?_
            refine RK.c (S.add .none rfl (.tmp rfl rfl) (.cint rfl) (IntWalk.i64_in _ (by omega)) (IntWalk.i64_in _ (by omega))) ?_
            refine RK.c (S.assign .none rfl (.tmp rfl rfl)) ?_
            refine RK.nil ?_
            refine Ab.D.lp ⟨i + 1, ⟨by omega, by rw [hg, eachGo_drop _ (by omega), if_neg (show ¬ refG l i l[i] ≠ 0 from c27)]⟩, (by omega), rfl, rfl, rfl, rfl, (show _ = some (X.box (cntAt l (i + 1)).cs) by rw [cntAt_succ (by omega)]; unfold cntStep; first | (rw [if_pos c36]; rfl) | (rw [if_neg c36, if_pos c42]; rfl) | (rw [if_neg c36, if_neg c42, if_pos c52]; rfl) | (rw [if_neg c36, if_neg c42, if_neg c52]; rfl)), rfl, trivial⟩
          ·
            refine OK.seq ?_
            refine OK.reg ?_
            refine RK.c (S.eql .none rfl (.tmp rfl rfl) (.cint rfl)) ?_
            refine RK.c (S.assign .none rfl (.tmp rfl rfl)) ?_
            refine RK.nil ?_
            refine Ab.D.code ?_
            refine OK.condD rfl rfl (fun c52 => ?_) (fun c52 => ?_)
            ·
              refine OK.reg ?_
              refine RK.c (S.bfield fi73_0 .none rfl (.tmp rfl rfl)) ?_
              refine RK.c (S.bload1 ti3 .none rfl (.tmp rfl rfl) rfl rfl rfl rfl) ?_
              refine RK.c (S.sub .none rfl (.tmp rfl rfl) (.cint rfl) (IntWalk.i64_in _ (by omega)) (IntWalk.i64_in _ (by omega))) ?_
              refine RK.c (S.bfield fi73_2 .none rfl (.tmp rfl rfl)) ?_
              refine RK.c (S.bload1 ti3 .none rfl (.tmp rfl rfl) rfl rfl rfl rfl) ?_
              refine RK.c (S.add .none rfl (.tmp rfl rfl) (.cint rfl) (IntWalk.i64_in _ (by omega)) (IntWalk.i64_in _ (by omega))) ?_
              refine RK.c (S.bfield fi73_0 .none rfl (.tmp rfl rfl)) ?_
              refine RK.c (S.store ti3 .none (.tmp rfl rfl) (.tmp rfl rfl) rfl rfl rfl rfl rfl rfl) ?_
              refine RK.c (S.bfield fi73_2 .none rfl (.tmp rfl rfl)) ?_
              refine RK.c (S.store ti3 .none (.tmp rfl rfl) (.tmp rfl rfl) rfl rfl rfl rfl rfl rfl) ?_
              refine RK.nil ?_
              refine Ab.D.blk ?_
              refine Ab.D.blk ?_
              refine Ab.D.code ?_
              refine OK.reg ?_
              refine RK.c (S.move .none rfl (.tmp rfl rfl)) ?_
              refine RK.c (S.add .none rfl (.tmp rfl rfl) (.cint rfl) (IntWalk.i64_in _ (by omega)) (IntWalk.i64_in _ (by omega))) ?_
              refine RK.c (S.assign .none rfl (.tmp rfl rfl)) ?_
              refine RK.nil ?_
              refine Ab.D.lp ⟨i + 1, ⟨by omega, by rw [hg, eachGo_drop _ (by omega), if_neg (show ¬ refG l i l[i] ≠ 0 from c27)]⟩, (by omega), rfl, rfl, rfl, rfl, (show _ = some (X.box (cntAt l (i + 1)).cs) by rw [cntAt_succ (by omega)]; unfold cntStep; first | (rw [if_pos c36]; rfl) | (rw [if_neg c36, if_pos c42]; rfl) | (rw [if_neg c36, if_neg c42, if_pos c52]; rfl) | (rw [if_neg c36, if_neg c42, if_neg c52]; rfl)), rfl, trivial⟩
            ·
              refine OK.skip ?_
              refine Ab.D.blk ?_
              refine Ab.D.blk ?_
              refine Ab.D.code ?_
              refine OK.reg ?_
              refine RK.c (S.move .none rfl (.tmp rfl rfl)) ?_
              refine RK.c (S.add .none rfl (.tmp rfl rfl) (.cint rfl) (IntWalk.i64_in _ (by omega)) (IntWalk.i64_in _ (by omega))) ?_
              refine RK.c (S.assign .none rfl (.tmp rfl rfl)) ?_
              refine RK.nil ?_
              refine Ab.D.lp ⟨i + 1, ⟨by omega, by rw [hg, eachGo_drop _ (by omega), if_neg (show ¬ refG l i l[i] ≠ 0 from c27)]⟩, (by omega), rfl, rfl, rfl, rfl, (show _ = some (X.box (cntAt l (i + 1)).cs) by rw [cntAt_succ (by omega)]; unfold cntStep; first | (rw [if_pos c36]; rfl) | (rw [if_neg c36, if_pos c42]; rfl) | (rw [if_neg c36, if_neg c42, if_pos c52]; rfl) | (rw [if_neg c36, if_neg c42, if_neg c52]; rfl)), rfl, trivial⟩
    ·
      refine OK.exit rfl ?_
      refine Ab.D.code ?_
      refine OK.seq ?_
      refine OK.reg ?_
      refine RK.c (S.bloadN ti73 .none rfl (.tmp rfl rfl) rfl rfl rfl rfl) ?_
      refine RK.c (S.store ti73 .none (.tmp rfl rfl) (.tmp rfl rfl) rfl rfl rfl rfl rfl rfl) ?_
      refine RK.c (S.assign .none rfl (.cint rfl)) ?_
      refine RK.c (S.assign .none rfl (.cint rfl)) ?_
      refine RK.nil ?_
      refine Ab.D.code ?_
      refine OK.ret (Ret.r3 (.cellN rfl rfl rfl rfl ti73 rfl (.k (.same rfl) (.k (.same rfl) (.k (.same rfl) .z)))) (.tmp rfl rfl (.c (.same rfl) rfl) rfl) (.tmp rfl rfl (.c (.same rfl) rfl) rfl) ?_)
      have e : eachGo (refG l) 0 l = (0, 0) := by rw [hg, show i = l.length by omega, List.drop_length]; rfl
      rw [refCnt, hr, e, if_pos rfl, show i = l.length by omega]
      rfl

theorem law_MonitorChutes {l : List Event} {part : Int} : Ct Try.prog 7 [.sl (l.map Event.cs), .int .i64 part] (.bool true) := by
  refine Ct.intro (rs := [.tmp 4]) Try.func7 rfl Try.ntmps7 Try.results7 rfl rfl rfl fun w h => ?_
  refine OK.seq ?_
  refine OK.reg ?_
  refine RK.c (S.assign .none rfl .cbool) ?_
  refine RK.nil ?_
  refine Ab.D.code ?_
  refine OK.seq ?_
  refine OK.seq ?_
  refine OK.reg ?_
  refine RK.c (S.call (law_awake) Try.call9 .none rfl .nil rfl) ?_
  refine RK.c (S.not .none rfl (.tmp rfl rfl)) ?_
  refine RK.nil ?_
  refine Ab.D.code ?_
  refine OK.condF rfl rfl rfl ?_
  refine OK.skip ?_
  refine Ab.D.code ?_
  refine OK.seq ?_
  refine OK.seq ?_
  refine OK.reg ?_
  refine RK.c (S.move .none rfl (.tmp rfl rfl)) ?_
  refine RK.c (S.lenM si71 .none rfl (.tmp rfl rfl)) ?_
  refine RK.c (S.gtr .none rfl (.tmp rfl rfl) (.cint rfl)) ?_
  refine RK.nil ?_
  refine Ab.D.code ?_
  refine OK.condD rfl rfl (fun c17 => ?_) (fun c17 => ?_)
  ·
    refine OK.seq ?_
    refine OK.reg ?_
    refine RK.c (S.assign .none rfl .cbool) ?_
    refine RK.nil ?_
    refine Ab.D.code ?_
    refine OK.ret (Ret.r1 (.tmp rfl rfl (.c (.same rfl) rfl) rfl) ?_)
    first | rfl | (refine ret_abs ?_; omega) | (refine ret_b ?_; rw [h5 (by omega)]; rfl) | (refine ret_dT ?_; exact h4 (by omega)) | (refine ret_b ?_; rw [h4 (by omega)]; simp)
  ·
    have h1 := (run_all l).1
    have h2 := idx_eq l
    have h3 := cnt_eq l
    have hle : leaveE l part = if (runT l).2 ≠ 0 then (runT l).2 else if 0 ≤ part ∧ part ≤ 1000000 then 0 else 2 := rfl
    have h4 := fun h => leave_eq (l := l) (part := part) h
    have h5 : ¬ leaveE l part = 0 → leaveB l part = false := fun h => by rw [leaveB, decide_eq_false h, Bool.false_and]
    rw [h1] at hle
    refine OK.skip ?_
    refine Ab.D.code ?_
    refine OK.seq ?_
    refine OK.reg ?_
    refine RK.c (S.move .none rfl (.tmp rfl rfl)) ?_
    refine RK.c (S.call (ref_CopyEvents (by omega)) Try.call39 .none rfl (.cons (.tmp rfl rfl) .nil) rfl) ?_
    refine RK.c (S.call (ct_res (mon_RunOf (l := l)) (by rw [h3, h2, h1])) Try.call38 .none rfl (.cons (.tmp rfl rfl) .nil) rfl) ?_
    refine RK.c (S.move .none rfl (.tmp rfl rfl)) ?_
    refine RK.c (S.extract .none rfl (.tmp rfl rfl) rfl rfl) ?_
    refine RK.c (S.extract .none rfl (.tmp rfl rfl) rfl rfl) ?_
    refine RK.c (S.extract .none rfl (.tmp rfl rfl) rfl rfl) ?_
    refine RK.c (S.alloc (k := 5) ze73 rfl .none rfl) ?_
    refine RK.c (S.store ti73 .none (.tmp rfl rfl) (.tmp rfl rfl) rfl rfl rfl rfl rfl rfl) ?_
    refine RK.c (S.assign .none rfl (.tmp rfl rfl)) ?_
    refine RK.c (S.assign .none rfl (.tmp rfl rfl)) ?_
    refine RK.nil ?_
    refine Ab.D.code ?_
    refine OK.seq ?_
    refine OK.reg ?_
    refine RK.c (S.move .none rfl (.tmp rfl rfl)) ?_
    refine RK.c (S.call (ref_CopyEvents (by omega)) Try.call39 .none rfl (.cons (.tmp rfl rfl) .nil) rfl) ?_
    refine RK.c (S.move .none rfl (.tmp rfl rfl)) ?_
    refine RK.c (S.call (mon_MayLeave) Try.call40 .none rfl (.cons (.tmp rfl rfl) (.cons (.tmp rfl rfl) .nil)) rfl) ?_
    refine RK.c (S.move .none rfl (.tmp rfl rfl)) ?_
    refine RK.c (S.extract .none rfl (.tmp rfl rfl) rfl rfl) ?_
    refine RK.c (S.extract .none rfl (.tmp rfl rfl) rfl rfl) ?_
    refine RK.c (S.assign .none rfl (.tmp rfl rfl)) ?_
    refine RK.c (S.assign .none rfl (.tmp rfl rfl)) ?_
    refine RK.nil ?_
    refine Ab.D.code ?_
    refine OK.seq ?_
    refine OK.reg ?_
    refine RK.c (S.move .none rfl (.tmp rfl rfl)) ?_
    refine RK.c (S.call (ref_Run) Try.call41 .none rfl (.cons (.tmp rfl rfl) .nil) rfl) ?_
    refine RK.c (S.move .none rfl (.tmp rfl rfl)) ?_
    refine RK.c (S.extract .none rfl (.tmp rfl rfl) rfl rfl) ?_
    refine RK.c (S.extract .none rfl (.tmp rfl rfl) rfl rfl) ?_
    refine RK.c (S.extract .none rfl (.tmp rfl rfl) rfl rfl) ?_
    refine RK.c (S.alloc (k := 10) ze73 rfl .none rfl) ?_
    refine RK.c (S.store ti73 .none (.tmp rfl rfl) (.tmp rfl rfl) rfl rfl rfl rfl rfl rfl) ?_
    refine RK.c (S.assign .none rfl (.tmp rfl rfl)) ?_
    refine RK.c (S.assign .none rfl (.tmp rfl rfl)) ?_
    refine RK.nil ?_
    refine Ab.D.code ?_
    refine OK.seq ?_
    refine OK.seq ?_
    refine OK.reg ?_
    refine RK.c (S.move .none rfl (.tmp rfl rfl)) ?_
    refine RK.c (S.move .none rfl (.tmp rfl rfl)) ?_
    refine RK.c (S.neq .none rfl (.tmp rfl rfl) (.tmp rfl rfl)) ?_
    refine RK.c (S.move .none rfl (.tmp rfl rfl)) ?_
    refine RK.splitD (t := 41) rfl (fun g41 => ?_) (fun g41 => ?_)
    ·
      exact absurd rfl g41
    ·
      refine RK.c (S.move (.yes rfl rfl rfl rfl) rfl (.tmp rfl rfl)) ?_
      refine RK.c (S.move (.yes rfl rfl rfl rfl) rfl (.tmp rfl rfl)) ?_
      refine RK.c (S.neq (.yes rfl rfl rfl rfl) rfl (.tmp rfl rfl) (.tmp rfl rfl)) ?_
      refine RK.c (S.pickF .none rfl (.tmp rfl rfl) (.tmp rfl rfl) rfl) ?_
      refine RK.c (S.move .none rfl (.tmp rfl rfl)) ?_
      refine RK.splitD (t := 46) rfl (fun g46 => ?_) (fun g46 => ?_)
      ·
        exact absurd rfl g46
      ·
        refine RK.c (S.bloadN ti73 (.yes rfl rfl rfl rfl) rfl (.tmp rfl rfl) rfl rfl rfl rfl) ?_
        refine RK.c (S.bloadN ti73 (.yes rfl rfl rfl rfl) rfl (.tmp rfl rfl) rfl rfl rfl rfl) ?_
        refine RK.c (S.aneq [(refCnt l).inside, (refCnt l).good, (refCnt l).bad] [(refCnt l).inside, (refCnt l).good, (refCnt l).bad] eq73 (.yes rfl rfl rfl rfl) rfl (.tmp rfl rfl) (.tmp rfl rfl) rfl rfl rfl rfl) ?_
        refine RK.c (S.pickF .none rfl (.tmp rfl rfl) (.tmp rfl rfl) rfl) ?_
        refine RK.nil ?_
        refine Ab.D.code ?_
        refine OK.condD rfl rfl (fun c50 => ?_) (fun c50 => ?_)
        ·
          exact absurd rfl c50
        ·
          refine OK.skip ?_
          refine Ab.D.code ?_
          refine OK.seq ?_
          refine OK.seq ?_
          refine OK.reg ?_
          refine RK.c (S.move .none rfl (.tmp rfl rfl)) ?_
          refine RK.c (S.eql .none rfl (.tmp rfl rfl) (.cint rfl)) ?_
          refine RK.nil ?_
          refine Ab.D.code ?_
          refine OK.condD rfl rfl (fun c52 => ?_) (fun c52 => ?_)
          ·
            refine OK.reg ?_
            refine RK.c (S.move .none rfl (.tmp rfl rfl)) ?_
            refine RK.c (S.call (ref_PartErr) Try.call42 .none rfl (.cons (.tmp rfl rfl) .nil) rfl) ?_
            refine RK.c (S.assign .none rfl (.tmp rfl rfl)) ?_
            refine RK.nil ?_
            refine Ab.D.code ?_
            refine OK.seq ?_
            refine OK.seq ?_
            refine OK.reg ?_
            refine RK.c (S.move .none rfl (.tmp rfl rfl)) ?_
            refine RK.c (S.neq .none rfl (.tmp rfl rfl) (.cint rfl)) ?_
            refine RK.nil ?_
            refine Ab.D.code ?_
            refine OK.condD rfl rfl (fun c56 => ?_) (fun c56 => ?_)
            ·
              refine OK.seq ?_
              refine OK.reg ?_
              refine RK.c (S.move .none rfl (.tmp rfl rfl)) ?_
              refine RK.c (S.move .none rfl (.tmp rfl rfl)) ?_
              refine RK.c (S.eql .none rfl (.tmp rfl rfl) (.tmp rfl rfl)) ?_
              refine RK.c (S.move .none rfl (.tmp rfl rfl)) ?_
              refine RK.splitD (t := 60) rfl (fun g60 => ?_) (fun g60 => ?_)
              ·
                refine RK.c (S.move (.yes rfl rfl rfl rfl) rfl (.tmp rfl rfl)) ?_
                refine RK.c (S.not (.yes rfl rfl rfl rfl) rfl (.tmp rfl rfl)) ?_
                refine RK.c (S.pickT .none rfl (.tmp rfl rfl) (.tmp rfl rfl) rfl) ?_
                refine RK.c (S.assign .none rfl (.tmp rfl rfl)) ?_
                refine RK.nil ?_
                refine Ab.D.code ?_
                refine OK.ret (Ret.r1 (.tmp rfl rfl (.c (.same rfl) rfl) rfl) ?_)
                first | rfl | (refine ret_abs ?_; omega) | (refine ret_b ?_; rw [h5 (by omega)]; rfl) | (refine ret_dT ?_; exact h4 (by omega)) | (refine ret_b ?_; rw [h4 (by omega)]; simp)
              ·
                refine RK.c (S.skip rfl rfl rfl rfl rfl) ?_
                refine RK.c (S.skip rfl rfl rfl rfl rfl) ?_
                refine RK.c (S.pickF .none rfl (.tmp rfl rfl) .cbool rfl) ?_
                refine RK.c (S.assign .none rfl (.tmp rfl rfl)) ?_
                refine RK.nil ?_
                refine Ab.D.code ?_
                refine OK.ret (Ret.r1 (.tmp rfl rfl (.c (.same rfl) rfl) rfl) ?_)
                first | rfl | (refine ret_abs ?_; omega) | (refine ret_b ?_; rw [h5 (by omega)]; rfl) | (refine ret_dT ?_; exact h4 (by omega)) | (refine ret_b ?_; rw [h4 (by omega)]; simp)
            ·
              refine OK.skip ?_
              refine Ab.D.code ?_
              refine OK.seq ?_
              refine OK.reg ?_
              refine RK.c (S.move .none rfl (.tmp rfl rfl)) ?_
              refine RK.c (S.eql .none rfl (.tmp rfl rfl) (.cint rfl)) ?_
              refine RK.c (S.move .none rfl (.tmp rfl rfl)) ?_
              refine RK.splitD (t := 66) rfl (fun g66 => ?_) (fun g66 => ?_)
              ·
                refine RK.c (S.move (.yes rfl rfl rfl rfl) rfl (.tmp rfl rfl)) ?_
                refine RK.c (S.move (.yes rfl rfl rfl rfl) rfl (.tmp rfl rfl)) ?_
                refine RK.c (S.move (.yes rfl rfl rfl rfl) rfl (.tmp rfl rfl)) ?_
                refine RK.c (S.call (ref_PartAfter) Try.call44 (.yes rfl rfl rfl rfl) rfl (.cons (.tmp rfl rfl) (.cons (.tmp rfl rfl) .nil)) rfl) ?_
                refine RK.c (S.call (ref_Leaves) Try.call43 (.yes rfl rfl rfl rfl) rfl (.cons (.tmp rfl rfl) .nil) rfl) ?_
                refine RK.c (S.beql Try.underlying4 (.yes rfl rfl rfl rfl) rfl (.tmp rfl rfl) (.tmp rfl rfl)) ?_
                refine RK.c (S.pickT .none rfl (.tmp rfl rfl) (.tmp rfl rfl) rfl) ?_
                refine RK.c (S.assign .none rfl (.tmp rfl rfl)) ?_
                refine RK.nil ?_
                refine Ab.D.code ?_
                refine OK.ret (Ret.r1 (.tmp rfl rfl (.c (.same rfl) rfl) rfl) ?_)
                first | rfl | (refine ret_abs ?_; omega) | (refine ret_b ?_; rw [h5 (by omega)]; rfl) | (refine ret_dT ?_; exact h4 (by omega)) | (refine ret_b ?_; rw [h4 (by omega)]; simp)
              ·
                refine RK.c (S.skip rfl rfl rfl rfl rfl) ?_
                refine RK.c (S.skip rfl rfl rfl rfl rfl) ?_
                refine RK.c (S.skip rfl rfl rfl rfl rfl) ?_
                refine RK.c (S.skip rfl rfl rfl rfl rfl) ?_
                refine RK.c (S.skip rfl rfl rfl rfl rfl) ?_
                refine RK.c (S.skip rfl rfl rfl rfl rfl) ?_
                refine RK.c (S.pickF .none rfl (.tmp rfl rfl) .cbool rfl) ?_
                refine RK.c (S.assign .none rfl (.tmp rfl rfl)) ?_
                refine RK.nil ?_
                refine Ab.D.code ?_
                refine OK.ret (Ret.r1 (.tmp rfl rfl (.c (.same rfl) rfl) rfl) ?_)
                first | rfl | (refine ret_abs ?_; omega) | (refine ret_b ?_; rw [h5 (by omega)]; rfl) | (refine ret_dT ?_; exact h4 (by omega)) | (refine ret_b ?_; rw [h4 (by omega)]; simp)
          ·
            refine OK.skip ?_
            refine Ab.D.code ?_
            refine OK.seq ?_
            refine OK.seq ?_
            refine OK.reg ?_
            refine RK.c (S.move .none rfl (.tmp rfl rfl)) ?_
            refine RK.c (S.neq .none rfl (.tmp rfl rfl) (.cint rfl)) ?_
            refine RK.nil ?_
            refine Ab.D.code ?_
            refine OK.condD rfl rfl (fun c56 => ?_) (fun c56 => ?_)
            ·
              refine OK.seq ?_
              refine OK.reg ?_
              refine RK.c (S.move .none rfl (.tmp rfl rfl)) ?_
              refine RK.c (S.move .none rfl (.tmp rfl rfl)) ?_
              refine RK.c (S.eql .none rfl (.tmp rfl rfl) (.tmp rfl rfl)) ?_
              refine RK.c (S.move .none rfl (.tmp rfl rfl)) ?_
              refine RK.splitD (t := 60) rfl (fun g60 => ?_) (fun g60 => ?_)
              ·
                refine RK.c (S.move (.yes rfl rfl rfl rfl) rfl (.tmp rfl rfl)) ?_
                refine RK.c (S.not (.yes rfl rfl rfl rfl) rfl (.tmp rfl rfl)) ?_
                refine RK.c (S.pickT .none rfl (.tmp rfl rfl) (.tmp rfl rfl) rfl) ?_
                refine RK.c (S.assign .none rfl (.tmp rfl rfl)) ?_
                refine RK.nil ?_
                refine Ab.D.code ?_
                refine OK.ret (Ret.r1 (.tmp rfl rfl (.c (.same rfl) rfl) rfl) ?_)
                first | rfl | (refine ret_abs ?_; omega) | (refine ret_b ?_; rw [h5 (by omega)]; rfl) | (refine ret_dT ?_; exact h4 (by omega)) | (refine ret_b ?_; rw [h4 (by omega)]; simp)
              ·
                refine RK.c (S.skip rfl rfl rfl rfl rfl) ?_
                refine RK.c (S.skip rfl rfl rfl rfl rfl) ?_
                refine RK.c (S.pickF .none rfl (.tmp rfl rfl) .cbool rfl) ?_
                refine RK.c (S.assign .none rfl (.tmp rfl rfl)) ?_
                refine RK.nil ?_
                refine Ab.D.code ?_
                refine OK.ret (Ret.r1 (.tmp rfl rfl (.c (.same rfl) rfl) rfl) ?_)
                first | rfl | (refine ret_abs ?_; omega) | (refine ret_b ?_; rw [h5 (by omega)]; rfl) | (refine ret_dT ?_; exact h4 (by omega)) | (refine ret_b ?_; rw [h4 (by omega)]; simp)
            ·
              refine OK.skip ?_
              refine Ab.D.code ?_
              refine OK.seq ?_
              refine OK.reg ?_
              refine RK.c (S.move .none rfl (.tmp rfl rfl)) ?_
              refine RK.c (S.eql .none rfl (.tmp rfl rfl) (.cint rfl)) ?_
              refine RK.c (S.move .none rfl (.tmp rfl rfl)) ?_
              refine RK.splitD (t := 66) rfl (fun g66 => ?_) (fun g66 => ?_)
              ·
                refine RK.c (S.move (.yes rfl rfl rfl rfl) rfl (.tmp rfl rfl)) ?_
                refine RK.c (S.move (.yes rfl rfl rfl rfl) rfl (.tmp rfl rfl)) ?_
                refine RK.c (S.move (.yes rfl rfl rfl rfl) rfl (.tmp rfl rfl)) ?_
                refine RK.c (S.call (ref_PartAfter) Try.call44 (.yes rfl rfl rfl rfl) rfl (.cons (.tmp rfl rfl) (.cons (.tmp rfl rfl) .nil)) rfl) ?_
                refine RK.c (S.call (ref_Leaves) Try.call43 (.yes rfl rfl rfl rfl) rfl (.cons (.tmp rfl rfl) .nil) rfl) ?_
                refine RK.c (S.beql Try.underlying4 (.yes rfl rfl rfl rfl) rfl (.tmp rfl rfl) (.tmp rfl rfl)) ?_
                refine RK.c (S.pickT .none rfl (.tmp rfl rfl) (.tmp rfl rfl) rfl) ?_
                refine RK.c (S.assign .none rfl (.tmp rfl rfl)) ?_
                refine RK.nil ?_
                refine Ab.D.code ?_
                refine OK.ret (Ret.r1 (.tmp rfl rfl (.c (.same rfl) rfl) rfl) ?_)
                first | rfl | (refine ret_abs ?_; omega) | (refine ret_b ?_; rw [h5 (by omega)]; rfl) | (refine ret_dT ?_; exact h4 (by omega)) | (refine ret_b ?_; rw [h4 (by omega)]; simp)
              ·
                refine RK.c (S.skip rfl rfl rfl rfl rfl) ?_
                refine RK.c (S.skip rfl rfl rfl rfl rfl) ?_
                refine RK.c (S.skip rfl rfl rfl rfl rfl) ?_
                refine RK.c (S.skip rfl rfl rfl rfl rfl) ?_
                refine RK.c (S.skip rfl rfl rfl rfl rfl) ?_
                refine RK.c (S.skip rfl rfl rfl rfl rfl) ?_
                refine RK.c (S.pickF .none rfl (.tmp rfl rfl) .cbool rfl) ?_
                refine RK.c (S.assign .none rfl (.tmp rfl rfl)) ?_
                refine RK.nil ?_
                refine Ab.D.code ?_
                refine OK.ret (Ret.r1 (.tmp rfl rfl (.c (.same rfl) rfl) rfl) ?_)
                first | rfl | (refine ret_abs ?_; omega) | (refine ret_b ?_; rw [h5 (by omega)]; rfl) | (refine ret_dT ?_; exact h4 (by omega)) | (refine ret_b ?_; rw [h4 (by omega)]; simp)

end Go.Proofs.Ytfjldfkgjejpmaa
