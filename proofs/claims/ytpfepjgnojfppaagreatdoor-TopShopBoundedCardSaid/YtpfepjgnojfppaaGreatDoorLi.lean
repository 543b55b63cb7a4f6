import Derived.Test.YtpfepjgnojfppaaGreatDoorGs
import Derived.Test.YtpfepjgnojfppaaGreatDoorLh
import Derived.Test.YtpfepjgnojfppaaGreatDoorTz
namespace Go.Proofs.YtpfepjgnojfppaaGreatDoor
open Go.Ab
theorem jobs_both {l : List Job} {c : Changes} (h : bothE l c = 0) : (jobsChk l).2 = 0 := by
  unfold bothE at h
  split at h
  · contradiction
  · rename_i h1; exact Decidable.not_not.1 h1
theorem fewJ_jobs {l : List Job} (h : (jobsChk l).2 = 0) : fewJ l = true := by
  obtain ⟨_, h2, h3⟩ := jobs_all h
  unfold fewJ
  rw [decide_eq_true (by omega), Bool.true_and, List.all_eq_true]
  intro j hj
  have := (name_no (h3 j hj).1).2.2.2
  exact decide_eq_true (by omega)
theorem ord_zero {n : Nat} {o : List Int} (ho : OrdOkN n o) : orderE n o = 0 := order_end ho.len (each_00 fun i hi => by
  have hr := ho.rng _ (List.getElem_mem hi)
  rw [Nat.zero_add]
  refine ord_0 (by omega) ?_
  rw [List.any_eq_false]
  intro y hy e
  obtain ⟨j, hj, rfl⟩ := List.mem_take_iff_getElem.1 hy
  exact ho.dis j i (by omega) hi (by omega) (of_decide_eq_true e).symm)
theorem later_both {l : List Job} {c : Changes} {d : Int} (hd : 0 ≤ d) (h : bothE l c = 0) : bothE (l.map (later d)) c = 0 := by
  have hj := jobs_both h
  have hB := both_ok h
  have hs : strange (l.map (later d)) c = strange l c := by
    unfold strange
    rw [List.any_map]
    rfl
  have hj2 : (jobsChk (l.map (later d))).2 = 0 := by
    rw [jobs_is (by rw [List.length_map]; exact hB.len)]
    rw [jobs_is hB.len] at hj
    rw [each_00 (fun i hi => by
      rw [List.length_map] at hi
      have hz := jobE_0 (each_zero _ l 0 hj i hi)
      have hjb := hB.job _ (List.getElem_mem hi)
      rw [Nat.zero_add] at hz ⊢
      rw [List.getElem_map]
      refine job_fine (j := later d l[i]) hz.1 ?_ ?_
      · rw [← List.map_take, List.any_map]
        exact hz.2.1
      · unfold rightJ
        have hdue : 0 ≤ (later d l[i]).due ∧ (later d l[i]).due ≤ 100000 := by
          show 0 ≤ (if l[i].due + d < 100000 then l[i].due + d else 100000) ∧ (if l[i].due + d < 100000 then l[i].due + d else 100000) ≤ 100000
          split <;> omega
        simp only [Bool.and_eq_true, decide_eq_true_eq]
        exact ⟨hz.2.2.1, hz.2.2.2.1, hdue⟩)]
  unfold bothE at h ⊢
  rw [hj, if_neg (by decide)] at h
  rw [hj2, if_neg (by decide), hs]
  exact h
theorem set_len {l : List Job} {s : List Int} (h1 : ∀ x ∈ s, 0 ≤ x ∧ x < (l.length : Int)) (h2 : s.Pairwise (· < ·)) : s.length ≤ l.length := by
  have := sub_len s ((List.range l.length).map fun k : Nat => (k : Int)) (h2.imp fun h => by omega) fun x hx => by
    have := h1 x hx
    exact List.mem_map.2 ⟨x.toNat, List.mem_range.2 (by omega), by omega⟩
  rwa [List.length_map, List.length_range] at this
theorem flat_get {sz f : Nat} {row : List X} : ∀ {rows : List (List X)} {i : Nat}, (∀ q ∈ rows, q.length = sz) → rows[i]? = some row → f < sz → rows.flatten[i * sz + f]? = row[f]?
  | [], i, _, h, _ => by simp at h
  | r :: rows, 0, hr, h, hf => by
    simp only [List.getElem?_cons_zero, Option.some.injEq] at h
    subst h
    have := hr r List.mem_cons_self
    rw [List.flatten_cons, List.getElem?_append_left (by omega), Nat.zero_mul, Nat.zero_add]
  | r :: rows, i + 1, hr, h, hf => by
    simp only [List.getElem?_cons_succ] at h
    have h1 := hr r List.mem_cons_self
    have h2 : (i + 1) * sz + f = r.length + (i * sz + f) := by rw [h1, Nat.succ_mul]; omega
    rw [List.flatten_cons, List.getElem?_append_right (by omega), h2, Nat.add_sub_cancel_left, flat_get (fun q hq => hr q (List.mem_cons_of_mem _ hq)) h hf]
theorem later_row {d : Int} {l : List Job} {i : Nat} (h : i < l.length) : ((laterTo d l i).map Job.cs)[i]? = some l[i].cs := by rw [List.getElem?_map, laterTo_get h]; rfl
theorem later_due {d : Int} {l : List Job} {i : Nat} (h : i < l.length) : ((laterTo d l i).map Job.cs).flatten[i * 4 + 3]? = some (X.int .i64 l[i].due) := by
  rw [flat_get (f := 3) (fun q hq => by obtain ⟨x, _, rfl⟩ := List.mem_map.1 hq; rfl) (later_row h) (by decide)]
  rfl
theorem later_store {d : Int} {l : List Job} {i : Nat} (h : i < l.length) : ((laterTo d l i).map Job.cs).set i ((l[i].cs).set 3 (X.int .i64 (if l[i].due + d < 100000 then l[i].due + d else 100000))) = (laterTo d l (i + 1)).map Job.cs := by
  rw [← laterTo_set h, List.map_set]
  rfl
structure PMax (l : List Job) (k : Nat) (p : Int) : Prop where
  rng : 0 ≤ p ∧ p ≤ 100000
  le : ∀ i : Nat, i < k → tickAt l i ≤ p
  is : p = 0 ∨ ∃ i : Nat, i < k ∧ tickAt l i = p
theorem tick_at {l : List Job} {k : Nat} (h : k < l.length) : tickAt l k = l[k].ticks := by unfold tickAt jobAt; rw [getD_at (by omega)]; rfl
theorem PMax.zero (l : List Job) : PMax l 0 0 := ⟨⟨by decide, by decide⟩, fun i h => by omega, .inl rfl⟩
theorem PMax.succ {l : List Job} {k : Nat} {p : Int} (h : PMax l k p) (hk : k < l.length) (h1 : 1 ≤ l[k].ticks ∧ l[k].ticks ≤ 100000) : PMax l (k + 1) (maxI p l[k].ticks) := by
  have ht := tick_at hk
  have hr := h.rng
  unfold maxI
  split
  · refine ⟨by omega, fun i hi => ?_, .inr ⟨k, by omega, ht⟩⟩
    by_cases e : i = k
    · subst e; omega
    · have := h.le i (by omega); omega
  · refine ⟨hr, fun i hi => ?_, h.is.imp id fun ⟨i, hi, e⟩ => ⟨i, by omega, e⟩⟩
    by_cases e : i = k
    · subst e; omega
    · exact h.le i (by omega)
theorem peak_runs {l : List Job} {c : Changes} (hB : BothOk l c) {o : List Int} (ho : OrdOkN l.length o) {p : Int} (hp : PMax l l.length p) : (peakT (runsTo l (timesT l c o) l.length)).1 = p := by
  refine peak_one hp.rng.1 (runs_apart hB ho) (fun r hr => ?_) (hp.is.imp id fun ⟨i, hi, e⟩ => ⟨_, List.mem_map.2 ⟨i, List.mem_range.2 hi, rfl⟩, e⟩)
  obtain ⟨i, hi, rfl⟩ := List.mem_map.1 hr
  have hi2 := List.mem_range.1 hi
  have h1 := (hB.job _ (List.getElem_mem hi2)).2.1
  have h2 := hp.le i hi2
  rw [tick_at hi2] at h2
  show (0 ≤ tickAt l i ∧ tickAt l i ≤ p) ∧ 1 ≤ tickAt l i
  rw [tick_at hi2]
  omega
theorem placed_runs {l : List Job} {c : Changes} (hB : BothOk l c) {o : List Int} {p : Int} (hp : PMax l l.length p) (h0 : (runsChk (runsTo l (timesT l c o) l.length)).2 = 0) : placedE (runsTo l (timesT l c o) l.length) p = 0 := by
  have hl := hB.len
  have hk : 0 < l.length := by omega
  have h1 := (hB.job _ (List.getElem_mem hk)).2.1
  have h2 := hp.le 0 hk
  rw [show ((0 : Nat) : Int) = (0 : Int) from rfl] at h2
  have h3 := tick_at hk
  have hr := hp.rng
  have h4 : peakE p = 0 := if_pos (by
    have : tickAt l ((0 : Nat) : Int) = l[0].ticks := h3
    simp only [Int.ofNat_eq_natCast, Int.natCast_zero] at this
    omega)
  unfold placedE
  rw [h0, if_neg (by decide), h4, if_neg (by decide), if_neg]
  rw [Bool.not_eq_true, List.any_eq_false]
  intro r hr2 e
  obtain ⟨i, hi, rfl⟩ := List.mem_map.1 hr2
  have h5 := hp.le i (List.mem_range.1 hi)
  have h6 : tickAt l i > p := of_decide_eq_true e
  omega
theorem refO_CopyJobs {l : List Job} (hlen : l.length ≤ 100000) : CtO Tryz.prog 17 [.sl (l.map Job.cs)] 4 (l.map Job.cs) := by
 refine CtO.intro Tryz.func17 rfl Tryz.ntmps17 Tryz.results17 rfl rfl rfl fun w h => ?_
 refine OK.seq (OK.reg ?_)
 refine RK.c (S.assign .none rfl .cnil) ?_
 refine RK.nil (Ab.D.code (OK.seq (OK.reg ?_)))
 refine RK.c (S.mkSlice (k := 3) (rows := []) ai22 .none rfl .nil rfl rfl rfl rfl rfl rfl rfl) ?_
 refine RK.c (S.move .none rfl (.tmp rfl rfl)) ?_
 refine RK.c (S.appendSl ai22 .none rfl (.tmp rfl rfl) rfl (by first | rfl | (simp; done) | (simp; omega)) (.tmp rfl rfl) (by intro q hq; obtain ⟨x, _, rfl⟩ := List.mem_map.1 hq; rfl) rfl (by simp only [List.length_map]; omega) (by simp only [maxLen, List.length_map]; omega)) ?_
 refine RK.c (S.assign .none rfl (.tmp rfl rfl)) ?_
 refine RK.nil (Ab.D.code ?_)
 refine OK.ret (RetO.mk rfl rfl rfl (by first | rfl | (simp; done) | (simp; omega)) ?_)
 rfl
theorem top_shown  : Ct Tryz.prog 68 [] (.bool true) := by
 refine Ct.intro (rs := [.tmp 0]) Tryz.func68 rfl Tryz.ntmps68 Tryz.results68 rfl rfl rfl fun w h => ?_
 refine OK.seq (OK.reg ?_)
 refine RK.c (S.assign .none rfl .cbool) ?_
 refine RK.nil (Ab.D.code (OK.seq (OK.reg ?_)))
 refine RK.c (S.call (law_Jobs) Tryz.call73 .none rfl .nil rfl) ?_
 refine RK.c (S.call (law_Changes) Tryz.call74 .none rfl .nil rfl) ?_
 refine RK.c (S.call (aw_best) Tryz.call16 .none rfl (.cons (.tmp rfl rfl) (.cons (.tmp rfl rfl) .nil)) rfl) ?_
 refine RK.c (S.move .none rfl (.tmp rfl rfl)) ?_
 refine RK.c (S.extract .none rfl (.tmp rfl rfl) rfl rfl) ?_
 refine RK.c (S.extract .none rfl (.tmp rfl rfl) rfl rfl) ?_
 refine RK.c (S.extract .none rfl (.tmp rfl rfl) rfl rfl) ?_
 refine RK.c (S.extract .none rfl (.tmp rfl rfl) rfl rfl) ?_
 refine RK.c (S.assign .none rfl (.tmp rfl rfl)) ?_
 refine RK.c (S.assign .none rfl (.tmp rfl rfl)) ?_
 refine RK.c (S.assign .none rfl (.tmp rfl rfl)) ?_
 refine RK.c (S.assign .none rfl (.tmp rfl rfl)) ?_
 refine RK.nil (Ab.D.code (OK.seq (OK.reg ?_)))
 refine RK.c (S.call (law_Lots) Tryz.call75 .none rfl .nil rfl) ?_
 refine RK.c (S.call (aw_baskets) Tryz.call31 .none rfl (.cons (.tmp rfl rfl) (.cons (.cint rfl) .nil)) rfl) ?_
 refine RK.c (S.move .none rfl (.tmp rfl rfl)) ?_
 refine RK.c (S.extract .none rfl (.tmp rfl rfl) rfl rfl) ?_
 refine RK.c (S.extract .none rfl (.tmp rfl rfl) rfl rfl) ?_
 refine RK.c (S.assign .none rfl (.tmp rfl rfl)) ?_
 refine RK.c (S.assign .none rfl (.tmp rfl rfl)) ?_
 refine RK.nil (Ab.D.code (OK.seq (OK.reg ?_)))
 refine RK.c (S.move .none rfl (.tmp rfl rfl)) ?_
 refine RK.c (S.eql .none rfl (.tmp rfl rfl) (.cint rfl)) ?_
 refine RK.c (S.move .none rfl (.tmp rfl rfl)) ?_
 refine RK.c (S.move (.yes rfl rfl rfl rfl) rfl (.tmp rfl rfl)) ?_
 refine RK.c (S.mkData (rows := [[_], [_], [_]]) ai30 (.yes rfl rfl rfl rfl) rfl (.cons (.cint rfl) (.cons (.cint rfl) (.cons (.cint rfl) .nil))) rfl rfl rfl rfl rfl rfl rfl) ?_
 refine RK.c (S.call (aw_i1) Tryz.call21 (.yes rfl rfl rfl rfl) rfl (.cons (.tmp rfl rfl) (.cons (.tmp rfl rfl) .nil)) rfl) ?_
 refine RK.c (S.pickT .none rfl (.tmp rfl rfl) (.tmp rfl rfl) rfl) ?_
 refine RK.c (S.move .none rfl (.tmp rfl rfl)) ?_
 refine RK.c (S.move (.yes rfl rfl rfl rfl) rfl (.tmp rfl rfl)) ?_
 refine RK.c (S.eql (.yes rfl rfl rfl rfl) rfl (.tmp rfl rfl) (.cint rfl)) ?_
 refine RK.c (S.pickT .none rfl (.tmp rfl rfl) (.tmp rfl rfl) rfl) ?_
 refine RK.c (S.move .none rfl (.tmp rfl rfl)) ?_
 refine RK.c (S.move (.yes rfl rfl rfl rfl) rfl (.tmp rfl rfl)) ?_
 refine RK.c (S.eql (.yes rfl rfl rfl rfl) rfl (.tmp rfl rfl) (.cint rfl)) ?_
 refine RK.c (S.pickT .none rfl (.tmp rfl rfl) (.tmp rfl rfl) rfl) ?_
 refine RK.c (S.move .none rfl (.tmp rfl rfl)) ?_
 refine RK.c (S.move (.yes rfl rfl rfl rfl) rfl (.tmp rfl rfl)) ?_
 refine RK.c (S.eql (.yes rfl rfl rfl rfl) rfl (.tmp rfl rfl) (.cint rfl)) ?_
 refine RK.c (S.pickT .none rfl (.tmp rfl rfl) (.tmp rfl rfl) rfl) ?_
 refine RK.c (S.move .none rfl (.tmp rfl rfl)) ?_
 refine RK.c (S.move (.yes rfl rfl rfl rfl) rfl (.tmp rfl rfl)) ?_
 refine RK.c (S.call (aw_fmt) Tryz.call59 (.yes rfl rfl rfl rfl) rfl (.cons (.tmp rfl rfl) .nil) rfl) ?_
 refine RK.c (S.seql (.yes rfl rfl rfl rfl) rfl (.tmp rfl rfl) (.cstr (l := [112, 120, 53, 32, 114, 120, 49, 59, 114, 120, 51, 59, 113, 120, 51]) rfl (by decide))) ?_
 refine RK.c (S.pickT .none rfl (.tmp rfl rfl) (.tmp rfl rfl) rfl) ?_
 refine RK.c (S.assign .none rfl (.tmp rfl rfl)) ?_
 refine RK.nil (Ab.D.code ?_)
 refine OK.ret (Ret.r1 (.tmp rfl rfl (.c (.same rfl) rfl) rfl) ?_)
 rfl
end Go.Proofs.YtpfepjgnojfppaaGreatDoor
