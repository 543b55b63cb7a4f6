import Derived.Test.YtjamlnkjfkcdkaaGreatDoorKh
import Derived.Test.YtjamlnkjfkcdkaaGreatDoorTy
namespace Go.Proofs.YtjamlnkjfkcdkaaGreatDoor
open Go.Ab
def zipR (l : List Run) (b : List Int) : List Run := List.zipWith (fun r s => (⟨s, r.ticks, r.power⟩ : Run)) l b
theorem zip_len {l : List Run} {b : List Int} (h : b.length ≤ l.length) : (zipR l b).length = b.length := by unfold zipR; rw [List.length_zipWith]; omega
theorem zip_get {l : List Run} {b : List Int} {i : Nat} (h : i < b.length) (h2 : i < l.length) (h3 : i < (zipR l b).length) : (zipR l b)[i] = ⟨b[i], l[i].ticks, l[i].power⟩ := by
  simp [zipR, List.getElem_zipWith]
theorem zip_starts : ∀ l : List Run, zipR l (l.map (·.start)) = l
  | [] => rfl
  | r :: l => by
    have := zip_starts l
    unfold zipR at *
    simp only [List.map_cons, List.zipWith_cons_cons, this]
theorem zip_snoc {l : List Run} {b : List Int} {r : Run} {s : Int} (h : l.length = b.length) : zipR (l ++ [r]) (b ++ [s]) = zipR l b ++ [⟨s, r.ticks, r.power⟩] := by
  unfold zipR
  rw [List.zipWith_append h]
  rfl
theorem zip_placed {l : List Run} {peak : Int} : ∀ i, i ≤ l.length → zipR (l.take i) (placedT (l.take i) peak) = placedR (l.take i) peak
  | 0, _ => rfl
  | i + 1, h => by
    have ih := zip_placed (l := l) (peak := peak) i (by omega)
    have h1 : (l.take i).length = (placedT (l.take i) peak).length := by rw [placedT_len, placedR, placeGo_len]; simp
    rw [placedT_take (by omega), placed_take (by omega), List.take_succ_eq_append_getElem (by omega), zip_snoc h1, ih]
def peakStep (l : List Run) (q : Int × Int) (r : Run) : Int × Int := if powerT r.start l > q.1 ∨ (powerT r.start l = q.1 ∧ r.start < q.2) then (powerT r.start l, r.start) else q
def peakT (l : List Run) : Int × Int := l.foldl (peakStep l) (0, 0)
def peakTo (l : List Run) (i : Nat) : Int × Int := (l.take i).foldl (peakStep l) (0, 0)
theorem peakTo_succ {l : List Run} {i : Nat} (h : i < l.length) : peakTo l (i + 1) = peakStep l (peakTo l i) l[i] := by
  unfold peakTo
  rw [List.take_succ_eq_append_getElem h, List.foldl_append]
  rfl
theorem peak_T {l : List Run} {i : Nat} (h : i < l.length) (hc : powerT l[i].start l > (peakTo l i).1 ∨ (powerT l[i].start l = (peakTo l i).1 ∧ l[i].start < (peakTo l i).2)) : peakTo l (i + 1) = (powerT l[i].start l, l[i].start) := by rw [peakTo_succ h, peakStep, if_pos hc]
theorem peak_F {l : List Run} {i : Nat} (h : i < l.length) (hc : ¬ (powerT l[i].start l > (peakTo l i).1 ∨ (powerT l[i].start l = (peakTo l i).1 ∧ l[i].start < (peakTo l i).2))) : peakTo l (i + 1) = peakTo l i := by rw [peakTo_succ h, peakStep, if_neg hc]
def maxR (a b : Int) : Int := if a < b then b else a
def candT (l : List Run) (x : Run) : List Int := x.start :: l.map fun r => maxR x.start (r.start + r.ticks)
def eStep (l : List Run) (x : Run) (peak : Int) (best t : Int) : Int := if fitAt l x peak t = true ∧ (best < 0 ∨ t < best) then t else best
def eBest (l : List Run) (x : Run) (peak : Int) (k : Nat) : Int := ((candT l x).take k).foldl (eStep l x peak) (-1)
theorem eBest_succ {l : List Run} {x : Run} {peak : Int} {k : Nat} (h : k < (candT l x).length) : eBest l x peak (k + 1) = eStep l x peak (eBest l x peak k) (candT l x)[k] := by
  unfold eBest
  rw [List.take_succ_eq_append_getElem h, List.foldl_append]
  rfl
theorem eFold (l : List Run) (x : Run) (peak : Int) : ∀ (c : List Int) (b : Int), (∀ t ∈ c, 0 ≤ t) → (b < 0 ∨ fitAt l x peak b = true) →
    (c.foldl (eStep l x peak) b < 0 → b < 0 ∧ ∀ t ∈ c, fitAt l x peak t = false) ∧ (0 ≤ c.foldl (eStep l x peak) b → fitAt l x peak (c.foldl (eStep l x peak) b) = true ∧ (c.foldl (eStep l x peak) b ∈ c ∨ c.foldl (eStep l x peak) b = b) ∧ (0 ≤ b → c.foldl (eStep l x peak) b ≤ b) ∧ ∀ t ∈ c, fitAt l x peak t = true → c.foldl (eStep l x peak) b ≤ t)
  | [], b, _, hb => ⟨fun h => ⟨h, fun t ht => by cases ht⟩, fun h => ⟨hb.resolve_left (by show ¬ b < 0; simp only [List.foldl_nil] at h; omega), .inr rfl, fun _ => Int.le_refl _, fun t ht => by cases ht⟩⟩
  | t :: c, b, hc, hb => by
    have ht := hc t List.mem_cons_self
    have hc' : ∀ u ∈ c, 0 ≤ u := fun u hu => hc u (List.mem_cons_of_mem t hu)
    rw [List.foldl_cons]
    by_cases hs : fitAt l x peak t = true ∧ (b < 0 ∨ t < b)
    · have e : eStep l x peak b t = t := if_pos hs
      rw [e]
      obtain ⟨h1, h2⟩ := eFold l x peak c t hc' (.inr hs.1)
      refine ⟨fun h => ?_, fun h => ?_⟩
      · have := (h1 h).1; omega
      · obtain ⟨g1, g2, g3, g4⟩ := h2 h
        refine ⟨g1, .inl ?_, fun h0 => ?_, fun u hu hf => ?_⟩
        · rcases g2 with g2 | g2
          · exact List.mem_cons_of_mem t g2
          · rw [g2]; exact List.mem_cons_self
        · have := g3 ht; omega
        · rcases List.mem_cons.1 hu with rfl | hu
          · exact g3 ht
          · exact g4 u hu hf
    · have e : eStep l x peak b t = b := if_neg hs
      rw [e]
      obtain ⟨h1, h2⟩ := eFold l x peak c b hc' hb
      refine ⟨fun h => ?_, fun h => ?_⟩
      · obtain ⟨g1, g2⟩ := h1 h
        refine ⟨g1, fun u hu => ?_⟩
        rcases List.mem_cons.1 hu with rfl | hu
        · cases hf : fitAt l x peak u with
          | false => rfl
          | true => exact absurd ⟨hf, .inl g1⟩ hs
        · exact g2 u hu
      · obtain ⟨g1, g2, g3, g4⟩ := h2 h
        refine ⟨g1, g2.imp (List.mem_cons_of_mem t) id, g3, fun u hu hf => ?_⟩
        rcases List.mem_cons.1 hu with rfl | hu
        · by_cases hb0 : b < 0
          · exact absurd ⟨hf, .inl hb0⟩ hs
          · have h5 : ¬ u < b := fun h => hs ⟨hf, .inr h⟩
            have := g3 (by omega)
            omega
        · exact g4 u hu hf
theorem cand_mem {l : List Run} {x : Run} {t : Int} : t ∈ candT l x ↔ t ∈ ticksT l x := by
  constructor
  · intro h
    rcases List.mem_cons.1 h with rfl | h
    · exact List.mem_cons_self
    · obtain ⟨r, hr, rfl⟩ := List.mem_map.1 h
      unfold maxR
      split
      · exact tick_of hr (by omega)
      · exact List.mem_cons_self
  · intro h
    rcases tick_mem h with rfl | ⟨r, hr, h1, rfl⟩
    · exact List.mem_cons_self
    · exact List.mem_cons_of_mem _ (List.mem_map.2 ⟨r, hr, by unfold maxR; rw [if_pos (by omega)]⟩)
theorem sorted_pw (l : List Int) : (sorted l).Pairwise (fun x y => x ≤ y) := by
  have := List.pairwise_mergeSort (le := fun x y : Int => decide (x ≤ y)) (by intro a b c h1 h2; simp only [decide_eq_true_eq] at *; omega) (by intro a b; simp only [Bool.or_eq_true, decide_eq_true_eq]; omega) l
  exact this.imp (by simp)
theorem earl_least {B : Int} {l : List Run} {x : Run} {peak : Int} (hl : ∀ r ∈ l, RunB B r) (hp : x.power ≤ peak) : earlT l x peak ∈ ticksT l x ∧ fitAt l x peak (earlT l x peak) = true ∧ ∀ t ∈ ticksT l x, fitAt l x peak t = true → earlT l x peak ≤ t := by
  obtain ⟨h1, h2⟩ := fit_idx (x := x) (peak := peak) hl hp
  obtain ⟨i, e, hi, e2, e3⟩ := idxGo_pre.1 h1
  rw [Nat.zero_add] at e
  have he : earlT l x peak = (sorted (ticksT l x))[i] := by
    unfold earlT
    rw [e]
    exact getD_at hi
  refine ⟨earl_mem hl hp, by rw [he]; exact e2, fun t ht hf => ?_⟩
  obtain ⟨j, hj, rfl⟩ := List.getElem_of_mem (sorted_mem.2 ht)
  rw [he]
  by_cases hji : j < i
  · rw [e3 j hji hj] at hf; cases hf
  · by_cases hij : i = j
    · subst hij; exact Int.le_refl _
    · exact List.pairwise_iff_getElem.1 (sorted_pw (ticksT l x)) i j hi hj (by omega)
theorem eBest_all {B : Int} {l : List Run} {x : Run} {peak : Int} (hl : ∀ r ∈ l, RunB B r) (hp : x.power ≤ peak) (hx : 0 ≤ x.start) : eBest l x peak (candT l x).length = earlT l x peak := by
  obtain ⟨h1, h2, h3⟩ := earl_least hl hp
  have hc : ∀ t ∈ candT l x, 0 ≤ t := fun t ht => by
    rcases tick_mem (cand_mem.1 ht) with rfl | ⟨r, hr, h5, rfl⟩
    · exact hx
    · omega
  unfold eBest
  rw [List.take_length]
  obtain ⟨f1, f2⟩ := eFold l x peak (candT l x) (-1) hc (.inl (by omega))
  by_cases h0 : 0 ≤ (candT l x).foldl (eStep l x peak) (-1)
  · obtain ⟨g1, g2, _, g4⟩ := f2 h0
    have g5 : (candT l x).foldl (eStep l x peak) (-1) ∈ candT l x := g2.resolve_right (by omega)
    have := h3 _ (cand_mem.1 g5) g1
    have := g4 _ (cand_mem.2 h1) h2
    omega
  · have := (f1 (by omega)).2 _ (cand_mem.2 h1)
    rw [h2] at this
    cases this
theorem cand_len (l : List Run) (x : Run) : (candT l x).length = l.length + 1 := by simp [candT]
theorem cand_s {l : List Run} {x r : Run} {k : Nat} (h : k < (candT l x).length) (h0 : 0 < k) (h2 : k - 1 < l.length) (hz : l[k - 1] = r) : (candT l x)[k] = if x.start < r.start + r.ticks then r.start + r.ticks else x.start := by
  obtain ⟨j, rfl⟩ : ∃ j, k = j + 1 := ⟨k - 1, by omega⟩
  subst hz
  have h3 : (candT l x)[j + 1] = maxR x.start (l[j].start + l[j].ticks) := by simp [candT]
  rw [h3]
  rfl
theorem es_T {l : List Run} {x : Run} {peak t : Int} {k : Nat} (h : k < (candT l x).length) (hc : (candT l x)[k] = t) (hf : fitAt l x peak t = true) (hb : eBest l x peak k < 0 ∨ t < eBest l x peak k) : eBest l x peak (k + 1) = t := by
  rw [eBest_succ h, hc, eStep, if_pos ⟨hf, hb⟩]
theorem es_F {l : List Run} {x : Run} {peak t : Int} {k : Nat} (h : k < (candT l x).length) (hc : (candT l x)[k] = t) (hf : fitAt l x peak t = false) : eBest l x peak (k + 1) = eBest l x peak k := by
  rw [eBest_succ h, hc, eStep, if_neg (by rw [hf]; simp)]
theorem es_K {l : List Run} {x : Run} {peak t : Int} {k : Nat} (h : k < (candT l x).length) (hc : (candT l x)[k] = t) (hb : ¬ (eBest l x peak k < 0 ∨ t < eBest l x peak k)) : eBest l x peak (k + 1) = eBest l x peak k := by
  rw [eBest_succ h, hc, eStep, if_neg (fun h => hb h.2)]
theorem placed_bdT {l : List Run} {peak : Int} {i : Nat} (hl : ∀ r ∈ l, RunB 100000 r) (hp : ∀ r ∈ l.take i, r.power ≤ peak) (hi : i ≤ l.length) : ∀ r ∈ placedR (l.take i) peak, RunB (100000 * (i : Int) + 100000) r := by
  have h := placed_bd (l := l.take i) (peak := peak) (fun r hr => hl r (List.mem_of_mem_take hr)) hp i (by simp; omega)
  rwa [List.take_take, Nat.min_self] at h
def fitIn (l : List Run) (x : Run) (peak t : Int) (r : Run) : Bool := decide ((t ≤ r.start ∧ r.start ≤ t + x.ticks - 1) → powerT r.start l + x.power ≤ peak)
def fitFrom (l : List Run) (x : Run) (peak t : Int) (i : Nat) : Bool := (l.drop i).all (fitIn l x peak t)
theorem fit_all (l : List Run) (x : Run) (peak t : Int) : fitAt l x peak t = (decide (powerT t l + x.power ≤ peak) && l.all (fitIn l x peak t)) := by
  unfold fitAt fitsT momentsT
  rw [List.any_cons, Bool.not_or]
  congr 1
  · simp only [← decide_not]
    exact decide_eq_decide.2 (by show ¬ (powerT t l + x.power > peak) ↔ _; omega)
  · have : ∀ m : List Run, (!((m.filter (mom1 ⟨t, x.ticks, x.power⟩)).map (·.start)).any fun u => decide (powerT u l + x.power > peak)) = m.all (fitIn l x peak t) := by
      intro m
      induction m with
      | nil => rfl
      | cons r m ih =>
        rw [List.filter_cons, List.all_cons]
        by_cases hm : mom1 ⟨t, x.ticks, x.power⟩ r = true
        · rw [if_pos hm, List.map_cons, List.any_cons, Bool.not_or, ih]
          congr 1
          have h1 : t ≤ r.start ∧ r.start ≤ t + x.ticks - 1 := of_decide_eq_true hm
          unfold fitIn
          simp only [← decide_not]
          exact decide_eq_decide.2 ⟨fun h _ => by omega, fun h => by have := h h1; omega⟩
        · rw [if_neg hm, ih]
          have h1 : ¬ (t ≤ r.start ∧ r.start ≤ t + x.ticks - 1) := fun h => hm (decide_eq_true h)
          have h2 : fitIn l x peak t r = true := decide_eq_true fun h => absurd h h1
          rw [h2, Bool.true_and]
    exact this l
theorem fit_first {l : List Run} {x : Run} {peak t : Int} (h : powerT t l + x.power ≤ peak) : fitAt l x peak t = fitFrom l x peak t 0 := by rw [fit_all, decide_eq_true h]; rfl
theorem fit_not {l : List Run} {x : Run} {peak t : Int} (h : powerT t l + x.power > peak) : fitAt l x peak t = false := by rw [fit_all, decide_eq_false (by omega)]; rfl
theorem fit_end {l : List Run} {x : Run} {peak t : Int} {i : Nat} (h : l.length ≤ i) : fitFrom l x peak t i = true := by unfold fitFrom; rw [List.drop_of_length_le h]; rfl
theorem fit_drop {l : List Run} {x : Run} {peak t : Int} {i : Nat} (h : i < l.length) : fitFrom l x peak t i = (fitIn l x peak t l[i] && fitFrom l x peak t (i + 1)) := by unfold fitFrom; rw [List.drop_eq_getElem_cons h, List.all_cons]
theorem fit_out {l : List Run} {x r : Run} {peak t : Int} {i : Nat} (h : i < l.length) (hz : l[i] = r) (hc : ¬ (t ≤ r.start ∧ r.start ≤ t + x.ticks - 1)) : fitFrom l x peak t i = fitFrom l x peak t (i + 1) := by
  rw [fit_drop h, hz, show fitIn l x peak t r = true from decide_eq_true fun h => absurd h hc, Bool.true_and]
theorem fit_in {l : List Run} {x r : Run} {peak t : Int} {i : Nat} (h : i < l.length) (hz : l[i] = r) (_ : t ≤ r.start ∧ r.start ≤ t + x.ticks - 1) (hp : powerT r.start l + x.power ≤ peak) : fitFrom l x peak t i = fitFrom l x peak t (i + 1) := by
  rw [fit_drop h, hz, show fitIn l x peak t r = true from decide_eq_true fun _ => hp, Bool.true_and]
theorem fit_stop {l : List Run} {x r : Run} {peak t : Int} {i : Nat} (h : i < l.length) (hz : l[i] = r) (hc : t ≤ r.start ∧ r.start ≤ t + x.ticks - 1) (hp : powerT r.start l + x.power > peak) : fitFrom l x peak t i = false := by
  rw [fit_drop h, hz, show fitIn l x peak t r = false from decide_eq_false fun h => by have := h hc; omega, Bool.false_and]
def earlForE (l : List Run) (x : Run) (peak : Int) : Int := firstE [(runsChk l).2, runE x, peakE peak, unlessE (decide (x.power ≤ peak)) 12]
def earlForT (l : List Run) (x : Run) (peak : Int) : Int := if earlForE l x peak = 0 then earlT l x peak else 0
theorem earlFor_eq (l : List Run) (x : Run) (peak : Int) : earlForE l x peak = if (runsChk l).2 ≠ 0 then (runsChk l).2 else if runE x ≠ 0 then runE x else if peakE peak ≠ 0 then peakE peak else if x.power ≤ peak then 0 else 12 := by
  unfold earlForE unlessE
  rw [firstE4]
  by_cases h : x.power ≤ peak <;> simp [h]
theorem runE_2 {r : Run} (h : runE r ≠ 0) : runE r = 2 := by
  unfold runE at *
  split at h
  · contradiction
  · rename_i h1; rw [if_neg h1]
theorem runE_0 {r : Run} (h : runE r = 0) : RunB 100000 r := by
  unfold runE at h
  split at h
  · assumption
  · cases h
def greatR (l : List Run) (peak : Int) : Bool := l.any fun r => decide (r.power > peak)
theorem RunB.mono {A B : Int} {r : Run} (h : RunB A r) (hAB : A ≤ B) : RunB B r := ⟨by have := h.1; omega, h.2⟩
theorem power_all {B : Int} {t : Int} {l : List Run} (h : ∀ r ∈ l, RunB B r) (hn : l.length ≤ 100) : 0 ≤ powerT t l ∧ powerT t l ≤ 10000000 := by
  have := power_bd (B := B) t h
  omega
theorem ref9_RunErr {r : Run} : Ct Tryz.prog 42 [.agg r.cs] (.int .i64 (runE r)) := by
  refine Ct.intro (rs := [.tmp 2]) Tryz.func42 rfl Tryz.ntmps42 Tryz.results42 rfl rfl rfl fun w h => ?_
  refine OK.seq ?_
  refine OK.reg ?_
  refine RK.c (S.box (k := 1) rfl .none rfl (.tmp rfl rfl) rfl) ?_
  refine RK.c (S.assign .none rfl (.cint rfl)) ?_
  refine RK.nil ?_
  refine Ab.D.code ?_
  refine OK.seq ?_
  refine OK.seq ?_
  refine OK.reg ?_
  refine RK.c (S.bfield fi46_0 .none rfl (.tmp rfl rfl)) ?_
  refine RK.c (S.bload1 ti3 .none rfl (.tmp rfl rfl) rfl rfl rfl rfl) ?_
  refine RK.c (S.call (ref9_isTicks) Tryz.call117 .none rfl (.cons (.tmp rfl rfl) .nil) rfl) ?_
  refine RK.c (S.notD .none rfl (.tmp rfl rfl)) ?_
  refine RK.c (S.move .none rfl (.tmp rfl rfl)) ?_
  refine RK.splitD (t := 7) rfl (fun g7 => ?_) (fun g7 => ?_)
  ·
    refine RK.c (S.skip rfl rfl rfl rfl rfl) ?_
    refine RK.c (S.skip rfl rfl rfl rfl rfl) ?_
    refine RK.c (S.skip rfl rfl rfl rfl rfl) ?_
    refine RK.c (S.skip rfl rfl rfl rfl rfl) ?_
    refine RK.c (S.pickT .none rfl (.tmp rfl rfl) .cbool rfl) ?_
    refine RK.c (S.move .none rfl (.tmp rfl rfl)) ?_
    refine RK.c (S.skip rfl rfl rfl rfl rfl) ?_
    refine RK.c (S.skip rfl rfl rfl rfl rfl) ?_
    refine RK.c (S.skip rfl rfl rfl rfl rfl) ?_
    refine RK.c (S.skip rfl rfl rfl rfl rfl) ?_
    refine RK.c (S.pickT .none rfl (.tmp rfl rfl) .cbool rfl) ?_
    refine RK.nil ?_
    refine Ab.D.code ?_
    refine OK.condT rfl rfl rfl ?_
    refine OK.seq ?_
    refine OK.reg ?_
    refine RK.c (S.assign .none rfl (.cint rfl)) ?_
    refine RK.nil ?_
    refine Ab.D.code ?_
    refine OK.ret (Ret.r1 (.tmp rfl rfl (.c (.same rfl) rfl) rfl) ?_)
    refine ret_i ?_
    unfold runE
    (repeat' split) <;> omega
  ·
    refine RK.c (S.bfield fi46_1 (.yes rfl rfl rfl rfl) rfl (.tmp rfl rfl)) ?_
    refine RK.c (S.bload1 ti3 (.yes rfl rfl rfl rfl) rfl (.tmp rfl rfl) rfl rfl rfl rfl) ?_
    refine RK.c (S.call (base_Within) Tryz.call27 (.yes rfl rfl rfl rfl) rfl (.cons (.tmp rfl rfl) (.cons (.cint rfl) (.cons (.cint rfl) .nil))) rfl) ?_
    refine RK.c (S.notD (.yes rfl rfl rfl rfl) rfl (.tmp rfl rfl)) ?_
    refine RK.c (S.pickF .none rfl (.tmp rfl rfl) (.tmp rfl rfl) rfl) ?_
    refine RK.c (S.move .none rfl (.tmp rfl rfl)) ?_
    refine RK.splitD (t := 13) rfl (fun g13 => ?_) (fun g13 => ?_)
    ·
      refine RK.c (S.skip rfl rfl rfl rfl rfl) ?_
      refine RK.c (S.skip rfl rfl rfl rfl rfl) ?_
      refine RK.c (S.skip rfl rfl rfl rfl rfl) ?_
      refine RK.c (S.skip rfl rfl rfl rfl rfl) ?_
      refine RK.c (S.pickT .none rfl (.tmp rfl rfl) .cbool rfl) ?_
      refine RK.nil ?_
      refine Ab.D.code ?_
      refine OK.condT rfl rfl rfl ?_
      refine OK.seq ?_
      refine OK.reg ?_
      refine RK.c (S.assign .none rfl (.cint rfl)) ?_
      refine RK.nil ?_
      refine Ab.D.code ?_
      refine OK.ret (Ret.r1 (.tmp rfl rfl (.c (.same rfl) rfl) rfl) ?_)
      refine ret_i ?_
      unfold runE
      (repeat' split) <;> omega
    ·
      refine RK.c (S.bfield fi46_2 (.yes rfl rfl rfl rfl) rfl (.tmp rfl rfl)) ?_
      refine RK.c (S.bload1 ti3 (.yes rfl rfl rfl rfl) rfl (.tmp rfl rfl) rfl rfl rfl rfl) ?_
      refine RK.c (S.call (ref9_isPower) Tryz.call118 (.yes rfl rfl rfl rfl) rfl (.cons (.tmp rfl rfl) .nil) rfl) ?_
      refine RK.c (S.notD (.yes rfl rfl rfl rfl) rfl (.tmp rfl rfl)) ?_
      refine RK.c (S.pickF .none rfl (.tmp rfl rfl) (.tmp rfl rfl) rfl) ?_
      refine RK.nil ?_
      refine Ab.D.code ?_
      refine OK.condD rfl rfl (fun c18 => ?_) (fun c18 => ?_)
      ·
        refine OK.seq ?_
        refine OK.reg ?_
        refine RK.c (S.assign .none rfl (.cint rfl)) ?_
        refine RK.nil ?_
        refine Ab.D.code ?_
        refine OK.ret (Ret.r1 (.tmp rfl rfl (.c (.same rfl) rfl) rfl) ?_)
        refine ret_i ?_
        unfold runE
        (repeat' split) <;> omega
      ·
        refine OK.skip ?_
        refine Ab.D.code ?_
        refine OK.seq ?_
        refine OK.reg ?_
        refine RK.c (S.assign .none rfl (.cint rfl)) ?_
        refine RK.nil ?_
        refine Ab.D.code ?_
        refine OK.ret (Ret.r1 (.tmp rfl rfl (.c (.same rfl) rfl) rfl) ?_)
        refine ret_i ?_
        unfold runE
        (repeat' split) <;> omega
theorem ref9_CheckRuns {l : List Run} : Ct Tryz.prog 39 [.sl (l.map Run.cs)] (pair (runsChk l)) := by
  refine Ct.intro (rs := [.tmp 2, .tmp 3]) Tryz.func39 rfl Tryz.ntmps39 Tryz.results39 rfl rfl rfl fun w h => ?_
  refine OK.seq ?_
  refine OK.reg ?_
  refine RK.c (S.assign .none rfl (.cint rfl)) ?_
  refine RK.c (S.assign .none rfl (.cint rfl)) ?_
  refine RK.nil ?_
  refine Ab.D.code ?_
  refine OK.seq ?_
  refine OK.seq ?_
  refine OK.reg ?_
  refine RK.c (S.move .none rfl (.tmp rfl rfl)) ?_
  refine RK.c (S.lenM si41 .none rfl (.tmp rfl rfl)) ?_
  refine RK.c (S.gtr .none rfl (.tmp rfl rfl) (.cint rfl)) ?_
  refine RK.nil ?_
  refine Ab.D.code ?_
  refine OK.condD rfl rfl (fun c8 => ?_) (fun c8 => ?_)
  ·
    refine OK.seq ?_
    refine OK.reg ?_
    refine RK.c (S.assign .none rfl (.cint rfl)) ?_
    refine RK.c (S.assign .none rfl (.cint rfl)) ?_
    refine RK.nil ?_
    refine Ab.D.code ?_
    refine OK.ret (Ret.r2 (.tmp rfl rfl (.c (.same rfl) rfl) rfl) (.tmp rfl rfl (.c (.same rfl) rfl) rfl) ?_)
    refine ret_p ?_
    rw [runsChk, if_pos (by omega)]
  ·
    refine OK.skip ?_
    refine Ab.D.code ?_
    refine OK.seq ?_
    refine OK.seq ?_
    refine OK.reg ?_
    refine RK.c (S.assign .none rfl (.cint rfl)) ?_
    refine RK.nil ?_
    refine Ab.D.code ?_
    refine OK.block ?_
    refine OK.loop (G := Nat) [] (fun i => [(0, .sl (l.map Run.cs)), (4, .int .i64 i)]) (fun i => i ≤ l.length ∧ idxGo (fun r => decide (runE r ≠ 0)) 0 l = idxGo (fun r => decide (runE r ≠ 0)) i (l.drop i)) (fun i => l.length - i) 0 ⟨Nat.zero_le _, rfl⟩ ⟨rfl, rfl, trivial⟩ (fun _ => rfl) ?_
    rintro i ⟨hi, hg⟩
    refine OK.seq ?_
    refine OK.seq ?_
    refine OK.reg ?_
    refine RK.c (S.move .none rfl (.tmp rfl rfl)) ?_
    refine RK.c (S.move .none rfl (.tmp rfl rfl)) ?_
    refine RK.c (S.lenM si41 .none rfl (.tmp rfl rfl)) ?_
    refine RK.c (S.lss .none rfl (.tmp rfl rfl) (.tmp rfl rfl)) ?_
    refine RK.nil ?_
    refine Ab.D.code ?_
    refine OK.condD rfl rfl (fun c12 => ?_) (fun c12 => ?_)
    ·
      refine OK.skip ?_
      refine Ab.D.code ?_
      refine OK.seq ?_
      refine OK.block ?_
      refine OK.seq ?_
      refine OK.reg ?_
      refine RK.c (S.move .none rfl (.tmp rfl rfl)) ?_
      refine RK.c (S.move .none rfl (.tmp rfl rfl)) ?_
      refine RK.c (S.indexM (n := i) si41 .none rfl (.tmp rfl rfl) (.tmp rfl rfl) rfl (by omega) rfl) ?_
      refine RK.c (S.loadN ti46 .none rfl (.tmp rfl rfl) rfl rfl) ?_
      refine RK.c (S.call (ref9_RunErr) Tryz.call42 .none rfl (.cons (.tmp rfl rfl) .nil) rfl) ?_
      refine RK.c (S.assign .none rfl (.tmp rfl rfl)) ?_
      refine RK.nil ?_
      refine Ab.D.code ?_
      refine OK.seq ?_
      refine OK.reg ?_
      refine RK.c (S.move .none rfl (.tmp rfl rfl)) ?_
      refine RK.c (S.neq .none rfl (.tmp rfl rfl) (.cint rfl)) ?_
      refine RK.nil ?_
      refine Ab.D.code ?_
      refine OK.condD rfl rfl (fun c21 => ?_) (fun c21 => ?_)
      ·
        refine OK.seq ?_
        refine OK.reg ?_
        refine RK.c (S.move .none rfl (.tmp rfl rfl)) ?_
        refine RK.c (S.move .none rfl (.tmp rfl rfl)) ?_
        refine RK.c (S.assign .none rfl (.tmp rfl rfl)) ?_
        refine RK.c (S.assign .none rfl (.tmp rfl rfl)) ?_
        refine RK.nil ?_
        refine Ab.D.code ?_
        refine OK.ret (Ret.r2 (.tmp rfl rfl (.c (.same rfl) rfl) rfl) (.tmp rfl rfl (.c (.same rfl) rfl) rfl) ?_)
        refine ret_p ?_
        have h2 := runE_2 c21
        have hix : idxGo (fun r => decide (runE r ≠ 0)) 0 l = i := by rw [hg, idxGo_drop _ (by omega), if_pos (decide_eq_true c21)]
        rw [runsChk, if_neg (by omega), hix, if_pos (by omega), h2]
      ·
        refine OK.skip ?_
        refine Ab.D.blk ?_
        refine Ab.D.code ?_
        refine OK.reg ?_
        refine RK.c (S.move .none rfl (.tmp rfl rfl)) ?_
        refine RK.c (S.add .none rfl (.tmp rfl rfl) (.cint rfl) (IntWalk.i64_in _ (by omega)) (IntWalk.i64_in _ (by omega))) ?_
        refine RK.c (S.assign .none rfl (.tmp rfl rfl)) ?_
        refine RK.nil ?_
        refine Ab.D.lp ⟨i + 1, ⟨by omega, ?_⟩, (by omega), rfl, rfl, trivial⟩
        rw [hg, idxGo_drop _ (by omega), if_neg (by rw [decide_eq_true_eq]; exact c21)]
    ·
      refine OK.exit rfl ?_
      refine Ab.D.code ?_
      refine OK.seq ?_
      refine OK.reg ?_
      refine RK.c (S.assign .none rfl (.cint rfl)) ?_
      refine RK.c (S.assign .none rfl (.cint rfl)) ?_
      refine RK.nil ?_
      refine Ab.D.code ?_
      refine OK.ret (Ret.r2 (.tmp rfl rfl (.c (.same rfl) rfl) rfl) (.tmp rfl rfl (.c (.same rfl) rfl) rfl) ?_)
      refine ret_p ?_
      rw [runsChk, if_neg (by omega), hg, show i = l.length by omega, List.drop_length]
      rfl
theorem ref9_PeakErr {n : Int} : Ct Tryz.prog 26 [.int .i64 n] (.int .i64 (peakE n)) := by
  refine Ct.intro (rs := [.tmp 2]) Tryz.func26 rfl Tryz.ntmps26 Tryz.results26 rfl rfl rfl fun w h => ?_
  refine OK.seq ?_
  refine OK.reg ?_
  refine RK.c (S.assign .none rfl (.cint rfl)) ?_
  refine RK.nil ?_
  refine Ab.D.code ?_
  refine OK.seq ?_
  refine OK.seq ?_
  refine OK.reg ?_
  refine RK.c (S.move .none rfl (.tmp rfl rfl)) ?_
  refine RK.c (S.call (base_Within) Tryz.call27 .none rfl (.cons (.tmp rfl rfl) (.cons (.cint rfl) (.cons (.cint rfl) .nil))) rfl) ?_
  refine RK.c (S.notD .none rfl (.tmp rfl rfl)) ?_
  refine RK.nil ?_
  refine Ab.D.code ?_
  refine OK.condD rfl rfl (fun c5 => ?_) (fun c5 => ?_)
  ·
    refine OK.seq ?_
    refine OK.reg ?_
    refine RK.c (S.assign .none rfl (.cint rfl)) ?_
    refine RK.nil ?_
    refine Ab.D.code ?_
    refine OK.ret (Ret.r1 (.tmp rfl rfl (.c (.same rfl) rfl) rfl) ?_)
    refine ret_i ?_
    rw [peakE, if_neg c5]
  ·
    refine OK.skip ?_
    refine Ab.D.code ?_
    refine OK.seq ?_
    refine OK.reg ?_
    refine RK.c (S.assign .none rfl (.cint rfl)) ?_
    refine RK.nil ?_
    refine Ab.D.code ?_
    refine OK.ret (Ret.r1 (.tmp rfl rfl (.c (.same rfl) rfl) rfl) ?_)
    refine ret_i ?_
    rw [peakE, if_pos (Decidable.not_not.1 c5)]
theorem ref9_At {l : List Run} {b : List Int} {t : Int} (hb : b.length ≤ l.length) (hn : l.length ≤ 100) (hB : ∀ r ∈ zipR l b, RunB 1000000000 r) : Ct Tryz.prog 30 [.sl (l.map Run.cs), ints b, .int .i64 t] (.int .i64 (powerT t (zipR l b))) := by
  refine Ct.intro (rs := [.tmp 6]) Tryz.func30 rfl Tryz.ntmps30 Tryz.results30 rfl rfl rfl fun w h => ?_
  have hzl := zip_len hb
  refine OK.seq ?_
  refine OK.reg ?_
  refine RK.c (S.assign .none rfl (.cint rfl)) ?_
  refine RK.nil ?_
  refine Ab.D.code ?_
  refine OK.seq ?_
  refine OK.reg ?_
  refine RK.c (S.assign .none rfl (.cint rfl)) ?_
  refine RK.nil ?_
  refine Ab.D.code ?_
  refine OK.seq ?_
  refine OK.seq ?_
  refine OK.reg ?_
  refine RK.c (S.assign .none rfl (.cint rfl)) ?_
  refine RK.nil ?_
  refine Ab.D.code ?_
  refine OK.block ?_
  refine OK.loop (G := Nat) [] (fun i => [(0, .sl (l.map Run.cs)), (1, ints b), (2, .int .i64 t), (7, .int .i64 (powerT t ((zipR l b).take i))), (8, .int .i64 i)]) (fun i => i ≤ b.length) (fun i => b.length - i) 0 (Nat.zero_le _) ⟨rfl, rfl, rfl, rfl, rfl, trivial⟩ (fun _ => rfl) ?_
  rintro i hi
  refine OK.seq ?_
  refine OK.seq ?_
  refine OK.reg ?_
  refine RK.c (S.move .none rfl (.tmp rfl rfl)) ?_
  refine RK.c (S.move .none rfl (.tmp rfl rfl)) ?_
  refine RK.c (S.lenM si30 .none rfl (.tmp rfl rfl)) ?_
  refine RK.c (S.lss .none rfl (.tmp rfl rfl) (.tmp rfl rfl)) ?_
  refine RK.nil ?_
  refine Ab.D.code ?_
  refine OK.condD rfl rfl (fun c12 => ?_) (fun c12 => ?_)
  ·
    have hz := zip_get (l := l) (b := b) (i := i) (by omega) (by omega) (by omega)
    have hri := hB _ (List.getElem_mem (show i < (zipR l b).length by omega))
    rw [hz] at hri
    obtain ⟨r1, r2, r3⟩ := hri
    simp only at r1 r2 r3
    have hpb := power_bd (B := 1000000000) t (l := (zipR l b).take i) fun r hr => hB r (List.mem_of_mem_take hr)
    have hlt : ((zipR l b).take i).length ≤ i := List.length_take_le _ _
    refine OK.skip ?_
    refine Ab.D.code ?_
    refine OK.seq ?_
    refine OK.block ?_
    refine OK.seq ?_
    refine OK.regionDraw follows (.c (S.move .none rfl (.tmp rfl rfl))
      (.c (S.move .none rfl (.tmp rfl rfl))
      (.c (S.move .none rfl (.tmp rfl rfl))
      (.c (S.indexM (n := i) si30 .none rfl (.tmp rfl rfl) (.tmp rfl rfl) rfl (by omega) rfl)
      (.c (S.load1 ti3 .none rfl (.tmp rfl rfl) rfl)
      (.c (S.move .none rfl (.tmp rfl rfl))
      (.c (S.move .none rfl (.tmp rfl rfl))
      (.c (S.indexM (n := i) si30 .none rfl (.tmp rfl rfl) (.tmp rfl rfl) rfl (by omega) rfl)
      (.c (S.load1 ti3 .none rfl (.tmp rfl rfl) rfl)
      (.c (S.move .none rfl (.tmp rfl rfl))
      (.c (S.move .none rfl (.tmp rfl rfl))
      (.c (S.indexM (n := i) si41 .none rfl (.tmp rfl rfl) (.tmp rfl rfl) rfl (by omega) rfl)
      (.c (S.field fi46_1 .none rfl (.tmp rfl rfl) rfl)
      (.c (S.load1 ti3 .none rfl (.tmp rfl rfl) rfl)
      (.c (S.add .none rfl (.tmp rfl rfl) (.tmp rfl rfl) (IntWalk.i64_in _ (by omega)) (IntWalk.i64_in _ (by omega)))
      (.c (S.sub .none rfl (.tmp rfl rfl) (.cint rfl) (IntWalk.i64_in _ (by omega)) (IntWalk.i64_in _ (by omega)))
      (.c (S.call (base_Within) Tryz.call27 .none rfl (.cons (.tmp rfl rfl) (.cons (.tmp rfl rfl) (.cons (.tmp rfl rfl) .nil))) rfl)
      .nil))))))))))))))))) (by kernel_rfl) ?_
    refine Ab.D.code ?_
    refine OK.condD rfl rfl (fun c31 => ?_) (fun c31 => ?_)
    ·
      refine OK.reg ?_
      refine RK.c (S.move .none rfl (.tmp rfl rfl)) ?_
      refine RK.c (S.move .none rfl (.tmp rfl rfl)) ?_
      refine RK.c (S.move .none rfl (.tmp rfl rfl)) ?_
      refine RK.c (S.indexM (n := i) si41 .none rfl (.tmp rfl rfl) (.tmp rfl rfl) rfl (by omega) rfl) ?_
      refine RK.c (S.field fi46_2 .none rfl (.tmp rfl rfl) rfl) ?_
      refine RK.c (S.load1 ti3 .none rfl (.tmp rfl rfl) rfl) ?_
      refine RK.c (S.add .none rfl (.tmp rfl rfl) (.tmp rfl rfl) (IntWalk.i64_in _ (by omega)) (IntWalk.i64_in _ (by omega))) ?_
      refine RK.c (S.assign .none rfl (.tmp rfl rfl)) ?_
      refine RK.nil ?_
      refine Ab.D.blk ?_
      refine Ab.D.code ?_
      refine OK.reg ?_
      refine RK.c (S.move .none rfl (.tmp rfl rfl)) ?_
      refine RK.c (S.add .none rfl (.tmp rfl rfl) (.cint rfl) (IntWalk.i64_in _ (by omega)) (IntWalk.i64_in _ (by omega))) ?_
      refine RK.c (S.assign .none rfl (.tmp rfl rfl)) ?_
      refine RK.nil ?_
      refine Ab.D.lp ⟨i + 1, (by omega), (by omega), rfl, rfl, rfl, (lkI (by rw [power_take (by omega), hz, powOf]; first | rw [if_pos c31] | (rw [if_neg c31]; omega))), rfl, trivial⟩
    ·
      refine OK.skip ?_
      refine Ab.D.blk ?_
      refine Ab.D.code ?_
      refine OK.reg ?_
      refine RK.c (S.move .none rfl (.tmp rfl rfl)) ?_
      refine RK.c (S.add .none rfl (.tmp rfl rfl) (.cint rfl) (IntWalk.i64_in _ (by omega)) (IntWalk.i64_in _ (by omega))) ?_
      refine RK.c (S.assign .none rfl (.tmp rfl rfl)) ?_
      refine RK.nil ?_
      refine Ab.D.lp ⟨i + 1, (by omega), (by omega), rfl, rfl, rfl, (lkI (by rw [power_take (by omega), hz, powOf]; first | rw [if_pos c31] | (rw [if_neg c31]; omega))), rfl, trivial⟩
  ·
    refine OK.exit rfl ?_
    refine Ab.D.code ?_
    refine OK.seq ?_
    refine OK.reg ?_
    refine RK.c (S.move .none rfl (.tmp rfl rfl)) ?_
    refine RK.c (S.assign .none rfl (.tmp rfl rfl)) ?_
    refine RK.nil ?_
    refine Ab.D.code ?_
    refine OK.ret (Ret.r1 (.tmp rfl rfl (.c (.same rfl) rfl) rfl) ?_)
    rw [show i = (zipR l b).length by omega, List.take_length]
theorem ref9_Starts {l : List Run} (hn : l.length ≤ 100000) : Ct Tryz.prog 41 [.sl (l.map Run.cs)] (ints (l.map (·.start))) := by
  refine Ct.intro (rs := [.tmp 2]) Tryz.func41 rfl Tryz.ntmps41 Tryz.results41 rfl rfl rfl fun w h => ?_
  refine OK.seq ?_
  refine OK.reg ?_
  refine RK.c (S.assign .none rfl .cnil) ?_
  refine RK.nil ?_
  refine Ab.D.code ?_
  refine OK.seq ?_
  refine OK.reg ?_
  refine RK.c (S.nilOwn (k := 3) (sz := 1) .none rfl) ?_
  refine RK.nil ?_
  refine Ab.D.code ?_
  refine OK.seq ?_
  refine OK.seq ?_
  refine OK.reg ?_
  refine RK.c (S.assign .none rfl (.cint rfl)) ?_
  refine RK.nil ?_
  refine Ab.D.code ?_
  refine OK.block ?_
  refine OK.loop (G := Nat) [3] (fun i => [(0, .sl (l.map Run.cs)), (3, .own 3 i), (2003, .arr 1 (((l.take i).map (·.start)).map fun n => [.int .i64 n])), (4, .int .i64 i)]) (fun i => i ≤ l.length) (fun i => l.length - i) 0 (Nat.zero_le _) ⟨rfl, (lk_own (by first | rfl | (simp; done) | (simp; omega))), (lk_arr (by first | rfl | (simp; done) | (simp; omega))), rfl, trivial⟩ (fun _ => rfl) ?_
  rintro i hi
  refine OK.seq ?_
  refine OK.seq ?_
  refine OK.reg ?_
  refine RK.c (S.move .none rfl (.tmp rfl rfl)) ?_
  refine RK.c (S.move .none rfl (.tmp rfl rfl)) ?_
  refine RK.c (S.lenM si41 .none rfl (.tmp rfl rfl)) ?_
  refine RK.c (S.lss .none rfl (.tmp rfl rfl) (.tmp rfl rfl)) ?_
  refine RK.nil ?_
  refine Ab.D.code ?_
  refine OK.condD rfl rfl (fun c8 => ?_) (fun c8 => ?_)
  ·
    refine OK.skip ?_
    refine Ab.D.code ?_
    refine OK.seq ?_
    refine OK.block ?_
    refine OK.reg ?_
    refine RK.c (S.move .none rfl (.tmp rfl rfl)) ?_
    refine RK.c (S.move .none rfl (.tmp rfl rfl)) ?_
    refine RK.c (S.move .none rfl (.tmp rfl rfl)) ?_
    refine RK.c (S.indexM (n := i) si41 .none rfl (.tmp rfl rfl) (.tmp rfl rfl) rfl (by omega) rfl) ?_
    refine RK.c (S.field fi46_0 .none rfl (.tmp rfl rfl) rfl) ?_
    refine RK.c (S.load1 ti3 .none rfl (.tmp rfl rfl) rfl) ?_
    refine RK.c (S.mkSlice (k := 17) (rows := [[_]]) ai30 .none rfl (.cons (.tmp rfl rfl) .nil) rfl rfl rfl rfl rfl rfl rfl) ?_
    refine RK.c (S.append ai30 .none rfl (.tmp rfl rfl) rfl (by simp; omega) (.tmp rfl rfl) rfl (by first | rfl | (simp; done) | (simp; omega)) (by omega) (by simp only [maxLen]; omega)) ?_
    refine RK.c (S.assign .none rfl (.tmp rfl rfl)) ?_
    refine RK.nil ?_
    refine Ab.D.blk ?_
    refine Ab.D.code ?_
    refine OK.reg ?_
    refine RK.c (S.move .none rfl (.tmp rfl rfl)) ?_
    refine RK.c (S.add .none rfl (.tmp rfl rfl) (.cint rfl) (IntWalk.i64_in _ (by omega)) (IntWalk.i64_in _ (by omega))) ?_
    refine RK.c (S.assign .none rfl (.tmp rfl rfl)) ?_
    refine RK.nil ?_
    refine Ab.D.lp ⟨i + 1, (by omega), (by omega), rfl, (lk_own (by omega)), (lk_arr (by rw [List.take_succ_eq_append_getElem (by omega), List.map_append, List.map_append]; rfl)), rfl, trivial⟩
  ·
    refine OK.exit rfl ?_
    refine Ab.D.code ?_
    refine OK.seq ?_
    refine OK.reg ?_
    refine RK.c (S.move .none rfl (.tmp rfl rfl)) ?_
    refine RK.c (S.assign .none rfl (.tmp rfl rfl)) ?_
    refine RK.nil ?_
    refine Ab.D.code ?_
    refine OK.ret (Ret.r1 (.tmp rfl rfl (.c (.own rfl rfl (by first | rfl | (simp; done) | (simp; omega))) rfl) rfl) ?_)
    rw [show i = l.length by omega, List.take_length]
    all_goals rfl
theorem ref9_Peak {l : List Run} (hn : l.length ≤ 100) (hB : ∀ r ∈ l, RunB 100000 r) : Ct Tryz.prog 40 [.sl (l.map Run.cs), ints (l.map (·.start))] (.tup [.int .i64 (peakT l).1, .int .i64 (peakT l).2]) := by
  refine Ct.intro (rs := [.tmp 4, .tmp 5]) Tryz.func40 rfl Tryz.ntmps40 Tryz.results40 rfl rfl rfl fun w h => ?_
  have hzs := zip_starts l
  have hB9 : ∀ r ∈ zipR l (l.map (·.start)), RunB 1000000000 r := fun r hr => by rw [hzs] at hr; exact (hB r hr).mono (by omega)
  have hml : (l.map (·.start)).length = l.length := List.length_map ..
  refine OK.seq ?_
  refine OK.reg ?_
  refine RK.c (S.assign .none rfl (.cint rfl)) ?_
  refine RK.c (S.assign .none rfl (.cint rfl)) ?_
  refine RK.nil ?_
  refine Ab.D.code ?_
  refine OK.seq ?_
  refine OK.reg ?_
  refine RK.c (S.assign .none rfl (.cint rfl)) ?_
  refine RK.c (S.assign .none rfl (.cint rfl)) ?_
  refine RK.nil ?_
  refine Ab.D.code ?_
  refine OK.seq ?_
  refine OK.seq ?_
  refine OK.reg ?_
  refine RK.c (S.assign .none rfl (.cint rfl)) ?_
  refine RK.nil ?_
  refine Ab.D.code ?_
  refine OK.block ?_
  refine OK.loop (G := Nat) [] (fun i => [(0, .sl (l.map Run.cs)), (1, ints (l.map (·.start))), (6, .int .i64 (peakTo l i).1), (7, .int .i64 (peakTo l i).2), (8, .int .i64 i)]) (fun i => i ≤ l.length) (fun i => l.length - i) 0 (Nat.zero_le _) ⟨rfl, rfl, rfl, rfl, rfl, trivial⟩ (fun _ => rfl) ?_
  rintro i hi
  refine OK.seq ?_
  refine OK.seq ?_
  refine OK.reg ?_
  refine RK.c (S.move .none rfl (.tmp rfl rfl)) ?_
  refine RK.c (S.move .none rfl (.tmp rfl rfl)) ?_
  refine RK.c (S.lenM si30 .none rfl (.tmp rfl rfl)) ?_
  refine RK.c (S.lss .none rfl (.tmp rfl rfl) (.tmp rfl rfl)) ?_
  refine RK.nil ?_
  refine Ab.D.code ?_
  refine OK.condD rfl rfl (fun c13 => ?_) (fun c13 => ?_)
  ·
    have hgs : (l.map (·.start))[i]'(by omega) = l[i].start := List.getElem_map ..
    refine OK.skip ?_
    refine Ab.D.code ?_
    refine OK.seq ?_
    refine OK.block ?_
    refine OK.seq ?_
    refine OK.reg ?_
    refine RK.c (S.move .none rfl (.tmp rfl rfl)) ?_
    refine RK.c (S.move .none rfl (.tmp rfl rfl)) ?_
    refine RK.c (S.move .none rfl (.tmp rfl rfl)) ?_
    refine RK.c (S.move .none rfl (.tmp rfl rfl)) ?_
    refine RK.c (S.indexM (n := i) si30 .none rfl (.tmp rfl rfl) (.tmp rfl rfl) rfl (by omega) rfl) ?_
    refine RK.c (S.load1 ti3 .none rfl (.tmp rfl rfl) rfl) ?_
    refine RK.c (S.call (ref9_At (by omega) hn hB9) Tryz.call30 .none rfl (.cons (.tmp rfl rfl) (.cons (.tmp rfl rfl) (.cons (.tmp rfl rfl) .nil))) rfl) ?_
    refine RK.c (S.assign .none rfl (.tmp rfl rfl)) ?_
    refine RK.nil ?_
    refine Ab.D.code ?_
    refine OK.seq ?_
    rw [hzs, hgs]
    refine OK.reg ?_
    refine RK.c (S.move .none rfl (.tmp rfl rfl)) ?_
    refine RK.c (S.move .none rfl (.tmp rfl rfl)) ?_
    refine RK.c (S.gtr .none rfl (.tmp rfl rfl) (.tmp rfl rfl)) ?_
    refine RK.c (S.move .none rfl (.tmp rfl rfl)) ?_
    refine RK.splitD (t := 26) rfl (fun g26 => ?_) (fun g26 => ?_)
    ·
      have hps := peak_T (l := l) (i := i) (by omega) (.inl g26)
      refine RK.c (S.skip rfl rfl rfl rfl rfl) ?_
      refine RK.c (S.skip rfl rfl rfl rfl rfl) ?_
      refine RK.c (S.skip rfl rfl rfl rfl rfl) ?_
      refine RK.c (S.skip rfl rfl rfl rfl rfl) ?_
      refine RK.c (S.skipU rfl rfl rfl rfl) ?_
      refine RK.c (S.skipU rfl rfl rfl rfl) ?_
      refine RK.c (S.skipU rfl rfl rfl rfl) ?_
      refine RK.c (S.skipU rfl rfl rfl rfl) ?_
      refine RK.c (S.skipU rfl rfl rfl rfl) ?_
      refine RK.c (S.skipU rfl rfl rfl rfl) ?_
      refine RK.c (S.skip rfl rfl rfl rfl rfl) ?_
      refine RK.c (S.pickT .none rfl (.tmp rfl rfl) .cbool rfl) ?_
      refine RK.nil ?_
      refine Ab.D.code ?_
      refine OK.condT rfl rfl rfl ?_
      refine OK.regionDraw follows (.c (S.move .none rfl (.tmp rfl rfl))
        (.c (S.move .none rfl (.tmp rfl rfl))
        (.c (S.move .none rfl (.tmp rfl rfl))
        (.c (S.indexM (n := i) si30 .none rfl (.tmp rfl rfl) (.tmp rfl rfl) rfl (by omega) rfl)
        (.c (S.load1 ti3 .none rfl (.tmp rfl rfl) rfl)
        (.c (S.assign .none rfl (.tmp rfl rfl))
        (.c (S.assign .none rfl (.tmp rfl rfl))
        .nil))))))) (by kernel_rfl) ?_
      refine Ab.D.blk ?_
      refine Ab.D.code ?_
      refine OK.reg ?_
      refine RK.c (S.move .none rfl (.tmp rfl rfl)) ?_
      refine RK.c (S.add .none rfl (.tmp rfl rfl) (.cint rfl) (IntWalk.i64_in _ (by omega)) (IntWalk.i64_in _ (by omega))) ?_
      refine RK.c (S.assign .none rfl (.tmp rfl rfl)) ?_
      refine RK.nil ?_
      refine Ab.D.lp ⟨i + 1, (by omega), (by omega), rfl, rfl, (lkI (by rw [hps])), (lkI (by rw [hps]; try exact hgs)), rfl, trivial⟩
    ·
      refine RK.c (S.move (.yes rfl rfl rfl rfl) rfl (.tmp rfl rfl)) ?_
      refine RK.c (S.move (.yes rfl rfl rfl rfl) rfl (.tmp rfl rfl)) ?_
      refine RK.c (S.eql (.yes rfl rfl rfl rfl) rfl (.tmp rfl rfl) (.tmp rfl rfl)) ?_
      refine RK.c (S.move (.yes rfl rfl rfl rfl) rfl (.tmp rfl rfl)) ?_
      refine RK.splitD (t := 30) rfl (fun g30 => ?_) (fun g30 => ?_)
      ·
        refine RK.c (S.move (.yes rfl rfl rfl rfl) rfl (.tmp rfl rfl)) ?_
        refine RK.c (S.move (.yes rfl rfl rfl rfl) rfl (.tmp rfl rfl)) ?_
        refine RK.c (S.indexM (n := i) si30 (.yes rfl rfl rfl rfl) rfl (.tmp rfl rfl) (.tmp rfl rfl) rfl (by omega) rfl) ?_
        refine RK.c (S.load1 ti3 (.yes rfl rfl rfl rfl) rfl (.tmp rfl rfl) rfl) ?_
        refine RK.c (S.move (.yes rfl rfl rfl rfl) rfl (.tmp rfl rfl)) ?_
        refine RK.c (S.lss (.yes rfl rfl rfl rfl) rfl (.tmp rfl rfl) (.tmp rfl rfl)) ?_
        refine RK.c (S.pickT (.yes rfl rfl rfl rfl) rfl (.tmp rfl rfl) (.tmp rfl rfl) rfl) ?_
        refine RK.c (S.pickF .none rfl (.tmp rfl rfl) (.tmp rfl rfl) rfl) ?_
        refine RK.nil ?_
        refine Ab.D.code ?_
        refine OK.condD rfl rfl (fun c38 => ?_) (fun c38 => ?_)
        ·
          rw [hgs] at c38
          have hps := peak_T (l := l) (i := i) (by omega) (.inr ⟨g30, c38⟩)
          refine OK.regionDraw follows (.c (S.move .none rfl (.tmp rfl rfl))
            (.c (S.move .none rfl (.tmp rfl rfl))
            (.c (S.move .none rfl (.tmp rfl rfl))
            (.c (S.indexM (n := i) si30 .none rfl (.tmp rfl rfl) (.tmp rfl rfl) rfl (by omega) rfl)
            (.c (S.load1 ti3 .none rfl (.tmp rfl rfl) rfl)
            (.c (S.assign .none rfl (.tmp rfl rfl))
            (.c (S.assign .none rfl (.tmp rfl rfl))
            .nil))))))) (by kernel_rfl) ?_
          refine Ab.D.blk ?_
          refine Ab.D.code ?_
          refine OK.reg ?_
          refine RK.c (S.move .none rfl (.tmp rfl rfl)) ?_
          refine RK.c (S.add .none rfl (.tmp rfl rfl) (.cint rfl) (IntWalk.i64_in _ (by omega)) (IntWalk.i64_in _ (by omega))) ?_
          refine RK.c (S.assign .none rfl (.tmp rfl rfl)) ?_
          refine RK.nil ?_
          refine Ab.D.lp ⟨i + 1, (by omega), (by omega), rfl, rfl, (lkI (by rw [hps])), (lkI (by rw [hps]; try exact hgs)), rfl, trivial⟩
        ·
          rw [hgs] at c38
          have hps := peak_F (l := l) (i := i) (by omega) (fun h => h.elim g26 fun h => c38 h.2)
          refine OK.skip ?_
          refine Ab.D.blk ?_
          refine Ab.D.code ?_
          refine OK.reg ?_
          refine RK.c (S.move .none rfl (.tmp rfl rfl)) ?_
          refine RK.c (S.add .none rfl (.tmp rfl rfl) (.cint rfl) (IntWalk.i64_in _ (by omega)) (IntWalk.i64_in _ (by omega))) ?_
          refine RK.c (S.assign .none rfl (.tmp rfl rfl)) ?_
          refine RK.nil ?_
          refine Ab.D.lp ⟨i + 1, (by omega), (by omega), rfl, rfl, (lkI (by rw [hps])), (lkI (by rw [hps]; try exact hgs)), rfl, trivial⟩
      ·
        have hps := peak_F (l := l) (i := i) (by omega) (fun h => h.elim g26 fun h => g30 h.1)
        refine RK.c (S.skip rfl rfl rfl rfl rfl) ?_
        refine RK.c (S.skip rfl rfl rfl rfl rfl) ?_
        refine RK.c (S.skip rfl rfl rfl rfl rfl) ?_
        refine RK.c (S.skip rfl rfl rfl rfl rfl) ?_
        refine RK.c (S.skip rfl rfl rfl rfl rfl) ?_
        refine RK.c (S.skip rfl rfl rfl rfl rfl) ?_
        refine RK.c (S.pickF (.yes rfl rfl rfl rfl) rfl (.tmp rfl rfl) .cbool rfl) ?_
        refine RK.c (S.pickF .none rfl (.tmp rfl rfl) (.tmp rfl rfl) rfl) ?_
        refine RK.nil ?_
        refine Ab.D.code ?_
        refine OK.condF rfl rfl rfl ?_
        refine OK.skip ?_
        refine Ab.D.blk ?_
        refine Ab.D.code ?_
        refine OK.reg ?_
        refine RK.c (S.move .none rfl (.tmp rfl rfl)) ?_
        refine RK.c (S.add .none rfl (.tmp rfl rfl) (.cint rfl) (IntWalk.i64_in _ (by omega)) (IntWalk.i64_in _ (by omega))) ?_
        refine RK.c (S.assign .none rfl (.tmp rfl rfl)) ?_
        refine RK.nil ?_
        refine Ab.D.lp ⟨i + 1, (by omega), (by omega), rfl, rfl, (lkI (by rw [hps])), (lkI (by rw [hps]; try exact hgs)), rfl, trivial⟩
  ·
    refine OK.exit rfl ?_
    refine Ab.D.code ?_
    refine OK.seq ?_
    refine OK.reg ?_
    refine RK.c (S.move .none rfl (.tmp rfl rfl)) ?_
    refine RK.c (S.move .none rfl (.tmp rfl rfl)) ?_
    refine RK.c (S.assign .none rfl (.tmp rfl rfl)) ?_
    refine RK.c (S.assign .none rfl (.tmp rfl rfl)) ?_
    refine RK.nil ?_
    refine Ab.D.code ?_
    refine OK.ret (Ret.r2 (.tmp rfl rfl (.c (.same rfl) rfl) rfl) (.tmp rfl rfl (.c (.same rfl) rfl) rfl) ?_)
    rw [show i = l.length by omega, show peakTo l l.length = peakT l by unfold peakTo peakT; rw [List.take_length]]
theorem shp_PeakOf {l : List Run} : Ct Tryz.prog 37 [.sl (l.map Run.cs)] (.tup [.int .i64 (if (runsChk l).2 = 0 then (peakT l).1 else 0), .int .i64 (if (runsChk l).2 = 0 then (peakT l).2 else 0), .int .i64 (runsChk l).2]) := by
  refine Ct.intro (rs := [.tmp 2, .tmp 3, .tmp 4]) Tryz.func37 rfl Tryz.ntmps37 Tryz.results37 rfl rfl rfl fun w h => ?_
  refine OK.seq ?_
  refine OK.reg ?_
  refine RK.c (S.assign .none rfl (.cint rfl)) ?_
  refine RK.c (S.assign .none rfl (.cint rfl)) ?_
  refine RK.c (S.assign .none rfl (.cint rfl)) ?_
  refine RK.nil ?_
  refine Ab.D.code ?_
  refine OK.seq ?_
  refine OK.seq ?_
  refine OK.reg ?_
  refine RK.c (S.move .none rfl (.tmp rfl rfl)) ?_
  refine RK.c (S.call (shp_CheckRuns) Tryz.call36 .none rfl (.cons (.tmp rfl rfl) .nil) rfl) ?_
  refine RK.c (S.move .none rfl (.tmp rfl rfl)) ?_
  refine RK.c (S.extract .none rfl (.tmp rfl rfl) rfl rfl) ?_
  refine RK.c (S.extract .none rfl (.tmp rfl rfl) rfl rfl) ?_
  refine RK.c (S.assign .none rfl (.tmp rfl rfl)) ?_
  refine RK.c (S.assign .none rfl (.tmp rfl rfl)) ?_
  refine RK.nil ?_
  refine Ab.D.code ?_
  refine OK.seq ?_
  refine OK.reg ?_
  refine RK.c (S.move .none rfl (.tmp rfl rfl)) ?_
  refine RK.c (S.neq .none rfl (.tmp rfl rfl) (.cint rfl)) ?_
  refine RK.nil ?_
  refine Ab.D.code ?_
  refine OK.condD rfl rfl (fun c18 => ?_) (fun c18 => ?_)
  ·
    refine OK.seq ?_
    refine OK.reg ?_
    refine RK.c (S.move .none rfl (.tmp rfl rfl)) ?_
    refine RK.c (S.assign .none rfl (.cint rfl)) ?_
    refine RK.c (S.assign .none rfl (.cint rfl)) ?_
    refine RK.c (S.assign .none rfl (.tmp rfl rfl)) ?_
    refine RK.nil ?_
    refine Ab.D.code ?_
    refine OK.ret (Ret.r3 (.tmp rfl rfl (.c (.same rfl) rfl) rfl) (.tmp rfl rfl (.c (.same rfl) rfl) rfl) (.tmp rfl rfl (.c (.same rfl) rfl) rfl) ?_)
    rw [if_neg c18, if_neg c18]
    all_goals rfl
  ·
    have he : (runsChk l).2 = 0 := Decidable.not_not.1 c18
    obtain ⟨hl, hB⟩ := runs_ok he
    have hB9 : ∀ r ∈ l, RunB 1000000000 r := fun r hr => (hB r hr).mono (by omega)
    refine OK.skip ?_
    refine Ab.D.code ?_
    refine OK.seq ?_
    refine OK.reg ?_
    refine RK.c (S.assign .none rfl (.cint rfl)) ?_
    refine RK.c (S.assign .none rfl (.cint rfl)) ?_
    refine RK.nil ?_
    refine Ab.D.code ?_
    refine OK.seq ?_
    refine OK.seq ?_
    refine OK.reg ?_
    refine RK.c (S.move .none rfl (.tmp rfl rfl)) ?_
    refine RK.c (S.lenM si41 .none rfl (.tmp rfl rfl)) ?_
    refine RK.c (S.move .none rfl (.cint rfl)) ?_
    refine RK.nil ?_
    refine Ab.D.code ?_
    refine OK.block ?_
    refine OK.loop (G := Nat) [] (fun i => [(0, .sl (l.map Run.cs)), (7, .int .i64 (peakTo l i).1), (8, .int .i64 (peakTo l i).2), (20, .sl (l.map Run.cs)), (21, .int .i64 l.length), (22, .int .i64 i)]) (fun i => i ≤ l.length) (fun i => l.length - i) 0 (Nat.zero_le _) ⟨rfl, rfl, rfl, rfl, rfl, rfl, trivial⟩ (fun _ => rfl) ?_
    rintro i hi
    refine OK.seq ?_
    refine OK.reg ?_
    refine RK.c (S.lss .none rfl (.tmp rfl rfl) (.tmp rfl rfl)) ?_
    refine RK.nil ?_
    refine Ab.D.code ?_
    refine OK.seq ?_
    refine OK.condD rfl rfl (fun c23 => ?_) (fun c23 => ?_)
    ·
      refine OK.skip ?_
      refine Ab.D.code ?_
      refine OK.seq ?_
      refine OK.block ?_
      refine OK.seq ?_
      refine OK.reg ?_
      refine RK.c (S.indexM (n := i) si41 .none rfl (.tmp rfl rfl) (.tmp rfl rfl) rfl (by omega) rfl) ?_
      refine RK.c (S.loadN ti46 .none rfl (.tmp rfl rfl) rfl rfl) ?_
      refine RK.c (S.alloc (k := 10) ze46 rfl .none rfl) ?_
      refine RK.c (S.store ti46 .none (.tmp rfl rfl) (.tmp rfl rfl) rfl rfl rfl rfl rfl rfl) ?_
      refine RK.nil ?_
      refine Ab.D.code ?_
      refine OK.seq ?_
      refine OK.reg ?_
      refine RK.c (S.move .none rfl (.tmp rfl rfl)) ?_
      refine RK.c (S.bfield fi46_0 .none rfl (.tmp rfl rfl)) ?_
      refine RK.c (S.bload1 ti3 .none rfl (.tmp rfl rfl) rfl rfl rfl rfl) ?_
      refine RK.c (S.call (shp_powerAt (l := l) hB9 (by omega)) Tryz.call116 .none rfl (.cons (.tmp rfl rfl) (.cons (.tmp rfl rfl) .nil)) rfl) ?_
      refine RK.c (S.assign .none rfl (.tmp rfl rfl)) ?_
      refine RK.nil ?_
      refine Ab.D.code ?_
      refine OK.seq ?_
      refine OK.reg ?_
      refine RK.c (S.move .none rfl (.tmp rfl rfl)) ?_
      refine RK.c (S.move .none rfl (.tmp rfl rfl)) ?_
      refine RK.c (S.gtr .none rfl (.tmp rfl rfl) (.tmp rfl rfl)) ?_
      refine RK.c (S.move .none rfl (.tmp rfl rfl)) ?_
      refine RK.splitD (t := 33) rfl (fun g33 => ?_) (fun g33 => ?_)
      ·
        have hps := peak_T (l := l) (i := i) (by omega) (.inl g33)
        refine RK.c (S.skip rfl rfl rfl rfl rfl) ?_
        refine RK.c (S.skip rfl rfl rfl rfl rfl) ?_
        refine RK.c (S.skip rfl rfl rfl rfl rfl) ?_
        refine RK.c (S.skip rfl rfl rfl rfl rfl) ?_
        refine RK.c (S.skipU rfl rfl rfl rfl) ?_
        refine RK.c (S.skipU rfl rfl rfl rfl) ?_
        refine RK.c (S.skipU rfl rfl rfl rfl) ?_
        refine RK.c (S.skipU rfl rfl rfl rfl) ?_
        refine RK.c (S.skip rfl rfl rfl rfl rfl) ?_
        refine RK.c (S.pickT .none rfl (.tmp rfl rfl) .cbool rfl) ?_
        refine RK.nil ?_
        refine Ab.D.code ?_
        refine OK.condT rfl rfl rfl ?_
        refine OK.regionDraw follows (.c (S.move .none rfl (.tmp rfl rfl))
          (.c (S.bfield fi46_0 .none rfl (.tmp rfl rfl))
          (.c (S.bload1 ti3 .none rfl (.tmp rfl rfl) rfl rfl rfl rfl)
          (.c (S.assign .none rfl (.tmp rfl rfl))
          (.c (S.assign .none rfl (.tmp rfl rfl))
          .nil))))) (by kernel_rfl) ?_
        refine Ab.D.blk ?_
        refine Ab.D.code ?_
        refine OK.reg ?_
        refine RK.c (S.add .none rfl (.tmp rfl rfl) (.cint rfl) (IntWalk.i64_in _ (by omega)) (IntWalk.i64_in _ (by omega))) ?_
        refine RK.c (S.move .none rfl (.tmp rfl rfl)) ?_
        refine RK.nil ?_
        refine Ab.D.lp ⟨i + 1, (by omega), (by omega), rfl, (lkI (by rw [hps])), (lkI (by rw [hps])), rfl, rfl, rfl, trivial⟩
      ·
        refine RK.c (S.move (.yes rfl rfl rfl rfl) rfl (.tmp rfl rfl)) ?_
        refine RK.c (S.move (.yes rfl rfl rfl rfl) rfl (.tmp rfl rfl)) ?_
        refine RK.c (S.eql (.yes rfl rfl rfl rfl) rfl (.tmp rfl rfl) (.tmp rfl rfl)) ?_
        refine RK.c (S.move (.yes rfl rfl rfl rfl) rfl (.tmp rfl rfl)) ?_
        refine RK.splitD (t := 37) rfl (fun g37 => ?_) (fun g37 => ?_)
        ·
          refine RK.c (S.bfield fi46_0 (.yes rfl rfl rfl rfl) rfl (.tmp rfl rfl)) ?_
          refine RK.c (S.bload1 ti3 (.yes rfl rfl rfl rfl) rfl (.tmp rfl rfl) rfl rfl rfl rfl) ?_
          refine RK.c (S.move (.yes rfl rfl rfl rfl) rfl (.tmp rfl rfl)) ?_
          refine RK.c (S.lss (.yes rfl rfl rfl rfl) rfl (.tmp rfl rfl) (.tmp rfl rfl)) ?_
          refine RK.c (S.pickT (.yes rfl rfl rfl rfl) rfl (.tmp rfl rfl) (.tmp rfl rfl) rfl) ?_
          refine RK.c (S.pickF .none rfl (.tmp rfl rfl) (.tmp rfl rfl) rfl) ?_
          refine RK.nil ?_
          refine Ab.D.code ?_
          refine OK.condD rfl rfl (fun c43 => ?_) (fun c43 => ?_)
          ·
            have hps := peak_T (l := l) (i := i) (by omega) (.inr ⟨g37, c43⟩)
            refine OK.regionDraw follows (.c (S.move .none rfl (.tmp rfl rfl))
              (.c (S.bfield fi46_0 .none rfl (.tmp rfl rfl))
              (.c (S.bload1 ti3 .none rfl (.tmp rfl rfl) rfl rfl rfl rfl)
              (.c (S.assign .none rfl (.tmp rfl rfl))
              (.c (S.assign .none rfl (.tmp rfl rfl))
              .nil))))) (by kernel_rfl) ?_
            refine Ab.D.blk ?_
            refine Ab.D.code ?_
            refine OK.reg ?_
            refine RK.c (S.add .none rfl (.tmp rfl rfl) (.cint rfl) (IntWalk.i64_in _ (by omega)) (IntWalk.i64_in _ (by omega))) ?_
            refine RK.c (S.move .none rfl (.tmp rfl rfl)) ?_
            refine RK.nil ?_
            refine Ab.D.lp ⟨i + 1, (by omega), (by omega), rfl, (lkI (by rw [hps])), (lkI (by rw [hps])), rfl, rfl, rfl, trivial⟩
          ·
            have hps := peak_F (l := l) (i := i) (by omega) (fun h => h.elim g33 fun h => c43 h.2)
            refine OK.skip ?_
            refine Ab.D.blk ?_
            refine Ab.D.code ?_
            refine OK.reg ?_
            refine RK.c (S.add .none rfl (.tmp rfl rfl) (.cint rfl) (IntWalk.i64_in _ (by omega)) (IntWalk.i64_in _ (by omega))) ?_
            refine RK.c (S.move .none rfl (.tmp rfl rfl)) ?_
            refine RK.nil ?_
            refine Ab.D.lp ⟨i + 1, (by omega), (by omega), rfl, (lkI (by rw [hps])), (lkI (by rw [hps])), rfl, rfl, rfl, trivial⟩
        ·
          have hps := peak_F (l := l) (i := i) (by omega) (fun h => h.elim g33 fun h => g37 h.1)
          refine RK.c (S.skip rfl rfl rfl rfl rfl) ?_
          refine RK.c (S.skip rfl rfl rfl rfl rfl) ?_
          refine RK.c (S.skip rfl rfl rfl rfl rfl) ?_
          refine RK.c (S.skip rfl rfl rfl rfl rfl) ?_
          refine RK.c (S.pickF (.yes rfl rfl rfl rfl) rfl (.tmp rfl rfl) .cbool rfl) ?_
          refine RK.c (S.pickF .none rfl (.tmp rfl rfl) (.tmp rfl rfl) rfl) ?_
          refine RK.nil ?_
          refine Ab.D.code ?_
          refine OK.condF rfl rfl rfl ?_
          refine OK.skip ?_
          refine Ab.D.blk ?_
          refine Ab.D.code ?_
          refine OK.reg ?_
          refine RK.c (S.add .none rfl (.tmp rfl rfl) (.cint rfl) (IntWalk.i64_in _ (by omega)) (IntWalk.i64_in _ (by omega))) ?_
          refine RK.c (S.move .none rfl (.tmp rfl rfl)) ?_
          refine RK.nil ?_
          refine Ab.D.lp ⟨i + 1, (by omega), (by omega), rfl, (lkI (by rw [hps])), (lkI (by rw [hps])), rfl, rfl, rfl, trivial⟩
    ·
      refine OK.exit rfl ?_
      refine Ab.D.code ?_
      refine OK.seq ?_
      refine OK.reg ?_
      refine RK.c (S.move .none rfl (.tmp rfl rfl)) ?_
      refine RK.c (S.move .none rfl (.tmp rfl rfl)) ?_
      refine RK.c (S.assign .none rfl (.tmp rfl rfl)) ?_
      refine RK.c (S.assign .none rfl (.tmp rfl rfl)) ?_
      refine RK.c (S.assign .none rfl (.cint rfl)) ?_
      refine RK.nil ?_
      refine Ab.D.code ?_
      refine OK.ret (Ret.r3 (.tmp rfl rfl (.c (.same rfl) rfl) rfl) (.tmp rfl rfl (.c (.same rfl) rfl) rfl) (.tmp rfl rfl (.c (.same rfl) rfl) rfl) ?_)
      rw [if_pos he, if_pos he, he, show i = l.length by omega, show peakTo l l.length = peakT l by unfold peakTo peakT; rw [List.take_length]]
      all_goals rfl
theorem shp_EarliestFor {l : List Run} {x : Run} {peak : Int} : Ct Tryz.prog 38 [.sl (l.map Run.cs), .agg x.cs, .int .i64 peak] (.tup [.int .i64 (earlForT l x peak), .int .i64 (earlForE l x peak)]) := by
  refine Ct.intro (rs := [.tmp 6, .tmp 7]) Tryz.func38 rfl Tryz.ntmps38 Tryz.results38 rfl rfl rfl fun w h => ?_
  refine OK.seq ?_
  refine OK.reg ?_
  refine RK.c (S.box (k := 4) rfl .none rfl (.tmp rfl rfl) rfl) ?_
  refine RK.c (S.assign .none rfl (.cint rfl)) ?_
  refine RK.c (S.assign .none rfl (.cint rfl)) ?_
  refine RK.nil ?_
  refine Ab.D.code ?_
  refine OK.seq ?_
  refine OK.reg ?_
  refine RK.c (S.move .none rfl (.tmp rfl rfl)) ?_
  refine RK.c (S.call (shp_CheckRuns) Tryz.call36 .none rfl (.cons (.tmp rfl rfl) .nil) rfl) ?_
  refine RK.c (S.move .none rfl (.tmp rfl rfl)) ?_
  refine RK.c (S.extract .none rfl (.tmp rfl rfl) rfl rfl) ?_
  refine RK.c (S.extract .none rfl (.tmp rfl rfl) rfl rfl) ?_
  refine RK.c (S.assign .none rfl (.tmp rfl rfl)) ?_
  refine RK.c (S.assign .none rfl (.tmp rfl rfl)) ?_
  refine RK.nil ?_
  refine Ab.D.code ?_
  refine OK.seq ?_
  refine OK.seq ?_
  refine OK.regionDraw follows (.c (S.move .none rfl (.tmp rfl rfl))
    (.c (S.bloadN ti46 .none rfl (.tmp rfl rfl) rfl rfl rfl rfl)
    (.c (S.call (shp_runErr) Tryz.call115 .none rfl (.cons (.tmp rfl rfl) .nil) rfl)
    (.c (S.move .none rfl (.tmp rfl rfl))
    (.c (S.call (shp_peakErr) Tryz.call100 .none rfl (.cons (.tmp rfl rfl) .nil) rfl)
    (.c (S.bfield fi46_2 .none rfl (.tmp rfl rfl))
    (.c (S.bload1 ti3 .none rfl (.tmp rfl rfl) rfl rfl rfl rfl)
    (.c (S.move .none rfl (.tmp rfl rfl))
    (.c (S.leq .none rfl (.tmp rfl rfl) (.tmp rfl rfl))
    (.c (S.call (shop_unless) Tryz.call101 .none rfl (.cons (.tmp rfl rfl) (.cons (.cint rfl) .nil)) rfl)
    (.c (S.mkSlice (k := 25) (rows := [[_], [_], [_], [_]]) ai205 .none rfl (.cons (.tmp rfl rfl) (.cons (.tmp rfl rfl) (.cons (.tmp rfl rfl) (.cons (.tmp rfl rfl) .nil)))) rfl rfl rfl rfl rfl rfl rfl)
    (.c (S.callL (shop_first (l := [_, _, _, _])) Tryz.call99 .none rfl (.cons (.tmp rfl rfl) .nil) (.cons (.p (.own rfl rfl) rfl) .nil) rfl)
    (.c (S.assign .none rfl (.tmp rfl rfl))
    .nil))))))))))))) (by kernel_rfl) ?_
  refine Ab.D.code ?_
  refine OK.seq ?_
  refine OK.reg ?_
  refine RK.c (S.move .none rfl (.tmp rfl rfl)) ?_
  refine RK.c (S.neq .none rfl (.tmp rfl rfl) (.cint rfl)) ?_
  refine RK.nil ?_
  refine Ab.D.code ?_
  refine OK.condD rfl rfl (fun c28 => ?_) (fun c28 => ?_)
  ·
    refine OK.seq ?_
    refine OK.reg ?_
    refine RK.c (S.move .none rfl (.tmp rfl rfl)) ?_
    refine RK.c (S.assign .none rfl (.cint rfl)) ?_
    refine RK.c (S.assign .none rfl (.tmp rfl rfl)) ?_
    refine RK.nil ?_
    refine Ab.D.code ?_
    refine OK.ret (Ret.r2 (.tmp rfl rfl (.c (.same rfl) rfl) rfl) (.tmp rfl rfl (.c (.same rfl) rfl) rfl) ?_)
    have hne : earlForE l x peak ≠ 0 := c28
    rw [earlForT, if_neg hne]
    all_goals rfl
  ·
    have he : earlForE l x peak = 0 := Decidable.not_not.1 c28
    have hq := earlFor_eq l x peak
    have h1 : (runsChk l).2 = 0 := by omega
    have h2 : runE x = 0 := by omega
    have h3 : x.power ≤ peak := by omega
    obtain ⟨hl, hB⟩ := runs_ok h1
    have hB8 : ∀ r ∈ l, RunB 100000000 r := fun r hr => (hB r hr).mono (by omega)
    have hx8 : RunB 100000000 x := (runE_0 h2).mono (by omega)
    refine OK.skip ?_
    refine Ab.D.code ?_
    refine OK.seq ?_
    refine OK.reg ?_
    refine RK.c (S.move .none rfl (.tmp rfl rfl)) ?_
    refine RK.c (S.bloadN ti46 .none rfl (.tmp rfl rfl) rfl rfl rfl rfl) ?_
    refine RK.c (S.move .none rfl (.tmp rfl rfl)) ?_
    refine RK.c (S.call (shp_earliest hB8 (by omega) hx8 h3) Tryz.call102 .none rfl (.cons (.tmp rfl rfl) (.cons (.tmp rfl rfl) (.cons (.tmp rfl rfl) .nil))) rfl) ?_
    refine RK.c (S.assign .none rfl (.tmp rfl rfl)) ?_
    refine RK.c (S.assign .none rfl (.cint rfl)) ?_
    refine RK.nil ?_
    refine Ab.D.code ?_
    refine OK.ret (Ret.r2 (.tmp rfl rfl (.c (.same rfl) rfl) rfl) (.tmp rfl rfl (.c (.same rfl) rfl) rfl) ?_)
    rw [earlForT, if_pos he, he]
    all_goals rfl
theorem ref9_fits {l : List Run} {b : List Int} {x : Run} {peak t : Int} (hb : b.length ≤ l.length) (hn : l.length ≤ 100) (hB : ∀ r ∈ zipR l b, RunB 1000000000 r) (hx : (1 ≤ x.ticks ∧ x.ticks ≤ 100000) ∧ (1 ≤ x.power ∧ x.power ≤ 100000)) (ht : 0 ≤ t ∧ t ≤ 1000000000) : Ct Tryz.prog 119 [.sl (l.map Run.cs), ints b, .agg x.cs, .int .i64 peak, .int .i64 t] (.bool (fitAt (zipR l b) x peak t)) := by
  refine Ct.intro (rs := [.tmp 10]) Tryz.func119 rfl Tryz.ntmps119 Tryz.results119 rfl rfl rfl fun w h => ?_
  have hzl := zip_len hb
  have hpt := power_all (t := t) hB (by omega)
  refine OK.seq ?_
  refine OK.reg ?_
  refine RK.c (S.box (k := 7) rfl .none rfl (.tmp rfl rfl) rfl) ?_
  refine RK.c (S.assign .none rfl .cbool) ?_
  refine RK.nil ?_
  refine Ab.D.code ?_
  refine OK.seq ?_
  refine OK.seq ?_
  refine OK.regionDraw follows (.c (S.move .none rfl (.tmp rfl rfl))
    (.c (S.move .none rfl (.tmp rfl rfl))
    (.c (S.move .none rfl (.tmp rfl rfl))
    (.c (S.call (ref9_At hb hn hB) Tryz.call30 .none rfl (.cons (.tmp rfl rfl) (.cons (.tmp rfl rfl) (.cons (.tmp rfl rfl) .nil))) rfl)
    (.c (S.bfield fi46_2 .none rfl (.tmp rfl rfl))
    (.c (S.bload1 ti3 .none rfl (.tmp rfl rfl) rfl rfl rfl rfl)
    (.c (S.add .none rfl (.tmp rfl rfl) (.tmp rfl rfl) (IntWalk.i64_in _ (by omega)) (IntWalk.i64_in _ (by omega)))
    (.c (S.move .none rfl (.tmp rfl rfl))
    (.c (S.gtr .none rfl (.tmp rfl rfl) (.tmp rfl rfl))
    .nil))))))))) (by kernel_rfl) ?_
  refine Ab.D.code ?_
  refine OK.condD rfl rfl (fun c20 => ?_) (fun c20 => ?_)
  ·
    refine OK.seq ?_
    refine OK.reg ?_
    refine RK.c (S.assign .none rfl .cbool) ?_
    refine RK.nil ?_
    refine Ab.D.code ?_
    refine OK.ret (Ret.r1 (.tmp rfl rfl (.c (.same rfl) rfl) rfl) ?_)
    exact ret_b (fit_not (by omega)).symm
  ·
    refine OK.skip ?_
    refine Ab.D.code ?_
    refine OK.seq ?_
    refine OK.seq ?_
    refine OK.reg ?_
    refine RK.c (S.assign .none rfl (.cint rfl)) ?_
    refine RK.nil ?_
    refine Ab.D.code ?_
    refine OK.block ?_
    refine OK.loop (G := Nat) [7] (fun i => [(0, .sl (l.map Run.cs)), (1, ints b), (3, .int .i64 peak), (4, .int .i64 t), (7, .ptr 7 0), (1007, .box x.cs), (11, .int .i64 i)]) (fun i => i ≤ b.length ∧ fitAt (zipR l b) x peak t = fitFrom (zipR l b) x peak t i) (fun i => b.length - i) 0 ⟨Nat.zero_le _, fit_first (by omega)⟩ ⟨rfl, rfl, rfl, rfl, rfl, rfl, rfl, trivial⟩ (fun _ => rfl) ?_
    rintro i ⟨hi, hg⟩
    refine OK.seq ?_
    refine OK.seq ?_
    refine OK.reg ?_
    refine RK.c (S.move .none rfl (.tmp rfl rfl)) ?_
    refine RK.c (S.move .none rfl (.tmp rfl rfl)) ?_
    refine RK.c (S.lenM si30 .none rfl (.tmp rfl rfl)) ?_
    refine RK.c (S.lss .none rfl (.tmp rfl rfl) (.tmp rfl rfl)) ?_
    refine RK.nil ?_
    refine Ab.D.code ?_
    refine OK.condD rfl rfl (fun c24 => ?_) (fun c24 => ?_)
    ·
      have hz := zip_get (l := l) (b := b) (i := i) (by omega) (by omega) (by omega)
      have hri := hB _ (List.getElem_mem (show i < (zipR l b).length by omega))
      rw [hz] at hri
      obtain ⟨r1, r2, r3⟩ := hri
      simp only at r1 r2 r3
      have hpb := power_all (t := b[i]) hB (by omega)
      refine OK.skip ?_
      refine Ab.D.code ?_
      refine OK.seq ?_
      refine OK.block ?_
      refine OK.seq ?_
      by_cases g38 : t ≤ b[i] ∧ b[i] ≤ t + x.ticks - 1
      ·
        refine OK.regionDraw follows (.c (S.move .none rfl (.tmp rfl rfl))
          (.c (S.move .none rfl (.tmp rfl rfl))
          (.c (S.indexM (n := i) si30 .none rfl (.tmp rfl rfl) (.tmp rfl rfl) rfl (by omega) rfl)
          (.c (S.load1 ti3 .none rfl (.tmp rfl rfl) rfl)
          (.c (S.move .none rfl (.tmp rfl rfl))
          (.c (S.move .none rfl (.tmp rfl rfl))
          (.c (S.bfield fi46_1 .none rfl (.tmp rfl rfl))
          (.c (S.bload1 ti3 .none rfl (.tmp rfl rfl) rfl rfl rfl rfl)
          (.c (S.add .none rfl (.tmp rfl rfl) (.tmp rfl rfl) (IntWalk.i64_in _ (by omega)) (IntWalk.i64_in _ (by omega)))
          (.c (S.sub .none rfl (.tmp rfl rfl) (.cint rfl) (IntWalk.i64_in _ (by omega)) (IntWalk.i64_in _ (by omega)))
          (.c (S.call (base_Within) Tryz.call27 .none rfl (.cons (.tmp rfl rfl) (.cons (.tmp rfl rfl) (.cons (.tmp rfl rfl) .nil))) rfl)
          (.c (S.move .none rfl (.tmp rfl rfl))
          (.c (S.move (.yes rfl rfl rfl (by first | rfl | exact decide_eq_true g38 | exact decide_eq_false g38 | (rw [decide_eq_true g38]; rfl) | (rw [decide_eq_false g38]; rfl) | simp [*])) rfl (.tmp rfl rfl))
          (.c (S.move (.yes rfl rfl rfl (by first | rfl | exact decide_eq_true g38 | exact decide_eq_false g38 | (rw [decide_eq_true g38]; rfl) | (rw [decide_eq_false g38]; rfl) | simp [*])) rfl (.tmp rfl rfl))
          (.c (S.move (.yes rfl rfl rfl (by first | rfl | exact decide_eq_true g38 | exact decide_eq_false g38 | (rw [decide_eq_true g38]; rfl) | (rw [decide_eq_false g38]; rfl) | simp [*])) rfl (.tmp rfl rfl))
          (.c (S.move (.yes rfl rfl rfl (by first | rfl | exact decide_eq_true g38 | exact decide_eq_false g38 | (rw [decide_eq_true g38]; rfl) | (rw [decide_eq_false g38]; rfl) | simp [*])) rfl (.tmp rfl rfl))
          (.c (S.indexM (n := i) si30 (.yes rfl rfl rfl (by first | rfl | exact decide_eq_true g38 | exact decide_eq_false g38 | (rw [decide_eq_true g38]; rfl) | (rw [decide_eq_false g38]; rfl) | simp [*])) rfl (.tmp rfl rfl) (.tmp rfl rfl) rfl (by omega) rfl)
          (.c (S.load1 ti3 (.yes rfl rfl rfl (by first | rfl | exact decide_eq_true g38 | exact decide_eq_false g38 | (rw [decide_eq_true g38]; rfl) | (rw [decide_eq_false g38]; rfl) | simp [*])) rfl (.tmp rfl rfl) rfl)
          (.c (S.call (ref9_At hb hn hB) Tryz.call30 (.yes rfl rfl rfl (by first | rfl | exact decide_eq_true g38 | exact decide_eq_false g38 | (rw [decide_eq_true g38]; rfl) | (rw [decide_eq_false g38]; rfl) | simp [*])) rfl (.cons (.tmp rfl rfl) (.cons (.tmp rfl rfl) (.cons (.tmp rfl rfl) .nil))) rfl)
          (.c (S.bfield fi46_2 (.yes rfl rfl rfl (by first | rfl | exact decide_eq_true g38 | exact decide_eq_false g38 | (rw [decide_eq_true g38]; rfl) | (rw [decide_eq_false g38]; rfl) | simp [*])) rfl (.tmp rfl rfl))
          (.c (S.bload1 ti3 (.yes rfl rfl rfl (by first | rfl | exact decide_eq_true g38 | exact decide_eq_false g38 | (rw [decide_eq_true g38]; rfl) | (rw [decide_eq_false g38]; rfl) | simp [*])) rfl (.tmp rfl rfl) rfl rfl rfl rfl)
          (.c (S.add (.yes rfl rfl rfl (by first | rfl | exact decide_eq_true g38 | exact decide_eq_false g38 | (rw [decide_eq_true g38]; rfl) | (rw [decide_eq_false g38]; rfl) | simp [*])) rfl (.tmp rfl rfl) (.tmp rfl rfl) (IntWalk.i64_in _ (by omega)) (IntWalk.i64_in _ (by omega)))
          (.c (S.move (.yes rfl rfl rfl (by first | rfl | exact decide_eq_true g38 | exact decide_eq_false g38 | (rw [decide_eq_true g38]; rfl) | (rw [decide_eq_false g38]; rfl) | simp [*])) rfl (.tmp rfl rfl))
          (.c (S.gtr (.yes rfl rfl rfl (by first | rfl | exact decide_eq_true g38 | exact decide_eq_false g38 | (rw [decide_eq_true g38]; rfl) | (rw [decide_eq_false g38]; rfl) | simp [*])) rfl (.tmp rfl rfl) (.tmp rfl rfl))
          (.c (S.pickT .none rfl (.tmp rfl rfl) (.tmp rfl rfl) (by first | rfl | exact decide_eq_true g38 | exact decide_eq_false g38 | (rw [decide_eq_true g38]; rfl) | (rw [decide_eq_false g38]; rfl) | simp [*]))
          .nil))))))))))))))))))))))))) (by kernel_rfl) ?_
        refine Ab.D.code ?_
        refine OK.condD rfl rfl (fun c51 => ?_) (fun c51 => ?_)
        ·
          refine OK.seq ?_
          refine OK.reg ?_
          refine RK.c (S.assign .none rfl .cbool) ?_
          refine RK.nil ?_
          refine Ab.D.code ?_
          refine OK.ret (Ret.r1 (.tmp rfl rfl (.c (.same rfl) rfl) rfl) ?_)
          exact ret_b (by rw [hg]; exact (fit_stop (by omega) hz g38 (show powerT b[i] (zipR l b) + x.power > peak by omega)).symm)
        ·
          refine OK.skip ?_
          refine Ab.D.blk ?_
          refine Ab.D.code ?_
          refine OK.reg ?_
          refine RK.c (S.move .none rfl (.tmp rfl rfl)) ?_
          refine RK.c (S.add .none rfl (.tmp rfl rfl) (.cint rfl) (IntWalk.i64_in _ (by omega)) (IntWalk.i64_in _ (by omega))) ?_
          refine RK.c (S.assign .none rfl (.tmp rfl rfl)) ?_
          refine RK.nil ?_
          refine Ab.D.lp ⟨i + 1, ⟨by omega, ?_⟩, (by omega), rfl, rfl, rfl, rfl, rfl, rfl, rfl, trivial⟩
          rw [hg]
          first | exact fit_out (by omega) hz g38 | exact fit_in (by omega) hz g38 (show powerT b[i] (zipR l b) + x.power ≤ peak by omega)
      ·
        refine OK.regionDraw follows (.c (S.move .none rfl (.tmp rfl rfl))
          (.c (S.move .none rfl (.tmp rfl rfl))
          (.c (S.indexM (n := i) si30 .none rfl (.tmp rfl rfl) (.tmp rfl rfl) rfl (by omega) rfl)
          (.c (S.load1 ti3 .none rfl (.tmp rfl rfl) rfl)
          (.c (S.move .none rfl (.tmp rfl rfl))
          (.c (S.move .none rfl (.tmp rfl rfl))
          (.c (S.bfield fi46_1 .none rfl (.tmp rfl rfl))
          (.c (S.bload1 ti3 .none rfl (.tmp rfl rfl) rfl rfl rfl rfl)
          (.c (S.add .none rfl (.tmp rfl rfl) (.tmp rfl rfl) (IntWalk.i64_in _ (by omega)) (IntWalk.i64_in _ (by omega)))
          (.c (S.sub .none rfl (.tmp rfl rfl) (.cint rfl) (IntWalk.i64_in _ (by omega)) (IntWalk.i64_in _ (by omega)))
          (.c (S.call (base_Within) Tryz.call27 .none rfl (.cons (.tmp rfl rfl) (.cons (.tmp rfl rfl) (.cons (.tmp rfl rfl) .nil))) rfl)
          (.c (S.move .none rfl (.tmp rfl rfl))
          (.c (S.skip rfl rfl rfl (by first | rfl | exact decide_eq_true g38 | exact decide_eq_false g38 | (rw [decide_eq_true g38]; rfl) | (rw [decide_eq_false g38]; rfl) | simp [*]) rfl)
          (.c (S.skip rfl rfl rfl (by first | rfl | exact decide_eq_true g38 | exact decide_eq_false g38 | (rw [decide_eq_true g38]; rfl) | (rw [decide_eq_false g38]; rfl) | simp [*]) rfl)
          (.c (S.skip rfl rfl rfl (by first | rfl | exact decide_eq_true g38 | exact decide_eq_false g38 | (rw [decide_eq_true g38]; rfl) | (rw [decide_eq_false g38]; rfl) | simp [*]) rfl)
          (.c (S.skip rfl rfl rfl (by first | rfl | exact decide_eq_true g38 | exact decide_eq_false g38 | (rw [decide_eq_true g38]; rfl) | (rw [decide_eq_false g38]; rfl) | simp [*]) rfl)
          (.c (S.skip rfl rfl rfl (by first | rfl | exact decide_eq_true g38 | exact decide_eq_false g38 | (rw [decide_eq_true g38]; rfl) | (rw [decide_eq_false g38]; rfl) | simp [*]) rfl)
          (.c (S.skip rfl rfl rfl (by first | rfl | exact decide_eq_true g38 | exact decide_eq_false g38 | (rw [decide_eq_true g38]; rfl) | (rw [decide_eq_false g38]; rfl) | simp [*]) rfl)
          (.c (S.skip rfl rfl rfl (by first | rfl | exact decide_eq_true g38 | exact decide_eq_false g38 | (rw [decide_eq_true g38]; rfl) | (rw [decide_eq_false g38]; rfl) | simp [*]) rfl)
          (.c (S.skip rfl rfl rfl (by first | rfl | exact decide_eq_true g38 | exact decide_eq_false g38 | (rw [decide_eq_true g38]; rfl) | (rw [decide_eq_false g38]; rfl) | simp [*]) rfl)
          (.c (S.skip rfl rfl rfl (by first | rfl | exact decide_eq_true g38 | exact decide_eq_false g38 | (rw [decide_eq_true g38]; rfl) | (rw [decide_eq_false g38]; rfl) | simp [*]) rfl)
          (.c (S.skip rfl rfl rfl (by first | rfl | exact decide_eq_true g38 | exact decide_eq_false g38 | (rw [decide_eq_true g38]; rfl) | (rw [decide_eq_false g38]; rfl) | simp [*]) rfl)
          (.c (S.skip rfl rfl rfl (by first | rfl | exact decide_eq_true g38 | exact decide_eq_false g38 | (rw [decide_eq_true g38]; rfl) | (rw [decide_eq_false g38]; rfl) | simp [*]) rfl)
          (.c (S.skip rfl rfl rfl (by first | rfl | exact decide_eq_true g38 | exact decide_eq_false g38 | (rw [decide_eq_true g38]; rfl) | (rw [decide_eq_false g38]; rfl) | simp [*]) rfl)
          (.c (S.pickF .none rfl (.tmp rfl rfl) .cbool (by first | rfl | exact decide_eq_true g38 | exact decide_eq_false g38 | (rw [decide_eq_true g38]; rfl) | (rw [decide_eq_false g38]; rfl) | simp [*]))
          .nil))))))))))))))))))))))))) (by kernel_rfl) ?_
        refine Ab.D.code ?_
        refine OK.condF rfl rfl rfl ?_
        refine OK.skip ?_
        refine Ab.D.blk ?_
        refine Ab.D.code ?_
        refine OK.reg ?_
        refine RK.c (S.move .none rfl (.tmp rfl rfl)) ?_
        refine RK.c (S.add .none rfl (.tmp rfl rfl) (.cint rfl) (IntWalk.i64_in _ (by omega)) (IntWalk.i64_in _ (by omega))) ?_
        refine RK.c (S.assign .none rfl (.tmp rfl rfl)) ?_
        refine RK.nil ?_
        refine Ab.D.lp ⟨i + 1, ⟨by omega, ?_⟩, (by omega), rfl, rfl, rfl, rfl, rfl, rfl, rfl, trivial⟩
        rw [hg]
        first | exact fit_out (by omega) hz g38 | exact fit_in (by omega) hz g38 (show powerT b[i] (zipR l b) + x.power ≤ peak by omega)
    ·
      refine OK.exit rfl ?_
      refine Ab.D.code ?_
      refine OK.seq ?_
      refine OK.reg ?_
      refine RK.c (S.assign .none rfl .cbool) ?_
      refine RK.nil ?_
      refine Ab.D.code ?_
      refine OK.ret (Ret.r1 (.tmp rfl rfl (.c (.same rfl) rfl) rfl) ?_)
      exact ret_b (by rw [hg, fit_end (by omega)])
set_option maxHeartbeats 1000000 in
theorem ref9_Earliest {l : List Run} {b : List Int} {x : Run} {peak : Int} (hb : b.length = l.length) (hn : l.length ≤ 100) (hB : ∀ r ∈ zipR l b, RunB 100000000 r) (hx : RunB 100000000 x) (hp : x.power ≤ peak) : Ct Tryz.prog 43 [.sl (l.map Run.cs), ints b, .agg x.cs, .int .i64 peak] (.int .i64 (earlT (zipR l b) x peak)) := by
  refine Ct.intro (rs := [.tmp 8]) Tryz.func43 rfl Tryz.ntmps43 Tryz.results43 rfl rfl rfl fun w h => ?_
  have hzl := zip_len (l := l) (b := b) (by omega)
  have hcl := cand_len (zipR l b) x
  have hB9 : ∀ r ∈ zipR l b, RunB 1000000000 r := fun r hr => (hB r hr).mono (by omega)
  obtain ⟨hx1, hx2, hx3⟩ := hx
  refine OK.seq ?_
  refine OK.reg ?_
  refine RK.c (S.box (k := 6) rfl .none rfl (.tmp rfl rfl) rfl) ?_
  refine RK.c (S.assign .none rfl (.cint rfl)) ?_
  refine RK.nil ?_
  refine Ab.D.code ?_
  refine OK.seq ?_
  refine OK.reg ?_
  refine RK.c (S.assign .none rfl (.cint rfl)) ?_
  refine RK.nil ?_
  refine Ab.D.code ?_
  refine OK.seq ?_
  refine OK.seq ?_
  refine OK.reg ?_
  refine RK.c (S.assign .none rfl (.cint rfl)) ?_
  refine RK.nil ?_
  refine Ab.D.code ?_
  refine OK.block ?_
  refine OK.loop (G := Nat) [6] (fun k => [(0, .sl (l.map Run.cs)), (1, ints b), (3, .int .i64 peak), (6, .ptr 6 0), (1006, .box x.cs), (9, .int .i64 (eBest (zipR l b) x peak k)), (10, .int .i64 ((k : Int) - 1))]) (fun k => k ≤ b.length + 1) (fun k => b.length + 1 - k) 0 (Nat.zero_le _) ⟨rfl, rfl, rfl, rfl, rfl, rfl, rfl, trivial⟩ (fun _ => rfl) ?_
  rintro k hk
  refine OK.seq ?_
  refine OK.seq ?_
  refine OK.reg ?_
  refine RK.c (S.move .none rfl (.tmp rfl rfl)) ?_
  refine RK.c (S.move .none rfl (.tmp rfl rfl)) ?_
  refine RK.c (S.lenM si30 .none rfl (.tmp rfl rfl)) ?_
  refine RK.c (S.lss .none rfl (.tmp rfl rfl) (.tmp rfl rfl)) ?_
  refine RK.nil ?_
  refine Ab.D.code ?_
  refine OK.condD rfl rfl (fun c15 => ?_) (fun c15 => ?_)
  ·
    have hkl : k < (candT (zipR l b) x).length := by omega
    refine OK.skip ?_
    refine Ab.D.code ?_
    refine OK.seq ?_
    refine OK.block ?_
    refine OK.seq ?_
    refine OK.reg ?_
    refine RK.c (S.bfield fi46_0 .none rfl (.tmp rfl rfl)) ?_
    refine RK.c (S.bload1 ti3 .none rfl (.tmp rfl rfl) rfl rfl rfl rfl) ?_
    refine RK.c (S.assign .none rfl (.tmp rfl rfl)) ?_
    refine RK.nil ?_
    refine Ab.D.code ?_
    refine OK.seq ?_
    refine OK.seq ?_
    refine OK.reg ?_
    refine RK.c (S.move .none rfl (.tmp rfl rfl)) ?_
    refine RK.c (S.geq .none rfl (.tmp rfl rfl) (.cint rfl)) ?_
    refine RK.nil ?_
    refine Ab.D.code ?_
    refine OK.condD rfl rfl (fun c21 => ?_) (fun c21 => ?_)
    ·
      have hz := zip_get (l := l) (b := b) (i := k - 1) (by omega) (by omega) (by omega)
      have hri := hB _ (List.getElem_mem (show k - 1 < (zipR l b).length by omega))
      rw [hz] at hri
      obtain ⟨r1, r2, r3⟩ := hri
      simp only at r1 r2 r3
      have hck : (candT (zipR l b) x)[k] = if x.start < b[k - 1] + l[k - 1].ticks then b[k - 1] + l[k - 1].ticks else x.start := cand_s hkl (by omega) (by omega) hz
      refine OK.regionDraw follows (.c (S.bfield fi46_0 .none rfl (.tmp rfl rfl))
        (.c (S.bload1 ti3 .none rfl (.tmp rfl rfl) rfl rfl rfl rfl)
        (.c (S.move .none rfl (.tmp rfl rfl))
        (.c (S.move .none rfl (.tmp rfl rfl))
        (.c (S.indexM (n := k - 1) si30 .none rfl (.tmp rfl rfl) (.tmp rfl rfl) (by omega) (by omega) rfl)
        (.c (S.load1 ti3 .none rfl (.tmp rfl rfl) rfl)
        (.c (S.move .none rfl (.tmp rfl rfl))
        (.c (S.move .none rfl (.tmp rfl rfl))
        (.c (S.indexM (n := k - 1) si41 .none rfl (.tmp rfl rfl) (.tmp rfl rfl) (by omega) (by omega) rfl)
        (.c (S.field fi46_1 .none rfl (.tmp rfl rfl) rfl)
        (.c (S.load1 ti3 .none rfl (.tmp rfl rfl) rfl)
        (.c (S.add .none rfl (.tmp rfl rfl) (.tmp rfl rfl) (IntWalk.i64_in _ (by omega)) (IntWalk.i64_in _ (by omega)))
        (.c (S.max2 .none rfl (.tmp rfl rfl) (.tmp rfl rfl))
        (.c (S.assign .none rfl (.tmp rfl rfl))
        .nil)))))))))))))) (by kernel_rfl) ?_
      refine Ab.D.code ?_
      refine OK.seq ?_
      refine OK.reg ?_
      refine RK.c (S.move .none rfl (.tmp rfl rfl)) ?_
      refine RK.c (S.move .none rfl (.tmp rfl rfl)) ?_
      refine RK.c (S.bloadN ti46 .none rfl (.tmp rfl rfl) rfl rfl rfl rfl) ?_
      refine RK.c (S.move .none rfl (.tmp rfl rfl)) ?_
      refine RK.c (S.move .none rfl (.tmp rfl rfl)) ?_
      refine RK.c (S.call (ref9_fits (by omega) hn hB9 ⟨hx2, hx3⟩ (by omega)) Tryz.call119 .none rfl (.cons (.tmp rfl rfl) (.cons (.tmp rfl rfl) (.cons (.tmp rfl rfl) (.cons (.tmp rfl rfl) (.cons (.tmp rfl rfl) .nil))))) rfl) ?_
      refine RK.c (S.move .none rfl (.tmp rfl rfl)) ?_
      refine RK.split (t := 41) rfl (fun g41 => ?_) (fun g41 => ?_)
      ·
        refine RK.c (S.move (.yes rfl rfl rfl rfl) rfl (.tmp rfl rfl)) ?_
        refine RK.c (S.lss (.yes rfl rfl rfl rfl) rfl (.tmp rfl rfl) (.cint rfl)) ?_
        refine RK.c (S.move (.yes rfl rfl rfl rfl) rfl (.tmp rfl rfl)) ?_
        refine RK.splitD (t := 44) rfl (fun g44 => ?_) (fun g44 => ?_)
        ·
          have hes := es_T (peak := peak) hkl hck (by simpa using g41) (.inl g44)
          refine RK.c (S.skip rfl rfl rfl rfl rfl) ?_
          refine RK.c (S.skip rfl rfl rfl rfl rfl) ?_
          refine RK.c (S.skip rfl rfl rfl rfl rfl) ?_
          refine RK.c (S.pickT (.yes rfl rfl rfl rfl) rfl (.tmp rfl rfl) .cbool rfl) ?_
          refine RK.c (S.pickT .none rfl (.tmp rfl rfl) (.tmp rfl rfl) rfl) ?_
          refine RK.nil ?_
          refine Ab.D.code ?_
          refine OK.condT rfl rfl rfl ?_
          refine OK.reg ?_
          refine RK.c (S.move .none rfl (.tmp rfl rfl)) ?_
          refine RK.c (S.assign .none rfl (.tmp rfl rfl)) ?_
          refine RK.nil ?_
          refine Ab.D.blk ?_
          refine Ab.D.code ?_
          refine OK.reg ?_
          refine RK.c (S.move .none rfl (.tmp rfl rfl)) ?_
          refine RK.c (S.add .none rfl (.tmp rfl rfl) (.cint rfl) (IntWalk.i64_in _ (by omega)) (IntWalk.i64_in _ (by omega))) ?_
          refine RK.c (S.assign .none rfl (.tmp rfl rfl)) ?_
          refine RK.nil ?_
          refine Ab.D.lp ⟨k + 1, (by omega), (by omega), rfl, rfl, rfl, rfl, rfl, (lkI (by rw [hes])), (lkI (by omega)), trivial⟩
        ·
          refine RK.c (S.move (.yes rfl rfl rfl rfl) rfl (.tmp rfl rfl)) ?_
          refine RK.c (S.move (.yes rfl rfl rfl rfl) rfl (.tmp rfl rfl)) ?_
          refine RK.c (S.lss (.yes rfl rfl rfl rfl) rfl (.tmp rfl rfl) (.tmp rfl rfl)) ?_
          refine RK.c (S.pickF (.yes rfl rfl rfl rfl) rfl (.tmp rfl rfl) (.tmp rfl rfl) rfl) ?_
          refine RK.c (S.pickT .none rfl (.tmp rfl rfl) (.tmp rfl rfl) rfl) ?_
          refine RK.nil ?_
          refine Ab.D.code ?_
          refine OK.condD rfl rfl (fun c49 => ?_) (fun c49 => ?_)
          ·
            have hes := es_T (peak := peak) hkl hck (by simpa using g41) (.inr c49)
            refine OK.reg ?_
            refine RK.c (S.move .none rfl (.tmp rfl rfl)) ?_
            refine RK.c (S.assign .none rfl (.tmp rfl rfl)) ?_
            refine RK.nil ?_
            refine Ab.D.blk ?_
            refine Ab.D.code ?_
            refine OK.reg ?_
            refine RK.c (S.move .none rfl (.tmp rfl rfl)) ?_
            refine RK.c (S.add .none rfl (.tmp rfl rfl) (.cint rfl) (IntWalk.i64_in _ (by omega)) (IntWalk.i64_in _ (by omega))) ?_
            refine RK.c (S.assign .none rfl (.tmp rfl rfl)) ?_
            refine RK.nil ?_
            refine Ab.D.lp ⟨k + 1, (by omega), (by omega), rfl, rfl, rfl, rfl, rfl, (lkI (by rw [hes])), (lkI (by omega)), trivial⟩
          ·
            have hes := es_K (peak := peak) hkl hck (fun h => h.elim g44 c49)
            refine OK.skip ?_
            refine Ab.D.blk ?_
            refine Ab.D.code ?_
            refine OK.reg ?_
            refine RK.c (S.move .none rfl (.tmp rfl rfl)) ?_
            refine RK.c (S.add .none rfl (.tmp rfl rfl) (.cint rfl) (IntWalk.i64_in _ (by omega)) (IntWalk.i64_in _ (by omega))) ?_
            refine RK.c (S.assign .none rfl (.tmp rfl rfl)) ?_
            refine RK.nil ?_
            refine Ab.D.lp ⟨k + 1, (by omega), (by omega), rfl, rfl, rfl, rfl, rfl, (lkI (by rw [hes])), (lkI (by omega)), trivial⟩
      ·
        have hes := es_F (peak := peak) hkl hck (by simpa using g41)
        refine RK.c (S.skip rfl rfl rfl rfl rfl) ?_
        refine RK.c (S.skip rfl rfl rfl rfl rfl) ?_
        refine RK.c (S.skip rfl rfl rfl rfl rfl) ?_
        refine RK.c (S.skipU rfl rfl rfl rfl) ?_
        refine RK.c (S.skipU rfl rfl rfl rfl) ?_
        refine RK.c (S.skipU rfl rfl rfl rfl) ?_
        refine RK.c (S.skip rfl rfl rfl rfl rfl) ?_
        refine RK.c (S.pickF .none rfl (.tmp rfl rfl) .cbool rfl) ?_
        refine RK.nil ?_
        refine Ab.D.code ?_
        refine OK.condF rfl rfl rfl ?_
        refine OK.skip ?_
        refine Ab.D.blk ?_
        refine Ab.D.code ?_
        refine OK.reg ?_
        refine RK.c (S.move .none rfl (.tmp rfl rfl)) ?_
        refine RK.c (S.add .none rfl (.tmp rfl rfl) (.cint rfl) (IntWalk.i64_in _ (by omega)) (IntWalk.i64_in _ (by omega))) ?_
        refine RK.c (S.assign .none rfl (.tmp rfl rfl)) ?_
        refine RK.nil ?_
        refine Ab.D.lp ⟨k + 1, (by omega), (by omega), rfl, rfl, rfl, rfl, rfl, (lkI (by rw [hes])), (lkI (by omega)), trivial⟩
    ·
      have hk0 : k = 0 := by omega
      subst hk0
      have hck : (candT (zipR l b) x)[0] = x.start := rfl
      refine OK.skip ?_
      refine Ab.D.code ?_
      refine OK.seq ?_
      refine OK.reg ?_
      refine RK.c (S.move .none rfl (.tmp rfl rfl)) ?_
      refine RK.c (S.move .none rfl (.tmp rfl rfl)) ?_
      refine RK.c (S.bloadN ti46 .none rfl (.tmp rfl rfl) rfl rfl rfl rfl) ?_
      refine RK.c (S.move .none rfl (.tmp rfl rfl)) ?_
      refine RK.c (S.move .none rfl (.tmp rfl rfl)) ?_
      refine RK.c (S.call (ref9_fits (by omega) hn hB9 ⟨hx2, hx3⟩ (by omega)) Tryz.call119 .none rfl (.cons (.tmp rfl rfl) (.cons (.tmp rfl rfl) (.cons (.tmp rfl rfl) (.cons (.tmp rfl rfl) (.cons (.tmp rfl rfl) .nil))))) rfl) ?_
      refine RK.c (S.move .none rfl (.tmp rfl rfl)) ?_
      refine RK.split (t := 41) rfl (fun g41 => ?_) (fun g41 => ?_)
      ·
        refine RK.c (S.move (.yes rfl rfl rfl rfl) rfl (.tmp rfl rfl)) ?_
        refine RK.c (S.lss (.yes rfl rfl rfl rfl) rfl (.tmp rfl rfl) (.cint rfl)) ?_
        refine RK.c (S.move (.yes rfl rfl rfl rfl) rfl (.tmp rfl rfl)) ?_
        refine RK.splitD (t := 44) rfl (fun g44 => ?_) (fun g44 => ?_)
        ·
          have hes := es_T (peak := peak) hkl hck (by simpa using g41) (.inl g44)
          refine RK.c (S.skip rfl rfl rfl rfl rfl) ?_
          refine RK.c (S.skip rfl rfl rfl rfl rfl) ?_
          refine RK.c (S.skip rfl rfl rfl rfl rfl) ?_
          refine RK.c (S.pickT (.yes rfl rfl rfl rfl) rfl (.tmp rfl rfl) .cbool rfl) ?_
          refine RK.c (S.pickT .none rfl (.tmp rfl rfl) (.tmp rfl rfl) rfl) ?_
          refine RK.nil ?_
          refine Ab.D.code ?_
          refine OK.condT rfl rfl rfl ?_
          refine OK.reg ?_
          refine RK.c (S.move .none rfl (.tmp rfl rfl)) ?_
          refine RK.c (S.assign .none rfl (.tmp rfl rfl)) ?_
          refine RK.nil ?_
          refine Ab.D.blk ?_
          refine Ab.D.code ?_
          refine OK.reg ?_
          refine RK.c (S.move .none rfl (.tmp rfl rfl)) ?_
          refine RK.c (S.add .none rfl (.tmp rfl rfl) (.cint rfl) (IntWalk.i64_in _ (by omega)) (IntWalk.i64_in _ (by omega))) ?_
          refine RK.c (S.assign .none rfl (.tmp rfl rfl)) ?_
          refine RK.nil ?_
          refine Ab.D.lp ⟨0 + 1, (by omega), (by omega), rfl, rfl, rfl, rfl, rfl, (lkI (by rw [hes])), (lkI (by omega)), trivial⟩
        ·
          refine RK.c (S.move (.yes rfl rfl rfl rfl) rfl (.tmp rfl rfl)) ?_
          refine RK.c (S.move (.yes rfl rfl rfl rfl) rfl (.tmp rfl rfl)) ?_
          refine RK.c (S.lss (.yes rfl rfl rfl rfl) rfl (.tmp rfl rfl) (.tmp rfl rfl)) ?_
          refine RK.c (S.pickF (.yes rfl rfl rfl rfl) rfl (.tmp rfl rfl) (.tmp rfl rfl) rfl) ?_
          refine RK.c (S.pickT .none rfl (.tmp rfl rfl) (.tmp rfl rfl) rfl) ?_
          refine RK.nil ?_
          refine Ab.D.code ?_
          refine OK.condD rfl rfl (fun c49 => ?_) (fun c49 => ?_)
          ·
            have hes := es_T (peak := peak) hkl hck (by simpa using g41) (.inr c49)
            refine OK.reg ?_
            refine RK.c (S.move .none rfl (.tmp rfl rfl)) ?_
            refine RK.c (S.assign .none rfl (.tmp rfl rfl)) ?_
            refine RK.nil ?_
            refine Ab.D.blk ?_
            refine Ab.D.code ?_
            refine OK.reg ?_
            refine RK.c (S.move .none rfl (.tmp rfl rfl)) ?_
            refine RK.c (S.add .none rfl (.tmp rfl rfl) (.cint rfl) (IntWalk.i64_in _ (by omega)) (IntWalk.i64_in _ (by omega))) ?_
            refine RK.c (S.assign .none rfl (.tmp rfl rfl)) ?_
            refine RK.nil ?_
            refine Ab.D.lp ⟨0 + 1, (by omega), (by omega), rfl, rfl, rfl, rfl, rfl, (lkI (by rw [hes])), (lkI (by omega)), trivial⟩
          ·
            have hes := es_K (peak := peak) hkl hck (fun h => h.elim g44 c49)
            refine OK.skip ?_
            refine Ab.D.blk ?_
            refine Ab.D.code ?_
            refine OK.reg ?_
            refine RK.c (S.move .none rfl (.tmp rfl rfl)) ?_
            refine RK.c (S.add .none rfl (.tmp rfl rfl) (.cint rfl) (IntWalk.i64_in _ (by omega)) (IntWalk.i64_in _ (by omega))) ?_
            refine RK.c (S.assign .none rfl (.tmp rfl rfl)) ?_
            refine RK.nil ?_
            refine Ab.D.lp ⟨0 + 1, (by omega), (by omega), rfl, rfl, rfl, rfl, rfl, (lkI (by rw [hes])), (lkI (by omega)), trivial⟩
      ·
        have hes := es_F (peak := peak) hkl hck (by simpa using g41)
        refine RK.c (S.skip rfl rfl rfl rfl rfl) ?_
        refine RK.c (S.skip rfl rfl rfl rfl rfl) ?_
        refine RK.c (S.skip rfl rfl rfl rfl rfl) ?_
        refine RK.c (S.skipU rfl rfl rfl rfl) ?_
        refine RK.c (S.skipU rfl rfl rfl rfl) ?_
        refine RK.c (S.skipU rfl rfl rfl rfl) ?_
        refine RK.c (S.skip rfl rfl rfl rfl rfl) ?_
        refine RK.c (S.pickF .none rfl (.tmp rfl rfl) .cbool rfl) ?_
        refine RK.nil ?_
        refine Ab.D.code ?_
        refine OK.condF rfl rfl rfl ?_
        refine OK.skip ?_
        refine Ab.D.blk ?_
        refine Ab.D.code ?_
        refine OK.reg ?_
        refine RK.c (S.move .none rfl (.tmp rfl rfl)) ?_
        refine RK.c (S.add .none rfl (.tmp rfl rfl) (.cint rfl) (IntWalk.i64_in _ (by omega)) (IntWalk.i64_in _ (by omega))) ?_
        refine RK.c (S.assign .none rfl (.tmp rfl rfl)) ?_
        refine RK.nil ?_
        refine Ab.D.lp ⟨0 + 1, (by omega), (by omega), rfl, rfl, rfl, rfl, rfl, (lkI (by rw [hes])), (lkI (by omega)), trivial⟩
  ·
    refine OK.exit rfl ?_
    refine Ab.D.code ?_
    refine OK.seq ?_
    refine OK.reg ?_
    refine RK.c (S.move .none rfl (.tmp rfl rfl)) ?_
    refine RK.c (S.assign .none rfl (.tmp rfl rfl)) ?_
    refine RK.nil ?_
    refine Ab.D.code ?_
    refine OK.ret (Ret.r1 (.tmp rfl rfl (.c (.same rfl) rfl) rfl) ?_)
    rw [show k = (candT (zipR l b) x).length by omega, eBest_all hB hp hx1.1]
set_option maxHeartbeats 1000000 in
theorem ref9_Placed {l : List Run} {peak : Int} (hn : l.length ≤ 12) (hB : ∀ r ∈ l, RunB 100000 r) : Ct Tryz.prog 44 [.sl (l.map Run.cs), .int .i64 peak] (.tup [ints (if greatR l peak = true then [] else placedT l peak), .bool (!greatR l peak)]) := by
  refine Ct.intro (rs := [.tmp 4, .tmp 5]) Tryz.func44 rfl Tryz.ntmps44 Tryz.results44 rfl rfl rfl fun w h => ?_
  refine OK.seq ?_
  refine OK.reg ?_
  refine RK.c (S.assign .none rfl .cnil) ?_
  refine RK.c (S.assign .none rfl .cbool) ?_
  refine RK.nil ?_
  refine Ab.D.code ?_
  refine OK.seq ?_
  refine OK.reg ?_
  refine RK.c (S.nilOwn (k := 6) (sz := 1) .none rfl) ?_
  refine RK.nil ?_
  refine Ab.D.code ?_
  refine OK.seq ?_
  refine OK.seq ?_
  refine OK.reg ?_
  refine RK.c (S.assign .none rfl (.cint rfl)) ?_
  refine RK.nil ?_
  refine Ab.D.code ?_
  refine OK.block ?_
  refine OK.loop (G := Nat) [6] (fun i => [(0, .sl (l.map Run.cs)), (1, .int .i64 peak), (6, .own 6 (placedT (l.take i) peak).length), (2006, .arr 1 ((placedT (l.take i) peak).map fun n => [.int .i64 n])), (7, .int .i64 i)]) (fun i => i ≤ l.length ∧ ∀ r ∈ l.take i, r.power ≤ peak) (fun i => l.length - i) 0 ⟨Nat.zero_le _, fun r hr => by simp at hr⟩ ⟨rfl, rfl, (lk_own (by first | rfl | (simp; done) | (simp; omega))), (lk_arr (by first | rfl | (simp; done) | (simp; omega))), rfl, trivial⟩ (fun _ => rfl) ?_
  rintro i ⟨hi, hpi⟩
  refine OK.seq ?_
  refine OK.seq ?_
  refine OK.reg ?_
  refine RK.c (S.move .none rfl (.tmp rfl rfl)) ?_
  refine RK.c (S.move .none rfl (.tmp rfl rfl)) ?_
  refine RK.c (S.lenM si41 .none rfl (.tmp rfl rfl)) ?_
  refine RK.c (S.lss .none rfl (.tmp rfl rfl) (.tmp rfl rfl)) ?_
  refine RK.nil ?_
  refine Ab.D.code ?_
  refine OK.condD rfl rfl (fun c11 => ?_) (fun c11 => ?_)
  ·
    refine OK.skip ?_
    refine Ab.D.code ?_
    refine OK.seq ?_
    refine OK.block ?_
    refine OK.seq ?_
    refine OK.seq ?_
    refine OK.reg ?_
    refine RK.c (S.move .none rfl (.tmp rfl rfl)) ?_
    refine RK.c (S.move .none rfl (.tmp rfl rfl)) ?_
    refine RK.c (S.indexM (n := i) si41 .none rfl (.tmp rfl rfl) (.tmp rfl rfl) rfl (by omega) rfl) ?_
    refine RK.c (S.field fi46_2 .none rfl (.tmp rfl rfl) rfl) ?_
    refine RK.c (S.load1 ti3 .none rfl (.tmp rfl rfl) rfl) ?_
    refine RK.c (S.move .none rfl (.tmp rfl rfl)) ?_
    refine RK.c (S.gtr .none rfl (.tmp rfl rfl) (.tmp rfl rfl)) ?_
    refine RK.nil ?_
    refine Ab.D.code ?_
    refine OK.condD rfl rfl (fun c20 => ?_) (fun c20 => ?_)
    ·
      refine OK.seq ?_
      refine OK.reg ?_
      refine RK.c (S.assign .none rfl .cnil) ?_
      refine RK.c (S.assign .none rfl .cbool) ?_
      refine RK.nil ?_
      refine Ab.D.code ?_
      refine OK.ret (Ret.r2 (.tmp rfl rfl (.c (.same rfl) rfl) rfl) (.tmp rfl rfl (.c (.same rfl) rfl) rfl) ?_)
      have hg : greatR l peak = true := List.any_eq_true.2 ⟨l[i], List.getElem_mem (by omega), decide_eq_true c20⟩
      rw [hg, if_pos rfl]
      all_goals rfl
    ·
      have hp1 : ∀ r ∈ l.take (i + 1), r.power ≤ peak := fun r hr => by
        rw [List.take_succ_eq_append_getElem (by omega)] at hr
        rcases List.mem_append.1 hr with h | h
        · exact hpi r h
        · rw [List.mem_singleton.1 h]; omega
      have hpl : (placedT (l.take i) peak).length = i := by rw [placedT_len, placedR, placeGo_len]; simp; omega
      have hzp := zip_placed (l := l) (peak := peak) i (by omega)
      have hlt : (l.take i).length = i := by simp; omega
      have hpb := placed_bdT hB hpi (by omega)
      have hB8 : ∀ r ∈ zipR (l.take i) (placedT (l.take i) peak), RunB 100000000 r := fun r hr => by rw [hzp] at hr; exact (hpb r hr).mono (by omega)
      have hxi := (hB l[i] (List.getElem_mem (by omega))).mono (show (100000 : Int) ≤ 100000000 by omega)
      refine OK.skip ?_
      refine Ab.D.code ?_
      refine OK.regionDraw follows (.c (S.move .none rfl (.tmp rfl rfl))
        (.c (S.move .none rfl (.tmp rfl rfl))
        (.c (S.move .none rfl (.tmp rfl rfl))
        (.c (S.slice (hi := i) (l' := l.take i) si41 (fun _ => rfl) .none rfl (.tmp rfl rfl) (.inl ⟨rfl, rfl, rfl⟩) (.inr ⟨_, _, rfl, (.tmp rfl rfl), rfl⟩) (Nat.zero_le _) (by omega) rfl)
        (.c (S.move .none rfl (.tmp rfl rfl))
        (.c (S.move .none rfl (.tmp rfl rfl))
        (.c (S.move .none rfl (.tmp rfl rfl))
        (.c (S.indexM (n := i) si41 .none rfl (.tmp rfl rfl) (.tmp rfl rfl) rfl (by omega) rfl)
        (.c (S.loadN ti46 .none rfl (.tmp rfl rfl) rfl rfl)
        (.c (S.move .none rfl (.tmp rfl rfl))
        (.c (S.callL (ref9_Earliest (l := l.take i) (b := placedT (l.take i) peak) (by omega) (by omega) hB8 hxi (by omega)) Tryz.call43 .none rfl (.cons (.tmp rfl rfl) (.cons (.tmp rfl rfl) (.cons (.tmp rfl rfl) (.cons (.tmp rfl rfl) .nil)))) (.cons (.same rfl) (.cons (.p (.own rfl (List.length_map ..)) rfl) (.cons (.same rfl) (.cons (.same rfl) .nil)))) rfl)
        (.c (S.mkSlice (k := 32) (rows := [[_]]) ai30 .none rfl (.cons (.tmp rfl rfl) .nil) rfl rfl rfl rfl rfl rfl rfl)
        (.c (S.append ai30 .none rfl (.tmp rfl rfl) rfl (List.length_map ..) (.tmp rfl rfl) rfl (by first | rfl | (simp; done) | (simp; omega)) (by omega) (by simp only [maxLen]; omega))
        (.c (S.assign .none rfl (.tmp rfl rfl))
        .nil)))))))))))))) (by kernel_rfl) ?_
      refine Ab.D.blk ?_
      refine Ab.D.code ?_
      refine OK.reg ?_
      refine RK.c (S.move .none rfl (.tmp rfl rfl)) ?_
      refine RK.c (S.add .none rfl (.tmp rfl rfl) (.cint rfl) (IntWalk.i64_in _ (by omega)) (IntWalk.i64_in _ (by omega))) ?_
      refine RK.c (S.assign .none rfl (.tmp rfl rfl)) ?_
      refine RK.nil ?_
      refine Ab.D.lp ⟨i + 1, ⟨by omega, hp1⟩, (by omega), rfl, rfl, (lk_own (by rw [placedT_take (by omega)]; simp)), (lk_arr (by rw [placedT_take (by omega), hzp]; simp)), rfl, trivial⟩
  ·
    refine OK.exit rfl ?_
    refine Ab.D.code ?_
    refine OK.seq ?_
    refine OK.reg ?_
    refine RK.c (S.move .none rfl (.tmp rfl rfl)) ?_
    refine RK.c (S.assign .none rfl (.tmp rfl rfl)) ?_
    refine RK.c (S.assign .none rfl .cbool) ?_
    refine RK.nil ?_
    refine Ab.D.code ?_
    refine OK.ret (Ret.r2 (.tmp rfl rfl (.c (.own rfl rfl (by first | rfl | (simp; done) | (simp; omega))) rfl) rfl) (.tmp rfl rfl (.c (.same rfl) rfl) rfl) ?_)
    have hg : greatR l peak = false := by
      rw [show i = l.length by omega, List.take_length] at hpi
      exact List.any_eq_false.2 fun r hr => by have := hpi r hr; simp only [decide_eq_true_eq]; omega
    rw [hg, show i = l.length by omega, List.take_length, if_neg (by decide)]
    all_goals rfl
set_option maxHeartbeats 2000000 in
theorem law_ShopRuns {l : List Run} {x : Run} {peak : Int} : Ct Tryz.prog 6 [.sl (l.map Run.cs), .agg x.cs, .int .i64 peak] (.bool true) := by
  refine Ct.intro (rs := [.tmp 6]) Tryz.func6 rfl Tryz.ntmps6 Tryz.results6 rfl rfl rfl fun w h => ?_
  refine OK.seq ?_
  refine OK.reg ?_
  refine RK.c (S.box (k := 4) rfl .none rfl (.tmp rfl rfl) rfl) ?_
  refine RK.c (S.assign .none rfl .cbool) ?_
  refine RK.nil ?_
  refine Ab.D.code ?_
  refine OK.seq ?_
  refine OK.seq ?_
  refine OK.reg ?_
  refine RK.c (S.call (law9_awake) Tryz.call15 .none rfl .nil rfl) ?_
  refine RK.c (S.not .none rfl (.tmp rfl rfl)) ?_
  refine RK.nil ?_
  refine Ab.D.code ?_
  refine OK.condF rfl rfl rfl ?_
  refine OK.skip ?_
  refine Ab.D.code ?_
  refine OK.seq ?_
  refine OK.seq ?_
  refine OK.reg ?_
  refine RK.c (S.move .none rfl (.tmp rfl rfl)) ?_
  refine RK.c (S.lenM si41 .none rfl (.tmp rfl rfl)) ?_
  refine RK.c (S.gtr .none rfl (.tmp rfl rfl) (.cint rfl)) ?_
  refine RK.nil ?_
  refine Ab.D.code ?_
  refine OK.condD rfl rfl (fun c27 => ?_) (fun c27 => ?_)
  ·
    refine OK.seq ?_
    refine OK.reg ?_
    refine RK.c (S.assign .none rfl .cbool) ?_
    refine RK.nil ?_
    refine Ab.D.code ?_
    refine OK.ret (Ret.r1 (.tmp rfl rfl (.c (.same rfl) rfl) rfl) ?_)
    first | rfl | exact ret_dT rfl | exact ret_dT trivial | (refine ret_dT ?_; omega)
  ·
    refine OK.skip ?_
    refine Ab.D.code ?_
    refine OK.seq ?_
    refine OK.reg ?_
    refine RK.c (S.move .none rfl (.tmp rfl rfl)) ?_
    refine RK.c (S.call (ref9_CopyRuns (by omega)) Tryz.call29 .none rfl (.cons (.tmp rfl rfl) .nil) rfl) ?_
    refine RK.c (S.call (shp_CheckRuns) Tryz.call36 .none rfl (.cons (.tmp rfl rfl) .nil) rfl) ?_
    refine RK.c (S.move .none rfl (.tmp rfl rfl)) ?_
    refine RK.c (S.extract .none rfl (.tmp rfl rfl) rfl rfl) ?_
    refine RK.c (S.extract .none rfl (.tmp rfl rfl) rfl rfl) ?_
    refine RK.c (S.assign .none rfl (.tmp rfl rfl)) ?_
    refine RK.c (S.assign .none rfl (.tmp rfl rfl)) ?_
    refine RK.nil ?_
    refine Ab.D.code ?_
    refine OK.seq ?_
    refine OK.reg ?_
    refine RK.c (S.move .none rfl (.tmp rfl rfl)) ?_
    refine RK.c (S.call (ref9_CopyRuns (by omega)) Tryz.call29 .none rfl (.cons (.tmp rfl rfl) .nil) rfl) ?_
    refine RK.c (S.call (shp_PeakOf) Tryz.call37 .none rfl (.cons (.tmp rfl rfl) .nil) rfl) ?_
    refine RK.c (S.move .none rfl (.tmp rfl rfl)) ?_
    refine RK.c (S.extract .none rfl (.tmp rfl rfl) rfl rfl) ?_
    refine RK.c (S.extract .none rfl (.tmp rfl rfl) rfl rfl) ?_
    refine RK.c (S.extract .none rfl (.tmp rfl rfl) rfl rfl) ?_
    refine RK.c (S.assign .none rfl (.tmp rfl rfl)) ?_
    refine RK.c (S.assign .none rfl (.tmp rfl rfl)) ?_
    refine RK.c (S.assign .none rfl (.tmp rfl rfl)) ?_
    refine RK.nil ?_
    refine Ab.D.code ?_
    refine OK.seq ?_
    refine OK.regionDraw follows (.c (S.move .none rfl (.tmp rfl rfl))
      (.c (S.call (ref9_CopyRuns (by omega)) Tryz.call29 .none rfl (.cons (.tmp rfl rfl) .nil) rfl)
      (.c (S.bloadN ti46 .none rfl (.tmp rfl rfl) rfl rfl rfl rfl)
      (.c (S.move .none rfl (.tmp rfl rfl))
      (.c (S.call (shp_EarliestFor) Tryz.call38 .none rfl (.cons (.tmp rfl rfl) (.cons (.tmp rfl rfl) (.cons (.tmp rfl rfl) .nil))) rfl)
      (.c (S.move .none rfl (.tmp rfl rfl))
      (.c (S.extract .none rfl (.tmp rfl rfl) rfl rfl)
      (.c (S.extract .none rfl (.tmp rfl rfl) rfl rfl)
      (.c (S.assign .none rfl (.tmp rfl rfl))
      (.c (S.assign .none rfl (.tmp rfl rfl))
      .nil)))))))))) (by kernel_rfl) ?_
    refine Ab.D.code ?_
    refine OK.seq ?_
    refine OK.reg ?_
    refine RK.c (S.move .none rfl (.tmp rfl rfl)) ?_
    refine RK.c (S.call (ref9_CopyRuns (by omega)) Tryz.call29 .none rfl (.cons (.tmp rfl rfl) .nil) rfl) ?_
    refine RK.c (S.move .none rfl (.tmp rfl rfl)) ?_
    refine RK.c (S.call (shp_Placed) Tryz.call28 .none rfl (.cons (.tmp rfl rfl) (.cons (.tmp rfl rfl) .nil)) rfl) ?_
    refine RK.c (S.move .none rfl (.tmp rfl rfl)) ?_
    refine RK.c (S.extract .none rfl (.tmp rfl rfl) rfl rfl) ?_
    refine RK.c (S.extract .none rfl (.tmp rfl rfl) rfl rfl) ?_
    refine RK.c (S.assign .none rfl (.tmp rfl rfl)) ?_
    refine RK.c (S.assign .none rfl (.tmp rfl rfl)) ?_
    refine RK.nil ?_
    refine Ab.D.code ?_
    refine OK.seq ?_
    refine OK.reg ?_
    refine RK.c (S.move .none rfl (.tmp rfl rfl)) ?_
    refine RK.c (S.call (ref9_CheckRuns) Tryz.call39 .none rfl (.cons (.tmp rfl rfl) .nil) rfl) ?_
    refine RK.c (S.move .none rfl (.tmp rfl rfl)) ?_
    refine RK.c (S.extract .none rfl (.tmp rfl rfl) rfl rfl) ?_
    refine RK.c (S.extract .none rfl (.tmp rfl rfl) rfl rfl) ?_
    refine RK.c (S.assign .none rfl (.tmp rfl rfl)) ?_
    refine RK.c (S.assign .none rfl (.tmp rfl rfl)) ?_
    refine RK.nil ?_
    refine Ab.D.code ?_
    refine OK.seq ?_
    refine OK.seq ?_
    refine OK.reg ?_
    refine RK.c (S.move .none rfl (.tmp rfl rfl)) ?_
    refine RK.c (S.move .none rfl (.tmp rfl rfl)) ?_
    refine RK.c (S.neq .none rfl (.tmp rfl rfl) (.tmp rfl rfl)) ?_
    refine RK.c (S.move .none rfl (.tmp rfl rfl)) ?_
    refine RK.splitD (t := 64) rfl (fun g64 => ?_) (fun g64 => ?_)
    ·
      exact absurd rfl g64
    ·
      refine RK.c (S.move (.yes rfl rfl rfl rfl) rfl (.tmp rfl rfl)) ?_
      refine RK.c (S.move (.yes rfl rfl rfl rfl) rfl (.tmp rfl rfl)) ?_
      refine RK.c (S.neq (.yes rfl rfl rfl rfl) rfl (.tmp rfl rfl) (.tmp rfl rfl)) ?_
      refine RK.c (S.pickF .none rfl (.tmp rfl rfl) (.tmp rfl rfl) rfl) ?_
      refine RK.nil ?_
      refine Ab.D.code ?_
      refine OK.condD rfl rfl (fun c68 => ?_) (fun c68 => ?_)
      ·
        first | exact absurd rfl c68 | exact absurd c68 (by decide)
      ·
        refine OK.skip ?_
        refine Ab.D.code ?_
        refine OK.seq ?_
        refine OK.seq ?_
        refine OK.reg ?_
        refine RK.c (S.move .none rfl (.tmp rfl rfl)) ?_
        refine RK.c (S.neq .none rfl (.tmp rfl rfl) (.cint rfl)) ?_
        refine RK.nil ?_
        refine Ab.D.code ?_
        refine OK.condD rfl rfl (fun c70 => ?_) (fun c70 => ?_)
        ·
          have h0 : ¬ (runsChk l).2 = 0 := c70
          rw [if_neg h0, if_neg h0]
          have hE := earlFor_eq l x peak
          have hEr : earlForE l x peak = (runsChk l).2 := by omega
          have hPr : placedE l peak = (runsChk l).2 := if_pos h0
          rw [show earlForT l x peak = 0 from if_neg (by omega), if_neg (show ¬ placedE l peak = 0 by omega)]
          refine OK.seq ?_
          refine OK.reg ?_
          refine RK.c (S.move .none rfl (.tmp rfl rfl)) ?_
          refine RK.c (S.move .none rfl (.tmp rfl rfl)) ?_
          refine RK.c (S.eql .none rfl (.tmp rfl rfl) (.tmp rfl rfl)) ?_
          refine RK.c (S.move .none rfl (.tmp rfl rfl)) ?_
          refine RK.splitD (t := 74) rfl (fun g74 => ?_) (fun g74 => ?_)
          ·
            refine RK.c (S.move (.yes rfl rfl rfl rfl) rfl (.tmp rfl rfl)) ?_
            refine RK.c (S.move (.yes rfl rfl rfl rfl) rfl (.tmp rfl rfl)) ?_
            refine RK.c (S.eql (.yes rfl rfl rfl rfl) rfl (.tmp rfl rfl) (.tmp rfl rfl)) ?_
            refine RK.c (S.pickT .none rfl (.tmp rfl rfl) (.tmp rfl rfl) rfl) ?_
            refine RK.c (S.move .none rfl (.tmp rfl rfl)) ?_
            refine RK.splitD (t := 79) rfl (fun g79 => ?_) (fun g79 => ?_)
            ·
              refine RK.c (S.move (.yes rfl rfl rfl rfl) rfl (.tmp rfl rfl)) ?_
              refine RK.c (S.move (.yes rfl rfl rfl rfl) rfl (.tmp rfl rfl)) ?_
              refine RK.c (S.eql (.yes rfl rfl rfl rfl) rfl (.tmp rfl rfl) (.tmp rfl rfl)) ?_
              refine RK.c (S.pickT .none rfl (.tmp rfl rfl) (.tmp rfl rfl) rfl) ?_
              refine RK.c (S.move .none rfl (.tmp rfl rfl)) ?_
              refine RK.splitD (t := 84) rfl (fun g84 => ?_) (fun g84 => ?_)
              ·
                refine RK.c (S.move (.yes rfl rfl rfl rfl) rfl (.tmp rfl rfl)) ?_
                refine RK.c (S.eql (.yes rfl rfl rfl rfl) rfl (.tmp rfl rfl) (.cint rfl)) ?_
                refine RK.c (S.pickT .none rfl (.tmp rfl rfl) (.tmp rfl rfl) rfl) ?_
                refine RK.c (S.move .none rfl (.tmp rfl rfl)) ?_
                refine RK.splitD (t := 88) rfl (fun g88 => ?_) (fun g88 => ?_)
                ·
                  refine RK.c (S.move (.yes rfl rfl rfl rfl) rfl (.tmp rfl rfl)) ?_
                  refine RK.c (S.eql (.yes rfl rfl rfl rfl) rfl (.tmp rfl rfl) (.cint rfl)) ?_
                  refine RK.c (S.pickT .none rfl (.tmp rfl rfl) (.tmp rfl rfl) rfl) ?_
                  refine RK.c (S.move .none rfl (.tmp rfl rfl)) ?_
                  refine RK.splitD (t := 92) rfl (fun g92 => ?_) (fun g92 => ?_)
                  ·
                    refine RK.c (S.move (.yes rfl rfl rfl rfl) rfl (.tmp rfl rfl)) ?_
                    refine RK.c (S.eql (.yes rfl rfl rfl rfl) rfl (.tmp rfl rfl) (.cint rfl)) ?_
                    refine RK.c (S.pickT .none rfl (.tmp rfl rfl) (.tmp rfl rfl) rfl) ?_
                    refine RK.c (S.move .none rfl (.tmp rfl rfl)) ?_
                    refine RK.splitD (t := 96) rfl (fun g96 => ?_) (fun g96 => ?_)
                    ·
                      refine RK.c (S.move (.yes rfl rfl rfl rfl) rfl (.tmp rfl rfl)) ?_
                      refine RK.c (S.lenM si30 (.yes rfl rfl rfl rfl) rfl (.tmp rfl rfl)) ?_
                      refine RK.c (S.eql (.yes rfl rfl rfl rfl) rfl (.tmp rfl rfl) (.cint rfl)) ?_
                      refine RK.c (S.pickT .none rfl (.tmp rfl rfl) (.tmp rfl rfl) rfl) ?_
                      refine RK.c (S.assign .none rfl (.tmp rfl rfl)) ?_
                      refine RK.nil ?_
                      refine Ab.D.code ?_
                      refine OK.ret (Ret.r1 (.tmp rfl rfl (.c (.same rfl) rfl) rfl) ?_)
                      first | rfl | exact ret_dT rfl | exact ret_dT trivial | (refine ret_dT ?_; omega)
                    ·
                      exact absurd rfl g96
                  ·
                    exact absurd rfl g92
                ·
                  exact absurd rfl g88
              ·
                exact absurd hPr g84
            ·
              exact absurd hEr g79
          ·
            exact absurd rfl g74
        ·
          have h0 : (runsChk l).2 = 0 := Decidable.not_not.1 c70
          rw [if_pos h0, if_pos h0]
          obtain ⟨hl, hB⟩ := runs_ok h0
          have hE := earlFor_eq l x peak
          have hT0 : earlForE l x peak = 0 ∨ earlForT l x peak = 0 := by by_cases h : earlForE l x peak = 0; exact .inl h; exact .inr (if_neg h)
          have hB9 : ∀ r ∈ zipR l (l.map (·.start)), RunB 100000000 r := fun r hr => by rw [zip_starts] at hr; exact (hB r hr).mono (by omega)
          have hzs := zip_starts l
          have hml : (l.map (·.start)).length = l.length := List.length_map ..
          refine OK.skip ?_
          refine Ab.D.code ?_
          refine OK.seq ?_
          refine OK.reg ?_
          refine RK.c (S.move .none rfl (.tmp rfl rfl)) ?_
          refine RK.c (S.move .none rfl (.tmp rfl rfl)) ?_
          refine RK.c (S.call (ref9_Starts (by omega)) Tryz.call41 .none rfl (.cons (.tmp rfl rfl) .nil) rfl) ?_
          refine RK.c (S.call (ref9_Peak (by omega) hB) Tryz.call40 .none rfl (.cons (.tmp rfl rfl) (.cons (.tmp rfl rfl) .nil)) rfl) ?_
          refine RK.c (S.move .none rfl (.tmp rfl rfl)) ?_
          refine RK.c (S.extract .none rfl (.tmp rfl rfl) rfl rfl) ?_
          refine RK.c (S.extract .none rfl (.tmp rfl rfl) rfl rfl) ?_
          refine RK.c (S.assign .none rfl (.tmp rfl rfl)) ?_
          refine RK.c (S.assign .none rfl (.tmp rfl rfl)) ?_
          refine RK.nil ?_
          refine Ab.D.code ?_
          refine OK.seq ?_
          refine OK.seq ?_
          refine OK.reg ?_
          refine RK.c (S.move .none rfl (.tmp rfl rfl)) ?_
          refine RK.c (S.neq .none rfl (.tmp rfl rfl) (.cint rfl)) ?_
          refine RK.c (S.move .none rfl (.tmp rfl rfl)) ?_
          refine RK.splitD (t := 110) rfl (fun g110 => ?_) (fun g110 => ?_)
          ·
            exact absurd h0 g110
          ·
            refine RK.c (S.move (.yes rfl rfl rfl rfl) rfl (.tmp rfl rfl)) ?_
            refine RK.c (S.move (.yes rfl rfl rfl rfl) rfl (.tmp rfl rfl)) ?_
            refine RK.c (S.neq (.yes rfl rfl rfl rfl) rfl (.tmp rfl rfl) (.tmp rfl rfl)) ?_
            refine RK.c (S.pickF .none rfl (.tmp rfl rfl) (.tmp rfl rfl) rfl) ?_
            refine RK.c (S.move .none rfl (.tmp rfl rfl)) ?_
            refine RK.splitD (t := 115) rfl (fun g115 => ?_) (fun g115 => ?_)
            ·
              exact absurd rfl g115
            ·
              refine RK.c (S.move (.yes rfl rfl rfl rfl) rfl (.tmp rfl rfl)) ?_
              refine RK.c (S.move (.yes rfl rfl rfl rfl) rfl (.tmp rfl rfl)) ?_
              refine RK.c (S.neq (.yes rfl rfl rfl rfl) rfl (.tmp rfl rfl) (.tmp rfl rfl)) ?_
              refine RK.c (S.pickF .none rfl (.tmp rfl rfl) (.tmp rfl rfl) rfl) ?_
              refine RK.nil ?_
              refine Ab.D.code ?_
              refine OK.condD rfl rfl (fun c119 => ?_) (fun c119 => ?_)
              ·
                exact absurd rfl c119
              ·
                refine OK.skip ?_
                refine Ab.D.code ?_
                refine OK.seq ?_
                refine OK.reg ?_
                refine RK.c (S.move .none rfl (.tmp rfl rfl)) ?_
                refine RK.c (S.call (ref9_PeakErr) Tryz.call26 .none rfl (.cons (.tmp rfl rfl) .nil) rfl) ?_
                refine RK.c (S.assign .none rfl (.tmp rfl rfl)) ?_
                refine RK.nil ?_
                refine Ab.D.code ?_
                refine OK.seq ?_
                refine OK.seq ?_
                refine OK.reg ?_
                refine RK.c (S.bloadN ti46 .none rfl (.tmp rfl rfl) rfl rfl rfl rfl) ?_
                refine RK.c (S.call (ref9_RunErr) Tryz.call42 .none rfl (.cons (.tmp rfl rfl) .nil) rfl) ?_
                refine RK.c (S.assign .none rfl (.tmp rfl rfl)) ?_
                refine RK.nil ?_
                refine Ab.D.code ?_
                refine OK.seq ?_
                refine OK.reg ?_
                refine RK.c (S.move .none rfl (.tmp rfl rfl)) ?_
                refine RK.c (S.eql .none rfl (.tmp rfl rfl) (.cint rfl)) ?_
                refine RK.nil ?_
                refine Ab.D.code ?_
                refine OK.condD rfl rfl (fun c125 => ?_) (fun c125 => ?_)
                ·
                  refine OK.reg ?_
                  refine RK.c (S.move .none rfl (.tmp rfl rfl)) ?_
                  refine RK.c (S.assign .none rfl (.tmp rfl rfl)) ?_
                  refine RK.nil ?_
                  refine Ab.D.code ?_
                  refine OK.seq ?_
                  refine OK.seq ?_
                  refine OK.reg ?_
                  refine RK.c (S.move .none rfl (.tmp rfl rfl)) ?_
                  refine RK.c (S.eql .none rfl (.tmp rfl rfl) (.cint rfl)) ?_
                  refine RK.c (S.move .none rfl (.tmp rfl rfl)) ?_
                  refine RK.splitD (t := 129) rfl (fun g129 => ?_) (fun g129 => ?_)
                  ·
                    refine RK.c (S.bfield fi46_2 (.yes rfl rfl rfl rfl) rfl (.tmp rfl rfl)) ?_
                    refine RK.c (S.bload1 ti3 (.yes rfl rfl rfl rfl) rfl (.tmp rfl rfl) rfl rfl rfl rfl) ?_
                    refine RK.c (S.move (.yes rfl rfl rfl rfl) rfl (.tmp rfl rfl)) ?_
                    refine RK.c (S.gtr (.yes rfl rfl rfl rfl) rfl (.tmp rfl rfl) (.tmp rfl rfl)) ?_
                    refine RK.c (S.pickT .none rfl (.tmp rfl rfl) (.tmp rfl rfl) rfl) ?_
                    refine RK.nil ?_
                    refine Ab.D.code ?_
                    refine OK.condD rfl rfl (fun c134 => ?_) (fun c134 => ?_)
                    ·
                      refine OK.reg ?_
                      refine RK.c (S.assign .none rfl (.cint rfl)) ?_
                      refine RK.nil ?_
                      refine Ab.D.code ?_
                      refine OK.seq ?_
                      refine OK.seq ?_
                      by_cases g137 : earlForE l x peak ≠ 0
                      ·
                        refine OK.regionDraw follows (.c (S.move .none rfl (.tmp rfl rfl))
                          (.c (S.neq .none rfl (.tmp rfl rfl) (.cint rfl))
                          (.c (S.move .none rfl (.tmp rfl rfl))
                          (.c (S.move (.yes rfl rfl rfl (by first | rfl | exact decide_eq_true (by omega) | exact decide_eq_false (by omega) | (simp; done) | (simp; omega))) rfl (.tmp rfl rfl))
                          (.c (S.move (.yes rfl rfl rfl (by first | rfl | exact decide_eq_true (by omega) | exact decide_eq_false (by omega) | (simp; done) | (simp; omega))) rfl (.tmp rfl rfl))
                          (.c (S.neq (.yes rfl rfl rfl (by first | rfl | exact decide_eq_true (by omega) | exact decide_eq_false (by omega) | (simp; done) | (simp; omega))) rfl (.tmp rfl rfl) (.tmp rfl rfl))
                          (.c (S.move (.yes rfl rfl rfl (by first | rfl | exact decide_eq_true (by omega) | exact decide_eq_false (by omega) | (simp; done) | (simp; omega))) rfl (.tmp rfl rfl))
                          (.c (S.move (.yes rfl rfl rfl (by first | rfl | exact decide_eq_true (by omega) | exact decide_eq_false (by omega) | (simp; done) | (simp; omega))) rfl (.tmp rfl rfl))
                          (.c (S.neq (.yes rfl rfl rfl (by first | rfl | exact decide_eq_true (by omega) | exact decide_eq_false (by omega) | (simp; done) | (simp; omega))) rfl (.tmp rfl rfl) (.cint rfl))
                          (.c (S.pickF (.yes rfl rfl rfl (by first | rfl | exact decide_eq_true (by omega) | exact decide_eq_false (by omega) | (simp; done) | (simp; omega))) rfl (.tmp rfl rfl) (.tmp rfl rfl) (by first | rfl | exact decide_eq_true (by omega) | exact decide_eq_false (by omega) | (simp; done) | (simp; omega)))
                          (.c (S.pickT .none rfl (.tmp rfl rfl) (.tmp rfl rfl) (by first | rfl | exact decide_eq_true (by omega) | exact decide_eq_false (by omega) | (simp; done) | (simp; omega)))
                          (.c (S.move .none rfl (.tmp rfl rfl))
                          (.c (S.move (.yes rfl rfl rfl (by first | rfl | exact decide_eq_true (by omega) | exact decide_eq_false (by omega) | (simp; done) | (simp; omega))) rfl (.tmp rfl rfl))
                          (.c (S.eql (.yes rfl rfl rfl (by first | rfl | exact decide_eq_true (by omega) | exact decide_eq_false (by omega) | (simp; done) | (simp; omega))) rfl (.tmp rfl rfl) (.cint rfl))
                          (.c (S.move (.yes rfl rfl rfl (by first | rfl | exact decide_eq_true (by omega) | exact decide_eq_false (by omega) | (simp; done) | (simp; omega))) rfl (.tmp rfl rfl))
                          (.c (S.skip rfl rfl rfl (by first | rfl | exact decide_eq_true (by omega) | exact decide_eq_false (by omega) | (simp; done) | (simp; omega)) rfl)
                          (.c (S.skip rfl rfl rfl (by first | rfl | exact decide_eq_true (by omega) | exact decide_eq_false (by omega) | (simp; done) | (simp; omega)) rfl)
                          (.c (S.skip rfl rfl rfl (by first | rfl | exact decide_eq_true (by omega) | exact decide_eq_false (by omega) | (simp; done) | (simp; omega)) rfl)
                          (.c (S.skipU rfl rfl rfl rfl)
                          (.c (S.skipU rfl rfl rfl rfl)
                          (.c (S.skipU rfl rfl rfl rfl)
                          (.c (S.skipU rfl rfl rfl rfl)
                          (.c (S.skipU rfl rfl rfl rfl)
                          (.c (S.skipU rfl rfl rfl rfl)
                          (.c (S.skipU rfl rfl rfl rfl)
                          (.c (S.skipU rfl rfl rfl rfl)
                          (.c (S.skip rfl rfl rfl (by first | rfl | exact decide_eq_true (by omega) | exact decide_eq_false (by omega) | (simp; done) | (simp; omega)) rfl)
                          (.c (S.pickF (.yes rfl rfl rfl (by first | rfl | exact decide_eq_true (by omega) | exact decide_eq_false (by omega) | (simp; done) | (simp; omega))) rfl (.tmp rfl rfl) .cbool (by first | rfl | exact decide_eq_true (by omega) | exact decide_eq_false (by omega) | (simp; done) | (simp; omega)))
                          (.c (S.pickF .none rfl (.tmp rfl rfl) (.tmp rfl rfl) (by first | rfl | exact decide_eq_true (by omega) | exact decide_eq_false (by omega) | (simp; done) | (simp; omega)))
                          .nil))))))))))))))))))))))))))))) (by kernel_rfl) ?_
                        refine Ab.D.code ?_
                        refine OK.condF rfl rfl rfl ?_
                        refine OK.skip ?_
                        refine Ab.D.code ?_
                        refine OK.seq ?_
                        refine OK.seq ?_
                        refine OK.reg ?_
                        refine RK.c (S.move .none rfl (.tmp rfl rfl)) ?_
                        refine RK.c (S.neq .none rfl (.tmp rfl rfl) (.cint rfl)) ?_
                        refine RK.nil ?_
                        refine Ab.D.code ?_
                        refine OK.condD rfl rfl (fun c165 => ?_) (fun c165 => ?_)
                        ·
                          have hPr : placedE l peak = peakE peak := by unfold placedE; rw [if_neg (by omega), if_pos c165]
                          rw [if_neg (show ¬ placedE l peak = 0 by omega)]
                          refine OK.seq ?_
                          refine OK.reg ?_
                          refine RK.c (S.move .none rfl (.tmp rfl rfl)) ?_
                          refine RK.c (S.move .none rfl (.tmp rfl rfl)) ?_
                          refine RK.c (S.eql .none rfl (.tmp rfl rfl) (.tmp rfl rfl)) ?_
                          refine RK.c (S.move .none rfl (.tmp rfl rfl)) ?_
                          refine RK.splitD (t := 169) rfl (fun g169 => ?_) (fun g169 => ?_)
                          ·
                            refine RK.c (S.move (.yes rfl rfl rfl rfl) rfl (.tmp rfl rfl)) ?_
                            refine RK.c (S.lenM si30 (.yes rfl rfl rfl rfl) rfl (.tmp rfl rfl)) ?_
                            refine RK.c (S.eql (.yes rfl rfl rfl rfl) rfl (.tmp rfl rfl) (.cint rfl)) ?_
                            refine RK.c (S.pickT .none rfl (.tmp rfl rfl) (.tmp rfl rfl) rfl) ?_
                            refine RK.c (S.assign .none rfl (.tmp rfl rfl)) ?_
                            refine RK.nil ?_
                            refine Ab.D.code ?_
                            refine OK.ret (Ret.r1 (.tmp rfl rfl (.c (.same rfl) rfl) rfl) ?_)
                            first | rfl | exact ret_dT rfl | exact ret_dT trivial | (refine ret_dT ?_; omega)
                          ·
                            exact absurd hPr g169
                        ·
                          have hP0 : peakE peak = 0 := Decidable.not_not.1 c165
                          have hPl : placedE l peak = if greatR l peak = true then 12 else 0 := by unfold placedE; rw [if_neg (by omega), if_neg (by omega)]; rfl
                          refine OK.skip ?_
                          refine Ab.D.code ?_
                          refine OK.seq ?_
                          refine OK.reg ?_
                          refine RK.c (S.move .none rfl (.tmp rfl rfl)) ?_
                          refine RK.c (S.move .none rfl (.tmp rfl rfl)) ?_
                          refine RK.c (S.call (ref9_Placed hl hB) Tryz.call44 .none rfl (.cons (.tmp rfl rfl) (.cons (.tmp rfl rfl) .nil)) rfl) ?_
                          refine RK.c (S.move .none rfl (.tmp rfl rfl)) ?_
                          refine RK.c (S.extract .none rfl (.tmp rfl rfl) rfl rfl) ?_
                          refine RK.c (S.extract .none rfl (.tmp rfl rfl) rfl rfl) ?_
                          refine RK.c (S.assign .none rfl (.tmp rfl rfl)) ?_
                          refine RK.c (S.assign .none rfl (.tmp rfl rfl)) ?_
                          refine RK.nil ?_
                          refine Ab.D.code ?_
                          refine OK.seq ?_
                          refine OK.reg ?_
                          refine RK.c (S.move .none rfl (.tmp rfl rfl)) ?_
                          refine RK.c (S.move .none rfl (.tmp rfl rfl)) ?_
                          refine RK.split (t := 181) rfl (fun g181 => ?_) (fun g181 => ?_)
                          ·
                            have hg : greatR l peak = false := by simpa using g181
                            rw [hg, if_neg (by decide)] at hPl
                            rw [if_pos hPl]
                            refine RK.c (S.move (.yes rfl rfl rfl rfl) rfl (.tmp rfl rfl)) ?_
                            refine RK.c (S.eql (.yes rfl rfl rfl rfl) rfl (.tmp rfl rfl) (.cint rfl)) ?_
                            refine RK.c (S.pickT .none rfl (.tmp rfl rfl) (.tmp rfl rfl) rfl) ?_
                            refine RK.c (S.move .none rfl (.tmp rfl rfl)) ?_
                            refine RK.splitD (t := 185) rfl (fun g185 => ?_) (fun g185 => ?_)
                            ·
                              refine RK.c (S.move (.yes rfl rfl rfl rfl) rfl (.tmp rfl rfl)) ?_
                              refine RK.c (S.move (.yes rfl rfl rfl rfl) rfl (.tmp rfl rfl)) ?_
                              refine RK.c (S.call (base_Ints) Tryz.call24 (.yes rfl rfl rfl rfl) rfl (.cons (.tmp rfl rfl) (.cons (.tmp rfl rfl) .nil)) rfl) ?_
                              refine RK.c (S.pickT .none rfl (.tmp rfl rfl) (.tmp rfl rfl) rfl) ?_
                              refine RK.c (S.move .none rfl (.tmp rfl rfl)) ?_
                              refine RK.splitD (t := 190) rfl (fun g190 => ?_) (fun g190 => ?_)
                              ·
                                refine RK.c (S.skip rfl rfl rfl rfl rfl) ?_
                                refine RK.c (S.skip rfl rfl rfl rfl rfl) ?_
                                refine RK.c (S.skip rfl rfl rfl rfl rfl) ?_
                                refine RK.c (S.skipU rfl rfl rfl rfl) ?_
                                refine RK.c (S.skipU rfl rfl rfl rfl) ?_
                                refine RK.c (S.skip rfl rfl rfl rfl rfl) ?_
                                refine RK.c (S.skip rfl rfl rfl rfl rfl) ?_
                                refine RK.c (S.skipU rfl rfl rfl rfl) ?_
                                refine RK.c (S.skipU rfl rfl rfl rfl) ?_
                                refine RK.c (S.skipU rfl rfl rfl rfl) ?_
                                refine RK.c (S.skip rfl rfl rfl rfl rfl) ?_
                                refine RK.c (S.pickT .none rfl (.tmp rfl rfl) .cbool rfl) ?_
                                refine RK.c (S.assign .none rfl (.tmp rfl rfl)) ?_
                                refine RK.nil ?_
                                refine Ab.D.code ?_
                                refine OK.ret (Ret.r1 (.tmp rfl rfl (.c (.same rfl) rfl) rfl) ?_)
                                first | rfl | exact ret_dT rfl | exact ret_dT trivial | (refine ret_dT ?_; omega)
                              ·
                                first | exact absurd rfl g190 | (rw [hg] at g190; exact absurd rfl g190)
                            ·
                              exact absurd hPl g185
                          ·
                            have hg : greatR l peak = true := by simpa using g181
                            rw [hg, if_pos rfl] at hPl
                            rw [if_neg (show ¬ placedE l peak = 0 by omega)]
                            refine RK.c (S.skip rfl rfl rfl rfl rfl) ?_
                            refine RK.c (S.skip rfl rfl rfl rfl rfl) ?_
                            refine RK.c (S.pickF .none rfl (.tmp rfl rfl) .cbool rfl) ?_
                            refine RK.c (S.move .none rfl (.tmp rfl rfl)) ?_
                            refine RK.c (S.skip rfl rfl rfl rfl rfl) ?_
                            refine RK.c (S.skip rfl rfl rfl rfl rfl) ?_
                            refine RK.c (S.skip rfl rfl rfl rfl rfl) ?_
                            refine RK.c (S.pickF .none rfl (.tmp rfl rfl) .cbool rfl) ?_
                            refine RK.c (S.move .none rfl (.tmp rfl rfl)) ?_
                            refine RK.c (S.move (.yes rfl rfl rfl rfl) rfl (.tmp rfl rfl)) ?_
                            refine RK.c (S.not (.yes rfl rfl rfl rfl) rfl (.tmp rfl rfl)) ?_
                            refine RK.c (S.move (.yes rfl rfl rfl rfl) rfl (.tmp rfl rfl)) ?_
                            refine RK.split (t := 193) rfl (fun g193 => ?_) (fun g193 => ?_)
                            ·
                              refine RK.c (S.move (.yes rfl rfl rfl rfl) rfl (.tmp rfl rfl)) ?_
                              refine RK.c (S.eql (.yes rfl rfl rfl rfl) rfl (.tmp rfl rfl) (.cint rfl)) ?_
                              refine RK.c (S.pickT (.yes rfl rfl rfl rfl) rfl (.tmp rfl rfl) (.tmp rfl rfl) rfl) ?_
                              refine RK.c (S.move (.yes rfl rfl rfl rfl) rfl (.tmp rfl rfl)) ?_
                              refine RK.splitD (t := 197) rfl (fun g197 => ?_) (fun g197 => ?_)
                              ·
                                refine RK.c (S.move (.yes rfl rfl rfl rfl) rfl (.tmp rfl rfl)) ?_
                                refine RK.c (S.lenM si30 (.yes rfl rfl rfl rfl) rfl (.tmp rfl rfl)) ?_
                                refine RK.c (S.eql (.yes rfl rfl rfl rfl) rfl (.tmp rfl rfl) (.cint rfl)) ?_
                                refine RK.c (S.pickT (.yes rfl rfl rfl rfl) rfl (.tmp rfl rfl) (.tmp rfl rfl) rfl) ?_
                                refine RK.c (S.pickF .none rfl (.tmp rfl rfl) (.tmp rfl rfl) rfl) ?_
                                refine RK.c (S.assign .none rfl (.tmp rfl rfl)) ?_
                                refine RK.nil ?_
                                refine Ab.D.code ?_
                                refine OK.ret (Ret.r1 (.tmp rfl rfl (.c (.same rfl) rfl) rfl) ?_)
                                first | rfl | exact ret_dT rfl | exact ret_dT trivial | (refine ret_dT ?_; omega)
                              ·
                                exact absurd hPl g197
                            ·
                              first | (rw [hg] at g193; cases g193) | (simp at g193; rw [hg] at g193; cases g193)
                      ·
                        have hx0 : runE x = 0 := by omega
                        have hxB := (runE_0 hx0).mono (show (100000 : Int) ≤ 100000000 by omega)
                        have hxp : x.power ≤ peak := by omega
                        have hT : earlForT l x peak = earlT l x peak := if_pos (by omega)
                        refine OK.regionDraw follows (.c (S.move .none rfl (.tmp rfl rfl))
                          (.c (S.neq .none rfl (.tmp rfl rfl) (.cint rfl))
                          (.c (S.move .none rfl (.tmp rfl rfl))
                          (.c (S.skip rfl rfl rfl (by first | rfl | exact decide_eq_true (by omega) | exact decide_eq_false (by omega) | (simp; done) | (simp; omega)) rfl)
                          (.c (S.skip rfl rfl rfl (by first | rfl | exact decide_eq_true (by omega) | exact decide_eq_false (by omega) | (simp; done) | (simp; omega)) rfl)
                          (.c (S.skip rfl rfl rfl (by first | rfl | exact decide_eq_true (by omega) | exact decide_eq_false (by omega) | (simp; done) | (simp; omega)) rfl)
                          (.c (S.skip rfl rfl rfl (by first | rfl | exact decide_eq_true (by omega) | exact decide_eq_false (by omega) | (simp; done) | (simp; omega)) rfl)
                          (.c (S.skipU rfl rfl rfl rfl)
                          (.c (S.skipU rfl rfl rfl rfl)
                          (.c (S.skip rfl rfl rfl (by first | rfl | exact decide_eq_true (by omega) | exact decide_eq_false (by omega) | (simp; done) | (simp; omega)) rfl)
                          (.c (S.pickF .none rfl (.tmp rfl rfl) .cbool (by first | rfl | exact decide_eq_true (by omega) | exact decide_eq_false (by omega) | (simp; done) | (simp; omega)))
                          (.c (S.move .none rfl (.tmp rfl rfl))
                          (.c (S.move (.yes rfl rfl rfl (by first | rfl | exact decide_eq_true (by omega) | exact decide_eq_false (by omega) | (simp; done) | (simp; omega))) rfl (.tmp rfl rfl))
                          (.c (S.eql (.yes rfl rfl rfl (by first | rfl | exact decide_eq_true (by omega) | exact decide_eq_false (by omega) | (simp; done) | (simp; omega))) rfl (.tmp rfl rfl) (.cint rfl))
                          (.c (S.move (.yes rfl rfl rfl (by first | rfl | exact decide_eq_true (by omega) | exact decide_eq_false (by omega) | (simp; done) | (simp; omega))) rfl (.tmp rfl rfl))
                          (.c (S.move (.yes rfl rfl rfl (by first | rfl | exact decide_eq_true (by omega) | exact decide_eq_false (by omega) | (simp; done) | (simp; omega))) rfl (.tmp rfl rfl))
                          (.c (S.neq (.yes rfl rfl rfl (by first | rfl | exact decide_eq_true (by omega) | exact decide_eq_false (by omega) | (simp; done) | (simp; omega))) rfl (.tmp rfl rfl) (.cint rfl))
                          (.c (S.move (.yes rfl rfl rfl (by first | rfl | exact decide_eq_true (by omega) | exact decide_eq_false (by omega) | (simp; done) | (simp; omega))) rfl (.tmp rfl rfl))
                          (.c (S.move (.yes rfl rfl rfl (by first | rfl | exact decide_eq_true (by omega) | exact decide_eq_false (by omega) | (simp; done) | (simp; omega))) rfl (.tmp rfl rfl))
                          (.c (S.move (.yes rfl rfl rfl (by first | rfl | exact decide_eq_true (by omega) | exact decide_eq_false (by omega) | (simp; done) | (simp; omega))) rfl (.tmp rfl rfl))
                          (.c (S.move (.yes rfl rfl rfl (by first | rfl | exact decide_eq_true (by omega) | exact decide_eq_false (by omega) | (simp; done) | (simp; omega))) rfl (.tmp rfl rfl))
                          (.c (S.call (ref9_Starts (by omega)) Tryz.call41 (.yes rfl rfl rfl (by first | rfl | exact decide_eq_true (by omega) | exact decide_eq_false (by omega) | (simp; done) | (simp; omega))) rfl (.cons (.tmp rfl rfl) .nil) rfl)
                          (.c (S.bloadN ti46 (.yes rfl rfl rfl (by first | rfl | exact decide_eq_true (by omega) | exact decide_eq_false (by omega) | (simp; done) | (simp; omega))) rfl (.tmp rfl rfl) rfl rfl rfl rfl)
                          (.c (S.move (.yes rfl rfl rfl (by first | rfl | exact decide_eq_true (by omega) | exact decide_eq_false (by omega) | (simp; done) | (simp; omega))) rfl (.tmp rfl rfl))
                          (.c (S.call (ref9_Earliest (l := l) (b := l.map (·.start)) hml (by omega) hB9 hxB hxp) Tryz.call43 (.yes rfl rfl rfl (by first | rfl | exact decide_eq_true (by omega) | exact decide_eq_false (by omega) | (simp; done) | (simp; omega))) rfl (.cons (.tmp rfl rfl) (.cons (.tmp rfl rfl) (.cons (.tmp rfl rfl) (.cons (.tmp rfl rfl) .nil)))) rfl)
                          (.c (S.neq (.yes rfl rfl rfl (by first | rfl | exact decide_eq_true (by omega) | exact decide_eq_false (by omega) | (simp; done) | (simp; omega))) rfl (.tmp rfl rfl) (.tmp rfl rfl))
                          (.c (S.pickF (.yes rfl rfl rfl (by first | rfl | exact decide_eq_true (by omega) | exact decide_eq_false (by omega) | (simp; done) | (simp; omega))) rfl (.tmp rfl rfl) (.tmp rfl rfl) (by first | rfl | exact decide_eq_true (by omega) | exact decide_eq_false (by omega) | (simp; done) | (simp; omega)))
                          (.c (S.pickT (.yes rfl rfl rfl (by first | rfl | exact decide_eq_true (by omega) | exact decide_eq_false (by omega) | (simp; done) | (simp; omega))) rfl (.tmp rfl rfl) (.tmp rfl rfl) (by first | rfl | exact decide_eq_true (by omega) | exact decide_eq_false (by omega) | (simp; done) | (simp; omega)))
                          (.c (S.pickF .none rfl (.tmp rfl rfl) (.tmp rfl rfl) (by first | rfl | exact decide_eq_true (by omega) | exact decide_eq_false (by omega) | (simp; done) | (simp; omega)))
                          .nil))))))))))))))))))))))))))))) (by kernel_rfl) ?_
                        refine Ab.D.code ?_
                        refine OK.condD rfl rfl (fun c163 => ?_) (fun c163 => ?_)
                        ·
                          first | exact absurd c163 (by decide) | (rw [hT, hzs] at c163; exact absurd rfl c163)
                        ·
                          refine OK.skip ?_
                          refine Ab.D.code ?_
                          refine OK.seq ?_
                          refine OK.seq ?_
                          refine OK.reg ?_
                          refine RK.c (S.move .none rfl (.tmp rfl rfl)) ?_
                          refine RK.c (S.neq .none rfl (.tmp rfl rfl) (.cint rfl)) ?_
                          refine RK.nil ?_
                          refine Ab.D.code ?_
                          refine OK.condD rfl rfl (fun c165 => ?_) (fun c165 => ?_)
                          ·
                            have hPr : placedE l peak = peakE peak := by unfold placedE; rw [if_neg (by omega), if_pos c165]
                            rw [if_neg (show ¬ placedE l peak = 0 by omega)]
                            refine OK.seq ?_
                            refine OK.reg ?_
                            refine RK.c (S.move .none rfl (.tmp rfl rfl)) ?_
                            refine RK.c (S.move .none rfl (.tmp rfl rfl)) ?_
                            refine RK.c (S.eql .none rfl (.tmp rfl rfl) (.tmp rfl rfl)) ?_
                            refine RK.c (S.move .none rfl (.tmp rfl rfl)) ?_
                            refine RK.splitD (t := 169) rfl (fun g169 => ?_) (fun g169 => ?_)
                            ·
                              refine RK.c (S.move (.yes rfl rfl rfl rfl) rfl (.tmp rfl rfl)) ?_
                              refine RK.c (S.lenM si30 (.yes rfl rfl rfl rfl) rfl (.tmp rfl rfl)) ?_
                              refine RK.c (S.eql (.yes rfl rfl rfl rfl) rfl (.tmp rfl rfl) (.cint rfl)) ?_
                              refine RK.c (S.pickT .none rfl (.tmp rfl rfl) (.tmp rfl rfl) rfl) ?_
                              refine RK.c (S.assign .none rfl (.tmp rfl rfl)) ?_
                              refine RK.nil ?_
                              refine Ab.D.code ?_
                              refine OK.ret (Ret.r1 (.tmp rfl rfl (.c (.same rfl) rfl) rfl) ?_)
                              first | rfl | exact ret_dT rfl | exact ret_dT trivial | (refine ret_dT ?_; omega)
                            ·
                              exact absurd hPr g169
                          ·
                            have hP0 : peakE peak = 0 := Decidable.not_not.1 c165
                            have hPl : placedE l peak = if greatR l peak = true then 12 else 0 := by unfold placedE; rw [if_neg (by omega), if_neg (by omega)]; rfl
                            refine OK.skip ?_
                            refine Ab.D.code ?_
                            refine OK.seq ?_
                            refine OK.reg ?_
                            refine RK.c (S.move .none rfl (.tmp rfl rfl)) ?_
                            refine RK.c (S.move .none rfl (.tmp rfl rfl)) ?_
                            refine RK.c (S.call (ref9_Placed hl hB) Tryz.call44 .none rfl (.cons (.tmp rfl rfl) (.cons (.tmp rfl rfl) .nil)) rfl) ?_
                            refine RK.c (S.move .none rfl (.tmp rfl rfl)) ?_
                            refine RK.c (S.extract .none rfl (.tmp rfl rfl) rfl rfl) ?_
                            refine RK.c (S.extract .none rfl (.tmp rfl rfl) rfl rfl) ?_
                            refine RK.c (S.assign .none rfl (.tmp rfl rfl)) ?_
                            refine RK.c (S.assign .none rfl (.tmp rfl rfl)) ?_
                            refine RK.nil ?_
                            refine Ab.D.code ?_
                            refine OK.seq ?_
                            refine OK.reg ?_
                            refine RK.c (S.move .none rfl (.tmp rfl rfl)) ?_
                            refine RK.c (S.move .none rfl (.tmp rfl rfl)) ?_
                            refine RK.split (t := 181) rfl (fun g181 => ?_) (fun g181 => ?_)
                            ·
                              have hg : greatR l peak = false := by simpa using g181
                              rw [hg, if_neg (by decide)] at hPl
                              rw [if_pos hPl]
                              refine RK.c (S.move (.yes rfl rfl rfl rfl) rfl (.tmp rfl rfl)) ?_
                              refine RK.c (S.eql (.yes rfl rfl rfl rfl) rfl (.tmp rfl rfl) (.cint rfl)) ?_
                              refine RK.c (S.pickT .none rfl (.tmp rfl rfl) (.tmp rfl rfl) rfl) ?_
                              refine RK.c (S.move .none rfl (.tmp rfl rfl)) ?_
                              refine RK.splitD (t := 185) rfl (fun g185 => ?_) (fun g185 => ?_)
                              ·
                                refine RK.c (S.move (.yes rfl rfl rfl rfl) rfl (.tmp rfl rfl)) ?_
                                refine RK.c (S.move (.yes rfl rfl rfl rfl) rfl (.tmp rfl rfl)) ?_
                                refine RK.c (S.call (base_Ints) Tryz.call24 (.yes rfl rfl rfl rfl) rfl (.cons (.tmp rfl rfl) (.cons (.tmp rfl rfl) .nil)) rfl) ?_
                                refine RK.c (S.pickT .none rfl (.tmp rfl rfl) (.tmp rfl rfl) rfl) ?_
                                refine RK.c (S.move .none rfl (.tmp rfl rfl)) ?_
                                refine RK.splitD (t := 190) rfl (fun g190 => ?_) (fun g190 => ?_)
                                ·
                                  refine RK.c (S.skip rfl rfl rfl rfl rfl) ?_
                                  refine RK.c (S.skip rfl rfl rfl rfl rfl) ?_
                                  refine RK.c (S.skip rfl rfl rfl rfl rfl) ?_
                                  refine RK.c (S.skipU rfl rfl rfl rfl) ?_
                                  refine RK.c (S.skipU rfl rfl rfl rfl) ?_
                                  refine RK.c (S.skip rfl rfl rfl rfl rfl) ?_
                                  refine RK.c (S.skip rfl rfl rfl rfl rfl) ?_
                                  refine RK.c (S.skipU rfl rfl rfl rfl) ?_
                                  refine RK.c (S.skipU rfl rfl rfl rfl) ?_
                                  refine RK.c (S.skipU rfl rfl rfl rfl) ?_
                                  refine RK.c (S.skip rfl rfl rfl rfl rfl) ?_
                                  refine RK.c (S.pickT .none rfl (.tmp rfl rfl) .cbool rfl) ?_
                                  refine RK.c (S.assign .none rfl (.tmp rfl rfl)) ?_
                                  refine RK.nil ?_
                                  refine Ab.D.code ?_
                                  refine OK.ret (Ret.r1 (.tmp rfl rfl (.c (.same rfl) rfl) rfl) ?_)
                                  first | rfl | exact ret_dT rfl | exact ret_dT trivial | (refine ret_dT ?_; omega)
                                ·
                                  first | exact absurd rfl g190 | (rw [hg] at g190; exact absurd rfl g190)
                              ·
                                exact absurd hPl g185
                            ·
                              have hg : greatR l peak = true := by simpa using g181
                              rw [hg, if_pos rfl] at hPl
                              rw [if_neg (show ¬ placedE l peak = 0 by omega)]
                              refine RK.c (S.skip rfl rfl rfl rfl rfl) ?_
                              refine RK.c (S.skip rfl rfl rfl rfl rfl) ?_
                              refine RK.c (S.pickF .none rfl (.tmp rfl rfl) .cbool rfl) ?_
                              refine RK.c (S.move .none rfl (.tmp rfl rfl)) ?_
                              refine RK.c (S.skip rfl rfl rfl rfl rfl) ?_
                              refine RK.c (S.skip rfl rfl rfl rfl rfl) ?_
                              refine RK.c (S.skip rfl rfl rfl rfl rfl) ?_
                              refine RK.c (S.pickF .none rfl (.tmp rfl rfl) .cbool rfl) ?_
                              refine RK.c (S.move .none rfl (.tmp rfl rfl)) ?_
                              refine RK.c (S.move (.yes rfl rfl rfl rfl) rfl (.tmp rfl rfl)) ?_
                              refine RK.c (S.not (.yes rfl rfl rfl rfl) rfl (.tmp rfl rfl)) ?_
                              refine RK.c (S.move (.yes rfl rfl rfl rfl) rfl (.tmp rfl rfl)) ?_
                              refine RK.split (t := 193) rfl (fun g193 => ?_) (fun g193 => ?_)
                              ·
                                refine RK.c (S.move (.yes rfl rfl rfl rfl) rfl (.tmp rfl rfl)) ?_
                                refine RK.c (S.eql (.yes rfl rfl rfl rfl) rfl (.tmp rfl rfl) (.cint rfl)) ?_
                                refine RK.c (S.pickT (.yes rfl rfl rfl rfl) rfl (.tmp rfl rfl) (.tmp rfl rfl) rfl) ?_
                                refine RK.c (S.move (.yes rfl rfl rfl rfl) rfl (.tmp rfl rfl)) ?_
                                refine RK.splitD (t := 197) rfl (fun g197 => ?_) (fun g197 => ?_)
                                ·
                                  refine RK.c (S.move (.yes rfl rfl rfl rfl) rfl (.tmp rfl rfl)) ?_
                                  refine RK.c (S.lenM si30 (.yes rfl rfl rfl rfl) rfl (.tmp rfl rfl)) ?_
                                  refine RK.c (S.eql (.yes rfl rfl rfl rfl) rfl (.tmp rfl rfl) (.cint rfl)) ?_
                                  refine RK.c (S.pickT (.yes rfl rfl rfl rfl) rfl (.tmp rfl rfl) (.tmp rfl rfl) rfl) ?_
                                  refine RK.c (S.pickF .none rfl (.tmp rfl rfl) (.tmp rfl rfl) rfl) ?_
                                  refine RK.c (S.assign .none rfl (.tmp rfl rfl)) ?_
                                  refine RK.nil ?_
                                  refine Ab.D.code ?_
                                  refine OK.ret (Ret.r1 (.tmp rfl rfl (.c (.same rfl) rfl) rfl) ?_)
                                  first | rfl | exact ret_dT rfl | exact ret_dT trivial | (refine ret_dT ?_; omega)
                                ·
                                  exact absurd hPl g197
                              ·
                                first | (rw [hg] at g193; cases g193) | (simp at g193; rw [hg] at g193; cases g193)
                    ·
                      refine OK.skip ?_
                      refine Ab.D.code ?_
                      refine OK.seq ?_
                      refine OK.seq ?_
                      by_cases g137 : earlForE l x peak ≠ 0
                      ·
                        refine OK.regionDraw follows (.c (S.move .none rfl (.tmp rfl rfl))
                          (.c (S.neq .none rfl (.tmp rfl rfl) (.cint rfl))
                          (.c (S.move .none rfl (.tmp rfl rfl))
                          (.c (S.move (.yes rfl rfl rfl (by first | rfl | exact decide_eq_true (by omega) | exact decide_eq_false (by omega) | (simp; done) | (simp; omega))) rfl (.tmp rfl rfl))
                          (.c (S.move (.yes rfl rfl rfl (by first | rfl | exact decide_eq_true (by omega) | exact decide_eq_false (by omega) | (simp; done) | (simp; omega))) rfl (.tmp rfl rfl))
                          (.c (S.neq (.yes rfl rfl rfl (by first | rfl | exact decide_eq_true (by omega) | exact decide_eq_false (by omega) | (simp; done) | (simp; omega))) rfl (.tmp rfl rfl) (.tmp rfl rfl))
                          (.c (S.move (.yes rfl rfl rfl (by first | rfl | exact decide_eq_true (by omega) | exact decide_eq_false (by omega) | (simp; done) | (simp; omega))) rfl (.tmp rfl rfl))
                          (.c (S.move (.yes rfl rfl rfl (by first | rfl | exact decide_eq_true (by omega) | exact decide_eq_false (by omega) | (simp; done) | (simp; omega))) rfl (.tmp rfl rfl))
                          (.c (S.neq (.yes rfl rfl rfl (by first | rfl | exact decide_eq_true (by omega) | exact decide_eq_false (by omega) | (simp; done) | (simp; omega))) rfl (.tmp rfl rfl) (.cint rfl))
                          (.c (S.pickF (.yes rfl rfl rfl (by first | rfl | exact decide_eq_true (by omega) | exact decide_eq_false (by omega) | (simp; done) | (simp; omega))) rfl (.tmp rfl rfl) (.tmp rfl rfl) (by first | rfl | exact decide_eq_true (by omega) | exact decide_eq_false (by omega) | (simp; done) | (simp; omega)))
                          (.c (S.pickT .none rfl (.tmp rfl rfl) (.tmp rfl rfl) (by first | rfl | exact decide_eq_true (by omega) | exact decide_eq_false (by omega) | (simp; done) | (simp; omega)))
                          (.c (S.move .none rfl (.tmp rfl rfl))
                          (.c (S.move (.yes rfl rfl rfl (by first | rfl | exact decide_eq_true (by omega) | exact decide_eq_false (by omega) | (simp; done) | (simp; omega))) rfl (.tmp rfl rfl))
                          (.c (S.eql (.yes rfl rfl rfl (by first | rfl | exact decide_eq_true (by omega) | exact decide_eq_false (by omega) | (simp; done) | (simp; omega))) rfl (.tmp rfl rfl) (.cint rfl))
                          (.c (S.move (.yes rfl rfl rfl (by first | rfl | exact decide_eq_true (by omega) | exact decide_eq_false (by omega) | (simp; done) | (simp; omega))) rfl (.tmp rfl rfl))
                          (.c (S.skip rfl rfl rfl (by first | rfl | exact decide_eq_true (by omega) | exact decide_eq_false (by omega) | (simp; done) | (simp; omega)) rfl)
                          (.c (S.skip rfl rfl rfl (by first | rfl | exact decide_eq_true (by omega) | exact decide_eq_false (by omega) | (simp; done) | (simp; omega)) rfl)
                          (.c (S.skip rfl rfl rfl (by first | rfl | exact decide_eq_true (by omega) | exact decide_eq_false (by omega) | (simp; done) | (simp; omega)) rfl)
                          (.c (S.skipU rfl rfl rfl rfl)
                          (.c (S.skipU rfl rfl rfl rfl)
                          (.c (S.skipU rfl rfl rfl rfl)
                          (.c (S.skipU rfl rfl rfl rfl)
                          (.c (S.skipU rfl rfl rfl rfl)
                          (.c (S.skipU rfl rfl rfl rfl)
                          (.c (S.skipU rfl rfl rfl rfl)
                          (.c (S.skipU rfl rfl rfl rfl)
                          (.c (S.skip rfl rfl rfl (by first | rfl | exact decide_eq_true (by omega) | exact decide_eq_false (by omega) | (simp; done) | (simp; omega)) rfl)
                          (.c (S.pickF (.yes rfl rfl rfl (by first | rfl | exact decide_eq_true (by omega) | exact decide_eq_false (by omega) | (simp; done) | (simp; omega))) rfl (.tmp rfl rfl) .cbool (by first | rfl | exact decide_eq_true (by omega) | exact decide_eq_false (by omega) | (simp; done) | (simp; omega)))
                          (.c (S.pickF .none rfl (.tmp rfl rfl) (.tmp rfl rfl) (by first | rfl | exact decide_eq_true (by omega) | exact decide_eq_false (by omega) | (simp; done) | (simp; omega)))
                          .nil))))))))))))))))))))))))))))) (by kernel_rfl) ?_
                        refine Ab.D.code ?_
                        refine OK.condF rfl rfl rfl ?_
                        refine OK.skip ?_
                        refine Ab.D.code ?_
                        refine OK.seq ?_
                        refine OK.seq ?_
                        refine OK.reg ?_
                        refine RK.c (S.move .none rfl (.tmp rfl rfl)) ?_
                        refine RK.c (S.neq .none rfl (.tmp rfl rfl) (.cint rfl)) ?_
                        refine RK.nil ?_
                        refine Ab.D.code ?_
                        refine OK.condD rfl rfl (fun c165 => ?_) (fun c165 => ?_)
                        ·
                          have hPr : placedE l peak = peakE peak := by unfold placedE; rw [if_neg (by omega), if_pos c165]
                          rw [if_neg (show ¬ placedE l peak = 0 by omega)]
                          refine OK.seq ?_
                          refine OK.reg ?_
                          refine RK.c (S.move .none rfl (.tmp rfl rfl)) ?_
                          refine RK.c (S.move .none rfl (.tmp rfl rfl)) ?_
                          refine RK.c (S.eql .none rfl (.tmp rfl rfl) (.tmp rfl rfl)) ?_
                          refine RK.c (S.move .none rfl (.tmp rfl rfl)) ?_
                          refine RK.splitD (t := 169) rfl (fun g169 => ?_) (fun g169 => ?_)
                          ·
                            refine RK.c (S.move (.yes rfl rfl rfl rfl) rfl (.tmp rfl rfl)) ?_
                            refine RK.c (S.lenM si30 (.yes rfl rfl rfl rfl) rfl (.tmp rfl rfl)) ?_
                            refine RK.c (S.eql (.yes rfl rfl rfl rfl) rfl (.tmp rfl rfl) (.cint rfl)) ?_
                            refine RK.c (S.pickT .none rfl (.tmp rfl rfl) (.tmp rfl rfl) rfl) ?_
                            refine RK.c (S.assign .none rfl (.tmp rfl rfl)) ?_
                            refine RK.nil ?_
                            refine Ab.D.code ?_
                            refine OK.ret (Ret.r1 (.tmp rfl rfl (.c (.same rfl) rfl) rfl) ?_)
                            first | rfl | exact ret_dT rfl | exact ret_dT trivial | (refine ret_dT ?_; omega)
                          ·
                            exact absurd hPr g169
                        ·
                          have hP0 : peakE peak = 0 := Decidable.not_not.1 c165
                          have hPl : placedE l peak = if greatR l peak = true then 12 else 0 := by unfold placedE; rw [if_neg (by omega), if_neg (by omega)]; rfl
                          refine OK.skip ?_
                          refine Ab.D.code ?_
                          refine OK.seq ?_
                          refine OK.reg ?_
                          refine RK.c (S.move .none rfl (.tmp rfl rfl)) ?_
                          refine RK.c (S.move .none rfl (.tmp rfl rfl)) ?_
                          refine RK.c (S.call (ref9_Placed hl hB) Tryz.call44 .none rfl (.cons (.tmp rfl rfl) (.cons (.tmp rfl rfl) .nil)) rfl) ?_
                          refine RK.c (S.move .none rfl (.tmp rfl rfl)) ?_
                          refine RK.c (S.extract .none rfl (.tmp rfl rfl) rfl rfl) ?_
                          refine RK.c (S.extract .none rfl (.tmp rfl rfl) rfl rfl) ?_
                          refine RK.c (S.assign .none rfl (.tmp rfl rfl)) ?_
                          refine RK.c (S.assign .none rfl (.tmp rfl rfl)) ?_
                          refine RK.nil ?_
                          refine Ab.D.code ?_
                          refine OK.seq ?_
                          refine OK.reg ?_
                          refine RK.c (S.move .none rfl (.tmp rfl rfl)) ?_
                          refine RK.c (S.move .none rfl (.tmp rfl rfl)) ?_
                          refine RK.split (t := 181) rfl (fun g181 => ?_) (fun g181 => ?_)
                          ·
                            have hg : greatR l peak = false := by simpa using g181
                            rw [hg, if_neg (by decide)] at hPl
                            rw [if_pos hPl]
                            refine RK.c (S.move (.yes rfl rfl rfl rfl) rfl (.tmp rfl rfl)) ?_
                            refine RK.c (S.eql (.yes rfl rfl rfl rfl) rfl (.tmp rfl rfl) (.cint rfl)) ?_
                            refine RK.c (S.pickT .none rfl (.tmp rfl rfl) (.tmp rfl rfl) rfl) ?_
                            refine RK.c (S.move .none rfl (.tmp rfl rfl)) ?_
                            refine RK.splitD (t := 185) rfl (fun g185 => ?_) (fun g185 => ?_)
                            ·
                              refine RK.c (S.move (.yes rfl rfl rfl rfl) rfl (.tmp rfl rfl)) ?_
                              refine RK.c (S.move (.yes rfl rfl rfl rfl) rfl (.tmp rfl rfl)) ?_
                              refine RK.c (S.call (base_Ints) Tryz.call24 (.yes rfl rfl rfl rfl) rfl (.cons (.tmp rfl rfl) (.cons (.tmp rfl rfl) .nil)) rfl) ?_
                              refine RK.c (S.pickT .none rfl (.tmp rfl rfl) (.tmp rfl rfl) rfl) ?_
                              refine RK.c (S.move .none rfl (.tmp rfl rfl)) ?_
                              refine RK.splitD (t := 190) rfl (fun g190 => ?_) (fun g190 => ?_)
                              ·
                                refine RK.c (S.skip rfl rfl rfl rfl rfl) ?_
                                refine RK.c (S.skip rfl rfl rfl rfl rfl) ?_
                                refine RK.c (S.skip rfl rfl rfl rfl rfl) ?_
                                refine RK.c (S.skipU rfl rfl rfl rfl) ?_
                                refine RK.c (S.skipU rfl rfl rfl rfl) ?_
                                refine RK.c (S.skip rfl rfl rfl rfl rfl) ?_
                                refine RK.c (S.skip rfl rfl rfl rfl rfl) ?_
                                refine RK.c (S.skipU rfl rfl rfl rfl) ?_
                                refine RK.c (S.skipU rfl rfl rfl rfl) ?_
                                refine RK.c (S.skipU rfl rfl rfl rfl) ?_
                                refine RK.c (S.skip rfl rfl rfl rfl rfl) ?_
                                refine RK.c (S.pickT .none rfl (.tmp rfl rfl) .cbool rfl) ?_
                                refine RK.c (S.assign .none rfl (.tmp rfl rfl)) ?_
                                refine RK.nil ?_
                                refine Ab.D.code ?_
                                refine OK.ret (Ret.r1 (.tmp rfl rfl (.c (.same rfl) rfl) rfl) ?_)
                                first | rfl | exact ret_dT rfl | exact ret_dT trivial | (refine ret_dT ?_; omega)
                              ·
                                first | exact absurd rfl g190 | (rw [hg] at g190; exact absurd rfl g190)
                            ·
                              exact absurd hPl g185
                          ·
                            have hg : greatR l peak = true := by simpa using g181
                            rw [hg, if_pos rfl] at hPl
                            rw [if_neg (show ¬ placedE l peak = 0 by omega)]
                            refine RK.c (S.skip rfl rfl rfl rfl rfl) ?_
                            refine RK.c (S.skip rfl rfl rfl rfl rfl) ?_
                            refine RK.c (S.pickF .none rfl (.tmp rfl rfl) .cbool rfl) ?_
                            refine RK.c (S.move .none rfl (.tmp rfl rfl)) ?_
                            refine RK.c (S.skip rfl rfl rfl rfl rfl) ?_
                            refine RK.c (S.skip rfl rfl rfl rfl rfl) ?_
                            refine RK.c (S.skip rfl rfl rfl rfl rfl) ?_
                            refine RK.c (S.pickF .none rfl (.tmp rfl rfl) .cbool rfl) ?_
                            refine RK.c (S.move .none rfl (.tmp rfl rfl)) ?_
                            refine RK.c (S.move (.yes rfl rfl rfl rfl) rfl (.tmp rfl rfl)) ?_
                            refine RK.c (S.not (.yes rfl rfl rfl rfl) rfl (.tmp rfl rfl)) ?_
                            refine RK.c (S.move (.yes rfl rfl rfl rfl) rfl (.tmp rfl rfl)) ?_
                            refine RK.split (t := 193) rfl (fun g193 => ?_) (fun g193 => ?_)
                            ·
                              refine RK.c (S.move (.yes rfl rfl rfl rfl) rfl (.tmp rfl rfl)) ?_
                              refine RK.c (S.eql (.yes rfl rfl rfl rfl) rfl (.tmp rfl rfl) (.cint rfl)) ?_
                              refine RK.c (S.pickT (.yes rfl rfl rfl rfl) rfl (.tmp rfl rfl) (.tmp rfl rfl) rfl) ?_
                              refine RK.c (S.move (.yes rfl rfl rfl rfl) rfl (.tmp rfl rfl)) ?_
                              refine RK.splitD (t := 197) rfl (fun g197 => ?_) (fun g197 => ?_)
                              ·
                                refine RK.c (S.move (.yes rfl rfl rfl rfl) rfl (.tmp rfl rfl)) ?_
                                refine RK.c (S.lenM si30 (.yes rfl rfl rfl rfl) rfl (.tmp rfl rfl)) ?_
                                refine RK.c (S.eql (.yes rfl rfl rfl rfl) rfl (.tmp rfl rfl) (.cint rfl)) ?_
                                refine RK.c (S.pickT (.yes rfl rfl rfl rfl) rfl (.tmp rfl rfl) (.tmp rfl rfl) rfl) ?_
                                refine RK.c (S.pickF .none rfl (.tmp rfl rfl) (.tmp rfl rfl) rfl) ?_
                                refine RK.c (S.assign .none rfl (.tmp rfl rfl)) ?_
                                refine RK.nil ?_
                                refine Ab.D.code ?_
                                refine OK.ret (Ret.r1 (.tmp rfl rfl (.c (.same rfl) rfl) rfl) ?_)
                                first | rfl | exact ret_dT rfl | exact ret_dT trivial | (refine ret_dT ?_; omega)
                              ·
                                exact absurd hPl g197
                            ·
                              first | (rw [hg] at g193; cases g193) | (simp at g193; rw [hg] at g193; cases g193)
                      ·
                        have hx0 : runE x = 0 := by omega
                        have hxB := (runE_0 hx0).mono (show (100000 : Int) ≤ 100000000 by omega)
                        have hxp : x.power ≤ peak := by omega
                        have hT : earlForT l x peak = earlT l x peak := if_pos (by omega)
                        refine OK.regionDraw follows (.c (S.move .none rfl (.tmp rfl rfl))
                          (.c (S.neq .none rfl (.tmp rfl rfl) (.cint rfl))
                          (.c (S.move .none rfl (.tmp rfl rfl))
                          (.c (S.skip rfl rfl rfl (by first | rfl | exact decide_eq_true (by omega) | exact decide_eq_false (by omega) | (simp; done) | (simp; omega)) rfl)
                          (.c (S.skip rfl rfl rfl (by first | rfl | exact decide_eq_true (by omega) | exact decide_eq_false (by omega) | (simp; done) | (simp; omega)) rfl)
                          (.c (S.skip rfl rfl rfl (by first | rfl | exact decide_eq_true (by omega) | exact decide_eq_false (by omega) | (simp; done) | (simp; omega)) rfl)
                          (.c (S.skip rfl rfl rfl (by first | rfl | exact decide_eq_true (by omega) | exact decide_eq_false (by omega) | (simp; done) | (simp; omega)) rfl)
                          (.c (S.skipU rfl rfl rfl rfl)
                          (.c (S.skipU rfl rfl rfl rfl)
                          (.c (S.skip rfl rfl rfl (by first | rfl | exact decide_eq_true (by omega) | exact decide_eq_false (by omega) | (simp; done) | (simp; omega)) rfl)
                          (.c (S.pickF .none rfl (.tmp rfl rfl) .cbool (by first | rfl | exact decide_eq_true (by omega) | exact decide_eq_false (by omega) | (simp; done) | (simp; omega)))
                          (.c (S.move .none rfl (.tmp rfl rfl))
                          (.c (S.move (.yes rfl rfl rfl (by first | rfl | exact decide_eq_true (by omega) | exact decide_eq_false (by omega) | (simp; done) | (simp; omega))) rfl (.tmp rfl rfl))
                          (.c (S.eql (.yes rfl rfl rfl (by first | rfl | exact decide_eq_true (by omega) | exact decide_eq_false (by omega) | (simp; done) | (simp; omega))) rfl (.tmp rfl rfl) (.cint rfl))
                          (.c (S.move (.yes rfl rfl rfl (by first | rfl | exact decide_eq_true (by omega) | exact decide_eq_false (by omega) | (simp; done) | (simp; omega))) rfl (.tmp rfl rfl))
                          (.c (S.move (.yes rfl rfl rfl (by first | rfl | exact decide_eq_true (by omega) | exact decide_eq_false (by omega) | (simp; done) | (simp; omega))) rfl (.tmp rfl rfl))
                          (.c (S.neq (.yes rfl rfl rfl (by first | rfl | exact decide_eq_true (by omega) | exact decide_eq_false (by omega) | (simp; done) | (simp; omega))) rfl (.tmp rfl rfl) (.cint rfl))
                          (.c (S.move (.yes rfl rfl rfl (by first | rfl | exact decide_eq_true (by omega) | exact decide_eq_false (by omega) | (simp; done) | (simp; omega))) rfl (.tmp rfl rfl))
                          (.c (S.move (.yes rfl rfl rfl (by first | rfl | exact decide_eq_true (by omega) | exact decide_eq_false (by omega) | (simp; done) | (simp; omega))) rfl (.tmp rfl rfl))
                          (.c (S.move (.yes rfl rfl rfl (by first | rfl | exact decide_eq_true (by omega) | exact decide_eq_false (by omega) | (simp; done) | (simp; omega))) rfl (.tmp rfl rfl))
                          (.c (S.move (.yes rfl rfl rfl (by first | rfl | exact decide_eq_true (by omega) | exact decide_eq_false (by omega) | (simp; done) | (simp; omega))) rfl (.tmp rfl rfl))
                          (.c (S.call (ref9_Starts (by omega)) Tryz.call41 (.yes rfl rfl rfl (by first | rfl | exact decide_eq_true (by omega) | exact decide_eq_false (by omega) | (simp; done) | (simp; omega))) rfl (.cons (.tmp rfl rfl) .nil) rfl)
                          (.c (S.bloadN ti46 (.yes rfl rfl rfl (by first | rfl | exact decide_eq_true (by omega) | exact decide_eq_false (by omega) | (simp; done) | (simp; omega))) rfl (.tmp rfl rfl) rfl rfl rfl rfl)
                          (.c (S.move (.yes rfl rfl rfl (by first | rfl | exact decide_eq_true (by omega) | exact decide_eq_false (by omega) | (simp; done) | (simp; omega))) rfl (.tmp rfl rfl))
                          (.c (S.call (ref9_Earliest (l := l) (b := l.map (·.start)) hml (by omega) hB9 hxB hxp) Tryz.call43 (.yes rfl rfl rfl (by first | rfl | exact decide_eq_true (by omega) | exact decide_eq_false (by omega) | (simp; done) | (simp; omega))) rfl (.cons (.tmp rfl rfl) (.cons (.tmp rfl rfl) (.cons (.tmp rfl rfl) (.cons (.tmp rfl rfl) .nil)))) rfl)
                          (.c (S.neq (.yes rfl rfl rfl (by first | rfl | exact decide_eq_true (by omega) | exact decide_eq_false (by omega) | (simp; done) | (simp; omega))) rfl (.tmp rfl rfl) (.tmp rfl rfl))
                          (.c (S.pickF (.yes rfl rfl rfl (by first | rfl | exact decide_eq_true (by omega) | exact decide_eq_false (by omega) | (simp; done) | (simp; omega))) rfl (.tmp rfl rfl) (.tmp rfl rfl) (by first | rfl | exact decide_eq_true (by omega) | exact decide_eq_false (by omega) | (simp; done) | (simp; omega)))
                          (.c (S.pickT (.yes rfl rfl rfl (by first | rfl | exact decide_eq_true (by omega) | exact decide_eq_false (by omega) | (simp; done) | (simp; omega))) rfl (.tmp rfl rfl) (.tmp rfl rfl) (by first | rfl | exact decide_eq_true (by omega) | exact decide_eq_false (by omega) | (simp; done) | (simp; omega)))
                          (.c (S.pickF .none rfl (.tmp rfl rfl) (.tmp rfl rfl) (by first | rfl | exact decide_eq_true (by omega) | exact decide_eq_false (by omega) | (simp; done) | (simp; omega)))
                          .nil))))))))))))))))))))))))))))) (by kernel_rfl) ?_
                        refine Ab.D.code ?_
                        refine OK.condD rfl rfl (fun c163 => ?_) (fun c163 => ?_)
                        ·
                          first | exact absurd c163 (by decide) | (rw [hT, hzs] at c163; exact absurd rfl c163)
                        ·
                          refine OK.skip ?_
                          refine Ab.D.code ?_
                          refine OK.seq ?_
                          refine OK.seq ?_
                          refine OK.reg ?_
                          refine RK.c (S.move .none rfl (.tmp rfl rfl)) ?_
                          refine RK.c (S.neq .none rfl (.tmp rfl rfl) (.cint rfl)) ?_
                          refine RK.nil ?_
                          refine Ab.D.code ?_
                          refine OK.condD rfl rfl (fun c165 => ?_) (fun c165 => ?_)
                          ·
                            have hPr : placedE l peak = peakE peak := by unfold placedE; rw [if_neg (by omega), if_pos c165]
                            rw [if_neg (show ¬ placedE l peak = 0 by omega)]
                            refine OK.seq ?_
                            refine OK.reg ?_
                            refine RK.c (S.move .none rfl (.tmp rfl rfl)) ?_
                            refine RK.c (S.move .none rfl (.tmp rfl rfl)) ?_
                            refine RK.c (S.eql .none rfl (.tmp rfl rfl) (.tmp rfl rfl)) ?_
                            refine RK.c (S.move .none rfl (.tmp rfl rfl)) ?_
                            refine RK.splitD (t := 169) rfl (fun g169 => ?_) (fun g169 => ?_)
                            ·
                              refine RK.c (S.move (.yes rfl rfl rfl rfl) rfl (.tmp rfl rfl)) ?_
                              refine RK.c (S.lenM si30 (.yes rfl rfl rfl rfl) rfl (.tmp rfl rfl)) ?_
                              refine RK.c (S.eql (.yes rfl rfl rfl rfl) rfl (.tmp rfl rfl) (.cint rfl)) ?_
                              refine RK.c (S.pickT .none rfl (.tmp rfl rfl) (.tmp rfl rfl) rfl) ?_
                              refine RK.c (S.assign .none rfl (.tmp rfl rfl)) ?_
                              refine RK.nil ?_
                              refine Ab.D.code ?_
                              refine OK.ret (Ret.r1 (.tmp rfl rfl (.c (.same rfl) rfl) rfl) ?_)
                              first | rfl | exact ret_dT rfl | exact ret_dT trivial | (refine ret_dT ?_; omega)
                            ·
                              exact absurd hPr g169
                          ·
                            have hP0 : peakE peak = 0 := Decidable.not_not.1 c165
                            have hPl : placedE l peak = if greatR l peak = true then 12 else 0 := by unfold placedE; rw [if_neg (by omega), if_neg (by omega)]; rfl
                            refine OK.skip ?_
                            refine Ab.D.code ?_
                            refine OK.seq ?_
                            refine OK.reg ?_
                            refine RK.c (S.move .none rfl (.tmp rfl rfl)) ?_
                            refine RK.c (S.move .none rfl (.tmp rfl rfl)) ?_
                            refine RK.c (S.call (ref9_Placed hl hB) Tryz.call44 .none rfl (.cons (.tmp rfl rfl) (.cons (.tmp rfl rfl) .nil)) rfl) ?_
                            refine RK.c (S.move .none rfl (.tmp rfl rfl)) ?_
                            refine RK.c (S.extract .none rfl (.tmp rfl rfl) rfl rfl) ?_
                            refine RK.c (S.extract .none rfl (.tmp rfl rfl) rfl rfl) ?_
                            refine RK.c (S.assign .none rfl (.tmp rfl rfl)) ?_
                            refine RK.c (S.assign .none rfl (.tmp rfl rfl)) ?_
                            refine RK.nil ?_
                            refine Ab.D.code ?_
                            refine OK.seq ?_
                            refine OK.reg ?_
                            refine RK.c (S.move .none rfl (.tmp rfl rfl)) ?_
                            refine RK.c (S.move .none rfl (.tmp rfl rfl)) ?_
                            refine RK.split (t := 181) rfl (fun g181 => ?_) (fun g181 => ?_)
                            ·
                              have hg : greatR l peak = false := by simpa using g181
                              rw [hg, if_neg (by decide)] at hPl
                              rw [if_pos hPl]
                              refine RK.c (S.move (.yes rfl rfl rfl rfl) rfl (.tmp rfl rfl)) ?_
                              refine RK.c (S.eql (.yes rfl rfl rfl rfl) rfl (.tmp rfl rfl) (.cint rfl)) ?_
                              refine RK.c (S.pickT .none rfl (.tmp rfl rfl) (.tmp rfl rfl) rfl) ?_
                              refine RK.c (S.move .none rfl (.tmp rfl rfl)) ?_
                              refine RK.splitD (t := 185) rfl (fun g185 => ?_) (fun g185 => ?_)
                              ·
                                refine RK.c (S.move (.yes rfl rfl rfl rfl) rfl (.tmp rfl rfl)) ?_
                                refine RK.c (S.move (.yes rfl rfl rfl rfl) rfl (.tmp rfl rfl)) ?_
                                refine RK.c (S.call (base_Ints) Tryz.call24 (.yes rfl rfl rfl rfl) rfl (.cons (.tmp rfl rfl) (.cons (.tmp rfl rfl) .nil)) rfl) ?_
                                refine RK.c (S.pickT .none rfl (.tmp rfl rfl) (.tmp rfl rfl) rfl) ?_
                                refine RK.c (S.move .none rfl (.tmp rfl rfl)) ?_
                                refine RK.splitD (t := 190) rfl (fun g190 => ?_) (fun g190 => ?_)
                                ·
                                  refine RK.c (S.skip rfl rfl rfl rfl rfl) ?_
                                  refine RK.c (S.skip rfl rfl rfl rfl rfl) ?_
                                  refine RK.c (S.skip rfl rfl rfl rfl rfl) ?_
                                  refine RK.c (S.skipU rfl rfl rfl rfl) ?_
                                  refine RK.c (S.skipU rfl rfl rfl rfl) ?_
                                  refine RK.c (S.skip rfl rfl rfl rfl rfl) ?_
                                  refine RK.c (S.skip rfl rfl rfl rfl rfl) ?_
                                  refine RK.c (S.skipU rfl rfl rfl rfl) ?_
                                  refine RK.c (S.skipU rfl rfl rfl rfl) ?_
                                  refine RK.c (S.skipU rfl rfl rfl rfl) ?_
                                  refine RK.c (S.skip rfl rfl rfl rfl rfl) ?_
                                  refine RK.c (S.pickT .none rfl (.tmp rfl rfl) .cbool rfl) ?_
                                  refine RK.c (S.assign .none rfl (.tmp rfl rfl)) ?_
                                  refine RK.nil ?_
                                  refine Ab.D.code ?_
                                  refine OK.ret (Ret.r1 (.tmp rfl rfl (.c (.same rfl) rfl) rfl) ?_)
                                  first | rfl | exact ret_dT rfl | exact ret_dT trivial | (refine ret_dT ?_; omega)
                                ·
                                  first | exact absurd rfl g190 | (rw [hg] at g190; exact absurd rfl g190)
                              ·
                                exact absurd hPl g185
                            ·
                              have hg : greatR l peak = true := by simpa using g181
                              rw [hg, if_pos rfl] at hPl
                              rw [if_neg (show ¬ placedE l peak = 0 by omega)]
                              refine RK.c (S.skip rfl rfl rfl rfl rfl) ?_
                              refine RK.c (S.skip rfl rfl rfl rfl rfl) ?_
                              refine RK.c (S.pickF .none rfl (.tmp rfl rfl) .cbool rfl) ?_
                              refine RK.c (S.move .none rfl (.tmp rfl rfl)) ?_
                              refine RK.c (S.skip rfl rfl rfl rfl rfl) ?_
                              refine RK.c (S.skip rfl rfl rfl rfl rfl) ?_
                              refine RK.c (S.skip rfl rfl rfl rfl rfl) ?_
                              refine RK.c (S.pickF .none rfl (.tmp rfl rfl) .cbool rfl) ?_
                              refine RK.c (S.move .none rfl (.tmp rfl rfl)) ?_
                              refine RK.c (S.move (.yes rfl rfl rfl rfl) rfl (.tmp rfl rfl)) ?_
                              refine RK.c (S.not (.yes rfl rfl rfl rfl) rfl (.tmp rfl rfl)) ?_
                              refine RK.c (S.move (.yes rfl rfl rfl rfl) rfl (.tmp rfl rfl)) ?_
                              refine RK.split (t := 193) rfl (fun g193 => ?_) (fun g193 => ?_)
                              ·
                                refine RK.c (S.move (.yes rfl rfl rfl rfl) rfl (.tmp rfl rfl)) ?_
                                refine RK.c (S.eql (.yes rfl rfl rfl rfl) rfl (.tmp rfl rfl) (.cint rfl)) ?_
                                refine RK.c (S.pickT (.yes rfl rfl rfl rfl) rfl (.tmp rfl rfl) (.tmp rfl rfl) rfl) ?_
                                refine RK.c (S.move (.yes rfl rfl rfl rfl) rfl (.tmp rfl rfl)) ?_
                                refine RK.splitD (t := 197) rfl (fun g197 => ?_) (fun g197 => ?_)
                                ·
                                  refine RK.c (S.move (.yes rfl rfl rfl rfl) rfl (.tmp rfl rfl)) ?_
                                  refine RK.c (S.lenM si30 (.yes rfl rfl rfl rfl) rfl (.tmp rfl rfl)) ?_
                                  refine RK.c (S.eql (.yes rfl rfl rfl rfl) rfl (.tmp rfl rfl) (.cint rfl)) ?_
                                  refine RK.c (S.pickT (.yes rfl rfl rfl rfl) rfl (.tmp rfl rfl) (.tmp rfl rfl) rfl) ?_
                                  refine RK.c (S.pickF .none rfl (.tmp rfl rfl) (.tmp rfl rfl) rfl) ?_
                                  refine RK.c (S.assign .none rfl (.tmp rfl rfl)) ?_
                                  refine RK.nil ?_
                                  refine Ab.D.code ?_
                                  refine OK.ret (Ret.r1 (.tmp rfl rfl (.c (.same rfl) rfl) rfl) ?_)
                                  first | rfl | exact ret_dT rfl | exact ret_dT trivial | (refine ret_dT ?_; omega)
                                ·
                                  exact absurd hPl g197
                              ·
                                first | (rw [hg] at g193; cases g193) | (simp at g193; rw [hg] at g193; cases g193)
                  ·
                    refine RK.c (S.skip rfl rfl rfl rfl rfl) ?_
                    refine RK.c (S.skip rfl rfl rfl rfl rfl) ?_
                    refine RK.c (S.skip rfl rfl rfl rfl rfl) ?_
                    refine RK.c (S.skip rfl rfl rfl rfl rfl) ?_
                    refine RK.c (S.pickF .none rfl (.tmp rfl rfl) .cbool rfl) ?_
                    refine RK.nil ?_
                    refine Ab.D.code ?_
                    refine OK.condF rfl rfl rfl ?_
                    refine OK.skip ?_
                    refine Ab.D.code ?_
                    refine OK.seq ?_
                    refine OK.seq ?_
                    by_cases g137 : earlForE l x peak ≠ 0
                    ·
                      refine OK.regionDraw follows (.c (S.move .none rfl (.tmp rfl rfl))
                        (.c (S.neq .none rfl (.tmp rfl rfl) (.cint rfl))
                        (.c (S.move .none rfl (.tmp rfl rfl))
                        (.c (S.move (.yes rfl rfl rfl (by first | rfl | exact decide_eq_true (by omega) | exact decide_eq_false (by omega) | (simp; done) | (simp; omega))) rfl (.tmp rfl rfl))
                        (.c (S.move (.yes rfl rfl rfl (by first | rfl | exact decide_eq_true (by omega) | exact decide_eq_false (by omega) | (simp; done) | (simp; omega))) rfl (.tmp rfl rfl))
                        (.c (S.neq (.yes rfl rfl rfl (by first | rfl | exact decide_eq_true (by omega) | exact decide_eq_false (by omega) | (simp; done) | (simp; omega))) rfl (.tmp rfl rfl) (.tmp rfl rfl))
                        (.c (S.move (.yes rfl rfl rfl (by first | rfl | exact decide_eq_true (by omega) | exact decide_eq_false (by omega) | (simp; done) | (simp; omega))) rfl (.tmp rfl rfl))
                        (.c (S.move (.yes rfl rfl rfl (by first | rfl | exact decide_eq_true (by omega) | exact decide_eq_false (by omega) | (simp; done) | (simp; omega))) rfl (.tmp rfl rfl))
                        (.c (S.neq (.yes rfl rfl rfl (by first | rfl | exact decide_eq_true (by omega) | exact decide_eq_false (by omega) | (simp; done) | (simp; omega))) rfl (.tmp rfl rfl) (.cint rfl))
                        (.c (S.pickF (.yes rfl rfl rfl (by first | rfl | exact decide_eq_true (by omega) | exact decide_eq_false (by omega) | (simp; done) | (simp; omega))) rfl (.tmp rfl rfl) (.tmp rfl rfl) (by first | rfl | exact decide_eq_true (by omega) | exact decide_eq_false (by omega) | (simp; done) | (simp; omega)))
                        (.c (S.pickT .none rfl (.tmp rfl rfl) (.tmp rfl rfl) (by first | rfl | exact decide_eq_true (by omega) | exact decide_eq_false (by omega) | (simp; done) | (simp; omega)))
                        (.c (S.move .none rfl (.tmp rfl rfl))
                        (.c (S.move (.yes rfl rfl rfl (by first | rfl | exact decide_eq_true (by omega) | exact decide_eq_false (by omega) | (simp; done) | (simp; omega))) rfl (.tmp rfl rfl))
                        (.c (S.eql (.yes rfl rfl rfl (by first | rfl | exact decide_eq_true (by omega) | exact decide_eq_false (by omega) | (simp; done) | (simp; omega))) rfl (.tmp rfl rfl) (.cint rfl))
                        (.c (S.move (.yes rfl rfl rfl (by first | rfl | exact decide_eq_true (by omega) | exact decide_eq_false (by omega) | (simp; done) | (simp; omega))) rfl (.tmp rfl rfl))
                        (.c (S.skip rfl rfl rfl (by first | rfl | exact decide_eq_true (by omega) | exact decide_eq_false (by omega) | (simp; done) | (simp; omega)) rfl)
                        (.c (S.skip rfl rfl rfl (by first | rfl | exact decide_eq_true (by omega) | exact decide_eq_false (by omega) | (simp; done) | (simp; omega)) rfl)
                        (.c (S.skip rfl rfl rfl (by first | rfl | exact decide_eq_true (by omega) | exact decide_eq_false (by omega) | (simp; done) | (simp; omega)) rfl)
                        (.c (S.skipU rfl rfl rfl rfl)
                        (.c (S.skipU rfl rfl rfl rfl)
                        (.c (S.skipU rfl rfl rfl rfl)
                        (.c (S.skipU rfl rfl rfl rfl)
                        (.c (S.skipU rfl rfl rfl rfl)
                        (.c (S.skipU rfl rfl rfl rfl)
                        (.c (S.skipU rfl rfl rfl rfl)
                        (.c (S.skipU rfl rfl rfl rfl)
                        (.c (S.skip rfl rfl rfl (by first | rfl | exact decide_eq_true (by omega) | exact decide_eq_false (by omega) | (simp; done) | (simp; omega)) rfl)
                        (.c (S.pickF (.yes rfl rfl rfl (by first | rfl | exact decide_eq_true (by omega) | exact decide_eq_false (by omega) | (simp; done) | (simp; omega))) rfl (.tmp rfl rfl) .cbool (by first | rfl | exact decide_eq_true (by omega) | exact decide_eq_false (by omega) | (simp; done) | (simp; omega)))
                        (.c (S.pickF .none rfl (.tmp rfl rfl) (.tmp rfl rfl) (by first | rfl | exact decide_eq_true (by omega) | exact decide_eq_false (by omega) | (simp; done) | (simp; omega)))
                        .nil))))))))))))))))))))))))))))) (by kernel_rfl) ?_
                      refine Ab.D.code ?_
                      refine OK.condF rfl rfl rfl ?_
                      refine OK.skip ?_
                      refine Ab.D.code ?_
                      refine OK.seq ?_
                      refine OK.seq ?_
                      refine OK.reg ?_
                      refine RK.c (S.move .none rfl (.tmp rfl rfl)) ?_
                      refine RK.c (S.neq .none rfl (.tmp rfl rfl) (.cint rfl)) ?_
                      refine RK.nil ?_
                      refine Ab.D.code ?_
                      refine OK.condD rfl rfl (fun c165 => ?_) (fun c165 => ?_)
                      ·
                        have hPr : placedE l peak = peakE peak := by unfold placedE; rw [if_neg (by omega), if_pos c165]
                        rw [if_neg (show ¬ placedE l peak = 0 by omega)]
                        refine OK.seq ?_
                        refine OK.reg ?_
                        refine RK.c (S.move .none rfl (.tmp rfl rfl)) ?_
                        refine RK.c (S.move .none rfl (.tmp rfl rfl)) ?_
                        refine RK.c (S.eql .none rfl (.tmp rfl rfl) (.tmp rfl rfl)) ?_
                        refine RK.c (S.move .none rfl (.tmp rfl rfl)) ?_
                        refine RK.splitD (t := 169) rfl (fun g169 => ?_) (fun g169 => ?_)
                        ·
                          refine RK.c (S.move (.yes rfl rfl rfl rfl) rfl (.tmp rfl rfl)) ?_
                          refine RK.c (S.lenM si30 (.yes rfl rfl rfl rfl) rfl (.tmp rfl rfl)) ?_
                          refine RK.c (S.eql (.yes rfl rfl rfl rfl) rfl (.tmp rfl rfl) (.cint rfl)) ?_
                          refine RK.c (S.pickT .none rfl (.tmp rfl rfl) (.tmp rfl rfl) rfl) ?_
                          refine RK.c (S.assign .none rfl (.tmp rfl rfl)) ?_
                          refine RK.nil ?_
                          refine Ab.D.code ?_
                          refine OK.ret (Ret.r1 (.tmp rfl rfl (.c (.same rfl) rfl) rfl) ?_)
                          first | rfl | exact ret_dT rfl | exact ret_dT trivial | (refine ret_dT ?_; omega)
                        ·
                          exact absurd hPr g169
                      ·
                        have hP0 : peakE peak = 0 := Decidable.not_not.1 c165
                        have hPl : placedE l peak = if greatR l peak = true then 12 else 0 := by unfold placedE; rw [if_neg (by omega), if_neg (by omega)]; rfl
                        refine OK.skip ?_
                        refine Ab.D.code ?_
                        refine OK.seq ?_
                        refine OK.reg ?_
                        refine RK.c (S.move .none rfl (.tmp rfl rfl)) ?_
                        refine RK.c (S.move .none rfl (.tmp rfl rfl)) ?_
                        refine RK.c (S.call (ref9_Placed hl hB) Tryz.call44 .none rfl (.cons (.tmp rfl rfl) (.cons (.tmp rfl rfl) .nil)) rfl) ?_
                        refine RK.c (S.move .none rfl (.tmp rfl rfl)) ?_
                        refine RK.c (S.extract .none rfl (.tmp rfl rfl) rfl rfl) ?_
                        refine RK.c (S.extract .none rfl (.tmp rfl rfl) rfl rfl) ?_
                        refine RK.c (S.assign .none rfl (.tmp rfl rfl)) ?_
                        refine RK.c (S.assign .none rfl (.tmp rfl rfl)) ?_
                        refine RK.nil ?_
                        refine Ab.D.code ?_
                        refine OK.seq ?_
                        refine OK.reg ?_
                        refine RK.c (S.move .none rfl (.tmp rfl rfl)) ?_
                        refine RK.c (S.move .none rfl (.tmp rfl rfl)) ?_
                        refine RK.split (t := 181) rfl (fun g181 => ?_) (fun g181 => ?_)
                        ·
                          have hg : greatR l peak = false := by simpa using g181
                          rw [hg, if_neg (by decide)] at hPl
                          rw [if_pos hPl]
                          refine RK.c (S.move (.yes rfl rfl rfl rfl) rfl (.tmp rfl rfl)) ?_
                          refine RK.c (S.eql (.yes rfl rfl rfl rfl) rfl (.tmp rfl rfl) (.cint rfl)) ?_
                          refine RK.c (S.pickT .none rfl (.tmp rfl rfl) (.tmp rfl rfl) rfl) ?_
                          refine RK.c (S.move .none rfl (.tmp rfl rfl)) ?_
                          refine RK.splitD (t := 185) rfl (fun g185 => ?_) (fun g185 => ?_)
                          ·
                            refine RK.c (S.move (.yes rfl rfl rfl rfl) rfl (.tmp rfl rfl)) ?_
                            refine RK.c (S.move (.yes rfl rfl rfl rfl) rfl (.tmp rfl rfl)) ?_
                            refine RK.c (S.call (base_Ints) Tryz.call24 (.yes rfl rfl rfl rfl) rfl (.cons (.tmp rfl rfl) (.cons (.tmp rfl rfl) .nil)) rfl) ?_
                            refine RK.c (S.pickT .none rfl (.tmp rfl rfl) (.tmp rfl rfl) rfl) ?_
                            refine RK.c (S.move .none rfl (.tmp rfl rfl)) ?_
                            refine RK.splitD (t := 190) rfl (fun g190 => ?_) (fun g190 => ?_)
                            ·
                              refine RK.c (S.skip rfl rfl rfl rfl rfl) ?_
                              refine RK.c (S.skip rfl rfl rfl rfl rfl) ?_
                              refine RK.c (S.skip rfl rfl rfl rfl rfl) ?_
                              refine RK.c (S.skipU rfl rfl rfl rfl) ?_
                              refine RK.c (S.skipU rfl rfl rfl rfl) ?_
                              refine RK.c (S.skip rfl rfl rfl rfl rfl) ?_
                              refine RK.c (S.skip rfl rfl rfl rfl rfl) ?_
                              refine RK.c (S.skipU rfl rfl rfl rfl) ?_
                              refine RK.c (S.skipU rfl rfl rfl rfl) ?_
                              refine RK.c (S.skipU rfl rfl rfl rfl) ?_
                              refine RK.c (S.skip rfl rfl rfl rfl rfl) ?_
                              refine RK.c (S.pickT .none rfl (.tmp rfl rfl) .cbool rfl) ?_
                              refine RK.c (S.assign .none rfl (.tmp rfl rfl)) ?_
                              refine RK.nil ?_
                              refine Ab.D.code ?_
                              refine OK.ret (Ret.r1 (.tmp rfl rfl (.c (.same rfl) rfl) rfl) ?_)
                              first | rfl | exact ret_dT rfl | exact ret_dT trivial | (refine ret_dT ?_; omega)
                            ·
                              first | exact absurd rfl g190 | (rw [hg] at g190; exact absurd rfl g190)
                          ·
                            exact absurd hPl g185
                        ·
                          have hg : greatR l peak = true := by simpa using g181
                          rw [hg, if_pos rfl] at hPl
                          rw [if_neg (show ¬ placedE l peak = 0 by omega)]
                          refine RK.c (S.skip rfl rfl rfl rfl rfl) ?_
                          refine RK.c (S.skip rfl rfl rfl rfl rfl) ?_
                          refine RK.c (S.pickF .none rfl (.tmp rfl rfl) .cbool rfl) ?_
                          refine RK.c (S.move .none rfl (.tmp rfl rfl)) ?_
                          refine RK.c (S.skip rfl rfl rfl rfl rfl) ?_
                          refine RK.c (S.skip rfl rfl rfl rfl rfl) ?_
                          refine RK.c (S.skip rfl rfl rfl rfl rfl) ?_
                          refine RK.c (S.pickF .none rfl (.tmp rfl rfl) .cbool rfl) ?_
                          refine RK.c (S.move .none rfl (.tmp rfl rfl)) ?_
                          refine RK.c (S.move (.yes rfl rfl rfl rfl) rfl (.tmp rfl rfl)) ?_
                          refine RK.c (S.not (.yes rfl rfl rfl rfl) rfl (.tmp rfl rfl)) ?_
                          refine RK.c (S.move (.yes rfl rfl rfl rfl) rfl (.tmp rfl rfl)) ?_
                          refine RK.split (t := 193) rfl (fun g193 => ?_) (fun g193 => ?_)
                          ·
                            refine RK.c (S.move (.yes rfl rfl rfl rfl) rfl (.tmp rfl rfl)) ?_
                            refine RK.c (S.eql (.yes rfl rfl rfl rfl) rfl (.tmp rfl rfl) (.cint rfl)) ?_
                            refine RK.c (S.pickT (.yes rfl rfl rfl rfl) rfl (.tmp rfl rfl) (.tmp rfl rfl) rfl) ?_
                            refine RK.c (S.move (.yes rfl rfl rfl rfl) rfl (.tmp rfl rfl)) ?_
                            refine RK.splitD (t := 197) rfl (fun g197 => ?_) (fun g197 => ?_)
                            ·
                              refine RK.c (S.move (.yes rfl rfl rfl rfl) rfl (.tmp rfl rfl)) ?_
                              refine RK.c (S.lenM si30 (.yes rfl rfl rfl rfl) rfl (.tmp rfl rfl)) ?_
                              refine RK.c (S.eql (.yes rfl rfl rfl rfl) rfl (.tmp rfl rfl) (.cint rfl)) ?_
                              refine RK.c (S.pickT (.yes rfl rfl rfl rfl) rfl (.tmp rfl rfl) (.tmp rfl rfl) rfl) ?_
                              refine RK.c (S.pickF .none rfl (.tmp rfl rfl) (.tmp rfl rfl) rfl) ?_
                              refine RK.c (S.assign .none rfl (.tmp rfl rfl)) ?_
                              refine RK.nil ?_
                              refine Ab.D.code ?_
                              refine OK.ret (Ret.r1 (.tmp rfl rfl (.c (.same rfl) rfl) rfl) ?_)
                              first | rfl | exact ret_dT rfl | exact ret_dT trivial | (refine ret_dT ?_; omega)
                            ·
                              exact absurd hPl g197
                          ·
                            first | (rw [hg] at g193; cases g193) | (simp at g193; rw [hg] at g193; cases g193)
                    ·
                      have hx0 : runE x = 0 := by omega
                      have hxB := (runE_0 hx0).mono (show (100000 : Int) ≤ 100000000 by omega)
                      have hxp : x.power ≤ peak := by omega
                      have hT : earlForT l x peak = earlT l x peak := if_pos (by omega)
                      refine OK.regionDraw follows (.c (S.move .none rfl (.tmp rfl rfl))
                        (.c (S.neq .none rfl (.tmp rfl rfl) (.cint rfl))
                        (.c (S.move .none rfl (.tmp rfl rfl))
                        (.c (S.skip rfl rfl rfl (by first | rfl | exact decide_eq_true (by omega) | exact decide_eq_false (by omega) | (simp; done) | (simp; omega)) rfl)
                        (.c (S.skip rfl rfl rfl (by first | rfl | exact decide_eq_true (by omega) | exact decide_eq_false (by omega) | (simp; done) | (simp; omega)) rfl)
                        (.c (S.skip rfl rfl rfl (by first | rfl | exact decide_eq_true (by omega) | exact decide_eq_false (by omega) | (simp; done) | (simp; omega)) rfl)
                        (.c (S.skip rfl rfl rfl (by first | rfl | exact decide_eq_true (by omega) | exact decide_eq_false (by omega) | (simp; done) | (simp; omega)) rfl)
                        (.c (S.skipU rfl rfl rfl rfl)
                        (.c (S.skipU rfl rfl rfl rfl)
                        (.c (S.skip rfl rfl rfl (by first | rfl | exact decide_eq_true (by omega) | exact decide_eq_false (by omega) | (simp; done) | (simp; omega)) rfl)
                        (.c (S.pickF .none rfl (.tmp rfl rfl) .cbool (by first | rfl | exact decide_eq_true (by omega) | exact decide_eq_false (by omega) | (simp; done) | (simp; omega)))
                        (.c (S.move .none rfl (.tmp rfl rfl))
                        (.c (S.move (.yes rfl rfl rfl (by first | rfl | exact decide_eq_true (by omega) | exact decide_eq_false (by omega) | (simp; done) | (simp; omega))) rfl (.tmp rfl rfl))
                        (.c (S.eql (.yes rfl rfl rfl (by first | rfl | exact decide_eq_true (by omega) | exact decide_eq_false (by omega) | (simp; done) | (simp; omega))) rfl (.tmp rfl rfl) (.cint rfl))
                        (.c (S.move (.yes rfl rfl rfl (by first | rfl | exact decide_eq_true (by omega) | exact decide_eq_false (by omega) | (simp; done) | (simp; omega))) rfl (.tmp rfl rfl))
                        (.c (S.move (.yes rfl rfl rfl (by first | rfl | exact decide_eq_true (by omega) | exact decide_eq_false (by omega) | (simp; done) | (simp; omega))) rfl (.tmp rfl rfl))
                        (.c (S.neq (.yes rfl rfl rfl (by first | rfl | exact decide_eq_true (by omega) | exact decide_eq_false (by omega) | (simp; done) | (simp; omega))) rfl (.tmp rfl rfl) (.cint rfl))
                        (.c (S.move (.yes rfl rfl rfl (by first | rfl | exact decide_eq_true (by omega) | exact decide_eq_false (by omega) | (simp; done) | (simp; omega))) rfl (.tmp rfl rfl))
                        (.c (S.move (.yes rfl rfl rfl (by first | rfl | exact decide_eq_true (by omega) | exact decide_eq_false (by omega) | (simp; done) | (simp; omega))) rfl (.tmp rfl rfl))
                        (.c (S.move (.yes rfl rfl rfl (by first | rfl | exact decide_eq_true (by omega) | exact decide_eq_false (by omega) | (simp; done) | (simp; omega))) rfl (.tmp rfl rfl))
                        (.c (S.move (.yes rfl rfl rfl (by first | rfl | exact decide_eq_true (by omega) | exact decide_eq_false (by omega) | (simp; done) | (simp; omega))) rfl (.tmp rfl rfl))
                        (.c (S.call (ref9_Starts (by omega)) Tryz.call41 (.yes rfl rfl rfl (by first | rfl | exact decide_eq_true (by omega) | exact decide_eq_false (by omega) | (simp; done) | (simp; omega))) rfl (.cons (.tmp rfl rfl) .nil) rfl)
                        (.c (S.bloadN ti46 (.yes rfl rfl rfl (by first | rfl | exact decide_eq_true (by omega) | exact decide_eq_false (by omega) | (simp; done) | (simp; omega))) rfl (.tmp rfl rfl) rfl rfl rfl rfl)
                        (.c (S.move (.yes rfl rfl rfl (by first | rfl | exact decide_eq_true (by omega) | exact decide_eq_false (by omega) | (simp; done) | (simp; omega))) rfl (.tmp rfl rfl))
                        (.c (S.call (ref9_Earliest (l := l) (b := l.map (·.start)) hml (by omega) hB9 hxB hxp) Tryz.call43 (.yes rfl rfl rfl (by first | rfl | exact decide_eq_true (by omega) | exact decide_eq_false (by omega) | (simp; done) | (simp; omega))) rfl (.cons (.tmp rfl rfl) (.cons (.tmp rfl rfl) (.cons (.tmp rfl rfl) (.cons (.tmp rfl rfl) .nil)))) rfl)
                        (.c (S.neq (.yes rfl rfl rfl (by first | rfl | exact decide_eq_true (by omega) | exact decide_eq_false (by omega) | (simp; done) | (simp; omega))) rfl (.tmp rfl rfl) (.tmp rfl rfl))
                        (.c (S.pickF (.yes rfl rfl rfl (by first | rfl | exact decide_eq_true (by omega) | exact decide_eq_false (by omega) | (simp; done) | (simp; omega))) rfl (.tmp rfl rfl) (.tmp rfl rfl) (by first | rfl | exact decide_eq_true (by omega) | exact decide_eq_false (by omega) | (simp; done) | (simp; omega)))
                        (.c (S.pickT (.yes rfl rfl rfl (by first | rfl | exact decide_eq_true (by omega) | exact decide_eq_false (by omega) | (simp; done) | (simp; omega))) rfl (.tmp rfl rfl) (.tmp rfl rfl) (by first | rfl | exact decide_eq_true (by omega) | exact decide_eq_false (by omega) | (simp; done) | (simp; omega)))
                        (.c (S.pickF .none rfl (.tmp rfl rfl) (.tmp rfl rfl) (by first | rfl | exact decide_eq_true (by omega) | exact decide_eq_false (by omega) | (simp; done) | (simp; omega)))
                        .nil))))))))))))))))))))))))))))) (by kernel_rfl) ?_
                      refine Ab.D.code ?_
                      refine OK.condD rfl rfl (fun c163 => ?_) (fun c163 => ?_)
                      ·
                        first | exact absurd c163 (by decide) | (rw [hT, hzs] at c163; exact absurd rfl c163)
                      ·
                        refine OK.skip ?_
                        refine Ab.D.code ?_
                        refine OK.seq ?_
                        refine OK.seq ?_
                        refine OK.reg ?_
                        refine RK.c (S.move .none rfl (.tmp rfl rfl)) ?_
                        refine RK.c (S.neq .none rfl (.tmp rfl rfl) (.cint rfl)) ?_
                        refine RK.nil ?_
                        refine Ab.D.code ?_
                        refine OK.condD rfl rfl (fun c165 => ?_) (fun c165 => ?_)
                        ·
                          have hPr : placedE l peak = peakE peak := by unfold placedE; rw [if_neg (by omega), if_pos c165]
                          rw [if_neg (show ¬ placedE l peak = 0 by omega)]
                          refine OK.seq ?_
                          refine OK.reg ?_
                          refine RK.c (S.move .none rfl (.tmp rfl rfl)) ?_
                          refine RK.c (S.move .none rfl (.tmp rfl rfl)) ?_
                          refine RK.c (S.eql .none rfl (.tmp rfl rfl) (.tmp rfl rfl)) ?_
                          refine RK.c (S.move .none rfl (.tmp rfl rfl)) ?_
                          refine RK.splitD (t := 169) rfl (fun g169 => ?_) (fun g169 => ?_)
                          ·
                            refine RK.c (S.move (.yes rfl rfl rfl rfl) rfl (.tmp rfl rfl)) ?_
                            refine RK.c (S.lenM si30 (.yes rfl rfl rfl rfl) rfl (.tmp rfl rfl)) ?_
                            refine RK.c (S.eql (.yes rfl rfl rfl rfl) rfl (.tmp rfl rfl) (.cint rfl)) ?_
                            refine RK.c (S.pickT .none rfl (.tmp rfl rfl) (.tmp rfl rfl) rfl) ?_
                            refine RK.c (S.assign .none rfl (.tmp rfl rfl)) ?_
                            refine RK.nil ?_
                            refine Ab.D.code ?_
                            refine OK.ret (Ret.r1 (.tmp rfl rfl (.c (.same rfl) rfl) rfl) ?_)
                            first | rfl | exact ret_dT rfl | exact ret_dT trivial | (refine ret_dT ?_; omega)
                          ·
                            exact absurd hPr g169
                        ·
                          have hP0 : peakE peak = 0 := Decidable.not_not.1 c165
                          have hPl : placedE l peak = if greatR l peak = true then 12 else 0 := by unfold placedE; rw [if_neg (by omega), if_neg (by omega)]; rfl
                          refine OK.skip ?_
                          refine Ab.D.code ?_
                          refine OK.seq ?_
                          refine OK.reg ?_
                          refine RK.c (S.move .none rfl (.tmp rfl rfl)) ?_
                          refine RK.c (S.move .none rfl (.tmp rfl rfl)) ?_
                          refine RK.c (S.call (ref9_Placed hl hB) Tryz.call44 .none rfl (.cons (.tmp rfl rfl) (.cons (.tmp rfl rfl) .nil)) rfl) ?_
                          refine RK.c (S.move .none rfl (.tmp rfl rfl)) ?_
                          refine RK.c (S.extract .none rfl (.tmp rfl rfl) rfl rfl) ?_
                          refine RK.c (S.extract .none rfl (.tmp rfl rfl) rfl rfl) ?_
                          refine RK.c (S.assign .none rfl (.tmp rfl rfl)) ?_
                          refine RK.c (S.assign .none rfl (.tmp rfl rfl)) ?_
                          refine RK.nil ?_
                          refine Ab.D.code ?_
                          refine OK.seq ?_
                          refine OK.reg ?_
                          refine RK.c (S.move .none rfl (.tmp rfl rfl)) ?_
                          refine RK.c (S.move .none rfl (.tmp rfl rfl)) ?_
                          refine RK.split (t := 181) rfl (fun g181 => ?_) (fun g181 => ?_)
                          ·
                            have hg : greatR l peak = false := by simpa using g181
                            rw [hg, if_neg (by decide)] at hPl
                            rw [if_pos hPl]
                            refine RK.c (S.move (.yes rfl rfl rfl rfl) rfl (.tmp rfl rfl)) ?_
                            refine RK.c (S.eql (.yes rfl rfl rfl rfl) rfl (.tmp rfl rfl) (.cint rfl)) ?_
                            refine RK.c (S.pickT .none rfl (.tmp rfl rfl) (.tmp rfl rfl) rfl) ?_
                            refine RK.c (S.move .none rfl (.tmp rfl rfl)) ?_
                            refine RK.splitD (t := 185) rfl (fun g185 => ?_) (fun g185 => ?_)
                            ·
                              refine RK.c (S.move (.yes rfl rfl rfl rfl) rfl (.tmp rfl rfl)) ?_
                              refine RK.c (S.move (.yes rfl rfl rfl rfl) rfl (.tmp rfl rfl)) ?_
                              refine RK.c (S.call (base_Ints) Tryz.call24 (.yes rfl rfl rfl rfl) rfl (.cons (.tmp rfl rfl) (.cons (.tmp rfl rfl) .nil)) rfl) ?_
                              refine RK.c (S.pickT .none rfl (.tmp rfl rfl) (.tmp rfl rfl) rfl) ?_
                              refine RK.c (S.move .none rfl (.tmp rfl rfl)) ?_
                              refine RK.splitD (t := 190) rfl (fun g190 => ?_) (fun g190 => ?_)
                              ·
                                refine RK.c (S.skip rfl rfl rfl rfl rfl) ?_
                                refine RK.c (S.skip rfl rfl rfl rfl rfl) ?_
                                refine RK.c (S.skip rfl rfl rfl rfl rfl) ?_
                                refine RK.c (S.skipU rfl rfl rfl rfl) ?_
                                refine RK.c (S.skipU rfl rfl rfl rfl) ?_
                                refine RK.c (S.skip rfl rfl rfl rfl rfl) ?_
                                refine RK.c (S.skip rfl rfl rfl rfl rfl) ?_
                                refine RK.c (S.skipU rfl rfl rfl rfl) ?_
                                refine RK.c (S.skipU rfl rfl rfl rfl) ?_
                                refine RK.c (S.skipU rfl rfl rfl rfl) ?_
                                refine RK.c (S.skip rfl rfl rfl rfl rfl) ?_
                                refine RK.c (S.pickT .none rfl (.tmp rfl rfl) .cbool rfl) ?_
                                refine RK.c (S.assign .none rfl (.tmp rfl rfl)) ?_
                                refine RK.nil ?_
                                refine Ab.D.code ?_
                                refine OK.ret (Ret.r1 (.tmp rfl rfl (.c (.same rfl) rfl) rfl) ?_)
                                first | rfl | exact ret_dT rfl | exact ret_dT trivial | (refine ret_dT ?_; omega)
                              ·
                                first | exact absurd rfl g190 | (rw [hg] at g190; exact absurd rfl g190)
                            ·
                              exact absurd hPl g185
                          ·
                            have hg : greatR l peak = true := by simpa using g181
                            rw [hg, if_pos rfl] at hPl
                            rw [if_neg (show ¬ placedE l peak = 0 by omega)]
                            refine RK.c (S.skip rfl rfl rfl rfl rfl) ?_
                            refine RK.c (S.skip rfl rfl rfl rfl rfl) ?_
                            refine RK.c (S.pickF .none rfl (.tmp rfl rfl) .cbool rfl) ?_
                            refine RK.c (S.move .none rfl (.tmp rfl rfl)) ?_
                            refine RK.c (S.skip rfl rfl rfl rfl rfl) ?_
                            refine RK.c (S.skip rfl rfl rfl rfl rfl) ?_
                            refine RK.c (S.skip rfl rfl rfl rfl rfl) ?_
                            refine RK.c (S.pickF .none rfl (.tmp rfl rfl) .cbool rfl) ?_
                            refine RK.c (S.move .none rfl (.tmp rfl rfl)) ?_
                            refine RK.c (S.move (.yes rfl rfl rfl rfl) rfl (.tmp rfl rfl)) ?_
                            refine RK.c (S.not (.yes rfl rfl rfl rfl) rfl (.tmp rfl rfl)) ?_
                            refine RK.c (S.move (.yes rfl rfl rfl rfl) rfl (.tmp rfl rfl)) ?_
                            refine RK.split (t := 193) rfl (fun g193 => ?_) (fun g193 => ?_)
                            ·
                              refine RK.c (S.move (.yes rfl rfl rfl rfl) rfl (.tmp rfl rfl)) ?_
                              refine RK.c (S.eql (.yes rfl rfl rfl rfl) rfl (.tmp rfl rfl) (.cint rfl)) ?_
                              refine RK.c (S.pickT (.yes rfl rfl rfl rfl) rfl (.tmp rfl rfl) (.tmp rfl rfl) rfl) ?_
                              refine RK.c (S.move (.yes rfl rfl rfl rfl) rfl (.tmp rfl rfl)) ?_
                              refine RK.splitD (t := 197) rfl (fun g197 => ?_) (fun g197 => ?_)
                              ·
                                refine RK.c (S.move (.yes rfl rfl rfl rfl) rfl (.tmp rfl rfl)) ?_
                                refine RK.c (S.lenM si30 (.yes rfl rfl rfl rfl) rfl (.tmp rfl rfl)) ?_
                                refine RK.c (S.eql (.yes rfl rfl rfl rfl) rfl (.tmp rfl rfl) (.cint rfl)) ?_
                                refine RK.c (S.pickT (.yes rfl rfl rfl rfl) rfl (.tmp rfl rfl) (.tmp rfl rfl) rfl) ?_
                                refine RK.c (S.pickF .none rfl (.tmp rfl rfl) (.tmp rfl rfl) rfl) ?_
                                refine RK.c (S.assign .none rfl (.tmp rfl rfl)) ?_
                                refine RK.nil ?_
                                refine Ab.D.code ?_
                                refine OK.ret (Ret.r1 (.tmp rfl rfl (.c (.same rfl) rfl) rfl) ?_)
                                first | rfl | exact ret_dT rfl | exact ret_dT trivial | (refine ret_dT ?_; omega)
                              ·
                                exact absurd hPl g197
                            ·
                              first | (rw [hg] at g193; cases g193) | (simp at g193; rw [hg] at g193; cases g193)
                ·
                  refine OK.skip ?_
                  refine Ab.D.code ?_
                  refine OK.seq ?_
                  refine OK.seq ?_
                  refine OK.reg ?_
                  refine RK.c (S.move .none rfl (.tmp rfl rfl)) ?_
                  refine RK.c (S.eql .none rfl (.tmp rfl rfl) (.cint rfl)) ?_
                  refine RK.c (S.move .none rfl (.tmp rfl rfl)) ?_
                  refine RK.splitD (t := 129) rfl (fun g129 => ?_) (fun g129 => ?_)
                  ·
                    refine RK.c (S.bfield fi46_2 (.yes rfl rfl rfl rfl) rfl (.tmp rfl rfl)) ?_
                    refine RK.c (S.bload1 ti3 (.yes rfl rfl rfl rfl) rfl (.tmp rfl rfl) rfl rfl rfl rfl) ?_
                    refine RK.c (S.move (.yes rfl rfl rfl rfl) rfl (.tmp rfl rfl)) ?_
                    refine RK.c (S.gtr (.yes rfl rfl rfl rfl) rfl (.tmp rfl rfl) (.tmp rfl rfl)) ?_
                    refine RK.c (S.pickT .none rfl (.tmp rfl rfl) (.tmp rfl rfl) rfl) ?_
                    refine RK.nil ?_
                    refine Ab.D.code ?_
                    refine OK.condD rfl rfl (fun c134 => ?_) (fun c134 => ?_)
                    ·
                      refine OK.reg ?_
                      refine RK.c (S.assign .none rfl (.cint rfl)) ?_
                      refine RK.nil ?_
                      refine Ab.D.code ?_
                      refine OK.seq ?_
                      refine OK.seq ?_
                      by_cases g137 : earlForE l x peak ≠ 0
                      ·
                        refine OK.regionDraw follows (.c (S.move .none rfl (.tmp rfl rfl))
                          (.c (S.neq .none rfl (.tmp rfl rfl) (.cint rfl))
                          (.c (S.move .none rfl (.tmp rfl rfl))
                          (.c (S.move (.yes rfl rfl rfl (by first | rfl | exact decide_eq_true (by omega) | exact decide_eq_false (by omega) | (simp; done) | (simp; omega))) rfl (.tmp rfl rfl))
                          (.c (S.move (.yes rfl rfl rfl (by first | rfl | exact decide_eq_true (by omega) | exact decide_eq_false (by omega) | (simp; done) | (simp; omega))) rfl (.tmp rfl rfl))
                          (.c (S.neq (.yes rfl rfl rfl (by first | rfl | exact decide_eq_true (by omega) | exact decide_eq_false (by omega) | (simp; done) | (simp; omega))) rfl (.tmp rfl rfl) (.tmp rfl rfl))
                          (.c (S.move (.yes rfl rfl rfl (by first | rfl | exact decide_eq_true (by omega) | exact decide_eq_false (by omega) | (simp; done) | (simp; omega))) rfl (.tmp rfl rfl))
                          (.c (S.move (.yes rfl rfl rfl (by first | rfl | exact decide_eq_true (by omega) | exact decide_eq_false (by omega) | (simp; done) | (simp; omega))) rfl (.tmp rfl rfl))
                          (.c (S.neq (.yes rfl rfl rfl (by first | rfl | exact decide_eq_true (by omega) | exact decide_eq_false (by omega) | (simp; done) | (simp; omega))) rfl (.tmp rfl rfl) (.cint rfl))
                          (.c (S.pickF (.yes rfl rfl rfl (by first | rfl | exact decide_eq_true (by omega) | exact decide_eq_false (by omega) | (simp; done) | (simp; omega))) rfl (.tmp rfl rfl) (.tmp rfl rfl) (by first | rfl | exact decide_eq_true (by omega) | exact decide_eq_false (by omega) | (simp; done) | (simp; omega)))
                          (.c (S.pickT .none rfl (.tmp rfl rfl) (.tmp rfl rfl) (by first | rfl | exact decide_eq_true (by omega) | exact decide_eq_false (by omega) | (simp; done) | (simp; omega)))
                          (.c (S.move .none rfl (.tmp rfl rfl))
                          (.c (S.move (.yes rfl rfl rfl (by first | rfl | exact decide_eq_true (by omega) | exact decide_eq_false (by omega) | (simp; done) | (simp; omega))) rfl (.tmp rfl rfl))
                          (.c (S.eql (.yes rfl rfl rfl (by first | rfl | exact decide_eq_true (by omega) | exact decide_eq_false (by omega) | (simp; done) | (simp; omega))) rfl (.tmp rfl rfl) (.cint rfl))
                          (.c (S.move (.yes rfl rfl rfl (by first | rfl | exact decide_eq_true (by omega) | exact decide_eq_false (by omega) | (simp; done) | (simp; omega))) rfl (.tmp rfl rfl))
                          (.c (S.skip rfl rfl rfl (by first | rfl | exact decide_eq_true (by omega) | exact decide_eq_false (by omega) | (simp; done) | (simp; omega)) rfl)
                          (.c (S.skip rfl rfl rfl (by first | rfl | exact decide_eq_true (by omega) | exact decide_eq_false (by omega) | (simp; done) | (simp; omega)) rfl)
                          (.c (S.skip rfl rfl rfl (by first | rfl | exact decide_eq_true (by omega) | exact decide_eq_false (by omega) | (simp; done) | (simp; omega)) rfl)
                          (.c (S.skipU rfl rfl rfl rfl)
                          (.c (S.skipU rfl rfl rfl rfl)
                          (.c (S.skipU rfl rfl rfl rfl)
                          (.c (S.skipU rfl rfl rfl rfl)
                          (.c (S.skipU rfl rfl rfl rfl)
                          (.c (S.skipU rfl rfl rfl rfl)
                          (.c (S.skipU rfl rfl rfl rfl)
                          (.c (S.skipU rfl rfl rfl rfl)
                          (.c (S.skip rfl rfl rfl (by first | rfl | exact decide_eq_true (by omega) | exact decide_eq_false (by omega) | (simp; done) | (simp; omega)) rfl)
                          (.c (S.pickF (.yes rfl rfl rfl (by first | rfl | exact decide_eq_true (by omega) | exact decide_eq_false (by omega) | (simp; done) | (simp; omega))) rfl (.tmp rfl rfl) .cbool (by first | rfl | exact decide_eq_true (by omega) | exact decide_eq_false (by omega) | (simp; done) | (simp; omega)))
                          (.c (S.pickF .none rfl (.tmp rfl rfl) (.tmp rfl rfl) (by first | rfl | exact decide_eq_true (by omega) | exact decide_eq_false (by omega) | (simp; done) | (simp; omega)))
                          .nil))))))))))))))))))))))))))))) (by kernel_rfl) ?_
                        refine Ab.D.code ?_
                        refine OK.condF rfl rfl rfl ?_
                        refine OK.skip ?_
                        refine Ab.D.code ?_
                        refine OK.seq ?_
                        refine OK.seq ?_
                        refine OK.reg ?_
                        refine RK.c (S.move .none rfl (.tmp rfl rfl)) ?_
                        refine RK.c (S.neq .none rfl (.tmp rfl rfl) (.cint rfl)) ?_
                        refine RK.nil ?_
                        refine Ab.D.code ?_
                        refine OK.condD rfl rfl (fun c165 => ?_) (fun c165 => ?_)
                        ·
                          have hPr : placedE l peak = peakE peak := by unfold placedE; rw [if_neg (by omega), if_pos c165]
                          rw [if_neg (show ¬ placedE l peak = 0 by omega)]
                          refine OK.seq ?_
                          refine OK.reg ?_
                          refine RK.c (S.move .none rfl (.tmp rfl rfl)) ?_
                          refine RK.c (S.move .none rfl (.tmp rfl rfl)) ?_
                          refine RK.c (S.eql .none rfl (.tmp rfl rfl) (.tmp rfl rfl)) ?_
                          refine RK.c (S.move .none rfl (.tmp rfl rfl)) ?_
                          refine RK.splitD (t := 169) rfl (fun g169 => ?_) (fun g169 => ?_)
                          ·
                            refine RK.c (S.move (.yes rfl rfl rfl rfl) rfl (.tmp rfl rfl)) ?_
                            refine RK.c (S.lenM si30 (.yes rfl rfl rfl rfl) rfl (.tmp rfl rfl)) ?_
                            refine RK.c (S.eql (.yes rfl rfl rfl rfl) rfl (.tmp rfl rfl) (.cint rfl)) ?_
                            refine RK.c (S.pickT .none rfl (.tmp rfl rfl) (.tmp rfl rfl) rfl) ?_
                            refine RK.c (S.assign .none rfl (.tmp rfl rfl)) ?_
                            refine RK.nil ?_
                            refine Ab.D.code ?_
                            refine OK.ret (Ret.r1 (.tmp rfl rfl (.c (.same rfl) rfl) rfl) ?_)
                            first | rfl | exact ret_dT rfl | exact ret_dT trivial | (refine ret_dT ?_; omega)
                          ·
                            exact absurd hPr g169
                        ·
                          have hP0 : peakE peak = 0 := Decidable.not_not.1 c165
                          have hPl : placedE l peak = if greatR l peak = true then 12 else 0 := by unfold placedE; rw [if_neg (by omega), if_neg (by omega)]; rfl
                          refine OK.skip ?_
                          refine Ab.D.code ?_
                          refine OK.seq ?_
                          refine OK.reg ?_
                          refine RK.c (S.move .none rfl (.tmp rfl rfl)) ?_
                          refine RK.c (S.move .none rfl (.tmp rfl rfl)) ?_
                          refine RK.c (S.call (ref9_Placed hl hB) Tryz.call44 .none rfl (.cons (.tmp rfl rfl) (.cons (.tmp rfl rfl) .nil)) rfl) ?_
                          refine RK.c (S.move .none rfl (.tmp rfl rfl)) ?_
                          refine RK.c (S.extract .none rfl (.tmp rfl rfl) rfl rfl) ?_
                          refine RK.c (S.extract .none rfl (.tmp rfl rfl) rfl rfl) ?_
                          refine RK.c (S.assign .none rfl (.tmp rfl rfl)) ?_
                          refine RK.c (S.assign .none rfl (.tmp rfl rfl)) ?_
                          refine RK.nil ?_
                          refine Ab.D.code ?_
                          refine OK.seq ?_
                          refine OK.reg ?_
                          refine RK.c (S.move .none rfl (.tmp rfl rfl)) ?_
                          refine RK.c (S.move .none rfl (.tmp rfl rfl)) ?_
                          refine RK.split (t := 181) rfl (fun g181 => ?_) (fun g181 => ?_)
                          ·
                            have hg : greatR l peak = false := by simpa using g181
                            rw [hg, if_neg (by decide)] at hPl
                            rw [if_pos hPl]
                            refine RK.c (S.move (.yes rfl rfl rfl rfl) rfl (.tmp rfl rfl)) ?_
                            refine RK.c (S.eql (.yes rfl rfl rfl rfl) rfl (.tmp rfl rfl) (.cint rfl)) ?_
                            refine RK.c (S.pickT .none rfl (.tmp rfl rfl) (.tmp rfl rfl) rfl) ?_
                            refine RK.c (S.move .none rfl (.tmp rfl rfl)) ?_
                            refine RK.splitD (t := 185) rfl (fun g185 => ?_) (fun g185 => ?_)
                            ·
                              refine RK.c (S.move (.yes rfl rfl rfl rfl) rfl (.tmp rfl rfl)) ?_
                              refine RK.c (S.move (.yes rfl rfl rfl rfl) rfl (.tmp rfl rfl)) ?_
                              refine RK.c (S.call (base_Ints) Tryz.call24 (.yes rfl rfl rfl rfl) rfl (.cons (.tmp rfl rfl) (.cons (.tmp rfl rfl) .nil)) rfl) ?_
                              refine RK.c (S.pickT .none rfl (.tmp rfl rfl) (.tmp rfl rfl) rfl) ?_
                              refine RK.c (S.move .none rfl (.tmp rfl rfl)) ?_
                              refine RK.splitD (t := 190) rfl (fun g190 => ?_) (fun g190 => ?_)
                              ·
                                refine RK.c (S.skip rfl rfl rfl rfl rfl) ?_
                                refine RK.c (S.skip rfl rfl rfl rfl rfl) ?_
                                refine RK.c (S.skip rfl rfl rfl rfl rfl) ?_
                                refine RK.c (S.skipU rfl rfl rfl rfl) ?_
                                refine RK.c (S.skipU rfl rfl rfl rfl) ?_
                                refine RK.c (S.skip rfl rfl rfl rfl rfl) ?_
                                refine RK.c (S.skip rfl rfl rfl rfl rfl) ?_
                                refine RK.c (S.skipU rfl rfl rfl rfl) ?_
                                refine RK.c (S.skipU rfl rfl rfl rfl) ?_
                                refine RK.c (S.skipU rfl rfl rfl rfl) ?_
                                refine RK.c (S.skip rfl rfl rfl rfl rfl) ?_
                                refine RK.c (S.pickT .none rfl (.tmp rfl rfl) .cbool rfl) ?_
                                refine RK.c (S.assign .none rfl (.tmp rfl rfl)) ?_
                                refine RK.nil ?_
                                refine Ab.D.code ?_
                                refine OK.ret (Ret.r1 (.tmp rfl rfl (.c (.same rfl) rfl) rfl) ?_)
                                first | rfl | exact ret_dT rfl | exact ret_dT trivial | (refine ret_dT ?_; omega)
                              ·
                                first | exact absurd rfl g190 | (rw [hg] at g190; exact absurd rfl g190)
                            ·
                              exact absurd hPl g185
                          ·
                            have hg : greatR l peak = true := by simpa using g181
                            rw [hg, if_pos rfl] at hPl
                            rw [if_neg (show ¬ placedE l peak = 0 by omega)]
                            refine RK.c (S.skip rfl rfl rfl rfl rfl) ?_
                            refine RK.c (S.skip rfl rfl rfl rfl rfl) ?_
                            refine RK.c (S.pickF .none rfl (.tmp rfl rfl) .cbool rfl) ?_
                            refine RK.c (S.move .none rfl (.tmp rfl rfl)) ?_
                            refine RK.c (S.skip rfl rfl rfl rfl rfl) ?_
                            refine RK.c (S.skip rfl rfl rfl rfl rfl) ?_
                            refine RK.c (S.skip rfl rfl rfl rfl rfl) ?_
                            refine RK.c (S.pickF .none rfl (.tmp rfl rfl) .cbool rfl) ?_
                            refine RK.c (S.move .none rfl (.tmp rfl rfl)) ?_
                            refine RK.c (S.move (.yes rfl rfl rfl rfl) rfl (.tmp rfl rfl)) ?_
                            refine RK.c (S.not (.yes rfl rfl rfl rfl) rfl (.tmp rfl rfl)) ?_
                            refine RK.c (S.move (.yes rfl rfl rfl rfl) rfl (.tmp rfl rfl)) ?_
                            refine RK.split (t := 193) rfl (fun g193 => ?_) (fun g193 => ?_)
                            ·
                              refine RK.c (S.move (.yes rfl rfl rfl rfl) rfl (.tmp rfl rfl)) ?_
                              refine RK.c (S.eql (.yes rfl rfl rfl rfl) rfl (.tmp rfl rfl) (.cint rfl)) ?_
                              refine RK.c (S.pickT (.yes rfl rfl rfl rfl) rfl (.tmp rfl rfl) (.tmp rfl rfl) rfl) ?_
                              refine RK.c (S.move (.yes rfl rfl rfl rfl) rfl (.tmp rfl rfl)) ?_
                              refine RK.splitD (t := 197) rfl (fun g197 => ?_) (fun g197 => ?_)
                              ·
                                refine RK.c (S.move (.yes rfl rfl rfl rfl) rfl (.tmp rfl rfl)) ?_
                                refine RK.c (S.lenM si30 (.yes rfl rfl rfl rfl) rfl (.tmp rfl rfl)) ?_
                                refine RK.c (S.eql (.yes rfl rfl rfl rfl) rfl (.tmp rfl rfl) (.cint rfl)) ?_
                                refine RK.c (S.pickT (.yes rfl rfl rfl rfl) rfl (.tmp rfl rfl) (.tmp rfl rfl) rfl) ?_
                                refine RK.c (S.pickF .none rfl (.tmp rfl rfl) (.tmp rfl rfl) rfl) ?_
                                refine RK.c (S.assign .none rfl (.tmp rfl rfl)) ?_
                                refine RK.nil ?_
                                refine Ab.D.code ?_
                                refine OK.ret (Ret.r1 (.tmp rfl rfl (.c (.same rfl) rfl) rfl) ?_)
                                first | rfl | exact ret_dT rfl | exact ret_dT trivial | (refine ret_dT ?_; omega)
                              ·
                                exact absurd hPl g197
                            ·
                              first | (rw [hg] at g193; cases g193) | (simp at g193; rw [hg] at g193; cases g193)
                      ·
                        have hx0 : runE x = 0 := by omega
                        have hxB := (runE_0 hx0).mono (show (100000 : Int) ≤ 100000000 by omega)
                        have hxp : x.power ≤ peak := by omega
                        have hT : earlForT l x peak = earlT l x peak := if_pos (by omega)
                        refine OK.regionDraw follows (.c (S.move .none rfl (.tmp rfl rfl))
                          (.c (S.neq .none rfl (.tmp rfl rfl) (.cint rfl))
                          (.c (S.move .none rfl (.tmp rfl rfl))
                          (.c (S.skip rfl rfl rfl (by first | rfl | exact decide_eq_true (by omega) | exact decide_eq_false (by omega) | (simp; done) | (simp; omega)) rfl)
                          (.c (S.skip rfl rfl rfl (by first | rfl | exact decide_eq_true (by omega) | exact decide_eq_false (by omega) | (simp; done) | (simp; omega)) rfl)
                          (.c (S.skip rfl rfl rfl (by first | rfl | exact decide_eq_true (by omega) | exact decide_eq_false (by omega) | (simp; done) | (simp; omega)) rfl)
                          (.c (S.skip rfl rfl rfl (by first | rfl | exact decide_eq_true (by omega) | exact decide_eq_false (by omega) | (simp; done) | (simp; omega)) rfl)
                          (.c (S.skipU rfl rfl rfl rfl)
                          (.c (S.skipU rfl rfl rfl rfl)
                          (.c (S.skip rfl rfl rfl (by first | rfl | exact decide_eq_true (by omega) | exact decide_eq_false (by omega) | (simp; done) | (simp; omega)) rfl)
                          (.c (S.pickF .none rfl (.tmp rfl rfl) .cbool (by first | rfl | exact decide_eq_true (by omega) | exact decide_eq_false (by omega) | (simp; done) | (simp; omega)))
                          (.c (S.move .none rfl (.tmp rfl rfl))
                          (.c (S.move (.yes rfl rfl rfl (by first | rfl | exact decide_eq_true (by omega) | exact decide_eq_false (by omega) | (simp; done) | (simp; omega))) rfl (.tmp rfl rfl))
                          (.c (S.eql (.yes rfl rfl rfl (by first | rfl | exact decide_eq_true (by omega) | exact decide_eq_false (by omega) | (simp; done) | (simp; omega))) rfl (.tmp rfl rfl) (.cint rfl))
                          (.c (S.move (.yes rfl rfl rfl (by first | rfl | exact decide_eq_true (by omega) | exact decide_eq_false (by omega) | (simp; done) | (simp; omega))) rfl (.tmp rfl rfl))
                          (.c (S.move (.yes rfl rfl rfl (by first | rfl | exact decide_eq_true (by omega) | exact decide_eq_false (by omega) | (simp; done) | (simp; omega))) rfl (.tmp rfl rfl))
                          (.c (S.neq (.yes rfl rfl rfl (by first | rfl | exact decide_eq_true (by omega) | exact decide_eq_false (by omega) | (simp; done) | (simp; omega))) rfl (.tmp rfl rfl) (.cint rfl))
                          (.c (S.move (.yes rfl rfl rfl (by first | rfl | exact decide_eq_true (by omega) | exact decide_eq_false (by omega) | (simp; done) | (simp; omega))) rfl (.tmp rfl rfl))
                          (.c (S.move (.yes rfl rfl rfl (by first | rfl | exact decide_eq_true (by omega) | exact decide_eq_false (by omega) | (simp; done) | (simp; omega))) rfl (.tmp rfl rfl))
                          (.c (S.move (.yes rfl rfl rfl (by first | rfl | exact decide_eq_true (by omega) | exact decide_eq_false (by omega) | (simp; done) | (simp; omega))) rfl (.tmp rfl rfl))
                          (.c (S.move (.yes rfl rfl rfl (by first | rfl | exact decide_eq_true (by omega) | exact decide_eq_false (by omega) | (simp; done) | (simp; omega))) rfl (.tmp rfl rfl))
                          (.c (S.call (ref9_Starts (by omega)) Tryz.call41 (.yes rfl rfl rfl (by first | rfl | exact decide_eq_true (by omega) | exact decide_eq_false (by omega) | (simp; done) | (simp; omega))) rfl (.cons (.tmp rfl rfl) .nil) rfl)
                          (.c (S.bloadN ti46 (.yes rfl rfl rfl (by first | rfl | exact decide_eq_true (by omega) | exact decide_eq_false (by omega) | (simp; done) | (simp; omega))) rfl (.tmp rfl rfl) rfl rfl rfl rfl)
                          (.c (S.move (.yes rfl rfl rfl (by first | rfl | exact decide_eq_true (by omega) | exact decide_eq_false (by omega) | (simp; done) | (simp; omega))) rfl (.tmp rfl rfl))
                          (.c (S.call (ref9_Earliest (l := l) (b := l.map (·.start)) hml (by omega) hB9 hxB hxp) Tryz.call43 (.yes rfl rfl rfl (by first | rfl | exact decide_eq_true (by omega) | exact decide_eq_false (by omega) | (simp; done) | (simp; omega))) rfl (.cons (.tmp rfl rfl) (.cons (.tmp rfl rfl) (.cons (.tmp rfl rfl) (.cons (.tmp rfl rfl) .nil)))) rfl)
                          (.c (S.neq (.yes rfl rfl rfl (by first | rfl | exact decide_eq_true (by omega) | exact decide_eq_false (by omega) | (simp; done) | (simp; omega))) rfl (.tmp rfl rfl) (.tmp rfl rfl))
                          (.c (S.pickF (.yes rfl rfl rfl (by first | rfl | exact decide_eq_true (by omega) | exact decide_eq_false (by omega) | (simp; done) | (simp; omega))) rfl (.tmp rfl rfl) (.tmp rfl rfl) (by first | rfl | exact decide_eq_true (by omega) | exact decide_eq_false (by omega) | (simp; done) | (simp; omega)))
                          (.c (S.pickT (.yes rfl rfl rfl (by first | rfl | exact decide_eq_true (by omega) | exact decide_eq_false (by omega) | (simp; done) | (simp; omega))) rfl (.tmp rfl rfl) (.tmp rfl rfl) (by first | rfl | exact decide_eq_true (by omega) | exact decide_eq_false (by omega) | (simp; done) | (simp; omega)))
                          (.c (S.pickF .none rfl (.tmp rfl rfl) (.tmp rfl rfl) (by first | rfl | exact decide_eq_true (by omega) | exact decide_eq_false (by omega) | (simp; done) | (simp; omega)))
                          .nil))))))))))))))))))))))))))))) (by kernel_rfl) ?_
                        refine Ab.D.code ?_
                        refine OK.condD rfl rfl (fun c163 => ?_) (fun c163 => ?_)
                        ·
                          first | exact absurd c163 (by decide) | (rw [hT, hzs] at c163; exact absurd rfl c163)
                        ·
                          refine OK.skip ?_
                          refine Ab.D.code ?_
                          refine OK.seq ?_
                          refine OK.seq ?_
                          refine OK.reg ?_
                          refine RK.c (S.move .none rfl (.tmp rfl rfl)) ?_
                          refine RK.c (S.neq .none rfl (.tmp rfl rfl) (.cint rfl)) ?_
                          refine RK.nil ?_
                          refine Ab.D.code ?_
                          refine OK.condD rfl rfl (fun c165 => ?_) (fun c165 => ?_)
                          ·
                            have hPr : placedE l peak = peakE peak := by unfold placedE; rw [if_neg (by omega), if_pos c165]
                            rw [if_neg (show ¬ placedE l peak = 0 by omega)]
                            refine OK.seq ?_
                            refine OK.reg ?_
                            refine RK.c (S.move .none rfl (.tmp rfl rfl)) ?_
                            refine RK.c (S.move .none rfl (.tmp rfl rfl)) ?_
                            refine RK.c (S.eql .none rfl (.tmp rfl rfl) (.tmp rfl rfl)) ?_
                            refine RK.c (S.move .none rfl (.tmp rfl rfl)) ?_
                            refine RK.splitD (t := 169) rfl (fun g169 => ?_) (fun g169 => ?_)
                            ·
                              refine RK.c (S.move (.yes rfl rfl rfl rfl) rfl (.tmp rfl rfl)) ?_
                              refine RK.c (S.lenM si30 (.yes rfl rfl rfl rfl) rfl (.tmp rfl rfl)) ?_
                              refine RK.c (S.eql (.yes rfl rfl rfl rfl) rfl (.tmp rfl rfl) (.cint rfl)) ?_
                              refine RK.c (S.pickT .none rfl (.tmp rfl rfl) (.tmp rfl rfl) rfl) ?_
                              refine RK.c (S.assign .none rfl (.tmp rfl rfl)) ?_
                              refine RK.nil ?_
                              refine Ab.D.code ?_
                              refine OK.ret (Ret.r1 (.tmp rfl rfl (.c (.same rfl) rfl) rfl) ?_)
                              first | rfl | exact ret_dT rfl | exact ret_dT trivial | (refine ret_dT ?_; omega)
                            ·
                              exact absurd hPr g169
                          ·
                            have hP0 : peakE peak = 0 := Decidable.not_not.1 c165
                            have hPl : placedE l peak = if greatR l peak = true then 12 else 0 := by unfold placedE; rw [if_neg (by omega), if_neg (by omega)]; rfl
                            refine OK.skip ?_
                            refine Ab.D.code ?_
                            refine OK.seq ?_
                            refine OK.reg ?_
                            refine RK.c (S.move .none rfl (.tmp rfl rfl)) ?_
                            refine RK.c (S.move .none rfl (.tmp rfl rfl)) ?_
                            refine RK.c (S.call (ref9_Placed hl hB) Tryz.call44 .none rfl (.cons (.tmp rfl rfl) (.cons (.tmp rfl rfl) .nil)) rfl) ?_
                            refine RK.c (S.move .none rfl (.tmp rfl rfl)) ?_
                            refine RK.c (S.extract .none rfl (.tmp rfl rfl) rfl rfl) ?_
                            refine RK.c (S.extract .none rfl (.tmp rfl rfl) rfl rfl) ?_
                            refine RK.c (S.assign .none rfl (.tmp rfl rfl)) ?_
                            refine RK.c (S.assign .none rfl (.tmp rfl rfl)) ?_
                            refine RK.nil ?_
                            refine Ab.D.code ?_
                            refine OK.seq ?_
                            refine OK.reg ?_
                            refine RK.c (S.move .none rfl (.tmp rfl rfl)) ?_
                            refine RK.c (S.move .none rfl (.tmp rfl rfl)) ?_
                            refine RK.split (t := 181) rfl (fun g181 => ?_) (fun g181 => ?_)
                            ·
                              have hg : greatR l peak = false := by simpa using g181
                              rw [hg, if_neg (by decide)] at hPl
                              rw [if_pos hPl]
                              refine RK.c (S.move (.yes rfl rfl rfl rfl) rfl (.tmp rfl rfl)) ?_
                              refine RK.c (S.eql (.yes rfl rfl rfl rfl) rfl (.tmp rfl rfl) (.cint rfl)) ?_
                              refine RK.c (S.pickT .none rfl (.tmp rfl rfl) (.tmp rfl rfl) rfl) ?_
                              refine RK.c (S.move .none rfl (.tmp rfl rfl)) ?_
                              refine RK.splitD (t := 185) rfl (fun g185 => ?_) (fun g185 => ?_)
                              ·
                                refine RK.c (S.move (.yes rfl rfl rfl rfl) rfl (.tmp rfl rfl)) ?_
                                refine RK.c (S.move (.yes rfl rfl rfl rfl) rfl (.tmp rfl rfl)) ?_
                                refine RK.c (S.call (base_Ints) Tryz.call24 (.yes rfl rfl rfl rfl) rfl (.cons (.tmp rfl rfl) (.cons (.tmp rfl rfl) .nil)) rfl) ?_
                                refine RK.c (S.pickT .none rfl (.tmp rfl rfl) (.tmp rfl rfl) rfl) ?_
                                refine RK.c (S.move .none rfl (.tmp rfl rfl)) ?_
                                refine RK.splitD (t := 190) rfl (fun g190 => ?_) (fun g190 => ?_)
                                ·
                                  refine RK.c (S.skip rfl rfl rfl rfl rfl) ?_
                                  refine RK.c (S.skip rfl rfl rfl rfl rfl) ?_
                                  refine RK.c (S.skip rfl rfl rfl rfl rfl) ?_
                                  refine RK.c (S.skipU rfl rfl rfl rfl) ?_
                                  refine RK.c (S.skipU rfl rfl rfl rfl) ?_
                                  refine RK.c (S.skip rfl rfl rfl rfl rfl) ?_
                                  refine RK.c (S.skip rfl rfl rfl rfl rfl) ?_
                                  refine RK.c (S.skipU rfl rfl rfl rfl) ?_
                                  refine RK.c (S.skipU rfl rfl rfl rfl) ?_
                                  refine RK.c (S.skipU rfl rfl rfl rfl) ?_
                                  refine RK.c (S.skip rfl rfl rfl rfl rfl) ?_
                                  refine RK.c (S.pickT .none rfl (.tmp rfl rfl) .cbool rfl) ?_
                                  refine RK.c (S.assign .none rfl (.tmp rfl rfl)) ?_
                                  refine RK.nil ?_
                                  refine Ab.D.code ?_
                                  refine OK.ret (Ret.r1 (.tmp rfl rfl (.c (.same rfl) rfl) rfl) ?_)
                                  first | rfl | exact ret_dT rfl | exact ret_dT trivial | (refine ret_dT ?_; omega)
                                ·
                                  first | exact absurd rfl g190 | (rw [hg] at g190; exact absurd rfl g190)
                              ·
                                exact absurd hPl g185
                            ·
                              have hg : greatR l peak = true := by simpa using g181
                              rw [hg, if_pos rfl] at hPl
                              rw [if_neg (show ¬ placedE l peak = 0 by omega)]
                              refine RK.c (S.skip rfl rfl rfl rfl rfl) ?_
                              refine RK.c (S.skip rfl rfl rfl rfl rfl) ?_
                              refine RK.c (S.pickF .none rfl (.tmp rfl rfl) .cbool rfl) ?_
                              refine RK.c (S.move .none rfl (.tmp rfl rfl)) ?_
                              refine RK.c (S.skip rfl rfl rfl rfl rfl) ?_
                              refine RK.c (S.skip rfl rfl rfl rfl rfl) ?_
                              refine RK.c (S.skip rfl rfl rfl rfl rfl) ?_
                              refine RK.c (S.pickF .none rfl (.tmp rfl rfl) .cbool rfl) ?_
                              refine RK.c (S.move .none rfl (.tmp rfl rfl)) ?_
                              refine RK.c (S.move (.yes rfl rfl rfl rfl) rfl (.tmp rfl rfl)) ?_
                              refine RK.c (S.not (.yes rfl rfl rfl rfl) rfl (.tmp rfl rfl)) ?_
                              refine RK.c (S.move (.yes rfl rfl rfl rfl) rfl (.tmp rfl rfl)) ?_
                              refine RK.split (t := 193) rfl (fun g193 => ?_) (fun g193 => ?_)
                              ·
                                refine RK.c (S.move (.yes rfl rfl rfl rfl) rfl (.tmp rfl rfl)) ?_
                                refine RK.c (S.eql (.yes rfl rfl rfl rfl) rfl (.tmp rfl rfl) (.cint rfl)) ?_
                                refine RK.c (S.pickT (.yes rfl rfl rfl rfl) rfl (.tmp rfl rfl) (.tmp rfl rfl) rfl) ?_
                                refine RK.c (S.move (.yes rfl rfl rfl rfl) rfl (.tmp rfl rfl)) ?_
                                refine RK.splitD (t := 197) rfl (fun g197 => ?_) (fun g197 => ?_)
                                ·
                                  refine RK.c (S.move (.yes rfl rfl rfl rfl) rfl (.tmp rfl rfl)) ?_
                                  refine RK.c (S.lenM si30 (.yes rfl rfl rfl rfl) rfl (.tmp rfl rfl)) ?_
                                  refine RK.c (S.eql (.yes rfl rfl rfl rfl) rfl (.tmp rfl rfl) (.cint rfl)) ?_
                                  refine RK.c (S.pickT (.yes rfl rfl rfl rfl) rfl (.tmp rfl rfl) (.tmp rfl rfl) rfl) ?_
                                  refine RK.c (S.pickF .none rfl (.tmp rfl rfl) (.tmp rfl rfl) rfl) ?_
                                  refine RK.c (S.assign .none rfl (.tmp rfl rfl)) ?_
                                  refine RK.nil ?_
                                  refine Ab.D.code ?_
                                  refine OK.ret (Ret.r1 (.tmp rfl rfl (.c (.same rfl) rfl) rfl) ?_)
                                  first | rfl | exact ret_dT rfl | exact ret_dT trivial | (refine ret_dT ?_; omega)
                                ·
                                  exact absurd hPl g197
                              ·
                                first | (rw [hg] at g193; cases g193) | (simp at g193; rw [hg] at g193; cases g193)
                    ·
                      refine OK.skip ?_
                      refine Ab.D.code ?_
                      refine OK.seq ?_
                      refine OK.seq ?_
                      by_cases g137 : earlForE l x peak ≠ 0
                      ·
                        refine OK.regionDraw follows (.c (S.move .none rfl (.tmp rfl rfl))
                          (.c (S.neq .none rfl (.tmp rfl rfl) (.cint rfl))
                          (.c (S.move .none rfl (.tmp rfl rfl))
                          (.c (S.move (.yes rfl rfl rfl (by first | rfl | exact decide_eq_true (by omega) | exact decide_eq_false (by omega) | (simp; done) | (simp; omega))) rfl (.tmp rfl rfl))
                          (.c (S.move (.yes rfl rfl rfl (by first | rfl | exact decide_eq_true (by omega) | exact decide_eq_false (by omega) | (simp; done) | (simp; omega))) rfl (.tmp rfl rfl))
                          (.c (S.neq (.yes rfl rfl rfl (by first | rfl | exact decide_eq_true (by omega) | exact decide_eq_false (by omega) | (simp; done) | (simp; omega))) rfl (.tmp rfl rfl) (.tmp rfl rfl))
                          (.c (S.move (.yes rfl rfl rfl (by first | rfl | exact decide_eq_true (by omega) | exact decide_eq_false (by omega) | (simp; done) | (simp; omega))) rfl (.tmp rfl rfl))
                          (.c (S.move (.yes rfl rfl rfl (by first | rfl | exact decide_eq_true (by omega) | exact decide_eq_false (by omega) | (simp; done) | (simp; omega))) rfl (.tmp rfl rfl))
                          (.c (S.neq (.yes rfl rfl rfl (by first | rfl | exact decide_eq_true (by omega) | exact decide_eq_false (by omega) | (simp; done) | (simp; omega))) rfl (.tmp rfl rfl) (.cint rfl))
                          (.c (S.pickF (.yes rfl rfl rfl (by first | rfl | exact decide_eq_true (by omega) | exact decide_eq_false (by omega) | (simp; done) | (simp; omega))) rfl (.tmp rfl rfl) (.tmp rfl rfl) (by first | rfl | exact decide_eq_true (by omega) | exact decide_eq_false (by omega) | (simp; done) | (simp; omega)))
                          (.c (S.pickT .none rfl (.tmp rfl rfl) (.tmp rfl rfl) (by first | rfl | exact decide_eq_true (by omega) | exact decide_eq_false (by omega) | (simp; done) | (simp; omega)))
                          (.c (S.move .none rfl (.tmp rfl rfl))
                          (.c (S.move (.yes rfl rfl rfl (by first | rfl | exact decide_eq_true (by omega) | exact decide_eq_false (by omega) | (simp; done) | (simp; omega))) rfl (.tmp rfl rfl))
                          (.c (S.eql (.yes rfl rfl rfl (by first | rfl | exact decide_eq_true (by omega) | exact decide_eq_false (by omega) | (simp; done) | (simp; omega))) rfl (.tmp rfl rfl) (.cint rfl))
                          (.c (S.move (.yes rfl rfl rfl (by first | rfl | exact decide_eq_true (by omega) | exact decide_eq_false (by omega) | (simp; done) | (simp; omega))) rfl (.tmp rfl rfl))
                          (.c (S.skip rfl rfl rfl (by first | rfl | exact decide_eq_true (by omega) | exact decide_eq_false (by omega) | (simp; done) | (simp; omega)) rfl)
                          (.c (S.skip rfl rfl rfl (by first | rfl | exact decide_eq_true (by omega) | exact decide_eq_false (by omega) | (simp; done) | (simp; omega)) rfl)
                          (.c (S.skip rfl rfl rfl (by first | rfl | exact decide_eq_true (by omega) | exact decide_eq_false (by omega) | (simp; done) | (simp; omega)) rfl)
                          (.c (S.skipU rfl rfl rfl rfl)
                          (.c (S.skipU rfl rfl rfl rfl)
                          (.c (S.skipU rfl rfl rfl rfl)
                          (.c (S.skipU rfl rfl rfl rfl)
                          (.c (S.skipU rfl rfl rfl rfl)
                          (.c (S.skipU rfl rfl rfl rfl)
                          (.c (S.skipU rfl rfl rfl rfl)
                          (.c (S.skipU rfl rfl rfl rfl)
                          (.c (S.skip rfl rfl rfl (by first | rfl | exact decide_eq_true (by omega) | exact decide_eq_false (by omega) | (simp; done) | (simp; omega)) rfl)
                          (.c (S.pickF (.yes rfl rfl rfl (by first | rfl | exact decide_eq_true (by omega) | exact decide_eq_false (by omega) | (simp; done) | (simp; omega))) rfl (.tmp rfl rfl) .cbool (by first | rfl | exact decide_eq_true (by omega) | exact decide_eq_false (by omega) | (simp; done) | (simp; omega)))
                          (.c (S.pickF .none rfl (.tmp rfl rfl) (.tmp rfl rfl) (by first | rfl | exact decide_eq_true (by omega) | exact decide_eq_false (by omega) | (simp; done) | (simp; omega)))
                          .nil))))))))))))))))))))))))))))) (by kernel_rfl) ?_
                        refine Ab.D.code ?_
                        refine OK.condF rfl rfl rfl ?_
                        refine OK.skip ?_
                        refine Ab.D.code ?_
                        refine OK.seq ?_
                        refine OK.seq ?_
                        refine OK.reg ?_
                        refine RK.c (S.move .none rfl (.tmp rfl rfl)) ?_
                        refine RK.c (S.neq .none rfl (.tmp rfl rfl) (.cint rfl)) ?_
                        refine RK.nil ?_
                        refine Ab.D.code ?_
                        refine OK.condD rfl rfl (fun c165 => ?_) (fun c165 => ?_)
                        ·
                          have hPr : placedE l peak = peakE peak := by unfold placedE; rw [if_neg (by omega), if_pos c165]
                          rw [if_neg (show ¬ placedE l peak = 0 by omega)]
                          refine OK.seq ?_
                          refine OK.reg ?_
                          refine RK.c (S.move .none rfl (.tmp rfl rfl)) ?_
                          refine RK.c (S.move .none rfl (.tmp rfl rfl)) ?_
                          refine RK.c (S.eql .none rfl (.tmp rfl rfl) (.tmp rfl rfl)) ?_
                          refine RK.c (S.move .none rfl (.tmp rfl rfl)) ?_
                          refine RK.splitD (t := 169) rfl (fun g169 => ?_) (fun g169 => ?_)
                          ·
                            refine RK.c (S.move (.yes rfl rfl rfl rfl) rfl (.tmp rfl rfl)) ?_
                            refine RK.c (S.lenM si30 (.yes rfl rfl rfl rfl) rfl (.tmp rfl rfl)) ?_
                            refine RK.c (S.eql (.yes rfl rfl rfl rfl) rfl (.tmp rfl rfl) (.cint rfl)) ?_
                            refine RK.c (S.pickT .none rfl (.tmp rfl rfl) (.tmp rfl rfl) rfl) ?_
                            refine RK.c (S.assign .none rfl (.tmp rfl rfl)) ?_
                            refine RK.nil ?_
                            refine Ab.D.code ?_
                            refine OK.ret (Ret.r1 (.tmp rfl rfl (.c (.same rfl) rfl) rfl) ?_)
                            first | rfl | exact ret_dT rfl | exact ret_dT trivial | (refine ret_dT ?_; omega)
                          ·
                            exact absurd hPr g169
                        ·
                          have hP0 : peakE peak = 0 := Decidable.not_not.1 c165
                          have hPl : placedE l peak = if greatR l peak = true then 12 else 0 := by unfold placedE; rw [if_neg (by omega), if_neg (by omega)]; rfl
                          refine OK.skip ?_
                          refine Ab.D.code ?_
                          refine OK.seq ?_
                          refine OK.reg ?_
                          refine RK.c (S.move .none rfl (.tmp rfl rfl)) ?_
                          refine RK.c (S.move .none rfl (.tmp rfl rfl)) ?_
                          refine RK.c (S.call (ref9_Placed hl hB) Tryz.call44 .none rfl (.cons (.tmp rfl rfl) (.cons (.tmp rfl rfl) .nil)) rfl) ?_
                          refine RK.c (S.move .none rfl (.tmp rfl rfl)) ?_
                          refine RK.c (S.extract .none rfl (.tmp rfl rfl) rfl rfl) ?_
                          refine RK.c (S.extract .none rfl (.tmp rfl rfl) rfl rfl) ?_
                          refine RK.c (S.assign .none rfl (.tmp rfl rfl)) ?_
                          refine RK.c (S.assign .none rfl (.tmp rfl rfl)) ?_
                          refine RK.nil ?_
                          refine Ab.D.code ?_
                          refine OK.seq ?_
                          refine OK.reg ?_
                          refine RK.c (S.move .none rfl (.tmp rfl rfl)) ?_
                          refine RK.c (S.move .none rfl (.tmp rfl rfl)) ?_
                          refine RK.split (t := 181) rfl (fun g181 => ?_) (fun g181 => ?_)
                          ·
                            have hg : greatR l peak = false := by simpa using g181
                            rw [hg, if_neg (by decide)] at hPl
                            rw [if_pos hPl]
                            refine RK.c (S.move (.yes rfl rfl rfl rfl) rfl (.tmp rfl rfl)) ?_
                            refine RK.c (S.eql (.yes rfl rfl rfl rfl) rfl (.tmp rfl rfl) (.cint rfl)) ?_
                            refine RK.c (S.pickT .none rfl (.tmp rfl rfl) (.tmp rfl rfl) rfl) ?_
                            refine RK.c (S.move .none rfl (.tmp rfl rfl)) ?_
                            refine RK.splitD (t := 185) rfl (fun g185 => ?_) (fun g185 => ?_)
                            ·
                              refine RK.c (S.move (.yes rfl rfl rfl rfl) rfl (.tmp rfl rfl)) ?_
                              refine RK.c (S.move (.yes rfl rfl rfl rfl) rfl (.tmp rfl rfl)) ?_
                              refine RK.c (S.call (base_Ints) Tryz.call24 (.yes rfl rfl rfl rfl) rfl (.cons (.tmp rfl rfl) (.cons (.tmp rfl rfl) .nil)) rfl) ?_
                              refine RK.c (S.pickT .none rfl (.tmp rfl rfl) (.tmp rfl rfl) rfl) ?_
                              refine RK.c (S.move .none rfl (.tmp rfl rfl)) ?_
                              refine RK.splitD (t := 190) rfl (fun g190 => ?_) (fun g190 => ?_)
                              ·
                                refine RK.c (S.skip rfl rfl rfl rfl rfl) ?_
                                refine RK.c (S.skip rfl rfl rfl rfl rfl) ?_
                                refine RK.c (S.skip rfl rfl rfl rfl rfl) ?_
                                refine RK.c (S.skipU rfl rfl rfl rfl) ?_
                                refine RK.c (S.skipU rfl rfl rfl rfl) ?_
                                refine RK.c (S.skip rfl rfl rfl rfl rfl) ?_
                                refine RK.c (S.skip rfl rfl rfl rfl rfl) ?_
                                refine RK.c (S.skipU rfl rfl rfl rfl) ?_
                                refine RK.c (S.skipU rfl rfl rfl rfl) ?_
                                refine RK.c (S.skipU rfl rfl rfl rfl) ?_
                                refine RK.c (S.skip rfl rfl rfl rfl rfl) ?_
                                refine RK.c (S.pickT .none rfl (.tmp rfl rfl) .cbool rfl) ?_
                                refine RK.c (S.assign .none rfl (.tmp rfl rfl)) ?_
                                refine RK.nil ?_
                                refine Ab.D.code ?_
                                refine OK.ret (Ret.r1 (.tmp rfl rfl (.c (.same rfl) rfl) rfl) ?_)
                                first | rfl | exact ret_dT rfl | exact ret_dT trivial | (refine ret_dT ?_; omega)
                              ·
                                first | exact absurd rfl g190 | (rw [hg] at g190; exact absurd rfl g190)
                            ·
                              exact absurd hPl g185
                          ·
                            have hg : greatR l peak = true := by simpa using g181
                            rw [hg, if_pos rfl] at hPl
                            rw [if_neg (show ¬ placedE l peak = 0 by omega)]
                            refine RK.c (S.skip rfl rfl rfl rfl rfl) ?_
                            refine RK.c (S.skip rfl rfl rfl rfl rfl) ?_
                            refine RK.c (S.pickF .none rfl (.tmp rfl rfl) .cbool rfl) ?_
                            refine RK.c (S.move .none rfl (.tmp rfl rfl)) ?_
                            refine RK.c (S.skip rfl rfl rfl rfl rfl) ?_
                            refine RK.c (S.skip rfl rfl rfl rfl rfl) ?_
                            refine RK.c (S.skip rfl rfl rfl rfl rfl) ?_
                            refine RK.c (S.pickF .none rfl (.tmp rfl rfl) .cbool rfl) ?_
                            refine RK.c (S.move .none rfl (.tmp rfl rfl)) ?_
                            refine RK.c (S.move (.yes rfl rfl rfl rfl) rfl (.tmp rfl rfl)) ?_
                            refine RK.c (S.not (.yes rfl rfl rfl rfl) rfl (.tmp rfl rfl)) ?_
                            refine RK.c (S.move (.yes rfl rfl rfl rfl) rfl (.tmp rfl rfl)) ?_
                            refine RK.split (t := 193) rfl (fun g193 => ?_) (fun g193 => ?_)
                            ·
                              refine RK.c (S.move (.yes rfl rfl rfl rfl) rfl (.tmp rfl rfl)) ?_
                              refine RK.c (S.eql (.yes rfl rfl rfl rfl) rfl (.tmp rfl rfl) (.cint rfl)) ?_
                              refine RK.c (S.pickT (.yes rfl rfl rfl rfl) rfl (.tmp rfl rfl) (.tmp rfl rfl) rfl) ?_
                              refine RK.c (S.move (.yes rfl rfl rfl rfl) rfl (.tmp rfl rfl)) ?_
                              refine RK.splitD (t := 197) rfl (fun g197 => ?_) (fun g197 => ?_)
                              ·
                                refine RK.c (S.move (.yes rfl rfl rfl rfl) rfl (.tmp rfl rfl)) ?_
                                refine RK.c (S.lenM si30 (.yes rfl rfl rfl rfl) rfl (.tmp rfl rfl)) ?_
                                refine RK.c (S.eql (.yes rfl rfl rfl rfl) rfl (.tmp rfl rfl) (.cint rfl)) ?_
                                refine RK.c (S.pickT (.yes rfl rfl rfl rfl) rfl (.tmp rfl rfl) (.tmp rfl rfl) rfl) ?_
                                refine RK.c (S.pickF .none rfl (.tmp rfl rfl) (.tmp rfl rfl) rfl) ?_
                                refine RK.c (S.assign .none rfl (.tmp rfl rfl)) ?_
                                refine RK.nil ?_
                                refine Ab.D.code ?_
                                refine OK.ret (Ret.r1 (.tmp rfl rfl (.c (.same rfl) rfl) rfl) ?_)
                                first | rfl | exact ret_dT rfl | exact ret_dT trivial | (refine ret_dT ?_; omega)
                              ·
                                exact absurd hPl g197
                            ·
                              first | (rw [hg] at g193; cases g193) | (simp at g193; rw [hg] at g193; cases g193)
                      ·
                        have hx0 : runE x = 0 := by omega
                        have hxB := (runE_0 hx0).mono (show (100000 : Int) ≤ 100000000 by omega)
                        have hxp : x.power ≤ peak := by omega
                        have hT : earlForT l x peak = earlT l x peak := if_pos (by omega)
                        refine OK.regionDraw follows (.c (S.move .none rfl (.tmp rfl rfl))
                          (.c (S.neq .none rfl (.tmp rfl rfl) (.cint rfl))
                          (.c (S.move .none rfl (.tmp rfl rfl))
                          (.c (S.skip rfl rfl rfl (by first | rfl | exact decide_eq_true (by omega) | exact decide_eq_false (by omega) | (simp; done) | (simp; omega)) rfl)
                          (.c (S.skip rfl rfl rfl (by first | rfl | exact decide_eq_true (by omega) | exact decide_eq_false (by omega) | (simp; done) | (simp; omega)) rfl)
                          (.c (S.skip rfl rfl rfl (by first | rfl | exact decide_eq_true (by omega) | exact decide_eq_false (by omega) | (simp; done) | (simp; omega)) rfl)
                          (.c (S.skip rfl rfl rfl (by first | rfl | exact decide_eq_true (by omega) | exact decide_eq_false (by omega) | (simp; done) | (simp; omega)) rfl)
                          (.c (S.skipU rfl rfl rfl rfl)
                          (.c (S.skipU rfl rfl rfl rfl)
                          (.c (S.skip rfl rfl rfl (by first | rfl | exact decide_eq_true (by omega) | exact decide_eq_false (by omega) | (simp; done) | (simp; omega)) rfl)
                          (.c (S.pickF .none rfl (.tmp rfl rfl) .cbool (by first | rfl | exact decide_eq_true (by omega) | exact decide_eq_false (by omega) | (simp; done) | (simp; omega)))
                          (.c (S.move .none rfl (.tmp rfl rfl))
                          (.c (S.move (.yes rfl rfl rfl (by first | rfl | exact decide_eq_true (by omega) | exact decide_eq_false (by omega) | (simp; done) | (simp; omega))) rfl (.tmp rfl rfl))
                          (.c (S.eql (.yes rfl rfl rfl (by first | rfl | exact decide_eq_true (by omega) | exact decide_eq_false (by omega) | (simp; done) | (simp; omega))) rfl (.tmp rfl rfl) (.cint rfl))
                          (.c (S.move (.yes rfl rfl rfl (by first | rfl | exact decide_eq_true (by omega) | exact decide_eq_false (by omega) | (simp; done) | (simp; omega))) rfl (.tmp rfl rfl))
                          (.c (S.move (.yes rfl rfl rfl (by first | rfl | exact decide_eq_true (by omega) | exact decide_eq_false (by omega) | (simp; done) | (simp; omega))) rfl (.tmp rfl rfl))
                          (.c (S.neq (.yes rfl rfl rfl (by first | rfl | exact decide_eq_true (by omega) | exact decide_eq_false (by omega) | (simp; done) | (simp; omega))) rfl (.tmp rfl rfl) (.cint rfl))
                          (.c (S.move (.yes rfl rfl rfl (by first | rfl | exact decide_eq_true (by omega) | exact decide_eq_false (by omega) | (simp; done) | (simp; omega))) rfl (.tmp rfl rfl))
                          (.c (S.move (.yes rfl rfl rfl (by first | rfl | exact decide_eq_true (by omega) | exact decide_eq_false (by omega) | (simp; done) | (simp; omega))) rfl (.tmp rfl rfl))
                          (.c (S.move (.yes rfl rfl rfl (by first | rfl | exact decide_eq_true (by omega) | exact decide_eq_false (by omega) | (simp; done) | (simp; omega))) rfl (.tmp rfl rfl))
                          (.c (S.move (.yes rfl rfl rfl (by first | rfl | exact decide_eq_true (by omega) | exact decide_eq_false (by omega) | (simp; done) | (simp; omega))) rfl (.tmp rfl rfl))
                          (.c (S.call (ref9_Starts (by omega)) Tryz.call41 (.yes rfl rfl rfl (by first | rfl | exact decide_eq_true (by omega) | exact decide_eq_false (by omega) | (simp; done) | (simp; omega))) rfl (.cons (.tmp rfl rfl) .nil) rfl)
                          (.c (S.bloadN ti46 (.yes rfl rfl rfl (by first | rfl | exact decide_eq_true (by omega) | exact decide_eq_false (by omega) | (simp; done) | (simp; omega))) rfl (.tmp rfl rfl) rfl rfl rfl rfl)
                          (.c (S.move (.yes rfl rfl rfl (by first | rfl | exact decide_eq_true (by omega) | exact decide_eq_false (by omega) | (simp; done) | (simp; omega))) rfl (.tmp rfl rfl))
                          (.c (S.call (ref9_Earliest (l := l) (b := l.map (·.start)) hml (by omega) hB9 hxB hxp) Tryz.call43 (.yes rfl rfl rfl (by first | rfl | exact decide_eq_true (by omega) | exact decide_eq_false (by omega) | (simp; done) | (simp; omega))) rfl (.cons (.tmp rfl rfl) (.cons (.tmp rfl rfl) (.cons (.tmp rfl rfl) (.cons (.tmp rfl rfl) .nil)))) rfl)
                          (.c (S.neq (.yes rfl rfl rfl (by first | rfl | exact decide_eq_true (by omega) | exact decide_eq_false (by omega) | (simp; done) | (simp; omega))) rfl (.tmp rfl rfl) (.tmp rfl rfl))
                          (.c (S.pickF (.yes rfl rfl rfl (by first | rfl | exact decide_eq_true (by omega) | exact decide_eq_false (by omega) | (simp; done) | (simp; omega))) rfl (.tmp rfl rfl) (.tmp rfl rfl) (by first | rfl | exact decide_eq_true (by omega) | exact decide_eq_false (by omega) | (simp; done) | (simp; omega)))
                          (.c (S.pickT (.yes rfl rfl rfl (by first | rfl | exact decide_eq_true (by omega) | exact decide_eq_false (by omega) | (simp; done) | (simp; omega))) rfl (.tmp rfl rfl) (.tmp rfl rfl) (by first | rfl | exact decide_eq_true (by omega) | exact decide_eq_false (by omega) | (simp; done) | (simp; omega)))
                          (.c (S.pickF .none rfl (.tmp rfl rfl) (.tmp rfl rfl) (by first | rfl | exact decide_eq_true (by omega) | exact decide_eq_false (by omega) | (simp; done) | (simp; omega)))
                          .nil))))))))))))))))))))))))))))) (by kernel_rfl) ?_
                        refine Ab.D.code ?_
                        refine OK.condD rfl rfl (fun c163 => ?_) (fun c163 => ?_)
                        ·
                          first | exact absurd c163 (by decide) | (rw [hT, hzs] at c163; exact absurd rfl c163)
                        ·
                          refine OK.skip ?_
                          refine Ab.D.code ?_
                          refine OK.seq ?_
                          refine OK.seq ?_
                          refine OK.reg ?_
                          refine RK.c (S.move .none rfl (.tmp rfl rfl)) ?_
                          refine RK.c (S.neq .none rfl (.tmp rfl rfl) (.cint rfl)) ?_
                          refine RK.nil ?_
                          refine Ab.D.code ?_
                          refine OK.condD rfl rfl (fun c165 => ?_) (fun c165 => ?_)
                          ·
                            have hPr : placedE l peak = peakE peak := by unfold placedE; rw [if_neg (by omega), if_pos c165]
                            rw [if_neg (show ¬ placedE l peak = 0 by omega)]
                            refine OK.seq ?_
                            refine OK.reg ?_
                            refine RK.c (S.move .none rfl (.tmp rfl rfl)) ?_
                            refine RK.c (S.move .none rfl (.tmp rfl rfl)) ?_
                            refine RK.c (S.eql .none rfl (.tmp rfl rfl) (.tmp rfl rfl)) ?_
                            refine RK.c (S.move .none rfl (.tmp rfl rfl)) ?_
                            refine RK.splitD (t := 169) rfl (fun g169 => ?_) (fun g169 => ?_)
                            ·
                              refine RK.c (S.move (.yes rfl rfl rfl rfl) rfl (.tmp rfl rfl)) ?_
                              refine RK.c (S.lenM si30 (.yes rfl rfl rfl rfl) rfl (.tmp rfl rfl)) ?_
                              refine RK.c (S.eql (.yes rfl rfl rfl rfl) rfl (.tmp rfl rfl) (.cint rfl)) ?_
                              refine RK.c (S.pickT .none rfl (.tmp rfl rfl) (.tmp rfl rfl) rfl) ?_
                              refine RK.c (S.assign .none rfl (.tmp rfl rfl)) ?_
                              refine RK.nil ?_
                              refine Ab.D.code ?_
                              refine OK.ret (Ret.r1 (.tmp rfl rfl (.c (.same rfl) rfl) rfl) ?_)
                              first | rfl | exact ret_dT rfl | exact ret_dT trivial | (refine ret_dT ?_; omega)
                            ·
                              exact absurd hPr g169
                          ·
                            have hP0 : peakE peak = 0 := Decidable.not_not.1 c165
                            have hPl : placedE l peak = if greatR l peak = true then 12 else 0 := by unfold placedE; rw [if_neg (by omega), if_neg (by omega)]; rfl
                            refine OK.skip ?_
                            refine Ab.D.code ?_
                            refine OK.seq ?_
                            refine OK.reg ?_
                            refine RK.c (S.move .none rfl (.tmp rfl rfl)) ?_
                            refine RK.c (S.move .none rfl (.tmp rfl rfl)) ?_
                            refine RK.c (S.call (ref9_Placed hl hB) Tryz.call44 .none rfl (.cons (.tmp rfl rfl) (.cons (.tmp rfl rfl) .nil)) rfl) ?_
                            refine RK.c (S.move .none rfl (.tmp rfl rfl)) ?_
                            refine RK.c (S.extract .none rfl (.tmp rfl rfl) rfl rfl) ?_
                            refine RK.c (S.extract .none rfl (.tmp rfl rfl) rfl rfl) ?_
                            refine RK.c (S.assign .none rfl (.tmp rfl rfl)) ?_
                            refine RK.c (S.assign .none rfl (.tmp rfl rfl)) ?_
                            refine RK.nil ?_
                            refine Ab.D.code ?_
                            refine OK.seq ?_
                            refine OK.reg ?_
                            refine RK.c (S.move .none rfl (.tmp rfl rfl)) ?_
                            refine RK.c (S.move .none rfl (.tmp rfl rfl)) ?_
                            refine RK.split (t := 181) rfl (fun g181 => ?_) (fun g181 => ?_)
                            ·
                              have hg : greatR l peak = false := by simpa using g181
                              rw [hg, if_neg (by decide)] at hPl
                              rw [if_pos hPl]
                              refine RK.c (S.move (.yes rfl rfl rfl rfl) rfl (.tmp rfl rfl)) ?_
                              refine RK.c (S.eql (.yes rfl rfl rfl rfl) rfl (.tmp rfl rfl) (.cint rfl)) ?_
                              refine RK.c (S.pickT .none rfl (.tmp rfl rfl) (.tmp rfl rfl) rfl) ?_
                              refine RK.c (S.move .none rfl (.tmp rfl rfl)) ?_
                              refine RK.splitD (t := 185) rfl (fun g185 => ?_) (fun g185 => ?_)
                              ·
                                refine RK.c (S.move (.yes rfl rfl rfl rfl) rfl (.tmp rfl rfl)) ?_
                                refine RK.c (S.move (.yes rfl rfl rfl rfl) rfl (.tmp rfl rfl)) ?_
                                refine RK.c (S.call (base_Ints) Tryz.call24 (.yes rfl rfl rfl rfl) rfl (.cons (.tmp rfl rfl) (.cons (.tmp rfl rfl) .nil)) rfl) ?_
                                refine RK.c (S.pickT .none rfl (.tmp rfl rfl) (.tmp rfl rfl) rfl) ?_
                                refine RK.c (S.move .none rfl (.tmp rfl rfl)) ?_
                                refine RK.splitD (t := 190) rfl (fun g190 => ?_) (fun g190 => ?_)
                                ·
                                  refine RK.c (S.skip rfl rfl rfl rfl rfl) ?_
                                  refine RK.c (S.skip rfl rfl rfl rfl rfl) ?_
                                  refine RK.c (S.skip rfl rfl rfl rfl rfl) ?_
                                  refine RK.c (S.skipU rfl rfl rfl rfl) ?_
                                  refine RK.c (S.skipU rfl rfl rfl rfl) ?_
                                  refine RK.c (S.skip rfl rfl rfl rfl rfl) ?_
                                  refine RK.c (S.skip rfl rfl rfl rfl rfl) ?_
                                  refine RK.c (S.skipU rfl rfl rfl rfl) ?_
                                  refine RK.c (S.skipU rfl rfl rfl rfl) ?_
                                  refine RK.c (S.skipU rfl rfl rfl rfl) ?_
                                  refine RK.c (S.skip rfl rfl rfl rfl rfl) ?_
                                  refine RK.c (S.pickT .none rfl (.tmp rfl rfl) .cbool rfl) ?_
                                  refine RK.c (S.assign .none rfl (.tmp rfl rfl)) ?_
                                  refine RK.nil ?_
                                  refine Ab.D.code ?_
                                  refine OK.ret (Ret.r1 (.tmp rfl rfl (.c (.same rfl) rfl) rfl) ?_)
                                  first | rfl | exact ret_dT rfl | exact ret_dT trivial | (refine ret_dT ?_; omega)
                                ·
                                  first | exact absurd rfl g190 | (rw [hg] at g190; exact absurd rfl g190)
                              ·
                                exact absurd hPl g185
                            ·
                              have hg : greatR l peak = true := by simpa using g181
                              rw [hg, if_pos rfl] at hPl
                              rw [if_neg (show ¬ placedE l peak = 0 by omega)]
                              refine RK.c (S.skip rfl rfl rfl rfl rfl) ?_
                              refine RK.c (S.skip rfl rfl rfl rfl rfl) ?_
                              refine RK.c (S.pickF .none rfl (.tmp rfl rfl) .cbool rfl) ?_
                              refine RK.c (S.move .none rfl (.tmp rfl rfl)) ?_
                              refine RK.c (S.skip rfl rfl rfl rfl rfl) ?_
                              refine RK.c (S.skip rfl rfl rfl rfl rfl) ?_
                              refine RK.c (S.skip rfl rfl rfl rfl rfl) ?_
                              refine RK.c (S.pickF .none rfl (.tmp rfl rfl) .cbool rfl) ?_
                              refine RK.c (S.move .none rfl (.tmp rfl rfl)) ?_
                              refine RK.c (S.move (.yes rfl rfl rfl rfl) rfl (.tmp rfl rfl)) ?_
                              refine RK.c (S.not (.yes rfl rfl rfl rfl) rfl (.tmp rfl rfl)) ?_
                              refine RK.c (S.move (.yes rfl rfl rfl rfl) rfl (.tmp rfl rfl)) ?_
                              refine RK.split (t := 193) rfl (fun g193 => ?_) (fun g193 => ?_)
                              ·
                                refine RK.c (S.move (.yes rfl rfl rfl rfl) rfl (.tmp rfl rfl)) ?_
                                refine RK.c (S.eql (.yes rfl rfl rfl rfl) rfl (.tmp rfl rfl) (.cint rfl)) ?_
                                refine RK.c (S.pickT (.yes rfl rfl rfl rfl) rfl (.tmp rfl rfl) (.tmp rfl rfl) rfl) ?_
                                refine RK.c (S.move (.yes rfl rfl rfl rfl) rfl (.tmp rfl rfl)) ?_
                                refine RK.splitD (t := 197) rfl (fun g197 => ?_) (fun g197 => ?_)
                                ·
                                  refine RK.c (S.move (.yes rfl rfl rfl rfl) rfl (.tmp rfl rfl)) ?_
                                  refine RK.c (S.lenM si30 (.yes rfl rfl rfl rfl) rfl (.tmp rfl rfl)) ?_
                                  refine RK.c (S.eql (.yes rfl rfl rfl rfl) rfl (.tmp rfl rfl) (.cint rfl)) ?_
                                  refine RK.c (S.pickT (.yes rfl rfl rfl rfl) rfl (.tmp rfl rfl) (.tmp rfl rfl) rfl) ?_
                                  refine RK.c (S.pickF .none rfl (.tmp rfl rfl) (.tmp rfl rfl) rfl) ?_
                                  refine RK.c (S.assign .none rfl (.tmp rfl rfl)) ?_
                                  refine RK.nil ?_
                                  refine Ab.D.code ?_
                                  refine OK.ret (Ret.r1 (.tmp rfl rfl (.c (.same rfl) rfl) rfl) ?_)
                                  first | rfl | exact ret_dT rfl | exact ret_dT trivial | (refine ret_dT ?_; omega)
                                ·
                                  exact absurd hPl g197
                              ·
                                first | (rw [hg] at g193; cases g193) | (simp at g193; rw [hg] at g193; cases g193)
                  ·
                    refine RK.c (S.skip rfl rfl rfl rfl rfl) ?_
                    refine RK.c (S.skip rfl rfl rfl rfl rfl) ?_
                    refine RK.c (S.skip rfl rfl rfl rfl rfl) ?_
                    refine RK.c (S.skip rfl rfl rfl rfl rfl) ?_
                    refine RK.c (S.pickF .none rfl (.tmp rfl rfl) .cbool rfl) ?_
                    refine RK.nil ?_
                    refine Ab.D.code ?_
                    refine OK.condF rfl rfl rfl ?_
                    refine OK.skip ?_
                    refine Ab.D.code ?_
                    refine OK.seq ?_
                    refine OK.seq ?_
                    by_cases g137 : earlForE l x peak ≠ 0
                    ·
                      refine OK.regionDraw follows (.c (S.move .none rfl (.tmp rfl rfl))
                        (.c (S.neq .none rfl (.tmp rfl rfl) (.cint rfl))
                        (.c (S.move .none rfl (.tmp rfl rfl))
                        (.c (S.move (.yes rfl rfl rfl (by first | rfl | exact decide_eq_true (by omega) | exact decide_eq_false (by omega) | (simp; done) | (simp; omega))) rfl (.tmp rfl rfl))
                        (.c (S.move (.yes rfl rfl rfl (by first | rfl | exact decide_eq_true (by omega) | exact decide_eq_false (by omega) | (simp; done) | (simp; omega))) rfl (.tmp rfl rfl))
                        (.c (S.neq (.yes rfl rfl rfl (by first | rfl | exact decide_eq_true (by omega) | exact decide_eq_false (by omega) | (simp; done) | (simp; omega))) rfl (.tmp rfl rfl) (.tmp rfl rfl))
                        (.c (S.move (.yes rfl rfl rfl (by first | rfl | exact decide_eq_true (by omega) | exact decide_eq_false (by omega) | (simp; done) | (simp; omega))) rfl (.tmp rfl rfl))
                        (.c (S.move (.yes rfl rfl rfl (by first | rfl | exact decide_eq_true (by omega) | exact decide_eq_false (by omega) | (simp; done) | (simp; omega))) rfl (.tmp rfl rfl))
                        (.c (S.neq (.yes rfl rfl rfl (by first | rfl | exact decide_eq_true (by omega) | exact decide_eq_false (by omega) | (simp; done) | (simp; omega))) rfl (.tmp rfl rfl) (.cint rfl))
                        (.c (S.pickF (.yes rfl rfl rfl (by first | rfl | exact decide_eq_true (by omega) | exact decide_eq_false (by omega) | (simp; done) | (simp; omega))) rfl (.tmp rfl rfl) (.tmp rfl rfl) (by first | rfl | exact decide_eq_true (by omega) | exact decide_eq_false (by omega) | (simp; done) | (simp; omega)))
                        (.c (S.pickT .none rfl (.tmp rfl rfl) (.tmp rfl rfl) (by first | rfl | exact decide_eq_true (by omega) | exact decide_eq_false (by omega) | (simp; done) | (simp; omega)))
                        (.c (S.move .none rfl (.tmp rfl rfl))
                        (.c (S.move (.yes rfl rfl rfl (by first | rfl | exact decide_eq_true (by omega) | exact decide_eq_false (by omega) | (simp; done) | (simp; omega))) rfl (.tmp rfl rfl))
                        (.c (S.eql (.yes rfl rfl rfl (by first | rfl | exact decide_eq_true (by omega) | exact decide_eq_false (by omega) | (simp; done) | (simp; omega))) rfl (.tmp rfl rfl) (.cint rfl))
                        (.c (S.move (.yes rfl rfl rfl (by first | rfl | exact decide_eq_true (by omega) | exact decide_eq_false (by omega) | (simp; done) | (simp; omega))) rfl (.tmp rfl rfl))
                        (.c (S.skip rfl rfl rfl (by first | rfl | exact decide_eq_true (by omega) | exact decide_eq_false (by omega) | (simp; done) | (simp; omega)) rfl)
                        (.c (S.skip rfl rfl rfl (by first | rfl | exact decide_eq_true (by omega) | exact decide_eq_false (by omega) | (simp; done) | (simp; omega)) rfl)
                        (.c (S.skip rfl rfl rfl (by first | rfl | exact decide_eq_true (by omega) | exact decide_eq_false (by omega) | (simp; done) | (simp; omega)) rfl)
                        (.c (S.skipU rfl rfl rfl rfl)
                        (.c (S.skipU rfl rfl rfl rfl)
                        (.c (S.skipU rfl rfl rfl rfl)
                        (.c (S.skipU rfl rfl rfl rfl)
                        (.c (S.skipU rfl rfl rfl rfl)
                        (.c (S.skipU rfl rfl rfl rfl)
                        (.c (S.skipU rfl rfl rfl rfl)
                        (.c (S.skipU rfl rfl rfl rfl)
                        (.c (S.skip rfl rfl rfl (by first | rfl | exact decide_eq_true (by omega) | exact decide_eq_false (by omega) | (simp; done) | (simp; omega)) rfl)
                        (.c (S.pickF (.yes rfl rfl rfl (by first | rfl | exact decide_eq_true (by omega) | exact decide_eq_false (by omega) | (simp; done) | (simp; omega))) rfl (.tmp rfl rfl) .cbool (by first | rfl | exact decide_eq_true (by omega) | exact decide_eq_false (by omega) | (simp; done) | (simp; omega)))
                        (.c (S.pickF .none rfl (.tmp rfl rfl) (.tmp rfl rfl) (by first | rfl | exact decide_eq_true (by omega) | exact decide_eq_false (by omega) | (simp; done) | (simp; omega)))
                        .nil))))))))))))))))))))))))))))) (by kernel_rfl) ?_
                      refine Ab.D.code ?_
                      refine OK.condF rfl rfl rfl ?_
                      refine OK.skip ?_
                      refine Ab.D.code ?_
                      refine OK.seq ?_
                      refine OK.seq ?_
                      refine OK.reg ?_
                      refine RK.c (S.move .none rfl (.tmp rfl rfl)) ?_
                      refine RK.c (S.neq .none rfl (.tmp rfl rfl) (.cint rfl)) ?_
                      refine RK.nil ?_
                      refine Ab.D.code ?_
                      refine OK.condD rfl rfl (fun c165 => ?_) (fun c165 => ?_)
                      ·
                        have hPr : placedE l peak = peakE peak := by unfold placedE; rw [if_neg (by omega), if_pos c165]
                        rw [if_neg (show ¬ placedE l peak = 0 by omega)]
                        refine OK.seq ?_
                        refine OK.reg ?_
                        refine RK.c (S.move .none rfl (.tmp rfl rfl)) ?_
                        refine RK.c (S.move .none rfl (.tmp rfl rfl)) ?_
                        refine RK.c (S.eql .none rfl (.tmp rfl rfl) (.tmp rfl rfl)) ?_
                        refine RK.c (S.move .none rfl (.tmp rfl rfl)) ?_
                        refine RK.splitD (t := 169) rfl (fun g169 => ?_) (fun g169 => ?_)
                        ·
                          refine RK.c (S.move (.yes rfl rfl rfl rfl) rfl (.tmp rfl rfl)) ?_
                          refine RK.c (S.lenM si30 (.yes rfl rfl rfl rfl) rfl (.tmp rfl rfl)) ?_
                          refine RK.c (S.eql (.yes rfl rfl rfl rfl) rfl (.tmp rfl rfl) (.cint rfl)) ?_
                          refine RK.c (S.pickT .none rfl (.tmp rfl rfl) (.tmp rfl rfl) rfl) ?_
                          refine RK.c (S.assign .none rfl (.tmp rfl rfl)) ?_
                          refine RK.nil ?_
                          refine Ab.D.code ?_
                          refine OK.ret (Ret.r1 (.tmp rfl rfl (.c (.same rfl) rfl) rfl) ?_)
                          first | rfl | exact ret_dT rfl | exact ret_dT trivial | (refine ret_dT ?_; omega)
                        ·
                          exact absurd hPr g169
                      ·
                        have hP0 : peakE peak = 0 := Decidable.not_not.1 c165
                        have hPl : placedE l peak = if greatR l peak = true then 12 else 0 := by unfold placedE; rw [if_neg (by omega), if_neg (by omega)]; rfl
                        refine OK.skip ?_
                        refine Ab.D.code ?_
                        refine OK.seq ?_
                        refine OK.reg ?_
                        refine RK.c (S.move .none rfl (.tmp rfl rfl)) ?_
                        refine RK.c (S.move .none rfl (.tmp rfl rfl)) ?_
                        refine RK.c (S.call (ref9_Placed hl hB) Tryz.call44 .none rfl (.cons (.tmp rfl rfl) (.cons (.tmp rfl rfl) .nil)) rfl) ?_
                        refine RK.c (S.move .none rfl (.tmp rfl rfl)) ?_
                        refine RK.c (S.extract .none rfl (.tmp rfl rfl) rfl rfl) ?_
                        refine RK.c (S.extract .none rfl (.tmp rfl rfl) rfl rfl) ?_
                        refine RK.c (S.assign .none rfl (.tmp rfl rfl)) ?_
                        refine RK.c (S.assign .none rfl (.tmp rfl rfl)) ?_
                        refine RK.nil ?_
                        refine Ab.D.code ?_
                        refine OK.seq ?_
                        refine OK.reg ?_
                        refine RK.c (S.move .none rfl (.tmp rfl rfl)) ?_
                        refine RK.c (S.move .none rfl (.tmp rfl rfl)) ?_
                        refine RK.split (t := 181) rfl (fun g181 => ?_) (fun g181 => ?_)
                        ·
                          have hg : greatR l peak = false := by simpa using g181
                          rw [hg, if_neg (by decide)] at hPl
                          rw [if_pos hPl]
                          refine RK.c (S.move (.yes rfl rfl rfl rfl) rfl (.tmp rfl rfl)) ?_
                          refine RK.c (S.eql (.yes rfl rfl rfl rfl) rfl (.tmp rfl rfl) (.cint rfl)) ?_
                          refine RK.c (S.pickT .none rfl (.tmp rfl rfl) (.tmp rfl rfl) rfl) ?_
                          refine RK.c (S.move .none rfl (.tmp rfl rfl)) ?_
                          refine RK.splitD (t := 185) rfl (fun g185 => ?_) (fun g185 => ?_)
                          ·
                            refine RK.c (S.move (.yes rfl rfl rfl rfl) rfl (.tmp rfl rfl)) ?_
                            refine RK.c (S.move (.yes rfl rfl rfl rfl) rfl (.tmp rfl rfl)) ?_
                            refine RK.c (S.call (base_Ints) Tryz.call24 (.yes rfl rfl rfl rfl) rfl (.cons (.tmp rfl rfl) (.cons (.tmp rfl rfl) .nil)) rfl) ?_
                            refine RK.c (S.pickT .none rfl (.tmp rfl rfl) (.tmp rfl rfl) rfl) ?_
                            refine RK.c (S.move .none rfl (.tmp rfl rfl)) ?_
                            refine RK.splitD (t := 190) rfl (fun g190 => ?_) (fun g190 => ?_)
                            ·
                              refine RK.c (S.skip rfl rfl rfl rfl rfl) ?_
                              refine RK.c (S.skip rfl rfl rfl rfl rfl) ?_
                              refine RK.c (S.skip rfl rfl rfl rfl rfl) ?_
                              refine RK.c (S.skipU rfl rfl rfl rfl) ?_
                              refine RK.c (S.skipU rfl rfl rfl rfl) ?_
                              refine RK.c (S.skip rfl rfl rfl rfl rfl) ?_
                              refine RK.c (S.skip rfl rfl rfl rfl rfl) ?_
                              refine RK.c (S.skipU rfl rfl rfl rfl) ?_
                              refine RK.c (S.skipU rfl rfl rfl rfl) ?_
                              refine RK.c (S.skipU rfl rfl rfl rfl) ?_
                              refine RK.c (S.skip rfl rfl rfl rfl rfl) ?_
                              refine RK.c (S.pickT .none rfl (.tmp rfl rfl) .cbool rfl) ?_
                              refine RK.c (S.assign .none rfl (.tmp rfl rfl)) ?_
                              refine RK.nil ?_
                              refine Ab.D.code ?_
                              refine OK.ret (Ret.r1 (.tmp rfl rfl (.c (.same rfl) rfl) rfl) ?_)
                              first | rfl | exact ret_dT rfl | exact ret_dT trivial | (refine ret_dT ?_; omega)
                            ·
                              first | exact absurd rfl g190 | (rw [hg] at g190; exact absurd rfl g190)
                          ·
                            exact absurd hPl g185
                        ·
                          have hg : greatR l peak = true := by simpa using g181
                          rw [hg, if_pos rfl] at hPl
                          rw [if_neg (show ¬ placedE l peak = 0 by omega)]
                          refine RK.c (S.skip rfl rfl rfl rfl rfl) ?_
                          refine RK.c (S.skip rfl rfl rfl rfl rfl) ?_
                          refine RK.c (S.pickF .none rfl (.tmp rfl rfl) .cbool rfl) ?_
                          refine RK.c (S.move .none rfl (.tmp rfl rfl)) ?_
                          refine RK.c (S.skip rfl rfl rfl rfl rfl) ?_
                          refine RK.c (S.skip rfl rfl rfl rfl rfl) ?_
                          refine RK.c (S.skip rfl rfl rfl rfl rfl) ?_
                          refine RK.c (S.pickF .none rfl (.tmp rfl rfl) .cbool rfl) ?_
                          refine RK.c (S.move .none rfl (.tmp rfl rfl)) ?_
                          refine RK.c (S.move (.yes rfl rfl rfl rfl) rfl (.tmp rfl rfl)) ?_
                          refine RK.c (S.not (.yes rfl rfl rfl rfl) rfl (.tmp rfl rfl)) ?_
                          refine RK.c (S.move (.yes rfl rfl rfl rfl) rfl (.tmp rfl rfl)) ?_
                          refine RK.split (t := 193) rfl (fun g193 => ?_) (fun g193 => ?_)
                          ·
                            refine RK.c (S.move (.yes rfl rfl rfl rfl) rfl (.tmp rfl rfl)) ?_
                            refine RK.c (S.eql (.yes rfl rfl rfl rfl) rfl (.tmp rfl rfl) (.cint rfl)) ?_
                            refine RK.c (S.pickT (.yes rfl rfl rfl rfl) rfl (.tmp rfl rfl) (.tmp rfl rfl) rfl) ?_
                            refine RK.c (S.move (.yes rfl rfl rfl rfl) rfl (.tmp rfl rfl)) ?_
                            refine RK.splitD (t := 197) rfl (fun g197 => ?_) (fun g197 => ?_)
                            ·
                              refine RK.c (S.move (.yes rfl rfl rfl rfl) rfl (.tmp rfl rfl)) ?_
                              refine RK.c (S.lenM si30 (.yes rfl rfl rfl rfl) rfl (.tmp rfl rfl)) ?_
                              refine RK.c (S.eql (.yes rfl rfl rfl rfl) rfl (.tmp rfl rfl) (.cint rfl)) ?_
                              refine RK.c (S.pickT (.yes rfl rfl rfl rfl) rfl (.tmp rfl rfl) (.tmp rfl rfl) rfl) ?_
                              refine RK.c (S.pickF .none rfl (.tmp rfl rfl) (.tmp rfl rfl) rfl) ?_
                              refine RK.c (S.assign .none rfl (.tmp rfl rfl)) ?_
                              refine RK.nil ?_
                              refine Ab.D.code ?_
                              refine OK.ret (Ret.r1 (.tmp rfl rfl (.c (.same rfl) rfl) rfl) ?_)
                              first | rfl | exact ret_dT rfl | exact ret_dT trivial | (refine ret_dT ?_; omega)
                            ·
                              exact absurd hPl g197
                          ·
                            first | (rw [hg] at g193; cases g193) | (simp at g193; rw [hg] at g193; cases g193)
                    ·
                      have hx0 : runE x = 0 := by omega
                      have hxB := (runE_0 hx0).mono (show (100000 : Int) ≤ 100000000 by omega)
                      have hxp : x.power ≤ peak := by omega
                      have hT : earlForT l x peak = earlT l x peak := if_pos (by omega)
                      refine OK.regionDraw follows (.c (S.move .none rfl (.tmp rfl rfl))
                        (.c (S.neq .none rfl (.tmp rfl rfl) (.cint rfl))
                        (.c (S.move .none rfl (.tmp rfl rfl))
                        (.c (S.skip rfl rfl rfl (by first | rfl | exact decide_eq_true (by omega) | exact decide_eq_false (by omega) | (simp; done) | (simp; omega)) rfl)
                        (.c (S.skip rfl rfl rfl (by first | rfl | exact decide_eq_true (by omega) | exact decide_eq_false (by omega) | (simp; done) | (simp; omega)) rfl)
                        (.c (S.skip rfl rfl rfl (by first | rfl | exact decide_eq_true (by omega) | exact decide_eq_false (by omega) | (simp; done) | (simp; omega)) rfl)
                        (.c (S.skip rfl rfl rfl (by first | rfl | exact decide_eq_true (by omega) | exact decide_eq_false (by omega) | (simp; done) | (simp; omega)) rfl)
                        (.c (S.skipU rfl rfl rfl rfl)
                        (.c (S.skipU rfl rfl rfl rfl)
                        (.c (S.skip rfl rfl rfl (by first | rfl | exact decide_eq_true (by omega) | exact decide_eq_false (by omega) | (simp; done) | (simp; omega)) rfl)
                        (.c (S.pickF .none rfl (.tmp rfl rfl) .cbool (by first | rfl | exact decide_eq_true (by omega) | exact decide_eq_false (by omega) | (simp; done) | (simp; omega)))
                        (.c (S.move .none rfl (.tmp rfl rfl))
                        (.c (S.move (.yes rfl rfl rfl (by first | rfl | exact decide_eq_true (by omega) | exact decide_eq_false (by omega) | (simp; done) | (simp; omega))) rfl (.tmp rfl rfl))
                        (.c (S.eql (.yes rfl rfl rfl (by first | rfl | exact decide_eq_true (by omega) | exact decide_eq_false (by omega) | (simp; done) | (simp; omega))) rfl (.tmp rfl rfl) (.cint rfl))
                        (.c (S.move (.yes rfl rfl rfl (by first | rfl | exact decide_eq_true (by omega) | exact decide_eq_false (by omega) | (simp; done) | (simp; omega))) rfl (.tmp rfl rfl))
                        (.c (S.move (.yes rfl rfl rfl (by first | rfl | exact decide_eq_true (by omega) | exact decide_eq_false (by omega) | (simp; done) | (simp; omega))) rfl (.tmp rfl rfl))
                        (.c (S.neq (.yes rfl rfl rfl (by first | rfl | exact decide_eq_true (by omega) | exact decide_eq_false (by omega) | (simp; done) | (simp; omega))) rfl (.tmp rfl rfl) (.cint rfl))
                        (.c (S.move (.yes rfl rfl rfl (by first | rfl | exact decide_eq_true (by omega) | exact decide_eq_false (by omega) | (simp; done) | (simp; omega))) rfl (.tmp rfl rfl))
                        (.c (S.move (.yes rfl rfl rfl (by first | rfl | exact decide_eq_true (by omega) | exact decide_eq_false (by omega) | (simp; done) | (simp; omega))) rfl (.tmp rfl rfl))
                        (.c (S.move (.yes rfl rfl rfl (by first | rfl | exact decide_eq_true (by omega) | exact decide_eq_false (by omega) | (simp; done) | (simp; omega))) rfl (.tmp rfl rfl))
                        (.c (S.move (.yes rfl rfl rfl (by first | rfl | exact decide_eq_true (by omega) | exact decide_eq_false (by omega) | (simp; done) | (simp; omega))) rfl (.tmp rfl rfl))
                        (.c (S.call (ref9_Starts (by omega)) Tryz.call41 (.yes rfl rfl rfl (by first | rfl | exact decide_eq_true (by omega) | exact decide_eq_false (by omega) | (simp; done) | (simp; omega))) rfl (.cons (.tmp rfl rfl) .nil) rfl)
                        (.c (S.bloadN ti46 (.yes rfl rfl rfl (by first | rfl | exact decide_eq_true (by omega) | exact decide_eq_false (by omega) | (simp; done) | (simp; omega))) rfl (.tmp rfl rfl) rfl rfl rfl rfl)
                        (.c (S.move (.yes rfl rfl rfl (by first | rfl | exact decide_eq_true (by omega) | exact decide_eq_false (by omega) | (simp; done) | (simp; omega))) rfl (.tmp rfl rfl))
                        (.c (S.call (ref9_Earliest (l := l) (b := l.map (·.start)) hml (by omega) hB9 hxB hxp) Tryz.call43 (.yes rfl rfl rfl (by first | rfl | exact decide_eq_true (by omega) | exact decide_eq_false (by omega) | (simp; done) | (simp; omega))) rfl (.cons (.tmp rfl rfl) (.cons (.tmp rfl rfl) (.cons (.tmp rfl rfl) (.cons (.tmp rfl rfl) .nil)))) rfl)
                        (.c (S.neq (.yes rfl rfl rfl (by first | rfl | exact decide_eq_true (by omega) | exact decide_eq_false (by omega) | (simp; done) | (simp; omega))) rfl (.tmp rfl rfl) (.tmp rfl rfl))
                        (.c (S.pickF (.yes rfl rfl rfl (by first | rfl | exact decide_eq_true (by omega) | exact decide_eq_false (by omega) | (simp; done) | (simp; omega))) rfl (.tmp rfl rfl) (.tmp rfl rfl) (by first | rfl | exact decide_eq_true (by omega) | exact decide_eq_false (by omega) | (simp; done) | (simp; omega)))
                        (.c (S.pickT (.yes rfl rfl rfl (by first | rfl | exact decide_eq_true (by omega) | exact decide_eq_false (by omega) | (simp; done) | (simp; omega))) rfl (.tmp rfl rfl) (.tmp rfl rfl) (by first | rfl | exact decide_eq_true (by omega) | exact decide_eq_false (by omega) | (simp; done) | (simp; omega)))
                        (.c (S.pickF .none rfl (.tmp rfl rfl) (.tmp rfl rfl) (by first | rfl | exact decide_eq_true (by omega) | exact decide_eq_false (by omega) | (simp; done) | (simp; omega)))
                        .nil))))))))))))))))))))))))))))) (by kernel_rfl) ?_
                      refine Ab.D.code ?_
                      refine OK.condD rfl rfl (fun c163 => ?_) (fun c163 => ?_)
                      ·
                        first | exact absurd c163 (by decide) | (rw [hT, hzs] at c163; exact absurd rfl c163)
                      ·
                        refine OK.skip ?_
                        refine Ab.D.code ?_
                        refine OK.seq ?_
                        refine OK.seq ?_
                        refine OK.reg ?_
                        refine RK.c (S.move .none rfl (.tmp rfl rfl)) ?_
                        refine RK.c (S.neq .none rfl (.tmp rfl rfl) (.cint rfl)) ?_
                        refine RK.nil ?_
                        refine Ab.D.code ?_
                        refine OK.condD rfl rfl (fun c165 => ?_) (fun c165 => ?_)
                        ·
                          have hPr : placedE l peak = peakE peak := by unfold placedE; rw [if_neg (by omega), if_pos c165]
                          rw [if_neg (show ¬ placedE l peak = 0 by omega)]
                          refine OK.seq ?_
                          refine OK.reg ?_
                          refine RK.c (S.move .none rfl (.tmp rfl rfl)) ?_
                          refine RK.c (S.move .none rfl (.tmp rfl rfl)) ?_
                          refine RK.c (S.eql .none rfl (.tmp rfl rfl) (.tmp rfl rfl)) ?_
                          refine RK.c (S.move .none rfl (.tmp rfl rfl)) ?_
                          refine RK.splitD (t := 169) rfl (fun g169 => ?_) (fun g169 => ?_)
                          ·
                            refine RK.c (S.move (.yes rfl rfl rfl rfl) rfl (.tmp rfl rfl)) ?_
                            refine RK.c (S.lenM si30 (.yes rfl rfl rfl rfl) rfl (.tmp rfl rfl)) ?_
                            refine RK.c (S.eql (.yes rfl rfl rfl rfl) rfl (.tmp rfl rfl) (.cint rfl)) ?_
                            refine RK.c (S.pickT .none rfl (.tmp rfl rfl) (.tmp rfl rfl) rfl) ?_
                            refine RK.c (S.assign .none rfl (.tmp rfl rfl)) ?_
                            refine RK.nil ?_
                            refine Ab.D.code ?_
                            refine OK.ret (Ret.r1 (.tmp rfl rfl (.c (.same rfl) rfl) rfl) ?_)
                            first | rfl | exact ret_dT rfl | exact ret_dT trivial | (refine ret_dT ?_; omega)
                          ·
                            exact absurd hPr g169
                        ·
                          have hP0 : peakE peak = 0 := Decidable.not_not.1 c165
                          have hPl : placedE l peak = if greatR l peak = true then 12 else 0 := by unfold placedE; rw [if_neg (by omega), if_neg (by omega)]; rfl
                          refine OK.skip ?_
                          refine Ab.D.code ?_
                          refine OK.seq ?_
                          refine OK.reg ?_
                          refine RK.c (S.move .none rfl (.tmp rfl rfl)) ?_
                          refine RK.c (S.move .none rfl (.tmp rfl rfl)) ?_
                          refine RK.c (S.call (ref9_Placed hl hB) Tryz.call44 .none rfl (.cons (.tmp rfl rfl) (.cons (.tmp rfl rfl) .nil)) rfl) ?_
                          refine RK.c (S.move .none rfl (.tmp rfl rfl)) ?_
                          refine RK.c (S.extract .none rfl (.tmp rfl rfl) rfl rfl) ?_
                          refine RK.c (S.extract .none rfl (.tmp rfl rfl) rfl rfl) ?_
                          refine RK.c (S.assign .none rfl (.tmp rfl rfl)) ?_
                          refine RK.c (S.assign .none rfl (.tmp rfl rfl)) ?_
                          refine RK.nil ?_
                          refine Ab.D.code ?_
                          refine OK.seq ?_
                          refine OK.reg ?_
                          refine RK.c (S.move .none rfl (.tmp rfl rfl)) ?_
                          refine RK.c (S.move .none rfl (.tmp rfl rfl)) ?_
                          refine RK.split (t := 181) rfl (fun g181 => ?_) (fun g181 => ?_)
                          ·
                            have hg : greatR l peak = false := by simpa using g181
                            rw [hg, if_neg (by decide)] at hPl
                            rw [if_pos hPl]
                            refine RK.c (S.move (.yes rfl rfl rfl rfl) rfl (.tmp rfl rfl)) ?_
                            refine RK.c (S.eql (.yes rfl rfl rfl rfl) rfl (.tmp rfl rfl) (.cint rfl)) ?_
                            refine RK.c (S.pickT .none rfl (.tmp rfl rfl) (.tmp rfl rfl) rfl) ?_
                            refine RK.c (S.move .none rfl (.tmp rfl rfl)) ?_
                            refine RK.splitD (t := 185) rfl (fun g185 => ?_) (fun g185 => ?_)
                            ·
                              refine RK.c (S.move (.yes rfl rfl rfl rfl) rfl (.tmp rfl rfl)) ?_
                              refine RK.c (S.move (.yes rfl rfl rfl rfl) rfl (.tmp rfl rfl)) ?_
                              refine RK.c (S.call (base_Ints) Tryz.call24 (.yes rfl rfl rfl rfl) rfl (.cons (.tmp rfl rfl) (.cons (.tmp rfl rfl) .nil)) rfl) ?_
                              refine RK.c (S.pickT .none rfl (.tmp rfl rfl) (.tmp rfl rfl) rfl) ?_
                              refine RK.c (S.move .none rfl (.tmp rfl rfl)) ?_
                              refine RK.splitD (t := 190) rfl (fun g190 => ?_) (fun g190 => ?_)
                              ·
                                refine RK.c (S.skip rfl rfl rfl rfl rfl) ?_
                                refine RK.c (S.skip rfl rfl rfl rfl rfl) ?_
                                refine RK.c (S.skip rfl rfl rfl rfl rfl) ?_
                                refine RK.c (S.skipU rfl rfl rfl rfl) ?_
                                refine RK.c (S.skipU rfl rfl rfl rfl) ?_
                                refine RK.c (S.skip rfl rfl rfl rfl rfl) ?_
                                refine RK.c (S.skip rfl rfl rfl rfl rfl) ?_
                                refine RK.c (S.skipU rfl rfl rfl rfl) ?_
                                refine RK.c (S.skipU rfl rfl rfl rfl) ?_
                                refine RK.c (S.skipU rfl rfl rfl rfl) ?_
                                refine RK.c (S.skip rfl rfl rfl rfl rfl) ?_
                                refine RK.c (S.pickT .none rfl (.tmp rfl rfl) .cbool rfl) ?_
                                refine RK.c (S.assign .none rfl (.tmp rfl rfl)) ?_
                                refine RK.nil ?_
                                refine Ab.D.code ?_
                                refine OK.ret (Ret.r1 (.tmp rfl rfl (.c (.same rfl) rfl) rfl) ?_)
                                first | rfl | exact ret_dT rfl | exact ret_dT trivial | (refine ret_dT ?_; omega)
                              ·
                                first | exact absurd rfl g190 | (rw [hg] at g190; exact absurd rfl g190)
                            ·
                              exact absurd hPl g185
                          ·
                            have hg : greatR l peak = true := by simpa using g181
                            rw [hg, if_pos rfl] at hPl
                            rw [if_neg (show ¬ placedE l peak = 0 by omega)]
                            refine RK.c (S.skip rfl rfl rfl rfl rfl) ?_
                            refine RK.c (S.skip rfl rfl rfl rfl rfl) ?_
                            refine RK.c (S.pickF .none rfl (.tmp rfl rfl) .cbool rfl) ?_
                            refine RK.c (S.move .none rfl (.tmp rfl rfl)) ?_
                            refine RK.c (S.skip rfl rfl rfl rfl rfl) ?_
                            refine RK.c (S.skip rfl rfl rfl rfl rfl) ?_
                            refine RK.c (S.skip rfl rfl rfl rfl rfl) ?_
                            refine RK.c (S.pickF .none rfl (.tmp rfl rfl) .cbool rfl) ?_
                            refine RK.c (S.move .none rfl (.tmp rfl rfl)) ?_
                            refine RK.c (S.move (.yes rfl rfl rfl rfl) rfl (.tmp rfl rfl)) ?_
                            refine RK.c (S.not (.yes rfl rfl rfl rfl) rfl (.tmp rfl rfl)) ?_
                            refine RK.c (S.move (.yes rfl rfl rfl rfl) rfl (.tmp rfl rfl)) ?_
                            refine RK.split (t := 193) rfl (fun g193 => ?_) (fun g193 => ?_)
                            ·
                              refine RK.c (S.move (.yes rfl rfl rfl rfl) rfl (.tmp rfl rfl)) ?_
                              refine RK.c (S.eql (.yes rfl rfl rfl rfl) rfl (.tmp rfl rfl) (.cint rfl)) ?_
                              refine RK.c (S.pickT (.yes rfl rfl rfl rfl) rfl (.tmp rfl rfl) (.tmp rfl rfl) rfl) ?_
                              refine RK.c (S.move (.yes rfl rfl rfl rfl) rfl (.tmp rfl rfl)) ?_
                              refine RK.splitD (t := 197) rfl (fun g197 => ?_) (fun g197 => ?_)
                              ·
                                refine RK.c (S.move (.yes rfl rfl rfl rfl) rfl (.tmp rfl rfl)) ?_
                                refine RK.c (S.lenM si30 (.yes rfl rfl rfl rfl) rfl (.tmp rfl rfl)) ?_
                                refine RK.c (S.eql (.yes rfl rfl rfl rfl) rfl (.tmp rfl rfl) (.cint rfl)) ?_
                                refine RK.c (S.pickT (.yes rfl rfl rfl rfl) rfl (.tmp rfl rfl) (.tmp rfl rfl) rfl) ?_
                                refine RK.c (S.pickF .none rfl (.tmp rfl rfl) (.tmp rfl rfl) rfl) ?_
                                refine RK.c (S.assign .none rfl (.tmp rfl rfl)) ?_
                                refine RK.nil ?_
                                refine Ab.D.code ?_
                                refine OK.ret (Ret.r1 (.tmp rfl rfl (.c (.same rfl) rfl) rfl) ?_)
                                first | rfl | exact ret_dT rfl | exact ret_dT trivial | (refine ret_dT ?_; omega)
                              ·
                                exact absurd hPl g197
                            ·
                              first | (rw [hg] at g193; cases g193) | (simp at g193; rw [hg] at g193; cases g193)
end Go.Proofs.YtjamlnkjfkcdkaaGreatDoor
