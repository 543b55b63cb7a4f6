import Derived.Test.YtjamlnkjfkcdkaaGreatDoorKh
import Derived.Test.YtjamlnkjfkcdkaaGreatDoorTy
namespace Go.Proofs.YtjamlnkjfkcdkaaGreatDoor
open Go.Ab
def zipR (l : List Run) (b : List Int) : List Run := List.zipWith (fun r s => (⟨s, r.ticks, r.power⟩ : Run)) l b
theorem zip_len {l : List Run} {b : List Int} (h : b.length ≤ l.length) : (zipR l b).length = b.length := by unfold zipR; rw [List.length_zipWith]; omega
theorem zip_get {l : List Run} {b : List Int} {i : Nat} (h : i < b.length) (h2 : i < l.length) (h3 : i < (zipR l b).length) : (zipR l b)[i] = ⟨b[i], l[i].ticks, l[i].power⟩ := by
  simp [zipR, List.getElem_zipWith]
theorem zip_snoc {l : List Run} {b : List Int} {r : Run} {s : Int} (h : l.length = b.length) : zipR (l ++ [r]) (b ++ [s]) = zipR l b ++ [⟨s, r.ticks, r.power⟩] := by
  unfold zipR
  rw [List.zipWith_append h]
  rfl
theorem zip_placed {l : List Run} {peak : Int} : ∀ i, i ≤ l.length → zipR (l.take i) (placedT (l.take i) peak) = placedR (l.take i) peak
  | 0, _ => rfl
  | i + 1, h => by
    have ih := zip_placed (l := l) (peak := peak) i (by omega)
    have h1 : (l.take i).length = (placedT (l.take i) peak).length := by rw [placedT_len, placedR, placeGo_len]; simp
    rw [placedT_take (by omega), placed_take (by omega), List.take_succ_eq_append_getElem (by omega), zip_snoc h1, ih]
theorem sorted_pw (l : List Int) : (sorted l).Pairwise (fun x y => x ≤ y) := by
  have := List.pairwise_mergeSort (le := fun x y : Int => decide (x ≤ y)) (by intro a b c h1 h2; simp only [decide_eq_true_eq] at *; omega) (by intro a b; simp only [Bool.or_eq_true, decide_eq_true_eq]; omega) l
  exact this.imp (by simp)
theorem earl_least {B : Int} {l : List Run} {x : Run} {peak : Int} (hl : ∀ r ∈ l, RunB B r) (hp : x.power ≤ peak) : earlT l x peak ∈ ticksT l x ∧ fitAt l x peak (earlT l x peak) = true ∧ ∀ t ∈ ticksT l x, fitAt l x peak t = true → earlT l x peak ≤ t := by
  obtain ⟨h1, h2⟩ := fit_idx (x := x) (peak := peak) hl hp
  obtain ⟨i, e, hi, e2, e3⟩ := idxGo_pre.1 h1
  rw [Nat.zero_add] at e
  have he : earlT l x peak = (sorted (ticksT l x))[i] := by
    unfold earlT
    rw [e]
    exact getD_at hi
  refine ⟨earl_mem hl hp, by rw [he]; exact e2, fun t ht hf => ?_⟩
  obtain ⟨j, hj, rfl⟩ := List.getElem_of_mem (sorted_mem.2 ht)
  rw [he]
  by_cases hji : j < i
  · rw [e3 j hji hj] at hf; cases hf
  · by_cases hij : i = j
    · subst hij; exact Int.le_refl _
    · exact List.pairwise_iff_getElem.1 (sorted_pw (ticksT l x)) i j hi hj (by omega)
theorem placed_bdT {l : List Run} {peak : Int} {i : Nat} (hl : ∀ r ∈ l, RunB 100000 r) (hp : ∀ r ∈ l.take i, r.power ≤ peak) (hi : i ≤ l.length) : ∀ r ∈ placedR (l.take i) peak, RunB (100000 * (i : Int) + 100000) r := by
  have h := placed_bd (l := l.take i) (peak := peak) (fun r hr => hl r (List.mem_of_mem_take hr)) hp i (by simp; omega)
  rwa [List.take_take, Nat.min_self] at h
def fitIn (l : List Run) (x : Run) (peak t : Int) (r : Run) : Bool := decide ((t ≤ r.start ∧ r.start ≤ t + x.ticks - 1) → powerT r.start l + x.power ≤ peak)
theorem fit_all (l : List Run) (x : Run) (peak t : Int) : fitAt l x peak t = (decide (powerT t l + x.power ≤ peak) && l.all (fitIn l x peak t)) := by
  unfold fitAt fitsT momentsT
  rw [List.any_cons, Bool.not_or]
  congr 1
  · simp only [← decide_not]
    exact decide_eq_decide.2 (by show ¬ (powerT t l + x.power > peak) ↔ _; omega)
  · have : ∀ m : List Run, (!((m.filter (mom1 ⟨t, x.ticks, x.power⟩)).map (·.start)).any fun u => decide (powerT u l + x.power > peak)) = m.all (fitIn l x peak t) := by
      intro m
      induction m with
      | nil => rfl
      | cons r m ih =>
        rw [List.filter_cons, List.all_cons]
        by_cases hm : mom1 ⟨t, x.ticks, x.power⟩ r = true
        · rw [if_pos hm, List.map_cons, List.any_cons, Bool.not_or, ih]
          congr 1
          have h1 : t ≤ r.start ∧ r.start ≤ t + x.ticks - 1 := of_decide_eq_true hm
          unfold fitIn
          simp only [← decide_not]
          exact decide_eq_decide.2 ⟨fun h _ => by omega, fun h => by have := h h1; omega⟩
        · rw [if_neg hm, ih]
          have h1 : ¬ (t ≤ r.start ∧ r.start ≤ t + x.ticks - 1) := fun h => hm (decide_eq_true h)
          have h2 : fitIn l x peak t r = true := decide_eq_true fun h => absurd h h1
          rw [h2, Bool.true_and]
    exact this l
theorem runE_2 {r : Run} (h : runE r ≠ 0) : runE r = 2 := by
  unfold runE at *
  split at h
  · contradiction
  · rename_i h1; rw [if_neg h1]
theorem peakE_0 {n : Int} (h : peakE n = 0) : 1 ≤ n ∧ n ≤ 200000 := by
  unfold peakE at h
  split at h
  · assumption
  · cases h
theorem RunB.mono {A B : Int} {r : Run} (h : RunB A r) (hAB : A ≤ B) : RunB B r := ⟨by have := h.1; omega, h.2⟩
theorem power_all {B : Int} {t : Int} {l : List Run} (h : ∀ r ∈ l, RunB B r) (hn : l.length ≤ 100) : 0 ≤ powerT t l ∧ powerT t l ≤ 10000000 := by
  have := power_bd (B := B) t h
  omega
theorem ref9_RunErr {r : Run} : Ct Tryz.prog 42 [.agg r.cs] (.int .i64 (runE r)) := by
  refine Ct.intro (rs := [.tmp 2]) Tryz.func42 rfl Tryz.ntmps42 Tryz.results42 rfl rfl rfl fun w h => ?_
  refine OK.seq ?_
  refine OK.reg ?_
  refine RK.c (S.box (k := 1) rfl .none rfl (.tmp rfl rfl) rfl) ?_
  refine RK.c (S.assign .none rfl (.cint rfl)) ?_
  refine RK.nil ?_
  refine Ab.D.code ?_
  refine OK.seq ?_
  refine OK.seq ?_
  refine OK.reg ?_
  refine RK.c (S.bfield fi46_0 .none rfl (.tmp rfl rfl)) ?_
  refine RK.c (S.bload1 ti3 .none rfl (.tmp rfl rfl) rfl rfl rfl rfl) ?_
  refine RK.c (S.call (ref9_isTicks) Tryz.call117 .none rfl (.cons (.tmp rfl rfl) .nil) rfl) ?_
  refine RK.c (S.notD .none rfl (.tmp rfl rfl)) ?_
  refine RK.c (S.move .none rfl (.tmp rfl rfl)) ?_
  refine RK.splitD (t := 7) rfl (fun g7 => ?_) (fun g7 => ?_)
  ·
    refine RK.c (S.skip rfl rfl rfl rfl rfl) ?_
    refine RK.c (S.skip rfl rfl rfl rfl rfl) ?_
    refine RK.c (S.skip rfl rfl rfl rfl rfl) ?_
    refine RK.c (S.skip rfl rfl rfl rfl rfl) ?_
    refine RK.c (S.pickT .none rfl (.tmp rfl rfl) .cbool rfl) ?_
    refine RK.c (S.move .none rfl (.tmp rfl rfl)) ?_
    refine RK.c (S.skip rfl rfl rfl rfl rfl) ?_
    refine RK.c (S.skip rfl rfl rfl rfl rfl) ?_
    refine RK.c (S.skip rfl rfl rfl rfl rfl) ?_
    refine RK.c (S.skip rfl rfl rfl rfl rfl) ?_
    refine RK.c (S.pickT .none rfl (.tmp rfl rfl) .cbool rfl) ?_
    refine RK.nil ?_
    refine Ab.D.code ?_
    refine OK.condT rfl rfl rfl ?_
    refine OK.seq ?_
    refine OK.reg ?_
    refine RK.c (S.assign .none rfl (.cint rfl)) ?_
    refine RK.nil ?_
    refine Ab.D.code ?_
    refine OK.ret (Ret.r1 (.tmp rfl rfl (.c (.same rfl) rfl) rfl) ?_)
    refine ret_i ?_
    unfold runE
    (repeat' split) <;> omega
  ·
    refine RK.c (S.bfield fi46_1 (.yes rfl rfl rfl rfl) rfl (.tmp rfl rfl)) ?_
    refine RK.c (S.bload1 ti3 (.yes rfl rfl rfl rfl) rfl (.tmp rfl rfl) rfl rfl rfl rfl) ?_
    refine RK.c (S.call (base_Within) Tryz.call27 (.yes rfl rfl rfl rfl) rfl (.cons (.tmp rfl rfl) (.cons (.cint rfl) (.cons (.cint rfl) .nil))) rfl) ?_
    refine RK.c (S.notD (.yes rfl rfl rfl rfl) rfl (.tmp rfl rfl)) ?_
    refine RK.c (S.pickF .none rfl (.tmp rfl rfl) (.tmp rfl rfl) rfl) ?_
    refine RK.c (S.move .none rfl (.tmp rfl rfl)) ?_
    refine RK.splitD (t := 13) rfl (fun g13 => ?_) (fun g13 => ?_)
    ·
      refine RK.c (S.skip rfl rfl rfl rfl rfl) ?_
      refine RK.c (S.skip rfl rfl rfl rfl rfl) ?_
      refine RK.c (S.skip rfl rfl rfl rfl rfl) ?_
      refine RK.c (S.skip rfl rfl rfl rfl rfl) ?_
      refine RK.c (S.pickT .none rfl (.tmp rfl rfl) .cbool rfl) ?_
      refine RK.nil ?_
      refine Ab.D.code ?_
      refine OK.condT rfl rfl rfl ?_
      refine OK.seq ?_
      refine OK.reg ?_
      refine RK.c (S.assign .none rfl (.cint rfl)) ?_
      refine RK.nil ?_
      refine Ab.D.code ?_
      refine OK.ret (Ret.r1 (.tmp rfl rfl (.c (.same rfl) rfl) rfl) ?_)
      refine ret_i ?_
      unfold runE
      (repeat' split) <;> omega
    ·
      refine RK.c (S.bfield fi46_2 (.yes rfl rfl rfl rfl) rfl (.tmp rfl rfl)) ?_
      refine RK.c (S.bload1 ti3 (.yes rfl rfl rfl rfl) rfl (.tmp rfl rfl) rfl rfl rfl rfl) ?_
      refine RK.c (S.call (ref9_isPower) Tryz.call118 (.yes rfl rfl rfl rfl) rfl (.cons (.tmp rfl rfl) .nil) rfl) ?_
      refine RK.c (S.notD (.yes rfl rfl rfl rfl) rfl (.tmp rfl rfl)) ?_
      refine RK.c (S.pickF .none rfl (.tmp rfl rfl) (.tmp rfl rfl) rfl) ?_
      refine RK.nil ?_
      refine Ab.D.code ?_
      refine OK.condD rfl rfl (fun c18 => ?_) (fun c18 => ?_)
      ·
        refine OK.seq ?_
        refine OK.reg ?_
        refine RK.c (S.assign .none rfl (.cint rfl)) ?_
        refine RK.nil ?_
        refine Ab.D.code ?_
        refine OK.ret (Ret.r1 (.tmp rfl rfl (.c (.same rfl) rfl) rfl) ?_)
        refine ret_i ?_
        unfold runE
        (repeat' split) <;> omega
      ·
        refine OK.skip ?_
        refine Ab.D.code ?_
        refine OK.seq ?_
        refine OK.reg ?_
        refine RK.c (S.assign .none rfl (.cint rfl)) ?_
        refine RK.nil ?_
        refine Ab.D.code ?_
        refine OK.ret (Ret.r1 (.tmp rfl rfl (.c (.same rfl) rfl) rfl) ?_)
        refine ret_i ?_
        unfold runE
        (repeat' split) <;> omega
theorem ref9_CheckRuns {l : List Run} : Ct Tryz.prog 39 [.sl (l.map Run.cs)] (pair (runsChk l)) := by
  refine Ct.intro (rs := [.tmp 2, .tmp 3]) Tryz.func39 rfl Tryz.ntmps39 Tryz.results39 rfl rfl rfl fun w h => ?_
  refine OK.seq ?_
  refine OK.reg ?_
  refine RK.c (S.assign .none rfl (.cint rfl)) ?_
  refine RK.c (S.assign .none rfl (.cint rfl)) ?_
  refine RK.nil ?_
  refine Ab.D.code ?_
  refine OK.seq ?_
  refine OK.seq ?_
  refine OK.reg ?_
  refine RK.c (S.move .none rfl (.tmp rfl rfl)) ?_
  refine RK.c (S.lenM si41 .none rfl (.tmp rfl rfl)) ?_
  refine RK.c (S.gtr .none rfl (.tmp rfl rfl) (.cint rfl)) ?_
  refine RK.nil ?_
  refine Ab.D.code ?_
  refine OK.condD rfl rfl (fun c8 => ?_) (fun c8 => ?_)
  ·
    refine OK.seq ?_
    refine OK.reg ?_
    refine RK.c (S.assign .none rfl (.cint rfl)) ?_
    refine RK.c (S.assign .none rfl (.cint rfl)) ?_
    refine RK.nil ?_
    refine Ab.D.code ?_
    refine OK.ret (Ret.r2 (.tmp rfl rfl (.c (.same rfl) rfl) rfl) (.tmp rfl rfl (.c (.same rfl) rfl) rfl) ?_)
    refine ret_p ?_
    rw [runsChk, if_pos (by omega)]
  ·
    refine OK.skip ?_
    refine Ab.D.code ?_
    refine OK.seq ?_
    refine OK.seq ?_
    refine OK.reg ?_
    refine RK.c (S.assign .none rfl (.cint rfl)) ?_
    refine RK.nil ?_
    refine Ab.D.code ?_
    refine OK.block ?_
    refine OK.loop (G := Nat) [] (fun i => [(0, .sl (l.map Run.cs)), (4, .int .i64 i)]) (fun i => i ≤ l.length ∧ idxGo (fun r => decide (runE r ≠ 0)) 0 l = idxGo (fun r => decide (runE r ≠ 0)) i (l.drop i)) (fun i => l.length - i) 0 ⟨Nat.zero_le _, rfl⟩ ⟨rfl, rfl, trivial⟩ (fun _ => rfl) ?_
    rintro i ⟨hi, hg⟩
    refine OK.seq ?_
    refine OK.seq ?_
    refine OK.reg ?_
    refine RK.c (S.move .none rfl (.tmp rfl rfl)) ?_
    refine RK.c (S.move .none rfl (.tmp rfl rfl)) ?_
    refine RK.c (S.lenM si41 .none rfl (.tmp rfl rfl)) ?_
    refine RK.c (S.lss .none rfl (.tmp rfl rfl) (.tmp rfl rfl)) ?_
    refine RK.nil ?_
    refine Ab.D.code ?_
    refine OK.condD rfl rfl (fun c12 => ?_) (fun c12 => ?_)
    ·
      refine OK.skip ?_
      refine Ab.D.code ?_
      refine OK.seq ?_
      refine OK.block ?_
      refine OK.seq ?_
      refine OK.reg ?_
      refine RK.c (S.move .none rfl (.tmp rfl rfl)) ?_
      refine RK.c (S.move .none rfl (.tmp rfl rfl)) ?_
      refine RK.c (S.indexM (n := i) si41 .none rfl (.tmp rfl rfl) (.tmp rfl rfl) rfl (by omega) rfl) ?_
      refine RK.c (S.loadN ti46 .none rfl (.tmp rfl rfl) rfl rfl) ?_
      refine RK.c (S.call (ref9_RunErr) Tryz.call42 .none rfl (.cons (.tmp rfl rfl) .nil) rfl) ?_
      refine RK.c (S.assign .none rfl (.tmp rfl rfl)) ?_
      refine RK.nil ?_
      refine Ab.D.code ?_
      refine OK.seq ?_
      refine OK.reg ?_
      refine RK.c (S.move .none rfl (.tmp rfl rfl)) ?_
      refine RK.c (S.neq .none rfl (.tmp rfl rfl) (.cint rfl)) ?_
      refine RK.nil ?_
      refine Ab.D.code ?_
      refine OK.condD rfl rfl (fun c21 => ?_) (fun c21 => ?_)
      ·
        refine OK.seq ?_
        refine OK.reg ?_
        refine RK.c (S.move .none rfl (.tmp rfl rfl)) ?_
        refine RK.c (S.move .none rfl (.tmp rfl rfl)) ?_
        refine RK.c (S.assign .none rfl (.tmp rfl rfl)) ?_
        refine RK.c (S.assign .none rfl (.tmp rfl rfl)) ?_
        refine RK.nil ?_
        refine Ab.D.code ?_
        refine OK.ret (Ret.r2 (.tmp rfl rfl (.c (.same rfl) rfl) rfl) (.tmp rfl rfl (.c (.same rfl) rfl) rfl) ?_)
        refine ret_p ?_
        have h2 := runE_2 c21
        have hix : idxGo (fun r => decide (runE r ≠ 0)) 0 l = i := by rw [hg, idxGo_drop _ (by omega), if_pos (decide_eq_true c21)]
        rw [runsChk, if_neg (by omega), hix, if_pos (by omega), h2]
      ·
        refine OK.skip ?_
        refine Ab.D.blk ?_
        refine Ab.D.code ?_
        refine OK.reg ?_
        refine RK.c (S.move .none rfl (.tmp rfl rfl)) ?_
        refine RK.c (S.add .none rfl (.tmp rfl rfl) (.cint rfl) (IntWalk.i64_in _ (by omega)) (IntWalk.i64_in _ (by omega))) ?_
        refine RK.c (S.assign .none rfl (.tmp rfl rfl)) ?_
        refine RK.nil ?_
        refine Ab.D.lp ⟨i + 1, ⟨by omega, ?_⟩, (by omega), rfl, rfl, trivial⟩
        rw [hg, idxGo_drop _ (by omega), if_neg (by rw [decide_eq_true_eq]; exact c21)]
    ·
      refine OK.exit rfl ?_
      refine Ab.D.code ?_
      refine OK.seq ?_
      refine OK.reg ?_
      refine RK.c (S.assign .none rfl (.cint rfl)) ?_
      refine RK.c (S.assign .none rfl (.cint rfl)) ?_
      refine RK.nil ?_
      refine Ab.D.code ?_
      refine OK.ret (Ret.r2 (.tmp rfl rfl (.c (.same rfl) rfl) rfl) (.tmp rfl rfl (.c (.same rfl) rfl) rfl) ?_)
      refine ret_p ?_
      rw [runsChk, if_neg (by omega), hg, show i = l.length by omega, List.drop_length]
      rfl
theorem ref9_RunsErr {l : List Run} : Ct Tryz.prog 25 [.sl (l.map Run.cs)] (.int .i64 (runsChk l).2) := by
  refine Ct.intro (rs := [.tmp 2]) Tryz.func25 rfl Tryz.ntmps25 Tryz.results25 rfl rfl rfl fun w h => ?_
  refine OK.seq ?_
  refine OK.reg ?_
  refine RK.c (S.assign .none rfl (.cint rfl)) ?_
  refine RK.nil ?_
  refine Ab.D.code ?_
  refine OK.seq ?_
  refine OK.reg ?_
  refine RK.c (S.move .none rfl (.tmp rfl rfl)) ?_
  refine RK.c (S.call (ref9_CheckRuns) Tryz.call39 .none rfl (.cons (.tmp rfl rfl) .nil) rfl) ?_
  refine RK.c (S.move .none rfl (.tmp rfl rfl)) ?_
  refine RK.c (S.extract .none rfl (.tmp rfl rfl) rfl rfl) ?_
  refine RK.c (S.extract .none rfl (.tmp rfl rfl) rfl rfl) ?_
  refine RK.c (S.assign .none rfl (.tmp rfl rfl)) ?_
  refine RK.c (S.assign .none rfl (.tmp rfl rfl)) ?_
  refine RK.nil ?_
  refine Ab.D.code ?_
  refine OK.seq ?_
  refine OK.reg ?_
  refine RK.c (S.move .none rfl (.tmp rfl rfl)) ?_
  refine RK.c (S.assign .none rfl (.tmp rfl rfl)) ?_
  refine RK.nil ?_
  refine Ab.D.code ?_
  refine OK.ret (Ret.r1 (.tmp rfl rfl (.c (.same rfl) rfl) rfl) ?_)
  rfl
theorem ref9_PeakErr {n : Int} : Ct Tryz.prog 26 [.int .i64 n] (.int .i64 (peakE n)) := by
  refine Ct.intro (rs := [.tmp 2]) Tryz.func26 rfl Tryz.ntmps26 Tryz.results26 rfl rfl rfl fun w h => ?_
  refine OK.seq ?_
  refine OK.reg ?_
  refine RK.c (S.assign .none rfl (.cint rfl)) ?_
  refine RK.nil ?_
  refine Ab.D.code ?_
  refine OK.seq ?_
  refine OK.seq ?_
  refine OK.reg ?_
  refine RK.c (S.move .none rfl (.tmp rfl rfl)) ?_
  refine RK.c (S.call (base_Within) Tryz.call27 .none rfl (.cons (.tmp rfl rfl) (.cons (.cint rfl) (.cons (.cint rfl) .nil))) rfl) ?_
  refine RK.c (S.notD .none rfl (.tmp rfl rfl)) ?_
  refine RK.nil ?_
  refine Ab.D.code ?_
  refine OK.condD rfl rfl (fun c5 => ?_) (fun c5 => ?_)
  ·
    refine OK.seq ?_
    refine OK.reg ?_
    refine RK.c (S.assign .none rfl (.cint rfl)) ?_
    refine RK.nil ?_
    refine Ab.D.code ?_
    refine OK.ret (Ret.r1 (.tmp rfl rfl (.c (.same rfl) rfl) rfl) ?_)
    refine ret_i ?_
    rw [peakE, if_neg c5]
  ·
    refine OK.skip ?_
    refine Ab.D.code ?_
    refine OK.seq ?_
    refine OK.reg ?_
    refine RK.c (S.assign .none rfl (.cint rfl)) ?_
    refine RK.nil ?_
    refine Ab.D.code ?_
    refine OK.ret (Ret.r1 (.tmp rfl rfl (.c (.same rfl) rfl) rfl) ?_)
    refine ret_i ?_
    rw [peakE, if_pos (Decidable.not_not.1 c5)]
theorem ref9_At {l : List Run} {b : List Int} {t : Int} (hb : b.length ≤ l.length) (hn : l.length ≤ 100) (hB : ∀ r ∈ zipR l b, RunB 1000000000 r) : Ct Tryz.prog 30 [.sl (l.map Run.cs), ints b, .int .i64 t] (.int .i64 (powerT t (zipR l b))) := by
  refine Ct.intro (rs := [.tmp 6]) Tryz.func30 rfl Tryz.ntmps30 Tryz.results30 rfl rfl rfl fun w h => ?_
  have hzl := zip_len hb
  refine OK.seq ?_
  refine OK.reg ?_
  refine RK.c (S.assign .none rfl (.cint rfl)) ?_
  refine RK.nil ?_
  refine Ab.D.code ?_
  refine OK.seq ?_
  refine OK.reg ?_
  refine RK.c (S.assign .none rfl (.cint rfl)) ?_
  refine RK.nil ?_
  refine Ab.D.code ?_
  refine OK.seq ?_
  refine OK.seq ?_
  refine OK.reg ?_
  refine RK.c (S.assign .none rfl (.cint rfl)) ?_
  refine RK.nil ?_
  refine Ab.D.code ?_
  refine OK.block ?_
  refine OK.loop (G := Nat) [] (fun i => [(0, .sl (l.map Run.cs)), (1, ints b), (2, .int .i64 t), (7, .int .i64 (powerT t ((zipR l b).take i))), (8, .int .i64 i)]) (fun i => i ≤ b.length) (fun i => b.length - i) 0 (Nat.zero_le _) ⟨rfl, rfl, rfl, rfl, rfl, trivial⟩ (fun _ => rfl) ?_
  rintro i hi
  refine OK.seq ?_
  refine OK.seq ?_
  refine OK.reg ?_
  refine RK.c (S.move .none rfl (.tmp rfl rfl)) ?_
  refine RK.c (S.move .none rfl (.tmp rfl rfl)) ?_
  refine RK.c (S.lenM si30 .none rfl (.tmp rfl rfl)) ?_
  refine RK.c (S.lss .none rfl (.tmp rfl rfl) (.tmp rfl rfl)) ?_
  refine RK.nil ?_
  refine Ab.D.code ?_
  refine OK.condD rfl rfl (fun c12 => ?_) (fun c12 => ?_)
  ·
    have hz := zip_get (l := l) (b := b) (i := i) (by omega) (by omega) (by omega)
    have hri := hB _ (List.getElem_mem (show i < (zipR l b).length by omega))
    rw [hz] at hri
    obtain ⟨r1, r2, r3⟩ := hri
    simp only at r1 r2 r3
    have hpb := power_bd (B := 1000000000) t (l := (zipR l b).take i) fun r hr => hB r (List.mem_of_mem_take hr)
    have hlt : ((zipR l b).take i).length ≤ i := List.length_take_le _ _
    refine OK.skip ?_
    refine Ab.D.code ?_
    refine OK.seq ?_
    refine OK.block ?_
    refine OK.seq ?_
    refine OK.regionDraw follows (.c (S.move .none rfl (.tmp rfl rfl))
      (.c (S.move .none rfl (.tmp rfl rfl))
      (.c (S.move .none rfl (.tmp rfl rfl))
      (.c (S.indexM (n := i) si30 .none rfl (.tmp rfl rfl) (.tmp rfl rfl) rfl (by omega) rfl)
      (.c (S.load1 ti3 .none rfl (.tmp rfl rfl) rfl)
      (.c (S.move .none rfl (.tmp rfl rfl))
      (.c (S.move .none rfl (.tmp rfl rfl))
      (.c (S.indexM (n := i) si30 .none rfl (.tmp rfl rfl) (.tmp rfl rfl) rfl (by omega) rfl)
      (.c (S.load1 ti3 .none rfl (.tmp rfl rfl) rfl)
      (.c (S.move .none rfl (.tmp rfl rfl))
      (.c (S.move .none rfl (.tmp rfl rfl))
      (.c (S.indexM (n := i) si41 .none rfl (.tmp rfl rfl) (.tmp rfl rfl) rfl (by omega) rfl)
      (.c (S.field fi46_1 .none rfl (.tmp rfl rfl) rfl)
      (.c (S.load1 ti3 .none rfl (.tmp rfl rfl) rfl)
      (.c (S.add .none rfl (.tmp rfl rfl) (.tmp rfl rfl) (IntWalk.i64_in _ (by omega)) (IntWalk.i64_in _ (by omega)))
      (.c (S.sub .none rfl (.tmp rfl rfl) (.cint rfl) (IntWalk.i64_in _ (by omega)) (IntWalk.i64_in _ (by omega)))
      (.c (S.call (base_Within) Tryz.call27 .none rfl (.cons (.tmp rfl rfl) (.cons (.tmp rfl rfl) (.cons (.tmp rfl rfl) .nil))) rfl)
      .nil))))))))))))))))) (by kernel_rfl) ?_
    refine Ab.D.code ?_
    refine OK.condD rfl rfl (fun c31 => ?_) (fun c31 => ?_)
    ·
      refine OK.reg ?_
      refine RK.c (S.move .none rfl (.tmp rfl rfl)) ?_
      refine RK.c (S.move .none rfl (.tmp rfl rfl)) ?_
      refine RK.c (S.move .none rfl (.tmp rfl rfl)) ?_
      refine RK.c (S.indexM (n := i) si41 .none rfl (.tmp rfl rfl) (.tmp rfl rfl) rfl (by omega) rfl) ?_
      refine RK.c (S.field fi46_2 .none rfl (.tmp rfl rfl) rfl) ?_
      refine RK.c (S.load1 ti3 .none rfl (.tmp rfl rfl) rfl) ?_
      refine RK.c (S.add .none rfl (.tmp rfl rfl) (.tmp rfl rfl) (IntWalk.i64_in _ (by omega)) (IntWalk.i64_in _ (by omega))) ?_
      refine RK.c (S.assign .none rfl (.tmp rfl rfl)) ?_
      refine RK.nil ?_
      refine Ab.D.blk ?_
      refine Ab.D.code ?_
      refine OK.reg ?_
      refine RK.c (S.move .none rfl (.tmp rfl rfl)) ?_
      refine RK.c (S.add .none rfl (.tmp rfl rfl) (.cint rfl) (IntWalk.i64_in _ (by omega)) (IntWalk.i64_in _ (by omega))) ?_
      refine RK.c (S.assign .none rfl (.tmp rfl rfl)) ?_
      refine RK.nil ?_
      refine Ab.D.lp ⟨i + 1, (by omega), (by omega), rfl, rfl, rfl, (lkI (by rw [power_take (by omega), hz, powOf]; first | rw [if_pos c31] | (rw [if_neg c31]; omega))), rfl, trivial⟩
    ·
      refine OK.skip ?_
      refine Ab.D.blk ?_
      refine Ab.D.code ?_
      refine OK.reg ?_
      refine RK.c (S.move .none rfl (.tmp rfl rfl)) ?_
      refine RK.c (S.add .none rfl (.tmp rfl rfl) (.cint rfl) (IntWalk.i64_in _ (by omega)) (IntWalk.i64_in _ (by omega))) ?_
      refine RK.c (S.assign .none rfl (.tmp rfl rfl)) ?_
      refine RK.nil ?_
      refine Ab.D.lp ⟨i + 1, (by omega), (by omega), rfl, rfl, rfl, (lkI (by rw [power_take (by omega), hz, powOf]; first | rw [if_pos c31] | (rw [if_neg c31]; omega))), rfl, trivial⟩
  ·
    refine OK.exit rfl ?_
    refine Ab.D.code ?_
    refine OK.seq ?_
    refine OK.reg ?_
    refine RK.c (S.move .none rfl (.tmp rfl rfl)) ?_
    refine RK.c (S.assign .none rfl (.tmp rfl rfl)) ?_
    refine RK.nil ?_
    refine Ab.D.code ?_
    refine OK.ret (Ret.r1 (.tmp rfl rfl (.c (.same rfl) rfl) rfl) ?_)
    rw [show i = (zipR l b).length by omega, List.take_length]
end Go.Proofs.YtjamlnkjfkcdkaaGreatDoor
