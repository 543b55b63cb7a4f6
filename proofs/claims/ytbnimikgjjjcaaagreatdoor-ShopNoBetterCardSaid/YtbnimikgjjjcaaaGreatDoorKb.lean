import Derived.Test.YtbnimikgjjjcaaaGreatDoorKa
namespace Go.Proofs.YtbnimikgjjjcaaaGreatDoor
open Go.Ab
def endT (r : Run) : Int := r.start + r.ticks
def late1 (x r : Run) : Bool := decide (r.start + r.ticks > x.start)
def ticksT (l : List Run) (x : Run) : List Int := x.start :: (l.filter (late1 x)).map endT
def fitAt (l : List Run) (x : Run) (peak t : Int) : Bool := fitsT l ⟨t, x.ticks, x.power⟩ peak
def earlT (l : List Run) (x : Run) (peak : Int) : Int := (sorted (ticksT l x)).getD (idxGo (fitAt l x peak) 0 (sorted (ticksT l x))).toNat 0
theorem tick_T {l : List Run} {x : Run} {i : Nat} (h : i < l.length) (hc : l[i].start + l[i].ticks > x.start) : ticksT (l.take (i + 1)) x = ticksT (l.take i) x ++ [l[i].start + l[i].ticks] := by
  have hm : late1 x l[i] = true := decide_eq_true hc
  have hf : [l[i]].filter (late1 x) = [l[i]] := by rw [List.filter_cons, if_pos hm, List.filter_nil]
  rw [ticksT, List.take_succ_eq_append_getElem h, List.filter_append, List.map_append, hf]
  rfl
theorem tick_F {l : List Run} {x : Run} {i : Nat} (h : i < l.length) (hc : ¬ l[i].start + l[i].ticks > x.start) : ticksT (l.take (i + 1)) x = ticksT (l.take i) x := by
  have hm : ¬ late1 x l[i] = true := by rw [show late1 x l[i] = false from decide_eq_false hc]; decide
  have hf : [l[i]].filter (late1 x) = [] := by rw [List.filter_cons, if_neg hm, List.filter_nil]
  rw [ticksT, List.take_succ_eq_append_getElem h, List.filter_append, List.map_append, hf, List.map_nil, List.append_nil]
  rfl
theorem tick_len (l : List Run) (x : Run) (i : Nat) : (ticksT (l.take i) x).length ≤ i + 1 := by
  have h1 := List.length_filter_le (late1 x) (l.take i)
  have h2 : (l.take i).length ≤ i := List.length_take_le i l
  simp only [ticksT, List.length_cons, List.length_map]
  omega
theorem tick_mem {l : List Run} {x : Run} {t : Int} (h : t ∈ ticksT l x) : t = x.start ∨ ∃ r ∈ l, r.start + r.ticks > x.start ∧ t = r.start + r.ticks := by
  rcases List.mem_cons.1 h with h | h
  · exact .inl h
  · obtain ⟨r, h1, h2⟩ := List.mem_map.1 h
    obtain ⟨h3, h4⟩ := List.mem_filter.1 h1
    exact .inr ⟨r, h3, of_decide_eq_true h4, h2.symm⟩
theorem tick_of {l : List Run} {x r : Run} (h : r ∈ l) (h2 : r.start + r.ticks > x.start) : r.start + r.ticks ∈ ticksT l x :=
  List.mem_cons_of_mem _ (List.mem_map.2 ⟨r, List.mem_filter.2 ⟨h, decide_eq_true h2⟩, rfl⟩)
theorem tick_bd {B : Int} {l : List Run} {x : Run} (hl : ∀ r ∈ l, RunB B r) (hx : x.start ≤ B) : ∀ t ∈ ticksT l x, x.start ≤ t ∧ t ≤ B + 100000 := by
  intro t ht
  rcases tick_mem ht with rfl | ⟨r, hr, h1, rfl⟩
  · omega
  · obtain ⟨h2, h3, _⟩ := hl r hr
    omega
theorem max_ex : ∀ (l : List Int), l ≠ [] → ∃ t ∈ l, ∀ u ∈ l, u ≤ t
  | [], h => absurd rfl h
  | [a], _ => ⟨a, List.mem_cons_self, fun u hu => by simp at hu; omega⟩
  | a :: b :: l, _ => by
    obtain ⟨t, h1, h2⟩ := max_ex (b :: l) (by simp)
    by_cases h : t ≤ a
    · exact ⟨a, List.mem_cons_self, fun u hu => by
        rcases List.mem_cons.1 hu with rfl | hu
        · omega
        · have := h2 u hu; omega⟩
    · exact ⟨t, List.mem_cons_of_mem _ h1, fun u hu => by
        rcases List.mem_cons.1 hu with rfl | hu
        · omega
        · exact h2 u hu⟩
theorem power_past {t : Int} : ∀ {l : List Run}, (∀ r ∈ l, r.start + r.ticks ≤ t) → powerT t l = 0
  | [], _ => rfl
  | r :: l, h => by
    have h1 := h r List.mem_cons_self
    rw [powerT, power_past fun q hq => h q (List.mem_cons_of_mem r hq), powOf, if_neg (by omega)]
    rfl
theorem fits_past {B : Int} {l : List Run} {x : Run} {peak : Int} (hl : ∀ r ∈ l, RunB B r) (h : ∀ r ∈ l, r.start + r.ticks ≤ x.start) (hp : x.power ≤ peak) : fitsT l x peak = true := by
  have hf : l.filter (mom1 x) = [] := List.filter_eq_nil_iff.2 fun r hr => by
    obtain ⟨_, h2, _⟩ := hl r hr
    have h3 := h r hr
    unfold mom1
    simp only [decide_eq_true_eq]
    omega
  unfold fitsT momentsT
  rw [hf, List.map_nil, List.any_cons, List.any_nil, Bool.or_false, power_past h, decide_eq_false (by omega)]
  rfl
theorem sorted_mem {l : List Int} {t : Int} : t ∈ sorted l ↔ t ∈ l := (List.mergeSort_perm l _).mem_iff
theorem fit_ex {B : Int} {l : List Run} {x : Run} {peak : Int} (hl : ∀ r ∈ l, RunB B r) (hp : x.power ≤ peak) : (sorted (ticksT l x)).any (fitAt l x peak) = true := by
  obtain ⟨t, h1, h2⟩ := max_ex (ticksT l x) (by simp [ticksT])
  refine List.any_eq_true.2 ⟨t, sorted_mem.2 h1, fits_past hl (fun r hr => ?_) hp⟩
  show r.start + r.ticks ≤ t
  by_cases h : r.start + r.ticks > x.start
  · exact h2 _ (tick_of hr h)
  · have := h2 x.start List.mem_cons_self
    omega
theorem idxGo_lt {α : Type} (g : α → Bool) : ∀ (l : List α) (i : Nat), idxGo g i l < ((i + l.length : Nat) : Int) ∧ (idxGo g i l = -1 ∨ (i : Int) ≤ idxGo g i l)
  | [], i => ⟨by rw [idxGo, List.length_nil]; omega, .inl rfl⟩
  | x :: l, i => by
    obtain ⟨h1, h2⟩ := idxGo_lt g l (i + 1)
    rw [idxGo, List.length_cons]
    split
    · exact ⟨by omega, .inr (Int.le_refl _)⟩
    · exact ⟨by omega, h2.imp id fun h => by omega⟩
theorem sorted_length (l : List Int) : (sorted l).length = l.length := sort_len l
theorem fit_idx {B : Int} {l : List Run} {x : Run} {peak : Int} (hl : ∀ r ∈ l, RunB B r) (hp : x.power ≤ peak) :
    0 ≤ idxGo (fitAt l x peak) 0 (sorted (ticksT l x)) ∧ idxGo (fitAt l x peak) 0 (sorted (ticksT l x)) < (sorted (ticksT l x)).length := by
  have h1 := idxGo_any (fitAt l x peak) (sorted (ticksT l x)) 0
  rw [fit_ex hl hp] at h1
  have h2 := (idxGo_lt (fitAt l x peak) (sorted (ticksT l x)) 0).1
  rw [Nat.zero_add] at h2
  exact ⟨of_decide_eq_true h1, h2⟩
theorem getD_at {α : Type} {l : List α} {i : Nat} {d : α} (h : i < l.length) : l.getD i d = l[i] := by simp [List.getD, h]
theorem earl_mem {B : Int} {l : List Run} {x : Run} {peak : Int} (hl : ∀ r ∈ l, RunB B r) (hp : x.power ≤ peak) : earlT l x peak ∈ ticksT l x := by
  obtain ⟨h1, h2⟩ := fit_idx hl hp
  unfold earlT
  rw [getD_at (by omega)]
  exact sorted_mem.1 (List.getElem_mem _)
def idxN {α : Type} (g : α → Bool) : Nat → List α → Nat
  | i, [] => i
  | i, x :: l => if g x then i + 1 else idxN g (i + 1) l
theorem idxN_drop {α : Type} (g : α → Bool) {l : List α} {i : Nat} (h : i < l.length) : idxN g i (l.drop i) = if g l[i] then i + 1 else idxN g (i + 1) (l.drop (i + 1)) := by
  rw [List.drop_eq_getElem_cons h, idxN]
theorem lk_res {J J' : Mem → (Nat → Prop) → World → Prop} (h : J = J') : some (X.res J) = some (X.res J') := by rw [h]
def stAt (s0 : Int) (l : List Int) : Nat → Int
  | 0 => s0
  | i + 1 => l.getD i 0
def placeGo (peak : Int) : List Run → List Run → List Run
  | acc, [] => acc
  | acc, r :: l => placeGo peak (acc ++ [⟨earlT acc r peak, r.ticks, r.power⟩]) l
theorem placeGo_app (peak : Int) : ∀ (a b acc : List Run), placeGo peak acc (a ++ b) = placeGo peak (placeGo peak acc a) b
  | [], b, acc => rfl
  | r :: a, b, acc => by simp only [List.cons_append, placeGo]; exact placeGo_app peak a b _
theorem placeGo_len (peak : Int) : ∀ (l acc : List Run), (placeGo peak acc l).length = acc.length + l.length
  | [], acc => rfl
  | r :: l, acc => by rw [placeGo, placeGo_len peak l]; simp; omega
def placedR (l : List Run) (peak : Int) : List Run := placeGo peak [] l
theorem placed_take {l : List Run} {peak : Int} {i : Nat} (h : i < l.length) : placedR (l.take (i + 1)) peak = placedR (l.take i) peak ++ [⟨earlT (placedR (l.take i) peak) l[i] peak, l[i].ticks, l[i].power⟩] := by
  rw [placedR, List.take_succ_eq_append_getElem h, placeGo_app]
  rfl
theorem placed_bd {l : List Run} {peak : Int} (hl : ∀ r ∈ l, RunB 100000 r) (hp : ∀ r ∈ l, r.power ≤ peak) : ∀ i, i ≤ l.length → ∀ r ∈ placedR (l.take i) peak, RunB (100000 * (i : Int) + 100000) r
  | 0, _ => by intro r hr; simp [placedR, placeGo] at hr
  | i + 1, h => by
    have hi : i < l.length := by omega
    have ih := placed_bd hl hp i (by omega)
    intro r hr
    rw [placed_take hi] at hr
    rcases List.mem_append.1 hr with hr | hr
    · obtain ⟨h1, h2, h3⟩ := ih r hr
      exact ⟨by omega, h2, h3⟩
    · simp only [List.mem_singleton] at hr
      subst hr
      obtain ⟨h1, h2, h3⟩ := hl l[i] (List.getElem_mem hi)
      have h4 := tick_bd (B := 100000 * (i : Int) + 100000) (x := l[i]) ih (by omega) _ (earl_mem ih (hp _ (List.getElem_mem hi)))
      exact ⟨⟨by show 0 ≤ earlT _ _ _; omega, by show earlT _ _ _ ≤ _; omega⟩, h2, h3⟩
def placedE (l : List Run) (peak : Int) : Int := if (runsChk l).2 ≠ 0 then (runsChk l).2 else if peakE peak ≠ 0 then peakE peak else if l.any (fun r => decide (r.power > peak)) = true then 12 else 0
def placedT (l : List Run) (peak : Int) : List Int := (placedR l peak).map (·.start)
theorem runs_ok {l : List Run} (h : (runsChk l).2 = 0) : l.length ≤ 12 ∧ ∀ r ∈ l, RunB 100000 r := by
  unfold runsChk at h
  split at h
  · cases h
  · rename_i h1
    split at h
    · cases h
    · rename_i h2
      have h3 := idxGo_any (fun r => decide (runE r ≠ 0)) l 0
      rw [decide_eq_false h2] at h3
      refine ⟨by omega, fun r hr => ?_⟩
      have h4 := List.any_eq_false.1 h3.symm r hr
      simp only [decide_eq_true_eq, Decidable.not_not] at h4
      unfold runE at h4
      split at h4
      · rename_i h5; exact h5
      · cases h4
theorem placed_ok {l : List Run} {peak : Int} (h : placedE l peak = 0) : l.length ≤ 12 ∧ (∀ r ∈ l, RunB 100000 r) ∧ (1 ≤ peak ∧ peak ≤ 200000) ∧ ∀ r ∈ l, r.power ≤ peak := by
  unfold placedE at h
  split at h
  · contradiction
  · split at h
    · contradiction
    · rename_i h1 h2
      split at h
      · cases h
      · rename_i h3
        obtain ⟨h4, h5⟩ := runs_ok (Decidable.not_not.1 h1)
        refine ⟨h4, h5, ?_, fun r hr => ?_⟩
        · unfold peakE at h2
          split at h2
          · assumption
          · omega
        · exact Decidable.byContradiction fun hn => h3 (List.any_eq_true.2 ⟨r, hr, decide_eq_true (by omega)⟩)
theorem placedE_eq (l : List Run) (peak : Int) : firstE [(runsChk l).2, peakE peak, unlessE (!l.any fun r => decide (r.power > peak)) 12] = placedE l peak := by
  rw [firstE3]
  unfold placedE unlessE
  cases l.any fun r => decide (r.power > peak) <;> rfl
theorem placedT_take {l : List Run} {peak : Int} {i : Nat} (h : i < l.length) : placedT (l.take (i + 1)) peak = placedT (l.take i) peak ++ [earlT (placedR (l.take i) peak) l[i] peak] := by
  rw [placedT, placed_take h, List.map_append]
  rfl
theorem placedT_len (l : List Run) (peak : Int) : (placedT l peak).length = (placedR l peak).length := by simp [placedT]
def bathE (l : List Bath) (i : Nat) (x : Bath) : Int :=
  if ¬ ((0 ≤ x.tick ∧ x.tick ≤ 100000) ∧ (-10000 ≤ x.value.lo ∧ x.value.lo ≤ 10000) ∧ (-10000 ≤ x.value.hi ∧ x.value.hi ≤ 10000)) then 2 else if x.value.lo ≤ x.value.hi ∧ (i = 0 ∨ (l.getD (i - 1) ⟨0, ⟨0, 0⟩⟩).tick < x.tick) then 0 else 9
def readE (l : List Bath) : Int := if l.length ≤ 1 then 10 else if 20 < l.length then 8 else (eachGo (bathE l) 0 l).2
def leaveT (last above falls ticks : Int) : Int := last + (above * ticks).tdiv falls + 1
theorem indexFuncE_int {l : List Int} {g : Int → Bool} {Φ : Value → Prop} {J : Nat → Mem → (Nat → Prop) → World → Prop} (hΦ : ∀ (i : Nat) (h : i < l.length) (v : Value), Φ v → CbOk Tryz.prog v [.int .i64 l[i]] (.bool (g l[i])) (J i) (J (i + 1))) (hJ : ∀ i, Stable (J i)) : CtG Tryz.prog 82 [] [ints l, .cb Φ] [(3000, .res (J 0))] [(3000, .res (J (idxN g 0 l)))] (.int .i64 (idxGo g 0 l)) := by
  refine CtG.intro (rs := [.tmp 4]) Tryz.func82 rfl Tryz.ntmps82 Tryz.results82 rfl rfl rfl rfl fun w h => ?_
  refine OK.slLen (rows := l.map (fun n => [.int .i64 n])) (t := 0) rfl rfl fun hlen => ?_
  rw [List.length_map] at hlen
  unfold maxLen at hlen
  refine OK.seq (OK.reg ?_)
  refine RK.c (S.assign .none rfl (.cint rfl)) ?_
  refine RK.nil (Ab.D.code (OK.seq (OK.seq (OK.reg ?_))))
  refine RK.c (S.move .none rfl (.tmp rfl rfl)) ?_
  refine RK.c (S.lenM si26 .none rfl (.tmp rfl rfl)) ?_
  refine RK.c (S.move .none rfl (.cint rfl)) ?_
  refine RK.nil (Ab.D.code ?_)
  refine OK.block ?_
  refine OK.loop (G := Nat) [] (fun i => [(0, ints l), (1, .cb Φ), (6, ints l), (7, .int .i64 l.length), (8, .int .i64 i), (3000, .res (J i))]) (fun i => i ≤ l.length ∧ idxGo g 0 l = idxGo g i (l.drop i) ∧ idxN g 0 l = idxN g i (l.drop i)) (fun i => l.length - i) 0 ⟨Nat.zero_le _, rfl, rfl⟩ ⟨rfl, rfl, rfl, rfl, rfl, rfl, trivial⟩ (fun _ => rfl) ?_
  rintro i ⟨hi, hg, hN⟩
  refine OK.seq (OK.reg ?_)
  refine RK.c (S.lss .none rfl (.tmp rfl rfl) (.tmp rfl rfl)) ?_
  refine RK.nil (Ab.D.code ?_)
  refine OK.seq ?_
  refine OK.condD rfl rfl (fun c9 => ?_) (fun c9 => ?_)
  ·
    refine OK.skip ?_
    refine Ab.D.code ?_
    refine OK.seq ?_
    refine OK.block ?_
    refine OK.seq (OK.reg ?_)
    refine RK.c (S.move .none rfl (.tmp rfl rfl)) ?_
    refine RK.c (S.assign .none rfl (.tmp rfl rfl)) ?_
    refine RK.nil (Ab.D.code (OK.seq (OK.reg ?_)))
    refine RK.c (S.move .none rfl (.tmp rfl rfl)) ?_
    refine RK.c (S.move .none rfl (.tmp rfl rfl)) ?_
    refine RK.c (S.move .none rfl (.tmp rfl rfl)) ?_
    refine RK.c (S.indexM si26 .none rfl (.tmp rfl rfl) (.tmp rfl rfl) rfl (by omega) rfl) ?_
    refine RK.c (S.load1 ti3 .none rfl (.tmp rfl rfl) rfl) ?_
    refine RK.c (S.callcb (J1 := J (i + 1)) (hΦ i (by omega)) (hJ _) .none rfl (.tmp rfl rfl) (.cons (.tmp rfl rfl) .nil) rfl rfl) ?_
    refine RK.nil (Ab.D.code ?_)
    refine OK.cond rfl rfl (fun c16 => ?_) (fun c16 => ?_)
    ·
      refine OK.seq (OK.reg ?_)
      refine RK.c (S.move .none rfl (.tmp rfl rfl)) ?_
      refine RK.c (S.assign .none rfl (.tmp rfl rfl)) ?_
      refine RK.nil (Ab.D.code ?_)
      refine OK.ret ⟨Ret.r1 (.tmp rfl rfl (.c (.same rfl) rfl) rfl) ?_, (lk_res (by rw [hN, idxN_drop _ (by omega), if_pos c16])), trivial⟩
      refine ret_i ?_
      rw [hg, idxGo_drop _ (by omega), if_pos c16]
    ·
      refine OK.skip ?_
      refine Ab.D.blk ?_
      refine Ab.D.code (OK.reg ?_)
      refine RK.c (S.add .none rfl (.tmp rfl rfl) (.cint rfl) (IntWalk.i64_in _ (by omega)) (IntWalk.i64_in _ (by omega))) ?_
      refine RK.c (S.move .none rfl (.tmp rfl rfl)) ?_
      refine RK.nil ?_
      refine Ab.D.lp ⟨i + 1, ⟨by omega, ?_, ?_⟩, (by omega), rfl, rfl, rfl, rfl, rfl, rfl, trivial⟩
      · rw [hg, idxGo_drop _ (by omega), if_neg (by simp [c16])]
      · rw [hN, idxN_drop _ (by omega), if_neg (by simp [c16])]
  ·
    refine OK.exit rfl ?_
    refine Ab.D.code (OK.seq (OK.reg ?_))
    refine RK.c (S.assign .none rfl (.cint rfl)) ?_
    refine RK.nil (Ab.D.code ?_)
    refine OK.ret ⟨Ret.r1 (.tmp rfl rfl (.c (.same rfl) rfl) rfl) ?_, (lk_res (by rw [hN, show i = l.length by omega, List.drop_length]; rfl)), trivial⟩
    refine ret_i ?_
    rw [hg, show i = l.length by omega, List.drop_length]
    rfl
theorem shp_try {l : List Run} {x : Run} {peak tick s : Int} (hl : ∀ r ∈ l, RunB 1000000000 r) (hn : l.length ≤ 100) (hx : RunB 1000000000 ⟨tick, x.ticks, x.power⟩) : CtG Tryz.prog 83 [3, 4, 5] [.int .i64 tick, .ptr 4 0, .ptr 3 0, .ptr 5 0] [(1003, .box [.sl (l.map Run.cs)]), (1004, .box [.int .i64 s, .int .i64 x.ticks, .int .i64 x.power]), (1005, .box [.int .i64 peak])] [(1003, .box [.sl (l.map Run.cs)]), (1004, .box [.int .i64 tick, .int .i64 x.ticks, .int .i64 x.power]), (1005, .box [.int .i64 peak])] (.bool (fitAt l x peak tick)) := by
 refine CtG.intro (rs := [.tmp 5]) Tryz.func83 rfl Tryz.ntmps83 Tryz.results83 rfl rfl rfl rfl fun w h => ?_
 refine OK.seq (OK.reg ?_)
 refine RK.c (S.assign .none rfl .cbool) ?_
 refine RK.nil (Ab.D.code (OK.seq (OK.reg ?_)))
 refine RK.c (S.move .none rfl (.tmp rfl rfl)) ?_
 refine RK.c (S.bfield fi55_0 .none rfl (.tmp rfl rfl)) ?_
 refine RK.c (S.store ti3 .none (.tmp rfl rfl) (.tmp rfl rfl) rfl rfl rfl rfl rfl rfl) ?_
 refine RK.nil (Ab.D.code (OK.seq (OK.reg ?_)))
 refine RK.c (S.bload1 ti56 .none rfl (.tmp rfl rfl) rfl rfl rfl rfl) ?_
 refine RK.c (S.bloadN ti55 .none rfl (.tmp rfl rfl) rfl rfl rfl rfl) ?_
 refine RK.c (S.bload1 ti3 .none rfl (.tmp rfl rfl) rfl rfl rfl rfl) ?_
 refine RK.c (S.call (shp_fits (x := ⟨tick, x.ticks, x.power⟩) hl hn hx) Tryz.call84 .none rfl (.cons (.tmp rfl rfl) (.cons (.tmp rfl rfl) (.cons (.tmp rfl rfl) .nil))) rfl) ?_
 refine RK.c (S.assign .none rfl (.tmp rfl rfl)) ?_
 refine RK.nil (Ab.D.code ?_)
 refine OK.ret ⟨Ret.r1 (.tmp rfl rfl (.c (.same rfl) rfl) rfl) ?_, rfl, rfl, rfl, trivial⟩
 rfl
theorem shp_earliest {l : List Run} {x : Run} {peak : Int} (hl : ∀ r ∈ l, RunB 100000000 r) (hn : l.length ≤ 50) (hx : RunB 100000000 x) (hp : x.power ≤ peak) : Ct Tryz.prog 48 [.sl (l.map Run.cs), .agg x.cs, .int .i64 peak] (.int .i64 (earlT l x peak)) := by
 refine Ct.intro (rs := [.tmp 6]) Tryz.func48 rfl Tryz.ntmps48 Tryz.results48 rfl rfl rfl fun w h => ?_
 have hxx := hx
 obtain ⟨hx1, hx2, hx3⟩ := hx
 have htb := tick_bd hl hx1.2
 obtain ⟨hf1, hf2⟩ := fit_idx hl hp
 have hl9 : ∀ r ∈ l, RunB 1000000000 r := fun r hr => ⟨by have := (hl r hr).1; omega, (hl r hr).2⟩
 refine OK.seq (OK.reg ?_)
 refine RK.c (S.box (k := 3) rfl .none rfl (.tmp rfl rfl) rfl) ?_
 refine RK.c (S.box (k := 4) rfl .none rfl (.tmp rfl rfl) rfl) ?_
 refine RK.c (S.box (k := 5) rfl .none rfl (.tmp rfl rfl) rfl) ?_
 refine RK.c (S.assign .none rfl (.cint rfl)) ?_
 refine RK.nil (Ab.D.code (OK.seq (OK.reg ?_)))
 refine RK.c (S.bfield fi55_0 .none rfl (.tmp rfl rfl)) ?_
 refine RK.c (S.bload1 ti3 .none rfl (.tmp rfl rfl) rfl rfl rfl rfl) ?_
 refine RK.c (S.mkSlice (k := 14) (rows := [[_]]) ai26 .none rfl (.cons (.tmp rfl rfl) .nil) rfl rfl rfl rfl rfl rfl rfl) ?_
 refine RK.c (S.assign .none rfl (.tmp rfl rfl)) ?_
 refine RK.nil (Ab.D.code (OK.seq (OK.seq (OK.reg ?_))))
 refine RK.c (S.bload1 ti56 .none rfl (.tmp rfl rfl) rfl rfl rfl rfl) ?_
 refine RK.c (S.lenM si56 .none rfl (.tmp rfl rfl)) ?_
 refine RK.c (S.move .none rfl (.cint rfl)) ?_
 refine RK.nil (Ab.D.code ?_)
 refine OK.block ?_
 refine OK.loop (G := Nat) [3, 4, 5, 14] (fun i => [(3, .ptr 3 0), (4, .ptr 4 0), (5, .ptr 5 0), (1003, .box [.sl (l.map Run.cs)]), (1004, .box x.cs), (1005, .box [.int .i64 peak]), (7, .own 14 (ticksT (l.take i) x).length), (2014, .arr 1 ((ticksT (l.take i) x).map fun n => [.int .i64 n])), (15, .sl (l.map Run.cs)), (16, .int .i64 l.length), (17, .int .i64 i)]) (fun i => i ≤ l.length) (fun i => l.length - i) 0 (Nat.zero_le _) ⟨rfl, rfl, rfl, rfl, rfl, rfl, (lk_own (by first | rfl | (simp; done) | (simp; omega))), (lk_arr (by first | rfl | (simp; done) | (simp; omega))), rfl, rfl, rfl, trivial⟩ (fun _ => rfl) ?_
 rintro i hi
 refine OK.seq (OK.reg ?_)
 refine RK.c (S.lss .none rfl (.tmp rfl rfl) (.tmp rfl rfl)) ?_
 refine RK.nil (Ab.D.code ?_)
 refine OK.seq ?_
 refine OK.condD rfl rfl (fun c18 => ?_) (fun c18 => ?_)
 ·
  have hml := tick_len l x i
  have hr := hl l[i] (List.getElem_mem (by omega))
  obtain ⟨hr1, hr2, hr3⟩ := hr
  refine OK.skip ?_
  refine Ab.D.code ?_
  refine OK.seq ?_
  refine OK.block ?_
  refine OK.seq (OK.reg ?_)
  refine RK.c (S.indexM si56 .none rfl (.tmp rfl rfl) (.tmp rfl rfl) rfl (by omega) rfl) ?_
  refine RK.c (S.loadN ti55 .none rfl (.tmp rfl rfl) rfl rfl) ?_
  refine RK.c (S.alloc (k := 9) ze55 rfl .none rfl) ?_
  refine RK.c (S.store ti55 .none (.tmp rfl rfl) (.tmp rfl rfl) rfl rfl rfl rfl rfl rfl) ?_
  refine RK.nil (Ab.D.code (OK.seq (OK.reg ?_)))
  refine RK.c (S.bfield fi55_0 .none rfl (.tmp rfl rfl)) ?_
  refine RK.c (S.bload1 ti3 .none rfl (.tmp rfl rfl) rfl rfl rfl rfl) ?_
  refine RK.c (S.bfield fi55_1 .none rfl (.tmp rfl rfl)) ?_
  refine RK.c (S.bload1 ti3 .none rfl (.tmp rfl rfl) rfl rfl rfl rfl) ?_
  refine RK.c (S.add .none rfl (.tmp rfl rfl) (.tmp rfl rfl) (IntWalk.i64_in _ (by omega)) (IntWalk.i64_in _ (by omega))) ?_
  refine RK.c (S.assign .none rfl (.tmp rfl rfl)) ?_
  refine RK.nil (Ab.D.code (OK.seq (OK.reg ?_)))
  refine RK.c (S.move .none rfl (.tmp rfl rfl)) ?_
  refine RK.c (S.bfield fi55_0 .none rfl (.tmp rfl rfl)) ?_
  refine RK.c (S.bload1 ti3 .none rfl (.tmp rfl rfl) rfl rfl rfl rfl) ?_
  refine RK.c (S.gtr .none rfl (.tmp rfl rfl) (.tmp rfl rfl)) ?_
  refine RK.nil (Ab.D.code ?_)
  refine OK.condD rfl rfl (fun c29 => ?_) (fun c29 => ?_)
  ·
   refine OK.reg ?_
   refine RK.c (S.move .none rfl (.tmp rfl rfl)) ?_
   refine RK.c (S.move .none rfl (.tmp rfl rfl)) ?_
   refine RK.c (S.mkSlice (k := 32) (rows := [[_]]) ai26 .none rfl (.cons (.tmp rfl rfl) .nil) rfl rfl rfl rfl rfl rfl rfl) ?_
   refine RK.c (S.append ai26 .none rfl (.tmp rfl rfl) rfl (by simp) (.tmp rfl rfl) rfl (by first | rfl | (simp; done) | (simp; omega)) (by omega) (by simp only [maxLen]; omega)) ?_
   refine RK.c (S.assign .none rfl (.tmp rfl rfl)) ?_
   refine RK.nil ?_
   refine Ab.D.blk ?_
   refine Ab.D.code (OK.reg ?_)
   refine RK.c (S.add .none rfl (.tmp rfl rfl) (.cint rfl) (IntWalk.i64_in _ (by omega)) (IntWalk.i64_in _ (by omega))) ?_
   refine RK.c (S.move .none rfl (.tmp rfl rfl)) ?_
   refine RK.nil ?_
   refine Ab.D.lp ⟨i + 1, (by omega), (by omega), rfl, rfl, rfl, rfl, rfl, rfl, (lk_own (by first | (rw [tick_T (by omega) c29]; simp) | rw [tick_F (by omega) c29])), (lk_arr (by first | (rw [tick_T (by omega) c29]; simp) | rw [tick_F (by omega) c29])), rfl, rfl, rfl, trivial⟩
  ·
   refine OK.skip ?_
   refine Ab.D.blk ?_
   refine Ab.D.code (OK.reg ?_)
   refine RK.c (S.add .none rfl (.tmp rfl rfl) (.cint rfl) (IntWalk.i64_in _ (by omega)) (IntWalk.i64_in _ (by omega))) ?_
   refine RK.c (S.move .none rfl (.tmp rfl rfl)) ?_
   refine RK.nil ?_
   refine Ab.D.lp ⟨i + 1, (by omega), (by omega), rfl, rfl, rfl, rfl, rfl, rfl, (lk_own (by first | (rw [tick_T (by omega) c29]; simp) | rw [tick_F (by omega) c29])), (lk_arr (by first | (rw [tick_T (by omega) c29]; simp) | rw [tick_F (by omega) c29])), rfl, rfl, rfl, trivial⟩
 ·
  refine OK.exit rfl ?_
  refine Ab.D.code ?_
  refine OK.seq ?_
  have hil : i = l.length := by omega
  have hml := tick_len l x i
  rw [hil, List.take_length] at hml
  rw [hil, List.take_length]
  refine OK.reg ?_
  refine RK.c (S.move .none rfl (.tmp rfl rfl)) ?_
  refine RK.c (S.sortI (zs := ticksT l x) sortsI Tryz.call81 .none rfl (.tmp rfl rfl) rfl (by simp) rfl (by omega)) ?_
  refine RK.nil (Ab.D.code ?_)
  refine OK.seq ?_
  have hsl : (sorted (ticksT l x)).length = (ticksT l x).length := sorted_length _
  have hcb : ∀ cL : Ctx, ∀ v0 : Value, RepC cL (.fn 83 [.ptr 4 0, .ptr 3 0, .ptr 5 0]) v0 → CtG Tryz.prog 82 [] ([ints (sorted (ticksT l x))] ++ [.cb fun v => v = v0]) [(3000, .res (LentJ [3, 4, 5] [(1003, .box [.sl (l.map Run.cs)]), (1004, .box [.int .i64 (stAt x.start (sorted (ticksT l x)) 0), .int .i64 x.ticks, .int .i64 x.power]), (1005, .box [.int .i64 peak])] cL [(1003, .box [.sl (l.map Run.cs)]), (1004, .box [.int .i64 (stAt x.start (sorted (ticksT l x)) (0)), .int .i64 x.ticks, .int .i64 x.power]), (1005, .box [.int .i64 peak])]))] [(3000, .res (LentJ [3, 4, 5] [(1003, .box [.sl (l.map Run.cs)]), (1004, .box [.int .i64 (stAt x.start (sorted (ticksT l x)) 0), .int .i64 x.ticks, .int .i64 x.power]), (1005, .box [.int .i64 peak])] cL [(1003, .box [.sl (l.map Run.cs)]), (1004, .box [.int .i64 (stAt x.start (sorted (ticksT l x)) (idxN (fitAt l x peak) 0 (sorted (ticksT l x)))), .int .i64 x.ticks, .int .i64 x.power]), (1005, .box [.int .i64 peak])]))] (.int .i64 (idxGo (fitAt l x peak) 0 (sorted (ticksT l x)))) := fun cL v0 hv => indexFuncE_int (l := sorted (ticksT l x)) (g := fitAt l x peak) (Φ := fun v => v = v0) (J := fun i => LentJ [3, 4, 5] [(1003, .box [.sl (l.map Run.cs)]), (1004, .box [.int .i64 (stAt x.start (sorted (ticksT l x)) 0), .int .i64 x.ticks, .int .i64 x.power]), (1005, .box [.int .i64 peak])] cL [(1003, .box [.sl (l.map Run.cs)]), (1004, .box [.int .i64 (stAt x.start (sorted (ticksT l x)) (i)), .int .i64 x.ticks, .int .i64 x.power]), (1005, .box [.int .i64 peak])]) (fun i hi v hv2 => by
    subst hv2
    have hm := htb (sorted (ticksT l x))[i] (sorted_mem.1 (List.getElem_mem hi))
    have hs1 : stAt x.start (sorted (ticksT l x)) (i + 1) = (sorted (ticksT l x))[i] := getD_at hi
    show CbOk _ _ _ _ _ (LentJ _ _ _ [(1003, .box [.sl (l.map Run.cs)]), (1004, .box [.int .i64 (stAt x.start (sorted (ticksT l x)) (i + 1)), .int .i64 x.ticks, .int .i64 x.power]), (1005, .box [.int .i64 peak])])
    rw [hs1]
    exact cb_of_G (shp_try (s := stAt x.start (sorted (ticksT l x)) i) hl9 (by omega) ⟨⟨by show 0 ≤ (sorted (ticksT l x))[i]; omega, by show (sorted (ticksT l x))[i] ≤ _; omega⟩, hx2, hx3⟩) Tryz.call83 rfl hv rfl rfl) (fun i => LentJ.stable rfl)
  refine OK.freeze 7 rfl rfl rfl (by rw [List.length_map]; exact hsl) ?_
  refine OK.reg ?_
  refine RK.c (S.move .none rfl (.tmp rfl rfl)) ?_
  refine RK.c (S.makeFunc3 .none rfl (.tmp rfl rfl) (.tmp rfl rfl) (.tmp rfl rfl) rfl rfl rfl) ?_
  refine RK.c (S.callE (fs := [3, 4, 5]) (t := [(1003, .box [.sl (l.map Run.cs)]), (1004, .box [.int .i64 (stAt x.start (sorted (ticksT l x)) 0), .int .i64 x.ticks, .int .i64 x.power]), (1005, .box [.int .i64 peak])]) (t' := [(1003, .box [.sl (l.map Run.cs)]), (1004, .box [.int .i64 (stAt x.start (sorted (ticksT l x)) (idxN (fitAt l x peak) 0 (sorted (ticksT l x)))), .int .i64 x.ticks, .int .i64 x.power]), (1005, .box [.int .i64 peak])]) (hcb) Tryz.call82 .none rfl (.cons (.tmp rfl rfl) (.cons (.tmp rfl rfl) .nil)) rfl rfl rfl ⟨rfl, rfl, rfl, trivial⟩ (by kernel_rfl) (by kernel_rfl) (by kernel_rfl) (by kernel_rfl) (by kernel_rfl) rfl rfl) ?_
  refine RK.c (S.assign .none rfl (.tmp rfl rfl)) ?_
  refine RK.nil (Ab.D.code (OK.seq (OK.reg ?_)))
  refine RK.c (S.move .none rfl (.tmp rfl rfl)) ?_
  refine RK.c (S.move .none rfl (.tmp rfl rfl)) ?_
  refine RK.c (S.indexM (n := (idxGo (fitAt l x peak) 0 (sorted (ticksT l x))).toNat) si26 .none rfl (.tmp rfl rfl) (.tmp rfl rfl) (Int.toNat_of_nonneg hf1).symm (show _ < (sorted (ticksT l x)).length by omega) rfl) ?_
  refine RK.c (S.load1 ti3 .none rfl (.tmp rfl rfl) rfl) ?_
  refine RK.c (S.assign .none rfl (.tmp rfl rfl)) ?_
  refine RK.nil (Ab.D.code ?_)
  refine OK.ret (Ret.r1 (.tmp rfl rfl (.c (.same rfl) rfl) rfl) ?_)
  refine ret_i ?_
  unfold earlT
  rw [getD_at (by omega)]
theorem shp_great {r : Run} {peak : Int} : Ct Tryz.prog 46 [.agg r.cs, .eptr [.int .i64 peak]] (.bool (decide (r.power > peak))) := by
 refine Ct.intro (rs := [.tmp 3]) Tryz.func46 rfl Tryz.ntmps46 Tryz.results46 rfl rfl rfl fun w h => ?_
 refine OK.seq (OK.reg ?_)
 refine RK.c (S.box (k := 2) rfl .none rfl (.tmp rfl rfl) rfl) ?_
 refine RK.c (S.assign .none rfl .cbool) ?_
 refine RK.nil (Ab.D.code (OK.seq (OK.reg ?_)))
 refine RK.c (S.bfield fi55_2 .none rfl (.tmp rfl rfl)) ?_
 refine RK.c (S.bload1 ti3 .none rfl (.tmp rfl rfl) rfl rfl rfl rfl) ?_
 refine RK.c (S.load1 ti3 .none rfl (.tmp rfl rfl) rfl) ?_
 refine RK.c (S.gtr .none rfl (.tmp rfl rfl) (.tmp rfl rfl)) ?_
 refine RK.c (S.assign .none rfl (.tmp rfl rfl)) ?_
 refine RK.nil (Ab.D.code ?_)
 refine OK.ret (Ret.r1 (.tmp rfl rfl (.c (.same rfl) rfl) rfl) ?_)
 rfl
theorem shp_Placed {l : List Run} {peak : Int} : Ct Tryz.prog 21 [.sl (l.map Run.cs), .int .i64 peak] (.tup [ints (if placedE l peak = 0 then placedT l peak else []), .int .i64 (placedE l peak)]) := by
 refine Ct.intro (rs := [.tmp 4, .tmp 5]) Tryz.func21 rfl Tryz.ntmps21 Tryz.results21 rfl rfl rfl fun w h => ?_
 refine OK.seq (OK.reg ?_)
 refine RK.c (S.box (k := 3) rfl .none rfl (.tmp rfl rfl) rfl) ?_
 refine RK.c (S.assign .none rfl .cnil) ?_
 refine RK.c (S.assign .none rfl (.cint rfl)) ?_
 refine RK.nil (Ab.D.code (OK.seq (OK.reg ?_)))
 refine RK.c (S.move .none rfl (.tmp rfl rfl)) ?_
 refine RK.c (S.call (shp_CheckRuns) Tryz.call44 .none rfl (.cons (.tmp rfl rfl) .nil) rfl) ?_
 refine RK.c (S.move .none rfl (.tmp rfl rfl)) ?_
 refine RK.c (S.extract .none rfl (.tmp rfl rfl) rfl rfl) ?_
 refine RK.c (S.extract .none rfl (.tmp rfl rfl) rfl rfl) ?_
 refine RK.c (S.assign .none rfl (.tmp rfl rfl)) ?_
 refine RK.c (S.assign .none rfl (.tmp rfl rfl)) ?_
 refine RK.nil (Ab.D.code (OK.seq (OK.reg ?_)))
 refine RK.c (S.move .none rfl (.tmp rfl rfl)) ?_
 refine RK.c (S.makeFunc1 .none rfl (.tmp rfl rfl) rfl) ?_
 refine RK.c (S.callL (containsFunc_Run (l := l) (g := fun r => decide (r.power > peak)) (caps := [.eptr [.int .i64 peak]]) (fun r _ => shp_great) Tryz.call46 ⟨rfl, rfl⟩) Tryz.call45 .none rfl (.cons (.tmp rfl rfl) (.cons (.tmp rfl rfl) .nil)) (.cons (.same rfl) (.cons (.fn (.cons (.ptr rfl rfl rfl rfl) .nil)) .nil)) rfl) ?_
 refine RK.c (S.assign .none rfl (.tmp rfl rfl)) ?_
 refine RK.nil (Ab.D.code (OK.seq (OK.seq (OK.reg ?_))))
 refine RK.c (S.move .none rfl (.tmp rfl rfl)) ?_
 refine RK.c (S.bload1 ti3 .none rfl (.tmp rfl rfl) rfl rfl rfl rfl) ?_
 refine RK.c (S.call (shp_peakErr) Tryz.call47 .none rfl (.cons (.tmp rfl rfl) .nil) rfl) ?_
 refine RK.c (S.move .none rfl (.tmp rfl rfl)) ?_
 refine RK.c (S.not .none rfl (.tmp rfl rfl)) ?_
 refine RK.c (S.call (shop_unless) Tryz.call40 .none rfl (.cons (.tmp rfl rfl) (.cons (.cint rfl) .nil)) rfl) ?_
 refine RK.c (S.mkSlice (k := 27) (rows := [[_], [_], [_]]) ai130 .none rfl (.cons (.tmp rfl rfl) (.cons (.tmp rfl rfl) (.cons (.tmp rfl rfl) .nil))) rfl rfl rfl rfl rfl rfl rfl) ?_
 refine RK.c (S.callL (shop_first (l := [_, _, _])) Tryz.call36 .none rfl (.cons (.tmp rfl rfl) .nil) (.cons (.p (.own rfl rfl) rfl) .nil) rfl) ?_
 refine RK.c (S.assign .none rfl (.tmp rfl rfl)) ?_
 refine RK.nil (Ab.D.code (OK.seq (OK.reg ?_)))
 refine RK.c (S.move .none rfl (.tmp rfl rfl)) ?_
 refine RK.c (S.neq .none rfl (.tmp rfl rfl) (.cint rfl)) ?_
 refine RK.nil (Ab.D.code ?_)
 refine OK.condD rfl rfl (fun c30 => ?_) (fun c30 => ?_)
 ·
  refine OK.seq (OK.reg ?_)
  refine RK.c (S.move .none rfl (.tmp rfl rfl)) ?_
  refine RK.c (S.assign .none rfl .cnil) ?_
  refine RK.c (S.assign .none rfl (.tmp rfl rfl)) ?_
  refine RK.nil (Ab.D.code ?_)
  refine OK.ret (Ret.r2 (.tmp rfl rfl (.c (.same rfl) rfl) rfl) (.tmp rfl rfl (.c (.same rfl) rfl) rfl) ?_)
  rw [if_neg (show ¬ placedE l peak = 0 by rw [← placedE_eq]; exact c30), ← placedE_eq]
  rfl
 ·
  have he : placedE l peak = 0 := by rw [← placedE_eq]; exact Decidable.not_not.1 c30
  obtain ⟨hq1, hq2, hq3, hq4⟩ := placed_ok he
  refine OK.skip ?_
  refine Ab.D.code (OK.seq (OK.reg ?_))
  refine RK.c (S.nilOwn (k := 9) (sz := 3) .none rfl) ?_
  refine RK.nil (Ab.D.code (OK.seq (OK.reg ?_)))
  refine RK.c (S.nilOwn (k := 10) (sz := 1) .none rfl) ?_
  refine RK.nil (Ab.D.code (OK.seq (OK.seq (OK.reg ?_))))
  refine RK.c (S.move .none rfl (.tmp rfl rfl)) ?_
  refine RK.c (S.lenM si56 .none rfl (.tmp rfl rfl)) ?_
  refine RK.c (S.move .none rfl (.cint rfl)) ?_
  refine RK.nil (Ab.D.code ?_)
  refine OK.block ?_
  refine OK.loop (G := Nat) [3, 9, 10] (fun i => [(3, .ptr 3 0), (1003, .box [.int .i64 peak]), (9, .own 9 (placedR (l.take i) peak).length), (2009, .arr 3 ((placedR (l.take i) peak).map Run.cs)), (10, .own 10 (placedT (l.take i) peak).length), (2010, .arr 1 ((placedT (l.take i) peak).map fun n => [.int .i64 n])), (32, .sl (l.map Run.cs)), (33, .int .i64 l.length), (34, .int .i64 i)]) (fun i => i ≤ l.length) (fun i => l.length - i) 0 (Nat.zero_le _) ⟨rfl, rfl, (lk_own (by first | rfl | (simp; done) | (simp; omega))), (lk_arr (by first | rfl | (simp; done) | (simp; omega))), (lk_own (by first | rfl | (simp; done) | (simp; omega))), (lk_arr (by first | rfl | (simp; done) | (simp; omega))), rfl, rfl, rfl, trivial⟩ (fun _ => rfl) ?_
  rintro i hi
  refine OK.seq (OK.reg ?_)
  refine RK.c (S.lss .none rfl (.tmp rfl rfl) (.tmp rfl rfl)) ?_
  refine RK.nil (Ab.D.code ?_)
  refine OK.seq ?_
  refine OK.condD rfl rfl (fun c35 => ?_) (fun c35 => ?_)
  ·
   have hpl := placeGo_len peak (l.take i) []
   have htl : (l.take i).length ≤ i := List.length_take_le i l
   have hpb := placed_bd hq2 hq4 i (by omega)
   have hb8 : ∀ r ∈ placedR (l.take i) peak, RunB 100000000 r := fun r hr => ⟨by have := (hpb r hr).1; omega, (hpb r hr).2⟩
   have hxi := hq2 l[i] (List.getElem_mem (by omega))
   have hx8 : RunB 100000000 l[i] := ⟨by have := hxi.1; omega, hxi.2⟩
   have hpl2 : (placedR (l.take i) peak).length ≤ 12 := by unfold placedR; rw [hpl]; simp only [List.length_nil]; omega
   have hpt := placedT_len (l.take i) peak
   refine OK.skip ?_
   refine Ab.D.code ?_
   refine OK.seq ?_
   refine OK.block ?_
   refine OK.seq (OK.reg ?_)
   refine RK.c (S.indexM si56 .none rfl (.tmp rfl rfl) (.tmp rfl rfl) rfl (by omega) rfl) ?_
   refine RK.c (S.loadN ti55 .none rfl (.tmp rfl rfl) rfl rfl) ?_
   refine RK.c (S.alloc (k := 12) ze55 rfl .none rfl) ?_
   refine RK.c (S.store ti55 .none (.tmp rfl rfl) (.tmp rfl rfl) rfl rfl rfl rfl rfl rfl) ?_
   refine RK.nil (Ab.D.code (OK.seq (OK.reg ?_)))
   refine RK.c (S.move .none rfl (.tmp rfl rfl)) ?_
   refine RK.c (S.bloadN ti55 .none rfl (.tmp rfl rfl) rfl rfl rfl rfl) ?_
   refine RK.c (S.bload1 ti3 .none rfl (.tmp rfl rfl) rfl rfl rfl rfl) ?_
   refine RK.c (S.callL (shp_earliest (l := placedR (l.take i) peak) hb8 (by omega) hx8 (hq4 _ (List.getElem_mem (by omega)))) Tryz.call48 .none rfl (.cons (.tmp rfl rfl) (.cons (.tmp rfl rfl) (.cons (.tmp rfl rfl) .nil))) (.cons (.p (.own rfl (by simp)) rfl) (.cons (.same rfl) (.cons (.same rfl) .nil))) rfl) ?_
   refine RK.c (S.bfield fi55_0 .none rfl (.tmp rfl rfl)) ?_
   refine RK.c (S.store ti3 .none (.tmp rfl rfl) (.tmp rfl rfl) rfl rfl rfl rfl rfl rfl) ?_
   refine RK.nil (Ab.D.code ?_)
   refine OK.regionDraw follows (.c (S.move .none rfl (.tmp rfl rfl))
    (.c (S.bloadN ti55 .none rfl (.tmp rfl rfl) rfl rfl rfl rfl)
    (.c (S.mkSlice (k := 45) (rows := [[_, _, _]]) ai56 .none rfl (.cons (.tmp rfl rfl) .nil) rfl rfl rfl rfl rfl rfl rfl)
    (.c (S.append ai56 .none rfl (.tmp rfl rfl) rfl (by simp) (.tmp rfl rfl) rfl (by first | rfl | (simp; done) | (simp; omega)) (by omega) (by simp only [maxLen]; omega))
    (.c (S.move .none rfl (.tmp rfl rfl))
    (.c (S.bfield fi55_0 .none rfl (.tmp rfl rfl))
    (.c (S.bload1 ti3 .none rfl (.tmp rfl rfl) rfl rfl rfl rfl)
    (.c (S.mkSlice (k := 50) (rows := [[_]]) ai26 .none rfl (.cons (.tmp rfl rfl) .nil) rfl rfl rfl rfl rfl rfl rfl)
    (.c (S.append ai26 .none rfl (.tmp rfl rfl) rfl (by simp) (.tmp rfl rfl) rfl (by first | rfl | (simp; done) | (simp; omega)) (by omega) (by simp only [maxLen]; omega))
    (.c (S.assign .none rfl (.tmp rfl rfl))
    (.c (S.assign .none rfl (.tmp rfl rfl))
    .nil))))))))))) (by kernel_rfl) ?_
   refine Ab.D.blk ?_
   refine Ab.D.code (OK.reg ?_)
   refine RK.c (S.add .none rfl (.tmp rfl rfl) (.cint rfl) (IntWalk.i64_in _ (by omega)) (IntWalk.i64_in _ (by omega))) ?_
   refine RK.c (S.move .none rfl (.tmp rfl rfl)) ?_
   refine RK.nil ?_
   refine Ab.D.lp ⟨i + 1, (by omega), (by omega), rfl, rfl, (lk_own (by rw [placed_take (by omega)]; simp)), (lk_arr (by rw [placed_take (by omega)]; simp; rfl)), (lk_own (by rw [placedT_take (by omega)]; simp)), (lk_arr (by rw [placedT_take (by omega)]; simp)), rfl, rfl, rfl, trivial⟩
  ·
   refine OK.exit rfl ?_
   refine Ab.D.code (OK.seq (OK.reg ?_))
   refine RK.c (S.move .none rfl (.tmp rfl rfl)) ?_
   refine RK.c (S.assign .none rfl (.tmp rfl rfl)) ?_
   refine RK.c (S.assign .none rfl (.cint rfl)) ?_
   refine RK.nil (Ab.D.code ?_)
   refine OK.ret (Ret.r2 (.tmp rfl rfl (.c (.own rfl rfl (by first | rfl | (simp; done) | (simp; omega))) rfl) rfl) (.tmp rfl rfl (.c (.same rfl) rfl) rfl) ?_)
   rw [if_pos he, he, show i = l.length by omega, List.take_length]
   rfl
end Go.Proofs.YtbnimikgjjjcaaaGreatDoor
