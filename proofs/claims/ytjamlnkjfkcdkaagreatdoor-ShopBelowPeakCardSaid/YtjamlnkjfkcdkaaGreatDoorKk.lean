import Derived.Test.YtjamlnkjfkcdkaaGreatDoorKj
import Derived.Test.YtjamlnkjfkcdkaaGreatDoorTy
namespace Go.Proofs.YtjamlnkjfkcdkaaGreatDoor
open Go.Ab
theorem place_pre (peak : Int) : ∀ (l acc : List Run), (placeGo peak acc l).take acc.length = acc
  | [], acc => List.take_length
  | r :: l, acc => by
    rw [placeGo]
    have h := congrArg (List.take acc.length) (place_pre peak l (acc ++ [⟨earlT acc r peak, r.ticks, r.power⟩]))
    rw [List.take_take, Nat.min_eq_left (by simp), List.take_left] at h
    exact h
theorem placedT_pre {l : List Run} {peak : Int} {i : Nat} (h : i ≤ l.length) : (placedT l peak).take i = placedT (l.take i) peak := by
  have h1 : placedR l peak = placeGo peak (placedR (l.take i) peak) (l.drop i) := by
    unfold placedR
    rw [← placeGo_app, List.take_append_drop]
  have h2 : (placedR (l.take i) peak).length = i := by unfold placedR; rw [placeGo_len]; simp; omega
  have h3 := place_pre peak (l.drop i) (placedR (l.take i) peak)
  rw [h2, ← h1] at h3
  unfold placedT
  rw [← List.map_take, h3]
theorem placed_len2 (l : List Run) (peak : Int) : (placedT l peak).length = l.length := by rw [placedT_len, placedR, placeGo_len]; simp
theorem placed_get {l : List Run} {peak : Int} {i : Nat} (h : i < l.length) (h2 : i < (placedT l peak).length) : (placedT l peak)[i] = earlT (placedR (l.take i) peak) l[i] peak := by
  have h3 := placedT_pre (l := l) (peak := peak) (i := i + 1) (by omega)
  rw [placedT_take h] at h3
  have h4 : (placedT (l.take i) peak).length = i := by rw [placed_len2]; simp; omega
  have h5 : (placedT l peak)[i]? = some (earlT (placedR (l.take i) peak) l[i] peak) := by
    have h6 : ((placedT l peak).take (i + 1))[i]? = (placedT l peak)[i]? := by rw [List.getElem?_take, if_pos (by omega)]
    rw [← h6, h3, List.getElem?_append_right (by omega), h4, Nat.sub_self]
    rfl
  rw [List.getElem?_eq_getElem h2] at h5
  exact Option.some.inj h5
theorem power_le {B : Int} {s t : Int} : ∀ {L : List Run}, (∀ r ∈ L, RunB B r) → (∀ r ∈ L, (r.start ≤ t ∧ t ≤ r.start + r.ticks - 1) → (r.start ≤ s ∧ s ≤ r.start + r.ticks - 1)) → powerT t L ≤ powerT s L
  | [], _, _ => Int.le_refl _
  | r :: L, hB, h => by
    have h1 := power_le (s := s) (t := t) (fun q hq => hB q (List.mem_cons_of_mem r hq)) fun q hq => h q (List.mem_cons_of_mem r hq)
    have h2 := h r List.mem_cons_self
    have h3 := (hB r List.mem_cons_self).2.2
    simp only [powerT, powOf]
    by_cases hc : r.start ≤ t ∧ t ≤ r.start + r.ticks - 1
    · rw [if_pos hc, if_pos (h2 hc)]; omega
    · rw [if_neg hc]
      split <;> omega
theorem fit_iff {L : List Run} {x : Run} {peak t : Int} : fitAt L x peak t = true ↔ powerT t L + x.power ≤ peak ∧ ∀ r ∈ L, (t ≤ r.start ∧ r.start ≤ t + x.ticks - 1) → powerT r.start L + x.power ≤ peak := by
  rw [fit_all, Bool.and_eq_true, decide_eq_true_eq, List.all_eq_true]
  unfold fitIn
  simp only [decide_eq_true_eq]
theorem below_peak {B : Int} {L : List Run} {x : Run} {peak p t : Int} (hB : ∀ r ∈ L, RunB B r) (hf : fitAt L x peak p = true) (h1 : p ≤ t) (h2 : t ≤ p + x.ticks - 1) : powerT t (L ++ [⟨p, x.ticks, x.power⟩]) ≤ peak := by
  obtain ⟨f1, f2⟩ := fit_iff.1 hf
  obtain ⟨s, hs1, hs2⟩ := max_ex (p :: (L.filter fun r => decide (p ≤ r.start ∧ r.start ≤ t)).map (·.start)) (by simp)
  have hsp := hs2 p List.mem_cons_self
  have hst : s ≤ t ∧ powerT s L + x.power ≤ peak := by
    rcases List.mem_cons.1 hs1 with rfl | hs1
    · exact ⟨h1, f1⟩
    · obtain ⟨r, hr, rfl⟩ := List.mem_map.1 hs1
      obtain ⟨hr1, hr2⟩ := List.mem_filter.1 hr
      have := of_decide_eq_true hr2
      exact ⟨this.2, f2 r hr1 ⟨this.1, by omega⟩⟩
  have hle := power_le (s := s) (t := t) hB fun r hr hc => by
    refine ⟨?_, by omega⟩
    by_cases hps : p ≤ r.start
    · exact hs2 _ (List.mem_cons_of_mem p (List.mem_map.2 ⟨r, List.mem_filter.2 ⟨hr, decide_eq_true ⟨hps, hc.1⟩⟩, rfl⟩))
    · omega
  rw [power_app]
  simp only [powerT, powOf]
  rw [if_pos ⟨h1, h2⟩]
  omega
theorem early_no {B : Int} {L : List Run} {x : Run} {peak : Int} (hB : ∀ r ∈ L, RunB B r) (hx : 1 ≤ x.ticks) (hp : x.power ≤ peak) (hgt : x.start < earlT L x peak) : ∃ t, earlT L x peak - 1 ≤ t ∧ t < earlT L x peak + x.ticks - 1 ∧ powerT t L + x.power > peak := by
  refine Classical.byContradiction fun hno => ?_
  have hall : ∀ t, earlT L x peak - 1 ≤ t → t < earlT L x peak + x.ticks - 1 → powerT t L + x.power ≤ peak := fun t h1 h2 => Decidable.byContradiction fun h => hno ⟨t, h1, h2, by omega⟩
  obtain ⟨e1, e2, e3⟩ := earl_least (x := x) hB hp
  obtain ⟨c, hc1, hc2⟩ := max_ex ((ticksT L x).filter fun t => decide (t ≤ earlT L x peak - 1)) (fun h => by
    have : x.start ∈ (ticksT L x).filter fun t => decide (t ≤ earlT L x peak - 1) := List.mem_filter.2 ⟨List.mem_cons_self, decide_eq_true (by omega)⟩
    rw [h] at this
    cases this)
  obtain ⟨hc3, hc4⟩ := List.mem_filter.1 hc1
  have hcp := of_decide_eq_true hc4
  have hxc := hc2 x.start (List.mem_filter.2 ⟨List.mem_cons_self, decide_eq_true (by omega)⟩)
  have hend : ∀ r ∈ L, r.start + r.ticks > c → earlT L x peak ≤ r.start + r.ticks := fun r hr hec => Decidable.byContradiction fun hn => by
    have := hc2 (r.start + r.ticks) (List.mem_filter.2 ⟨tick_of hr (by omega), decide_eq_true (by omega)⟩)
    omega
  have hle : ∀ s, c ≤ s → s ≤ earlT L x peak - 1 → powerT s L + x.power ≤ peak := fun s h1 h2 => by
    have h3 := power_le (s := earlT L x peak - 1) (t := s) hB fun r hr hc => by
      have := hend r hr (by omega)
      omega
    have h4 := hall (earlT L x peak - 1) (Int.le_refl _) (by omega)
    omega
  have hfit : fitAt L x peak c = true := fit_iff.2 ⟨hle c (Int.le_refl _) hcp, fun r hr hc => by
    by_cases h : r.start ≤ earlT L x peak - 1
    · exact hle r.start hc.1 h
    · exact hall r.start (by omega) (by omega)⟩
  have := e3 c hc3 hfit
  omega
theorem earl_more {B : Int} {L : List Run} {x : Run} {peak m : Int} (hB : ∀ r ∈ L, RunB B r) (hp : x.power ≤ peak) (hm : 0 ≤ m) : earlT L x (peak + m) ≤ earlT L x peak := by
  obtain ⟨e1, e2, e3⟩ := earl_least (x := x) hB hp
  obtain ⟨g1, g2, g3⟩ := earl_least (x := x) (peak := peak + m) hB (by omega)
  obtain ⟨f1, f2⟩ := fit_iff.1 e2
  exact g3 _ e1 (fit_iff.2 ⟨by omega, fun r hr hc => by have := f2 r hr hc; omega⟩)
theorem earl_one {x : Run} {peak : Int} (hp : x.power ≤ peak) : earlT [] x peak = x.start := by
  have h := earl_mem (B := 0) (l := []) (x := x) (peak := peak) (fun r hr => by cases hr) hp
  rcases tick_mem h with h | ⟨r, hr, _⟩
  · exact h
  · cases hr
structure PlOk (l : List Run) (peak : Int) : Prop where
  len : l.length ≤ 12
  run : ∀ r ∈ l, RunB 100000 r
  pow : ∀ r ∈ l, r.power ≤ peak
theorem pl_run {l : List Run} {peak : Int} (h : PlOk l peak) {i : Nat} (hi : i ≤ l.length) : ∀ r ∈ placedR (l.take i) peak, RunB 100000000 r := fun r hr => (placed_bdT h.run (fun r hr => h.pow r (List.mem_of_mem_take hr)) hi r hr).mono (by have := h.len; omega)
theorem pl_bd {l : List Run} {peak : Int} (h : PlOk l peak) {i : Nat} (hi : i < l.length) (h2 : i < (placedT l peak).length) : l[i].start ≤ (placedT l peak)[i] ∧ (placedT l peak)[i] ≤ 10000000 := by
  have hx := h.run l[i] (List.getElem_mem hi)
  have hb := placed_bdT h.run (i := i) (fun r hr => h.pow r (List.mem_of_mem_take hr)) (by omega)
  have h3 := tick_bd (x := l[i]) hb (by have := hx.1; omega) _ (earl_mem (peak := peak) hb (h.pow _ (List.getElem_mem hi)))
  rw [placed_get hi h2]
  have := h.len
  omega
theorem pl_first {l : List Run} {peak : Int} (h : PlOk l peak) (hi : 0 < l.length) (h2 : 0 < (placedT l peak).length) : (placedT l peak)[0] = l[0].start := by
  rw [placed_get hi h2]
  exact earl_one (h.pow _ (List.getElem_mem hi))
theorem pl_at {l : List Run} {peak t : Int} (h : PlOk l peak) {i : Nat} (hi : i < l.length) (h2 : i < (placedT l peak).length) (h3 : (placedT l peak)[i] ≤ t) (h4 : t < (placedT l peak)[i] + l[i].ticks) : powerT t (placedR (l.take (i + 1)) peak) ≤ peak := by
  rw [placed_get hi h2] at h3 h4
  rw [placed_take hi]
  obtain ⟨_, e2, _⟩ := earl_least (x := l[i]) (pl_run h (i := i) (by omega)) (h.pow _ (List.getElem_mem hi))
  exact below_peak (pl_run h (i := i) (by omega)) e2 h3 (by omega)
def overT (L : List Run) (x : Run) (p peak : Int) (k : Nat) : Bool := (List.range k).any fun j : Nat => decide (powerT (p - 1 + j) L + x.power > peak)
theorem over_succ (L : List Run) (x : Run) (p peak : Int) (k : Nat) : overT L x p peak (k + 1) = (overT L x p peak k || decide (powerT (p - 1 + k) L + x.power > peak)) := by
  unfold overT
  rw [List.range_succ, List.any_append]
  simp
theorem pl_over {l : List Run} {peak : Int} (h : PlOk l peak) {i k : Nat} (hi : i < l.length) (h2 : i < (placedT l peak).length) (h3 : l[i].start < (placedT l peak)[i]) (hk : l[i].ticks ≤ k) : overT (placedR (l.take i) peak) l[i] (placedT l peak)[i] peak k = true := by
  rw [placed_get hi h2] at h3 ⊢
  obtain ⟨t, t1, t2, t3⟩ := early_no (pl_run h (i := i) (by omega)) (h.run _ (List.getElem_mem hi)).2.1.1 (h.pow _ (List.getElem_mem hi)) h3
  refine List.any_eq_true.2 ⟨(t - (earlT (placedR (l.take i) peak) l[i] peak - 1)).toNat, List.mem_range.2 (by omega), decide_eq_true ?_⟩
  rw [show earlT (placedR (l.take i) peak) l[i] peak - 1 + (((t - (earlT (placedR (l.take i) peak) l[i] peak - 1)).toNat : Nat) : Int) = t by omega]
  exact t3
theorem pl_ok {l : List Run} {peak : Int} (h : placedE l peak = 0) : PlOk l peak := by
  obtain ⟨h1, h2, _, h4⟩ := placed_ok h
  exact ⟨h1, h2, h4⟩
theorem pl_more {l : List Run} {peak m : Int} (h : placedE l peak = 0) (hm : 0 ≤ m) (hk : peakE (peak + m) = 0) : placedE l (peak + m) = 0 := by
  have h0 := h
  unfold placedE at h ⊢
  split at h
  · contradiction
  · rename_i h1
    rw [if_neg h1, if_neg (by omega), if_neg]
    intro hc
    obtain ⟨r, hr, hd⟩ := List.any_eq_true.1 hc
    have := of_decide_eq_true hd
    have := (pl_ok h0).pow r hr
    omega
theorem pl_second {l : List Run} {peak m : Int} (h : PlOk l peak) (hm : 0 ≤ m) (hl : 1 < l.length) (h2 : 1 < (placedT l peak).length) (h3 : 1 < (placedT l (peak + m)).length) : (placedT l (peak + m))[1] ≤ (placedT l peak)[1] := by
  rw [placed_get hl h2, placed_get hl h3]
  have h0 := h.pow l[0] (List.getElem_mem (by omega))
  have e : ∀ q : Int, l[0].power ≤ q → placedR (l.take 1) q = [⟨l[0].start, l[0].ticks, l[0].power⟩] := fun q hq => by
    rw [placed_take (l := l) (i := 0) (by omega)]
    show [(⟨earlT [] l[0] q, _, _⟩ : Run)] = _
    rw [earl_one hq]
  rw [e peak h0, e (peak + m) (by omega)]
  refine earl_more (B := 100000) (fun r hr => ?_) (h.pow _ (List.getElem_mem hl)) hm
  rw [List.mem_singleton.1 hr]
  exact h.run l[0] (List.getElem_mem (by omega))
theorem placedE_12 {l : List Run} {peak : Int} (h1 : (runsChk l).2 = 0) (h2 : peakE peak = 0) (h : placedE l peak ≠ 0) : placedE l peak = 12 := by
  unfold placedE at *
  rw [if_neg (by omega), if_neg (by omega)] at h ⊢
  split at h
  · rename_i hc; rw [if_pos hc]
  · contradiction
theorem PlOk.more {l : List Run} {peak m : Int} (h : PlOk l peak) (hm : 0 ≤ m) : PlOk l (peak + m) := ⟨h.len, h.run, fun r hr => by have := h.pow r hr; omega⟩
set_option maxHeartbeats 2000000 in
theorem law_ShopBelowPeak {l : List Run} {peak more : Int} : Ct Tryz.prog 4 [.sl (l.map Run.cs), .int .i64 peak, .int .i64 more] (.bool true) := by
  refine Ct.intro (rs := [.tmp 6]) Tryz.func4 rfl Tryz.ntmps4 Tryz.results4 rfl rfl rfl fun w h => ?_
  refine OK.seq ?_
  refine OK.reg ?_
  refine RK.c (S.assign .none rfl .cbool) ?_
  refine RK.nil ?_
  refine Ab.D.code ?_
  refine OK.seq ?_
  refine OK.seq ?_
  refine OK.reg ?_
  refine RK.c (S.call (law9_awake) Tryz.call15 .none rfl .nil rfl) ?_
  refine RK.c (S.not .none rfl (.tmp rfl rfl)) ?_
  refine RK.nil ?_
  refine Ab.D.code ?_
  refine OK.condF rfl rfl rfl ?_
  refine OK.skip ?_
  refine Ab.D.code ?_
  refine OK.seq ?_
  refine OK.seq ?_
  refine OK.reg ?_
  refine RK.c (S.move .none rfl (.tmp rfl rfl)) ?_
  refine RK.c (S.lenM si41 .none rfl (.tmp rfl rfl)) ?_
  refine RK.c (S.gtr .none rfl (.tmp rfl rfl) (.cint rfl)) ?_
  refine RK.c (S.move .none rfl (.tmp rfl rfl)) ?_
  refine RK.splitD (t := 21) rfl (fun g21 => ?_) (fun g21 => ?_)
  ·
    refine RK.c (S.skip rfl rfl rfl rfl rfl) ?_
    refine RK.c (S.skip rfl rfl rfl rfl rfl) ?_
    refine RK.c (S.skip rfl rfl rfl rfl rfl) ?_
    refine RK.c (S.pickT .none rfl (.tmp rfl rfl) .cbool rfl) ?_
    refine RK.c (S.move .none rfl (.tmp rfl rfl)) ?_
    refine RK.c (S.skip rfl rfl rfl rfl rfl) ?_
    refine RK.c (S.skip rfl rfl rfl rfl rfl) ?_
    refine RK.c (S.skip rfl rfl rfl rfl rfl) ?_
    refine RK.c (S.pickT .none rfl (.tmp rfl rfl) .cbool rfl) ?_
    refine RK.c (S.move .none rfl (.tmp rfl rfl)) ?_
    refine RK.c (S.skip rfl rfl rfl rfl rfl) ?_
    refine RK.c (S.skip rfl rfl rfl rfl rfl) ?_
    refine RK.c (S.skip rfl rfl rfl rfl rfl) ?_
    refine RK.c (S.pickT .none rfl (.tmp rfl rfl) .cbool rfl) ?_
    refine RK.nil ?_
    refine Ab.D.code ?_
    refine OK.condT rfl rfl rfl ?_
    refine OK.seq ?_
    refine OK.reg ?_
    refine RK.c (S.assign .none rfl .cbool) ?_
    refine RK.nil ?_
    refine Ab.D.code ?_
    refine OK.ret (Ret.r1 (.tmp rfl rfl (.c (.same rfl) rfl) rfl) ?_)
    first | rfl | exact ret_dT rfl | exact ret_dT h12 | exact ret_dT hf3
  ·
    refine RK.c (S.move (.yes rfl rfl rfl rfl) rfl (.tmp rfl rfl)) ?_
    refine RK.c (S.call (ref9_RunsErr) Tryz.call25 (.yes rfl rfl rfl rfl) rfl (.cons (.tmp rfl rfl) .nil) rfl) ?_
    refine RK.c (S.neq (.yes rfl rfl rfl rfl) rfl (.tmp rfl rfl) (.cint rfl)) ?_
    refine RK.c (S.pickF .none rfl (.tmp rfl rfl) (.tmp rfl rfl) rfl) ?_
    refine RK.c (S.move .none rfl (.tmp rfl rfl)) ?_
    refine RK.splitD (t := 26) rfl (fun g26 => ?_) (fun g26 => ?_)
    ·
      refine RK.c (S.skip rfl rfl rfl rfl rfl) ?_
      refine RK.c (S.skip rfl rfl rfl rfl rfl) ?_
      refine RK.c (S.skip rfl rfl rfl rfl rfl) ?_
      refine RK.c (S.pickT .none rfl (.tmp rfl rfl) .cbool rfl) ?_
      refine RK.c (S.move .none rfl (.tmp rfl rfl)) ?_
      refine RK.c (S.skip rfl rfl rfl rfl rfl) ?_
      refine RK.c (S.skip rfl rfl rfl rfl rfl) ?_
      refine RK.c (S.skip rfl rfl rfl rfl rfl) ?_
      refine RK.c (S.pickT .none rfl (.tmp rfl rfl) .cbool rfl) ?_
      refine RK.nil ?_
      refine Ab.D.code ?_
      refine OK.condT rfl rfl rfl ?_
      refine OK.seq ?_
      refine OK.reg ?_
      refine RK.c (S.assign .none rfl .cbool) ?_
      refine RK.nil ?_
      refine Ab.D.code ?_
      refine OK.ret (Ret.r1 (.tmp rfl rfl (.c (.same rfl) rfl) rfl) ?_)
      first | rfl | exact ret_dT rfl | exact ret_dT h12 | exact ret_dT hf3
    ·
      refine RK.c (S.move (.yes rfl rfl rfl rfl) rfl (.tmp rfl rfl)) ?_
      refine RK.c (S.call (ref9_PeakErr) Tryz.call26 (.yes rfl rfl rfl rfl) rfl (.cons (.tmp rfl rfl) .nil) rfl) ?_
      refine RK.c (S.neq (.yes rfl rfl rfl rfl) rfl (.tmp rfl rfl) (.cint rfl)) ?_
      refine RK.c (S.pickF .none rfl (.tmp rfl rfl) (.tmp rfl rfl) rfl) ?_
      refine RK.c (S.move .none rfl (.tmp rfl rfl)) ?_
      refine RK.splitD (t := 31) rfl (fun g31 => ?_) (fun g31 => ?_)
      ·
        refine RK.c (S.skip rfl rfl rfl rfl rfl) ?_
        refine RK.c (S.skip rfl rfl rfl rfl rfl) ?_
        refine RK.c (S.skip rfl rfl rfl rfl rfl) ?_
        refine RK.c (S.pickT .none rfl (.tmp rfl rfl) .cbool rfl) ?_
        refine RK.nil ?_
        refine Ab.D.code ?_
        refine OK.condT rfl rfl rfl ?_
        refine OK.seq ?_
        refine OK.reg ?_
        refine RK.c (S.assign .none rfl .cbool) ?_
        refine RK.nil ?_
        refine Ab.D.code ?_
        refine OK.ret (Ret.r1 (.tmp rfl rfl (.c (.same rfl) rfl) rfl) ?_)
        first | rfl | exact ret_dT rfl | exact ret_dT h12 | exact ret_dT hf3
      ·
        refine RK.c (S.move (.yes rfl rfl rfl rfl) rfl (.tmp rfl rfl)) ?_
        refine RK.c (S.call (base_Within) Tryz.call27 (.yes rfl rfl rfl rfl) rfl (.cons (.tmp rfl rfl) (.cons (.cint rfl) (.cons (.cint rfl) .nil))) rfl) ?_
        refine RK.c (S.notD (.yes rfl rfl rfl rfl) rfl (.tmp rfl rfl)) ?_
        refine RK.c (S.pickF .none rfl (.tmp rfl rfl) (.tmp rfl rfl) rfl) ?_
        refine RK.nil ?_
        refine Ab.D.code ?_
        refine OK.condD rfl rfl (fun c35 => ?_) (fun c35 => ?_)
        ·
          refine OK.seq ?_
          refine OK.reg ?_
          refine RK.c (S.assign .none rfl .cbool) ?_
          refine RK.nil ?_
          refine Ab.D.code ?_
          refine OK.ret (Ret.r1 (.tmp rfl rfl (.c (.same rfl) rfl) rfl) ?_)
          first | rfl | exact ret_dT rfl | exact ret_dT h12 | exact ret_dT hf3
        ·
          have hr0 : (runsChk l).2 = 0 := Decidable.not_not.1 g26
          have hk0 : peakE peak = 0 := Decidable.not_not.1 g31
          have hmo : 0 ≤ more ∧ more ≤ 1000 := Decidable.not_not.1 c35
          refine OK.skip ?_
          refine Ab.D.code ?_
          refine OK.seq ?_
          refine OK.seq ?_
          refine OK.reg ?_
          refine RK.c (S.assign .none rfl (.cint rfl)) ?_
          refine RK.nil ?_
          refine Ab.D.code ?_
          refine OK.block ?_
          refine OK.loop (G := Nat) [] (fun i => [(0, .sl (l.map Run.cs)), (1, .int .i64 peak), (2, .int .i64 more), (7, .int .i64 i)]) (fun i => i ≤ l.length) (fun i => l.length - i) 0 (Nat.zero_le _) ⟨rfl, rfl, rfl, rfl, trivial⟩ (fun _ => rfl) ?_
          rintro i hi
          refine OK.seq ?_
          refine OK.seq ?_
          refine OK.reg ?_
          refine RK.c (S.move .none rfl (.tmp rfl rfl)) ?_
          refine RK.c (S.move .none rfl (.tmp rfl rfl)) ?_
          refine RK.c (S.lenM si41 .none rfl (.tmp rfl rfl)) ?_
          refine RK.c (S.lss .none rfl (.tmp rfl rfl) (.tmp rfl rfl)) ?_
          refine RK.nil ?_
          refine Ab.D.code ?_
          refine OK.condD rfl rfl (fun c39 => ?_) (fun c39 => ?_)
          ·
            refine OK.skip ?_
            refine Ab.D.code ?_
            refine OK.seq ?_
            refine OK.block ?_
            refine OK.seq ?_
            refine OK.reg ?_
            refine RK.c (S.move .none rfl (.tmp rfl rfl)) ?_
            refine RK.c (S.move .none rfl (.tmp rfl rfl)) ?_
            refine RK.c (S.indexM (n := i) si41 .none rfl (.tmp rfl rfl) (.tmp rfl rfl) rfl (by omega) rfl) ?_
            refine RK.c (S.field fi46_1 .none rfl (.tmp rfl rfl) rfl) ?_
            refine RK.c (S.load1 ti3 .none rfl (.tmp rfl rfl) rfl) ?_
            refine RK.c (S.gtr .none rfl (.tmp rfl rfl) (.cint rfl)) ?_
            refine RK.nil ?_
            refine Ab.D.code ?_
            refine OK.condD rfl rfl (fun c47 => ?_) (fun c47 => ?_)
            ·
              refine OK.seq ?_
              refine OK.reg ?_
              refine RK.c (S.assign .none rfl .cbool) ?_
              refine RK.nil ?_
              refine Ab.D.code ?_
              refine OK.ret (Ret.r1 (.tmp rfl rfl (.c (.same rfl) rfl) rfl) ?_)
              first | rfl | exact ret_dT rfl | exact ret_dT h12 | exact ret_dT hf3
            ·
              refine OK.skip ?_
              refine Ab.D.blk ?_
              refine Ab.D.code ?_
              refine OK.reg ?_
              refine RK.c (S.move .none rfl (.tmp rfl rfl)) ?_
              refine RK.c (S.add .none rfl (.tmp rfl rfl) (.cint rfl) (IntWalk.i64_in _ (by omega)) (IntWalk.i64_in _ (by omega))) ?_
              refine RK.c (S.assign .none rfl (.tmp rfl rfl)) ?_
              refine RK.nil ?_
              refine Ab.D.lp ⟨i + 1, (by omega), (by omega), rfl, rfl, rfl, rfl, trivial⟩
          ·
            refine OK.exit rfl ?_
            refine Ab.D.code ?_
            refine OK.seq ?_
            refine OK.reg ?_
            refine RK.c (S.move .none rfl (.tmp rfl rfl)) ?_
            refine RK.c (S.call (ref9_CopyRuns (by omega)) Tryz.call29 .none rfl (.cons (.tmp rfl rfl) .nil) rfl) ?_
            refine RK.c (S.move .none rfl (.tmp rfl rfl)) ?_
            refine RK.c (S.call (shp_Placed) Tryz.call28 .none rfl (.cons (.tmp rfl rfl) (.cons (.tmp rfl rfl) .nil)) rfl) ?_
            refine RK.c (S.move .none rfl (.tmp rfl rfl)) ?_
            refine RK.c (S.extract .none rfl (.tmp rfl rfl) rfl rfl) ?_
            refine RK.c (S.extract .none rfl (.tmp rfl rfl) rfl rfl) ?_
            refine RK.c (S.assign .none rfl (.tmp rfl rfl)) ?_
            refine RK.c (S.assign .none rfl (.tmp rfl rfl)) ?_
            refine RK.nil ?_
            refine Ab.D.code ?_
            refine OK.seq ?_
            refine OK.seq ?_
            refine OK.reg ?_
            refine RK.c (S.move .none rfl (.tmp rfl rfl)) ?_
            refine RK.c (S.neq .none rfl (.tmp rfl rfl) (.cint rfl)) ?_
            refine RK.nil ?_
            refine Ab.D.code ?_
            refine OK.condD rfl rfl (fun c56 => ?_) (fun c56 => ?_)
            ·
              have h12 := placedE_12 hr0 hk0 c56
              refine OK.seq ?_
              refine OK.reg ?_
              refine RK.c (S.move .none rfl (.tmp rfl rfl)) ?_
              refine RK.c (S.eql .none rfl (.tmp rfl rfl) (.cint rfl)) ?_
              refine RK.c (S.assign .none rfl (.tmp rfl rfl)) ?_
              refine RK.nil ?_
              refine Ab.D.code ?_
              refine OK.ret (Ret.r1 (.tmp rfl rfl (.c (.same rfl) rfl) rfl) ?_)
              first | rfl | exact ret_dT rfl | exact ret_dT h12 | exact ret_dT hf3
            ·
              have hp0 : placedE l peak = 0 := Decidable.not_not.1 c56
              rw [if_pos hp0]
              have hP := pl_ok hp0
              have hPl := placed_len2 l peak
              have hPi : ∀ {i : Nat}, i < l.length → i < (placedT l peak).length := fun h => by omega
              have hlen := hP.len
              have hkb := peakE_0 hk0
              refine OK.skip ?_
              refine Ab.D.code ?_
              refine OK.seq ?_
              refine OK.seq ?_
              refine OK.reg ?_
              refine RK.c (S.move .none rfl (.tmp rfl rfl)) ?_
              refine RK.c (S.lenM si30 .none rfl (.tmp rfl rfl)) ?_
              refine RK.c (S.move .none rfl (.tmp rfl rfl)) ?_
              refine RK.c (S.lenM si41 .none rfl (.tmp rfl rfl)) ?_
              refine RK.c (S.neq .none rfl (.tmp rfl rfl) (.tmp rfl rfl)) ?_
              refine RK.nil ?_
              refine Ab.D.code ?_
              refine OK.condD rfl rfl (fun c63 => ?_) (fun c63 => ?_)
              ·
                exfalso
                omega
              ·
                refine OK.skip ?_
                refine Ab.D.code ?_
                refine OK.seq ?_
                refine OK.seq ?_
                refine OK.reg ?_
                refine RK.c (S.assign .none rfl (.cint rfl)) ?_
                refine RK.nil ?_
                refine Ab.D.code ?_
                refine OK.block ?_
                refine OK.loop (G := Nat) [] (fun i => [(0, .sl (l.map Run.cs)), (1, .int .i64 peak), (2, .int .i64 more), (8, ints (placedT l peak)), (10, .int .i64 i)]) (fun i => i ≤ l.length) (fun i => l.length - i) 0 (Nat.zero_le _) ⟨rfl, rfl, rfl, rfl, rfl, trivial⟩ (fun _ => rfl) ?_
                rintro i hi
                refine OK.seq ?_
                refine OK.seq ?_
                refine OK.reg ?_
                refine RK.c (S.move .none rfl (.tmp rfl rfl)) ?_
                refine RK.c (S.move .none rfl (.tmp rfl rfl)) ?_
                refine RK.c (S.lenM si41 .none rfl (.tmp rfl rfl)) ?_
                refine RK.c (S.lss .none rfl (.tmp rfl rfl) (.tmp rfl rfl)) ?_
                refine RK.nil ?_
                refine Ab.D.code ?_
                refine OK.condD rfl rfl (fun c67 => ?_) (fun c67 => ?_)
                ·
                  have hil : i < l.length := by omega
                  have hbd := pl_bd hP hil (hPi hil)
                  have hxi := hP.run l[i] (List.getElem_mem hil)
                  obtain ⟨hx1, hx2, hx3⟩ := hxi
                  have hrun := pl_run hP (i := i) (by omega)
                  have hrun1 := pl_run hP (i := i + 1) (by omega)
                  have hz0 : zipR (l.take i) ((placedT l peak).take i) = placedR (l.take i) peak := by rw [placedT_pre (by omega), zip_placed i (by omega)]
                  have hz1 : zipR (l.take (i + 1)) ((placedT l peak).take (i + 1)) = placedR (l.take (i + 1)) peak := by rw [placedT_pre (by omega), zip_placed (i + 1) (by omega)]
                  refine OK.skip ?_
                  refine Ab.D.code ?_
                  refine OK.seq ?_
                  refine OK.block ?_
                  refine OK.seq ?_
                  refine OK.seq ?_
                  by_cases g81 : ¬ (l[i].start ≤ (placedT l peak)[i]'(hPi hil) ∧ (placedT l peak)[i]'(hPi hil) ≤ 10000000)
                  ·
                    exact absurd ⟨hbd.1, hbd.2⟩ g81
                  ·
                    by_cases g84 : (i : Int) = 0
                    ·
                      have hi0 : i = 0 := by omega
                      have hfi := pl_first hP (by omega) (by omega)
                      refine OK.regionDraw follows (.c (S.move .none rfl (.tmp rfl rfl))
                        (.c (S.move .none rfl (.tmp rfl rfl))
                        (.c (S.indexM (n := i) si30 .none rfl (.tmp rfl rfl) (.tmp rfl rfl) rfl (hPi hil) rfl)
                        (.c (S.load1 ti3 .none rfl (.tmp rfl rfl) rfl)
                        (.c (S.move .none rfl (.tmp rfl rfl))
                        (.c (S.move .none rfl (.tmp rfl rfl))
                        (.c (S.indexM (n := i) si41 .none rfl (.tmp rfl rfl) (.tmp rfl rfl) rfl hil rfl)
                        (.c (S.field fi46_0 .none rfl (.tmp rfl rfl) rfl)
                        (.c (S.load1 ti3 .none rfl (.tmp rfl rfl) rfl)
                        (.c (S.call (base_Within) Tryz.call27 .none rfl (.cons (.tmp rfl rfl) (.cons (.tmp rfl rfl) (.cons (.cint rfl) .nil))) rfl)
                        (.c (S.notD .none rfl (.tmp rfl rfl))
                        (.c (S.move .none rfl (.tmp rfl rfl))
                        (.c (S.move (.yes rfl rfl rfl (by first | rfl | exact decide_eq_true g81 | exact decide_eq_false g81 | (rw [decide_eq_true g81]; rfl) | (rw [decide_eq_false g81]; rfl) | simp [*])) rfl (.tmp rfl rfl))
                        (.c (S.eql (.yes rfl rfl rfl (by first | rfl | exact decide_eq_true g81 | exact decide_eq_false g81 | (rw [decide_eq_true g81]; rfl) | (rw [decide_eq_false g81]; rfl) | simp [*])) rfl (.tmp rfl rfl) (.cint rfl))
                        (.c (S.move (.yes rfl rfl rfl (by first | rfl | exact decide_eq_true g81 | exact decide_eq_false g81 | (rw [decide_eq_true g81]; rfl) | (rw [decide_eq_false g81]; rfl) | simp [*])) rfl (.tmp rfl rfl))
                        (.c (S.move (.yes rfl rfl rfl (by first | rfl | exact decide_eq_true g84 | exact decide_eq_false g84 | (rw [decide_eq_true g84]; rfl) | (rw [decide_eq_false g84]; rfl) | simp [*])) rfl (.tmp rfl rfl))
                        (.c (S.indexM (n := 0) si30 (.yes rfl rfl rfl (by first | rfl | exact decide_eq_true g84 | exact decide_eq_false g84 | (rw [decide_eq_true g84]; rfl) | (rw [decide_eq_false g84]; rfl) | simp [*])) rfl (.tmp rfl rfl) (.cint rfl) rfl (by omega) rfl)
                        (.c (S.load1 ti3 (.yes rfl rfl rfl (by first | rfl | exact decide_eq_true g84 | exact decide_eq_false g84 | (rw [decide_eq_true g84]; rfl) | (rw [decide_eq_false g84]; rfl) | simp [*])) rfl (.tmp rfl rfl) rfl)
                        (.c (S.move (.yes rfl rfl rfl (by first | rfl | exact decide_eq_true g84 | exact decide_eq_false g84 | (rw [decide_eq_true g84]; rfl) | (rw [decide_eq_false g84]; rfl) | simp [*])) rfl (.tmp rfl rfl))
                        (.c (S.indexM (n := 0) si41 (.yes rfl rfl rfl (by first | rfl | exact decide_eq_true g84 | exact decide_eq_false g84 | (rw [decide_eq_true g84]; rfl) | (rw [decide_eq_false g84]; rfl) | simp [*])) rfl (.tmp rfl rfl) (.cint rfl) rfl (by omega) rfl)
                        (.c (S.field fi46_0 (.yes rfl rfl rfl (by first | rfl | exact decide_eq_true g84 | exact decide_eq_false g84 | (rw [decide_eq_true g84]; rfl) | (rw [decide_eq_false g84]; rfl) | simp [*])) rfl (.tmp rfl rfl) rfl)
                        (.c (S.load1 ti3 (.yes rfl rfl rfl (by first | rfl | exact decide_eq_true g84 | exact decide_eq_false g84 | (rw [decide_eq_true g84]; rfl) | (rw [decide_eq_false g84]; rfl) | simp [*])) rfl (.tmp rfl rfl) rfl)
                        (.c (S.neq (.yes rfl rfl rfl (by first | rfl | exact decide_eq_true g84 | exact decide_eq_false g84 | (rw [decide_eq_true g84]; rfl) | (rw [decide_eq_false g84]; rfl) | simp [*])) rfl (.tmp rfl rfl) (.tmp rfl rfl))
                        (.c (S.pickT (.yes rfl rfl rfl (by first | rfl | exact decide_eq_true g81 | exact decide_eq_false g81 | (rw [decide_eq_true g81]; rfl) | (rw [decide_eq_false g81]; rfl) | simp [*])) rfl (.tmp rfl rfl) (.tmp rfl rfl) (by first | rfl | exact decide_eq_true g84 | exact decide_eq_false g84 | (rw [decide_eq_true g84]; rfl) | (rw [decide_eq_false g84]; rfl) | simp [*]))
                        (.c (S.pickF .none rfl (.tmp rfl rfl) (.tmp rfl rfl) (by first | rfl | exact decide_eq_true g81 | exact decide_eq_false g81 | (rw [decide_eq_true g81]; rfl) | (rw [decide_eq_false g81]; rfl) | simp [*]))
                        .nil))))))))))))))))))))))))) (by kernel_rfl) ?_
                      refine Ab.D.code ?_
                      refine OK.condD rfl rfl (fun c94 => ?_) (fun c94 => ?_)
                      ·
                        first | exact absurd hfi c94 | exact absurd hbd c94 | (simp at c94; done)
                      ·
                        refine OK.skip ?_
                        refine Ab.D.code ?_
                        refine OK.seq ?_
                        refine OK.seq ?_
                        refine OK.reg ?_
                        refine RK.c (S.move .none rfl (.tmp rfl rfl)) ?_
                        refine RK.c (S.move .none rfl (.tmp rfl rfl)) ?_
                        refine RK.c (S.indexM (n := i) si30 .none rfl (.tmp rfl rfl) (.tmp rfl rfl) rfl (hPi hil) rfl) ?_
                        refine RK.c (S.load1 ti3 .none rfl (.tmp rfl rfl) rfl) ?_
                        refine RK.c (S.assign .none rfl (.tmp rfl rfl)) ?_
                        refine RK.nil ?_
                        refine Ab.D.code ?_
                        refine OK.block ?_
                        refine OK.loop (G := Nat) [] (fun k => [(0, .sl (l.map Run.cs)), (1, .int .i64 peak), (2, .int .i64 more), (8, ints (placedT l peak)), (10, .int .i64 i), (11, .int .i64 ((placedT l peak)[i]'(hPi hil) + k))]) (fun k => (k : Int) ≤ l[i].ticks) (fun k => l[i].ticks.toNat - k) 0 (by omega) ⟨rfl, rfl, rfl, rfl, rfl, (lkI (by omega)), trivial⟩ (fun _ => rfl) ?_
                        rintro k hk
                        refine OK.seq ?_
                        refine OK.seq ?_
                        refine OK.regionDraw follows (.c (S.move .none rfl (.tmp rfl rfl))
                          (.c (S.move .none rfl (.tmp rfl rfl))
                          (.c (S.move .none rfl (.tmp rfl rfl))
                          (.c (S.indexM (n := i) si30 .none rfl (.tmp rfl rfl) (.tmp rfl rfl) rfl (hPi hil) rfl)
                          (.c (S.load1 ti3 .none rfl (.tmp rfl rfl) rfl)
                          (.c (S.move .none rfl (.tmp rfl rfl))
                          (.c (S.move .none rfl (.tmp rfl rfl))
                          (.c (S.indexM (n := i) si41 .none rfl (.tmp rfl rfl) (.tmp rfl rfl) rfl hil rfl)
                          (.c (S.field fi46_1 .none rfl (.tmp rfl rfl) rfl)
                          (.c (S.load1 ti3 .none rfl (.tmp rfl rfl) rfl)
                          (.c (S.add .none rfl (.tmp rfl rfl) (.tmp rfl rfl) (IntWalk.i64_in _ (by omega)) (IntWalk.i64_in _ (by omega)))
                          (.c (S.lss .none rfl (.tmp rfl rfl) (.tmp rfl rfl))
                          .nil)))))))))))) (by kernel_rfl) ?_
                        refine Ab.D.code ?_
                        refine OK.condD rfl rfl (fun c110 => ?_) (fun c110 => ?_)
                        ·
                          refine OK.skip ?_
                          refine Ab.D.code ?_
                          refine OK.seq ?_
                          refine OK.block ?_
                          refine OK.seq ?_
                          refine OK.regionDraw follows (.c (S.move .none rfl (.tmp rfl rfl))
                            (.c (S.move .none rfl (.tmp rfl rfl))
                            (.c (S.add .none rfl (.tmp rfl rfl) (.cint rfl) (IntWalk.i64_in _ (by omega)) (IntWalk.i64_in _ (by omega)))
                            (.c (S.slice (hi := i + 1) (l' := l.take (i + 1)) si41 (fun _ => rfl) .none rfl (.tmp rfl rfl) (.inl ⟨rfl, rfl, rfl⟩) (.inr ⟨_, _, rfl, (.tmp rfl rfl), (by omega)⟩) (Nat.zero_le _) (by omega) rfl)
                            (.c (S.move .none rfl (.tmp rfl rfl))
                            (.c (S.move .none rfl (.tmp rfl rfl))
                            (.c (S.add .none rfl (.tmp rfl rfl) (.cint rfl) (IntWalk.i64_in _ (by omega)) (IntWalk.i64_in _ (by omega)))
                            (.c (S.slice (hi := i + 1) (l' := (placedT l peak).take (i + 1)) si30 (fun _ => rfl) .none rfl (.tmp rfl rfl) (.inl ⟨rfl, rfl, rfl⟩) (.inr ⟨_, _, rfl, (.tmp rfl rfl), (by omega)⟩) (Nat.zero_le _) (by omega) rfl)
                            (.c (S.move .none rfl (.tmp rfl rfl))
                            (.c (S.call (ref9_At (l := l.take (i + 1)) (b := (placedT l peak).take (i + 1)) (by simp; omega) (by simp; omega) (by rw [hz1]; exact fun r hr => (hrun1 r hr).mono (by omega))) Tryz.call30 .none rfl (.cons (.tmp rfl rfl) (.cons (.tmp rfl rfl) (.cons (.tmp rfl rfl) .nil))) rfl)
                            (.c (S.move .none rfl (.tmp rfl rfl))
                            (.c (S.gtr .none rfl (.tmp rfl rfl) (.tmp rfl rfl))
                            .nil)))))))))))) (by kernel_rfl) ?_
                          refine Ab.D.code ?_
                          refine OK.condD rfl rfl (fun c124 => ?_) (fun c124 => ?_)
                          ·
                            exfalso
                            have hat := pl_at hP hil (hPi hil) (t := (placedT l peak)[i]'(hPi hil) + k) (by omega) (by omega)
                            rw [hz1] at c124
                            omega
                          ·
                            refine OK.skip ?_
                            refine Ab.D.blk ?_
                            refine Ab.D.code ?_
                            refine OK.reg ?_
                            refine RK.c (S.move .none rfl (.tmp rfl rfl)) ?_
                            refine RK.c (S.add .none rfl (.tmp rfl rfl) (.cint rfl) (IntWalk.i64_in _ (by omega)) (IntWalk.i64_in _ (by omega))) ?_
                            refine RK.c (S.assign .none rfl (.tmp rfl rfl)) ?_
                            refine RK.nil ?_
                            refine Ab.D.lp ⟨k + 1, (by omega), (by omega), rfl, rfl, rfl, rfl, rfl, (lkI (by omega)), trivial⟩
                        ·
                          refine OK.exit rfl ?_
                          refine Ab.D.code ?_
                          refine OK.seq ?_
                          refine OK.regionDraw follows (.c (S.move .none rfl (.tmp rfl rfl))
                            (.c (S.move .none rfl (.tmp rfl rfl))
                            (.c (S.indexM (n := i) si30 .none rfl (.tmp rfl rfl) (.tmp rfl rfl) rfl (hPi hil) rfl)
                            (.c (S.load1 ti3 .none rfl (.tmp rfl rfl) rfl)
                            (.c (S.move .none rfl (.tmp rfl rfl))
                            (.c (S.move .none rfl (.tmp rfl rfl))
                            (.c (S.indexM (n := i) si41 .none rfl (.tmp rfl rfl) (.tmp rfl rfl) rfl hil rfl)
                            (.c (S.field fi46_0 .none rfl (.tmp rfl rfl) rfl)
                            (.c (S.load1 ti3 .none rfl (.tmp rfl rfl) rfl)
                            (.c (S.gtr .none rfl (.tmp rfl rfl) (.tmp rfl rfl))
                            .nil)))))))))) (by kernel_rfl) ?_
                          refine Ab.D.code ?_
                          refine OK.condD rfl rfl (fun c134 => ?_) (fun c134 => ?_)
                          ·
                            refine OK.seq ?_
                            refine OK.reg ?_
                            refine RK.c (S.assign .none rfl .cbool) ?_
                            refine RK.nil ?_
                            refine Ab.D.code ?_
                            refine OK.seq ?_
                            refine OK.seq ?_
                            refine OK.reg ?_
                            refine RK.c (S.move .none rfl (.tmp rfl rfl)) ?_
                            refine RK.c (S.move .none rfl (.tmp rfl rfl)) ?_
                            refine RK.c (S.indexM (n := i) si30 .none rfl (.tmp rfl rfl) (.tmp rfl rfl) rfl (hPi hil) rfl) ?_
                            refine RK.c (S.load1 ti3 .none rfl (.tmp rfl rfl) rfl) ?_
                            refine RK.c (S.sub .none rfl (.tmp rfl rfl) (.cint rfl) (IntWalk.i64_in _ (by omega)) (IntWalk.i64_in _ (by omega))) ?_
                            refine RK.c (S.assign .none rfl (.tmp rfl rfl)) ?_
                            refine RK.nil ?_
                            refine Ab.D.code ?_
                            refine OK.block ?_
                            refine OK.loop (G := Nat) [] (fun k => [(0, .sl (l.map Run.cs)), (1, .int .i64 peak), (2, .int .i64 more), (8, ints (placedT l peak)), (10, .int .i64 i), (12, .bool (overT (placedR (l.take i) peak) l[i] ((placedT l peak)[i]'(hPi hil)) peak k)), (13, .int .i64 ((placedT l peak)[i]'(hPi hil) - 1 + k))]) (fun k => (k : Int) ≤ l[i].ticks) (fun k => l[i].ticks.toNat - k) 0 (by omega) ⟨rfl, rfl, rfl, rfl, rfl, rfl, (lkI (by omega)), trivial⟩ (fun _ => rfl) ?_
                            rintro k hk
                            refine OK.seq ?_
                            refine OK.seq ?_
                            refine OK.regionDraw follows (.c (S.move .none rfl (.tmp rfl rfl))
                              (.c (S.move .none rfl (.tmp rfl rfl))
                              (.c (S.move .none rfl (.tmp rfl rfl))
                              (.c (S.indexM (n := i) si30 .none rfl (.tmp rfl rfl) (.tmp rfl rfl) rfl (hPi hil) rfl)
                              (.c (S.load1 ti3 .none rfl (.tmp rfl rfl) rfl)
                              (.c (S.move .none rfl (.tmp rfl rfl))
                              (.c (S.move .none rfl (.tmp rfl rfl))
                              (.c (S.indexM (n := i) si41 .none rfl (.tmp rfl rfl) (.tmp rfl rfl) rfl hil rfl)
                              (.c (S.field fi46_1 .none rfl (.tmp rfl rfl) rfl)
                              (.c (S.load1 ti3 .none rfl (.tmp rfl rfl) rfl)
                              (.c (S.add .none rfl (.tmp rfl rfl) (.tmp rfl rfl) (IntWalk.i64_in _ (by omega)) (IntWalk.i64_in _ (by omega)))
                              (.c (S.sub .none rfl (.tmp rfl rfl) (.cint rfl) (IntWalk.i64_in _ (by omega)) (IntWalk.i64_in _ (by omega)))
                              (.c (S.lss .none rfl (.tmp rfl rfl) (.tmp rfl rfl))
                              .nil))))))))))))) (by kernel_rfl) ?_
                            refine Ab.D.code ?_
                            refine OK.condD rfl rfl (fun c152 => ?_) (fun c152 => ?_)
                            ·
                              refine OK.skip ?_
                              refine Ab.D.code ?_
                              refine OK.seq ?_
                              refine OK.block ?_
                              by_cases g156 : overT (placedR (l.take i) peak) l[i] ((placedT l peak)[i]'(hPi hil)) peak k = true
                              ·
                                refine OK.regionDraw follows (.c (S.move .none rfl (.tmp rfl rfl))
                                  (.c (S.move .none rfl (.tmp rfl rfl))
                                  (.c (S.skip rfl rfl rfl (by first | rfl | exact g156 | exact Bool.eq_false_iff.2 g156 | (simp [g156]; done)) rfl)
                                  (.c (S.skip rfl rfl rfl (by first | rfl | exact g156 | exact Bool.eq_false_iff.2 g156 | (simp [g156]; done)) rfl)
                                  (.c (S.skip rfl rfl rfl (by first | rfl | exact g156 | exact Bool.eq_false_iff.2 g156 | (simp [g156]; done)) rfl)
                                  (.c (S.skip rfl rfl rfl (by first | rfl | exact g156 | exact Bool.eq_false_iff.2 g156 | (simp [g156]; done)) rfl)
                                  (.c (S.skip rfl rfl rfl (by first | rfl | exact g156 | exact Bool.eq_false_iff.2 g156 | (simp [g156]; done)) rfl)
                                  (.c (S.skip rfl rfl rfl (by first | rfl | exact g156 | exact Bool.eq_false_iff.2 g156 | (simp [g156]; done)) rfl)
                                  (.c (S.skip rfl rfl rfl (by first | rfl | exact g156 | exact Bool.eq_false_iff.2 g156 | (simp [g156]; done)) rfl)
                                  (.c (S.skip rfl rfl rfl (by first | rfl | exact g156 | exact Bool.eq_false_iff.2 g156 | (simp [g156]; done)) rfl)
                                  (.c (S.skip rfl rfl rfl (by first | rfl | exact g156 | exact Bool.eq_false_iff.2 g156 | (simp [g156]; done)) rfl)
                                  (.c (S.skip rfl rfl rfl (by first | rfl | exact g156 | exact Bool.eq_false_iff.2 g156 | (simp [g156]; done)) rfl)
                                  (.c (S.skip rfl rfl rfl (by first | rfl | exact g156 | exact Bool.eq_false_iff.2 g156 | (simp [g156]; done)) rfl)
                                  (.c (S.skip rfl rfl rfl (by first | rfl | exact g156 | exact Bool.eq_false_iff.2 g156 | (simp [g156]; done)) rfl)
                                  (.c (S.skip rfl rfl rfl (by first | rfl | exact g156 | exact Bool.eq_false_iff.2 g156 | (simp [g156]; done)) rfl)
                                  (.c (S.skip rfl rfl rfl (by first | rfl | exact g156 | exact Bool.eq_false_iff.2 g156 | (simp [g156]; done)) rfl)
                                  (.c (S.skip rfl rfl rfl (by first | rfl | exact g156 | exact Bool.eq_false_iff.2 g156 | (simp [g156]; done)) rfl)
                                  (.c (S.skip rfl rfl rfl (by first | rfl | exact g156 | exact Bool.eq_false_iff.2 g156 | (simp [g156]; done)) rfl)
                                  (.c (S.pickT .none rfl (.tmp rfl rfl) .cbool (by first | rfl | exact g156 | exact Bool.eq_false_iff.2 g156 | (simp [g156]; done)))
                                  (.c (S.assign .none rfl (.tmp rfl rfl))
                                  .nil)))))))))))))))))))) (by kernel_rfl) ?_
                                refine Ab.D.blk ?_
                                refine Ab.D.code ?_
                                refine OK.reg ?_
                                refine RK.c (S.move .none rfl (.tmp rfl rfl)) ?_
                                refine RK.c (S.add .none rfl (.tmp rfl rfl) (.cint rfl) (IntWalk.i64_in _ (by omega)) (IntWalk.i64_in _ (by omega))) ?_
                                refine RK.c (S.assign .none rfl (.tmp rfl rfl)) ?_
                                refine RK.nil ?_
                                refine Ab.D.lp ⟨k + 1, (by omega), (by omega), rfl, rfl, rfl, rfl, rfl, (lkB (by rw [over_succ]; first | (rw [g156]; rfl) | (rw [show overT _ _ _ peak k = false by simpa using g156, hz0]; rfl))), (lkI (by omega)), trivial⟩
                              ·
                                refine OK.regionDraw follows (.c (S.move .none rfl (.tmp rfl rfl))
                                  (.c (S.move .none rfl (.tmp rfl rfl))
                                  (.c (S.move (.yes rfl rfl rfl (by first | rfl | exact g156 | exact Bool.eq_false_iff.2 g156 | (simp [g156]; done))) rfl (.tmp rfl rfl))
                                  (.c (S.move (.yes rfl rfl rfl (by first | rfl | exact g156 | exact Bool.eq_false_iff.2 g156 | (simp [g156]; done))) rfl (.tmp rfl rfl))
                                  (.c (S.slice (hi := i) (l' := l.take i) si41 (fun _ => rfl) (.yes rfl rfl rfl (by first | rfl | exact g156 | exact Bool.eq_false_iff.2 g156 | (simp [g156]; done))) rfl (.tmp rfl rfl) (.inl ⟨rfl, rfl, rfl⟩) (.inr ⟨_, _, rfl, (.tmp rfl rfl), rfl⟩) (Nat.zero_le _) (by omega) rfl)
                                  (.c (S.move (.yes rfl rfl rfl (by first | rfl | exact g156 | exact Bool.eq_false_iff.2 g156 | (simp [g156]; done))) rfl (.tmp rfl rfl))
                                  (.c (S.move (.yes rfl rfl rfl (by first | rfl | exact g156 | exact Bool.eq_false_iff.2 g156 | (simp [g156]; done))) rfl (.tmp rfl rfl))
                                  (.c (S.slice (hi := i) (l' := (placedT l peak).take i) si30 (fun _ => rfl) (.yes rfl rfl rfl (by first | rfl | exact g156 | exact Bool.eq_false_iff.2 g156 | (simp [g156]; done))) rfl (.tmp rfl rfl) (.inl ⟨rfl, rfl, rfl⟩) (.inr ⟨_, _, rfl, (.tmp rfl rfl), rfl⟩) (Nat.zero_le _) (by omega) rfl)
                                  (.c (S.move (.yes rfl rfl rfl (by first | rfl | exact g156 | exact Bool.eq_false_iff.2 g156 | (simp [g156]; done))) rfl (.tmp rfl rfl))
                                  (.c (S.call (ref9_At (l := l.take i) (b := (placedT l peak).take i) (by simp; omega) (by simp; omega) (by rw [hz0]; exact fun r hr => (hrun r hr).mono (by omega))) Tryz.call30 (.yes rfl rfl rfl (by first | rfl | exact g156 | exact Bool.eq_false_iff.2 g156 | (simp [g156]; done))) rfl (.cons (.tmp rfl rfl) (.cons (.tmp rfl rfl) (.cons (.tmp rfl rfl) .nil))) rfl)
                                  (.c (S.move (.yes rfl rfl rfl (by first | rfl | exact g156 | exact Bool.eq_false_iff.2 g156 | (simp [g156]; done))) rfl (.tmp rfl rfl))
                                  (.c (S.move (.yes rfl rfl rfl (by first | rfl | exact g156 | exact Bool.eq_false_iff.2 g156 | (simp [g156]; done))) rfl (.tmp rfl rfl))
                                  (.c (S.indexM (n := i) si41 (.yes rfl rfl rfl (by first | rfl | exact g156 | exact Bool.eq_false_iff.2 g156 | (simp [g156]; done))) rfl (.tmp rfl rfl) (.tmp rfl rfl) rfl hil rfl)
                                  (.c (S.field fi46_2 (.yes rfl rfl rfl (by first | rfl | exact g156 | exact Bool.eq_false_iff.2 g156 | (simp [g156]; done))) rfl (.tmp rfl rfl) rfl)
                                  (.c (S.load1 ti3 (.yes rfl rfl rfl (by first | rfl | exact g156 | exact Bool.eq_false_iff.2 g156 | (simp [g156]; done))) rfl (.tmp rfl rfl) rfl)
                                  (.c (S.add (.yes rfl rfl rfl (by first | rfl | exact g156 | exact Bool.eq_false_iff.2 g156 | (simp [g156]; done))) rfl (.tmp rfl rfl) (.tmp rfl rfl) (IntWalk.i64_in _ (by have := power_all (t := (placedT l peak)[i]'(hPi hil) - 1 + k) hrun (by have := placeGo_len peak (l.take i) []; unfold placedR; rw [this]; simp; omega); rw [hz0]; omega)) (IntWalk.i64_in _ (by have := power_all (t := (placedT l peak)[i]'(hPi hil) - 1 + k) hrun (by have := placeGo_len peak (l.take i) []; unfold placedR; rw [this]; simp; omega); rw [hz0]; omega)))
                                  (.c (S.move (.yes rfl rfl rfl (by first | rfl | exact g156 | exact Bool.eq_false_iff.2 g156 | (simp [g156]; done))) rfl (.tmp rfl rfl))
                                  (.c (S.gtr (.yes rfl rfl rfl (by first | rfl | exact g156 | exact Bool.eq_false_iff.2 g156 | (simp [g156]; done))) rfl (.tmp rfl rfl) (.tmp rfl rfl))
                                  (.c (S.pickF .none rfl (.tmp rfl rfl) (.tmp rfl rfl) (by first | rfl | exact g156 | exact Bool.eq_false_iff.2 g156 | (simp [g156]; done)))
                                  (.c (S.assign .none rfl (.tmp rfl rfl))
                                  .nil)))))))))))))))))))) (by kernel_rfl) ?_
                                refine Ab.D.blk ?_
                                refine Ab.D.code ?_
                                refine OK.reg ?_
                                refine RK.c (S.move .none rfl (.tmp rfl rfl)) ?_
                                refine RK.c (S.add .none rfl (.tmp rfl rfl) (.cint rfl) (IntWalk.i64_in _ (by omega)) (IntWalk.i64_in _ (by omega))) ?_
                                refine RK.c (S.assign .none rfl (.tmp rfl rfl)) ?_
                                refine RK.nil ?_
                                refine Ab.D.lp ⟨k + 1, (by omega), (by omega), rfl, rfl, rfl, rfl, rfl, (lkB (by rw [over_succ]; first | (rw [g156]; rfl) | (rw [show overT _ _ _ peak k = false by simpa using g156, hz0]; rfl))), (lkI (by omega)), trivial⟩
                            ·
                              refine OK.exit rfl ?_
                              refine Ab.D.code ?_
                              refine OK.seq ?_
                              refine OK.reg ?_
                              refine RK.c (S.move .none rfl (.tmp rfl rfl)) ?_
                              refine RK.c (S.not .none rfl (.tmp rfl rfl)) ?_
                              refine RK.nil ?_
                              refine Ab.D.code ?_
                              refine OK.cond rfl rfl (fun c175 => ?_) (fun c175 => ?_)
                              ·
                                have hov := pl_over hP hil (hPi hil) (k := k) (by omega) (by omega)
                                rw [hov] at c175
                                cases c175
                              ·
                                refine OK.skip ?_
                                refine Ab.D.blk ?_
                                refine Ab.D.code ?_
                                refine OK.reg ?_
                                refine RK.c (S.move .none rfl (.tmp rfl rfl)) ?_
                                refine RK.c (S.add .none rfl (.tmp rfl rfl) (.cint rfl) (IntWalk.i64_in _ (by omega)) (IntWalk.i64_in _ (by omega))) ?_
                                refine RK.c (S.assign .none rfl (.tmp rfl rfl)) ?_
                                refine RK.nil ?_
                                refine Ab.D.lp ⟨i + 1, (by omega), (by omega), rfl, rfl, rfl, rfl, rfl, trivial⟩
                          ·
                            refine OK.skip ?_
                            refine Ab.D.blk ?_
                            refine Ab.D.code ?_
                            refine OK.reg ?_
                            refine RK.c (S.move .none rfl (.tmp rfl rfl)) ?_
                            refine RK.c (S.add .none rfl (.tmp rfl rfl) (.cint rfl) (IntWalk.i64_in _ (by omega)) (IntWalk.i64_in _ (by omega))) ?_
                            refine RK.c (S.assign .none rfl (.tmp rfl rfl)) ?_
                            refine RK.nil ?_
                            refine Ab.D.lp ⟨i + 1, (by omega), (by omega), rfl, rfl, rfl, rfl, rfl, trivial⟩
                    ·
                      refine OK.regionDraw follows (.c (S.move .none rfl (.tmp rfl rfl))
                        (.c (S.move .none rfl (.tmp rfl rfl))
                        (.c (S.indexM (n := i) si30 .none rfl (.tmp rfl rfl) (.tmp rfl rfl) rfl (hPi hil) rfl)
                        (.c (S.load1 ti3 .none rfl (.tmp rfl rfl) rfl)
                        (.c (S.move .none rfl (.tmp rfl rfl))
                        (.c (S.move .none rfl (.tmp rfl rfl))
                        (.c (S.indexM (n := i) si41 .none rfl (.tmp rfl rfl) (.tmp rfl rfl) rfl hil rfl)
                        (.c (S.field fi46_0 .none rfl (.tmp rfl rfl) rfl)
                        (.c (S.load1 ti3 .none rfl (.tmp rfl rfl) rfl)
                        (.c (S.call (base_Within) Tryz.call27 .none rfl (.cons (.tmp rfl rfl) (.cons (.tmp rfl rfl) (.cons (.cint rfl) .nil))) rfl)
                        (.c (S.notD .none rfl (.tmp rfl rfl))
                        (.c (S.move .none rfl (.tmp rfl rfl))
                        (.c (S.move (.yes rfl rfl rfl (by first | rfl | exact decide_eq_true g81 | exact decide_eq_false g81 | (rw [decide_eq_true g81]; rfl) | (rw [decide_eq_false g81]; rfl) | simp [*])) rfl (.tmp rfl rfl))
                        (.c (S.eql (.yes rfl rfl rfl (by first | rfl | exact decide_eq_true g81 | exact decide_eq_false g81 | (rw [decide_eq_true g81]; rfl) | (rw [decide_eq_false g81]; rfl) | simp [*])) rfl (.tmp rfl rfl) (.cint rfl))
                        (.c (S.move (.yes rfl rfl rfl (by first | rfl | exact decide_eq_true g81 | exact decide_eq_false g81 | (rw [decide_eq_true g81]; rfl) | (rw [decide_eq_false g81]; rfl) | simp [*])) rfl (.tmp rfl rfl))
                        (.c (S.skip rfl rfl rfl (by first | rfl | exact decide_eq_true g84 | exact decide_eq_false g84 | (rw [decide_eq_true g84]; rfl) | (rw [decide_eq_false g84]; rfl) | simp [*]) rfl)
                        (.c (S.skip rfl rfl rfl (by first | rfl | exact decide_eq_true g84 | exact decide_eq_false g84 | (rw [decide_eq_true g84]; rfl) | (rw [decide_eq_false g84]; rfl) | simp [*]) rfl)
                        (.c (S.skip rfl rfl rfl (by first | rfl | exact decide_eq_true g84 | exact decide_eq_false g84 | (rw [decide_eq_true g84]; rfl) | (rw [decide_eq_false g84]; rfl) | simp [*]) rfl)
                        (.c (S.skip rfl rfl rfl (by first | rfl | exact decide_eq_true g84 | exact decide_eq_false g84 | (rw [decide_eq_true g84]; rfl) | (rw [decide_eq_false g84]; rfl) | simp [*]) rfl)
                        (.c (S.skip rfl rfl rfl (by first | rfl | exact decide_eq_true g84 | exact decide_eq_false g84 | (rw [decide_eq_true g84]; rfl) | (rw [decide_eq_false g84]; rfl) | simp [*]) rfl)
                        (.c (S.skip rfl rfl rfl (by first | rfl | exact decide_eq_true g84 | exact decide_eq_false g84 | (rw [decide_eq_true g84]; rfl) | (rw [decide_eq_false g84]; rfl) | simp [*]) rfl)
                        (.c (S.skip rfl rfl rfl (by first | rfl | exact decide_eq_true g84 | exact decide_eq_false g84 | (rw [decide_eq_true g84]; rfl) | (rw [decide_eq_false g84]; rfl) | simp [*]) rfl)
                        (.c (S.skip rfl rfl rfl (by first | rfl | exact decide_eq_true g84 | exact decide_eq_false g84 | (rw [decide_eq_true g84]; rfl) | (rw [decide_eq_false g84]; rfl) | simp [*]) rfl)
                        (.c (S.pickF (.yes rfl rfl rfl (by first | rfl | exact decide_eq_true g81 | exact decide_eq_false g81 | (rw [decide_eq_true g81]; rfl) | (rw [decide_eq_false g81]; rfl) | simp [*])) rfl (.tmp rfl rfl) .cbool (by first | rfl | exact decide_eq_true g84 | exact decide_eq_false g84 | (rw [decide_eq_true g84]; rfl) | (rw [decide_eq_false g84]; rfl) | simp [*]))
                        (.c (S.pickF .none rfl (.tmp rfl rfl) (.tmp rfl rfl) (by first | rfl | exact decide_eq_true g81 | exact decide_eq_false g81 | (rw [decide_eq_true g81]; rfl) | (rw [decide_eq_false g81]; rfl) | simp [*]))
                        .nil))))))))))))))))))))))))) (by kernel_rfl) ?_
                      refine Ab.D.code ?_
                      refine OK.condF rfl rfl rfl ?_
                      refine OK.skip ?_
                      refine Ab.D.code ?_
                      refine OK.seq ?_
                      refine OK.seq ?_
                      refine OK.reg ?_
                      refine RK.c (S.move .none rfl (.tmp rfl rfl)) ?_
                      refine RK.c (S.move .none rfl (.tmp rfl rfl)) ?_
                      refine RK.c (S.indexM (n := i) si30 .none rfl (.tmp rfl rfl) (.tmp rfl rfl) rfl (hPi hil) rfl) ?_
                      refine RK.c (S.load1 ti3 .none rfl (.tmp rfl rfl) rfl) ?_
                      refine RK.c (S.assign .none rfl (.tmp rfl rfl)) ?_
                      refine RK.nil ?_
                      refine Ab.D.code ?_
                      refine OK.block ?_
                      refine OK.loop (G := Nat) [] (fun k => [(0, .sl (l.map Run.cs)), (1, .int .i64 peak), (2, .int .i64 more), (8, ints (placedT l peak)), (10, .int .i64 i), (11, .int .i64 ((placedT l peak)[i]'(hPi hil) + k))]) (fun k => (k : Int) ≤ l[i].ticks) (fun k => l[i].ticks.toNat - k) 0 (by omega) ⟨rfl, rfl, rfl, rfl, rfl, (lkI (by omega)), trivial⟩ (fun _ => rfl) ?_
                      rintro k hk
                      refine OK.seq ?_
                      refine OK.seq ?_
                      refine OK.regionDraw follows (.c (S.move .none rfl (.tmp rfl rfl))
                        (.c (S.move .none rfl (.tmp rfl rfl))
                        (.c (S.move .none rfl (.tmp rfl rfl))
                        (.c (S.indexM (n := i) si30 .none rfl (.tmp rfl rfl) (.tmp rfl rfl) rfl (hPi hil) rfl)
                        (.c (S.load1 ti3 .none rfl (.tmp rfl rfl) rfl)
                        (.c (S.move .none rfl (.tmp rfl rfl))
                        (.c (S.move .none rfl (.tmp rfl rfl))
                        (.c (S.indexM (n := i) si41 .none rfl (.tmp rfl rfl) (.tmp rfl rfl) rfl hil rfl)
                        (.c (S.field fi46_1 .none rfl (.tmp rfl rfl) rfl)
                        (.c (S.load1 ti3 .none rfl (.tmp rfl rfl) rfl)
                        (.c (S.add .none rfl (.tmp rfl rfl) (.tmp rfl rfl) (IntWalk.i64_in _ (by omega)) (IntWalk.i64_in _ (by omega)))
                        (.c (S.lss .none rfl (.tmp rfl rfl) (.tmp rfl rfl))
                        .nil)))))))))))) (by kernel_rfl) ?_
                      refine Ab.D.code ?_
                      refine OK.condD rfl rfl (fun c110 => ?_) (fun c110 => ?_)
                      ·
                        refine OK.skip ?_
                        refine Ab.D.code ?_
                        refine OK.seq ?_
                        refine OK.block ?_
                        refine OK.seq ?_
                        refine OK.regionDraw follows (.c (S.move .none rfl (.tmp rfl rfl))
                          (.c (S.move .none rfl (.tmp rfl rfl))
                          (.c (S.add .none rfl (.tmp rfl rfl) (.cint rfl) (IntWalk.i64_in _ (by omega)) (IntWalk.i64_in _ (by omega)))
                          (.c (S.slice (hi := i + 1) (l' := l.take (i + 1)) si41 (fun _ => rfl) .none rfl (.tmp rfl rfl) (.inl ⟨rfl, rfl, rfl⟩) (.inr ⟨_, _, rfl, (.tmp rfl rfl), (by omega)⟩) (Nat.zero_le _) (by omega) rfl)
                          (.c (S.move .none rfl (.tmp rfl rfl))
                          (.c (S.move .none rfl (.tmp rfl rfl))
                          (.c (S.add .none rfl (.tmp rfl rfl) (.cint rfl) (IntWalk.i64_in _ (by omega)) (IntWalk.i64_in _ (by omega)))
                          (.c (S.slice (hi := i + 1) (l' := (placedT l peak).take (i + 1)) si30 (fun _ => rfl) .none rfl (.tmp rfl rfl) (.inl ⟨rfl, rfl, rfl⟩) (.inr ⟨_, _, rfl, (.tmp rfl rfl), (by omega)⟩) (Nat.zero_le _) (by omega) rfl)
                          (.c (S.move .none rfl (.tmp rfl rfl))
                          (.c (S.call (ref9_At (l := l.take (i + 1)) (b := (placedT l peak).take (i + 1)) (by simp; omega) (by simp; omega) (by rw [hz1]; exact fun r hr => (hrun1 r hr).mono (by omega))) Tryz.call30 .none rfl (.cons (.tmp rfl rfl) (.cons (.tmp rfl rfl) (.cons (.tmp rfl rfl) .nil))) rfl)
                          (.c (S.move .none rfl (.tmp rfl rfl))
                          (.c (S.gtr .none rfl (.tmp rfl rfl) (.tmp rfl rfl))
                          .nil)))))))))))) (by kernel_rfl) ?_
                        refine Ab.D.code ?_
                        refine OK.condD rfl rfl (fun c124 => ?_) (fun c124 => ?_)
                        ·
                          exfalso
                          have hat := pl_at hP hil (hPi hil) (t := (placedT l peak)[i]'(hPi hil) + k) (by omega) (by omega)
                          rw [hz1] at c124
                          omega
                        ·
                          refine OK.skip ?_
                          refine Ab.D.blk ?_
                          refine Ab.D.code ?_
                          refine OK.reg ?_
                          refine RK.c (S.move .none rfl (.tmp rfl rfl)) ?_
                          refine RK.c (S.add .none rfl (.tmp rfl rfl) (.cint rfl) (IntWalk.i64_in _ (by omega)) (IntWalk.i64_in _ (by omega))) ?_
                          refine RK.c (S.assign .none rfl (.tmp rfl rfl)) ?_
                          refine RK.nil ?_
                          refine Ab.D.lp ⟨k + 1, (by omega), (by omega), rfl, rfl, rfl, rfl, rfl, (lkI (by omega)), trivial⟩
                      ·
                        refine OK.exit rfl ?_
                        refine Ab.D.code ?_
                        refine OK.seq ?_
                        refine OK.regionDraw follows (.c (S.move .none rfl (.tmp rfl rfl))
                          (.c (S.move .none rfl (.tmp rfl rfl))
                          (.c (S.indexM (n := i) si30 .none rfl (.tmp rfl rfl) (.tmp rfl rfl) rfl (hPi hil) rfl)
                          (.c (S.load1 ti3 .none rfl (.tmp rfl rfl) rfl)
                          (.c (S.move .none rfl (.tmp rfl rfl))
                          (.c (S.move .none rfl (.tmp rfl rfl))
                          (.c (S.indexM (n := i) si41 .none rfl (.tmp rfl rfl) (.tmp rfl rfl) rfl hil rfl)
                          (.c (S.field fi46_0 .none rfl (.tmp rfl rfl) rfl)
                          (.c (S.load1 ti3 .none rfl (.tmp rfl rfl) rfl)
                          (.c (S.gtr .none rfl (.tmp rfl rfl) (.tmp rfl rfl))
                          .nil)))))))))) (by kernel_rfl) ?_
                        refine Ab.D.code ?_
                        refine OK.condD rfl rfl (fun c134 => ?_) (fun c134 => ?_)
                        ·
                          refine OK.seq ?_
                          refine OK.reg ?_
                          refine RK.c (S.assign .none rfl .cbool) ?_
                          refine RK.nil ?_
                          refine Ab.D.code ?_
                          refine OK.seq ?_
                          refine OK.seq ?_
                          refine OK.reg ?_
                          refine RK.c (S.move .none rfl (.tmp rfl rfl)) ?_
                          refine RK.c (S.move .none rfl (.tmp rfl rfl)) ?_
                          refine RK.c (S.indexM (n := i) si30 .none rfl (.tmp rfl rfl) (.tmp rfl rfl) rfl (hPi hil) rfl) ?_
                          refine RK.c (S.load1 ti3 .none rfl (.tmp rfl rfl) rfl) ?_
                          refine RK.c (S.sub .none rfl (.tmp rfl rfl) (.cint rfl) (IntWalk.i64_in _ (by omega)) (IntWalk.i64_in _ (by omega))) ?_
                          refine RK.c (S.assign .none rfl (.tmp rfl rfl)) ?_
                          refine RK.nil ?_
                          refine Ab.D.code ?_
                          refine OK.block ?_
                          refine OK.loop (G := Nat) [] (fun k => [(0, .sl (l.map Run.cs)), (1, .int .i64 peak), (2, .int .i64 more), (8, ints (placedT l peak)), (10, .int .i64 i), (12, .bool (overT (placedR (l.take i) peak) l[i] ((placedT l peak)[i]'(hPi hil)) peak k)), (13, .int .i64 ((placedT l peak)[i]'(hPi hil) - 1 + k))]) (fun k => (k : Int) ≤ l[i].ticks) (fun k => l[i].ticks.toNat - k) 0 (by omega) ⟨rfl, rfl, rfl, rfl, rfl, rfl, (lkI (by omega)), trivial⟩ (fun _ => rfl) ?_
                          rintro k hk
                          refine OK.seq ?_
                          refine OK.seq ?_
                          refine OK.regionDraw follows (.c (S.move .none rfl (.tmp rfl rfl))
                            (.c (S.move .none rfl (.tmp rfl rfl))
                            (.c (S.move .none rfl (.tmp rfl rfl))
                            (.c (S.indexM (n := i) si30 .none rfl (.tmp rfl rfl) (.tmp rfl rfl) rfl (hPi hil) rfl)
                            (.c (S.load1 ti3 .none rfl (.tmp rfl rfl) rfl)
                            (.c (S.move .none rfl (.tmp rfl rfl))
                            (.c (S.move .none rfl (.tmp rfl rfl))
                            (.c (S.indexM (n := i) si41 .none rfl (.tmp rfl rfl) (.tmp rfl rfl) rfl hil rfl)
                            (.c (S.field fi46_1 .none rfl (.tmp rfl rfl) rfl)
                            (.c (S.load1 ti3 .none rfl (.tmp rfl rfl) rfl)
                            (.c (S.add .none rfl (.tmp rfl rfl) (.tmp rfl rfl) (IntWalk.i64_in _ (by omega)) (IntWalk.i64_in _ (by omega)))
                            (.c (S.sub .none rfl (.tmp rfl rfl) (.cint rfl) (IntWalk.i64_in _ (by omega)) (IntWalk.i64_in _ (by omega)))
                            (.c (S.lss .none rfl (.tmp rfl rfl) (.tmp rfl rfl))
                            .nil))))))))))))) (by kernel_rfl) ?_
                          refine Ab.D.code ?_
                          refine OK.condD rfl rfl (fun c152 => ?_) (fun c152 => ?_)
                          ·
                            refine OK.skip ?_
                            refine Ab.D.code ?_
                            refine OK.seq ?_
                            refine OK.block ?_
                            by_cases g156 : overT (placedR (l.take i) peak) l[i] ((placedT l peak)[i]'(hPi hil)) peak k = true
                            ·
                              refine OK.regionDraw follows (.c (S.move .none rfl (.tmp rfl rfl))
                                (.c (S.move .none rfl (.tmp rfl rfl))
                                (.c (S.skip rfl rfl rfl (by first | rfl | exact g156 | exact Bool.eq_false_iff.2 g156 | (simp [g156]; done)) rfl)
                                (.c (S.skip rfl rfl rfl (by first | rfl | exact g156 | exact Bool.eq_false_iff.2 g156 | (simp [g156]; done)) rfl)
                                (.c (S.skip rfl rfl rfl (by first | rfl | exact g156 | exact Bool.eq_false_iff.2 g156 | (simp [g156]; done)) rfl)
                                (.c (S.skip rfl rfl rfl (by first | rfl | exact g156 | exact Bool.eq_false_iff.2 g156 | (simp [g156]; done)) rfl)
                                (.c (S.skip rfl rfl rfl (by first | rfl | exact g156 | exact Bool.eq_false_iff.2 g156 | (simp [g156]; done)) rfl)
                                (.c (S.skip rfl rfl rfl (by first | rfl | exact g156 | exact Bool.eq_false_iff.2 g156 | (simp [g156]; done)) rfl)
                                (.c (S.skip rfl rfl rfl (by first | rfl | exact g156 | exact Bool.eq_false_iff.2 g156 | (simp [g156]; done)) rfl)
                                (.c (S.skip rfl rfl rfl (by first | rfl | exact g156 | exact Bool.eq_false_iff.2 g156 | (simp [g156]; done)) rfl)
                                (.c (S.skip rfl rfl rfl (by first | rfl | exact g156 | exact Bool.eq_false_iff.2 g156 | (simp [g156]; done)) rfl)
                                (.c (S.skip rfl rfl rfl (by first | rfl | exact g156 | exact Bool.eq_false_iff.2 g156 | (simp [g156]; done)) rfl)
                                (.c (S.skip rfl rfl rfl (by first | rfl | exact g156 | exact Bool.eq_false_iff.2 g156 | (simp [g156]; done)) rfl)
                                (.c (S.skip rfl rfl rfl (by first | rfl | exact g156 | exact Bool.eq_false_iff.2 g156 | (simp [g156]; done)) rfl)
                                (.c (S.skip rfl rfl rfl (by first | rfl | exact g156 | exact Bool.eq_false_iff.2 g156 | (simp [g156]; done)) rfl)
                                (.c (S.skip rfl rfl rfl (by first | rfl | exact g156 | exact Bool.eq_false_iff.2 g156 | (simp [g156]; done)) rfl)
                                (.c (S.skip rfl rfl rfl (by first | rfl | exact g156 | exact Bool.eq_false_iff.2 g156 | (simp [g156]; done)) rfl)
                                (.c (S.skip rfl rfl rfl (by first | rfl | exact g156 | exact Bool.eq_false_iff.2 g156 | (simp [g156]; done)) rfl)
                                (.c (S.pickT .none rfl (.tmp rfl rfl) .cbool (by first | rfl | exact g156 | exact Bool.eq_false_iff.2 g156 | (simp [g156]; done)))
                                (.c (S.assign .none rfl (.tmp rfl rfl))
                                .nil)))))))))))))))))))) (by kernel_rfl) ?_
                              refine Ab.D.blk ?_
                              refine Ab.D.code ?_
                              refine OK.reg ?_
                              refine RK.c (S.move .none rfl (.tmp rfl rfl)) ?_
                              refine RK.c (S.add .none rfl (.tmp rfl rfl) (.cint rfl) (IntWalk.i64_in _ (by omega)) (IntWalk.i64_in _ (by omega))) ?_
                              refine RK.c (S.assign .none rfl (.tmp rfl rfl)) ?_
                              refine RK.nil ?_
                              refine Ab.D.lp ⟨k + 1, (by omega), (by omega), rfl, rfl, rfl, rfl, rfl, (lkB (by rw [over_succ]; first | (rw [g156]; rfl) | (rw [show overT _ _ _ peak k = false by simpa using g156, hz0]; rfl))), (lkI (by omega)), trivial⟩
                            ·
                              refine OK.regionDraw follows (.c (S.move .none rfl (.tmp rfl rfl))
                                (.c (S.move .none rfl (.tmp rfl rfl))
                                (.c (S.move (.yes rfl rfl rfl (by first | rfl | exact g156 | exact Bool.eq_false_iff.2 g156 | (simp [g156]; done))) rfl (.tmp rfl rfl))
                                (.c (S.move (.yes rfl rfl rfl (by first | rfl | exact g156 | exact Bool.eq_false_iff.2 g156 | (simp [g156]; done))) rfl (.tmp rfl rfl))
                                (.c (S.slice (hi := i) (l' := l.take i) si41 (fun _ => rfl) (.yes rfl rfl rfl (by first | rfl | exact g156 | exact Bool.eq_false_iff.2 g156 | (simp [g156]; done))) rfl (.tmp rfl rfl) (.inl ⟨rfl, rfl, rfl⟩) (.inr ⟨_, _, rfl, (.tmp rfl rfl), rfl⟩) (Nat.zero_le _) (by omega) rfl)
                                (.c (S.move (.yes rfl rfl rfl (by first | rfl | exact g156 | exact Bool.eq_false_iff.2 g156 | (simp [g156]; done))) rfl (.tmp rfl rfl))
                                (.c (S.move (.yes rfl rfl rfl (by first | rfl | exact g156 | exact Bool.eq_false_iff.2 g156 | (simp [g156]; done))) rfl (.tmp rfl rfl))
                                (.c (S.slice (hi := i) (l' := (placedT l peak).take i) si30 (fun _ => rfl) (.yes rfl rfl rfl (by first | rfl | exact g156 | exact Bool.eq_false_iff.2 g156 | (simp [g156]; done))) rfl (.tmp rfl rfl) (.inl ⟨rfl, rfl, rfl⟩) (.inr ⟨_, _, rfl, (.tmp rfl rfl), rfl⟩) (Nat.zero_le _) (by omega) rfl)
                                (.c (S.move (.yes rfl rfl rfl (by first | rfl | exact g156 | exact Bool.eq_false_iff.2 g156 | (simp [g156]; done))) rfl (.tmp rfl rfl))
                                (.c (S.call (ref9_At (l := l.take i) (b := (placedT l peak).take i) (by simp; omega) (by simp; omega) (by rw [hz0]; exact fun r hr => (hrun r hr).mono (by omega))) Tryz.call30 (.yes rfl rfl rfl (by first | rfl | exact g156 | exact Bool.eq_false_iff.2 g156 | (simp [g156]; done))) rfl (.cons (.tmp rfl rfl) (.cons (.tmp rfl rfl) (.cons (.tmp rfl rfl) .nil))) rfl)
                                (.c (S.move (.yes rfl rfl rfl (by first | rfl | exact g156 | exact Bool.eq_false_iff.2 g156 | (simp [g156]; done))) rfl (.tmp rfl rfl))
                                (.c (S.move (.yes rfl rfl rfl (by first | rfl | exact g156 | exact Bool.eq_false_iff.2 g156 | (simp [g156]; done))) rfl (.tmp rfl rfl))
                                (.c (S.indexM (n := i) si41 (.yes rfl rfl rfl (by first | rfl | exact g156 | exact Bool.eq_false_iff.2 g156 | (simp [g156]; done))) rfl (.tmp rfl rfl) (.tmp rfl rfl) rfl hil rfl)
                                (.c (S.field fi46_2 (.yes rfl rfl rfl (by first | rfl | exact g156 | exact Bool.eq_false_iff.2 g156 | (simp [g156]; done))) rfl (.tmp rfl rfl) rfl)
                                (.c (S.load1 ti3 (.yes rfl rfl rfl (by first | rfl | exact g156 | exact Bool.eq_false_iff.2 g156 | (simp [g156]; done))) rfl (.tmp rfl rfl) rfl)
                                (.c (S.add (.yes rfl rfl rfl (by first | rfl | exact g156 | exact Bool.eq_false_iff.2 g156 | (simp [g156]; done))) rfl (.tmp rfl rfl) (.tmp rfl rfl) (IntWalk.i64_in _ (by have := power_all (t := (placedT l peak)[i]'(hPi hil) - 1 + k) hrun (by have := placeGo_len peak (l.take i) []; unfold placedR; rw [this]; simp; omega); rw [hz0]; omega)) (IntWalk.i64_in _ (by have := power_all (t := (placedT l peak)[i]'(hPi hil) - 1 + k) hrun (by have := placeGo_len peak (l.take i) []; unfold placedR; rw [this]; simp; omega); rw [hz0]; omega)))
                                (.c (S.move (.yes rfl rfl rfl (by first | rfl | exact g156 | exact Bool.eq_false_iff.2 g156 | (simp [g156]; done))) rfl (.tmp rfl rfl))
                                (.c (S.gtr (.yes rfl rfl rfl (by first | rfl | exact g156 | exact Bool.eq_false_iff.2 g156 | (simp [g156]; done))) rfl (.tmp rfl rfl) (.tmp rfl rfl))
                                (.c (S.pickF .none rfl (.tmp rfl rfl) (.tmp rfl rfl) (by first | rfl | exact g156 | exact Bool.eq_false_iff.2 g156 | (simp [g156]; done)))
                                (.c (S.assign .none rfl (.tmp rfl rfl))
                                .nil)))))))))))))))))))) (by kernel_rfl) ?_
                              refine Ab.D.blk ?_
                              refine Ab.D.code ?_
                              refine OK.reg ?_
                              refine RK.c (S.move .none rfl (.tmp rfl rfl)) ?_
                              refine RK.c (S.add .none rfl (.tmp rfl rfl) (.cint rfl) (IntWalk.i64_in _ (by omega)) (IntWalk.i64_in _ (by omega))) ?_
                              refine RK.c (S.assign .none rfl (.tmp rfl rfl)) ?_
                              refine RK.nil ?_
                              refine Ab.D.lp ⟨k + 1, (by omega), (by omega), rfl, rfl, rfl, rfl, rfl, (lkB (by rw [over_succ]; first | (rw [g156]; rfl) | (rw [show overT _ _ _ peak k = false by simpa using g156, hz0]; rfl))), (lkI (by omega)), trivial⟩
                          ·
                            refine OK.exit rfl ?_
                            refine Ab.D.code ?_
                            refine OK.seq ?_
                            refine OK.reg ?_
                            refine RK.c (S.move .none rfl (.tmp rfl rfl)) ?_
                            refine RK.c (S.not .none rfl (.tmp rfl rfl)) ?_
                            refine RK.nil ?_
                            refine Ab.D.code ?_
                            refine OK.cond rfl rfl (fun c175 => ?_) (fun c175 => ?_)
                            ·
                              have hov := pl_over hP hil (hPi hil) (k := k) (by omega) (by omega)
                              rw [hov] at c175
                              cases c175
                            ·
                              refine OK.skip ?_
                              refine Ab.D.blk ?_
                              refine Ab.D.code ?_
                              refine OK.reg ?_
                              refine RK.c (S.move .none rfl (.tmp rfl rfl)) ?_
                              refine RK.c (S.add .none rfl (.tmp rfl rfl) (.cint rfl) (IntWalk.i64_in _ (by omega)) (IntWalk.i64_in _ (by omega))) ?_
                              refine RK.c (S.assign .none rfl (.tmp rfl rfl)) ?_
                              refine RK.nil ?_
                              refine Ab.D.lp ⟨i + 1, (by omega), (by omega), rfl, rfl, rfl, rfl, rfl, trivial⟩
                        ·
                          refine OK.skip ?_
                          refine Ab.D.blk ?_
                          refine Ab.D.code ?_
                          refine OK.reg ?_
                          refine RK.c (S.move .none rfl (.tmp rfl rfl)) ?_
                          refine RK.c (S.add .none rfl (.tmp rfl rfl) (.cint rfl) (IntWalk.i64_in _ (by omega)) (IntWalk.i64_in _ (by omega))) ?_
                          refine RK.c (S.assign .none rfl (.tmp rfl rfl)) ?_
                          refine RK.nil ?_
                          refine Ab.D.lp ⟨i + 1, (by omega), (by omega), rfl, rfl, rfl, rfl, rfl, trivial⟩
                ·
                  refine OK.exit rfl ?_
                  refine Ab.D.code ?_
                  refine OK.seq ?_
                  refine OK.seq ?_
                  refine OK.reg ?_
                  refine RK.c (S.move .none rfl (.tmp rfl rfl)) ?_
                  refine RK.c (S.move .none rfl (.tmp rfl rfl)) ?_
                  refine RK.c (S.add .none rfl (.tmp rfl rfl) (.tmp rfl rfl) (IntWalk.i64_in _ (by omega)) (IntWalk.i64_in _ (by omega))) ?_
                  refine RK.c (S.call (ref9_PeakErr) Tryz.call26 .none rfl (.cons (.tmp rfl rfl) .nil) rfl) ?_
                  refine RK.c (S.neq .none rfl (.tmp rfl rfl) (.cint rfl)) ?_
                  refine RK.c (S.move .none rfl (.tmp rfl rfl)) ?_
                  refine RK.splitD (t := 181) rfl (fun g181 => ?_) (fun g181 => ?_)
                  ·
                    refine RK.c (S.skip rfl rfl rfl rfl rfl) ?_
                    refine RK.c (S.skip rfl rfl rfl rfl rfl) ?_
                    refine RK.c (S.skip rfl rfl rfl rfl rfl) ?_
                    refine RK.c (S.pickT .none rfl (.tmp rfl rfl) .cbool rfl) ?_
                    refine RK.nil ?_
                    refine Ab.D.code ?_
                    refine OK.condT rfl rfl rfl ?_
                    refine OK.seq ?_
                    refine OK.reg ?_
                    refine RK.c (S.assign .none rfl .cbool) ?_
                    refine RK.nil ?_
                    refine Ab.D.code ?_
                    refine OK.ret (Ret.r1 (.tmp rfl rfl (.c (.same rfl) rfl) rfl) ?_)
                    first | rfl | exact ret_dT rfl | exact ret_dT h12 | exact ret_dT hf3
                  ·
                    refine RK.c (S.move (.yes rfl rfl rfl rfl) rfl (.tmp rfl rfl)) ?_
                    refine RK.c (S.lenM si41 (.yes rfl rfl rfl rfl) rfl (.tmp rfl rfl)) ?_
                    refine RK.c (S.lss (.yes rfl rfl rfl rfl) rfl (.tmp rfl rfl) (.cint rfl)) ?_
                    refine RK.c (S.pickF .none rfl (.tmp rfl rfl) (.tmp rfl rfl) rfl) ?_
                    refine RK.nil ?_
                    refine Ab.D.code ?_
                    refine OK.condD rfl rfl (fun c185 => ?_) (fun c185 => ?_)
                    ·
                      refine OK.seq ?_
                      refine OK.reg ?_
                      refine RK.c (S.assign .none rfl .cbool) ?_
                      refine RK.nil ?_
                      refine Ab.D.code ?_
                      refine OK.ret (Ret.r1 (.tmp rfl rfl (.c (.same rfl) rfl) rfl) ?_)
                      first | rfl | exact ret_dT rfl | exact ret_dT h12 | exact ret_dT hf3
                    ·
                      have hk2 : peakE (peak + more) = 0 := Decidable.not_not.1 g181
                      have hq0 := pl_more hp0 hmo.1 hk2
                      have hQl := placed_len2 l (peak + more)
                      have hQ := hP.more hmo.1
                      have hf1 := pl_first hP (by omega) (by omega)
                      have hf2 := pl_first hQ (by omega) (by omega)
                      have hf3 := pl_second hP hmo.1 (by omega) (by omega) (by omega)
                      refine OK.skip ?_
                      refine Ab.D.code ?_
                      refine OK.seq ?_
                      refine OK.reg ?_
                      refine RK.c (S.move .none rfl (.tmp rfl rfl)) ?_
                      refine RK.c (S.call (ref9_CopyRuns (by omega)) Tryz.call29 .none rfl (.cons (.tmp rfl rfl) .nil) rfl) ?_
                      refine RK.c (S.move .none rfl (.tmp rfl rfl)) ?_
                      refine RK.c (S.move .none rfl (.tmp rfl rfl)) ?_
                      refine RK.c (S.add .none rfl (.tmp rfl rfl) (.tmp rfl rfl) (IntWalk.i64_in _ (by omega)) (IntWalk.i64_in _ (by omega))) ?_
                      refine RK.c (S.call (shp_Placed) Tryz.call28 .none rfl (.cons (.tmp rfl rfl) (.cons (.tmp rfl rfl) .nil)) rfl) ?_
                      refine RK.c (S.move .none rfl (.tmp rfl rfl)) ?_
                      refine RK.c (S.extract .none rfl (.tmp rfl rfl) rfl rfl) ?_
                      refine RK.c (S.extract .none rfl (.tmp rfl rfl) rfl rfl) ?_
                      refine RK.c (S.assign .none rfl (.tmp rfl rfl)) ?_
                      refine RK.c (S.assign .none rfl (.tmp rfl rfl)) ?_
                      refine RK.nil ?_
                      refine Ab.D.code ?_
                      refine OK.seq ?_
                      rw [if_pos hq0]
                      refine OK.regionDraw follows (.c (S.move .none rfl (.tmp rfl rfl))
                        (.c (S.eql .none rfl (.tmp rfl rfl) (.cint rfl))
                        (.c (S.move .none rfl (.tmp rfl rfl))
                        (.c (S.move (.yes rfl rfl rfl (by first | exact decide_eq_true hq0 | (rw [decide_eq_true hq0]; rfl))) rfl (.tmp rfl rfl))
                        (.c (S.lenM si30 (.yes rfl rfl rfl (by first | exact decide_eq_true hq0 | (rw [decide_eq_true hq0]; rfl))) rfl (.tmp rfl rfl))
                        (.c (S.move (.yes rfl rfl rfl (by first | exact decide_eq_true hq0 | (rw [decide_eq_true hq0]; rfl))) rfl (.tmp rfl rfl))
                        (.c (S.lenM si41 (.yes rfl rfl rfl (by first | exact decide_eq_true hq0 | (rw [decide_eq_true hq0]; rfl))) rfl (.tmp rfl rfl))
                        (.c (S.eql (.yes rfl rfl rfl (by first | exact decide_eq_true hq0 | (rw [decide_eq_true hq0]; rfl))) rfl (.tmp rfl rfl) (.tmp rfl rfl))
                        (.c (S.pickT .none rfl (.tmp rfl rfl) (.tmp rfl rfl) (by first | exact decide_eq_true hq0 | (rw [decide_eq_true hq0]; rfl)))
                        (.c (S.move .none rfl (.tmp rfl rfl))
                        (.c (S.move (.yes rfl rfl rfl (by first | exact decide_eq_true (by omega) | (simp; omega))) rfl (.tmp rfl rfl))
                        (.c (S.indexM (n := 0) si30 (.yes rfl rfl rfl (by first | exact decide_eq_true (by omega) | (simp; omega))) rfl (.tmp rfl rfl) (.cint rfl) rfl (by omega) rfl)
                        (.c (S.load1 ti3 (.yes rfl rfl rfl (by first | exact decide_eq_true (by omega) | (simp; omega))) rfl (.tmp rfl rfl) rfl)
                        (.c (S.move (.yes rfl rfl rfl (by first | exact decide_eq_true (by omega) | (simp; omega))) rfl (.tmp rfl rfl))
                        (.c (S.indexM (n := 0) si30 (.yes rfl rfl rfl (by first | exact decide_eq_true (by omega) | (simp; omega))) rfl (.tmp rfl rfl) (.cint rfl) rfl (by omega) rfl)
                        (.c (S.load1 ti3 (.yes rfl rfl rfl (by first | exact decide_eq_true (by omega) | (simp; omega))) rfl (.tmp rfl rfl) rfl)
                        (.c (S.eql (.yes rfl rfl rfl (by first | exact decide_eq_true (by omega) | (simp; omega))) rfl (.tmp rfl rfl) (.tmp rfl rfl))
                        (.c (S.pickT .none rfl (.tmp rfl rfl) (.tmp rfl rfl) (by first | exact decide_eq_true (by omega) | (simp; omega)))
                        (.c (S.move .none rfl (.tmp rfl rfl))
                        (.c (S.move (.yes rfl rfl rfl (by first | exact decide_eq_true (by rw [hf1, hf2]) | (simp; rw [hf1, hf2]))) rfl (.tmp rfl rfl))
                        (.c (S.indexM (n := 1) si30 (.yes rfl rfl rfl (by first | exact decide_eq_true (by rw [hf1, hf2]) | (simp; rw [hf1, hf2]))) rfl (.tmp rfl rfl) (.cint rfl) rfl (by omega) rfl)
                        (.c (S.load1 ti3 (.yes rfl rfl rfl (by first | exact decide_eq_true (by rw [hf1, hf2]) | (simp; rw [hf1, hf2]))) rfl (.tmp rfl rfl) rfl)
                        (.c (S.move (.yes rfl rfl rfl (by first | exact decide_eq_true (by rw [hf1, hf2]) | (simp; rw [hf1, hf2]))) rfl (.tmp rfl rfl))
                        (.c (S.indexM (n := 1) si30 (.yes rfl rfl rfl (by first | exact decide_eq_true (by rw [hf1, hf2]) | (simp; rw [hf1, hf2]))) rfl (.tmp rfl rfl) (.cint rfl) rfl (by omega) rfl)
                        (.c (S.load1 ti3 (.yes rfl rfl rfl (by first | exact decide_eq_true (by rw [hf1, hf2]) | (simp; rw [hf1, hf2]))) rfl (.tmp rfl rfl) rfl)
                        (.c (S.leq (.yes rfl rfl rfl (by first | exact decide_eq_true (by rw [hf1, hf2]) | (simp; rw [hf1, hf2]))) rfl (.tmp rfl rfl) (.tmp rfl rfl))
                        (.c (S.pickT .none rfl (.tmp rfl rfl) (.tmp rfl rfl) (by first | exact decide_eq_true (by rw [hf1, hf2]) | (simp; rw [hf1, hf2])))
                        (.c (S.assign .none rfl (.tmp rfl rfl))
                        .nil)))))))))))))))))))))))))))) (by kernel_rfl) ?_
                      refine Ab.D.code ?_
                      refine OK.ret (Ret.r1 (.tmp rfl rfl (.c (.same rfl) rfl) rfl) ?_)
                      first | rfl | exact ret_dT rfl | exact ret_dT h12 | exact ret_dT hf3
end Go.Proofs.YtjamlnkjfkcdkaaGreatDoor
