import Derived.Test.YtpfepjgnojfppaaGreatDoorGh
import Derived.Test.YtpfepjgnojfppaaGreatDoorKi
import Derived.Test.YtpfepjgnojfppaaGreatDoorKt
import Derived.Test.YtpfepjgnojfppaaGreatDoorTy
namespace Go.Proofs.YtpfepjgnojfppaaGreatDoor
open Go.Ab
theorem floor_ediv {n b : Int} (hb : 0 < b) : floorT n b = n / b := by
  have h1 := Int.mul_tdiv_add_tmod n b
  have h2 : n.tmod b < b := Int.tmod_lt_of_pos n hb
  have h3 : -b < n.tmod b := Int.lt_tmod_of_pos n hb
  unfold floorT
  split
  · refine (((Int.ediv_emod_unique hb (r := n.tmod b + b)).2 ⟨?_, by omega, by omega⟩).1).symm
    rw [Int.mul_sub, Int.mul_one]; omega
  · exact (((Int.ediv_emod_unique hb (r := n.tmod b)).2 ⟨by omega, by omega, by omega⟩).1).symm
theorem ceil_floor {a cap : Int} (hc : 1 ≤ cap) : 0 - floorT (0 - a) cap = ceilB a cap := by
  rw [floor_ediv (by omega), ceilB, Int.zero_sub, Int.zero_sub]
theorem ceil_bd {a cap A : Int} (hc : 1 ≤ cap) (h : 0 ≤ a ∧ a ≤ A) : 0 ≤ ceilB a cap ∧ ceilB a cap ≤ A := by
  constructor
  · unfold ceilB
    have h1 := Int.ediv_le_ediv (c := cap) (by omega) (show -a ≤ 0 by omega)
    rw [Int.zero_ediv] at h1
    omega
  · refine ceil_le hc ?_
    have h1 : A * 1 ≤ A * cap := Int.mul_le_mul_of_nonneg_left hc (by omega)
    omega
theorem totP_app : ∀ a b : List Lot, totP (a ++ b) = totP a + totP b
  | [], b => by simp [totP]
  | x :: a, b => by
    have := totP_app a b
    rw [List.cons_append]
    simp only [totP]
    omega
theorem totP_snoc (a : List Lot) (x : Lot) : totP (a ++ [x]) = totP a + x.parts := by rw [totP_app]; simp [totP]
theorem totP_bd : ∀ {S : List Lot}, (∀ x ∈ S, 1 ≤ x.parts ∧ x.parts ≤ 1000) → 0 ≤ totP S ∧ totP S ≤ 1000 * (S.length : Int)
  | [], _ => by simp [totP]
  | s :: S, h => by
    have h1 := h s List.mem_cons_self
    have h2 := totP_bd fun x hx => h x (List.mem_cons_of_mem _ hx)
    simp only [totP, List.length_cons]
    omega
theorem seg_bd {l : List Lot} {cap : Int} (hok : LotsOk l cap) (i k : Nat) : 0 ≤ totP (seg l i k) ∧ totP (seg l i k) ≤ 1000 * (k : Int) := by
  have h1 : ∀ x ∈ seg l i k, 1 ≤ x.parts ∧ x.parts ≤ 1000 := fun x hx => by
    unfold seg at hx
    exact hok.parts x (List.mem_of_mem_take (List.mem_of_mem_drop (List.mem_filter.1 hx).1))
  have h2 := totP_bd h1
  have h3 : (seg l i k).length ≤ k := by
    unfold seg
    refine Nat.le_trans (List.length_filter_le _ _) ?_
    rw [List.length_drop, List.length_take]
    omega
  omega
theorem need_snoc (cap : Int) : ∀ (pre : List (List Lot)) (own : List Lot), needT cap (pre ++ [own]) = needT cap pre + ceilB (totP own) cap
  | [], own => by simp [needT]
  | x :: pre, own => by
    have := need_snoc cap pre own
    rw [List.cons_append]
    simp only [needT]
    omega
theorem sub_len {α : Type} [DecidableEq α] : ∀ (a b : List α), a.Nodup → (∀ x ∈ a, x ∈ b) → a.length ≤ b.length
  | [], _, _, _ => Nat.zero_le _
  | x :: a, b, hn, hs => by
    rw [List.nodup_cons] at hn
    have hx := hs x List.mem_cons_self
    have h1 := sub_len a (b.erase x) hn.2 fun y hy => (List.mem_erase_of_ne (fun e : y = x => hn.1 (e ▸ hy))).2 (hs y (List.mem_cons_of_mem _ hy))
    have h2 := List.length_erase_of_mem hx
    have h3 := List.length_pos_of_mem hx
    rw [List.length_cons]
    omega
theorem good_few {l : List Lot} {cap : Int} {sh : List Share} {h : List UInt8} (hg : GoodB l cap sh h) : sh.length ≤ l.length ∧ ∀ s ∈ sh, ∃ x ∈ l, x.name = s.lot := by
  refine ⟨?_, fun s hs => ?_⟩
  · have h1 := sub_len (sh.map Share.lot) (l.map Lot.name) ((List.pairwise_map).2 hg.dis) fun n hn => by
      obtain ⟨s, hs, rfl⟩ := List.mem_map.1 hn
      obtain ⟨x, hx, e, _⟩ := hg.heat s hs
      rw [← e]
      exact List.mem_map_of_mem hx
    simpa using h1
  · obtain ⟨x, hx, e, _⟩ := hg.heat s hs
    exact ⟨x, hx, e⟩
theorem few_own {l : List Lot} {cap : Int} (hl : lotsE l cap = 0) (hf : fewL l = true) (hn : (basketsT l cap).length ≤ 60) : fewB (basketsT l cap) = true := by
  have h8 := (lots_ok hl).len
  unfold fewL at hf
  rw [Bool.and_eq_true] at hf
  unfold fewB
  rw [Bool.and_eq_true]
  refine ⟨decide_eq_true (by omega), List.all_eq_true.2 fun b hb => ?_⟩
  obtain ⟨ht, hg⟩ := (baskets_are hl).1 b hb
  obtain ⟨g1, g2⟩ := good_few hg
  unfold fB
  rw [Bool.and_eq_true]
  refine ⟨decide_eq_true (by omega), List.all_eq_true.2 fun s hs => ?_⟩
  obtain ⟨x, hx, e⟩ := g2 s hs
  have := of_decide_eq_true (List.all_eq_true.1 hf.2 x hx)
  unfold fS
  rw [← e]
  exact decide_eq_true this.1
theorem all_tot {l : List Lot} {cap : Int} (h : lotsE l cap = 0) : sumP (allS (basketsT l cap)) = totP l := by rw [← wSum_all, (baskets_are h).2.2, lotW_all]
theorem held_bd {l : List Lot} {cap : Int} (h : lotsE l cap = 0) (i : Nat) : 0 ≤ sumP (allS ((basketsT l cap).take i)) ∧ sumP (allS ((basketsT l cap).take i)) ≤ 1000 * (i : Int) := by
  have hc := (lots_ok h).cap
  have hb : ∀ b ∈ (basketsT l cap).take i, 0 ≤ sumP b.shares ∧ sumP b.shares ≤ 1000 := fun b hb => by
    obtain ⟨ht, hg⟩ := (baskets_are h).1 b (List.mem_of_mem_take hb)
    have h1 := hg.sum
    have h2 := sumP_bd hg.rng
    omega
  have h1 : ∀ bs : List Basket, (∀ b ∈ bs, 0 ≤ sumP b.shares ∧ sumP b.shares ≤ 1000) → 0 ≤ sumP (allS bs) ∧ sumP (allS bs) ≤ 1000 * (bs.length : Int) := by
    intro bs
    induction bs with
    | nil => intro _; simp [allS, sumP]
    | cons b bs ih =>
      intro hb
      have e1 := ih fun x hx => hb x (List.mem_cons_of_mem _ hx)
      have e2 := hb b List.mem_cons_self
      simp only [allS, List.length_cons]
      rw [sumP_app]
      omega
  have h2 := h1 _ hb
  rw [List.length_take] at h2
  omega
theorem take_bd {S : List Share} (h : ∀ s ∈ S, 1 ≤ s.parts ∧ s.parts ≤ 1000) {m : Nat} : 0 ≤ sumP (S.take m) ∧ sumP (S.take m) ≤ 1000 * (m : Int) := by
  have h1 := sumP_bd fun x hx => h x (List.mem_of_mem_take (i := m) hx)
  rw [List.length_take] at h1
  omega
set_option maxHeartbeats 4000000 in
theorem law_ShopNeverMixed {l : List Lot} {cap : Int} {bs : List Basket} : Ct Tryz.prog 6 [.sl (l.map Lot.cs), .int .i64 cap, .sl (bs.map Basket.cs)] (.bool true) := by
  refine Ct.intro (rs := [.tmp 6]) Tryz.func6 rfl Tryz.ntmps6 Tryz.results6 rfl rfl rfl fun w h => ?_
  refine OK.seq ?_
  refine OK.reg ?_
  refine RK.c (S.assign .none rfl .cbool) ?_
  refine RK.nil ?_
  refine Ab.D.code ?_
  refine OK.seq ?_
  refine OK.seq ?_
  refine OK.reg ?_
  refine RK.c (S.call (law9_awake) Tryz.call12 .none rfl .nil rfl) ?_
  refine RK.c (S.not .none rfl (.tmp rfl rfl)) ?_
  refine RK.nil ?_
  refine Ab.D.code ?_
  refine OK.condF rfl rfl rfl ?_
  refine OK.skip ?_
  refine Ab.D.code ?_
  refine OK.seq ?_
  refine OK.seq ?_
  refine OK.reg ?_
  refine RK.c (S.move .none rfl (.tmp rfl rfl)) ?_
  refine RK.c (S.call (law9_fewLots) Tryz.call29 .none rfl (.cons (.tmp rfl rfl) .nil) rfl) ?_
  refine RK.c (S.not .none rfl (.tmp rfl rfl)) ?_
  refine RK.c (S.move .none rfl (.tmp rfl rfl)) ?_
  refine RK.split (t := 31) rfl (fun g31 => ?_) (fun g31 => ?_)
  ·
    refine RK.c (S.skip rfl rfl rfl rfl rfl) ?_
    refine RK.c (S.skip rfl rfl rfl rfl rfl) ?_
    refine RK.c (S.skip rfl rfl rfl rfl rfl) ?_
    refine RK.c (S.pickT .none rfl (.tmp rfl rfl) .cbool rfl) ?_
    refine RK.c (S.move .none rfl (.tmp rfl rfl)) ?_
    refine RK.c (S.skip rfl rfl rfl rfl rfl) ?_
    refine RK.c (S.skip rfl rfl rfl rfl rfl) ?_
    refine RK.c (S.skip rfl rfl rfl rfl rfl) ?_
    refine RK.c (S.pickT .none rfl (.tmp rfl rfl) .cbool rfl) ?_
    refine RK.c (S.move .none rfl (.tmp rfl rfl)) ?_
    refine RK.c (S.skip rfl rfl rfl rfl rfl) ?_
    refine RK.c (S.skip rfl rfl rfl rfl rfl) ?_
    refine RK.c (S.skip rfl rfl rfl rfl rfl) ?_
    refine RK.c (S.pickT .none rfl (.tmp rfl rfl) .cbool rfl) ?_
    refine RK.nil ?_
    refine Ab.D.code ?_
    refine OK.condT rfl rfl rfl ?_
    refine OK.seq ?_
    refine OK.reg ?_
    refine RK.c (S.assign .none rfl .cbool) ?_
    refine RK.nil ?_
    refine Ab.D.code ?_
    refine OK.ret (Ret.r1 (.tmp rfl rfl (.c (.same rfl) rfl) rfl) ?_)
    first | rfl | exact ret_dT rfl | exact ret_dT trivial | exact ret_dT (by omega)
  ·
    have hfl : fewL l = true := by simpa using g31
    have hl10 : l.length ≤ 10 := by have h9 := hfl; unfold fewL at h9; rw [Bool.and_eq_true] at h9; exact of_decide_eq_true h9.1
    refine RK.c (S.move (.yes rfl rfl rfl rfl) rfl (.tmp rfl rfl)) ?_
    refine RK.c (S.call (law9_fewBaskets) Tryz.call30 (.yes rfl rfl rfl rfl) rfl (.cons (.tmp rfl rfl) .nil) rfl) ?_
    refine RK.c (S.not (.yes rfl rfl rfl rfl) rfl (.tmp rfl rfl)) ?_
    refine RK.c (S.pickF .none rfl (.tmp rfl rfl) (.tmp rfl rfl) rfl) ?_
    refine RK.c (S.move .none rfl (.tmp rfl rfl)) ?_
    refine RK.split (t := 36) rfl (fun g36 => ?_) (fun g36 => ?_)
    ·
      refine RK.c (S.skip rfl rfl rfl rfl rfl) ?_
      refine RK.c (S.skip rfl rfl rfl rfl rfl) ?_
      refine RK.c (S.skip rfl rfl rfl rfl rfl) ?_
      refine RK.c (S.pickT .none rfl (.tmp rfl rfl) .cbool rfl) ?_
      refine RK.c (S.move .none rfl (.tmp rfl rfl)) ?_
      refine RK.c (S.skip rfl rfl rfl rfl rfl) ?_
      refine RK.c (S.skip rfl rfl rfl rfl rfl) ?_
      refine RK.c (S.skip rfl rfl rfl rfl rfl) ?_
      refine RK.c (S.pickT .none rfl (.tmp rfl rfl) .cbool rfl) ?_
      refine RK.nil ?_
      refine Ab.D.code ?_
      refine OK.condT rfl rfl rfl ?_
      refine OK.seq ?_
      refine OK.reg ?_
      refine RK.c (S.assign .none rfl .cbool) ?_
      refine RK.nil ?_
      refine Ab.D.code ?_
      refine OK.ret (Ret.r1 (.tmp rfl rfl (.c (.same rfl) rfl) rfl) ?_)
      first | rfl | exact ret_dT rfl | exact ret_dT trivial | exact ret_dT (by omega)
    ·
      obtain ⟨hb65, hbs10⟩ := fewB_len (bs := bs) (by simpa using g36)
      have hbsL : ∀ b ∈ bs, b.shares.length ≤ 100000 := fun b hb => by have := hbs10 b hb; omega
      refine RK.c (S.move (.yes rfl rfl rfl rfl) rfl (.tmp rfl rfl)) ?_
      refine RK.c (S.call (ref9_LotsErr) Tryz.call35 (.yes rfl rfl rfl rfl) rfl (.cons (.tmp rfl rfl) .nil) rfl) ?_
      refine RK.c (S.neq (.yes rfl rfl rfl rfl) rfl (.tmp rfl rfl) (.cint rfl)) ?_
      refine RK.c (S.pickF .none rfl (.tmp rfl rfl) (.tmp rfl rfl) rfl) ?_
      refine RK.c (S.move .none rfl (.tmp rfl rfl)) ?_
      refine RK.splitD (t := 41) rfl (fun g41 => ?_) (fun g41 => ?_)
      ·
        refine RK.c (S.skip rfl rfl rfl rfl rfl) ?_
        refine RK.c (S.skip rfl rfl rfl rfl rfl) ?_
        refine RK.c (S.skip rfl rfl rfl rfl rfl) ?_
        refine RK.c (S.pickT .none rfl (.tmp rfl rfl) .cbool rfl) ?_
        refine RK.nil ?_
        refine Ab.D.code ?_
        refine OK.condT rfl rfl rfl ?_
        refine OK.seq ?_
        refine OK.reg ?_
        refine RK.c (S.assign .none rfl .cbool) ?_
        refine RK.nil ?_
        refine Ab.D.code ?_
        refine OK.ret (Ret.r1 (.tmp rfl rfl (.c (.same rfl) rfl) rfl) ?_)
        first | rfl | exact ret_dT rfl | exact ret_dT trivial | exact ret_dT (by omega)
      ·
        refine RK.c (S.move (.yes rfl rfl rfl rfl) rfl (.tmp rfl rfl)) ?_
        refine RK.c (S.call (ref9_CapacityErr) Tryz.call36 (.yes rfl rfl rfl rfl) rfl (.cons (.tmp rfl rfl) .nil) rfl) ?_
        refine RK.c (S.neq (.yes rfl rfl rfl rfl) rfl (.tmp rfl rfl) (.cint rfl)) ?_
        refine RK.c (S.pickF .none rfl (.tmp rfl rfl) (.tmp rfl rfl) rfl) ?_
        refine RK.nil ?_
        refine Ab.D.code ?_
        refine OK.condD rfl rfl (fun c45 => ?_) (fun c45 => ?_)
        ·
          refine OK.seq ?_
          refine OK.reg ?_
          refine RK.c (S.assign .none rfl .cbool) ?_
          refine RK.nil ?_
          refine Ab.D.code ?_
          refine OK.ret (Ret.r1 (.tmp rfl rfl (.c (.same rfl) rfl) rfl) ?_)
          first | rfl | exact ret_dT rfl | exact ret_dT trivial | exact ret_dT (by omega)
        ·
          have hl0 : lotsE l cap = 0 := by rw [lotsE_eq, if_neg g41]; exact Decidable.not_not.1 c45
          have hok := lots_ok hl0
          have hl8 := hok.len
          have hcap := hok.cap
          obtain ⟨ba1, ba2, ba3⟩ := baskets_are hl0
          refine OK.skip ?_
          refine Ab.D.code ?_
          refine OK.seq ?_
          refine OK.reg ?_
          refine RK.c (S.move .none rfl (.tmp rfl rfl)) ?_
          refine RK.c (S.call (ref9_CopyLots (by omega)) Tryz.call32 .none rfl (.cons (.tmp rfl rfl) .nil) rfl) ?_
          refine RK.c (S.move .none rfl (.tmp rfl rfl)) ?_
          refine RK.c (S.call (shp_BasketsOf) Tryz.call31 .none rfl (.cons (.tmp rfl rfl) (.cons (.tmp rfl rfl) .nil)) rfl) ?_
          refine RK.c (S.move .none rfl (.tmp rfl rfl)) ?_
          refine RK.c (S.extract .none rfl (.tmp rfl rfl) rfl rfl) ?_
          refine RK.c (S.extract .none rfl (.tmp rfl rfl) rfl rfl) ?_
          refine RK.c (S.assign .none rfl (.tmp rfl rfl)) ?_
          refine RK.c (S.assign .none rfl (.tmp rfl rfl)) ?_
          refine RK.nil ?_
          refine Ab.D.code ?_
          refine OK.seq ?_
          refine OK.reg ?_
          refine RK.c (S.move .none rfl (.tmp rfl rfl)) ?_
          refine RK.c (S.call (ref9_CopyLots (by omega)) Tryz.call32 .none rfl (.cons (.tmp rfl rfl) .nil) rfl) ?_
          refine RK.c (S.move .none rfl (.tmp rfl rfl)) ?_
          refine RK.c (S.move .none rfl (.tmp rfl rfl)) ?_
          refine RK.c (S.call (ref9_CopyBaskets (by omega) (by assumption)) Tryz.call34 .none rfl (.cons (.tmp rfl rfl) .nil) rfl) ?_
          refine RK.c (S.call (shp_CheckBaskets (by omega) (fun b hb => by have := hbs10 b hb; omega)) Tryz.call33 .none rfl (.cons (.tmp rfl rfl) (.cons (.tmp rfl rfl) (.cons (.tmp rfl rfl) .nil))) rfl) ?_
          refine RK.c (S.move .none rfl (.tmp rfl rfl)) ?_
          refine RK.c (S.extract .none rfl (.tmp rfl rfl) rfl rfl) ?_
          refine RK.c (S.extract .none rfl (.tmp rfl rfl) rfl rfl) ?_
          refine RK.c (S.assign .none rfl (.tmp rfl rfl)) ?_
          refine RK.c (S.assign .none rfl (.tmp rfl rfl)) ?_
          refine RK.nil ?_
          refine Ab.D.code ?_
          refine OK.seq ?_
          refine OK.reg ?_
          refine RK.c (S.assign .none rfl (.cint rfl)) ?_
          refine RK.c (S.assign .none rfl (.cint rfl)) ?_
          refine RK.nil ?_
          refine Ab.D.code ?_
          refine OK.seq ?_
          refine OK.reg ?_
          refine RK.c (S.nilOwn (k := 13) (sz := 1) .none rfl) ?_
          refine RK.nil ?_
          refine Ab.D.code ?_
          refine OK.seq ?_
          refine OK.seq ?_
          refine OK.reg ?_
          refine RK.c (S.assign .none rfl (.cint rfl)) ?_
          refine RK.nil ?_
          refine Ab.D.code ?_
          refine OK.block ?_
          refine OK.loop3 [13] (fun (i : Nat) (pre : List (List Lot)) (ks : List (List UInt8)) => [(0, .sl (l.map Lot.cs)), (1, .int .i64 cap), (7, .sl ((if basketsE l cap = 0 then basketsT l cap else []).map Basket.cs)), (8, .int .i64 (basketsE l cap)), (9, .int .i64 (chkN l cap bs)), (10, .int .i64 (chkA l cap bs)), (11, .int .i64 (needT cap pre)), (12, .int .i64 (totP (l.take i))), (13, .own 13 ks.length), (2013, .arr 1 (ks.map fun s => [.str s])), (14, .int .i64 i)]) (fun i pre ks => i ≤ l.length ∧ heatsT l = pre ++ heatGo ks (l.drop i) ∧ ks.length ≤ i ∧ 0 ≤ needT cap pre ∧ needT cap pre ≤ 8000 * (i : Int)) (fun i pre ks => l.length - i) (0) ([]) ([]) ⟨Nat.zero_le _, rfl, Nat.le_refl _, Int.le_refl _, Int.le_refl _⟩ ⟨rfl, rfl, rfl, rfl, rfl, rfl, rfl, rfl, (lk_own (by first | rfl | (simp; done) | (simp; omega))), (lk_arr (by first | rfl | (simp; done) | (simp; omega))), rfl, trivial⟩ (fun _ _ _ => rfl) ?_
          rintro i pre ks ⟨hi, hD, hks, hnd⟩
          refine OK.seq ?_
          refine OK.seq ?_
          refine OK.reg ?_
          refine RK.c (S.move .none rfl (.tmp rfl rfl)) ?_
          refine RK.c (S.move .none rfl (.tmp rfl rfl)) ?_
          refine RK.c (S.lenM si49 .none rfl (.tmp rfl rfl)) ?_
          refine RK.c (S.lss .none rfl (.tmp rfl rfl) (.tmp rfl rfl)) ?_
          refine RK.nil ?_
          refine Ab.D.code ?_
          refine OK.condD rfl rfl (fun c65 => ?_) (fun c65 => ?_)
          ·
            have hil : i < l.length := by omega
            have hxi := hok.parts _ (List.getElem_mem hil)
            have htb := totP_bd (S := l.take i) fun x hx => hok.parts x (List.mem_of_mem_take hx)
            rw [List.length_take] at htb
            have hts : totP (l.take (i + 1)) = totP (l.take i) + l[i].parts := by rw [List.take_succ_eq_append_getElem hil, totP_snoc]
            refine OK.skip ?_
            refine Ab.D.code ?_
            refine OK.seq ?_
            refine OK.block ?_
            refine OK.seq ?_
            refine OK.reg ?_
            refine RK.c (S.move .none rfl (.tmp rfl rfl)) ?_
            refine RK.c (S.move .none rfl (.tmp rfl rfl)) ?_
            refine RK.c (S.move .none rfl (.tmp rfl rfl)) ?_
            refine RK.c (S.indexM (n := i) si49 .none rfl (.tmp rfl rfl) (.tmp rfl rfl) rfl (by omega) rfl) ?_
            refine RK.c (S.field fi66_2 .none rfl (.tmp rfl rfl) rfl) ?_
            refine RK.c (S.load1 ti3 .none rfl (.tmp rfl rfl) rfl) ?_
            refine RK.c (S.add .none rfl (.tmp rfl rfl) (.tmp rfl rfl) (IntWalk.i64_in _ (by omega)) (IntWalk.i64_in _ (by omega))) ?_
            refine RK.c (S.assign .none rfl (.tmp rfl rfl)) ?_
            refine RK.nil ?_
            refine Ab.D.code ?_
            refine OK.seq ?_
            refine OK.seq ?_
            refine OK.reg ?_
            refine RK.c (S.move .none rfl (.tmp rfl rfl)) ?_
            refine RK.c (S.move .none rfl (.tmp rfl rfl)) ?_
            refine RK.c (S.move .none rfl (.tmp rfl rfl)) ?_
            refine RK.c (S.indexM (n := i) si49 .none rfl (.tmp rfl rfl) (.tmp rfl rfl) rfl (by omega) rfl) ?_
            refine RK.c (S.field fi66_1 .none rfl (.tmp rfl rfl) rfl) ?_
            refine RK.c (S.load1 ti9 .none rfl (.tmp rfl rfl) rfl) ?_
            refine RK.c (S.callL (base_HasText (l := ks)) Tryz.call40 .none rfl (.cons (.tmp rfl rfl) (.cons (.tmp rfl rfl) .nil)) (.cons (.p (.own rfl (by simp)) rfl) (.cons (.same rfl) .nil)) rfl) ?_
            refine RK.nil ?_
            refine Ab.D.code ?_
            refine OK.cond rfl rfl (fun c81 => ?_) (fun c81 => ?_)
            ·
              have hin : l[i].heat ∈ ks := hasText_mem.1 c81
              refine OK.exit rfl ?_
              refine Ab.D.code ?_
              refine OK.reg ?_
              refine RK.c (S.move .none rfl (.tmp rfl rfl)) ?_
              refine RK.c (S.add .none rfl (.tmp rfl rfl) (.cint rfl) (IntWalk.i64_in _ (by omega)) (IntWalk.i64_in _ (by omega))) ?_
              refine RK.c (S.assign .none rfl (.tmp rfl rfl)) ?_
              refine RK.nil ?_
              refine Ab.D.lp ⟨i + 1, pre, ks, ⟨by omega, by first | (rw [hD, heatGo_drop (by omega), if_pos hin]; done) | (rw [hD2]; simp), by first | omega | (rw [List.length_append]; simp; omega), by first | omega | (rw [hns]; omega), by first | omega | (rw [hns]; omega)⟩, (by omega), rfl, rfl, rfl, rfl, rfl, rfl, (lkI (by first | rfl | rw [hns, hcf])), (lkI (by rw [hts])), (lk_own (by simp)), (lk_arr (by first | rfl | (simp; done) | (simp; omega))), rfl, trivial⟩
            ·
              have hnin : l[i].heat ∉ ks := fun e => by rw [hasText_mem.2 e] at c81; cases c81
              have hD2 : heatsT l = pre ++ ((l.drop i).filter fun y => !decide (y.heat ≠ l[i].heat)) :: heatGo (ks ++ [l[i].heat]) (l.drop (i + 1)) := by rw [hD, heatGo_drop hil, if_neg hnin]
              refine OK.skip ?_
              refine Ab.D.code ?_
              refine OK.seq ?_
              refine OK.reg ?_
              refine RK.c (S.move .none rfl (.tmp rfl rfl)) ?_
              refine RK.c (S.move .none rfl (.tmp rfl rfl)) ?_
              refine RK.c (S.move .none rfl (.tmp rfl rfl)) ?_
              refine RK.c (S.indexM (n := i) si49 .none rfl (.tmp rfl rfl) (.tmp rfl rfl) rfl (by omega) rfl) ?_
              refine RK.c (S.field fi66_1 .none rfl (.tmp rfl rfl) rfl) ?_
              refine RK.c (S.load1 ti9 .none rfl (.tmp rfl rfl) rfl) ?_
              refine RK.c (S.mkSlice (k := 88) (rows := [[_]]) ai64 .none rfl (.cons (.tmp rfl rfl) .nil) rfl rfl rfl rfl rfl rfl rfl) ?_
              refine RK.c (S.append ai64 .none rfl (.tmp rfl rfl) rfl (by first | rfl | (simp; done) | (simp; omega)) (.tmp rfl rfl) rfl (by first | rfl | (simp; done) | (simp; omega)) (by omega) (by simp only [maxLen]; omega)) ?_
              refine RK.c (S.assign .none rfl (.tmp rfl rfl)) ?_
              refine RK.nil ?_
              refine Ab.D.code ?_
              refine OK.seq ?_
              refine OK.reg ?_
              refine RK.c (S.assign .none rfl (.cint rfl)) ?_
              refine RK.nil ?_
              refine Ab.D.code ?_
              refine OK.seq ?_
              refine OK.seq ?_
              refine OK.reg ?_
              refine RK.c (S.move .none rfl (.tmp rfl rfl)) ?_
              refine RK.c (S.assign .none rfl (.tmp rfl rfl)) ?_
              refine RK.nil ?_
              refine Ab.D.code ?_
              refine OK.block ?_
              refine OK.loop (G := Nat) [13] (fun k => [(0, .sl (l.map Lot.cs)), (1, .int .i64 cap), (7, .sl ((if basketsE l cap = 0 then basketsT l cap else []).map Basket.cs)), (8, .int .i64 (basketsE l cap)), (9, .int .i64 (chkN l cap bs)), (10, .int .i64 (chkA l cap bs)), (11, .int .i64 (needT cap pre)), (12, .int .i64 (totP (l.take (i + 1)))), (13, .own 13 (ks.length + 1)), (2013, .arr 1 ((ks ++ [l[i].heat]).map fun s => [.str s])), (14, .int .i64 i), (15, .int .i64 (totP (seg l i k))), (16, .int .i64 k)]) (fun k => i ≤ k ∧ k ≤ l.length) (fun k => l.length - k) i ⟨Nat.le_refl _, by omega⟩ ⟨rfl, rfl, rfl, rfl, rfl, rfl, rfl, (lkI (by rw [hts])), (lk_own (by simp)), (lk_arr (by simp)), rfl, (lkI (by rw [seg_0]; rfl)), rfl, trivial⟩ (fun _ => rfl) ?_
              rintro k ⟨hik, hk⟩
              refine OK.seq ?_
              refine OK.seq ?_
              refine OK.reg ?_
              refine RK.c (S.move .none rfl (.tmp rfl rfl)) ?_
              refine RK.c (S.move .none rfl (.tmp rfl rfl)) ?_
              refine RK.c (S.lenM si49 .none rfl (.tmp rfl rfl)) ?_
              refine RK.c (S.lss .none rfl (.tmp rfl rfl) (.tmp rfl rfl)) ?_
              refine RK.nil ?_
              refine Ab.D.code ?_
              refine OK.condD rfl rfl (fun c94 => ?_) (fun c94 => ?_)
              ·
                have hkl : k < l.length := by omega
                have hxk := hok.parts _ (List.getElem_mem hkl)
                have hsb := seg_bd hok i k
                refine OK.skip ?_
                refine Ab.D.code ?_
                refine OK.seq ?_
                refine OK.block ?_
                refine OK.seq ?_
                refine OK.regionDraw follows (.c (S.move .none rfl (.tmp rfl rfl))
                  (.c (S.move .none rfl (.tmp rfl rfl))
                  (.c (S.indexM (n := k) si49 .none rfl (.tmp rfl rfl) (.tmp rfl rfl) rfl (by omega) rfl)
                  (.c (S.field fi66_1 .none rfl (.tmp rfl rfl) rfl)
                  (.c (S.load1 ti9 .none rfl (.tmp rfl rfl) rfl)
                  (.c (S.move .none rfl (.tmp rfl rfl))
                  (.c (S.move .none rfl (.tmp rfl rfl))
                  (.c (S.indexM (n := i) si49 .none rfl (.tmp rfl rfl) (.tmp rfl rfl) rfl (by omega) rfl)
                  (.c (S.field fi66_1 .none rfl (.tmp rfl rfl) rfl)
                  (.c (S.load1 ti9 .none rfl (.tmp rfl rfl) rfl)
                  (.c (S.seql .none rfl (.tmp rfl rfl) (.tmp rfl rfl))
                  .nil))))))))))) (by kernel_rfl) ?_
                refine Ab.D.code ?_
                refine OK.condD rfl rfl (fun c107 => ?_) (fun c107 => ?_)
                ·
                  refine OK.reg ?_
                  refine RK.c (S.move .none rfl (.tmp rfl rfl)) ?_
                  refine RK.c (S.move .none rfl (.tmp rfl rfl)) ?_
                  refine RK.c (S.move .none rfl (.tmp rfl rfl)) ?_
                  refine RK.c (S.indexM (n := k) si49 .none rfl (.tmp rfl rfl) (.tmp rfl rfl) rfl (by omega) rfl) ?_
                  refine RK.c (S.field fi66_2 .none rfl (.tmp rfl rfl) rfl) ?_
                  refine RK.c (S.load1 ti3 .none rfl (.tmp rfl rfl) rfl) ?_
                  refine RK.c (S.add .none rfl (.tmp rfl rfl) (.tmp rfl rfl) (IntWalk.i64_in _ (by omega)) (IntWalk.i64_in _ (by omega))) ?_
                  refine RK.c (S.assign .none rfl (.tmp rfl rfl)) ?_
                  refine RK.nil ?_
                  refine Ab.D.blk ?_
                  refine Ab.D.code ?_
                  refine OK.reg ?_
                  refine RK.c (S.move .none rfl (.tmp rfl rfl)) ?_
                  refine RK.c (S.add .none rfl (.tmp rfl rfl) (.cint rfl) (IntWalk.i64_in _ (by omega)) (IntWalk.i64_in _ (by omega))) ?_
                  refine RK.c (S.assign .none rfl (.tmp rfl rfl)) ?_
                  refine RK.nil ?_
                  refine Ab.D.lp ⟨k + 1, ⟨by omega, by omega⟩, (by omega), rfl, rfl, rfl, rfl, rfl, rfl, rfl, rfl, rfl, rfl, rfl, (lkI (by first | rw [seg_T hik hkl c107, totP_snoc] | rw [seg_F hik hkl c107])), rfl, trivial⟩
                ·
                  refine OK.skip ?_
                  refine Ab.D.blk ?_
                  refine Ab.D.code ?_
                  refine OK.reg ?_
                  refine RK.c (S.move .none rfl (.tmp rfl rfl)) ?_
                  refine RK.c (S.add .none rfl (.tmp rfl rfl) (.cint rfl) (IntWalk.i64_in _ (by omega)) (IntWalk.i64_in _ (by omega))) ?_
                  refine RK.c (S.assign .none rfl (.tmp rfl rfl)) ?_
                  refine RK.nil ?_
                  refine Ab.D.lp ⟨k + 1, ⟨by omega, by omega⟩, (by omega), rfl, rfl, rfl, rfl, rfl, rfl, rfl, rfl, rfl, rfl, rfl, (lkI (by first | rw [seg_T hik hkl c107, totP_snoc] | rw [seg_F hik hkl c107])), rfl, trivial⟩
              ·
                have hke : k = l.length := by omega
                have hsb := seg_bd hok i k
                have hcb := ceil_bd (cap := cap) (A := 8000) hcap.1 (show 0 ≤ totP (seg l i k) ∧ totP (seg l i k) ≤ 8000 by omega)
                have hcf := ceil_floor (a := totP (seg l i k)) hcap.1
                have hns : needT cap (pre ++ [(l.drop i).filter fun y => !decide (y.heat ≠ l[i].heat)]) = needT cap pre + ceilB (totP (seg l i k)) cap := by rw [need_snoc, hke, seg_all hil]
                refine OK.exit rfl ?_
                refine Ab.D.code ?_
                refine OK.reg ?_
                refine RK.c (S.move .none rfl (.tmp rfl rfl)) ?_
                refine RK.c (S.move .none rfl (.tmp rfl rfl)) ?_
                refine RK.c (S.move .none rfl (.tmp rfl rfl)) ?_
                refine RK.c (S.call (base_Ceil (A := 8000) (by omega) (by omega) (by omega)) Tryz.call41 .none rfl (.cons (.tmp rfl rfl) (.cons (.tmp rfl rfl) .nil)) rfl) ?_
                refine RK.c (S.add .none rfl (.tmp rfl rfl) (.tmp rfl rfl) (IntWalk.i64_in _ (by omega)) (IntWalk.i64_in _ (by omega))) ?_
                refine RK.c (S.assign .none rfl (.tmp rfl rfl)) ?_
                refine RK.nil ?_
                refine Ab.D.blk ?_
                refine Ab.D.code ?_
                refine OK.reg ?_
                refine RK.c (S.move .none rfl (.tmp rfl rfl)) ?_
                refine RK.c (S.add .none rfl (.tmp rfl rfl) (.cint rfl) (IntWalk.i64_in _ (by omega)) (IntWalk.i64_in _ (by omega))) ?_
                refine RK.c (S.assign .none rfl (.tmp rfl rfl)) ?_
                refine RK.nil ?_
                refine Ab.D.lp ⟨i + 1, pre ++ [(l.drop i).filter fun y => !decide (y.heat ≠ l[i].heat)], ks ++ [l[i].heat], ⟨by omega, by first | (rw [hD, heatGo_drop (by omega), if_pos hin]; done) | (rw [hD2]; simp), by first | omega | (rw [List.length_append]; simp; omega), by first | omega | (rw [hns]; omega), by first | omega | (rw [hns]; omega)⟩, (by omega), rfl, rfl, rfl, rfl, rfl, rfl, (lkI (by first | rfl | rw [hns, hcf])), (lkI (by rw [hts])), (lk_own (by simp)), (lk_arr (by first | rfl | (simp; done) | (simp; omega))), rfl, trivial⟩
          ·
            have hie : i = l.length := by omega
            have hDe : pre = heatsT l := by rw [hD, hie, List.drop_length, heatGo, List.append_nil]
            have hlt : l.take i = l := List.take_of_length_le (by omega)
            rw [hDe, hlt]
            rw [hDe] at hnd
            refine OK.exit rfl ?_
            refine Ab.D.code ?_
            refine OK.seq ?_
            refine OK.seq ?_
            refine OK.reg ?_
            refine RK.c (S.move .none rfl (.tmp rfl rfl)) ?_
            refine RK.c (S.eql .none rfl (.tmp rfl rfl) (.cint rfl)) ?_
            refine RK.c (S.move .none rfl (.tmp rfl rfl)) ?_
            refine RK.splitD (t := 122) rfl (fun g122 => ?_) (fun g122 => ?_)
            ·
              have hcn : chkN l cap bs = (bs.length : Int) := if_pos g122
              have hcB : chkB l cap bs = 0 := (if_neg (show ¬ lotsE l cap ≠ 0 by rw [hl0]; decide)).symm.trans g122
              have hne := need_le hl0 hcB
              refine RK.c (S.move (.yes rfl rfl rfl rfl) rfl (.tmp rfl rfl)) ?_
              refine RK.c (S.move (.yes rfl rfl rfl rfl) rfl (.tmp rfl rfl)) ?_
              refine RK.c (S.lss (.yes rfl rfl rfl rfl) rfl (.tmp rfl rfl) (.tmp rfl rfl)) ?_
              refine RK.c (S.pickT .none rfl (.tmp rfl rfl) (.tmp rfl rfl) rfl) ?_
              refine RK.nil ?_
              refine Ab.D.code ?_
              refine OK.condD rfl rfl (fun c126 => ?_) (fun c126 => ?_)
              ·
                exfalso
                omega
              ·
                refine OK.skip ?_
                refine Ab.D.code ?_
                refine OK.seq ?_
                refine OK.seq ?_
                refine OK.reg ?_
                refine RK.c (S.move .none rfl (.tmp rfl rfl)) ?_
                refine RK.c (S.neq .none rfl (.tmp rfl rfl) (.cint rfl)) ?_
                refine RK.nil ?_
                refine Ab.D.code ?_
                refine OK.condD rfl rfl (fun c128 => ?_) (fun c128 => ?_)
                ·
                  have h60 : 60 < (basketsT l cap).length := by
                    refine Nat.lt_of_not_le fun e => c128 ?_
                    unfold basketsE
                    rw [if_neg (by rw [hl0]; decide), if_neg (by omega)]
                  have hbe : basketsE l cap = 16 := by unfold basketsE; rw [if_neg (by rw [hl0]; decide), if_pos h60]
                  refine OK.seq ?_
                  refine OK.reg ?_
                  refine RK.c (S.move .none rfl (.tmp rfl rfl)) ?_
                  refine RK.c (S.eql .none rfl (.tmp rfl rfl) (.cint rfl)) ?_
                  refine RK.c (S.move .none rfl (.tmp rfl rfl)) ?_
                  refine RK.splitD (t := 131) rfl (fun g131 => ?_) (fun g131 => ?_)
                  ·
                    refine RK.c (S.move (.yes rfl rfl rfl rfl) rfl (.tmp rfl rfl)) ?_
                    refine RK.c (S.gtr (.yes rfl rfl rfl rfl) rfl (.tmp rfl rfl) (.cint rfl)) ?_
                    refine RK.c (S.pickT .none rfl (.tmp rfl rfl) (.tmp rfl rfl) rfl) ?_
                    refine RK.c (S.assign .none rfl (.tmp rfl rfl)) ?_
                    refine RK.nil ?_
                    refine Ab.D.code ?_
                    refine OK.ret (Ret.r1 (.tmp rfl rfl (.c (.same rfl) rfl) rfl) ?_)
                    first | rfl | exact ret_dT rfl | exact ret_dT trivial | exact ret_dT (by omega)
                  ·
                    exact absurd hbe g131
                ·
                  have hbe : basketsE l cap = 0 := Decidable.not_not.1 c128
                  have h60 : (basketsT l cap).length ≤ 60 := by
                    refine Nat.le_of_not_lt fun e => ?_
                    unfold basketsE at hbe
                    rw [if_neg (by rw [hl0]; decide), if_pos e] at hbe
                    cases hbe
                  have hb0 : (if basketsE l cap = 0 then basketsT l cap else []) = basketsT l cap := if_pos hbe
                  rw [hb0]
                  have hfo := few_own hl0 hfl h60
                  have hbf := baskets_fine hl0 h60
                  have hA : chkA l cap (basketsT l cap) = 0 := by unfold chkA; rw [if_neg (by rw [hl0]; decide), hbf]
                  have hN : chkN l cap (basketsT l cap) = ((basketsT l cap).length : Int) := if_pos hA
                  obtain ⟨_, hbo10⟩ := fewB_len hfo
                  refine OK.skip ?_
                  refine Ab.D.code ?_
                  refine OK.seq ?_
                  refine OK.seq ?_
                  refine OK.reg ?_
                  refine RK.c (S.move .none rfl (.tmp rfl rfl)) ?_
                  refine RK.c (S.lenM si50 .none rfl (.tmp rfl rfl)) ?_
                  refine RK.c (S.move .none rfl (.tmp rfl rfl)) ?_
                  refine RK.c (S.neq .none rfl (.tmp rfl rfl) (.tmp rfl rfl)) ?_
                  refine RK.c (S.move .none rfl (.tmp rfl rfl)) ?_
                  refine RK.splitD (t := 139) rfl (fun g139 => ?_) (fun g139 => ?_)
                  ·
                    exact absurd ba2 g139
                  ·
                    refine RK.c (S.move (.yes rfl rfl rfl rfl) rfl (.tmp rfl rfl)) ?_
                    refine RK.c (S.call (law9_fewBaskets) Tryz.call30 (.yes rfl rfl rfl rfl) rfl (.cons (.tmp rfl rfl) .nil) rfl) ?_
                    refine RK.c (S.not (.yes rfl rfl rfl rfl) rfl (.tmp rfl rfl)) ?_
                    refine RK.c (S.pickF .none rfl (.tmp rfl rfl) (.tmp rfl rfl) rfl) ?_
                    refine RK.nil ?_
                    refine Ab.D.code ?_
                    refine OK.cond rfl rfl (fun c143 => ?_) (fun c143 => ?_)
                    ·
                      rw [hfo] at c143
                      exact absurd c143 (by decide)
                    ·
                      have hboL : ∀ b ∈ basketsT l cap, b.shares.length ≤ 100000 := fun b hb => by have := hbo10 b hb; omega
                      refine OK.skip ?_
                      refine Ab.D.code ?_
                      refine OK.seq ?_
                      refine OK.reg ?_
                      refine RK.c (S.move .none rfl (.tmp rfl rfl)) ?_
                      refine RK.c (S.call (ref9_CopyLots (by omega)) Tryz.call32 .none rfl (.cons (.tmp rfl rfl) .nil) rfl) ?_
                      refine RK.c (S.move .none rfl (.tmp rfl rfl)) ?_
                      refine RK.c (S.move .none rfl (.tmp rfl rfl)) ?_
                      refine RK.c (S.call (ref9_CopyBaskets (by omega) (by assumption)) Tryz.call34 .none rfl (.cons (.tmp rfl rfl) .nil) rfl) ?_
                      refine RK.c (S.call (shp_CheckBaskets (l := l) (bs := basketsT l cap) (by omega) (fun b hb => by have := hbo10 b hb; omega)) Tryz.call33 .none rfl (.cons (.tmp rfl rfl) (.cons (.tmp rfl rfl) (.cons (.tmp rfl rfl) .nil))) rfl) ?_
                      refine RK.c (S.move .none rfl (.tmp rfl rfl)) ?_
                      refine RK.c (S.extract .none rfl (.tmp rfl rfl) rfl rfl) ?_
                      refine RK.c (S.extract .none rfl (.tmp rfl rfl) rfl rfl) ?_
                      refine RK.c (S.assign .none rfl (.tmp rfl rfl)) ?_
                      refine RK.c (S.assign .none rfl (.tmp rfl rfl)) ?_
                      refine RK.nil ?_
                      refine Ab.D.code ?_
                      refine OK.seq ?_
                      refine OK.seq ?_
                      refine OK.reg ?_
                      refine RK.c (S.move .none rfl (.tmp rfl rfl)) ?_
                      refine RK.c (S.neq .none rfl (.tmp rfl rfl) (.cint rfl)) ?_
                      refine RK.c (S.move .none rfl (.tmp rfl rfl)) ?_
                      refine RK.splitD (t := 155) rfl (fun g155 => ?_) (fun g155 => ?_)
                      ·
                        exact absurd hA g155
                      ·
                        refine RK.c (S.move (.yes rfl rfl rfl rfl) rfl (.tmp rfl rfl)) ?_
                        refine RK.c (S.move (.yes rfl rfl rfl rfl) rfl (.tmp rfl rfl)) ?_
                        refine RK.c (S.lenM si50 (.yes rfl rfl rfl rfl) rfl (.tmp rfl rfl)) ?_
                        refine RK.c (S.neq (.yes rfl rfl rfl rfl) rfl (.tmp rfl rfl) (.tmp rfl rfl)) ?_
                        refine RK.c (S.pickF .none rfl (.tmp rfl rfl) (.tmp rfl rfl) rfl) ?_
                        refine RK.nil ?_
                        refine Ab.D.code ?_
                        refine OK.condD rfl rfl (fun c160 => ?_) (fun c160 => ?_)
                        ·
                          exact absurd hN c160
                        ·
                          refine OK.skip ?_
                          refine Ab.D.code ?_
                          refine OK.seq ?_
                          refine OK.reg ?_
                          refine RK.c (S.assign .none rfl (.cint rfl)) ?_
                          refine RK.nil ?_
                          refine Ab.D.code ?_
                          refine OK.seq ?_
                          refine OK.seq ?_
                          refine OK.reg ?_
                          refine RK.c (S.assign .none rfl (.cint rfl)) ?_
                          refine RK.nil ?_
                          refine Ab.D.code ?_
                          refine OK.block ?_
                          refine OK.loop (G := Nat) [] (fun i => [(0, .sl (l.map Lot.cs)), (1, .int .i64 cap), (7, .sl ((basketsT l cap).map Basket.cs)), (12, .int .i64 (totP l)), (19, .int .i64 (sumP (allS ((basketsT l cap).take i)))), (20, .int .i64 i)]) (fun i => i ≤ (basketsT l cap).length) (fun i => (basketsT l cap).length - i) 0 (Nat.zero_le _) ⟨rfl, rfl, rfl, rfl, rfl, rfl, trivial⟩ (fun _ => rfl) ?_
                          rintro i hi
                          refine OK.seq ?_
                          refine OK.seq ?_
                          refine OK.reg ?_
                          refine RK.c (S.move .none rfl (.tmp rfl rfl)) ?_
                          refine RK.c (S.move .none rfl (.tmp rfl rfl)) ?_
                          refine RK.c (S.lenM si50 .none rfl (.tmp rfl rfl)) ?_
                          refine RK.c (S.lss .none rfl (.tmp rfl rfl) (.tmp rfl rfl)) ?_
                          refine RK.nil ?_
                          refine Ab.D.code ?_
                          refine OK.condD rfl rfl (fun c164 => ?_) (fun c164 => ?_)
                          ·
                            have hib : i < (basketsT l cap).length := by omega
                            obtain ⟨ht, hgb⟩ := ba1 _ (List.getElem_mem hib)
                            have hhb := held_bd hl0 i
                            have hs10 := hbo10 _ (List.getElem_mem hib)
                            refine OK.skip ?_
                            refine Ab.D.code ?_
                            refine OK.seq ?_
                            refine OK.block ?_
                            refine OK.seq ?_
                            refine OK.reg ?_
                            refine RK.c (S.assign .none rfl (.cint rfl)) ?_
                            refine RK.c (S.assign .none rfl (.cstr (l := []) rfl (by decide))) ?_
                            refine RK.nil ?_
                            refine Ab.D.code ?_
                            refine OK.seq ?_
                            refine OK.seq ?_
                            refine OK.reg ?_
                            refine RK.c (S.assign .none rfl (.cint rfl)) ?_
                            refine RK.nil ?_
                            refine Ab.D.code ?_
                            refine OK.block ?_
                            refine OK.loop (G := Nat) [] (fun m => [(0, .sl (l.map Lot.cs)), (1, .int .i64 cap), (7, .sl ((basketsT l cap).map Basket.cs)), (12, .int .i64 (totP l)), (19, .int .i64 (sumP (allS ((basketsT l cap).take i)))), (20, .int .i64 i), (21, .int .i64 (sumP ((basketsT l cap)[i].shares.take m))), (22, .str (if m = 0 then [] else ht)), (23, .int .i64 m)]) (fun m => m ≤ (basketsT l cap)[i].shares.length) (fun m => (basketsT l cap)[i].shares.length - m) 0 (Nat.zero_le _) ⟨rfl, rfl, rfl, rfl, rfl, rfl, rfl, rfl, rfl, trivial⟩ (fun _ => rfl) ?_
                            rintro m hm
                            refine OK.seq ?_
                            refine OK.seq ?_
                            refine OK.reg ?_
                            refine RK.c (S.move .none rfl (.tmp rfl rfl)) ?_
                            refine RK.c (S.move .none rfl (.tmp rfl rfl)) ?_
                            refine RK.c (S.move .none rfl (.tmp rfl rfl)) ?_
                            refine RK.c (S.indexM (n := i) si50 .none rfl (.tmp rfl rfl) (.tmp rfl rfl) rfl (by omega) rfl) ?_
                            refine RK.c (S.field fi71_0 .none rfl (.tmp rfl rfl) rfl) ?_
                            refine RK.c (S.load1 ti69 .none rfl (.tmp rfl rfl) rfl) ?_
                            refine RK.c (S.lenM si69 .none rfl (.tmp rfl rfl)) ?_
                            refine RK.c (S.lss .none rfl (.tmp rfl rfl) (.tmp rfl rfl)) ?_
                            refine RK.nil ?_
                            refine Ab.D.code ?_
                            refine OK.condD rfl rfl (fun c174 => ?_) (fun c174 => ?_)
                            ·
                              have hmb : m < (basketsT l cap)[i].shares.length := by omega
                              obtain ⟨x, hxl, hxn, hxh⟩ := hgb.heat _ (List.getElem_mem hmb)
                              obtain ⟨ia, hia, hxe⟩ := List.getElem_of_mem hxl
                              subst hxe
                              have hix : lotIx l (basketsT l cap)[i].shares[m].lot = (ia : Int) := by rw [← hxn]; exact lot_ix hl0 hia
                              have hpr := hgb.rng _ (List.getElem_mem hmb)
                              have htb := take_bd hgb.rng (m := m)
                              refine OK.skip ?_
                              refine Ab.D.code ?_
                              refine OK.seq ?_
                              refine OK.block ?_
                              refine OK.seq ?_
                              refine OK.reg ?_
                              refine RK.c (S.move .none rfl (.tmp rfl rfl)) ?_
                              refine RK.c (S.move .none rfl (.tmp rfl rfl)) ?_
                              refine RK.c (S.indexM (n := i) si50 .none rfl (.tmp rfl rfl) (.tmp rfl rfl) rfl (by omega) rfl) ?_
                              refine RK.c (S.field fi71_0 .none rfl (.tmp rfl rfl) rfl) ?_
                              refine RK.c (S.load1 ti69 .none rfl (.tmp rfl rfl) rfl) ?_
                              refine RK.c (S.move .none rfl (.tmp rfl rfl)) ?_
                              refine RK.c (S.indexM (n := m) si69 .none rfl (.tmp rfl rfl) (.tmp rfl rfl) rfl (by omega) rfl) ?_
                              refine RK.c (S.loadN ti73 .none rfl (.tmp rfl rfl) rfl rfl) ?_
                              refine RK.c (S.alloc (k := 24) ze73 rfl .none rfl) ?_
                              refine RK.c (S.store ti73 .none (.tmp rfl rfl) (.tmp rfl rfl) rfl rfl rfl rfl rfl rfl) ?_
                              refine RK.nil ?_
                              refine Ab.D.code ?_
                              refine OK.seq ?_
                              refine OK.reg ?_
                              refine RK.c (S.move .none rfl (.tmp rfl rfl)) ?_
                              refine RK.c (S.bfield fi73_0 .none rfl (.tmp rfl rfl)) ?_
                              refine RK.c (S.bload1 ti9 .none rfl (.tmp rfl rfl) rfl rfl rfl rfl) ?_
                              refine RK.c (S.call (ref9_Lot (l := l)) Tryz.call42 .none rfl (.cons (.tmp rfl rfl) (.cons (.tmp rfl rfl) .nil)) rfl) ?_
                              refine RK.c (S.assign .none rfl (.tmp rfl rfl)) ?_
                              refine RK.nil ?_
                              refine Ab.D.code ?_
                              refine OK.seq ?_
                              refine OK.seq ?_
                              refine OK.reg ?_
                              refine RK.c (S.move .none rfl (.tmp rfl rfl)) ?_
                              refine RK.c (S.lss .none rfl (.tmp rfl rfl) (.cint rfl)) ?_
                              refine RK.c (S.move .none rfl (.tmp rfl rfl)) ?_
                              refine RK.splitD (t := 191) rfl (fun g191 => ?_) (fun g191 => ?_)
                              ·
                                exfalso
                                omega
                              ·
                                refine RK.c (S.bfield fi73_1 (.yes rfl rfl rfl rfl) rfl (.tmp rfl rfl)) ?_
                                refine RK.c (S.bload1 ti3 (.yes rfl rfl rfl rfl) rfl (.tmp rfl rfl) rfl rfl rfl rfl) ?_
                                refine RK.c (S.call (base_Within) Tryz.call43 (.yes rfl rfl rfl rfl) rfl (.cons (.tmp rfl rfl) (.cons (.cint rfl) (.cons (.cint rfl) .nil))) rfl) ?_
                                refine RK.c (S.notD (.yes rfl rfl rfl rfl) rfl (.tmp rfl rfl)) ?_
                                refine RK.c (S.pickF .none rfl (.tmp rfl rfl) (.tmp rfl rfl) rfl) ?_
                                refine RK.c (S.move .none rfl (.tmp rfl rfl)) ?_
                                refine RK.splitD (t := 197) rfl (fun g197 => ?_) (fun g197 => ?_)
                                ·
                                  exfalso
                                  simp at g197
                                  omega
                                ·
                                  refine RK.c (S.move (.yes rfl rfl rfl rfl) rfl (.tmp rfl rfl)) ?_
                                  refine RK.c (S.sneq (.yes rfl rfl rfl rfl) rfl (.tmp rfl rfl) (.cstr (l := []) rfl (by decide))) ?_
                                  refine RK.c (S.move (.yes rfl rfl rfl rfl) rfl (.tmp rfl rfl)) ?_
                                  refine RK.splitD (t := 200) rfl (fun g200 => ?_) (fun g200 => ?_)
                                  ·
                                    refine RK.c (S.move (.yes rfl rfl rfl rfl) rfl (.tmp rfl rfl)) ?_
                                    refine RK.c (S.move (.yes rfl rfl rfl rfl) rfl (.tmp rfl rfl)) ?_
                                    refine RK.c (S.move (.yes rfl rfl rfl rfl) rfl (.tmp rfl rfl)) ?_
                                    refine RK.c (S.indexM (n := ia) si49 (.yes rfl rfl rfl rfl) rfl (.tmp rfl rfl) (.tmp rfl rfl) hix hia rfl) ?_
                                    refine RK.c (S.field fi66_1 (.yes rfl rfl rfl rfl) rfl (.tmp rfl rfl) rfl) ?_
                                    refine RK.c (S.load1 ti9 (.yes rfl rfl rfl rfl) rfl (.tmp rfl rfl) rfl) ?_
                                    refine RK.c (S.sneq (.yes rfl rfl rfl rfl) rfl (.tmp rfl rfl) (.tmp rfl rfl)) ?_
                                    refine RK.c (S.pickT (.yes rfl rfl rfl rfl) rfl (.tmp rfl rfl) (.tmp rfl rfl) rfl) ?_
                                    refine RK.c (S.pickF .none rfl (.tmp rfl rfl) (.tmp rfl rfl) rfl) ?_
                                    refine RK.nil ?_
                                    refine Ab.D.code ?_
                                    refine OK.condD rfl rfl (fun c209 => ?_) (fun c209 => ?_)
                                    ·
                                      exfalso
                                      by_cases h0 : m = 0
                                      · rw [if_pos h0] at g200; simp at g200
                                      · rw [if_neg h0, hxh] at c209; exact absurd rfl c209
                                    ·
                                      refine OK.skip ?_
                                      refine Ab.D.code ?_
                                      refine OK.regionDraw follows (.c (S.move .none rfl (.tmp rfl rfl))
                                        (.c (S.bfield fi73_1 .none rfl (.tmp rfl rfl))
                                        (.c (S.bload1 ti3 .none rfl (.tmp rfl rfl) rfl rfl rfl rfl)
                                        (.c (S.add .none rfl (.tmp rfl rfl) (.tmp rfl rfl) (IntWalk.i64_in _ (by omega)) (IntWalk.i64_in _ (by omega)))
                                        (.c (S.move .none rfl (.tmp rfl rfl))
                                        (.c (S.move .none rfl (.tmp rfl rfl))
                                        (.c (S.indexM (n := ia) si49 .none rfl (.tmp rfl rfl) (.tmp rfl rfl) hix hia rfl)
                                        (.c (S.field fi66_1 .none rfl (.tmp rfl rfl) rfl)
                                        (.c (S.load1 ti9 .none rfl (.tmp rfl rfl) rfl)
                                        (.c (S.assign .none rfl (.tmp rfl rfl))
                                        (.c (S.assign .none rfl (.tmp rfl rfl))
                                        .nil))))))))))) (by kernel_rfl) ?_
                                      refine Ab.D.blk ?_
                                      refine Ab.D.code ?_
                                      refine OK.reg ?_
                                      refine RK.c (S.move .none rfl (.tmp rfl rfl)) ?_
                                      refine RK.c (S.add .none rfl (.tmp rfl rfl) (.cint rfl) (IntWalk.i64_in _ (by omega)) (IntWalk.i64_in _ (by omega))) ?_
                                      refine RK.c (S.assign .none rfl (.tmp rfl rfl)) ?_
                                      refine RK.nil ?_
                                      refine Ab.D.lp ⟨m + 1, (by omega), (by omega), rfl, rfl, rfl, rfl, rfl, rfl, (lkI (by rw [List.take_succ_eq_append_getElem hmb, sumP_snoc])), (congrArg (fun z => some (X.str z)) (by rw [if_neg (by omega), hxh])), rfl, trivial⟩
                                  ·
                                    refine RK.c (S.skip rfl rfl rfl rfl rfl) ?_
                                    refine RK.c (S.skip rfl rfl rfl rfl rfl) ?_
                                    refine RK.c (S.skip rfl rfl rfl rfl rfl) ?_
                                    refine RK.c (S.skip rfl rfl rfl rfl rfl) ?_
                                    refine RK.c (S.skip rfl rfl rfl rfl rfl) ?_
                                    refine RK.c (S.skip rfl rfl rfl rfl rfl) ?_
                                    refine RK.c (S.skip rfl rfl rfl rfl rfl) ?_
                                    refine RK.c (S.pickF (.yes rfl rfl rfl rfl) rfl (.tmp rfl rfl) .cbool rfl) ?_
                                    refine RK.c (S.pickF .none rfl (.tmp rfl rfl) (.tmp rfl rfl) rfl) ?_
                                    refine RK.nil ?_
                                    refine Ab.D.code ?_
                                    refine OK.condF rfl rfl rfl ?_
                                    refine OK.skip ?_
                                    refine Ab.D.code ?_
                                    refine OK.regionDraw follows (.c (S.move .none rfl (.tmp rfl rfl))
                                      (.c (S.bfield fi73_1 .none rfl (.tmp rfl rfl))
                                      (.c (S.bload1 ti3 .none rfl (.tmp rfl rfl) rfl rfl rfl rfl)
                                      (.c (S.add .none rfl (.tmp rfl rfl) (.tmp rfl rfl) (IntWalk.i64_in _ (by omega)) (IntWalk.i64_in _ (by omega)))
                                      (.c (S.move .none rfl (.tmp rfl rfl))
                                      (.c (S.move .none rfl (.tmp rfl rfl))
                                      (.c (S.indexM (n := ia) si49 .none rfl (.tmp rfl rfl) (.tmp rfl rfl) hix hia rfl)
                                      (.c (S.field fi66_1 .none rfl (.tmp rfl rfl) rfl)
                                      (.c (S.load1 ti9 .none rfl (.tmp rfl rfl) rfl)
                                      (.c (S.assign .none rfl (.tmp rfl rfl))
                                      (.c (S.assign .none rfl (.tmp rfl rfl))
                                      .nil))))))))))) (by kernel_rfl) ?_
                                    refine Ab.D.blk ?_
                                    refine Ab.D.code ?_
                                    refine OK.reg ?_
                                    refine RK.c (S.move .none rfl (.tmp rfl rfl)) ?_
                                    refine RK.c (S.add .none rfl (.tmp rfl rfl) (.cint rfl) (IntWalk.i64_in _ (by omega)) (IntWalk.i64_in _ (by omega))) ?_
                                    refine RK.c (S.assign .none rfl (.tmp rfl rfl)) ?_
                                    refine RK.nil ?_
                                    refine Ab.D.lp ⟨m + 1, (by omega), (by omega), rfl, rfl, rfl, rfl, rfl, rfl, (lkI (by rw [List.take_succ_eq_append_getElem hmb, sumP_snoc])), (congrArg (fun z => some (X.str z)) (by rw [if_neg (by omega), hxh])), rfl, trivial⟩
                            ·
                              have hme : (basketsT l cap)[i].shares.take m = (basketsT l cap)[i].shares := List.take_of_length_le (by omega)
                              rw [hme]
                              have hss := hgb.sum
                              have hsn := sumP_bd hgb.rng
                              refine OK.exit rfl ?_
                              refine Ab.D.code ?_
                              refine OK.seq ?_
                              refine OK.seq ?_
                              refine OK.reg ?_
                              refine RK.c (S.move .none rfl (.tmp rfl rfl)) ?_
                              refine RK.c (S.move .none rfl (.tmp rfl rfl)) ?_
                              refine RK.c (S.gtr .none rfl (.tmp rfl rfl) (.tmp rfl rfl)) ?_
                              refine RK.nil ?_
                              refine Ab.D.code ?_
                              refine OK.condD rfl rfl (fun c221 => ?_) (fun c221 => ?_)
                              ·
                                exfalso
                                omega
                              ·
                                refine OK.skip ?_
                                refine Ab.D.code ?_
                                refine OK.reg ?_
                                refine RK.c (S.move .none rfl (.tmp rfl rfl)) ?_
                                refine RK.c (S.move .none rfl (.tmp rfl rfl)) ?_
                                refine RK.c (S.add .none rfl (.tmp rfl rfl) (.tmp rfl rfl) (IntWalk.i64_in _ (by omega)) (IntWalk.i64_in _ (by omega))) ?_
                                refine RK.c (S.assign .none rfl (.tmp rfl rfl)) ?_
                                refine RK.nil ?_
                                refine Ab.D.blk ?_
                                refine Ab.D.code ?_
                                refine OK.reg ?_
                                refine RK.c (S.move .none rfl (.tmp rfl rfl)) ?_
                                refine RK.c (S.add .none rfl (.tmp rfl rfl) (.cint rfl) (IntWalk.i64_in _ (by omega)) (IntWalk.i64_in _ (by omega))) ?_
                                refine RK.c (S.assign .none rfl (.tmp rfl rfl)) ?_
                                refine RK.nil ?_
                                refine Ab.D.lp ⟨i + 1, (by omega), (by omega), rfl, rfl, rfl, rfl, (lkI (by rw [all_take hib, sumP_app])), rfl, trivial⟩
                          ·
                            have hte : (basketsT l cap).take i = basketsT l cap := List.take_of_length_le (by omega)
                            rw [hte, all_tot hl0]
                            refine OK.exit rfl ?_
                            refine Ab.D.code ?_
                            refine OK.seq ?_
                            refine OK.reg ?_
                            refine RK.c (S.move .none rfl (.tmp rfl rfl)) ?_
                            refine RK.c (S.move .none rfl (.tmp rfl rfl)) ?_
                            refine RK.c (S.eql .none rfl (.tmp rfl rfl) (.tmp rfl rfl)) ?_
                            refine RK.c (S.assign .none rfl (.tmp rfl rfl)) ?_
                            refine RK.nil ?_
                            refine Ab.D.code ?_
                            refine OK.ret (Ret.r1 (.tmp rfl rfl (.c (.same rfl) rfl) rfl) ?_)
                            first | rfl | exact ret_dT rfl | exact ret_dT trivial | exact ret_dT (by omega)
            ·
              refine RK.c (S.skip rfl rfl rfl rfl rfl) ?_
              refine RK.c (S.skip rfl rfl rfl rfl rfl) ?_
              refine RK.c (S.skip rfl rfl rfl rfl rfl) ?_
              refine RK.c (S.pickF .none rfl (.tmp rfl rfl) .cbool rfl) ?_
              refine RK.nil ?_
              refine Ab.D.code ?_
              refine OK.condF rfl rfl rfl ?_
              refine OK.skip ?_
              refine Ab.D.code ?_
              refine OK.seq ?_
              refine OK.seq ?_
              refine OK.reg ?_
              refine RK.c (S.move .none rfl (.tmp rfl rfl)) ?_
              refine RK.c (S.neq .none rfl (.tmp rfl rfl) (.cint rfl)) ?_
              refine RK.nil ?_
              refine Ab.D.code ?_
              refine OK.condD rfl rfl (fun c128 => ?_) (fun c128 => ?_)
              ·
                have h60 : 60 < (basketsT l cap).length := by
                  refine Nat.lt_of_not_le fun e => c128 ?_
                  unfold basketsE
                  rw [if_neg (by rw [hl0]; decide), if_neg (by omega)]
                have hbe : basketsE l cap = 16 := by unfold basketsE; rw [if_neg (by rw [hl0]; decide), if_pos h60]
                refine OK.seq ?_
                refine OK.reg ?_
                refine RK.c (S.move .none rfl (.tmp rfl rfl)) ?_
                refine RK.c (S.eql .none rfl (.tmp rfl rfl) (.cint rfl)) ?_
                refine RK.c (S.move .none rfl (.tmp rfl rfl)) ?_
                refine RK.splitD (t := 131) rfl (fun g131 => ?_) (fun g131 => ?_)
                ·
                  refine RK.c (S.move (.yes rfl rfl rfl rfl) rfl (.tmp rfl rfl)) ?_
                  refine RK.c (S.gtr (.yes rfl rfl rfl rfl) rfl (.tmp rfl rfl) (.cint rfl)) ?_
                  refine RK.c (S.pickT .none rfl (.tmp rfl rfl) (.tmp rfl rfl) rfl) ?_
                  refine RK.c (S.assign .none rfl (.tmp rfl rfl)) ?_
                  refine RK.nil ?_
                  refine Ab.D.code ?_
                  refine OK.ret (Ret.r1 (.tmp rfl rfl (.c (.same rfl) rfl) rfl) ?_)
                  first | rfl | exact ret_dT rfl | exact ret_dT trivial | exact ret_dT (by omega)
                ·
                  exact absurd hbe g131
              ·
                have hbe : basketsE l cap = 0 := Decidable.not_not.1 c128
                have h60 : (basketsT l cap).length ≤ 60 := by
                  refine Nat.le_of_not_lt fun e => ?_
                  unfold basketsE at hbe
                  rw [if_neg (by rw [hl0]; decide), if_pos e] at hbe
                  cases hbe
                have hb0 : (if basketsE l cap = 0 then basketsT l cap else []) = basketsT l cap := if_pos hbe
                rw [hb0]
                have hfo := few_own hl0 hfl h60
                have hbf := baskets_fine hl0 h60
                have hA : chkA l cap (basketsT l cap) = 0 := by unfold chkA; rw [if_neg (by rw [hl0]; decide), hbf]
                have hN : chkN l cap (basketsT l cap) = ((basketsT l cap).length : Int) := if_pos hA
                obtain ⟨_, hbo10⟩ := fewB_len hfo
                refine OK.skip ?_
                refine Ab.D.code ?_
                refine OK.seq ?_
                refine OK.seq ?_
                refine OK.reg ?_
                refine RK.c (S.move .none rfl (.tmp rfl rfl)) ?_
                refine RK.c (S.lenM si50 .none rfl (.tmp rfl rfl)) ?_
                refine RK.c (S.move .none rfl (.tmp rfl rfl)) ?_
                refine RK.c (S.neq .none rfl (.tmp rfl rfl) (.tmp rfl rfl)) ?_
                refine RK.c (S.move .none rfl (.tmp rfl rfl)) ?_
                refine RK.splitD (t := 139) rfl (fun g139 => ?_) (fun g139 => ?_)
                ·
                  exact absurd ba2 g139
                ·
                  refine RK.c (S.move (.yes rfl rfl rfl rfl) rfl (.tmp rfl rfl)) ?_
                  refine RK.c (S.call (law9_fewBaskets) Tryz.call30 (.yes rfl rfl rfl rfl) rfl (.cons (.tmp rfl rfl) .nil) rfl) ?_
                  refine RK.c (S.not (.yes rfl rfl rfl rfl) rfl (.tmp rfl rfl)) ?_
                  refine RK.c (S.pickF .none rfl (.tmp rfl rfl) (.tmp rfl rfl) rfl) ?_
                  refine RK.nil ?_
                  refine Ab.D.code ?_
                  refine OK.cond rfl rfl (fun c143 => ?_) (fun c143 => ?_)
                  ·
                    rw [hfo] at c143
                    exact absurd c143 (by decide)
                  ·
                    have hboL : ∀ b ∈ basketsT l cap, b.shares.length ≤ 100000 := fun b hb => by have := hbo10 b hb; omega
                    refine OK.skip ?_
                    refine Ab.D.code ?_
                    refine OK.seq ?_
                    refine OK.reg ?_
                    refine RK.c (S.move .none rfl (.tmp rfl rfl)) ?_
                    refine RK.c (S.call (ref9_CopyLots (by omega)) Tryz.call32 .none rfl (.cons (.tmp rfl rfl) .nil) rfl) ?_
                    refine RK.c (S.move .none rfl (.tmp rfl rfl)) ?_
                    refine RK.c (S.move .none rfl (.tmp rfl rfl)) ?_
                    refine RK.c (S.call (ref9_CopyBaskets (by omega) (by assumption)) Tryz.call34 .none rfl (.cons (.tmp rfl rfl) .nil) rfl) ?_
                    refine RK.c (S.call (shp_CheckBaskets (l := l) (bs := basketsT l cap) (by omega) (fun b hb => by have := hbo10 b hb; omega)) Tryz.call33 .none rfl (.cons (.tmp rfl rfl) (.cons (.tmp rfl rfl) (.cons (.tmp rfl rfl) .nil))) rfl) ?_
                    refine RK.c (S.move .none rfl (.tmp rfl rfl)) ?_
                    refine RK.c (S.extract .none rfl (.tmp rfl rfl) rfl rfl) ?_
                    refine RK.c (S.extract .none rfl (.tmp rfl rfl) rfl rfl) ?_
                    refine RK.c (S.assign .none rfl (.tmp rfl rfl)) ?_
                    refine RK.c (S.assign .none rfl (.tmp rfl rfl)) ?_
                    refine RK.nil ?_
                    refine Ab.D.code ?_
                    refine OK.seq ?_
                    refine OK.seq ?_
                    refine OK.reg ?_
                    refine RK.c (S.move .none rfl (.tmp rfl rfl)) ?_
                    refine RK.c (S.neq .none rfl (.tmp rfl rfl) (.cint rfl)) ?_
                    refine RK.c (S.move .none rfl (.tmp rfl rfl)) ?_
                    refine RK.splitD (t := 155) rfl (fun g155 => ?_) (fun g155 => ?_)
                    ·
                      exact absurd hA g155
                    ·
                      refine RK.c (S.move (.yes rfl rfl rfl rfl) rfl (.tmp rfl rfl)) ?_
                      refine RK.c (S.move (.yes rfl rfl rfl rfl) rfl (.tmp rfl rfl)) ?_
                      refine RK.c (S.lenM si50 (.yes rfl rfl rfl rfl) rfl (.tmp rfl rfl)) ?_
                      refine RK.c (S.neq (.yes rfl rfl rfl rfl) rfl (.tmp rfl rfl) (.tmp rfl rfl)) ?_
                      refine RK.c (S.pickF .none rfl (.tmp rfl rfl) (.tmp rfl rfl) rfl) ?_
                      refine RK.nil ?_
                      refine Ab.D.code ?_
                      refine OK.condD rfl rfl (fun c160 => ?_) (fun c160 => ?_)
                      ·
                        exact absurd hN c160
                      ·
                        refine OK.skip ?_
                        refine Ab.D.code ?_
                        refine OK.seq ?_
                        refine OK.reg ?_
                        refine RK.c (S.assign .none rfl (.cint rfl)) ?_
                        refine RK.nil ?_
                        refine Ab.D.code ?_
                        refine OK.seq ?_
                        refine OK.seq ?_
                        refine OK.reg ?_
                        refine RK.c (S.assign .none rfl (.cint rfl)) ?_
                        refine RK.nil ?_
                        refine Ab.D.code ?_
                        refine OK.block ?_
                        refine OK.loop (G := Nat) [] (fun i => [(0, .sl (l.map Lot.cs)), (1, .int .i64 cap), (7, .sl ((basketsT l cap).map Basket.cs)), (12, .int .i64 (totP l)), (19, .int .i64 (sumP (allS ((basketsT l cap).take i)))), (20, .int .i64 i)]) (fun i => i ≤ (basketsT l cap).length) (fun i => (basketsT l cap).length - i) 0 (Nat.zero_le _) ⟨rfl, rfl, rfl, rfl, rfl, rfl, trivial⟩ (fun _ => rfl) ?_
                        rintro i hi
                        refine OK.seq ?_
                        refine OK.seq ?_
                        refine OK.reg ?_
                        refine RK.c (S.move .none rfl (.tmp rfl rfl)) ?_
                        refine RK.c (S.move .none rfl (.tmp rfl rfl)) ?_
                        refine RK.c (S.lenM si50 .none rfl (.tmp rfl rfl)) ?_
                        refine RK.c (S.lss .none rfl (.tmp rfl rfl) (.tmp rfl rfl)) ?_
                        refine RK.nil ?_
                        refine Ab.D.code ?_
                        refine OK.condD rfl rfl (fun c164 => ?_) (fun c164 => ?_)
                        ·
                          have hib : i < (basketsT l cap).length := by omega
                          obtain ⟨ht, hgb⟩ := ba1 _ (List.getElem_mem hib)
                          have hhb := held_bd hl0 i
                          have hs10 := hbo10 _ (List.getElem_mem hib)
                          refine OK.skip ?_
                          refine Ab.D.code ?_
                          refine OK.seq ?_
                          refine OK.block ?_
                          refine OK.seq ?_
                          refine OK.reg ?_
                          refine RK.c (S.assign .none rfl (.cint rfl)) ?_
                          refine RK.c (S.assign .none rfl (.cstr (l := []) rfl (by decide))) ?_
                          refine RK.nil ?_
                          refine Ab.D.code ?_
                          refine OK.seq ?_
                          refine OK.seq ?_
                          refine OK.reg ?_
                          refine RK.c (S.assign .none rfl (.cint rfl)) ?_
                          refine RK.nil ?_
                          refine Ab.D.code ?_
                          refine OK.block ?_
                          refine OK.loop (G := Nat) [] (fun m => [(0, .sl (l.map Lot.cs)), (1, .int .i64 cap), (7, .sl ((basketsT l cap).map Basket.cs)), (12, .int .i64 (totP l)), (19, .int .i64 (sumP (allS ((basketsT l cap).take i)))), (20, .int .i64 i), (21, .int .i64 (sumP ((basketsT l cap)[i].shares.take m))), (22, .str (if m = 0 then [] else ht)), (23, .int .i64 m)]) (fun m => m ≤ (basketsT l cap)[i].shares.length) (fun m => (basketsT l cap)[i].shares.length - m) 0 (Nat.zero_le _) ⟨rfl, rfl, rfl, rfl, rfl, rfl, rfl, rfl, rfl, trivial⟩ (fun _ => rfl) ?_
                          rintro m hm
                          refine OK.seq ?_
                          refine OK.seq ?_
                          refine OK.reg ?_
                          refine RK.c (S.move .none rfl (.tmp rfl rfl)) ?_
                          refine RK.c (S.move .none rfl (.tmp rfl rfl)) ?_
                          refine RK.c (S.move .none rfl (.tmp rfl rfl)) ?_
                          refine RK.c (S.indexM (n := i) si50 .none rfl (.tmp rfl rfl) (.tmp rfl rfl) rfl (by omega) rfl) ?_
                          refine RK.c (S.field fi71_0 .none rfl (.tmp rfl rfl) rfl) ?_
                          refine RK.c (S.load1 ti69 .none rfl (.tmp rfl rfl) rfl) ?_
                          refine RK.c (S.lenM si69 .none rfl (.tmp rfl rfl)) ?_
                          refine RK.c (S.lss .none rfl (.tmp rfl rfl) (.tmp rfl rfl)) ?_
                          refine RK.nil ?_
                          refine Ab.D.code ?_
                          refine OK.condD rfl rfl (fun c174 => ?_) (fun c174 => ?_)
                          ·
                            have hmb : m < (basketsT l cap)[i].shares.length := by omega
                            obtain ⟨x, hxl, hxn, hxh⟩ := hgb.heat _ (List.getElem_mem hmb)
                            obtain ⟨ia, hia, hxe⟩ := List.getElem_of_mem hxl
                            subst hxe
                            have hix : lotIx l (basketsT l cap)[i].shares[m].lot = (ia : Int) := by rw [← hxn]; exact lot_ix hl0 hia
                            have hpr := hgb.rng _ (List.getElem_mem hmb)
                            have htb := take_bd hgb.rng (m := m)
                            refine OK.skip ?_
                            refine Ab.D.code ?_
                            refine OK.seq ?_
                            refine OK.block ?_
                            refine OK.seq ?_
                            refine OK.reg ?_
                            refine RK.c (S.move .none rfl (.tmp rfl rfl)) ?_
                            refine RK.c (S.move .none rfl (.tmp rfl rfl)) ?_
                            refine RK.c (S.indexM (n := i) si50 .none rfl (.tmp rfl rfl) (.tmp rfl rfl) rfl (by omega) rfl) ?_
                            refine RK.c (S.field fi71_0 .none rfl (.tmp rfl rfl) rfl) ?_
                            refine RK.c (S.load1 ti69 .none rfl (.tmp rfl rfl) rfl) ?_
                            refine RK.c (S.move .none rfl (.tmp rfl rfl)) ?_
                            refine RK.c (S.indexM (n := m) si69 .none rfl (.tmp rfl rfl) (.tmp rfl rfl) rfl (by omega) rfl) ?_
                            refine RK.c (S.loadN ti73 .none rfl (.tmp rfl rfl) rfl rfl) ?_
                            refine RK.c (S.alloc (k := 24) ze73 rfl .none rfl) ?_
                            refine RK.c (S.store ti73 .none (.tmp rfl rfl) (.tmp rfl rfl) rfl rfl rfl rfl rfl rfl) ?_
                            refine RK.nil ?_
                            refine Ab.D.code ?_
                            refine OK.seq ?_
                            refine OK.reg ?_
                            refine RK.c (S.move .none rfl (.tmp rfl rfl)) ?_
                            refine RK.c (S.bfield fi73_0 .none rfl (.tmp rfl rfl)) ?_
                            refine RK.c (S.bload1 ti9 .none rfl (.tmp rfl rfl) rfl rfl rfl rfl) ?_
                            refine RK.c (S.call (ref9_Lot (l := l)) Tryz.call42 .none rfl (.cons (.tmp rfl rfl) (.cons (.tmp rfl rfl) .nil)) rfl) ?_
                            refine RK.c (S.assign .none rfl (.tmp rfl rfl)) ?_
                            refine RK.nil ?_
                            refine Ab.D.code ?_
                            refine OK.seq ?_
                            refine OK.seq ?_
                            refine OK.reg ?_
                            refine RK.c (S.move .none rfl (.tmp rfl rfl)) ?_
                            refine RK.c (S.lss .none rfl (.tmp rfl rfl) (.cint rfl)) ?_
                            refine RK.c (S.move .none rfl (.tmp rfl rfl)) ?_
                            refine RK.splitD (t := 191) rfl (fun g191 => ?_) (fun g191 => ?_)
                            ·
                              exfalso
                              omega
                            ·
                              refine RK.c (S.bfield fi73_1 (.yes rfl rfl rfl rfl) rfl (.tmp rfl rfl)) ?_
                              refine RK.c (S.bload1 ti3 (.yes rfl rfl rfl rfl) rfl (.tmp rfl rfl) rfl rfl rfl rfl) ?_
                              refine RK.c (S.call (base_Within) Tryz.call43 (.yes rfl rfl rfl rfl) rfl (.cons (.tmp rfl rfl) (.cons (.cint rfl) (.cons (.cint rfl) .nil))) rfl) ?_
                              refine RK.c (S.notD (.yes rfl rfl rfl rfl) rfl (.tmp rfl rfl)) ?_
                              refine RK.c (S.pickF .none rfl (.tmp rfl rfl) (.tmp rfl rfl) rfl) ?_
                              refine RK.c (S.move .none rfl (.tmp rfl rfl)) ?_
                              refine RK.splitD (t := 197) rfl (fun g197 => ?_) (fun g197 => ?_)
                              ·
                                exfalso
                                simp at g197
                                omega
                              ·
                                refine RK.c (S.move (.yes rfl rfl rfl rfl) rfl (.tmp rfl rfl)) ?_
                                refine RK.c (S.sneq (.yes rfl rfl rfl rfl) rfl (.tmp rfl rfl) (.cstr (l := []) rfl (by decide))) ?_
                                refine RK.c (S.move (.yes rfl rfl rfl rfl) rfl (.tmp rfl rfl)) ?_
                                refine RK.splitD (t := 200) rfl (fun g200 => ?_) (fun g200 => ?_)
                                ·
                                  refine RK.c (S.move (.yes rfl rfl rfl rfl) rfl (.tmp rfl rfl)) ?_
                                  refine RK.c (S.move (.yes rfl rfl rfl rfl) rfl (.tmp rfl rfl)) ?_
                                  refine RK.c (S.move (.yes rfl rfl rfl rfl) rfl (.tmp rfl rfl)) ?_
                                  refine RK.c (S.indexM (n := ia) si49 (.yes rfl rfl rfl rfl) rfl (.tmp rfl rfl) (.tmp rfl rfl) hix hia rfl) ?_
                                  refine RK.c (S.field fi66_1 (.yes rfl rfl rfl rfl) rfl (.tmp rfl rfl) rfl) ?_
                                  refine RK.c (S.load1 ti9 (.yes rfl rfl rfl rfl) rfl (.tmp rfl rfl) rfl) ?_
                                  refine RK.c (S.sneq (.yes rfl rfl rfl rfl) rfl (.tmp rfl rfl) (.tmp rfl rfl)) ?_
                                  refine RK.c (S.pickT (.yes rfl rfl rfl rfl) rfl (.tmp rfl rfl) (.tmp rfl rfl) rfl) ?_
                                  refine RK.c (S.pickF .none rfl (.tmp rfl rfl) (.tmp rfl rfl) rfl) ?_
                                  refine RK.nil ?_
                                  refine Ab.D.code ?_
                                  refine OK.condD rfl rfl (fun c209 => ?_) (fun c209 => ?_)
                                  ·
                                    exfalso
                                    by_cases h0 : m = 0
                                    · rw [if_pos h0] at g200; simp at g200
                                    · rw [if_neg h0, hxh] at c209; exact absurd rfl c209
                                  ·
                                    refine OK.skip ?_
                                    refine Ab.D.code ?_
                                    refine OK.regionDraw follows (.c (S.move .none rfl (.tmp rfl rfl))
                                      (.c (S.bfield fi73_1 .none rfl (.tmp rfl rfl))
                                      (.c (S.bload1 ti3 .none rfl (.tmp rfl rfl) rfl rfl rfl rfl)
                                      (.c (S.add .none rfl (.tmp rfl rfl) (.tmp rfl rfl) (IntWalk.i64_in _ (by omega)) (IntWalk.i64_in _ (by omega)))
                                      (.c (S.move .none rfl (.tmp rfl rfl))
                                      (.c (S.move .none rfl (.tmp rfl rfl))
                                      (.c (S.indexM (n := ia) si49 .none rfl (.tmp rfl rfl) (.tmp rfl rfl) hix hia rfl)
                                      (.c (S.field fi66_1 .none rfl (.tmp rfl rfl) rfl)
                                      (.c (S.load1 ti9 .none rfl (.tmp rfl rfl) rfl)
                                      (.c (S.assign .none rfl (.tmp rfl rfl))
                                      (.c (S.assign .none rfl (.tmp rfl rfl))
                                      .nil))))))))))) (by kernel_rfl) ?_
                                    refine Ab.D.blk ?_
                                    refine Ab.D.code ?_
                                    refine OK.reg ?_
                                    refine RK.c (S.move .none rfl (.tmp rfl rfl)) ?_
                                    refine RK.c (S.add .none rfl (.tmp rfl rfl) (.cint rfl) (IntWalk.i64_in _ (by omega)) (IntWalk.i64_in _ (by omega))) ?_
                                    refine RK.c (S.assign .none rfl (.tmp rfl rfl)) ?_
                                    refine RK.nil ?_
                                    refine Ab.D.lp ⟨m + 1, (by omega), (by omega), rfl, rfl, rfl, rfl, rfl, rfl, (lkI (by rw [List.take_succ_eq_append_getElem hmb, sumP_snoc])), (congrArg (fun z => some (X.str z)) (by rw [if_neg (by omega), hxh])), rfl, trivial⟩
                                ·
                                  refine RK.c (S.skip rfl rfl rfl rfl rfl) ?_
                                  refine RK.c (S.skip rfl rfl rfl rfl rfl) ?_
                                  refine RK.c (S.skip rfl rfl rfl rfl rfl) ?_
                                  refine RK.c (S.skip rfl rfl rfl rfl rfl) ?_
                                  refine RK.c (S.skip rfl rfl rfl rfl rfl) ?_
                                  refine RK.c (S.skip rfl rfl rfl rfl rfl) ?_
                                  refine RK.c (S.skip rfl rfl rfl rfl rfl) ?_
                                  refine RK.c (S.pickF (.yes rfl rfl rfl rfl) rfl (.tmp rfl rfl) .cbool rfl) ?_
                                  refine RK.c (S.pickF .none rfl (.tmp rfl rfl) (.tmp rfl rfl) rfl) ?_
                                  refine RK.nil ?_
                                  refine Ab.D.code ?_
                                  refine OK.condF rfl rfl rfl ?_
                                  refine OK.skip ?_
                                  refine Ab.D.code ?_
                                  refine OK.regionDraw follows (.c (S.move .none rfl (.tmp rfl rfl))
                                    (.c (S.bfield fi73_1 .none rfl (.tmp rfl rfl))
                                    (.c (S.bload1 ti3 .none rfl (.tmp rfl rfl) rfl rfl rfl rfl)
                                    (.c (S.add .none rfl (.tmp rfl rfl) (.tmp rfl rfl) (IntWalk.i64_in _ (by omega)) (IntWalk.i64_in _ (by omega)))
                                    (.c (S.move .none rfl (.tmp rfl rfl))
                                    (.c (S.move .none rfl (.tmp rfl rfl))
                                    (.c (S.indexM (n := ia) si49 .none rfl (.tmp rfl rfl) (.tmp rfl rfl) hix hia rfl)
                                    (.c (S.field fi66_1 .none rfl (.tmp rfl rfl) rfl)
                                    (.c (S.load1 ti9 .none rfl (.tmp rfl rfl) rfl)
                                    (.c (S.assign .none rfl (.tmp rfl rfl))
                                    (.c (S.assign .none rfl (.tmp rfl rfl))
                                    .nil))))))))))) (by kernel_rfl) ?_
                                  refine Ab.D.blk ?_
                                  refine Ab.D.code ?_
                                  refine OK.reg ?_
                                  refine RK.c (S.move .none rfl (.tmp rfl rfl)) ?_
                                  refine RK.c (S.add .none rfl (.tmp rfl rfl) (.cint rfl) (IntWalk.i64_in _ (by omega)) (IntWalk.i64_in _ (by omega))) ?_
                                  refine RK.c (S.assign .none rfl (.tmp rfl rfl)) ?_
                                  refine RK.nil ?_
                                  refine Ab.D.lp ⟨m + 1, (by omega), (by omega), rfl, rfl, rfl, rfl, rfl, rfl, (lkI (by rw [List.take_succ_eq_append_getElem hmb, sumP_snoc])), (congrArg (fun z => some (X.str z)) (by rw [if_neg (by omega), hxh])), rfl, trivial⟩
                          ·
                            have hme : (basketsT l cap)[i].shares.take m = (basketsT l cap)[i].shares := List.take_of_length_le (by omega)
                            rw [hme]
                            have hss := hgb.sum
                            have hsn := sumP_bd hgb.rng
                            refine OK.exit rfl ?_
                            refine Ab.D.code ?_
                            refine OK.seq ?_
                            refine OK.seq ?_
                            refine OK.reg ?_
                            refine RK.c (S.move .none rfl (.tmp rfl rfl)) ?_
                            refine RK.c (S.move .none rfl (.tmp rfl rfl)) ?_
                            refine RK.c (S.gtr .none rfl (.tmp rfl rfl) (.tmp rfl rfl)) ?_
                            refine RK.nil ?_
                            refine Ab.D.code ?_
                            refine OK.condD rfl rfl (fun c221 => ?_) (fun c221 => ?_)
                            ·
                              exfalso
                              omega
                            ·
                              refine OK.skip ?_
                              refine Ab.D.code ?_
                              refine OK.reg ?_
                              refine RK.c (S.move .none rfl (.tmp rfl rfl)) ?_
                              refine RK.c (S.move .none rfl (.tmp rfl rfl)) ?_
                              refine RK.c (S.add .none rfl (.tmp rfl rfl) (.tmp rfl rfl) (IntWalk.i64_in _ (by omega)) (IntWalk.i64_in _ (by omega))) ?_
                              refine RK.c (S.assign .none rfl (.tmp rfl rfl)) ?_
                              refine RK.nil ?_
                              refine Ab.D.blk ?_
                              refine Ab.D.code ?_
                              refine OK.reg ?_
                              refine RK.c (S.move .none rfl (.tmp rfl rfl)) ?_
                              refine RK.c (S.add .none rfl (.tmp rfl rfl) (.cint rfl) (IntWalk.i64_in _ (by omega)) (IntWalk.i64_in _ (by omega))) ?_
                              refine RK.c (S.assign .none rfl (.tmp rfl rfl)) ?_
                              refine RK.nil ?_
                              refine Ab.D.lp ⟨i + 1, (by omega), (by omega), rfl, rfl, rfl, rfl, (lkI (by rw [all_take hib, sumP_app])), rfl, trivial⟩
                        ·
                          have hte : (basketsT l cap).take i = basketsT l cap := List.take_of_length_le (by omega)
                          rw [hte, all_tot hl0]
                          refine OK.exit rfl ?_
                          refine Ab.D.code ?_
                          refine OK.seq ?_
                          refine OK.reg ?_
                          refine RK.c (S.move .none rfl (.tmp rfl rfl)) ?_
                          refine RK.c (S.move .none rfl (.tmp rfl rfl)) ?_
                          refine RK.c (S.eql .none rfl (.tmp rfl rfl) (.tmp rfl rfl)) ?_
                          refine RK.c (S.assign .none rfl (.tmp rfl rfl)) ?_
                          refine RK.nil ?_
                          refine Ab.D.code ?_
                          refine OK.ret (Ret.r1 (.tmp rfl rfl (.c (.same rfl) rfl) rfl) ?_)
                          first | rfl | exact ret_dT rfl | exact ret_dT trivial | exact ret_dT (by omega)
end Go.Proofs.YtpfepjgnojfppaaGreatDoor
