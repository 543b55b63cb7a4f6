import Derived.Test.YtpfepjgnojfppaaGreatDoorGh
import Derived.Test.YtpfepjgnojfppaaGreatDoorKs
import Derived.Test.YtpfepjgnojfppaaGreatDoorTy
namespace Go.Proofs.YtpfepjgnojfppaaGreatDoor
open Go.Ab
def wSum (p : List UInt8 → Bool) : List Share → Int
  | [] => 0
  | s :: r => (if p s.lot = true then s.parts else 0) + wSum p r
theorem wSum_app (p : List UInt8 → Bool) : ∀ a b : List Share, wSum p (a ++ b) = wSum p a + wSum p b
  | [], b => by simp [wSum]
  | s :: a, b => by
    have := wSum_app p a b
    rw [List.cons_append]
    simp only [wSum]
    omega
theorem wSum_name (n : List UInt8) : ∀ S : List Share, wSum (fun m => decide (m = n)) S = nameSum n S
  | [] => rfl
  | s :: S => by
    have := wSum_name n S
    simp only [wSum, nameSum, decide_eq_true_eq]
    omega
theorem wSum_all : ∀ S : List Share, wSum (fun _ => true) S = sumP S
  | [] => rfl
  | s :: S => by
    have := wSum_all S
    simp only [wSum, sumP, if_true]
    omega
def lotW (p : List UInt8 → Bool) : List Lot → Int
  | [] => 0
  | x :: r => (if p x.name = true then x.parts else 0) + lotW p r
def totP : List Lot → Int
  | [] => 0
  | x :: r => x.parts + totP r
theorem lotW_all : ∀ l : List Lot, lotW (fun _ => true) l = totP l
  | [] => rfl
  | x :: l => by
    have := lotW_all l
    simp only [lotW, totP, if_true]
    omega
abbrev Q := List Basket × Option (List Share) × Int
def allO (q : Q) : List Share := allS q.1 ++ q.2.1.getD []
theorem allO_fill (cl : List Basket) (sh : List Share) (r : Int) : allO (fillN cl sh r) = allS cl ++ sh := by
  unfold fillN allO
  split
  · simp [allS_snoc]
  · simp
structure GoodB (l : List Lot) (cap : Int) (sh : List Share) (h : List UInt8) : Prop where
  ne : sh ≠ []
  sum : sumP sh ≤ cap
  rng : ∀ s ∈ sh, 1 ≤ s.parts ∧ s.parts ≤ 1000
  dis : sh.Pairwise fun a b => a.lot ≠ b.lot
  heat : ∀ s ∈ sh, ∃ x ∈ l, x.name = s.lot ∧ x.heat = h
structure Fill (l : List Lot) (cap : Int) (h : List UInt8) (B : Nat) (T : Int) (q : Q) : Prop where
  room : 0 ≤ q.2.2 ∧ q.2.2 < cap
  opn : q.2.2 = 0 ↔ q.2.1 = none
  cnt : (outN q.1 q.2.1 : Int) * cap = (B : Int) * cap + T + q.2.2
  cl : ∀ b ∈ q.1, ∃ h, GoodB l cap b.shares h
  op : ∀ sh, q.2.1 = some sh → GoodB l cap sh h ∧ sumP sh = cap - q.2.2
theorem fill_one {l : List Lot} {cap : Int} {h : List UInt8} {B : Nat} {T left : Int} {q : Q} (hc : 1 ≤ cap ∧ cap ≤ 1000) (hq : Fill l cap h B T q) (hl : 0 < left) {x : Lot} (hx : x ∈ l) (hh : x.heat = h) (hn : ∀ s ∈ q.2.1.getD [], s.lot ≠ x.name) {m : Int} (hm : m = minO left (roomT cap q.2.2)) :
    Fill l cap h B (T + m) (fillN q.1 (q.2.1.getD [] ++ [⟨x.name, m⟩]) (roomT cap q.2.2 - m)) ∧ (0 < left - m → (fillN q.1 (q.2.1.getD [] ++ [⟨x.name, m⟩]) (roomT cap q.2.2 - m)).2.1 = none) := by
  obtain ⟨h1, h2, h3, h4, h5⟩ := hq
  obtain ⟨m1, m2, m3⟩ := room_min (cap := cap) (by omega) h1.1 hl
  rw [← hm] at m1 m2 m3
  have hr : 1 ≤ roomT cap q.2.2 ∧ roomT cap q.2.2 ≤ cap := by unfold roomT; split <;> omega
  have hg : GoodB l cap (q.2.1.getD [] ++ [⟨x.name, m⟩]) h ∧ sumP (q.2.1.getD [] ++ [⟨x.name, m⟩]) = cap - (roomT cap q.2.2 - m) ∧ ((q.1.length + 1 : Nat) : Int) * cap = (B : Int) * cap + (T + m) + (roomT cap q.2.2 - m) := by
    cases ho : q.2.1 with
    | none =>
      have hz := h2.2 ho
      have hrc : roomT cap q.2.2 = cap := if_pos hz
      rw [hrc]
      simp only [Option.getD_none, List.nil_append]
      refine ⟨⟨by simp, by simp [sumP]; omega, fun s hs => ?_, List.pairwise_singleton _ _, fun s hs => ?_⟩, by simp [sumP]; omega, ?_⟩
      · rw [List.mem_singleton] at hs; subst hs; exact ⟨m1, by show m ≤ 1000; omega⟩
      · rw [List.mem_singleton] at hs; subst hs; exact ⟨x, hx, rfl, hh⟩
      · rw [ho] at h3
        simp only [outN, optB, List.length_nil, Nat.add_zero] at h3
        rw [Int.natCast_add, Int.add_mul]
        simp only [Int.natCast_one, Int.one_mul]
        omega
    | some sh =>
      obtain ⟨g1, g2⟩ := h5 sh ho
      have hz : q.2.2 ≠ 0 := fun e => by rw [h2.1 e] at ho; cases ho
      have hrc : roomT cap q.2.2 = q.2.2 := if_neg hz
      rw [hrc] at m2 ⊢
      rw [ho] at hn
      simp only [Option.getD_some] at hn ⊢
      refine ⟨⟨by simp, by rw [sumP_snoc, g2]; show cap - q.2.2 + m ≤ cap; omega, fun s hs => ?_, ?_, fun s hs => ?_⟩, by rw [sumP_snoc, g2]; show cap - q.2.2 + m = _; omega, ?_⟩
      · rcases List.mem_append.1 hs with hs | hs
        · exact g1.rng s hs
        · rw [List.mem_singleton] at hs; subst hs; exact ⟨m1, by show m ≤ 1000; omega⟩
      · rw [List.pairwise_append]
        refine ⟨g1.dis, List.pairwise_singleton _ _, fun a ha b hb => ?_⟩
        rw [List.mem_singleton] at hb
        subst hb
        exact hn a ha
      · rcases List.mem_append.1 hs with hs | hs
        · exact g1.heat s hs
        · rw [List.mem_singleton] at hs; subst hs; exact ⟨x, hx, rfl, hh⟩
      · rw [ho] at h3
        simp only [outN, optB, List.length_singleton] at h3
        omega
  obtain ⟨g1, g2, g3⟩ := hg
  unfold fillN
  by_cases hz : roomT cap q.2.2 - m = 0
  · rw [if_pos hz]
    refine ⟨⟨by show 0 ≤ (0 : Int) ∧ (0 : Int) < cap; omega, ⟨fun _ => rfl, fun _ => rfl⟩, ?_, fun b hb => ?_, fun sh hs => by cases hs⟩, fun _ => rfl⟩
    · simp only [outN, optB, List.length_append, List.length_singleton, List.length_nil, Nat.add_zero]
      omega
    · rcases List.mem_append.1 hb with hb | hb
      · exact h4 b hb
      · rw [List.mem_singleton] at hb; subst hb; exact ⟨h, g1⟩
  · rw [if_neg hz]
    refine ⟨⟨by show 0 ≤ roomT cap q.2.2 - m ∧ roomT cap q.2.2 - m < cap; omega, ⟨fun e => absurd e hz, fun e => by cases e⟩, ?_, h4, fun sh hs => ?_⟩, fun hlm => ?_⟩
    · simp only [outN, optB, List.length_singleton]
      omega
    · cases hs
      exact ⟨g1, g2⟩
    · exfalso
      unfold minO at hm
      split at hm <;> omega
theorem fillGo_fill {l : List Lot} {cap : Int} {h : List UInt8} (hc : 1 ≤ cap ∧ cap ≤ 1000) {x : Lot} (hx : x ∈ l) (hh : x.heat = h) {B : Nat} : ∀ (f : Nat) (left T : Int) (q : Q), Fill l cap h B T q → 0 ≤ left → left ≤ (f : Int) → (0 < left → ∀ s ∈ q.2.1.getD [], s.lot ≠ x.name) →
    Fill l cap h B (T + left) (fillGo cap x.name f left q) ∧ (∀ p : List UInt8 → Bool, wSum p (allO (fillGo cap x.name f left q)) = wSum p (allO q) + if p x.name = true then left else 0) ∧ (∀ s ∈ (fillGo cap x.name f left q).2.1.getD [], s.lot = x.name ∨ s ∈ q.2.1.getD [])
  | 0, left, T, q, hq, h0, hf, hn => by
    have : left = 0 := by omega
    subst this
    refine ⟨?_, fun p => ?_, fun s hs => .inr hs⟩
    · rw [Int.add_zero]; exact hq
    · show wSum p (allO q) = _; split <;> omega
  | f + 1, left, T, q, hq, h0, hf, hn => by
    rw [fillGo]
    by_cases hl : left ≤ 0
    · rw [if_pos hl]
      have : left = 0 := by omega
      subst this
      refine ⟨by rw [Int.add_zero]; exact hq, fun p => by split <;> omega, fun s hs => .inr hs⟩
    · rw [if_neg hl]
      obtain ⟨m, hm⟩ : ∃ m, m = minO left (roomT cap q.2.2) := ⟨_, rfl⟩
      rw [← hm]
      obtain ⟨m1, m2, m3⟩ := room_min (cap := cap) (by omega) hq.room.1 (show 0 < left by omega)
      rw [← hm] at m1 m2 m3
      obtain ⟨g1, g2⟩ := fill_one hc hq (by omega) hx hh (hn (by omega)) hm
      obtain ⟨k1, k2, k3⟩ := fillGo_fill hc hx hh f (left - m) (T + m) _ g1 (by omega) (by omega) (fun q1 s hs => by rw [g2 q1] at hs; cases hs)
      refine ⟨by rw [show T + left = T + m + (left - m) by omega]; exact k1, fun p => ?_, fun s hs => ?_⟩
      · rw [k2 p, allO_fill]
        have e1 : wSum p (allS q.1 ++ (q.2.1.getD [] ++ [⟨x.name, m⟩])) = wSum p (allO q) + if p x.name = true then m else 0 := by
          unfold allO
          rw [← List.append_assoc, wSum_app]
          simp [wSum]
        rw [e1]
        split <;> omega
      · rcases k3 s hs with h | h
        · exact .inl h
        · unfold fillN at h
          split at h
          · cases h
          · rcases List.mem_append.1 h with h | h
            · exact .inr h
            · rw [List.mem_singleton] at h; subst h; exact .inl rfl
theorem lots_fill {l : List Lot} {cap : Int} {h : List UInt8} (hc : 1 ≤ cap ∧ cap ≤ 1000) {B : Nat} : ∀ (own : List Lot) (T : Int) (q : Q), Fill l cap h B T q → (∀ x ∈ own, x ∈ l ∧ x.heat = h ∧ 1 ≤ x.parts) → own.Pairwise (fun a b => a.name ≠ b.name) → (∀ s ∈ q.2.1.getD [], ∀ x ∈ own, s.lot ≠ x.name) →
    Fill l cap h B (T + totP own) (own.foldl (lotT cap) q) ∧ ∀ p : List UInt8 → Bool, wSum p (allO (own.foldl (lotT cap) q)) = wSum p (allO q) + lotW p own
  | [], T, q, hq, _, _, _ => ⟨by rw [totP, Int.add_zero]; exact hq, fun p => by simp [lotW]⟩
  | x :: own, T, q, hq, ho, hp, hn => by
    rw [List.pairwise_cons] at hp
    have hx := ho x List.mem_cons_self
    obtain ⟨g1, g2, g3⟩ := fillGo_fill hc hx.1 hx.2.1 x.parts.toNat x.parts T q hq (by omega) (by omega) (fun _ s hs => hn s hs x List.mem_cons_self)
    obtain ⟨k1, k2⟩ := lots_fill hc own (T + x.parts) (lotT cap q x) g1 (fun y hy => ho y (List.mem_cons_of_mem _ hy)) hp.2 (fun s hs y hy => by
      rcases g3 s hs with h | h
      · rw [h]; exact hp.1 y hy
      · exact hn s h y (List.mem_cons_of_mem _ hy))
    rw [List.foldl_cons]
    refine ⟨by rw [totP, ← Int.add_assoc]; exact k1, fun p => ?_⟩
    rw [k2 p]
    have := g2 p
    show wSum p (allO (lotT cap q x)) + lotW p own = wSum p (allO q) + ((if p x.name = true then x.parts else 0) + lotW p own)
    unfold lotT
    rw [this]
    omega
def ceilB (a cap : Int) : Int := -((-a) / cap)
theorem ceil_of {n cap a r : Int} (hc : 1 ≤ cap) (h : n * cap = a + r) (hr : 0 ≤ r ∧ r < cap) : ceilB a cap = n := by
  unfold ceilB
  have h1 : -a = r + (-n) * cap := by rw [Int.neg_mul]; omega
  rw [h1, Int.add_mul_ediv_right _ _ (by omega), Int.ediv_eq_zero_of_lt hr.1 hr.2]
  omega
theorem ceil_le {n cap a : Int} (hc : 1 ≤ cap) (h : a ≤ n * cap) : ceilB a cap ≤ n := by
  unfold ceilB
  have h1 : -n ≤ (-a) / cap := by
    refine (Int.le_ediv_iff_mul_le (by omega)).2 ?_
    rw [Int.neg_mul]; omega
  omega
theorem round_fill {l : List Lot} {cap : Int} {h : List UInt8} (hc : 1 ≤ cap ∧ cap ≤ 1000) {out : List Basket} {own : List Lot} (hout : ∀ b ∈ out, ∃ h, GoodB l cap b.shares h) (ho : ∀ x ∈ own, x ∈ l ∧ x.heat = h ∧ 1 ≤ x.parts) (hp : own.Pairwise (fun a b => a.name ≠ b.name)) :
    (∀ b ∈ roundT cap out own, ∃ h, GoodB l cap b.shares h) ∧ ((roundT cap out own).length : Int) = out.length + ceilB (totP own) cap ∧ ∀ p : List UInt8 → Bool, wSum p (allS (roundT cap out own)) = wSum p (allS out) + lotW p own := by
  have hq0 : Fill l cap h out.length 0 (out, none, 0) := ⟨by show 0 ≤ (0 : Int) ∧ (0 : Int) < cap; omega, ⟨fun _ => rfl, fun _ => rfl⟩, by simp [outN, optB], hout, fun sh hs => by cases hs⟩
  obtain ⟨g1, g2⟩ := lots_fill hc own 0 _ hq0 ho hp (fun s hs => by cases hs)
  rw [Int.zero_add] at g1
  unfold roundT
  obtain ⟨q, hq⟩ : ∃ q, q = own.foldl (lotT cap) (out, none, 0) := ⟨_, rfl⟩
  rw [← hq] at g1 g2 ⊢
  refine ⟨fun b hb => ?_, ?_, fun p => ?_⟩
  · rcases List.mem_append.1 hb with hb | hb
    · exact g1.cl b hb
    · cases hop : q.2.1 with
      | none => rw [hop] at hb; cases hb
      | some sh =>
        rw [hop] at hb
        simp only [optB, List.mem_singleton] at hb
        subst hb
        exact ⟨h, (g1.op sh hop).1⟩
  · have h1 := g1.cnt
    have h2 : (((q.1 ++ optB q.2.1).length : Nat) : Int) = (outN q.1 q.2.1 : Int) := by rw [List.length_append]; rfl
    rw [h2]
    have h3 := ceil_of (n := (outN q.1 q.2.1 : Int) - out.length) (cap := cap) (a := totP own) (r := q.2.2) (by omega) (by rw [Int.sub_mul]; omega) g1.room
    omega
  · have e : allS (q.1 ++ optB q.2.1) = allO q := by
      unfold allO
      rw [allS_app]
      cases q.2.1 <;> simp [optB, allS]
    rw [e, g2 p]
    congr 1
    simp [allO]
def lotF (p : List UInt8 → Bool) (d : List (List UInt8)) : List Lot → Int
  | [] => 0
  | x :: r => (if x.heat ∈ d then 0 else if p x.name = true then x.parts else 0) + lotF p d r
theorem lotF_split (p : List UInt8 → Bool) (d : List (List UInt8)) (h : List UInt8) (hd : h ∉ d) : ∀ r : List Lot, lotF p d r = lotW p (r.filter fun y => !decide (y.heat ≠ h)) + lotF p (d ++ [h]) r
  | [] => rfl
  | x :: r => by
    have ih := lotF_split p d h hd r
    simp only [lotF]
    rw [ih]
    by_cases e : x.heat = h
    · have h1 : (x :: r).filter (fun y => !decide (y.heat ≠ h)) = x :: r.filter fun y => !decide (y.heat ≠ h) := by rw [List.filter_cons]; simp [e]
      rw [h1]
      simp only [lotW]
      rw [if_neg (show ¬ x.heat ∈ d by rw [e]; exact hd), if_pos (show x.heat ∈ d ++ [h] by rw [e]; simp)]
      omega
    · have h1 : (x :: r).filter (fun y => !decide (y.heat ≠ h)) = r.filter fun y => !decide (y.heat ≠ h) := by rw [List.filter_cons]; simp [e]
      rw [h1]
      by_cases e2 : x.heat ∈ d
      · rw [if_pos e2, if_pos (show x.heat ∈ d ++ [h] by simp [e2])]; omega
      · rw [if_neg e2, if_neg (show ¬ x.heat ∈ d ++ [h] by simp [e2, e])]; omega
def needT (cap : Int) : List (List Lot) → Int
  | [] => 0
  | own :: L => ceilB (totP own) cap + needT cap L
theorem rounds_fill {l : List Lot} {cap : Int} (hc : 1 ≤ cap ∧ cap ≤ 1000) : ∀ (r : List Lot) (d : List (List UInt8)) (out : List Basket), (∀ b ∈ out, ∃ h, GoodB l cap b.shares h) → (∀ x ∈ r, x ∈ l ∧ 1 ≤ x.parts) → r.Pairwise (fun a b => a.name ≠ b.name) →
    (∀ b ∈ (heatGo d r).foldl (roundT cap) out, ∃ h, GoodB l cap b.shares h) ∧ (((heatGo d r).foldl (roundT cap) out).length : Int) = out.length + needT cap (heatGo d r) ∧ ∀ p : List UInt8 → Bool, wSum p (allS ((heatGo d r).foldl (roundT cap) out)) = wSum p (allS out) + lotF p d r
  | [], d, out, h, _, _ => ⟨h, by simp [heatGo, needT], fun p => by simp [heatGo, lotF]⟩
  | x :: r, d, out, h, hr, hp => by
    rw [heatGo]
    by_cases hd : x.heat ∈ d
    · rw [if_pos hd]
      obtain ⟨k1, k2, k3⟩ := rounds_fill hc r d out h (fun y hy => hr y (List.mem_cons_of_mem _ hy)) (List.pairwise_cons.1 hp).2
      refine ⟨k1, k2, fun p => ?_⟩
      rw [k3 p]
      simp only [lotF]
      rw [if_pos hd]
      omega
    · rw [if_neg hd]
      obtain ⟨own, hown⟩ : ∃ own, own = (x :: r).filter fun y => !decide (y.heat ≠ x.heat) := ⟨_, rfl⟩
      rw [← hown]
      have ho : ∀ y ∈ own, y ∈ l ∧ y.heat = x.heat ∧ 1 ≤ y.parts := fun y hy => by
        rw [hown] at hy
        obtain ⟨h1, h2⟩ := List.mem_filter.1 hy
        exact ⟨(hr y h1).1, by simpa using h2, (hr y h1).2⟩
      have hpo : own.Pairwise (fun a b => a.name ≠ b.name) := by rw [hown]; exact hp.filter _
      obtain ⟨g1, g2, g3⟩ := round_fill hc h ho hpo
      obtain ⟨k1, k2, k3⟩ := rounds_fill hc r (d ++ [x.heat]) (roundT cap out own) g1 (fun y hy => hr y (List.mem_cons_of_mem _ hy)) (List.pairwise_cons.1 hp).2
      rw [List.foldl_cons]
      refine ⟨k1, by rw [k2, g2, needT]; omega, fun p => ?_⟩
      rw [k3 p, g3 p, lotF_split p d x.heat hd (x :: r), ← hown]
      have : lotF p (d ++ [x.heat]) (x :: r) = lotF p (d ++ [x.heat]) r := by
        simp only [lotF]
        rw [if_pos (by simp)]
        omega
      rw [this]
      omega
theorem lotF_nil (p : List UInt8 → Bool) : ∀ r : List Lot, lotF p [] r = lotW p r
  | [] => rfl
  | x :: r => by
    have := lotF_nil p r
    simp only [lotF, lotW]
    rw [if_neg (by simp)]
    omega
theorem names_pw {l : List Lot} {cap : Int} (h : lotsE l cap = 0) : l.Pairwise (fun a b => a.name ≠ b.name) := by
  rw [List.pairwise_iff_getElem]
  exact lots_names h
theorem baskets_are {l : List Lot} {cap : Int} (h : lotsE l cap = 0) : (∀ b ∈ basketsT l cap, ∃ h, GoodB l cap b.shares h) ∧ ((basketsT l cap).length : Int) = needT cap (heatsT l) ∧ ∀ p : List UInt8 → Bool, wSum p (allS (basketsT l cap)) = lotW p l := by
  have hok := lots_ok h
  obtain ⟨k1, k2, k3⟩ := rounds_fill (l := l) hok.cap l [] [] (fun b hb => by cases hb) (fun x hx => ⟨hx, (hok.parts x hx).1⟩) (names_pw h)
  refine ⟨k1, by rw [show basketsT l cap = (heatGo [] l).foldl (roundT cap) [] from rfl, k2]; simp [heatsT], fun p => ?_⟩
  rw [show basketsT l cap = (heatGo [] l).foldl (roundT cap) [] from rfl, k3 p, lotF_nil]
  simp [allS, wSum]
theorem lotW_name : ∀ {l : List Lot}, l.Pairwise (fun a b => a.name ≠ b.name) → ∀ {i : Nat} (hi : i < l.length), lotW (fun m => decide (m = l[i].name)) l = l[i].parts
  | x :: l, hp, i, hi => by
    rw [List.pairwise_cons] at hp
    have zero : ∀ (n : List UInt8) (r : List Lot), (∀ y ∈ r, y.name ≠ n) → lotW (fun m => decide (m = n)) r = 0 := by
      intro n r
      induction r with
      | nil => intro _; rfl
      | cons y r ih =>
        intro h
        simp only [lotW]
        rw [if_neg (by simpa using h y List.mem_cons_self), ih fun z hz => h z (List.mem_cons_of_mem _ hz)]
        rfl
    cases i with
    | zero =>
      simp only [List.getElem_cons_zero, lotW]
      rw [if_pos (by simp), zero x.name l (fun y hy => Ne.symm (hp.1 y hy))]
      omega
    | succ i =>
      simp only [List.getElem_cons_succ, lotW]
      have hi2 : i < l.length := by simpa using hi
      rw [if_neg (by simpa using hp.1 l[i] (List.getElem_mem hi2)), lotW_name hp.2 hi2]
      omega
theorem lot_of_mem {l : List Lot} {cap : Int} (h : lotsE l cap = 0) {x : Lot} (hx : x ∈ l) : 0 ≤ lotIx l x.name ∧ heatOf l x.name = x.heat := by
  obtain ⟨i, hi, rfl⟩ := List.getElem_of_mem hx
  exact ⟨by rw [lot_ix h hi]; omega, heat_of h hi⟩
theorem each_0 {α : Type} {g : Nat → α → Int} : ∀ {l : List α} {k : Nat}, (∀ (i : Nat) (h : i < l.length), g (k + i) l[i] = 0) → eachGo g k l = (0, 0)
  | [], _, _ => rfl
  | x :: l, k, h => by
    have h0 := h 0 (by simp)
    simp only [Nat.add_zero, List.getElem_cons_zero] at h0
    rw [eachGo, if_neg (by rw [h0]; decide)]
    exact each_0 fun i hi => by
      have := h (i + 1) (by simpa using hi)
      rw [show k + (i + 1) = k + 1 + i by omega] at this
      simpa using this
theorem good_basket {l : List Lot} {cap : Int} (h : lotsE l cap = 0) {b : Basket} {ht : List UInt8} (hb : GoodB l cap b.shares ht) : basketE l cap b = 0 := by
  have hl : 0 < b.shares.length := List.length_pos_iff.2 hb.ne
  have hheat : ∀ s ∈ b.shares, 0 ≤ lotIx l s.lot ∧ heatOf l s.lot = ht := fun s hs => by
    obtain ⟨x, hx, hn, hh⟩ := hb.heat s hs
    have := lot_of_mem h hx
    rw [hn, hh] at this
    exact this
  have he : eachGo (shareE l b.shares) 0 b.shares = (0, 0) := by
    refine each_0 fun i hi => ?_
    obtain ⟨q1, q2⟩ := hheat _ (List.getElem_mem hi)
    obtain ⟨_, q3⟩ := hheat _ (List.getElem_mem hl)
    unfold shareE
    rw [if_neg (by omega), Nat.zero_add, getD_at hl, q2, q3, decide_eq_true rfl, decide_eq_true (hb.rng _ (List.getElem_mem hi))]
    have hd : ((b.shares.take i).any fun o => decide (o.lot = b.shares[i].lot)) = false := by
      rw [List.any_eq_false]
      intro o ho
      obtain ⟨j, hj, rfl⟩ := List.mem_take_iff_getElem.1 ho
      have := (List.pairwise_iff_getElem.1 hb.dis) j i (by omega) hi (by omega)
      simpa using this
    rw [hd]
    rfl
  unfold basketE
  rw [if_neg hb.ne, he, if_neg (by decide), decide_eq_true hb.sum]
  rfl
theorem baskets_fine {l : List Lot} {cap : Int} (h : lotsE l cap = 0) (hn : (basketsT l cap).length ≤ 60) : chkB l cap (basketsT l cap) = 0 := by
  obtain ⟨h1, h2, h3⟩ := baskets_are h
  have he : eachGo (fun _ b => basketE l cap b) 0 (basketsT l cap) = (0, 0) := each_0 fun i hi => by
    obtain ⟨ht, hb⟩ := h1 _ (List.getElem_mem hi)
    exact good_basket h hb
  unfold chkB
  rw [if_neg (by omega), he, if_neg (by decide), if_neg]
  rw [Bool.not_eq_true, short_held]
  intro i hi
  rw [← wSum_name, h3, lotW_name (names_pw h) hi]
structure AccB (l : List Lot) (cap : Int) (b : Basket) : Prop where
  ne : b.shares ≠ []
  sum : sumP b.shares ≤ cap
  sh : ∀ s ∈ b.shares, 0 ≤ lotIx l s.lot ∧ 1 ≤ s.parts ∧ heatOf l s.lot = heatOf l (b.shares.getD 0 ⟨[], 0⟩).lot
theorem basket_acc {l : List Lot} {cap : Int} {b : Basket} (h : basketE l cap b = 0) : AccB l cap b := by
  unfold basketE at h
  split at h
  · cases h
  · rename_i h1
    split at h
    · contradiction
    · rename_i h2
      refine ⟨h1, of_decide_eq_true (un_0 (by decide) h), fun s hs => ?_⟩
      obtain ⟨i, hi, rfl⟩ := List.getElem_of_mem hs
      have h3 := each_zero _ b.shares 0 (Decidable.not_not.1 h2) i hi
      unfold shareE at h3
      split at h3
      · cases h3
      · rename_i h4
        obtain ⟨_, h5, h6⟩ := first3_0 h3
        exact ⟨by omega, (of_decide_eq_true (un_0 (by decide) h5)).1, of_decide_eq_true (un_0 (by decide) h6)⟩
theorem chk_acc {l : List Lot} {cap : Int} {bs : List Basket} (h : chkB l cap bs = 0) : (∀ b ∈ bs, AccB l cap b) ∧ ∀ x ∈ l, nameSum x.name (allS bs) = x.parts := by
  unfold chkB at h
  split at h
  · cases h
  · split at h
    · contradiction
    · rename_i h2
      split at h
      · cases h
      · rename_i h3
        refine ⟨fun b hb => ?_, fun x hx => ?_⟩
        · obtain ⟨i, hi, rfl⟩ := List.getElem_of_mem hb
          exact basket_acc (each_zero _ bs 0 (Decidable.not_not.1 h2) i hi)
        · obtain ⟨i, hi, rfl⟩ := List.getElem_of_mem hx
          exact (short_held l (allS bs)).1 (by simpa using h3) i hi
def namesSum (S : List Share) : List Lot → Int
  | [] => 0
  | x :: r => nameSum x.name S + namesSum S r
theorem namesSum_nil : ∀ r : List Lot, namesSum [] r = 0
  | [] => rfl
  | x :: r => by simp [namesSum, nameSum, namesSum_nil r]
theorem namesSum_zero (s : Share) (S : List Share) : ∀ r : List Lot, (∀ x ∈ r, x.name ≠ s.lot) → namesSum (s :: S) r = namesSum S r
  | [], _ => rfl
  | x :: r, h => by
    have := namesSum_zero s S r fun y hy => h y (List.mem_cons_of_mem _ hy)
    simp only [namesSum, nameSum]
    rw [if_neg (fun e => h x List.mem_cons_self e.symm), this]
    omega
theorem namesSum_one (s : Share) (S : List Share) : ∀ r : List Lot, r.Pairwise (fun a b => a.name ≠ b.name) → (∃ x ∈ r, x.name = s.lot) → namesSum (s :: S) r = s.parts + namesSum S r
  | [], _, h => by obtain ⟨x, hx, _⟩ := h; cases hx
  | x :: r, hp, h => by
    rw [List.pairwise_cons] at hp
    by_cases e : x.name = s.lot
    · simp only [namesSum, nameSum]
      rw [if_pos e.symm, namesSum_zero s S r fun y hy e2 => hp.1 y hy (e.trans e2.symm)]
      omega
    · have h2 : ∃ y ∈ r, y.name = s.lot := by
        obtain ⟨y, hy, e2⟩ := h
        rcases List.mem_cons.1 hy with rfl | hy
        · exact absurd e2 e
        · exact ⟨y, hy, e2⟩
      simp only [namesSum, nameSum]
      rw [if_neg (fun e2 => e e2.symm), namesSum_one s S r hp.2 h2]
      omega
theorem names_w {r : List Lot} (hp : r.Pairwise (fun a b => a.name ≠ b.name)) {p : List UInt8 → Bool} : ∀ S : List Share, (∀ s ∈ S, (p s.lot = true ↔ ∃ x ∈ r, x.name = s.lot)) → namesSum S r = wSum p S
  | [], _ => namesSum_nil r
  | s :: S, h => by
    have ih := names_w hp S fun t ht => h t (List.mem_cons_of_mem _ ht)
    have hs := h s List.mem_cons_self
    simp only [wSum]
    by_cases e : p s.lot = true
    · rw [if_pos e, namesSum_one s S r hp (hs.1 e), ih]
    · rw [if_neg e, namesSum_zero s S r (fun x hx e2 => e (hs.2 ⟨x, hx, e2⟩)), ih]
      omega
theorem namesSum_tot {S : List Share} : ∀ r : List Lot, (∀ x ∈ r, nameSum x.name S = x.parts) → namesSum S r = totP r
  | [], _ => rfl
  | x :: r, h => by
    simp only [namesSum, totP]
    rw [h x List.mem_cons_self, namesSum_tot r fun y hy => h y (List.mem_cons_of_mem _ hy)]
def firstHeat (l : List Lot) (b : Basket) : List UInt8 := heatOf l (b.shares.getD 0 ⟨[], 0⟩).lot
def cntH (l : List Lot) (ht : List UInt8) : List Basket → Int
  | [] => 0
  | b :: r => (if firstHeat l b = ht then 1 else 0) + cntH l ht r
theorem wSum_true {p : List UInt8 → Bool} : ∀ {S : List Share}, (∀ s ∈ S, p s.lot = true) → wSum p S = sumP S
  | [], _ => rfl
  | s :: S, h => by
    simp only [wSum, sumP]
    rw [if_pos (h s List.mem_cons_self), wSum_true fun t ht => h t (List.mem_cons_of_mem _ ht)]
theorem wSum_false {p : List UInt8 → Bool} : ∀ {S : List Share}, (∀ s ∈ S, p s.lot = false) → wSum p S = 0
  | [], _ => rfl
  | s :: S, h => by
    simp only [wSum]
    rw [if_neg (by rw [h s List.mem_cons_self]; decide), wSum_false fun t ht => h t (List.mem_cons_of_mem _ ht)]
    rfl
theorem heat_le {l : List Lot} {cap : Int} (hc : 1 ≤ cap) (ht : List UInt8) : ∀ bs : List Basket, (∀ b ∈ bs, AccB l cap b) → wSum (fun n => decide (heatOf l n = ht)) (allS bs) ≤ cntH l ht bs * cap
  | [], _ => by simp [allS, wSum, cntH]
  | b :: bs, h => by
    have ih := heat_le hc ht bs fun c hc2 => h c (List.mem_cons_of_mem _ hc2)
    obtain ⟨h1, h2, h3⟩ := h b List.mem_cons_self
    simp only [allS, cntH]
    rw [wSum_app, Int.add_mul]
    by_cases e : firstHeat l b = ht
    · rw [if_pos e, wSum_true fun s hs => decide_eq_true ((h3 s hs).2.2.trans e)]
      omega
    · rw [if_neg e, wSum_false fun s hs => decide_eq_false fun e2 => e ((h3 s hs).2.2.symm.trans e2)]
      omega
def cntN (l : List Lot) (d : List (List UInt8)) : List Basket → Int
  | [] => 0
  | b :: r => (if firstHeat l b ∈ d then 0 else 1) + cntN l d r
theorem cntN_nn (l : List Lot) (d : List (List UInt8)) : ∀ bs, 0 ≤ cntN l d bs
  | [] => Int.le_refl _
  | b :: bs => by
    have := cntN_nn l d bs
    simp only [cntN]
    split <;> omega
theorem cntN_split (l : List Lot) {d : List (List UInt8)} {ht : List UInt8} (hd : ht ∉ d) : ∀ bs, cntN l d bs = cntH l ht bs + cntN l (d ++ [ht]) bs
  | [] => rfl
  | b :: bs => by
    have ih := cntN_split l hd bs
    simp only [cntN, cntH]
    rw [ih]
    by_cases e : firstHeat l b = ht
    · rw [if_pos e, if_neg (by rw [e]; exact hd), if_pos (by simp [e])]; omega
    · rw [if_neg e]
      by_cases e2 : firstHeat l b ∈ d
      · rw [if_pos e2, if_pos (by simp [e2])]; omega
      · rw [if_neg e2, if_neg (by simp [e2, e])]; omega
theorem cntN_nil (l : List Lot) : ∀ bs : List Basket, cntN l [] bs = bs.length
  | [] => rfl
  | b :: bs => by
    have := cntN_nil l bs
    simp only [cntN, List.length_cons]
    rw [if_neg (by simp)]
    omega
theorem need_go {l : List Lot} {cap : Int} (h : lotsE l cap = 0) {bs : List Basket} (hA : ∀ b ∈ bs, AccB l cap b) (hN : ∀ x ∈ l, nameSum x.name (allS bs) = x.parts) : ∀ (r pre : List Lot) (d : List (List UInt8)), l = pre ++ r → (∀ x ∈ pre, x.heat ∈ d) → needT cap (heatGo d r) ≤ cntN l d bs
  | [], pre, d, _, _ => by simp only [heatGo, needT]; exact cntN_nn l d bs
  | x :: r, pre, d, hl, hp => by
    have hc := (lots_ok h).cap
    have hl2 : l = (pre ++ [x]) ++ r := by rw [hl]; simp
    rw [heatGo]
    by_cases hd : x.heat ∈ d
    · rw [if_pos hd]
      refine need_go h hA hN r (pre ++ [x]) d hl2 fun y hy => ?_
      rcases List.mem_append.1 hy with hy | hy
      · exact hp y hy
      · rw [List.mem_singleton] at hy; subst hy; exact hd
    · rw [if_neg hd, needT, cntN_split l hd]
      have ih := need_go h hA hN r (pre ++ [x]) (d ++ [x.heat]) hl2 fun y hy => by
        rcases List.mem_append.1 hy with hy | hy
        · exact List.mem_append_left _ (hp y hy)
        · rw [List.mem_singleton] at hy; subst hy; simp
      have hf : (x :: r).filter (fun y => !decide (y.heat ≠ x.heat)) = l.filter (fun y => !decide (y.heat ≠ x.heat)) := by
        rw [hl, List.filter_append]
        have : pre.filter (fun y => !decide (y.heat ≠ x.heat)) = [] := by
          rw [List.filter_eq_nil_iff]
          intro y hy e
          have e2 : y.heat = x.heat := by simpa using e
          exact hd (e2 ▸ hp y hy)
        rw [this, List.nil_append]
      have h1 : totP ((x :: r).filter fun y => !decide (y.heat ≠ x.heat)) ≤ cntH l x.heat bs * cap := by
        rw [hf, ← namesSum_tot (S := allS bs) _ fun y hy => hN y (List.mem_filter.1 hy).1]
        rw [names_w (p := fun n => decide (heatOf l n = x.heat)) ((names_pw h).filter _) (allS bs) fun s hs => ?_]
        · exact heat_le hc.1 x.heat bs hA
        · have hs2 : ∃ b ∈ bs, s ∈ b.shares := by
            clear ih hf hN h hp hl hl2 hA
            induction bs with
            | nil => cases hs
            | cons b bs ih =>
              rcases List.mem_append.1 hs with hs | hs
              · exact ⟨b, List.mem_cons_self, hs⟩
              · obtain ⟨c, hc, hs⟩ := ih hs
                exact ⟨c, List.mem_cons_of_mem _ hc, hs⟩
          obtain ⟨b, hb, hs3⟩ := hs2
          have hix := ((hA b hb).sh s hs3).1
          obtain ⟨i, e1, hi, e2⟩ := lot_at (l := l) (n := s.lot) (by omega)
          have e3 := heat_of h hi
          rw [e2] at e3
          constructor
          · intro q
            have q2 := of_decide_eq_true q
            exact ⟨l[i], List.mem_filter.2 ⟨List.getElem_mem hi, by rw [← e3, q2]; simp⟩, e2⟩
          · rintro ⟨y, hy, e4⟩
            obtain ⟨hy1, hy2⟩ := List.mem_filter.1 hy
            have e5 := (lot_of_mem h hy1).2
            rw [e4] at e5
            have e6 : y.heat = x.heat := by simpa using hy2
            exact decide_eq_true (e5.trans e6)
      have h2 := ceil_le hc.1 h1
      omega
theorem need_le {l : List Lot} {cap : Int} (h : lotsE l cap = 0) {bs : List Basket} (hb : chkB l cap bs = 0) : needT cap (heatsT l) ≤ (bs.length : Int) := by
  obtain ⟨h1, h2⟩ := chk_acc hb
  have := need_go h h1 h2 l [] [] rfl (fun x hx => by cases hx)
  rwa [cntN_nil] at this
def lotsE0 (l : List Lot) : Int := if 8 < l.length then 8 else (eachGo (lotE l) 0 l).2
theorem lotsE_eq (l : List Lot) (cap : Int) : lotsE l cap = if lotsE0 l ≠ 0 then lotsE0 l else unlessE (decide (1 ≤ cap ∧ cap ≤ 1000)) 2 := by
  unfold lotsE lotsE0
  by_cases h : 8 < l.length
  · rw [if_pos h, if_pos h, if_pos (by decide)]
  · rw [if_neg h, if_neg h]
theorem three_E (a b : Bool) (p : Prop) [Decidable p] : firstE [unlessE a 4, unlessE (!b) 5, unlessE (decide p) 2] = if a = true then if b = true then 5 else if p then 0 else 2 else 4 := by
  by_cases hp : p <;> cases a <;> cases b <;> simp [firstE3, unlessE, hp]
theorem lotE_eq (l : List Lot) (i : Nat) (x : Lot) : lotE l i x = if (nameOk x.name && nameOk x.heat) = true then if ((l.take i).any fun o => decide (o.name = x.name)) = true then 5 else if 1 ≤ x.parts ∧ x.parts ≤ 1000 then 0 else 2 else 4 := three_E _ _ _
theorem lotE_4 {l : List Lot} {i : Nat} {x : Lot} (h : (nameOk x.name && nameOk x.heat) = false) : lotE l i x = 4 := by rw [lotE_eq, h]; rfl
theorem any_lot (l : List Lot) (n : List UInt8) : (l.any fun o => decide (o.name = n)) = decide (lotIx l n ≥ 0) := (idxGo_any (fun o : Lot => decide (o.name = n)) l 0).symm
theorem lotE_5 {l : List Lot} {i : Nat} {x : Lot} (h : (nameOk x.name && nameOk x.heat) = true) (h2 : lotIx (l.take i) x.name ≥ 0) : lotE l i x = 5 := by rw [lotE_eq, if_pos h, if_pos (by rw [any_lot]; exact decide_eq_true h2)]
theorem lotE_2 {l : List Lot} {i : Nat} {x : Lot} (h : (nameOk x.name && nameOk x.heat) = true) (h2 : ¬ lotIx (l.take i) x.name ≥ 0) (h3 : ¬ (1 ≤ x.parts ∧ x.parts ≤ 1000)) : lotE l i x = 2 := by rw [lotE_eq, if_pos h, if_neg (by rw [any_lot, decide_eq_false h2]; decide), if_neg h3]
theorem lotE_0 {l : List Lot} {i : Nat} {x : Lot} (h : (nameOk x.name && nameOk x.heat) = true) (h2 : ¬ lotIx (l.take i) x.name ≥ 0) (h3 : 1 ≤ x.parts ∧ x.parts ≤ 1000) : lotE l i x = 0 := by rw [lotE_eq, if_pos h, if_neg (by rw [any_lot, decide_eq_false h2]; decide), if_pos h3]
theorem lots0_at {l : List Lot} {i : Nat} {e : Int} (h8 : ¬ 8 < l.length) (hg : eachGo (lotE l) 0 l = eachGo (lotE l) i (l.drop i)) (hi : i < l.length) (he : lotE l i l[i] = e) (h0 : e ≠ 0) : e = lotsE0 l := by unfold lotsE0; rw [if_neg h8, each_at hg hi he h0]
theorem lots0_end {l : List Lot} {i : Nat} (h8 : ¬ 8 < l.length) (hg : eachGo (lotE l) 0 l = eachGo (lotE l) i (l.drop i)) (hi : i = l.length) : 0 = lotsE0 l := by unfold lotsE0; rw [if_neg h8, each_end hg hi]
def fewL (l : List Lot) : Bool := decide (l.length ≤ 10) && l.all fun x => decide (x.name.length ≤ 30 ∧ x.heat.length ≤ 30)
def fS (s : Share) : Bool := decide (s.lot.length ≤ 30)
def fB (b : Basket) : Bool := decide (b.shares.length ≤ 10) && b.shares.all fS
def fewB (l : List Basket) : Bool := decide (l.length ≤ 65) && l.all fB
theorem fewB_len {bs : List Basket} (h : fewB bs = true) : bs.length ≤ 65 ∧ ∀ b ∈ bs, b.shares.length ≤ 10 := by
  unfold fewB at h
  rw [Bool.and_eq_true] at h
  refine ⟨of_decide_eq_true h.1, fun b hb => ?_⟩
  have := List.all_eq_true.1 h.2 b hb
  unfold fB at this
  rw [Bool.and_eq_true] at this
  exact of_decide_eq_true this.1
theorem fB_T {b : Basket} {k : Nat} (h1 : b.shares.length ≤ 10) (hg : b.shares.all fS = (b.shares.drop k).all fS) (hk : k = b.shares.length) : fB b = true := by unfold fB; rw [decide_eq_true h1, hg, hk, List.drop_length]; rfl
theorem fB_10 {b : Basket} (h : ¬ b.shares.length ≤ 10) : fB b = false := by unfold fB; rw [decide_eq_false h]; rfl
theorem fB_30 {b : Basket} {k : Nat} (hk : k < b.shares.length) (hg : b.shares.all fS = (b.shares.drop k).all fS) (h : ¬ b.shares[k].lot.length ≤ 30) : fB b = false := by
  unfold fB
  rw [hg, all_dropG _ hk, show fS b.shares[k] = false from decide_eq_false h]
  simp
theorem fewB_at {l : List Basket} {i : Nat} (hg : l.all fB = (l.drop i).all fB) (hi : i < l.length) (h : fB l[i] = false) : false = fewB l := by unfold fewB; rw [hg, all_dropG _ hi, h, Bool.false_and, Bool.and_false]
theorem fewB_end {l : List Basket} {i : Nat} (h65 : l.length ≤ 65) (hg : l.all fB = (l.drop i).all fB) (hi : i = l.length) : true = fewB l := by unfold fewB; rw [hg, hi, List.drop_length, decide_eq_true h65]; rfl
theorem hasText_mem {ks : List (List UInt8)} {s : List UInt8} : hasText ks s = true ↔ s ∈ ks := by
  unfold hasText
  rw [List.any_eq_true]
  constructor
  · rintro ⟨x, hx, h⟩
    rw [of_decide_eq_true h]; exact hx
  · intro h
    exact ⟨s, h, decide_eq_true rfl⟩
def seg (l : List Lot) (i k : Nat) : List Lot := ((l.take k).drop i).filter fun y => !decide (y.heat ≠ (l.getD i ⟨[], [], 0⟩).heat)
theorem seg_0 (l : List Lot) (i : Nat) : seg l i i = [] := by unfold seg; rw [List.drop_eq_nil_of_le (by simp; omega)]; rfl
theorem seg_T {l : List Lot} {i k : Nat} (hi : i ≤ k) (hk : k < l.length) (h : l[k].heat = l[i].heat) : seg l i (k + 1) = seg l i k ++ [l[k]] := by
  unfold seg
  rw [List.take_succ_eq_append_getElem hk, List.drop_append_of_le_length (by rw [List.length_take]; omega), List.filter_append, getD_at (by omega)]
  congr 1
  simp [h]
theorem seg_F {l : List Lot} {i k : Nat} (hi : i ≤ k) (hk : k < l.length) (h : ¬ l[k].heat = l[i].heat) : seg l i (k + 1) = seg l i k := by
  unfold seg
  rw [List.take_succ_eq_append_getElem hk, List.drop_append_of_le_length (by rw [List.length_take]; omega), List.filter_append, getD_at (by omega)]
  simp [h]
theorem seg_all {l : List Lot} {i : Nat} (h : i < l.length) : seg l i l.length = (l.drop i).filter fun y => !decide (y.heat ≠ l[i].heat) := by unfold seg; rw [List.take_length, getD_at h]
theorem law9_fewLots {l : List Lot} : Ct Tryz.prog 29 [.sl (l.map Lot.cs)] (.bool (fewL l)) := by
  refine Ct.intro (rs := [.tmp 2]) Tryz.func29 rfl Tryz.ntmps29 Tryz.results29 rfl rfl rfl fun w h => ?_
  refine OK.slLen (rows := l.map Lot.cs) (t := 0) rfl rfl fun hlen => ?_
  rw [List.length_map] at hlen
  unfold maxLen at hlen
  refine OK.seq ?_
  refine OK.reg ?_
  refine RK.c (S.assign .none rfl .cbool) ?_
  refine RK.nil ?_
  refine Ab.D.code ?_
  refine OK.seq ?_
  refine OK.seq ?_
  refine OK.reg ?_
  refine RK.c (S.move .none rfl (.tmp rfl rfl)) ?_
  refine RK.c (S.lenM si49 .none rfl (.tmp rfl rfl)) ?_
  refine RK.c (S.gtr .none rfl (.tmp rfl rfl) (.cint rfl)) ?_
  refine RK.nil ?_
  refine Ab.D.code ?_
  refine OK.condD rfl rfl (fun c6 => ?_) (fun c6 => ?_)
  ·
    refine OK.seq ?_
    refine OK.reg ?_
    refine RK.c (S.assign .none rfl .cbool) ?_
    refine RK.nil ?_
    refine Ab.D.code ?_
    refine OK.ret (Ret.r1 (.tmp rfl rfl (.c (.same rfl) rfl) rfl) ?_)
    refine ret_b ?_
    unfold fewL
    rw [decide_eq_false (by omega)]
    rfl
  ·
    refine OK.skip ?_
    refine Ab.D.code ?_
    refine OK.seq ?_
    refine OK.seq ?_
    refine OK.reg ?_
    refine RK.c (S.assign .none rfl (.cint rfl)) ?_
    refine RK.nil ?_
    refine Ab.D.code ?_
    refine OK.block ?_
    refine OK.loop (G := Nat) [] (fun i => [(0, .sl (l.map Lot.cs)), (3, .int .i64 i)]) (fun i => i ≤ l.length ∧ (l.all fun x => decide (x.name.length ≤ 30 ∧ x.heat.length ≤ 30)) = (l.drop i).all fun x => decide (x.name.length ≤ 30 ∧ x.heat.length ≤ 30)) (fun i => l.length - i) 0 ⟨Nat.zero_le _, rfl⟩ ⟨rfl, rfl, trivial⟩ (fun _ => rfl) ?_
    rintro i ⟨hi, hg⟩
    refine OK.seq ?_
    refine OK.seq ?_
    refine OK.reg ?_
    refine RK.c (S.move .none rfl (.tmp rfl rfl)) ?_
    refine RK.c (S.move .none rfl (.tmp rfl rfl)) ?_
    refine RK.c (S.lenM si49 .none rfl (.tmp rfl rfl)) ?_
    refine RK.c (S.lss .none rfl (.tmp rfl rfl) (.tmp rfl rfl)) ?_
    refine RK.nil ?_
    refine Ab.D.code ?_
    refine OK.condD rfl rfl (fun c10 => ?_) (fun c10 => ?_)
    ·
      refine OK.skip ?_
      refine Ab.D.code ?_
      refine OK.seq ?_
      refine OK.block ?_
      refine OK.seq ?_
      refine OK.reg ?_
      refine RK.c (S.move .none rfl (.tmp rfl rfl)) ?_
      refine RK.c (S.move .none rfl (.tmp rfl rfl)) ?_
      refine RK.c (S.indexM (n := i) si49 .none rfl (.tmp rfl rfl) (.tmp rfl rfl) rfl (by omega) rfl) ?_
      refine RK.c (S.field fi66_0 .none rfl (.tmp rfl rfl) rfl) ?_
      refine RK.c (S.load1 ti9 .none rfl (.tmp rfl rfl) rfl) ?_
      refine RK.c (S.slen Tryz.underlying9 .none rfl (.tmp rfl rfl)) ?_
      refine RK.c (S.gtr .none rfl (.tmp rfl rfl) (.cint rfl)) ?_
      refine RK.c (S.move .none rfl (.tmp rfl rfl)) ?_
      refine RK.splitD (t := 20) rfl (fun g20 => ?_) (fun g20 => ?_)
      ·
        refine RK.c (S.skip rfl rfl rfl rfl rfl) ?_
        refine RK.c (S.skip rfl rfl rfl rfl rfl) ?_
        refine RK.c (S.skip rfl rfl rfl rfl rfl) ?_
        refine RK.c (S.skip rfl rfl rfl rfl rfl) ?_
        refine RK.c (S.skip rfl rfl rfl rfl rfl) ?_
        refine RK.c (S.skip rfl rfl rfl rfl rfl) ?_
        refine RK.c (S.skip rfl rfl rfl rfl rfl) ?_
        refine RK.c (S.pickT .none rfl (.tmp rfl rfl) .cbool rfl) ?_
        refine RK.nil ?_
        refine Ab.D.code ?_
        refine OK.condT rfl rfl rfl ?_
        refine OK.seq ?_
        refine OK.reg ?_
        refine RK.c (S.assign .none rfl .cbool) ?_
        refine RK.nil ?_
        refine Ab.D.code ?_
        refine OK.ret (Ret.r1 (.tmp rfl rfl (.c (.same rfl) rfl) rfl) ?_)
        refine ret_b ?_
        unfold fewL
        rw [hg, all_dropG _ (show i < l.length by omega), decide_eq_false (show ¬ (l[i].name.length ≤ 30 ∧ l[i].heat.length ≤ 30) by omega), Bool.false_and, Bool.and_false]
      ·
        refine RK.c (S.move (.yes rfl rfl rfl rfl) rfl (.tmp rfl rfl)) ?_
        refine RK.c (S.move (.yes rfl rfl rfl rfl) rfl (.tmp rfl rfl)) ?_
        refine RK.c (S.indexM (n := i) si49 (.yes rfl rfl rfl rfl) rfl (.tmp rfl rfl) (.tmp rfl rfl) rfl (by omega) rfl) ?_
        refine RK.c (S.field fi66_1 (.yes rfl rfl rfl rfl) rfl (.tmp rfl rfl) rfl) ?_
        refine RK.c (S.load1 ti9 (.yes rfl rfl rfl rfl) rfl (.tmp rfl rfl) rfl) ?_
        refine RK.c (S.slen Tryz.underlying9 (.yes rfl rfl rfl rfl) rfl (.tmp rfl rfl)) ?_
        refine RK.c (S.gtr (.yes rfl rfl rfl rfl) rfl (.tmp rfl rfl) (.cint rfl)) ?_
        refine RK.c (S.pickF .none rfl (.tmp rfl rfl) (.tmp rfl rfl) rfl) ?_
        refine RK.nil ?_
        refine Ab.D.code ?_
        refine OK.condD rfl rfl (fun c28 => ?_) (fun c28 => ?_)
        ·
          refine OK.seq ?_
          refine OK.reg ?_
          refine RK.c (S.assign .none rfl .cbool) ?_
          refine RK.nil ?_
          refine Ab.D.code ?_
          refine OK.ret (Ret.r1 (.tmp rfl rfl (.c (.same rfl) rfl) rfl) ?_)
          refine ret_b ?_
          unfold fewL
          rw [hg, all_dropG _ (show i < l.length by omega), decide_eq_false (show ¬ (l[i].name.length ≤ 30 ∧ l[i].heat.length ≤ 30) by omega), Bool.false_and, Bool.and_false]
        ·
          refine OK.skip ?_
          refine Ab.D.blk ?_
          refine Ab.D.code ?_
          refine OK.reg ?_
          refine RK.c (S.move .none rfl (.tmp rfl rfl)) ?_
          refine RK.c (S.add .none rfl (.tmp rfl rfl) (.cint rfl) (IntWalk.i64_in _ (by omega)) (IntWalk.i64_in _ (by omega))) ?_
          refine RK.c (S.assign .none rfl (.tmp rfl rfl)) ?_
          refine RK.nil ?_
          refine Ab.D.lp ⟨i + 1, ⟨by omega, ?_⟩, (by omega), rfl, rfl, trivial⟩
          rw [hg, all_dropG _ (by omega), decide_eq_true (by omega), Bool.true_and]
    ·
      refine OK.exit rfl ?_
      refine Ab.D.code ?_
      refine OK.seq ?_
      refine OK.reg ?_
      refine RK.c (S.assign .none rfl .cbool) ?_
      refine RK.nil ?_
      refine Ab.D.code ?_
      refine OK.ret (Ret.r1 (.tmp rfl rfl (.c (.same rfl) rfl) rfl) ?_)
      refine ret_b ?_
      unfold fewL
      rw [hg, show i = l.length by omega, List.drop_length, decide_eq_true (by omega)]
      rfl
theorem law9_fewBaskets {l : List Basket} : Ct Tryz.prog 30 [.sl (l.map Basket.cs)] (.bool (fewB l)) := by
  refine Ct.intro (rs := [.tmp 2]) Tryz.func30 rfl Tryz.ntmps30 Tryz.results30 rfl rfl rfl fun w h => ?_
  refine OK.slLen (rows := l.map Basket.cs) (t := 0) rfl rfl fun hlen => ?_
  rw [List.length_map] at hlen
  unfold maxLen at hlen
  refine OK.seq ?_
  refine OK.reg ?_
  refine RK.c (S.assign .none rfl .cbool) ?_
  refine RK.nil ?_
  refine Ab.D.code ?_
  refine OK.seq ?_
  refine OK.seq ?_
  refine OK.reg ?_
  refine RK.c (S.move .none rfl (.tmp rfl rfl)) ?_
  refine RK.c (S.lenM si50 .none rfl (.tmp rfl rfl)) ?_
  refine RK.c (S.gtr .none rfl (.tmp rfl rfl) (.cint rfl)) ?_
  refine RK.nil ?_
  refine Ab.D.code ?_
  refine OK.condD rfl rfl (fun c7 => ?_) (fun c7 => ?_)
  ·
    refine OK.seq ?_
    refine OK.reg ?_
    refine RK.c (S.assign .none rfl .cbool) ?_
    refine RK.nil ?_
    refine Ab.D.code ?_
    refine OK.ret (Ret.r1 (.tmp rfl rfl (.c (.same rfl) rfl) rfl) ?_)
    refine ret_b ?_
    unfold fewB
    rw [decide_eq_false (by omega)]
    rfl
  ·
    refine OK.skip ?_
    refine Ab.D.code ?_
    refine OK.seq ?_
    refine OK.seq ?_
    refine OK.reg ?_
    refine RK.c (S.assign .none rfl (.cint rfl)) ?_
    refine RK.nil ?_
    refine Ab.D.code ?_
    refine OK.block ?_
    refine OK.loop (G := Nat) [] (fun i => [(0, .sl (l.map Basket.cs)), (3, .int .i64 i)]) (fun i => i ≤ l.length ∧ l.all fB = (l.drop i).all fB) (fun i => l.length - i) 0 ⟨Nat.zero_le _, rfl⟩ ⟨rfl, rfl, trivial⟩ (fun _ => rfl) ?_
    rintro i ⟨hi, hg⟩
    refine OK.seq ?_
    refine OK.seq ?_
    refine OK.reg ?_
    refine RK.c (S.move .none rfl (.tmp rfl rfl)) ?_
    refine RK.c (S.move .none rfl (.tmp rfl rfl)) ?_
    refine RK.c (S.lenM si50 .none rfl (.tmp rfl rfl)) ?_
    refine RK.c (S.lss .none rfl (.tmp rfl rfl) (.tmp rfl rfl)) ?_
    refine RK.nil ?_
    refine Ab.D.code ?_
    refine OK.condD rfl rfl (fun c11 => ?_) (fun c11 => ?_)
    ·
      refine OK.skip ?_
      refine Ab.D.code ?_
      refine OK.seq ?_
      refine OK.block ?_
      refine OK.seq ?_
      refine OK.seq ?_
      refine OK.reg ?_
      refine RK.c (S.move .none rfl (.tmp rfl rfl)) ?_
      refine RK.c (S.move .none rfl (.tmp rfl rfl)) ?_
      refine RK.c (S.indexM (n := i) si50 .none rfl (.tmp rfl rfl) (.tmp rfl rfl) rfl (by omega) rfl) ?_
      refine RK.c (S.field fi71_0 .none rfl (.tmp rfl rfl) rfl) ?_
      refine RK.c (S.load1 ti69 .none rfl (.tmp rfl rfl) rfl) ?_
      refine RK.c (S.lenM si69 .none rfl (.tmp rfl rfl)) ?_
      refine RK.c (S.gtr .none rfl (.tmp rfl rfl) (.cint rfl)) ?_
      refine RK.nil ?_
      refine Ab.D.code ?_
      refine OK.condD rfl rfl (fun c20 => ?_) (fun c20 => ?_)
      ·
        refine OK.seq ?_
        refine OK.reg ?_
        refine RK.c (S.assign .none rfl .cbool) ?_
        refine RK.nil ?_
        refine Ab.D.code ?_
        refine OK.ret (Ret.r1 (.tmp rfl rfl (.c (.same rfl) rfl) rfl) ?_)
        exact ret_b (fewB_at hg (by omega) (fB_10 (by omega)))
      ·
        refine OK.skip ?_
        refine Ab.D.code ?_
        refine OK.seq ?_
        refine OK.reg ?_
        refine RK.c (S.assign .none rfl (.cint rfl)) ?_
        refine RK.nil ?_
        refine Ab.D.code ?_
        refine OK.block ?_
        refine OK.loop (G := Nat) [] (fun k => [(0, .sl (l.map Basket.cs)), (3, .int .i64 i), (4, .int .i64 k)]) (fun k => k ≤ l[i].shares.length ∧ l[i].shares.all fS = (l[i].shares.drop k).all fS) (fun k => l[i].shares.length - k) 0 ⟨Nat.zero_le _, rfl⟩ ⟨rfl, rfl, rfl, trivial⟩ (fun _ => rfl) ?_
        rintro k ⟨hk, hg2⟩
        refine OK.seq ?_
        refine OK.seq ?_
        refine OK.reg ?_
        refine RK.c (S.move .none rfl (.tmp rfl rfl)) ?_
        refine RK.c (S.move .none rfl (.tmp rfl rfl)) ?_
        refine RK.c (S.move .none rfl (.tmp rfl rfl)) ?_
        refine RK.c (S.indexM (n := i) si50 .none rfl (.tmp rfl rfl) (.tmp rfl rfl) rfl (by omega) rfl) ?_
        refine RK.c (S.field fi71_0 .none rfl (.tmp rfl rfl) rfl) ?_
        refine RK.c (S.load1 ti69 .none rfl (.tmp rfl rfl) rfl) ?_
        refine RK.c (S.lenM si69 .none rfl (.tmp rfl rfl)) ?_
        refine RK.c (S.lss .none rfl (.tmp rfl rfl) (.tmp rfl rfl)) ?_
        refine RK.nil ?_
        refine Ab.D.code ?_
        refine OK.condD rfl rfl (fun c28 => ?_) (fun c28 => ?_)
        ·
          refine OK.skip ?_
          refine Ab.D.code ?_
          refine OK.seq ?_
          refine OK.block ?_
          refine OK.seq ?_
          refine OK.reg ?_
          refine RK.c (S.move .none rfl (.tmp rfl rfl)) ?_
          refine RK.c (S.move .none rfl (.tmp rfl rfl)) ?_
          refine RK.c (S.indexM (n := i) si50 .none rfl (.tmp rfl rfl) (.tmp rfl rfl) rfl (by omega) rfl) ?_
          refine RK.c (S.field fi71_0 .none rfl (.tmp rfl rfl) rfl) ?_
          refine RK.c (S.load1 ti69 .none rfl (.tmp rfl rfl) rfl) ?_
          refine RK.c (S.move .none rfl (.tmp rfl rfl)) ?_
          refine RK.c (S.indexM (n := k) si69 .none rfl (.tmp rfl rfl) (.tmp rfl rfl) rfl (by omega) rfl) ?_
          refine RK.c (S.field fi73_0 .none rfl (.tmp rfl rfl) rfl) ?_
          refine RK.c (S.load1 ti9 .none rfl (.tmp rfl rfl) rfl) ?_
          refine RK.c (S.slen Tryz.underlying9 .none rfl (.tmp rfl rfl)) ?_
          refine RK.c (S.gtr .none rfl (.tmp rfl rfl) (.cint rfl)) ?_
          refine RK.nil ?_
          refine Ab.D.code ?_
          refine OK.condD rfl rfl (fun c41 => ?_) (fun c41 => ?_)
          ·
            refine OK.seq ?_
            refine OK.reg ?_
            refine RK.c (S.assign .none rfl .cbool) ?_
            refine RK.nil ?_
            refine Ab.D.code ?_
            refine OK.ret (Ret.r1 (.tmp rfl rfl (.c (.same rfl) rfl) rfl) ?_)
            exact ret_b (fewB_at hg (by omega) (fB_30 (k := k) (by omega) hg2 (by omega)))
          ·
            refine OK.skip ?_
            refine Ab.D.blk ?_
            refine Ab.D.code ?_
            refine OK.reg ?_
            refine RK.c (S.move .none rfl (.tmp rfl rfl)) ?_
            refine RK.c (S.add .none rfl (.tmp rfl rfl) (.cint rfl) (IntWalk.i64_in _ (by omega)) (IntWalk.i64_in _ (by omega))) ?_
            refine RK.c (S.assign .none rfl (.tmp rfl rfl)) ?_
            refine RK.nil ?_
            refine Ab.D.lp ⟨k + 1, ⟨by omega, ?_⟩, (by omega), rfl, rfl, rfl, trivial⟩
            rw [hg2, all_dropG _ (by omega), show fS l[i].shares[k] = true from decide_eq_true (by omega), Bool.true_and]
        ·
          refine OK.exit rfl ?_
          refine Ab.D.blk ?_
          refine Ab.D.code ?_
          refine OK.reg ?_
          refine RK.c (S.move .none rfl (.tmp rfl rfl)) ?_
          refine RK.c (S.add .none rfl (.tmp rfl rfl) (.cint rfl) (IntWalk.i64_in _ (by omega)) (IntWalk.i64_in _ (by omega))) ?_
          refine RK.c (S.assign .none rfl (.tmp rfl rfl)) ?_
          refine RK.nil ?_
          refine Ab.D.lp ⟨i + 1, ⟨by omega, ?_⟩, (by omega), rfl, rfl, trivial⟩
          rw [hg, all_dropG _ (by omega), fB_T (by omega) hg2 (by omega), Bool.true_and]
    ·
      refine OK.exit rfl ?_
      refine Ab.D.code ?_
      refine OK.seq ?_
      refine OK.reg ?_
      refine RK.c (S.assign .none rfl .cbool) ?_
      refine RK.nil ?_
      refine Ab.D.code ?_
      refine OK.ret (Ret.r1 (.tmp rfl rfl (.c (.same rfl) rfl) rfl) ?_)
      exact ret_b (fewB_end (by omega) hg (by omega))
theorem ref9_Lot {l : List Lot} {n : List UInt8} : Ct Tryz.prog 42 [.sl (l.map Lot.cs), .str n] (.int .i64 (lotIx l n)) := by
  refine Ct.intro (rs := [.tmp 4]) Tryz.func42 rfl Tryz.ntmps42 Tryz.results42 rfl rfl rfl fun w h => ?_
  refine OK.slLen (rows := l.map Lot.cs) (t := 0) rfl rfl fun hlen => ?_
  rw [List.length_map] at hlen
  unfold maxLen at hlen
  refine OK.seq ?_
  refine OK.reg ?_
  refine RK.c (S.assign .none rfl (.cint rfl)) ?_
  refine RK.nil ?_
  refine Ab.D.code ?_
  refine OK.seq ?_
  refine OK.seq ?_
  refine OK.reg ?_
  refine RK.c (S.assign .none rfl (.cint rfl)) ?_
  refine RK.nil ?_
  refine Ab.D.code ?_
  refine OK.block ?_
  refine OK.loop (G := Nat) [] (fun i => [(0, .sl (l.map Lot.cs)), (1, .str n), (5, .int .i64 i)]) (fun i => i ≤ l.length ∧ lotIx l n = idxGo (fun x => decide (x.name = n)) i (l.drop i)) (fun i => l.length - i) 0 ⟨Nat.zero_le _, rfl⟩ ⟨rfl, rfl, rfl, trivial⟩ (fun _ => rfl) ?_
  rintro i ⟨hi, hg⟩
  refine OK.seq ?_
  refine OK.seq ?_
  refine OK.reg ?_
  refine RK.c (S.move .none rfl (.tmp rfl rfl)) ?_
  refine RK.c (S.move .none rfl (.tmp rfl rfl)) ?_
  refine RK.c (S.lenM si49 .none rfl (.tmp rfl rfl)) ?_
  refine RK.c (S.lss .none rfl (.tmp rfl rfl) (.tmp rfl rfl)) ?_
  refine RK.nil ?_
  refine Ab.D.code ?_
  refine OK.condD rfl rfl (fun c9 => ?_) (fun c9 => ?_)
  ·
    refine OK.skip ?_
    refine Ab.D.code ?_
    refine OK.seq ?_
    refine OK.block ?_
    refine OK.seq ?_
    refine OK.reg ?_
    refine RK.c (S.move .none rfl (.tmp rfl rfl)) ?_
    refine RK.c (S.move .none rfl (.tmp rfl rfl)) ?_
    refine RK.c (S.indexM (n := i) si49 .none rfl (.tmp rfl rfl) (.tmp rfl rfl) rfl (by omega) rfl) ?_
    refine RK.c (S.field fi66_0 .none rfl (.tmp rfl rfl) rfl) ?_
    refine RK.c (S.load1 ti9 .none rfl (.tmp rfl rfl) rfl) ?_
    refine RK.c (S.move .none rfl (.tmp rfl rfl)) ?_
    refine RK.c (S.seql .none rfl (.tmp rfl rfl) (.tmp rfl rfl)) ?_
    refine RK.nil ?_
    refine Ab.D.code ?_
    refine OK.condD rfl rfl (fun c18 => ?_) (fun c18 => ?_)
    ·
      refine OK.seq ?_
      refine OK.reg ?_
      refine RK.c (S.move .none rfl (.tmp rfl rfl)) ?_
      refine RK.c (S.assign .none rfl (.tmp rfl rfl)) ?_
      refine RK.nil ?_
      refine Ab.D.code ?_
      refine OK.ret (Ret.r1 (.tmp rfl rfl (.c (.same rfl) rfl) rfl) ?_)
      refine ret_i ?_
      rw [hg, List.drop_eq_getElem_cons (by omega), idxGo, if_pos (by simpa using c18)]
    ·
      refine OK.skip ?_
      refine Ab.D.blk ?_
      refine Ab.D.code ?_
      refine OK.reg ?_
      refine RK.c (S.move .none rfl (.tmp rfl rfl)) ?_
      refine RK.c (S.add .none rfl (.tmp rfl rfl) (.cint rfl) (IntWalk.i64_in _ (by omega)) (IntWalk.i64_in _ (by omega))) ?_
      refine RK.c (S.assign .none rfl (.tmp rfl rfl)) ?_
      refine RK.nil ?_
      refine Ab.D.lp ⟨i + 1, ⟨by omega, by rw [hg, List.drop_eq_getElem_cons (by omega), idxGo, if_neg (by simpa using c18)]⟩, (by omega), rfl, rfl, rfl, trivial⟩
  ·
    refine OK.exit rfl ?_
    refine Ab.D.code ?_
    refine OK.seq ?_
    refine OK.reg ?_
    refine RK.c (S.assign .none rfl (.cint rfl)) ?_
    refine RK.nil ?_
    refine Ab.D.code ?_
    refine OK.ret (Ret.r1 (.tmp rfl rfl (.c (.same rfl) rfl) rfl) ?_)
    refine ret_i ?_
    rw [hg, show i = l.length by omega, List.drop_length]
    rfl
theorem ref9_LotsErr {l : List Lot} : Ct Tryz.prog 35 [.sl (l.map Lot.cs)] (.int .i64 (lotsE0 l)) := by
  refine Ct.intro (rs := [.tmp 2]) Tryz.func35 rfl Tryz.ntmps35 Tryz.results35 rfl rfl rfl fun w h => ?_
  refine OK.slLen (rows := l.map Lot.cs) (t := 0) rfl rfl fun hlen => ?_
  rw [List.length_map] at hlen
  unfold maxLen at hlen
  refine OK.seq ?_
  refine OK.reg ?_
  refine RK.c (S.assign .none rfl (.cint rfl)) ?_
  refine RK.nil ?_
  refine Ab.D.code ?_
  refine OK.seq ?_
  refine OK.seq ?_
  refine OK.reg ?_
  refine RK.c (S.move .none rfl (.tmp rfl rfl)) ?_
  refine RK.c (S.lenM si49 .none rfl (.tmp rfl rfl)) ?_
  refine RK.c (S.gtr .none rfl (.tmp rfl rfl) (.cint rfl)) ?_
  refine RK.nil ?_
  refine Ab.D.code ?_
  refine OK.condD rfl rfl (fun c6 => ?_) (fun c6 => ?_)
  ·
    refine OK.seq ?_
    refine OK.reg ?_
    refine RK.c (S.assign .none rfl (.cint rfl)) ?_
    refine RK.nil ?_
    refine Ab.D.code ?_
    refine OK.ret (Ret.r1 (.tmp rfl rfl (.c (.same rfl) rfl) rfl) ?_)
    refine ret_i ?_
    rw [lotsE0, if_pos (by omega)]
  ·
    refine OK.skip ?_
    refine Ab.D.code ?_
    refine OK.seq ?_
    refine OK.seq ?_
    refine OK.reg ?_
    refine RK.c (S.assign .none rfl (.cint rfl)) ?_
    refine RK.nil ?_
    refine Ab.D.code ?_
    refine OK.block ?_
    refine OK.loop (G := Nat) [] (fun i => [(0, .sl (l.map Lot.cs)), (3, .int .i64 i)]) (fun i => i ≤ l.length ∧ eachGo (lotE l) 0 l = eachGo (lotE l) i (l.drop i)) (fun i => l.length - i) 0 ⟨Nat.zero_le _, rfl⟩ ⟨rfl, rfl, trivial⟩ (fun _ => rfl) ?_
    rintro i ⟨hi, hg⟩
    refine OK.seq ?_
    refine OK.seq ?_
    refine OK.reg ?_
    refine RK.c (S.move .none rfl (.tmp rfl rfl)) ?_
    refine RK.c (S.move .none rfl (.tmp rfl rfl)) ?_
    refine RK.c (S.lenM si49 .none rfl (.tmp rfl rfl)) ?_
    refine RK.c (S.lss .none rfl (.tmp rfl rfl) (.tmp rfl rfl)) ?_
    refine RK.nil ?_
    refine Ab.D.code ?_
    refine OK.condD rfl rfl (fun c10 => ?_) (fun c10 => ?_)
    ·
      refine OK.skip ?_
      refine Ab.D.code ?_
      refine OK.seq ?_
      refine OK.block ?_
      refine OK.seq ?_
      refine OK.seq ?_
      refine OK.reg ?_
      refine RK.c (S.move .none rfl (.tmp rfl rfl)) ?_
      refine RK.c (S.move .none rfl (.tmp rfl rfl)) ?_
      refine RK.c (S.indexM (n := i) si49 .none rfl (.tmp rfl rfl) (.tmp rfl rfl) rfl (by omega) rfl) ?_
      refine RK.c (S.field fi66_0 .none rfl (.tmp rfl rfl) rfl) ?_
      refine RK.c (S.load1 ti9 .none rfl (.tmp rfl rfl) rfl) ?_
      refine RK.c (S.call (base_IsName) Tryz.call67 .none rfl (.cons (.tmp rfl rfl) .nil) rfl) ?_
      refine RK.c (S.not .none rfl (.tmp rfl rfl)) ?_
      refine RK.c (S.move .none rfl (.tmp rfl rfl)) ?_
      refine RK.split (t := 20) rfl (fun g20 => ?_) (fun g20 => ?_)
      ·
        have hn1 : nameOk l[i].name = false := by simpa using g20
        refine RK.c (S.skip rfl rfl rfl rfl rfl) ?_
        refine RK.c (S.skip rfl rfl rfl rfl rfl) ?_
        refine RK.c (S.skip rfl rfl rfl rfl rfl) ?_
        refine RK.c (S.skip rfl rfl rfl rfl rfl) ?_
        refine RK.c (S.skip rfl rfl rfl rfl rfl) ?_
        refine RK.c (S.skip rfl rfl rfl rfl rfl) ?_
        refine RK.c (S.skip rfl rfl rfl rfl rfl) ?_
        refine RK.c (S.pickT .none rfl (.tmp rfl rfl) .cbool rfl) ?_
        refine RK.nil ?_
        refine Ab.D.code ?_
        refine OK.condT rfl rfl rfl ?_
        refine OK.seq ?_
        refine OK.reg ?_
        refine RK.c (S.assign .none rfl (.cint rfl)) ?_
        refine RK.nil ?_
        refine Ab.D.code ?_
        refine OK.ret (Ret.r1 (.tmp rfl rfl (.c (.same rfl) rfl) rfl) ?_)
        exact ret_i (lots0_at (by omega) hg (by omega) (lotE_4 (by rw [hn1]; rfl)) (by decide))
      ·
        have hn1 : nameOk l[i].name = true := by simpa using g20
        refine RK.c (S.move (.yes rfl rfl rfl rfl) rfl (.tmp rfl rfl)) ?_
        refine RK.c (S.move (.yes rfl rfl rfl rfl) rfl (.tmp rfl rfl)) ?_
        refine RK.c (S.indexM (n := i) si49 (.yes rfl rfl rfl rfl) rfl (.tmp rfl rfl) (.tmp rfl rfl) rfl (by omega) rfl) ?_
        refine RK.c (S.field fi66_1 (.yes rfl rfl rfl rfl) rfl (.tmp rfl rfl) rfl) ?_
        refine RK.c (S.load1 ti9 (.yes rfl rfl rfl rfl) rfl (.tmp rfl rfl) rfl) ?_
        refine RK.c (S.call (base_IsName) Tryz.call67 (.yes rfl rfl rfl rfl) rfl (.cons (.tmp rfl rfl) .nil) rfl) ?_
        refine RK.c (S.not (.yes rfl rfl rfl rfl) rfl (.tmp rfl rfl)) ?_
        refine RK.c (S.pickF .none rfl (.tmp rfl rfl) (.tmp rfl rfl) rfl) ?_
        refine RK.nil ?_
        refine Ab.D.code ?_
        refine OK.cond rfl rfl (fun c28 => ?_) (fun c28 => ?_)
        ·
          have hn2 : nameOk l[i].heat = false := by simpa using c28
          refine OK.seq ?_
          refine OK.reg ?_
          refine RK.c (S.assign .none rfl (.cint rfl)) ?_
          refine RK.nil ?_
          refine Ab.D.code ?_
          refine OK.ret (Ret.r1 (.tmp rfl rfl (.c (.same rfl) rfl) rfl) ?_)
          exact ret_i (lots0_at (by omega) hg (by omega) (lotE_4 (by rw [hn1, hn2]; rfl)) (by decide))
        ·
          have hn2 : nameOk l[i].heat = true := by simpa using c28
          have hnn : (nameOk l[i].name && nameOk l[i].heat) = true := by rw [hn1, hn2]; rfl
          refine OK.skip ?_
          refine Ab.D.code ?_
          refine OK.seq ?_
          refine OK.seq ?_
          refine OK.regionDraw follows (.c (S.move .none rfl (.tmp rfl rfl))
            (.c (S.move .none rfl (.tmp rfl rfl))
            (.c (S.slice (hi := i) (l' := l.take i) si49 (fun _ => rfl) .none rfl (.tmp rfl rfl) (.inl ⟨rfl, rfl, rfl⟩) (.inr ⟨_, _, rfl, (.tmp rfl rfl), rfl⟩) (Nat.zero_le _) (by omega) rfl)
            (.c (S.move .none rfl (.tmp rfl rfl))
            (.c (S.move .none rfl (.tmp rfl rfl))
            (.c (S.indexM (n := i) si49 .none rfl (.tmp rfl rfl) (.tmp rfl rfl) rfl (by omega) rfl)
            (.c (S.field fi66_0 .none rfl (.tmp rfl rfl) rfl)
            (.c (S.load1 ti9 .none rfl (.tmp rfl rfl) rfl)
            (.c (S.call (ref9_Lot (l := l.take i)) Tryz.call42 .none rfl (.cons (.tmp rfl rfl) (.cons (.tmp rfl rfl) .nil)) rfl)
            (.c (S.geq .none rfl (.tmp rfl rfl) (.cint rfl))
            .nil)))))))))) (by kernel_rfl) ?_
          refine Ab.D.code ?_
          refine OK.condD rfl rfl (fun c38 => ?_) (fun c38 => ?_)
          ·
            refine OK.seq ?_
            refine OK.reg ?_
            refine RK.c (S.assign .none rfl (.cint rfl)) ?_
            refine RK.nil ?_
            refine Ab.D.code ?_
            refine OK.ret (Ret.r1 (.tmp rfl rfl (.c (.same rfl) rfl) rfl) ?_)
            exact ret_i (lots0_at (by omega) hg (by omega) (lotE_5 hnn c38) (by decide))
          ·
            refine OK.skip ?_
            refine Ab.D.code ?_
            refine OK.seq ?_
            refine OK.reg ?_
            refine RK.c (S.move .none rfl (.tmp rfl rfl)) ?_
            refine RK.c (S.move .none rfl (.tmp rfl rfl)) ?_
            refine RK.c (S.indexM (n := i) si49 .none rfl (.tmp rfl rfl) (.tmp rfl rfl) rfl (by omega) rfl) ?_
            refine RK.c (S.field fi66_2 .none rfl (.tmp rfl rfl) rfl) ?_
            refine RK.c (S.load1 ti3 .none rfl (.tmp rfl rfl) rfl) ?_
            refine RK.c (S.call (base_Within) Tryz.call43 .none rfl (.cons (.tmp rfl rfl) (.cons (.cint rfl) (.cons (.cint rfl) .nil))) rfl) ?_
            refine RK.c (S.notD .none rfl (.tmp rfl rfl)) ?_
            refine RK.nil ?_
            refine Ab.D.code ?_
            refine OK.condD rfl rfl (fun c45 => ?_) (fun c45 => ?_)
            ·
              refine OK.seq ?_
              refine OK.reg ?_
              refine RK.c (S.assign .none rfl (.cint rfl)) ?_
              refine RK.nil ?_
              refine Ab.D.code ?_
              refine OK.ret (Ret.r1 (.tmp rfl rfl (.c (.same rfl) rfl) rfl) ?_)
              exact ret_i (lots0_at (by omega) hg (by omega) (lotE_2 hnn c38 (by omega)) (by decide))
            ·
              refine OK.skip ?_
              refine Ab.D.blk ?_
              refine Ab.D.code ?_
              refine OK.reg ?_
              refine RK.c (S.move .none rfl (.tmp rfl rfl)) ?_
              refine RK.c (S.add .none rfl (.tmp rfl rfl) (.cint rfl) (IntWalk.i64_in _ (by omega)) (IntWalk.i64_in _ (by omega))) ?_
              refine RK.c (S.assign .none rfl (.tmp rfl rfl)) ?_
              refine RK.nil ?_
              refine Ab.D.lp ⟨i + 1, ⟨by omega, each_on hg (by omega) (lotE_0 hnn c38 (by omega))⟩, (by omega), rfl, rfl, trivial⟩
    ·
      refine OK.exit rfl ?_
      refine Ab.D.code ?_
      refine OK.seq ?_
      refine OK.reg ?_
      refine RK.c (S.assign .none rfl (.cint rfl)) ?_
      refine RK.nil ?_
      refine Ab.D.code ?_
      refine OK.ret (Ret.r1 (.tmp rfl rfl (.c (.same rfl) rfl) rfl) ?_)
      exact ret_i (lots0_end (by omega) hg (by omega))
theorem ref9_CapacityErr {cap : Int} : Ct Tryz.prog 36 [.int .i64 cap] (.int .i64 (unlessE (decide (1 ≤ cap ∧ cap ≤ 1000)) 2)) := by
  refine Ct.intro (rs := [.tmp 2]) Tryz.func36 rfl Tryz.ntmps36 Tryz.results36 rfl rfl rfl fun w h => ?_
  refine OK.seq ?_
  refine OK.reg ?_
  refine RK.c (S.assign .none rfl (.cint rfl)) ?_
  refine RK.nil ?_
  refine Ab.D.code ?_
  refine OK.seq ?_
  refine OK.seq ?_
  refine OK.reg ?_
  refine RK.c (S.move .none rfl (.tmp rfl rfl)) ?_
  refine RK.c (S.call (base_Within) Tryz.call43 .none rfl (.cons (.tmp rfl rfl) (.cons (.cint rfl) (.cons (.cint rfl) .nil))) rfl) ?_
  refine RK.c (S.notD .none rfl (.tmp rfl rfl)) ?_
  refine RK.nil ?_
  refine Ab.D.code ?_
  refine OK.condD rfl rfl (fun c5 => ?_) (fun c5 => ?_)
  ·
    refine OK.seq ?_
    refine OK.reg ?_
    refine RK.c (S.assign .none rfl (.cint rfl)) ?_
    refine RK.nil ?_
    refine Ab.D.code ?_
    refine OK.ret (Ret.r1 (.tmp rfl rfl (.c (.same rfl) rfl) rfl) ?_)
    refine ret_i ?_
    rw [decide_eq_false (by omega)]
    rfl
  ·
    refine OK.skip ?_
    refine Ab.D.code ?_
    refine OK.seq ?_
    refine OK.reg ?_
    refine RK.c (S.assign .none rfl (.cint rfl)) ?_
    refine RK.nil ?_
    refine Ab.D.code ?_
    refine OK.ret (Ret.r1 (.tmp rfl rfl (.c (.same rfl) rfl) rfl) ?_)
    refine ret_i ?_
    rw [decide_eq_true (by omega)]
    rfl
end Go.Proofs.YtpfepjgnojfppaaGreatDoor
