import Derived.Test.YtpfepjgnojfppaaGreatDoorGh
import Derived.Test.YtpfepjgnojfppaaGreatDoorKs
import Derived.Test.YtpfepjgnojfppaaGreatDoorTz
namespace Go.Proofs.YtpfepjgnojfppaaGreatDoor
open Go.Ab
def wSum (p : List UInt8 → Bool) : List Share → Int
  | [] => 0
  | s :: r => (if p s.lot = true then s.parts else 0) + wSum p r
theorem wSum_app (p : List UInt8 → Bool) : ∀ a b : List Share, wSum p (a ++ b) = wSum p a + wSum p b
  | [], b => by simp [wSum]
  | s :: a, b => by
    have := wSum_app p a b
    rw [List.cons_append]
    simp only [wSum]
    omega
def lotW (p : List UInt8 → Bool) : List Lot → Int
  | [] => 0
  | x :: r => (if p x.name = true then x.parts else 0) + lotW p r
def totP : List Lot → Int
  | [] => 0
  | x :: r => x.parts + totP r
abbrev Q := List Basket × Option (List Share) × Int
def allO (q : Q) : List Share := allS q.1 ++ q.2.1.getD []
theorem allO_fill (cl : List Basket) (sh : List Share) (r : Int) : allO (fillN cl sh r) = allS cl ++ sh := by
  unfold fillN allO
  split
  · simp [allS_snoc]
  · simp
structure GoodB (l : List Lot) (cap : Int) (sh : List Share) (h : List UInt8) : Prop where
  ne : sh ≠ []
  sum : sumP sh ≤ cap
  rng : ∀ s ∈ sh, 1 ≤ s.parts ∧ s.parts ≤ 1000
  dis : sh.Pairwise fun a b => a.lot ≠ b.lot
  heat : ∀ s ∈ sh, ∃ x ∈ l, x.name = s.lot ∧ x.heat = h
structure Fill (l : List Lot) (cap : Int) (h : List UInt8) (B : Nat) (T : Int) (q : Q) : Prop where
  room : 0 ≤ q.2.2 ∧ q.2.2 < cap
  opn : q.2.2 = 0 ↔ q.2.1 = none
  cnt : (outN q.1 q.2.1 : Int) * cap = (B : Int) * cap + T + q.2.2
  cl : ∀ b ∈ q.1, ∃ h, GoodB l cap b.shares h
  op : ∀ sh, q.2.1 = some sh → GoodB l cap sh h ∧ sumP sh = cap - q.2.2
theorem fill_one {l : List Lot} {cap : Int} {h : List UInt8} {B : Nat} {T left : Int} {q : Q} (hc : 1 ≤ cap ∧ cap ≤ 1000) (hq : Fill l cap h B T q) (hl : 0 < left) {x : Lot} (hx : x ∈ l) (hh : x.heat = h) (hn : ∀ s ∈ q.2.1.getD [], s.lot ≠ x.name) {m : Int} (hm : m = minO left (roomT cap q.2.2)) :
    Fill l cap h B (T + m) (fillN q.1 (q.2.1.getD [] ++ [⟨x.name, m⟩]) (roomT cap q.2.2 - m)) ∧ (0 < left - m → (fillN q.1 (q.2.1.getD [] ++ [⟨x.name, m⟩]) (roomT cap q.2.2 - m)).2.1 = none) := by
  obtain ⟨h1, h2, h3, h4, h5⟩ := hq
  obtain ⟨m1, m2, m3⟩ := room_min (cap := cap) (by omega) h1.1 hl
  rw [← hm] at m1 m2 m3
  have hr : 1 ≤ roomT cap q.2.2 ∧ roomT cap q.2.2 ≤ cap := by unfold roomT; split <;> omega
  have hg : GoodB l cap (q.2.1.getD [] ++ [⟨x.name, m⟩]) h ∧ sumP (q.2.1.getD [] ++ [⟨x.name, m⟩]) = cap - (roomT cap q.2.2 - m) ∧ ((q.1.length + 1 : Nat) : Int) * cap = (B : Int) * cap + (T + m) + (roomT cap q.2.2 - m) := by
    cases ho : q.2.1 with
    | none =>
      have hz := h2.2 ho
      have hrc : roomT cap q.2.2 = cap := if_pos hz
      rw [hrc]
      simp only [Option.getD_none, List.nil_append]
      refine ⟨⟨by simp, by simp [sumP]; omega, fun s hs => ?_, List.pairwise_singleton _ _, fun s hs => ?_⟩, by simp [sumP]; omega, ?_⟩
      · rw [List.mem_singleton] at hs; subst hs; exact ⟨m1, by show m ≤ 1000; omega⟩
      · rw [List.mem_singleton] at hs; subst hs; exact ⟨x, hx, rfl, hh⟩
      · rw [ho] at h3
        simp only [outN, optB, List.length_nil, Nat.add_zero] at h3
        rw [Int.natCast_add, Int.add_mul]
        simp only [Int.natCast_one, Int.one_mul]
        omega
    | some sh =>
      obtain ⟨g1, g2⟩ := h5 sh ho
      have hz : q.2.2 ≠ 0 := fun e => by rw [h2.1 e] at ho; cases ho
      have hrc : roomT cap q.2.2 = q.2.2 := if_neg hz
      rw [hrc] at m2 ⊢
      rw [ho] at hn
      simp only [Option.getD_some] at hn ⊢
      refine ⟨⟨by simp, by rw [sumP_snoc, g2]; show cap - q.2.2 + m ≤ cap; omega, fun s hs => ?_, ?_, fun s hs => ?_⟩, by rw [sumP_snoc, g2]; show cap - q.2.2 + m = _; omega, ?_⟩
      · rcases List.mem_append.1 hs with hs | hs
        · exact g1.rng s hs
        · rw [List.mem_singleton] at hs; subst hs; exact ⟨m1, by show m ≤ 1000; omega⟩
      · rw [List.pairwise_append]
        refine ⟨g1.dis, List.pairwise_singleton _ _, fun a ha b hb => ?_⟩
        rw [List.mem_singleton] at hb
        subst hb
        exact hn a ha
      · rcases List.mem_append.1 hs with hs | hs
        · exact g1.heat s hs
        · rw [List.mem_singleton] at hs; subst hs; exact ⟨x, hx, rfl, hh⟩
      · rw [ho] at h3
        simp only [outN, optB, List.length_singleton] at h3
        omega
  obtain ⟨g1, g2, g3⟩ := hg
  unfold fillN
  by_cases hz : roomT cap q.2.2 - m = 0
  · rw [if_pos hz]
    refine ⟨⟨by show 0 ≤ (0 : Int) ∧ (0 : Int) < cap; omega, ⟨fun _ => rfl, fun _ => rfl⟩, ?_, fun b hb => ?_, fun sh hs => by cases hs⟩, fun _ => rfl⟩
    · simp only [outN, optB, List.length_append, List.length_singleton, List.length_nil, Nat.add_zero]
      omega
    · rcases List.mem_append.1 hb with hb | hb
      · exact h4 b hb
      · rw [List.mem_singleton] at hb; subst hb; exact ⟨h, g1⟩
  · rw [if_neg hz]
    refine ⟨⟨by show 0 ≤ roomT cap q.2.2 - m ∧ roomT cap q.2.2 - m < cap; omega, ⟨fun e => absurd e hz, fun e => by cases e⟩, ?_, h4, fun sh hs => ?_⟩, fun hlm => ?_⟩
    · simp only [outN, optB, List.length_singleton]
      omega
    · cases hs
      exact ⟨g1, g2⟩
    · exfalso
      unfold minO at hm
      split at hm <;> omega
theorem fillGo_fill {l : List Lot} {cap : Int} {h : List UInt8} (hc : 1 ≤ cap ∧ cap ≤ 1000) {x : Lot} (hx : x ∈ l) (hh : x.heat = h) {B : Nat} : ∀ (f : Nat) (left T : Int) (q : Q), Fill l cap h B T q → 0 ≤ left → left ≤ (f : Int) → (0 < left → ∀ s ∈ q.2.1.getD [], s.lot ≠ x.name) →
    Fill l cap h B (T + left) (fillGo cap x.name f left q) ∧ (∀ p : List UInt8 → Bool, wSum p (allO (fillGo cap x.name f left q)) = wSum p (allO q) + if p x.name = true then left else 0) ∧ (∀ s ∈ (fillGo cap x.name f left q).2.1.getD [], s.lot = x.name ∨ s ∈ q.2.1.getD [])
  | 0, left, T, q, hq, h0, hf, hn => by
    have : left = 0 := by omega
    subst this
    refine ⟨?_, fun p => ?_, fun s hs => .inr hs⟩
    · rw [Int.add_zero]; exact hq
    · show wSum p (allO q) = _; split <;> omega
  | f + 1, left, T, q, hq, h0, hf, hn => by
    rw [fillGo]
    by_cases hl : left ≤ 0
    · rw [if_pos hl]
      have : left = 0 := by omega
      subst this
      refine ⟨by rw [Int.add_zero]; exact hq, fun p => by split <;> omega, fun s hs => .inr hs⟩
    · rw [if_neg hl]
      obtain ⟨m, hm⟩ : ∃ m, m = minO left (roomT cap q.2.2) := ⟨_, rfl⟩
      rw [← hm]
      obtain ⟨m1, m2, m3⟩ := room_min (cap := cap) (by omega) hq.room.1 (show 0 < left by omega)
      rw [← hm] at m1 m2 m3
      obtain ⟨g1, g2⟩ := fill_one hc hq (by omega) hx hh (hn (by omega)) hm
      obtain ⟨k1, k2, k3⟩ := fillGo_fill hc hx hh f (left - m) (T + m) _ g1 (by omega) (by omega) (fun q1 s hs => by rw [g2 q1] at hs; cases hs)
      refine ⟨by rw [show T + left = T + m + (left - m) by omega]; exact k1, fun p => ?_, fun s hs => ?_⟩
      · rw [k2 p, allO_fill]
        have e1 : wSum p (allS q.1 ++ (q.2.1.getD [] ++ [⟨x.name, m⟩])) = wSum p (allO q) + if p x.name = true then m else 0 := by
          unfold allO
          rw [← List.append_assoc, wSum_app]
          simp [wSum]
        rw [e1]
        split <;> omega
      · rcases k3 s hs with h | h
        · exact .inl h
        · unfold fillN at h
          split at h
          · cases h
          · rcases List.mem_append.1 h with h | h
            · exact .inr h
            · rw [List.mem_singleton] at h; subst h; exact .inl rfl
theorem lots_fill {l : List Lot} {cap : Int} {h : List UInt8} (hc : 1 ≤ cap ∧ cap ≤ 1000) {B : Nat} : ∀ (own : List Lot) (T : Int) (q : Q), Fill l cap h B T q → (∀ x ∈ own, x ∈ l ∧ x.heat = h ∧ 1 ≤ x.parts) → own.Pairwise (fun a b => a.name ≠ b.name) → (∀ s ∈ q.2.1.getD [], ∀ x ∈ own, s.lot ≠ x.name) →
    Fill l cap h B (T + totP own) (own.foldl (lotT cap) q) ∧ ∀ p : List UInt8 → Bool, wSum p (allO (own.foldl (lotT cap) q)) = wSum p (allO q) + lotW p own
  | [], T, q, hq, _, _, _ => ⟨by rw [totP, Int.add_zero]; exact hq, fun p => by simp [lotW]⟩
  | x :: own, T, q, hq, ho, hp, hn => by
    rw [List.pairwise_cons] at hp
    have hx := ho x List.mem_cons_self
    obtain ⟨g1, g2, g3⟩ := fillGo_fill hc hx.1 hx.2.1 x.parts.toNat x.parts T q hq (by omega) (by omega) (fun _ s hs => hn s hs x List.mem_cons_self)
    obtain ⟨k1, k2⟩ := lots_fill hc own (T + x.parts) (lotT cap q x) g1 (fun y hy => ho y (List.mem_cons_of_mem _ hy)) hp.2 (fun s hs y hy => by
      rcases g3 s hs with h | h
      · rw [h]; exact hp.1 y hy
      · exact hn s h y (List.mem_cons_of_mem _ hy))
    rw [List.foldl_cons]
    refine ⟨by rw [totP, ← Int.add_assoc]; exact k1, fun p => ?_⟩
    rw [k2 p]
    have := g2 p
    show wSum p (allO (lotT cap q x)) + lotW p own = wSum p (allO q) + ((if p x.name = true then x.parts else 0) + lotW p own)
    unfold lotT
    rw [this]
    omega
def ceilB (a cap : Int) : Int := -((-a) / cap)
theorem ceil_of {n cap a r : Int} (hc : 1 ≤ cap) (h : n * cap = a + r) (hr : 0 ≤ r ∧ r < cap) : ceilB a cap = n := by
  unfold ceilB
  have h1 : -a = r + (-n) * cap := by rw [Int.neg_mul]; omega
  rw [h1, Int.add_mul_ediv_right _ _ (by omega), Int.ediv_eq_zero_of_lt hr.1 hr.2]
  omega
theorem round_fill {l : List Lot} {cap : Int} {h : List UInt8} (hc : 1 ≤ cap ∧ cap ≤ 1000) {out : List Basket} {own : List Lot} (hout : ∀ b ∈ out, ∃ h, GoodB l cap b.shares h) (ho : ∀ x ∈ own, x ∈ l ∧ x.heat = h ∧ 1 ≤ x.parts) (hp : own.Pairwise (fun a b => a.name ≠ b.name)) :
    (∀ b ∈ roundT cap out own, ∃ h, GoodB l cap b.shares h) ∧ ((roundT cap out own).length : Int) = out.length + ceilB (totP own) cap ∧ ∀ p : List UInt8 → Bool, wSum p (allS (roundT cap out own)) = wSum p (allS out) + lotW p own := by
  have hq0 : Fill l cap h out.length 0 (out, none, 0) := ⟨by show 0 ≤ (0 : Int) ∧ (0 : Int) < cap; omega, ⟨fun _ => rfl, fun _ => rfl⟩, by simp [outN, optB], hout, fun sh hs => by cases hs⟩
  obtain ⟨g1, g2⟩ := lots_fill hc own 0 _ hq0 ho hp (fun s hs => by cases hs)
  rw [Int.zero_add] at g1
  unfold roundT
  obtain ⟨q, hq⟩ : ∃ q, q = own.foldl (lotT cap) (out, none, 0) := ⟨_, rfl⟩
  rw [← hq] at g1 g2 ⊢
  refine ⟨fun b hb => ?_, ?_, fun p => ?_⟩
  · rcases List.mem_append.1 hb with hb | hb
    · exact g1.cl b hb
    · cases hop : q.2.1 with
      | none => rw [hop] at hb; cases hb
      | some sh =>
        rw [hop] at hb
        simp only [optB, List.mem_singleton] at hb
        subst hb
        exact ⟨h, (g1.op sh hop).1⟩
  · have h1 := g1.cnt
    have h2 : (((q.1 ++ optB q.2.1).length : Nat) : Int) = (outN q.1 q.2.1 : Int) := by rw [List.length_append]; rfl
    rw [h2]
    have h3 := ceil_of (n := (outN q.1 q.2.1 : Int) - out.length) (cap := cap) (a := totP own) (r := q.2.2) (by omega) (by rw [Int.sub_mul]; omega) g1.room
    omega
  · have e : allS (q.1 ++ optB q.2.1) = allO q := by
      unfold allO
      rw [allS_app]
      cases q.2.1 <;> simp [optB, allS]
    rw [e, g2 p]
    congr 1
    simp [allO]
def lotF (p : List UInt8 → Bool) (d : List (List UInt8)) : List Lot → Int
  | [] => 0
  | x :: r => (if x.heat ∈ d then 0 else if p x.name = true then x.parts else 0) + lotF p d r
theorem lotF_split (p : List UInt8 → Bool) (d : List (List UInt8)) (h : List UInt8) (hd : h ∉ d) : ∀ r : List Lot, lotF p d r = lotW p (r.filter fun y => !decide (y.heat ≠ h)) + lotF p (d ++ [h]) r
  | [] => rfl
  | x :: r => by
    have ih := lotF_split p d h hd r
    simp only [lotF]
    rw [ih]
    by_cases e : x.heat = h
    · have h1 : (x :: r).filter (fun y => !decide (y.heat ≠ h)) = x :: r.filter fun y => !decide (y.heat ≠ h) := by rw [List.filter_cons]; simp [e]
      rw [h1]
      simp only [lotW]
      rw [if_neg (show ¬ x.heat ∈ d by rw [e]; exact hd), if_pos (show x.heat ∈ d ++ [h] by rw [e]; simp)]
      omega
    · have h1 : (x :: r).filter (fun y => !decide (y.heat ≠ h)) = r.filter fun y => !decide (y.heat ≠ h) := by rw [List.filter_cons]; simp [e]
      rw [h1]
      by_cases e2 : x.heat ∈ d
      · rw [if_pos e2, if_pos (show x.heat ∈ d ++ [h] by simp [e2])]; omega
      · rw [if_neg e2, if_neg (show ¬ x.heat ∈ d ++ [h] by simp [e2, e])]; omega
def needT (cap : Int) : List (List Lot) → Int
  | [] => 0
  | own :: L => ceilB (totP own) cap + needT cap L
theorem rounds_fill {l : List Lot} {cap : Int} (hc : 1 ≤ cap ∧ cap ≤ 1000) : ∀ (r : List Lot) (d : List (List UInt8)) (out : List Basket), (∀ b ∈ out, ∃ h, GoodB l cap b.shares h) → (∀ x ∈ r, x ∈ l ∧ 1 ≤ x.parts) → r.Pairwise (fun a b => a.name ≠ b.name) →
    (∀ b ∈ (heatGo d r).foldl (roundT cap) out, ∃ h, GoodB l cap b.shares h) ∧ (((heatGo d r).foldl (roundT cap) out).length : Int) = out.length + needT cap (heatGo d r) ∧ ∀ p : List UInt8 → Bool, wSum p (allS ((heatGo d r).foldl (roundT cap) out)) = wSum p (allS out) + lotF p d r
  | [], d, out, h, _, _ => ⟨h, by simp [heatGo, needT], fun p => by simp [heatGo, lotF]⟩
  | x :: r, d, out, h, hr, hp => by
    rw [heatGo]
    by_cases hd : x.heat ∈ d
    · rw [if_pos hd]
      obtain ⟨k1, k2, k3⟩ := rounds_fill hc r d out h (fun y hy => hr y (List.mem_cons_of_mem _ hy)) (List.pairwise_cons.1 hp).2
      refine ⟨k1, k2, fun p => ?_⟩
      rw [k3 p]
      simp only [lotF]
      rw [if_pos hd]
      omega
    · rw [if_neg hd]
      obtain ⟨own, hown⟩ : ∃ own, own = (x :: r).filter fun y => !decide (y.heat ≠ x.heat) := ⟨_, rfl⟩
      rw [← hown]
      have ho : ∀ y ∈ own, y ∈ l ∧ y.heat = x.heat ∧ 1 ≤ y.parts := fun y hy => by
        rw [hown] at hy
        obtain ⟨h1, h2⟩ := List.mem_filter.1 hy
        exact ⟨(hr y h1).1, by simpa using h2, (hr y h1).2⟩
      have hpo : own.Pairwise (fun a b => a.name ≠ b.name) := by rw [hown]; exact hp.filter _
      obtain ⟨g1, g2, g3⟩ := round_fill hc h ho hpo
      obtain ⟨k1, k2, k3⟩ := rounds_fill hc r (d ++ [x.heat]) (roundT cap out own) g1 (fun y hy => hr y (List.mem_cons_of_mem _ hy)) (List.pairwise_cons.1 hp).2
      rw [List.foldl_cons]
      refine ⟨k1, by rw [k2, g2, needT]; omega, fun p => ?_⟩
      rw [k3 p, g3 p, lotF_split p d x.heat hd (x :: r), ← hown]
      have : lotF p (d ++ [x.heat]) (x :: r) = lotF p (d ++ [x.heat]) r := by
        simp only [lotF]
        rw [if_pos (by simp)]
        omega
      rw [this]
      omega
theorem lotF_nil (p : List UInt8 → Bool) : ∀ r : List Lot, lotF p [] r = lotW p r
  | [] => rfl
  | x :: r => by
    have := lotF_nil p r
    simp only [lotF, lotW]
    rw [if_neg (by simp)]
    omega
theorem names_pw {l : List Lot} {cap : Int} (h : lotsE l cap = 0) : l.Pairwise (fun a b => a.name ≠ b.name) := by
  rw [List.pairwise_iff_getElem]
  exact lots_names h
theorem baskets_are {l : List Lot} {cap : Int} (h : lotsE l cap = 0) : (∀ b ∈ basketsT l cap, ∃ h, GoodB l cap b.shares h) ∧ ((basketsT l cap).length : Int) = needT cap (heatsT l) ∧ ∀ p : List UInt8 → Bool, wSum p (allS (basketsT l cap)) = lotW p l := by
  have hok := lots_ok h
  obtain ⟨k1, k2, k3⟩ := rounds_fill (l := l) hok.cap l [] [] (fun b hb => by cases hb) (fun x hx => ⟨hx, (hok.parts x hx).1⟩) (names_pw h)
  refine ⟨k1, by rw [show basketsT l cap = (heatGo [] l).foldl (roundT cap) [] from rfl, k2]; simp [heatsT], fun p => ?_⟩
  rw [show basketsT l cap = (heatGo [] l).foldl (roundT cap) [] from rfl, k3 p, lotF_nil]
  simp [allS, wSum]
def lotsE0 (l : List Lot) : Int := if 8 < l.length then 8 else (eachGo (lotE l) 0 l).2
theorem lotsE_eq (l : List Lot) (cap : Int) : lotsE l cap = if lotsE0 l ≠ 0 then lotsE0 l else unlessE (decide (1 ≤ cap ∧ cap ≤ 1000)) 2 := by
  unfold lotsE lotsE0
  by_cases h : 8 < l.length
  · rw [if_pos h, if_pos h, if_pos (by decide)]
  · rw [if_neg h, if_neg h]
theorem three_E (a b : Bool) (p : Prop) [Decidable p] : firstE [unlessE a 4, unlessE (!b) 5, unlessE (decide p) 2] = if a = true then if b = true then 5 else if p then 0 else 2 else 4 := by
  by_cases hp : p <;> cases a <;> cases b <;> simp [firstE3, unlessE, hp]
theorem lotE_eq (l : List Lot) (i : Nat) (x : Lot) : lotE l i x = if (nameOk x.name && nameOk x.heat) = true then if ((l.take i).any fun o => decide (o.name = x.name)) = true then 5 else if 1 ≤ x.parts ∧ x.parts ≤ 1000 then 0 else 2 else 4 := three_E _ _ _
theorem lotE_4 {l : List Lot} {i : Nat} {x : Lot} (h : (nameOk x.name && nameOk x.heat) = false) : lotE l i x = 4 := by rw [lotE_eq, h]; rfl
theorem any_lot (l : List Lot) (n : List UInt8) : (l.any fun o => decide (o.name = n)) = decide (lotIx l n ≥ 0) := (idxGo_any (fun o : Lot => decide (o.name = n)) l 0).symm
theorem lotE_5 {l : List Lot} {i : Nat} {x : Lot} (h : (nameOk x.name && nameOk x.heat) = true) (h2 : lotIx (l.take i) x.name ≥ 0) : lotE l i x = 5 := by rw [lotE_eq, if_pos h, if_pos (by rw [any_lot]; exact decide_eq_true h2)]
theorem lotE_2 {l : List Lot} {i : Nat} {x : Lot} (h : (nameOk x.name && nameOk x.heat) = true) (h2 : ¬ lotIx (l.take i) x.name ≥ 0) (h3 : ¬ (1 ≤ x.parts ∧ x.parts ≤ 1000)) : lotE l i x = 2 := by rw [lotE_eq, if_pos h, if_neg (by rw [any_lot, decide_eq_false h2]; decide), if_neg h3]
theorem lotE_0 {l : List Lot} {i : Nat} {x : Lot} (h : (nameOk x.name && nameOk x.heat) = true) (h2 : ¬ lotIx (l.take i) x.name ≥ 0) (h3 : 1 ≤ x.parts ∧ x.parts ≤ 1000) : lotE l i x = 0 := by rw [lotE_eq, if_pos h, if_neg (by rw [any_lot, decide_eq_false h2]; decide), if_pos h3]
theorem lots0_at {l : List Lot} {i : Nat} {e : Int} (h8 : ¬ 8 < l.length) (hg : eachGo (lotE l) 0 l = eachGo (lotE l) i (l.drop i)) (hi : i < l.length) (he : lotE l i l[i] = e) (h0 : e ≠ 0) : e = lotsE0 l := by unfold lotsE0; rw [if_neg h8, each_at hg hi he h0]
theorem lots0_end {l : List Lot} {i : Nat} (h8 : ¬ 8 < l.length) (hg : eachGo (lotE l) 0 l = eachGo (lotE l) i (l.drop i)) (hi : i = l.length) : 0 = lotsE0 l := by unfold lotsE0; rw [if_neg h8, each_end hg hi]
def fewL (l : List Lot) : Bool := decide (l.length ≤ 10) && l.all fun x => decide (x.name.length ≤ 30 ∧ x.heat.length ≤ 30)
def fS (s : Share) : Bool := decide (s.lot.length ≤ 30)
def fB (b : Basket) : Bool := decide (b.shares.length ≤ 10) && b.shares.all fS
def fewB (l : List Basket) : Bool := decide (l.length ≤ 65) && l.all fB
theorem fewB_len {bs : List Basket} (h : fewB bs = true) : bs.length ≤ 65 ∧ ∀ b ∈ bs, b.shares.length ≤ 10 := by
  unfold fewB at h
  rw [Bool.and_eq_true] at h
  refine ⟨of_decide_eq_true h.1, fun b hb => ?_⟩
  have := List.all_eq_true.1 h.2 b hb
  unfold fB at this
  rw [Bool.and_eq_true] at this
  exact of_decide_eq_true this.1
theorem fB_T {b : Basket} {k : Nat} (h1 : b.shares.length ≤ 10) (hg : b.shares.all fS = (b.shares.drop k).all fS) (hk : k = b.shares.length) : fB b = true := by unfold fB; rw [decide_eq_true h1, hg, hk, List.drop_length]; rfl
theorem fB_10 {b : Basket} (h : ¬ b.shares.length ≤ 10) : fB b = false := by unfold fB; rw [decide_eq_false h]; rfl
theorem fB_30 {b : Basket} {k : Nat} (hk : k < b.shares.length) (hg : b.shares.all fS = (b.shares.drop k).all fS) (h : ¬ b.shares[k].lot.length ≤ 30) : fB b = false := by
  unfold fB
  rw [hg, all_dropG _ hk, show fS b.shares[k] = false from decide_eq_false h]
  simp
theorem fewB_at {l : List Basket} {i : Nat} (hg : l.all fB = (l.drop i).all fB) (hi : i < l.length) (h : fB l[i] = false) : false = fewB l := by unfold fewB; rw [hg, all_dropG _ hi, h, Bool.false_and, Bool.and_false]
theorem fewB_end {l : List Basket} {i : Nat} (h65 : l.length ≤ 65) (hg : l.all fB = (l.drop i).all fB) (hi : i = l.length) : true = fewB l := by unfold fewB; rw [hg, hi, List.drop_length, decide_eq_true h65]; rfl
theorem chk_at {l : List Lot} {cap : Int} {bs : List Basket} {i : Nat} {e : Int} (hb : ¬ 60 < bs.length) (hg : eachGo (fun _ b => basketE l cap b) 0 bs = eachGo (fun _ b => basketE l cap b) i (bs.drop i)) (hi : i < bs.length) (he : basketE l cap bs[i] = e) (h0 : e ≠ 0) : e = chkB l cap bs := by
  unfold chkB
  rw [if_neg hb, each_at hg hi he h0, if_pos h0]
theorem chk_fin {l : List Lot} {cap : Int} {bs : List Basket} {i : Nat} (hb : ¬ 60 < bs.length) (hg : eachGo (fun _ b => basketE l cap b) 0 bs = eachGo (fun _ b => basketE l cap b) i (bs.drop i)) (hi : i = bs.length) : chkB l cap bs = if short l (allS bs) = true then 19 else 0 := by
  unfold chkB
  rw [if_neg hb, each_end hg hi, if_neg (by decide)]
theorem held_nil (l : List Lot) : List.replicate l.length [X.int .i64 0] = (heldT l []).map fun n => [X.int .i64 n] := by
  unfold heldT
  rw [List.map_map]
  exact (List.map_const ..).symm
theorem held_store {l : List Lot} {cap : Int} (h : lotsE l cap = 0) {S : List Share} {s : Share} {i : Nat} (hi : i < l.length) (hn : l[i].name = s.lot) : ((heldT l S).map fun n => [X.int .i64 n]).set i [X.int .i64 (nameSum l[i].name S + s.parts)] = (heldT l (S ++ [s])).map fun n => [X.int .i64 n] := by rw [← held_set (lots_names h) hi hn, List.map_set]
theorem held_get {l : List Lot} {S : List Share} {i : Nat} (hi : i < l.length) : ((heldT l S).map fun n => [X.int .i64 n]).flatten[i * 1]? = some (X.int .i64 (nameSum l[i].name S)) := by
  have hf : ∀ L : List Int, (L.map fun n => [X.int .i64 n]).flatten = L.map (X.int .i64) := fun L => by
    induction L with
    | nil => rfl
    | cons n L ih => rw [List.map_cons, List.flatten_cons, ih]; rfl
  rw [hf, Nat.mul_one, List.getElem?_map, List.getElem?_eq_getElem (by rw [held_len]; exact hi), held_at hi]
  rfl
theorem any_take_T {S : List Share} {m k : Nat} (hm : m < k) (hk : k < S.length) (h : S[m].lot = S[k].lot) : ((S.take k).any fun o => decide (o.lot = S[k].lot)) = true := List.any_eq_true.2 ⟨S[m], List.mem_take_iff_getElem.2 ⟨m, by omega, rfl⟩, decide_eq_true h⟩
theorem any_take_F {S : List Share} {m k : Nat} (hm : m < S.length) (hk : k < S.length) (hg : ((S.take m).any fun o => decide (o.lot = S[k].lot)) = false) (h : ¬ S[m].lot = S[k].lot) : ((S.take (m + 1)).any fun o => decide (o.lot = S[k].lot)) = false := by
  rw [List.take_succ_eq_append_getElem hm, List.any_append, hg]
  simp [h]
theorem short_T {l : List Lot} {S : List Share} {j : Nat} (hj : j < l.length) (h : nameSum l[j].name S ≠ l[j].parts) : short l S = true := by
  cases hs : short l S with
  | true => rfl
  | false => exact absurd ((short_held l S).1 hs j hj) h
def nowX : Option (List Share) → X
  | none => .box [.nils]
  | some sh => .box [.own 871 sh.length]
theorem hasText_mem {ks : List (List UInt8)} {s : List UInt8} : hasText ks s = true ↔ s ∈ ks := by
  unfold hasText
  rw [List.any_eq_true]
  constructor
  · rintro ⟨x, hx, h⟩
    rw [of_decide_eq_true h]; exact hx
  · intro h
    exact ⟨s, h, decide_eq_true rfl⟩
def seg (l : List Lot) (i k : Nat) : List Lot := ((l.take k).drop i).filter fun y => !decide (y.heat ≠ (l.getD i ⟨[], [], 0⟩).heat)
theorem seg_0 (l : List Lot) (i : Nat) : seg l i i = [] := by unfold seg; rw [List.drop_eq_nil_of_le (by simp; omega)]; rfl
theorem seg_T {l : List Lot} {i k : Nat} (hi : i ≤ k) (hk : k < l.length) (h : l[k].heat = l[i].heat) : seg l i (k + 1) = seg l i k ++ [l[k]] := by
  unfold seg
  rw [List.take_succ_eq_append_getElem hk, List.drop_append_of_le_length (by rw [List.length_take]; omega), List.filter_append, getD_at (by omega)]
  congr 1
  simp [h]
theorem seg_F {l : List Lot} {i k : Nat} (hi : i ≤ k) (hk : k < l.length) (h : ¬ l[k].heat = l[i].heat) : seg l i (k + 1) = seg l i k := by
  unfold seg
  rw [List.take_succ_eq_append_getElem hk, List.drop_append_of_le_length (by rw [List.length_take]; omega), List.filter_append, getD_at (by omega)]
  simp [h]
theorem seg_all {l : List Lot} {i : Nat} (h : i < l.length) : seg l i l.length = (l.drop i).filter fun y => !decide (y.heat ≠ l[i].heat) := by unfold seg; rw [List.take_length, getD_at h]
theorem heats_pre {l : List Lot} {ks : List (List UInt8)} {pre : List (List Lot)} {i : Nat} (hD : heatsT l = pre ++ heatGo ks (l.drop i)) : pre = (heatsT l).take pre.length := by rw [hD]; simp
theorem out_bd {l : List Lot} {cap : Int} (hok : LotsOk l cap) {ks : List (List UInt8)} {pre : List (List Lot)} {i : Nat} (hD : heatsT l = pre ++ heatGo ks (l.drop i)) : (pre.foldl (roundT cap) []).length ≤ 100000 := by rw [heats_pre hD]; exact baskets_bd hok _
theorem round_snoc (cap : Int) (pre : List (List Lot)) (own : List Lot) : (pre ++ [own]).foldl (roundT cap) [] = roundT cap (pre.foldl (roundT cap) []) own := by rw [List.foldl_append]; rfl
theorem fold_snoc (cap : Int) (F : List Lot) (x : Lot) (q : List Basket × Option (List Share) × Int) : (F ++ [x]).foldl (lotT cap) q = lotT cap (F.foldl (lotT cap) q) x := by rw [List.foldl_append]; rfl
theorem seg_fT {l : List Lot} {cap : Int} {i k : Nat} {q r : List Basket × Option (List Share) × Int} (hi : i ≤ k) (hk : k < l.length) (h : l[k].heat = l[i].heat) (hf : (seg l i k).foldl (lotT cap) q = r) : (seg l i (k + 1)).foldl (lotT cap) q = lotT cap r l[k] := by rw [seg_T hi hk h, fold_snoc, hf]
theorem seg_fF {l : List Lot} {cap : Int} {i k : Nat} {q r : List Basket × Option (List Share) × Int} (hi : i ≤ k) (hk : k < l.length) (h : ¬ l[k].heat = l[i].heat) (hf : (seg l i k).foldl (lotT cap) q = r) : (seg l i (k + 1)).foldl (lotT cap) q = r := by rw [seg_F hi hk h, hf]
theorem fill_done {cap : Int} {name : List UInt8} {left : Int} {q : List Basket × Option (List Share) × Int} (h : left ≤ 0) (h0 : 0 ≤ left) : fillGo cap name left.toNat left q = q := by
  have : left = 0 := by omega
  subst this
  rfl
theorem room_bd {cap room : Int} (hc : 1 ≤ cap ∧ cap ≤ 1000) (h : 0 ≤ room ∧ room ≤ cap) : 1 ≤ roomT cap room ∧ roomT cap room ≤ cap := by unfold roomT; split <;> omega
theorem fill_T {cap : Int} {name : List UInt8} {left : Int} {cl : List Basket} {op : Option (List Share)} {room : Int} (hc : 1 ≤ cap) (hq : 0 ≤ room) (hl : 0 < left) (hz : roomT cap room - minO left (roomT cap room) = 0) :
    fillGo cap name (left - minO left (roomT cap room)).toNat (left - minO left (roomT cap room)) (cl ++ [⟨op.getD [] ++ [⟨name, minO left (roomT cap room)⟩]⟩], none, 0) = fillGo cap name left.toNat left (cl, op, room) := by
  rw [fill_step (left := left) (q := (cl, op, room)) hc hq hl]
  unfold fillN
  rw [if_pos hz]
theorem fill_F {cap : Int} {name : List UInt8} {left : Int} {cl : List Basket} {op : Option (List Share)} {room : Int} (hc : 1 ≤ cap) (hq : 0 ≤ room) (hl : 0 < left) (hz : ¬ roomT cap room - minO left (roomT cap room) = 0) :
    fillGo cap name (left - minO left (roomT cap room)).toNat (left - minO left (roomT cap room)) (cl, some (op.getD [] ++ [⟨name, minO left (roomT cap room)⟩]), roomT cap room - minO left (roomT cap room)) = fillGo cap name left.toNat left (cl, op, room) := by
  rw [fill_step (left := left) (q := (cl, op, room)) hc hq hl]
  unfold fillN
  rw [if_neg hz]
theorem share_len {l : List Lot} {cap : Int} (h : lotsE l cap = 0) : ∀ b ∈ basketsT l cap, b.shares.length ≤ 100000 := by
  intro b hb
  obtain ⟨ht, hg⟩ := (baskets_are h).1 b hb
  have h1 := sumP_bd hg.rng
  have h2 : ∀ S : List Share, (∀ s ∈ S, 1 ≤ s.parts ∧ s.parts ≤ 1000) → (S.length : Int) ≤ sumP S := by
    intro S
    induction S with
    | nil => intro _; exact Int.le_refl _
    | cons s S ih =>
      intro hs
      have e1 := ih fun x hx => hs x (List.mem_cons_of_mem _ hx)
      have e2 := hs s List.mem_cons_self
      simp only [sumP, List.length_cons]
      omega
  have h3 := h2 b.shares hg.rng
  have h4 := hg.sum
  have h5 := (lots_ok h).cap
  omega
theorem share_pneq {x y : Share} : (!plEq [.s x.lot, .i x.parts] [.s y.lot, .i y.parts]) = decide (x ≠ y) := by
  cases x
  cases y
  simp [plEq, Pl.eq, Share.mk.injEq]
theorem same_len {a b : List Basket} (h : a.length ≠ b.length) : false = decide (a = b) := (decide_eq_false fun e => h (by rw [e])).symm
theorem same_at {a b : List Basket} {i : Nat} (h1 : i < a.length) (h2 : i < b.length) (h : a[i] ≠ b[i]) : false = decide (a = b) := (decide_eq_false fun e => h (by subst e; rfl)).symm
theorem same_at2 {x y : Basket} {k : Nat} (h1 : k < x.shares.length) (h2 : k < y.shares.length) (h : x.shares[k] ≠ y.shares[k]) : x ≠ y := fun e => h (by subst e; rfl)
theorem same_row {x y : Basket} (hl : x.shares.length = y.shares.length) (h : ∀ (k : Nat) (h1 : k < x.shares.length) (h2 : k < y.shares.length), x.shares[k] = y.shares[k]) : x = y := by
  cases x
  cases y
  simp only [Basket.mk.injEq]
  exact List.ext_getElem hl h
theorem same_end {a b : List Basket} (hl : a.length = b.length) (h : ∀ (k : Nat) (h1 : k < a.length) (h2 : k < b.length), a[k] = b[k]) : true = decide (a = b) := (decide_eq_true (List.ext_getElem hl h)).symm
theorem law9_fewLots {l : List Lot} : Ct Tryz.prog 29 [.sl (l.map Lot.cs)] (.bool (fewL l)) := by
  refine Ct.intro (rs := [.tmp 2]) Tryz.func29 rfl Tryz.ntmps29 Tryz.results29 rfl rfl rfl fun w h => ?_
  refine OK.slLen (rows := l.map Lot.cs) (t := 0) rfl rfl fun hlen => ?_
  rw [List.length_map] at hlen
  unfold maxLen at hlen
  refine OK.seq ?_
  refine OK.reg ?_
  refine RK.c (S.assign .none rfl .cbool) ?_
  refine RK.nil ?_
  refine Ab.D.code ?_
  refine OK.seq ?_
  refine OK.seq ?_
  refine OK.reg ?_
  refine RK.c (S.move .none rfl (.tmp rfl rfl)) ?_
  refine RK.c (S.lenM si49 .none rfl (.tmp rfl rfl)) ?_
  refine RK.c (S.gtr .none rfl (.tmp rfl rfl) (.cint rfl)) ?_
  refine RK.nil ?_
  refine Ab.D.code ?_
  refine OK.condD rfl rfl (fun c6 => ?_) (fun c6 => ?_)
  ·
    refine OK.seq ?_
    refine OK.reg ?_
    refine RK.c (S.assign .none rfl .cbool) ?_
    refine RK.nil ?_
    refine Ab.D.code ?_
    refine OK.ret (Ret.r1 (.tmp rfl rfl (.c (.same rfl) rfl) rfl) ?_)
    refine ret_b ?_
    unfold fewL
    rw [decide_eq_false (by omega)]
    rfl
  ·
    refine OK.skip ?_
    refine Ab.D.code ?_
    refine OK.seq ?_
    refine OK.seq ?_
    refine OK.reg ?_
    refine RK.c (S.assign .none rfl (.cint rfl)) ?_
    refine RK.nil ?_
    refine Ab.D.code ?_
    refine OK.block ?_
    refine OK.loop (G := Nat) [] (fun i => [(0, .sl (l.map Lot.cs)), (3, .int .i64 i)]) (fun i => i ≤ l.length ∧ (l.all fun x => decide (x.name.length ≤ 30 ∧ x.heat.length ≤ 30)) = (l.drop i).all fun x => decide (x.name.length ≤ 30 ∧ x.heat.length ≤ 30)) (fun i => l.length - i) 0 ⟨Nat.zero_le _, rfl⟩ ⟨rfl, rfl, trivial⟩ (fun _ => rfl) ?_
    rintro i ⟨hi, hg⟩
    refine OK.seq ?_
    refine OK.seq ?_
    refine OK.reg ?_
    refine RK.c (S.move .none rfl (.tmp rfl rfl)) ?_
    refine RK.c (S.move .none rfl (.tmp rfl rfl)) ?_
    refine RK.c (S.lenM si49 .none rfl (.tmp rfl rfl)) ?_
    refine RK.c (S.lss .none rfl (.tmp rfl rfl) (.tmp rfl rfl)) ?_
    refine RK.nil ?_
    refine Ab.D.code ?_
    refine OK.condD rfl rfl (fun c10 => ?_) (fun c10 => ?_)
    ·
      refine OK.skip ?_
      refine Ab.D.code ?_
      refine OK.seq ?_
      refine OK.block ?_
      refine OK.seq ?_
      refine OK.reg ?_
      refine RK.c (S.move .none rfl (.tmp rfl rfl)) ?_
      refine RK.c (S.move .none rfl (.tmp rfl rfl)) ?_
      refine RK.c (S.indexM (n := i) si49 .none rfl (.tmp rfl rfl) (.tmp rfl rfl) rfl (by omega) rfl) ?_
      refine RK.c (S.field fi66_0 .none rfl (.tmp rfl rfl) rfl) ?_
      refine RK.c (S.load1 ti9 .none rfl (.tmp rfl rfl) rfl) ?_
      refine RK.c (S.slen Tryz.underlying9 .none rfl (.tmp rfl rfl)) ?_
      refine RK.c (S.gtr .none rfl (.tmp rfl rfl) (.cint rfl)) ?_
      refine RK.c (S.move .none rfl (.tmp rfl rfl)) ?_
      refine RK.splitD (t := 20) rfl (fun g20 => ?_) (fun g20 => ?_)
      ·
        refine RK.c (S.skip rfl rfl rfl rfl rfl) ?_
        refine RK.c (S.skip rfl rfl rfl rfl rfl) ?_
        refine RK.c (S.skip rfl rfl rfl rfl rfl) ?_
        refine RK.c (S.skip rfl rfl rfl rfl rfl) ?_
        refine RK.c (S.skip rfl rfl rfl rfl rfl) ?_
        refine RK.c (S.skip rfl rfl rfl rfl rfl) ?_
        refine RK.c (S.skip rfl rfl rfl rfl rfl) ?_
        refine RK.c (S.pickT .none rfl (.tmp rfl rfl) .cbool rfl) ?_
        refine RK.nil ?_
        refine Ab.D.code ?_
        refine OK.condT rfl rfl rfl ?_
        refine OK.seq ?_
        refine OK.reg ?_
        refine RK.c (S.assign .none rfl .cbool) ?_
        refine RK.nil ?_
        refine Ab.D.code ?_
        refine OK.ret (Ret.r1 (.tmp rfl rfl (.c (.same rfl) rfl) rfl) ?_)
        refine ret_b ?_
        unfold fewL
        rw [hg, all_dropG _ (show i < l.length by omega), decide_eq_false (show ¬ (l[i].name.length ≤ 30 ∧ l[i].heat.length ≤ 30) by omega), Bool.false_and, Bool.and_false]
      ·
        refine RK.c (S.move (.yes rfl rfl rfl rfl) rfl (.tmp rfl rfl)) ?_
        refine RK.c (S.move (.yes rfl rfl rfl rfl) rfl (.tmp rfl rfl)) ?_
        refine RK.c (S.indexM (n := i) si49 (.yes rfl rfl rfl rfl) rfl (.tmp rfl rfl) (.tmp rfl rfl) rfl (by omega) rfl) ?_
        refine RK.c (S.field fi66_1 (.yes rfl rfl rfl rfl) rfl (.tmp rfl rfl) rfl) ?_
        refine RK.c (S.load1 ti9 (.yes rfl rfl rfl rfl) rfl (.tmp rfl rfl) rfl) ?_
        refine RK.c (S.slen Tryz.underlying9 (.yes rfl rfl rfl rfl) rfl (.tmp rfl rfl)) ?_
        refine RK.c (S.gtr (.yes rfl rfl rfl rfl) rfl (.tmp rfl rfl) (.cint rfl)) ?_
        refine RK.c (S.pickF .none rfl (.tmp rfl rfl) (.tmp rfl rfl) rfl) ?_
        refine RK.nil ?_
        refine Ab.D.code ?_
        refine OK.condD rfl rfl (fun c28 => ?_) (fun c28 => ?_)
        ·
          refine OK.seq ?_
          refine OK.reg ?_
          refine RK.c (S.assign .none rfl .cbool) ?_
          refine RK.nil ?_
          refine Ab.D.code ?_
          refine OK.ret (Ret.r1 (.tmp rfl rfl (.c (.same rfl) rfl) rfl) ?_)
          refine ret_b ?_
          unfold fewL
          rw [hg, all_dropG _ (show i < l.length by omega), decide_eq_false (show ¬ (l[i].name.length ≤ 30 ∧ l[i].heat.length ≤ 30) by omega), Bool.false_and, Bool.and_false]
        ·
          refine OK.skip ?_
          refine Ab.D.blk ?_
          refine Ab.D.code ?_
          refine OK.reg ?_
          refine RK.c (S.move .none rfl (.tmp rfl rfl)) ?_
          refine RK.c (S.add .none rfl (.tmp rfl rfl) (.cint rfl) (IntWalk.i64_in _ (by omega)) (IntWalk.i64_in _ (by omega))) ?_
          refine RK.c (S.assign .none rfl (.tmp rfl rfl)) ?_
          refine RK.nil ?_
          refine Ab.D.lp ⟨i + 1, ⟨by omega, ?_⟩, (by omega), rfl, rfl, trivial⟩
          rw [hg, all_dropG _ (by omega), decide_eq_true (by omega), Bool.true_and]
    ·
      refine OK.exit rfl ?_
      refine Ab.D.code ?_
      refine OK.seq ?_
      refine OK.reg ?_
      refine RK.c (S.assign .none rfl .cbool) ?_
      refine RK.nil ?_
      refine Ab.D.code ?_
      refine OK.ret (Ret.r1 (.tmp rfl rfl (.c (.same rfl) rfl) rfl) ?_)
      refine ret_b ?_
      unfold fewL
      rw [hg, show i = l.length by omega, List.drop_length, decide_eq_true (by omega)]
      rfl
theorem law9_fewBaskets {l : List Basket} : Ct Tryz.prog 30 [.sl (l.map Basket.cs)] (.bool (fewB l)) := by
  refine Ct.intro (rs := [.tmp 2]) Tryz.func30 rfl Tryz.ntmps30 Tryz.results30 rfl rfl rfl fun w h => ?_
  refine OK.slLen (rows := l.map Basket.cs) (t := 0) rfl rfl fun hlen => ?_
  rw [List.length_map] at hlen
  unfold maxLen at hlen
  refine OK.seq ?_
  refine OK.reg ?_
  refine RK.c (S.assign .none rfl .cbool) ?_
  refine RK.nil ?_
  refine Ab.D.code ?_
  refine OK.seq ?_
  refine OK.seq ?_
  refine OK.reg ?_
  refine RK.c (S.move .none rfl (.tmp rfl rfl)) ?_
  refine RK.c (S.lenM si50 .none rfl (.tmp rfl rfl)) ?_
  refine RK.c (S.gtr .none rfl (.tmp rfl rfl) (.cint rfl)) ?_
  refine RK.nil ?_
  refine Ab.D.code ?_
  refine OK.condD rfl rfl (fun c7 => ?_) (fun c7 => ?_)
  ·
    refine OK.seq ?_
    refine OK.reg ?_
    refine RK.c (S.assign .none rfl .cbool) ?_
    refine RK.nil ?_
    refine Ab.D.code ?_
    refine OK.ret (Ret.r1 (.tmp rfl rfl (.c (.same rfl) rfl) rfl) ?_)
    refine ret_b ?_
    unfold fewB
    rw [decide_eq_false (by omega)]
    rfl
  ·
    refine OK.skip ?_
    refine Ab.D.code ?_
    refine OK.seq ?_
    refine OK.seq ?_
    refine OK.reg ?_
    refine RK.c (S.assign .none rfl (.cint rfl)) ?_
    refine RK.nil ?_
    refine Ab.D.code ?_
    refine OK.block ?_
    refine OK.loop (G := Nat) [] (fun i => [(0, .sl (l.map Basket.cs)), (3, .int .i64 i)]) (fun i => i ≤ l.length ∧ l.all fB = (l.drop i).all fB) (fun i => l.length - i) 0 ⟨Nat.zero_le _, rfl⟩ ⟨rfl, rfl, trivial⟩ (fun _ => rfl) ?_
    rintro i ⟨hi, hg⟩
    refine OK.seq ?_
    refine OK.seq ?_
    refine OK.reg ?_
    refine RK.c (S.move .none rfl (.tmp rfl rfl)) ?_
    refine RK.c (S.move .none rfl (.tmp rfl rfl)) ?_
    refine RK.c (S.lenM si50 .none rfl (.tmp rfl rfl)) ?_
    refine RK.c (S.lss .none rfl (.tmp rfl rfl) (.tmp rfl rfl)) ?_
    refine RK.nil ?_
    refine Ab.D.code ?_
    refine OK.condD rfl rfl (fun c11 => ?_) (fun c11 => ?_)
    ·
      refine OK.skip ?_
      refine Ab.D.code ?_
      refine OK.seq ?_
      refine OK.block ?_
      refine OK.seq ?_
      refine OK.seq ?_
      refine OK.reg ?_
      refine RK.c (S.move .none rfl (.tmp rfl rfl)) ?_
      refine RK.c (S.move .none rfl (.tmp rfl rfl)) ?_
      refine RK.c (S.indexM (n := i) si50 .none rfl (.tmp rfl rfl) (.tmp rfl rfl) rfl (by omega) rfl) ?_
      refine RK.c (S.field fi71_0 .none rfl (.tmp rfl rfl) rfl) ?_
      refine RK.c (S.load1 ti69 .none rfl (.tmp rfl rfl) rfl) ?_
      refine RK.c (S.lenM si69 .none rfl (.tmp rfl rfl)) ?_
      refine RK.c (S.gtr .none rfl (.tmp rfl rfl) (.cint rfl)) ?_
      refine RK.nil ?_
      refine Ab.D.code ?_
      refine OK.condD rfl rfl (fun c20 => ?_) (fun c20 => ?_)
      ·
        refine OK.seq ?_
        refine OK.reg ?_
        refine RK.c (S.assign .none rfl .cbool) ?_
        refine RK.nil ?_
        refine Ab.D.code ?_
        refine OK.ret (Ret.r1 (.tmp rfl rfl (.c (.same rfl) rfl) rfl) ?_)
        exact ret_b (fewB_at hg (by omega) (fB_10 (by omega)))
      ·
        refine OK.skip ?_
        refine Ab.D.code ?_
        refine OK.seq ?_
        refine OK.reg ?_
        refine RK.c (S.assign .none rfl (.cint rfl)) ?_
        refine RK.nil ?_
        refine Ab.D.code ?_
        refine OK.block ?_
        refine OK.loop (G := Nat) [] (fun k => [(0, .sl (l.map Basket.cs)), (3, .int .i64 i), (4, .int .i64 k)]) (fun k => k ≤ l[i].shares.length ∧ l[i].shares.all fS = (l[i].shares.drop k).all fS) (fun k => l[i].shares.length - k) 0 ⟨Nat.zero_le _, rfl⟩ ⟨rfl, rfl, rfl, trivial⟩ (fun _ => rfl) ?_
        rintro k ⟨hk, hg2⟩
        refine OK.seq ?_
        refine OK.seq ?_
        refine OK.reg ?_
        refine RK.c (S.move .none rfl (.tmp rfl rfl)) ?_
        refine RK.c (S.move .none rfl (.tmp rfl rfl)) ?_
        refine RK.c (S.move .none rfl (.tmp rfl rfl)) ?_
        refine RK.c (S.indexM (n := i) si50 .none rfl (.tmp rfl rfl) (.tmp rfl rfl) rfl (by omega) rfl) ?_
        refine RK.c (S.field fi71_0 .none rfl (.tmp rfl rfl) rfl) ?_
        refine RK.c (S.load1 ti69 .none rfl (.tmp rfl rfl) rfl) ?_
        refine RK.c (S.lenM si69 .none rfl (.tmp rfl rfl)) ?_
        refine RK.c (S.lss .none rfl (.tmp rfl rfl) (.tmp rfl rfl)) ?_
        refine RK.nil ?_
        refine Ab.D.code ?_
        refine OK.condD rfl rfl (fun c28 => ?_) (fun c28 => ?_)
        ·
          refine OK.skip ?_
          refine Ab.D.code ?_
          refine OK.seq ?_
          refine OK.block ?_
          refine OK.seq ?_
          refine OK.reg ?_
          refine RK.c (S.move .none rfl (.tmp rfl rfl)) ?_
          refine RK.c (S.move .none rfl (.tmp rfl rfl)) ?_
          refine RK.c (S.indexM (n := i) si50 .none rfl (.tmp rfl rfl) (.tmp rfl rfl) rfl (by omega) rfl) ?_
          refine RK.c (S.field fi71_0 .none rfl (.tmp rfl rfl) rfl) ?_
          refine RK.c (S.load1 ti69 .none rfl (.tmp rfl rfl) rfl) ?_
          refine RK.c (S.move .none rfl (.tmp rfl rfl)) ?_
          refine RK.c (S.indexM (n := k) si69 .none rfl (.tmp rfl rfl) (.tmp rfl rfl) rfl (by omega) rfl) ?_
          refine RK.c (S.field fi73_0 .none rfl (.tmp rfl rfl) rfl) ?_
          refine RK.c (S.load1 ti9 .none rfl (.tmp rfl rfl) rfl) ?_
          refine RK.c (S.slen Tryz.underlying9 .none rfl (.tmp rfl rfl)) ?_
          refine RK.c (S.gtr .none rfl (.tmp rfl rfl) (.cint rfl)) ?_
          refine RK.nil ?_
          refine Ab.D.code ?_
          refine OK.condD rfl rfl (fun c41 => ?_) (fun c41 => ?_)
          ·
            refine OK.seq ?_
            refine OK.reg ?_
            refine RK.c (S.assign .none rfl .cbool) ?_
            refine RK.nil ?_
            refine Ab.D.code ?_
            refine OK.ret (Ret.r1 (.tmp rfl rfl (.c (.same rfl) rfl) rfl) ?_)
            exact ret_b (fewB_at hg (by omega) (fB_30 (k := k) (by omega) hg2 (by omega)))
          ·
            refine OK.skip ?_
            refine Ab.D.blk ?_
            refine Ab.D.code ?_
            refine OK.reg ?_
            refine RK.c (S.move .none rfl (.tmp rfl rfl)) ?_
            refine RK.c (S.add .none rfl (.tmp rfl rfl) (.cint rfl) (IntWalk.i64_in _ (by omega)) (IntWalk.i64_in _ (by omega))) ?_
            refine RK.c (S.assign .none rfl (.tmp rfl rfl)) ?_
            refine RK.nil ?_
            refine Ab.D.lp ⟨k + 1, ⟨by omega, ?_⟩, (by omega), rfl, rfl, rfl, trivial⟩
            rw [hg2, all_dropG _ (by omega), show fS l[i].shares[k] = true from decide_eq_true (by omega), Bool.true_and]
        ·
          refine OK.exit rfl ?_
          refine Ab.D.blk ?_
          refine Ab.D.code ?_
          refine OK.reg ?_
          refine RK.c (S.move .none rfl (.tmp rfl rfl)) ?_
          refine RK.c (S.add .none rfl (.tmp rfl rfl) (.cint rfl) (IntWalk.i64_in _ (by omega)) (IntWalk.i64_in _ (by omega))) ?_
          refine RK.c (S.assign .none rfl (.tmp rfl rfl)) ?_
          refine RK.nil ?_
          refine Ab.D.lp ⟨i + 1, ⟨by omega, ?_⟩, (by omega), rfl, rfl, trivial⟩
          rw [hg, all_dropG _ (by omega), fB_T (by omega) hg2 (by omega), Bool.true_and]
    ·
      refine OK.exit rfl ?_
      refine Ab.D.code ?_
      refine OK.seq ?_
      refine OK.reg ?_
      refine RK.c (S.assign .none rfl .cbool) ?_
      refine RK.nil ?_
      refine Ab.D.code ?_
      refine OK.ret (Ret.r1 (.tmp rfl rfl (.c (.same rfl) rfl) rfl) ?_)
      exact ret_b (fewB_end (by omega) hg (by omega))
theorem ref9_Lot {l : List Lot} {n : List UInt8} : Ct Tryz.prog 42 [.sl (l.map Lot.cs), .str n] (.int .i64 (lotIx l n)) := by
  refine Ct.intro (rs := [.tmp 4]) Tryz.func42 rfl Tryz.ntmps42 Tryz.results42 rfl rfl rfl fun w h => ?_
  refine OK.slLen (rows := l.map Lot.cs) (t := 0) rfl rfl fun hlen => ?_
  rw [List.length_map] at hlen
  unfold maxLen at hlen
  refine OK.seq ?_
  refine OK.reg ?_
  refine RK.c (S.assign .none rfl (.cint rfl)) ?_
  refine RK.nil ?_
  refine Ab.D.code ?_
  refine OK.seq ?_
  refine OK.seq ?_
  refine OK.reg ?_
  refine RK.c (S.assign .none rfl (.cint rfl)) ?_
  refine RK.nil ?_
  refine Ab.D.code ?_
  refine OK.block ?_
  refine OK.loop (G := Nat) [] (fun i => [(0, .sl (l.map Lot.cs)), (1, .str n), (5, .int .i64 i)]) (fun i => i ≤ l.length ∧ lotIx l n = idxGo (fun x => decide (x.name = n)) i (l.drop i)) (fun i => l.length - i) 0 ⟨Nat.zero_le _, rfl⟩ ⟨rfl, rfl, rfl, trivial⟩ (fun _ => rfl) ?_
  rintro i ⟨hi, hg⟩
  refine OK.seq ?_
  refine OK.seq ?_
  refine OK.reg ?_
  refine RK.c (S.move .none rfl (.tmp rfl rfl)) ?_
  refine RK.c (S.move .none rfl (.tmp rfl rfl)) ?_
  refine RK.c (S.lenM si49 .none rfl (.tmp rfl rfl)) ?_
  refine RK.c (S.lss .none rfl (.tmp rfl rfl) (.tmp rfl rfl)) ?_
  refine RK.nil ?_
  refine Ab.D.code ?_
  refine OK.condD rfl rfl (fun c9 => ?_) (fun c9 => ?_)
  ·
    refine OK.skip ?_
    refine Ab.D.code ?_
    refine OK.seq ?_
    refine OK.block ?_
    refine OK.seq ?_
    refine OK.reg ?_
    refine RK.c (S.move .none rfl (.tmp rfl rfl)) ?_
    refine RK.c (S.move .none rfl (.tmp rfl rfl)) ?_
    refine RK.c (S.indexM (n := i) si49 .none rfl (.tmp rfl rfl) (.tmp rfl rfl) rfl (by omega) rfl) ?_
    refine RK.c (S.field fi66_0 .none rfl (.tmp rfl rfl) rfl) ?_
    refine RK.c (S.load1 ti9 .none rfl (.tmp rfl rfl) rfl) ?_
    refine RK.c (S.move .none rfl (.tmp rfl rfl)) ?_
    refine RK.c (S.seql .none rfl (.tmp rfl rfl) (.tmp rfl rfl)) ?_
    refine RK.nil ?_
    refine Ab.D.code ?_
    refine OK.condD rfl rfl (fun c18 => ?_) (fun c18 => ?_)
    ·
      refine OK.seq ?_
      refine OK.reg ?_
      refine RK.c (S.move .none rfl (.tmp rfl rfl)) ?_
      refine RK.c (S.assign .none rfl (.tmp rfl rfl)) ?_
      refine RK.nil ?_
      refine Ab.D.code ?_
      refine OK.ret (Ret.r1 (.tmp rfl rfl (.c (.same rfl) rfl) rfl) ?_)
      refine ret_i ?_
      rw [hg, List.drop_eq_getElem_cons (by omega), idxGo, if_pos (by simpa using c18)]
    ·
      refine OK.skip ?_
      refine Ab.D.blk ?_
      refine Ab.D.code ?_
      refine OK.reg ?_
      refine RK.c (S.move .none rfl (.tmp rfl rfl)) ?_
      refine RK.c (S.add .none rfl (.tmp rfl rfl) (.cint rfl) (IntWalk.i64_in _ (by omega)) (IntWalk.i64_in _ (by omega))) ?_
      refine RK.c (S.assign .none rfl (.tmp rfl rfl)) ?_
      refine RK.nil ?_
      refine Ab.D.lp ⟨i + 1, ⟨by omega, by rw [hg, List.drop_eq_getElem_cons (by omega), idxGo, if_neg (by simpa using c18)]⟩, (by omega), rfl, rfl, rfl, trivial⟩
  ·
    refine OK.exit rfl ?_
    refine Ab.D.code ?_
    refine OK.seq ?_
    refine OK.reg ?_
    refine RK.c (S.assign .none rfl (.cint rfl)) ?_
    refine RK.nil ?_
    refine Ab.D.code ?_
    refine OK.ret (Ret.r1 (.tmp rfl rfl (.c (.same rfl) rfl) rfl) ?_)
    refine ret_i ?_
    rw [hg, show i = l.length by omega, List.drop_length]
    rfl
theorem ref9_LotsErr {l : List Lot} : Ct Tryz.prog 35 [.sl (l.map Lot.cs)] (.int .i64 (lotsE0 l)) := by
  refine Ct.intro (rs := [.tmp 2]) Tryz.func35 rfl Tryz.ntmps35 Tryz.results35 rfl rfl rfl fun w h => ?_
  refine OK.slLen (rows := l.map Lot.cs) (t := 0) rfl rfl fun hlen => ?_
  rw [List.length_map] at hlen
  unfold maxLen at hlen
  refine OK.seq ?_
  refine OK.reg ?_
  refine RK.c (S.assign .none rfl (.cint rfl)) ?_
  refine RK.nil ?_
  refine Ab.D.code ?_
  refine OK.seq ?_
  refine OK.seq ?_
  refine OK.reg ?_
  refine RK.c (S.move .none rfl (.tmp rfl rfl)) ?_
  refine RK.c (S.lenM si49 .none rfl (.tmp rfl rfl)) ?_
  refine RK.c (S.gtr .none rfl (.tmp rfl rfl) (.cint rfl)) ?_
  refine RK.nil ?_
  refine Ab.D.code ?_
  refine OK.condD rfl rfl (fun c6 => ?_) (fun c6 => ?_)
  ·
    refine OK.seq ?_
    refine OK.reg ?_
    refine RK.c (S.assign .none rfl (.cint rfl)) ?_
    refine RK.nil ?_
    refine Ab.D.code ?_
    refine OK.ret (Ret.r1 (.tmp rfl rfl (.c (.same rfl) rfl) rfl) ?_)
    refine ret_i ?_
    rw [lotsE0, if_pos (by omega)]
  ·
    refine OK.skip ?_
    refine Ab.D.code ?_
    refine OK.seq ?_
    refine OK.seq ?_
    refine OK.reg ?_
    refine RK.c (S.assign .none rfl (.cint rfl)) ?_
    refine RK.nil ?_
    refine Ab.D.code ?_
    refine OK.block ?_
    refine OK.loop (G := Nat) [] (fun i => [(0, .sl (l.map Lot.cs)), (3, .int .i64 i)]) (fun i => i ≤ l.length ∧ eachGo (lotE l) 0 l = eachGo (lotE l) i (l.drop i)) (fun i => l.length - i) 0 ⟨Nat.zero_le _, rfl⟩ ⟨rfl, rfl, trivial⟩ (fun _ => rfl) ?_
    rintro i ⟨hi, hg⟩
    refine OK.seq ?_
    refine OK.seq ?_
    refine OK.reg ?_
    refine RK.c (S.move .none rfl (.tmp rfl rfl)) ?_
    refine RK.c (S.move .none rfl (.tmp rfl rfl)) ?_
    refine RK.c (S.lenM si49 .none rfl (.tmp rfl rfl)) ?_
    refine RK.c (S.lss .none rfl (.tmp rfl rfl) (.tmp rfl rfl)) ?_
    refine RK.nil ?_
    refine Ab.D.code ?_
    refine OK.condD rfl rfl (fun c10 => ?_) (fun c10 => ?_)
    ·
      refine OK.skip ?_
      refine Ab.D.code ?_
      refine OK.seq ?_
      refine OK.block ?_
      refine OK.seq ?_
      refine OK.seq ?_
      refine OK.reg ?_
      refine RK.c (S.move .none rfl (.tmp rfl rfl)) ?_
      refine RK.c (S.move .none rfl (.tmp rfl rfl)) ?_
      refine RK.c (S.indexM (n := i) si49 .none rfl (.tmp rfl rfl) (.tmp rfl rfl) rfl (by omega) rfl) ?_
      refine RK.c (S.field fi66_0 .none rfl (.tmp rfl rfl) rfl) ?_
      refine RK.c (S.load1 ti9 .none rfl (.tmp rfl rfl) rfl) ?_
      refine RK.c (S.call (base_IsName) Tryz.call67 .none rfl (.cons (.tmp rfl rfl) .nil) rfl) ?_
      refine RK.c (S.not .none rfl (.tmp rfl rfl)) ?_
      refine RK.c (S.move .none rfl (.tmp rfl rfl)) ?_
      refine RK.split (t := 20) rfl (fun g20 => ?_) (fun g20 => ?_)
      ·
        have hn1 : nameOk l[i].name = false := by simpa using g20
        refine RK.c (S.skip rfl rfl rfl rfl rfl) ?_
        refine RK.c (S.skip rfl rfl rfl rfl rfl) ?_
        refine RK.c (S.skip rfl rfl rfl rfl rfl) ?_
        refine RK.c (S.skip rfl rfl rfl rfl rfl) ?_
        refine RK.c (S.skip rfl rfl rfl rfl rfl) ?_
        refine RK.c (S.skip rfl rfl rfl rfl rfl) ?_
        refine RK.c (S.skip rfl rfl rfl rfl rfl) ?_
        refine RK.c (S.pickT .none rfl (.tmp rfl rfl) .cbool rfl) ?_
        refine RK.nil ?_
        refine Ab.D.code ?_
        refine OK.condT rfl rfl rfl ?_
        refine OK.seq ?_
        refine OK.reg ?_
        refine RK.c (S.assign .none rfl (.cint rfl)) ?_
        refine RK.nil ?_
        refine Ab.D.code ?_
        refine OK.ret (Ret.r1 (.tmp rfl rfl (.c (.same rfl) rfl) rfl) ?_)
        exact ret_i (lots0_at (by omega) hg (by omega) (lotE_4 (by rw [hn1]; rfl)) (by decide))
      ·
        have hn1 : nameOk l[i].name = true := by simpa using g20
        refine RK.c (S.move (.yes rfl rfl rfl rfl) rfl (.tmp rfl rfl)) ?_
        refine RK.c (S.move (.yes rfl rfl rfl rfl) rfl (.tmp rfl rfl)) ?_
        refine RK.c (S.indexM (n := i) si49 (.yes rfl rfl rfl rfl) rfl (.tmp rfl rfl) (.tmp rfl rfl) rfl (by omega) rfl) ?_
        refine RK.c (S.field fi66_1 (.yes rfl rfl rfl rfl) rfl (.tmp rfl rfl) rfl) ?_
        refine RK.c (S.load1 ti9 (.yes rfl rfl rfl rfl) rfl (.tmp rfl rfl) rfl) ?_
        refine RK.c (S.call (base_IsName) Tryz.call67 (.yes rfl rfl rfl rfl) rfl (.cons (.tmp rfl rfl) .nil) rfl) ?_
        refine RK.c (S.not (.yes rfl rfl rfl rfl) rfl (.tmp rfl rfl)) ?_
        refine RK.c (S.pickF .none rfl (.tmp rfl rfl) (.tmp rfl rfl) rfl) ?_
        refine RK.nil ?_
        refine Ab.D.code ?_
        refine OK.cond rfl rfl (fun c28 => ?_) (fun c28 => ?_)
        ·
          have hn2 : nameOk l[i].heat = false := by simpa using c28
          refine OK.seq ?_
          refine OK.reg ?_
          refine RK.c (S.assign .none rfl (.cint rfl)) ?_
          refine RK.nil ?_
          refine Ab.D.code ?_
          refine OK.ret (Ret.r1 (.tmp rfl rfl (.c (.same rfl) rfl) rfl) ?_)
          exact ret_i (lots0_at (by omega) hg (by omega) (lotE_4 (by rw [hn1, hn2]; rfl)) (by decide))
        ·
          have hn2 : nameOk l[i].heat = true := by simpa using c28
          have hnn : (nameOk l[i].name && nameOk l[i].heat) = true := by rw [hn1, hn2]; rfl
          refine OK.skip ?_
          refine Ab.D.code ?_
          refine OK.seq ?_
          refine OK.seq ?_
          refine OK.regionDraw follows (.c (S.move .none rfl (.tmp rfl rfl))
            (.c (S.move .none rfl (.tmp rfl rfl))
            (.c (S.slice (hi := i) (l' := l.take i) si49 (fun _ => rfl) .none rfl (.tmp rfl rfl) (.inl ⟨rfl, rfl, rfl⟩) (.inr ⟨_, _, rfl, (.tmp rfl rfl), rfl⟩) (Nat.zero_le _) (by omega) rfl)
            (.c (S.move .none rfl (.tmp rfl rfl))
            (.c (S.move .none rfl (.tmp rfl rfl))
            (.c (S.indexM (n := i) si49 .none rfl (.tmp rfl rfl) (.tmp rfl rfl) rfl (by omega) rfl)
            (.c (S.field fi66_0 .none rfl (.tmp rfl rfl) rfl)
            (.c (S.load1 ti9 .none rfl (.tmp rfl rfl) rfl)
            (.c (S.call (ref9_Lot (l := l.take i)) Tryz.call42 .none rfl (.cons (.tmp rfl rfl) (.cons (.tmp rfl rfl) .nil)) rfl)
            (.c (S.geq .none rfl (.tmp rfl rfl) (.cint rfl))
            .nil)))))))))) (by kernel_rfl) ?_
          refine Ab.D.code ?_
          refine OK.condD rfl rfl (fun c38 => ?_) (fun c38 => ?_)
          ·
            refine OK.seq ?_
            refine OK.reg ?_
            refine RK.c (S.assign .none rfl (.cint rfl)) ?_
            refine RK.nil ?_
            refine Ab.D.code ?_
            refine OK.ret (Ret.r1 (.tmp rfl rfl (.c (.same rfl) rfl) rfl) ?_)
            exact ret_i (lots0_at (by omega) hg (by omega) (lotE_5 hnn c38) (by decide))
          ·
            refine OK.skip ?_
            refine Ab.D.code ?_
            refine OK.seq ?_
            refine OK.reg ?_
            refine RK.c (S.move .none rfl (.tmp rfl rfl)) ?_
            refine RK.c (S.move .none rfl (.tmp rfl rfl)) ?_
            refine RK.c (S.indexM (n := i) si49 .none rfl (.tmp rfl rfl) (.tmp rfl rfl) rfl (by omega) rfl) ?_
            refine RK.c (S.field fi66_2 .none rfl (.tmp rfl rfl) rfl) ?_
            refine RK.c (S.load1 ti3 .none rfl (.tmp rfl rfl) rfl) ?_
            refine RK.c (S.call (base_Within) Tryz.call43 .none rfl (.cons (.tmp rfl rfl) (.cons (.cint rfl) (.cons (.cint rfl) .nil))) rfl) ?_
            refine RK.c (S.notD .none rfl (.tmp rfl rfl)) ?_
            refine RK.nil ?_
            refine Ab.D.code ?_
            refine OK.condD rfl rfl (fun c45 => ?_) (fun c45 => ?_)
            ·
              refine OK.seq ?_
              refine OK.reg ?_
              refine RK.c (S.assign .none rfl (.cint rfl)) ?_
              refine RK.nil ?_
              refine Ab.D.code ?_
              refine OK.ret (Ret.r1 (.tmp rfl rfl (.c (.same rfl) rfl) rfl) ?_)
              exact ret_i (lots0_at (by omega) hg (by omega) (lotE_2 hnn c38 (by omega)) (by decide))
            ·
              refine OK.skip ?_
              refine Ab.D.blk ?_
              refine Ab.D.code ?_
              refine OK.reg ?_
              refine RK.c (S.move .none rfl (.tmp rfl rfl)) ?_
              refine RK.c (S.add .none rfl (.tmp rfl rfl) (.cint rfl) (IntWalk.i64_in _ (by omega)) (IntWalk.i64_in _ (by omega))) ?_
              refine RK.c (S.assign .none rfl (.tmp rfl rfl)) ?_
              refine RK.nil ?_
              refine Ab.D.lp ⟨i + 1, ⟨by omega, each_on hg (by omega) (lotE_0 hnn c38 (by omega))⟩, (by omega), rfl, rfl, trivial⟩
    ·
      refine OK.exit rfl ?_
      refine Ab.D.code ?_
      refine OK.seq ?_
      refine OK.reg ?_
      refine RK.c (S.assign .none rfl (.cint rfl)) ?_
      refine RK.nil ?_
      refine Ab.D.code ?_
      refine OK.ret (Ret.r1 (.tmp rfl rfl (.c (.same rfl) rfl) rfl) ?_)
      exact ret_i (lots0_end (by omega) hg (by omega))
theorem ref9_CapacityErr {cap : Int} : Ct Tryz.prog 36 [.int .i64 cap] (.int .i64 (unlessE (decide (1 ≤ cap ∧ cap ≤ 1000)) 2)) := by
  refine Ct.intro (rs := [.tmp 2]) Tryz.func36 rfl Tryz.ntmps36 Tryz.results36 rfl rfl rfl fun w h => ?_
  refine OK.seq ?_
  refine OK.reg ?_
  refine RK.c (S.assign .none rfl (.cint rfl)) ?_
  refine RK.nil ?_
  refine Ab.D.code ?_
  refine OK.seq ?_
  refine OK.seq ?_
  refine OK.reg ?_
  refine RK.c (S.move .none rfl (.tmp rfl rfl)) ?_
  refine RK.c (S.call (base_Within) Tryz.call43 .none rfl (.cons (.tmp rfl rfl) (.cons (.cint rfl) (.cons (.cint rfl) .nil))) rfl) ?_
  refine RK.c (S.notD .none rfl (.tmp rfl rfl)) ?_
  refine RK.nil ?_
  refine Ab.D.code ?_
  refine OK.condD rfl rfl (fun c5 => ?_) (fun c5 => ?_)
  ·
    refine OK.seq ?_
    refine OK.reg ?_
    refine RK.c (S.assign .none rfl (.cint rfl)) ?_
    refine RK.nil ?_
    refine Ab.D.code ?_
    refine OK.ret (Ret.r1 (.tmp rfl rfl (.c (.same rfl) rfl) rfl) ?_)
    refine ret_i ?_
    rw [decide_eq_false (by omega)]
    rfl
  ·
    refine OK.skip ?_
    refine Ab.D.code ?_
    refine OK.seq ?_
    refine OK.reg ?_
    refine RK.c (S.assign .none rfl (.cint rfl)) ?_
    refine RK.nil ?_
    refine Ab.D.code ?_
    refine OK.ret (Ret.r1 (.tmp rfl rfl (.c (.same rfl) rfl) rfl) ?_)
    refine ret_i ?_
    rw [decide_eq_true (by omega)]
    rfl
set_option maxHeartbeats 2000000 in
theorem ref9_BasketsErr {l : List Lot} {cap : Int} {bs : List Basket} (hl0 : lotsE l cap = 0) (hbl : bs.length ≤ 100) (hbs : ∀ b ∈ bs, b.shares.length ≤ 100) : Ct Tryz.prog 37 [.sl (l.map Lot.cs), .int .i64 cap, .sl (bs.map Basket.cs)] (.int .i64 (chkB l cap bs)) := by
  refine Ct.intro (rs := [.tmp 6]) Tryz.func37 rfl Tryz.ntmps37 Tryz.results37 rfl rfl rfl fun w h => ?_
  have hl8 := (lots_ok hl0).len
  refine OK.seq ?_
  refine OK.reg ?_
  refine RK.c (S.assign .none rfl (.cint rfl)) ?_
  refine RK.nil ?_
  refine Ab.D.code ?_
  refine OK.seq ?_
  refine OK.seq ?_
  refine OK.reg ?_
  refine RK.c (S.move .none rfl (.tmp rfl rfl)) ?_
  refine RK.c (S.lenM si50 .none rfl (.tmp rfl rfl)) ?_
  refine RK.c (S.gtr .none rfl (.tmp rfl rfl) (.cint rfl)) ?_
  refine RK.nil ?_
  refine Ab.D.code ?_
  refine OK.condD rfl rfl (fun c17 => ?_) (fun c17 => ?_)
  ·
    refine OK.seq ?_
    refine OK.reg ?_
    refine RK.c (S.assign .none rfl (.cint rfl)) ?_
    refine RK.nil ?_
    refine Ab.D.code ?_
    refine OK.ret (Ret.r1 (.tmp rfl rfl (.c (.same rfl) rfl) rfl) ?_)
    refine ret_i ?_
    rw [chkB, if_pos (by omega)]
  ·
    have hb60 : ¬ 60 < bs.length := by omega
    refine OK.skip ?_
    refine Ab.D.code ?_
    refine OK.seq ?_
    refine OK.reg ?_
    refine RK.c (S.move .none rfl (.tmp rfl rfl)) ?_
    refine RK.c (S.lenM si49 .none rfl (.tmp rfl rfl)) ?_
    refine RK.c (S.make (k := 20) (n := l.length) ai30 (⟨⟨Tryz.t3, _, by kernel_rfl, rfl, fun h => ⟨.int rfl, trivial⟩⟩⟩ : MkI Tryz.prog 3 [.int .i64 (0)]) .none rfl (.tmp rfl rfl) (.tmp rfl rfl) (by omega) (by omega) (by unfold maxLen; omega)) ?_
    refine RK.c (S.assign .none rfl (.tmp rfl rfl)) ?_
    refine RK.nil ?_
    refine Ab.D.code ?_
    refine OK.seq ?_
    refine OK.seq ?_
    refine OK.reg ?_
    refine RK.c (S.assign .none rfl (.cint rfl)) ?_
    refine RK.nil ?_
    refine Ab.D.code ?_
    refine OK.block ?_
    refine OK.loop (G := Nat) [20] (fun i => [(0, .sl (l.map Lot.cs)), (1, .int .i64 cap), (2, .sl (bs.map Basket.cs)), (7, .own 20 l.length), (2020, .arr 1 ((heldT l (allS (bs.take i))).map fun n => [.int .i64 n])), (8, .int .i64 i)]) (fun i => i ≤ bs.length ∧ eachGo (fun _ b => basketE l cap b) 0 bs = eachGo (fun _ b => basketE l cap b) i (bs.drop i) ∧ (∀ x ∈ allS (bs.take i), 1 ≤ x.parts ∧ x.parts ≤ 1000) ∧ (allS (bs.take i)).length ≤ 100 * i) (fun i => bs.length - i) 0 ⟨Nat.zero_le _, rfl, fun x hx => (by cases hx), Nat.le_refl _⟩ ⟨rfl, rfl, rfl, (lk_own (by first | rfl | (simp; done) | (simp; omega))), (lk_arr (held_nil l)), rfl, trivial⟩ (fun _ => rfl) ?_
    rintro i ⟨hi, hg, hxp, hxl⟩
    refine OK.seq ?_
    refine OK.seq ?_
    refine OK.reg ?_
    refine RK.c (S.move .none rfl (.tmp rfl rfl)) ?_
    refine RK.c (S.move .none rfl (.tmp rfl rfl)) ?_
    refine RK.c (S.lenM si50 .none rfl (.tmp rfl rfl)) ?_
    refine RK.c (S.lss .none rfl (.tmp rfl rfl) (.tmp rfl rfl)) ?_
    refine RK.nil ?_
    refine Ab.D.code ?_
    refine OK.condD rfl rfl (fun c24 => ?_) (fun c24 => ?_)
    ·
      have hil : i < bs.length := by omega
      have hbi := hbs _ (List.getElem_mem hil)
      refine OK.skip ?_
      refine Ab.D.code ?_
      refine OK.seq ?_
      refine OK.block ?_
      refine OK.seq ?_
      refine OK.reg ?_
      refine RK.c (S.move .none rfl (.tmp rfl rfl)) ?_
      refine RK.c (S.move .none rfl (.tmp rfl rfl)) ?_
      refine RK.c (S.indexM (n := i) si50 .none rfl (.tmp rfl rfl) (.tmp rfl rfl) rfl (by omega) rfl) ?_
      refine RK.c (S.field fi71_0 .none rfl (.tmp rfl rfl) rfl) ?_
      refine RK.c (S.load1 ti69 .none rfl (.tmp rfl rfl) rfl) ?_
      refine RK.c (S.assign .none rfl (.tmp rfl rfl)) ?_
      refine RK.nil ?_
      refine Ab.D.code ?_
      refine OK.seq ?_
      refine OK.seq ?_
      refine OK.reg ?_
      refine RK.c (S.move .none rfl (.tmp rfl rfl)) ?_
      refine RK.c (S.lenM si69 .none rfl (.tmp rfl rfl)) ?_
      refine RK.c (S.eql .none rfl (.tmp rfl rfl) (.cint rfl)) ?_
      refine RK.nil ?_
      refine Ab.D.code ?_
      refine OK.condD rfl rfl (fun c34 => ?_) (fun c34 => ?_)
      ·
        have h0 : bs[i].shares = [] := List.length_eq_zero_iff.1 (by omega)
        refine OK.seq ?_
        refine OK.reg ?_
        refine RK.c (S.assign .none rfl (.cint rfl)) ?_
        refine RK.nil ?_
        refine Ab.D.code ?_
        refine OK.ret (Ret.r1 (.tmp rfl rfl (.c (.same rfl) rfl) rfl) ?_)
        exact ret_i (chk_at hb60 hg hil (bask_nil h0).1 (by decide))
      ·
        have h0 : bs[i].shares ≠ [] := fun e => c34 (by rw [e]; rfl)
        refine OK.skip ?_
        refine Ab.D.code ?_
        refine OK.seq ?_
        refine OK.reg ?_
        refine RK.c (S.assign .none rfl (.cint rfl)) ?_
        refine RK.nil ?_
        refine Ab.D.code ?_
        refine OK.seq ?_
        refine OK.seq ?_
        refine OK.reg ?_
        refine RK.c (S.assign .none rfl (.cint rfl)) ?_
        refine RK.nil ?_
        refine Ab.D.code ?_
        refine OK.block ?_
        refine OK.loop (G := Nat) [20] (fun k => [(0, .sl (l.map Lot.cs)), (1, .int .i64 cap), (2, .sl (bs.map Basket.cs)), (7, .own 20 l.length), (2020, .arr 1 ((heldT l (allS (bs.take i) ++ bs[i].shares.take k)).map fun n => [.int .i64 n])), (8, .int .i64 i), (9, .sl (bs[i].shares.map Share.cs)), (10, .int .i64 (sumP (bs[i].shares.take k))), (11, .int .i64 k)]) (fun k => k ≤ bs[i].shares.length ∧ eachGo (shareE l bs[i].shares) 0 bs[i].shares = eachGo (shareE l bs[i].shares) k (bs[i].shares.drop k) ∧ (∀ x ∈ bs[i].shares.take k, 1 ≤ x.parts ∧ x.parts ≤ 1000) ∧ (0 < k → ∀ h0 : 0 < bs[i].shares.length, 0 ≤ lotIx l bs[i].shares[0].lot)) (fun k => bs[i].shares.length - k) 0 ⟨Nat.zero_le _, rfl, (fun x hx => by cases hx), fun h => absurd h (by omega)⟩ ⟨rfl, rfl, rfl, (lk_own (by first | rfl | (simp; done) | (simp; omega))), (lk_arr (by rw [List.take_zero, List.append_nil])), rfl, rfl, rfl, rfl, trivial⟩ (fun _ => rfl) ?_
        rintro k ⟨hk, hg2, hp, hq0⟩
        refine OK.seq ?_
        refine OK.seq ?_
        refine OK.reg ?_
        refine RK.c (S.move .none rfl (.tmp rfl rfl)) ?_
        refine RK.c (S.move .none rfl (.tmp rfl rfl)) ?_
        refine RK.c (S.lenM si69 .none rfl (.tmp rfl rfl)) ?_
        refine RK.c (S.lss .none rfl (.tmp rfl rfl) (.tmp rfl rfl)) ?_
        refine RK.nil ?_
        refine Ab.D.code ?_
        refine OK.condD rfl rfl (fun c38 => ?_) (fun c38 => ?_)
        ·
          have hkl : k < bs[i].shares.length := by omega
          refine OK.skip ?_
          refine Ab.D.code ?_
          refine OK.seq ?_
          refine OK.block ?_
          refine OK.seq ?_
          refine OK.reg ?_
          refine RK.c (S.move .none rfl (.tmp rfl rfl)) ?_
          refine RK.c (S.move .none rfl (.tmp rfl rfl)) ?_
          refine RK.c (S.move .none rfl (.tmp rfl rfl)) ?_
          refine RK.c (S.indexM (n := k) si69 .none rfl (.tmp rfl rfl) (.tmp rfl rfl) rfl (by omega) rfl) ?_
          refine RK.c (S.field fi73_0 .none rfl (.tmp rfl rfl) rfl) ?_
          refine RK.c (S.load1 ti9 .none rfl (.tmp rfl rfl) rfl) ?_
          refine RK.c (S.call (ref9_Lot (l := l)) Tryz.call42 .none rfl (.cons (.tmp rfl rfl) (.cons (.tmp rfl rfl) .nil)) rfl) ?_
          refine RK.c (S.assign .none rfl (.tmp rfl rfl)) ?_
          refine RK.nil ?_
          refine Ab.D.code ?_
          refine OK.seq ?_
          refine OK.seq ?_
          refine OK.reg ?_
          refine RK.c (S.move .none rfl (.tmp rfl rfl)) ?_
          refine RK.c (S.lss .none rfl (.tmp rfl rfl) (.cint rfl)) ?_
          refine RK.nil ?_
          refine Ab.D.code ?_
          refine OK.condD rfl rfl (fun c49 => ?_) (fun c49 => ?_)
          ·
            refine OK.seq ?_
            refine OK.reg ?_
            refine RK.c (S.assign .none rfl (.cint rfl)) ?_
            refine RK.nil ?_
            refine Ab.D.code ?_
            refine OK.ret (Ret.r1 (.tmp rfl rfl (.c (.same rfl) rfl) rfl) ?_)
            exact ret_i (chk_at hb60 hg hil (bask_at (k := k) h0 (each_at hg2 hkl (if_pos c49) (by decide)) (by decide)).1 (by decide))
          ·
            obtain ⟨ia, hix, hil2, hin⟩ := lot_at c49
            have hhx := heat_ix hix hil2
            have hz : ¬ lotIx l bs[i].shares[0].lot < 0 := by
              by_cases hk0 : k = 0
              · subst hk0; exact c49
              · have := hq0 (by omega) (by omega); omega
            obtain ⟨i0, hix0, hil0, hin0⟩ := lot_at hz
            have hhy := heat_ix hix0 hil0
            have hst := share_is (sh := bs[i].shares) (k := k) (y := l[i0].heat) c49 hhx (by rw [getD_at (by omega)]; exact hhy)
            refine OK.skip ?_
            refine Ab.D.code ?_
            refine OK.seq ?_
            refine OK.seq ?_
            refine OK.reg ?_
            refine RK.c (S.assign .none rfl (.cint rfl)) ?_
            refine RK.nil ?_
            refine Ab.D.code ?_
            refine OK.block ?_
            refine OK.loop (G := Nat) [20] (fun m => [(0, .sl (l.map Lot.cs)), (1, .int .i64 cap), (2, .sl (bs.map Basket.cs)), (7, .own 20 l.length), (2020, .arr 1 ((heldT l (allS (bs.take i) ++ bs[i].shares.take k)).map fun n => [.int .i64 n])), (8, .int .i64 i), (9, .sl (bs[i].shares.map Share.cs)), (10, .int .i64 (sumP (bs[i].shares.take k))), (11, .int .i64 k), (12, .int .i64 (lotIx l bs[i].shares[k].lot)), (13, .int .i64 m)]) (fun m => m ≤ k ∧ ((bs[i].shares.take m).any fun o => decide (o.lot = bs[i].shares[k].lot)) = false) (fun m => k - m) 0 ⟨Nat.zero_le _, rfl⟩ ⟨rfl, rfl, rfl, (lk_own (by first | rfl | (simp; done) | (simp; omega))), (lk_arr (by first | rfl | (simp; done) | (simp; omega))), rfl, rfl, rfl, rfl, rfl, rfl, trivial⟩ (fun _ => rfl) ?_
            rintro m ⟨hm, hma⟩
            refine OK.seq ?_
            refine OK.seq ?_
            refine OK.reg ?_
            refine RK.c (S.move .none rfl (.tmp rfl rfl)) ?_
            refine RK.c (S.move .none rfl (.tmp rfl rfl)) ?_
            refine RK.c (S.lss .none rfl (.tmp rfl rfl) (.tmp rfl rfl)) ?_
            refine RK.nil ?_
            refine Ab.D.code ?_
            refine OK.condD rfl rfl (fun c52 => ?_) (fun c52 => ?_)
            ·
              have hmk : m < k := by omega
              refine OK.skip ?_
              refine Ab.D.code ?_
              refine OK.seq ?_
              refine OK.block ?_
              refine OK.seq ?_
              refine OK.regionDraw follows (.c (S.move .none rfl (.tmp rfl rfl))
                (.c (S.move .none rfl (.tmp rfl rfl))
                (.c (S.indexM (n := m) si69 .none rfl (.tmp rfl rfl) (.tmp rfl rfl) rfl (by omega) rfl)
                (.c (S.field fi73_0 .none rfl (.tmp rfl rfl) rfl)
                (.c (S.load1 ti9 .none rfl (.tmp rfl rfl) rfl)
                (.c (S.move .none rfl (.tmp rfl rfl))
                (.c (S.move .none rfl (.tmp rfl rfl))
                (.c (S.indexM (n := k) si69 .none rfl (.tmp rfl rfl) (.tmp rfl rfl) rfl hkl rfl)
                (.c (S.field fi73_0 .none rfl (.tmp rfl rfl) rfl)
                (.c (S.load1 ti9 .none rfl (.tmp rfl rfl) rfl)
                (.c (S.seql .none rfl (.tmp rfl rfl) (.tmp rfl rfl))
                .nil))))))))))) (by kernel_rfl) ?_
              refine Ab.D.code ?_
              refine OK.condD rfl rfl (fun c65 => ?_) (fun c65 => ?_)
              ·
                refine OK.seq ?_
                refine OK.reg ?_
                refine RK.c (S.assign .none rfl (.cint rfl)) ?_
                refine RK.nil ?_
                refine Ab.D.code ?_
                refine OK.ret (Ret.r1 (.tmp rfl rfl (.c (.same rfl) rfl) rfl) ?_)
                exact ret_i (chk_at hb60 hg hil (bask_at (k := k) h0 (each_at hg2 hkl (by rw [hst, any_take_T hmk hkl c65]; rfl) (by decide)) (by decide)).1 (by decide))
              ·
                refine OK.skip ?_
                refine Ab.D.blk ?_
                refine Ab.D.code ?_
                refine OK.reg ?_
                refine RK.c (S.move .none rfl (.tmp rfl rfl)) ?_
                refine RK.c (S.add .none rfl (.tmp rfl rfl) (.cint rfl) (IntWalk.i64_in _ (by omega)) (IntWalk.i64_in _ (by omega))) ?_
                refine RK.c (S.assign .none rfl (.tmp rfl rfl)) ?_
                refine RK.nil ?_
                refine Ab.D.lp ⟨m + 1, ⟨by omega, any_take_F (by omega) hkl hma c65⟩, (by omega), rfl, rfl, rfl, (lk_own (by first | rfl | (simp; done) | (simp; omega))), (lk_arr (by first | rfl | (simp; done) | (simp; omega))), rfl, rfl, rfl, rfl, rfl, rfl, trivial⟩
            ·
              obtain rfl : m = k := by omega
              refine OK.exit rfl ?_
              refine Ab.D.code ?_
              refine OK.seq ?_
              refine OK.seq ?_
              refine OK.reg ?_
              refine RK.c (S.move .none rfl (.tmp rfl rfl)) ?_
              refine RK.c (S.move .none rfl (.tmp rfl rfl)) ?_
              refine RK.c (S.indexM (n := m) si69 .none rfl (.tmp rfl rfl) (.tmp rfl rfl) rfl hkl rfl) ?_
              refine RK.c (S.field fi73_1 .none rfl (.tmp rfl rfl) rfl) ?_
              refine RK.c (S.load1 ti3 .none rfl (.tmp rfl rfl) rfl) ?_
              refine RK.c (S.call (base_Within) Tryz.call43 .none rfl (.cons (.tmp rfl rfl) (.cons (.cint rfl) (.cons (.cint rfl) .nil))) rfl) ?_
              refine RK.c (S.notD .none rfl (.tmp rfl rfl)) ?_
              refine RK.nil ?_
              refine Ab.D.code ?_
              refine OK.condD rfl rfl (fun c72 => ?_) (fun c72 => ?_)
              ·
                refine OK.seq ?_
                refine OK.reg ?_
                refine RK.c (S.assign .none rfl (.cint rfl)) ?_
                refine RK.nil ?_
                refine Ab.D.code ?_
                refine OK.ret (Ret.r1 (.tmp rfl rfl (.c (.same rfl) rfl) rfl) ?_)
                exact ret_i (chk_at hb60 hg hil (bask_at (k := m) h0 (each_at hg2 hkl (by rw [hst, hma, decide_eq_false (by omega)]; rfl) (by decide)) (by decide)).1 (by decide))
              ·
                refine OK.skip ?_
                refine Ab.D.code ?_
                refine OK.seq ?_
                refine OK.seq ?_
                refine OK.regionDraw follows (.c (S.move .none rfl (.tmp rfl rfl))
                  (.c (S.move .none rfl (.tmp rfl rfl))
                  (.c (S.indexM (n := ia) si49 .none rfl (.tmp rfl rfl) (.tmp rfl rfl) hix hil2 rfl)
                  (.c (S.field fi66_1 .none rfl (.tmp rfl rfl) rfl)
                  (.c (S.load1 ti9 .none rfl (.tmp rfl rfl) rfl)
                  (.c (S.move .none rfl (.tmp rfl rfl))
                  (.c (S.move .none rfl (.tmp rfl rfl))
                  (.c (S.move .none rfl (.tmp rfl rfl))
                  (.c (S.indexM (n := 0) si69 .none rfl (.tmp rfl rfl) (.cint rfl) rfl (by omega) rfl)
                  (.c (S.field fi73_0 .none rfl (.tmp rfl rfl) rfl)
                  (.c (S.load1 ti9 .none rfl (.tmp rfl rfl) rfl)
                  (.c (S.call (ref9_Lot) Tryz.call42 .none rfl (.cons (.tmp rfl rfl) (.cons (.tmp rfl rfl) .nil)) rfl)
                  (.c (S.indexM (n := i0) si49 .none rfl (.tmp rfl rfl) (.tmp rfl rfl) hix0 hil0 rfl)
                  (.c (S.field fi66_1 .none rfl (.tmp rfl rfl) rfl)
                  (.c (S.load1 ti9 .none rfl (.tmp rfl rfl) rfl)
                  (.c (S.sneq .none rfl (.tmp rfl rfl) (.tmp rfl rfl))
                  .nil)))))))))))))))) (by kernel_rfl) ?_
                refine Ab.D.code ?_
                refine OK.condD rfl rfl (fun c88 => ?_) (fun c88 => ?_)
                ·
                  refine OK.seq ?_
                  refine OK.reg ?_
                  refine RK.c (S.assign .none rfl (.cint rfl)) ?_
                  refine RK.nil ?_
                  refine Ab.D.code ?_
                  refine OK.ret (Ret.r1 (.tmp rfl rfl (.c (.same rfl) rfl) rfl) ?_)
                  exact ret_i (chk_at hb60 hg hil (bask_at (k := m) h0 (each_at hg2 hkl (by rw [hst, hma, decide_eq_true (by omega), decide_eq_false c88]; rfl) (by decide)) (by decide)).1 (by decide))
                ·
                  have hs0 : shareE l bs[i].shares m bs[i].shares[m] = 0 := by rw [hst, hma, decide_eq_true (by omega), decide_eq_true (Decidable.not_not.1 c88)]; rfl
                  have hnb := name_bd l[ia].name (rng_app hxp hp)
                  have htk : (bs[i].shares.take m).length = m := by rw [List.length_take]; omega
                  rw [List.length_append, htk] at hnb
                  have hsm := sumP_bd hp
                  rw [htk] at hsm
                  refine OK.skip ?_
                  refine Ab.D.code ?_
                  refine OK.regionDraw follows (.c (S.move .none rfl (.tmp rfl rfl))
                    (.c (S.move .none rfl (.tmp rfl rfl))
                    (.c (S.move .none rfl (.tmp rfl rfl))
                    (.c (S.move .none rfl (.tmp rfl rfl))
                    (.c (S.move .none rfl (.tmp rfl rfl))
                    (.c (S.indexM (n := m) si69 .none rfl (.tmp rfl rfl) (.tmp rfl rfl) rfl hkl rfl)
                    (.c (S.field fi73_1 .none rfl (.tmp rfl rfl) rfl)
                    (.c (S.load1 ti3 .none rfl (.tmp rfl rfl) rfl)
                    (.c (S.add .none rfl (.tmp rfl rfl) (.tmp rfl rfl) (IntWalk.i64_in _ (by omega)) (IntWalk.i64_in _ (by omega)))
                    (.c (S.move .none rfl (.tmp rfl rfl))
                    (.c (S.move .none rfl (.tmp rfl rfl))
                    (.c (S.oindex (i := ia) si30 .none rfl (.tmp rfl rfl) rfl (by rw [List.length_map, held_len]) (.tmp rfl rfl) hix hil2)
                    (.c (S.oload1 ti3 .none rfl (.tmp rfl rfl) rfl (by rw [List.length_map, held_len]) (held_get hil2))
                    (.c (S.move .none rfl (.tmp rfl rfl))
                    (.c (S.move .none rfl (.tmp rfl rfl))
                    (.c (S.indexM (n := m) si69 .none rfl (.tmp rfl rfl) (.tmp rfl rfl) rfl hkl rfl)
                    (.c (S.field fi73_1 .none rfl (.tmp rfl rfl) rfl)
                    (.c (S.load1 ti3 .none rfl (.tmp rfl rfl) rfl)
                    (.c (S.add .none rfl (.tmp rfl rfl) (.tmp rfl rfl) (IntWalk.i64_in _ (by omega)) (IntWalk.i64_in _ (by omega)))
                    (.c (S.assign .none rfl (.tmp rfl rfl))
                    (.c (S.oindex (i := ia) si30 .none rfl (.tmp rfl rfl) rfl (by rw [List.length_map, held_len]) (.tmp rfl rfl) hix hil2)
                    (.c (S.ostore1 (i := ia) ti3 rfl .none (.tmp rfl rfl) (.tmp rfl rfl) rfl (by rw [List.length_map, held_len]) rfl hil2 rfl rfl (show _ = (heldT l (allS (bs.take i) ++ bs[i].shares.take (m + 1))).map (fun n => [X.int .i64 n]) by rw [List.take_succ_eq_append_getElem hkl, ← List.append_assoc]; exact held_store hl0 hil2 hin))
                    .nil)))))))))))))))))))))) (by kernel_rfl) ?_
                  refine Ab.D.blk ?_
                  refine Ab.D.code ?_
                  refine OK.reg ?_
                  refine RK.c (S.move .none rfl (.tmp rfl rfl)) ?_
                  refine RK.c (S.add .none rfl (.tmp rfl rfl) (.cint rfl) (IntWalk.i64_in _ (by omega)) (IntWalk.i64_in _ (by omega))) ?_
                  refine RK.c (S.assign .none rfl (.tmp rfl rfl)) ?_
                  refine RK.nil ?_
                  refine Ab.D.lp ⟨m + 1, ⟨by omega, each_on hg2 hkl hs0, rng_snoc hkl hp (by omega), fun _ _ => by omega⟩, (by omega), rfl, rfl, rfl, (lk_own (by first | rfl | (simp; done) | (simp; omega))), rfl, rfl, rfl, (lkI (by rw [List.take_succ_eq_append_getElem hkl, sumP_snoc])), rfl, trivial⟩
        ·
          have hkk : bs[i].shares.take k = bs[i].shares := List.take_of_length_le (by omega)
          have hbo := (bask_on (cap := cap) h0 (each_end hg2 (by omega))).1
          have hpk : ∀ x ∈ bs[i].shares, 1 ≤ x.parts ∧ x.parts ≤ 1000 := by rw [← hkk]; exact hp
          rw [hkk]
          refine OK.exit rfl ?_
          refine Ab.D.code ?_
          refine OK.seq ?_
          refine OK.reg ?_
          refine RK.c (S.move .none rfl (.tmp rfl rfl)) ?_
          refine RK.c (S.move .none rfl (.tmp rfl rfl)) ?_
          refine RK.c (S.gtr .none rfl (.tmp rfl rfl) (.tmp rfl rfl)) ?_
          refine RK.nil ?_
          refine Ab.D.code ?_
          refine OK.condD rfl rfl (fun c111 => ?_) (fun c111 => ?_)
          ·
            refine OK.seq ?_
            refine OK.reg ?_
            refine RK.c (S.assign .none rfl (.cint rfl)) ?_
            refine RK.nil ?_
            refine Ab.D.code ?_
            refine OK.ret (Ret.r1 (.tmp rfl rfl (.c (.same rfl) rfl) rfl) ?_)
            exact ret_i (chk_at hb60 hg hil (by rw [hbo, decide_eq_false (by omega)]; rfl) (by decide))
          ·
            have hb0 : basketE l cap bs[i] = 0 := by rw [hbo, decide_eq_true (by omega)]; rfl
            refine OK.skip ?_
            refine Ab.D.blk ?_
            refine Ab.D.code ?_
            refine OK.reg ?_
            refine RK.c (S.move .none rfl (.tmp rfl rfl)) ?_
            refine RK.c (S.add .none rfl (.tmp rfl rfl) (.cint rfl) (IntWalk.i64_in _ (by omega)) (IntWalk.i64_in _ (by omega))) ?_
            refine RK.c (S.assign .none rfl (.tmp rfl rfl)) ?_
            refine RK.nil ?_
            refine Ab.D.lp ⟨i + 1, ⟨by omega, each_on hg hil hb0, by rw [all_take hil]; exact rng_app hxp hpk, by rw [all_take hil, List.length_append]; omega⟩, (by omega), rfl, rfl, rfl, (lk_own (by first | rfl | (simp; done) | (simp; omega))), (lk_arr (by rw [all_take hil])), rfl, trivial⟩
    ·
      have hbt : bs.take i = bs := List.take_of_length_le (by omega)
      have hce := chk_fin hb60 hg (by omega)
      rw [hbt]
      refine OK.exit rfl ?_
      refine Ab.D.code ?_
      refine OK.seq ?_
      refine OK.seq ?_
      refine OK.reg ?_
      refine RK.c (S.assign .none rfl (.cint rfl)) ?_
      refine RK.nil ?_
      refine Ab.D.code ?_
      refine OK.block ?_
      refine OK.loop (G := Nat) [20] (fun j => [(0, .sl (l.map Lot.cs)), (7, .own 20 l.length), (2020, .arr 1 ((heldT l (allS bs)).map fun n => [.int .i64 n])), (14, .int .i64 j)]) (fun j => j ≤ l.length ∧ ∀ (m : Nat) (h : m < l.length), m < j → nameSum l[m].name (allS bs) = l[m].parts) (fun j => l.length - j) 0 ⟨Nat.zero_le _, fun m h h2 => absurd h2 (by omega)⟩ ⟨rfl, (lk_own (by first | rfl | (simp; done) | (simp; omega))), (lk_arr (by first | rfl | (simp; done) | (simp; omega))), rfl, trivial⟩ (fun _ => rfl) ?_
      rintro j ⟨hj, hh⟩
      refine OK.seq ?_
      refine OK.seq ?_
      refine OK.reg ?_
      refine RK.c (S.move .none rfl (.tmp rfl rfl)) ?_
      refine RK.c (S.move .none rfl (.tmp rfl rfl)) ?_
      refine RK.c (S.lenM si49 .none rfl (.tmp rfl rfl)) ?_
      refine RK.c (S.lss .none rfl (.tmp rfl rfl) (.tmp rfl rfl)) ?_
      refine RK.nil ?_
      refine Ab.D.code ?_
      refine OK.condD rfl rfl (fun c115 => ?_) (fun c115 => ?_)
      ·
        refine OK.skip ?_
        refine Ab.D.code ?_
        refine OK.seq ?_
        refine OK.block ?_
        refine OK.seq ?_
        refine OK.regionDraw follows (.c (S.move .none rfl (.tmp rfl rfl))
          (.c (S.move .none rfl (.tmp rfl rfl))
          (.c (S.oindex (i := j) si30 .none rfl (.tmp rfl rfl) rfl (by rw [List.length_map, held_len]) (.tmp rfl rfl) rfl (by omega))
          (.c (S.oload1 ti3 .none rfl (.tmp rfl rfl) rfl (by rw [List.length_map, held_len]) (held_get (by omega)))
          (.c (S.move .none rfl (.tmp rfl rfl))
          (.c (S.move .none rfl (.tmp rfl rfl))
          (.c (S.indexM (n := j) si49 .none rfl (.tmp rfl rfl) (.tmp rfl rfl) rfl (by omega) rfl)
          (.c (S.field fi66_2 .none rfl (.tmp rfl rfl) rfl)
          (.c (S.load1 ti3 .none rfl (.tmp rfl rfl) rfl)
          (.c (S.neq .none rfl (.tmp rfl rfl) (.tmp rfl rfl))
          .nil)))))))))) (by kernel_rfl) ?_
        refine Ab.D.code ?_
        refine OK.condD rfl rfl (fun c127 => ?_) (fun c127 => ?_)
        ·
          refine OK.seq ?_
          refine OK.reg ?_
          refine RK.c (S.assign .none rfl (.cint rfl)) ?_
          refine RK.nil ?_
          refine Ab.D.code ?_
          refine OK.ret (Ret.r1 (.tmp rfl rfl (.c (.same rfl) rfl) rfl) ?_)
          refine ret_i ?_
          rw [hce, if_pos (short_T (j := j) (by omega) (by omega))]
        ·
          refine OK.skip ?_
          refine Ab.D.blk ?_
          refine Ab.D.code ?_
          refine OK.reg ?_
          refine RK.c (S.move .none rfl (.tmp rfl rfl)) ?_
          refine RK.c (S.add .none rfl (.tmp rfl rfl) (.cint rfl) (IntWalk.i64_in _ (by omega)) (IntWalk.i64_in _ (by omega))) ?_
          refine RK.c (S.assign .none rfl (.tmp rfl rfl)) ?_
          refine RK.nil ?_
          refine Ab.D.lp ⟨j + 1, ⟨by omega, fun m h h2 => by rcases Nat.lt_or_ge m j with q | q; exact hh m h q; obtain rfl : m = j := (by omega); omega⟩, (by omega), rfl, (lk_own (by first | rfl | (simp; done) | (simp; omega))), (lk_arr (by first | rfl | (simp; done) | (simp; omega))), rfl, trivial⟩
      ·
        refine OK.exit rfl ?_
        refine Ab.D.code ?_
        refine OK.seq ?_
        refine OK.reg ?_
        refine RK.c (S.assign .none rfl (.cint rfl)) ?_
        refine RK.nil ?_
        refine Ab.D.code ?_
        refine OK.ret (Ret.r1 (.tmp rfl rfl (.c (.same rfl) rfl) rfl) ?_)
        refine ret_i ?_
        rw [hce, if_neg (by rw [(short_held l (allS bs)).2 fun m h => hh m h (by omega)]; decide)]
theorem ref9_SameBaskets {a b : List Basket} (hal : a.length ≤ 100000) (hai : ∀ x ∈ a, x.shares.length ≤ 100000) : Ct Tryz.prog 39 [.sl (a.map Basket.cs), .sl (b.map Basket.cs)] (.bool (decide (a = b))) := by
  refine Ct.intro (rs := [.tmp 4]) Tryz.func39 rfl Tryz.ntmps39 Tryz.results39 rfl rfl rfl fun w h => ?_
  refine OK.seq ?_
  refine OK.reg ?_
  refine RK.c (S.assign .none rfl .cbool) ?_
  refine RK.nil ?_
  refine Ab.D.code ?_
  refine OK.seq ?_
  refine OK.seq ?_
  refine OK.reg ?_
  refine RK.c (S.move .none rfl (.tmp rfl rfl)) ?_
  refine RK.c (S.lenM si50 .none rfl (.tmp rfl rfl)) ?_
  refine RK.c (S.move .none rfl (.tmp rfl rfl)) ?_
  refine RK.c (S.lenM si50 .none rfl (.tmp rfl rfl)) ?_
  refine RK.c (S.neq .none rfl (.tmp rfl rfl) (.tmp rfl rfl)) ?_
  refine RK.nil ?_
  refine Ab.D.code ?_
  refine OK.condD rfl rfl (fun c11 => ?_) (fun c11 => ?_)
  ·
    refine OK.seq ?_
    refine OK.reg ?_
    refine RK.c (S.assign .none rfl .cbool) ?_
    refine RK.nil ?_
    refine Ab.D.code ?_
    refine OK.ret (Ret.r1 (.tmp rfl rfl (.c (.same rfl) rfl) rfl) ?_)
    exact ret_b (same_len (by omega))
  ·
    have hll : a.length = b.length := by omega
    refine OK.skip ?_
    refine Ab.D.code ?_
    refine OK.seq ?_
    refine OK.seq ?_
    refine OK.reg ?_
    refine RK.c (S.assign .none rfl (.cint rfl)) ?_
    refine RK.nil ?_
    refine Ab.D.code ?_
    refine OK.block ?_
    refine OK.loop (G := Nat) [] (fun i => [(0, .sl (a.map Basket.cs)), (1, .sl (b.map Basket.cs)), (5, .int .i64 i)]) (fun i => i ≤ a.length ∧ ∀ (m : Nat) (h1 : m < a.length) (h2 : m < b.length), m < i → a[m] = b[m]) (fun i => a.length - i) 0 ⟨Nat.zero_le _, fun m _ _ h => absurd h (by omega)⟩ ⟨rfl, rfl, rfl, trivial⟩ (fun _ => rfl) ?_
    rintro i ⟨hi, hg⟩
    refine OK.seq ?_
    refine OK.seq ?_
    refine OK.reg ?_
    refine RK.c (S.move .none rfl (.tmp rfl rfl)) ?_
    refine RK.c (S.move .none rfl (.tmp rfl rfl)) ?_
    refine RK.c (S.lenM si50 .none rfl (.tmp rfl rfl)) ?_
    refine RK.c (S.lss .none rfl (.tmp rfl rfl) (.tmp rfl rfl)) ?_
    refine RK.nil ?_
    refine Ab.D.code ?_
    refine OK.condD rfl rfl (fun c15 => ?_) (fun c15 => ?_)
    ·
      have hia : i < a.length := by omega
      have hib : i < b.length := by omega
      have hli := hai _ (List.getElem_mem hia)
      refine OK.skip ?_
      refine Ab.D.code ?_
      refine OK.seq ?_
      refine OK.block ?_
      refine OK.seq ?_
      refine OK.seq ?_
      refine OK.regionDraw follows (.c (S.move .none rfl (.tmp rfl rfl))
        (.c (S.move .none rfl (.tmp rfl rfl))
        (.c (S.indexM (n := i) si50 .none rfl (.tmp rfl rfl) (.tmp rfl rfl) rfl (by omega) rfl)
        (.c (S.field fi71_0 .none rfl (.tmp rfl rfl) rfl)
        (.c (S.load1 ti69 .none rfl (.tmp rfl rfl) rfl)
        (.c (S.lenM si69 .none rfl (.tmp rfl rfl))
        (.c (S.move .none rfl (.tmp rfl rfl))
        (.c (S.move .none rfl (.tmp rfl rfl))
        (.c (S.indexM (n := i) si50 .none rfl (.tmp rfl rfl) (.tmp rfl rfl) rfl (by omega) rfl)
        (.c (S.field fi71_0 .none rfl (.tmp rfl rfl) rfl)
        (.c (S.load1 ti69 .none rfl (.tmp rfl rfl) rfl)
        (.c (S.lenM si69 .none rfl (.tmp rfl rfl))
        (.c (S.neq .none rfl (.tmp rfl rfl) (.tmp rfl rfl))
        .nil))))))))))))) (by kernel_rfl) ?_
      refine Ab.D.code ?_
      refine OK.condD rfl rfl (fun c30 => ?_) (fun c30 => ?_)
      ·
        refine OK.seq ?_
        refine OK.reg ?_
        refine RK.c (S.assign .none rfl .cbool) ?_
        refine RK.nil ?_
        refine Ab.D.code ?_
        refine OK.ret (Ret.r1 (.tmp rfl rfl (.c (.same rfl) rfl) rfl) ?_)
        exact ret_b (same_at hia hib fun e => c30 (by rw [e]))
      ·
        have hsl : a[i].shares.length = b[i].shares.length := by omega
        refine OK.skip ?_
        refine Ab.D.code ?_
        refine OK.seq ?_
        refine OK.reg ?_
        refine RK.c (S.assign .none rfl (.cint rfl)) ?_
        refine RK.nil ?_
        refine Ab.D.code ?_
        refine OK.block ?_
        refine OK.loop (G := Nat) [] (fun k => [(0, .sl (a.map Basket.cs)), (1, .sl (b.map Basket.cs)), (5, .int .i64 i), (6, .int .i64 k)]) (fun k => k ≤ a[i].shares.length ∧ ∀ (m : Nat) (h1 : m < a[i].shares.length) (h2 : m < b[i].shares.length), m < k → a[i].shares[m] = b[i].shares[m]) (fun k => a[i].shares.length - k) 0 ⟨Nat.zero_le _, fun m _ _ h => absurd h (by omega)⟩ ⟨rfl, rfl, rfl, rfl, trivial⟩ (fun _ => rfl) ?_
        rintro k ⟨hk, hg2⟩
        refine OK.seq ?_
        refine OK.seq ?_
        refine OK.reg ?_
        refine RK.c (S.move .none rfl (.tmp rfl rfl)) ?_
        refine RK.c (S.move .none rfl (.tmp rfl rfl)) ?_
        refine RK.c (S.move .none rfl (.tmp rfl rfl)) ?_
        refine RK.c (S.indexM (n := i) si50 .none rfl (.tmp rfl rfl) (.tmp rfl rfl) rfl (by omega) rfl) ?_
        refine RK.c (S.field fi71_0 .none rfl (.tmp rfl rfl) rfl) ?_
        refine RK.c (S.load1 ti69 .none rfl (.tmp rfl rfl) rfl) ?_
        refine RK.c (S.lenM si69 .none rfl (.tmp rfl rfl)) ?_
        refine RK.c (S.lss .none rfl (.tmp rfl rfl) (.tmp rfl rfl)) ?_
        refine RK.nil ?_
        refine Ab.D.code ?_
        refine OK.condD rfl rfl (fun c38 => ?_) (fun c38 => ?_)
        ·
          have hka : k < a[i].shares.length := by omega
          have hkb : k < b[i].shares.length := by omega
          refine OK.skip ?_
          refine Ab.D.code ?_
          refine OK.seq ?_
          refine OK.block ?_
          refine OK.seq ?_
          refine OK.regionDraw follows (.c (S.move .none rfl (.tmp rfl rfl))
            (.c (S.move .none rfl (.tmp rfl rfl))
            (.c (S.indexM (n := i) si50 .none rfl (.tmp rfl rfl) (.tmp rfl rfl) rfl (by omega) rfl)
            (.c (S.field fi71_0 .none rfl (.tmp rfl rfl) rfl)
            (.c (S.load1 ti69 .none rfl (.tmp rfl rfl) rfl)
            (.c (S.move .none rfl (.tmp rfl rfl))
            (.c (S.indexM (n := k) si69 .none rfl (.tmp rfl rfl) (.tmp rfl rfl) rfl (by omega) rfl)
            (.c (S.loadN ti73 .none rfl (.tmp rfl rfl) rfl rfl)
            (.c (S.move .none rfl (.tmp rfl rfl))
            (.c (S.move .none rfl (.tmp rfl rfl))
            (.c (S.indexM (n := i) si50 .none rfl (.tmp rfl rfl) (.tmp rfl rfl) rfl (by omega) rfl)
            (.c (S.field fi71_0 .none rfl (.tmp rfl rfl) rfl)
            (.c (S.load1 ti69 .none rfl (.tmp rfl rfl) rfl)
            (.c (S.move .none rfl (.tmp rfl rfl))
            (.c (S.indexM (n := k) si69 .none rfl (.tmp rfl rfl) (.tmp rfl rfl) rfl (by omega) rfl)
            (.c (S.loadN ti73 .none rfl (.tmp rfl rfl) rfl rfl)
            (.c (S.pneq (b := decide (a[i].shares[k] ≠ b[i].shares[k])) [.s [], .i 0] [.s a[i].shares[k].lot, .i a[i].shares[k].parts] [.s b[i].shares[k].lot, .i b[i].shares[k].parts] eqp73 .none rfl (.tmp rfl rfl) (.tmp rfl rfl) rfl rfl rfl rfl share_pneq)
            .nil))))))))))))))))) (by kernel_rfl) ?_
          refine Ab.D.code ?_
          refine OK.condD rfl rfl (fun c57 => ?_) (fun c57 => ?_)
          ·
            refine OK.seq ?_
            refine OK.reg ?_
            refine RK.c (S.assign .none rfl .cbool) ?_
            refine RK.nil ?_
            refine Ab.D.code ?_
            refine OK.ret (Ret.r1 (.tmp rfl rfl (.c (.same rfl) rfl) rfl) ?_)
            exact ret_b (same_at hia hib (same_at2 hka hkb c57))
          ·
            refine OK.skip ?_
            refine Ab.D.blk ?_
            refine Ab.D.code ?_
            refine OK.reg ?_
            refine RK.c (S.move .none rfl (.tmp rfl rfl)) ?_
            refine RK.c (S.add .none rfl (.tmp rfl rfl) (.cint rfl) (IntWalk.i64_in _ (by omega)) (IntWalk.i64_in _ (by omega))) ?_
            refine RK.c (S.assign .none rfl (.tmp rfl rfl)) ?_
            refine RK.nil ?_
            refine Ab.D.lp ⟨k + 1, ⟨by omega, fun m h1 h2 h => by rcases Nat.lt_or_ge m k with q | q; exact hg2 m h1 h2 q; obtain rfl : m = k := (by omega); exact Decidable.not_not.1 c57⟩, (by omega), rfl, rfl, rfl, rfl, trivial⟩
        ·
          refine OK.exit rfl ?_
          refine Ab.D.blk ?_
          refine Ab.D.code ?_
          refine OK.reg ?_
          refine RK.c (S.move .none rfl (.tmp rfl rfl)) ?_
          refine RK.c (S.add .none rfl (.tmp rfl rfl) (.cint rfl) (IntWalk.i64_in _ (by omega)) (IntWalk.i64_in _ (by omega))) ?_
          refine RK.c (S.assign .none rfl (.tmp rfl rfl)) ?_
          refine RK.nil ?_
          refine Ab.D.lp ⟨i + 1, ⟨by omega, fun m h1 h2 h => by rcases Nat.lt_or_ge m i with q | q; exact hg m h1 h2 q; obtain rfl : m = i := (by omega); exact same_row hsl fun n q1 q2 => hg2 n q1 q2 (by omega)⟩, (by omega), rfl, rfl, rfl, trivial⟩
    ·
      refine OK.exit rfl ?_
      refine Ab.D.code ?_
      refine OK.seq ?_
      refine OK.reg ?_
      refine RK.c (S.assign .none rfl .cbool) ?_
      refine RK.nil ?_
      refine Ab.D.code ?_
      refine OK.ret (Ret.r1 (.tmp rfl rfl (.c (.same rfl) rfl) rfl) ?_)
      exact ret_b (same_end hll fun k h1 h2 => hg k h1 h2 (by omega))
set_option maxHeartbeats 4000000 in
theorem ref9_Baskets {l : List Lot} {cap : Int} (hl0 : lotsE l cap = 0) : Ct Tryz.prog 38 [.sl (l.map Lot.cs), .int .i64 cap] (.sl ((basketsT l cap).map Basket.cs)) := by
  refine Ct.intro (rs := [.tmp 4]) Tryz.func38 rfl Tryz.ntmps38 Tryz.results38 rfl rfl rfl fun w h => ?_
  have hok := lots_ok hl0
  have hl8 := hok.len
  have hcap := hok.cap
  refine OK.seq ?_
  refine OK.reg ?_
  refine RK.c (S.assign .none rfl .cnil) ?_
  refine RK.nil ?_
  refine Ab.D.code ?_
  refine OK.seq ?_
  refine OK.reg ?_
  refine RK.c (S.nilOwn (k := 5) (sz := 1) .none rfl) ?_
  refine RK.nil ?_
  refine Ab.D.code ?_
  refine OK.seq ?_
  refine OK.reg ?_
  refine RK.c (S.nilOwn (k := 6) (sz := 1) .none rfl) ?_
  refine RK.nil ?_
  refine Ab.D.code ?_
  refine OK.seq ?_
  refine OK.seq ?_
  refine OK.reg ?_
  refine RK.c (S.assign .none rfl (.cint rfl)) ?_
  refine RK.nil ?_
  refine Ab.D.code ?_
  refine OK.block ?_
  refine OK.loop3 [5, 6] (fun (i : Nat) (pre : List (List Lot)) (ks : List (List UInt8)) => [(0, .sl (l.map Lot.cs)), (1, .int .i64 cap), (5, .own 5 (pre.foldl (roundT cap) []).length), (2005, .arr 1 ((pre.foldl (roundT cap) []).map Basket.cs)), (6, .own 6 ks.length), (2006, .arr 1 (ks.map fun s => [.str s])), (7, .int .i64 i)]) (fun i pre ks => i ≤ l.length ∧ heatsT l = pre ++ heatGo ks (l.drop i) ∧ ks.length ≤ i) (fun i pre ks => l.length - i) (0) ([]) ([]) ⟨Nat.zero_le _, rfl, Nat.le_refl _⟩ ⟨rfl, rfl, (lk_own (by first | rfl | (simp; done) | (simp; omega))), (lk_arr (by first | rfl | (simp; done) | (simp; omega))), (lk_own (by first | rfl | (simp; done) | (simp; omega))), (lk_arr (by first | rfl | (simp; done) | (simp; omega))), rfl, trivial⟩ (fun _ _ _ => rfl) ?_
  rintro i pre ks ⟨hi, hD, hks⟩
  refine OK.seq ?_
  refine OK.seq ?_
  refine OK.reg ?_
  refine RK.c (S.move .none rfl (.tmp rfl rfl)) ?_
  refine RK.c (S.move .none rfl (.tmp rfl rfl)) ?_
  refine RK.c (S.lenM si49 .none rfl (.tmp rfl rfl)) ?_
  refine RK.c (S.lss .none rfl (.tmp rfl rfl) (.tmp rfl rfl)) ?_
  refine RK.nil ?_
  refine Ab.D.code ?_
  refine OK.condD rfl rfl (fun c16 => ?_) (fun c16 => ?_)
  ·
    have hil : i < l.length := by omega
    have hob := out_bd hok hD
    refine OK.skip ?_
    refine Ab.D.code ?_
    refine OK.seq ?_
    refine OK.block ?_
    refine OK.seq ?_
    refine OK.seq ?_
    refine OK.reg ?_
    refine RK.c (S.move .none rfl (.tmp rfl rfl)) ?_
    refine RK.c (S.move .none rfl (.tmp rfl rfl)) ?_
    refine RK.c (S.move .none rfl (.tmp rfl rfl)) ?_
    refine RK.c (S.indexM (n := i) si49 .none rfl (.tmp rfl rfl) (.tmp rfl rfl) rfl (by omega) rfl) ?_
    refine RK.c (S.field fi66_1 .none rfl (.tmp rfl rfl) rfl) ?_
    refine RK.c (S.load1 ti9 .none rfl (.tmp rfl rfl) rfl) ?_
    refine RK.c (S.callL (base_HasText (l := ks)) Tryz.call40 .none rfl (.cons (.tmp rfl rfl) (.cons (.tmp rfl rfl) .nil)) (.cons (.p (.own rfl (by simp)) rfl) (.cons (.same rfl) .nil)) rfl) ?_
    refine RK.nil ?_
    refine Ab.D.code ?_
    refine OK.cond rfl rfl (fun c25 => ?_) (fun c25 => ?_)
    ·
      have hin : l[i].heat ∈ ks := hasText_mem.1 c25
      refine OK.exit rfl ?_
      refine Ab.D.code ?_
      refine OK.reg ?_
      refine RK.c (S.move .none rfl (.tmp rfl rfl)) ?_
      refine RK.c (S.add .none rfl (.tmp rfl rfl) (.cint rfl) (IntWalk.i64_in _ (by omega)) (IntWalk.i64_in _ (by omega))) ?_
      refine RK.c (S.assign .none rfl (.tmp rfl rfl)) ?_
      refine RK.nil ?_
      refine Ab.D.lp ⟨i + 1, pre, ks, ⟨by omega, by first | (rw [hD, heatGo_drop (by omega), if_pos hin]; done) | (rw [hD2]; simp), by first | omega | (rw [List.length_append]; simp; omega)⟩, (by omega), rfl, rfl, (lk_own (by first | rfl | (rw [round_snoc, hrt]; simp [optB]))), (lk_arr (by first | rfl | (rw [round_snoc, hrt]; simp [optB, Basket.cs]))), (lk_own (by simp)), (lk_arr (by first | rfl | (simp; done) | (simp; omega))), rfl, trivial⟩
    ·
      have hnin : l[i].heat ∉ ks := fun e => by rw [hasText_mem.2 e] at c25; cases c25
      have hD2 : heatsT l = pre ++ ((l.drop i).filter fun y => !decide (y.heat ≠ l[i].heat)) :: heatGo (ks ++ [l[i].heat]) (l.drop (i + 1)) := by rw [hD, heatGo_drop hil, if_neg hnin]
      refine OK.skip ?_
      refine Ab.D.code ?_
      refine OK.seq ?_
      refine OK.reg ?_
      refine RK.c (S.move .none rfl (.tmp rfl rfl)) ?_
      refine RK.c (S.move .none rfl (.tmp rfl rfl)) ?_
      refine RK.c (S.move .none rfl (.tmp rfl rfl)) ?_
      refine RK.c (S.indexM (n := i) si49 .none rfl (.tmp rfl rfl) (.tmp rfl rfl) rfl (by omega) rfl) ?_
      refine RK.c (S.field fi66_1 .none rfl (.tmp rfl rfl) rfl) ?_
      refine RK.c (S.load1 ti9 .none rfl (.tmp rfl rfl) rfl) ?_
      refine RK.c (S.mkSlice (k := 32) (rows := [[_]]) ai64 .none rfl (.cons (.tmp rfl rfl) .nil) rfl rfl rfl rfl rfl rfl rfl) ?_
      refine RK.c (S.append ai64 .none rfl (.tmp rfl rfl) rfl (by first | rfl | (simp; done) | (simp; omega)) (.tmp rfl rfl) rfl (by first | rfl | (simp; done) | (simp; omega)) (by omega) (by simp only [maxLen]; omega)) ?_
      refine RK.c (S.assign .none rfl (.tmp rfl rfl)) ?_
      refine RK.nil ?_
      refine Ab.D.code ?_
      refine OK.seq ?_
      refine OK.reg ?_
      refine RK.c (S.alloc (k := 8) ze71 rfl .none rfl) ?_
      refine RK.nil ?_
      refine Ab.D.code ?_
      refine OK.seq ?_
      refine OK_any 2871 (by decide) ?_
      refine OK.reg ?_
      refine RK.c (S.move .none rfl (.tmp rfl rfl)) ?_
      refine RK.c (S.assign .none rfl (.tmp rfl rfl)) ?_
      refine RK.nil ?_
      refine Ab.D.code ?_
      refine OK.seq ?_
      refine OK.seq ?_
      refine OK.reg ?_
      refine RK.c (S.move .none rfl (.tmp rfl rfl)) ?_
      refine RK.c (S.assign .none rfl (.tmp rfl rfl)) ?_
      refine RK.nil ?_
      refine Ab.D.code ?_
      refine OK.block ?_
      refine OK.loop4 [5, 6, 8, 871] (fun (k : Nat) (cl : List Basket) (op : Option (List Share)) (room : Int) => [(0, .sl (l.map Lot.cs)), (1, .int .i64 cap), (5, .own 5 cl.length), (2005, .arr 1 (cl.map Basket.cs)), (6, .own 6 (ks.length + 1)), (2006, .arr 1 ((ks ++ [l[i].heat]).map fun s => [.str s])), (7, .int .i64 i), (8, .ptr 8 0), (1008, nowX op), (2871, shX op), (9, .int .i64 (roomT cap room)), (10, .int .i64 k)]) (fun k cl op room => (i ≤ k ∧ k ≤ l.length) ∧ (seg l i k).foldl (lotT cap) ((pre.foldl (roundT cap) []), none, 0) = (cl, op, room) ∧ FillOk cap op room ∧ cl.length ≤ (pre.foldl (roundT cap) []).length + 1000 * (k - i) ∧ (op.getD []).length ≤ 1000 * (k - i) ∧ ∀ sh, op = some sh → sh ≠ []) (fun k cl op room => l.length - k) (i) ((pre.foldl (roundT cap) [])) (none) (0) ⟨⟨Nat.le_refl _, by omega⟩, by rw [seg_0]; rfl, ⟨⟨by omega, by omega⟩, fun _ => rfl, fun _ => rfl⟩, by omega, by simp, fun _ h => by cases h⟩ ⟨rfl, rfl, (lk_own (by first | rfl | (simp; done) | (simp; omega))), (lk_arr (by first | rfl | (simp; done) | (simp; omega))), (lk_own (by simp)), (lk_arr (by simp)), rfl, rfl, rfl, rfl, (lkI (if_pos rfl).symm), rfl, trivial⟩ (fun _ _ op _ => by cases op <;> rfl) ?_
      rintro k cl op room ⟨⟨hik, hk⟩, hfold, hf, hcl, hsh, hne⟩
      refine OK.seq ?_
      refine OK.seq ?_
      refine OK.reg ?_
      refine RK.c (S.move .none rfl (.tmp rfl rfl)) ?_
      refine RK.c (S.move .none rfl (.tmp rfl rfl)) ?_
      refine RK.c (S.lenM si49 .none rfl (.tmp rfl rfl)) ?_
      refine RK.c (S.lss .none rfl (.tmp rfl rfl) (.tmp rfl rfl)) ?_
      refine RK.nil ?_
      refine Ab.D.code ?_
      refine OK.condD rfl rfl (fun c39 => ?_) (fun c39 => ?_)
      ·
        have hkl : k < l.length := by omega
        have hxk := hok.parts _ (List.getElem_mem hkl)
        refine OK.skip ?_
        refine Ab.D.code ?_
        refine OK.seq ?_
        refine OK.block ?_
        refine OK.seq ?_
        refine OK.reg ?_
        refine RK.c (S.move .none rfl (.tmp rfl rfl)) ?_
        refine RK.c (S.move .none rfl (.tmp rfl rfl)) ?_
        refine RK.c (S.indexM (n := k) si49 .none rfl (.tmp rfl rfl) (.tmp rfl rfl) rfl (by omega) rfl) ?_
        refine RK.c (S.field fi66_2 .none rfl (.tmp rfl rfl) rfl) ?_
        refine RK.c (S.load1 ti3 .none rfl (.tmp rfl rfl) rfl) ?_
        refine RK.c (S.assign .none rfl (.tmp rfl rfl)) ?_
        refine RK.nil ?_
        refine Ab.D.code ?_
        refine OK.block ?_
        refine OK.loop4 [5, 6, 8, 871] (fun (left : Int) (cl2 : List Basket) (op2 : Option (List Share)) (room2 : Int) => [(0, .sl (l.map Lot.cs)), (1, .int .i64 cap), (5, .own 5 cl2.length), (2005, .arr 1 (cl2.map Basket.cs)), (6, .own 6 (ks.length + 1)), (2006, .arr 1 ((ks ++ [l[i].heat]).map fun s => [.str s])), (7, .int .i64 i), (8, .ptr 8 0), (1008, nowX op2), (2871, shX op2), (9, .int .i64 (roomT cap room2)), (10, .int .i64 k), (11, .int .i64 left)]) (fun left cl2 op2 room2 => ((l[k].heat = l[i].heat → fillGo cap l[k].name left.toNat left (cl2, op2, room2) = lotT cap (cl, op, room) l[k]) ∧ (¬ l[k].heat = l[i].heat → (cl2, op2, room2) = (cl, op, room))) ∧ (0 ≤ left ∧ left ≤ 1000) ∧ FillOk cap op2 room2 ∧ (cl2.length : Int) + left ≤ (pre.foldl (roundT cap) []).length + 1000 * ((k - i : Nat) : Int) + 1000 ∧ ((op2.getD []).length : Int) + left ≤ 1000 * ((k - i : Nat) : Int) + 1000 ∧ ∀ sh, op2 = some sh → sh ≠ []) (fun left cl2 op2 room2 => left.toNat) (l[k].parts) (cl) (op) (room) ⟨⟨fun _ => rfl, fun _ => rfl⟩, by omega, hf, by omega, by omega, hne⟩ ⟨rfl, rfl, (lk_own (by first | rfl | (simp; done) | (simp; omega))), (lk_arr (by first | rfl | (simp; done) | (simp; omega))), (lk_own (by first | rfl | (simp; done) | (simp; omega))), (lk_arr (by first | rfl | (simp; done) | (simp; omega))), rfl, rfl, rfl, rfl, rfl, rfl, rfl, trivial⟩ (fun _ _ op _ => by cases op <;> rfl) ?_
        rintro left cl2 op2 room2 ⟨⟨hgo, hsame⟩, hleft, hf2, hcl2, hsh2, hne2⟩
        rcases op2 with _ | sh
        ·
          refine OK.weak (U' := [5, 6, 8]) (s' := [(0, .sl (l.map Lot.cs)), (1, .int .i64 cap), (5, .own 5 cl2.length), (2005, .arr 1 (cl2.map Basket.cs)), (6, .own 6 (ks.length + 1)), (2006, .arr 1 ((ks ++ [l[i].heat]).map fun s => [.str s])), (7, .int .i64 i), (8, .ptr 8 0), (1008, .box [.nils]), (9, .int .i64 (roomT cap room2)), (10, .int .i64 k), (11, .int .i64 left)]) ?_ ⟨rfl, rfl, rfl, rfl, rfl, rfl, rfl, rfl, rfl, rfl, rfl, rfl, trivial⟩ rfl
          refine OK_any 2871 (by decide) ?_
          refine OK.seq ?_
          refine OK.seq ?_
          by_cases g58 : l[k].heat = l[i].heat
          ·
            refine OK.regionDraw follows (.c (S.move .none rfl (.tmp rfl rfl))
              (.c (S.move .none rfl (.tmp rfl rfl))
              (.c (S.indexM (n := k) si49 .none rfl (.tmp rfl rfl) (.tmp rfl rfl) rfl (by omega) rfl)
              (.c (S.field fi66_1 .none rfl (.tmp rfl rfl) rfl)
              (.c (S.load1 ti9 .none rfl (.tmp rfl rfl) rfl)
              (.c (S.move .none rfl (.tmp rfl rfl))
              (.c (S.move .none rfl (.tmp rfl rfl))
              (.c (S.indexM (n := i) si49 .none rfl (.tmp rfl rfl) (.tmp rfl rfl) rfl (by omega) rfl)
              (.c (S.field fi66_1 .none rfl (.tmp rfl rfl) rfl)
              (.c (S.load1 ti9 .none rfl (.tmp rfl rfl) rfl)
              (.c (S.seql .none rfl (.tmp rfl rfl) (.tmp rfl rfl))
              (.c (S.move .none rfl (.tmp rfl rfl))
              (.c (S.move (.yes rfl rfl rfl (by first | rfl | exact decide_eq_true g58 | exact decide_eq_false g58 | (rw [decide_eq_true g58]; rfl) | (rw [decide_eq_false g58]; rfl) | simp [*])) rfl (.tmp rfl rfl))
              (.c (S.gtr (.yes rfl rfl rfl (by first | rfl | exact decide_eq_true g58 | exact decide_eq_false g58 | (rw [decide_eq_true g58]; rfl) | (rw [decide_eq_false g58]; rfl) | simp [*])) rfl (.tmp rfl rfl) (.cint rfl))
              (.c (S.pickT .none rfl (.tmp rfl rfl) (.tmp rfl rfl) (by first | rfl | exact decide_eq_true g58 | exact decide_eq_false g58 | (rw [decide_eq_true g58]; rfl) | (rw [decide_eq_false g58]; rfl) | simp [*]))
              .nil))))))))))))))) (by kernel_rfl) ?_
            refine Ab.D.code ?_
            refine OK.condD rfl rfl (fun c61 => ?_) (fun c61 => ?_)
            ·
              have hl1 : 0 < left := by omega
              have hrr : 1 ≤ roomT cap room2 ∧ roomT cap room2 ≤ cap := room_bd hcap hf2.1
              have hmb := min_bd (a := left) (b := roomT cap room2) (by omega) (by omega)
              refine OK.skip ?_
              refine Ab.D.code ?_
              refine OK.block ?_
              refine OK.seq ?_
              refine OK.reg ?_
              refine RK.c (S.move .none rfl (.tmp rfl rfl)) ?_
              refine RK.c (S.move .none rfl (.tmp rfl rfl)) ?_
              refine RK.c (S.min2 .none rfl (.tmp rfl rfl) (.tmp rfl rfl)) ?_
              refine RK.c (S.assign .none rfl (.tmp rfl rfl)) ?_
              refine RK.nil ?_
              refine Ab.D.code ?_
              refine OK.seq ?_
              refine OK.boxOwn 8 0 871 2 rfl rfl rfl rfl rfl ?_
              refine OK.regionDraw follows (.c (S.bfield fi71_0 .none rfl (.tmp rfl rfl))
                (.c (S.bload1 ti69 .none rfl (.tmp rfl rfl) rfl rfl rfl rfl)
                (.c (S.move .none rfl (.tmp rfl rfl))
                (.c (S.move .none rfl (.tmp rfl rfl))
                (.c (S.indexM (n := k) si49 .none rfl (.tmp rfl rfl) (.tmp rfl rfl) rfl (by omega) rfl)
                (.c (S.field fi66_0 .none rfl (.tmp rfl rfl) rfl)
                (.c (S.load1 ti9 .none rfl (.tmp rfl rfl) rfl)
                (.c (S.move .none rfl (.tmp rfl rfl))
                (.c (S.build bu73 rfl .none rfl (.cons (.tmp rfl rfl) (.cons (.tmp rfl rfl) .nil)) rfl rfl)
                (.c (S.mkSlice (k := 74) (rows := [[_, _]]) ai69 .none rfl (.cons (.tmp rfl rfl) .nil) rfl rfl rfl rfl rfl rfl rfl)
                (.c (S.append ai69 .none rfl (.tmp rfl rfl) rfl (by first | rfl | (simp; done) | (simp; omega)) (.tmp rfl rfl) rfl (by first | rfl | (simp; done) | (simp; omega)) (by omega) (by simp only [maxLen]; omega))
                (.c (S.bfield fi71_0 .none rfl (.tmp rfl rfl))
                (.c (S.store ti69 .none (.tmp rfl rfl) (.tmp rfl rfl) rfl rfl rfl rfl rfl rfl)
                .nil))))))))))))) (by kernel_rfl) ?_
              refine Ab.D.code ?_
              refine OK.seq ?_
              refine OK.reg ?_
              refine RK.c (S.move .none rfl (.tmp rfl rfl)) ?_
              refine RK.c (S.move .none rfl (.tmp rfl rfl)) ?_
              refine RK.c (S.sub .none rfl (.tmp rfl rfl) (.tmp rfl rfl) (IntWalk.i64_in _ (by omega)) (IntWalk.i64_in _ (by omega))) ?_
              refine RK.c (S.move .none rfl (.tmp rfl rfl)) ?_
              refine RK.c (S.move .none rfl (.tmp rfl rfl)) ?_
              refine RK.c (S.sub .none rfl (.tmp rfl rfl) (.tmp rfl rfl) (IntWalk.i64_in _ (by omega)) (IntWalk.i64_in _ (by omega))) ?_
              refine RK.c (S.assign .none rfl (.tmp rfl rfl)) ?_
              refine RK.c (S.assign .none rfl (.tmp rfl rfl)) ?_
              refine RK.nil ?_
              refine Ab.D.code ?_
              refine OK.seq ?_
              refine OK.reg ?_
              refine RK.c (S.move .none rfl (.tmp rfl rfl)) ?_
              refine RK.c (S.eql .none rfl (.tmp rfl rfl) (.cint rfl)) ?_
              refine RK.nil ?_
              refine Ab.D.code ?_
              refine OK.condD rfl rfl (fun c84 => ?_) (fun c84 => ?_)
              ·
                have hz : roomT cap room2 - minO left (roomT cap room2) = 0 := c84
                refine OK.freezeBox 8 0 rfl rfl rfl rfl (by simp) rfl ?_
                refine OK.reg ?_
                refine RK.c (S.move .none rfl (.tmp rfl rfl)) ?_
                refine RK.c (S.bloadN ti71 .none rfl (.tmp rfl rfl) rfl rfl rfl rfl) ?_
                refine RK.c (S.mkSlice (k := 87) (rows := [[_]]) ai50 .none rfl (.cons (.tmp rfl rfl) .nil) rfl rfl rfl rfl rfl rfl rfl) ?_
                refine RK.c (S.append ai50 .none rfl (.tmp rfl rfl) rfl (by first | rfl | (simp; done) | (simp; omega)) (.tmp rfl rfl) rfl (by first | rfl | (simp; done) | (simp; omega)) (by omega) (by simp only [maxLen]; omega)) ?_
                refine RK.c (S.build bu71 rfl .none rfl .nil rfl rfl) ?_
                refine RK.c (S.move .none rfl (.tmp rfl rfl)) ?_
                refine RK.c (S.assign .none rfl (.tmp rfl rfl)) ?_
                refine RK.c (S.store ti71 .none (.tmp rfl rfl) (.tmp rfl rfl) rfl rfl rfl rfl rfl rfl) ?_
                refine RK.c (S.assign .none rfl (.tmp rfl rfl)) ?_
                refine RK.nil ?_
                refine Ab.D.blk ?_
                refine Ab.D.lp ⟨left - minO left (roomT cap room2), (cl2 ++ [(⟨[(⟨l[k].name, minO left (roomT cap room2)⟩ : Share)]⟩ : Basket)]), none, 0, ⟨⟨fun hh => by first | exact (fill_T hcap.1 hf2.1.1 hl1 hz).trans (hgo hh) | exact (fill_F hcap.1 hf2.1.1 hl1 hz).trans (hgo hh), fun hh => absurd g58 hh⟩, by omega, by first | exact ⟨⟨by omega, by omega⟩, fun _ => rfl, fun _ => rfl⟩ | exact ⟨⟨by omega, by omega⟩, fun e => absurd e hz, fun e => by cases e⟩, by first | omega | (simp only [List.length_append, List.length_singleton]; omega), by first | omega | (simp only [Option.getD_some, Option.getD_none, List.length_append, List.length_singleton, List.length_nil]; omega), by first | (intro _ h; cases h; done) | (intro _ h; cases h; simp)⟩, (by omega), rfl, rfl, (lk_own (by first | rfl | (simp; done))), (lk_arr (by first | rfl | simp [Basket.cs, Share.cs, minO])), (lk_own (by first | rfl | (simp; done) | (simp; omega))), (lk_arr (by first | rfl | (simp; done) | (simp; omega))), rfl, rfl, (by first | rfl | exact lkBO (by simp)), (by first | rfl | exact lk_arr (by simp [Share.cs, minO])), (by first | exact lkI (if_pos rfl).symm | exact lkI (if_neg hz).symm), rfl, rfl, trivial⟩
              ·
                have hz : ¬ roomT cap room2 - minO left (roomT cap room2) = 0 := c84
                refine OK.skip ?_
                refine Ab.D.blk ?_
                refine Ab.D.lp ⟨left - minO left (roomT cap room2), cl2, (some [(⟨l[k].name, minO left (roomT cap room2)⟩ : Share)]), (roomT cap room2 - minO left (roomT cap room2)), ⟨⟨fun hh => by first | exact (fill_T hcap.1 hf2.1.1 hl1 hz).trans (hgo hh) | exact (fill_F hcap.1 hf2.1.1 hl1 hz).trans (hgo hh), fun hh => absurd g58 hh⟩, by omega, by first | exact ⟨⟨by omega, by omega⟩, fun _ => rfl, fun _ => rfl⟩ | exact ⟨⟨by omega, by omega⟩, fun e => absurd e hz, fun e => by cases e⟩, by first | omega | (simp only [List.length_append, List.length_singleton]; omega), by first | omega | (simp only [Option.getD_some, Option.getD_none, List.length_append, List.length_singleton, List.length_nil]; omega), by first | (intro _ h; cases h; done) | (intro _ h; cases h; simp)⟩, (by omega), rfl, rfl, (lk_own (by first | rfl | (simp; done))), (lk_arr (by first | rfl | simp [Basket.cs, Share.cs, minO])), (lk_own (by first | rfl | (simp; done) | (simp; omega))), (lk_arr (by first | rfl | (simp; done) | (simp; omega))), rfl, rfl, (by first | rfl | exact lkBO (by simp)), (by first | rfl | exact lk_arr (by simp [Share.cs, minO])), (by first | exact lkI (if_pos rfl).symm | exact lkI (if_neg hz).symm), rfl, rfl, trivial⟩
            ·
              have hfn := ((seg_fT hik hkl g58 hfold).trans (hgo g58).symm).trans (fill_done (by omega) (by omega))
              refine OK.exit rfl ?_
              refine Ab.D.blk ?_
              refine Ab.D.code ?_
              refine OK.reg ?_
              refine RK.c (S.move .none rfl (.tmp rfl rfl)) ?_
              refine RK.c (S.add .none rfl (.tmp rfl rfl) (.cint rfl) (IntWalk.i64_in _ (by omega)) (IntWalk.i64_in _ (by omega))) ?_
              refine RK.c (S.assign .none rfl (.tmp rfl rfl)) ?_
              refine RK.nil ?_
              refine Ab.D.lp ⟨k + 1, cl2, none, room2, ⟨⟨by omega, by omega⟩, hfn, hf2, by omega, by first | omega | (simp only [Option.getD_some, Option.getD_none, List.length_nil]; omega), hne2⟩, (by omega), rfl, rfl, (lk_own (by first | rfl | (simp; done) | (simp; omega))), (lk_arr (by first | rfl | (simp; done) | (simp; omega))), (lk_own (by first | rfl | (simp; done) | (simp; omega))), (lk_arr (by first | rfl | (simp; done) | (simp; omega))), rfl, rfl, rfl, rfl, rfl, rfl, trivial⟩
          ·
            have hfn := (seg_fF hik hkl g58 hfold).trans (hsame g58).symm
            refine OK.regionDraw follows (.c (S.move .none rfl (.tmp rfl rfl))
              (.c (S.move .none rfl (.tmp rfl rfl))
              (.c (S.indexM (n := k) si49 .none rfl (.tmp rfl rfl) (.tmp rfl rfl) rfl (by omega) rfl)
              (.c (S.field fi66_1 .none rfl (.tmp rfl rfl) rfl)
              (.c (S.load1 ti9 .none rfl (.tmp rfl rfl) rfl)
              (.c (S.move .none rfl (.tmp rfl rfl))
              (.c (S.move .none rfl (.tmp rfl rfl))
              (.c (S.indexM (n := i) si49 .none rfl (.tmp rfl rfl) (.tmp rfl rfl) rfl (by omega) rfl)
              (.c (S.field fi66_1 .none rfl (.tmp rfl rfl) rfl)
              (.c (S.load1 ti9 .none rfl (.tmp rfl rfl) rfl)
              (.c (S.seql .none rfl (.tmp rfl rfl) (.tmp rfl rfl))
              (.c (S.move .none rfl (.tmp rfl rfl))
              (.c (S.skip rfl rfl rfl (by first | rfl | exact decide_eq_true g58 | exact decide_eq_false g58 | (rw [decide_eq_true g58]; rfl) | (rw [decide_eq_false g58]; rfl) | simp [*]) rfl)
              (.c (S.skip rfl rfl rfl (by first | rfl | exact decide_eq_true g58 | exact decide_eq_false g58 | (rw [decide_eq_true g58]; rfl) | (rw [decide_eq_false g58]; rfl) | simp [*]) rfl)
              (.c (S.pickF .none rfl (.tmp rfl rfl) .cbool (by first | rfl | exact decide_eq_true g58 | exact decide_eq_false g58 | (rw [decide_eq_true g58]; rfl) | (rw [decide_eq_false g58]; rfl) | simp [*]))
              .nil))))))))))))))) (by kernel_rfl) ?_
            refine Ab.D.code ?_
            refine OK.condF rfl rfl rfl ?_
            refine OK.exit rfl ?_
            refine Ab.D.blk ?_
            refine Ab.D.code ?_
            refine OK.reg ?_
            refine RK.c (S.move .none rfl (.tmp rfl rfl)) ?_
            refine RK.c (S.add .none rfl (.tmp rfl rfl) (.cint rfl) (IntWalk.i64_in _ (by omega)) (IntWalk.i64_in _ (by omega))) ?_
            refine RK.c (S.assign .none rfl (.tmp rfl rfl)) ?_
            refine RK.nil ?_
            refine Ab.D.lp ⟨k + 1, cl2, none, room2, ⟨⟨by omega, by omega⟩, hfn, hf2, by omega, by first | omega | (simp only [Option.getD_some, Option.getD_none, List.length_nil]; omega), hne2⟩, (by omega), rfl, rfl, (lk_own (by first | rfl | (simp; done) | (simp; omega))), (lk_arr (by first | rfl | (simp; done) | (simp; omega))), (lk_own (by first | rfl | (simp; done) | (simp; omega))), (lk_arr (by first | rfl | (simp; done) | (simp; omega))), rfl, rfl, rfl, rfl, rfl, rfl, trivial⟩
        ·
          simp only [Option.getD_some] at hsh2
          refine OK.weak (U' := [5, 6, 8, 871]) (s' := [(0, .sl (l.map Lot.cs)), (1, .int .i64 cap), (5, .own 5 cl2.length), (2005, .arr 1 (cl2.map Basket.cs)), (6, .own 6 (ks.length + 1)), (2006, .arr 1 ((ks ++ [l[i].heat]).map fun s => [.str s])), (7, .int .i64 i), (8, .ptr 8 0), (1008, .box [.own 871 sh.length]), (2871, .arr 2 (sh.map Share.cs)), (9, .int .i64 (roomT cap room2)), (10, .int .i64 k), (11, .int .i64 left)]) ?_ ⟨rfl, rfl, rfl, rfl, rfl, rfl, rfl, rfl, rfl, rfl, rfl, rfl, rfl, trivial⟩ rfl
          refine OK.seq ?_
          refine OK.seq ?_
          by_cases g58 : l[k].heat = l[i].heat
          ·
            refine OK.regionDraw follows (.c (S.move .none rfl (.tmp rfl rfl))
              (.c (S.move .none rfl (.tmp rfl rfl))
              (.c (S.indexM (n := k) si49 .none rfl (.tmp rfl rfl) (.tmp rfl rfl) rfl (by omega) rfl)
              (.c (S.field fi66_1 .none rfl (.tmp rfl rfl) rfl)
              (.c (S.load1 ti9 .none rfl (.tmp rfl rfl) rfl)
              (.c (S.move .none rfl (.tmp rfl rfl))
              (.c (S.move .none rfl (.tmp rfl rfl))
              (.c (S.indexM (n := i) si49 .none rfl (.tmp rfl rfl) (.tmp rfl rfl) rfl (by omega) rfl)
              (.c (S.field fi66_1 .none rfl (.tmp rfl rfl) rfl)
              (.c (S.load1 ti9 .none rfl (.tmp rfl rfl) rfl)
              (.c (S.seql .none rfl (.tmp rfl rfl) (.tmp rfl rfl))
              (.c (S.move .none rfl (.tmp rfl rfl))
              (.c (S.move (.yes rfl rfl rfl (by first | rfl | exact decide_eq_true g58 | exact decide_eq_false g58 | (rw [decide_eq_true g58]; rfl) | (rw [decide_eq_false g58]; rfl) | simp [*])) rfl (.tmp rfl rfl))
              (.c (S.gtr (.yes rfl rfl rfl (by first | rfl | exact decide_eq_true g58 | exact decide_eq_false g58 | (rw [decide_eq_true g58]; rfl) | (rw [decide_eq_false g58]; rfl) | simp [*])) rfl (.tmp rfl rfl) (.cint rfl))
              (.c (S.pickT .none rfl (.tmp rfl rfl) (.tmp rfl rfl) (by first | rfl | exact decide_eq_true g58 | exact decide_eq_false g58 | (rw [decide_eq_true g58]; rfl) | (rw [decide_eq_false g58]; rfl) | simp [*]))
              .nil))))))))))))))) (by kernel_rfl) ?_
            refine Ab.D.code ?_
            refine OK.condD rfl rfl (fun c61 => ?_) (fun c61 => ?_)
            ·
              have hl1 : 0 < left := by omega
              have hrr : 1 ≤ roomT cap room2 ∧ roomT cap room2 ≤ cap := room_bd hcap hf2.1
              have hmb := min_bd (a := left) (b := roomT cap room2) (by omega) (by omega)
              refine OK.skip ?_
              refine Ab.D.code ?_
              refine OK.block ?_
              refine OK.seq ?_
              refine OK.reg ?_
              refine RK.c (S.move .none rfl (.tmp rfl rfl)) ?_
              refine RK.c (S.move .none rfl (.tmp rfl rfl)) ?_
              refine RK.c (S.min2 .none rfl (.tmp rfl rfl) (.tmp rfl rfl)) ?_
              refine RK.c (S.assign .none rfl (.tmp rfl rfl)) ?_
              refine RK.nil ?_
              refine Ab.D.code ?_
              refine OK.seq ?_
              refine OK.regionDraw follows (.c (S.bfield fi71_0 .none rfl (.tmp rfl rfl))
                (.c (S.bload1 ti69 .none rfl (.tmp rfl rfl) rfl rfl rfl rfl)
                (.c (S.move .none rfl (.tmp rfl rfl))
                (.c (S.move .none rfl (.tmp rfl rfl))
                (.c (S.indexM (n := k) si49 .none rfl (.tmp rfl rfl) (.tmp rfl rfl) rfl (by omega) rfl)
                (.c (S.field fi66_0 .none rfl (.tmp rfl rfl) rfl)
                (.c (S.load1 ti9 .none rfl (.tmp rfl rfl) rfl)
                (.c (S.move .none rfl (.tmp rfl rfl))
                (.c (S.build bu73 rfl .none rfl (.cons (.tmp rfl rfl) (.cons (.tmp rfl rfl) .nil)) rfl rfl)
                (.c (S.mkSlice (k := 74) (rows := [[_, _]]) ai69 .none rfl (.cons (.tmp rfl rfl) .nil) rfl rfl rfl rfl rfl rfl rfl)
                (.c (S.append ai69 .none rfl (.tmp rfl rfl) rfl (by first | rfl | (simp; done) | (simp; omega)) (.tmp rfl rfl) rfl (by first | rfl | (simp; done) | (simp; omega)) (by omega) (by simp only [maxLen]; omega))
                (.c (S.bfield fi71_0 .none rfl (.tmp rfl rfl))
                (.c (S.store ti69 .none (.tmp rfl rfl) (.tmp rfl rfl) rfl rfl rfl rfl rfl rfl)
                .nil))))))))))))) (by kernel_rfl) ?_
              refine Ab.D.code ?_
              refine OK.seq ?_
              refine OK.reg ?_
              refine RK.c (S.move .none rfl (.tmp rfl rfl)) ?_
              refine RK.c (S.move .none rfl (.tmp rfl rfl)) ?_
              refine RK.c (S.sub .none rfl (.tmp rfl rfl) (.tmp rfl rfl) (IntWalk.i64_in _ (by omega)) (IntWalk.i64_in _ (by omega))) ?_
              refine RK.c (S.move .none rfl (.tmp rfl rfl)) ?_
              refine RK.c (S.move .none rfl (.tmp rfl rfl)) ?_
              refine RK.c (S.sub .none rfl (.tmp rfl rfl) (.tmp rfl rfl) (IntWalk.i64_in _ (by omega)) (IntWalk.i64_in _ (by omega))) ?_
              refine RK.c (S.assign .none rfl (.tmp rfl rfl)) ?_
              refine RK.c (S.assign .none rfl (.tmp rfl rfl)) ?_
              refine RK.nil ?_
              refine Ab.D.code ?_
              refine OK.seq ?_
              refine OK.reg ?_
              refine RK.c (S.move .none rfl (.tmp rfl rfl)) ?_
              refine RK.c (S.eql .none rfl (.tmp rfl rfl) (.cint rfl)) ?_
              refine RK.nil ?_
              refine Ab.D.code ?_
              refine OK.condD rfl rfl (fun c84 => ?_) (fun c84 => ?_)
              ·
                have hz : roomT cap room2 - minO left (roomT cap room2) = 0 := c84
                refine OK.freezeBox 8 0 rfl rfl rfl rfl (by simp) rfl ?_
                refine OK.reg ?_
                refine RK.c (S.move .none rfl (.tmp rfl rfl)) ?_
                refine RK.c (S.bloadN ti71 .none rfl (.tmp rfl rfl) rfl rfl rfl rfl) ?_
                refine RK.c (S.mkSlice (k := 87) (rows := [[_]]) ai50 .none rfl (.cons (.tmp rfl rfl) .nil) rfl rfl rfl rfl rfl rfl rfl) ?_
                refine RK.c (S.append ai50 .none rfl (.tmp rfl rfl) rfl (by first | rfl | (simp; done) | (simp; omega)) (.tmp rfl rfl) rfl (by first | rfl | (simp; done) | (simp; omega)) (by omega) (by simp only [maxLen]; omega)) ?_
                refine RK.c (S.build bu71 rfl .none rfl .nil rfl rfl) ?_
                refine RK.c (S.move .none rfl (.tmp rfl rfl)) ?_
                refine RK.c (S.assign .none rfl (.tmp rfl rfl)) ?_
                refine RK.c (S.store ti71 .none (.tmp rfl rfl) (.tmp rfl rfl) rfl rfl rfl rfl rfl rfl) ?_
                refine RK.c (S.assign .none rfl (.tmp rfl rfl)) ?_
                refine RK.nil ?_
                refine Ab.D.blk ?_
                refine Ab.D.lp ⟨left - minO left (roomT cap room2), (cl2 ++ [(⟨(sh ++ [(⟨l[k].name, minO left (roomT cap room2)⟩ : Share)])⟩ : Basket)]), none, 0, ⟨⟨fun hh => by first | exact (fill_T hcap.1 hf2.1.1 hl1 hz).trans (hgo hh) | exact (fill_F hcap.1 hf2.1.1 hl1 hz).trans (hgo hh), fun hh => absurd g58 hh⟩, by omega, by first | exact ⟨⟨by omega, by omega⟩, fun _ => rfl, fun _ => rfl⟩ | exact ⟨⟨by omega, by omega⟩, fun e => absurd e hz, fun e => by cases e⟩, by first | omega | (simp only [List.length_append, List.length_singleton]; omega), by first | omega | (simp only [Option.getD_some, Option.getD_none, List.length_append, List.length_singleton, List.length_nil]; omega), by first | (intro _ h; cases h; done) | (intro _ h; cases h; simp)⟩, (by omega), rfl, rfl, (lk_own (by first | rfl | (simp; done))), (lk_arr (by first | rfl | simp [Basket.cs, Share.cs, minO])), (lk_own (by first | rfl | (simp; done) | (simp; omega))), (lk_arr (by first | rfl | (simp; done) | (simp; omega))), rfl, rfl, (by first | rfl | exact lkBO (by simp)), (by first | rfl | exact lk_arr (by simp [Share.cs, minO])), (by first | exact lkI (if_pos rfl).symm | exact lkI (if_neg hz).symm), rfl, rfl, trivial⟩
              ·
                have hz : ¬ roomT cap room2 - minO left (roomT cap room2) = 0 := c84
                refine OK.skip ?_
                refine Ab.D.blk ?_
                refine Ab.D.lp ⟨left - minO left (roomT cap room2), cl2, (some (sh ++ [(⟨l[k].name, minO left (roomT cap room2)⟩ : Share)])), (roomT cap room2 - minO left (roomT cap room2)), ⟨⟨fun hh => by first | exact (fill_T hcap.1 hf2.1.1 hl1 hz).trans (hgo hh) | exact (fill_F hcap.1 hf2.1.1 hl1 hz).trans (hgo hh), fun hh => absurd g58 hh⟩, by omega, by first | exact ⟨⟨by omega, by omega⟩, fun _ => rfl, fun _ => rfl⟩ | exact ⟨⟨by omega, by omega⟩, fun e => absurd e hz, fun e => by cases e⟩, by first | omega | (simp only [List.length_append, List.length_singleton]; omega), by first | omega | (simp only [Option.getD_some, Option.getD_none, List.length_append, List.length_singleton, List.length_nil]; omega), by first | (intro _ h; cases h; done) | (intro _ h; cases h; simp)⟩, (by omega), rfl, rfl, (lk_own (by first | rfl | (simp; done))), (lk_arr (by first | rfl | simp [Basket.cs, Share.cs, minO])), (lk_own (by first | rfl | (simp; done) | (simp; omega))), (lk_arr (by first | rfl | (simp; done) | (simp; omega))), rfl, rfl, (by first | rfl | exact lkBO (by simp)), (by first | rfl | exact lk_arr (by simp [Share.cs, minO])), (by first | exact lkI (if_pos rfl).symm | exact lkI (if_neg hz).symm), rfl, rfl, trivial⟩
            ·
              have hfn := ((seg_fT hik hkl g58 hfold).trans (hgo g58).symm).trans (fill_done (by omega) (by omega))
              refine OK.exit rfl ?_
              refine Ab.D.blk ?_
              refine Ab.D.code ?_
              refine OK.reg ?_
              refine RK.c (S.move .none rfl (.tmp rfl rfl)) ?_
              refine RK.c (S.add .none rfl (.tmp rfl rfl) (.cint rfl) (IntWalk.i64_in _ (by omega)) (IntWalk.i64_in _ (by omega))) ?_
              refine RK.c (S.assign .none rfl (.tmp rfl rfl)) ?_
              refine RK.nil ?_
              refine Ab.D.lp ⟨k + 1, cl2, (some sh), room2, ⟨⟨by omega, by omega⟩, hfn, hf2, by omega, by first | omega | (simp only [Option.getD_some, Option.getD_none, List.length_nil]; omega), hne2⟩, (by omega), rfl, rfl, (lk_own (by first | rfl | (simp; done) | (simp; omega))), (lk_arr (by first | rfl | (simp; done) | (simp; omega))), (lk_own (by first | rfl | (simp; done) | (simp; omega))), (lk_arr (by first | rfl | (simp; done) | (simp; omega))), rfl, rfl, rfl, rfl, rfl, rfl, trivial⟩
          ·
            have hfn := (seg_fF hik hkl g58 hfold).trans (hsame g58).symm
            refine OK.regionDraw follows (.c (S.move .none rfl (.tmp rfl rfl))
              (.c (S.move .none rfl (.tmp rfl rfl))
              (.c (S.indexM (n := k) si49 .none rfl (.tmp rfl rfl) (.tmp rfl rfl) rfl (by omega) rfl)
              (.c (S.field fi66_1 .none rfl (.tmp rfl rfl) rfl)
              (.c (S.load1 ti9 .none rfl (.tmp rfl rfl) rfl)
              (.c (S.move .none rfl (.tmp rfl rfl))
              (.c (S.move .none rfl (.tmp rfl rfl))
              (.c (S.indexM (n := i) si49 .none rfl (.tmp rfl rfl) (.tmp rfl rfl) rfl (by omega) rfl)
              (.c (S.field fi66_1 .none rfl (.tmp rfl rfl) rfl)
              (.c (S.load1 ti9 .none rfl (.tmp rfl rfl) rfl)
              (.c (S.seql .none rfl (.tmp rfl rfl) (.tmp rfl rfl))
              (.c (S.move .none rfl (.tmp rfl rfl))
              (.c (S.skip rfl rfl rfl (by first | rfl | exact decide_eq_true g58 | exact decide_eq_false g58 | (rw [decide_eq_true g58]; rfl) | (rw [decide_eq_false g58]; rfl) | simp [*]) rfl)
              (.c (S.skip rfl rfl rfl (by first | rfl | exact decide_eq_true g58 | exact decide_eq_false g58 | (rw [decide_eq_true g58]; rfl) | (rw [decide_eq_false g58]; rfl) | simp [*]) rfl)
              (.c (S.pickF .none rfl (.tmp rfl rfl) .cbool (by first | rfl | exact decide_eq_true g58 | exact decide_eq_false g58 | (rw [decide_eq_true g58]; rfl) | (rw [decide_eq_false g58]; rfl) | simp [*]))
              .nil))))))))))))))) (by kernel_rfl) ?_
            refine Ab.D.code ?_
            refine OK.condF rfl rfl rfl ?_
            refine OK.exit rfl ?_
            refine Ab.D.blk ?_
            refine Ab.D.code ?_
            refine OK.reg ?_
            refine RK.c (S.move .none rfl (.tmp rfl rfl)) ?_
            refine RK.c (S.add .none rfl (.tmp rfl rfl) (.cint rfl) (IntWalk.i64_in _ (by omega)) (IntWalk.i64_in _ (by omega))) ?_
            refine RK.c (S.assign .none rfl (.tmp rfl rfl)) ?_
            refine RK.nil ?_
            refine Ab.D.lp ⟨k + 1, cl2, (some sh), room2, ⟨⟨by omega, by omega⟩, hfn, hf2, by omega, by first | omega | (simp only [Option.getD_some, Option.getD_none, List.length_nil]; omega), hne2⟩, (by omega), rfl, rfl, (lk_own (by first | rfl | (simp; done) | (simp; omega))), (lk_arr (by first | rfl | (simp; done) | (simp; omega))), (lk_own (by first | rfl | (simp; done) | (simp; omega))), (lk_arr (by first | rfl | (simp; done) | (simp; omega))), rfl, rfl, rfl, rfl, rfl, rfl, trivial⟩
      ·
        have hke : k = l.length := by omega
        rw [hke, seg_all hil] at hfold
        have hrt : roundT cap (pre.foldl (roundT cap) []) ((l.drop i).filter fun y => !decide (y.heat ≠ l[i].heat)) = cl ++ optB op := by rw [roundT, hfold]
        refine OK.exit rfl ?_
        refine Ab.D.code ?_
        refine OK.seq ?_
        rcases op with _ | sh
        ·
          refine OK.weak (U' := [5, 6, 8]) (s' := [(0, .sl (l.map Lot.cs)), (1, .int .i64 cap), (5, .own 5 cl.length), (2005, .arr 1 (cl.map Basket.cs)), (6, .own 6 (ks.length + 1)), (2006, .arr 1 ((ks ++ [l[i].heat]).map fun s => [.str s])), (7, .int .i64 i), (8, .ptr 8 0), (1008, .box [.nils]), (9, .int .i64 (roomT cap room)), (10, .int .i64 k)]) ?_ ⟨rfl, rfl, rfl, rfl, rfl, rfl, rfl, rfl, rfl, rfl, rfl, trivial⟩ rfl
          refine OK.boxOwn 8 0 871 2 rfl rfl rfl rfl rfl ?_
          refine OK.reg ?_
          refine RK.c (S.bfield fi71_0 .none rfl (.tmp rfl rfl)) ?_
          refine RK.c (S.bload1 ti69 .none rfl (.tmp rfl rfl) rfl rfl rfl rfl) ?_
          refine RK.c (S.lenOwn si69 .none rfl (.tmp rfl rfl) rfl (by simp)) ?_
          refine RK.c (S.gtr .none rfl (.tmp rfl rfl) (.cint rfl)) ?_
          refine RK.nil ?_
          refine Ab.D.code ?_
          refine OK.condD rfl rfl (fun c94 => ?_) (fun c94 => ?_)
          ·
            exfalso
            omega
          ·
            refine OK.skip ?_
            refine Ab.D.blk ?_
            refine Ab.D.code ?_
            refine OK.reg ?_
            refine RK.c (S.move .none rfl (.tmp rfl rfl)) ?_
            refine RK.c (S.add .none rfl (.tmp rfl rfl) (.cint rfl) (IntWalk.i64_in _ (by omega)) (IntWalk.i64_in _ (by omega))) ?_
            refine RK.c (S.assign .none rfl (.tmp rfl rfl)) ?_
            refine RK.nil ?_
            refine Ab.D.lp ⟨i + 1, pre ++ [(l.drop i).filter fun y => !decide (y.heat ≠ l[i].heat)], ks ++ [l[i].heat], ⟨by omega, by first | (rw [hD, heatGo_drop (by omega), if_pos hin]; done) | (rw [hD2]; simp), by first | omega | (rw [List.length_append]; simp; omega)⟩, (by omega), rfl, rfl, (lk_own (by first | rfl | (rw [round_snoc, hrt]; simp [optB]))), (lk_arr (by first | rfl | (rw [round_snoc, hrt]; simp [optB, Basket.cs]))), (lk_own (by simp)), (lk_arr (by first | rfl | (simp; done) | (simp; omega))), rfl, trivial⟩
        ·
          refine OK.weak (U' := [5, 6, 8, 871]) (s' := [(0, .sl (l.map Lot.cs)), (1, .int .i64 cap), (5, .own 5 cl.length), (2005, .arr 1 (cl.map Basket.cs)), (6, .own 6 (ks.length + 1)), (2006, .arr 1 ((ks ++ [l[i].heat]).map fun s => [.str s])), (7, .int .i64 i), (8, .ptr 8 0), (1008, .box [.own 871 sh.length]), (2871, .arr 2 (sh.map Share.cs)), (9, .int .i64 (roomT cap room)), (10, .int .i64 k)]) ?_ ⟨rfl, rfl, rfl, rfl, rfl, rfl, rfl, rfl, rfl, rfl, rfl, rfl, trivial⟩ rfl
          refine OK.reg ?_
          refine RK.c (S.bfield fi71_0 .none rfl (.tmp rfl rfl)) ?_
          refine RK.c (S.bload1 ti69 .none rfl (.tmp rfl rfl) rfl rfl rfl rfl) ?_
          refine RK.c (S.lenOwn si69 .none rfl (.tmp rfl rfl) rfl (by simp)) ?_
          refine RK.c (S.gtr .none rfl (.tmp rfl rfl) (.cint rfl)) ?_
          refine RK.nil ?_
          refine Ab.D.code ?_
          refine OK.condD rfl rfl (fun c94 => ?_) (fun c94 => ?_)
          ·
            refine OK.freezeBox 8 0 rfl rfl rfl rfl (by simp) rfl ?_
            refine OK.reg ?_
            refine RK.c (S.move .none rfl (.tmp rfl rfl)) ?_
            refine RK.c (S.bloadN ti71 .none rfl (.tmp rfl rfl) rfl rfl rfl rfl) ?_
            refine RK.c (S.mkSlice (k := 97) (rows := [[_]]) ai50 .none rfl (.cons (.tmp rfl rfl) .nil) rfl rfl rfl rfl rfl rfl rfl) ?_
            refine RK.c (S.append ai50 .none rfl (.tmp rfl rfl) rfl (by first | rfl | (simp; done) | (simp; omega)) (.tmp rfl rfl) rfl (by first | rfl | (simp; done) | (simp; omega)) (by omega) (by simp only [maxLen]; omega)) ?_
            refine RK.c (S.assign .none rfl (.tmp rfl rfl)) ?_
            refine RK.nil ?_
            refine Ab.D.blk ?_
            refine Ab.D.code ?_
            refine OK.reg ?_
            refine RK.c (S.move .none rfl (.tmp rfl rfl)) ?_
            refine RK.c (S.add .none rfl (.tmp rfl rfl) (.cint rfl) (IntWalk.i64_in _ (by omega)) (IntWalk.i64_in _ (by omega))) ?_
            refine RK.c (S.assign .none rfl (.tmp rfl rfl)) ?_
            refine RK.nil ?_
            refine Ab.D.lp ⟨i + 1, pre ++ [(l.drop i).filter fun y => !decide (y.heat ≠ l[i].heat)], ks ++ [l[i].heat], ⟨by omega, by first | (rw [hD, heatGo_drop (by omega), if_pos hin]; done) | (rw [hD2]; simp), by first | omega | (rw [List.length_append]; simp; omega)⟩, (by omega), rfl, rfl, (lk_own (by first | rfl | (rw [round_snoc, hrt]; simp [optB]))), (lk_arr (by first | rfl | (rw [round_snoc, hrt]; simp [optB, Basket.cs]))), (lk_own (by simp)), (lk_arr (by first | rfl | (simp; done) | (simp; omega))), rfl, trivial⟩
          ·
            exact absurd (List.length_pos_iff.2 (hne sh rfl)) (by omega)
  ·
    have hie : i = l.length := by omega
    have hDe : heatsT l = pre := by rw [hD, hie, List.drop_length, heatGo, List.append_nil]
    have hbe : basketsT l cap = (pre.foldl (roundT cap) []) := by rw [← hDe]; rfl
    refine OK.exit rfl ?_
    refine Ab.D.code ?_
    refine OK.seq ?_
    refine OK.reg ?_
    refine RK.c (S.move .none rfl (.tmp rfl rfl)) ?_
    refine RK.c (S.assign .none rfl (.tmp rfl rfl)) ?_
    refine RK.nil ?_
    refine Ab.D.code ?_
    refine OK.ret (Ret.r1 (.tmp rfl rfl (.c (.own rfl rfl (by first | rfl | (simp; done) | (simp; omega))) rfl) rfl) ?_)
    rw [hbe]
set_option maxHeartbeats 2000000 in
theorem law_ShopBaskets {l : List Lot} {cap : Int} {bs : List Basket} : Ct Tryz.prog 5 [.sl (l.map Lot.cs), .int .i64 cap, .sl (bs.map Basket.cs)] (.bool true) := by
  refine Ct.intro (rs := [.tmp 6]) Tryz.func5 rfl Tryz.ntmps5 Tryz.results5 rfl rfl rfl fun w h => ?_
  refine OK.seq ?_
  refine OK.reg ?_
  refine RK.c (S.assign .none rfl .cbool) ?_
  refine RK.nil ?_
  refine Ab.D.code ?_
  refine OK.seq ?_
  refine OK.seq ?_
  refine OK.reg ?_
  refine RK.c (S.call (law9_awake) Tryz.call12 .none rfl .nil rfl) ?_
  refine RK.c (S.not .none rfl (.tmp rfl rfl)) ?_
  refine RK.nil ?_
  refine Ab.D.code ?_
  refine OK.condF rfl rfl rfl ?_
  refine OK.skip ?_
  refine Ab.D.code ?_
  refine OK.seq ?_
  refine OK.seq ?_
  refine OK.reg ?_
  refine RK.c (S.move .none rfl (.tmp rfl rfl)) ?_
  refine RK.c (S.call (law9_fewLots) Tryz.call29 .none rfl (.cons (.tmp rfl rfl) .nil) rfl) ?_
  refine RK.c (S.not .none rfl (.tmp rfl rfl)) ?_
  refine RK.c (S.move .none rfl (.tmp rfl rfl)) ?_
  refine RK.split (t := 18) rfl (fun g18 => ?_) (fun g18 => ?_)
  ·
    refine RK.c (S.skip rfl rfl rfl rfl rfl) ?_
    refine RK.c (S.skip rfl rfl rfl rfl rfl) ?_
    refine RK.c (S.skip rfl rfl rfl rfl rfl) ?_
    refine RK.c (S.pickT .none rfl (.tmp rfl rfl) .cbool rfl) ?_
    refine RK.nil ?_
    refine Ab.D.code ?_
    refine OK.condT rfl rfl rfl ?_
    refine OK.seq ?_
    refine OK.reg ?_
    refine RK.c (S.assign .none rfl .cbool) ?_
    refine RK.nil ?_
    refine Ab.D.code ?_
    refine OK.ret (Ret.r1 (.tmp rfl rfl (.c (.same rfl) rfl) rfl) ?_)
    first | rfl | exact ret_dT rfl | exact ret_dT trivial
  ·
    have hfl : fewL l = true := by simpa using g18
    refine RK.c (S.move (.yes rfl rfl rfl rfl) rfl (.tmp rfl rfl)) ?_
    refine RK.c (S.call (law9_fewBaskets) Tryz.call30 (.yes rfl rfl rfl rfl) rfl (.cons (.tmp rfl rfl) .nil) rfl) ?_
    refine RK.c (S.not (.yes rfl rfl rfl rfl) rfl (.tmp rfl rfl)) ?_
    refine RK.c (S.pickF .none rfl (.tmp rfl rfl) (.tmp rfl rfl) rfl) ?_
    refine RK.nil ?_
    refine Ab.D.code ?_
    refine OK.cond rfl rfl (fun c22 => ?_) (fun c22 => ?_)
    ·
      refine OK.seq ?_
      refine OK.reg ?_
      refine RK.c (S.assign .none rfl .cbool) ?_
      refine RK.nil ?_
      refine Ab.D.code ?_
      refine OK.ret (Ret.r1 (.tmp rfl rfl (.c (.same rfl) rfl) rfl) ?_)
      first | rfl | exact ret_dT rfl | exact ret_dT trivial
    ·
      obtain ⟨hb65, hbs10⟩ := fewB_len (bs := bs) (by simpa using c22)
      have hl10 : l.length ≤ 10 := by unfold fewL at hfl; rw [Bool.and_eq_true] at hfl; exact of_decide_eq_true hfl.1
      have hbsL : ∀ b ∈ bs, b.shares.length ≤ 100000 := fun b hb => by have := hbs10 b hb; omega
      refine OK.skip ?_
      refine Ab.D.code ?_
      refine OK.seq ?_
      refine OK.reg ?_
      refine RK.c (S.move .none rfl (.tmp rfl rfl)) ?_
      refine RK.c (S.call (ref9_CopyLots (by omega)) Tryz.call32 .none rfl (.cons (.tmp rfl rfl) .nil) rfl) ?_
      refine RK.c (S.move .none rfl (.tmp rfl rfl)) ?_
      refine RK.c (S.call (shp_BasketsOf) Tryz.call31 .none rfl (.cons (.tmp rfl rfl) (.cons (.tmp rfl rfl) .nil)) rfl) ?_
      refine RK.c (S.move .none rfl (.tmp rfl rfl)) ?_
      refine RK.c (S.extract .none rfl (.tmp rfl rfl) rfl rfl) ?_
      refine RK.c (S.extract .none rfl (.tmp rfl rfl) rfl rfl) ?_
      refine RK.c (S.assign .none rfl (.tmp rfl rfl)) ?_
      refine RK.c (S.assign .none rfl (.tmp rfl rfl)) ?_
      refine RK.nil ?_
      refine Ab.D.code ?_
      refine OK.seq ?_
      refine OK.reg ?_
      refine RK.c (S.move .none rfl (.tmp rfl rfl)) ?_
      refine RK.c (S.call (ref9_CopyLots (by omega)) Tryz.call32 .none rfl (.cons (.tmp rfl rfl) .nil) rfl) ?_
      refine RK.c (S.move .none rfl (.tmp rfl rfl)) ?_
      refine RK.c (S.move .none rfl (.tmp rfl rfl)) ?_
      refine RK.c (S.call (ref9_CopyBaskets (by omega) (by assumption)) Tryz.call34 .none rfl (.cons (.tmp rfl rfl) .nil) rfl) ?_
      refine RK.c (S.call (shp_CheckBaskets (by omega) (fun b hb => by have := hbs10 b hb; omega)) Tryz.call33 .none rfl (.cons (.tmp rfl rfl) (.cons (.tmp rfl rfl) (.cons (.tmp rfl rfl) .nil))) rfl) ?_
      refine RK.c (S.move .none rfl (.tmp rfl rfl)) ?_
      refine RK.c (S.extract .none rfl (.tmp rfl rfl) rfl rfl) ?_
      refine RK.c (S.extract .none rfl (.tmp rfl rfl) rfl rfl) ?_
      refine RK.c (S.assign .none rfl (.tmp rfl rfl)) ?_
      refine RK.c (S.assign .none rfl (.tmp rfl rfl)) ?_
      refine RK.nil ?_
      refine Ab.D.code ?_
      refine OK.seq ?_
      refine OK.reg ?_
      refine RK.c (S.move .none rfl (.tmp rfl rfl)) ?_
      refine RK.c (S.call (ref9_LotsErr) Tryz.call35 .none rfl (.cons (.tmp rfl rfl) .nil) rfl) ?_
      refine RK.c (S.assign .none rfl (.tmp rfl rfl)) ?_
      refine RK.nil ?_
      refine Ab.D.code ?_
      refine OK.seq ?_
      refine OK.seq ?_
      refine OK.reg ?_
      refine RK.c (S.move .none rfl (.tmp rfl rfl)) ?_
      refine RK.c (S.eql .none rfl (.tmp rfl rfl) (.cint rfl)) ?_
      refine RK.nil ?_
      refine Ab.D.code ?_
      refine OK.condD rfl rfl (fun c42 => ?_) (fun c42 => ?_)
      ·
        have hd : lotsE l cap = unlessE (decide (1 ≤ cap ∧ cap ≤ 1000)) 2 := by rw [lotsE_eq, if_neg (by omega)]
        refine OK.reg ?_
        refine RK.c (S.move .none rfl (.tmp rfl rfl)) ?_
        refine RK.c (S.call (ref9_CapacityErr) Tryz.call36 .none rfl (.cons (.tmp rfl rfl) .nil) rfl) ?_
        refine RK.c (S.assign .none rfl (.tmp rfl rfl)) ?_
        refine RK.nil ?_
        refine Ab.D.code ?_
        refine OK.seq ?_
        refine OK.seq ?_
        rw [← hd]
        refine OK.reg ?_
        refine RK.c (S.move .none rfl (.tmp rfl rfl)) ?_
        refine RK.c (S.neq .none rfl (.tmp rfl rfl) (.cint rfl)) ?_
        refine RK.nil ?_
        refine Ab.D.code ?_
        refine OK.condD rfl rfl (fun c46 => ?_) (fun c46 => ?_)
        ·
          have hbe : basketsE l cap = lotsE l cap := if_pos c46
          have hb0 : (if basketsE l cap = 0 then basketsT l cap else []) = [] := if_neg (by rw [hbe]; exact c46)
          have hca : chkA l cap bs = lotsE l cap := if_pos c46
          have hcn : chkN l cap bs = 0 := if_neg (by rw [hca]; exact c46)
          rw [hb0, hbe, hca, hcn]
          refine OK.seq ?_
          refine OK.reg ?_
          refine RK.c (S.move .none rfl (.tmp rfl rfl)) ?_
          refine RK.c (S.move .none rfl (.tmp rfl rfl)) ?_
          refine RK.c (S.eql .none rfl (.tmp rfl rfl) (.tmp rfl rfl)) ?_
          refine RK.c (S.move .none rfl (.tmp rfl rfl)) ?_
          refine RK.splitD (t := 50) rfl (fun g50 => ?_) (fun g50 => ?_)
          ·
            refine RK.c (S.move (.yes rfl rfl rfl rfl) rfl (.tmp rfl rfl)) ?_
            refine RK.c (S.lenM si50 (.yes rfl rfl rfl rfl) rfl (.tmp rfl rfl)) ?_
            refine RK.c (S.eql (.yes rfl rfl rfl rfl) rfl (.tmp rfl rfl) (.cint rfl)) ?_
            refine RK.c (S.pickT .none rfl (.tmp rfl rfl) (.tmp rfl rfl) rfl) ?_
            refine RK.c (S.move .none rfl (.tmp rfl rfl)) ?_
            refine RK.splitD (t := 55) rfl (fun g55 => ?_) (fun g55 => ?_)
            ·
              refine RK.c (S.move (.yes rfl rfl rfl rfl) rfl (.tmp rfl rfl)) ?_
              refine RK.c (S.move (.yes rfl rfl rfl rfl) rfl (.tmp rfl rfl)) ?_
              refine RK.c (S.eql (.yes rfl rfl rfl rfl) rfl (.tmp rfl rfl) (.tmp rfl rfl)) ?_
              refine RK.c (S.pickT .none rfl (.tmp rfl rfl) (.tmp rfl rfl) rfl) ?_
              refine RK.c (S.move .none rfl (.tmp rfl rfl)) ?_
              refine RK.splitD (t := 60) rfl (fun g60 => ?_) (fun g60 => ?_)
              ·
                refine RK.c (S.move (.yes rfl rfl rfl rfl) rfl (.tmp rfl rfl)) ?_
                refine RK.c (S.eql (.yes rfl rfl rfl rfl) rfl (.tmp rfl rfl) (.cint rfl)) ?_
                refine RK.c (S.pickT .none rfl (.tmp rfl rfl) (.tmp rfl rfl) rfl) ?_
                refine RK.c (S.assign .none rfl (.tmp rfl rfl)) ?_
                refine RK.nil ?_
                refine Ab.D.code ?_
                refine OK.ret (Ret.r1 (.tmp rfl rfl (.c (.same rfl) rfl) rfl) ?_)
                first | rfl | exact ret_dT rfl | exact ret_dT trivial
              ·
                exact absurd rfl g60
            ·
              exact absurd rfl g55
          ·
            exact absurd rfl g50
        ·
          have hd0 : lotsE l cap = 0 := Decidable.not_not.1 c46
          have hca : chkA l cap bs = chkB l cap bs := if_neg (by rw [hd0]; decide)
          refine OK.skip ?_
          refine Ab.D.code ?_
          refine OK.seq ?_
          refine OK.seq ?_
          refine OK.reg ?_
          refine RK.c (S.move .none rfl (.tmp rfl rfl)) ?_
          refine RK.c (S.move .none rfl (.tmp rfl rfl)) ?_
          refine RK.c (S.move .none rfl (.tmp rfl rfl)) ?_
          refine RK.c (S.call (ref9_BasketsErr hd0 (by omega) (fun b hb => by have := hbs10 b hb; omega)) Tryz.call37 .none rfl (.cons (.tmp rfl rfl) (.cons (.tmp rfl rfl) (.cons (.tmp rfl rfl) .nil))) rfl) ?_
          refine RK.c (S.assign .none rfl (.tmp rfl rfl)) ?_
          refine RK.nil ?_
          refine Ab.D.code ?_
          refine OK.seq ?_
          refine OK.reg ?_
          refine RK.c (S.move .none rfl (.tmp rfl rfl)) ?_
          refine RK.c (S.neq .none rfl (.tmp rfl rfl) (.cint rfl)) ?_
          refine RK.c (S.move .none rfl (.tmp rfl rfl)) ?_
          refine RK.splitD (t := 70) rfl (fun g70 => ?_) (fun g70 => ?_)
          ·
            refine RK.c (S.move (.yes rfl rfl rfl rfl) rfl (.tmp rfl rfl)) ?_
            refine RK.c (S.move (.yes rfl rfl rfl rfl) rfl (.tmp rfl rfl)) ?_
            refine RK.c (S.neq (.yes rfl rfl rfl rfl) rfl (.tmp rfl rfl) (.tmp rfl rfl)) ?_
            refine RK.c (S.move (.yes rfl rfl rfl rfl) rfl (.tmp rfl rfl)) ?_
            refine RK.splitD (t := 74) rfl (fun g74 => ?_) (fun g74 => ?_)
            ·
              exact absurd hca g74
            ·
              refine RK.c (S.move (.yes rfl rfl rfl rfl) rfl (.tmp rfl rfl)) ?_
              refine RK.c (S.neq (.yes rfl rfl rfl rfl) rfl (.tmp rfl rfl) (.cint rfl)) ?_
              refine RK.c (S.pickF (.yes rfl rfl rfl rfl) rfl (.tmp rfl rfl) (.tmp rfl rfl) rfl) ?_
              refine RK.c (S.pickT .none rfl (.tmp rfl rfl) (.tmp rfl rfl) rfl) ?_
              refine RK.c (S.move .none rfl (.tmp rfl rfl)) ?_
              refine RK.splitD (t := 79) rfl (fun g79 => ?_) (fun g79 => ?_)
              ·
                exact absurd (show chkN l cap bs = 0 from if_neg (by rw [hca]; exact g70)) g79
              ·
                refine RK.c (S.move (.yes rfl rfl rfl rfl) rfl (.tmp rfl rfl)) ?_
                refine RK.c (S.eql (.yes rfl rfl rfl rfl) rfl (.tmp rfl rfl) (.cint rfl)) ?_
                refine RK.c (S.move (.yes rfl rfl rfl rfl) rfl (.tmp rfl rfl)) ?_
                refine RK.splitD (t := 82) rfl (fun g82 => ?_) (fun g82 => ?_)
                ·
                  exact absurd g82 g70
                ·
                  refine RK.c (S.skip rfl rfl rfl rfl rfl) ?_
                  refine RK.c (S.skip rfl rfl rfl rfl rfl) ?_
                  refine RK.c (S.skip rfl rfl rfl rfl rfl) ?_
                  refine RK.c (S.skipU rfl rfl rfl rfl) ?_
                  refine RK.c (S.skipU rfl rfl rfl rfl) ?_
                  refine RK.c (S.skipU rfl rfl rfl rfl) ?_
                  refine RK.c (S.skipU rfl rfl rfl rfl) ?_
                  refine RK.c (S.skip rfl rfl rfl rfl rfl) ?_
                  refine RK.c (S.pickF (.yes rfl rfl rfl rfl) rfl (.tmp rfl rfl) .cbool rfl) ?_
                  refine RK.c (S.pickF .none rfl (.tmp rfl rfl) (.tmp rfl rfl) rfl) ?_
                  refine RK.nil ?_
                  refine Ab.D.code ?_
                  refine OK.condF rfl rfl rfl ?_
                  refine OK.skip ?_
                  refine Ab.D.code ?_
                  refine OK.seq ?_
                  refine OK.reg ?_
                  refine RK.c (S.move .none rfl (.tmp rfl rfl)) ?_
                  refine RK.c (S.move .none rfl (.tmp rfl rfl)) ?_
                  refine RK.c (S.call (ref9_Baskets hd0) Tryz.call38 .none rfl (.cons (.tmp rfl rfl) (.cons (.tmp rfl rfl) .nil)) rfl) ?_
                  refine RK.c (S.assign .none rfl (.tmp rfl rfl)) ?_
                  refine RK.nil ?_
                  refine Ab.D.code ?_
                  refine OK.seq ?_
                  refine OK.seq ?_
                  refine OK.reg ?_
                  refine RK.c (S.move .none rfl (.tmp rfl rfl)) ?_
                  refine RK.c (S.lenM si50 .none rfl (.tmp rfl rfl)) ?_
                  refine RK.c (S.gtr .none rfl (.tmp rfl rfl) (.cint rfl)) ?_
                  refine RK.nil ?_
                  refine Ab.D.code ?_
                  refine OK.condD rfl rfl (fun c98 => ?_) (fun c98 => ?_)
                  ·
                    have hbe : basketsE l cap = 16 := by unfold basketsE; rw [if_neg (by rw [hd0]; decide), if_pos (by omega)]
                    have hb0 : (if basketsE l cap = 0 then basketsT l cap else []) = [] := if_neg (by rw [hbe]; decide)
                    rw [hb0, hbe]
                    refine OK.seq ?_
                    refine OK.reg ?_
                    refine RK.c (S.move .none rfl (.tmp rfl rfl)) ?_
                    refine RK.c (S.eql .none rfl (.tmp rfl rfl) (.cint rfl)) ?_
                    refine RK.c (S.move .none rfl (.tmp rfl rfl)) ?_
                    refine RK.splitD (t := 101) rfl (fun g101 => ?_) (fun g101 => ?_)
                    ·
                      refine RK.c (S.move (.yes rfl rfl rfl rfl) rfl (.tmp rfl rfl)) ?_
                      refine RK.c (S.lenM si50 (.yes rfl rfl rfl rfl) rfl (.tmp rfl rfl)) ?_
                      refine RK.c (S.eql (.yes rfl rfl rfl rfl) rfl (.tmp rfl rfl) (.cint rfl)) ?_
                      refine RK.c (S.pickT .none rfl (.tmp rfl rfl) (.tmp rfl rfl) rfl) ?_
                      refine RK.c (S.assign .none rfl (.tmp rfl rfl)) ?_
                      refine RK.nil ?_
                      refine Ab.D.code ?_
                      refine OK.ret (Ret.r1 (.tmp rfl rfl (.c (.same rfl) rfl) rfl) ?_)
                      first | rfl | exact ret_dT rfl | exact ret_dT trivial
                    ·
                      exact absurd rfl g101
                  ·
                    have hbe : basketsE l cap = 0 := by unfold basketsE; rw [if_neg (by rw [hd0]; decide), if_neg (by omega)]
                    have hb0 : (if basketsE l cap = 0 then basketsT l cap else []) = basketsT l cap := if_pos hbe
                    rw [hb0, hbe]
                    refine OK.skip ?_
                    refine Ab.D.code ?_
                    refine OK.seq ?_
                    refine OK.reg ?_
                    refine RK.c (S.move .none rfl (.tmp rfl rfl)) ?_
                    refine RK.c (S.eql .none rfl (.tmp rfl rfl) (.cint rfl)) ?_
                    refine RK.c (S.move .none rfl (.tmp rfl rfl)) ?_
                    refine RK.splitD (t := 108) rfl (fun g108 => ?_) (fun g108 => ?_)
                    ·
                      refine RK.c (S.move (.yes rfl rfl rfl rfl) rfl (.tmp rfl rfl)) ?_
                      refine RK.c (S.move (.yes rfl rfl rfl rfl) rfl (.tmp rfl rfl)) ?_
                      refine RK.c (S.call (ref9_SameBaskets (by omega) (share_len hd0)) Tryz.call39 (.yes rfl rfl rfl rfl) rfl (.cons (.tmp rfl rfl) (.cons (.tmp rfl rfl) .nil)) rfl) ?_
                      refine RK.c (S.pickT .none rfl (.tmp rfl rfl) (.tmp rfl rfl) rfl) ?_
                      refine RK.c (S.assign .none rfl (.tmp rfl rfl)) ?_
                      refine RK.nil ?_
                      refine Ab.D.code ?_
                      refine OK.ret (Ret.r1 (.tmp rfl rfl (.c (.same rfl) rfl) rfl) ?_)
                      first | rfl | exact ret_dT rfl | exact ret_dT trivial
                    ·
                      exact absurd rfl g108
          ·
            refine RK.c (S.skip rfl rfl rfl rfl rfl) ?_
            refine RK.c (S.skip rfl rfl rfl rfl rfl) ?_
            refine RK.c (S.skip rfl rfl rfl rfl rfl) ?_
            refine RK.c (S.skip rfl rfl rfl rfl rfl) ?_
            refine RK.c (S.skipU rfl rfl rfl rfl) ?_
            refine RK.c (S.skipU rfl rfl rfl rfl) ?_
            refine RK.c (S.skip rfl rfl rfl rfl rfl) ?_
            refine RK.c (S.pickF .none rfl (.tmp rfl rfl) .cbool rfl) ?_
            refine RK.c (S.move .none rfl (.tmp rfl rfl)) ?_
            refine RK.c (S.move (.yes rfl rfl rfl rfl) rfl (.tmp rfl rfl)) ?_
            refine RK.c (S.eql (.yes rfl rfl rfl rfl) rfl (.tmp rfl rfl) (.cint rfl)) ?_
            refine RK.c (S.move (.yes rfl rfl rfl rfl) rfl (.tmp rfl rfl)) ?_
            refine RK.splitD (t := 82) rfl (fun g82 => ?_) (fun g82 => ?_)
            ·
              refine RK.c (S.move (.yes rfl rfl rfl rfl) rfl (.tmp rfl rfl)) ?_
              refine RK.c (S.neq (.yes rfl rfl rfl rfl) rfl (.tmp rfl rfl) (.cint rfl)) ?_
              refine RK.c (S.move (.yes rfl rfl rfl rfl) rfl (.tmp rfl rfl)) ?_
              refine RK.splitD (t := 85) rfl (fun g85 => ?_) (fun g85 => ?_)
              ·
                exact absurd (hca.trans g82) g85
              ·
                refine RK.c (S.move (.yes rfl rfl rfl rfl) rfl (.tmp rfl rfl)) ?_
                refine RK.c (S.move (.yes rfl rfl rfl rfl) rfl (.tmp rfl rfl)) ?_
                refine RK.c (S.lenM si50 (.yes rfl rfl rfl rfl) rfl (.tmp rfl rfl)) ?_
                refine RK.c (S.neq (.yes rfl rfl rfl rfl) rfl (.tmp rfl rfl) (.tmp rfl rfl)) ?_
                refine RK.c (S.pickF (.yes rfl rfl rfl rfl) rfl (.tmp rfl rfl) (.tmp rfl rfl) rfl) ?_
                refine RK.c (S.pickT (.yes rfl rfl rfl rfl) rfl (.tmp rfl rfl) (.tmp rfl rfl) rfl) ?_
                refine RK.c (S.pickF .none rfl (.tmp rfl rfl) (.tmp rfl rfl) rfl) ?_
                refine RK.nil ?_
                refine Ab.D.code ?_
                refine OK.condD rfl rfl (fun c92 => ?_) (fun c92 => ?_)
                ·
                  exact absurd (show chkN l cap bs = bs.length from if_pos (hca.trans g82)) c92
                ·
                  refine OK.skip ?_
                  refine Ab.D.code ?_
                  refine OK.seq ?_
                  refine OK.reg ?_
                  refine RK.c (S.move .none rfl (.tmp rfl rfl)) ?_
                  refine RK.c (S.move .none rfl (.tmp rfl rfl)) ?_
                  refine RK.c (S.call (ref9_Baskets hd0) Tryz.call38 .none rfl (.cons (.tmp rfl rfl) (.cons (.tmp rfl rfl) .nil)) rfl) ?_
                  refine RK.c (S.assign .none rfl (.tmp rfl rfl)) ?_
                  refine RK.nil ?_
                  refine Ab.D.code ?_
                  refine OK.seq ?_
                  refine OK.seq ?_
                  refine OK.reg ?_
                  refine RK.c (S.move .none rfl (.tmp rfl rfl)) ?_
                  refine RK.c (S.lenM si50 .none rfl (.tmp rfl rfl)) ?_
                  refine RK.c (S.gtr .none rfl (.tmp rfl rfl) (.cint rfl)) ?_
                  refine RK.nil ?_
                  refine Ab.D.code ?_
                  refine OK.condD rfl rfl (fun c98 => ?_) (fun c98 => ?_)
                  ·
                    have hbe : basketsE l cap = 16 := by unfold basketsE; rw [if_neg (by rw [hd0]; decide), if_pos (by omega)]
                    have hb0 : (if basketsE l cap = 0 then basketsT l cap else []) = [] := if_neg (by rw [hbe]; decide)
                    rw [hb0, hbe]
                    refine OK.seq ?_
                    refine OK.reg ?_
                    refine RK.c (S.move .none rfl (.tmp rfl rfl)) ?_
                    refine RK.c (S.eql .none rfl (.tmp rfl rfl) (.cint rfl)) ?_
                    refine RK.c (S.move .none rfl (.tmp rfl rfl)) ?_
                    refine RK.splitD (t := 101) rfl (fun g101 => ?_) (fun g101 => ?_)
                    ·
                      refine RK.c (S.move (.yes rfl rfl rfl rfl) rfl (.tmp rfl rfl)) ?_
                      refine RK.c (S.lenM si50 (.yes rfl rfl rfl rfl) rfl (.tmp rfl rfl)) ?_
                      refine RK.c (S.eql (.yes rfl rfl rfl rfl) rfl (.tmp rfl rfl) (.cint rfl)) ?_
                      refine RK.c (S.pickT .none rfl (.tmp rfl rfl) (.tmp rfl rfl) rfl) ?_
                      refine RK.c (S.assign .none rfl (.tmp rfl rfl)) ?_
                      refine RK.nil ?_
                      refine Ab.D.code ?_
                      refine OK.ret (Ret.r1 (.tmp rfl rfl (.c (.same rfl) rfl) rfl) ?_)
                      first | rfl | exact ret_dT rfl | exact ret_dT trivial
                    ·
                      exact absurd rfl g101
                  ·
                    have hbe : basketsE l cap = 0 := by unfold basketsE; rw [if_neg (by rw [hd0]; decide), if_neg (by omega)]
                    have hb0 : (if basketsE l cap = 0 then basketsT l cap else []) = basketsT l cap := if_pos hbe
                    rw [hb0, hbe]
                    refine OK.skip ?_
                    refine Ab.D.code ?_
                    refine OK.seq ?_
                    refine OK.reg ?_
                    refine RK.c (S.move .none rfl (.tmp rfl rfl)) ?_
                    refine RK.c (S.eql .none rfl (.tmp rfl rfl) (.cint rfl)) ?_
                    refine RK.c (S.move .none rfl (.tmp rfl rfl)) ?_
                    refine RK.splitD (t := 108) rfl (fun g108 => ?_) (fun g108 => ?_)
                    ·
                      refine RK.c (S.move (.yes rfl rfl rfl rfl) rfl (.tmp rfl rfl)) ?_
                      refine RK.c (S.move (.yes rfl rfl rfl rfl) rfl (.tmp rfl rfl)) ?_
                      refine RK.c (S.call (ref9_SameBaskets (by omega) (share_len hd0)) Tryz.call39 (.yes rfl rfl rfl rfl) rfl (.cons (.tmp rfl rfl) (.cons (.tmp rfl rfl) .nil)) rfl) ?_
                      refine RK.c (S.pickT .none rfl (.tmp rfl rfl) (.tmp rfl rfl) rfl) ?_
                      refine RK.c (S.assign .none rfl (.tmp rfl rfl)) ?_
                      refine RK.nil ?_
                      refine Ab.D.code ?_
                      refine OK.ret (Ret.r1 (.tmp rfl rfl (.c (.same rfl) rfl) rfl) ?_)
                      first | rfl | exact ret_dT rfl | exact ret_dT trivial
                    ·
                      exact absurd rfl g108
            ·
              exact absurd (Decidable.not_not.1 g70) g82
      ·
        have hd : lotsE l cap = lotsE0 l := by rw [lotsE_eq, if_pos c42]
        refine OK.skip ?_
        refine Ab.D.code ?_
        refine OK.seq ?_
        refine OK.seq ?_
        rw [← hd]
        refine OK.reg ?_
        refine RK.c (S.move .none rfl (.tmp rfl rfl)) ?_
        refine RK.c (S.neq .none rfl (.tmp rfl rfl) (.cint rfl)) ?_
        refine RK.nil ?_
        refine Ab.D.code ?_
        refine OK.condD rfl rfl (fun c46 => ?_) (fun c46 => ?_)
        ·
          have hbe : basketsE l cap = lotsE l cap := if_pos c46
          have hb0 : (if basketsE l cap = 0 then basketsT l cap else []) = [] := if_neg (by rw [hbe]; exact c46)
          have hca : chkA l cap bs = lotsE l cap := if_pos c46
          have hcn : chkN l cap bs = 0 := if_neg (by rw [hca]; exact c46)
          rw [hb0, hbe, hca, hcn]
          refine OK.seq ?_
          refine OK.reg ?_
          refine RK.c (S.move .none rfl (.tmp rfl rfl)) ?_
          refine RK.c (S.move .none rfl (.tmp rfl rfl)) ?_
          refine RK.c (S.eql .none rfl (.tmp rfl rfl) (.tmp rfl rfl)) ?_
          refine RK.c (S.move .none rfl (.tmp rfl rfl)) ?_
          refine RK.splitD (t := 50) rfl (fun g50 => ?_) (fun g50 => ?_)
          ·
            refine RK.c (S.move (.yes rfl rfl rfl rfl) rfl (.tmp rfl rfl)) ?_
            refine RK.c (S.lenM si50 (.yes rfl rfl rfl rfl) rfl (.tmp rfl rfl)) ?_
            refine RK.c (S.eql (.yes rfl rfl rfl rfl) rfl (.tmp rfl rfl) (.cint rfl)) ?_
            refine RK.c (S.pickT .none rfl (.tmp rfl rfl) (.tmp rfl rfl) rfl) ?_
            refine RK.c (S.move .none rfl (.tmp rfl rfl)) ?_
            refine RK.splitD (t := 55) rfl (fun g55 => ?_) (fun g55 => ?_)
            ·
              refine RK.c (S.move (.yes rfl rfl rfl rfl) rfl (.tmp rfl rfl)) ?_
              refine RK.c (S.move (.yes rfl rfl rfl rfl) rfl (.tmp rfl rfl)) ?_
              refine RK.c (S.eql (.yes rfl rfl rfl rfl) rfl (.tmp rfl rfl) (.tmp rfl rfl)) ?_
              refine RK.c (S.pickT .none rfl (.tmp rfl rfl) (.tmp rfl rfl) rfl) ?_
              refine RK.c (S.move .none rfl (.tmp rfl rfl)) ?_
              refine RK.splitD (t := 60) rfl (fun g60 => ?_) (fun g60 => ?_)
              ·
                refine RK.c (S.move (.yes rfl rfl rfl rfl) rfl (.tmp rfl rfl)) ?_
                refine RK.c (S.eql (.yes rfl rfl rfl rfl) rfl (.tmp rfl rfl) (.cint rfl)) ?_
                refine RK.c (S.pickT .none rfl (.tmp rfl rfl) (.tmp rfl rfl) rfl) ?_
                refine RK.c (S.assign .none rfl (.tmp rfl rfl)) ?_
                refine RK.nil ?_
                refine Ab.D.code ?_
                refine OK.ret (Ret.r1 (.tmp rfl rfl (.c (.same rfl) rfl) rfl) ?_)
                first | rfl | exact ret_dT rfl | exact ret_dT trivial
              ·
                exact absurd rfl g60
            ·
              exact absurd rfl g55
          ·
            exact absurd rfl g50
        ·
          have hd0 : lotsE l cap = 0 := Decidable.not_not.1 c46
          have hca : chkA l cap bs = chkB l cap bs := if_neg (by rw [hd0]; decide)
          exact absurd (hd.symm.trans (Decidable.not_not.1 c46)) c42
end Go.Proofs.YtpfepjgnojfppaaGreatDoor
