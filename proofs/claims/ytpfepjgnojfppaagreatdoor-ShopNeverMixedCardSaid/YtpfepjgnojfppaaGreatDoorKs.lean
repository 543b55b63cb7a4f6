import Derived.Test.YtpfepjgnojfppaaGreatDoorGh
import Derived.Test.YtpfepjgnojfppaaGreatDoorKo
import Derived.Test.YtpfepjgnojfppaaGreatDoorTy
namespace Go.Proofs.YtpfepjgnojfppaaGreatDoor
open Go.Ab
theorem lookL_put {α : Type} (k : List UInt8) (v : α) (n : List UInt8) : ∀ m : List (List UInt8 × α), lookL (putL m k v) n = if n = k then some v else lookL m n
  | [] => by
    simp only [putL, lookL]
    by_cases h : k = n
    · rw [if_pos h, if_pos h.symm]
    · rw [if_neg h, if_neg (Ne.symm h)]
  | p :: m => by
    have ih := lookL_put k v n m
    simp only [putL]
    by_cases hp : p.1 = k
    · rw [if_pos hp]
      simp only [lookL]
      by_cases h : k = n
      · rw [if_pos h, if_pos h.symm]
      · rw [if_neg h, if_neg (Ne.symm h), if_neg (by rw [hp]; exact h)]
    · rw [if_neg hp]
      simp only [lookL]
      by_cases h : p.1 = n
      · rw [if_pos h, if_pos h, if_neg (by rw [← h]; exact hp)]
      · rw [if_neg h, if_neg h]
        exact ih
def nameSum (n : List UInt8) : List Share → Int
  | [] => 0
  | s :: r => (if s.lot = n then s.parts else 0) + nameSum n r
def sumP : List Share → Int
  | [] => 0
  | s :: r => s.parts + sumP r
theorem sumP_app : ∀ a b : List Share, sumP (a ++ b) = sumP a + sumP b
  | [], b => by simp [sumP]
  | s :: a, b => by
    have := sumP_app a b
    rw [List.cons_append]
    simp only [sumP]
    omega
theorem sumP_snoc (a : List Share) (s : Share) : sumP (a ++ [s]) = sumP a + s.parts := by rw [sumP_app]; simp [sumP]
def pmStep (m : List (List UInt8 × Int)) (s : Share) : List (List UInt8 × Int) := putL m s.lot ((lookL m s.lot).getD 0 + s.parts)
def pmOf (S : List Share) : List (List UInt8 × Int) := S.foldl pmStep []
theorem pm_snoc (S : List Share) (s : Share) : pmOf (S ++ [s]) = pmStep (pmOf S) s := by unfold pmOf; rw [List.foldl_append]; rfl
theorem pm_fold (n : List UInt8) : ∀ (S : List Share) (m : List (List UInt8 × Int)), (lookL (S.foldl pmStep m) n).getD 0 = (lookL m n).getD 0 + nameSum n S
  | [], m => by simp [nameSum]
  | s :: S, m => by
    rw [List.foldl_cons, pm_fold n S]
    unfold pmStep
    rw [lookL_put]
    simp only [nameSum]
    by_cases h : n = s.lot
    · rw [if_pos h, if_pos h.symm, h, Option.getD_some]; omega
    · rw [if_neg h, if_neg (Ne.symm h)]; omega
theorem pm_sum (n : List UInt8) (S : List Share) : (lookL (pmOf S) n).getD 0 = nameSum n S := by unfold pmOf; rw [pm_fold]; simp [lookL]
def lotIx (l : List Lot) (n : List UInt8) : Int := idxGo (fun x => decide (x.name = n)) 0 l
def heatOf (l : List Lot) (n : List UInt8) : List UInt8 := (l.getD (lotIx l n).toNat ⟨[], [], 0⟩).heat
def shareE (l : List Lot) (sh : List Share) (k : Nat) (s : Share) : Int :=
  if lotIx l s.lot < 0 then 6 else firstE [unlessE (!(sh.take k).any fun o => decide (o.lot = s.lot)) 23, unlessE (decide (1 ≤ s.parts ∧ s.parts ≤ 1000)) 2, unlessE (decide (heatOf l s.lot = heatOf l (sh.getD 0 ⟨[], 0⟩).lot)) 13]
def basketE (l : List Lot) (cap : Int) (b : Basket) : Int := if b.shares = [] then 10 else if (eachGo (shareE l b.shares) 0 b.shares).2 ≠ 0 then (eachGo (shareE l b.shares) 0 b.shares).2 else unlessE (decide (sumP b.shares ≤ cap)) 16
def allS : List Basket → List Share
  | [] => []
  | b :: r => b.shares ++ allS r
theorem allS_app : ∀ a b : List Basket, allS (a ++ b) = allS a ++ allS b
  | [], b => rfl
  | x :: a, b => by rw [List.cons_append]; simp only [allS]; rw [allS_app a b, List.append_assoc]
theorem allS_snoc (a : List Basket) (b : Basket) : allS (a ++ [b]) = allS a ++ b.shares := by rw [allS_app]; simp [allS]
def short (l : List Lot) (S : List Share) : Bool := l.any fun x => decide (nameSum x.name S ≠ x.parts)
def chkB (l : List Lot) (cap : Int) (bs : List Basket) : Int :=
  if 60 < bs.length then 8 else if (eachGo (fun _ b => basketE l cap b) 0 bs).2 ≠ 0 then (eachGo (fun _ b => basketE l cap b) 0 bs).2 else if short l (allS bs) = true then 19 else 0
theorem lots_names {l : List Lot} {cap : Int} (h : lotsE l cap = 0) : ∀ (i j : Nat) (hi : i < l.length) (hj : j < l.length), i < j → l[i].name ≠ l[j].name := by
  unfold lotsE at h
  split at h
  · cases h
  · split at h
    · contradiction
    · rename_i h2
      intro i j hi hj hij he
      have h3 := each_zero _ l 0 (Decidable.not_not.1 h2) j hj
      have h4 := un_0 (by decide) (first3_0 h3).2.1
      rw [Nat.zero_add, Bool.not_eq_true', List.any_eq_false] at h4
      exact h4 l[i] (List.mem_take_iff_getElem.2 ⟨i, by omega, rfl⟩) (decide_eq_true he)
theorem idx_some {α : Type} {g : α → Bool} : ∀ {l : List α} {k : Nat}, 0 ≤ idxGo g k l → ∃ i, idxGo g k l = ((k + i : Nat) : Int) ∧ ∃ h : i < l.length, g l[i] = true
  | [], k, h => by simp [idxGo] at h
  | x :: l, k, h => by
    rw [idxGo] at h ⊢
    by_cases hx : g x = true
    · rw [if_pos hx]; exact ⟨0, rfl, by simp, by simpa using hx⟩
    · rw [if_neg hx] at h ⊢
      obtain ⟨i, e, hi, h2⟩ := idx_some h
      exact ⟨i + 1, by rw [e]; omega, by simpa using hi, by simpa using h2⟩
theorem idx_none {α : Type} {g : α → Bool} : ∀ {l : List α} {k : Nat}, idxGo g k l < 0 → ∀ x ∈ l, g x = false
  | [], k, _, x, hx => by cases hx
  | y :: l, k, h, x, hx => by
    rw [idxGo] at h
    by_cases hy : g y = true
    · rw [if_pos hy] at h; omega
    · rw [if_neg hy] at h
      rcases List.mem_cons.1 hx with rfl | hx
      · simpa using hy
      · exact idx_none h x hx
theorem lot_at {l : List Lot} {n : List UInt8} (h : ¬ lotIx l n < 0) : ∃ i : Nat, lotIx l n = (i : Int) ∧ ∃ h : i < l.length, l[i].name = n := by
  obtain ⟨i, e, hi, h2⟩ := idx_some (g := fun x : Lot => decide (x.name = n)) (l := l) (k := 0) (by unfold lotIx at h; omega)
  exact ⟨i, by unfold lotIx; rw [e]; omega, hi, of_decide_eq_true h2⟩
theorem lot_ix {l : List Lot} {cap : Int} (h : lotsE l cap = 0) {i : Nat} (hi : i < l.length) : lotIx l l[i].name = (i : Int) := by
  have h1 : ¬ lotIx l l[i].name < 0 := fun e => by
    have := idx_none e l[i] (List.getElem_mem hi)
    simp at this
  obtain ⟨j, e, hj, h2⟩ := lot_at h1
  rw [e]
  have hd := lots_names h
  by_cases hij : i = j
  · rw [hij]
  · exfalso
    rcases Nat.lt_or_gt_of_ne hij with q | q
    · exact hd i j hi hj q h2.symm
    · exact hd j i hj hi q h2
theorem heat_of {l : List Lot} {cap : Int} (h : lotsE l cap = 0) {i : Nat} (hi : i < l.length) : heatOf l l[i].name = l[i].heat := by
  unfold heatOf
  rw [lot_ix h hi, Int.toNat_natCast, getD_at hi]
theorem short_held (l : List Lot) (S : List Share) : short l S = false ↔ ∀ (i : Nat) (h : i < l.length), nameSum l[i].name S = l[i].parts := by
  unfold short
  rw [List.any_eq_false]
  constructor
  · intro h i hi
    have := h l[i] (List.getElem_mem hi)
    simpa using this
  · intro h x hx
    obtain ⟨i, hi, rfl⟩ := List.getElem_of_mem hx
    simp [h i hi]
theorem heat_ix {l : List Lot} {n : List UInt8} {i : Nat} (h : lotIx l n = (i : Int)) (hi : i < l.length) : heatOf l n = l[i].heat := by unfold heatOf; rw [h, Int.toNat_natCast, getD_at hi]
def kOf (l : List Lot) (b : Basket) : Nat := if (eachGo (shareE l b.shares) 0 b.shares).2 ≠ 0 then (eachGo (shareE l b.shares) 0 b.shares).1.toNat else b.shares.length
def heatAt (l : List Lot) (sh : List Share) (k : Nat) : List UInt8 := if k = 0 then [] else heatOf l (sh.getD 0 ⟨[], 0⟩).lot
theorem bask_at {l : List Lot} {cap : Int} {b : Basket} {k : Nat} {e : Int} (h0 : b.shares ≠ []) (hg : eachGo (shareE l b.shares) 0 b.shares = ((k : Int), e)) (he : e ≠ 0) : basketE l cap b = e ∧ kOf l b = k := by
  unfold basketE kOf
  rw [if_neg h0, hg, if_pos he, if_pos he]
  exact ⟨rfl, Int.toNat_natCast k⟩
theorem bask_on {l : List Lot} {cap : Int} {b : Basket} (h0 : b.shares ≠ []) (hg : eachGo (shareE l b.shares) 0 b.shares = (0, 0)) : basketE l cap b = unlessE (decide (sumP b.shares ≤ cap)) 16 ∧ kOf l b = b.shares.length := by
  unfold basketE kOf
  rw [if_neg h0, hg, if_neg (by decide), if_neg (by decide)]
  exact ⟨rfl, rfl⟩
theorem bask_nil {l : List Lot} {cap : Int} {b : Basket} (h0 : b.shares = []) : basketE l cap b = 10 ∧ b.shares.take (kOf l b) = [] := ⟨if_pos h0, by rw [h0, List.take_nil]⟩
theorem share_is {l : List Lot} {sh : List Share} {k : Nat} {s : Share} {x y : List UInt8} (h : ¬ lotIx l s.lot < 0) (hx : heatOf l s.lot = x) (hy : heatOf l (sh.getD 0 ⟨[], 0⟩).lot = y) :
    shareE l sh k s = firstE [unlessE (!(sh.take k).any fun o => decide (o.lot = s.lot)) 23, unlessE (decide (1 ≤ s.parts ∧ s.parts ≤ 1000)) 2, unlessE (decide (x = y)) 13] := by unfold shareE; rw [if_neg h, hx, hy]
theorem share_rng {l : List Lot} {sh : List Share} {k : Nat} {s : Share} (h : shareE l sh k s = 0) : 0 ≤ lotIx l s.lot ∧ 1 ≤ s.parts ∧ s.parts ≤ 1000 := by
  unfold shareE at h
  split at h
  · cases h
  · have := of_decide_eq_true (un_0 (by decide) (first3_0 h).2.1)
    omega
theorem first_lot {sh : List Share} {k : Nat} {d : Share} (hk : k = 0) (h : k < sh.length) : (sh.getD 0 d).lot = sh[k].lot := by subst hk; rw [getD_at h]
theorem bask_0 {l : List Lot} {cap : Int} {b : Basket} (h : basketE l cap b = 0) : b.shares ≠ [] ∧ kOf l b = b.shares.length ∧ ∀ s ∈ b.shares, 1 ≤ s.parts ∧ s.parts ≤ 1000 := by
  unfold basketE at h
  split at h
  · cases h
  · rename_i h1
    split at h
    · contradiction
    · rename_i h2
      refine ⟨h1, if_neg h2, fun s hs => ?_⟩
      obtain ⟨i, hi, rfl⟩ := List.getElem_of_mem hs
      have := share_rng (each_zero _ b.shares 0 (Decidable.not_not.1 h2) i hi)
      exact this.2
theorem name_bd (n : List UInt8) : ∀ {S : List Share}, (∀ x ∈ S, 1 ≤ x.parts ∧ x.parts ≤ 1000) → 0 ≤ nameSum n S ∧ nameSum n S ≤ 1000 * S.length
  | [], _ => by simp [nameSum]
  | s :: S, h => by
    have h1 := h s List.mem_cons_self
    have h2 := name_bd n fun x hx => h x (List.mem_cons_of_mem _ hx)
    simp only [nameSum, List.length_cons]
    split <;> omega
theorem sumP_bd : ∀ {S : List Share}, (∀ x ∈ S, 1 ≤ x.parts ∧ x.parts ≤ 1000) → 0 ≤ sumP S ∧ sumP S ≤ 1000 * S.length
  | [], _ => by simp [sumP]
  | s :: S, h => by
    have h1 := h s List.mem_cons_self
    have h2 := sumP_bd fun x hx => h x (List.mem_cons_of_mem _ hx)
    simp only [sumP, List.length_cons]
    omega
theorem rng_snoc {S : List Share} {k : Nat} (hk : k < S.length) (h : ∀ x ∈ S.take k, 1 ≤ x.parts ∧ x.parts ≤ 1000) (h1 : 1 ≤ S[k].parts ∧ S[k].parts ≤ 1000) : ∀ x ∈ S.take (k + 1), 1 ≤ x.parts ∧ x.parts ≤ 1000 := by
  intro x hx
  rw [List.take_succ_eq_append_getElem hk, List.mem_append, List.mem_singleton] at hx
  rcases hx with hx | rfl
  · exact h x hx
  · exact h1
theorem rng_app {S T : List Share} (h : ∀ x ∈ S, 1 ≤ x.parts ∧ x.parts ≤ 1000) (h2 : ∀ x ∈ T, 1 ≤ x.parts ∧ x.parts ≤ 1000) : ∀ x ∈ S ++ T, 1 ≤ x.parts ∧ x.parts ≤ 1000 := fun x hx => (List.mem_append.1 hx).elim (h x) (h2 x)
theorem pm_set {S : List Share} {sh : List Share} {k : Nat} (hk : k < sh.length) : putL (pmOf (S ++ sh.take k)) sh[k].lot ((lookL (pmOf (S ++ sh.take k)) sh[k].lot).getD 0 + sh[k].parts) = pmOf (S ++ sh.take (k + 1)) := by
  rw [List.take_succ_eq_append_getElem hk, ← List.append_assoc, pm_snoc]
  rfl
def chkA (l : List Lot) (cap : Int) (bs : List Basket) : Int := if lotsE l cap ≠ 0 then lotsE l cap else chkB l cap bs
def chkN (l : List Lot) (cap : Int) (bs : List Basket) : Int := if chkA l cap bs = 0 then (bs.length : Int) else 0
def chk8 (l : List Lot) (cap : Int) (bs : List Basket) : Int := firstE [lotsE l cap, unlessE (decide ((bs.length : Int) ≤ 60)) 8]
theorem chk8_T {l : List Lot} {cap : Int} {bs : List Basket} (h : chk8 l cap bs ≠ 0) : chkA l cap bs = chk8 l cap bs := by
  unfold chk8 at h ⊢
  rw [firstE2] at h ⊢
  unfold chkA
  by_cases h1 : lotsE l cap ≠ 0
  · rw [if_pos h1, if_pos h1]
  · rw [if_neg h1] at h ⊢
    rw [if_neg h1]
    by_cases h2 : (bs.length : Int) ≤ 60
    · rw [decide_eq_true h2] at h; exact absurd rfl h
    · rw [decide_eq_false h2, chkB, if_pos (by omega)]; rfl
theorem chk8_F {l : List Lot} {cap : Int} {bs : List Basket} (h : chk8 l cap bs = 0) : lotsE l cap = 0 ∧ bs.length ≤ 60 := by
  unfold chk8 at h
  obtain ⟨h1, h2⟩ := first2_0 h
  have := of_decide_eq_true (un_0 (by decide) h2)
  exact ⟨h1, by omega⟩
theorem chk_bs {l : List Lot} {cap : Int} {bs : List Basket} {i : Nat} {e : Int} (h : lotsE l cap = 0) (hb : bs.length ≤ 60) (hg : eachGo (fun _ b => basketE l cap b) 0 bs = ((i : Int), e)) (he : e ≠ 0) : chkA l cap bs = e := by
  unfold chkA chkB
  rw [if_neg (by rw [h]; decide), if_neg (by omega), hg, if_pos he]
theorem chk_end {l : List Lot} {cap : Int} {bs : List Basket} (h : lotsE l cap = 0) (hb : bs.length ≤ 60) (hg : eachGo (fun _ b => basketE l cap b) 0 bs = (0, 0)) : chkA l cap bs = if short l (allS bs) = true then 19 else 0 := by
  unfold chkA chkB
  rw [if_neg (by rw [h]; decide), if_neg (by omega), hg, if_neg (by decide)]
theorem all_take {bs : List Basket} {i : Nat} (h : i < bs.length) : allS (bs.take (i + 1)) = allS (bs.take i) ++ bs[i].shares := by rw [List.take_succ_eq_append_getElem h, allS_snoc]
theorem indexC_Lot {l : List Lot} {g : Lot → Bool} {Φ : Value → Prop} {J : Mem → (Nat → Prop) → World → Prop} (hJ : Stable J) (hcb : ∀ v, Φ v → ∀ x ∈ l, CbOk Tryz.prog v [.agg x.cs] (.bool (g x)) J J) : CtG Tryz.prog 142 [] [.sl (l.map Lot.cs), .cb Φ] [(3000, .res J)] [(3000, .res J)] (.int .i64 (idxGo g 0 l)) := by
  refine CtG.intro (rs := [.tmp 4]) Tryz.func142 rfl Tryz.ntmps142 Tryz.results142 rfl rfl rfl rfl fun w h => ?_
  refine OK.slLen (rows := l.map Lot.cs) (t := 0) rfl rfl fun hlen => ?_
  rw [List.length_map] at hlen
  unfold maxLen at hlen
  refine OK.seq ?_
  refine OK.reg ?_
  refine RK.c (S.assign .none rfl (.cint rfl)) ?_
  refine RK.nil ?_
  refine Ab.D.code ?_
  refine OK.seq ?_
  refine OK.seq ?_
  refine OK.reg ?_
  refine RK.c (S.move .none rfl (.tmp rfl rfl)) ?_
  refine RK.c (S.lenM si49 .none rfl (.tmp rfl rfl)) ?_
  refine RK.c (S.move .none rfl (.cint rfl)) ?_
  refine RK.nil ?_
  refine Ab.D.code ?_
  refine OK.block ?_
  refine OK.loop (G := Nat) [] (fun i => [(0, .sl (l.map Lot.cs)), (1, .cb Φ), (6, .sl (l.map Lot.cs)), (7, .int .i64 l.length), (8, .int .i64 i), (3000, .res J)]) (fun i => i ≤ l.length ∧ idxGo g 0 l = idxGo g i (l.drop i)) (fun i => l.length - i) 0 ⟨Nat.zero_le _, rfl⟩ ⟨rfl, rfl, rfl, rfl, rfl, rfl, trivial⟩ (fun _ => rfl) ?_
  rintro i ⟨hi, hg⟩
  refine OK.seq ?_
  refine OK.reg ?_
  refine RK.c (S.lss .none rfl (.tmp rfl rfl) (.tmp rfl rfl)) ?_
  refine RK.nil ?_
  refine Ab.D.code ?_
  refine OK.seq ?_
  refine OK.condD rfl rfl (fun c9 => ?_) (fun c9 => ?_)
  ·
    refine OK.skip ?_
    refine Ab.D.code ?_
    refine OK.seq ?_
    refine OK.block ?_
    refine OK.seq ?_
    refine OK.reg ?_
    refine RK.c (S.move .none rfl (.tmp rfl rfl)) ?_
    refine RK.c (S.assign .none rfl (.tmp rfl rfl)) ?_
    refine RK.nil ?_
    refine Ab.D.code ?_
    refine OK.seq ?_
    refine OK.reg ?_
    refine RK.c (S.move .none rfl (.tmp rfl rfl)) ?_
    refine RK.c (S.move .none rfl (.tmp rfl rfl)) ?_
    refine RK.c (S.move .none rfl (.tmp rfl rfl)) ?_
    refine RK.c (S.indexM (n := i) si49 .none rfl (.tmp rfl rfl) (.tmp rfl rfl) rfl (by omega) rfl) ?_
    refine RK.c (S.loadN ti66 .none rfl (.tmp rfl rfl) rfl rfl) ?_
    refine RK.c (S.callcb (J1 := J) ((fun v hv => hcb v hv l[i] (List.getElem_mem (by omega)))) (hJ) .none rfl (.tmp rfl rfl) (.cons (.tmp rfl rfl) .nil) rfl rfl) ?_
    refine RK.nil ?_
    refine Ab.D.code ?_
    refine OK.cond rfl rfl (fun c16 => ?_) (fun c16 => ?_)
    ·
      refine OK.seq ?_
      refine OK.reg ?_
      refine RK.c (S.move .none rfl (.tmp rfl rfl)) ?_
      refine RK.c (S.assign .none rfl (.tmp rfl rfl)) ?_
      refine RK.nil ?_
      refine Ab.D.code ?_
      refine OK.ret ⟨Ret.r1 (.tmp rfl rfl (.c (.same rfl) rfl) rfl) ?_, rfl, trivial⟩
      refine ret_i ?_
      rw [hg, List.drop_eq_getElem_cons (by omega), idxGo, if_pos (by simpa using c16)]
    ·
      refine OK.skip ?_
      refine Ab.D.blk ?_
      refine Ab.D.code ?_
      refine OK.reg ?_
      refine RK.c (S.add .none rfl (.tmp rfl rfl) (.cint rfl) (IntWalk.i64_in _ (by omega)) (IntWalk.i64_in _ (by omega))) ?_
      refine RK.c (S.move .none rfl (.tmp rfl rfl)) ?_
      refine RK.nil ?_
      refine Ab.D.lp ⟨i + 1, ⟨by omega, by rw [hg, List.drop_eq_getElem_cons (by omega), idxGo, if_neg (by simpa using c16)]⟩, (by omega), rfl, rfl, rfl, rfl, rfl, rfl, trivial⟩
  ·
    refine OK.exit rfl ?_
    refine Ab.D.code ?_
    refine OK.seq ?_
    refine OK.reg ?_
    refine RK.c (S.assign .none rfl (.cint rfl)) ?_
    refine RK.nil ?_
    refine Ab.D.code ?_
    refine OK.ret ⟨Ret.r1 (.tmp rfl rfl (.c (.same rfl) rfl) rfl) ?_, rfl, trivial⟩
    refine ret_i ?_
    rw [hg, show i = l.length by omega, List.drop_length]
    rfl
theorem containsC_Lot {l : List Lot} {g : Lot → Bool} {Φ : Value → Prop} {J : Mem → (Nat → Prop) → World → Prop} (hJ : Stable J) (hcb : ∀ v, Φ v → ∀ x ∈ l, CbOk Tryz.prog v [.agg x.cs] (.bool (g x)) J J) : CtG Tryz.prog 91 [] [.sl (l.map Lot.cs), .cb Φ] [(3000, .res J)] [(3000, .res J)] (.bool (l.any g)) := by
  refine CtG.intro (rs := [.tmp 4]) Tryz.func91 rfl Tryz.ntmps91 Tryz.results91 rfl rfl rfl rfl fun w h => ?_
  refine OK.seq ?_
  refine OK.reg ?_
  refine RK.c (S.assign .none rfl .cbool) ?_
  refine RK.nil ?_
  refine Ab.D.code ?_
  refine OK.seq ?_
  refine OK.reg ?_
  refine RK.c (S.move .none rfl (.tmp rfl rfl)) ?_
  refine RK.c (S.move .none rfl (.tmp rfl rfl)) ?_
  refine RK.c (S.callCB (ys := [.sl (l.map Lot.cs)]) (indexC_Lot hJ hcb) hJ Tryz.call142 .none rfl (.cons (.tmp rfl rfl) (.cons (.tmp rfl rfl) .nil)) rfl rfl rfl rfl) ?_
  refine RK.c (S.geq .none rfl (.tmp rfl rfl) (.cint rfl)) ?_
  refine RK.c (S.assign .none rfl (.tmp rfl rfl)) ?_
  refine RK.nil ?_
  refine Ab.D.code ?_
  refine OK.ret ⟨Ret.r1 (.tmp rfl rfl (.c (.same rfl) rfl) rfl) ?_, rfl, trivial⟩
  exact ret_b (idxGo_any _ l 0)
theorem shp_lotIs {x : Lot} {s : Share} : Ct Tryz.prog 143 [.agg x.cs, .eptr s.cs] (.bool (decide (x.name = s.lot))) := by
  refine Ct.intro (rs := [.tmp 3]) Tryz.func143 rfl Tryz.ntmps143 Tryz.results143 rfl rfl rfl fun w h => ?_
  refine OK.seq ?_
  refine OK.reg ?_
  refine RK.c (S.box (k := 2) rfl .none rfl (.tmp rfl rfl) rfl) ?_
  refine RK.c (S.assign .none rfl .cbool) ?_
  refine RK.nil ?_
  refine Ab.D.code ?_
  refine OK.seq ?_
  refine OK.reg ?_
  refine RK.c (S.bfield fi66_0 .none rfl (.tmp rfl rfl)) ?_
  refine RK.c (S.bload1 ti9 .none rfl (.tmp rfl rfl) rfl rfl rfl rfl) ?_
  refine RK.c (S.field fi73_0 .none rfl (.tmp rfl rfl) rfl) ?_
  refine RK.c (S.load1 ti9 .none rfl (.tmp rfl rfl) rfl) ?_
  refine RK.c (S.seql .none rfl (.tmp rfl rfl) (.tmp rfl rfl)) ?_
  refine RK.c (S.assign .none rfl (.tmp rfl rfl)) ?_
  refine RK.nil ?_
  refine Ab.D.code ?_
  refine OK.ret (Ret.r1 (.tmp rfl rfl (.c (.same rfl) rfl) rfl) ?_)
  rfl
theorem shp_shareIs {o s : Share} : Ct Tryz.prog 145 [.agg o.cs, .eptr s.cs] (.bool (decide (o.lot = s.lot))) := by
  refine Ct.intro (rs := [.tmp 3]) Tryz.func145 rfl Tryz.ntmps145 Tryz.results145 rfl rfl rfl fun w h => ?_
  refine OK.seq ?_
  refine OK.reg ?_
  refine RK.c (S.box (k := 2) rfl .none rfl (.tmp rfl rfl) rfl) ?_
  refine RK.c (S.assign .none rfl .cbool) ?_
  refine RK.nil ?_
  refine Ab.D.code ?_
  refine OK.seq ?_
  refine OK.reg ?_
  refine RK.c (S.bfield fi73_0 .none rfl (.tmp rfl rfl)) ?_
  refine RK.c (S.bload1 ti9 .none rfl (.tmp rfl rfl) rfl rfl rfl rfl) ?_
  refine RK.c (S.field fi73_0 .none rfl (.tmp rfl rfl) rfl) ?_
  refine RK.c (S.load1 ti9 .none rfl (.tmp rfl rfl) rfl) ?_
  refine RK.c (S.seql .none rfl (.tmp rfl rfl) (.tmp rfl rfl)) ?_
  refine RK.c (S.assign .none rfl (.tmp rfl rfl)) ?_
  refine RK.nil ?_
  refine Ab.D.code ?_
  refine OK.ret (Ret.r1 (.tmp rfl rfl (.c (.same rfl) rfl) rfl) ?_)
  rfl
theorem shp_lotIx {l : List Lot} {s : Share} : Ct Tryz.prog 142 [.sl (l.map Lot.cs), .fn 143 [.eptr s.cs]] (.int .i64 (lotIx l s.lot)) := indexFunc_Lot (l := l) (g := fun x => decide (x.name = s.lot)) (caps := [.eptr s.cs]) (fun x _ => shp_lotIs) Tryz.call143 ⟨rfl, rfl⟩
theorem shp_shareIn {l : List Share} {s : Share} : Ct Tryz.prog 144 [.sl (l.map Share.cs), .fn 145 [.eptr s.cs]] (.bool (l.any fun o => decide (o.lot = s.lot))) := containsFunc_Share (l := l) (g := fun o => decide (o.lot = s.lot)) (caps := [.eptr s.cs]) (fun x _ => shp_shareIs) Tryz.call145 ⟨rfl, rfl⟩
set_option maxHeartbeats 2000000 in
theorem shp_basketErr {l : List Lot} {cap : Int} {b : Basket} {T : List Share} (hb : b.shares.length ≤ 1000) (hT : T.length ≤ 1000000) (hTp : ∀ x ∈ T, 1 ≤ x.parts ∧ x.parts ≤ 1000) : CtG Tryz.prog 90 [25] [.sl (l.map Lot.cs), .int .i64 cap, .agg b.cs, .mptr 25] [(1025, .omap (mapX (pmX (pmOf (T)))))] [(1025, .omap (mapX (pmX (pmOf (T ++ b.shares.take (kOf l b))))))] (.int .i64 (basketE l cap b)) := by
  refine CtG.intro (rs := [.tmp 8]) Tryz.func90 rfl Tryz.ntmps90 Tryz.results90 rfl rfl rfl rfl fun w h => ?_
  refine OK.seq ?_
  refine OK.reg ?_
  refine RK.c (S.box (k := 6) rfl .none rfl (.tmp rfl rfl) rfl) ?_
  refine RK.c (S.assign .none rfl (.cint rfl)) ?_
  refine RK.nil ?_
  refine Ab.D.code ?_
  refine OK.seq ?_
  refine OK.seq ?_
  refine OK.reg ?_
  refine RK.c (S.bfield fi71_0 .none rfl (.tmp rfl rfl)) ?_
  refine RK.c (S.bload1 ti69 .none rfl (.tmp rfl rfl) rfl rfl rfl rfl) ?_
  refine RK.c (S.lenM si69 .none rfl (.tmp rfl rfl)) ?_
  refine RK.c (S.eql .none rfl (.tmp rfl rfl) (.cint rfl)) ?_
  refine RK.nil ?_
  refine Ab.D.code ?_
  refine OK.condD rfl rfl (fun c19 => ?_) (fun c19 => ?_)
  ·
    have h0 : b.shares = [] := List.length_eq_zero_iff.1 (by omega)
    obtain ⟨e1, e2⟩ := bask_nil (l := l) (cap := cap) h0
    refine OK.seq ?_
    refine OK.reg ?_
    refine RK.c (S.assign .none rfl (.cint rfl)) ?_
    refine RK.nil ?_
    refine Ab.D.code ?_
    refine OK.ret ⟨Ret.r1 (.tmp rfl rfl (.c (.same rfl) rfl) rfl) ?_, (by first | (rw [e2]; rfl) | (rw [e2, List.append_nil]; rfl) | (rw [e2, List.take_length]; rfl)), trivial⟩
    refine ret_i ?_
    rw [e1]
  ·
    have h0 : b.shares ≠ [] := fun e => c19 (by rw [e]; rfl)
    refine OK.skip ?_
    refine Ab.D.code ?_
    refine OK.seq ?_
    refine OK.reg ?_
    refine RK.c (S.assign .none rfl (.cstr (l := []) rfl (by decide))) ?_
    refine RK.c (S.assign .none rfl (.cint rfl)) ?_
    refine RK.nil ?_
    refine Ab.D.code ?_
    refine OK.seq ?_
    refine OK.seq ?_
    refine OK.reg ?_
    refine RK.c (S.bfield fi71_0 .none rfl (.tmp rfl rfl)) ?_
    refine RK.c (S.bload1 ti69 .none rfl (.tmp rfl rfl) rfl rfl rfl rfl) ?_
    refine RK.c (S.lenM si69 .none rfl (.tmp rfl rfl)) ?_
    refine RK.c (S.move .none rfl (.cint rfl)) ?_
    refine RK.nil ?_
    refine Ab.D.code ?_
    refine OK.block ?_
    refine OK.loop (G := Nat) [6, 25] (fun k => [(0, .sl (l.map Lot.cs)), (1, .int .i64 cap), (3, .mptr 25), (1025, .omap (mapX (pmX (pmOf (T ++ b.shares.take k))))), (6, .ptr 6 0), (1006, .box b.cs), (9, .str (heatAt l b.shares k)), (10, .int .i64 (sumP (b.shares.take k))), (21, .sl (b.shares.map Share.cs)), (22, .int .i64 b.shares.length), (23, .int .i64 k)]) (fun k => k ≤ b.shares.length ∧ eachGo (shareE l b.shares) 0 b.shares = eachGo (shareE l b.shares) k (b.shares.drop k) ∧ ∀ x ∈ b.shares.take k, 1 ≤ x.parts ∧ x.parts ≤ 1000) (fun k => b.shares.length - k) 0 ⟨Nat.zero_le _, rfl, fun x hx => by cases hx⟩ ⟨rfl, rfl, rfl, (by rw [List.take_zero, List.append_nil]; rfl), rfl, rfl, rfl, rfl, rfl, rfl, rfl, trivial⟩ (fun _ => rfl) ?_
    rintro k ⟨hk, hg, hp⟩
    refine OK.seq ?_
    refine OK.reg ?_
    refine RK.c (S.lss .none rfl (.tmp rfl rfl) (.tmp rfl rfl)) ?_
    refine RK.nil ?_
    refine Ab.D.code ?_
    refine OK.seq ?_
    refine OK.condD rfl rfl (fun c24 => ?_) (fun c24 => ?_)
    ·
      have hkl : k < b.shares.length := by omega
      refine OK.skip ?_
      refine Ab.D.code ?_
      refine OK.seq ?_
      refine OK.block ?_
      refine OK.seq ?_
      refine OK.reg ?_
      refine RK.c (S.move .none rfl (.tmp rfl rfl)) ?_
      refine RK.c (S.indexM (n := k) si69 .none rfl (.tmp rfl rfl) (.tmp rfl rfl) rfl hkl rfl) ?_
      refine RK.c (S.loadN ti73 .none rfl (.tmp rfl rfl) rfl rfl) ?_
      refine RK.c (S.alloc (k := 12) ze73 rfl .none rfl) ?_
      refine RK.c (S.assign .none rfl (.tmp rfl rfl)) ?_
      refine RK.c (S.store ti73 .none (.tmp rfl rfl) (.tmp rfl rfl) rfl rfl rfl rfl rfl rfl) ?_
      refine RK.nil ?_
      refine Ab.D.code ?_
      refine OK.seq ?_
      refine OK.reg ?_
      refine RK.c (S.move .none rfl (.tmp rfl rfl)) ?_
      refine RK.c (S.makeFunc1 .none rfl (.tmp rfl rfl) rfl) ?_
      refine RK.c (S.callL (shp_lotIx (l := l) (s := b.shares[k])) Tryz.call142 .none rfl (.cons (.tmp rfl rfl) (.cons (.tmp rfl rfl) .nil)) (.cons (.same rfl) (.cons (.fn (.cons (.ptr rfl rfl rfl rfl) .nil)) .nil)) rfl) ?_
      refine RK.c (S.assign .none rfl (.tmp rfl rfl)) ?_
      refine RK.nil ?_
      refine Ab.D.code ?_
      refine OK.seq ?_
      refine OK.seq ?_
      refine OK.reg ?_
      refine RK.c (S.move .none rfl (.tmp rfl rfl)) ?_
      refine RK.c (S.lss .none rfl (.tmp rfl rfl) (.cint rfl)) ?_
      refine RK.nil ?_
      refine Ab.D.code ?_
      refine OK.condD rfl rfl (fun c32 => ?_) (fun c32 => ?_)
      ·
        obtain ⟨e1, e2⟩ := bask_at (cap := cap) h0 (each_at hg hkl (show shareE l b.shares k b.shares[k] = 6 from if_pos c32) (by decide)) (by decide)
        refine OK.seq ?_
        refine OK.reg ?_
        refine RK.c (S.assign .none rfl (.cint rfl)) ?_
        refine RK.nil ?_
        refine Ab.D.code ?_
        refine OK.ret ⟨Ret.r1 (.tmp rfl rfl (.c (.same rfl) rfl) rfl) ?_, (by first | (rw [e2]; rfl) | (rw [e2, List.append_nil]; rfl) | (rw [e2, List.take_length]; rfl)), trivial⟩
        refine ret_i ?_
        rw [e1]
      ·
        obtain ⟨i, hix, hil, hin⟩ := lot_at c32
        have hhx := heat_ix hix hil
        refine OK.skip ?_
        refine Ab.D.code ?_
        refine OK.seq ?_
        refine OK.seq ?_
        refine OK.reg ?_
        refine RK.c (S.move .none rfl (.tmp rfl rfl)) ?_
        refine RK.c (S.eql .none rfl (.tmp rfl rfl) (.cint rfl)) ?_
        refine RK.nil ?_
        refine Ab.D.code ?_
        refine OK.condD rfl rfl (fun c34 => ?_) (fun c34 => ?_)
        ·
          have hsh : heatOf l (b.shares.getD 0 ⟨[], 0⟩).lot = l[i].heat := by rw [first_lot (show k = 0 by omega) hkl]; exact hhx
          have hst := share_is (sh := b.shares) (k := k) c32 hhx hsh
          refine OK.reg ?_
          refine RK.c (S.move .none rfl (.tmp rfl rfl)) ?_
          refine RK.c (S.move .none rfl (.tmp rfl rfl)) ?_
          refine RK.c (S.indexM (n := i) si49 .none rfl (.tmp rfl rfl) (.tmp rfl rfl) hix hil rfl) ?_
          refine RK.c (S.field fi66_1 .none rfl (.tmp rfl rfl) rfl) ?_
          refine RK.c (S.load1 ti9 .none rfl (.tmp rfl rfl) rfl) ?_
          refine RK.c (S.assign .none rfl (.tmp rfl rfl)) ?_
          refine RK.nil ?_
          refine Ab.D.code ?_
          refine OK.seq ?_
          refine OK.reg ?_
          refine RK.c (S.bfield fi71_0 .none rfl (.tmp rfl rfl)) ?_
          refine RK.c (S.bload1 ti69 .none rfl (.tmp rfl rfl) rfl rfl rfl rfl) ?_
          refine RK.c (S.move .none rfl (.tmp rfl rfl)) ?_
          refine RK.c (S.slice (hi := k) (l' := b.shares.take k) si69 (fun _ => rfl) .none rfl (.tmp rfl rfl) (.inl ⟨rfl, rfl, rfl⟩) (.inr ⟨_, _, rfl, (.tmp rfl rfl), rfl⟩) (Nat.zero_le _) (by omega) rfl) ?_
          refine RK.c (S.makeFunc1 .none rfl (.tmp rfl rfl) rfl) ?_
          refine RK.c (S.callL (shp_shareIn (l := b.shares.take k) (s := b.shares[k])) Tryz.call144 .none rfl (.cons (.tmp rfl rfl) (.cons (.tmp rfl rfl) .nil)) (.cons (.same rfl) (.cons (.fn (.cons (.ptr rfl rfl rfl rfl) .nil)) .nil)) rfl) ?_
          refine RK.c (S.assign .none rfl (.tmp rfl rfl)) ?_
          refine RK.nil ?_
          refine Ab.D.code ?_
          refine OK.seq ?_
          refine OK.seq ?_
          refine OK.regionDraw follows (.c (S.move .none rfl (.tmp rfl rfl))
            (.c (S.not .none rfl (.tmp rfl rfl))
            (.c (S.call (shop_unless) Tryz.call86 .none rfl (.cons (.tmp rfl rfl) (.cons (.cint rfl) .nil)) rfl)
            (.c (S.bfield fi73_1 .none rfl (.tmp rfl rfl))
            (.c (S.bload1 ti3 .none rfl (.tmp rfl rfl) rfl rfl rfl rfl)
            (.c (S.call (shp_isParts) Tryz.call137 .none rfl (.cons (.tmp rfl rfl) .nil) rfl)
            (.c (S.call (shop_unless) Tryz.call86 .none rfl (.cons (.tmp rfl rfl) (.cons (.cint rfl) .nil)) rfl)
            (.c (S.move .none rfl (.tmp rfl rfl))
            (.c (S.move .none rfl (.tmp rfl rfl))
            (.c (S.indexM (n := i) si49 .none rfl (.tmp rfl rfl) (.tmp rfl rfl) hix hil rfl)
            (.c (S.field fi66_1 .none rfl (.tmp rfl rfl) rfl)
            (.c (S.load1 ti9 .none rfl (.tmp rfl rfl) rfl)
            (.c (S.move .none rfl (.tmp rfl rfl))
            (.c (S.seql .none rfl (.tmp rfl rfl) (.tmp rfl rfl))
            (.c (S.call (shop_unless) Tryz.call86 .none rfl (.cons (.tmp rfl rfl) (.cons (.cint rfl) .nil)) rfl)
            (.c (S.mkSlice (k := 61) (rows := [[_], [_], [_]]) ai191 .none rfl (.cons (.tmp rfl rfl) (.cons (.tmp rfl rfl) (.cons (.tmp rfl rfl) .nil))) rfl rfl rfl rfl rfl rfl rfl)
            (.c (S.callL (shop_first (l := [_, _, _])) Tryz.call85 .none rfl (.cons (.tmp rfl rfl) .nil) (.cons (.p (.own rfl rfl) rfl) .nil) rfl)
            (.c (S.assign .none rfl (.tmp rfl rfl))
            .nil)))))))))))))))))) (by kernel_rfl) ?_
          refine Ab.D.code ?_
          refine OK.seq ?_
          refine OK.reg ?_
          refine RK.c (S.move .none rfl (.tmp rfl rfl)) ?_
          refine RK.c (S.neq .none rfl (.tmp rfl rfl) (.cint rfl)) ?_
          refine RK.nil ?_
          refine Ab.D.code ?_
          refine OK.condD rfl rfl (fun c64 => ?_) (fun c64 => ?_)
          ·
            rw [← hst] at c64 ⊢
            obtain ⟨e1, e2⟩ := bask_at (cap := cap) h0 (each_at hg hkl rfl c64) c64
            refine OK.seq ?_
            refine OK.reg ?_
            refine RK.c (S.move .none rfl (.tmp rfl rfl)) ?_
            refine RK.c (S.assign .none rfl (.tmp rfl rfl)) ?_
            refine RK.nil ?_
            refine Ab.D.code ?_
            refine OK.ret ⟨Ret.r1 (.tmp rfl rfl (.c (.same rfl) rfl) rfl) ?_, (by first | (rw [e2]; rfl) | (rw [e2, List.append_nil]; rfl) | (rw [e2, List.take_length]; rfl)), trivial⟩
            refine ret_i ?_
            rw [e1]
          ·
            have hs0 : shareE l b.shares k b.shares[k] = 0 := hst.trans (Decidable.not_not.1 c64)
            have hpr := (share_rng hs0).2
            have hpx := rng_snoc hkl hp hpr
            have hsm := sumP_bd hp
            have htk : (b.shares.take k).length = k := by rw [List.length_take]; omega
            rw [htk] at hsm
            have hnb := name_bd b.shares[k].lot (rng_app hTp hp)
            rw [← pm_sum, List.length_append, htk] at hnb
            have hpm := pm_set (S := T) hkl
            refine OK.skip ?_
            refine Ab.D.code ?_
            refine OK.seq ?_
            refine OK.reg ?_
            refine RK.c (S.move .none rfl (.tmp rfl rfl)) ?_
            refine RK.c (S.bfield fi73_1 .none rfl (.tmp rfl rfl)) ?_
            refine RK.c (S.bload1 ti3 .none rfl (.tmp rfl rfl) rfl rfl rfl rfl) ?_
            refine RK.c (S.add .none rfl (.tmp rfl rfl) (.tmp rfl rfl) (IntWalk.i64_in _ (by omega)) (IntWalk.i64_in _ (by omega))) ?_
            refine RK.c (S.assign .none rfl (.tmp rfl rfl)) ?_
            refine RK.nil ?_
            refine Ab.D.code ?_
            refine OK.reg ?_
            refine RK.c (S.move .none rfl (.tmp rfl rfl)) ?_
            refine RK.c (S.bfield fi73_0 .none rfl (.tmp rfl rfl)) ?_
            refine RK.c (S.bload1 ti9 .none rfl (.tmp rfl rfl) rfl rfl rfl rfl) ?_
            refine RK.c (S.lookupI (m := pmOf (T ++ b.shares.take k)) Tryz.underlying148 Tryz.underlying9 Tryz.zeroValue3 (fun _ => .int rfl) .none rfl (.tmp rfl rfl) (.tmp rfl rfl) rfl) ?_
            refine RK.c (S.bfield fi73_1 .none rfl (.tmp rfl rfl)) ?_
            refine RK.c (S.bload1 ti3 .none rfl (.tmp rfl rfl) rfl rfl rfl rfl) ?_
            refine RK.c (S.add .none rfl (.tmp rfl rfl) (.tmp rfl rfl) (IntWalk.i64_in _ (by omega)) (IntWalk.i64_in _ (by omega))) ?_
            refine RK.c (S.mapSetI (m := pmOf (T ++ b.shares.take k)) (m' := pmOf (T ++ b.shares.take (k + 1))) Tryz.underlying148 Tryz.underlying9 .none (.tmp rfl rfl) (.tmp rfl rfl) (.tmp rfl rfl) rfl hpm) ?_
            refine RK.nil ?_
            refine Ab.D.blk ?_
            refine Ab.D.code ?_
            refine OK.reg ?_
            refine RK.c (S.add .none rfl (.tmp rfl rfl) (.cint rfl) (IntWalk.i64_in _ (by omega)) (IntWalk.i64_in _ (by omega))) ?_
            refine RK.c (S.move .none rfl (.tmp rfl rfl)) ?_
            refine RK.nil ?_
            refine Ab.D.lp ⟨k + 1, ⟨by omega, each_on hg hkl hs0, hpx⟩, (by omega), rfl, rfl, rfl, rfl, rfl, rfl, (congrArg (fun z => some (X.str z)) (by rw [show heatAt l b.shares (k + 1) = _ from if_neg (by omega), hsh])), (lkI (by rw [List.take_succ_eq_append_getElem hkl, sumP_snoc])), rfl, rfl, rfl, trivial⟩
        ·
          have hsh : heatOf l (b.shares.getD 0 ⟨[], 0⟩).lot = heatAt l b.shares k := (if_neg (by omega)).symm
          have hst := share_is (sh := b.shares) (k := k) c32 hhx hsh
          refine OK.skip ?_
          refine Ab.D.code ?_
          refine OK.seq ?_
          refine OK.reg ?_
          refine RK.c (S.bfield fi71_0 .none rfl (.tmp rfl rfl)) ?_
          refine RK.c (S.bload1 ti69 .none rfl (.tmp rfl rfl) rfl rfl rfl rfl) ?_
          refine RK.c (S.move .none rfl (.tmp rfl rfl)) ?_
          refine RK.c (S.slice (hi := k) (l' := b.shares.take k) si69 (fun _ => rfl) .none rfl (.tmp rfl rfl) (.inl ⟨rfl, rfl, rfl⟩) (.inr ⟨_, _, rfl, (.tmp rfl rfl), rfl⟩) (Nat.zero_le _) (by omega) rfl) ?_
          refine RK.c (S.makeFunc1 .none rfl (.tmp rfl rfl) rfl) ?_
          refine RK.c (S.callL (shp_shareIn (l := b.shares.take k) (s := b.shares[k])) Tryz.call144 .none rfl (.cons (.tmp rfl rfl) (.cons (.tmp rfl rfl) .nil)) (.cons (.same rfl) (.cons (.fn (.cons (.ptr rfl rfl rfl rfl) .nil)) .nil)) rfl) ?_
          refine RK.c (S.assign .none rfl (.tmp rfl rfl)) ?_
          refine RK.nil ?_
          refine Ab.D.code ?_
          refine OK.seq ?_
          refine OK.seq ?_
          refine OK.regionDraw follows (.c (S.move .none rfl (.tmp rfl rfl))
            (.c (S.not .none rfl (.tmp rfl rfl))
            (.c (S.call (shop_unless) Tryz.call86 .none rfl (.cons (.tmp rfl rfl) (.cons (.cint rfl) .nil)) rfl)
            (.c (S.bfield fi73_1 .none rfl (.tmp rfl rfl))
            (.c (S.bload1 ti3 .none rfl (.tmp rfl rfl) rfl rfl rfl rfl)
            (.c (S.call (shp_isParts) Tryz.call137 .none rfl (.cons (.tmp rfl rfl) .nil) rfl)
            (.c (S.call (shop_unless) Tryz.call86 .none rfl (.cons (.tmp rfl rfl) (.cons (.cint rfl) .nil)) rfl)
            (.c (S.move .none rfl (.tmp rfl rfl))
            (.c (S.move .none rfl (.tmp rfl rfl))
            (.c (S.indexM (n := i) si49 .none rfl (.tmp rfl rfl) (.tmp rfl rfl) hix hil rfl)
            (.c (S.field fi66_1 .none rfl (.tmp rfl rfl) rfl)
            (.c (S.load1 ti9 .none rfl (.tmp rfl rfl) rfl)
            (.c (S.move .none rfl (.tmp rfl rfl))
            (.c (S.seql .none rfl (.tmp rfl rfl) (.tmp rfl rfl))
            (.c (S.call (shop_unless) Tryz.call86 .none rfl (.cons (.tmp rfl rfl) (.cons (.cint rfl) .nil)) rfl)
            (.c (S.mkSlice (k := 61) (rows := [[_], [_], [_]]) ai191 .none rfl (.cons (.tmp rfl rfl) (.cons (.tmp rfl rfl) (.cons (.tmp rfl rfl) .nil))) rfl rfl rfl rfl rfl rfl rfl)
            (.c (S.callL (shop_first (l := [_, _, _])) Tryz.call85 .none rfl (.cons (.tmp rfl rfl) .nil) (.cons (.p (.own rfl rfl) rfl) .nil) rfl)
            (.c (S.assign .none rfl (.tmp rfl rfl))
            .nil)))))))))))))))))) (by kernel_rfl) ?_
          refine Ab.D.code ?_
          refine OK.seq ?_
          refine OK.reg ?_
          refine RK.c (S.move .none rfl (.tmp rfl rfl)) ?_
          refine RK.c (S.neq .none rfl (.tmp rfl rfl) (.cint rfl)) ?_
          refine RK.nil ?_
          refine Ab.D.code ?_
          refine OK.condD rfl rfl (fun c64 => ?_) (fun c64 => ?_)
          ·
            rw [← hst] at c64 ⊢
            obtain ⟨e1, e2⟩ := bask_at (cap := cap) h0 (each_at hg hkl rfl c64) c64
            refine OK.seq ?_
            refine OK.reg ?_
            refine RK.c (S.move .none rfl (.tmp rfl rfl)) ?_
            refine RK.c (S.assign .none rfl (.tmp rfl rfl)) ?_
            refine RK.nil ?_
            refine Ab.D.code ?_
            refine OK.ret ⟨Ret.r1 (.tmp rfl rfl (.c (.same rfl) rfl) rfl) ?_, (by first | (rw [e2]; rfl) | (rw [e2, List.append_nil]; rfl) | (rw [e2, List.take_length]; rfl)), trivial⟩
            refine ret_i ?_
            rw [e1]
          ·
            have hs0 : shareE l b.shares k b.shares[k] = 0 := hst.trans (Decidable.not_not.1 c64)
            have hpr := (share_rng hs0).2
            have hpx := rng_snoc hkl hp hpr
            have hsm := sumP_bd hp
            have htk : (b.shares.take k).length = k := by rw [List.length_take]; omega
            rw [htk] at hsm
            have hnb := name_bd b.shares[k].lot (rng_app hTp hp)
            rw [← pm_sum, List.length_append, htk] at hnb
            have hpm := pm_set (S := T) hkl
            refine OK.skip ?_
            refine Ab.D.code ?_
            refine OK.seq ?_
            refine OK.reg ?_
            refine RK.c (S.move .none rfl (.tmp rfl rfl)) ?_
            refine RK.c (S.bfield fi73_1 .none rfl (.tmp rfl rfl)) ?_
            refine RK.c (S.bload1 ti3 .none rfl (.tmp rfl rfl) rfl rfl rfl rfl) ?_
            refine RK.c (S.add .none rfl (.tmp rfl rfl) (.tmp rfl rfl) (IntWalk.i64_in _ (by omega)) (IntWalk.i64_in _ (by omega))) ?_
            refine RK.c (S.assign .none rfl (.tmp rfl rfl)) ?_
            refine RK.nil ?_
            refine Ab.D.code ?_
            refine OK.reg ?_
            refine RK.c (S.move .none rfl (.tmp rfl rfl)) ?_
            refine RK.c (S.bfield fi73_0 .none rfl (.tmp rfl rfl)) ?_
            refine RK.c (S.bload1 ti9 .none rfl (.tmp rfl rfl) rfl rfl rfl rfl) ?_
            refine RK.c (S.lookupI (m := pmOf (T ++ b.shares.take k)) Tryz.underlying148 Tryz.underlying9 Tryz.zeroValue3 (fun _ => .int rfl) .none rfl (.tmp rfl rfl) (.tmp rfl rfl) rfl) ?_
            refine RK.c (S.bfield fi73_1 .none rfl (.tmp rfl rfl)) ?_
            refine RK.c (S.bload1 ti3 .none rfl (.tmp rfl rfl) rfl rfl rfl rfl) ?_
            refine RK.c (S.add .none rfl (.tmp rfl rfl) (.tmp rfl rfl) (IntWalk.i64_in _ (by omega)) (IntWalk.i64_in _ (by omega))) ?_
            refine RK.c (S.mapSetI (m := pmOf (T ++ b.shares.take k)) (m' := pmOf (T ++ b.shares.take (k + 1))) Tryz.underlying148 Tryz.underlying9 .none (.tmp rfl rfl) (.tmp rfl rfl) (.tmp rfl rfl) rfl hpm) ?_
            refine RK.nil ?_
            refine Ab.D.blk ?_
            refine Ab.D.code ?_
            refine OK.reg ?_
            refine RK.c (S.add .none rfl (.tmp rfl rfl) (.cint rfl) (IntWalk.i64_in _ (by omega)) (IntWalk.i64_in _ (by omega))) ?_
            refine RK.c (S.move .none rfl (.tmp rfl rfl)) ?_
            refine RK.nil ?_
            refine Ab.D.lp ⟨k + 1, ⟨by omega, each_on hg hkl hs0, hpx⟩, (by omega), rfl, rfl, rfl, rfl, rfl, rfl, (congrArg (fun z => some (X.str z)) (by rw [show heatAt l b.shares (k + 1) = _ from if_neg (by omega), hsh])), (lkI (by rw [List.take_succ_eq_append_getElem hkl, sumP_snoc])), rfl, rfl, rfl, trivial⟩
    ·
      have hst2 : b.shares.take k = b.shares := List.take_of_length_le (by omega)
      obtain ⟨e1, e2⟩ := bask_on (cap := cap) h0 (each_end hg (by omega))
      rw [hst2]
      refine OK.exit rfl ?_
      refine Ab.D.code ?_
      refine OK.seq ?_
      refine OK.reg ?_
      refine RK.c (S.move .none rfl (.tmp rfl rfl)) ?_
      refine RK.c (S.move .none rfl (.tmp rfl rfl)) ?_
      refine RK.c (S.leq .none rfl (.tmp rfl rfl) (.tmp rfl rfl)) ?_
      refine RK.c (S.call (shop_unless) Tryz.call86 .none rfl (.cons (.tmp rfl rfl) (.cons (.cint rfl) .nil)) rfl) ?_
      refine RK.c (S.assign .none rfl (.tmp rfl rfl)) ?_
      refine RK.nil ?_
      refine Ab.D.code ?_
      refine OK.ret ⟨Ret.r1 (.tmp rfl rfl (.c (.same rfl) rfl) rfl) ?_, (by first | (rw [e2]; rfl) | (rw [e2, List.append_nil]; rfl) | (rw [e2, List.take_length]; rfl)), trivial⟩
      refine ret_i ?_
      rw [e1]
theorem shp_short {x : Lot} {T : List Share} : CtG Tryz.prog 92 [9, 25] [.agg x.cs, .ptr 9 0] [(1009, .box [.mptr 25]), (1025, .omap (mapX (pmX (pmOf (T)))))] [(1009, .box [.mptr 25]), (1025, .omap (mapX (pmX (pmOf (T)))))] (.bool (decide (nameSum x.name T ≠ x.parts))) := by
  refine CtG.intro (rs := [.tmp 3]) Tryz.func92 rfl Tryz.ntmps92 Tryz.results92 rfl rfl rfl rfl fun w h => ?_
  refine OK.seq ?_
  refine OK.reg ?_
  refine RK.c (S.box (k := 2) rfl .none rfl (.tmp rfl rfl) rfl) ?_
  refine RK.c (S.assign .none rfl .cbool) ?_
  refine RK.nil ?_
  refine Ab.D.code ?_
  refine OK.seq ?_
  refine OK.reg ?_
  refine RK.c (S.bload1 ti148 .none rfl (.tmp rfl rfl) rfl rfl rfl rfl) ?_
  refine RK.c (S.bfield fi66_0 .none rfl (.tmp rfl rfl)) ?_
  refine RK.c (S.bload1 ti9 .none rfl (.tmp rfl rfl) rfl rfl rfl rfl) ?_
  refine RK.c (S.lookupI (m := pmOf T) Tryz.underlying148 Tryz.underlying9 Tryz.zeroValue3 (fun _ => .int rfl) .none rfl (.tmp rfl rfl) (.tmp rfl rfl) rfl) ?_
  refine RK.c (S.bfield fi66_2 .none rfl (.tmp rfl rfl)) ?_
  refine RK.c (S.bload1 ti3 .none rfl (.tmp rfl rfl) rfl rfl rfl rfl) ?_
  refine RK.c (S.neq .none rfl (.tmp rfl rfl) (.tmp rfl rfl)) ?_
  refine RK.c (S.assign .none rfl (.tmp rfl rfl)) ?_
  refine RK.nil ?_
  refine Ab.D.code ?_
  refine OK.ret ⟨Ret.r1 (.tmp rfl rfl (.c (.same rfl) rfl) rfl) ?_, rfl, rfl, trivial⟩
  refine ret_b ?_
  rw [pm_sum]
set_option maxHeartbeats 2000000 in
theorem shp_CheckBaskets {l : List Lot} {cap : Int} {bs : List Basket} (hbl : bs.length ≤ 100) (hbs : ∀ b ∈ bs, b.shares.length ≤ 100) : Ct Tryz.prog 33 [.sl (l.map Lot.cs), .int .i64 cap, .sl (bs.map Basket.cs)] (pair (chkN l cap bs, chkA l cap bs)) := by
  refine Ct.intro (rs := [.tmp 6, .tmp 7]) Tryz.func33 rfl Tryz.ntmps33 Tryz.results33 rfl rfl rfl fun w h => ?_
  refine OK.seq ?_
  refine OK.reg ?_
  refine RK.c (S.assign .none rfl (.cint rfl)) ?_
  refine RK.c (S.assign .none rfl (.cint rfl)) ?_
  refine RK.nil ?_
  refine Ab.D.code ?_
  refine OK.seq ?_
  refine OK.seq ?_
  refine OK.reg ?_
  refine RK.c (S.move .none rfl (.tmp rfl rfl)) ?_
  refine RK.c (S.move .none rfl (.tmp rfl rfl)) ?_
  refine RK.c (S.call (shp_lotsErr) Tryz.call88 .none rfl (.cons (.tmp rfl rfl) (.cons (.tmp rfl rfl) .nil)) rfl) ?_
  refine RK.c (S.move .none rfl (.tmp rfl rfl)) ?_
  refine RK.c (S.lenM si50 .none rfl (.tmp rfl rfl)) ?_
  refine RK.c (S.leq .none rfl (.tmp rfl rfl) (.cint rfl)) ?_
  refine RK.c (S.call (shop_unless) Tryz.call86 .none rfl (.cons (.tmp rfl rfl) (.cons (.cint rfl) .nil)) rfl) ?_
  refine RK.c (S.mkSlice (k := 20) (rows := [[_], [_]]) ai191 .none rfl (.cons (.tmp rfl rfl) (.cons (.tmp rfl rfl) .nil)) rfl rfl rfl rfl rfl rfl rfl) ?_
  refine RK.c (S.callL (shop_first (l := [_, _])) Tryz.call85 .none rfl (.cons (.tmp rfl rfl) .nil) (.cons (.p (.own rfl rfl) rfl) .nil) rfl) ?_
  refine RK.c (S.assign .none rfl (.tmp rfl rfl)) ?_
  refine RK.nil ?_
  refine Ab.D.code ?_
  refine OK.seq ?_
  refine OK.reg ?_
  refine RK.c (S.move .none rfl (.tmp rfl rfl)) ?_
  refine RK.c (S.neq .none rfl (.tmp rfl rfl) (.cint rfl)) ?_
  refine RK.nil ?_
  refine Ab.D.code ?_
  refine OK.condD rfl rfl (fun c23 => ?_) (fun c23 => ?_)
  ·
    have hc := chk8_T (l := l) (cap := cap) (bs := bs) c23
    have hcn : chkN l cap bs = 0 := if_neg (by rw [hc]; exact c23)
    refine OK.seq ?_
    refine OK.reg ?_
    refine RK.c (S.move .none rfl (.tmp rfl rfl)) ?_
    refine RK.c (S.assign .none rfl (.cint rfl)) ?_
    refine RK.c (S.assign .none rfl (.tmp rfl rfl)) ?_
    refine RK.nil ?_
    refine Ab.D.code ?_
    refine OK.ret (Ret.r2 (.tmp rfl rfl (.c (.same rfl) rfl) rfl) (.tmp rfl rfl (.c (.same rfl) rfl) rfl) ?_)
    refine ret_p ?_
    rw [hcn, hc]
    all_goals rfl
  ·
    obtain ⟨hl0, hb60⟩ := chk8_F (l := l) (cap := cap) (bs := bs) (Decidable.not_not.1 c23)
    refine OK.skip ?_
    refine Ab.D.code ?_
    refine OK.seq ?_
    refine OK.reg ?_
    refine RK.c (S.makeMapO (k := 25) rfl .none rfl) ?_
    refine RK.c (S.alloc (k := 9) ze148 rfl .none rfl) ?_
    refine RK.c (S.store ti148 .none (.tmp rfl rfl) (.tmp rfl rfl) rfl rfl rfl rfl rfl rfl) ?_
    refine RK.nil ?_
    refine Ab.D.code ?_
    refine OK.seq ?_
    refine OK.seq ?_
    refine OK.reg ?_
    refine RK.c (S.move .none rfl (.tmp rfl rfl)) ?_
    refine RK.c (S.lenM si50 .none rfl (.tmp rfl rfl)) ?_
    refine RK.c (S.move .none rfl (.cint rfl)) ?_
    refine RK.nil ?_
    refine Ab.D.code ?_
    refine OK.block ?_
    refine OK.loop (G := Nat) [9, 25] (fun i => [(0, .sl (l.map Lot.cs)), (1, .int .i64 cap), (2, .sl (bs.map Basket.cs)), (9, .ptr 9 0), (1009, .box [.mptr 25]), (1025, .omap (mapX (pmX (pmOf (allS (bs.take i)))))), (26, .sl (bs.map Basket.cs)), (27, .int .i64 bs.length), (28, .int .i64 i)]) (fun i => i ≤ bs.length ∧ eachGo (fun _ b => basketE l cap b) 0 bs = eachGo (fun _ b => basketE l cap b) i (bs.drop i) ∧ (∀ x ∈ allS (bs.take i), 1 ≤ x.parts ∧ x.parts ≤ 1000) ∧ (allS (bs.take i)).length ≤ 100 * i) (fun i => bs.length - i) 0 ⟨Nat.zero_le _, rfl, fun x hx => (by cases hx), Nat.le_refl _⟩ ⟨rfl, rfl, rfl, rfl, rfl, rfl, rfl, rfl, rfl, trivial⟩ (fun _ => rfl) ?_
    rintro i ⟨hi, hg, hxp, hxl⟩
    refine OK.seq ?_
    refine OK.reg ?_
    refine RK.c (S.lss .none rfl (.tmp rfl rfl) (.tmp rfl rfl)) ?_
    refine RK.nil ?_
    refine Ab.D.code ?_
    refine OK.seq ?_
    refine OK.condD rfl rfl (fun c29 => ?_) (fun c29 => ?_)
    ·
      have hil : i < bs.length := by omega
      have hbi := hbs _ (List.getElem_mem hil)
      refine OK.skip ?_
      refine Ab.D.code ?_
      refine OK.seq ?_
      refine OK.block ?_
      refine OK.seq ?_
      refine OK.reg ?_
      refine RK.c (S.indexM (n := i) si50 .none rfl (.tmp rfl rfl) (.tmp rfl rfl) rfl hil rfl) ?_
      refine RK.c (S.loadN ti71 .none rfl (.tmp rfl rfl) rfl rfl) ?_
      refine RK.c (S.alloc (k := 11) ze71 rfl .none rfl) ?_
      refine RK.c (S.store ti71 .none (.tmp rfl rfl) (.tmp rfl rfl) rfl rfl rfl rfl rfl rfl) ?_
      refine RK.nil ?_
      refine Ab.D.code ?_
      refine OK.seq ?_
      refine OK.reg ?_
      refine RK.c (S.move .none rfl (.tmp rfl rfl)) ?_
      refine RK.c (S.move .none rfl (.tmp rfl rfl)) ?_
      refine RK.c (S.bloadN ti71 .none rfl (.tmp rfl rfl) rfl rfl rfl rfl) ?_
      refine RK.c (S.bload1 ti148 .none rfl (.tmp rfl rfl) rfl rfl rfl rfl) ?_
      refine RK.c (S.callG (fs := [25]) (t := [(1025, .omap (mapX (pmX (pmOf (allS (bs.take i))))))]) (t' := [(1025, .omap (mapX (pmX (pmOf (allS (bs.take i) ++ bs[i].shares.take (kOf l bs[i]))))))]) (shp_basketErr (T := allS (bs.take i)) (by omega) (by omega) hxp) Tryz.call90 .none rfl (.cons (.tmp rfl rfl) (.cons (.tmp rfl rfl) (.cons (.tmp rfl rfl) (.cons (.tmp rfl rfl) .nil)))) (by kernel_rfl) ⟨rfl, trivial⟩ (by kernel_rfl) (by kernel_rfl) (by kernel_rfl) (by kernel_rfl) rfl (by kernel_rfl)) ?_
      refine RK.c (S.assign .none rfl (.tmp rfl rfl)) ?_
      refine RK.nil ?_
      refine Ab.D.code ?_
      refine OK.seq ?_
      refine OK.reg ?_
      refine RK.c (S.move .none rfl (.tmp rfl rfl)) ?_
      refine RK.c (S.neq .none rfl (.tmp rfl rfl) (.cint rfl)) ?_
      refine RK.nil ?_
      refine Ab.D.code ?_
      refine OK.condD rfl rfl (fun c38 => ?_) (fun c38 => ?_)
      ·
        have hc := chk_bs hl0 hb60 (each_at (g := fun _ b => basketE l cap b) hg hil rfl c38) c38
        have hcn : chkN l cap bs = 0 := if_neg (by rw [hc]; exact c38)
        refine OK.seq ?_
        refine OK.reg ?_
        refine RK.c (S.move .none rfl (.tmp rfl rfl)) ?_
        refine RK.c (S.assign .none rfl (.cint rfl)) ?_
        refine RK.c (S.assign .none rfl (.tmp rfl rfl)) ?_
        refine RK.nil ?_
        refine Ab.D.code ?_
        refine OK.ret (Ret.r2 (.tmp rfl rfl (.c (.same rfl) rfl) rfl) (.tmp rfl rfl (.c (.same rfl) rfl) rfl) ?_)
        refine ret_p ?_
        rw [hcn, hc]
        all_goals rfl
      ·
        have hb0 : basketE l cap bs[i] = 0 := Decidable.not_not.1 c38
        obtain ⟨hb1, hb2, hb3⟩ := bask_0 hb0
        refine OK.skip ?_
        refine Ab.D.blk ?_
        refine Ab.D.code ?_
        refine OK.reg ?_
        refine RK.c (S.add .none rfl (.tmp rfl rfl) (.cint rfl) (IntWalk.i64_in _ (by omega)) (IntWalk.i64_in _ (by omega))) ?_
        refine RK.c (S.move .none rfl (.tmp rfl rfl)) ?_
        refine RK.nil ?_
        refine Ab.D.lp ⟨i + 1, ⟨by omega, each_on hg hil hb0, by rw [all_take hil]; exact rng_app hxp hb3, by rw [all_take hil, List.length_append]; omega⟩, (by omega), rfl, rfl, rfl, rfl, rfl, (by rw [hb2, List.take_length, all_take hil]; rfl), rfl, rfl, rfl, trivial⟩
    ·
      have hst2 : bs.take i = bs := List.take_of_length_le (by omega)
      rw [hst2]
      have hc := chk_end hl0 hb60 (each_end hg (by omega))
      refine OK.exit rfl ?_
      refine Ab.D.code ?_
      refine OK.seq ?_
      refine OK.seq ?_
      refine OK.reg ?_
      refine RK.c (S.move .none rfl (.tmp rfl rfl)) ?_
      refine RK.c (S.makeFunc1 .none rfl (.tmp rfl rfl) rfl) ?_
      refine RK.c (S.callE (ys := [.sl (l.map Lot.cs)]) (fs := [9, 25]) (t := [(1009, .box [.mptr 25]), (1025, .omap (mapX (pmX (pmOf (allS bs)))))]) (t' := [(1009, .box [.mptr 25]), (1025, .omap (mapX (pmX (pmOf (allS bs)))))]) (fun cL v0 hv => containsC_Lot (Φ := fun v => v = v0) (g := fun x => decide (nameSum x.name (allS bs) ≠ x.parts)) (LentJ.stable rfl) (fun v hv2 x hx => by rw [show v = v0 from hv2]; exact cb_of_G shp_short Tryz.call92 rfl hv rfl rfl)) Tryz.call91 .none rfl (.cons (.tmp rfl rfl) (.cons (.tmp rfl rfl) .nil)) rfl rfl rfl ⟨rfl, rfl, trivial⟩ (by kernel_rfl) (by kernel_rfl) (by kernel_rfl) (by kernel_rfl) (by kernel_rfl) rfl rfl) ?_
      refine RK.nil ?_
      refine Ab.D.code ?_
      refine OK.cond rfl rfl (fun c43 => ?_) (fun c43 => ?_)
      ·
        rw [show short l (allS bs) = true from c43, if_pos rfl] at hc
        have hcn : chkN l cap bs = 0 := if_neg (by rw [hc]; decide)
        refine OK.seq ?_
        refine OK.reg ?_
        refine RK.c (S.assign .none rfl (.cint rfl)) ?_
        refine RK.c (S.assign .none rfl (.cint rfl)) ?_
        refine RK.nil ?_
        refine Ab.D.code ?_
        refine OK.ret (Ret.r2 (.tmp rfl rfl (.c (.same rfl) rfl) rfl) (.tmp rfl rfl (.c (.same rfl) rfl) rfl) ?_)
        refine ret_p ?_
        rw [hcn, hc]
        all_goals rfl
      ·
        rw [if_neg (show ¬ short l (allS bs) = true by rw [show short l (allS bs) = false from c43]; decide)] at hc
        have hcn : chkN l cap bs = (bs.length : Int) := if_pos hc
        refine OK.skip ?_
        refine Ab.D.code ?_
        refine OK.seq ?_
        refine OK.reg ?_
        refine RK.c (S.move .none rfl (.tmp rfl rfl)) ?_
        refine RK.c (S.lenM si50 .none rfl (.tmp rfl rfl)) ?_
        refine RK.c (S.assign .none rfl (.tmp rfl rfl)) ?_
        refine RK.c (S.assign .none rfl (.cint rfl)) ?_
        refine RK.nil ?_
        refine Ab.D.code ?_
        refine OK.ret (Ret.r2 (.tmp rfl rfl (.c (.same rfl) rfl) rfl) (.tmp rfl rfl (.c (.same rfl) rfl) rfl) ?_)
        refine ret_p ?_
        rw [hcn, hc]
        all_goals rfl
end Go.Proofs.YtpfepjgnojfppaaGreatDoor
