import Derived.Test.YtbnimikgjjjcaaaGreatDoorKe
namespace Go.Proofs.YtbnimikgjjjcaaaGreatDoor
open Go.Ab
theorem iter_stop {σ α : Type} {g : σ → α → σ × Bool} {s0 : σ} {d : α} {rest : List α} : ∀ {pre : List α}, (iterG g s0 pre).2 = true → (g (iterG g s0 pre).1 d).2 = false → iterG g s0 (pre ++ d :: rest) = ((g (iterG g s0 pre).1 d).1, false) := by
  intro pre
  induction pre generalizing s0 with
  | nil =>
    intro _ h2
    simp only [iterG] at h2
    simp only [List.nil_append, iterG, h2]
    simp
  | cons x pre ih =>
    intro h1 h2
    simp only [iterG] at h1 h2
    simp only [List.cons_append, iterG]
    split at h1
    · rename_i hx; simp only [hx, if_true] at h2 ⊢; exact ih h1 h2
    · cases h1
theorem iter_go {σ α : Type} {g : σ → α → σ × Bool} {s0 : σ} {d : α} {pre : List α} (h1 : (iterG g s0 pre).2 = true) (h2 : (g (iterG g s0 pre).1 d).2 = true) : iterG g s0 (pre ++ [d]) = ((g (iterG g s0 pre).1 d).1, true) := by
  rw [iterG_snoc, if_pos h1]
  exact Prod.ext rfl h2
def lotE (l : List Lot) (i : Nat) (x : Lot) : Int := firstE [unlessE (nameOk x.name && nameOk x.heat) 4, unlessE (!(l.take i).any (fun o => decide (o.name = x.name))) 5, unlessE (decide (1 ≤ x.parts ∧ x.parts ≤ 1000)) 2]
def lotsE (l : List Lot) (cap : Int) : Int := if 8 < l.length then 8 else if (eachGo (lotE l) 0 l).2 ≠ 0 then (eachGo (lotE l) 0 l).2 else unlessE (decide (1 ≤ cap ∧ cap ≤ 1000)) 2
structure LotsOk (l : List Lot) (cap : Int) : Prop where
  len : l.length ≤ 8
  parts : ∀ x ∈ l, 1 ≤ x.parts ∧ x.parts ≤ 1000
  cap : 1 ≤ cap ∧ cap ≤ 1000
theorem lots_ok {l : List Lot} {cap : Int} (h : lotsE l cap = 0) : LotsOk l cap := by
  unfold lotsE at h
  split at h
  · cases h
  · rename_i h1
    split at h
    · contradiction
    · rename_i h2
      refine ⟨by omega, fun x hx => ?_, of_decide_eq_true (un_0 (by decide) h)⟩
      obtain ⟨i, hi, rfl⟩ := List.getElem_of_mem hx
      have h3 := each_zero _ l 0 (Decidable.not_not.1 h2) i hi
      exact of_decide_eq_true (un_0 (by decide) (first3_0 h3).2.2)
def heatGo : List (List UInt8) → List Lot → List (List Lot)
  | _, [] => []
  | d, x :: r => if x.heat ∈ d then heatGo d r else ((x :: r).filter fun y => !decide (y.heat ≠ x.heat)) :: heatGo (d ++ [x.heat]) r
def heatsT (l : List Lot) : List (List Lot) := heatGo [] l
theorem heatGo_drop {d : List (List UInt8)} {l : List Lot} {i : Nat} (h : i < l.length) : heatGo d (l.drop i) = if l[i].heat ∈ d then heatGo d (l.drop (i + 1)) else ((l.drop i).filter fun y => !decide (y.heat ≠ l[i].heat)) :: heatGo (d ++ [l[i].heat]) (l.drop (i + 1)) := by
  rw [List.drop_eq_getElem_cons h, heatGo]
theorem heatGo_mem : ∀ {d : List (List UInt8)} {r : List Lot} {own : List Lot}, own ∈ heatGo d r → ∀ x ∈ own, x ∈ r
  | _, [], _, h => by simp [heatGo] at h
  | d, y :: r, own, h => by
    intro x hx
    rw [heatGo] at h
    split at h
    · exact List.mem_cons_of_mem _ (heatGo_mem h x hx)
    · rcases List.mem_cons.1 h with rfl | h
      · exact (List.mem_filter.1 hx).1
      · exact List.mem_cons_of_mem _ (heatGo_mem h x hx)
theorem heatGo_len : ∀ (d : List (List UInt8)) (r : List Lot), (heatGo d r).length ≤ r.length ∧ ∀ own ∈ heatGo d r, own.length ≤ r.length
  | _, [] => by simp [heatGo]
  | d, y :: r => by
    rw [heatGo]
    split
    · obtain ⟨h1, h2⟩ := heatGo_len d r
      exact ⟨by simp only [List.length_cons]; omega, fun own ho => by have := h2 own ho; simp only [List.length_cons]; omega⟩
    · obtain ⟨h1, h2⟩ := heatGo_len (d ++ [y.heat]) r
      refine ⟨by simp only [List.length_cons]; omega, fun own ho => ?_⟩
      rcases List.mem_cons.1 ho with rfl | ho
      · exact List.length_filter_le _ _
      · have := h2 own ho; simp only [List.length_cons]; omega
theorem heats_mem {l own : List Lot} (h : own ∈ heatsT l) : own.length ≤ l.length ∧ ∀ x ∈ own, x ∈ l := ⟨(heatGo_len [] l).2 own h, heatGo_mem h⟩
abbrev LotsCb (σ : Type) (J : σ → Mem → (Nat → Prop) → World → Prop) (g : σ → List Lot → σ × Bool) (s0 : σ) (Φ : Value → Prop) (D : List (List Lot)) : Prop :=
  ∀ v, Φ v → ∀ (i : Nat) (x : List Lot), D[i]? = some x → (iterG g s0 (D.take i)).2 = true → CbOk Tryz.prog v [.sl (x.map Lot.cs)] (.bool (g (iterG g s0 (D.take i)).1 x).2) (J (iterG g s0 (D.take i)).1) (J (g (iterG g s0 (D.take i)).1 x).1)
theorem lots_at {σ : Type} {J : σ → Mem → (Nat → Prop) → World → Prop} {g : σ → List Lot → σ × Bool} {s0 : σ} {Φ : Value → Prop} {D pre rest : List (List Lot)} {d : List Lot} (hcb : LotsCb σ J g s0 Φ D) (hD : D = pre ++ d :: rest) (hrun : (iterG g s0 pre).2 = true) :
    ∀ v, Φ v → CbOk Tryz.prog v [.sl (d.map Lot.cs)] (.bool (g (iterG g s0 pre).1 d).2) (J (iterG g s0 pre).1) (J (g (iterG g s0 pre).1 d).1) := by
  intro v hv
  have h1 : D[pre.length]? = some d := by rw [hD]; simp
  have h2 : D.take pre.length = pre := by rw [hD]; simp
  have := hcb v hv pre.length d h1 (by rw [h2]; exact hrun)
  rw [h2] at this
  exact this
theorem keep_pre {g : Lot → Bool} : ∀ {l : List Lot} {i : Nat}, (∀ j, j < i → ∀ h : j < l.length, g l[j] = false) → i ≤ l.length → (l.take i).filter (fun y => !g y) = l.take i
  | [], _, _, _ => by simp
  | _ :: _, 0, _, _ => rfl
  | x :: l, i + 1, h, hi => by
    have h0 := h 0 (by omega) (by simp)
    simp only [List.getElem_cons_zero] at h0
    rw [List.take_succ_cons, List.filter_cons, h0]
    simp only [Bool.not_false, if_true]
    rw [keep_pre (fun j hj hl => by have := h (j + 1) (by omega) (by simpa using hl); simpa using this) (by simpa using hi)]
theorem idxGo_pre {α : Type} {g : α → Bool} : ∀ {l : List α} {k : Nat}, (0 ≤ idxGo g k l → ∃ i, idxGo g k l = ((k + i : Nat) : Int) ∧ ∃ h : i < l.length, g l[i] = true ∧ ∀ j, j < i → ∀ h2 : j < l.length, g l[j] = false) ∧ (idxGo g k l < 0 → idxGo g k l = -1 ∧ ∀ x ∈ l, g x = false)
  | [], k => by simp [idxGo]
  | x :: l, k => by
    obtain ⟨h1, h2⟩ := idxGo_pre (g := g) (l := l) (k := k + 1)
    rw [idxGo]
    by_cases hx : g x = true
    · rw [if_pos hx]
      exact ⟨fun _ => ⟨0, rfl, by simp, by simpa using hx, fun j hj => by omega⟩, fun h => by omega⟩
    · rw [if_neg hx]
      have hx' : g x = false := by simpa using hx
      refine ⟨fun h => ?_, fun h => ?_⟩
      · obtain ⟨i, e, hi, e2, e3⟩ := h1 h
        refine ⟨i + 1, by rw [e]; omega, by simpa using hi, by simpa using e2, fun j hj h3 => ?_⟩
        cases j with
        | zero => simpa using hx'
        | succ j => have := e3 j (by omega) (by simpa using h3); simpa using this
      · obtain ⟨e, e2⟩ := h2 h
        refine ⟨e, fun y hy => ?_⟩
        rcases List.mem_cons.1 hy with rfl | hy
        · exact hx'
        · exact e2 y hy
theorem filt_T {g : Lot → Bool} {l : List Lot} {j : Nat} (h : j < l.length) (hg : g l[j] = false) : (l.take (j + 1)).filter (fun y => !g y) = (l.take j).filter (fun y => !g y) ++ [l[j]] := by
  rw [List.take_succ_eq_append_getElem h, List.filter_append, List.filter_cons, hg]; rfl
theorem filt_F {g : Lot → Bool} {l : List Lot} {j : Nat} (h : j < l.length) (hg : g l[j] = true) : (l.take (j + 1)).filter (fun y => !g y) = (l.take j).filter (fun y => !g y) := by
  rw [List.take_succ_eq_append_getElem h, List.filter_append, List.filter_cons, hg]; simp
theorem keepRow {k G l : List Lot} {j : Nat} (h : j < l.length) (hG0 : 0 < G.length) : ((k ++ G ++ l.drop j).map Lot.cs).set k.length l[j].cs = ((k ++ [l[j]]) ++ (G.tail ++ [l[j]]) ++ l.drop (j + 1)).map Lot.cs := by
  obtain ⟨g0, G', rfl⟩ : ∃ g0 G', G = g0 :: G' := by
    cases G with
    | nil => simp at hG0
    | cons a b => exact ⟨a, b, rfl⟩
  rw [List.drop_eq_getElem_cons h]
  simp [List.set_append_right]
theorem dropRow {k G l : List Lot} {j : Nat} (h : j < l.length) : (k ++ G ++ l.drop j).map Lot.cs = (k ++ (G ++ [l[j]]) ++ l.drop (j + 1)).map Lot.cs := by
  rw [List.drop_eq_getElem_cons h]
  simp
theorem okP_mono {U : List Nat} {x : X} (h : okP [] x = true) : okP U x = true := by cases x <;> first | exact h | (simp [okP] at h)
theorem okPs_mono {U : List Nat} {xs : List X} (h : xs.all (okP []) = true) : xs.all (okP U) = true := List.all_eq_true.2 fun x hx => okP_mono (List.all_eq_true.1 h x hx)
def dlZ : List X := [.str [], .str [], .int .i64 0]
def kept (g : Lot → Bool) (l : List Lot) (j : Nat) : List Lot := (l.take j).filter fun y => !g y
theorem keptT {g : Lot → Bool} {l : List Lot} {j : Nat} (h : j < l.length) (hg : g l[j] = false) : kept g l (j + 1) = kept g l j ++ [l[j]] := filt_T h hg
theorem keptF {g : Lot → Bool} {l : List Lot} {j : Nat} (h : j < l.length) (hg : g l[j] = true) : kept g l (j + 1) = kept g l j := filt_F h hg
theorem kept_all (g : Lot → Bool) (l : List Lot) : kept g l l.length = l.filter fun y => !g y := by rw [kept, List.take_length]
def minO (a b : Int) : Int := if b < a then b else a
def fillN (cl : List Basket) (sh : List Share) (room : Int) : List Basket × Option (List Share) × Int := if room = 0 then (cl ++ [⟨sh⟩], none, 0) else (cl, some sh, room)
def roomT (cap room : Int) : Int := if room = 0 then cap else room
def fillGo (cap : Int) (name : List UInt8) : Nat → Int → List Basket × Option (List Share) × Int → List Basket × Option (List Share) × Int
  | 0, _, q => q
  | f + 1, left, q => if left ≤ 0 then q else
    fillGo cap name f (left - minO left (roomT cap q.2.2)) (fillN q.1 (q.2.1.getD [] ++ [⟨name, minO left (roomT cap q.2.2)⟩]) (roomT cap q.2.2 - minO left (roomT cap q.2.2)))
def lotT (cap : Int) (q : List Basket × Option (List Share) × Int) (x : Lot) : List Basket × Option (List Share) × Int := fillGo cap x.name x.parts.toNat x.parts q
def optB : Option (List Share) → List Basket
  | none => []
  | some sh => [⟨sh⟩]
def roundT (cap : Int) (out : List Basket) (own : List Lot) : List Basket := (own.foldl (lotT cap) (out, none, 0)).1 ++ optB (own.foldl (lotT cap) (out, none, 0)).2.1
def basketsT (l : List Lot) (cap : Int) : List Basket := (heatsT l).foldl (roundT cap) []
def basketsE (l : List Lot) (cap : Int) : Int := if lotsE l cap ≠ 0 then lotsE l cap else if 60 < (basketsT l cap).length then 16 else 0
theorem fillN_nn {cl : List Basket} {sh : List Share} {r : Int} (h : 0 ≤ r) : 0 ≤ (fillN cl sh r).2.2 := by
  unfold fillN
  split
  · exact Int.le_refl 0
  · exact h
theorem room_min {cap left room : Int} (hc : 1 ≤ cap) (hq : 0 ≤ room) (hl : 0 < left) : 1 ≤ minO left (roomT cap room) ∧ minO left (roomT cap room) ≤ roomT cap room ∧ minO left (roomT cap room) ≤ left := by
  have hr : 1 ≤ roomT cap room := by unfold roomT; split <;> omega
  unfold minO
  split <;> omega
theorem fillGo_fuel {cap : Int} {name : List UInt8} (hc : 1 ≤ cap) : ∀ (f : Nat) (left : Int) (q : List Basket × Option (List Share) × Int), 0 ≤ q.2.2 → left ≤ (f : Int) → ∀ f' : Nat, left ≤ (f' : Int) → fillGo cap name f left q = fillGo cap name f' left q
  | 0, left, q, _, hf, f' => by
    intro _
    cases f' with
    | zero => rfl
    | succ f' => simp only [fillGo]; rw [if_pos (by omega)]
  | f + 1, left, q, hq, hf, f' => by
    intro hf'
    cases f' with
    | zero => simp only [fillGo]; rw [if_pos (by omega)]
    | succ f' =>
      simp only [fillGo]
      split
      · rfl
      · rename_i hl
        have hm := room_min hc hq (left := left) (by omega)
        exact fillGo_fuel hc f _ _ (fillN_nn (by omega)) (by omega) f' (by omega)
theorem fill_step {cap : Int} {name : List UInt8} (hc : 1 ≤ cap) {left : Int} {q : List Basket × Option (List Share) × Int} (hq : 0 ≤ q.2.2) (hl : 0 < left) :
    fillGo cap name left.toNat left q = fillGo cap name (left - minO left (roomT cap q.2.2)).toNat (left - minO left (roomT cap q.2.2)) (fillN q.1 (q.2.1.getD [] ++ [⟨name, minO left (roomT cap q.2.2)⟩]) (roomT cap q.2.2 - minO left (roomT cap q.2.2))) := by
  obtain ⟨n, hn⟩ : ∃ n, left.toNat = n + 1 := ⟨left.toNat - 1, by omega⟩
  have hm := room_min hc hq hl
  rw [hn, fillGo, if_neg (by omega)]
  exact fillGo_fuel hc _ _ _ (fillN_nn (by omega)) (by omega) _ (by omega)
theorem fillGo_len (cap : Int) (name : List UInt8) : ∀ (f : Nat) (left : Int) (q : List Basket × Option (List Share) × Int), (fillGo cap name f left q).1.length ≤ q.1.length + f
  | 0, _, q => by simp [fillGo]
  | f + 1, left, q => by
    rw [fillGo]
    split
    · omega
    · refine Nat.le_trans (fillGo_len cap name f _ _) ?_
      unfold fillN
      split
      all_goals (first | (simp; done) | (simp; omega))
theorem lots_len (cap : Int) : ∀ (own : List Lot) (q : List Basket × Option (List Share) × Int), (∀ x ∈ own, 1 ≤ x.parts ∧ x.parts ≤ 1000) → (own.foldl (lotT cap) q).1.length ≤ q.1.length + 1000 * own.length
  | [], q, _ => by simp
  | x :: own, q, h => by
    rw [List.foldl_cons]
    have h1 := lots_len cap own (lotT cap q x) fun y hy => h y (List.mem_cons_of_mem x hy)
    have h2 := fillGo_len cap x.name x.parts.toNat x.parts q
    have h3 := h x List.mem_cons_self
    have h4 : (lotT cap q x).1.length ≤ q.1.length + x.parts.toNat := h2
    simp only [List.length_cons]
    omega
theorem roundT_len (cap : Int) (out : List Basket) {own : List Lot} (h : ∀ x ∈ own, 1 ≤ x.parts ∧ x.parts ≤ 1000) (hl : own.length ≤ 8) : (roundT cap out own).length ≤ out.length + 8001 := by
  have h1 := lots_len cap own (out, none, 0) h
  have h2 : ∀ o : Option (List Share), (optB o).length ≤ 1 := fun o => by cases o <;> simp [optB]
  have h3 := h2 (own.foldl (lotT cap) (out, none, 0)).2.1
  unfold roundT
  rw [List.length_append]
  simp only at h1
  omega
theorem rounds_len (cap : Int) : ∀ (L : List (List Lot)) (out : List Basket), (∀ own ∈ L, own.length ≤ 8 ∧ ∀ x ∈ own, 1 ≤ x.parts ∧ x.parts ≤ 1000) → (L.foldl (roundT cap) out).length ≤ out.length + 8001 * L.length
  | [], out, _ => by simp
  | own :: L, out, h => by
    rw [List.foldl_cons]
    have h1 := rounds_len cap L (roundT cap out own) fun y hy => h y (List.mem_cons_of_mem own hy)
    obtain ⟨h2, h3⟩ := h own List.mem_cons_self
    have h4 := roundT_len cap out h3 h2
    simp only [List.length_cons]
    omega
theorem baskets_bd {l : List Lot} {cap : Int} (hok : LotsOk l cap) (i : Nat) : (((heatsT l).take i).foldl (roundT cap) []).length ≤ 100000 := by
  have h1 := rounds_len cap ((heatsT l).take i) [] fun own ho => by
    obtain ⟨h2, h3⟩ := heats_mem (List.mem_of_mem_take ho)
    exact ⟨by have := hok.len; omega, fun x hx => hok.parts x (h3 x hx)⟩
  have h2 := (heatGo_len [] l).1
  have h3 := hok.len
  have h4 : ((heatsT l).take i).length ≤ (heatsT l).length := List.length_take_le' ..
  have h5 : (heatsT l).length ≤ l.length := h2
  simp only [List.length_nil] at h1
  omega
def outX (cl : List Basket) : Option (List Share) → X
  | none => .arr 1 (cl.map Basket.cs)
  | some sh => .arrn 1 (cl.map Basket.cs) [.own 871 sh.length] []
def shX : Option (List Share) → X
  | none => .any
  | some sh => .arr 2 (sh.map Share.cs)
def outN (cl : List Basket) (op : Option (List Share)) : Nat := cl.length + (optB op).length
section
variable {E : Env} {U : List Nat} {s : St} {code : Code} {Q : Exit → List Nat → St → Prop}
theorem Good_le {s' : St} {a : Act} {w : World} (hg : Ab.Good E U s a w) (h : ∀ key x, Ab.look s' key = some x → Ab.look s key = some x ∨ (x = .any ∧ 1000 ≤ key)) : Ab.Good E U s' a w := by
  obtain ⟨c, hb, hh⟩ := hg
  refine ⟨c, hb, fun key x hx => ?_⟩
  rcases h key x hx with h | ⟨rfl, h⟩
  · exact hh key x h
  · unfold Holds
    rw [if_neg (by omega)]
    exact .inl rfl
theorem close_out {cl : List Basket} {op : Option (List Share)} (hl : Ab.look s 2870 = some (outX cl op)) (hl2 : Ab.look s 2871 = some (shX op)) (hk : E.fs.contains 871 = false) (h : Ab.OK E code Q U ((2870, .arr 1 ((cl ++ optB op).map Basket.cs)) :: (2871, .any) :: s)) : Ab.OK E code Q U s := by
  cases op with
  | none =>
    refine fun a w hg => h a w (Good_le hg fun key x hx => ?_)
    simp only [Ab.look] at hx
    split at hx
    · rename_i e
      have := Nat.eq_of_beq_eq_true e
      subst this
      exact .inl (hl.trans (by rw [← hx]; simp [outX, optB]))
    · split at hx
      · rename_i e
        have := Nat.eq_of_beq_eq_true e
        subst this
        exact .inr ⟨by cases hx; rfl, by omega⟩
      · exact .inl hx
  | some sh =>
    refine Ab.OK.freezeArr (rows := sh.map Share.cs) 870 0 hl rfl hl2 (by simp) rfl rfl (Ab.OK.arrClose 870 rfl rfl (rows := (cl ++ [(⟨sh⟩ : Basket)]).map Basket.cs) (by simp [Basket.cs]) (fun a w hg => h a w (Good_le hg fun key x hx => ?_))) hk
    simp only [Ab.look] at hx ⊢
    split at hx
    · rename_i e; rw [if_pos e]; exact .inl hx
    · rename_i e; rw [if_neg e, if_neg e]; exact .inl hx
theorem norm_out {cl : List Basket} {sh : List Share} {r : Int} {m : Nat} {rows : List (List X)} (hl : Ab.look s 2870 = some (.arrn 1 (cl.map Basket.cs) [.own 871 m] [])) (hl2 : Ab.look s 2871 = some (.arr 2 rows)) (hr : rows = sh.map Share.cs) (hm : m = sh.length) (hk : E.fs.contains 871 = false)
    (h : Ab.OK E code Q U ((2870, outX (fillN cl sh r).1 (fillN cl sh r).2.1) :: (2871, shX (fillN cl sh r).2.1) :: s)) : Ab.OK E code Q U s := by
  subst hr
  subst hm
  unfold fillN at h
  by_cases hz : r = 0
  · rw [if_pos hz] at h
    refine Ab.OK.freezeArr (rows := sh.map Share.cs) 870 0 hl rfl hl2 (by simp) rfl rfl (Ab.OK.arrClose 870 rfl rfl (rows := (cl ++ [(⟨sh⟩ : Basket)]).map Basket.cs) (by simp [Basket.cs]) (fun a w hg => h a w (Good_le hg fun key x hx => ?_))) hk
    simp only [Ab.look] at hx ⊢
    split at hx
    · rename_i e; rw [if_pos e]; exact .inl hx
    · rename_i e; rw [if_neg e, if_neg e]; exact .inl hx
  · rw [if_neg hz] at h
    refine fun a w hg => h a w (Good_le hg fun key x hx => ?_)
    simp only [Ab.look] at hx
    split at hx
    · rename_i e
      have := Nat.eq_of_beq_eq_true e
      subst this
      exact .inl (hl.trans hx)
    · split at hx
      · rename_i e
        have := Nat.eq_of_beq_eq_true e
        subst this
        exact .inl (hl2.trans hx)
      · exact .inl hx
theorem OK_ofLook {s' : St} (hl : ∀ key x, Ab.look s' key = some x → Ab.look s key = some x ∨ (x = .any ∧ 1000 ≤ key)) (h : Ab.OK E code Q U s') : Ab.OK E code Q U s := fun a w hg => h a w (Good_le hg hl)
end
theorem OK_any {E : Env} {U : List Nat} {s : St} {code : Code} {Q : Exit → List Nat → St → Prop} (k : Nat) (hk : 1000 ≤ k) (h : Ab.OK E code Q U ((k, .any) :: s)) : Ab.OK E code Q U s := OK_ofLook (fun key x hx => by
    simp only [Ab.look] at hx
    split at hx
    · rename_i e
      have := Nat.eq_of_beq_eq_true e
      subst this
      exact .inr ⟨by cases hx; rfl, hk⟩
    · exact .inl hx) h
theorem iter_fold {σ α : Type} (f : σ → α → σ) : ∀ (l : List α) (q0 : σ), iterG (Ab.stepG (fun (q : σ) (d : α) => (f q d, (none : Option Code)))) (q0, none) l = ((l.foldl f q0, none), true)
  | [], _ => rfl
  | x :: l, q0 => by
    have h := iter_fold f l (f q0 x)
    simp only [iterG, Ab.stepG, Option.isNone, if_true, List.foldl_cons] at h ⊢
    exact h
theorem lkBO {k n m : Nat} (h : n = m) : some (X.box [.own k n]) = some (X.box [.own k m]) := by rw [h]
def FillOk (cap : Int) (op : Option (List Share)) (room : Int) : Prop := (0 ≤ room ∧ room ≤ cap) ∧ (room = 0 → op = none) ∧ (op = none → room = 0)
theorem fillN_ok {cap : Int} {cl : List Basket} {sh : List Share} {r : Int} (h : 0 ≤ r ∧ r ≤ cap) : FillOk cap (fillN cl sh r).2.1 (fillN cl sh r).2.2 ∧ (fillN cl sh r).2.2 = r ∧ (fillN cl sh r).1.length ≤ cl.length + 1 ∧ ((fillN cl sh r).2.1.getD []).length ≤ sh.length ∧ outN (fillN cl sh r).1 (fillN cl sh r).2.1 = cl.length + 1 := by
  unfold fillN FillOk outN
  split
  · rename_i h0
    exact ⟨⟨⟨by show (0 : Int) ≤ 0; omega, by show (0 : Int) ≤ cap; omega⟩, fun _ => rfl, fun _ => rfl⟩, h0.symm, by simp, by simp, by simp [optB]⟩
  · rename_i h0
    exact ⟨⟨h, fun e => absurd e h0, fun e => by cases e⟩, rfl, by simp, by simp, by simp [optB]⟩
theorem min_bd {a b : Int} (ha : 1 ≤ a) (hb : 1 ≤ b) : 1 ≤ minO a b ∧ minO a b ≤ a ∧ minO a b ≤ b := by unfold minO; split <;> omega
theorem shp_sameLot {o x : Lot} : Ct Tryz.prog 71 [.agg o.cs, .eptr x.cs] (.bool (decide (o.name = x.name))) := by
 refine Ct.intro (rs := [.tmp 3]) Tryz.func71 rfl Tryz.ntmps71 Tryz.results71 rfl rfl rfl fun w h => ?_
 refine OK.seq (OK.reg ?_)
 refine RK.c (S.box (k := 2) rfl .none rfl (.tmp rfl rfl) rfl) ?_
 refine RK.c (S.assign .none rfl .cbool) ?_
 refine RK.nil (Ab.D.code (OK.seq (OK.reg ?_)))
 refine RK.c (S.bfield fi96_0 .none rfl (.tmp rfl rfl)) ?_
 refine RK.c (S.bload1 ti9 .none rfl (.tmp rfl rfl) rfl rfl rfl rfl) ?_
 refine RK.c (S.field fi96_0 .none rfl (.tmp rfl rfl) rfl) ?_
 refine RK.c (S.load1 ti9 .none rfl (.tmp rfl rfl) rfl) ?_
 refine RK.c (S.seql .none rfl (.tmp rfl rfl) (.tmp rfl rfl)) ?_
 refine RK.c (S.assign .none rfl (.tmp rfl rfl)) ?_
 refine RK.nil (Ab.D.code ?_)
 refine OK.ret (Ret.r1 (.tmp rfl rfl (.c (.same rfl) rfl) rfl) ?_)
 rfl
set_option maxHeartbeats 1000000 in
theorem shp_lotsErr {l : List Lot} {cap : Int} : Ct Tryz.prog 42 [.sl (l.map Lot.cs), .int .i64 cap] (.int .i64 (lotsE l cap)) := by
 refine Ct.intro (rs := [.tmp 4]) Tryz.func42 rfl Tryz.ntmps42 Tryz.results42 rfl rfl rfl fun w h => ?_
 refine OK.slLen (rows := l.map Lot.cs) (t := 0) rfl rfl fun hlen => ?_
 rw [List.length_map] at hlen
 unfold maxLen at hlen
 refine OK.seq (OK.reg ?_)
 refine RK.c (S.assign .none rfl (.cint rfl)) ?_
 refine RK.nil (Ab.D.code (OK.seq (OK.seq (OK.reg ?_))))
 refine RK.c (S.move .none rfl (.tmp rfl rfl)) ?_
 refine RK.c (S.lenM si50 .none rfl (.tmp rfl rfl)) ?_
 refine RK.c (S.gtr .none rfl (.tmp rfl rfl) (.cint rfl)) ?_
 refine RK.nil (Ab.D.code ?_)
 refine OK.condD rfl rfl (fun c11 => ?_) (fun c11 => ?_)
 ·
  refine OK.seq (OK.reg ?_)
  refine RK.c (S.assign .none rfl (.cint rfl)) ?_
  refine RK.nil (Ab.D.code ?_)
  refine OK.ret (Ret.r1 (.tmp rfl rfl (.c (.same rfl) rfl) rfl) ?_)
  rw [lotsE, if_pos (by omega)]
 ·
  refine OK.skip ?_
  refine Ab.D.code (OK.seq (OK.seq (OK.reg ?_)))
  refine RK.c (S.move .none rfl (.tmp rfl rfl)) ?_
  refine RK.c (S.lenM si50 .none rfl (.tmp rfl rfl)) ?_
  refine RK.c (S.move .none rfl (.cint rfl)) ?_
  refine RK.nil (Ab.D.code ?_)
  refine OK.block ?_
  refine OK.loop (G := Nat) [] (fun i => [(0, .sl (l.map Lot.cs)), (1, .int .i64 cap), (12, .sl (l.map Lot.cs)), (13, .int .i64 l.length), (14, .int .i64 i)]) (fun i => i ≤ l.length ∧ eachGo (lotE l) 0 l = eachGo (lotE l) i (l.drop i)) (fun i => l.length - i) 0 ⟨Nat.zero_le _, rfl⟩ ⟨rfl, rfl, rfl, rfl, rfl, trivial⟩ (fun _ => rfl) ?_
  rintro i ⟨hi, hg⟩
  refine OK.seq (OK.reg ?_)
  refine RK.c (S.lss .none rfl (.tmp rfl rfl) (.tmp rfl rfl)) ?_
  refine RK.nil (Ab.D.code ?_)
  refine OK.seq ?_
  refine OK.condD rfl rfl (fun c15 => ?_) (fun c15 => ?_)
  ·
   refine OK.skip ?_
   refine Ab.D.code ?_
   refine OK.seq ?_
   refine OK.block ?_
   refine OK.seq (OK.reg ?_)
   refine RK.c (S.move .none rfl (.tmp rfl rfl)) ?_
   refine RK.c (S.indexM si50 .none rfl (.tmp rfl rfl) (.tmp rfl rfl) rfl (by omega) rfl) ?_
   refine RK.c (S.loadN ti96 .none rfl (.tmp rfl rfl) rfl rfl) ?_
   refine RK.c (S.alloc (k := 6) ze96 rfl .none rfl) ?_
   refine RK.c (S.assign .none rfl (.tmp rfl rfl)) ?_
   refine RK.c (S.store ti96 .none (.tmp rfl rfl) (.tmp rfl rfl) rfl rfl rfl rfl rfl rfl) ?_
   refine RK.nil (Ab.D.code (OK.seq (OK.reg ?_)))
   refine RK.c (S.move .none rfl (.tmp rfl rfl)) ?_
   refine RK.c (S.move .none rfl (.tmp rfl rfl)) ?_
   refine RK.c (S.slice (hi := i) (l' := l.take i) si50 (fun _ => rfl) .none rfl (.tmp rfl rfl) (.inl ⟨rfl, rfl, rfl⟩) (.inr ⟨_, _, rfl, (.tmp rfl rfl), rfl⟩) (Nat.zero_le _) (by omega) rfl) ?_
   refine RK.c (S.makeFunc1 .none rfl (.tmp rfl rfl) rfl) ?_
   refine RK.c (S.callL (containsFunc_Lot (l := l.take i) (g := fun o => decide (o.name = l[i].name)) (caps := [.eptr l[i].cs]) (fun o _ => shp_sameLot) Tryz.call71 ⟨rfl, rfl⟩) Tryz.call70 .none rfl (.cons (.tmp rfl rfl) (.cons (.tmp rfl rfl) .nil)) (.cons (.same rfl) (.cons (.fn (.cons (.ptr rfl rfl rfl rfl) .nil)) .nil)) rfl) ?_
   refine RK.c (S.assign .none rfl (.tmp rfl rfl)) ?_
   refine RK.nil (Ab.D.code ?_)
   refine OK.seq ?_
   by_cases g27 : nameOk l[i].name = true
   ·
    have hr : (nameOk l[i].name && nameOk l[i].heat) = nameOk l[i].heat := by rw [g27]; rfl
    refine OK.regionDraw follows (.c (S.bfield fi96_0 .none rfl (.tmp rfl rfl))
     (.c (S.bload1 ti9 .none rfl (.tmp rfl rfl) rfl rfl rfl rfl)
     (.c (S.call (shp_isName) Tryz.call72 .none rfl (.cons (.tmp rfl rfl) .nil) rfl)
     (.c (S.move .none rfl (.tmp rfl rfl))
     (.c (S.bfield fi96_1 (.yes rfl rfl rfl (by first | rfl | exact decide_eq_true g27 | exact decide_eq_false g27 | (rw [decide_eq_true g27]; rfl) | (rw [decide_eq_false g27]; rfl) | simp [*])) rfl (.tmp rfl rfl))
     (.c (S.bload1 ti9 (.yes rfl rfl rfl (by first | rfl | exact decide_eq_true g27 | exact decide_eq_false g27 | (rw [decide_eq_true g27]; rfl) | (rw [decide_eq_false g27]; rfl) | simp [*])) rfl (.tmp rfl rfl) rfl rfl rfl rfl)
     (.c (S.call (shp_isName) Tryz.call72 (.yes rfl rfl rfl (by first | rfl | exact decide_eq_true g27 | exact decide_eq_false g27 | (rw [decide_eq_true g27]; rfl) | (rw [decide_eq_false g27]; rfl) | simp [*])) rfl (.cons (.tmp rfl rfl) .nil) rfl)
     (.c (S.pickT .none rfl (.tmp rfl rfl) (.tmp rfl rfl) (by first | rfl | exact decide_eq_true g27 | exact decide_eq_false g27 | (rw [decide_eq_true g27]; rfl) | (rw [decide_eq_false g27]; rfl) | simp [*]))
     (.c (S.call (shop_unless) Tryz.call40 .none rfl (.cons (.tmp rfl rfl) (.cons (.cint rfl) .nil)) rfl)
     (.c (S.move .none rfl (.tmp rfl rfl))
     (.c (S.not .none rfl (.tmp rfl rfl))
     (.c (S.call (shop_unless) Tryz.call40 .none rfl (.cons (.tmp rfl rfl) (.cons (.cint rfl) .nil)) rfl)
     (.c (S.bfield fi96_2 .none rfl (.tmp rfl rfl))
     (.c (S.bload1 ti3 .none rfl (.tmp rfl rfl) rfl rfl rfl rfl)
     (.c (S.call (shp_isParts) Tryz.call73 .none rfl (.cons (.tmp rfl rfl) .nil) rfl)
     (.c (S.call (shop_unless) Tryz.call40 .none rfl (.cons (.tmp rfl rfl) (.cons (.cint rfl) .nil)) rfl)
     (.c (S.mkSlice (k := 40) (rows := [[_], [_], [_]]) ai130 .none rfl (.cons (.tmp rfl rfl) (.cons (.tmp rfl rfl) (.cons (.tmp rfl rfl) .nil))) rfl rfl rfl rfl rfl rfl rfl)
     (.c (S.callL (shop_first (l := [_, _, _])) Tryz.call36 .none rfl (.cons (.tmp rfl rfl) .nil) (.cons (.p (.own rfl rfl) rfl) .nil) rfl)
     (.c (S.assign .none rfl (.tmp rfl rfl))
     .nil))))))))))))))))))) (by kernel_rfl) ?_
    refine Ab.D.code (OK.seq (OK.reg ?_))
    refine RK.c (S.move .none rfl (.tmp rfl rfl)) ?_
    refine RK.c (S.neq .none rfl (.tmp rfl rfl) (.cint rfl)) ?_
    refine RK.nil (Ab.D.code ?_)
    refine OK.condD rfl rfl (fun c43 => ?_) (fun c43 => ?_)
    ·
     generalize hqq : firstE _ = q at c43 ⊢
     have hje : lotE l i l[i] = q := by rw [← hqq, lotE, hr]
     refine OK.seq (OK.reg ?_)
     refine RK.c (S.move .none rfl (.tmp rfl rfl)) ?_
     refine RK.c (S.assign .none rfl (.tmp rfl rfl)) ?_
     refine RK.nil (Ab.D.code ?_)
     refine OK.ret (Ret.r1 (.tmp rfl rfl (.c (.same rfl) rfl) rfl) ?_)
     refine ret_i ?_
     have he : (eachGo (lotE l) 0 l).2 = q := by rw [hg, eachGo_drop _ (by omega), hje, if_pos c43]
     rw [lotsE, if_neg (by omega), he, if_pos c43]
    ·
     generalize hqq : firstE _ = q at c43 ⊢
     have hje : lotE l i l[i] = q := by rw [← hqq, lotE, hr]
     refine OK.skip ?_
     refine Ab.D.blk ?_
     refine Ab.D.code (OK.reg ?_)
     refine RK.c (S.add .none rfl (.tmp rfl rfl) (.cint rfl) (IntWalk.i64_in _ (by omega)) (IntWalk.i64_in _ (by omega))) ?_
     refine RK.c (S.move .none rfl (.tmp rfl rfl)) ?_
     refine RK.nil ?_
     refine Ab.D.lp ⟨i + 1, ⟨by omega, ?_⟩, (by omega), rfl, rfl, rfl, rfl, rfl, trivial⟩
     rw [hg, eachGo_drop _ (by omega), if_neg (by rw [hje]; exact c43)]
   ·
    have g27b : nameOk l[i].name = false := by simpa using g27
    have hr : (nameOk l[i].name && nameOk l[i].heat) = false := by rw [g27b]; rfl
    refine OK.regionDraw follows (.c (S.bfield fi96_0 .none rfl (.tmp rfl rfl))
     (.c (S.bload1 ti9 .none rfl (.tmp rfl rfl) rfl rfl rfl rfl)
     (.c (S.call (shp_isName) Tryz.call72 .none rfl (.cons (.tmp rfl rfl) .nil) rfl)
     (.c (S.move .none rfl (.tmp rfl rfl))
     (.c (S.skip rfl rfl rfl (by first | rfl | exact decide_eq_true g27 | exact decide_eq_false g27 | (rw [decide_eq_true g27]; rfl) | (rw [decide_eq_false g27]; rfl) | simp [*]) rfl)
     (.c (S.skip rfl rfl rfl (by first | rfl | exact decide_eq_true g27 | exact decide_eq_false g27 | (rw [decide_eq_true g27]; rfl) | (rw [decide_eq_false g27]; rfl) | simp [*]) rfl)
     (.c (S.skip rfl rfl rfl (by first | rfl | exact decide_eq_true g27 | exact decide_eq_false g27 | (rw [decide_eq_true g27]; rfl) | (rw [decide_eq_false g27]; rfl) | simp [*]) rfl)
     (.c (S.pickF .none rfl (.tmp rfl rfl) .cbool (by first | rfl | exact decide_eq_true g27 | exact decide_eq_false g27 | (rw [decide_eq_true g27]; rfl) | (rw [decide_eq_false g27]; rfl) | simp [*]))
     (.c (S.call (shop_unless) Tryz.call40 .none rfl (.cons (.tmp rfl rfl) (.cons (.cint rfl) .nil)) rfl)
     (.c (S.move .none rfl (.tmp rfl rfl))
     (.c (S.not .none rfl (.tmp rfl rfl))
     (.c (S.call (shop_unless) Tryz.call40 .none rfl (.cons (.tmp rfl rfl) (.cons (.cint rfl) .nil)) rfl)
     (.c (S.bfield fi96_2 .none rfl (.tmp rfl rfl))
     (.c (S.bload1 ti3 .none rfl (.tmp rfl rfl) rfl rfl rfl rfl)
     (.c (S.call (shp_isParts) Tryz.call73 .none rfl (.cons (.tmp rfl rfl) .nil) rfl)
     (.c (S.call (shop_unless) Tryz.call40 .none rfl (.cons (.tmp rfl rfl) (.cons (.cint rfl) .nil)) rfl)
     (.c (S.mkSlice (k := 40) (rows := [[_], [_], [_]]) ai130 .none rfl (.cons (.tmp rfl rfl) (.cons (.tmp rfl rfl) (.cons (.tmp rfl rfl) .nil))) rfl rfl rfl rfl rfl rfl rfl)
     (.c (S.callL (shop_first (l := [_, _, _])) Tryz.call36 .none rfl (.cons (.tmp rfl rfl) .nil) (.cons (.p (.own rfl rfl) rfl) .nil) rfl)
     (.c (S.assign .none rfl (.tmp rfl rfl))
     .nil))))))))))))))))))) (by kernel_rfl) ?_
    refine Ab.D.code (OK.seq (OK.reg ?_))
    refine RK.c (S.move .none rfl (.tmp rfl rfl)) ?_
    refine RK.c (S.neq .none rfl (.tmp rfl rfl) (.cint rfl)) ?_
    refine RK.nil (Ab.D.code ?_)
    refine OK.condD rfl rfl (fun c43 => ?_) (fun c43 => ?_)
    ·
     generalize hqq : firstE _ = q at c43 ⊢
     have hje : lotE l i l[i] = q := by rw [← hqq, lotE, hr]
     refine OK.seq (OK.reg ?_)
     refine RK.c (S.move .none rfl (.tmp rfl rfl)) ?_
     refine RK.c (S.assign .none rfl (.tmp rfl rfl)) ?_
     refine RK.nil (Ab.D.code ?_)
     refine OK.ret (Ret.r1 (.tmp rfl rfl (.c (.same rfl) rfl) rfl) ?_)
     refine ret_i ?_
     have he : (eachGo (lotE l) 0 l).2 = q := by rw [hg, eachGo_drop _ (by omega), hje, if_pos c43]
     rw [lotsE, if_neg (by omega), he, if_pos c43]
    ·
     generalize hqq : firstE _ = q at c43 ⊢
     have hje : lotE l i l[i] = q := by rw [← hqq, lotE, hr]
     refine OK.skip ?_
     refine Ab.D.blk ?_
     refine Ab.D.code (OK.reg ?_)
     refine RK.c (S.add .none rfl (.tmp rfl rfl) (.cint rfl) (IntWalk.i64_in _ (by omega)) (IntWalk.i64_in _ (by omega))) ?_
     refine RK.c (S.move .none rfl (.tmp rfl rfl)) ?_
     refine RK.nil ?_
     refine Ab.D.lp ⟨i + 1, ⟨by omega, ?_⟩, (by omega), rfl, rfl, rfl, rfl, rfl, trivial⟩
     rw [hg, eachGo_drop _ (by omega), if_neg (by rw [hje]; exact c43)]
  ·
   refine OK.exit rfl ?_
   refine Ab.D.code (OK.seq (OK.reg ?_))
   refine RK.c (S.move .none rfl (.tmp rfl rfl)) ?_
   refine RK.c (S.call (shp_isParts) Tryz.call73 .none rfl (.cons (.tmp rfl rfl) .nil) rfl) ?_
   refine RK.c (S.call (shop_unless) Tryz.call40 .none rfl (.cons (.tmp rfl rfl) (.cons (.cint rfl) .nil)) rfl) ?_
   refine RK.c (S.assign .none rfl (.tmp rfl rfl)) ?_
   refine RK.nil (Ab.D.code ?_)
   refine OK.ret (Ret.r1 (.tmp rfl rfl (.c (.same rfl) rfl) rfl) ?_)
   refine ret_i ?_
   have he : eachGo (lotE l) 0 l = (0, 0) := by rw [hg, show i = l.length by omega, List.drop_length]; rfl
   rw [lotsE, if_neg (by omega), he, if_neg (by simp)]
theorem shp_heats {l : List Lot} : Ct Tryz.prog 43 [.sl (l.map Lot.cs)] (.fn 74 [.eptr [.sl (l.map Lot.cs)]]) := by
 refine Ct.intro (rs := [.tmp 2]) Tryz.func43 rfl Tryz.ntmps43 Tryz.results43 rfl rfl rfl fun w h => ?_
 refine OK.seq (OK.reg ?_)
 refine RK.c (S.box (k := 1) rfl .none rfl (.tmp rfl rfl) rfl) ?_
 refine RK.c (S.assign .none rfl .craw) ?_
 refine RK.nil (Ab.D.code (OK.seq (OK.reg ?_)))
 refine RK.c (S.makeFunc1 .none rfl (.tmp rfl rfl) rfl) ?_
 refine RK.c (S.assign .none rfl (.tmp rfl rfl)) ?_
 refine RK.nil (Ab.D.code ?_)
 refine OK.ret (Ret.r1 (.tmp rfl rfl (.fn (.k (.ptr rfl rfl rfl rfl) .z) rfl) rfl) ?_)
 rfl
theorem shp_otherHeat {y x : Lot} : Ct Tryz.prog 77 [.agg y.cs, .eptr x.cs] (.bool (decide (y.heat ≠ x.heat))) := by
 refine Ct.intro (rs := [.tmp 3]) Tryz.func77 rfl Tryz.ntmps77 Tryz.results77 rfl rfl rfl fun w h => ?_
 refine OK.seq (OK.reg ?_)
 refine RK.c (S.box (k := 2) rfl .none rfl (.tmp rfl rfl) rfl) ?_
 refine RK.c (S.assign .none rfl .cbool) ?_
 refine RK.nil (Ab.D.code (OK.seq (OK.reg ?_)))
 refine RK.c (S.bfield fi96_1 .none rfl (.tmp rfl rfl)) ?_
 refine RK.c (S.bload1 ti9 .none rfl (.tmp rfl rfl) rfl rfl rfl rfl) ?_
 refine RK.c (S.field fi96_1 .none rfl (.tmp rfl rfl) rfl) ?_
 refine RK.c (S.load1 ti9 .none rfl (.tmp rfl rfl) rfl) ?_
 refine RK.c (S.sneq .none rfl (.tmp rfl rfl) (.tmp rfl rfl)) ?_
 refine RK.c (S.assign .none rfl (.tmp rfl rfl)) ?_
 refine RK.nil (Ab.D.code ?_)
 refine OK.ret (Ret.r1 (.tmp rfl rfl (.c (.same rfl) rfl) rfl) ?_)
 rfl
theorem clone_Lot {l : List Lot} (h0 : 0 < l.length) (hn : l.length ≤ 100000) : CtO Tryz.prog 76 [.sl (l.map Lot.cs)] 3 (l.map Lot.cs) := by
 refine CtO.intro Tryz.func76 rfl Tryz.ntmps76 Tryz.results76 rfl rfl rfl fun w h => ?_
 refine OK.seq (OK.reg ?_)
 refine RK.c (S.assign .none rfl .cnil) ?_
 refine RK.nil (Ab.D.code (OK.seq (OK.seq (OK.reg ?_))))
 refine RK.c (S.move .none rfl (.tmp rfl rfl)) ?_
 refine RK.c (S.eqnil Tryz.underlying50 .none rfl (.tmp rfl rfl) (by simp; omega)) ?_
 refine RK.nil (Ab.D.code ?_)
 refine OK.condF rfl rfl rfl ?_
 refine OK.skip ?_
 refine Ab.D.code (OK.seq (OK.reg ?_))
 refine RK.c (S.mkSlice (k := 5) (rows := []) ai50 .none rfl .nil rfl rfl rfl rfl rfl rfl rfl) ?_
 refine RK.c (S.move .none rfl (.tmp rfl rfl)) ?_
 refine RK.c (S.appendSl ai50 .none rfl (.tmp rfl rfl) rfl (by first | rfl | (simp; done) | (simp; omega)) (.tmp rfl rfl) (by intro q hq; obtain ⟨x, _, rfl⟩ := List.mem_map.1 hq; rfl) (List.length_map ..) (by omega) (by simp only [maxLen]; omega)) ?_
 refine RK.c (S.assign .none rfl (.tmp rfl rfl)) ?_
 refine RK.nil (Ab.D.code ?_)
 refine OK.ret (RetO.mk rfl rfl rfl (by first | rfl | (simp; done) | (simp; omega)) ?_)
 rfl
theorem deleteFunc_Lot {l : List Lot} {fid : Nat} {caps : List X} {g : Lot → Bool} (hf : ∀ x, x ∈ l → Ct Tryz.prog fid ([.agg x.cs] ++ caps) (.bool (g x))) (hcall : CallOk fid) (hc : Clean caps) (hn : l.length ≤ 100000) : CtG Tryz.prog 75 [32] [.own 32 l.length, .fn fid caps] [(2032, .arr 3 (l.map Lot.cs))] [(2032, .arr 3 ((l.filter fun y => !g y).map Lot.cs ++ List.replicate (l.length - (l.filter fun y => !g y).length) dlZ))] (.ownp 32 l.length 3 0 (l.filter fun y => !g y).length) := by
 refine CtG.introP (t := 4) Tryz.func75 rfl Tryz.ntmps75 Tryz.results75 rfl rfl rfl rfl rfl rfl rfl fun w h => ?_
 obtain ⟨hpos, hneg⟩ := idxGo_pre (g := g) (l := l) (k := 0)
 refine OK.seq (OK.reg ?_)
 refine RK.c (S.assign .none rfl .cnil) ?_
 refine RK.nil (Ab.D.code (OK.seq (OK.reg ?_)))
 refine RK.c (S.move .none rfl (.tmp rfl rfl)) ?_
 refine RK.c (S.move .none rfl (.tmp rfl rfl)) ?_
 refine RK.c (S.callL (indexFunc_Lot (l := l) hf hcall hc) Tryz.call98 .none rfl (.cons (.tmp rfl rfl) (.cons (.tmp rfl rfl) .nil)) (.cons (.p (.own rfl (by simp)) rfl) (.cons (.same (by simp [okArg, okV, okC, okP, isTup, hc.1])) .nil)) rfl) ?_
 refine RK.c (S.assign .none rfl (.tmp rfl rfl)) ?_
 refine RK.nil (Ab.D.code (OK.seq (OK.seq (OK.reg ?_))))
 refine RK.c (S.move .none rfl (.tmp rfl rfl)) ?_
 refine RK.c (S.eql .none rfl (.tmp rfl rfl) (.cint rfl)) ?_
 refine RK.nil (Ab.D.code ?_)
 refine OK.condD rfl rfl (fun c12 => ?_) (fun c12 => ?_)
 ·
  obtain ⟨_, hnone⟩ := hneg (by omega)
  have hfa : (l.filter fun y => !g y) = l := List.filter_eq_self.2 fun x hx => by rw [hnone x hx]; rfl
  refine OK.seq (OK.reg ?_)
  refine RK.c (S.move .none rfl (.tmp rfl rfl)) ?_
  refine RK.c (S.assign .none rfl (.tmp rfl rfl)) ?_
  refine RK.nil (Ab.D.code ?_)
  refine OK.ownP 4 rfl rfl rfl (by simp) ?_
  refine OK.ret ⟨.inl rfl, (by rw [hfa]; rfl), (lk_arr (by rw [hfa]; simp)), trivial⟩
 ·
  obtain ⟨i0, hi0, hil, hgi, hpre⟩ := hpos (by have := (idxGo_lt g l 0).2; omega)
  rw [Nat.zero_add] at hi0
  have hk0 : kept g l (i0 + 1) = l.take i0 := by unfold kept; rw [filt_F hil hgi]; exact keep_pre hpre (by omega)
  rw [hi0]
  refine OK.skip ?_
  refine Ab.D.code (OK.seq (OK.seq (OK.reg ?_)))
  refine RK.c (S.move .none rfl (.tmp rfl rfl)) ?_
  refine RK.c (S.add .none rfl (.tmp rfl rfl) (.cint rfl) (IntWalk.i64_in _ (by omega)) (IntWalk.i64_in _ (by omega))) ?_
  refine RK.c (S.assign .none rfl (.tmp rfl rfl)) ?_
  refine RK.nil (Ab.D.code ?_)
  refine OK.block ?_
  refine OK.loop2 [32] (fun (j : Nat) (G : List Lot) => [(0, .own 32 l.length), (1, .fn fid caps), (5, .int .i64 (kept g l j).length), (6, .int .i64 j), (2032, .arr 3 ((kept g l j ++ G ++ l.drop j).map Lot.cs))]) (fun j G => j ≤ l.length ∧ (kept g l j).length + G.length = j ∧ 0 < G.length) (fun j G => l.length - j) (i0 + 1) ([l[i0]]) ⟨by omega, by rw [hk0]; simp; omega, by simp⟩ ⟨(lk_own (by first | rfl | (simp; done) | (simp; omega))), rfl, (lkI (by rw [hk0, List.length_take]; omega)), rfl, (lk_arr (by rw [hk0, List.append_assoc, List.singleton_append, ← List.drop_eq_getElem_cons hil, List.take_append_drop])), trivial⟩ (fun _ _ => by have h := okPs_mono (U := [32]) hc.1; simp [okKey, okT, okV, okC, okP] at h ⊢; exact h) ?_
  rintro j G ⟨hj, hG, hG0⟩
  have hrl : ((kept g l j ++ G ++ l.drop j).map Lot.cs).length = l.length := by simp; omega
  refine OK.seq (OK.seq (OK.reg ?_))
  refine RK.c (S.move .none rfl (.tmp rfl rfl)) ?_
  refine RK.c (S.move .none rfl (.tmp rfl rfl)) ?_
  refine RK.c (S.lenOwn si50 .none rfl (.tmp rfl rfl) rfl hrl) ?_
  refine RK.c (S.lss .none rfl (.tmp rfl rfl) (.tmp rfl rfl)) ?_
  refine RK.nil (Ab.D.code ?_)
  refine OK.condD rfl rfl (fun c19 => ?_) (fun c19 => ?_)
  ·
   have hkl : (kept g l j).length + G.length = j := hG
   have hrow : ((kept g l j ++ G ++ l.drop j).map Lot.cs)[j]? = some l[j].cs := by
    rw [List.getElem?_map, List.getElem?_append_right (by simp; omega), List.length_append, hkl, Nat.sub_self, List.getElem?_drop, Nat.add_zero, List.getElem?_eq_getElem (by omega)]
    rfl
   refine OK.skip ?_
   refine Ab.D.code ?_
   refine OK.seq ?_
   refine OK.block ?_
   refine OK.seq (OK.reg ?_)
   refine RK.c (S.move .none rfl (.tmp rfl rfl)) ?_
   refine RK.c (S.move .none rfl (.tmp rfl rfl)) ?_
   refine RK.c (S.oindex (i := j) si50 .none rfl (.tmp rfl rfl) rfl hrl (.tmp rfl rfl) rfl (by omega)) ?_
   refine RK.c (S.oload (i := j) ti96 .none rfl (.tmp rfl rfl) rfl hrl rfl hrow) ?_
   refine RK.c (S.alloc (k := 7) ze96 rfl .none rfl) ?_
   refine RK.c (S.store ti96 .none (.tmp rfl rfl) (.tmp rfl rfl) rfl rfl rfl rfl rfl rfl) ?_
   refine RK.nil (Ab.D.code (OK.seq (OK.reg ?_)))
   refine RK.c (S.move .none rfl (.tmp rfl rfl)) ?_
   refine RK.c (S.bloadN ti96 .none rfl (.tmp rfl rfl) rfl rfl rfl rfl) ?_
   refine RK.c (S.callv (hf _ (List.getElem_mem _)) hcall .none rfl (.tmp rfl rfl) (.cons (.tmp rfl rfl) .nil) rfl hc.1 hc.2) ?_
   refine RK.c (S.not .none rfl (.tmp rfl rfl)) ?_
   refine RK.nil (Ab.D.code ?_)
   refine OK.cond rfl rfl (fun c29 => ?_) (fun c29 => ?_)
   ·
    have hgj : g l[j] = false := by simpa using c29
    refine OK.seq (OK.reg ?_)
    refine RK.c (S.move .none rfl (.tmp rfl rfl)) ?_
    refine RK.c (S.move .none rfl (.tmp rfl rfl)) ?_
    refine RK.c (S.bloadN ti96 .none rfl (.tmp rfl rfl) rfl rfl rfl rfl) ?_
    refine RK.c (S.oindex (i := (kept g l j).length) si50 .none rfl (.tmp rfl rfl) rfl hrl (.tmp rfl rfl) rfl (by omega)) ?_
    refine RK.c (S.ostore (i := (kept g l j).length) ti96 .none (.tmp rfl rfl) (.tmp rfl rfl) rfl hrl rfl (by omega) rfl rfl rfl rfl) ?_
    refine RK.nil (Ab.D.code (OK.reg ?_))
    refine RK.c (S.move .none rfl (.tmp rfl rfl)) ?_
    refine RK.c (S.add .none rfl (.tmp rfl rfl) (.cint rfl) (IntWalk.i64_in _ (by omega)) (IntWalk.i64_in _ (by omega))) ?_
    refine RK.c (S.assign .none rfl (.tmp rfl rfl)) ?_
    refine RK.nil ?_
    refine Ab.D.blk ?_
    refine Ab.D.code (OK.reg ?_)
    refine RK.c (S.move .none rfl (.tmp rfl rfl)) ?_
    refine RK.c (S.add .none rfl (.tmp rfl rfl) (.cint rfl) (IntWalk.i64_in _ (by omega)) (IntWalk.i64_in _ (by omega))) ?_
    refine RK.c (S.assign .none rfl (.tmp rfl rfl)) ?_
    refine RK.nil ?_
    refine Ab.D.lp ⟨j + 1, G.tail ++ [l[j]], ⟨by omega, ?_, by simp⟩, (by omega), (lk_own (by first | rfl | (simp; done) | (simp; omega))), rfl, (lkI (by first | (rw [keptT (by omega) hgj]; simp; done) | rw [keptF (by omega) hgj])), rfl, (lk_arr (by first | (rw [keptF (by omega) hgj]; exact dropRow (by omega)) | (rw [keptT (by omega) hgj]; exact keepRow (by omega) hG0))), trivial⟩
    rw [keptT (by omega) hgj]
    simp only [List.length_append, List.length_tail, List.length_singleton]
    omega
   ·
    have hgj : g l[j] = true := by simpa using c29
    refine OK.skip ?_
    refine Ab.D.blk ?_
    refine Ab.D.code (OK.reg ?_)
    refine RK.c (S.move .none rfl (.tmp rfl rfl)) ?_
    refine RK.c (S.add .none rfl (.tmp rfl rfl) (.cint rfl) (IntWalk.i64_in _ (by omega)) (IntWalk.i64_in _ (by omega))) ?_
    refine RK.c (S.assign .none rfl (.tmp rfl rfl)) ?_
    refine RK.nil ?_
    refine Ab.D.lp ⟨j + 1, G ++ [l[j]], ⟨by omega, ?_, by simp⟩, (by omega), (lk_own (by first | rfl | (simp; done) | (simp; omega))), rfl, (lkI (by first | (rw [keptT (by omega) hgj]; simp; done) | rw [keptF (by omega) hgj])), rfl, (lk_arr (by first | (rw [keptF (by omega) hgj]; exact dropRow (by omega)) | (rw [keptT (by omega) hgj]; exact keepRow (by omega) hG0))), trivial⟩
    rw [keptF (by omega) hgj]
    simp only [List.length_append, List.length_singleton]
    omega
  ·
   have hkl : (kept g l j).length + G.length = j := hG
   have hjl : j = l.length := by omega
   subst hjl
   rw [List.drop_length, List.append_nil]
   have hka := kept_all g l
   refine OK.exit rfl ?_
   refine Ab.D.code (OK.seq (OK.reg ?_))
   refine RK.c (S.move .none rfl (.tmp rfl rfl)) ?_
   refine RK.c (S.move .none rfl (.tmp rfl rfl)) ?_
   refine RK.c (S.sliceOwn (lo := (kept g l l.length).length) si50 .none rfl (.tmp rfl rfl) rfl (by simp; omega) (.inr ⟨_, _, rfl, (.tmp rfl rfl), rfl⟩) (.inl ⟨rfl, rfl, rfl⟩) (by omega) (by omega)) ?_
   refine RK.c (S.clearOwn (rows' := (kept g l l.length).map Lot.cs ++ List.replicate (l.length - (kept g l l.length).length) dlZ) ai50 zr96 .none (.tmp rfl rfl) rfl (by simp; omega) (by omega) (by rw [List.map_append, List.take_left' (by simp)]; rfl)) ?_
   refine RK.nil (Ab.D.code (OK.seq (OK.reg ?_)))
   refine RK.c (S.move .none rfl (.tmp rfl rfl)) ?_
   refine RK.c (S.move .none rfl (.tmp rfl rfl)) ?_
   refine RK.c (S.sliceOwn (hi := (kept g l l.length).length) si50 .none rfl (.tmp rfl rfl) rfl (by simp; omega) (.inl ⟨rfl, rfl, rfl⟩) (.inr ⟨_, _, rfl, (.tmp rfl rfl), rfl⟩) (by omega) (by omega)) ?_
   refine RK.c (S.assign .none rfl (.tmp rfl rfl)) ?_
   refine RK.nil (Ab.D.code ?_)
   refine OK.ret ⟨.inl rfl, (by rw [← hka]; rfl), (lk_arr (by rw [hka])), trivial⟩
set_option maxHeartbeats 1000000 in
theorem shp_heats1 {l : List Lot} (hn : l.length ≤ 100000) {σ : Type} (J : σ → Mem → (Nat → Prop) → World → Prop) (g : σ → List Lot → σ × Bool) (s0 : σ) (Φ : Value → Prop) (hst : ∀ s, Stable (J s)) (hcb : LotsCb σ J g s0 Φ (heatsT l)) : CtG Tryz.prog 74 [] [.cb Φ, .eptr [.sl (l.map Lot.cs)]] [(3000, .res (J s0))] [(3000, .res (J (iterG g s0 (heatsT l)).1))] (.tup []) := by
 refine CtG.intro (rs := []) Tryz.func74 rfl Tryz.ntmps74 Tryz.results74 rfl rfl rfl rfl fun w h => ?_
 refine OK.seq (OK.reg ?_)
 refine RK.c (S.makeMapO (k := 9) rfl .none rfl) ?_
 refine RK.c (S.assign .none rfl (.tmp rfl rfl)) ?_
 refine RK.nil (Ab.D.code (OK.seq (OK.reg ?_)))
 refine RK.c (S.load1 ti50 .none rfl (.tmp rfl rfl) rfl) ?_
 refine RK.c (S.lenM si50 .none rfl (.tmp rfl rfl)) ?_
 refine RK.c (S.move .none rfl (.cint rfl)) ?_
 refine RK.nil (Ab.D.code ?_)
 refine OK.block ?_
 refine OK.loop3 [9] (fun (i : Nat) (pre : List (List Lot)) (ks : List (List UInt8)) => [(0, .cb Φ), (1, .eptr [.sl (l.map Lot.cs)]), (3, .mptr 9), (1009, .omap (setX ks)), (10, .sl (l.map Lot.cs)), (11, .int .i64 l.length), (12, .int .i64 i), (3000, .res (J (iterG g s0 pre).1))]) (fun i pre ks => i ≤ l.length ∧ (iterG g s0 pre).2 = true ∧ heatsT l = pre ++ heatGo ks (l.drop i)) (fun i pre ks => l.length - i) (0) ([]) ([]) ⟨Nat.zero_le _, rfl, rfl⟩ ⟨rfl, rfl, rfl, rfl, rfl, rfl, rfl, rfl, trivial⟩ (fun _ _ _ => rfl) ?_
 rintro i pre ks ⟨hi, hrun, hD⟩
 refine OK.seq (OK.reg ?_)
 refine RK.c (S.lss .none rfl (.tmp rfl rfl) (.tmp rfl rfl)) ?_
 refine RK.nil (Ab.D.code ?_)
 refine OK.seq ?_
 refine OK.condD rfl rfl (fun c13 => ?_) (fun c13 => ?_)
 ·
  refine OK.skip ?_
  refine Ab.D.code ?_
  refine OK.seq ?_
  refine OK.block ?_
  refine OK.seq (OK.reg ?_)
  refine RK.c (S.move .none rfl (.tmp rfl rfl)) ?_
  refine RK.c (S.indexM si50 .none rfl (.tmp rfl rfl) (.tmp rfl rfl) rfl (by omega) rfl) ?_
  refine RK.c (S.loadN ti96 .none rfl (.tmp rfl rfl) rfl rfl) ?_
  refine RK.c (S.alloc (k := 5) ze96 rfl .none rfl) ?_
  refine RK.c (S.assign .none rfl (.tmp rfl rfl)) ?_
  refine RK.c (S.store ti96 .none (.tmp rfl rfl) (.tmp rfl rfl) rfl rfl rfl rfl rfl rfl) ?_
  refine RK.nil (Ab.D.code ?_)
  refine OK.seq ?_
  refine OK.seq ?_
  refine OK.freezeP [9] [(0, .cb Φ), (1, .eptr [.sl (l.map Lot.cs)]), (3, .mptr 9), (1009, .omap (setX ks)), (4, .int .i64 i), (10, .sl (l.map Lot.cs)), (11, .int .i64 l.length), (12, .int .i64 i), (3000, .res (J (iterG g s0 pre).1))] 5 rfl rfl rfl rfl rfl rfl ⟨rfl, rfl, rfl, rfl, rfl, rfl, rfl, rfl, rfl, trivial⟩ rfl ?_
  refine OK.reg ?_
  refine RK.c (S.move .none rfl (.tmp rfl rfl)) ?_
  refine RK.c (S.field fi96_1 .none rfl (.tmp rfl rfl) rfl) ?_
  refine RK.c (S.load1 ti9 .none rfl (.tmp rfl rfl) rfl) ?_
  refine RK.c (S.lookupSet (keys := ks) Tryz.underlying137 Tryz.underlying9 Tryz.zeroValue138 (fun _ => ⟨[], rfl, trivial⟩) .none rfl (.tmp rfl rfl) (.tmp rfl rfl) rfl rfl) ?_
  refine RK.c (S.move .none rfl (.tmp rfl rfl)) ?_
  refine RK.c (S.extract .none rfl (.tmp rfl rfl) rfl rfl) ?_
  refine RK.c (S.extract .none rfl (.tmp rfl rfl) rfl rfl) ?_
  refine RK.c (S.alloc (k := 6) ze138 rfl .none rfl) ?_
  refine RK.c (S.store ti138 .none (.tmp rfl rfl) (.tmp rfl rfl) rfl rfl rfl rfl rfl rfl) ?_
  refine RK.c (S.assign .none rfl (.tmp rfl rfl)) ?_
  refine RK.nil (Ab.D.code (OK.seq (OK.reg ?_)))
  refine RK.c (S.move .none rfl (.tmp rfl rfl)) ?_
  refine RK.nil (Ab.D.code ?_)
  refine OK.cond rfl rfl (fun c24 => ?_) (fun c24 => ?_)
  ·
   have hin : l[i].heat ∈ ks := of_decide_eq_true c24
   refine OK.exit rfl ?_
   refine Ab.D.code (OK.reg ?_)
   refine RK.c (S.add .none rfl (.tmp rfl rfl) (.cint rfl) (IntWalk.i64_in _ (by omega)) (IntWalk.i64_in _ (by omega))) ?_
   refine RK.c (S.move .none rfl (.tmp rfl rfl)) ?_
   refine RK.nil ?_
   refine Ab.D.lp ⟨i + 1, pre, ks, ⟨by omega, by first | exact hrun | rw [iter_go hrun hcont], by first | (rw [hD, heatGo_drop (by omega), if_pos hin]; done) | (rw [hD2]; simp)⟩, (by omega), rfl, rfl, rfl, rfl, rfl, rfl, rfl, (lk_res (by first | rfl | rw [iter_go hrun hcont])), trivial⟩
  ·
   have hnin : l[i].heat ∉ ks := of_decide_eq_false (by simpa using c24)
   have hD2 : heatsT l = pre ++ ((l.drop i).filter fun y => !decide (y.heat ≠ l[i].heat)) :: heatGo (ks ++ [l[i].heat]) (l.drop (i + 1)) := by rw [hD, heatGo_drop (by omega), if_neg hnin]
   refine OK.skip ?_
   refine Ab.D.code (OK.seq (OK.reg ?_))
   refine RK.c (S.move .none rfl (.tmp rfl rfl)) ?_
   refine RK.c (S.field fi96_1 .none rfl (.tmp rfl rfl) rfl) ?_
   refine RK.c (S.load1 ti9 .none rfl (.tmp rfl rfl) rfl) ?_
   refine RK.c (S.build bu138 rfl .none rfl .nil rfl rfl) ?_
   refine RK.c (S.setAdd (keys := ks) Tryz.underlying137 Tryz.underlying9 .none (.tmp rfl rfl) (.tmp rfl rfl) (.tmp rfl rfl) rfl rfl hnin) ?_
   refine RK.nil (Ab.D.code (OK.seq (OK.reg ?_)))
   refine RK.c (S.load1 ti50 .none rfl (.tmp rfl rfl) rfl) ?_
   refine RK.c (S.move .none rfl (.tmp rfl rfl)) ?_
   refine RK.c (S.slice (lo := i) (l' := l.drop i) si50 (fun _ => rfl) .none rfl (.tmp rfl rfl) (.inr ⟨_, _, rfl, (.tmp rfl rfl), rfl⟩) (.inl ⟨rfl, rfl, rfl⟩) (by omega) (by omega) (by simp)) ?_
   refine RK.c (S.callO (k := 32) (clone_Lot (l := l.drop i) (by simp; omega) (by simp; omega)) Tryz.call76 .none rfl (.cons (.tmp rfl rfl) .nil) rfl (List.length_map ..)) ?_
   refine RK.c (S.makeFunc1 .none rfl (.tmp rfl rfl) rfl) ?_
   refine RK.c (S.callG (fs := [32]) (t := [(2032, .arr 3 ((l.drop i).map Lot.cs))]) (t' := [(2032, .arr 3 (((l.drop i).filter fun y => !decide (y.heat ≠ l[i].heat)).map Lot.cs ++ List.replicate ((l.drop i).length - ((l.drop i).filter fun y => !decide (y.heat ≠ l[i].heat)).length) dlZ))]) (deleteFunc_Lot (l := l.drop i) (g := fun y => decide (y.heat ≠ l[i].heat)) (caps := [.eptr l[i].cs]) (fun x _ => shp_otherHeat) Tryz.call77 ⟨rfl, rfl⟩ (by simp; omega)) Tryz.call75 .none rfl (.cons (.tmp rfl rfl) (.cons (.tmp rfl rfl) .nil)) (by kernel_rfl) ⟨rfl, trivial⟩ (by kernel_rfl) (by kernel_rfl) (by kernel_rfl) (by kernel_rfl) rfl (by kernel_rfl)) ?_
   refine RK.c (S.assign .none rfl (.tmp rfl rfl)) ?_
   refine RK.nil (Ab.D.code ?_)
   refine OK.seq ?_
   refine OK.freezePre 8 (rows' := ((l.drop i).filter fun y => !decide (y.heat ≠ l[i].heat)).map Lot.cs) rfl rfl rfl (by simp; have := List.length_filter_le (fun y => !decide (y.heat ≠ l[i].heat)) (l.drop i); simp at this; omega) (List.length_filter_le _ _) (by rw [← List.length_map (f := Lot.cs)]; exact List.take_left) ?_
   refine OK.reg ?_
   refine RK.c (S.move .none rfl (.tmp rfl rfl)) ?_
   refine RK.c (S.move .none rfl (.tmp rfl rfl)) ?_
   refine RK.c (S.callcb (J1 := J (g (iterG g s0 pre).1 ((l.drop i).filter fun y => !decide (y.heat ≠ l[i].heat))).1) (lots_at hcb hD2 hrun) (hst _) .none rfl (.tmp rfl rfl) (.cons (.tmp rfl rfl) .nil) rfl rfl) ?_
   refine RK.c (S.not .none rfl (.tmp rfl rfl)) ?_
   refine RK.nil (Ab.D.code ?_)
   refine OK.cond rfl rfl (fun c38 => ?_) (fun c38 => ?_)
   ·
    have hstop : (g (iterG g s0 pre).1 ((l.drop i).filter fun y => !decide (y.heat ≠ l[i].heat))).2 = false := by simpa using c38
    exact OK.ret ⟨⟨.inl rfl, [], trivial, rfl⟩, lk_res (by rw [hD2, iter_stop hrun hstop]), trivial⟩
   ·
    have hcont : (g (iterG g s0 pre).1 ((l.drop i).filter fun y => !decide (y.heat ≠ l[i].heat))).2 = true := by simpa using c38
    refine OK.skip ?_
    refine Ab.D.blk ?_
    refine Ab.D.code (OK.reg ?_)
    refine RK.c (S.add .none rfl (.tmp rfl rfl) (.cint rfl) (IntWalk.i64_in _ (by omega)) (IntWalk.i64_in _ (by omega))) ?_
    refine RK.c (S.move .none rfl (.tmp rfl rfl)) ?_
    refine RK.nil ?_
    refine Ab.D.lp ⟨i + 1, pre ++ [(l.drop i).filter fun y => !decide (y.heat ≠ l[i].heat)], ks ++ [l[i].heat], ⟨by omega, by first | exact hrun | rw [iter_go hrun hcont], by first | (rw [hD, heatGo_drop (by omega), if_pos hin]; done) | (rw [hD2]; simp)⟩, (by omega), rfl, rfl, rfl, rfl, rfl, rfl, rfl, (lk_res (by first | rfl | rw [iter_go hrun hcont])), trivial⟩
 ·
  refine OK.exit rfl ?_
  exact ⟨⟨.inr rfl, [], trivial, rfl⟩, lk_res (by rw [hD, show i = l.length by omega, List.drop_length, heatGo, List.append_nil]), trivial⟩
set_option maxHeartbeats 4000000 in
theorem shp_BasketsOf {l : List Lot} {cap : Int} : Ct Tryz.prog 19 [.sl (l.map Lot.cs), .int .i64 cap] (.tup [.sl ((if basketsE l cap = 0 then basketsT l cap else []).map Basket.cs), .int .i64 (basketsE l cap)]) := by
  refine Ct.intro (rs := [.tmp 4, .tmp 5]) Tryz.func19 rfl Tryz.ntmps19 Tryz.results19 rfl rfl rfl fun w h => ?_
  refine OK.seq (OK.reg ?_)
  refine RK.c (S.box (k := 3) rfl .none rfl (.tmp rfl rfl) rfl) ?_
  refine RK.c (S.assign .none rfl .cnil) ?_
  refine RK.c (S.assign .none rfl (.cint rfl)) ?_
  refine RK.nil (Ab.D.code (OK.seq (OK.seq (OK.reg ?_))))
  refine RK.c (S.move .none rfl (.tmp rfl rfl)) ?_
  refine RK.c (S.bload1 ti3 .none rfl (.tmp rfl rfl) rfl rfl rfl rfl) ?_
  refine RK.c (S.call (shp_lotsErr) Tryz.call42 .none rfl (.cons (.tmp rfl rfl) (.cons (.tmp rfl rfl) .nil)) rfl) ?_
  refine RK.c (S.assign .none rfl (.tmp rfl rfl)) ?_
  refine RK.nil (Ab.D.code (OK.seq (OK.reg ?_)))
  refine RK.c (S.move .none rfl (.tmp rfl rfl)) ?_
  refine RK.c (S.neq .none rfl (.tmp rfl rfl) (.cint rfl)) ?_
  refine RK.nil (Ab.D.code ?_)
  refine OK.condD rfl rfl (fun c19 => ?_) (fun c19 => ?_)
  ·
    refine OK.seq (OK.reg ?_)
    refine RK.c (S.move .none rfl (.tmp rfl rfl)) ?_
    refine RK.c (S.assign .none rfl .cnil) ?_
    refine RK.c (S.assign .none rfl (.tmp rfl rfl)) ?_
    refine RK.nil (Ab.D.code ?_)
    refine OK.ret (Ret.r2 (.tmp rfl rfl (.c (.same rfl) rfl) rfl) (.tmp rfl rfl (.c (.same rfl) rfl) rfl) ?_)
    rw [if_neg (show ¬ basketsE l cap = 0 by unfold basketsE; rw [if_pos c19]; exact c19), show basketsE l cap = lotsE l cap from if_pos c19]
    rfl
  ·
    have he : lotsE l cap = 0 := Decidable.not_not.1 c19
    have hok := lots_ok he
    have hcap := hok.cap
    have hlen8 := hok.len
    refine OK.skip ?_
    refine Ab.D.code (OK.seq (OK.reg ?_))
    refine RK.c (S.alloc (k := 7) ze47 rfl .none rfl) ?_
    refine RK.nil (Ab.D.code (OK.seq (OK.seq (OK.reg ?_))))
    refine RK.c (S.move .none rfl (.tmp rfl rfl)) ?_
    refine RK.c (S.call (shp_heats) Tryz.call43 .none rfl (.cons (.tmp rfl rfl) .nil) rfl) ?_
    refine RK.nil (Ab.D.code ?_)
    refine OK.block ?_
    refine OK.boxOwn 7 0 870 1 rfl rfl rfl rfl rfl ?_
    refine OK.rangeFunc (ps := [23]) (encs := (fun own => [.sl (own.map Lot.cs)])) (L := (heatsT l)) [3, 7, 870] [(3, .ptr 3 0), (7, .ptr 7 0)] (fun q => [(1003, .box [.int .i64 cap]), (1007, .box [.own 870 q.length]), (2870, .arr 1 (q.map Basket.cs))]) ([] : List Basket) (fun q own => (roundT cap q own, none)) ((fun J g s0 Φ hst hcb => shp_heats1 (by omega) J g s0 Φ hst hcb)) Tryz.call74 (.inl rfl) (.tmp rfl rfl) rfl rfl ⟨rfl, rfl, rfl, rfl, (lk_arr (by first | rfl | (simp; done) | (simp; omega))), trivial⟩ (fun _ => rfl) (fun _ => rfl) (fun _ => rfl) (fun _ => rfl) (fun _ => rfl) (by decide) rfl ?_ ?_ ?_
    · rintro i x q hx hq lr c0 w0 p1 p2 hR1 hR2
      rw [iter_fold] at hq
      have hq2 : ((heatsT l).take i).foldl (roundT cap) [] = q := by simpa using hq
      have hxm : x ∈ heatsT l := List.mem_of_getElem? hx
      obtain ⟨hxl, hxs⟩ := heats_mem hxm
      have hxp : ∀ y ∈ x, 1 ≤ y.parts ∧ y.parts ≤ 1000 := fun y hy => hok.parts y (hxs y hy)
      have hql : q.length ≤ 100000 := by rw [← hq2]; exact baskets_bd hok i
      refine OK.reg ?_
      refine RK.c (S.assign .none rfl (.tmp rfl rfl)) ?_
      refine RK.nil ?_
      refine ⟨rfl, ?_⟩
      refine OK.block ?_
      refine OK.seq (OK.reg ?_)
      refine RK.c (S.assign .none rfl (.cint rfl)) ?_
      refine RK.nil (Ab.D.code (OK.seq (OK.reg ?_)))
      refine RK.c (S.move .none rfl (.tmp rfl rfl)) ?_
      refine RK.c (S.lenM si50 .none rfl (.tmp rfl rfl)) ?_
      refine RK.c (S.move .none rfl (.cint rfl)) ?_
      refine RK.nil (Ab.D.code ?_)
      refine OK.block ?_
      refine OK_any 2871 (by decide) ?_
      refine OK.loop4 [3, 7, 870, 871] (fun (n : Nat) (cl : List Basket) (op : Option (List Share)) (room : Int) => [(3, .ptr 3 0), (1003, .box [.int .i64 cap]), (7, .ptr 7 0), (24, .sl (x.map Lot.cs)), (25, .int .i64 x.length), (26, .int .i64 n), (1007, .box [.own 870 (outN cl op)]), (2870, outX cl op), (2871, shX op), (9, .int .i64 room)]) (fun n cl op room => n ≤ x.length ∧ (x.take n).foldl (lotT cap) (q, none, 0) = (cl, op, room) ∧ FillOk cap op room ∧ cl.length ≤ q.length + 1000 * n ∧ (op.getD []).length ≤ 1000 * n) (fun n cl op room => x.length - n) (0) (q) (none) (0) ⟨Nat.zero_le _, rfl, ⟨⟨by omega, by omega⟩, fun _ => rfl, fun _ => rfl⟩, by omega, by simp⟩ ⟨rfl, rfl, rfl, rfl, rfl, rfl, rfl, rfl, rfl, rfl, trivial⟩ (fun _ _ op _ => by cases op <;> rfl) ?_
      rintro n cl op room ⟨hn, hfold, hf, hcl, hsh⟩
      refine OK.seq (OK.reg ?_)
      refine RK.c (S.lss .none rfl (.tmp rfl rfl) (.tmp rfl rfl)) ?_
      refine RK.nil (Ab.D.code ?_)
      refine OK.seq ?_
      refine OK.condD rfl rfl (fun c27 => ?_) (fun c27 => ?_)
      ·
        have hxn := hxp x[n] (List.getElem_mem (by omega))
        refine OK.skip ?_
        refine Ab.D.code ?_
        refine OK.seq ?_
        refine OK.block ?_
        refine OK.seq (OK.reg ?_)
        refine RK.c (S.indexM (n := n) si50 .none rfl (.tmp rfl rfl) (.tmp rfl rfl) rfl (by omega) rfl) ?_
        refine RK.c (S.loadN ti96 .none rfl (.tmp rfl rfl) rfl rfl) ?_
        refine RK.c (S.alloc (k := 11) ze96 rfl .none rfl) ?_
        refine RK.c (S.store ti96 .none (.tmp rfl rfl) (.tmp rfl rfl) rfl rfl rfl rfl rfl rfl) ?_
        refine RK.nil (Ab.D.code (OK.seq (OK.reg ?_)))
        refine RK.c (S.bfield fi96_2 .none rfl (.tmp rfl rfl)) ?_
        refine RK.c (S.bload1 ti3 .none rfl (.tmp rfl rfl) rfl rfl rfl rfl) ?_
        refine RK.c (S.assign .none rfl (.tmp rfl rfl)) ?_
        refine RK.nil (Ab.D.code ?_)
        refine OK.block ?_
        refine OK.loop4 [3, 7, 11, 870, 871] (fun (left : Int) (cl2 : List Basket) (op2 : Option (List Share)) (room2 : Int) => [(3, .ptr 3 0), (1003, .box [.int .i64 cap]), (7, .ptr 7 0), (24, .sl (x.map Lot.cs)), (25, .int .i64 x.length), (26, .int .i64 n), (1007, .box [.own 870 (outN cl2 op2)]), (2870, outX cl2 op2), (2871, shX op2), (9, .int .i64 room2), (11, .ptr 11 0), (1011, .box x[n].cs), (12, .int .i64 left)]) (fun left cl2 op2 room2 => fillGo cap x[n].name left.toNat left (cl2, op2, room2) = lotT cap (cl, op, room) x[n] ∧ (0 ≤ left ∧ left ≤ 1000) ∧ FillOk cap op2 room2 ∧ (cl2.length : Int) + left ≤ q.length + 1000 * n + 1000 ∧ ((op2.getD []).length : Int) + left ≤ 1000 * n + 1000) (fun left cl2 op2 room2 => left.toNat) (x[n].parts) (cl) (op) (room) ⟨rfl, by omega, hf, by omega, by omega⟩ ⟨rfl, rfl, rfl, rfl, rfl, rfl, rfl, rfl, rfl, rfl, rfl, rfl, rfl, trivial⟩ (fun _ _ op _ => by cases op <;> rfl) ?_
        rintro left cl2 op2 room2 ⟨hgo, hleft, hf2, hcl2, hsh2⟩
        rcases op2 with _ | sh
        ·
          have hr0 : room2 = 0 := hf2.2.2 rfl
          refine OK.weak (U' := [3, 7, 11, 870]) (s' := [(3, .ptr 3 0), (1003, .box [.int .i64 cap]), (7, .ptr 7 0), (24, .sl (x.map Lot.cs)), (25, .int .i64 x.length), (26, .int .i64 n), (1007, .box [.own 870 cl2.length]), (2870, .arr 1 (cl2.map Basket.cs)), (9, .int .i64 room2), (11, .ptr 11 0), (1011, .box x[n].cs), (12, .int .i64 left)]) ?_ ⟨rfl, rfl, rfl, rfl, rfl, rfl, rfl, rfl, rfl, rfl, rfl, rfl, trivial⟩ rfl
          refine OK.seq (OK.seq (OK.reg ?_))
          refine RK.c (S.move .none rfl (.tmp rfl rfl)) ?_
          refine RK.c (S.gtr .none rfl (.tmp rfl rfl) (.cint rfl)) ?_
          refine RK.nil (Ab.D.code ?_)
          refine OK.condD rfl rfl (fun c33 => ?_) (fun c33 => ?_)
          ·
            obtain ⟨hr1, hr2, hr3⟩ := hf2
            refine OK.skip ?_
            refine Ab.D.code ?_
            refine OK.block ?_
            refine OK.seq (OK.seq (OK.reg ?_))
            refine RK.c (S.move .none rfl (.tmp rfl rfl)) ?_
            refine RK.c (S.eql .none rfl (.tmp rfl rfl) (.cint rfl)) ?_
            refine RK.nil (Ab.D.code ?_)
            refine OK.condD rfl rfl (fun c35 => ?_) (fun c35 => ?_)
            ·
              refine OK.regionDraw follows (.c (S.bload1 ti47 .none rfl (.tmp rfl rfl) rfl rfl rfl rfl)
                (.c (S.build bu99 rfl .none rfl .nil rfl rfl)
                (.c (S.mkSliceN (k := 38) (mid := [_]) ai47 .none rfl (.cons (.tmp rfl rfl) .nil) rfl rfl rfl rfl rfl)
                (.c (S.appendNN ai47 .none rfl (.tmp rfl rfl) rfl (by first | rfl | (simp; done) | (simp; omega)) (.tmp rfl rfl) rfl rfl (by omega) (by simp only [maxLen]; omega))
                (.c (S.bload1 ti3 .none rfl (.tmp rfl rfl) rfl rfl rfl rfl)
                (.c (S.store ti47 .none (.tmp rfl rfl) (.tmp rfl rfl) rfl rfl rfl rfl rfl rfl)
                (.c (S.assign .none rfl (.tmp rfl rfl))
                .nil))))))) (by kernel_rfl) ?_
              refine Ab.D.code ?_
              refine OK.seq ?_
              refine OK.arrOwn 870 0 871 2 rfl rfl rfl rfl ?_
              refine OK.reg ?_
              refine RK.c (S.move .none rfl (.tmp rfl rfl)) ?_
              refine RK.c (S.move .none rfl (.tmp rfl rfl)) ?_
              refine RK.c (S.min2 .none rfl (.tmp rfl rfl) (.tmp rfl rfl)) ?_
              refine RK.c (S.assign .none rfl (.tmp rfl rfl)) ?_
              refine RK.nil (Ab.D.code (OK.seq (OK.reg ?_)))
              refine RK.c (S.bload1 ti47 .none rfl (.tmp rfl rfl) rfl rfl rfl rfl) ?_
              refine RK.c (S.bload1 ti47 .none rfl (.tmp rfl rfl) rfl rfl rfl rfl) ?_
              refine RK.c (S.lenN si47 .none rfl (.tmp rfl rfl) rfl (by simp)) ?_
              refine RK.c (S.sub .none rfl (.tmp rfl rfl) (.cint rfl) (IntWalk.i64_in _ (by omega)) (IntWalk.i64_in _ (by omega))) ?_
              refine RK.c (S.oindexN (i := cl2.length) si47 .none rfl (.tmp rfl rfl) rfl (by simp) (.tmp rfl rfl) (by omega) (by omega)) ?_
              refine RK.c (S.assign .none rfl (.tmp rfl rfl)) ?_
              refine RK.nil (Ab.D.code ?_)
              refine OK.seq ?_
              refine OK.regionDraw follows (.c (S.move .none rfl (.tmp rfl rfl))
                (.c (S.move .none rfl (.tmp rfl rfl))
                (.c (S.nilCheckN .none rfl (.tmp rfl rfl) rfl (by simp))
                (.c (S.ofieldN fi99_0 .none rfl (.tmp rfl rfl) rfl (by simp))
                (.c (S.oloadN1 (i := 0) ti97 .none rfl (.tmp rfl rfl) rfl (by simp) (by simp) rfl rfl)
                (.c (S.bfield fi96_0 .none rfl (.tmp rfl rfl))
                (.c (S.bload1 ti9 .none rfl (.tmp rfl rfl) rfl rfl rfl rfl)
                (.c (S.move .none rfl (.tmp rfl rfl))
                (.c (S.build bu102 rfl .none rfl (.cons (.tmp rfl rfl) (.cons (.tmp rfl rfl) .nil)) rfl rfl)
                (.c (S.mkSlice (k := 58) (rows := [[_, _]]) ai97 .none rfl (.cons (.tmp rfl rfl) .nil) rfl rfl rfl rfl rfl rfl rfl)
                (.c (S.append ai97 .none rfl (.tmp rfl rfl) rfl (by first | rfl | (simp; done) | (simp; omega)) (.tmp rfl rfl) rfl rfl (by omega) (by simp only [maxLen]; omega))
                (.c (S.nilCheckN .none rfl (.tmp rfl rfl) rfl (by simp))
                (.c (S.ofieldN fi99_0 .none rfl (.tmp rfl rfl) rfl (by simp))
                (.c (S.ostoreN1 (i := 0) ti97 rfl .none (.tmp rfl rfl) (.tmp rfl rfl) rfl (by simp) (by simp) (by first | decide | simp) rfl rfl)
                .nil)))))))))))))) (by kernel_rfl) ?_
              refine Ab.D.code ?_
              have hmb := min_bd (a := left) (b := cap) (by omega) (by omega)
              refine norm_out (cl := cl2) (sh := [⟨x[n].name, minO left cap⟩]) (r := cap - minO left cap) rfl rfl (by simp [Share.cs, minO]) (by simp) rfl ?_
              obtain ⟨hn1, hn2, hn3, hn4, hn5⟩ := fillN_ok (cap := cap) (cl := cl2) (sh := [(⟨x[n].name, minO left cap⟩ : Share)]) (r := cap - minO left cap) (by omega)
              refine OK.reg ?_
              refine RK.c (S.move .none rfl (.tmp rfl rfl)) ?_
              refine RK.c (S.move .none rfl (.tmp rfl rfl)) ?_
              refine RK.c (S.sub .none rfl (.tmp rfl rfl) (.tmp rfl rfl) (IntWalk.i64_in _ (by omega)) (IntWalk.i64_in _ (by omega))) ?_
              refine RK.c (S.move .none rfl (.tmp rfl rfl)) ?_
              refine RK.c (S.move .none rfl (.tmp rfl rfl)) ?_
              refine RK.c (S.sub .none rfl (.tmp rfl rfl) (.tmp rfl rfl) (IntWalk.i64_in _ (by omega)) (IntWalk.i64_in _ (by omega))) ?_
              refine RK.c (S.assign .none rfl (.tmp rfl rfl)) ?_
              refine RK.c (S.assign .none rfl (.tmp rfl rfl)) ?_
              refine RK.nil ?_
              refine Ab.D.blk ?_
              refine Ab.D.lp ⟨left - minO left cap, (fillN cl2 [(⟨x[n].name, minO left cap⟩ : Share)] (cap - minO left cap)).1, (fillN cl2 [(⟨x[n].name, minO left cap⟩ : Share)] (cap - minO left cap)).2.1, (fillN cl2 [(⟨x[n].name, minO left cap⟩ : Share)] (cap - minO left cap)).2.2, ⟨?_, by omega, hn1, by omega, by simp only [List.length_append, List.length_singleton] at hn4; omega⟩, (by omega), rfl, rfl, rfl, rfl, rfl, rfl, (lkBO hn5.symm), rfl, rfl, (lkI (by rw [hn2]; rfl)), rfl, rfl, rfl, trivial⟩
              refine Eq.trans ?_ hgo
              rw [fill_step (left := left) (q := (cl2, _, room2)) hcap.1 hr1.1 (by omega)]
              first | (rw [show roomT cap room2 = cap from if_pos hr0]; rfl) | (rw [show roomT cap room2 = room2 from if_neg c35]; rfl)
            ·
              exact absurd hr0 c35
          ·
            refine OK_any 2871 (by decide) ?_
            refine OK.exit rfl ?_
            refine Ab.D.blk ?_
            refine Ab.D.code (OK.reg ?_)
            refine RK.c (S.add .none rfl (.tmp rfl rfl) (.cint rfl) (IntWalk.i64_in _ (by omega)) (IntWalk.i64_in _ (by omega))) ?_
            refine RK.c (S.move .none rfl (.tmp rfl rfl)) ?_
            refine RK.nil ?_
            refine Ab.D.lp ⟨n + 1, cl2, none, room2, ⟨by omega, ?_, hf2, by omega, by first | omega | (simp only [Option.getD_some]; omega)⟩, (by omega), rfl, rfl, rfl, rfl, rfl, rfl, rfl, rfl, rfl, rfl, trivial⟩
            rw [List.take_succ_eq_append_getElem (by omega), List.foldl_append, hfold, List.foldl_cons, List.foldl_nil, ← hgo, show left = 0 by omega]
            rfl
        ·
          simp only [Option.getD_some] at hsh2
          refine OK.weak (U' := [3, 7, 11, 870, 871]) (s' := [(3, .ptr 3 0), (1003, .box [.int .i64 cap]), (7, .ptr 7 0), (24, .sl (x.map Lot.cs)), (25, .int .i64 x.length), (26, .int .i64 n), (1007, .box [.own 870 (cl2.length + 1)]), (2870, .arrn 1 (cl2.map Basket.cs) [.own 871 sh.length] []), (2871, .arr 2 (sh.map Share.cs)), (9, .int .i64 room2), (11, .ptr 11 0), (1011, .box x[n].cs), (12, .int .i64 left)]) ?_ ⟨rfl, rfl, rfl, rfl, rfl, rfl, rfl, rfl, rfl, rfl, rfl, rfl, rfl, trivial⟩ rfl
          refine OK.seq (OK.seq (OK.reg ?_))
          refine RK.c (S.move .none rfl (.tmp rfl rfl)) ?_
          refine RK.c (S.gtr .none rfl (.tmp rfl rfl) (.cint rfl)) ?_
          refine RK.nil (Ab.D.code ?_)
          refine OK.condD rfl rfl (fun c33 => ?_) (fun c33 => ?_)
          ·
            obtain ⟨hr1, hr2, hr3⟩ := hf2
            refine OK.skip ?_
            refine Ab.D.code ?_
            refine OK.block ?_
            refine OK.seq (OK.seq (OK.reg ?_))
            refine RK.c (S.move .none rfl (.tmp rfl rfl)) ?_
            refine RK.c (S.eql .none rfl (.tmp rfl rfl) (.cint rfl)) ?_
            refine RK.nil (Ab.D.code ?_)
            refine OK.condD rfl rfl (fun c35 => ?_) (fun c35 => ?_)
            ·
              exact absurd (hr2 c35) (by simp)
            ·
              refine OK.skip ?_
              refine Ab.D.code (OK.seq (OK.reg ?_))
              refine RK.c (S.move .none rfl (.tmp rfl rfl)) ?_
              refine RK.c (S.move .none rfl (.tmp rfl rfl)) ?_
              refine RK.c (S.min2 .none rfl (.tmp rfl rfl) (.tmp rfl rfl)) ?_
              refine RK.c (S.assign .none rfl (.tmp rfl rfl)) ?_
              refine RK.nil (Ab.D.code (OK.seq (OK.reg ?_)))
              refine RK.c (S.bload1 ti47 .none rfl (.tmp rfl rfl) rfl rfl rfl rfl) ?_
              refine RK.c (S.bload1 ti47 .none rfl (.tmp rfl rfl) rfl rfl rfl rfl) ?_
              refine RK.c (S.lenN si47 .none rfl (.tmp rfl rfl) rfl (by simp)) ?_
              refine RK.c (S.sub .none rfl (.tmp rfl rfl) (.cint rfl) (IntWalk.i64_in _ (by omega)) (IntWalk.i64_in _ (by omega))) ?_
              refine RK.c (S.oindexN (i := cl2.length) si47 .none rfl (.tmp rfl rfl) rfl (by simp) (.tmp rfl rfl) (by omega) (by omega)) ?_
              refine RK.c (S.assign .none rfl (.tmp rfl rfl)) ?_
              refine RK.nil (Ab.D.code ?_)
              refine OK.seq ?_
              refine OK.regionDraw follows (.c (S.move .none rfl (.tmp rfl rfl))
                (.c (S.move .none rfl (.tmp rfl rfl))
                (.c (S.nilCheckN .none rfl (.tmp rfl rfl) rfl (by simp))
                (.c (S.ofieldN fi99_0 .none rfl (.tmp rfl rfl) rfl (by simp))
                (.c (S.oloadN1 (i := 0) ti97 .none rfl (.tmp rfl rfl) rfl (by simp) (by simp) rfl rfl)
                (.c (S.bfield fi96_0 .none rfl (.tmp rfl rfl))
                (.c (S.bload1 ti9 .none rfl (.tmp rfl rfl) rfl rfl rfl rfl)
                (.c (S.move .none rfl (.tmp rfl rfl))
                (.c (S.build bu102 rfl .none rfl (.cons (.tmp rfl rfl) (.cons (.tmp rfl rfl) .nil)) rfl rfl)
                (.c (S.mkSlice (k := 58) (rows := [[_, _]]) ai97 .none rfl (.cons (.tmp rfl rfl) .nil) rfl rfl rfl rfl rfl rfl rfl)
                (.c (S.append ai97 .none rfl (.tmp rfl rfl) rfl (by first | rfl | (simp; done) | (simp; omega)) (.tmp rfl rfl) rfl rfl (by omega) (by simp only [maxLen]; omega))
                (.c (S.nilCheckN .none rfl (.tmp rfl rfl) rfl (by simp))
                (.c (S.ofieldN fi99_0 .none rfl (.tmp rfl rfl) rfl (by simp))
                (.c (S.ostoreN1 (i := 0) ti97 rfl .none (.tmp rfl rfl) (.tmp rfl rfl) rfl (by simp) (by simp) (by first | decide | simp) rfl rfl)
                .nil)))))))))))))) (by kernel_rfl) ?_
              refine Ab.D.code ?_
              have hmb := min_bd (a := left) (b := room2) (by omega) (by omega)
              refine norm_out (cl := cl2) (sh := sh ++ [⟨x[n].name, minO left room2⟩]) (r := room2 - minO left room2) rfl rfl (by simp [Share.cs, minO]) (by simp) rfl ?_
              obtain ⟨hn1, hn2, hn3, hn4, hn5⟩ := fillN_ok (cap := cap) (cl := cl2) (sh := sh ++ [(⟨x[n].name, minO left room2⟩ : Share)]) (r := room2 - minO left room2) (by omega)
              refine OK.reg ?_
              refine RK.c (S.move .none rfl (.tmp rfl rfl)) ?_
              refine RK.c (S.move .none rfl (.tmp rfl rfl)) ?_
              refine RK.c (S.sub .none rfl (.tmp rfl rfl) (.tmp rfl rfl) (IntWalk.i64_in _ (by omega)) (IntWalk.i64_in _ (by omega))) ?_
              refine RK.c (S.move .none rfl (.tmp rfl rfl)) ?_
              refine RK.c (S.move .none rfl (.tmp rfl rfl)) ?_
              refine RK.c (S.sub .none rfl (.tmp rfl rfl) (.tmp rfl rfl) (IntWalk.i64_in _ (by omega)) (IntWalk.i64_in _ (by omega))) ?_
              refine RK.c (S.assign .none rfl (.tmp rfl rfl)) ?_
              refine RK.c (S.assign .none rfl (.tmp rfl rfl)) ?_
              refine RK.nil ?_
              refine Ab.D.blk ?_
              refine Ab.D.lp ⟨left - minO left room2, (fillN cl2 (sh ++ [(⟨x[n].name, minO left room2⟩ : Share)]) (room2 - minO left room2)).1, (fillN cl2 (sh ++ [(⟨x[n].name, minO left room2⟩ : Share)]) (room2 - minO left room2)).2.1, (fillN cl2 (sh ++ [(⟨x[n].name, minO left room2⟩ : Share)]) (room2 - minO left room2)).2.2, ⟨?_, by omega, hn1, by omega, by simp only [List.length_append, List.length_singleton] at hn4; omega⟩, (by omega), rfl, rfl, rfl, rfl, rfl, rfl, (lkBO hn5.symm), rfl, rfl, (lkI (by rw [hn2]; rfl)), rfl, rfl, rfl, trivial⟩
              refine Eq.trans ?_ hgo
              rw [fill_step (left := left) (q := (cl2, _, room2)) hcap.1 hr1.1 (by omega)]
              first | (rw [show roomT cap room2 = cap from if_pos hr0]; rfl) | (rw [show roomT cap room2 = room2 from if_neg c35]; rfl)
          ·
            refine OK.exit rfl ?_
            refine Ab.D.blk ?_
            refine Ab.D.code (OK.reg ?_)
            refine RK.c (S.add .none rfl (.tmp rfl rfl) (.cint rfl) (IntWalk.i64_in _ (by omega)) (IntWalk.i64_in _ (by omega))) ?_
            refine RK.c (S.move .none rfl (.tmp rfl rfl)) ?_
            refine RK.nil ?_
            refine Ab.D.lp ⟨n + 1, cl2, (some sh), room2, ⟨by omega, ?_, hf2, by omega, by first | omega | (simp only [Option.getD_some]; omega)⟩, (by omega), rfl, rfl, rfl, rfl, rfl, rfl, rfl, rfl, rfl, rfl, trivial⟩
            rw [List.take_succ_eq_append_getElem (by omega), List.foldl_append, hfold, List.foldl_cons, List.foldl_nil, ← hgo, show left = 0 by omega]
            rfl
      ·
        refine close_out rfl rfl rfl ?_
        refine OK.exit rfl ?_
        refine Ab.D.blk ?_
        have hrt : roundT cap q x = cl ++ optB op := by unfold roundT; rw [show x.foldl (lotT cap) (q, none, 0) = (cl, op, room) by rw [← hfold, show n = x.length by omega, List.take_length]]
        exact ⟨rfl, rfl, lkBO (by rw [hrt]; simp [outN]), lk_arr (by rw [hrt]), trivial⟩
    · rintro q hq
      rw [iter_fold] at hq
      have hq2 : (heatsT l).foldl (roundT cap) [] = q := by simpa using hq
      have hq3 : basketsT l cap = q := hq2
      subst hq3
      have hql : (basketsT l cap).length ≤ 100000 := by have := baskets_bd hok (heatsT l).length; rwa [List.take_length] at this
      refine Ab.D.blk ?_
      refine Ab.D.code (OK.seq (OK.seq (OK.reg ?_)))
      refine RK.c (S.bload1 ti47 .none rfl (.tmp rfl rfl) rfl rfl rfl rfl) ?_
      refine RK.c (S.lenOwn si47 .none rfl (.tmp rfl rfl) rfl (by simp)) ?_
      refine RK.c (S.gtr .none rfl (.tmp rfl rfl) (.cint rfl)) ?_
      refine RK.nil (Ab.D.code ?_)
      refine OK.condD rfl rfl (fun c71 => ?_) (fun c71 => ?_)
      ·
        refine OK.seq (OK.reg ?_)
        refine RK.c (S.assign .none rfl .cnil) ?_
        refine RK.c (S.assign .none rfl (.cint rfl)) ?_
        refine RK.nil (Ab.D.code ?_)
        refine OK.ret (Ret.r2 (.tmp rfl rfl (.c (.same rfl) rfl) rfl) (.tmp rfl rfl (.c (.same rfl) rfl) rfl) ?_)
        have hbe : basketsE l cap = 16 := by unfold basketsE; rw [if_neg c19, if_pos (by omega)]
        rw [hbe]
        rfl
      ·
        refine OK.skip ?_
        refine Ab.D.code (OK.seq (OK.reg ?_))
        refine RK.c (S.bload1 ti47 .none rfl (.tmp rfl rfl) rfl rfl rfl rfl) ?_
        refine RK.c (S.assign .none rfl (.tmp rfl rfl)) ?_
        refine RK.c (S.assign .none rfl (.cint rfl)) ?_
        refine RK.nil (Ab.D.code ?_)
        refine OK.ret (Ret.r2 (.tmp rfl rfl (.c (.own rfl rfl (by first | rfl | (simp; done) | (simp; omega))) rfl) rfl) (.tmp rfl rfl (.c (.same rfl) rfl) rfl) ?_)
        have hbe : basketsE l cap = 0 := by unfold basketsE; rw [if_neg c19, if_neg (by omega)]
        rw [hbe]
        rfl
    · rintro q cd hq
      rw [iter_fold] at hq
      cases hq
end Go.Proofs.YtbnimikgjjjcaaaGreatDoor
