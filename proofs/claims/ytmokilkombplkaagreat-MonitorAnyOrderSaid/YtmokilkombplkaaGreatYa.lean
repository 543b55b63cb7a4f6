/-
  Frames: which are valid, the record of frames, by both texts.
-/
import Derived.Test.YtmokilkombplkaaGreatSh
import Derived.Test.YtmokilkombplkaaGreatFx
import Derived.Test.YtmokilkombplkaaGreatWp
namespace Go.Proofs.YtmokilkombplkaaGreat
open Go.Ab

def frameE (p : Plan) (f : Frame) : Int := if ¬ (0 ≤ f.tick ∧ f.tick ≤ p.ticks - 1) then 2 else valuesErr p f.values
theorem frameE_eq (p : Plan) (f : Frame) : firstE [unlessE (decide (0 ≤ f.tick ∧ f.tick ≤ p.ticks - 1)) 2, valuesErr p f.values] = frameE p f := by
  rw [firstE2, frameE]
  by_cases h : 0 ≤ f.tick ∧ f.tick ≤ p.ticks - 1
  · rw [unlessE_of h, if_neg (by simp), if_neg (by simpa using h)]
  · rw [unlessE_not h, if_pos (by decide), if_pos h]
theorem frameE_0 {p : Plan} {f : Frame} (h : frameE p f = 0) : (0 ≤ f.tick ∧ f.tick ≤ p.ticks - 1) ∧ f.values.length = p.channels.length := by
  unfold frameE at h
  split at h
  · cases h
  · rename_i h1
    refine ⟨Decidable.not_not.1 h1, ?_⟩
    unfold valuesErr at h
    split at h
    · cases h
    · omega
def rowAt (rows : List Row) (f : Frame) : Row := rows.getD f.tick.toNat ⟨false, []⟩
def stepErr (p : Plan) (rows : List Row) (f : Frame) : Int :=
  if frameE p f ≠ 0 then frameE p f else if (rowAt rows f).known = true then unlessE (decide ((rowAt rows f).values = f.values)) 13 else 0
def stepRows (p : Plan) (rows : List Row) (f : Frame) : List Row :=
  if frameE p f ≠ 0 then rows else if (rowAt rows f).known = true then rows else rows.set f.tick.toNat ⟨true, f.values⟩
theorem stepRows_len (p : Plan) (rows : List Row) (f : Frame) : (stepRows p rows f).length = rows.length := by
  unfold stepRows
  split
  · rfl
  · split
    · rfl
    · rw [List.length_set]
def rowsAt (p : Plan) (l : List Frame) (i : Nat) : List Row := (l.take i).foldl (stepRows p) (List.replicate p.ticks.toNat ⟨false, []⟩)
theorem rowsAt_0 (p : Plan) (l : List Frame) : rowsAt p l 0 = List.replicate p.ticks.toNat ⟨false, []⟩ := rfl
theorem rowsAt_succ (p : Plan) {l : List Frame} {i : Nat} (h : i < l.length) : rowsAt p l (i + 1) = stepRows p (rowsAt p l i) l[i] := by
  unfold rowsAt
  rw [← take_snoc h, List.foldl_append]
  rfl
theorem rowsAt_len (p : Plan) (l : List Frame) : ∀ i, i ≤ l.length → (rowsAt p l i).length = p.ticks.toNat
  | 0, _ => by rw [rowsAt_0, List.length_replicate]
  | i + 1, h => by rw [rowsAt_succ p (by omega), stepRows_len, rowsAt_len p l i (by omega)]
def gRec (p : Plan) (l : List Frame) (i : Nat) (f : Frame) : Int := stepErr p (rowsAt p l i) f
def hRec (p : Plan) (l : List Frame) (i : Nat) (f : Frame) : Int :=
  if frameE p f ≠ 0 then frameE p f else if ((l.take i).any fun x => decide (x.tick = f.tick) && !decide (x.values = f.values)) = true then 13 else 0
def eachN {α : Type} (g : Nat → α → Int) : Nat → List α → Nat
  | i, [] => i
  | i, x :: l => if g i x ≠ 0 then i + 1 else eachN g (i + 1) l
theorem eachN_drop {α : Type} (g : Nat → α → Int) {l : List α} {i : Nat} (h : i < l.length) : eachN g i (l.drop i) = if g i l[i] ≠ 0 then i + 1 else eachN g (i + 1) (l.drop (i + 1)) := by
  rw [List.drop_eq_getElem_cons h, eachN]
theorem eachN_all {α : Type} (g : Nat → α → Int) : ∀ (l : List α) (i : Nat), (eachGo g i l).2 = 0 → eachN g i l = i + l.length
  | [], i, _ => rfl
  | x :: l, i, h => by
    rw [eachGo] at h
    by_cases hx : g i x ≠ 0
    · rw [if_pos hx] at h; exact absurd h hx
    · rw [if_neg hx] at h
      rw [eachN, if_neg hx, eachN_all g l (i + 1) h, List.length_cons]
      omega
theorem eachN_le {α : Type} (g : Nat → α → Int) : ∀ (l : List α) (i : Nat), eachN g i l ≤ i + l.length
  | [], i => Nat.le_refl _
  | x :: l, i => by
    rw [eachN, List.length_cons]
    split
    · omega
    · have := eachN_le g l (i + 1); omega
def recErr (p : Plan) (l : List Frame) : Int := if planErr p ≠ 0 then planErr p else if 40 < l.length then 8 else (eachGo (gRec p l) 0 l).2
def recOf (p : Plan) (l : List Frame) : Record := if recErr p l = 0 then ⟨rowsAt p l l.length⟩ else ⟨[]⟩
def framesErr (p : Plan) (l : List Frame) : Int := if 40 < l.length then 8 else (eachGo (hRec p l) 0 l).2
def lastRow (l : List Frame) (t : Nat) : Row := l.foldl (fun r f => if f.tick = (t : Int) then ⟨true, f.values⟩ else r) ⟨false, []⟩
def recT (p : Plan) (l : List Frame) : Record := ⟨(List.range p.ticks.toNat).map (lastRow l)⟩
theorem lastRow_snoc {l : List Frame} {t i : Nat} (h : i < l.length) : lastRow (l.take (i + 1)) t = if l[i].tick = (t : Int) then ⟨true, l[i].values⟩ else lastRow (l.take i) t := by
  unfold lastRow
  rw [← take_snoc h, List.foldl_append]
  rfl
theorem row_cell0 {rows : List Row} : ∀ {i : Nat} (h : i < rows.length), (rows.map Row.cs).flatten[i * 2 + 0]? = some (.bool rows[i].known) := by
  induction rows with
  | nil => intro i h; simp at h
  | cons r rows ih =>
    intro i h
    cases i with
    | zero => rfl
    | succ i =>
      have := ih (i := i) (by simpa using h)
      rw [show (i + 1) * 2 + 0 = (i * 2 + 0) + 2 by omega]
      exact this
theorem row_cell1 {rows : List Row} : ∀ {i : Nat} (h : i < rows.length), (rows.map Row.cs).flatten[i * 2 + 1]? = some (ints rows[i].values) := by
  induction rows with
  | nil => intro i h; simp at h
  | cons r rows ih =>
    intro i h
    cases i with
    | zero => rfl
    | succ i =>
      have := ih (i := i) (by simpa using h)
      rw [show (i + 1) * 2 + 1 = (i * 2 + 1) + 2 by omega]
      exact this
/-- What is true of the rows if no frame before was refused. -/
def RowsOk (p : Plan) (l : List Frame) (i : Nat) : Prop := ∀ t, t < p.ticks.toNat →
  ((((rowsAt p l i).getD t ⟨false, []⟩).known = false → (rowsAt p l i).getD t ⟨false, []⟩ = ⟨false, []⟩ ∧ ∀ x ∈ l.take i, x.tick ≠ (t : Int)) ∧
   (((rowsAt p l i).getD t ⟨false, []⟩).known = true → (∃ x ∈ l.take i, x.tick = (t : Int)) ∧ ∀ x ∈ l.take i, x.tick = (t : Int) → x.values = ((rowsAt p l i).getD t ⟨false, []⟩).values))
theorem gh_eq {p : Plan} {l : List Frame} {i : Nat} (hi : i < l.length) (h : RowsOk p l i) : gRec p l i l[i] = hRec p l i l[i] := by
  unfold gRec hRec stepErr
  by_cases he : frameE p l[i] ≠ 0
  · rw [if_pos he, if_pos he]
  · rw [if_neg he, if_neg he]
    have hf := (frameE_0 (Decidable.not_not.1 he)).1
    have hto : ((l[i].tick.toNat : Nat) : Int) = l[i].tick := Int.toNat_of_nonneg hf.1
    obtain ⟨h1, h2⟩ := h l[i].tick.toNat (by omega)
    unfold rowAt
    cases hk : ((rowsAt p l i).getD l[i].tick.toNat ⟨false, []⟩).known with
    | false =>
      obtain ⟨_, h3⟩ := h1 hk
      rw [if_neg (by simp), if_neg]
      rw [List.any_eq_true]
      rintro ⟨x, hx, hq⟩
      rw [Bool.and_eq_true, decide_eq_true_eq] at hq
      exact h3 x hx (by rw [hto]; exact hq.1)
    | true =>
      obtain ⟨⟨x, hx, ht⟩, h3⟩ := h2 hk
      rw [if_pos rfl]
      rw [hto] at ht h3
      by_cases hv : ((rowsAt p l i).getD l[i].tick.toNat ⟨false, []⟩).values = l[i].values
      · rw [unlessE_of hv, if_neg]
        rw [List.any_eq_true]
        rintro ⟨y, hy, hq⟩
        rw [Bool.and_eq_true, decide_eq_true_eq, Bool.not_eq_true', decide_eq_false_iff_not] at hq
        exact hq.2 (by rw [h3 y hy hq.1, hv])
      · rw [unlessE_not hv, if_pos]
        rw [List.any_eq_true]
        refine ⟨x, hx, ?_⟩
        rw [Bool.and_eq_true, decide_eq_true_eq, Bool.not_eq_true', decide_eq_false_iff_not]
        exact ⟨ht, fun e => hv (by rw [← h3 x hx ht, e])⟩
theorem rowsOk_0 (p : Plan) (l : List Frame) : RowsOk p l 0 := by
  intro t ht
  have e : (rowsAt p l 0).getD t ⟨false, []⟩ = ⟨false, []⟩ := by rw [rowsAt_0, List.getD_eq_getElem?_getD, List.getElem?_replicate]; split <;> rfl
  rw [e]
  exact ⟨fun _ => ⟨rfl, (fun x hx => by cases hx)⟩, (fun h => by cases h)⟩
theorem rowsOk_succ {p : Plan} {l : List Frame} {i : Nat} (hi : i < l.length) (h : RowsOk p l i) (he : gRec p l i l[i] = 0) : RowsOk p l (i + 1) := by
  have hlen := rowsAt_len p l i (by omega)
  unfold gRec stepErr at he
  have hf0 : frameE p l[i] = 0 := by
    split at he
    · exact absurd he ‹_›
    · omega
  have hf := (frameE_0 hf0).1
  have hto : ((l[i].tick.toNat : Nat) : Int) = l[i].tick := Int.toNat_of_nonneg hf.1
  rw [if_neg (by omega)] at he
  intro t ht
  have hmem : ∀ x, x ∈ l.take (i + 1) ↔ x ∈ l.take i ∨ x = l[i] := fun x => by rw [← take_snoc hi, List.mem_append, List.mem_singleton]
  obtain ⟨h1, h2⟩ := h t ht
  rw [rowsAt_succ p hi]
  unfold stepRows
  rw [if_neg (by omega)]
  by_cases hk : (rowAt (rowsAt p l i) l[i]).known = true
  · rw [if_pos hk] at he ⊢
    have hv : (rowAt (rowsAt p l i) l[i]).values = l[i].values := by
      by_cases hv : (rowAt (rowsAt p l i) l[i]).values = l[i].values
      · exact hv
      · rw [unlessE_not hv] at he; cases he
    refine ⟨fun hk2 => ?_, fun hk2 => ?_⟩
    · obtain ⟨q1, q2⟩ := h1 hk2
      refine ⟨q1, fun x hx => ?_⟩
      rcases (hmem x).1 hx with hx | rfl
      · exact q2 x hx
      · intro e
        have e2 : l[i].tick.toNat = t := by omega
        unfold rowAt at hk
        rw [e2, hk2] at hk
        cases hk
    · obtain ⟨⟨x, hx, hxt⟩, q2⟩ := h2 hk2
      refine ⟨⟨x, (hmem x).2 (.inl hx), hxt⟩, fun y hy hyt => ?_⟩
      rcases (hmem y).1 hy with hy | rfl
      · exact q2 y hy hyt
      · have e2 : l[i].tick.toNat = t := by omega
        unfold rowAt at hv
        rw [e2] at hv
        exact hv.symm
  · rw [if_neg hk]
    by_cases htt : l[i].tick.toNat = t
    · have e : ((rowsAt p l i).set l[i].tick.toNat ⟨true, l[i].values⟩).getD t ⟨false, []⟩ = ⟨true, l[i].values⟩ := by
        rw [htt, List.getD_eq_getElem?_getD, List.getElem?_set_self (by omega)]
        rfl
      rw [e]
      have hkt : ((rowsAt p l i).getD t ⟨false, []⟩).known = false := by
        unfold rowAt at hk
        rw [htt] at hk
        simpa using hk
      obtain ⟨_, q2⟩ := h1 hkt
      refine ⟨(fun hk2 => by cases hk2), fun _ => ⟨⟨l[i], (hmem _).2 (.inr rfl), by omega⟩, fun y hy hyt => ?_⟩⟩
      rcases (hmem y).1 hy with hy | rfl
      · exact absurd hyt (q2 y hy)
      · rfl
    · have e : ((rowsAt p l i).set l[i].tick.toNat ⟨true, l[i].values⟩).getD t ⟨false, []⟩ = (rowsAt p l i).getD t ⟨false, []⟩ := by
        rw [List.getD_eq_getElem?_getD, List.getElem?_set_ne htt, ← List.getD_eq_getElem?_getD]
      rw [e]
      refine ⟨fun hk2 => ?_, fun hk2 => ?_⟩
      · obtain ⟨q1, q2⟩ := h1 hk2
        refine ⟨q1, fun x hx => ?_⟩
        rcases (hmem x).1 hx with hx | rfl
        · exact q2 x hx
        · omega
      · obtain ⟨⟨x, hx, hxt⟩, q2⟩ := h2 hk2
        refine ⟨⟨x, (hmem x).2 (.inl hx), hxt⟩, fun y hy hyt => ?_⟩
        rcases (hmem y).1 hy with hy | rfl
        · exact q2 y hy hyt
        · omega
theorem gh_each {p : Plan} {l : List Frame} : ∀ (n i : Nat), l.length - i = n → i ≤ l.length → RowsOk p l i →
    eachGo (gRec p l) i (l.drop i) = eachGo (hRec p l) i (l.drop i) ∧ ((eachGo (gRec p l) i (l.drop i)).2 = 0 → RowsOk p l l.length)
  | 0, i, hn, hi, h => by
    have e : i = l.length := by omega
    subst e
    rw [List.drop_length]
    exact ⟨rfl, fun _ => h⟩
  | n + 1, i, hn, hi, h => by
    have hlt : i < l.length := by omega
    rw [eachGo_drop _ hlt, eachGo_drop _ hlt, gh_eq hlt h]
    by_cases he : hRec p l i l[i] ≠ 0
    · rw [if_pos he, if_pos he]
      exact ⟨rfl, fun h0 => absurd h0 he⟩
    · rw [if_neg he, if_neg he]
      exact gh_each n (i + 1) (by omega) (by omega) (rowsOk_succ hlt h (by rw [gh_eq hlt h]; exact Decidable.not_not.1 he))
theorem recErr_eq {p : Plan} {l : List Frame} (hp : planErr p = 0) : recErr p l = framesErr p l := by
  unfold recErr framesErr
  rw [if_neg (by omega)]
  have := (gh_each (p := p) (l := l) l.length 0 rfl (Nat.zero_le _) (rowsOk_0 p l)).1
  rw [List.drop_zero] at this
  rw [this]
theorem lastRow_none {t : Nat} : ∀ (l : List Frame) (r : Row), (∀ x ∈ l, x.tick ≠ (t : Int)) → l.foldl (fun r f => if f.tick = (t : Int) then ⟨true, f.values⟩ else r) r = r
  | [], _, _ => rfl
  | x :: l, r, h => by
    rw [List.foldl_cons, if_neg (h x List.mem_cons_self)]
    exact lastRow_none l r fun y hy => h y (List.mem_cons_of_mem _ hy)
theorem lastRow_all {t : Nat} {v : List Int} : ∀ (l : List Frame) (r : Row), (∀ x ∈ l, x.tick = (t : Int) → x.values = v) → (r = ⟨true, v⟩ ∨ ∃ x ∈ l, x.tick = (t : Int)) → l.foldl (fun r f => if f.tick = (t : Int) then ⟨true, f.values⟩ else r) r = ⟨true, v⟩
  | [], r, _, h => by
    rcases h with h | ⟨x, hx, _⟩
    · exact h
    · cases hx
  | x :: l, r, h, ho => by
    rw [List.foldl_cons]
    have hl := fun y hy => h y (List.mem_cons_of_mem _ hy)
    by_cases hx : x.tick = (t : Int)
    · rw [if_pos hx]
      exact lastRow_all l _ hl (.inl (by rw [h x List.mem_cons_self hx]))
    · rw [if_neg hx]
      refine lastRow_all l r hl ?_
      rcases ho with ho | ⟨y, hy, hyt⟩
      · exact .inl ho
      · rcases List.mem_cons.1 hy with rfl | hy
        · exact absurd hyt hx
        · exact .inr ⟨y, hy, hyt⟩
/-- The record of frames that are accepted, by both texts. -/
theorem recOf_eq {p : Plan} {l : List Frame} (h : recErr p l = 0) : recOf p l = recT p l := by
  have hp : planErr p = 0 := by
    unfold recErr at h
    split at h
    · exact absurd h ‹_›
    · omega
  have hg : (eachGo (gRec p l) 0 l).2 = 0 := by
    unfold recErr at h
    rw [if_neg (by omega)] at h
    split at h
    · cases h
    · exact h
  have hok := (gh_each (p := p) (l := l) l.length 0 rfl (Nat.zero_le _) (rowsOk_0 p l)).2 (by rw [List.drop_zero]; exact hg)
  have hlen := rowsAt_len p l l.length (Nat.le_refl _)
  rw [recOf, if_pos h, recT]
  congr 1
  refine List.ext_getElem (by simp [hlen]) fun t h1 h2 => ?_
  rw [List.getElem_map, List.getElem_range]
  have ht : t < p.ticks.toNat := by omega
  obtain ⟨q1, q2⟩ := hok t ht
  rw [List.take_length] at q1 q2
  have e : (rowsAt p l l.length).getD t ⟨false, []⟩ = (rowsAt p l l.length)[t] := getD_at h1
  rw [e] at q1 q2
  cases hk : (rowsAt p l l.length)[t].known with
  | false =>
    obtain ⟨r1, r2⟩ := q1 hk
    rw [r1, lastRow, lastRow_none l _ r2]
  | true =>
    obtain ⟨r1, r2⟩ := q2 hk
    rw [lastRow, lastRow_all l _ r2 (.inr r1)]
    rw [← hk]
def shortFr (l : List Frame) : Bool := decide (l.length ≤ 42) && l.all fun x => shortT x.values
theorem shortFr_len {l : List Frame} (h : shortFr l = true) : l.length ≤ 42 ∧ ∀ x ∈ l, x.values.length ≤ 6 := by
  unfold shortFr at h
  simp only [Bool.and_eq_true, decide_eq_true_eq] at h
  refine ⟨h.1, fun x hx => ?_⟩
  have := List.all_eq_true.1 h.2 x hx
  unfold shortT at this
  simp only [decide_eq_true_eq] at this
  omega
theorem sh_frame {xs : List X} (h : Shape (.st (.cons (.int .i64) (.cons (.sl (.int .i64)) .nil))) xs) : ∃ p : Frame, xs = p.cs := by
  obtain ⟨a, b, rfl, ⟨n, rfl⟩, c, d, rfl, ⟨rows, rfl, hr⟩, rfl⟩ := h
  obtain ⟨l, rfl⟩ := rows_of (f := fun n => [X.int .i64 n]) (fun r h => by obtain ⟨s, rfl⟩ := hr r h; exact ⟨s, rfl⟩)
  exact ⟨⟨n, l⟩, rfl⟩
theorem sh_frames {x : X} (h : Shape (.sl (.st (.cons (.int .i64) (.cons (.sl (.int .i64)) .nil)))) [x]) : ∃ l : List Frame, x = .sl (l.map Frame.cs) := by
  obtain ⟨rows, h1, hr⟩ := h
  cases h1
  obtain ⟨l, rfl⟩ := rows_of (f := Frame.cs) (fun r h => sh_frame (hr r h))
  exact ⟨l, rfl⟩


end Go.Proofs.YtmokilkombplkaaGreat
