import Derived.Test.YtpmglnphhhlbdaaGreatDoorFx
import Derived.Test.YtpmglnphhhlbdaaGreatDoorSh
import Derived.Test.YtpmglnphhhlbdaaGreatDoorWm
import Derived.Test.YtpmglnphhhlbdaaGreatDoorWz0
namespace Go.Proofs.YtpmglnphhhlbdaaGreatDoor
open Go.Ab
theorem ref_CopyRecord {r : Record} (hlen : r.rows.length ≤ 100000) (hvl : ∀ (i : Nat) (h : i < r.rows.length), r.rows[i].values.length ≤ 100000) : Ct Tryz.prog 39 [.agg r.cs] (.agg r.cs) := by
 refine Ct.intro (rs := [.cell 2 75]) Tryz.func39 rfl Tryz.ntmps39 Tryz.results39 rfl rfl rfl fun w h => ?_
 refine OK.seq (OK.reg ?_)
 refine RK.c (S.box (k := 1) rfl .none rfl (.tmp rfl rfl) rfl) ?_
 refine RK.c (S.alloc (k := 2) ze75 rfl .none rfl) ?_
 refine RK.nil (Ab.D.code (OK.seq (OK.reg ?_)))
 refine RK.c (S.alloc (k := 3) ze75 rfl .none rfl) ?_
 refine RK.nil (Ab.D.code (OK.seq (OK.seq (OK.reg ?_))))
 refine RK.c (S.assign .none rfl (.cint rfl)) ?_
 refine RK.nil (Ab.D.code ?_)
 refine OK.block ?_
 refine OK.boxOwn 3 0 890 2 rfl rfl rfl rfl rfl ?_
 refine OK.loop (G := Nat) [1, 2, 3, 890] (fun i => [(1, .ptr 1 0), (1001, .box r.cs), (2, .ptr 2 0), (1002, .box [.nils]), (3, .ptr 3 0), (1003, .box [.own 890 i]), (2890, .arr 2 ((r.rows.take i).map Row.cs)), (4, .int .i64 i)]) (fun i => i ≤ r.rows.length) (fun i => r.rows.length - i) 0 (Nat.zero_le _) ⟨rfl, rfl, rfl, rfl, rfl, rfl, (lk_arr (by first | rfl | (simp; done) | (simp; omega))), rfl, trivial⟩ (fun _ => rfl) ?_
 rintro i hi
 refine OK.seq (OK.seq (OK.reg ?_))
 refine RK.c (S.move .none rfl (.tmp rfl rfl)) ?_
 refine RK.c (S.bfield fi75_0 .none rfl (.tmp rfl rfl)) ?_
 refine RK.c (S.bload1 ti73 .none rfl (.tmp rfl rfl) rfl rfl rfl rfl) ?_
 refine RK.c (S.lenM si73 .none rfl (.tmp rfl rfl)) ?_
 refine RK.c (S.lss .none rfl (.tmp rfl rfl) (.tmp rfl rfl)) ?_
 refine RK.nil (Ab.D.code ?_)
 refine OK.condD rfl rfl (fun c9 => ?_) (fun c9 => ?_)
 ·
  have hvli := hvl i (by omega)
  refine OK.skip ?_
  refine Ab.D.code ?_
  refine OK.seq ?_
  refine OK.block ?_
  refine OK.regionDraw follows (.c (S.bfield fi75_0 .none rfl (.tmp rfl rfl))
   (.c (S.bload1 ti73 .none rfl (.tmp rfl rfl) rfl rfl rfl rfl)
   (.c (S.bfield fi75_0 .none rfl (.tmp rfl rfl))
   (.c (S.bload1 ti73 .none rfl (.tmp rfl rfl) rfl rfl rfl rfl)
   (.c (S.move .none rfl (.tmp rfl rfl))
   (.c (S.indexM si73 .none rfl (.tmp rfl rfl) (.tmp rfl rfl) rfl (by omega) rfl)
   (.c (S.field fi162_0 .none rfl (.tmp rfl rfl) rfl)
   (.c (S.load1 ti4 .none rfl (.tmp rfl rfl) rfl)
   (.c (S.bfield fi75_0 .none rfl (.tmp rfl rfl))
   (.c (S.bload1 ti73 .none rfl (.tmp rfl rfl) rfl rfl rfl rfl)
   (.c (S.move .none rfl (.tmp rfl rfl))
   (.c (S.indexM si73 .none rfl (.tmp rfl rfl) (.tmp rfl rfl) rfl (by omega) rfl)
   (.c (S.field fi162_1 .none rfl (.tmp rfl rfl) rfl)
   (.c (S.load1 ti25 .none rfl (.tmp rfl rfl) rfl)
   (.c (S.call (base_CopyInts (l := r.rows[i].values) hvli) Tryz.call56 .none rfl (.cons (.tmp rfl rfl) .nil) rfl)
   (.c (S.build bu162 rfl .none rfl (.cons (.tmp rfl rfl) (.cons (.tmp rfl rfl) .nil)) rfl rfl)
   (.c (S.mkSlice (k := 28) (rows := [[_, _]]) ai73 .none rfl (.cons (.tmp rfl rfl) .nil) rfl rfl rfl rfl rfl rfl rfl)
   (.c (S.append ai73 .none rfl (.tmp rfl rfl) rfl (by simp; omega) (.tmp rfl rfl) rfl (by first | rfl | (simp; done) | (simp; omega)) (by omega) (by simp only [maxLen]; omega))
   (.c (S.bfield fi75_0 .none rfl (.tmp rfl rfl))
   (.c (S.store ti73 .none (.tmp rfl rfl) (.tmp rfl rfl) rfl rfl rfl rfl rfl rfl)
   .nil)))))))))))))))))))) (by kernel_rfl) ?_
  refine Ab.D.blk ?_
  refine Ab.D.code (OK.reg ?_)
  refine RK.c (S.move .none rfl (.tmp rfl rfl)) ?_
  refine RK.c (S.add .none rfl (.tmp rfl rfl) (.cint rfl) (IntWalk.i64_in _ (by omega)) (IntWalk.i64_in _ (by omega))) ?_
  refine RK.c (S.assign .none rfl (.tmp rfl rfl)) ?_
  refine RK.nil ?_
  refine Ab.D.lp ⟨i + 1, (by omega), (by omega), rfl, rfl, rfl, rfl, rfl, rfl, (lk_arr (by rw [← take_snoc (by omega)]; simp only [List.map_append, List.map_cons, List.map_nil]; rfl)), rfl, trivial⟩
 ·
  refine OK.exit rfl ?_
  refine Ab.D.code (OK.seq (OK.reg ?_))
  refine RK.c (S.bloadN ti75 .none rfl (.tmp rfl rfl) rfl rfl rfl rfl) ?_
  refine RK.c (S.store ti75 .none (.tmp rfl rfl) (.tmp rfl rfl) rfl rfl rfl rfl rfl rfl) ?_
  refine RK.nil (Ab.D.code ?_)
  refine OK.ret (Ret.r1 (.cellN rfl rfl rfl rfl ti75 rfl (.k (.own rfl rfl (by first | rfl | (simp; done) | (simp; omega))) .z)) ?_)
  rw [show i = r.rows.length by omega, List.take_length]
  rfl
end Go.Proofs.YtpmglnphhhlbdaaGreatDoor
namespace Go.Proofs.YtpmglnphhhlbdaaGreatDoor
open Go.Ab
def frameE (p : Plan) (f : Frame) : Int := if ¬ (0 ≤ f.tick ∧ f.tick ≤ p.ticks - 1) then 2 else valuesErr p f.values
theorem frameE_eq (p : Plan) (f : Frame) : firstE [unlessE (decide (0 ≤ f.tick ∧ f.tick ≤ p.ticks - 1)) 2, valuesErr p f.values] = frameE p f := by
  rw [firstE2, frameE]
  by_cases h : 0 ≤ f.tick ∧ f.tick ≤ p.ticks - 1
  · rw [unlessE_of h, if_neg (by simp), if_neg (by simpa using h)]
  · rw [unlessE_not h, if_pos (by decide), if_pos h]
theorem frameE_0 {p : Plan} {f : Frame} (h : frameE p f = 0) : (0 ≤ f.tick ∧ f.tick ≤ p.ticks - 1) ∧ f.values.length = p.channels.length := by
  unfold frameE at h
  split at h
  · cases h
  · rename_i h1
    refine ⟨Decidable.not_not.1 h1, ?_⟩
    unfold valuesErr at h
    split at h
    · cases h
    · omega
def rowAt (rows : List Row) (f : Frame) : Row := rows.getD f.tick.toNat ⟨false, []⟩
def stepErr (p : Plan) (rows : List Row) (f : Frame) : Int :=
  if frameE p f ≠ 0 then frameE p f else if (rowAt rows f).known = true then unlessE (decide ((rowAt rows f).values = f.values)) 13 else 0
def stepRows (p : Plan) (rows : List Row) (f : Frame) : List Row :=
  if frameE p f ≠ 0 then rows else if (rowAt rows f).known = true then rows else rows.set f.tick.toNat ⟨true, f.values⟩
theorem stepRows_len (p : Plan) (rows : List Row) (f : Frame) : (stepRows p rows f).length = rows.length := by
  unfold stepRows
  split
  · rfl
  · split
    · rfl
    · rw [List.length_set]
def rowsAt (p : Plan) (l : List Frame) (i : Nat) : List Row := (l.take i).foldl (stepRows p) (List.replicate p.ticks.toNat ⟨false, []⟩)
theorem rowsAt_0 (p : Plan) (l : List Frame) : rowsAt p l 0 = List.replicate p.ticks.toNat ⟨false, []⟩ := rfl
theorem rowsAt_succ (p : Plan) {l : List Frame} {i : Nat} (h : i < l.length) : rowsAt p l (i + 1) = stepRows p (rowsAt p l i) l[i] := by
  unfold rowsAt
  rw [← take_snoc h, List.foldl_append]
  rfl
theorem rowsAt_len (p : Plan) (l : List Frame) : ∀ i, i ≤ l.length → (rowsAt p l i).length = p.ticks.toNat
  | 0, _ => by rw [rowsAt_0, List.length_replicate]
  | i + 1, h => by rw [rowsAt_succ p (by omega), stepRows_len, rowsAt_len p l i (by omega)]
def gRec (p : Plan) (l : List Frame) (i : Nat) (f : Frame) : Int := stepErr p (rowsAt p l i) f
def hRec (p : Plan) (l : List Frame) (i : Nat) (f : Frame) : Int :=
  if frameE p f ≠ 0 then frameE p f else if ((l.take i).any fun x => decide (x.tick = f.tick) && !decide (x.values = f.values)) = true then 13 else 0
def eachN {α : Type} (g : Nat → α → Int) : Nat → List α → Nat
  | i, [] => i
  | i, x :: l => if g i x ≠ 0 then i + 1 else eachN g (i + 1) l
theorem eachN_drop {α : Type} (g : Nat → α → Int) {l : List α} {i : Nat} (h : i < l.length) : eachN g i (l.drop i) = if g i l[i] ≠ 0 then i + 1 else eachN g (i + 1) (l.drop (i + 1)) := by
  rw [List.drop_eq_getElem_cons h, eachN]
theorem eachN_all {α : Type} (g : Nat → α → Int) : ∀ (l : List α) (i : Nat), (eachGo g i l).2 = 0 → eachN g i l = i + l.length
  | [], i, _ => rfl
  | x :: l, i, h => by
    rw [eachGo] at h
    by_cases hx : g i x ≠ 0
    · rw [if_pos hx] at h; exact absurd h hx
    · rw [if_neg hx] at h
      rw [eachN, if_neg hx, eachN_all g l (i + 1) h, List.length_cons]
      omega
theorem eachN_le {α : Type} (g : Nat → α → Int) : ∀ (l : List α) (i : Nat), eachN g i l ≤ i + l.length
  | [], i => Nat.le_refl _
  | x :: l, i => by
    rw [eachN, List.length_cons]
    split
    · omega
    · have := eachN_le g l (i + 1); omega
def recErr (p : Plan) (l : List Frame) : Int := if planErr p ≠ 0 then planErr p else if 40 < l.length then 8 else (eachGo (gRec p l) 0 l).2
def recOf (p : Plan) (l : List Frame) : Record := if recErr p l = 0 then ⟨rowsAt p l l.length⟩ else ⟨[]⟩
def framesErr (p : Plan) (l : List Frame) : Int := if 40 < l.length then 8 else (eachGo (hRec p l) 0 l).2
def lastRow (l : List Frame) (t : Nat) : Row := l.foldl (fun r f => if f.tick = (t : Int) then ⟨true, f.values⟩ else r) ⟨false, []⟩
def recT (p : Plan) (l : List Frame) : Record := ⟨(List.range p.ticks.toNat).map (lastRow l)⟩
theorem lastRow_snoc {l : List Frame} {t i : Nat} (h : i < l.length) : lastRow (l.take (i + 1)) t = if l[i].tick = (t : Int) then ⟨true, l[i].values⟩ else lastRow (l.take i) t := by
  unfold lastRow
  rw [← take_snoc h, List.foldl_append]
  rfl
theorem row_cell0 {rows : List Row} : ∀ {i : Nat} (h : i < rows.length), (rows.map Row.cs).flatten[i * 2 + 0]? = some (.bool rows[i].known) := by
  induction rows with
  | nil => intro i h; simp at h
  | cons r rows ih =>
    intro i h
    cases i with
    | zero => rfl
    | succ i =>
      have := ih (i := i) (by simpa using h)
      rw [show (i + 1) * 2 + 0 = (i * 2 + 0) + 2 by omega]
      exact this
theorem row_cell1 {rows : List Row} : ∀ {i : Nat} (h : i < rows.length), (rows.map Row.cs).flatten[i * 2 + 1]? = some (ints rows[i].values) := by
  induction rows with
  | nil => intro i h; simp at h
  | cons r rows ih =>
    intro i h
    cases i with
    | zero => rfl
    | succ i =>
      have := ih (i := i) (by simpa using h)
      rw [show (i + 1) * 2 + 1 = (i * 2 + 1) + 2 by omega]
      exact this
def RowsOk (p : Plan) (l : List Frame) (i : Nat) : Prop := ∀ t, t < p.ticks.toNat →
  ((((rowsAt p l i).getD t ⟨false, []⟩).known = false → (rowsAt p l i).getD t ⟨false, []⟩ = ⟨false, []⟩ ∧ ∀ x ∈ l.take i, x.tick ≠ (t : Int)) ∧
   (((rowsAt p l i).getD t ⟨false, []⟩).known = true → (∃ x ∈ l.take i, x.tick = (t : Int)) ∧ ∀ x ∈ l.take i, x.tick = (t : Int) → x.values = ((rowsAt p l i).getD t ⟨false, []⟩).values))
theorem gh_eq {p : Plan} {l : List Frame} {i : Nat} (hi : i < l.length) (h : RowsOk p l i) : gRec p l i l[i] = hRec p l i l[i] := by
  unfold gRec hRec stepErr
  by_cases he : frameE p l[i] ≠ 0
  · rw [if_pos he, if_pos he]
  · rw [if_neg he, if_neg he]
    have hf := (frameE_0 (Decidable.not_not.1 he)).1
    have hto : ((l[i].tick.toNat : Nat) : Int) = l[i].tick := Int.toNat_of_nonneg hf.1
    obtain ⟨h1, h2⟩ := h l[i].tick.toNat (by omega)
    unfold rowAt
    cases hk : ((rowsAt p l i).getD l[i].tick.toNat ⟨false, []⟩).known with
    | false =>
      obtain ⟨_, h3⟩ := h1 hk
      rw [if_neg (by simp), if_neg]
      rw [List.any_eq_true]
      rintro ⟨x, hx, hq⟩
      rw [Bool.and_eq_true, decide_eq_true_eq] at hq
      exact h3 x hx (by rw [hto]; exact hq.1)
    | true =>
      obtain ⟨⟨x, hx, ht⟩, h3⟩ := h2 hk
      rw [if_pos rfl]
      rw [hto] at ht h3
      by_cases hv : ((rowsAt p l i).getD l[i].tick.toNat ⟨false, []⟩).values = l[i].values
      · rw [unlessE_of hv, if_neg]
        rw [List.any_eq_true]
        rintro ⟨y, hy, hq⟩
        rw [Bool.and_eq_true, decide_eq_true_eq, Bool.not_eq_true', decide_eq_false_iff_not] at hq
        exact hq.2 (by rw [h3 y hy hq.1, hv])
      · rw [unlessE_not hv, if_pos]
        rw [List.any_eq_true]
        refine ⟨x, hx, ?_⟩
        rw [Bool.and_eq_true, decide_eq_true_eq, Bool.not_eq_true', decide_eq_false_iff_not]
        exact ⟨ht, fun e => hv (by rw [← h3 x hx ht, e])⟩
theorem rowsOk_0 (p : Plan) (l : List Frame) : RowsOk p l 0 := by
  intro t ht
  have e : (rowsAt p l 0).getD t ⟨false, []⟩ = ⟨false, []⟩ := by rw [rowsAt_0, List.getD_eq_getElem?_getD, List.getElem?_replicate]; split <;> rfl
  rw [e]
  exact ⟨fun _ => ⟨rfl, (fun x hx => by cases hx)⟩, (fun h => by cases h)⟩
theorem rowsOk_succ {p : Plan} {l : List Frame} {i : Nat} (hi : i < l.length) (h : RowsOk p l i) (he : gRec p l i l[i] = 0) : RowsOk p l (i + 1) := by
  have hlen := rowsAt_len p l i (by omega)
  unfold gRec stepErr at he
  have hf0 : frameE p l[i] = 0 := by
    split at he
    · exact absurd he ‹_›
    · omega
  have hf := (frameE_0 hf0).1
  have hto : ((l[i].tick.toNat : Nat) : Int) = l[i].tick := Int.toNat_of_nonneg hf.1
  rw [if_neg (by omega)] at he
  intro t ht
  have hmem : ∀ x, x ∈ l.take (i + 1) ↔ x ∈ l.take i ∨ x = l[i] := fun x => by rw [← take_snoc hi, List.mem_append, List.mem_singleton]
  obtain ⟨h1, h2⟩ := h t ht
  rw [rowsAt_succ p hi]
  unfold stepRows
  rw [if_neg (by omega)]
  by_cases hk : (rowAt (rowsAt p l i) l[i]).known = true
  · rw [if_pos hk] at he ⊢
    have hv : (rowAt (rowsAt p l i) l[i]).values = l[i].values := by
      by_cases hv : (rowAt (rowsAt p l i) l[i]).values = l[i].values
      · exact hv
      · rw [unlessE_not hv] at he; cases he
    refine ⟨fun hk2 => ?_, fun hk2 => ?_⟩
    · obtain ⟨q1, q2⟩ := h1 hk2
      refine ⟨q1, fun x hx => ?_⟩
      rcases (hmem x).1 hx with hx | rfl
      · exact q2 x hx
      · intro e
        have e2 : l[i].tick.toNat = t := by omega
        unfold rowAt at hk
        rw [e2, hk2] at hk
        cases hk
    · obtain ⟨⟨x, hx, hxt⟩, q2⟩ := h2 hk2
      refine ⟨⟨x, (hmem x).2 (.inl hx), hxt⟩, fun y hy hyt => ?_⟩
      rcases (hmem y).1 hy with hy | rfl
      · exact q2 y hy hyt
      · have e2 : l[i].tick.toNat = t := by omega
        unfold rowAt at hv
        rw [e2] at hv
        exact hv.symm
  · rw [if_neg hk]
    by_cases htt : l[i].tick.toNat = t
    · have e : ((rowsAt p l i).set l[i].tick.toNat ⟨true, l[i].values⟩).getD t ⟨false, []⟩ = ⟨true, l[i].values⟩ := by
        rw [htt, List.getD_eq_getElem?_getD, List.getElem?_set_self (by omega)]
        rfl
      rw [e]
      have hkt : ((rowsAt p l i).getD t ⟨false, []⟩).known = false := by
        unfold rowAt at hk
        rw [htt] at hk
        simpa using hk
      obtain ⟨_, q2⟩ := h1 hkt
      refine ⟨(fun hk2 => by cases hk2), fun _ => ⟨⟨l[i], (hmem _).2 (.inr rfl), by omega⟩, fun y hy hyt => ?_⟩⟩
      rcases (hmem y).1 hy with hy | rfl
      · exact absurd hyt (q2 y hy)
      · rfl
    · have e : ((rowsAt p l i).set l[i].tick.toNat ⟨true, l[i].values⟩).getD t ⟨false, []⟩ = (rowsAt p l i).getD t ⟨false, []⟩ := by
        rw [List.getD_eq_getElem?_getD, List.getElem?_set_ne htt, ← List.getD_eq_getElem?_getD]
      rw [e]
      refine ⟨fun hk2 => ?_, fun hk2 => ?_⟩
      · obtain ⟨q1, q2⟩ := h1 hk2
        refine ⟨q1, fun x hx => ?_⟩
        rcases (hmem x).1 hx with hx | rfl
        · exact q2 x hx
        · omega
      · obtain ⟨⟨x, hx, hxt⟩, q2⟩ := h2 hk2
        refine ⟨⟨x, (hmem x).2 (.inl hx), hxt⟩, fun y hy hyt => ?_⟩
        rcases (hmem y).1 hy with hy | rfl
        · exact q2 y hy hyt
        · omega
theorem gh_each {p : Plan} {l : List Frame} : ∀ (n i : Nat), l.length - i = n → i ≤ l.length → RowsOk p l i →
    eachGo (gRec p l) i (l.drop i) = eachGo (hRec p l) i (l.drop i) ∧ ((eachGo (gRec p l) i (l.drop i)).2 = 0 → RowsOk p l l.length)
  | 0, i, hn, hi, h => by
    have e : i = l.length := by omega
    subst e
    rw [List.drop_length]
    exact ⟨rfl, fun _ => h⟩
  | n + 1, i, hn, hi, h => by
    have hlt : i < l.length := by omega
    rw [eachGo_drop _ hlt, eachGo_drop _ hlt, gh_eq hlt h]
    by_cases he : hRec p l i l[i] ≠ 0
    · rw [if_pos he, if_pos he]
      exact ⟨rfl, fun h0 => absurd h0 he⟩
    · rw [if_neg he, if_neg he]
      exact gh_each n (i + 1) (by omega) (by omega) (rowsOk_succ hlt h (by rw [gh_eq hlt h]; exact Decidable.not_not.1 he))
theorem recErr_eq {p : Plan} {l : List Frame} (hp : planErr p = 0) : recErr p l = framesErr p l := by
  unfold recErr framesErr
  rw [if_neg (by omega)]
  have := (gh_each (p := p) (l := l) l.length 0 rfl (Nat.zero_le _) (rowsOk_0 p l)).1
  rw [List.drop_zero] at this
  rw [this]
theorem lastRow_none {t : Nat} : ∀ (l : List Frame) (r : Row), (∀ x ∈ l, x.tick ≠ (t : Int)) → l.foldl (fun r f => if f.tick = (t : Int) then ⟨true, f.values⟩ else r) r = r
  | [], _, _ => rfl
  | x :: l, r, h => by
    rw [List.foldl_cons, if_neg (h x List.mem_cons_self)]
    exact lastRow_none l r fun y hy => h y (List.mem_cons_of_mem _ hy)
theorem lastRow_all {t : Nat} {v : List Int} : ∀ (l : List Frame) (r : Row), (∀ x ∈ l, x.tick = (t : Int) → x.values = v) → (r = ⟨true, v⟩ ∨ ∃ x ∈ l, x.tick = (t : Int)) → l.foldl (fun r f => if f.tick = (t : Int) then ⟨true, f.values⟩ else r) r = ⟨true, v⟩
  | [], r, _, h => by
    rcases h with h | ⟨x, hx, _⟩
    · exact h
    · cases hx
  | x :: l, r, h, ho => by
    rw [List.foldl_cons]
    have hl := fun y hy => h y (List.mem_cons_of_mem _ hy)
    by_cases hx : x.tick = (t : Int)
    · rw [if_pos hx]
      exact lastRow_all l _ hl (.inl (by rw [h x List.mem_cons_self hx]))
    · rw [if_neg hx]
      refine lastRow_all l r hl ?_
      rcases ho with ho | ⟨y, hy, hyt⟩
      · exact .inl ho
      · rcases List.mem_cons.1 hy with rfl | hy
        · exact absurd hyt hx
        · exact .inr ⟨y, hy, hyt⟩
theorem recOf_eq {p : Plan} {l : List Frame} (h : recErr p l = 0) : recOf p l = recT p l := by
  have hp : planErr p = 0 := by
    unfold recErr at h
    split at h
    · exact absurd h ‹_›
    · omega
  have hg : (eachGo (gRec p l) 0 l).2 = 0 := by
    unfold recErr at h
    rw [if_neg (by omega)] at h
    split at h
    · cases h
    · exact h
  have hok := (gh_each (p := p) (l := l) l.length 0 rfl (Nat.zero_le _) (rowsOk_0 p l)).2 (by rw [List.drop_zero]; exact hg)
  have hlen := rowsAt_len p l l.length (Nat.le_refl _)
  rw [recOf, if_pos h, recT]
  congr 1
  refine List.ext_getElem (by simp [hlen]) fun t h1 h2 => ?_
  rw [List.getElem_map, List.getElem_range]
  have ht : t < p.ticks.toNat := by omega
  obtain ⟨q1, q2⟩ := hok t ht
  rw [List.take_length] at q1 q2
  have e : (rowsAt p l l.length).getD t ⟨false, []⟩ = (rowsAt p l l.length)[t] := getD_at h1
  rw [e] at q1 q2
  cases hk : (rowsAt p l l.length)[t].known with
  | false =>
    obtain ⟨r1, r2⟩ := q1 hk
    rw [r1, lastRow, lastRow_none l _ r2]
  | true =>
    obtain ⟨r1, r2⟩ := q2 hk
    rw [lastRow, lastRow_all l _ r2 (.inr r1)]
    rw [← hk]
theorem sh_frame {xs : List X} (h : Shape (.st (.cons (.int .i64) (.cons (.sl (.int .i64)) .nil))) xs) : ∃ p : Frame, xs = p.cs := by
  obtain ⟨a, b, rfl, ⟨n, rfl⟩, c, d, rfl, ⟨rows, rfl, hr⟩, rfl⟩ := h
  obtain ⟨l, rfl⟩ := rows_of (f := fun n => [X.int .i64 n]) (fun r h => by obtain ⟨s, rfl⟩ := hr r h; exact ⟨s, rfl⟩)
  exact ⟨⟨n, l⟩, rfl⟩
end Go.Proofs.YtpmglnphhhlbdaaGreatDoor
namespace Go.Proofs.YtpmglnphhhlbdaaGreatDoor
open Go.Ab
theorem lib_EqualInts {a b : List Int} : Ct Tryz.prog 88 [ints a, ints b] (.bool (decide (a = b))) := by
 refine Ct.intro (rs := [.tmp 4]) Tryz.func88 rfl Tryz.ntmps88 Tryz.results88 rfl rfl rfl fun w h => ?_
 refine OK.slLen (rows := a.map (fun n => [.int .i64 n])) (t := 0) rfl rfl fun hlen => ?_
 rw [List.length_map] at hlen
 unfold maxLen at hlen
 refine OK.seq (OK.reg ?_)
 refine RK.c (S.assign .none rfl .cbool) ?_
 refine RK.nil (Ab.D.code (OK.seq (OK.seq (OK.reg ?_))))
 refine RK.c (S.move .none rfl (.tmp rfl rfl)) ?_
 refine RK.c (S.lenM si25 .none rfl (.tmp rfl rfl)) ?_
 refine RK.c (S.move .none rfl (.tmp rfl rfl)) ?_
 refine RK.c (S.lenM si25 .none rfl (.tmp rfl rfl)) ?_
 refine RK.c (S.neq .none rfl (.tmp rfl rfl) (.tmp rfl rfl)) ?_
 refine RK.nil (Ab.D.code ?_)
 refine OK.condD rfl rfl (fun c10 => ?_) (fun c10 => ?_)
 ·
  refine OK.seq (OK.reg ?_)
  refine RK.c (S.assign .none rfl .cbool) ?_
  refine RK.nil (Ab.D.code ?_)
  refine OK.ret (Ret.r1 (.tmp rfl rfl (.c (.same rfl) rfl) rfl) ?_)
  exact ret_F (fun e => c10 (by rw [e]))
 ·
  have hl : a.length = b.length := by omega
  refine OK.skip ?_
  refine Ab.D.code (OK.seq (OK.seq (OK.reg ?_)))
  refine RK.c (S.move .none rfl (.tmp rfl rfl)) ?_
  refine RK.c (S.lenM si25 .none rfl (.tmp rfl rfl)) ?_
  refine RK.c (S.move .none rfl (.cint rfl)) ?_
  refine RK.nil (Ab.D.code ?_)
  refine OK.block ?_
  refine OK.loop (G := Nat) [] (fun i => [(0, ints a), (1, ints b), (12, .int .i64 a.length), (13, .int .i64 i)]) (fun i => i ≤ a.length ∧ a.take i = b.take i) (fun i => a.length - i) 0 ⟨Nat.zero_le _, rfl⟩ ⟨rfl, rfl, rfl, rfl, trivial⟩ (fun _ => rfl) ?_
  rintro i ⟨hi, ht⟩
  refine OK.seq (OK.reg ?_)
  refine RK.c (S.lss .none rfl (.tmp rfl rfl) (.tmp rfl rfl)) ?_
  refine RK.nil (Ab.D.code ?_)
  refine OK.seq ?_
  refine OK.condD rfl rfl (fun c14 => ?_) (fun c14 => ?_)
  ·
   refine OK.skip ?_
   refine Ab.D.code ?_
   refine OK.seq ?_
   refine OK.block ?_
   refine OK.seq (OK.reg ?_)
   refine RK.c (S.move .none rfl (.tmp rfl rfl)) ?_
   refine RK.c (S.assign .none rfl (.tmp rfl rfl)) ?_
   refine RK.nil (Ab.D.code ?_)
   refine OK.seq ?_
   refine OK.regionDraw follows (.c (S.move .none rfl (.tmp rfl rfl))
    (.c (S.move .none rfl (.tmp rfl rfl))
    (.c (S.indexM si25 .none rfl (.tmp rfl rfl) (.tmp rfl rfl) rfl (by omega) rfl)
    (.c (S.load1 ti3 .none rfl (.tmp rfl rfl) rfl)
    (.c (S.move .none rfl (.tmp rfl rfl))
    (.c (S.move .none rfl (.tmp rfl rfl))
    (.c (S.indexM si25 .none rfl (.tmp rfl rfl) (.tmp rfl rfl) rfl (by omega) rfl)
    (.c (S.load1 ti3 .none rfl (.tmp rfl rfl) rfl)
    (.c (S.neq .none rfl (.tmp rfl rfl) (.tmp rfl rfl))
    .nil))))))))) (by kernel_rfl) ?_
   refine Ab.D.code ?_
   refine OK.condD rfl rfl (fun c24 => ?_) (fun c24 => ?_)
   ·
    refine OK.seq (OK.reg ?_)
    refine RK.c (S.assign .none rfl .cbool) ?_
    refine RK.nil (Ab.D.code ?_)
    refine OK.ret (Ret.r1 (.tmp rfl rfl (.c (.same rfl) rfl) rfl) ?_)
    exact ret_F (fun e => by subst e; exact c24 rfl)
   ·
    refine OK.skip ?_
    refine Ab.D.blk ?_
    refine Ab.D.code (OK.reg ?_)
    refine RK.c (S.add .none rfl (.tmp rfl rfl) (.cint rfl) (IntWalk.i64_in _ (by omega)) (IntWalk.i64_in _ (by omega))) ?_
    refine RK.c (S.move .none rfl (.tmp rfl rfl)) ?_
    refine RK.nil ?_
    refine Ab.D.lp ⟨i + 1, ⟨by omega, ?_⟩, (by omega), rfl, rfl, rfl, rfl, trivial⟩
    simp only [ne_eq, Decidable.not_not] at c24
    rw [List.take_succ_eq_append_getElem (by omega), List.take_succ_eq_append_getElem (by omega), ht, c24]
  ·
   refine OK.exit rfl ?_
   refine Ab.D.code (OK.seq (OK.reg ?_))
   refine RK.c (S.assign .none rfl .cbool) ?_
   refine RK.nil (Ab.D.code ?_)
   refine OK.ret (Ret.r1 (.tmp rfl rfl (.c (.same rfl) rfl) rfl) ?_)
   have : i = a.length := by omega
   subst this
   rw [List.take_length, hl, List.take_length] at ht
   exact ret_T ht
theorem lib_CloneInts {l : List Int} (h0 : 0 < l.length) (hlen : l.length ≤ 100000) : Ct Tryz.prog 89 [ints l] (ints l) := by
 refine Ct.intro (rs := [.tmp 2]) Tryz.func89 rfl Tryz.ntmps89 Tryz.results89 rfl rfl rfl fun w h => ?_
 refine OK.seq (OK.reg ?_)
 refine RK.c (S.assign .none rfl .cnil) ?_
 refine RK.nil (Ab.D.code (OK.seq (OK.seq (OK.reg ?_))))
 refine RK.c (S.move .none rfl (.tmp rfl rfl)) ?_
 refine RK.c (S.eqnil Tryz.underlying25 .none rfl (.tmp rfl rfl) (by rw [List.length_map]; exact h0)) ?_
 refine RK.nil (Ab.D.code ?_)
 refine OK.condF rfl rfl rfl ?_
 refine OK.skip ?_
 refine Ab.D.code (OK.seq (OK.reg ?_))
 refine RK.c (S.mkSlice (k := 5) (rows := []) ai25 .none rfl .nil rfl rfl rfl rfl rfl rfl rfl) ?_
 refine RK.c (S.move .none rfl (.tmp rfl rfl)) ?_
 refine RK.c (S.appendSl ai25 .none rfl (.tmp rfl rfl) rfl (by first | rfl | (simp; done) | (simp; omega)) (.tmp rfl rfl) (by intro q hq; obtain ⟨b, _, rfl⟩ := List.mem_map.1 hq; rfl) rfl (by simp only [List.length_map]; omega) (by simp only [maxLen, List.length_map]; omega)) ?_
 refine RK.c (S.assign .none rfl (.tmp rfl rfl)) ?_
 refine RK.nil (Ab.D.code ?_)
 refine OK.ret (Ret.r1 (.tmp rfl rfl (.c (.own rfl rfl (by first | rfl | (simp; done) | (simp; omega))) rfl) rfl) ?_)
 rfl
theorem mon_frameErr {p : Plan} {f : Frame} (hpt : 1 ≤ p.ticks ∧ p.ticks ≤ 12) : Ct Tryz.prog 87 [.agg p.cs, .agg f.cs] (.int .i64 (frameE p f)) := by
 refine Ct.intro (rs := [.tmp 4]) Tryz.func87 rfl Tryz.ntmps87 Tryz.results87 rfl rfl rfl fun w h => ?_
 refine OK.seq (OK.reg ?_)
 refine RK.c (S.box (k := 2) rfl .none rfl (.tmp rfl rfl) rfl) ?_
 refine RK.c (S.box (k := 3) rfl .none rfl (.tmp rfl rfl) rfl) ?_
 refine RK.c (S.assign .none rfl (.cint rfl)) ?_
 refine RK.nil (Ab.D.code ?_)
 refine OK.seq ?_
 refine OK.regionDraw follows (.c (S.bfield fi27_0 .none rfl (.tmp rfl rfl))
  (.c (S.bload1 ti3 .none rfl (.tmp rfl rfl) rfl rfl rfl rfl)
  (.c (S.bfield fi150_0 .none rfl (.tmp rfl rfl))
  (.c (S.bfield fi24_1 .none rfl (.tmp rfl rfl))
  (.c (S.bload1 ti3 .none rfl (.tmp rfl rfl) rfl rfl rfl rfl)
  (.c (S.sub .none rfl (.tmp rfl rfl) (.cint rfl) (IntWalk.i64_in _ (by omega)) (IntWalk.i64_in _ (by omega)))
  (.c (S.call (mon_within) Tryz.call99 .none rfl (.cons (.tmp rfl rfl) (.cons (.cint rfl) (.cons (.tmp rfl rfl) .nil))) rfl)
  (.c (S.call (monitor_unless) Tryz.call84 .none rfl (.cons (.tmp rfl rfl) (.cons (.cint rfl) .nil)) rfl)
  (.c (S.bloadN ti150 .none rfl (.tmp rfl rfl) rfl rfl rfl rfl)
  (.c (S.bfield fi27_1 .none rfl (.tmp rfl rfl))
  (.c (S.bload1 ti25 .none rfl (.tmp rfl rfl) rfl rfl rfl rfl)
  (.c (S.call (mon_valuesErr) Tryz.call131 .none rfl (.cons (.tmp rfl rfl) (.cons (.tmp rfl rfl) .nil)) rfl)
  (.c (S.mkSlice (k := 17) (rows := [[_], [_]]) ai209 .none rfl (.cons (.tmp rfl rfl) (.cons (.tmp rfl rfl) .nil)) rfl rfl rfl rfl rfl rfl rfl)
  (.c (S.callL (monitor_first (l := [_, _])) Tryz.call83 .none rfl (.cons (.tmp rfl rfl) .nil) (.cons (.p (.own rfl rfl) rfl) .nil) rfl)
  (.c (S.assign .none rfl (.tmp rfl rfl))
  .nil))))))))))))))) (by kernel_rfl) ?_
 refine Ab.D.code ?_
 refine OK.ret (Ret.r1 (.tmp rfl rfl (.c (.same rfl) rfl) rfl) ?_)
 exact ret_i (frameE_eq p f)
theorem mon_step {p : Plan} {rows : List Row} {n : Nat} {i : Nat} {f : Frame} (hn : rows.length = n) (hnt : n = p.ticks.toNat) (hpt : 1 ≤ p.ticks ∧ p.ticks ≤ 12) (hc : 0 < p.channels.length ∧ p.channels.length ≤ 100000) : CtG Tryz.prog 86 [6, 8, 27] [.int .i64 i, .agg f.cs, .ptr 6 0, .ptr 8 0] [(1006, .box p.cs), (1008, .box [.own 27 n]), (2027, .arr 2 (rows.map Row.cs))] [(1006, .box p.cs), (1008, .box [.own 27 n]), (2027, .arr 2 ((stepRows p rows f).map Row.cs))] (.int .i64 (stepErr p rows f)) := by
 refine CtG.intro (rs := [.tmp 6]) Tryz.func86 rfl Tryz.ntmps86 Tryz.results86 rfl rfl rfl rfl fun w h => ?_
 have hrl : (rows.map Row.cs).length = n := by rw [List.length_map, hn]
 refine OK.seq (OK.reg ?_)
 refine RK.c (S.box (k := 5) rfl .none rfl (.tmp rfl rfl) rfl) ?_
 refine RK.c (S.assign .none rfl (.cint rfl)) ?_
 refine RK.nil (Ab.D.code (OK.seq (OK.seq (OK.reg ?_))))
 refine RK.c (S.bloadN ti150 .none rfl (.tmp rfl rfl) rfl rfl rfl rfl) ?_
 refine RK.c (S.bloadN ti27 .none rfl (.tmp rfl rfl) rfl rfl rfl rfl) ?_
 refine RK.c (S.call (mon_frameErr (by omega)) Tryz.call87 .none rfl (.cons (.tmp rfl rfl) (.cons (.tmp rfl rfl) .nil)) rfl) ?_
 refine RK.c (S.assign .none rfl (.tmp rfl rfl)) ?_
 refine RK.nil (Ab.D.code (OK.seq (OK.reg ?_)))
 refine RK.c (S.move .none rfl (.tmp rfl rfl)) ?_
 refine RK.c (S.neq .none rfl (.tmp rfl rfl) (.cint rfl)) ?_
 refine RK.nil (Ab.D.code ?_)
 refine OK.condD rfl rfl (fun c13 => ?_) (fun c13 => ?_)
 ·
  refine OK.seq (OK.reg ?_)
  refine RK.c (S.move .none rfl (.tmp rfl rfl)) ?_
  refine RK.c (S.assign .none rfl (.tmp rfl rfl)) ?_
  refine RK.nil (Ab.D.code ?_)
  refine OK.ret ⟨Ret.r1 (.tmp rfl rfl (.c (.same rfl) rfl) rfl) ?_, rfl, rfl, (lk_arr (by rw [stepRows, if_pos c13])), trivial⟩
  refine ret_i ?_
  rw [stepErr, if_pos c13]
 ·
  have he : frameE p f = 0 := Decidable.not_not.1 c13
  obtain ⟨hf1, hf2⟩ := frameE_0 he
  have hto : ((f.tick.toNat : Nat) : Int) = f.tick := Int.toNat_of_nonneg hf1.1
  have hlt : f.tick.toNat < rows.length := by omega
  have hrow : rowAt rows f = rows[f.tick.toNat] := getD_at hlt
  refine OK.skip ?_
  refine Ab.D.code (OK.seq (OK.reg ?_))
  refine RK.c (S.bfield fi75_0 .none rfl (.tmp rfl rfl)) ?_
  refine RK.c (S.bload1 ti73 .none rfl (.tmp rfl rfl) rfl rfl rfl rfl) ?_
  refine RK.c (S.bfield fi27_0 .none rfl (.tmp rfl rfl)) ?_
  refine RK.c (S.bload1 ti3 .none rfl (.tmp rfl rfl) rfl rfl rfl rfl) ?_
  refine RK.c (S.oindex (i := f.tick.toNat) si73 .none rfl (.tmp rfl rfl) rfl hrl (.tmp rfl rfl) hto.symm (by omega)) ?_
  refine RK.c (S.assign .none rfl (.tmp rfl rfl)) ?_
  refine RK.nil (Ab.D.code (OK.seq (OK.seq (OK.reg ?_))))
  refine RK.c (S.move .none rfl (.tmp rfl rfl)) ?_
  refine RK.c (S.nilCheckO .none rfl (.tmp rfl rfl) rfl hrl) ?_
  refine RK.c (S.ofield fi162_0 .none rfl (.tmp rfl rfl) rfl hrl) ?_
  refine RK.c (S.oload1 ti4 .none rfl (.tmp rfl rfl) rfl hrl (row_cell0 hlt)) ?_
  refine RK.nil (Ab.D.code ?_)
  refine OK.cond rfl rfl (fun c23 => ?_) (fun c23 => ?_)
  ·
   refine OK.seq ?_
   refine OK.regionDraw follows (.c (S.move .none rfl (.tmp rfl rfl))
    (.c (S.nilCheckO .none rfl (.tmp rfl rfl) rfl hrl)
    (.c (S.ofield fi162_1 .none rfl (.tmp rfl rfl) rfl hrl)
    (.c (S.oload1 ti25 .none rfl (.tmp rfl rfl) rfl hrl (row_cell1 hlt))
    (.c (S.bfield fi27_1 .none rfl (.tmp rfl rfl))
    (.c (S.bload1 ti25 .none rfl (.tmp rfl rfl) rfl rfl rfl rfl)
    (.c (S.call (lib_EqualInts) Tryz.call88 .none rfl (.cons (.tmp rfl rfl) (.cons (.tmp rfl rfl) .nil)) rfl)
    (.c (S.call (monitor_unless) Tryz.call84 .none rfl (.cons (.tmp rfl rfl) (.cons (.cint rfl) .nil)) rfl)
    (.c (S.assign .none rfl (.tmp rfl rfl))
    .nil))))))))) (by kernel_rfl) ?_
   refine Ab.D.code ?_
   refine OK.ret ⟨Ret.r1 (.tmp rfl rfl (.c (.same rfl) rfl) rfl) ?_, rfl, rfl, (lk_arr (by rw [stepRows, if_neg (by omega), hrow, if_pos c23])), trivial⟩
   refine ret_i ?_
   rw [stepErr, if_neg (by omega), hrow, if_pos c23]
  ·
   refine OK.skip ?_
   refine Ab.D.code (OK.seq (OK.reg ?_))
   refine RK.c (S.move .none rfl (.tmp rfl rfl)) ?_
   refine RK.c (S.bfield fi27_1 .none rfl (.tmp rfl rfl)) ?_
   refine RK.c (S.bload1 ti25 .none rfl (.tmp rfl rfl) rfl rfl rfl rfl) ?_
   refine RK.c (S.call (lib_CloneInts (l := f.values) (by omega) (by omega)) Tryz.call89 .none rfl (.cons (.tmp rfl rfl) .nil) rfl) ?_
   refine RK.c (S.build bu162 rfl .none rfl (.cons .cbool (.cons (.tmp rfl rfl) .nil)) rfl rfl) ?_
   refine RK.c (S.nilCheckO .none rfl (.tmp rfl rfl) rfl hrl) ?_
   refine RK.c (S.ostore (i := f.tick.toNat) ti162 .none (.tmp rfl rfl) (.tmp rfl rfl) rfl hrl rfl (by omega) rfl rfl rfl (show _ = (rows.set f.tick.toNat ⟨true, f.values⟩).map Row.cs by rw [List.map_set]; rfl)) ?_
   refine RK.nil (Ab.D.code (OK.seq (OK.reg ?_)))
   refine RK.c (S.assign .none rfl (.cint rfl)) ?_
   refine RK.nil (Ab.D.code ?_)
   refine OK.ret ⟨Ret.r1 (.tmp rfl rfl (.c (.same rfl) rfl) rfl) ?_, rfl, rfl, (lk_arr (by rw [stepRows, if_neg (by omega), hrow, if_neg (by simp [c23])])), trivial⟩
   refine ret_i ?_
   rw [stepErr, if_neg (by omega), hrow, if_neg (by simp [c23])]
theorem eachCb_Frame {l : List Frame} {g : Nat → Frame → Int} {Φ : Value → Prop} {J : Nat → Mem → (Nat → Prop) → World → Prop} (hΦ : ∀ (i : Nat) (h : i < l.length) (v : Value), Φ v → CbOk Tryz.prog v [.int .i64 i, .agg l[i].cs] (.int .i64 (g i l[i])) (J i) (J (i + 1))) (hJ : ∀ i, Stable (J i)) : CtG Tryz.prog 85 [] [.sl (l.map Frame.cs), .cb Φ] [(3000, .res (J 0))] [(3000, .res (J (eachN g 0 l)))] (pair (eachGo g 0 l)) := by
  refine CtG.intro (rs := [.tmp 4, .tmp 5]) Tryz.func85 rfl Tryz.ntmps85 Tryz.results85 rfl rfl rfl rfl fun w h => ?_
  refine OK.slLen (rows := l.map Frame.cs) (t := 0) rfl rfl fun hlen => ?_
  rw [List.length_map] at hlen
  unfold maxLen at hlen
  refine OK.seq (OK.reg ?_)
  refine RK.c (S.assign .none rfl (.cint rfl)) ?_
  refine RK.c (S.assign .none rfl (.cint rfl)) ?_
  refine RK.nil (Ab.D.code (OK.seq (OK.seq (OK.reg ?_))))
  refine RK.c (S.move .none rfl (.tmp rfl rfl)) ?_
  refine RK.c (S.lenM si71 .none rfl (.tmp rfl rfl)) ?_
  refine RK.c (S.move .none rfl (.cint rfl)) ?_
  refine RK.nil (Ab.D.code ?_)
  refine OK.block ?_
  refine OK.loop (G := Nat) [] (fun i => [(1, .cb Φ), (9, .sl (l.map Frame.cs)), (10, .int .i64 l.length), (11, .int .i64 i), (3000, .res (J i))]) (fun i => i ≤ l.length ∧ eachGo g 0 l = eachGo g i (l.drop i) ∧ eachN g 0 l = eachN g i (l.drop i)) (fun i => l.length - i) 0 ⟨Nat.zero_le _, rfl, rfl⟩ ⟨rfl, rfl, rfl, rfl, rfl, trivial⟩ (fun _ => rfl) ?_
  rintro i ⟨hi, hg, hN⟩
  refine OK.seq (OK.reg ?_)
  refine RK.c (S.lss .none rfl (.tmp rfl rfl) (.tmp rfl rfl)) ?_
  refine RK.nil (Ab.D.code ?_)
  refine OK.seq ?_
  refine OK.condD rfl rfl (fun c12 => ?_) (fun c12 => ?_)
  ·
    refine OK.skip ?_
    refine Ab.D.code ?_
    refine OK.seq ?_
    refine OK.block ?_
    refine OK.seq (OK.reg ?_)
    refine RK.c (S.move .none rfl (.tmp rfl rfl)) ?_
    refine RK.c (S.indexM si71 .none rfl (.tmp rfl rfl) (.tmp rfl rfl) rfl (by omega) rfl) ?_
    refine RK.c (S.loadN ti27 .none rfl (.tmp rfl rfl) rfl rfl) ?_
    refine RK.c (S.alloc (k := 7) ze27 rfl .none rfl) ?_
    refine RK.c (S.assign .none rfl (.tmp rfl rfl)) ?_
    refine RK.c (S.store ti27 .none (.tmp rfl rfl) (.tmp rfl rfl) rfl rfl rfl rfl rfl rfl) ?_
    refine RK.nil (Ab.D.code (OK.seq (OK.reg ?_)))
    refine RK.c (S.move .none rfl (.tmp rfl rfl)) ?_
    refine RK.c (S.move .none rfl (.tmp rfl rfl)) ?_
    refine RK.c (S.bloadN ti27 .none rfl (.tmp rfl rfl) rfl rfl rfl rfl) ?_
    refine RK.c (S.callcb (J1 := J (i + 1)) (hΦ i (by omega)) (hJ _) .none rfl (.tmp rfl rfl) (.cons (.tmp rfl rfl) (.cons (.tmp rfl rfl) .nil)) rfl rfl) ?_
    refine RK.c (S.assign .none rfl (.tmp rfl rfl)) ?_
    refine RK.nil (Ab.D.code (OK.seq (OK.reg ?_)))
    refine RK.c (S.move .none rfl (.tmp rfl rfl)) ?_
    refine RK.c (S.neq .none rfl (.tmp rfl rfl) (.cint rfl)) ?_
    refine RK.nil (Ab.D.code ?_)
    refine OK.condD rfl rfl (fun c21 => ?_) (fun c21 => ?_)
    ·
      refine OK.seq (OK.reg ?_)
      refine RK.c (S.move .none rfl (.tmp rfl rfl)) ?_
      refine RK.c (S.move .none rfl (.tmp rfl rfl)) ?_
      refine RK.c (S.assign .none rfl (.tmp rfl rfl)) ?_
      refine RK.c (S.assign .none rfl (.tmp rfl rfl)) ?_
      refine RK.nil (Ab.D.code ?_)
      refine OK.ret ⟨Ret.r2 (.tmp rfl rfl (.c (.same rfl) rfl) rfl) (.tmp rfl rfl (.c (.same rfl) rfl) rfl) ?_, (lk_res (by rw [hN, eachN_drop _ (by omega), if_pos c21])), trivial⟩
      refine ret_p ?_
      rw [hg, eachGo_drop _ (by omega), if_pos c21]
    ·
      refine OK.skip ?_
      refine Ab.D.blk ?_
      refine Ab.D.code (OK.reg ?_)
      refine RK.c (S.add .none rfl (.tmp rfl rfl) (.cint rfl) (IntWalk.i64_in _ (by omega)) (IntWalk.i64_in _ (by omega))) ?_
      refine RK.c (S.move .none rfl (.tmp rfl rfl)) ?_
      refine RK.nil ?_
      refine Ab.D.lp ⟨i + 1, ⟨by omega, ?_, ?_⟩, (by omega), rfl, rfl, rfl, rfl, rfl, trivial⟩
      · rw [hg, eachGo_drop _ (by omega), if_neg c21]
      · rw [hN, eachN_drop _ (by omega), if_neg c21]
  ·
    refine OK.exit rfl ?_
    refine Ab.D.code (OK.seq (OK.reg ?_))
    refine RK.c (S.assign .none rfl (.cint rfl)) ?_
    refine RK.c (S.assign .none rfl (.cint rfl)) ?_
    refine RK.nil (Ab.D.code ?_)
    refine OK.ret ⟨Ret.r2 (.tmp rfl rfl (.c (.same rfl) rfl) rfl) (.tmp rfl rfl (.c (.same rfl) rfl) rfl) ?_, (lk_res (by rw [hN, show i = l.length by omega, List.drop_length]; rfl)), trivial⟩
    refine ret_p ?_
    rw [hg, show i = l.length by omega, List.drop_length]
    rfl
end Go.Proofs.YtpmglnphhhlbdaaGreatDoor
