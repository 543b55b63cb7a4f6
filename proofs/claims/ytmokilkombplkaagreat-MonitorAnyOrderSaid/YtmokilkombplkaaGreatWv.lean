/-
  What is learned: without the reference of envelopes. The plain law.
-/
import Derived.Test.YtmokilkombplkaaGreatSh
import Derived.Test.YtmokilkombplkaaGreatFt
import Derived.Test.YtmokilkombplkaaGreatWu
namespace Go.Proofs.YtmokilkombplkaaGreat
open Go.Ab

theorem recs_key {p : Plan} {l : List Record} (h : recsErr p l = 0) : (1 ≤ l.length ∧ l.length ≤ 20) ∧ ∀ (k : Nat) (hk : k < l.length), (recChk p l[k]).2 = 0 ∧ (lostT l[k]).length = 0 := by
  unfold recsErr at h
  split at h
  · contradiction
  · split at h
    · contradiction
    · have h1 := eachGo_all _ l 0 h
      refine ⟨by omega, fun k hk => ?_⟩
      have h2 := h1 k hk
      unfold recsErr1 at h2
      split at h2
      · contradiction
      · split at h2
        · exact ⟨by omega, ‹_›⟩
        · contradiction
theorem eachGo_zero {α : Type} (g : Nat → α → Int) : ∀ (l : List α) (i : Nat), (∀ (j : Nat) (h : j < l.length), g (i + j) l[j] = 0) → eachGo g i l = (0, 0)
  | [], _, _ => rfl
  | x :: l, i, h => by
    have h0 := h 0 (by simp)
    simp only [Nat.add_zero, List.getElem_cons_zero] at h0
    rw [eachGo, if_neg (by rw [h0]; simp)]
    refine eachGo_zero g l (i + 1) fun j hj => ?_
    have := h (j + 1) (by simpa using hj)
    rw [List.getElem_cons_succ] at this
    rw [← this]
    congr 1
    omega
/-- Each value of a column is a record's. -/
theorem col_get {l : List Record} {t c k : Nat} (hk : k < l.length) (h1 : t < l[k].rows.length) (h2 : c < l[k].rows[t].values.length) : (col l t c)[k]'(by rw [col_len]; exact hk) = l[k].rows[t].values[c] := by
  unfold col
  rw [List.getElem_map]
  simp [List.getD, List.getElem?_eq_getElem h1, List.getElem?_eq_getElem h2]
structure LearnT (p : Plan) (l : List Record) : Prop where
  plan : planErr p = 0
  len : 1 ≤ l.length ∧ l.length ≤ 20
  chk : ∀ (k : Nat) (hk : k < l.length), (recChk p l[k]).2 = 0 ∧ (lostT l[k]).length = 0
  whole : WholeT p l
theorem learn_of {p : Plan} {l : List Record} (hp : planErr p = 0) (h : recsErr p l = 0) : LearnT p l := ⟨hp, (recs_key h).1, (recs_key h).2, whole_of h⟩
theorem col_val {p : Plan} {l : List Record} (h : LearnT p l) {t c : Nat} (ht : (t : Int) < p.ticks) (hc : c < p.channels.length) : ∀ v ∈ col l t c, -1000000 ≤ v ∧ v ≤ 1000000 := by
  intro v hv
  obtain ⟨k, hk, rfl⟩ := List.getElem_of_mem hv
  rw [col_len] at hk
  have h1 : t < l[k].rows.length := by have := h.whole.rows k hk; omega
  have h2 : c < l[k].rows[t].values.length := by have := h.whole.vals k hk t h1; omega
  rw [col_get hk h1 h2]
  exact (row_ok ((rec_rows (h.chk k hk).1).2 t h1)).2.2 c h2
theorem sorted_val {p : Plan} {l : List Record} (h : LearnT p l) {t c n : Nat} (ht : (t : Int) < p.ticks) (hc : c < p.channels.length) (hn : n < (sorted (col l t c)).length) : -1000000 ≤ (sorted (col l t c))[n] ∧ (sorted (col l t c))[n] ≤ 1000000 :=
  col_val h ht hc _ ((List.mergeSort_perm (col l t c) _).mem_iff.1 (List.getElem_mem hn))
theorem asc_le {s : List Int} (hs : s.Pairwise fun x y => x ≤ y) {i j : Nat} (h : i ≤ j) (hj : j < s.length) : s[i] ≤ s[j] := by
  rcases Nat.lt_or_ge i j with h1 | h1
  · exact List.pairwise_iff_getElem.1 hs i j (by omega) hj h1
  · have : i = j := by omega
    subst this
    exact Int.le_refl _
theorem row_get {p : Plan} {l : List Record} {trim : Int} {t c : Nat} (hc : c < (rowT p l trim t).length) : (rowT p l trim t)[c] = rangeT l trim t c := by
  simp [rowT]
theorem row_len (p : Plan) (l : List Record) (trim : Int) (t : Nat) : (rowT p l trim t).length = p.channels.length := by simp [rowT]
theorem env_get {p : Plan} {l : List Record} {trim : Int} {t : Nat} (ht : t < (envT p l trim).rows.length) : (envT p l trim).rows[t] = rowT p l trim t := by
  simp [envT]
theorem env_len (p : Plan) (l : List Record) (trim : Int) : (envT p l trim).rows.length = p.ticks.toNat := by simp [envT]
/-- What is learned is valid. -/
theorem learn_valid {p : Plan} {l : List Record} {trim : Int} (h : LearnT p l) (ht : trimErr trim l.length = 0) : envChk p (envT p l trim) = (0, 0) := by
  have hl := h.len
  have hp := planErr_0 h.plan
  have htr := trimErr_0 (by omega) ht
  have e1 : (envT p l trim).parts = l.length := rfl
  have e2 : (envT p l trim).trim = trim := rfl
  unfold envChk
  rw [e1, e2, if_neg (by omega), if_neg (by omega), env_len, if_neg (by omega)]
  refine eachGo_zero _ _ 0 fun t htl => ?_
  rw [env_get htl]
  rw [env_len] at htl
  unfold erowErr
  rw [row_len, if_neg (by omega)]
  have : eachGo (fun _ x => rangeErr x) 0 (rowT p l trim t) = (0, 0) := by
    refine eachGo_zero _ _ 0 fun c hc => ?_
    show rangeErr _ = 0
    rw [row_get hc]
    rw [row_len] at hc
    have hcl := col_len l t c
    have hsl := sorted_len (col l t c)
    have v1 := sorted_val h (show (t : Int) < p.ticks by omega) hc (show trim.toNat < _ by omega)
    have v2 := sorted_val h (show (t : Int) < p.ticks by omega) hc (show l.length - 1 - trim.toNat < _ by omega)
    have v3 := asc_le (sorted_asc (col l t c)) (show trim.toNat ≤ l.length - 1 - trim.toNat by omega) (by omega)
    unfold rangeErr rangeT
    rw [getD_of (by omega), getD_of (by omega)]
    rw [if_neg (by simp only; omega), if_pos v3]
  rw [this]
theorem devRow_nil {t : Nat} {rs : List Range} : ∀ (l : List Int) (c : Nat), (∀ (j : Nat) (h : j < l.length), devBy l[j] (rs.getD (c + j) ⟨0, 0⟩) = 0) → devRow t rs c l = []
  | [], _, _ => rfl
  | n :: l, c, h => by
    have h0 := h 0 (by simp)
    simp only [Nat.add_zero, List.getElem_cons_zero] at h0
    rw [devRow, devRow_nil l (c + 1) fun j hj => by
      have := h (j + 1) (by simpa using hj)
      rw [List.getElem_cons_succ] at this
      rw [show c + 1 + j = c + (j + 1) by omega]
      exact this]
    unfold devOne
    rw [h0, if_neg (by simp)]
    rfl
theorem devGo_nil {x : Envelope} : ∀ (l : List Row) (t : Nat), (∀ (i : Nat) (h : i < l.length) (j : Nat) (h2 : j < l[i].values.length), devBy l[i].values[j] ((x.rows.getD (t + i) []).getD j ⟨0, 0⟩) = 0) → devGo x t l = []
  | [], _, _ => rfl
  | r :: l, t, h => by
    rw [devGo, devGo_nil l (t + 1) fun i hi j hj => by
      have := h (i + 1) (by simpa using hi) j (by simpa using hj)
      simp only [List.getElem_cons_succ] at this
      rw [show t + 1 + i = t + (i + 1) by omega]
      exact this]
    rw [devRow_nil r.values 0 fun j hj => by
      have := h 0 (by simp) j (by simpa using hj)
      simp only [List.getElem_cons_zero, Nat.add_zero] at this
      rw [Nat.zero_add]
      exact this]
    rfl
/-- Without a trim no record deviates. -/
theorem learn_dev {p : Plan} {l : List Record} (h : LearnT p l) {k : Nat} (hk : k < l.length) : devT (envT p l 0) l[k] = [] := by
  refine devGo_nil _ 0 fun t ht c hc => ?_
  have hr := h.whole.rows k hk
  have hv := h.whole.vals k hk t ht
  have hc2 : c < p.channels.length := by omega
  have hl := h.len
  have e1 : (envT p l 0).rows.getD t [] = rowT p l 0 t := by rw [getD_at (by rw [env_len]; omega), env_get]
  rw [Nat.zero_add, e1, getD_at (by rw [row_len]; exact hc2), row_get]
  have hcl := col_len l t c
  have hsl := sorted_len (col l t c)
  have hm : l[k].rows[t].values[c] ∈ sorted (col l t c) := by
    rw [← col_get hk ht hc]
    exact (List.mergeSort_perm (col l t c) _).mem_iff.2 (List.getElem_mem _)
  obtain ⟨n, hn, e⟩ := List.getElem_of_mem hm
  have v1 := asc_le (sorted_asc (col l t c)) (show 0 ≤ n by omega) hn
  have v2 := asc_le (sorted_asc (col l t c)) (show n ≤ l.length - 1 by omega) (by omega)
  unfold devBy rangeT
  simp only [show (0 : Int).toNat = 0 from rfl, Nat.sub_zero]
  rw [getD_of (by omega), getD_of (by omega), if_neg (by omega), if_neg (by omega)]
  rfl
theorem learn_verdict {p : Plan} {l : List Record} (h : LearnT p l) {k : Nat} (hk : k < l.length) : bothErr p (envT p l 0) l[k] = 0 ∧ verdT (envT p l 0) l[k] = 0 := by
  have ht : trimErr 0 l.length = 0 := by
    have := h.len
    unfold trimErr
    have := Int.tdiv_nonneg (a := (l.length : Int) - 1) (b := 2) (by omega) (by omega)
    rw [if_pos (by omega)]
  have hv := learn_valid h ht
  have hc := h.chk k hk
  constructor
  · unfold bothErr
    rw [h.plan, hv]
    simp [hc.1]
  · unfold verdT
    rw [learn_dev h hk, if_neg (by simp), if_neg (by omega)]
/-- A greater trim is no wider. -/
theorem learn_lo {p : Plan} {l : List Record} {trim : Int} (h : LearnT p l) (ht : 0 ≤ trim ∧ 2 * trim ≤ l.length - 1) (t c : Nat) : (rangeT l 0 t c).lo ≤ (rangeT l trim t c).lo ∧ (rangeT l trim t c).hi ≤ (rangeT l 0 t c).hi := by
  have hcl := col_len l t c
  have hsl := sorted_len (col l t c)
  have hl := h.len
  have v1 := asc_le (sorted_asc (col l t c)) (show 0 ≤ trim.toNat by omega) (by omega)
  have v2 := asc_le (sorted_asc (col l t c)) (show l.length - 1 - trim.toNat ≤ l.length - 1 by omega) (by omega)
  unfold rangeT
  simp only [show (0 : Int).toNat = 0 from rfl, Nat.sub_zero]
  rw [getD_of (by omega), getD_of (by omega), getD_of (by omega), getD_of (by omega)]
  exact ⟨v1, v2⟩
def outC (l : List Int) (o : Range) : Nat := l.countP fun v => !decide (o.lo ≤ v ∧ v ≤ o.hi)
theorem cnt_le_sum (l : List Int) (a b : Int) : (l.countP fun v => !decide (a ≤ v ∧ v ≤ b)) ≤ (l.countP fun v => decide (v < a)) + l.countP fun v => decide (b < v) := by
  induction l with
  | nil => simp
  | cons x l ih =>
    rw [List.countP_cons, List.countP_cons, List.countP_cons]
    simp only [Bool.not_eq_true', decide_eq_false_iff_not, decide_eq_true_eq]
    split <;> split <;> split <;> omega
theorem asc_hi {s : List Int} (hs : s.Pairwise fun x y => x ≤ y) {n : Nat} (h : n < s.length) : s.countP (fun y => decide (s[n] < y)) ≤ s.length - 1 - n := by
  have h1 := (asc_cnt hs h).2
  have h2 : s.countP (fun y => decide (y ≤ s[n])) + s.countP (fun y => decide (s[n] < y)) = s.length := by
    generalize s[n] = x
    clear h1 hs h
    induction s with
    | nil => rfl
    | cons a s ih =>
      rw [List.countP_cons, List.countP_cons, List.length_cons]
      simp only [decide_eq_true_eq]
      split <;> split <;> omega
  omega
/-- At most twice the trim lie outside. -/
theorem learn_out {l : List Record} {trim : Int} (hl : 1 ≤ l.length) (ht : 0 ≤ trim ∧ 2 * trim ≤ l.length - 1) (t c : Nat) : (outC (col l t c) (rangeT l trim t c) : Int) ≤ 2 * trim := by
  have hcl := col_len l t c
  have hsl := sorted_len (col l t c)
  unfold outC rangeT
  rw [getD_of (by omega), getD_of (by omega)]
  dsimp only
  have h1 := (asc_cnt (sorted_asc (col l t c)) (show trim.toNat < _ by omega)).1
  have h2 := asc_hi (sorted_asc (col l t c)) (show l.length - 1 - trim.toNat < _ by omega)
  rw [sorted_cnt] at h1 h2
  have h3 := cnt_le_sum (col l t c) (sorted (col l t c))[trim.toNat] (sorted (col l t c))[l.length - 1 - trim.toNat]
  omega
/-- A record more makes no range narrower. -/
theorem learn_more {l : List Record} {trim : Int} (hl : 1 ≤ (l.dropLast).length) (ht : 0 ≤ trim ∧ 2 * trim ≤ (l.dropLast).length - 1) (t c : Nat) : (rangeT l trim t c).lo ≤ (rangeT l.dropLast trim t c).lo ∧ (rangeT l.dropLast trim t c).hi ≤ (rangeT l trim t c).hi := by
  have hd : col l.dropLast t c = (col l t c).take (l.length - 1) := by
    unfold col
    rw [List.dropLast_eq_take, List.map_take]
  have hcnt : ∀ g : Int → Bool, (col l.dropLast t c).countP g ≤ (col l t c).countP g := fun g => by
    rw [hd]
    exact (List.take_sublist _ _).countP_le
  have hcl := col_len l t c
  have hsl := sorted_len (col l t c)
  have hcl2 := col_len l.dropLast t c
  have hsl2 := sorted_len (col l.dropLast t c)
  have hdl : l.dropLast.length = l.length - 1 := List.length_dropLast
  have a1 := sorted_asc (col l t c)
  have a2 := sorted_asc (col l.dropLast t c)
  unfold rangeT
  rw [getD_of (by omega), getD_of (by omega), getD_of (by omega), getD_of (by omega)]
  constructor
  · have h1 := (asc_cnt a2 (show trim.toNat < _ by omega)).2
    generalize (sorted (col l.dropLast t c))[trim.toNat]'(by omega) = y at h1
    rw [sorted_cnt] at h1
    have h2 := hcnt fun v => decide (v ≤ y)
    have h3 := (asc_cnt a1 (show trim.toNat < _ by omega)).1
    rcases Int.lt_or_le y ((sorted (col l t c))[trim.toNat]'(by omega)) with h4 | h4
    · exfalso
      have h5 : (sorted (col l t c)).countP (fun v => decide (v ≤ y)) ≤ (sorted (col l t c)).countP fun v => decide (v < (sorted (col l t c))[trim.toNat]'(by omega)) := List.countP_mono_left fun v _ hv => by
        simp only [decide_eq_true_eq] at *
        omega
      rw [sorted_cnt] at h5
      omega
    · exact h4
  · have h1 := (asc_cnt a2 (show l.dropLast.length - 1 - trim.toNat < _ by omega)).1
    generalize (sorted (col l.dropLast t c))[l.dropLast.length - 1 - trim.toNat]'(by omega) = y at h1
    rw [sorted_cnt] at h1
    have hge : ∀ s : List Int, s.countP (fun v => decide (v < y)) + s.countP (fun v => decide (y ≤ v)) = s.length := fun s => by
      induction s with
      | nil => rfl
      | cons a s ih =>
        rw [List.countP_cons, List.countP_cons, List.length_cons]
        simp only [decide_eq_true_eq]
        split <;> split <;> omega
    have h0 := hge (col l.dropLast t c)
    have h2 := hcnt fun v => decide (y ≤ v)
    have h3 := asc_hi a1 (show l.length - 1 - trim.toNat < _ by omega)
    rcases Int.lt_or_le ((sorted (col l t c))[l.length - 1 - trim.toNat]'(by omega)) y with h4 | h4
    · exfalso
      have h5 : (sorted (col l t c)).countP (fun v => decide (y ≤ v)) ≤ (sorted (col l t c)).countP fun v => decide ((sorted (col l t c))[l.length - 1 - trim.toNat]'(by omega) < v) := List.countP_mono_left fun v _ hv => by
        simp only [decide_eq_true_eq] at *
        omega
      rw [sorted_cnt] at h5
      omega
    · exact h4
theorem out_snoc {l : List Record} {o : Range} {k t c : Nat} (h : k < l.length) (h1 : t < l[k].rows.length) (h2 : c < l[k].rows[t].values.length) : outC (col (l.take (k + 1)) t c) o = outC (col (l.take k) t c) o + if o.lo ≤ l[k].rows[t].values[c] ∧ l[k].rows[t].values[c] ≤ o.hi then 0 else 1 := by
  rw [← col_snoc h h1 h2]
  unfold outC
  rw [List.countP_append, List.countP_cons, List.countP_nil, Nat.zero_add]
  congr 1
  split <;> split <;> simp_all


end Go.Proofs.YtmokilkombplkaaGreat
