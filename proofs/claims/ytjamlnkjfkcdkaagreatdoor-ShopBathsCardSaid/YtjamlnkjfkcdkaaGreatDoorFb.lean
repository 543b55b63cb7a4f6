/-
  A region that draws its order: one walk in the order of the text serves every order, where any two operations that touch one key are ordered by the region's edges.
-/
import Derived.Test.YtjamlnkjfkcdkaaGreatDoorFa
namespace Go.Ab
open Go.RowKit

def stD : List Lab → (Nat → Bool) → St → St
  | [], _, s => s
  | b :: L, D, s => stD L (fun j => D (j + 1)) (if D 0 then b.wr ++ s else s)
def uD : List Lab → (Nat → Bool) → List Nat → List Nat
  | [], _, u => u
  | b :: L, D, u => uD L (fun j => D (j + 1)) (if D 0 then b.al ++ u else u)
def lastw : List Lab → (Nat → Bool) → Nat → Option X
  | [], _, _ => none
  | b :: L, D, k => (lastw L (fun j => D (j + 1)) k).or (if D 0 then look b.wr k else none)

theorem look_stD {k : Nat} : ∀ (L : List Lab) (D : Nat → Bool) (s : St), look (stD L D s) k = (lastw L D k).or (look s k)
  | [], _, _ => by simp [stD, lastw]
  | b :: L, D, s => by
    rw [stD, look_stD L, lastw, Option.or_assoc]
    congr 1
    by_cases h : D 0 = true
    · simp only [h, if_true, look_append]
    · simp [h]
theorem lastw_congr {k : Nat} : ∀ (L : List Lab) (D D' : Nat → Bool), (∀ (j : Nat) (b : Lab), L[j]? = some b → look b.wr k ≠ none → D j = D' j) → lastw L D k = lastw L D' k
  | [], _, _, _ => rfl
  | b :: L, D, D', h => by
    rw [lastw, lastw, lastw_congr L (fun j => D (j + 1)) (fun j => D' (j + 1)) (fun j b' hb hn => h (j + 1) b' (by simpa using hb) hn)]
    congr 1
    by_cases hn : look b.wr k = none
    · simp [hn]
    · rw [h 0 b (by simp) hn]
theorem mem_uD {k : Nat} : ∀ (L : List Lab) (D : Nat → Bool) (u : List Nat), k ∈ uD L D u ↔ k ∈ u ∨ ∃ (j : Nat) (b : Lab), L[j]? = some b ∧ D j = true ∧ k ∈ b.al
  | [], _, _ => by simp [uD]
  | b :: L, D, u => by
    rw [uD, mem_uD L]
    constructor
    · rintro (h | ⟨j, b', hb, hd, hk⟩)
      · by_cases h0 : D 0 = true
        · simp only [h0, if_true, List.mem_append] at h
          rcases h with h | h
          · exact .inr ⟨0, b, by simp, h0, h⟩
          · exact .inl h
        · simp only [h0] at h; exact .inl h
      · exact .inr ⟨j + 1, b', by simpa using hb, hd, hk⟩
    · rintro (h | ⟨j, b', hb, hd, hk⟩)
      · refine .inl ?_; split
        · exact List.mem_append_right _ h
        · exact h
      · cases j with
        | zero => simp at hb; subst hb; exact .inl (by simp [hd, hk])
        | succ j => exact .inr ⟨j, b', by simpa using hb, hd, hk⟩
theorem stD_false : ∀ (L : List Lab) (s : St), stD L (fun _ => false) s = s
  | [], _ => rfl
  | _ :: L, s => by simpa [stD] using stD_false L s
theorem uD_false : ∀ (L : List Lab) (s : List Nat), uD L (fun _ => false) s = s
  | [], _ => rfl
  | _ :: L, s => by simpa [uD] using uD_false L s

section
variable {E : Env} {all : Array Oper}
theorem Lx.length {l : List Oper} {U U' : List Nat} {s s' : St} {L : List Lab} (h : Lx E all l U s L U' s') : L.length = l.length := by
  induction h with
  | nil => rfl
  | cons _ _ _ _ ih => simp [ih]
theorem Lx.stAll {l : List Oper} {U U' : List Nat} {s s' : St} {L : List Lab} (h : Lx E all l U s L U' s') : ∀ D : Nat → Bool, (∀ j, j < l.length → D j = true) → stD L D s = s' ∧ uD L D U = U' := by
  induction h with
  | nil => intro D _; exact ⟨rfl, rfl⟩
  | cons _ _ _ _ ih =>
    intro D hD
    have h0 : D 0 = true := hD 0 (by simp)
    have := ih (fun j => D (j + 1)) (fun j hj => hD (j + 1) (by simp; omega))
    simpa [stD, uD, h0] using this
theorem Lx.at {l : List Oper} {U U' : List Nat} {s s' : St} {L : List Lab} (h : Lx E all l U s L U' s') : ∀ (i : Nat) (b : Lab), L[i]? = some b →
    ∃ o, l[i]? = some o ∧ Step E all o b.rd b.wr b.al ∧ Looks (stD L (fun j => decide (j < i)) s) b.rd ∧ ∀ k ∈ b.al, k ∉ uD L (fun j => decide (j < i)) U := by
  induction h with
  | nil => intro i b hb; simp at hb
  | @cons o l U U' s s' L rd wr al hs hl hal _ ih =>
    intro i b hb
    cases i with
    | zero =>
      simp at hb
      subst hb
      refine ⟨o, rfl, hs, ?_, ?_⟩
      · have : (fun j => decide (j < 0)) = (fun _ : Nat => false) := by funext j; simp
        rw [this, stD_false]; exact hl
      · have : (fun j => decide (j < 0)) = (fun _ : Nat => false) := by funext j; simp
        rw [this, uD_false]
        intro k hk
        simpa using (List.all_eq_true.1 hal) k hk
    | succ i =>
      obtain ⟨o', ho, h1, h2, h3⟩ := ih i b (by simpa using hb)
      refine ⟨o', by simpa using ho, h1, ?_, ?_⟩
      · have : (fun j => decide (j + 1 < i + 1)) = (fun j => decide (j < i)) := by funext j; simp
        simpa [stD, this] using h2
      · have : (fun j => decide (j + 1 < i + 1)) = (fun j => decide (j < i)) := by funext j; simp
        simpa [uD, this] using h3
end

/-- What an operation is surely done after. -/
def closE (acc : List Nat) : List Edge → Nat
  | [] => 0
  | e :: l => if Region.binds .any e then (2 ^ e.on ||| acc.getD e.on 0) ||| closE acc l else closE acc l
def clos : List Oper → List Nat → List Nat
  | [], acc => acc
  | o :: l, acc => clos l (acc ++ [closE acc o.after.toList])
def keyIn (k : Nat) : St → Bool
  | [] => false
  | p :: s => Nat.beq p.1 k || keyIn k s
def meets : St → St → Bool
  | [], _ => false
  | p :: s, t => keyIn p.1 t || meets s t
def clash (a b : Lab) : Bool := meets a.wr b.rd || meets a.wr b.wr || meets a.rd b.wr
def clashOk (cl : List Nat) : Nat → List Lab → Nat → Lab → Bool
  | _, [], _, _ => true
  | i, a :: L, j, b => (!(Nat.blt i j) || !clash a b || Nat.testBit (cl.getD j 0) i) && clashOk cl (i + 1) L j b
def clashAll (cl : List Nat) (L : List Lab) : Nat → List Lab → Bool
  | _, [] => true
  | j, b :: M => clashOk cl 0 L j b && clashAll cl L (j + 1) M
def downOk : Nat → List Oper → Bool
  | _, [] => true
  | i, o :: l => (o.after.toList.all fun e => !Region.binds .any e || Nat.blt e.on i) && downOk (i + 1) l
def drawOk (l : List Oper) (L : List Lab) : Bool := downOk 0 l && clashAll (clos l []) L 0 L

theorem keyIn_of {k : Nat} : ∀ {s : St} {x : X}, look s k = some x → keyIn k s = true
  | p :: s, x, h => by
    simp only [look] at h
    simp only [keyIn, Bool.or_eq_true]
    split at h
    · rename_i hb; exact .inl hb
    · exact .inr (keyIn_of h)
theorem keyIn_mem {k : Nat} : ∀ {s : St}, keyIn k s = false → ∀ p ∈ s, p.1 ≠ k
  | [], _, p, hp => by cases hp
  | q :: s, h, p, hp => by
    simp only [keyIn, Bool.or_eq_false_iff] at h
    rcases List.mem_cons.1 hp with rfl | hp
    · intro e; rw [e, Nat.beq_refl] at h; cases h.1
    · exact keyIn_mem h.2 p hp
theorem meets_false {k : Nat} : ∀ {s t : St}, meets s t = false → (∃ p ∈ s, p.1 = k) → ∀ p ∈ t, p.1 ≠ k
  | [], _, _, ⟨p, hp, _⟩ => by cases hp
  | q :: s, t, h, ⟨p, hp, hk⟩ => by
    simp only [meets, Bool.or_eq_false_iff] at h
    rcases List.mem_cons.1 hp with rfl | hp
    · subst hk; exact keyIn_mem h.1
    · exact meets_false h.2 ⟨p, hp, hk⟩

def Closed (l : List Oper) (D : Nat → Bool) : Prop := ∀ (i : Nat) (o : Oper), l[i]? = some o → D i = true → ∀ e ∈ o.after, Region.binds .any e = true → D e.on = true
def ReadyAt (l : List Oper) (D : Nat → Bool) (j : Nat) : Prop := ∀ o, l[j]? = some o → ∀ e ∈ o.after, Region.binds .any e = true → D e.on = true

theorem closE_bit {acc : List Nat} {i : Nat} : ∀ {es : List Edge}, (closE acc es).testBit i = true → ∃ e ∈ es, Region.binds .any e = true ∧ (e.on = i ∨ (acc.getD e.on 0).testBit i = true)
  | [], h => by simp [closE] at h
  | e :: es, h => by
    simp only [closE] at h
    split at h
    · rename_i hb
      rw [Nat.testBit_or, Nat.testBit_or, Nat.testBit_two_pow, Bool.or_eq_true, Bool.or_eq_true, decide_eq_true_eq] at h
      rcases h with h | h
      · exact ⟨e, List.mem_cons_self, hb, h⟩
      · obtain ⟨e', h1, h2⟩ := closE_bit h
        exact ⟨e', List.mem_cons_of_mem _ h1, h2⟩
    · obtain ⟨e', h1, h2⟩ := closE_bit h
      exact ⟨e', List.mem_cons_of_mem _ h1, h2⟩
theorem clos_sound {l : List Oper} {D : Nat → Bool} (hc : Closed l D) : ∀ (m pre : List Oper) (acc : List Nat), l = pre ++ m → acc.length = pre.length →
    (∀ j i, (acc.getD j 0).testBit i = true → ReadyAt l D j → D i = true) → ∀ j i, ((clos m acc).getD j 0).testBit i = true → j < l.length → ReadyAt l D j → D i = true
  | [], _, acc, _, _, h, j, i, hi, _, hr => h j i hi hr
  | o :: m, pre, acc, hl, hlen, h, j, i, hi, hj, hr => by
    refine clos_sound hc m (pre ++ [o]) _ (by simp [hl]) (by simp [hlen]) ?_ j i hi hj hr
    intro j i hi hr
    by_cases hlt : j < acc.length
    · rw [List.getD_eq_getElem?_getD, List.getElem?_append_left hlt, ← List.getD_eq_getElem?_getD] at hi
      exact h j i hi hr
    · by_cases hje : j = acc.length
      · subst hje
        have ho : l[acc.length]? = some o := by rw [hl, hlen]; simp
        simp only [List.getD_eq_getElem?_getD, List.getElem?_concat_length, Option.getD_some] at hi
        obtain ⟨e, he, hb, hi⟩ := closE_bit hi
        have he' : e ∈ o.after := by simpa using he
        have hD := hr o ho e he' hb
        rcases hi with rfl | hi
        · exact hD
        · exact h e.on i hi fun o' ho' e' he'' hb' => hc e.on o' ho' hD e' he'' hb'
      · have : (acc ++ [closE acc o.after.toList]).getD j 0 = 0 := by
          rw [List.getD_eq_getElem?_getD, List.getElem?_eq_none (by simp; omega)]; rfl
        rw [this, Nat.zero_testBit] at hi; cases hi

theorem clashOk_spec {cl : List Nat} {j : Nat} {b : Lab} : ∀ {L : List Lab} {k : Nat}, clashOk cl k L j b = true → ∀ (i : Nat) (a : Lab), L[i]? = some a → k + i < j → clash a b = true → (cl.getD j 0).testBit (k + i) = true
  | [], _, _, i, a, h, _, _ => by simp at h
  | c :: L, k, h, i, a, hi, hlt, hcl => by
    simp only [clashOk, Bool.and_eq_true, Bool.or_eq_true] at h
    cases i with
    | zero =>
      simp at hi; subst hi
      rcases h.1 with (h1 | h1) | h1
      · have hb : Nat.blt k j = true := by rw [Nat.blt_eq]; omega
        rw [hb] at h1; cases h1
      · rw [hcl] at h1; cases h1
      · exact h1
    | succ i =>
      have := clashOk_spec h.2 i a (by simpa using hi) (by omega) hcl
      rwa [show k + (i + 1) = k + 1 + i by omega]
theorem clashAll_spec {cl : List Nat} {L : List Lab} : ∀ {M : List Lab} {k : Nat}, clashAll cl L k M = true → ∀ (j : Nat) (b : Lab), M[j]? = some b → clashOk cl 0 L (k + j) b = true
  | [], _, _, j, b, h => by simp at h
  | c :: M, k, h, j, b, hj => by
    simp only [clashAll, Bool.and_eq_true] at h
    cases j with
    | zero => simp at hj; subst hj; exact h.1
    | succ j =>
      have := clashAll_spec h.2 j b (by simpa using hj)
      rwa [show k + (j + 1) = k + 1 + j by omega]
theorem downOk_spec : ∀ {l : List Oper} {k : Nat}, downOk k l = true → ∀ (i : Nat) (o : Oper), l[i]? = some o → ∀ e ∈ o.after, Region.binds .any e = true → e.on < k + i
  | [], _, _, i, o, h => by simp at h
  | c :: l, k, h, i, o, hi => by
    simp only [downOk, Bool.and_eq_true] at h
    cases i with
    | zero =>
      simp at hi; subst hi
      intro e he hb
      have := (List.all_eq_true.1 h.1) e (by simpa using he)
      simp only [hb, Bool.not_true, Bool.false_or, Nat.blt, Nat.ble_eq] at this
      omega
    | succ i =>
      intro e he hb
      have := downOk_spec h.2 i o (by simpa using hi) e he hb
      omega

theorem Base.moreU {E : Env} {U U' : List Nat} {c : Ctx} {a : Act} {w : World} (h : Base E U c a w) (hu : ∀ k, k ∈ U → k ∈ U') : Base E U' c a w :=
  ⟨h.below, h.hB, h.nt, h.dfr, h.pin, h.hw, h.hle, h.hnew, h.loc, h.arr, fun k hk => h.used k fun hm => hk (hu k hm), h.Y, h.loc0, h.arr0⟩
theorem Base.drew {E : Env} {U : List Nat} {c : Ctx} {a : Act} {w : World} (h : Base E U c a w) : Base E U c a w.drew :=
  ⟨h.below.drew, h.hB, h.nt, h.dfr, h.pin, h.hw, h.hle, h.hnew, h.loc, h.arr, h.used, h.Y, h.loc0, h.arr0⟩
theorem Good.drew {E : Env} {U : List Nat} {s : St} {a : Act} {w : World} (h : Good E U s a w) : Good E U s a w.drew := by
  obtain ⟨c, hb, hh⟩ := h
  refine ⟨c, hb.drew, fun key x hx => ?_⟩
  have h1 := hh key x hx
  unfold Holds at h1 ⊢
  split
  · rename_i hk; rwa [if_pos hk] at h1
  · rename_i hk
    rw [if_neg hk] at h1
    refine or_snd h1 fun h1 => ?_
    split
    · rename_i hk2; rwa [if_pos hk2] at h1
    · rename_i hk2
      rw [if_neg hk2] at h1
      split
      · rename_i hk3; rwa [if_pos hk3] at h1
      · rename_i hk3
        rw [if_neg hk3] at h1
        obtain ⟨hk0, J, h2, h3, h4⟩ := h1
        exact ⟨hk0, J, h2, h3, h3 _ _ _ _ _ h4 (Mem.le_refl _) (fun _ _ e => .inl e) hb.drew.hw (BelX.refl _ _ _).drew (fun _ _ => rfl)⟩

theorem repl_getD (n j : Nat) : (Array.replicate n false).getD j false = false := by
  simp only [Array.getD, Array.size_replicate]
  split
  · simp
  · rfl
def unl (l : List Bool) : Nat := (l.filter (!·)).length
theorem unl_set : ∀ (l : List Bool) (i : Nat), l[i]? = some false → unl (l.set i true) + 1 = unl l
  | [], _, h => by simp at h
  | b :: l, 0, h => by simp at h; subst h; simp [unl]
  | b :: l, i + 1, h => by
    have := unl_set l i (by simpa using h)
    cases b <;> simp [unl] at this ⊢ <;> omega
theorem unl_zero : ∀ (l : List Bool), unl l = 0 → ∀ j, j < l.length → l.getD j false = true
  | [], _, j, h => by simp at h
  | b :: l, h, j, hj => by
    simp only [unl, List.filter_cons] at h
    cases b with
    | false => simp at h
    | true =>
      cases j with
      | zero => rfl
      | succ j => simpa using unl_zero l (by simpa [unl] using h) j (by simpa using hj)

section
variable {E : Env} {l : List Oper} {U U' : List Nat} {s s' : St} {L : List Lab}
theorem draw_any (h : Lx E l.toArray l U s L U' s') (hc : drawOk l L = true) (Q : Exit → Act → World → Prop) (hQ : ∀ a w, Good E U' s' a w → Q .normal a w) :
    ∀ (fuel : Nat) (listed : Array Bool) (a : Act) (w : World), listed.size = l.length → unl listed.toList ≤ fuel → Closed l (fun j => listed.getD j false) →
      Good E (uD L (fun j => listed.getD j false) U) (stD L (fun j => listed.getD j false) s) a w → wpAnyIn E.F 0 E.P .any l.toArray Q fuel listed a w := by
  simp only [drawOk, Bool.and_eq_true] at hc
  obtain ⟨hdown, hclash⟩ := hc
  have hlen := h.length
  have fin : ∀ (listed : Array Bool) (a : Act) (w : World), listed.size = l.length → Good E (uD L (fun j => listed.getD j false) U) (stD L (fun j => listed.getD j false) s) a w →
      Region.ready .any l.toArray listed = [] → Q .normal a w := by
    intro listed a w hsz hg hr
    have hall : ∀ j, j < l.length → listed.getD j false = true := by
      intro j
      induction j using Nat.strongRecOn with
      | _ j ih =>
        intro hj
        by_cases hd : listed.getD j false = true
        · exact hd
        · exfalso
          have hmem : j ∈ Region.ready .any l.toArray listed := by
            rw [mem_ready]
            refine ⟨?_, l[j], by simp [hj], fun e he hb => ?_⟩
            · have hj' : j < listed.size := by omega
              simp [Array.getElem?_eq_getElem hj'] at hd ⊢
              exact hd
            · have := downOk_spec hdown j l[j] (by simp [hj]) e he hb
              exact ih e.on (by omega) (by omega)
          rw [hr] at hmem
          cases hmem
    have := h.stAll _ hall
    rw [this.1, this.2] at hg
    exact hQ a w hg
  intro fuel
  induction fuel with
  | zero =>
    intro listed a w hsz hun hcl hg
    have hall : ∀ j, j < l.length → listed.getD j false = true := fun j hj => by
      have := unl_zero listed.toList (by omega) j (by simpa [hsz] using hj)
      simpa using this
    have hr : Region.ready .any l.toArray listed = [] := by
      rw [List.eq_nil_iff_forall_not_mem]
      intro j hj
      obtain ⟨h0, o, ho, _⟩ := mem_ready.1 hj
      have hj' : j < l.length := by simpa using (Array.getElem?_eq_some_iff.1 ho).1
      have := hall j hj'
      have hj2 : j < listed.size := by omega
      simp [Array.getElem?_eq_getElem hj2] at h0 this
      rw [h0] at this; cases this
    exact ⟨hr, fin listed a w hsz hg hr⟩
  | succ fuel ih =>
    intro listed a w hsz hun hcl hg
    refine ⟨fin listed a w hsz hg, fun i hi => ?_⟩
    obtain ⟨h0, o, ho, hedges⟩ := mem_ready.1 hi
    have hil : i < l.length := by simpa using (Array.getElem?_eq_some_iff.1 ho).1
    have hio : l[i]? = some o := by simpa using ho
    have hiL : i < L.length := by omega
    have hisz : i < listed.size := by omega
    have hbi : L[i]? = some L[i] := List.getElem?_eq_getElem hiL
    have hDi : listed.getD i false = false := by
      simp [Array.getElem?_eq_getElem hisz] at h0 ⊢; exact h0
    obtain ⟨o', ho', hstep, hlook, hfresh⟩ := h.at i L[i] hbi
    rw [hio] at ho'; cases ho'
    have hready : ReadyAt l (fun j => listed.getD j false) i := fun o' ho' e he hb => by
      rw [hio] at ho'; cases ho'; exact hedges e he hb
    -- of two operations that clash, who comes first has been done, or will not be done before
    have ord : ∀ (j : Nat) (b : Lab), L[j]? = some b → (clash b L[i] = true ∨ clash L[i] b = true) → j ≠ i → listed.getD j false = decide (j < i) := by
      intro j b hb hcla hne
      have hjl : j < l.length := by rw [← hlen]; exact (List.getElem?_eq_some_iff.1 hb).1
      have sym : ∀ x y : Lab, clash x y = true → clash y x = true := by
        intro x y hxy
        have comm : ∀ s t : St, meets s t = true → meets t s = true := by
          intro s t hst
          cases hts : meets t s with
          | true => rfl
          | false =>
            exfalso
            have : ∀ s t : St, meets s t = true → ∃ p ∈ s, keyIn p.1 t = true := by
              intro s
              induction s with
              | nil => intro t h; simp [meets] at h
              | cons p s ih => intro t h; simp only [meets, Bool.or_eq_true] at h; rcases h with h | h
                               · exact ⟨p, List.mem_cons_self, h⟩
                               · obtain ⟨q, hq, hk⟩ := ih t h; exact ⟨q, List.mem_cons_of_mem _ hq, hk⟩
            obtain ⟨p, hp, hk⟩ := this s t hst
            have : ∃ q ∈ t, q.1 = p.1 := by
              have kk : ∀ (t : St), keyIn p.1 t = true → ∃ q ∈ t, q.1 = p.1 := by
                intro t
                induction t with
                | nil => intro h; simp [keyIn] at h
                | cons q t ih => intro h; simp only [keyIn, Bool.or_eq_true] at h; rcases h with h | h
                                 · exact ⟨q, List.mem_cons_self, Nat.eq_of_beq_eq_true h⟩
                                 · obtain ⟨q', hq, he⟩ := ih h; exact ⟨q', List.mem_cons_of_mem _ hq, he⟩
              exact kk t hk
            exact meets_false hts this p hp rfl
        simp only [clash, Bool.or_eq_true] at hxy ⊢
        rcases hxy with (h1 | h1) | h1
        · exact .inr (comm _ _ h1)
        · exact .inl (.inr (comm _ _ h1))
        · exact .inl (.inl (comm _ _ h1))
      rcases Nat.lt_or_ge j i with hlt | hge
      · have hk : clash b L[i] = true := hcla.elim id (sym _ _)
        have hsp := clashOk_spec (clashAll_spec hclash i L[i] hbi) j b hb (by omega) hk
        simp only [Nat.zero_add] at hsp
        have := clos_sound hcl l [] [] rfl rfl (by simp) i j hsp hil hready
        simpa [hlt] using this
      · have hgt : i < j := by omega
        have hk : clash L[i] b = true := hcla.elim (sym _ _) id
        have hsp := clashOk_spec (clashAll_spec hclash j b hb) i L[i] hbi (by omega) hk
        simp only [Nat.zero_add] at hsp
        cases hdj : listed.getD j false with
        | false => simp; omega
        | true =>
          exfalso
          have := clos_sound hcl l [] [] rfl rfl (by simp) j i hsp hjl (fun o' ho' e he hb' => hcl j o' ho' hdj e he hb')
          simp only [hDi] at this
          cases this
    -- the state in which it is done
    obtain ⟨c, hbase, hholds⟩ := hg
    refine opIn_wpOpIn ho ?_
    refine hstep _ c a w hbase ?_ ?_ _ Q ?_
    · intro p hp
      refine hholds _ _ ?_
      have hx := hlook.all p hp
      rw [look_stD] at hx ⊢
      rw [lastw_congr L (fun j => listed.getD j false) (fun j => decide (j < i)) fun j b hb hn => ?_]
      · exact hx
      · by_cases hji : j = i
        · subst hji; simp [hDi]
        · refine ord j b hb ?_ hji
          left
          simp only [clash, Bool.or_eq_true]
          left; left
          cases hm : meets b.wr L[i].rd with
          | true => rfl
          | false =>
            exfalso
            obtain ⟨y, hy⟩ : ∃ y, look b.wr p.1 = some y := by cases hq : look b.wr p.1 with | none => exact absurd hq hn | some y => exact ⟨y, rfl⟩
            exact meets_false hm ⟨_, look_mem hy, rfl⟩ p hp rfl
    · intro k hk hmem
      rcases (mem_uD L _ U).1 hmem with hu | ⟨j, b, hb, hd, hkb⟩
      · exact hfresh k hk ((mem_uD L _ U).2 (.inl hu))
      · by_cases hji : j = i
        · subst hji; simp only [hDi] at hd; cases hd
        · rcases Nat.lt_or_ge j i with hlt | hge
          · exact hfresh k hk ((mem_uD L _ U).2 (.inr ⟨j, b, hb, by simpa using hlt, hkb⟩))
          · obtain ⟨_, _, _, _, hfj⟩ := h.at j b hb
            exact hfj k hkb ((mem_uD L _ U).2 (.inr ⟨i, L[i], hbi, by simp; omega, hk⟩))
    · intro c' a' w' hbase' _ hwr hfr
      have hset : ∀ j, (listed.setIfInBounds i true).getD j false = if j = i then true else listed.getD j false := by
        intro j
        by_cases hji : j = i
        · subst hji; simp [hisz]
        · rw [if_neg hji, getD_set_ne false (Ne.symm hji)]
      refine ih _ a' w' (by simpa using hsz) ?_ ?_ ⟨c', hbase'.moreU ?_, ?_⟩
      · have := unl_set listed.toList i (by
          simp only [Array.getElem?_toList, Array.getElem?_eq_getElem hisz]
          simp [Array.getElem?_eq_getElem hisz] at hDi
          rw [hDi])
        simp only [Array.toList_setIfInBounds]
        omega
      · intro j o' ho' hd e he hb
        simp only [hset] at hd ⊢
        split
        · rfl
        · by_cases hji : j = i
          · subst hji; rw [hio] at ho'; cases ho'; exact hedges e he hb
          · rw [if_neg hji] at hd; exact hcl j o' ho' hd e he hb
      · intro k hk
        rw [mem_uD]
        rcases List.mem_append.1 hk with hk | hk
        · exact .inr ⟨i, L[i], hbi, by simp [hset], hk⟩
        · rcases (mem_uD L _ U).1 hk with hu | ⟨j, b, hb, hd, hkb⟩
          · exact .inl hu
          · exact .inr ⟨j, b, hb, by simp only [hset]; split; rfl; exact hd, hkb⟩
      · intro key x hx
        by_cases hkw : look L[i].wr key = none
        · refine hfr key x (look_none.1 hkw) (hholds key x ?_)
          rw [look_stD] at hx ⊢
          rw [← hx]
          congr 1
          refine lastw_congr L _ _ fun j b hb hn => ?_
          rw [hset]
          split
          · rename_i hji; subst hji; rw [hbi] at hb; cases hb; exact absurd hkw hn
          · rfl
        · obtain ⟨y, hy⟩ : ∃ y, look L[i].wr key = some y := by cases hq : look L[i].wr key with | none => exact absurd hq hkw | some y => exact ⟨y, rfl⟩
          have hxy : x = y := by
            rw [look_stD, lastw_congr L _ (fun j => decide (j < i + 1)) fun j b hb hn => ?_] at hx
            · have hat : lastw L (fun j => decide (j < i + 1)) key = some y := by
                have : ∀ (L : List Lab) (i : Nat) (b : Lab) (y : X), L[i]? = some b → look b.wr key = some y → lastw L (fun j => decide (j < i + 1)) key = some y := by
                  intro L
                  induction L with
                  | nil => intro i b y h; simp at h
                  | cons c L ihL =>
                    intro i b y hb hy
                    cases i with
                    | zero =>
                      simp at hb; subst hb
                      have hz : lastw L (fun j => decide (j + 1 < 0 + 1)) key = none := by
                        have : ∀ M : List Lab, lastw M (fun _ => false) key = none := by
                          intro M; induction M with
                          | nil => rfl
                          | cons d M ihM => simpa [lastw] using ihM
                        have he : (fun j => decide (j + 1 < 0 + 1)) = (fun _ : Nat => false) := by funext j; simp
                        rw [he]; exact this L
                      rw [lastw, hz]; simpa using hy
                    | succ i =>
                      have he : (fun j => decide (j + 1 < i + 1 + 1)) = (fun j => decide (j < i + 1)) := by funext j; simp
                      rw [lastw, he, ihL i b y (by simpa using hb) hy]; rfl
                exact this L i L[i] y hbi hy
              rw [hat] at hx
              cases hx; rfl
            · rw [hset]
              split
              · rename_i hji; subst hji; simp
              · rename_i hji
                have := ord j b hb (by
                  left
                  simp only [clash, Bool.or_eq_true]
                  left; right
                  cases hm : meets b.wr L[i].wr with
                  | true => rfl
                  | false =>
                    exfalso
                    obtain ⟨z, hz⟩ : ∃ z, look b.wr key = some z := by cases hq : look b.wr key with | none => exact absurd hq hn | some z => exact ⟨z, rfl⟩
                    exact meets_false hm ⟨_, look_mem hz, rfl⟩ _ (look_mem hy) rfl) hji
                rw [this]
                by_cases hlt : j < i
                · simp [hlt]; omega
                · simp [hlt]; omega
          subst hxy
          exact hwr _ (look_mem hy)

theorem OK.regionDraw {id : Nat} {Q : Exit → List Nat → St → Prop} (hm : E.P.follows .mixedOrders = true) (h : Lx E l.toArray l U s L U' s') (hc : drawOk l L = true) (hQ : Q .normal U' s') :
    OK E (.region id l.toArray true) Q U s := by
  intro a w hg
  refine wpIn_region_draw fun t => ?_
  simp only [Region.schedule, hm, Bool.true_or, if_true]
  refine wpAnyIn_sound _ t _ a _ ?_
  refine draw_any h hc _ (fun a w hg => ⟨U', s', hg, hQ⟩) l.toArray.size (Array.replicate l.toArray.size false) a w.drew (by simp) ?_ ?_ ?_
  · have : ∀ n : Nat, unl (List.replicate n false) = n := by intro n; simp [unl]
    simp [this]
  · intro i o _ hd
    exfalso
    have h0 : false = true := (repl_getD l.toArray.size i).symm.trans hd
    cases h0
  · have : (fun j => (Array.replicate l.toArray.size false).getD j false) = (fun _ : Nat => false) := by
      funext j
      exact repl_getD _ j
    rw [this, stD_false, uD_false]
    exact hg.drew
end
end Go.Ab
