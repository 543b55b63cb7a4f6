import Derived.Lib.AppendIntMem
import Derived.Lib.AtoiAllCases
import Derived.Lib.AtoiErrMem
import Derived.Lib.ItoaLen
import Derived.Test.YtpmglnphhhlbdaaGreatDoorGs
import Derived.Test.YtpmglnphhhlbdaaGreatDoorLa
import Derived.Test.YtpmglnphhhlbdaaGreatDoorTz
namespace Go.Proofs.YtpmglnphhhlbdaaGreatDoor
open Go.Ab
def isDig (b : UInt8) : Bool := decide (48 ≤ b.toNat ∧ b.toNat ≤ 57)
def decV (acc : Nat) (l : List UInt8) : Nat := l.foldl (fun a b => a * 10 + (b.toNat - 48)) acc
theorem decV_nil (acc : Nat) : decV acc [] = acc := rfl
theorem decV_cons (acc : Nat) (b : UInt8) (l : List UInt8) : decV acc (b :: l) = decV (acc * 10 + (b.toNat - 48)) l := List.foldl_cons ..
theorem head_app {l m : List UInt8} (h : l ≠ []) : (l ++ m).head? = l.head? := by
  cases l with
  | nil => exact absurd rfl h
  | cons _ _ => rfl
def natC (l : List UInt8) (d : Nat) : Bool := (decide (l ≠ []) && decide (l.length ≤ d)) && ((decide (l.length = 1) || decide (l.head? ≠ some 48)) && l.all isDig)
def Canon (l : List UInt8) : Prop := l ≠ [] ∧ (l.length = 1 ∨ l.head? ≠ some 48) ∧ l.all isDig = true
theorem natC_canon {l : List UInt8} {d : Nat} : natC l d = true ↔ Canon l ∧ l.length ≤ d := by
  unfold natC Canon
  simp only [Bool.and_eq_true, Bool.or_eq_true, decide_eq_true_eq]
  constructor
  · rintro ⟨⟨h1, h2⟩, h3, h4⟩; exact ⟨⟨h1, h3, h4⟩, h2⟩
  · rintro ⟨⟨h1, h3, h4⟩, h2⟩; exact ⟨⟨h1, h2⟩, h3, h4⟩
theorem decV_snoc (b : UInt8) : ∀ (l : List UInt8) (acc : Nat), decV acc (l ++ [b]) = decV acc l * 10 + (b.toNat - 48)
  | [], acc => by rw [List.nil_append, decV_cons, decV_nil, decV_nil]
  | x :: l, acc => by rw [List.cons_append, decV_cons, decV_snoc b l, decV_cons]
theorem decV_lt : ∀ (l : List UInt8) (acc : Nat), l.all isDig = true → decV acc l < (acc + 1) * 10 ^ l.length
  | [], acc, _ => by rw [decV_nil, List.length_nil, Nat.pow_zero]; omega
  | x :: l, acc, h => by
    simp only [List.all_cons, Bool.and_eq_true] at h
    have hx : 48 ≤ x.toNat ∧ x.toNat ≤ 57 := of_decide_eq_true h.1
    have h1 := decV_lt l (acc * 10 + (x.toNat - 48)) h.2
    rw [decV_cons, List.length_cons, Nat.pow_succ]
    refine Nat.lt_of_lt_of_le h1 ?_
    rw [Nat.mul_comm (10 ^ l.length) 10, ← Nat.mul_assoc]
    exact Nat.mul_le_mul_right _ (by omega)
theorem dig_char {k : Nat} (h : k < 10) : isDig (UInt8.ofNat (48 + k)) = true ∧ (UInt8.ofNat (48 + k)).toNat = 48 + k := by
  have : (UInt8.ofNat (48 + k)).toNat = 48 + k := by rw [UInt8.toNat_ofNat']; omega
  exact ⟨decide_eq_true (by rw [this]; omega), this⟩
theorem dec_big {u : Nat} (h : ¬ u < 10) : Lib.decDigits u = Lib.decDigits (u / 10) ++ [UInt8.ofNat (48 + u % 10)] := by rw [Lib.decDigits, dif_neg h]
theorem dec_pos (u : Nat) : Lib.decDigits u ≠ [] := fun e => by
  have h1 := Lib.decDigits_length u
  have h2 := Lib.nDigits_pos u
  rw [e] at h1
  simp at h1
  omega
theorem dec_head : ∀ (u : Nat), 0 < u → (Lib.decDigits u).head? ≠ some 48
  | u, h => by
    by_cases h1 : u < 10
    · rw [Lib.decDigits_one h1]
      intro e
      have e2 : UInt8.ofNat (48 + u) = 48 := by simpa using e
      have e3 := (dig_char h1).2
      rw [e2] at e3
      have : (48 : UInt8).toNat = 48 := rfl
      omega
    · rw [dec_big h1, head_app (dec_pos _)]
      exact dec_head (u / 10) (by omega)
theorem dec_all : ∀ (u : Nat), (Lib.decDigits u).all isDig = true
  | u => by
    by_cases h1 : u < 10
    · rw [Lib.decDigits_one h1]
      rw [List.all_cons, List.all_nil, Bool.and_true]
      exact (dig_char h1).1
    · rw [dec_big h1, List.all_append, dec_all (u / 10)]
      rw [List.all_cons, List.all_nil, Bool.and_true, Bool.true_and]
      exact (dig_char (show u % 10 < 10 by omega)).1
theorem dec_canon (u : Nat) : Canon (Lib.decDigits u) := by
  refine ⟨dec_pos u, ?_, dec_all u⟩
  by_cases h : u = 0
  · subst h
    left
    rw [Lib.decDigits_one (by decide)]
    rfl
  · exact .inr (dec_head u (by omega))
theorem dec_val : ∀ (u : Nat), decV 0 (Lib.decDigits u) = u
  | u => by
    by_cases h1 : u < 10
    · rw [Lib.decDigits_one h1]
      rw [decV_cons, decV_nil, (dig_char h1).2]
      omega
    · rw [dec_big h1, decV_snoc, dec_val (u / 10), (dig_char (show u % 10 < 10 by omega)).2]
      omega
theorem canon_dec : ∀ (n : Nat) (l : List UInt8), l.length = n → Canon l → Lib.decDigits (decV 0 l) = l := by
  intro n
  induction n with
  | zero => intro l hl h; exact absurd (List.length_eq_zero_iff.1 hl) h.1
  | succ n ih =>
    intro l hl h
    obtain ⟨h0, h1, h2⟩ := h
    rcases List.eq_nil_or_concat l with rfl | ⟨m, b, rfl⟩
    · exact absurd rfl h0
    · rw [List.concat_eq_append] at *
      rw [List.all_append, Bool.and_eq_true] at h2
      have hb : 48 ≤ b.toNat ∧ b.toNat ≤ 57 := by
        have := h2.2
        simp only [List.all_cons, List.all_nil, Bool.and_true] at this
        exact of_decide_eq_true this
      have hch : UInt8.ofNat (48 + (b.toNat - 48)) = b := by
        rw [show 48 + (b.toNat - 48) = b.toNat by omega]
        simp
      by_cases hm : m = []
      · subst hm
        rw [List.nil_append]
        rw [decV_cons, decV_nil, Nat.zero_mul, Nat.zero_add, Lib.decDigits_one (by omega), hch]
      · have hh : m.head? ≠ some 48 := by
          rcases h1 with h1 | h1
          · rw [List.length_append, List.length_singleton] at h1
            exact absurd (List.length_eq_zero_iff.1 (by omega)) hm
          · rwa [head_app hm] at h1
        have hc : Canon m := ⟨hm, .inr hh, h2.1⟩
        have hv := ih m (by rw [List.length_append, List.length_singleton] at hl; omega) hc
        have hpos : 0 < decV 0 m := by
          refine Nat.pos_of_ne_zero fun e => ?_
          rw [e, Lib.decDigits_one (by decide)] at hv
          rw [← hv] at hh
          exact hh rfl
        rw [decV_snoc, dec_big (by omega), show (decV 0 m * 10 + (b.toNat - 48)) / 10 = decV 0 m by omega, show (decV 0 m * 10 + (b.toNat - 48)) % 10 = b.toNat - 48 by omega, hv, hch]
theorem parse_ok : ∀ (l : List UInt8) (acc k : Nat), l.all isDig = true → acc < 10 ^ k → k + l.length ≤ 18 → Lib.parseUint10 acc l = .ok (decV acc l)
  | [], _, _, _, _, _ => by rw [decV_nil]; rfl
  | b :: l, acc, k, h, ha, hk => by
    simp only [List.all_cons, Bool.and_eq_true] at h
    have hb : 48 ≤ b.toNat ∧ b.toNat ≤ 57 := of_decide_eq_true h.1
    have h18 : (10 : Nat) ^ k ≤ 10 ^ 17 := Nat.pow_le_pow_right (by decide) (by simp only [List.length_cons] at hk; omega)
    have h17 : (10 : Nat) ^ 17 = 100000000000000000 := by decide
    have hn : acc * 10 + (b.toNat - 48) < 10 ^ (k + 1) := by rw [Nat.pow_succ]; omega
    simp only [Lib.parseUint10]
    rw [if_pos hb, if_neg (by omega), if_neg (by omega)]
    rw [decV_cons]
    exact parse_ok l _ (k + 1) h.2 hn (by simp only [List.length_cons] at hk; omega)
theorem canon_atoi {l : List UInt8} (h : Canon l) (hl : l.length ≤ 18) : Lib.atoiAll l = .ok (decV 0 l : Int) := by
  obtain ⟨h0, _, h2⟩ := h
  cases l with
  | nil => exact absurd rfl h0
  | cons c r =>
    have hc : 48 ≤ c.toNat ∧ c.toNat ≤ 57 := by
      simp only [List.all_cons, Bool.and_eq_true] at h2
      exact of_decide_eq_true h2.1
    rw [Lib.atoiAll_plain c r (by omega) (by omega)]
    unfold Lib.parseMag
    have hp := parse_ok (c :: r) 0 0 h2 (by decide) (by omega)
    rw [if_neg (by simp), hp]
    have hlt := decV_lt (c :: r) 0 h2
    have hp18 : (10 : Nat) ^ (c :: r).length ≤ 10 ^ 18 := Nat.pow_le_pow_right (by decide) hl
    have h18 : (10 : Nat) ^ 18 = 1000000000000000000 := by decide
    unfold Lib.signless
    dsimp only
    rw [if_neg (by omega)]
theorem atoi_rng (l : List UInt8) : IntKind.i64.wrap (atoiV l) = atoiV l := by
  refine IntWalk.i64_in _ ?_
  unfold atoiV
  rcases h : Lib.atoiAll l with v | _ | _
  · exact Lib.atoiAll_bounds h
  · show -9223372036854775808 ≤ (0 : Int) ∧ (0 : Int) ≤ 9223372036854775807
    decide
  · exact Lib.atoiSat_bounds l
theorem itoa_nn {n : Int} (h : 0 ≤ n) : Lib.itoa n = Lib.decDigits n.toNat := by unfold Lib.itoa; rw [if_neg (by omega)]
def numOk (l : List UInt8) (d : Nat) : Bool := (atoiOk l && (decide (0 ≤ atoiV l) && (decide (Lib.itoa (atoiV l) = l) && decide (l.length ≤ d))))
theorem canon_num {l : List UInt8} (h : Canon l) (hl : l.length ≤ 18) : atoiOk l = true ∧ atoiV l = (decV 0 l : Int) ∧ Lib.itoa (atoiV l) = l := by
  have h1 := canon_atoi h hl
  have h2 : atoiV l = (decV 0 l : Int) := by unfold atoiV; rw [h1]
  refine ⟨by unfold atoiOk; rw [h1], h2, ?_⟩
  rw [h2, itoa_nn (by omega), Int.toNat_natCast]
  exact canon_dec _ l rfl h
theorem num_nat (l : List UInt8) {d : Nat} (hd : d ≤ 18) : numOk l d = natC l d := by
  rw [Bool.eq_iff_iff, natC_canon]
  unfold numOk
  simp only [Bool.and_eq_true, decide_eq_true_eq]
  constructor
  · rintro ⟨h1, h2, h3, h4⟩
    refine ⟨?_, h4⟩
    rw [itoa_nn h2] at h3
    rw [← h3]
    exact dec_canon _
  · rintro ⟨h1, h2⟩
    obtain ⟨g1, g2, g3⟩ := canon_num h1 (by omega)
    exact ⟨g1, by omega, g3, h2⟩
theorem num_val {l : List UInt8} {d : Nat} (hd : d ≤ 18) (h : natC l d = true) : atoiV l = (decV 0 l : Int) := by
  obtain ⟨h1, h2⟩ := natC_canon.1 h
  exact (canon_num h1 (by omega)).2.1
theorem itoa_len {n : Int} (h : IntKind.i64.wrap n = n) : (Lib.itoa n).length ≤ 21 := by
  obtain ⟨h1, h2⟩ := i64_rng h
  exact Lib.itoa_length_le n h1 h2
theorem itoaI : ItoaI Tryz.prog 54 := ⟨⟨1, by kernel_rfl⟩, fun n w h0 h1 ht => (Tryz.strconv_Itoa n h0 h1 w ht).mono (by
  rintro e w' ⟨rfl, k, os, rfl⟩
  exact ⟨rfl, Lib.below_grow _ w (Nat.le_refl _) k os⟩)⟩
theorem itoa_ct {n : Int} (h : IntKind.i64.wrap n = n) : CtT Tryz.prog 54 [.int .i64 n] (.str (Lib.itoa n)) := itoaI.ct (by have := itoa_len h; omega)
theorem atoiI : AtoiI Tryz.prog 116 := by
  refine ⟨⟨2, by kernel_rfl⟩, ⟨3, by kernel_rfl⟩, fun l w es er hl h1 h2 hes her => ?_⟩
  have e1 : Tryz.prog.globalNamed "strconv.ErrSyntax" = some 2 := by kernel_rfl
  have e2 : Tryz.prog.globalNamed "strconv.ErrRange" = some 3 := by kernel_rfl
  rw [e1] at h1
  rw [e2] at h2
  cases h1
  cases h2
  obtain ⟨ev1, hv1, hev1⟩ := hes
  obtain ⟨ev2, hv2, hev2⟩ := her
  have hsz : (⟨l.toArray⟩ : ByteArray).size = l.length := by show l.toArray.size = _; simp
  rcases h : Lib.atoiAll l with v | _ | _
  · skip
    refine (Tryz.strconv_Atoi_ok ⟨l.toArray⟩ (by rw [hsz]; omega) v h w).mono ?_
    rintro e w' ⟨rfl, hw⟩
    have hv : atoiV l = v := by unfold atoiV; rw [h]
    refine ⟨.nilIface, by rw [hv], .inl ⟨by unfold atoiOk; rw [h], rfl⟩, ?_⟩
    rcases hw with rfl | ⟨t, rfl⟩
    · exact Go.RowKit.Below.refl _ _
    · exact Lib.bytesWorld_below _ _ _
  · skip
    refine (Tryz.strconv_Atoi_syntax ⟨l.toArray⟩ (by rw [hsz]; omega) h ev1 w hv1 hev1).mono ?_
    rintro e w' ⟨N, rfl, _, _, hB⟩
    have hv : atoiV l = 0 := by unfold atoiV; rw [h]
    exact ⟨_, by rw [hv], .inr ⟨by unfold atoiOk; rw [h], _, _, rfl⟩, hB⟩
  · skip
    refine (Tryz.strconv_Atoi_range ⟨l.toArray⟩ (by rw [hsz]; omega) h ev2 w hv2 hev2).mono ?_
    rintro e w' ⟨N, rfl, _, _, hB⟩
    have hv : atoiV l = Lib.atoiSat l := by unfold atoiV; rw [h]
    exact ⟨_, by rw [hv], .inr ⟨by unfold atoiOk; rw [h], _, _, rfl⟩, hB⟩
theorem atoi_ct {l : List UInt8} (h : l.length ≤ 100000) : CtT Tryz.prog 116 [.str l] (.tup [.int .i64 (atoiV l), .cb (ErrV (atoiOk l))]) := atoiI.ct (by omega) (atoi_rng l)
end Go.Proofs.YtpmglnphhhlbdaaGreatDoor
namespace Go.Proofs.YtpmglnphhhlbdaaGreatDoor
open Go.Ab
def trimC (l : List UInt8) : List UInt8 := if l.head? = some 45 then l.drop 1 else l
def sgnC (l : List UInt8) (d : Nat) : Bool := if l.head? = some 45 then natC (l.drop 1) d && decide (l.getD 1 0 ≠ 48) else natC l d
def sgnV (l : List UInt8) : Int := if l.head? = some 45 then -(decV 0 (l.drop 1) : Int) else (decV 0 l : Int)
def numM (l : List UInt8) (below : Bool) (d : Nat) : Bool := atoiOk l && (decide (Lib.itoa (atoiV l) = l) && ((below || decide (0 ≤ atoiV l)) && decide ((trimC l).length ≤ d)))
theorem head_of {l : List UInt8} (h : l.head? = some 45) : ∃ r, l = 45 :: r := by
  cases l with
  | nil => cases h
  | cons c r => exact ⟨r, by simpa using h⟩
theorem dec_no45 (u : Nat) : (Lib.decDigits u).head? ≠ some 45 := fun h => by
  obtain ⟨r, e⟩ := head_of h
  have := dec_all u
  rw [e, List.all_cons] at this
  simp [isDig] at this
theorem itoa_head (n : Int) : (Lib.itoa n).head? = some 45 ↔ n < 0 := by
  by_cases h : n < 0
  · obtain ⟨u, rfl⟩ : ∃ u : Nat, n = -(u : Int) := ⟨n.natAbs, by omega⟩
    rw [Lib.itoa_neg u (by omega)]
    exact ⟨fun _ => h, fun _ => rfl⟩
  · rw [itoa_nn (by omega)]
    exact ⟨fun e => absurd e (dec_no45 _), fun e => absurd e h⟩
theorem dec_zero {r : List UInt8} (h : Canon r) (h0 : decV 0 r = 0) : r = [48] := by
  have h1 := canon_dec _ r rfl h
  rw [h0, Lib.decDigits_one (by decide)] at h1
  exact h1.symm
theorem neg_atoi {r : List UInt8} (h : Canon r) (hl : r.length ≤ 18) (h0 : r.head? ≠ some 48) : Lib.atoiAll (45 :: r) = .ok (-(decV 0 r : Int)) ∧ Lib.itoa (-(decV 0 r : Int)) = 45 :: r := by
  have hp := parse_ok r 0 0 h.2.2 (by decide) (by omega)
  have hlt := decV_lt r 0 h.2.2
  have hp18 : (10 : Nat) ^ r.length ≤ 10 ^ 18 := Nat.pow_le_pow_right (by decide) hl
  have h18 : (10 : Nat) ^ 18 = 1000000000000000000 := by decide
  have hu : 1 ≤ decV 0 r := by
    refine Nat.pos_of_ne_zero fun e => h0 ?_
    rw [dec_zero h e]
    rfl
  refine ⟨?_, ?_⟩
  · rw [Lib.atoiAll_minus]
    unfold Lib.parseMag
    rw [if_neg h.1, hp]
    unfold Lib.signed
    dsimp only
    rw [if_neg (by omega)]
  · rw [Lib.itoa_neg _ hu, canon_dec _ r rfl h]
theorem getD_head (r : List UInt8) : (45 :: r : List UInt8).getD 1 0 = r.getD 0 0 := rfl
theorem head_getD {r : List UInt8} (h : r ≠ []) : r.head? = some 48 ↔ r.getD 0 0 = 48 := by
  cases r with
  | nil => exact absurd rfl h
  | cons c r => simp
theorem num_sgn {l : List UInt8} {d : Nat} (hd : d ≤ 18) : numM l true d = sgnC l d ∧ (sgnC l d = true → atoiV l = sgnV l) := by
  by_cases hh : l.head? = some 45
  · obtain ⟨r, rfl⟩ := head_of hh
    have e1 : sgnC (45 :: r) d = (natC r d && decide (r.getD 0 0 ≠ 48)) := if_pos hh
    have e2 : sgnV (45 :: r) = -(decV 0 r : Int) := if_pos hh
    have e3 : trimC (45 :: r) = r := if_pos hh
    rw [e1, e2]
    have key : natC r d = true → r.getD 0 0 ≠ 48 → Lib.atoiAll (45 :: r) = .ok (-(decV 0 r : Int)) ∧ Lib.itoa (-(decV 0 r : Int)) = 45 :: r := fun h h2 => by
      obtain ⟨hc, hl⟩ := natC_canon.1 h
      exact neg_atoi hc (by omega) fun e => h2 ((head_getD hc.1).1 e)
    constructor
    · rw [Bool.eq_iff_iff]
      unfold numM
      rw [e3]
      simp only [Bool.and_eq_true, decide_eq_true_eq, Bool.true_or, true_and]
      constructor
      · rintro ⟨_, h2, h3⟩
        have hn : atoiV (45 :: r) < 0 := by
          rw [← itoa_head, h2]
          rfl
        obtain ⟨u, hu⟩ : ∃ u : Nat, atoiV (45 :: r) = -(u : Int) := ⟨(atoiV (45 :: r)).natAbs, by omega⟩
        rw [hu, Lib.itoa_neg u (by omega), List.cons.injEq] at h2
        have hr := h2.2
        refine ⟨natC_canon.2 ⟨by rw [← hr]; exact dec_canon _, h3⟩, fun e => ?_⟩
        have h4 := dec_head u (by omega)
        rw [hr] at h4
        exact h4 ((head_getD (by rw [← hr]; exact dec_pos u)).2 e)
      · rintro ⟨h1, h2⟩
        obtain ⟨g1, g2⟩ := key h1 h2
        have hv : atoiV (45 :: r) = -(decV 0 r : Int) := by unfold atoiV; rw [g1]
        exact ⟨by unfold atoiOk; rw [g1], by rw [hv]; exact g2, (natC_canon.1 h1).2⟩
    · intro h
      rw [Bool.and_eq_true, decide_eq_true_eq] at h
      unfold atoiV
      rw [(key h.1 h.2).1]
  · have e1 : sgnC l d = natC l d := if_neg hh
    have e2 : sgnV l = (decV 0 l : Int) := if_neg hh
    have e3 : trimC l = l := if_neg hh
    rw [e1, e2]
    refine ⟨?_, num_val hd⟩
    rw [← num_nat l hd]
    unfold numM numOk
    rw [e3]
    by_cases h2 : Lib.itoa (atoiV l) = l
    · have h0 : 0 ≤ atoiV l := by
        refine Int.not_lt.1 fun h => hh ?_
        rw [← h2]
        exact (itoa_head _).2 h
      rw [decide_eq_true h2, decide_eq_true h0]
      simp
    · rw [decide_eq_false h2]
      simp
theorem num_nb {l : List UInt8} {d : Nat} (hd : d ≤ 18) : numM l false d = (sgnC l d && decide (0 ≤ sgnV l)) := by
  obtain ⟨h1, h2⟩ := num_sgn (l := l) hd
  have h3 : numM l false d = (numM l true d && decide (0 ≤ atoiV l)) := by
    unfold numM
    cases atoiOk l <;> cases decide (Lib.itoa (atoiV l) = l) <;> cases decide (0 ≤ atoiV l) <;> simp
  rw [h3, h1]
  cases hs : sgnC l d with
  | false => rfl
  | true => rw [h2 hs]
end Go.Proofs.YtpmglnphhhlbdaaGreatDoor
namespace Go.Proofs.YtpmglnphhhlbdaaGreatDoor
open Go.Ab
theorem split_app {c : UInt8} : ∀ {w : List UInt8} (l : List UInt8), c ∉ w → splitC c (w ++ c :: l) = w :: splitC c l
  | [], l, _ => by rw [List.nil_append, splitC, if_pos rfl]
  | b :: w, l, h => by
    have h1 : b ≠ c := fun e => h (e ▸ List.mem_cons_self)
    exact split_cons h1 (split_app l fun e => h (List.mem_cons_of_mem _ e))
theorem split_word {c : UInt8} : ∀ {w : List UInt8}, c ∉ w → splitC c w = [w]
  | [], _ => rfl
  | b :: w, h => split_cons (fun e => h (by rw [e]; exact List.mem_cons_self)) (split_word fun e => h (List.mem_cons_of_mem _ e))
theorem join2 (x y : List UInt8) (r : List (List UInt8)) (sep : List UInt8) : Lib.join (x :: y :: r) sep = x ++ (sep ++ Lib.join (y :: r) sep) := by
  rw [Lib.join_cons, Lib.join_cons]
  simp [Lib.joinTail]
theorem split_join {c : UInt8} : ∀ {ws : List (List UInt8)}, ws ≠ [] → (∀ w ∈ ws, c ∉ w) → splitC c (Lib.join ws [c]) = ws
  | [], h, _ => absurd rfl h
  | [w], _, h => by rw [Lib.join_one]; exact split_word (h w List.mem_cons_self)
  | w :: v :: ws, _, h => by
    rw [join2, List.singleton_append, split_app _ (h w List.mem_cons_self), split_join (by simp) (fun x hx => h x (List.mem_cons_of_mem _ hx))]
def gath {α β : Type} (f : α → Option β) : List α → Option (List β)
  | [] => some []
  | a :: l => match f a with
    | none => none
    | some b => (gath f l).map (b :: ·)
section
variable {α β τ : Type} {f : α → Option β}
theorem gath_on {L : List α} {i : Nat} {out : List β} {b : β} (hg : gath f L = (gath f (L.drop i)).map (out ++ ·)) (hi : i < L.length) (hf : f L[i] = some b) : gath f L = (gath f (L.drop (i + 1))).map ((out ++ [b]) ++ ·) := by
  rw [hg, List.drop_eq_getElem_cons hi]
  simp only [gath, hf]
  cases gath f (L.drop (i + 1)) <;> simp
theorem gath_no {L : List α} {i : Nat} {out : List β} (hg : gath f L = (gath f (L.drop i)).map (out ++ ·)) (hi : i < L.length) (hf : f L[i] = none) : gath f L = none := by
  rw [hg, List.drop_eq_getElem_cons hi]
  simp only [gath, hf]
  rfl
theorem gath_end {L : List α} {i : Nat} {out : List β} (hg : gath f L = (gath f (L.drop i)).map (out ++ ·)) (hi : i = L.length) : gath f L = some out := by
  rw [hg, hi, List.drop_length]
  simp [gath]
theorem gath_map {g : β → α} : ∀ {l : List β}, (∀ x ∈ l, f (g x) = some x) → gath f (l.map g) = some l
  | [], _ => rfl
  | x :: l, h => by
    simp only [List.map_cons, gath, h x List.mem_cons_self]
    rw [gath_map fun y hy => h y (List.mem_cons_of_mem _ hy)]
    rfl
end
end Go.Proofs.YtpmglnphhhlbdaaGreatDoor
