import Derived.Lib.AppendIntMem
import Derived.Lib.AtoiAllCases
import Derived.Lib.AtoiErrMem
import Derived.Lib.ItoaLen
import Derived.Test.YtpfepjgnojfppaaGreatDoorGs
import Derived.Test.YtpfepjgnojfppaaGreatDoorLa
import Derived.Test.YtpfepjgnojfppaaGreatDoorTz
namespace Go.Proofs.YtpfepjgnojfppaaGreatDoor
open Go.Ab
def isDig (b : UInt8) : Bool := decide (48 ≤ b.toNat ∧ b.toNat ≤ 57)
def decV (acc : Nat) (l : List UInt8) : Nat := l.foldl (fun a b => a * 10 + (b.toNat - 48)) acc
theorem decV_nil (acc : Nat) : decV acc [] = acc := rfl
theorem decV_cons (acc : Nat) (b : UInt8) (l : List UInt8) : decV acc (b :: l) = decV (acc * 10 + (b.toNat - 48)) l := List.foldl_cons ..
theorem head_app {l m : List UInt8} (h : l ≠ []) : (l ++ m).head? = l.head? := by
  cases l with
  | nil => exact absurd rfl h
  | cons _ _ => rfl
def natC (l : List UInt8) (d : Nat) : Bool := (decide (l ≠ []) && decide (l.length ≤ d)) && ((decide (l.length = 1) || decide (l.head? ≠ some 48)) && l.all isDig)
def Canon (l : List UInt8) : Prop := l ≠ [] ∧ (l.length = 1 ∨ l.head? ≠ some 48) ∧ l.all isDig = true
theorem natC_canon {l : List UInt8} {d : Nat} : natC l d = true ↔ Canon l ∧ l.length ≤ d := by
  unfold natC Canon
  simp only [Bool.and_eq_true, Bool.or_eq_true, decide_eq_true_eq]
  constructor
  · rintro ⟨⟨h1, h2⟩, h3, h4⟩; exact ⟨⟨h1, h3, h4⟩, h2⟩
  · rintro ⟨⟨h1, h3, h4⟩, h2⟩; exact ⟨⟨h1, h2⟩, h3, h4⟩
theorem decV_snoc (b : UInt8) : ∀ (l : List UInt8) (acc : Nat), decV acc (l ++ [b]) = decV acc l * 10 + (b.toNat - 48)
  | [], acc => by rw [List.nil_append, decV_cons, decV_nil, decV_nil]
  | x :: l, acc => by rw [List.cons_append, decV_cons, decV_snoc b l, decV_cons]
theorem decV_lt : ∀ (l : List UInt8) (acc : Nat), l.all isDig = true → decV acc l < (acc + 1) * 10 ^ l.length
  | [], acc, _ => by rw [decV_nil, List.length_nil, Nat.pow_zero]; omega
  | x :: l, acc, h => by
    simp only [List.all_cons, Bool.and_eq_true] at h
    have hx : 48 ≤ x.toNat ∧ x.toNat ≤ 57 := of_decide_eq_true h.1
    have h1 := decV_lt l (acc * 10 + (x.toNat - 48)) h.2
    rw [decV_cons, List.length_cons, Nat.pow_succ]
    refine Nat.lt_of_lt_of_le h1 ?_
    rw [Nat.mul_comm (10 ^ l.length) 10, ← Nat.mul_assoc]
    exact Nat.mul_le_mul_right _ (by omega)
theorem dig_char {k : Nat} (h : k < 10) : isDig (UInt8.ofNat (48 + k)) = true ∧ (UInt8.ofNat (48 + k)).toNat = 48 + k := by
  have : (UInt8.ofNat (48 + k)).toNat = 48 + k := by rw [UInt8.toNat_ofNat']; omega
  exact ⟨decide_eq_true (by rw [this]; omega), this⟩
theorem dec_big {u : Nat} (h : ¬ u < 10) : Lib.decDigits u = Lib.decDigits (u / 10) ++ [UInt8.ofNat (48 + u % 10)] := by rw [Lib.decDigits, dif_neg h]
theorem dec_pos (u : Nat) : Lib.decDigits u ≠ [] := fun e => by
  have h1 := Lib.decDigits_length u
  have h2 := Lib.nDigits_pos u
  rw [e] at h1
  simp at h1
  omega
theorem dec_head : ∀ (u : Nat), 0 < u → (Lib.decDigits u).head? ≠ some 48
  | u, h => by
    by_cases h1 : u < 10
    · rw [Lib.decDigits_one h1]
      intro e
      have e2 : UInt8.ofNat (48 + u) = 48 := by simpa using e
      have e3 := (dig_char h1).2
      rw [e2] at e3
      have : (48 : UInt8).toNat = 48 := rfl
      omega
    · rw [dec_big h1, head_app (dec_pos _)]
      exact dec_head (u / 10) (by omega)
theorem dec_all : ∀ (u : Nat), (Lib.decDigits u).all isDig = true
  | u => by
    by_cases h1 : u < 10
    · rw [Lib.decDigits_one h1]
      rw [List.all_cons, List.all_nil, Bool.and_true]
      exact (dig_char h1).1
    · rw [dec_big h1, List.all_append, dec_all (u / 10)]
      rw [List.all_cons, List.all_nil, Bool.and_true, Bool.true_and]
      exact (dig_char (show u % 10 < 10 by omega)).1
theorem dec_canon (u : Nat) : Canon (Lib.decDigits u) := by
  refine ⟨dec_pos u, ?_, dec_all u⟩
  by_cases h : u = 0
  · subst h
    left
    rw [Lib.decDigits_one (by decide)]
    rfl
  · exact .inr (dec_head u (by omega))
theorem dec_val : ∀ (u : Nat), decV 0 (Lib.decDigits u) = u
  | u => by
    by_cases h1 : u < 10
    · rw [Lib.decDigits_one h1]
      rw [decV_cons, decV_nil, (dig_char h1).2]
      omega
    · rw [dec_big h1, decV_snoc, dec_val (u / 10), (dig_char (show u % 10 < 10 by omega)).2]
      omega
theorem canon_dec : ∀ (n : Nat) (l : List UInt8), l.length = n → Canon l → Lib.decDigits (decV 0 l) = l := by
  intro n
  induction n with
  | zero => intro l hl h; exact absurd (List.length_eq_zero_iff.1 hl) h.1
  | succ n ih =>
    intro l hl h
    obtain ⟨h0, h1, h2⟩ := h
    rcases List.eq_nil_or_concat l with rfl | ⟨m, b, rfl⟩
    · exact absurd rfl h0
    · rw [List.concat_eq_append] at *
      rw [List.all_append, Bool.and_eq_true] at h2
      have hb : 48 ≤ b.toNat ∧ b.toNat ≤ 57 := by
        have := h2.2
        simp only [List.all_cons, List.all_nil, Bool.and_true] at this
        exact of_decide_eq_true this
      have hch : UInt8.ofNat (48 + (b.toNat - 48)) = b := by
        rw [show 48 + (b.toNat - 48) = b.toNat by omega]
        simp
      by_cases hm : m = []
      · subst hm
        rw [List.nil_append]
        rw [decV_cons, decV_nil, Nat.zero_mul, Nat.zero_add, Lib.decDigits_one (by omega), hch]
      · have hh : m.head? ≠ some 48 := by
          rcases h1 with h1 | h1
          · rw [List.length_append, List.length_singleton] at h1
            exact absurd (List.length_eq_zero_iff.1 (by omega)) hm
          · rwa [head_app hm] at h1
        have hc : Canon m := ⟨hm, .inr hh, h2.1⟩
        have hv := ih m (by rw [List.length_append, List.length_singleton] at hl; omega) hc
        have hpos : 0 < decV 0 m := by
          refine Nat.pos_of_ne_zero fun e => ?_
          rw [e, Lib.decDigits_one (by decide)] at hv
          rw [← hv] at hh
          exact hh rfl
        rw [decV_snoc, dec_big (by omega), show (decV 0 m * 10 + (b.toNat - 48)) / 10 = decV 0 m by omega, show (decV 0 m * 10 + (b.toNat - 48)) % 10 = b.toNat - 48 by omega, hv, hch]
theorem parse_ok : ∀ (l : List UInt8) (acc k : Nat), l.all isDig = true → acc < 10 ^ k → k + l.length ≤ 18 → Lib.parseUint10 acc l = .ok (decV acc l)
  | [], _, _, _, _, _ => by rw [decV_nil]; rfl
  | b :: l, acc, k, h, ha, hk => by
    simp only [List.all_cons, Bool.and_eq_true] at h
    have hb : 48 ≤ b.toNat ∧ b.toNat ≤ 57 := of_decide_eq_true h.1
    have h18 : (10 : Nat) ^ k ≤ 10 ^ 17 := Nat.pow_le_pow_right (by decide) (by simp only [List.length_cons] at hk; omega)
    have h17 : (10 : Nat) ^ 17 = 100000000000000000 := by decide
    have hn : acc * 10 + (b.toNat - 48) < 10 ^ (k + 1) := by rw [Nat.pow_succ]; omega
    simp only [Lib.parseUint10]
    rw [if_pos hb, if_neg (by omega), if_neg (by omega)]
    rw [decV_cons]
    exact parse_ok l _ (k + 1) h.2 hn (by simp only [List.length_cons] at hk; omega)
theorem canon_atoi {l : List UInt8} (h : Canon l) (hl : l.length ≤ 18) : Lib.atoiAll l = .ok (decV 0 l : Int) := by
  obtain ⟨h0, _, h2⟩ := h
  cases l with
  | nil => exact absurd rfl h0
  | cons c r =>
    have hc : 48 ≤ c.toNat ∧ c.toNat ≤ 57 := by
      simp only [List.all_cons, Bool.and_eq_true] at h2
      exact of_decide_eq_true h2.1
    rw [Lib.atoiAll_plain c r (by omega) (by omega)]
    unfold Lib.parseMag
    have hp := parse_ok (c :: r) 0 0 h2 (by decide) (by omega)
    rw [if_neg (by simp), hp]
    have hlt := decV_lt (c :: r) 0 h2
    have hp18 : (10 : Nat) ^ (c :: r).length ≤ 10 ^ 18 := Nat.pow_le_pow_right (by decide) hl
    have h18 : (10 : Nat) ^ 18 = 1000000000000000000 := by decide
    unfold Lib.signless
    dsimp only
    rw [if_neg (by omega)]
theorem atoi_rng (l : List UInt8) : IntKind.i64.wrap (atoiV l) = atoiV l := by
  refine IntWalk.i64_in _ ?_
  unfold atoiV
  rcases h : Lib.atoiAll l with v | _ | _
  · exact Lib.atoiAll_bounds h
  · show -9223372036854775808 ≤ (0 : Int) ∧ (0 : Int) ≤ 9223372036854775807
    decide
  · exact Lib.atoiSat_bounds l
theorem itoa_nn {n : Int} (h : 0 ≤ n) : Lib.itoa n = Lib.decDigits n.toNat := by unfold Lib.itoa; rw [if_neg (by omega)]
def numOk (l : List UInt8) (d : Nat) : Bool := (atoiOk l && (decide (0 ≤ atoiV l) && (decide (Lib.itoa (atoiV l) = l) && decide (l.length ≤ d))))
theorem canon_num {l : List UInt8} (h : Canon l) (hl : l.length ≤ 18) : atoiOk l = true ∧ atoiV l = (decV 0 l : Int) ∧ Lib.itoa (atoiV l) = l := by
  have h1 := canon_atoi h hl
  have h2 : atoiV l = (decV 0 l : Int) := by unfold atoiV; rw [h1]
  refine ⟨by unfold atoiOk; rw [h1], h2, ?_⟩
  rw [h2, itoa_nn (by omega), Int.toNat_natCast]
  exact canon_dec _ l rfl h
theorem num_nat (l : List UInt8) {d : Nat} (hd : d ≤ 18) : numOk l d = natC l d := by
  rw [Bool.eq_iff_iff, natC_canon]
  unfold numOk
  simp only [Bool.and_eq_true, decide_eq_true_eq]
  constructor
  · rintro ⟨h1, h2, h3, h4⟩
    refine ⟨?_, h4⟩
    rw [itoa_nn h2] at h3
    rw [← h3]
    exact dec_canon _
  · rintro ⟨h1, h2⟩
    obtain ⟨g1, g2, g3⟩ := canon_num h1 (by omega)
    exact ⟨g1, by omega, g3, h2⟩
theorem num_val {l : List UInt8} {d : Nat} (hd : d ≤ 18) (h : natC l d = true) : atoiV l = (decV 0 l : Int) := by
  obtain ⟨h1, h2⟩ := natC_canon.1 h
  exact (canon_num h1 (by omega)).2.1
theorem itoa_len {n : Int} (h : IntKind.i64.wrap n = n) : (Lib.itoa n).length ≤ 21 := by
  obtain ⟨h1, h2⟩ := i64_rng h
  exact Lib.itoa_length_le n h1 h2
theorem itoaI : ItoaI Tryz.prog 112 := ⟨⟨1, by kernel_rfl⟩, fun n w h0 h1 ht => (Tryz.strconv_Itoa n h0 h1 w ht).mono (by
  rintro e w' ⟨rfl, k, os, rfl⟩
  exact ⟨rfl, Lib.below_grow _ w (Nat.le_refl _) k os⟩)⟩
theorem itoa_ct {n : Int} (h : IntKind.i64.wrap n = n) : CtT Tryz.prog 112 [.int .i64 n] (.str (Lib.itoa n)) := itoaI.ct (by have := itoa_len h; omega)
theorem atoiI : AtoiI Tryz.prog 164 := by
  refine ⟨⟨4, by kernel_rfl⟩, ⟨5, by kernel_rfl⟩, fun l w es er hl h1 h2 hes her => ?_⟩
  have e1 : Tryz.prog.globalNamed "strconv.ErrSyntax" = some 4 := by kernel_rfl
  have e2 : Tryz.prog.globalNamed "strconv.ErrRange" = some 5 := by kernel_rfl
  rw [e1] at h1
  rw [e2] at h2
  cases h1
  cases h2
  obtain ⟨ev1, hv1, hev1⟩ := hes
  obtain ⟨ev2, hv2, hev2⟩ := her
  have hsz : (⟨l.toArray⟩ : ByteArray).size = l.length := by show l.toArray.size = _; simp
  rcases h : Lib.atoiAll l with v | _ | _
  · skip
    refine (Tryz.strconv_Atoi_ok ⟨l.toArray⟩ (by rw [hsz]; omega) v h w).mono ?_
    rintro e w' ⟨rfl, hw⟩
    have hv : atoiV l = v := by unfold atoiV; rw [h]
    refine ⟨.nilIface, by rw [hv], .inl ⟨by unfold atoiOk; rw [h], rfl⟩, ?_⟩
    rcases hw with rfl | ⟨t, rfl⟩
    · exact Go.RowKit.Below.refl _ _
    · exact Lib.bytesWorld_below _ _ _
  · skip
    refine (Tryz.strconv_Atoi_syntax ⟨l.toArray⟩ (by rw [hsz]; omega) h ev1 w hv1 hev1).mono ?_
    rintro e w' ⟨N, rfl, _, _, hB⟩
    have hv : atoiV l = 0 := by unfold atoiV; rw [h]
    exact ⟨_, by rw [hv], .inr ⟨by unfold atoiOk; rw [h], _, _, rfl⟩, hB⟩
  · skip
    refine (Tryz.strconv_Atoi_range ⟨l.toArray⟩ (by rw [hsz]; omega) h ev2 w hv2 hev2).mono ?_
    rintro e w' ⟨N, rfl, _, _, hB⟩
    have hv : atoiV l = Lib.atoiSat l := by unfold atoiV; rw [h]
    exact ⟨_, by rw [hv], .inr ⟨by unfold atoiOk; rw [h], _, _, rfl⟩, hB⟩
theorem atoi_ct {l : List UInt8} (h : l.length ≤ 100000) : CtT Tryz.prog 164 [.str l] (.tup [.int .i64 (atoiV l), .cb (ErrV (atoiOk l))]) := atoiI.ct (by omega) (atoi_rng l)
theorem shp_number {l : List UInt8} {d : Nat} (hl : l.length ≤ 100000) : CtT Tryz.prog 117 [.str l, .int .i64 (d : Int)] (.tup [.int .i64 (atoiV l), .bool (numOk l d)]) := by
 refine CtT.intro (rs := [.tmp 4, .tmp 5]) Tryz.func117 rfl Tryz.ntmps117 Tryz.results117 rfl rfl rfl fun w h hT => ?_
 refine OK.seq (OK.reg ?_)
 refine RK.c (S.assign .none rfl (.cint rfl)) ?_
 refine RK.c (S.assign .none rfl .cbool) ?_
 refine RK.nil (Ab.D.code (OK.seq (OK.reg ?_)))
 refine RK.c (S.move .none rfl (.tmp rfl rfl)) ?_
 refine RK.c (S.callT (atoi_ct hl) hT Tryz.call164 .none rfl (.cons (.tmp rfl rfl) .nil) rfl) ?_
 refine RK.c (S.move .none rfl (.tmp rfl rfl)) ?_
 refine RK.c (S.extract .none rfl (.tmp rfl rfl) rfl rfl) ?_
 refine RK.c (S.extract .none rfl (.tmp rfl rfl) rfl rfl) ?_
 refine RK.c (S.assign .none rfl (.tmp rfl rfl)) ?_
 refine RK.c (S.assign .none rfl (.tmp rfl rfl)) ?_
 refine RK.nil (Ab.D.code (OK.seq (OK.reg ?_)))
 refine RK.c (S.move .none rfl (.tmp rfl rfl)) ?_
 refine RK.c (S.move .none rfl (.tmp rfl rfl)) ?_
 refine RK.c (S.eqerr Tryz.underlying209 .none rfl (.tmp rfl rfl)) ?_
 refine RK.c (S.move .none rfl (.tmp rfl rfl)) ?_
 refine RK.split (t := 16) rfl (fun g16 => ?_) (fun g16 => ?_)
 ·
  refine RK.c (S.move (.yes rfl rfl rfl rfl) rfl (.tmp rfl rfl)) ?_
  refine RK.c (S.geq (.yes rfl rfl rfl rfl) rfl (.tmp rfl rfl) (.cint rfl)) ?_
  refine RK.c (S.pickT .none rfl (.tmp rfl rfl) (.tmp rfl rfl) rfl) ?_
  refine RK.c (S.move .none rfl (.tmp rfl rfl)) ?_
  refine RK.splitD (t := 20) rfl (fun g20 => ?_) (fun g20 => ?_)
  ·
   refine RK.c (S.move (.yes rfl rfl rfl rfl) rfl (.tmp rfl rfl)) ?_
   refine RK.c (S.callT (itoa_ct (atoi_rng l)) hT Tryz.call112 (.yes rfl rfl rfl rfl) rfl (.cons (.tmp rfl rfl) .nil) rfl) ?_
   refine RK.c (S.move (.yes rfl rfl rfl rfl) rfl (.tmp rfl rfl)) ?_
   refine RK.c (S.seql (.yes rfl rfl rfl rfl) rfl (.tmp rfl rfl) (.tmp rfl rfl)) ?_
   refine RK.c (S.pickT .none rfl (.tmp rfl rfl) (.tmp rfl rfl) rfl) ?_
   refine RK.c (S.move .none rfl (.tmp rfl rfl)) ?_
   refine RK.splitD (t := 26) rfl (fun g26 => ?_) (fun g26 => ?_)
   ·
    refine RK.c (S.move (.yes rfl rfl rfl rfl) rfl (.tmp rfl rfl)) ?_
    refine RK.c (S.slen Tryz.underlying9 (.yes rfl rfl rfl rfl) rfl (.tmp rfl rfl)) ?_
    refine RK.c (S.move (.yes rfl rfl rfl rfl) rfl (.tmp rfl rfl)) ?_
    refine RK.c (S.leq (.yes rfl rfl rfl rfl) rfl (.tmp rfl rfl) (.tmp rfl rfl)) ?_
    refine RK.c (S.pickT .none rfl (.tmp rfl rfl) (.tmp rfl rfl) rfl) ?_
    refine RK.c (S.assign .none rfl (.tmp rfl rfl)) ?_
    refine RK.c (S.assign .none rfl (.tmp rfl rfl)) ?_
    refine RK.nil (Ab.D.code ?_)
    refine OK.ret (Ret.r2 (.tmp rfl rfl (.c (.same rfl) rfl) rfl) (.tmp rfl rfl (.c (.same rfl) rfl) rfl) ?_)
    rw [show numOk l d = decide (l.length ≤ d) by unfold numOk; rw [g16, decide_eq_true (show 0 ≤ atoiV l by omega), decide_eq_true g26]; rfl]
    exact congrArg (fun b => X.tup [X.int .i64 (atoiV l), X.bool b]) (decide_eq_decide.2 (by omega))
   ·
    refine RK.c (S.skip rfl rfl rfl rfl rfl) ?_
    refine RK.c (S.skip rfl rfl rfl rfl rfl) ?_
    refine RK.c (S.skip rfl rfl rfl rfl rfl) ?_
    refine RK.c (S.skip rfl rfl rfl rfl rfl) ?_
    refine RK.c (S.pickF .none rfl (.tmp rfl rfl) .cbool rfl) ?_
    refine RK.c (S.assign .none rfl (.tmp rfl rfl)) ?_
    refine RK.c (S.assign .none rfl (.tmp rfl rfl)) ?_
    refine RK.nil (Ab.D.code ?_)
    refine OK.ret (Ret.r2 (.tmp rfl rfl (.c (.same rfl) rfl) rfl) (.tmp rfl rfl (.c (.same rfl) rfl) rfl) ?_)
    rw [show numOk l d = false by unfold numOk; rw [g16, decide_eq_true (show 0 ≤ atoiV l by omega), decide_eq_false g26]; rfl]
  ·
   refine RK.c (S.skip rfl rfl rfl rfl rfl) ?_
   refine RK.c (S.skip rfl rfl rfl rfl rfl) ?_
   refine RK.c (S.skip rfl rfl rfl rfl rfl) ?_
   refine RK.c (S.skip rfl rfl rfl rfl rfl) ?_
   refine RK.c (S.pickF .none rfl (.tmp rfl rfl) .cbool rfl) ?_
   refine RK.c (S.move .none rfl (.tmp rfl rfl)) ?_
   refine RK.c (S.skip rfl rfl rfl rfl rfl) ?_
   refine RK.c (S.skip rfl rfl rfl rfl rfl) ?_
   refine RK.c (S.skip rfl rfl rfl rfl rfl) ?_
   refine RK.c (S.skip rfl rfl rfl rfl rfl) ?_
   refine RK.c (S.pickF .none rfl (.tmp rfl rfl) .cbool rfl) ?_
   refine RK.c (S.assign .none rfl (.tmp rfl rfl)) ?_
   refine RK.c (S.assign .none rfl (.tmp rfl rfl)) ?_
   refine RK.nil (Ab.D.code ?_)
   refine OK.ret (Ret.r2 (.tmp rfl rfl (.c (.same rfl) rfl) rfl) (.tmp rfl rfl (.c (.same rfl) rfl) rfl) ?_)
   rw [show numOk l d = false by unfold numOk; rw [g16, decide_eq_false (show ¬ 0 ≤ atoiV l by omega)]; rfl]
 ·
  refine RK.c (S.skip rfl rfl rfl rfl rfl) ?_
  refine RK.c (S.skip rfl rfl rfl rfl rfl) ?_
  refine RK.c (S.pickF .none rfl (.tmp rfl rfl) .cbool rfl) ?_
  refine RK.c (S.move .none rfl (.tmp rfl rfl)) ?_
  refine RK.c (S.skip rfl rfl rfl rfl rfl) ?_
  refine RK.c (S.skip rfl rfl rfl rfl rfl) ?_
  refine RK.c (S.skip rfl rfl rfl rfl rfl) ?_
  refine RK.c (S.skip rfl rfl rfl rfl rfl) ?_
  refine RK.c (S.pickF .none rfl (.tmp rfl rfl) .cbool rfl) ?_
  refine RK.c (S.move .none rfl (.tmp rfl rfl)) ?_
  refine RK.c (S.skip rfl rfl rfl rfl rfl) ?_
  refine RK.c (S.skip rfl rfl rfl rfl rfl) ?_
  refine RK.c (S.skip rfl rfl rfl rfl rfl) ?_
  refine RK.c (S.skip rfl rfl rfl rfl rfl) ?_
  refine RK.c (S.pickF .none rfl (.tmp rfl rfl) .cbool rfl) ?_
  refine RK.c (S.assign .none rfl (.tmp rfl rfl)) ?_
  refine RK.c (S.assign .none rfl (.tmp rfl rfl)) ?_
  refine RK.nil (Ab.D.code ?_)
  refine OK.ret (Ret.r2 (.tmp rfl rfl (.c (.same rfl) rfl) rfl) (.tmp rfl rfl (.c (.same rfl) rfl) rfl) ?_)
  rw [show numOk l d = false by unfold numOk; rw [g16]; rfl]
end Go.Proofs.YtpfepjgnojfppaaGreatDoor
