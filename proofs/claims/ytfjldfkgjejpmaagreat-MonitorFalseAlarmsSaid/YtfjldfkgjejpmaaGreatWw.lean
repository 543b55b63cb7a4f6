/-
  The law of what is learned.
-/
import Derived.Test.YtfjldfkgjejpmaaGreatSh
import Derived.Test.YtfjldfkgjejpmaaGreatFt
import Derived.Test.YtfjldfkgjejpmaaGreatWv
namespace Go.Proofs.YtfjldfkgjejpmaaGreat
open Go.Ab

theorem W_get {p : Plan} {l : List Record} {trim : Int} {W : List (List Range)} (hW : W = (envT p l trim).rows) {t c : Nat} (h1 : t < W.length) (h2 : c < W[t].length) : W[t][c] = rangeT l trim t c := by
  subst hW
  simp [envT, rowT]
theorem W_len {p : Plan} {l : List Record} {trim : Int} {W : List (List Range)} (hp : 1 ≤ p.ticks) (hW : W = (envT p l trim).rows) : (W.length : Int) = p.ticks ∧ ∀ (t : Nat) (h : t < W.length), W[t].length = p.channels.length := by
  subst hW
  refine ⟨by rw [env_len]; omega, fun t h => ?_⟩
  rw [env_get, row_len]
theorem out_le (l : List Record) (k t c : Nat) (o : Range) : outC (col (l.take k) t c) o ≤ l.length := by
  have h1 := List.countP_le_length (p := fun v => !decide (o.lo ≤ v ∧ v ≤ o.hi)) (l := col (l.take k) t c)
  rw [col_len, List.length_take] at h1
  unfold outC
  omega
theorem less_of {p : Plan} {l : List Record} {trim : Int} {LS : Envelope} {O : List (List Range)} (hp : planErr p = 0) (hLS : LS = envOf p l.dropLast trim) (hO : O = (envT p l trim).rows) (he : envErr p l.dropLast trim = 0) :
    ((LS.rows.length : Int) = p.ticks ∧ ∀ (t : Nat) (h : t < LS.rows.length), LS.rows[t].length = p.channels.length) ∧ ∀ (t : Nat) (h1 : t < LS.rows.length) (h2 : t < O.length) (c : Nat) (h3 : c < LS.rows[t].length) (h4 : c < O[t].length), O[t][c].lo ≤ LS.rows[t][c].lo ∧ LS.rows[t][c].hi ≤ O[t][c].hi := by
  have hLS2 : LS.rows = (envT p l.dropLast trim).rows := by rw [hLS, envOf, if_pos he]
  have hop : openRecs p l.dropLast = 0 ∧ trimErr trim l.dropLast.length = 0 := by
    unfold envErr at he
    split at he
    · exact absurd he ‹_›
    · exact ⟨Decidable.not_not.1 ‹_›, he⟩
  obtain ⟨_, h2, _⟩ := openRecs_0 hop.1
  have htr := trimErr_0 (by omega) hop.2
  have hpp := planErr_0 hp
  refine ⟨W_len (by omega) hLS2, fun t h1 h2 c h3 h4 => ?_⟩
  rw [W_get hLS2 h1 h3, W_get hO h2 h4]
  exact learn_more (by omega) htr t c

theorem ref_EnvelopeErr {p : Plan} {x : Envelope} : Ct Tryz.prog 20 [.agg p.cs, .agg x.cs] (.int .i64 (envChk p x).2) := by
  refine Ct.intro (rs := [.tmp 4]) Tryz.func20 rfl Tryz.ntmps20 Tryz.results20 rfl rfl rfl fun w h => ?_
  refine OK.seq ?_
  refine OK.reg ?_
  refine RK.c (S.box (k := 2) rfl .none rfl (.tmp rfl rfl) rfl) ?_
  refine RK.c (S.box (k := 3) rfl .none rfl (.tmp rfl rfl) rfl) ?_
  refine RK.c (S.assign .none rfl (.cint rfl)) ?_
  refine RK.nil ?_
  refine Ab.D.code ?_
  refine OK.seq ?_
  refine OK.reg ?_
  refine RK.c (S.bloadN ti24 .none rfl (.tmp rfl rfl) rfl rfl rfl rfl) ?_
  refine RK.c (S.bloadN ti33 .none rfl (.tmp rfl rfl) rfl rfl rfl rfl) ?_
  refine RK.c (S.call (ref_CheckEnvelope) Tryz.call29 .none rfl (.cons (.tmp rfl rfl) (.cons (.tmp rfl rfl) .nil)) rfl) ?_
  refine RK.c (S.move .none rfl (.tmp rfl rfl)) ?_
  refine RK.c (S.extract .none rfl (.tmp rfl rfl) rfl rfl) ?_
  refine RK.c (S.extract .none rfl (.tmp rfl rfl) rfl rfl) ?_
  refine RK.c (S.assign .none rfl (.tmp rfl rfl)) ?_
  refine RK.c (S.assign .none rfl (.tmp rfl rfl)) ?_
  refine RK.nil ?_
  refine Ab.D.code ?_
  refine OK.seq ?_
  refine OK.reg ?_
  refine RK.c (S.move .none rfl (.tmp rfl rfl)) ?_
  refine RK.c (S.assign .none rfl (.tmp rfl rfl)) ?_
  refine RK.nil ?_
  refine Ab.D.code ?_
  refine OK.ret (Ret.r1 (.tmp rfl rfl (.c (.same rfl) rfl) rfl) ?_)
  rfl

theorem law_MonitorLearned {p : Plan} {x : LearnedX} : Ct Tryz.prog 4 [.agg p.cs, .agg x.cs] (.bool true) := by
  refine Ct.intro (rs := [.tmp 4]) Tryz.func4 rfl Tryz.ntmps4 Tryz.results4 rfl rfl rfl fun w h => ?_
  refine OK.seq ?_
  refine OK.reg ?_
  refine RK.c (S.box (k := 2) rfl .none rfl (.tmp rfl rfl) rfl) ?_
  refine RK.c (S.box (k := 3) rfl .none rfl (.tmp rfl rfl) rfl) ?_
  refine RK.c (S.assign .none rfl .cbool) ?_
  refine RK.nil ?_
  refine Ab.D.code ?_
  refine OK.seq ?_
  refine OK.seq ?_
  refine OK.reg ?_
  refine RK.c (S.call (law_awake) Tryz.call9 .none rfl .nil rfl) ?_
  refine RK.c (S.not .none rfl (.tmp rfl rfl)) ?_
  refine RK.nil ?_
  refine Ab.D.code ?_
  refine OK.condF rfl rfl rfl ?_
  refine OK.skip ?_
  refine Ab.D.code ?_
  refine OK.seq ?_
  refine OK.seq ?_
  refine OK.reg ?_
  refine RK.c (S.bloadN ti24 .none rfl (.tmp rfl rfl) rfl rfl rfl rfl) ?_
  refine RK.c (S.call (ref_PlanErr) Tryz.call15 .none rfl (.cons (.tmp rfl rfl) .nil) rfl) ?_
  refine RK.c (S.neq .none rfl (.tmp rfl rfl) (.cint rfl)) ?_
  refine RK.c (S.move .none rfl (.tmp rfl rfl)) ?_
  refine RK.splitD (t := 25) rfl (fun g25 => ?_) (fun g25 => ?_)
  ·
    refine RK.c (S.skip rfl rfl rfl rfl rfl) ?_
    refine RK.c (S.skip rfl rfl rfl rfl rfl) ?_
    refine RK.c (S.skip rfl rfl rfl rfl rfl) ?_
    refine RK.c (S.skip rfl rfl rfl rfl rfl) ?_
    refine RK.c (S.pickT .none rfl (.tmp rfl rfl) .cbool rfl) ?_
    refine RK.c (S.move .none rfl (.tmp rfl rfl)) ?_
    refine RK.c (S.skip rfl rfl rfl rfl rfl) ?_
    refine RK.c (S.skip rfl rfl rfl rfl rfl) ?_
    refine RK.c (S.skip rfl rfl rfl rfl rfl) ?_
    refine RK.c (S.skip rfl rfl rfl rfl rfl) ?_
    refine RK.c (S.skip rfl rfl rfl rfl rfl) ?_
    refine RK.c (S.pickT .none rfl (.tmp rfl rfl) .cbool rfl) ?_
    refine RK.c (S.move .none rfl (.tmp rfl rfl)) ?_
    refine RK.c (S.skip rfl rfl rfl rfl rfl) ?_
    refine RK.c (S.skip rfl rfl rfl rfl rfl) ?_
    refine RK.c (S.skip rfl rfl rfl rfl rfl) ?_
    refine RK.c (S.skip rfl rfl rfl rfl rfl) ?_
    refine RK.c (S.skip rfl rfl rfl rfl rfl) ?_
    refine RK.c (S.skip rfl rfl rfl rfl rfl) ?_
    refine RK.c (S.skip rfl rfl rfl rfl rfl) ?_
    refine RK.c (S.pickT .none rfl (.tmp rfl rfl) .cbool rfl) ?_
    refine RK.nil ?_
    refine Ab.D.code ?_
    refine OK.condT rfl rfl rfl ?_
    refine OK.seq ?_
    refine OK.reg ?_
    refine RK.c (S.assign .none rfl .cbool) ?_
    refine RK.nil ?_
    refine Ab.D.code ?_
    refine OK.ret (Ret.r1 (.tmp rfl rfl (.c (.same rfl) rfl) rfl) ?_)
    first | rfl | (refine ret_abs ?_; omega) | (refine ret_abs ?_; dsimp only at *; omega)
  ·
    refine RK.c (S.bfield fi27_0 (.yes rfl rfl rfl rfl) rfl (.tmp rfl rfl)) ?_
    refine RK.c (S.bload1 ti25 (.yes rfl rfl rfl rfl) rfl (.tmp rfl rfl) rfl rfl rfl rfl) ?_
    refine RK.c (S.call (law_shortRecords) Tryz.call11 (.yes rfl rfl rfl rfl) rfl (.cons (.tmp rfl rfl) .nil) rfl) ?_
    refine RK.c (S.not (.yes rfl rfl rfl rfl) rfl (.tmp rfl rfl)) ?_
    refine RK.c (S.pickF .none rfl (.tmp rfl rfl) (.tmp rfl rfl) rfl) ?_
    refine RK.c (S.move .none rfl (.tmp rfl rfl)) ?_
    refine RK.split (t := 31) rfl (fun g31 => ?_) (fun g31 => ?_)
    ·
      refine RK.c (S.skip rfl rfl rfl rfl rfl) ?_
      refine RK.c (S.skip rfl rfl rfl rfl rfl) ?_
      refine RK.c (S.skip rfl rfl rfl rfl rfl) ?_
      refine RK.c (S.skip rfl rfl rfl rfl rfl) ?_
      refine RK.c (S.skip rfl rfl rfl rfl rfl) ?_
      refine RK.c (S.pickT .none rfl (.tmp rfl rfl) .cbool rfl) ?_
      refine RK.c (S.move .none rfl (.tmp rfl rfl)) ?_
      refine RK.c (S.skip rfl rfl rfl rfl rfl) ?_
      refine RK.c (S.skip rfl rfl rfl rfl rfl) ?_
      refine RK.c (S.skip rfl rfl rfl rfl rfl) ?_
      refine RK.c (S.skip rfl rfl rfl rfl rfl) ?_
      refine RK.c (S.skip rfl rfl rfl rfl rfl) ?_
      refine RK.c (S.skip rfl rfl rfl rfl rfl) ?_
      refine RK.c (S.skip rfl rfl rfl rfl rfl) ?_
      refine RK.c (S.pickT .none rfl (.tmp rfl rfl) .cbool rfl) ?_
      refine RK.nil ?_
      refine Ab.D.code ?_
      refine OK.condT rfl rfl rfl ?_
      refine OK.seq ?_
      refine OK.reg ?_
      refine RK.c (S.assign .none rfl .cbool) ?_
      refine RK.nil ?_
      refine Ab.D.code ?_
      refine OK.ret (Ret.r1 (.tmp rfl rfl (.c (.same rfl) rfl) rfl) ?_)
      first | rfl | (refine ret_abs ?_; omega) | (refine ret_abs ?_; dsimp only at *; omega)
    ·
      have hS : shortRecs x.records = true := by simpa using g31
      obtain ⟨hr1, hr2, hr3⟩ := shortRecs_len hS
      have hp0 : planErr p = 0 := Decidable.not_not.1 g25
      have hpp := planErr_0 hp0
      refine RK.c (S.bloadN ti24 (.yes rfl rfl rfl rfl) rfl (.tmp rfl rfl) rfl rfl rfl rfl) ?_
      refine RK.c (S.bfield fi27_0 (.yes rfl rfl rfl rfl) rfl (.tmp rfl rfl)) ?_
      refine RK.c (S.bload1 ti25 (.yes rfl rfl rfl rfl) rfl (.tmp rfl rfl) rfl rfl rfl rfl) ?_
      refine RK.c (S.call (ref_RecordsErr hp0) Tryz.call16 (.yes rfl rfl rfl rfl) rfl (.cons (.tmp rfl rfl) (.cons (.tmp rfl rfl) .nil)) rfl) ?_
      refine RK.c (S.neq (.yes rfl rfl rfl rfl) rfl (.tmp rfl rfl) (.cint rfl)) ?_
      refine RK.c (S.pickF .none rfl (.tmp rfl rfl) (.tmp rfl rfl) rfl) ?_
      refine RK.c (S.move .none rfl (.tmp rfl rfl)) ?_
      refine RK.splitD (t := 38) rfl (fun g38 => ?_) (fun g38 => ?_)
      ·
        refine RK.c (S.skip rfl rfl rfl rfl rfl) ?_
        refine RK.c (S.skip rfl rfl rfl rfl rfl) ?_
        refine RK.c (S.skip rfl rfl rfl rfl rfl) ?_
        refine RK.c (S.skip rfl rfl rfl rfl rfl) ?_
        refine RK.c (S.skip rfl rfl rfl rfl rfl) ?_
        refine RK.c (S.skip rfl rfl rfl rfl rfl) ?_
        refine RK.c (S.skip rfl rfl rfl rfl rfl) ?_
        refine RK.c (S.pickT .none rfl (.tmp rfl rfl) .cbool rfl) ?_
        refine RK.nil ?_
        refine Ab.D.code ?_
        refine OK.condT rfl rfl rfl ?_
        refine OK.seq ?_
        refine OK.reg ?_
        refine RK.c (S.assign .none rfl .cbool) ?_
        refine RK.nil ?_
        refine Ab.D.code ?_
        refine OK.ret (Ret.r1 (.tmp rfl rfl (.c (.same rfl) rfl) rfl) ?_)
        first | rfl | (refine ret_abs ?_; omega) | (refine ret_abs ?_; dsimp only at *; omega)
      ·
        refine RK.c (S.bfield fi27_1 (.yes rfl rfl rfl rfl) rfl (.tmp rfl rfl)) ?_
        refine RK.c (S.bload1 ti3 (.yes rfl rfl rfl rfl) rfl (.tmp rfl rfl) rfl rfl rfl rfl) ?_
        refine RK.c (S.bfield fi27_0 (.yes rfl rfl rfl rfl) rfl (.tmp rfl rfl)) ?_
        refine RK.c (S.bload1 ti25 (.yes rfl rfl rfl rfl) rfl (.tmp rfl rfl) rfl rfl rfl rfl) ?_
        refine RK.c (S.lenM si25 (.yes rfl rfl rfl rfl) rfl (.tmp rfl rfl)) ?_
        refine RK.c (S.call (ref_TrimErr (by omega)) Tryz.call17 (.yes rfl rfl rfl rfl) rfl (.cons (.tmp rfl rfl) (.cons (.tmp rfl rfl) .nil)) rfl) ?_
        refine RK.c (S.neq (.yes rfl rfl rfl rfl) rfl (.tmp rfl rfl) (.cint rfl)) ?_
        refine RK.c (S.pickF .none rfl (.tmp rfl rfl) (.tmp rfl rfl) rfl) ?_
        refine RK.nil ?_
        refine Ab.D.code ?_
        refine OK.condD rfl rfl (fun c46 => ?_) (fun c46 => ?_)
        ·
          refine OK.seq ?_
          refine OK.reg ?_
          refine RK.c (S.assign .none rfl .cbool) ?_
          refine RK.nil ?_
          refine Ab.D.code ?_
          refine OK.ret (Ret.r1 (.tmp rfl rfl (.c (.same rfl) rfl) rfl) ?_)
          first | rfl | (refine ret_abs ?_; omega) | (refine ret_abs ?_; dsimp only at *; omega)
        ·
          have hq0 : recsErr p x.records = 0 := Decidable.not_not.1 g38
          have hL := learn_of hp0 hq0
          have hLl := hL.len
          have ht0 : trimErr x.trim x.records.length = 0 := Decidable.not_not.1 c46
          have htr := trimErr_0 (by omega) ht0
          have htz : trimErr 0 x.records.length = 0 := by
            unfold trimErr
            have := Int.tdiv_nonneg (a := (x.records.length : Int) - 1) (b := 2) (by omega) (by omega)
            rw [if_pos (by omega)]
          have hop : openRecs p x.records = 0 := by rw [openRecs, if_neg (by omega), hq0]
          have e0 : envErr p x.records 0 = 0 := by rw [envErr, if_neg (by omega), htz]
          have e1 : envErr p x.records x.trim = 0 := by rw [envErr, if_neg (by omega), ht0]
          have hvW := learn_valid hL htz
          have hvO := learn_valid hL ht0
          have hver : ∀ (k : Nat) (hk : k < x.records.length), bothErr p (envT p x.records 0) x.records[k] = 0 ∧ verdT (envT p x.records 0) x.records[k] = 0 := fun k hk => learn_verdict hL hk
          obtain ⟨W, hW⟩ : ∃ y, y = (envT p x.records 0).rows := ⟨_, rfl⟩
          obtain ⟨O, hO⟩ : ∃ y, y = (envT p x.records x.trim).rows := ⟨_, rfl⟩
          have fW : (⟨x.records.length, 0, W⟩ : Envelope) = envT p x.records 0 := by rw [hW]; rfl
          have fO : (⟨x.records.length, x.trim, O⟩ : Envelope) = envT p x.records x.trim := by rw [hO]; rfl
          have kW : Ct Tryz.prog 12 [.agg p.cs, .sl (x.records.map Record.cs), .int .i64 0] (.tup [.agg (⟨x.records.length, 0, W⟩ : Envelope).cs, .int .i64 0]) := ct_res (mon_EnvelopeOf (p := p) (l := x.records) (trim := 0)) (by rw [envOf, if_pos e0, e0, fW])
          have kO : Ct Tryz.prog 12 [.agg p.cs, .sl (x.records.map Record.cs), .int .i64 x.trim] (.tup [.agg (⟨x.records.length, x.trim, O⟩ : Envelope).cs, .int .i64 0]) := ct_res (mon_EnvelopeOf (p := p) (l := x.records) (trim := x.trim)) (by rw [envOf, if_pos e1, e1, fO])
          have kWe : Ct Tryz.prog 20 [.agg p.cs, .agg (⟨x.records.length, 0, W⟩ : Envelope).cs] (.int .i64 0) := ct_res (ref_EnvelopeErr (p := p) (x := ⟨x.records.length, 0, W⟩)) (by rw [fW, hvW])
          have kOe : Ct Tryz.prog 20 [.agg p.cs, .agg (⟨x.records.length, x.trim, O⟩ : Envelope).cs] (.int .i64 0) := ct_res (ref_EnvelopeErr (p := p) (x := ⟨x.records.length, x.trim, O⟩)) (by rw [fO, hvO])
          have kV : ∀ (k : Nat) (hk : k < x.records.length), Ct Tryz.prog 21 [.agg p.cs, .agg (⟨x.records.length, 0, W⟩ : Envelope).cs, .agg x.records[k].cs] (.tup [.int .i64 0, .int .i64 0]) := fun k hk => ct_res (mon_VerdictOf (p := p) (x := ⟨x.records.length, 0, W⟩) (r := x.records[k])) (by rw [fW, (hver k hk).1, if_pos rfl, (hver k hk).2])
          obtain ⟨w1, w2⟩ := W_len (by omega) hW
          obtain ⟨o1, o2⟩ := W_len (by omega) hO
          have hlo : ∀ (t : Nat) (h1 : t < W.length) (h2 : t < O.length) (c : Nat) (h3 : c < W[t].length) (h4 : c < O[t].length), W[t][c].lo ≤ O[t][c].lo ∧ O[t][c].hi ≤ W[t][c].hi := fun t h1 h2 c h3 h4 => by rw [W_get hW h1 h3, W_get hO h2 h4]; exact learn_lo hL htr t c
          have hout : ∀ (t : Nat) (h2 : t < O.length) (c : Nat) (h4 : c < O[t].length), (outC (col x.records t c) O[t][c] : Int) ≤ 2 * x.trim := fun t h2 c h4 => by rw [W_get hO h2 h4]; exact learn_out (by omega) htr t c
          obtain ⟨LS, hLS⟩ : ∃ y, y = envOf p x.records.dropLast x.trim := ⟨_, rfl⟩
          obtain ⟨eL, heL⟩ : ∃ y, y = envErr p x.records.dropLast x.trim := ⟨_, rfl⟩
          have kL : Ct Tryz.prog 12 [.agg p.cs, .sl (x.records.dropLast.map Record.cs), .int .i64 x.trim] (.tup [.agg LS.cs, .int .i64 eL]) := ct_res (mon_EnvelopeOf (p := p) (l := x.records.dropLast) (trim := x.trim)) (by rw [hLS, heL])
          have hless := fun h : eL = 0 => less_of hp0 hLS hO (heL ▸ h)
          have hwr := hL.whole.rows
          have hwv := hL.whole.vals
          clear hver fW fO hvW hvO e0 e1 heL hLS hop hW hO
          refine OK.skip ?_
          refine Ab.D.code ?_
          refine OK.seq ?_
          refine OK.regionDraw follows (.c (S.bloadN ti24 .none rfl (.tmp rfl rfl) rfl rfl rfl rfl)
            (.c (S.call (ref_CopyPlan (by omega)) Tryz.call13 .none rfl (.cons (.tmp rfl rfl) .nil) rfl)
            (.c (S.bfield fi27_0 .none rfl (.tmp rfl rfl))
            (.c (S.bload1 ti25 .none rfl (.tmp rfl rfl) rfl rfl rfl rfl)
            (.c (S.call (ref_CopyRecords (by omega) (fun i h => by have := hr2 i h; omega) (fun i h k h2 => by have := hr3 i h k h2; omega)) Tryz.call14 .none rfl (.cons (.tmp rfl rfl) .nil) rfl)
            (.c (S.call (kW) Tryz.call12 .none rfl (.cons (.tmp rfl rfl) (.cons (.tmp rfl rfl) (.cons (.cint rfl) .nil))) rfl)
            (.c (S.move .none rfl (.tmp rfl rfl))
            (.c (S.extract .none rfl (.tmp rfl rfl) rfl rfl)
            (.c (S.extract .none rfl (.tmp rfl rfl) rfl rfl)
            (.c (S.alloc (k := 5) ze33 rfl .none rfl)
            (.c (S.store ti33 .none (.tmp rfl rfl) (.tmp rfl rfl) rfl rfl rfl rfl rfl rfl)
            (.c (S.assign .none rfl (.tmp rfl rfl))
            .nil)))))))))))) (by kernel_rfl) ?_
          refine Ab.D.code ?_
          refine OK.seq ?_
          refine OK.regionDraw follows (.c (S.bloadN ti24 .none rfl (.tmp rfl rfl) rfl rfl rfl rfl)
            (.c (S.call (ref_CopyPlan (by omega)) Tryz.call13 .none rfl (.cons (.tmp rfl rfl) .nil) rfl)
            (.c (S.bfield fi27_0 .none rfl (.tmp rfl rfl))
            (.c (S.bload1 ti25 .none rfl (.tmp rfl rfl) rfl rfl rfl rfl)
            (.c (S.call (ref_CopyRecords (by omega) (fun i h => by have := hr2 i h; omega) (fun i h k h2 => by have := hr3 i h k h2; omega)) Tryz.call14 .none rfl (.cons (.tmp rfl rfl) .nil) rfl)
            (.c (S.bfield fi27_1 .none rfl (.tmp rfl rfl))
            (.c (S.bload1 ti3 .none rfl (.tmp rfl rfl) rfl rfl rfl rfl)
            (.c (S.call (kO) Tryz.call12 .none rfl (.cons (.tmp rfl rfl) (.cons (.tmp rfl rfl) (.cons (.tmp rfl rfl) .nil))) rfl)
            (.c (S.move .none rfl (.tmp rfl rfl))
            (.c (S.extract .none rfl (.tmp rfl rfl) rfl rfl)
            (.c (S.extract .none rfl (.tmp rfl rfl) rfl rfl)
            (.c (S.alloc (k := 7) ze33 rfl .none rfl)
            (.c (S.store ti33 .none (.tmp rfl rfl) (.tmp rfl rfl) rfl rfl rfl rfl rfl rfl)
            (.c (S.assign .none rfl (.tmp rfl rfl))
            .nil)))))))))))))) (by kernel_rfl) ?_
          refine Ab.D.code ?_
          refine OK.seq ?_
          refine OK.seq ?_
          refine OK.reg ?_
          refine RK.c (S.move .none rfl (.tmp rfl rfl)) ?_
          refine RK.c (S.neq .none rfl (.tmp rfl rfl) (.cint rfl)) ?_
          refine RK.c (S.move .none rfl (.tmp rfl rfl)) ?_
          refine RK.splitD (t := 69) rfl (fun g69 => ?_) (fun g69 => ?_)
          ·
            refine RK.c (S.skip rfl rfl rfl rfl rfl) ?_
            refine RK.c (S.skip rfl rfl rfl rfl rfl) ?_
            refine RK.c (S.pickT .none rfl (.tmp rfl rfl) .cbool rfl) ?_
            refine RK.c (S.move .none rfl (.tmp rfl rfl)) ?_
            refine RK.c (S.skip rfl rfl rfl rfl rfl) ?_
            refine RK.c (S.skip rfl rfl rfl rfl rfl) ?_
            refine RK.c (S.skip rfl rfl rfl rfl rfl) ?_
            refine RK.c (S.skip rfl rfl rfl rfl rfl) ?_
            refine RK.c (S.pickT .none rfl (.tmp rfl rfl) .cbool rfl) ?_
            refine RK.c (S.move .none rfl (.tmp rfl rfl)) ?_
            refine RK.c (S.skip rfl rfl rfl rfl rfl) ?_
            refine RK.c (S.skip rfl rfl rfl rfl rfl) ?_
            refine RK.c (S.skip rfl rfl rfl rfl rfl) ?_
            refine RK.c (S.skip rfl rfl rfl rfl rfl) ?_
            refine RK.c (S.pickT .none rfl (.tmp rfl rfl) .cbool rfl) ?_
            refine RK.c (S.move .none rfl (.tmp rfl rfl)) ?_
            refine RK.c (S.skip rfl rfl rfl rfl rfl) ?_
            refine RK.c (S.skip rfl rfl rfl rfl rfl) ?_
            refine RK.c (S.skip rfl rfl rfl rfl rfl) ?_
            refine RK.c (S.skip rfl rfl rfl rfl rfl) ?_
            refine RK.c (S.skip rfl rfl rfl rfl rfl) ?_
            refine RK.c (S.skip rfl rfl rfl rfl rfl) ?_
            refine RK.c (S.pickT .none rfl (.tmp rfl rfl) .cbool rfl) ?_
            refine RK.c (S.move .none rfl (.tmp rfl rfl)) ?_
            refine RK.c (S.skip rfl rfl rfl rfl rfl) ?_
            refine RK.c (S.skip rfl rfl rfl rfl rfl) ?_
            refine RK.c (S.skip rfl rfl rfl rfl rfl) ?_
            refine RK.c (S.skip rfl rfl rfl rfl rfl) ?_
            refine RK.c (S.skip rfl rfl rfl rfl rfl) ?_
            refine RK.c (S.pickT .none rfl (.tmp rfl rfl) .cbool rfl) ?_
            refine RK.nil ?_
            refine Ab.D.code ?_
            refine OK.condT rfl rfl rfl ?_
            refine OK.seq ?_
            refine OK.reg ?_
            refine RK.c (S.assign .none rfl .cbool) ?_
            refine RK.nil ?_
            refine Ab.D.code ?_
            refine OK.ret (Ret.r1 (.tmp rfl rfl (.c (.same rfl) rfl) rfl) ?_)
            first | rfl | (refine ret_abs ?_; omega) | (refine ret_abs ?_; dsimp only at *; omega)
          ·
            refine RK.c (S.move (.yes rfl rfl rfl rfl) rfl (.tmp rfl rfl)) ?_
            refine RK.c (S.neq (.yes rfl rfl rfl rfl) rfl (.tmp rfl rfl) (.cint rfl)) ?_
            refine RK.c (S.pickF .none rfl (.tmp rfl rfl) (.tmp rfl rfl) rfl) ?_
            refine RK.c (S.move .none rfl (.tmp rfl rfl)) ?_
            refine RK.splitD (t := 73) rfl (fun g73 => ?_) (fun g73 => ?_)
            ·
              refine RK.c (S.skip rfl rfl rfl rfl rfl) ?_
              refine RK.c (S.skip rfl rfl rfl rfl rfl) ?_
              refine RK.c (S.skip rfl rfl rfl rfl rfl) ?_
              refine RK.c (S.skip rfl rfl rfl rfl rfl) ?_
              refine RK.c (S.pickT .none rfl (.tmp rfl rfl) .cbool rfl) ?_
              refine RK.c (S.move .none rfl (.tmp rfl rfl)) ?_
              refine RK.c (S.skip rfl rfl rfl rfl rfl) ?_
              refine RK.c (S.skip rfl rfl rfl rfl rfl) ?_
              refine RK.c (S.skip rfl rfl rfl rfl rfl) ?_
              refine RK.c (S.skip rfl rfl rfl rfl rfl) ?_
              refine RK.c (S.pickT .none rfl (.tmp rfl rfl) .cbool rfl) ?_
              refine RK.c (S.move .none rfl (.tmp rfl rfl)) ?_
              refine RK.c (S.skip rfl rfl rfl rfl rfl) ?_
              refine RK.c (S.skip rfl rfl rfl rfl rfl) ?_
              refine RK.c (S.skip rfl rfl rfl rfl rfl) ?_
              refine RK.c (S.skip rfl rfl rfl rfl rfl) ?_
              refine RK.c (S.skip rfl rfl rfl rfl rfl) ?_
              refine RK.c (S.skip rfl rfl rfl rfl rfl) ?_
              refine RK.c (S.pickT .none rfl (.tmp rfl rfl) .cbool rfl) ?_
              refine RK.c (S.move .none rfl (.tmp rfl rfl)) ?_
              refine RK.c (S.skip rfl rfl rfl rfl rfl) ?_
              refine RK.c (S.skip rfl rfl rfl rfl rfl) ?_
              refine RK.c (S.skip rfl rfl rfl rfl rfl) ?_
              refine RK.c (S.skip rfl rfl rfl rfl rfl) ?_
              refine RK.c (S.skip rfl rfl rfl rfl rfl) ?_
              refine RK.c (S.pickT .none rfl (.tmp rfl rfl) .cbool rfl) ?_
              refine RK.nil ?_
              refine Ab.D.code ?_
              refine OK.condT rfl rfl rfl ?_
              refine OK.seq ?_
              refine OK.reg ?_
              refine RK.c (S.assign .none rfl .cbool) ?_
              refine RK.nil ?_
              refine Ab.D.code ?_
              refine OK.ret (Ret.r1 (.tmp rfl rfl (.c (.same rfl) rfl) rfl) ?_)
              first | rfl | (refine ret_abs ?_; omega) | (refine ret_abs ?_; dsimp only at *; omega)
            ·
              refine RK.c (S.bloadN ti24 (.yes rfl rfl rfl rfl) rfl (.tmp rfl rfl) rfl rfl rfl rfl) ?_
              refine RK.c (S.bloadN ti33 (.yes rfl rfl rfl rfl) rfl (.tmp rfl rfl) rfl rfl rfl rfl) ?_
              refine RK.c (S.call (kWe) Tryz.call20 (.yes rfl rfl rfl rfl) rfl (.cons (.tmp rfl rfl) (.cons (.tmp rfl rfl) .nil)) rfl) ?_
              refine RK.c (S.neq (.yes rfl rfl rfl rfl) rfl (.tmp rfl rfl) (.cint rfl)) ?_
              refine RK.c (S.pickF .none rfl (.tmp rfl rfl) (.tmp rfl rfl) rfl) ?_
              refine RK.c (S.move .none rfl (.tmp rfl rfl)) ?_
              refine RK.splitD (t := 79) rfl (fun g79 => ?_) (fun g79 => ?_)
              ·
                refine RK.c (S.skip rfl rfl rfl rfl rfl) ?_
                refine RK.c (S.skip rfl rfl rfl rfl rfl) ?_
                refine RK.c (S.skip rfl rfl rfl rfl rfl) ?_
                refine RK.c (S.skip rfl rfl rfl rfl rfl) ?_
                refine RK.c (S.pickT .none rfl (.tmp rfl rfl) .cbool rfl) ?_
                refine RK.c (S.move .none rfl (.tmp rfl rfl)) ?_
                refine RK.c (S.skip rfl rfl rfl rfl rfl) ?_
                refine RK.c (S.skip rfl rfl rfl rfl rfl) ?_
                refine RK.c (S.skip rfl rfl rfl rfl rfl) ?_
                refine RK.c (S.skip rfl rfl rfl rfl rfl) ?_
                refine RK.c (S.skip rfl rfl rfl rfl rfl) ?_
                refine RK.c (S.skip rfl rfl rfl rfl rfl) ?_
                refine RK.c (S.pickT .none rfl (.tmp rfl rfl) .cbool rfl) ?_
                refine RK.c (S.move .none rfl (.tmp rfl rfl)) ?_
                refine RK.c (S.skip rfl rfl rfl rfl rfl) ?_
                refine RK.c (S.skip rfl rfl rfl rfl rfl) ?_
                refine RK.c (S.skip rfl rfl rfl rfl rfl) ?_
                refine RK.c (S.skip rfl rfl rfl rfl rfl) ?_
                refine RK.c (S.skip rfl rfl rfl rfl rfl) ?_
                refine RK.c (S.pickT .none rfl (.tmp rfl rfl) .cbool rfl) ?_
                refine RK.nil ?_
                refine Ab.D.code ?_
                refine OK.condT rfl rfl rfl ?_
                refine OK.seq ?_
                refine OK.reg ?_
                refine RK.c (S.assign .none rfl .cbool) ?_
                refine RK.nil ?_
                refine Ab.D.code ?_
                refine OK.ret (Ret.r1 (.tmp rfl rfl (.c (.same rfl) rfl) rfl) ?_)
                first | rfl | (refine ret_abs ?_; omega) | (refine ret_abs ?_; dsimp only at *; omega)
              ·
                refine RK.c (S.bloadN ti24 (.yes rfl rfl rfl rfl) rfl (.tmp rfl rfl) rfl rfl rfl rfl) ?_
                refine RK.c (S.bloadN ti33 (.yes rfl rfl rfl rfl) rfl (.tmp rfl rfl) rfl rfl rfl rfl) ?_
                refine RK.c (S.call (kOe) Tryz.call20 (.yes rfl rfl rfl rfl) rfl (.cons (.tmp rfl rfl) (.cons (.tmp rfl rfl) .nil)) rfl) ?_
                refine RK.c (S.neq (.yes rfl rfl rfl rfl) rfl (.tmp rfl rfl) (.cint rfl)) ?_
                refine RK.c (S.pickF .none rfl (.tmp rfl rfl) (.tmp rfl rfl) rfl) ?_
                refine RK.c (S.move .none rfl (.tmp rfl rfl)) ?_
                refine RK.splitD (t := 85) rfl (fun g85 => ?_) (fun g85 => ?_)
                ·
                  refine RK.c (S.skip rfl rfl rfl rfl rfl) ?_
                  refine RK.c (S.skip rfl rfl rfl rfl rfl) ?_
                  refine RK.c (S.skip rfl rfl rfl rfl rfl) ?_
                  refine RK.c (S.skip rfl rfl rfl rfl rfl) ?_
                  refine RK.c (S.skip rfl rfl rfl rfl rfl) ?_
                  refine RK.c (S.skip rfl rfl rfl rfl rfl) ?_
                  refine RK.c (S.pickT .none rfl (.tmp rfl rfl) .cbool rfl) ?_
                  refine RK.c (S.move .none rfl (.tmp rfl rfl)) ?_
                  refine RK.c (S.skip rfl rfl rfl rfl rfl) ?_
                  refine RK.c (S.skip rfl rfl rfl rfl rfl) ?_
                  refine RK.c (S.skip rfl rfl rfl rfl rfl) ?_
                  refine RK.c (S.skip rfl rfl rfl rfl rfl) ?_
                  refine RK.c (S.skip rfl rfl rfl rfl rfl) ?_
                  refine RK.c (S.pickT .none rfl (.tmp rfl rfl) .cbool rfl) ?_
                  refine RK.nil ?_
                  refine Ab.D.code ?_
                  refine OK.condT rfl rfl rfl ?_
                  refine OK.seq ?_
                  refine OK.reg ?_
                  refine RK.c (S.assign .none rfl .cbool) ?_
                  refine RK.nil ?_
                  refine Ab.D.code ?_
                  refine OK.ret (Ret.r1 (.tmp rfl rfl (.c (.same rfl) rfl) rfl) ?_)
                  first | rfl | (refine ret_abs ?_; omega) | (refine ret_abs ?_; dsimp only at *; omega)
                ·
                  refine RK.c (S.bfield fi33_0 (.yes rfl rfl rfl rfl) rfl (.tmp rfl rfl)) ?_
                  refine RK.c (S.bload1 ti3 (.yes rfl rfl rfl rfl) rfl (.tmp rfl rfl) rfl rfl rfl rfl) ?_
                  refine RK.c (S.bfield fi27_0 (.yes rfl rfl rfl rfl) rfl (.tmp rfl rfl)) ?_
                  refine RK.c (S.bload1 ti25 (.yes rfl rfl rfl rfl) rfl (.tmp rfl rfl) rfl rfl rfl rfl) ?_
                  refine RK.c (S.lenM si25 (.yes rfl rfl rfl rfl) rfl (.tmp rfl rfl)) ?_
                  refine RK.c (S.neq (.yes rfl rfl rfl rfl) rfl (.tmp rfl rfl) (.tmp rfl rfl)) ?_
                  refine RK.c (S.pickF .none rfl (.tmp rfl rfl) (.tmp rfl rfl) rfl) ?_
                  refine RK.c (S.move .none rfl (.tmp rfl rfl)) ?_
                  refine RK.splitD (t := 93) rfl (fun g93 => ?_) (fun g93 => ?_)
                  ·
                    refine RK.c (S.skip rfl rfl rfl rfl rfl) ?_
                    refine RK.c (S.skip rfl rfl rfl rfl rfl) ?_
                    refine RK.c (S.skip rfl rfl rfl rfl rfl) ?_
                    refine RK.c (S.skip rfl rfl rfl rfl rfl) ?_
                    refine RK.c (S.skip rfl rfl rfl rfl rfl) ?_
                    refine RK.c (S.pickT .none rfl (.tmp rfl rfl) .cbool rfl) ?_
                    refine RK.nil ?_
                    refine Ab.D.code ?_
                    refine OK.condT rfl rfl rfl ?_
                    refine OK.seq ?_
                    refine OK.reg ?_
                    refine RK.c (S.assign .none rfl .cbool) ?_
                    refine RK.nil ?_
                    refine Ab.D.code ?_
                    refine OK.ret (Ret.r1 (.tmp rfl rfl (.c (.same rfl) rfl) rfl) ?_)
                    first | rfl | (refine ret_abs ?_; omega) | (refine ret_abs ?_; dsimp only at *; omega)
                  ·
                    refine RK.c (S.bfield fi33_1 (.yes rfl rfl rfl rfl) rfl (.tmp rfl rfl)) ?_
                    refine RK.c (S.bload1 ti3 (.yes rfl rfl rfl rfl) rfl (.tmp rfl rfl) rfl rfl rfl rfl) ?_
                    refine RK.c (S.bfield fi27_1 (.yes rfl rfl rfl rfl) rfl (.tmp rfl rfl)) ?_
                    refine RK.c (S.bload1 ti3 (.yes rfl rfl rfl rfl) rfl (.tmp rfl rfl) rfl rfl rfl rfl) ?_
                    refine RK.c (S.neq (.yes rfl rfl rfl rfl) rfl (.tmp rfl rfl) (.tmp rfl rfl)) ?_
                    refine RK.c (S.pickF .none rfl (.tmp rfl rfl) (.tmp rfl rfl) rfl) ?_
                    refine RK.nil ?_
                    refine Ab.D.code ?_
                    refine OK.condD rfl rfl (fun c99 => ?_) (fun c99 => ?_)
                    ·
                      refine OK.seq ?_
                      refine OK.reg ?_
                      refine RK.c (S.assign .none rfl .cbool) ?_
                      refine RK.nil ?_
                      refine Ab.D.code ?_
                      refine OK.ret (Ret.r1 (.tmp rfl rfl (.c (.same rfl) rfl) rfl) ?_)
                      first | rfl | (refine ret_abs ?_; omega) | (refine ret_abs ?_; dsimp only at *; omega)
                    ·
                      refine OK.skip ?_
                      refine Ab.D.code ?_
                      refine OK.seq ?_
                      refine OK.seq ?_
                      refine OK.reg ?_
                      refine RK.c (S.assign .none rfl (.cint rfl)) ?_
                      refine RK.nil ?_
                      refine Ab.D.code ?_
                      refine OK.block ?_
                      refine OK.loop (G := Nat) [2, 3, 5, 7] (fun i => [(2, .ptr 2 0), (1002, .box p.cs), (3, .ptr 3 0), (1003, .box x.cs), (5, .ptr 5 0), (1005, .box (⟨x.records.length, 0, W⟩ : Envelope).cs), (7, .ptr 7 0), (1007, .box (⟨x.records.length, x.trim, O⟩ : Envelope).cs), (9, .int .i64 i)]) (fun i => i ≤ x.records.length) (fun i => x.records.length - i) 0 (Nat.zero_le _) ⟨rfl, rfl, rfl, rfl, rfl, rfl, rfl, rfl, rfl, trivial⟩ (fun _ => rfl) ?_
                      rintro i hi
                      refine OK.seq ?_
                      refine OK.seq ?_
                      refine OK.reg ?_
                      refine RK.c (S.move .none rfl (.tmp rfl rfl)) ?_
                      refine RK.c (S.bfield fi27_0 .none rfl (.tmp rfl rfl)) ?_
                      refine RK.c (S.bload1 ti25 .none rfl (.tmp rfl rfl) rfl rfl rfl rfl) ?_
                      refine RK.c (S.lenM si25 .none rfl (.tmp rfl rfl)) ?_
                      refine RK.c (S.lss .none rfl (.tmp rfl rfl) (.tmp rfl rfl)) ?_
                      refine RK.nil ?_
                      refine Ab.D.code ?_
                      refine OK.condD rfl rfl (fun c104 => ?_) (fun c104 => ?_)
                      ·
                        have kVi := kV i (by omega)
                        refine OK.skip ?_
                        refine Ab.D.code ?_
                        refine OK.seq ?_
                        refine OK.block ?_
                        refine OK.seq ?_
                        refine OK.regionDraw follows (.c (S.bloadN ti24 .none rfl (.tmp rfl rfl) rfl rfl rfl rfl)
                          (.c (S.call (ref_CopyPlan (by omega)) Tryz.call13 .none rfl (.cons (.tmp rfl rfl) .nil) rfl)
                          (.c (S.bloadN ti33 .none rfl (.tmp rfl rfl) rfl rfl rfl rfl)
                          (.c (S.call (ref_CopyEnvelope (x := ⟨x.records.length, 0, W⟩) (by show W.length ≤ 100000; omega) (fun i h => by have := w2 i h; show W[i].length ≤ 100000; omega)) Tryz.call22 .none rfl (.cons (.tmp rfl rfl) .nil) rfl)
                          (.c (S.bfield fi27_0 .none rfl (.tmp rfl rfl))
                          (.c (S.bload1 ti25 .none rfl (.tmp rfl rfl) rfl rfl rfl rfl)
                          (.c (S.move .none rfl (.tmp rfl rfl))
                          (.c (S.indexM si25 .none rfl (.tmp rfl rfl) (.tmp rfl rfl) rfl (by omega) rfl)
                          (.c (S.loadN ti51 .none rfl (.tmp rfl rfl) rfl rfl)
                          (.c (S.call (ref_CopyRecord (by have := hr2 i (by omega); omega) (fun k h2 => by have := hr3 i (by omega) k h2; omega)) Tryz.call23 .none rfl (.cons (.tmp rfl rfl) .nil) rfl)
                          (.c (S.call (kVi) Tryz.call21 .none rfl (.cons (.tmp rfl rfl) (.cons (.tmp rfl rfl) (.cons (.tmp rfl rfl) .nil))) rfl)
                          (.c (S.move .none rfl (.tmp rfl rfl))
                          (.c (S.extract .none rfl (.tmp rfl rfl) rfl rfl)
                          (.c (S.extract .none rfl (.tmp rfl rfl) rfl rfl)
                          (.c (S.assign .none rfl (.tmp rfl rfl))
                          (.c (S.assign .none rfl (.tmp rfl rfl))
                          .nil)))))))))))))))) (by kernel_rfl) ?_
                        refine Ab.D.code ?_
                        refine OK.seq ?_
                        refine OK.reg ?_
                        refine RK.c (S.move .none rfl (.tmp rfl rfl)) ?_
                        refine RK.c (S.neq .none rfl (.tmp rfl rfl) (.cint rfl)) ?_
                        refine RK.c (S.move .none rfl (.tmp rfl rfl)) ?_
                        refine RK.splitD (t := 123) rfl (fun g123 => ?_) (fun g123 => ?_)
                        ·
                          refine RK.c (S.skip rfl rfl rfl rfl rfl) ?_
                          refine RK.c (S.skip rfl rfl rfl rfl rfl) ?_
                          refine RK.c (S.pickT .none rfl (.tmp rfl rfl) .cbool rfl) ?_
                          refine RK.nil ?_
                          refine Ab.D.code ?_
                          refine OK.condT rfl rfl rfl ?_
                          refine OK.seq ?_
                          refine OK.reg ?_
                          refine RK.c (S.assign .none rfl .cbool) ?_
                          refine RK.nil ?_
                          refine Ab.D.code ?_
                          refine OK.ret (Ret.r1 (.tmp rfl rfl (.c (.same rfl) rfl) rfl) ?_)
                          first | rfl | (refine ret_abs ?_; omega) | (refine ret_abs ?_; dsimp only at *; omega)
                        ·
                          refine RK.c (S.move (.yes rfl rfl rfl rfl) rfl (.tmp rfl rfl)) ?_
                          refine RK.c (S.neq (.yes rfl rfl rfl rfl) rfl (.tmp rfl rfl) (.cint rfl)) ?_
                          refine RK.c (S.pickF .none rfl (.tmp rfl rfl) (.tmp rfl rfl) rfl) ?_
                          refine RK.nil ?_
                          refine Ab.D.code ?_
                          refine OK.condD rfl rfl (fun c126 => ?_) (fun c126 => ?_)
                          ·
                            refine OK.seq ?_
                            refine OK.reg ?_
                            refine RK.c (S.assign .none rfl .cbool) ?_
                            refine RK.nil ?_
                            refine Ab.D.code ?_
                            refine OK.ret (Ret.r1 (.tmp rfl rfl (.c (.same rfl) rfl) rfl) ?_)
                            first | rfl | (refine ret_abs ?_; omega) | (refine ret_abs ?_; dsimp only at *; omega)
                          ·
                            refine OK.skip ?_
                            refine Ab.D.blk ?_
                            refine Ab.D.code ?_
                            refine OK.reg ?_
                            refine RK.c (S.move .none rfl (.tmp rfl rfl)) ?_
                            refine RK.c (S.add .none rfl (.tmp rfl rfl) (.cint rfl) (IntWalk.i64_in _ (by omega)) (IntWalk.i64_in _ (by omega))) ?_
                            refine RK.c (S.assign .none rfl (.tmp rfl rfl)) ?_
                            refine RK.nil ?_
                            refine Ab.D.lp ⟨i + 1, (by omega), (by omega), rfl, rfl, rfl, rfl, rfl, rfl, rfl, rfl, rfl, trivial⟩
                      ·
                        refine OK.exit rfl ?_
                        refine Ab.D.code ?_
                        refine OK.seq ?_
                        refine OK.reg ?_
                        refine RK.c (S.bfield fi27_0 .none rfl (.tmp rfl rfl)) ?_
                        refine RK.c (S.bload1 ti25 .none rfl (.tmp rfl rfl) rfl rfl rfl rfl) ?_
                        refine RK.c (S.bfield fi27_0 .none rfl (.tmp rfl rfl)) ?_
                        refine RK.c (S.bload1 ti25 .none rfl (.tmp rfl rfl) rfl rfl rfl rfl) ?_
                        refine RK.c (S.lenM si25 .none rfl (.tmp rfl rfl)) ?_
                        refine RK.c (S.sub .none rfl (.tmp rfl rfl) (.cint rfl) (IntWalk.i64_in _ (by omega)) (IntWalk.i64_in _ (by omega))) ?_
                        refine RK.c (S.slice (hi := (x.records.length - 1)) (l' := x.records.dropLast) si25 (fun _ => rfl) .none rfl (.tmp rfl rfl) (.inl ⟨rfl, rfl, rfl⟩) (.inr ⟨_, _, rfl, (.tmp rfl rfl), (by omega)⟩) (Nat.zero_le _) (by omega) (by rw [List.dropLast_eq_take]; rfl)) ?_
                        refine RK.c (S.assign .none rfl (.tmp rfl rfl)) ?_
                        refine RK.nil ?_
                        refine Ab.D.code ?_
                        refine OK.seq ?_
                        refine OK.regionDraw follows (.c (S.bloadN ti24 .none rfl (.tmp rfl rfl) rfl rfl rfl rfl)
                          (.c (S.call (ref_CopyPlan (by omega)) Tryz.call13 .none rfl (.cons (.tmp rfl rfl) .nil) rfl)
                          (.c (S.move .none rfl (.tmp rfl rfl))
                          (.c (S.call (ref_CopyRecords (l := x.records.dropLast) (by rw [List.length_dropLast]; omega) (fun i h => by rw [List.getElem_dropLast]; have := hr2 i (by rw [List.length_dropLast] at h; omega); omega) (fun i h k h2 => by have e := List.getElem_dropLast h; have := hr3 i (by rw [List.length_dropLast] at h; omega) k (by rw [← e]; exact h2); simp only [e]; omega)) Tryz.call14 .none rfl (.cons (.tmp rfl rfl) .nil) rfl)
                          (.c (S.bfield fi27_1 .none rfl (.tmp rfl rfl))
                          (.c (S.bload1 ti3 .none rfl (.tmp rfl rfl) rfl rfl rfl rfl)
                          (.c (S.call (kL) Tryz.call12 .none rfl (.cons (.tmp rfl rfl) (.cons (.tmp rfl rfl) (.cons (.tmp rfl rfl) .nil))) rfl)
                          (.c (S.move .none rfl (.tmp rfl rfl))
                          (.c (S.extract .none rfl (.tmp rfl rfl) rfl rfl)
                          (.c (S.extract .none rfl (.tmp rfl rfl) rfl rfl)
                          (.c (S.alloc (k := 13) ze33 rfl .none rfl)
                          (.c (S.store ti33 .none (.tmp rfl rfl) (.tmp rfl rfl) rfl rfl rfl rfl rfl rfl)
                          (.c (S.assign .none rfl (.tmp rfl rfl))
                          .nil))))))))))))) (by kernel_rfl) ?_
                        refine Ab.D.code ?_
                        refine OK.seq ?_
                        refine OK.seq ?_
                        refine OK.reg ?_
                        refine RK.c (S.assign .none rfl (.cint rfl)) ?_
                        refine RK.nil ?_
                        refine Ab.D.code ?_
                        refine OK.block ?_
                        refine OK.loop (G := Nat) [2, 3, 5, 7, 13] (fun t => [(2, .ptr 2 0), (1002, .box p.cs), (3, .ptr 3 0), (1003, .box x.cs), (5, .ptr 5 0), (1005, .box (⟨x.records.length, 0, W⟩ : Envelope).cs), (7, .ptr 7 0), (1007, .box (⟨x.records.length, x.trim, O⟩ : Envelope).cs), (13, .ptr 13 0), (1013, .box LS.cs), (14, .int .i64 eL), (15, .int .i64 t)]) (fun t => (t : Int) ≤ p.ticks) (fun t => p.ticks.toNat - t) 0 (by omega) ⟨rfl, rfl, rfl, rfl, rfl, rfl, rfl, rfl, rfl, rfl, rfl, rfl, trivial⟩ (fun _ => rfl) ?_
                        rintro t ht
                        refine OK.seq ?_
                        refine OK.seq ?_
                        refine OK.reg ?_
                        refine RK.c (S.move .none rfl (.tmp rfl rfl)) ?_
                        refine RK.c (S.bfield fi24_1 .none rfl (.tmp rfl rfl)) ?_
                        refine RK.c (S.bload1 ti3 .none rfl (.tmp rfl rfl) rfl rfl rfl rfl) ?_
                        refine RK.c (S.lss .none rfl (.tmp rfl rfl) (.tmp rfl rfl)) ?_
                        refine RK.nil ?_
                        refine Ab.D.code ?_
                        refine OK.condD rfl rfl (fun c147 => ?_) (fun c147 => ?_)
                        ·
                          refine OK.skip ?_
                          refine Ab.D.code ?_
                          refine OK.seq ?_
                          refine OK.block ?_
                          refine OK.seq ?_
                          refine OK.reg ?_
                          refine RK.c (S.assign .none rfl (.cint rfl)) ?_
                          refine RK.nil ?_
                          refine Ab.D.code ?_
                          refine OK.block ?_
                          refine OK.loop (G := Nat) [2, 3, 5, 7, 13] (fun c => [(2, .ptr 2 0), (1002, .box p.cs), (3, .ptr 3 0), (1003, .box x.cs), (5, .ptr 5 0), (1005, .box (⟨x.records.length, 0, W⟩ : Envelope).cs), (7, .ptr 7 0), (1007, .box (⟨x.records.length, x.trim, O⟩ : Envelope).cs), (13, .ptr 13 0), (1013, .box LS.cs), (14, .int .i64 eL), (15, .int .i64 t), (16, .int .i64 c)]) (fun c => c ≤ p.channels.length) (fun c => p.channels.length - c) 0 (Nat.zero_le _) ⟨rfl, rfl, rfl, rfl, rfl, rfl, rfl, rfl, rfl, rfl, rfl, rfl, rfl, trivial⟩ (fun _ => rfl) ?_
                          rintro c hc
                          refine OK.seq ?_
                          refine OK.seq ?_
                          refine OK.reg ?_
                          refine RK.c (S.move .none rfl (.tmp rfl rfl)) ?_
                          refine RK.c (S.bfield fi24_0 .none rfl (.tmp rfl rfl)) ?_
                          refine RK.c (S.bload1 ti22 .none rfl (.tmp rfl rfl) rfl rfl rfl rfl) ?_
                          refine RK.c (S.lenM si22 .none rfl (.tmp rfl rfl)) ?_
                          refine RK.c (S.lss .none rfl (.tmp rfl rfl) (.tmp rfl rfl)) ?_
                          refine RK.nil ?_
                          refine Ab.D.code ?_
                          refine OK.condD rfl rfl (fun c154 => ?_) (fun c154 => ?_)
                          ·
                            have hw1 : t < W.length := by omega
                            have hw2 : c < W[t].length := by rw [w2 t hw1]; omega
                            have ho1 : t < O.length := by omega
                            have ho2 : c < O[t].length := by rw [o2 t ho1]; omega
                            obtain ⟨hlo1, hlo2⟩ := hlo t hw1 ho1 c hw2 ho2
                            have hout1 := hout t ho1 c ho2
                            refine OK.skip ?_
                            refine Ab.D.code ?_
                            refine OK.seq ?_
                            refine OK.block ?_
                            refine OK.seq ?_
                            refine OK.reg ?_
                            refine RK.c (S.bfield fi33_2 .none rfl (.tmp rfl rfl)) ?_
                            refine RK.c (S.bload1 ti31 .none rfl (.tmp rfl rfl) rfl rfl rfl rfl) ?_
                            refine RK.c (S.move .none rfl (.tmp rfl rfl)) ?_
                            refine RK.c (S.indexM (n := t) si31 .none rfl (.tmp rfl rfl) (.tmp rfl rfl) rfl ho1 rfl) ?_
                            refine RK.c (S.load1 ti55 .none rfl (.tmp rfl rfl) rfl) ?_
                            refine RK.c (S.move .none rfl (.tmp rfl rfl)) ?_
                            refine RK.c (S.indexM (n := c) si55 .none rfl (.tmp rfl rfl) (.tmp rfl rfl) rfl ho2 rfl) ?_
                            refine RK.c (S.loadN ti54 .none rfl (.tmp rfl rfl) rfl rfl) ?_
                            refine RK.c (S.alloc (k := 17) ze54 rfl .none rfl) ?_
                            refine RK.c (S.store ti54 .none (.tmp rfl rfl) (.tmp rfl rfl) rfl rfl rfl rfl rfl rfl) ?_
                            refine RK.c (S.assign .none rfl (.cint rfl)) ?_
                            refine RK.nil ?_
                            refine Ab.D.code ?_
                            refine OK.seq ?_
                            refine OK.seq ?_
                            refine OK.regionDraw follows (.c (S.bfield fi33_2 .none rfl (.tmp rfl rfl))
                              (.c (S.bload1 ti31 .none rfl (.tmp rfl rfl) rfl rfl rfl rfl)
                              (.c (S.move .none rfl (.tmp rfl rfl))
                              (.c (S.indexM (n := t) si31 .none rfl (.tmp rfl rfl) (.tmp rfl rfl) rfl hw1 rfl)
                              (.c (S.load1 ti55 .none rfl (.tmp rfl rfl) rfl)
                              (.c (S.move .none rfl (.tmp rfl rfl))
                              (.c (S.indexM (n := c) si55 .none rfl (.tmp rfl rfl) (.tmp rfl rfl) rfl hw2 rfl)
                              (.c (S.field fi54_0 .none rfl (.tmp rfl rfl) rfl)
                              (.c (S.load1 ti3 .none rfl (.tmp rfl rfl) rfl)
                              (.c (S.bfield fi54_0 .none rfl (.tmp rfl rfl))
                              (.c (S.bload1 ti3 .none rfl (.tmp rfl rfl) rfl rfl rfl rfl)
                              (.c (S.gtr .none rfl (.tmp rfl rfl) (.tmp rfl rfl))
                              (.c (S.move .none rfl (.tmp rfl rfl))
                              (.c (S.bfield fi33_2 (.yes rfl rfl rfl (by simp [*])) rfl (.tmp rfl rfl))
                              (.c (S.bload1 ti31 (.yes rfl rfl rfl (by simp [*])) rfl (.tmp rfl rfl) rfl rfl rfl rfl)
                              (.c (S.move (.yes rfl rfl rfl (by simp [*])) rfl (.tmp rfl rfl))
                              (.c (S.indexM (n := t) si31 (.yes rfl rfl rfl (by simp [*])) rfl (.tmp rfl rfl) (.tmp rfl rfl) rfl hw1 rfl)
                              (.c (S.load1 ti55 (.yes rfl rfl rfl (by simp [*])) rfl (.tmp rfl rfl) rfl)
                              (.c (S.move (.yes rfl rfl rfl (by simp [*])) rfl (.tmp rfl rfl))
                              (.c (S.indexM (n := c) si55 (.yes rfl rfl rfl (by simp [*])) rfl (.tmp rfl rfl) (.tmp rfl rfl) rfl hw2 rfl)
                              (.c (S.field fi54_1 (.yes rfl rfl rfl (by simp [*])) rfl (.tmp rfl rfl) rfl)
                              (.c (S.load1 ti3 (.yes rfl rfl rfl (by simp [*])) rfl (.tmp rfl rfl) rfl)
                              (.c (S.bfield fi54_1 (.yes rfl rfl rfl (by simp [*])) rfl (.tmp rfl rfl))
                              (.c (S.bload1 ti3 (.yes rfl rfl rfl (by simp [*])) rfl (.tmp rfl rfl) rfl rfl rfl rfl)
                              (.c (S.lss (.yes rfl rfl rfl (by simp [*])) rfl (.tmp rfl rfl) (.tmp rfl rfl))
                              (.c (S.pickF .none rfl (.tmp rfl rfl) (.tmp rfl rfl) (by simp [*]))
                              .nil)))))))))))))))))))))))))) (by kernel_rfl) ?_
                            refine Ab.D.code ?_
                            refine OK.condD rfl rfl (fun c190 => ?_) (fun c190 => ?_)
                            ·
                              refine OK.seq ?_
                              refine OK.reg ?_
                              refine RK.c (S.assign .none rfl .cbool) ?_
                              refine RK.nil ?_
                              refine Ab.D.code ?_
                              refine OK.ret (Ret.r1 (.tmp rfl rfl (.c (.same rfl) rfl) rfl) ?_)
                              first | rfl | (refine ret_abs ?_; omega) | (refine ret_abs ?_; dsimp only at *; omega)
                            ·
                              refine OK.skip ?_
                              refine Ab.D.code ?_
                              refine OK.seq ?_
                              refine OK.seq ?_
                              refine OK.reg ?_
                              refine RK.c (S.assign .none rfl (.cint rfl)) ?_
                              refine RK.nil ?_
                              refine Ab.D.code ?_
                              refine OK.block ?_
                              refine OK.loop (G := Nat) [2, 3, 5, 7, 13, 17] (fun k => [(2, .ptr 2 0), (1002, .box p.cs), (3, .ptr 3 0), (1003, .box x.cs), (5, .ptr 5 0), (1005, .box (⟨x.records.length, 0, W⟩ : Envelope).cs), (7, .ptr 7 0), (1007, .box (⟨x.records.length, x.trim, O⟩ : Envelope).cs), (13, .ptr 13 0), (1013, .box LS.cs), (14, .int .i64 eL), (15, .int .i64 t), (16, .int .i64 c), (17, .ptr 17 0), (1017, .box O[t][c].cs), (18, .int .i64 (outC (col (x.records.take k) t c) O[t][c])), (19, .int .i64 k)]) (fun k => k ≤ x.records.length) (fun k => x.records.length - k) 0 (Nat.zero_le _) ⟨rfl, rfl, rfl, rfl, rfl, rfl, rfl, rfl, rfl, rfl, rfl, rfl, rfl, rfl, rfl, (lk_int1 (by simp [outC, col])), rfl, trivial⟩ (fun _ => rfl) ?_
                              rintro k hk
                              refine OK.seq ?_
                              refine OK.seq ?_
                              refine OK.reg ?_
                              refine RK.c (S.move .none rfl (.tmp rfl rfl)) ?_
                              refine RK.c (S.bfield fi27_0 .none rfl (.tmp rfl rfl)) ?_
                              refine RK.c (S.bload1 ti25 .none rfl (.tmp rfl rfl) rfl rfl rfl rfl) ?_
                              refine RK.c (S.lenM si25 .none rfl (.tmp rfl rfl)) ?_
                              refine RK.c (S.lss .none rfl (.tmp rfl rfl) (.tmp rfl rfl)) ?_
                              refine RK.nil ?_
                              refine Ab.D.code ?_
                              refine OK.condD rfl rfl (fun c195 => ?_) (fun c195 => ?_)
                              ·
                                have h1 : t < x.records[k].rows.length := by have := hwr k (by omega); omega
                                have h2 : c < x.records[k].rows[t].values.length := by have := hwv k (by omega) t h1; omega
                                have hos := out_snoc (o := O[t][c]) (show k < x.records.length by omega) h1 h2
                                have hol := out_le x.records k t c O[t][c]
                                refine OK.skip ?_
                                refine Ab.D.code ?_
                                refine OK.seq ?_
                                refine OK.block ?_
                                refine OK.seq ?_
                                refine OK.regionDraw follows (.c (S.bfield fi27_0 .none rfl (.tmp rfl rfl))
                                  (.c (S.bload1 ti25 .none rfl (.tmp rfl rfl) rfl rfl rfl rfl)
                                  (.c (S.move .none rfl (.tmp rfl rfl))
                                  (.c (S.indexM si25 .none rfl (.tmp rfl rfl) (.tmp rfl rfl) rfl (by omega) rfl)
                                  (.c (S.field fi51_0 .none rfl (.tmp rfl rfl) rfl)
                                  (.c (S.load1 ti49 .none rfl (.tmp rfl rfl) rfl)
                                  (.c (S.move .none rfl (.tmp rfl rfl))
                                  (.c (S.indexM (n := t) si49 .none rfl (.tmp rfl rfl) (.tmp rfl rfl) rfl h1 rfl)
                                  (.c (S.field fi59_1 .none rfl (.tmp rfl rfl) rfl)
                                  (.c (S.load1 ti57 .none rfl (.tmp rfl rfl) rfl)
                                  (.c (S.move .none rfl (.tmp rfl rfl))
                                  (.c (S.indexM (n := c) si57 .none rfl (.tmp rfl rfl) (.tmp rfl rfl) rfl h2 rfl)
                                  (.c (S.load1 ti3 .none rfl (.tmp rfl rfl) rfl)
                                  (.c (S.bfield fi54_0 .none rfl (.tmp rfl rfl))
                                  (.c (S.bload1 ti3 .none rfl (.tmp rfl rfl) rfl rfl rfl rfl)
                                  (.c (S.bfield fi54_1 .none rfl (.tmp rfl rfl))
                                  (.c (S.bload1 ti3 .none rfl (.tmp rfl rfl) rfl rfl rfl rfl)
                                  (.c (S.call (base_Within) Tryz.call24 .none rfl (.cons (.tmp rfl rfl) (.cons (.tmp rfl rfl) (.cons (.tmp rfl rfl) .nil))) rfl)
                                  (.c (S.notD .none rfl (.tmp rfl rfl))
                                  .nil))))))))))))))))))) (by kernel_rfl) ?_
                                refine Ab.D.code ?_
                                refine OK.condD rfl rfl (fun c216 => ?_) (fun c216 => ?_)
                                ·
                                  rw [if_neg c216] at hos
                                  refine OK.reg ?_
                                  refine RK.c (S.move .none rfl (.tmp rfl rfl)) ?_
                                  refine RK.c (S.add .none rfl (.tmp rfl rfl) (.cint rfl) (IntWalk.i64_in _ (by omega)) (IntWalk.i64_in _ (by omega))) ?_
                                  refine RK.c (S.assign .none rfl (.tmp rfl rfl)) ?_
                                  refine RK.nil ?_
                                  refine Ab.D.blk ?_
                                  refine Ab.D.code ?_
                                  refine OK.reg ?_
                                  refine RK.c (S.move .none rfl (.tmp rfl rfl)) ?_
                                  refine RK.c (S.add .none rfl (.tmp rfl rfl) (.cint rfl) (IntWalk.i64_in _ (by omega)) (IntWalk.i64_in _ (by omega))) ?_
                                  refine RK.c (S.assign .none rfl (.tmp rfl rfl)) ?_
                                  refine RK.nil ?_
                                  refine Ab.D.lp ⟨k + 1, (by omega), (by omega), rfl, rfl, rfl, rfl, rfl, rfl, rfl, rfl, rfl, rfl, rfl, rfl, rfl, rfl, rfl, (lk_int1 (by omega)), rfl, trivial⟩
                                ·
                                  rw [if_pos (Decidable.not_not.1 c216)] at hos
                                  refine OK.skip ?_
                                  refine Ab.D.blk ?_
                                  refine Ab.D.code ?_
                                  refine OK.reg ?_
                                  refine RK.c (S.move .none rfl (.tmp rfl rfl)) ?_
                                  refine RK.c (S.add .none rfl (.tmp rfl rfl) (.cint rfl) (IntWalk.i64_in _ (by omega)) (IntWalk.i64_in _ (by omega))) ?_
                                  refine RK.c (S.assign .none rfl (.tmp rfl rfl)) ?_
                                  refine RK.nil ?_
                                  refine Ab.D.lp ⟨k + 1, (by omega), (by omega), rfl, rfl, rfl, rfl, rfl, rfl, rfl, rfl, rfl, rfl, rfl, rfl, rfl, rfl, rfl, (lk_int1 (by omega)), rfl, trivial⟩
                              ·
                                have hkl : k = x.records.length := by omega
                                have hout2 : (outC (col (x.records.take k) t c) O[t][c] : Int) ≤ 2 * x.trim := by rw [hkl, List.take_length]; exact hout1
                                refine OK.exit rfl ?_
                                refine Ab.D.code ?_
                                refine OK.seq ?_
                                refine OK.seq ?_
                                refine OK.reg ?_
                                refine RK.c (S.move .none rfl (.tmp rfl rfl)) ?_
                                refine RK.c (S.bfield fi27_1 .none rfl (.tmp rfl rfl)) ?_
                                refine RK.c (S.bload1 ti3 .none rfl (.tmp rfl rfl) rfl rfl rfl rfl) ?_
                                refine RK.c (S.mul .none rfl (.cint rfl) (.tmp rfl rfl) (IntWalk.i64_in _ (by omega)) (IntWalk.i64_in _ (by omega))) ?_
                                refine RK.c (S.gtr .none rfl (.tmp rfl rfl) (.tmp rfl rfl)) ?_
                                refine RK.nil ?_
                                refine Ab.D.code ?_
                                refine OK.condD rfl rfl (fun c223 => ?_) (fun c223 => ?_)
                                ·
                                  refine OK.seq ?_
                                  refine OK.reg ?_
                                  refine RK.c (S.assign .none rfl .cbool) ?_
                                  refine RK.nil ?_
                                  refine Ab.D.code ?_
                                  refine OK.ret (Ret.r1 (.tmp rfl rfl (.c (.same rfl) rfl) rfl) ?_)
                                  first | rfl | (refine ret_abs ?_; omega) | (refine ret_abs ?_; dsimp only at *; omega)
                                ·
                                  refine OK.skip ?_
                                  refine Ab.D.code ?_
                                  refine OK.seq ?_
                                  by_cases g226 : eL = 0
                                  ·
                                    obtain ⟨⟨q1, q2⟩, q3⟩ := hless g226
                                    have l1 : t < LS.rows.length := by omega
                                    have l2 : c < LS.rows[t].length := by rw [q2 t l1]; omega
                                    obtain ⟨l3, l4⟩ := q3 t l1 ho1 c l2 ho2
                                    have l5 := q2 t l1
                                    refine OK.regionDraw follows (.c (S.move .none rfl (.tmp rfl rfl))
                                      (.c (S.eql .none rfl (.tmp rfl rfl) (.cint rfl))
                                      (.c (S.move .none rfl (.tmp rfl rfl))
                                      (.c (S.bfield fi33_2 (.yes rfl rfl rfl (by simp [*])) rfl (.tmp rfl rfl))
                                      (.c (S.bload1 ti31 (.yes rfl rfl rfl (by simp [*])) rfl (.tmp rfl rfl) rfl rfl rfl rfl)
                                      (.c (S.lenM si31 (.yes rfl rfl rfl (by simp [*])) rfl (.tmp rfl rfl))
                                      (.c (S.bfield fi24_1 (.yes rfl rfl rfl (by simp [*])) rfl (.tmp rfl rfl))
                                      (.c (S.bload1 ti3 (.yes rfl rfl rfl (by simp [*])) rfl (.tmp rfl rfl) rfl rfl rfl rfl)
                                      (.c (S.neq (.yes rfl rfl rfl (by simp [*])) rfl (.tmp rfl rfl) (.tmp rfl rfl))
                                      (.c (S.move (.yes rfl rfl rfl (by simp [*])) rfl (.tmp rfl rfl))
                                      (.c (S.bfield fi33_2 (.yes rfl rfl rfl (by simp [*])) rfl (.tmp rfl rfl))
                                      (.c (S.bload1 ti31 (.yes rfl rfl rfl (by simp [*])) rfl (.tmp rfl rfl) rfl rfl rfl rfl)
                                      (.c (S.move (.yes rfl rfl rfl (by simp [*])) rfl (.tmp rfl rfl))
                                      (.c (S.indexM (n := t) si31 (.yes rfl rfl rfl (by simp [*])) rfl (.tmp rfl rfl) (.tmp rfl rfl) rfl l1 rfl)
                                      (.c (S.load1 ti55 (.yes rfl rfl rfl (by simp [*])) rfl (.tmp rfl rfl) rfl)
                                      (.c (S.lenM si55 (.yes rfl rfl rfl (by simp [*])) rfl (.tmp rfl rfl))
                                      (.c (S.bfield fi24_0 (.yes rfl rfl rfl (by simp [*])) rfl (.tmp rfl rfl))
                                      (.c (S.bload1 ti22 (.yes rfl rfl rfl (by simp [*])) rfl (.tmp rfl rfl) rfl rfl rfl rfl)
                                      (.c (S.lenM si22 (.yes rfl rfl rfl (by simp [*])) rfl (.tmp rfl rfl))
                                      (.c (S.neq (.yes rfl rfl rfl (by simp [*])) rfl (.tmp rfl rfl) (.tmp rfl rfl))
                                      (.c (S.pickF (.yes rfl rfl rfl (by simp [*])) rfl (.tmp rfl rfl) (.tmp rfl rfl) (by simp [*]))
                                      (.c (S.move (.yes rfl rfl rfl (by simp [*])) rfl (.tmp rfl rfl))
                                      (.c (S.bfield fi33_2 (.yes rfl rfl rfl (by simp [*])) rfl (.tmp rfl rfl))
                                      (.c (S.bload1 ti31 (.yes rfl rfl rfl (by simp [*])) rfl (.tmp rfl rfl) rfl rfl rfl rfl)
                                      (.c (S.move (.yes rfl rfl rfl (by simp [*])) rfl (.tmp rfl rfl))
                                      (.c (S.indexM (n := t) si31 (.yes rfl rfl rfl (by simp [*])) rfl (.tmp rfl rfl) (.tmp rfl rfl) rfl l1 rfl)
                                      (.c (S.load1 ti55 (.yes rfl rfl rfl (by simp [*])) rfl (.tmp rfl rfl) rfl)
                                      (.c (S.move (.yes rfl rfl rfl (by simp [*])) rfl (.tmp rfl rfl))
                                      (.c (S.indexM (n := c) si55 (.yes rfl rfl rfl (by simp [*])) rfl (.tmp rfl rfl) (.tmp rfl rfl) rfl l2 rfl)
                                      (.c (S.field fi54_0 (.yes rfl rfl rfl (by simp [*])) rfl (.tmp rfl rfl) rfl)
                                      (.c (S.load1 ti3 (.yes rfl rfl rfl (by simp [*])) rfl (.tmp rfl rfl) rfl)
                                      (.c (S.bfield fi54_0 (.yes rfl rfl rfl (by simp [*])) rfl (.tmp rfl rfl))
                                      (.c (S.bload1 ti3 (.yes rfl rfl rfl (by simp [*])) rfl (.tmp rfl rfl) rfl rfl rfl rfl)
                                      (.c (S.lss (.yes rfl rfl rfl (by simp [*])) rfl (.tmp rfl rfl) (.tmp rfl rfl))
                                      (.c (S.pickF (.yes rfl rfl rfl (by simp [*])) rfl (.tmp rfl rfl) (.tmp rfl rfl) (by simp [*]))
                                      (.c (S.move (.yes rfl rfl rfl (by simp [*])) rfl (.tmp rfl rfl))
                                      (.c (S.bfield fi33_2 (.yes rfl rfl rfl (by simp [*])) rfl (.tmp rfl rfl))
                                      (.c (S.bload1 ti31 (.yes rfl rfl rfl (by simp [*])) rfl (.tmp rfl rfl) rfl rfl rfl rfl)
                                      (.c (S.move (.yes rfl rfl rfl (by simp [*])) rfl (.tmp rfl rfl))
                                      (.c (S.indexM (n := t) si31 (.yes rfl rfl rfl (by simp [*])) rfl (.tmp rfl rfl) (.tmp rfl rfl) rfl l1 rfl)
                                      (.c (S.load1 ti55 (.yes rfl rfl rfl (by simp [*])) rfl (.tmp rfl rfl) rfl)
                                      (.c (S.move (.yes rfl rfl rfl (by simp [*])) rfl (.tmp rfl rfl))
                                      (.c (S.indexM (n := c) si55 (.yes rfl rfl rfl (by simp [*])) rfl (.tmp rfl rfl) (.tmp rfl rfl) rfl l2 rfl)
                                      (.c (S.field fi54_1 (.yes rfl rfl rfl (by simp [*])) rfl (.tmp rfl rfl) rfl)
                                      (.c (S.load1 ti3 (.yes rfl rfl rfl (by simp [*])) rfl (.tmp rfl rfl) rfl)
                                      (.c (S.bfield fi54_1 (.yes rfl rfl rfl (by simp [*])) rfl (.tmp rfl rfl))
                                      (.c (S.bload1 ti3 (.yes rfl rfl rfl (by simp [*])) rfl (.tmp rfl rfl) rfl rfl rfl rfl)
                                      (.c (S.gtr (.yes rfl rfl rfl (by simp [*])) rfl (.tmp rfl rfl) (.tmp rfl rfl))
                                      (.c (S.pickF (.yes rfl rfl rfl (by simp [*])) rfl (.tmp rfl rfl) (.tmp rfl rfl) (by simp [*]))
                                      (.c (S.pickT .none rfl (.tmp rfl rfl) (.tmp rfl rfl) (by simp [*]))
                                      .nil)))))))))))))))))))))))))))))))))))))))))))))))))) (by kernel_rfl) ?_
                                    refine Ab.D.code ?_
                                    refine OK.condD rfl rfl (fun c273 => ?_) (fun c273 => ?_)
                                    ·
                                      refine OK.seq ?_
                                      refine OK.reg ?_
                                      refine RK.c (S.assign .none rfl .cbool) ?_
                                      refine RK.nil ?_
                                      refine Ab.D.code ?_
                                      refine OK.ret (Ret.r1 (.tmp rfl rfl (.c (.same rfl) rfl) rfl) ?_)
                                      first | rfl | (refine ret_abs ?_; omega) | (refine ret_abs ?_; dsimp only at *; omega)
                                    ·
                                      refine OK.skip ?_
                                      refine Ab.D.blk ?_
                                      refine Ab.D.code ?_
                                      refine OK.reg ?_
                                      refine RK.c (S.move .none rfl (.tmp rfl rfl)) ?_
                                      refine RK.c (S.add .none rfl (.tmp rfl rfl) (.cint rfl) (IntWalk.i64_in _ (by omega)) (IntWalk.i64_in _ (by omega))) ?_
                                      refine RK.c (S.assign .none rfl (.tmp rfl rfl)) ?_
                                      refine RK.nil ?_
                                      refine Ab.D.lp ⟨c + 1, (by omega), (by omega), rfl, rfl, rfl, rfl, rfl, rfl, rfl, rfl, rfl, rfl, rfl, rfl, rfl, trivial⟩
                                  ·
                                    refine OK.regionDraw follows (.c (S.move .none rfl (.tmp rfl rfl))
                                      (.c (S.eql .none rfl (.tmp rfl rfl) (.cint rfl))
                                      (.c (S.move .none rfl (.tmp rfl rfl))
                                      (.c (S.skip rfl rfl rfl (by simp [*]) rfl)
                                      (.c (S.skip rfl rfl rfl (by simp [*]) rfl)
                                      (.c (S.skip rfl rfl rfl (by simp [*]) rfl)
                                      (.c (S.skip rfl rfl rfl (by simp [*]) rfl)
                                      (.c (S.skip rfl rfl rfl (by simp [*]) rfl)
                                      (.c (S.skip rfl rfl rfl (by simp [*]) rfl)
                                      (.c (S.skip rfl rfl rfl (by simp [*]) rfl)
                                      (.c (S.skipU rfl rfl rfl rfl)
                                      (.c (S.skipU rfl rfl rfl rfl)
                                      (.c (S.skipU rfl rfl rfl rfl)
                                      (.c (S.skipU rfl rfl rfl rfl)
                                      (.c (S.skipU rfl rfl rfl rfl)
                                      (.c (S.skipU rfl rfl rfl rfl)
                                      (.c (S.skipU rfl rfl rfl rfl)
                                      (.c (S.skipU rfl rfl rfl rfl)
                                      (.c (S.skipU rfl rfl rfl rfl)
                                      (.c (S.skipU rfl rfl rfl rfl)
                                      (.c (S.skip rfl rfl rfl (by simp [*]) rfl)
                                      (.c (S.skip rfl rfl rfl (by simp [*]) rfl)
                                      (.c (S.skipU rfl rfl rfl rfl)
                                      (.c (S.skipU rfl rfl rfl rfl)
                                      (.c (S.skipU rfl rfl rfl rfl)
                                      (.c (S.skipU rfl rfl rfl rfl)
                                      (.c (S.skipU rfl rfl rfl rfl)
                                      (.c (S.skipU rfl rfl rfl rfl)
                                      (.c (S.skipU rfl rfl rfl rfl)
                                      (.c (S.skipU rfl rfl rfl rfl)
                                      (.c (S.skipU rfl rfl rfl rfl)
                                      (.c (S.skipU rfl rfl rfl rfl)
                                      (.c (S.skipU rfl rfl rfl rfl)
                                      (.c (S.skipU rfl rfl rfl rfl)
                                      (.c (S.skip rfl rfl rfl (by simp [*]) rfl)
                                      (.c (S.skip rfl rfl rfl (by simp [*]) rfl)
                                      (.c (S.skipU rfl rfl rfl rfl)
                                      (.c (S.skipU rfl rfl rfl rfl)
                                      (.c (S.skipU rfl rfl rfl rfl)
                                      (.c (S.skipU rfl rfl rfl rfl)
                                      (.c (S.skipU rfl rfl rfl rfl)
                                      (.c (S.skipU rfl rfl rfl rfl)
                                      (.c (S.skipU rfl rfl rfl rfl)
                                      (.c (S.skipU rfl rfl rfl rfl)
                                      (.c (S.skipU rfl rfl rfl rfl)
                                      (.c (S.skipU rfl rfl rfl rfl)
                                      (.c (S.skipU rfl rfl rfl rfl)
                                      (.c (S.skipU rfl rfl rfl rfl)
                                      (.c (S.skip rfl rfl rfl (by simp [*]) rfl)
                                      (.c (S.pickF .none rfl (.tmp rfl rfl) .cbool (by simp [*]))
                                      .nil)))))))))))))))))))))))))))))))))))))))))))))))))) (by kernel_rfl) ?_
                                    refine Ab.D.code ?_
                                    refine OK.condF rfl rfl rfl ?_
                                    refine OK.skip ?_
                                    refine Ab.D.blk ?_
                                    refine Ab.D.code ?_
                                    refine OK.reg ?_
                                    refine RK.c (S.move .none rfl (.tmp rfl rfl)) ?_
                                    refine RK.c (S.add .none rfl (.tmp rfl rfl) (.cint rfl) (IntWalk.i64_in _ (by omega)) (IntWalk.i64_in _ (by omega))) ?_
                                    refine RK.c (S.assign .none rfl (.tmp rfl rfl)) ?_
                                    refine RK.nil ?_
                                    refine Ab.D.lp ⟨c + 1, (by omega), (by omega), rfl, rfl, rfl, rfl, rfl, rfl, rfl, rfl, rfl, rfl, rfl, rfl, rfl, trivial⟩
                          ·
                            refine OK.exit rfl ?_
                            refine Ab.D.blk ?_
                            refine Ab.D.code ?_
                            refine OK.reg ?_
                            refine RK.c (S.move .none rfl (.tmp rfl rfl)) ?_
                            refine RK.c (S.add .none rfl (.tmp rfl rfl) (.cint rfl) (IntWalk.i64_in _ (by omega)) (IntWalk.i64_in _ (by omega))) ?_
                            refine RK.c (S.assign .none rfl (.tmp rfl rfl)) ?_
                            refine RK.nil ?_
                            refine Ab.D.lp ⟨t + 1, (by omega), (by omega), rfl, rfl, rfl, rfl, rfl, rfl, rfl, rfl, rfl, rfl, rfl, rfl, trivial⟩
                        ·
                          refine OK.exit rfl ?_
                          refine Ab.D.code ?_
                          refine OK.seq ?_
                          refine OK.reg ?_
                          refine RK.c (S.assign .none rfl .cbool) ?_
                          refine RK.nil ?_
                          refine Ab.D.code ?_
                          refine OK.ret (Ret.r1 (.tmp rfl rfl (.c (.same rfl) rfl) rfl) ?_)
                          first | rfl | (refine ret_abs ?_; omega) | (refine ret_abs ?_; dsimp only at *; omega)

end Go.Proofs.YtfjldfkgjejpmaaGreat
