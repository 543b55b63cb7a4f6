/-
  The law of what is learned.
-/
import Derived.Test.YtmokilkombplkaaGreatSh
import Derived.Test.YtmokilkombplkaaGreatFt
import Derived.Test.YtmokilkombplkaaGreatWv
namespace Go.Proofs.YtmokilkombplkaaGreat
open Go.Ab

theorem W_get {p : Plan} {l : List Record} {trim : Int} {W : List (List Range)} (hW : W = (envT p l trim).rows) {t c : Nat} (h1 : t < W.length) (h2 : c < W[t].length) : W[t][c] = rangeT l trim t c := by
  subst hW
  simp [envT, rowT]
theorem W_len {p : Plan} {l : List Record} {trim : Int} {W : List (List Range)} (hp : 1 ≤ p.ticks) (hW : W = (envT p l trim).rows) : (W.length : Int) = p.ticks ∧ ∀ (t : Nat) (h : t < W.length), W[t].length = p.channels.length := by
  subst hW
  refine ⟨by rw [env_len]; omega, fun t h => ?_⟩
  rw [env_get, row_len]
theorem out_le (l : List Record) (k t c : Nat) (o : Range) : outC (col (l.take k) t c) o ≤ l.length := by
  have h1 := List.countP_le_length (p := fun v => !decide (o.lo ≤ v ∧ v ≤ o.hi)) (l := col (l.take k) t c)
  rw [col_len, List.length_take] at h1
  unfold outC
  omega
theorem less_of {p : Plan} {l : List Record} {trim : Int} {LS : Envelope} {O : List (List Range)} (hp : planErr p = 0) (hLS : LS = envOf p l.dropLast trim) (hO : O = (envT p l trim).rows) (he : envErr p l.dropLast trim = 0) :
    ((LS.rows.length : Int) = p.ticks ∧ ∀ (t : Nat) (h : t < LS.rows.length), LS.rows[t].length = p.channels.length) ∧ ∀ (t : Nat) (h1 : t < LS.rows.length) (h2 : t < O.length) (c : Nat) (h3 : c < LS.rows[t].length) (h4 : c < O[t].length), O[t][c].lo ≤ LS.rows[t][c].lo ∧ LS.rows[t][c].hi ≤ O[t][c].hi := by
  have hLS2 : LS.rows = (envT p l.dropLast trim).rows := by rw [hLS, envOf, if_pos he]
  have hop : openRecs p l.dropLast = 0 ∧ trimErr trim l.dropLast.length = 0 := by
    unfold envErr at he
    split at he
    · exact absurd he ‹_›
    · exact ⟨Decidable.not_not.1 ‹_›, he⟩
  obtain ⟨_, h2, _⟩ := openRecs_0 hop.1
  have htr := trimErr_0 (by omega) hop.2
  have hpp := planErr_0 hp
  refine ⟨W_len (by omega) hLS2, fun t h1 h2 c h3 h4 => ?_⟩
  rw [W_get hLS2 h1 h3, W_get hO h2 h4]
  exact learn_more (by omega) htr t c


end Go.Proofs.YtmokilkombplkaaGreat
