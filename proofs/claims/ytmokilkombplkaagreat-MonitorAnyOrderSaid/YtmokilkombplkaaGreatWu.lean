/-
  Verdicts: which envelopes are valid, deviations and verdicts, by both texts; the law.
-/
import Derived.Test.YtmokilkombplkaaGreatSh
import Derived.Test.YtmokilkombplkaaGreatFt
import Derived.Test.YtmokilkombplkaaGreatWt
namespace Go.Proofs.YtmokilkombplkaaGreat
open Go.Ab

theorem dv_none {L : List Deviation} {q : Bool} (h : iterG (Ab.stepG (fun (_ : Bool) (_ : Deviation) => (true, some Code.ret))) (false, none) L = ((q, none), true)) : L = [] ∧ q = false := by
  cases L with
  | nil => simp only [iterG, Prod.mk.injEq] at h; exact ⟨rfl, h.1.1.symm⟩
  | cons d L => simp [iterG, Ab.stepG] at h
theorem dv_some {L : List Deviation} {q : Bool} {cd : Code} (h : (iterG (Ab.stepG (fun (_ : Bool) (_ : Deviation) => (true, some Code.ret))) (false, none) L).1 = (q, some cd)) : L ≠ [] ∧ q = true ∧ cd = .ret := by
  cases L with
  | nil => simp [iterG] at h
  | cons d L =>
    simp [iterG, Ab.stepG] at h
    exact ⟨by simp, h.1, h.2.symm⟩
theorem sh_range {xs : List X} (h : Shape (.st (.cons (.int .i64) (.cons (.int .i64) .nil))) xs) : ∃ p : Range, xs = p.cs := by
  obtain ⟨a, b, rfl, ⟨n1, rfl⟩, c, d, rfl, ⟨n2, rfl⟩, rfl⟩ := h
  exact ⟨⟨n1, n2⟩, rfl⟩
theorem sh_envelope {xs : List X} (h : Shape (.cons (.int .i64) (.cons (.int .i64) (.cons (.sl (.sl (.st (.cons (.int .i64) (.cons (.int .i64) .nil))))) .nil))) xs) : ∃ p : Envelope, xs = p.cs := by
  obtain ⟨a, b, rfl, ⟨n1, rfl⟩, c, d, rfl, ⟨n2, rfl⟩, e, f, rfl, ⟨rows, rfl, hr⟩, rfl⟩ := h
  obtain ⟨l, rfl⟩ := rows_of (f := fun l : List Range => [X.sl (l.map Range.cs)]) (fun r h => by
    obtain ⟨rows2, h1, hr2⟩ := hr r h
    obtain ⟨l2, rfl⟩ := rows_of (f := Range.cs) (fun r h => sh_range (hr2 r h))
    exact ⟨l2, h1⟩)
  exact ⟨⟨n1, n2, l⟩, rfl⟩
def verdT (x : Envelope) (r : Record) : Int := if (devT x r).length ≠ 0 then 2 else if (lostT r).length ≠ 0 then 1 else 0
def envelopeChk (p : Plan) (x : Envelope) : Int × Int := if planErr p ≠ 0 then (0, planErr p) else envChk p x
def OrdT (x : Envelope) : Prop := ∀ (i : Nat) (h : i < x.rows.length) (j : Nat) (h2 : j < x.rows[i].length), x.rows[i][j].lo ≤ x.rows[i][j].hi
theorem dev_hi {t : Nat} {rs : List Range} {c : Nat} {n : Int} (h : c < rs.length) (ho : rs[c].lo ≤ rs[c].hi) (hn : n > rs[c].hi) : devOne t rs c n = [⟨t, c, n - rs[c].hi⟩] := by
  have e : devBy n rs[c] = n - rs[c].hi := by
    unfold devBy
    rw [if_pos (by omega), if_neg (by omega)]
    omega
  unfold devOne
  rw [getD_at h, e, if_pos (by omega)]
theorem dev_lo {t : Nat} {rs : List Range} {c : Nat} {n : Int} (h : c < rs.length) (ho : rs[c].lo ≤ rs[c].hi) (hn : n < rs[c].lo) : devOne t rs c n = [⟨t, c, n - rs[c].lo⟩] := by
  have e : devBy n rs[c] = n - rs[c].lo := by
    unfold devBy
    rw [if_neg (by omega), if_pos (by omega)]
    omega
  unfold devOne
  rw [getD_at h, e, if_pos (by omega)]
theorem dev_in {t : Nat} {rs : List Range} {c : Nat} {n : Int} (h : c < rs.length) (h1 : ¬ n > rs[c].hi) (h2 : ¬ n < rs[c].lo) : devOne t rs c n = [] := by
  have e : devBy n rs[c] = 0 := by
    unfold devBy
    rw [if_neg (by omega), if_neg (by omega)]
    rfl
  unfold devOne
  rw [getD_at h, e, if_neg (by omega)]
theorem dev_app {D out rest more tail : List Deviation} (h : D = out ++ (more ++ rest ++ tail)) : D = (out ++ more) ++ (rest ++ tail) := by rw [h]; simp
theorem out_len {D out tail : List Deviation} (h : D = out ++ tail) (hD : D.length ≤ 100000) : out.length ≤ 100000 := by
  rw [h, List.length_append] at hD
  omega
theorem env_ord {p : Plan} {x : Envelope} (h : (envChk p x).2 = 0) : OrdT x := fun i hi j hj => (range_ok (((env_rows h).2.2.2 i hi).2 j hj)).2
theorem trimErr_2 {t n : Int} (h : trimErr t n ≠ 0) : trimErr t n = 2 := by
  unfold trimErr at *
  split
  · rename_i h1; rw [if_pos h1] at h; exact absurd rfl h
  · rfl
def shortEnvT (x : Envelope) : Bool := decide (x.rows.length ≤ 14) && x.rows.all fun l => decide (l.length ≤ 6)
theorem shortEnv_len {x : Envelope} (h : shortEnvT x = true) : x.rows.length ≤ 14 ∧ ∀ (i : Nat) (h : i < x.rows.length), x.rows[i].length ≤ 6 := by
  unfold shortEnvT at h
  simp only [Bool.and_eq_true, decide_eq_true_eq] at h
  exact ⟨h.1, fun i hi => of_decide_eq_true (List.all_eq_true.1 h.2 _ (List.getElem_mem hi))⟩
theorem rows_drop {α : Type} (g : α → Int) {l : List α} {j : Nat} (h : j < l.length) (hg : eachGo (fun _ x => g x) 0 l = eachGo (fun _ x => g x) j (l.drop j)) (e : g l[j] = 0) : eachGo (fun _ x => g x) 0 l = eachGo (fun _ x => g x) (j + 1) (l.drop (j + 1)) := by
  rw [hg, eachGo_drop _ h, if_neg (by rw [e]; simp)]
theorem rows_hit {α : Type} (g : α → Int) {l : List α} {j : Nat} {q : Int} (h : j < l.length) (hg : eachGo (fun _ x => g x) 0 l = eachGo (fun _ x => g x) j (l.drop j)) (e : g l[j] = q) (hq : q ≠ 0) : eachGo (fun _ x => g x) 0 l = ((j : Int), q) := by
  rw [hg, eachGo_drop _ h, if_pos (by rw [e]; exact hq), e]

theorem mon_deviates {x : Envelope} {r : Record} (hf : FitT x r) (hrl : r.rows.length ≤ 100000) (hvl : ∀ (i : Nat) (h : i < r.rows.length), r.rows[i].values.length ≤ 100000) : Ct Tryz.prog 44 [.agg x.cs, .agg r.cs] (.bool (decide ((devT x r).length ≠ 0))) := by
  refine Ct.intro (rs := [.cell 4 4]) Tryz.func44 rfl Tryz.ntmps44 Tryz.results44 rfl rfl rfl fun w h => ?_
  refine OK.seq ?_
  refine OK.reg ?_
  refine RK.c (S.box (k := 2) rfl .none rfl (.tmp rfl rfl) rfl) ?_
  refine RK.c (S.box (k := 3) rfl .none rfl (.tmp rfl rfl) rfl) ?_
  refine RK.c (S.alloc (k := 4) ze4 rfl .none rfl) ?_
  refine RK.nil ?_
  refine Ab.D.code ?_
  refine OK.seq ?_
  refine OK.seq ?_
  refine OK.reg ?_
  refine RK.c (S.bloadN ti49 .none rfl (.tmp rfl rfl) rfl rfl rfl rfl) ?_
  refine RK.c (S.bloadN ti39 .none rfl (.tmp rfl rfl) rfl rfl rfl rfl) ?_
  refine RK.c (S.call (mon_deviations) Tryz.call48 .none rfl (.cons (.tmp rfl rfl) (.cons (.tmp rfl rfl) .nil)) rfl) ?_
  refine RK.nil ?_
  refine Ab.D.code ?_
  refine OK.block ?_
  refine OK.rangeFunc (ps := [8]) (encs := (fun d => [.agg (Deviation.cs d)])) (L := (devT x r)) [4] [(4, .ptr 4 0)] (fun q => [(1004, .box [.bool q])]) false (fun (_ : Bool) (_ : Deviation) => (true, some Code.ret)) ((fun J g s0 Φ hst hcb => mon_devs1 hf hrl hvl J g s0 Φ hst hcb)) Tryz.call73 rfl rfl (.tmp rfl rfl) rfl rfl ⟨rfl, rfl, trivial⟩ (fun _ => rfl) (fun _ => rfl) (fun _ => rfl) (fun _ => rfl) (fun _ => rfl) (by decide) rfl ?_ ?_ ?_
  · rintro i x q hx hq lr c0 w0 p1 p2
    refine OK.skipQ ?_
    refine ⟨rfl, ?_⟩
    refine OK.block ?_
    refine OK.seq ?_
    refine OK.reg ?_
    refine RK.c (S.store ti4 .none (.tmp rfl rfl) .cbool rfl rfl rfl rfl rfl rfl) ?_
    refine RK.nil ?_
    refine Ab.D.code ?_
    refine OK.ret ?_
    exact ⟨rfl, rfl, trivial⟩
  · rintro q hq
    obtain ⟨hL, hq0⟩ := dv_none hq
    subst hq0
    refine Ab.D.blk ?_
    refine Ab.D.code ?_
    refine OK.seq ?_
    refine OK.reg ?_
    refine RK.c (S.store ti4 .none (.tmp rfl rfl) .cbool rfl rfl rfl rfl rfl rfl) ?_
    refine RK.nil ?_
    refine Ab.D.code ?_
    refine OK.ret (Ret.r1 (.cell1 rfl rfl rfl rfl ti4 (.same rfl) rfl) ?_)
    rw [hL]
    rfl
  · rintro q cd hq
    obtain ⟨hL, hq1, hcd⟩ := dv_some hq
    subst hq1
    subst hcd
    refine OK.ret (Ret.r1 (.cell1 rfl rfl rfl rfl ti4 (.same rfl) rfl) ?_)
    rw [decide_eq_true (by simpa using hL)]

end Go.Proofs.YtmokilkombplkaaGreat
