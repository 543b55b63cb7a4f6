/-
  Verdicts: which envelopes are valid, deviations and verdicts, by both texts; the law.
-/
import Derived.Test.YtfjldfkgjejpmaaGreatSh
import Derived.Test.YtfjldfkgjejpmaaGreatFt
import Derived.Test.YtfjldfkgjejpmaaGreatWt
namespace Go.Proofs.YtfjldfkgjejpmaaGreat
open Go.Ab

theorem dv_none {L : List Deviation} {q : Bool} (h : iterG (Ab.stepG (fun (_ : Bool) (_ : Deviation) => (true, some Code.ret))) (false, none) L = ((q, none), true)) : L = [] ∧ q = false := by
  cases L with
  | nil => simp only [iterG, Prod.mk.injEq] at h; exact ⟨rfl, h.1.1.symm⟩
  | cons d L => simp [iterG, Ab.stepG] at h
theorem dv_some {L : List Deviation} {q : Bool} {cd : Code} (h : (iterG (Ab.stepG (fun (_ : Bool) (_ : Deviation) => (true, some Code.ret))) (false, none) L).1 = (q, some cd)) : L ≠ [] ∧ q = true ∧ cd = .ret := by
  cases L with
  | nil => simp [iterG] at h
  | cons d L =>
    simp [iterG, Ab.stepG] at h
    exact ⟨by simp, h.1, h.2.symm⟩
theorem sh_range {xs : List X} (h : Shape (.st (.cons (.int .i64) (.cons (.int .i64) .nil))) xs) : ∃ p : Range, xs = p.cs := by
  obtain ⟨a, b, rfl, ⟨n1, rfl⟩, c, d, rfl, ⟨n2, rfl⟩, rfl⟩ := h
  exact ⟨⟨n1, n2⟩, rfl⟩
theorem sh_envelope {xs : List X} (h : Shape (.cons (.int .i64) (.cons (.int .i64) (.cons (.sl (.sl (.st (.cons (.int .i64) (.cons (.int .i64) .nil))))) .nil))) xs) : ∃ p : Envelope, xs = p.cs := by
  obtain ⟨a, b, rfl, ⟨n1, rfl⟩, c, d, rfl, ⟨n2, rfl⟩, e, f, rfl, ⟨rows, rfl, hr⟩, rfl⟩ := h
  obtain ⟨l, rfl⟩ := rows_of (f := fun l : List Range => [X.sl (l.map Range.cs)]) (fun r h => by
    obtain ⟨rows2, h1, hr2⟩ := hr r h
    obtain ⟨l2, rfl⟩ := rows_of (f := Range.cs) (fun r h => sh_range (hr2 r h))
    exact ⟨l2, h1⟩)
  exact ⟨⟨n1, n2, l⟩, rfl⟩
def verdT (x : Envelope) (r : Record) : Int := if (devT x r).length ≠ 0 then 2 else if (lostT r).length ≠ 0 then 1 else 0
def envelopeChk (p : Plan) (x : Envelope) : Int × Int := if planErr p ≠ 0 then (0, planErr p) else envChk p x
def OrdT (x : Envelope) : Prop := ∀ (i : Nat) (h : i < x.rows.length) (j : Nat) (h2 : j < x.rows[i].length), x.rows[i][j].lo ≤ x.rows[i][j].hi
theorem dev_hi {t : Nat} {rs : List Range} {c : Nat} {n : Int} (h : c < rs.length) (ho : rs[c].lo ≤ rs[c].hi) (hn : n > rs[c].hi) : devOne t rs c n = [⟨t, c, n - rs[c].hi⟩] := by
  have e : devBy n rs[c] = n - rs[c].hi := by
    unfold devBy
    rw [if_pos (by omega), if_neg (by omega)]
    omega
  unfold devOne
  rw [getD_at h, e, if_pos (by omega)]
theorem dev_lo {t : Nat} {rs : List Range} {c : Nat} {n : Int} (h : c < rs.length) (ho : rs[c].lo ≤ rs[c].hi) (hn : n < rs[c].lo) : devOne t rs c n = [⟨t, c, n - rs[c].lo⟩] := by
  have e : devBy n rs[c] = n - rs[c].lo := by
    unfold devBy
    rw [if_neg (by omega), if_pos (by omega)]
    omega
  unfold devOne
  rw [getD_at h, e, if_pos (by omega)]
theorem dev_in {t : Nat} {rs : List Range} {c : Nat} {n : Int} (h : c < rs.length) (h1 : ¬ n > rs[c].hi) (h2 : ¬ n < rs[c].lo) : devOne t rs c n = [] := by
  have e : devBy n rs[c] = 0 := by
    unfold devBy
    rw [if_neg (by omega), if_neg (by omega)]
    rfl
  unfold devOne
  rw [getD_at h, e, if_neg (by omega)]
theorem dev_app {D out rest more tail : List Deviation} (h : D = out ++ (more ++ rest ++ tail)) : D = (out ++ more) ++ (rest ++ tail) := by rw [h]; simp
theorem out_len {D out tail : List Deviation} (h : D = out ++ tail) (hD : D.length ≤ 100000) : out.length ≤ 100000 := by
  rw [h, List.length_append] at hD
  omega
theorem env_ord {p : Plan} {x : Envelope} (h : (envChk p x).2 = 0) : OrdT x := fun i hi j hj => (range_ok (((env_rows h).2.2.2 i hi).2 j hj)).2
theorem trimErr_2 {t n : Int} (h : trimErr t n ≠ 0) : trimErr t n = 2 := by
  unfold trimErr at *
  split
  · rename_i h1; rw [if_pos h1] at h; exact absurd rfl h
  · rfl
def shortEnvT (x : Envelope) : Bool := decide (x.rows.length ≤ 14) && x.rows.all fun l => decide (l.length ≤ 6)
theorem shortEnv_len {x : Envelope} (h : shortEnvT x = true) : x.rows.length ≤ 14 ∧ ∀ (i : Nat) (h : i < x.rows.length), x.rows[i].length ≤ 6 := by
  unfold shortEnvT at h
  simp only [Bool.and_eq_true, decide_eq_true_eq] at h
  exact ⟨h.1, fun i hi => of_decide_eq_true (List.all_eq_true.1 h.2 _ (List.getElem_mem hi))⟩
theorem rows_drop {α : Type} (g : α → Int) {l : List α} {j : Nat} (h : j < l.length) (hg : eachGo (fun _ x => g x) 0 l = eachGo (fun _ x => g x) j (l.drop j)) (e : g l[j] = 0) : eachGo (fun _ x => g x) 0 l = eachGo (fun _ x => g x) (j + 1) (l.drop (j + 1)) := by
  rw [hg, eachGo_drop _ h, if_neg (by rw [e]; simp)]
theorem rows_hit {α : Type} (g : α → Int) {l : List α} {j : Nat} {q : Int} (h : j < l.length) (hg : eachGo (fun _ x => g x) 0 l = eachGo (fun _ x => g x) j (l.drop j)) (e : g l[j] = q) (hq : q ≠ 0) : eachGo (fun _ x => g x) 0 l = ((j : Int), q) := by
  rw [hg, eachGo_drop _ h, if_pos (by rw [e]; exact hq), e]

theorem mon_deviates {x : Envelope} {r : Record} (hf : FitT x r) (hrl : r.rows.length ≤ 100000) (hvl : ∀ (i : Nat) (h : i < r.rows.length), r.rows[i].values.length ≤ 100000) : Ct Tryz.prog 68 [.agg x.cs, .agg r.cs] (.bool (decide ((devT x r).length ≠ 0))) := by
  refine Ct.intro (rs := [.cell 4 4]) Tryz.func68 rfl Tryz.ntmps68 Tryz.results68 rfl rfl rfl fun w h => ?_
  refine OK.seq ?_
  refine OK.reg ?_
  refine RK.c (S.box (k := 2) rfl .none rfl (.tmp rfl rfl) rfl) ?_
  refine RK.c (S.box (k := 3) rfl .none rfl (.tmp rfl rfl) rfl) ?_
  refine RK.c (S.alloc (k := 4) ze4 rfl .none rfl) ?_
  refine RK.nil ?_
  refine Ab.D.code ?_
  refine OK.seq ?_
  refine OK.seq ?_
  refine OK.reg ?_
  refine RK.c (S.bloadN ti33 .none rfl (.tmp rfl rfl) rfl rfl rfl rfl) ?_
  refine RK.c (S.bloadN ti51 .none rfl (.tmp rfl rfl) rfl rfl rfl rfl) ?_
  refine RK.c (S.call (mon_deviations) Tryz.call76 .none rfl (.cons (.tmp rfl rfl) (.cons (.tmp rfl rfl) .nil)) rfl) ?_
  refine RK.nil ?_
  refine Ab.D.code ?_
  refine OK.block ?_
  refine OK.rangeFunc (ps := [8]) (encs := (fun d => [.agg (Deviation.cs d)])) (L := (devT x r)) [4] [(4, .ptr 4 0)] (fun q => [(1004, .box [.bool q])]) false (fun (_ : Bool) (_ : Deviation) => (true, some Code.ret)) ((fun J g s0 Φ hst hcb => mon_devs1 hf hrl hvl J g s0 Φ hst hcb)) Tryz.call114 rfl rfl (.tmp rfl rfl) rfl rfl ⟨rfl, rfl, trivial⟩ (fun _ => rfl) (fun _ => rfl) (fun _ => rfl) (fun _ => rfl) (fun _ => rfl) (by decide) rfl ?_ ?_ ?_
  · rintro i x q hx hq lr c0 w0 p1 p2
    refine OK.skipQ ?_
    refine ⟨rfl, ?_⟩
    refine OK.block ?_
    refine OK.seq ?_
    refine OK.reg ?_
    refine RK.c (S.store ti4 .none (.tmp rfl rfl) .cbool rfl rfl rfl rfl rfl rfl) ?_
    refine RK.nil ?_
    refine Ab.D.code ?_
    refine OK.ret ?_
    exact ⟨rfl, rfl, trivial⟩
  · rintro q hq
    obtain ⟨hL, hq0⟩ := dv_none hq
    subst hq0
    refine Ab.D.blk ?_
    refine Ab.D.code ?_
    refine OK.seq ?_
    refine OK.reg ?_
    refine RK.c (S.store ti4 .none (.tmp rfl rfl) .cbool rfl rfl rfl rfl rfl rfl) ?_
    refine RK.nil ?_
    refine Ab.D.code ?_
    refine OK.ret (Ret.r1 (.cell1 rfl rfl rfl rfl ti4 (.same rfl) rfl) ?_)
    rw [hL]
    rfl
  · rintro q cd hq
    obtain ⟨hL, hq1, hcd⟩ := dv_some hq
    subst hq1
    subst hcd
    refine OK.ret (Ret.r1 (.cell1 rfl rfl rfl rfl ti4 (.same rfl) rfl) ?_)
    rw [decide_eq_true (by simpa using hL)]

theorem mon_CheckEnvelope {p : Plan} {x : Envelope} : Ct Tryz.prog 27 [.agg p.cs, .agg x.cs] (pair (envelopeChk p x)) := by
  refine Ct.intro (rs := [.tmp 4, .tmp 5]) Tryz.func27 rfl Tryz.ntmps27 Tryz.results27 rfl rfl rfl fun w h => ?_
  refine OK.seq ?_
  refine OK.reg ?_
  refine RK.c (S.box (k := 2) rfl .none rfl (.tmp rfl rfl) rfl) ?_
  refine RK.c (S.box (k := 3) rfl .none rfl (.tmp rfl rfl) rfl) ?_
  refine RK.c (S.assign .none rfl (.cint rfl)) ?_
  refine RK.c (S.assign .none rfl (.cint rfl)) ?_
  refine RK.nil ?_
  refine Ab.D.code ?_
  refine OK.seq ?_
  refine OK.reg ?_
  refine RK.c (S.bloadN ti24 .none rfl (.tmp rfl rfl) rfl rfl rfl rfl) ?_
  refine RK.c (S.call (mon_open) Tryz.call73 .none rfl (.cons (.tmp rfl rfl) .nil) rfl) ?_
  refine RK.c (S.move .none rfl (.tmp rfl rfl)) ?_
  refine RK.c (S.extract .none rfl (.tmp rfl rfl) rfl rfl) ?_
  refine RK.c (S.extract .none rfl (.tmp rfl rfl) rfl rfl) ?_
  refine RK.c (S.alloc (k := 6) ze117 rfl .none rfl) ?_
  refine RK.c (S.store ti117 .none (.tmp rfl rfl) (.tmp rfl rfl) rfl rfl rfl rfl rfl rfl) ?_
  refine RK.c (S.assign .none rfl (.tmp rfl rfl)) ?_
  refine RK.nil ?_
  refine Ab.D.code ?_
  refine OK.seq ?_
  refine OK.seq ?_
  refine OK.reg ?_
  refine RK.c (S.move .none rfl (.tmp rfl rfl)) ?_
  refine RK.c (S.neq .none rfl (.tmp rfl rfl) (.cint rfl)) ?_
  refine RK.nil ?_
  refine Ab.D.code ?_
  refine OK.condD rfl rfl (fun c14 => ?_) (fun c14 => ?_)
  ·
    refine OK.seq ?_
    refine OK.reg ?_
    refine RK.c (S.move .none rfl (.tmp rfl rfl)) ?_
    refine RK.c (S.assign .none rfl (.cint rfl)) ?_
    refine RK.c (S.assign .none rfl (.tmp rfl rfl)) ?_
    refine RK.nil ?_
    refine Ab.D.code ?_
    refine OK.ret (Ret.r2 (.tmp rfl rfl (.c (.same rfl) rfl) rfl) (.tmp rfl rfl (.c (.same rfl) rfl) rfl) ?_)
    refine ret_p ?_
    rw [envelopeChk, if_pos c14]
  ·
    refine OK.skip ?_
    refine Ab.D.code ?_
    refine OK.seq ?_
    refine OK.reg ?_
    refine RK.c (S.bloadN ti117 .none rfl (.tmp rfl rfl) rfl rfl rfl rfl) ?_
    refine RK.c (S.bloadN ti33 .none rfl (.tmp rfl rfl) rfl rfl rfl rfl) ?_
    refine RK.c (S.call (mon_envelopeErr) Tryz.call74 .none rfl (.cons (.tmp rfl rfl) (.cons (.tmp rfl rfl) .nil)) rfl) ?_
    refine RK.c (S.extract .none rfl (.tmp rfl rfl) rfl rfl) ?_
    refine RK.c (S.extract .none rfl (.tmp rfl rfl) rfl rfl) ?_
    refine RK.c (S.assign .none rfl (.tmp rfl rfl)) ?_
    refine RK.c (S.assign .none rfl (.tmp rfl rfl)) ?_
    refine RK.nil ?_
    refine Ab.D.code ?_
    refine OK.ret (Ret.r2 (.tmp rfl rfl (.c (.same rfl) rfl) rfl) (.tmp rfl rfl (.c (.same rfl) rfl) rfl) ?_)
    refine ret_p ?_
    rw [envelopeChk, if_neg c14]

theorem mon_VerdictOf {p : Plan} {x : Envelope} {r : Record} : Ct Tryz.prog 21 [.agg p.cs, .agg x.cs, .agg r.cs] (.tup [.int .i64 (if bothErr p x r = 0 then verdT x r else 0), .int .i64 (bothErr p x r)]) := by
  refine Ct.intro (rs := [.tmp 6, .tmp 7]) Tryz.func21 rfl Tryz.ntmps21 Tryz.results21 rfl rfl rfl fun w h => ?_
  refine OK.seq ?_
  refine OK.reg ?_
  refine RK.c (S.box (k := 3) rfl .none rfl (.tmp rfl rfl) rfl) ?_
  refine RK.c (S.box (k := 4) rfl .none rfl (.tmp rfl rfl) rfl) ?_
  refine RK.c (S.box (k := 5) rfl .none rfl (.tmp rfl rfl) rfl) ?_
  refine RK.c (S.assign .none rfl (.cint rfl)) ?_
  refine RK.c (S.assign .none rfl (.cint rfl)) ?_
  refine RK.nil ?_
  refine Ab.D.code ?_
  refine OK.seq ?_
  refine OK.seq ?_
  refine OK.reg ?_
  refine RK.c (S.bloadN ti24 .none rfl (.tmp rfl rfl) rfl rfl rfl rfl) ?_
  refine RK.c (S.bloadN ti33 .none rfl (.tmp rfl rfl) rfl rfl rfl rfl) ?_
  refine RK.c (S.bloadN ti51 .none rfl (.tmp rfl rfl) rfl rfl rfl rfl) ?_
  refine RK.c (S.call (mon_openBoth) Tryz.call67 .none rfl (.cons (.tmp rfl rfl) (.cons (.tmp rfl rfl) (.cons (.tmp rfl rfl) .nil))) rfl) ?_
  refine RK.c (S.assign .none rfl (.tmp rfl rfl)) ?_
  refine RK.nil ?_
  refine Ab.D.code ?_
  refine OK.seq ?_
  refine OK.reg ?_
  refine RK.c (S.move .none rfl (.tmp rfl rfl)) ?_
  refine RK.c (S.neq .none rfl (.tmp rfl rfl) (.cint rfl)) ?_
  refine RK.nil ?_
  refine Ab.D.code ?_
  refine OK.condD rfl rfl (fun c14 => ?_) (fun c14 => ?_)
  ·
    refine OK.seq ?_
    refine OK.reg ?_
    refine RK.c (S.move .none rfl (.tmp rfl rfl)) ?_
    refine RK.c (S.assign .none rfl (.cint rfl)) ?_
    refine RK.c (S.assign .none rfl (.tmp rfl rfl)) ?_
    refine RK.nil ?_
    refine Ab.D.code ?_
    refine OK.ret (Ret.r2 (.tmp rfl rfl (.c (.same rfl) rfl) rfl) (.tmp rfl rfl (.c (.same rfl) rfl) rfl) ?_)
    rw [if_neg (show ¬ bothErr p x r = 0 from c14)]
  ·
    have he : bothErr p x r = 0 := by omega
    have hb := both_of he
    have hbr := hb.rows
    refine OK.skip ?_
    refine Ab.D.code ?_
    refine OK.seq ?_
    refine OK.block ?_
    refine OK.seq ?_
    refine OK.reg ?_
    refine RK.c (S.bloadN ti33 .none rfl (.tmp rfl rfl) rfl rfl rfl rfl) ?_
    refine RK.c (S.bloadN ti51 .none rfl (.tmp rfl rfl) rfl rfl rfl rfl) ?_
    refine RK.c (S.call (mon_deviates hb.fit (by omega) (fun i h => by have := hb.vals i h; omega)) Tryz.call68 .none rfl (.cons (.tmp rfl rfl) (.cons (.tmp rfl rfl) .nil)) rfl) ?_
    refine RK.c (S.assign .none rfl (.tmp rfl rfl)) ?_
    refine RK.nil ?_
    refine Ab.D.code ?_
    refine OK.cond rfl rfl (fun c16 => ?_) (fun c16 => ?_)
    ·
      refine OK.seq ?_
      refine OK.reg ?_
      refine RK.c (S.assign .none rfl (.cint rfl)) ?_
      refine RK.c (S.assign .none rfl (.cint rfl)) ?_
      refine RK.nil ?_
      refine Ab.D.code ?_
      refine OK.ret (Ret.r2 (.tmp rfl rfl (.c (.same rfl) rfl) rfl) (.tmp rfl rfl (.c (.same rfl) rfl) rfl) ?_)
      rw [if_pos he, he, verdT, if_pos (of_decide_eq_true c16)]
    ·
      refine OK.seq ?_
      refine OK.reg ?_
      refine RK.c (S.bloadN ti51 .none rfl (.tmp rfl rfl) rfl rfl rfl rfl) ?_
      refine RK.c (S.call (mon_lost (by omega)) Tryz.call69 .none rfl (.cons (.tmp rfl rfl) .nil) rfl) ?_
      refine RK.c (S.lenM si57 .none rfl (.tmp rfl rfl)) ?_
      refine RK.c (S.gtr .none rfl (.tmp rfl rfl) (.cint rfl)) ?_
      refine RK.c (S.assign .none rfl (.tmp rfl rfl)) ?_
      refine RK.nil ?_
      refine Ab.D.code ?_
      refine OK.condD rfl rfl (fun c20 => ?_) (fun c20 => ?_)
      ·
        refine OK.seq ?_
        refine OK.reg ?_
        refine RK.c (S.assign .none rfl (.cint rfl)) ?_
        refine RK.c (S.assign .none rfl (.cint rfl)) ?_
        refine RK.nil ?_
        refine Ab.D.code ?_
        refine OK.ret (Ret.r2 (.tmp rfl rfl (.c (.same rfl) rfl) rfl) (.tmp rfl rfl (.c (.same rfl) rfl) rfl) ?_)
        rw [if_pos he, he, verdT, if_neg (of_decide_eq_false c16), if_pos (by omega)]
      ·
        refine OK.skip ?_
        refine Ab.D.blk ?_
        refine Ab.D.code ?_
        refine OK.seq ?_
        refine OK.reg ?_
        refine RK.c (S.assign .none rfl (.cint rfl)) ?_
        refine RK.c (S.assign .none rfl (.cint rfl)) ?_
        refine RK.nil ?_
        refine Ab.D.code ?_
        refine OK.ret (Ret.r2 (.tmp rfl rfl (.c (.same rfl) rfl) rfl) (.tmp rfl rfl (.c (.same rfl) rfl) rfl) ?_)
        rw [if_pos he, he, verdT, if_neg (of_decide_eq_false c16), if_neg (by omega)]

theorem ref_CheckEnvelope {p : Plan} {x : Envelope} : Ct Tryz.prog 29 [.agg p.cs, .agg x.cs] (pair (envChk p x)) := by
  refine Ct.intro (rs := [.tmp 4, .tmp 5]) Tryz.func29 rfl Tryz.ntmps29 Tryz.results29 rfl rfl rfl fun w h => ?_
  refine OK.aggLen 1 2 (x.rows.map (fun l => [X.sl (l.map Range.cs)])) rfl rfl rfl fun hlen => ?_
  rw [List.length_map] at hlen
  unfold maxLen at hlen
  refine OK.aggLen 0 0 (p.channels.map fun s => [.str s]) rfl rfl rfl fun hlenp => ?_
  rw [List.length_map] at hlenp
  unfold maxLen at hlenp
  refine OK.seq ?_
  refine OK.reg ?_
  refine RK.c (S.box (k := 2) rfl .none rfl (.tmp rfl rfl) rfl) ?_
  refine RK.c (S.box (k := 3) rfl .none rfl (.tmp rfl rfl) rfl) ?_
  refine RK.c (S.assign .none rfl (.cint rfl)) ?_
  refine RK.c (S.assign .none rfl (.cint rfl)) ?_
  refine RK.nil ?_
  refine Ab.D.code ?_
  refine OK.seq ?_
  refine OK.seq ?_
  refine OK.reg ?_
  refine RK.c (S.bfield fi33_0 .none rfl (.tmp rfl rfl)) ?_
  refine RK.c (S.bload1 ti3 .none rfl (.tmp rfl rfl) rfl rfl rfl rfl) ?_
  refine RK.c (S.call (base_Within) Tryz.call24 .none rfl (.cons (.tmp rfl rfl) (.cons (.cint rfl) (.cons (.cint rfl) .nil))) rfl) ?_
  refine RK.c (S.notD .none rfl (.tmp rfl rfl)) ?_
  refine RK.c (S.move .none rfl (.tmp rfl rfl)) ?_
  refine RK.splitD (t := 13) rfl (fun g13 => ?_) (fun g13 => ?_)
  ·
    refine RK.c (S.skip rfl rfl rfl rfl rfl) ?_
    refine RK.c (S.skip rfl rfl rfl rfl rfl) ?_
    refine RK.c (S.skip rfl rfl rfl rfl rfl) ?_
    refine RK.c (S.skip rfl rfl rfl rfl rfl) ?_
    refine RK.c (S.skip rfl rfl rfl rfl rfl) ?_
    refine RK.c (S.skip rfl rfl rfl rfl rfl) ?_
    refine RK.c (S.pickT .none rfl (.tmp rfl rfl) .cbool rfl) ?_
    refine RK.nil ?_
    refine Ab.D.code ?_
    refine OK.condT rfl rfl rfl ?_
    refine OK.seq ?_
    refine OK.reg ?_
    refine RK.c (S.assign .none rfl (.cint rfl)) ?_
    refine RK.c (S.assign .none rfl (.cint rfl)) ?_
    refine RK.nil ?_
    refine Ab.D.code ?_
    refine OK.ret (Ret.r2 (.tmp rfl rfl (.c (.same rfl) rfl) rfl) (.tmp rfl rfl (.c (.same rfl) rfl) rfl) ?_)
    refine ret_p ?_
    rw [envChk, if_pos (by simpa using g13)]
  ·
    refine RK.c (S.bfield fi33_1 (.yes rfl rfl rfl rfl) rfl (.tmp rfl rfl)) ?_
    refine RK.c (S.bload1 ti3 (.yes rfl rfl rfl rfl) rfl (.tmp rfl rfl) rfl rfl rfl rfl) ?_
    refine RK.c (S.bfield fi33_0 (.yes rfl rfl rfl rfl) rfl (.tmp rfl rfl)) ?_
    refine RK.c (S.bload1 ti3 (.yes rfl rfl rfl rfl) rfl (.tmp rfl rfl) rfl rfl rfl rfl) ?_
    refine RK.c (S.call (ref_TrimErr (by omega)) Tryz.call17 (.yes rfl rfl rfl rfl) rfl (.cons (.tmp rfl rfl) (.cons (.tmp rfl rfl) .nil)) rfl) ?_
    refine RK.c (S.neq (.yes rfl rfl rfl rfl) rfl (.tmp rfl rfl) (.cint rfl)) ?_
    refine RK.c (S.pickF .none rfl (.tmp rfl rfl) (.tmp rfl rfl) rfl) ?_
    refine RK.nil ?_
    refine Ab.D.code ?_
    refine OK.condD rfl rfl (fun c20 => ?_) (fun c20 => ?_)
    ·
      refine OK.seq ?_
      refine OK.reg ?_
      refine RK.c (S.assign .none rfl (.cint rfl)) ?_
      refine RK.c (S.assign .none rfl (.cint rfl)) ?_
      refine RK.nil ?_
      refine Ab.D.code ?_
      refine OK.ret (Ret.r2 (.tmp rfl rfl (.c (.same rfl) rfl) rfl) (.tmp rfl rfl (.c (.same rfl) rfl) rfl) ?_)
      refine ret_p ?_
      rw [envChk, if_neg (by omega), if_pos c20, trimErr_2 c20]
    ·
      refine OK.skip ?_
      refine Ab.D.code ?_
      refine OK.seq ?_
      refine OK.seq ?_
      refine OK.reg ?_
      refine RK.c (S.bfield fi33_2 .none rfl (.tmp rfl rfl)) ?_
      refine RK.c (S.bload1 ti31 .none rfl (.tmp rfl rfl) rfl rfl rfl rfl) ?_
      refine RK.c (S.lenM si31 .none rfl (.tmp rfl rfl)) ?_
      refine RK.c (S.bfield fi24_1 .none rfl (.tmp rfl rfl)) ?_
      refine RK.c (S.bload1 ti3 .none rfl (.tmp rfl rfl) rfl rfl rfl rfl) ?_
      refine RK.c (S.neq .none rfl (.tmp rfl rfl) (.tmp rfl rfl)) ?_
      refine RK.nil ?_
      refine Ab.D.code ?_
      refine OK.condD rfl rfl (fun c26 => ?_) (fun c26 => ?_)
      ·
        refine OK.seq ?_
        refine OK.reg ?_
        refine RK.c (S.assign .none rfl (.cint rfl)) ?_
        refine RK.c (S.assign .none rfl (.cint rfl)) ?_
        refine RK.nil ?_
        refine Ab.D.code ?_
        refine OK.ret (Ret.r2 (.tmp rfl rfl (.c (.same rfl) rfl) rfl) (.tmp rfl rfl (.c (.same rfl) rfl) rfl) ?_)
        refine ret_p ?_
        rw [envChk, if_neg (by omega), if_neg c20, if_pos c26]
      ·
        have hpt : 1 ≤ x.parts ∧ x.parts ≤ 20 := by simpa using g13
        have hrc : envChk p x = eachGo (fun _ l => erowErr p l) 0 x.rows := by rw [envChk, if_neg (by omega), if_neg (by omega), if_neg (by omega)]
        refine OK.skip ?_
        refine Ab.D.code ?_
        refine OK.seq ?_
        refine OK.seq ?_
        refine OK.reg ?_
        refine RK.c (S.assign .none rfl (.cint rfl)) ?_
        refine RK.nil ?_
        refine Ab.D.code ?_
        refine OK.block ?_
        refine OK.loop (G := Nat) [2, 3] (fun i => [(2, .ptr 2 0), (1002, .box p.cs), (3, .ptr 3 0), (1003, .box x.cs), (6, .int .i64 i)]) (fun i => i ≤ x.rows.length ∧ eachGo (fun _ l => erowErr p l) 0 x.rows = eachGo (fun _ l => erowErr p l) i (x.rows.drop i)) (fun i => x.rows.length - i) 0 ⟨Nat.zero_le _, rfl⟩ ⟨rfl, rfl, rfl, rfl, rfl, trivial⟩ (fun _ => rfl) ?_
        rintro i ⟨hi, hg⟩
        refine OK.seq ?_
        refine OK.seq ?_
        refine OK.reg ?_
        refine RK.c (S.move .none rfl (.tmp rfl rfl)) ?_
        refine RK.c (S.bfield fi33_2 .none rfl (.tmp rfl rfl)) ?_
        refine RK.c (S.bload1 ti31 .none rfl (.tmp rfl rfl) rfl rfl rfl rfl) ?_
        refine RK.c (S.lenM si31 .none rfl (.tmp rfl rfl)) ?_
        refine RK.c (S.lss .none rfl (.tmp rfl rfl) (.tmp rfl rfl)) ?_
        refine RK.nil ?_
        refine Ab.D.code ?_
        refine OK.condD rfl rfl (fun c31 => ?_) (fun c31 => ?_)
        ·
          refine OK.skip ?_
          refine Ab.D.code ?_
          refine OK.seq ?_
          refine OK.block ?_
          refine OK.seq ?_
          refine OK.seq ?_
          refine OK.regionDraw follows (.c (S.bfield fi33_2 .none rfl (.tmp rfl rfl))
            (.c (S.bload1 ti31 .none rfl (.tmp rfl rfl) rfl rfl rfl rfl)
            (.c (S.move .none rfl (.tmp rfl rfl))
            (.c (S.indexM si31 .none rfl (.tmp rfl rfl) (.tmp rfl rfl) rfl (by omega) rfl)
            (.c (S.load1 ti55 .none rfl (.tmp rfl rfl) rfl)
            (.c (S.lenM si55 .none rfl (.tmp rfl rfl))
            (.c (S.bfield fi24_0 .none rfl (.tmp rfl rfl))
            (.c (S.bload1 ti22 .none rfl (.tmp rfl rfl) rfl rfl rfl rfl)
            (.c (S.lenM si22 .none rfl (.tmp rfl rfl))
            (.c (S.neq .none rfl (.tmp rfl rfl) (.tmp rfl rfl))
            .nil)))))))))) (by kernel_rfl) ?_
          refine Ab.D.code ?_
          refine OK.condD rfl rfl (fun c43 => ?_) (fun c43 => ?_)
          ·
            refine OK.seq ?_
            refine OK.reg ?_
            refine RK.c (S.move .none rfl (.tmp rfl rfl)) ?_
            refine RK.c (S.assign .none rfl (.tmp rfl rfl)) ?_
            refine RK.c (S.assign .none rfl (.cint rfl)) ?_
            refine RK.nil ?_
            refine Ab.D.code ?_
            refine OK.ret (Ret.r2 (.tmp rfl rfl (.c (.same rfl) rfl) rfl) (.tmp rfl rfl (.c (.same rfl) rfl) rfl) ?_)
            have e : erowErr p x.rows[i] = 10 := by rw [erowErr, if_pos (by omega)]
            exact ret_p (by rw [hrc, rows_hit (erowErr p) (by omega) hg e (by decide)])
          ·
            refine OK.skip ?_
            refine Ab.D.code ?_
            refine OK.seq ?_
            refine OK.reg ?_
            refine RK.c (S.assign .none rfl (.cint rfl)) ?_
            refine RK.nil ?_
            refine Ab.D.code ?_
            refine OK.block ?_
            refine OK.loop (G := Nat) [2, 3] (fun j => [(2, .ptr 2 0), (1002, .box p.cs), (3, .ptr 3 0), (1003, .box x.cs), (6, .int .i64 i), (7, .int .i64 j)]) (fun j => j ≤ x.rows[i].length ∧ eachGo (fun _ y => rangeErr y) 0 x.rows[i] = eachGo (fun _ y => rangeErr y) j (x.rows[i].drop j)) (fun j => x.rows[i].length - j) 0 ⟨Nat.zero_le _, rfl⟩ ⟨rfl, rfl, rfl, rfl, rfl, rfl, trivial⟩ (fun _ => rfl) ?_
            rintro j ⟨hj, hv⟩
            refine OK.seq ?_
            refine OK.seq ?_
            refine OK.reg ?_
            refine RK.c (S.move .none rfl (.tmp rfl rfl)) ?_
            refine RK.c (S.bfield fi33_2 .none rfl (.tmp rfl rfl)) ?_
            refine RK.c (S.bload1 ti31 .none rfl (.tmp rfl rfl) rfl rfl rfl rfl) ?_
            refine RK.c (S.move .none rfl (.tmp rfl rfl)) ?_
            refine RK.c (S.indexM si31 .none rfl (.tmp rfl rfl) (.tmp rfl rfl) rfl (by omega) rfl) ?_
            refine RK.c (S.load1 ti55 .none rfl (.tmp rfl rfl) rfl) ?_
            refine RK.c (S.lenM si55 .none rfl (.tmp rfl rfl)) ?_
            refine RK.c (S.lss .none rfl (.tmp rfl rfl) (.tmp rfl rfl)) ?_
            refine RK.nil ?_
            refine Ab.D.code ?_
            refine OK.condD rfl rfl (fun c52 => ?_) (fun c52 => ?_)
            ·
              refine OK.skip ?_
              refine Ab.D.code ?_
              refine OK.seq ?_
              refine OK.block ?_
              refine OK.seq ?_
              refine OK.reg ?_
              refine RK.c (S.bfield fi33_2 .none rfl (.tmp rfl rfl)) ?_
              refine RK.c (S.bload1 ti31 .none rfl (.tmp rfl rfl) rfl rfl rfl rfl) ?_
              refine RK.c (S.move .none rfl (.tmp rfl rfl)) ?_
              refine RK.c (S.indexM si31 .none rfl (.tmp rfl rfl) (.tmp rfl rfl) rfl (by omega) rfl) ?_
              refine RK.c (S.load1 ti55 .none rfl (.tmp rfl rfl) rfl) ?_
              refine RK.c (S.move .none rfl (.tmp rfl rfl)) ?_
              refine RK.c (S.indexM si55 .none rfl (.tmp rfl rfl) (.tmp rfl rfl) rfl (by omega) rfl) ?_
              refine RK.c (S.loadN ti54 .none rfl (.tmp rfl rfl) rfl rfl) ?_
              refine RK.c (S.alloc (k := 8) ze54 rfl .none rfl) ?_
              refine RK.c (S.store ti54 .none (.tmp rfl rfl) (.tmp rfl rfl) rfl rfl rfl rfl rfl rfl) ?_
              refine RK.nil ?_
              refine Ab.D.code ?_
              refine OK.seq ?_
              refine OK.seq ?_
              refine OK.reg ?_
              refine RK.c (S.bfield fi54_0 .none rfl (.tmp rfl rfl)) ?_
              refine RK.c (S.bload1 ti3 .none rfl (.tmp rfl rfl) rfl rfl rfl rfl) ?_
              refine RK.c (S.call (ref_isValue) Tryz.call77 .none rfl (.cons (.tmp rfl rfl) .nil) rfl) ?_
              refine RK.c (S.notD .none rfl (.tmp rfl rfl)) ?_
              refine RK.c (S.move .none rfl (.tmp rfl rfl)) ?_
              refine RK.splitD (t := 67) rfl (fun g67 => ?_) (fun g67 => ?_)
              ·
                refine RK.c (S.skip rfl rfl rfl rfl rfl) ?_
                refine RK.c (S.skip rfl rfl rfl rfl rfl) ?_
                refine RK.c (S.skip rfl rfl rfl rfl rfl) ?_
                refine RK.c (S.skip rfl rfl rfl rfl rfl) ?_
                refine RK.c (S.pickT .none rfl (.tmp rfl rfl) .cbool rfl) ?_
                refine RK.nil ?_
                refine Ab.D.code ?_
                refine OK.condT rfl rfl rfl ?_
                refine OK.seq ?_
                refine OK.reg ?_
                refine RK.c (S.move .none rfl (.tmp rfl rfl)) ?_
                refine RK.c (S.assign .none rfl (.tmp rfl rfl)) ?_
                refine RK.c (S.assign .none rfl (.cint rfl)) ?_
                refine RK.nil ?_
                refine Ab.D.code ?_
                refine OK.ret (Ret.r2 (.tmp rfl rfl (.c (.same rfl) rfl) rfl) (.tmp rfl rfl (.c (.same rfl) rfl) rfl) ?_)
                have e : erowErr p x.rows[i] = 2 := by rw [erowErr, if_neg (by omega), rows_hit rangeErr (by omega) hv (show rangeErr x.rows[i][j] = 2 by (rw [rangeErr, if_pos (by omega)])) (by decide)]
                exact ret_p (by rw [hrc, rows_hit (erowErr p) (by omega) hg e (by decide)])
              ·
                refine RK.c (S.bfield fi54_1 (.yes rfl rfl rfl rfl) rfl (.tmp rfl rfl)) ?_
                refine RK.c (S.bload1 ti3 (.yes rfl rfl rfl rfl) rfl (.tmp rfl rfl) rfl rfl rfl rfl) ?_
                refine RK.c (S.call (ref_isValue) Tryz.call77 (.yes rfl rfl rfl rfl) rfl (.cons (.tmp rfl rfl) .nil) rfl) ?_
                refine RK.c (S.notD (.yes rfl rfl rfl rfl) rfl (.tmp rfl rfl)) ?_
                refine RK.c (S.pickF .none rfl (.tmp rfl rfl) (.tmp rfl rfl) rfl) ?_
                refine RK.nil ?_
                refine Ab.D.code ?_
                refine OK.condD rfl rfl (fun c72 => ?_) (fun c72 => ?_)
                ·
                  refine OK.seq ?_
                  refine OK.reg ?_
                  refine RK.c (S.move .none rfl (.tmp rfl rfl)) ?_
                  refine RK.c (S.assign .none rfl (.tmp rfl rfl)) ?_
                  refine RK.c (S.assign .none rfl (.cint rfl)) ?_
                  refine RK.nil ?_
                  refine Ab.D.code ?_
                  refine OK.ret (Ret.r2 (.tmp rfl rfl (.c (.same rfl) rfl) rfl) (.tmp rfl rfl (.c (.same rfl) rfl) rfl) ?_)
                  have e : erowErr p x.rows[i] = 2 := by rw [erowErr, if_neg (by omega), rows_hit rangeErr (by omega) hv (show rangeErr x.rows[i][j] = 2 by (rw [rangeErr, if_pos (fun h => c72 h.2)])) (by decide)]
                  exact ret_p (by rw [hrc, rows_hit (erowErr p) (by omega) hg e (by decide)])
                ·
                  refine OK.skip ?_
                  refine Ab.D.code ?_
                  refine OK.seq ?_
                  refine OK.reg ?_
                  refine RK.c (S.bfield fi54_0 .none rfl (.tmp rfl rfl)) ?_
                  refine RK.c (S.bload1 ti3 .none rfl (.tmp rfl rfl) rfl rfl rfl rfl) ?_
                  refine RK.c (S.bfield fi54_1 .none rfl (.tmp rfl rfl)) ?_
                  refine RK.c (S.bload1 ti3 .none rfl (.tmp rfl rfl) rfl rfl rfl rfl) ?_
                  refine RK.c (S.gtr .none rfl (.tmp rfl rfl) (.tmp rfl rfl)) ?_
                  refine RK.nil ?_
                  refine Ab.D.code ?_
                  refine OK.condD rfl rfl (fun c78 => ?_) (fun c78 => ?_)
                  ·
                    refine OK.seq ?_
                    refine OK.reg ?_
                    refine RK.c (S.move .none rfl (.tmp rfl rfl)) ?_
                    refine RK.c (S.assign .none rfl (.tmp rfl rfl)) ?_
                    refine RK.c (S.assign .none rfl (.cint rfl)) ?_
                    refine RK.nil ?_
                    refine Ab.D.code ?_
                    refine OK.ret (Ret.r2 (.tmp rfl rfl (.c (.same rfl) rfl) rfl) (.tmp rfl rfl (.c (.same rfl) rfl) rfl) ?_)
                    have e : erowErr p x.rows[i] = 9 := by rw [erowErr, if_neg (by omega), rows_hit rangeErr (by omega) hv (show rangeErr x.rows[i][j] = 9 by (rw [rangeErr, if_neg (fun h => h ⟨Decidable.not_not.1 g67, Decidable.not_not.1 c72⟩), if_neg (by omega)])) (by decide)]
                    exact ret_p (by rw [hrc, rows_hit (erowErr p) (by omega) hg e (by decide)])
                  ·
                    refine OK.skip ?_
                    refine Ab.D.blk ?_
                    refine Ab.D.code ?_
                    refine OK.reg ?_
                    refine RK.c (S.move .none rfl (.tmp rfl rfl)) ?_
                    refine RK.c (S.add .none rfl (.tmp rfl rfl) (.cint rfl) (IntWalk.i64_in _ (by omega)) (IntWalk.i64_in _ (by omega))) ?_
                    refine RK.c (S.assign .none rfl (.tmp rfl rfl)) ?_
                    refine RK.nil ?_
                    refine Ab.D.lp ⟨j + 1, ⟨by omega, ?_⟩, (by omega), rfl, rfl, rfl, rfl, rfl, rfl, trivial⟩
                    have h1 : -1000000 ≤ x.rows[i][j].lo ∧ x.rows[i][j].lo ≤ 1000000 := by simpa using g67
                    have h2 : -1000000 ≤ x.rows[i][j].hi ∧ x.rows[i][j].hi ≤ 1000000 := by simpa using c72
                    exact rows_drop rangeErr (by omega) hv (by rw [rangeErr, if_neg (by omega), if_pos (by omega)])
            ·
              refine OK.exit rfl ?_
              refine Ab.D.blk ?_
              refine Ab.D.code ?_
              refine OK.reg ?_
              refine RK.c (S.move .none rfl (.tmp rfl rfl)) ?_
              refine RK.c (S.add .none rfl (.tmp rfl rfl) (.cint rfl) (IntWalk.i64_in _ (by omega)) (IntWalk.i64_in _ (by omega))) ?_
              refine RK.c (S.assign .none rfl (.tmp rfl rfl)) ?_
              refine RK.nil ?_
              refine Ab.D.lp ⟨i + 1, ⟨by omega, ?_⟩, (by omega), rfl, rfl, rfl, rfl, rfl, trivial⟩
              have e : erowErr p x.rows[i] = 0 := by rw [erowErr, if_neg (by omega), hv, show j = x.rows[i].length by omega, List.drop_length]; rfl
              exact rows_drop (erowErr p) (by omega) hg e
        ·
          refine OK.exit rfl ?_
          refine Ab.D.code ?_
          refine OK.seq ?_
          refine OK.reg ?_
          refine RK.c (S.assign .none rfl (.cint rfl)) ?_
          refine RK.c (S.assign .none rfl (.cint rfl)) ?_
          refine RK.nil ?_
          refine Ab.D.code ?_
          refine OK.ret (Ret.r2 (.tmp rfl rfl (.c (.same rfl) rfl) rfl) (.tmp rfl rfl (.c (.same rfl) rfl) rfl) ?_)
          exact ret_p (by rw [hrc, hg, show i = x.rows.length by omega, List.drop_length]; rfl)

theorem base_CopyRanges {l : List Range} (hlen : l.length ≤ 100000) : Ct Tryz.prog 70 [.sl (l.map Range.cs)] (.sl (l.map Range.cs)) := by
  refine Ct.intro (rs := [.tmp 2]) Tryz.func70 rfl Tryz.ntmps70 Tryz.results70 rfl rfl rfl fun w h => ?_
  refine OK.seq ?_
  refine OK.reg ?_
  refine RK.c (S.assign .none rfl .cnil) ?_
  refine RK.nil ?_
  refine Ab.D.code ?_
  refine OK.seq ?_
  refine OK.reg ?_
  refine RK.c (S.mkSlice (k := 3) (rows := []) ai55 .none rfl .nil rfl rfl rfl rfl rfl rfl rfl) ?_
  refine RK.c (S.move .none rfl (.tmp rfl rfl)) ?_
  refine RK.c (S.appendSl ai55 .none rfl (.tmp rfl rfl) rfl (by first | rfl | (simp; done) | (simp; omega)) (.tmp rfl rfl) (by intro q hq; obtain ⟨b, _, rfl⟩ := List.mem_map.1 hq; rfl) rfl (by simp only [List.length_map]; omega) (by simp only [maxLen, List.length_map]; omega)) ?_
  refine RK.c (S.assign .none rfl (.tmp rfl rfl)) ?_
  refine RK.nil ?_
  refine Ab.D.code ?_
  refine OK.ret (Ret.r1 (.tmp rfl rfl (.c (.own rfl rfl (by first | rfl | (simp; done) | (simp; omega))) rfl) rfl) ?_)
  rfl

theorem ref_CopyEnvelope {x : Envelope} (hlen : x.rows.length ≤ 100000) (hvl : ∀ (i : Nat) (h : i < x.rows.length), x.rows[i].length ≤ 100000) : Ct Tryz.prog 22 [.agg x.cs] (.agg x.cs) := by
  refine Ct.intro (rs := [.cell 2 33]) Tryz.func22 rfl Tryz.ntmps22 Tryz.results22 rfl rfl rfl fun w h => ?_
  refine OK.seq ?_
  refine OK.reg ?_
  refine RK.c (S.box (k := 1) rfl .none rfl (.tmp rfl rfl) rfl) ?_
  refine RK.c (S.alloc (k := 2) ze33 rfl .none rfl) ?_
  refine RK.nil ?_
  refine Ab.D.code ?_
  refine OK.seq ?_
  refine OK.reg ?_
  refine RK.c (S.bfield fi33_0 .none rfl (.tmp rfl rfl)) ?_
  refine RK.c (S.bload1 ti3 .none rfl (.tmp rfl rfl) rfl rfl rfl rfl) ?_
  refine RK.c (S.bfield fi33_1 .none rfl (.tmp rfl rfl)) ?_
  refine RK.c (S.bload1 ti3 .none rfl (.tmp rfl rfl) rfl rfl rfl rfl) ?_
  refine RK.c (S.build bu33 rfl .none rfl (.cons (.tmp rfl rfl) (.cons (.tmp rfl rfl) .nil)) rfl rfl) ?_
  refine RK.c (S.alloc (k := 3) ze33 rfl .none rfl) ?_
  refine RK.c (S.store ti33 .none (.tmp rfl rfl) (.tmp rfl rfl) rfl rfl rfl rfl rfl rfl) ?_
  refine RK.nil ?_
  refine Ab.D.code ?_
  refine OK.seq ?_
  refine OK.seq ?_
  refine OK.reg ?_
  refine RK.c (S.assign .none rfl (.cint rfl)) ?_
  refine RK.nil ?_
  refine Ab.D.code ?_
  refine OK.block ?_
  refine OK.boxOwn 3 2 890 1 rfl rfl rfl rfl rfl ?_
  refine OK.loop (G := Nat) [1, 2, 3, 890] (fun i => [(1, .ptr 1 0), (1001, .box x.cs), (2, .ptr 2 0), (1002, .box [.int .i64 0, .int .i64 0, .nils]), (3, .ptr 3 0), (1003, .box [.int .i64 x.parts, .int .i64 x.trim, .own 890 i]), (2890, .arr 1 ((x.rows.take i).map (fun l => [X.sl (l.map Range.cs)]))), (4, .int .i64 i)]) (fun i => i ≤ x.rows.length) (fun i => x.rows.length - i) 0 (Nat.zero_le _) ⟨rfl, rfl, rfl, rfl, rfl, rfl, (lk_arr (by first | rfl | (simp; done) | (simp; omega))), rfl, trivial⟩ (fun _ => rfl) ?_
  rintro i hi
  refine OK.seq ?_
  refine OK.seq ?_
  refine OK.reg ?_
  refine RK.c (S.move .none rfl (.tmp rfl rfl)) ?_
  refine RK.c (S.bfield fi33_2 .none rfl (.tmp rfl rfl)) ?_
  refine RK.c (S.bload1 ti31 .none rfl (.tmp rfl rfl) rfl rfl rfl rfl) ?_
  refine RK.c (S.lenM si31 .none rfl (.tmp rfl rfl)) ?_
  refine RK.c (S.lss .none rfl (.tmp rfl rfl) (.tmp rfl rfl)) ?_
  refine RK.nil ?_
  refine Ab.D.code ?_
  refine OK.condD rfl rfl (fun c14 => ?_) (fun c14 => ?_)
  ·
    have hvli := hvl i (by omega)
    refine OK.skip ?_
    refine Ab.D.code ?_
    refine OK.seq ?_
    refine OK.block ?_
    refine OK.regionDraw follows (.c (S.bfield fi33_2 .none rfl (.tmp rfl rfl))
      (.c (S.bload1 ti31 .none rfl (.tmp rfl rfl) rfl rfl rfl rfl)
      (.c (S.bfield fi33_2 .none rfl (.tmp rfl rfl))
      (.c (S.bload1 ti31 .none rfl (.tmp rfl rfl) rfl rfl rfl rfl)
      (.c (S.move .none rfl (.tmp rfl rfl))
      (.c (S.indexM si31 .none rfl (.tmp rfl rfl) (.tmp rfl rfl) rfl (by omega) rfl)
      (.c (S.load1 ti55 .none rfl (.tmp rfl rfl) rfl)
      (.c (S.call (base_CopyRanges (l := x.rows[i]) hvli) Tryz.call70 .none rfl (.cons (.tmp rfl rfl) .nil) rfl)
      (.c (S.mkSlice (k := 25) (rows := [[_]]) ai31 .none rfl (.cons (.tmp rfl rfl) .nil) rfl rfl rfl rfl rfl rfl rfl)
      (.c (S.append ai31 .none rfl (.tmp rfl rfl) rfl (by first | (simp; done) | (simp; omega)) (.tmp rfl rfl) rfl (by first | rfl | (simp; done) | (simp; omega)) (by omega) (by simp only [maxLen]; omega))
      (.c (S.bfield fi33_2 .none rfl (.tmp rfl rfl))
      (.c (S.store ti31 .none (.tmp rfl rfl) (.tmp rfl rfl) rfl rfl rfl rfl rfl rfl)
      .nil)))))))))))) (by kernel_rfl) ?_
    refine Ab.D.blk ?_
    refine Ab.D.code ?_
    refine OK.reg ?_
    refine RK.c (S.move .none rfl (.tmp rfl rfl)) ?_
    refine RK.c (S.add .none rfl (.tmp rfl rfl) (.cint rfl) (IntWalk.i64_in _ (by omega)) (IntWalk.i64_in _ (by omega))) ?_
    refine RK.c (S.assign .none rfl (.tmp rfl rfl)) ?_
    refine RK.nil ?_
    refine Ab.D.lp ⟨i + 1, (by omega), (by omega), rfl, rfl, rfl, rfl, rfl, rfl, (lk_arr (by rw [← take_snoc (by omega)]; simp only [List.map_append, List.map_cons, List.map_nil])), rfl, trivial⟩
  ·
    refine OK.exit rfl ?_
    refine Ab.D.code ?_
    refine OK.seq ?_
    refine OK.reg ?_
    refine RK.c (S.bloadN ti33 .none rfl (.tmp rfl rfl) rfl rfl rfl rfl) ?_
    refine RK.c (S.store ti33 .none (.tmp rfl rfl) (.tmp rfl rfl) rfl rfl rfl rfl rfl rfl) ?_
    refine RK.nil ?_
    refine Ab.D.code ?_
    refine OK.ret (Ret.r1 (.cellN rfl rfl rfl rfl ti33 rfl (.k (.same rfl) (.k (.same rfl) (.k (.own rfl rfl (by first | rfl | (simp; done) | (simp; omega))) .z)))) ?_)
    rw [show i = x.rows.length by omega, List.take_length]
    rfl

theorem law_shortEnvelope {x : Envelope} : Ct Tryz.prog 25 [.agg x.cs] (.bool (shortEnvT x)) := by
  refine Ct.intro (rs := [.tmp 2]) Tryz.func25 rfl Tryz.ntmps25 Tryz.results25 rfl rfl rfl fun w h => ?_
  refine OK.seq ?_
  refine OK.reg ?_
  refine RK.c (S.box (k := 1) rfl .none rfl (.tmp rfl rfl) rfl) ?_
  refine RK.c (S.assign .none rfl .cbool) ?_
  refine RK.nil ?_
  refine Ab.D.code ?_
  refine OK.seq ?_
  refine OK.seq ?_
  refine OK.reg ?_
  refine RK.c (S.bfield fi33_2 .none rfl (.tmp rfl rfl)) ?_
  refine RK.c (S.bload1 ti31 .none rfl (.tmp rfl rfl) rfl rfl rfl rfl) ?_
  refine RK.c (S.lenM si31 .none rfl (.tmp rfl rfl)) ?_
  refine RK.c (S.gtr .none rfl (.tmp rfl rfl) (.cint rfl)) ?_
  refine RK.nil ?_
  refine Ab.D.code ?_
  refine OK.condD rfl rfl (fun c7 => ?_) (fun c7 => ?_)
  ·
    refine OK.seq ?_
    refine OK.reg ?_
    refine RK.c (S.assign .none rfl .cbool) ?_
    refine RK.nil ?_
    refine Ab.D.code ?_
    refine OK.ret (Ret.r1 (.tmp rfl rfl (.c (.same rfl) rfl) rfl) ?_)
    refine ret_b ?_
    rw [shortEnvT, decide_eq_false (by omega), Bool.false_and]
  ·
    refine OK.skip ?_
    refine Ab.D.code ?_
    refine OK.seq ?_
    refine OK.seq ?_
    refine OK.reg ?_
    refine RK.c (S.assign .none rfl (.cint rfl)) ?_
    refine RK.nil ?_
    refine Ab.D.code ?_
    refine OK.block ?_
    refine OK.loop (G := Nat) [1] (fun i => [(1, .ptr 1 0), (1001, .box x.cs), (3, .int .i64 i)]) (fun i => i ≤ x.rows.length ∧ (x.rows.all fun l => decide (l.length ≤ 6)) = (x.rows.drop i).all fun l => decide (l.length ≤ 6)) (fun i => x.rows.length - i) 0 ⟨Nat.zero_le _, rfl⟩ ⟨rfl, rfl, rfl, trivial⟩ (fun _ => rfl) ?_
    rintro i ⟨hi, hg⟩
    refine OK.seq ?_
    refine OK.seq ?_
    refine OK.reg ?_
    refine RK.c (S.move .none rfl (.tmp rfl rfl)) ?_
    refine RK.c (S.bfield fi33_2 .none rfl (.tmp rfl rfl)) ?_
    refine RK.c (S.bload1 ti31 .none rfl (.tmp rfl rfl) rfl rfl rfl rfl) ?_
    refine RK.c (S.lenM si31 .none rfl (.tmp rfl rfl)) ?_
    refine RK.c (S.lss .none rfl (.tmp rfl rfl) (.tmp rfl rfl)) ?_
    refine RK.nil ?_
    refine Ab.D.code ?_
    refine OK.condD rfl rfl (fun c12 => ?_) (fun c12 => ?_)
    ·
      refine OK.skip ?_
      refine Ab.D.code ?_
      refine OK.seq ?_
      refine OK.block ?_
      refine OK.seq ?_
      refine OK.reg ?_
      refine RK.c (S.bfield fi33_2 .none rfl (.tmp rfl rfl)) ?_
      refine RK.c (S.bload1 ti31 .none rfl (.tmp rfl rfl) rfl rfl rfl rfl) ?_
      refine RK.c (S.move .none rfl (.tmp rfl rfl)) ?_
      refine RK.c (S.indexM si31 .none rfl (.tmp rfl rfl) (.tmp rfl rfl) rfl (by omega) rfl) ?_
      refine RK.c (S.load1 ti55 .none rfl (.tmp rfl rfl) rfl) ?_
      refine RK.c (S.lenM si55 .none rfl (.tmp rfl rfl)) ?_
      refine RK.c (S.gtr .none rfl (.tmp rfl rfl) (.cint rfl)) ?_
      refine RK.nil ?_
      refine Ab.D.code ?_
      refine OK.condD rfl rfl (fun c21 => ?_) (fun c21 => ?_)
      ·
        refine OK.seq ?_
        refine OK.reg ?_
        refine RK.c (S.assign .none rfl .cbool) ?_
        refine RK.nil ?_
        refine Ab.D.code ?_
        refine OK.ret (Ret.r1 (.tmp rfl rfl (.c (.same rfl) rfl) rfl) ?_)
        refine ret_b ?_
        rw [shortEnvT, hg, all_drop _ (by omega), decide_eq_false (p := x.rows[i].length ≤ 6) (by omega), Bool.false_and, Bool.and_false]
      ·
        refine OK.skip ?_
        refine Ab.D.blk ?_
        refine Ab.D.code ?_
        refine OK.reg ?_
        refine RK.c (S.move .none rfl (.tmp rfl rfl)) ?_
        refine RK.c (S.add .none rfl (.tmp rfl rfl) (.cint rfl) (IntWalk.i64_in _ (by omega)) (IntWalk.i64_in _ (by omega))) ?_
        refine RK.c (S.assign .none rfl (.tmp rfl rfl)) ?_
        refine RK.nil ?_
        refine Ab.D.lp ⟨i + 1, ⟨by omega, ?_⟩, (by omega), rfl, rfl, rfl, trivial⟩
        rw [hg, all_drop _ (by omega), decide_eq_true (p := x.rows[i].length ≤ 6) (by omega), Bool.true_and]
    ·
      refine OK.exit rfl ?_
      refine Ab.D.code ?_
      refine OK.seq ?_
      refine OK.reg ?_
      refine RK.c (S.assign .none rfl .cbool) ?_
      refine RK.nil ?_
      refine Ab.D.code ?_
      refine OK.ret (Ret.r1 (.tmp rfl rfl (.c (.same rfl) rfl) rfl) ?_)
      refine ret_b ?_
      rw [shortEnvT, hg, show i = x.rows.length by omega, List.drop_length, decide_eq_true (by omega)]
      rfl

theorem ref_Deviations {x : Envelope} {r : Record} (hf : FitT x r) (hrl : r.rows.length ≤ 100000) (hvl : ∀ (i : Nat) (h : i < r.rows.length), r.rows[i].values.length ≤ 100000) (ho : OrdT x) (hD : (devT x r).length ≤ 100000) : Ct Tryz.prog 32 [.agg x.cs, .agg r.cs] (devs (devT x r)) := by
  refine Ct.intro (rs := [.tmp 4]) Tryz.func32 rfl Tryz.ntmps32 Tryz.results32 rfl rfl rfl fun w h => ?_
  refine OK.seq ?_
  refine OK.reg ?_
  refine RK.c (S.box (k := 2) rfl .none rfl (.tmp rfl rfl) rfl) ?_
  refine RK.c (S.box (k := 3) rfl .none rfl (.tmp rfl rfl) rfl) ?_
  refine RK.c (S.assign .none rfl .cnil) ?_
  refine RK.nil ?_
  refine Ab.D.code ?_
  refine OK.seq ?_
  refine OK.reg ?_
  refine RK.c (S.nilOwn (k := 5) (sz := 3) .none rfl) ?_
  refine RK.nil ?_
  refine Ab.D.code ?_
  refine OK.seq ?_
  refine OK.seq ?_
  refine OK.reg ?_
  refine RK.c (S.assign .none rfl (.cint rfl)) ?_
  refine RK.nil ?_
  refine Ab.D.code ?_
  refine OK.block ?_
  refine OK.loop2 [2, 3, 5] (fun (i : Nat) (out : List Deviation) => [(2, .ptr 2 0), (1002, .box x.cs), (3, .ptr 3 0), (1003, .box r.cs), (5, .own 5 out.length), (2005, .arr 3 (out.map Deviation.cs)), (6, .int .i64 i)]) (fun i out => i ≤ r.rows.length ∧ devT x r = out ++ devGo x i (r.rows.drop i)) (fun i out => r.rows.length - i) (0) ([]) ⟨Nat.zero_le _, rfl⟩ ⟨rfl, rfl, rfl, rfl, (lk_own (by first | rfl | (simp; done) | (simp; omega))), (lk_arr (by first | rfl | (simp; done) | (simp; omega))), rfl, trivial⟩ (fun _ _ => rfl) ?_
  rintro i out ⟨hi, hg⟩
  refine OK.seq ?_
  refine OK.seq ?_
  refine OK.reg ?_
  refine RK.c (S.move .none rfl (.tmp rfl rfl)) ?_
  refine RK.c (S.bfield fi51_0 .none rfl (.tmp rfl rfl)) ?_
  refine RK.c (S.bload1 ti49 .none rfl (.tmp rfl rfl) rfl rfl rfl rfl) ?_
  refine RK.c (S.lenM si49 .none rfl (.tmp rfl rfl)) ?_
  refine RK.c (S.lss .none rfl (.tmp rfl rfl) (.tmp rfl rfl)) ?_
  refine RK.nil ?_
  refine Ab.D.code ?_
  refine OK.condD rfl rfl (fun c14 => ?_) (fun c14 => ?_)
  ·
    refine OK.skip ?_
    refine Ab.D.code ?_
    refine OK.seq ?_
    refine OK.block ?_
    refine OK.seq ?_
    refine OK.reg ?_
    refine RK.c (S.assign .none rfl (.cint rfl)) ?_
    refine RK.nil ?_
    refine Ab.D.code ?_
    refine OK.block ?_
    refine OK.loop2 [2, 3, 5] (fun (j : Nat) (out2 : List Deviation) => [(2, .ptr 2 0), (1002, .box x.cs), (3, .ptr 3 0), (1003, .box r.cs), (5, .own 5 out2.length), (2005, .arr 3 (out2.map Deviation.cs)), (6, .int .i64 i), (7, .int .i64 j)]) (fun j out2 => j ≤ r.rows[i].values.length ∧ devT x r = out2 ++ (devRow i (x.rows.getD i []) j (r.rows[i].values.drop j) ++ devGo x (i + 1) (r.rows.drop (i + 1)))) (fun j out2 => r.rows[i].values.length - j) (0) (out) ⟨Nat.zero_le _, by rw [hg, devGo_drop (by omega)]; rfl⟩ ⟨rfl, rfl, rfl, rfl, (lk_own (by first | rfl | (simp; done) | (simp; omega))), (lk_arr (by first | rfl | (simp; done) | (simp; omega))), rfl, rfl, trivial⟩ (fun _ _ => rfl) ?_
    rintro j out2 ⟨hj, hg2⟩
    refine OK.seq ?_
    refine OK.seq ?_
    refine OK.reg ?_
    refine RK.c (S.move .none rfl (.tmp rfl rfl)) ?_
    refine RK.c (S.bfield fi51_0 .none rfl (.tmp rfl rfl)) ?_
    refine RK.c (S.bload1 ti49 .none rfl (.tmp rfl rfl) rfl rfl rfl rfl) ?_
    refine RK.c (S.move .none rfl (.tmp rfl rfl)) ?_
    refine RK.c (S.indexM si49 .none rfl (.tmp rfl rfl) (.tmp rfl rfl) rfl (by omega) rfl) ?_
    refine RK.c (S.field fi59_1 .none rfl (.tmp rfl rfl) rfl) ?_
    refine RK.c (S.load1 ti57 .none rfl (.tmp rfl rfl) rfl) ?_
    refine RK.c (S.lenM si57 .none rfl (.tmp rfl rfl)) ?_
    refine RK.c (S.lss .none rfl (.tmp rfl rfl) (.tmp rfl rfl)) ?_
    refine RK.nil ?_
    refine Ab.D.code ?_
    refine OK.condD rfl rfl (fun c25 => ?_) (fun c25 => ?_)
    ·
      have hx := hf.rows i (by omega)
      have hxc := hf.cols i (by omega) hx j (by omega)
      have hval := hf.val i (by omega) j (by omega)
      have hrng := hf.rng i hx j hxc
      have hord := ho i hx j hxc
      have hol := out_len hg2 hD
      have hvli := hvl i (by omega)
      refine OK.skip ?_
      refine Ab.D.code ?_
      refine OK.seq ?_
      refine OK.block ?_
      refine OK.seq ?_
      refine OK.regionDraw follows (.c (S.bfield fi51_0 .none rfl (.tmp rfl rfl))
        (.c (S.bload1 ti49 .none rfl (.tmp rfl rfl) rfl rfl rfl rfl)
        (.c (S.move .none rfl (.tmp rfl rfl))
        (.c (S.indexM si49 .none rfl (.tmp rfl rfl) (.tmp rfl rfl) rfl (by omega) rfl)
        (.c (S.field fi59_1 .none rfl (.tmp rfl rfl) rfl)
        (.c (S.load1 ti57 .none rfl (.tmp rfl rfl) rfl)
        (.c (S.move .none rfl (.tmp rfl rfl))
        (.c (S.indexM si57 .none rfl (.tmp rfl rfl) (.tmp rfl rfl) rfl (by omega) rfl)
        (.c (S.load1 ti3 .none rfl (.tmp rfl rfl) rfl)
        (.c (S.bfield fi33_2 .none rfl (.tmp rfl rfl))
        (.c (S.bload1 ti31 .none rfl (.tmp rfl rfl) rfl rfl rfl rfl)
        (.c (S.move .none rfl (.tmp rfl rfl))
        (.c (S.indexM si31 .none rfl (.tmp rfl rfl) (.tmp rfl rfl) rfl hx rfl)
        (.c (S.load1 ti55 .none rfl (.tmp rfl rfl) rfl)
        (.c (S.move .none rfl (.tmp rfl rfl))
        (.c (S.indexM si55 .none rfl (.tmp rfl rfl) (.tmp rfl rfl) rfl hxc rfl)
        (.c (S.loadN ti54 .none rfl (.tmp rfl rfl) rfl rfl)
        (.c (S.alloc (k := 9) ze54 rfl .none rfl)
        (.c (S.assign .none rfl (.tmp rfl rfl))
        (.c (S.store ti54 .none (.tmp rfl rfl) (.tmp rfl rfl) rfl rfl rfl rfl rfl rfl)
        .nil)))))))))))))))))))) (by kernel_rfl) ?_
      refine Ab.D.code ?_
      refine OK.seq ?_
      refine OK.seq ?_
      refine OK.reg ?_
      refine RK.c (S.move .none rfl (.tmp rfl rfl)) ?_
      refine RK.c (S.bfield fi54_1 .none rfl (.tmp rfl rfl)) ?_
      refine RK.c (S.bload1 ti3 .none rfl (.tmp rfl rfl) rfl rfl rfl rfl) ?_
      refine RK.c (S.gtr .none rfl (.tmp rfl rfl) (.tmp rfl rfl)) ?_
      refine RK.nil ?_
      refine Ab.D.code ?_
      refine OK.condD rfl rfl (fun c48 => ?_) (fun c48 => ?_)
      ·
        refine OK.reg ?_
        refine RK.c (S.move .none rfl (.tmp rfl rfl)) ?_
        refine RK.c (S.move .none rfl (.tmp rfl rfl)) ?_
        refine RK.c (S.move .none rfl (.tmp rfl rfl)) ?_
        refine RK.c (S.move .none rfl (.tmp rfl rfl)) ?_
        refine RK.c (S.bfield fi54_1 .none rfl (.tmp rfl rfl)) ?_
        refine RK.c (S.bload1 ti3 .none rfl (.tmp rfl rfl) rfl rfl rfl rfl) ?_
        refine RK.c (S.sub .none rfl (.tmp rfl rfl) (.tmp rfl rfl) (IntWalk.i64_in _ (by omega)) (IntWalk.i64_in _ (by omega))) ?_
        refine RK.c (S.build bu115 rfl .none rfl (.cons (.tmp rfl rfl) (.cons (.tmp rfl rfl) (.cons (.tmp rfl rfl) .nil))) rfl rfl) ?_
        refine RK.c (S.mkSlice (k := 57) (rows := [[_, _, _]]) ai63 .none rfl (.cons (.tmp rfl rfl) .nil) rfl rfl rfl rfl rfl rfl rfl) ?_
        refine RK.c (S.append ai63 .none rfl (.tmp rfl rfl) rfl (by simp) (.tmp rfl rfl) rfl (by first | rfl | (simp; done) | (simp; omega)) (by omega) (by simp only [maxLen]; omega)) ?_
        refine RK.c (S.assign .none rfl (.tmp rfl rfl)) ?_
        refine RK.nil ?_
        refine Ab.D.code ?_
        refine OK.seq ?_
        refine OK.reg ?_
        refine RK.c (S.move .none rfl (.tmp rfl rfl)) ?_
        refine RK.c (S.bfield fi54_0 .none rfl (.tmp rfl rfl)) ?_
        refine RK.c (S.bload1 ti3 .none rfl (.tmp rfl rfl) rfl rfl rfl rfl) ?_
        refine RK.c (S.lss .none rfl (.tmp rfl rfl) (.tmp rfl rfl)) ?_
        refine RK.nil ?_
        refine Ab.D.code ?_
        refine OK.condD rfl rfl (fun c62 => ?_) (fun c62 => ?_)
        ·
          refine OK.reg ?_
          refine RK.c (S.move .none rfl (.tmp rfl rfl)) ?_
          refine RK.c (S.move .none rfl (.tmp rfl rfl)) ?_
          refine RK.c (S.move .none rfl (.tmp rfl rfl)) ?_
          refine RK.c (S.move .none rfl (.tmp rfl rfl)) ?_
          refine RK.c (S.bfield fi54_0 .none rfl (.tmp rfl rfl)) ?_
          refine RK.c (S.bload1 ti3 .none rfl (.tmp rfl rfl) rfl rfl rfl rfl) ?_
          refine RK.c (S.sub .none rfl (.tmp rfl rfl) (.tmp rfl rfl) (IntWalk.i64_in _ (by omega)) (IntWalk.i64_in _ (by omega))) ?_
          refine RK.c (S.build bu115 rfl .none rfl (.cons (.tmp rfl rfl) (.cons (.tmp rfl rfl) (.cons (.tmp rfl rfl) .nil))) rfl rfl) ?_
          refine RK.c (S.mkSlice (k := 71) (rows := [[_, _, _]]) ai63 .none rfl (.cons (.tmp rfl rfl) .nil) rfl rfl rfl rfl rfl rfl rfl) ?_
          refine RK.c (S.append ai63 .none rfl (.tmp rfl rfl) rfl (by simp) (.tmp rfl rfl) rfl (by first | rfl | (simp; done) | (simp; omega)) (by first | omega | (simp; omega)) (by simp only [maxLen]; omega)) ?_
          refine RK.c (S.assign .none rfl (.tmp rfl rfl)) ?_
          refine RK.nil ?_
          refine Ab.D.blk ?_
          refine Ab.D.code ?_
          refine OK.reg ?_
          refine RK.c (S.move .none rfl (.tmp rfl rfl)) ?_
          refine RK.c (S.add .none rfl (.tmp rfl rfl) (.cint rfl) (IntWalk.i64_in _ (by omega)) (IntWalk.i64_in _ (by omega))) ?_
          refine RK.c (S.assign .none rfl (.tmp rfl rfl)) ?_
          refine RK.nil ?_
          refine Ab.D.lp ⟨j + 1, out2 ++ [⟨i, j, r.rows[i].values[j] - x.rows[i][j].hi⟩] ++ [⟨i, j, r.rows[i].values[j] - x.rows[i][j].lo⟩], ⟨by omega, ?_⟩, (by omega), rfl, rfl, rfl, rfl, (lk_own (by first | rfl | (simp; done) | (simp; omega))), (lk_arr (by first | rfl | (rw [List.map_append]; rfl) | (rw [List.map_append, List.map_append]; rfl))), rfl, rfl, trivial⟩
          exfalso
          omega
        ·
          refine OK.skip ?_
          refine Ab.D.blk ?_
          refine Ab.D.code ?_
          refine OK.reg ?_
          refine RK.c (S.move .none rfl (.tmp rfl rfl)) ?_
          refine RK.c (S.add .none rfl (.tmp rfl rfl) (.cint rfl) (IntWalk.i64_in _ (by omega)) (IntWalk.i64_in _ (by omega))) ?_
          refine RK.c (S.assign .none rfl (.tmp rfl rfl)) ?_
          refine RK.nil ?_
          refine Ab.D.lp ⟨j + 1, out2 ++ [⟨i, j, r.rows[i].values[j] - x.rows[i][j].hi⟩], ⟨by omega, ?_⟩, (by omega), rfl, rfl, rfl, rfl, (lk_own (by first | rfl | (simp; done) | (simp; omega))), (lk_arr (by first | rfl | (rw [List.map_append]; rfl) | (rw [List.map_append, List.map_append]; rfl))), rfl, rfl, trivial⟩
          rw [devRow_drop (by omega), getD_at hx, dev_hi hxc hord c48] at hg2
          rw [getD_at hx]
          exact dev_app hg2
      ·
        refine OK.skip ?_
        refine Ab.D.code ?_
        refine OK.seq ?_
        refine OK.reg ?_
        refine RK.c (S.move .none rfl (.tmp rfl rfl)) ?_
        refine RK.c (S.bfield fi54_0 .none rfl (.tmp rfl rfl)) ?_
        refine RK.c (S.bload1 ti3 .none rfl (.tmp rfl rfl) rfl rfl rfl rfl) ?_
        refine RK.c (S.lss .none rfl (.tmp rfl rfl) (.tmp rfl rfl)) ?_
        refine RK.nil ?_
        refine Ab.D.code ?_
        refine OK.condD rfl rfl (fun c62 => ?_) (fun c62 => ?_)
        ·
          refine OK.reg ?_
          refine RK.c (S.move .none rfl (.tmp rfl rfl)) ?_
          refine RK.c (S.move .none rfl (.tmp rfl rfl)) ?_
          refine RK.c (S.move .none rfl (.tmp rfl rfl)) ?_
          refine RK.c (S.move .none rfl (.tmp rfl rfl)) ?_
          refine RK.c (S.bfield fi54_0 .none rfl (.tmp rfl rfl)) ?_
          refine RK.c (S.bload1 ti3 .none rfl (.tmp rfl rfl) rfl rfl rfl rfl) ?_
          refine RK.c (S.sub .none rfl (.tmp rfl rfl) (.tmp rfl rfl) (IntWalk.i64_in _ (by omega)) (IntWalk.i64_in _ (by omega))) ?_
          refine RK.c (S.build bu115 rfl .none rfl (.cons (.tmp rfl rfl) (.cons (.tmp rfl rfl) (.cons (.tmp rfl rfl) .nil))) rfl rfl) ?_
          refine RK.c (S.mkSlice (k := 71) (rows := [[_, _, _]]) ai63 .none rfl (.cons (.tmp rfl rfl) .nil) rfl rfl rfl rfl rfl rfl rfl) ?_
          refine RK.c (S.append ai63 .none rfl (.tmp rfl rfl) rfl (by simp) (.tmp rfl rfl) rfl (by first | rfl | (simp; done) | (simp; omega)) (by first | omega | (simp; omega)) (by simp only [maxLen]; omega)) ?_
          refine RK.c (S.assign .none rfl (.tmp rfl rfl)) ?_
          refine RK.nil ?_
          refine Ab.D.blk ?_
          refine Ab.D.code ?_
          refine OK.reg ?_
          refine RK.c (S.move .none rfl (.tmp rfl rfl)) ?_
          refine RK.c (S.add .none rfl (.tmp rfl rfl) (.cint rfl) (IntWalk.i64_in _ (by omega)) (IntWalk.i64_in _ (by omega))) ?_
          refine RK.c (S.assign .none rfl (.tmp rfl rfl)) ?_
          refine RK.nil ?_
          refine Ab.D.lp ⟨j + 1, out2 ++ [⟨i, j, r.rows[i].values[j] - x.rows[i][j].lo⟩], ⟨by omega, ?_⟩, (by omega), rfl, rfl, rfl, rfl, (lk_own (by first | rfl | (simp; done) | (simp; omega))), (lk_arr (by first | rfl | (rw [List.map_append]; rfl) | (rw [List.map_append, List.map_append]; rfl))), rfl, rfl, trivial⟩
          rw [devRow_drop (by omega), getD_at hx, dev_lo hxc hord c62] at hg2
          rw [getD_at hx]
          exact dev_app hg2
        ·
          refine OK.skip ?_
          refine Ab.D.blk ?_
          refine Ab.D.code ?_
          refine OK.reg ?_
          refine RK.c (S.move .none rfl (.tmp rfl rfl)) ?_
          refine RK.c (S.add .none rfl (.tmp rfl rfl) (.cint rfl) (IntWalk.i64_in _ (by omega)) (IntWalk.i64_in _ (by omega))) ?_
          refine RK.c (S.assign .none rfl (.tmp rfl rfl)) ?_
          refine RK.nil ?_
          refine Ab.D.lp ⟨j + 1, out2, ⟨by omega, ?_⟩, (by omega), rfl, rfl, rfl, rfl, (lk_own (by first | rfl | (simp; done) | (simp; omega))), (lk_arr (by first | rfl | (rw [List.map_append]; rfl) | (rw [List.map_append, List.map_append]; rfl))), rfl, rfl, trivial⟩
          rw [devRow_drop (by omega), getD_at hx, dev_in hxc c48 c62] at hg2
          rw [getD_at hx]
          exact hg2
    ·
      refine OK.exit rfl ?_
      refine Ab.D.blk ?_
      refine Ab.D.code ?_
      refine OK.reg ?_
      refine RK.c (S.move .none rfl (.tmp rfl rfl)) ?_
      refine RK.c (S.add .none rfl (.tmp rfl rfl) (.cint rfl) (IntWalk.i64_in _ (by omega)) (IntWalk.i64_in _ (by omega))) ?_
      refine RK.c (S.assign .none rfl (.tmp rfl rfl)) ?_
      refine RK.nil ?_
      refine Ab.D.lp ⟨i + 1, out2, ⟨by omega, ?_⟩, (by omega), rfl, rfl, rfl, rfl, (lk_own (by first | rfl | (simp; done) | (simp; omega))), (lk_arr (by first | rfl | (simp; done) | (simp; omega))), rfl, trivial⟩
      rw [hg2, show j = r.rows[i].values.length by omega, List.drop_length]
      rfl
  ·
    refine OK.exit rfl ?_
    refine Ab.D.code ?_
    refine OK.seq ?_
    refine OK.reg ?_
    refine RK.c (S.move .none rfl (.tmp rfl rfl)) ?_
    refine RK.c (S.assign .none rfl (.tmp rfl rfl)) ?_
    refine RK.nil ?_
    refine Ab.D.code ?_
    refine OK.ret (Ret.r1 (.tmp rfl rfl (.c (.own rfl rfl (by first | rfl | (simp; done) | (simp; omega))) rfl) rfl) ?_)
    rw [hg, show i = r.rows.length by omega, List.drop_length, devGo, List.append_nil]
    rfl

theorem ref_Verdict {x : Envelope} {r : Record} (hf : FitT x r) (hrl : r.rows.length ≤ 100000) (hvl : ∀ (i : Nat) (h : i < r.rows.length), r.rows[i].values.length ≤ 100000) (ho : OrdT x) (hD : (devT x r).length ≤ 100000) : Ct Tryz.prog 33 [.agg x.cs, .agg r.cs] (.int .i64 (verdT x r)) := by
  refine Ct.intro (rs := [.tmp 4]) Tryz.func33 rfl Tryz.ntmps33 Tryz.results33 rfl rfl rfl fun w h => ?_
  refine OK.seq ?_
  refine OK.reg ?_
  refine RK.c (S.box (k := 2) rfl .none rfl (.tmp rfl rfl) rfl) ?_
  refine RK.c (S.box (k := 3) rfl .none rfl (.tmp rfl rfl) rfl) ?_
  refine RK.c (S.assign .none rfl (.cint rfl)) ?_
  refine RK.nil ?_
  refine Ab.D.code ?_
  refine OK.seq ?_
  refine OK.block ?_
  refine OK.seq ?_
  refine OK.reg ?_
  refine RK.c (S.bloadN ti33 .none rfl (.tmp rfl rfl) rfl rfl rfl rfl) ?_
  refine RK.c (S.bloadN ti51 .none rfl (.tmp rfl rfl) rfl rfl rfl rfl) ?_
  refine RK.c (S.call (ref_Deviations hf hrl hvl ho hD) Tryz.call32 .none rfl (.cons (.tmp rfl rfl) (.cons (.tmp rfl rfl) .nil)) rfl) ?_
  refine RK.c (S.lenM si63 .none rfl (.tmp rfl rfl)) ?_
  refine RK.c (S.gtr .none rfl (.tmp rfl rfl) (.cint rfl)) ?_
  refine RK.c (S.assign .none rfl (.tmp rfl rfl)) ?_
  refine RK.nil ?_
  refine Ab.D.code ?_
  refine OK.condD rfl rfl (fun c5 => ?_) (fun c5 => ?_)
  ·
    refine OK.seq ?_
    refine OK.reg ?_
    refine RK.c (S.assign .none rfl (.cint rfl)) ?_
    refine RK.nil ?_
    refine Ab.D.code ?_
    refine OK.ret (Ret.r1 (.tmp rfl rfl (.c (.same rfl) rfl) rfl) ?_)
    refine ret_i ?_
    rw [verdT, if_pos (by omega)]
  ·
    refine OK.seq ?_
    refine OK.reg ?_
    refine RK.c (S.bloadN ti51 .none rfl (.tmp rfl rfl) rfl rfl rfl rfl) ?_
    refine RK.c (S.call (ref_Lost (by omega)) Tryz.call64 .none rfl (.cons (.tmp rfl rfl) .nil) rfl) ?_
    refine RK.c (S.lenM si57 .none rfl (.tmp rfl rfl)) ?_
    refine RK.c (S.gtr .none rfl (.tmp rfl rfl) (.cint rfl)) ?_
    refine RK.c (S.assign .none rfl (.tmp rfl rfl)) ?_
    refine RK.nil ?_
    refine Ab.D.code ?_
    refine OK.condD rfl rfl (fun c11 => ?_) (fun c11 => ?_)
    ·
      refine OK.seq ?_
      refine OK.reg ?_
      refine RK.c (S.assign .none rfl (.cint rfl)) ?_
      refine RK.nil ?_
      refine Ab.D.code ?_
      refine OK.ret (Ret.r1 (.tmp rfl rfl (.c (.same rfl) rfl) rfl) ?_)
      refine ret_i ?_
      rw [verdT, if_neg (by omega), if_pos (by omega)]
    ·
      refine OK.skip ?_
      refine Ab.D.blk ?_
      refine Ab.D.code ?_
      refine OK.seq ?_
      refine OK.reg ?_
      refine RK.c (S.assign .none rfl (.cint rfl)) ?_
      refine RK.nil ?_
      refine Ab.D.code ?_
      refine OK.ret (Ret.r1 (.tmp rfl rfl (.c (.same rfl) rfl) rfl) ?_)
      refine ret_i ?_
      rw [verdT, if_neg (by omega), if_neg (by omega)]

theorem law_MonitorVerdicts {p : Plan} {x : Envelope} {r : Record} : Ct Tryz.prog 5 [.agg p.cs, .agg x.cs, .agg r.cs] (.bool true) := by
  refine Ct.intro (rs := [.tmp 6]) Tryz.func5 rfl Tryz.ntmps5 Tryz.results5 rfl rfl rfl fun w h => ?_
  refine OK.seq ?_
  refine OK.reg ?_
  refine RK.c (S.box (k := 3) rfl .none rfl (.tmp rfl rfl) rfl) ?_
  refine RK.c (S.box (k := 4) rfl .none rfl (.tmp rfl rfl) rfl) ?_
  refine RK.c (S.box (k := 5) rfl .none rfl (.tmp rfl rfl) rfl) ?_
  refine RK.c (S.assign .none rfl .cbool) ?_
  refine RK.nil ?_
  refine Ab.D.code ?_
  refine OK.seq ?_
  refine OK.seq ?_
  refine OK.reg ?_
  refine RK.c (S.call (law_awake) Tryz.call9 .none rfl .nil rfl) ?_
  refine RK.c (S.not .none rfl (.tmp rfl rfl)) ?_
  refine RK.nil ?_
  refine Ab.D.code ?_
  refine OK.condF rfl rfl rfl ?_
  refine OK.skip ?_
  refine Ab.D.code ?_
  refine OK.seq ?_
  refine OK.seq ?_
  refine OK.reg ?_
  refine RK.c (S.bloadN ti24 .none rfl (.tmp rfl rfl) rfl rfl rfl rfl) ?_
  refine RK.c (S.call (law_Few) Tryz.call10 .none rfl (.cons (.tmp rfl rfl) .nil) rfl) ?_
  refine RK.c (S.not .none rfl (.tmp rfl rfl)) ?_
  refine RK.c (S.move .none rfl (.tmp rfl rfl)) ?_
  refine RK.split (t := 20) rfl (fun g20 => ?_) (fun g20 => ?_)
  ·
    refine RK.c (S.skip rfl rfl rfl rfl rfl) ?_
    refine RK.c (S.skip rfl rfl rfl rfl rfl) ?_
    refine RK.c (S.skip rfl rfl rfl rfl rfl) ?_
    refine RK.c (S.pickT .none rfl (.tmp rfl rfl) .cbool rfl) ?_
    refine RK.c (S.move .none rfl (.tmp rfl rfl)) ?_
    refine RK.c (S.skip rfl rfl rfl rfl rfl) ?_
    refine RK.c (S.skip rfl rfl rfl rfl rfl) ?_
    refine RK.c (S.skip rfl rfl rfl rfl rfl) ?_
    refine RK.c (S.pickT .none rfl (.tmp rfl rfl) .cbool rfl) ?_
    refine RK.nil ?_
    refine Ab.D.code ?_
    refine OK.condT rfl rfl rfl ?_
    refine OK.seq ?_
    refine OK.reg ?_
    refine RK.c (S.assign .none rfl .cbool) ?_
    refine RK.nil ?_
    refine Ab.D.code ?_
    refine OK.ret (Ret.r1 (.tmp rfl rfl (.c (.same rfl) rfl) rfl) ?_)
    first | rfl | (refine ret_dT ?_; omega) | (refine ret_abs ?_; omega) | (refine ret_dT ?_; exact hvv) | (refine ret_abs ?_; rw [hd] at g109; simp at g109; done)
  ·
    refine RK.c (S.bloadN ti33 (.yes rfl rfl rfl rfl) rfl (.tmp rfl rfl) rfl rfl rfl rfl) ?_
    refine RK.c (S.call (law_shortEnvelope) Tryz.call25 (.yes rfl rfl rfl rfl) rfl (.cons (.tmp rfl rfl) .nil) rfl) ?_
    refine RK.c (S.not (.yes rfl rfl rfl rfl) rfl (.tmp rfl rfl)) ?_
    refine RK.c (S.pickF .none rfl (.tmp rfl rfl) (.tmp rfl rfl) rfl) ?_
    refine RK.c (S.move .none rfl (.tmp rfl rfl)) ?_
    refine RK.split (t := 25) rfl (fun g25 => ?_) (fun g25 => ?_)
    ·
      refine RK.c (S.skip rfl rfl rfl rfl rfl) ?_
      refine RK.c (S.skip rfl rfl rfl rfl rfl) ?_
      refine RK.c (S.skip rfl rfl rfl rfl rfl) ?_
      refine RK.c (S.pickT .none rfl (.tmp rfl rfl) .cbool rfl) ?_
      refine RK.nil ?_
      refine Ab.D.code ?_
      refine OK.condT rfl rfl rfl ?_
      refine OK.seq ?_
      refine OK.reg ?_
      refine RK.c (S.assign .none rfl .cbool) ?_
      refine RK.nil ?_
      refine Ab.D.code ?_
      refine OK.ret (Ret.r1 (.tmp rfl rfl (.c (.same rfl) rfl) rfl) ?_)
      first | rfl | (refine ret_dT ?_; omega) | (refine ret_abs ?_; omega) | (refine ret_dT ?_; exact hvv) | (refine ret_abs ?_; rw [hd] at g109; simp at g109; done)
    ·
      refine RK.c (S.bloadN ti51 (.yes rfl rfl rfl rfl) rfl (.tmp rfl rfl) rfl rfl rfl rfl) ?_
      refine RK.c (S.call (law_shortRecord) Tryz.call26 (.yes rfl rfl rfl rfl) rfl (.cons (.tmp rfl rfl) .nil) rfl) ?_
      refine RK.c (S.not (.yes rfl rfl rfl rfl) rfl (.tmp rfl rfl)) ?_
      refine RK.c (S.pickF .none rfl (.tmp rfl rfl) (.tmp rfl rfl) rfl) ?_
      refine RK.nil ?_
      refine Ab.D.code ?_
      refine OK.cond rfl rfl (fun c29 => ?_) (fun c29 => ?_)
      ·
        refine OK.seq ?_
        refine OK.reg ?_
        refine RK.c (S.assign .none rfl .cbool) ?_
        refine RK.nil ?_
        refine Ab.D.code ?_
        refine OK.ret (Ret.r1 (.tmp rfl rfl (.c (.same rfl) rfl) rfl) ?_)
        first | rfl | (refine ret_dT ?_; omega) | (refine ret_abs ?_; omega) | (refine ret_dT ?_; exact hvv) | (refine ret_abs ?_; rw [hd] at g109; simp at g109; done)
      ·
        have hF : fewT p = true := by simpa using g20
        have hE : shortEnvT x = true := by simpa using g25
        have hS : shortRec r = true := by simpa using c29
        have hp := few_len hF
        obtain ⟨hx1, hx2⟩ := shortEnv_len hE
        obtain ⟨hr, hv⟩ := short_len hS
        have hel : ∀ (i : Nat) (h : i < x.rows.length), x.rows[i].length ≤ 100000 := fun i h => by have := hx2 i h; omega
        have hvl : ∀ (i : Nat) (h : i < r.rows.length), r.rows[i].values.length ≤ 100000 := fun i h => by have := hv i h; omega
        have hbe : bothErr p x r = if planErr p ≠ 0 then planErr p else if (envChk p x).2 ≠ 0 then (envChk p x).2 else (recChk p r).2 := rfl
        refine OK.skip ?_
        refine Ab.D.code ?_
        refine OK.seq ?_
        refine OK.regionDraw follows (.c (S.bloadN ti24 .none rfl (.tmp rfl rfl) rfl rfl rfl rfl)
          (.c (S.call (ref_CopyPlan (by omega)) Tryz.call13 .none rfl (.cons (.tmp rfl rfl) .nil) rfl)
          (.c (S.bloadN ti33 .none rfl (.tmp rfl rfl) rfl rfl rfl rfl)
          (.c (S.call (ref_CopyEnvelope (by omega) hel) Tryz.call22 .none rfl (.cons (.tmp rfl rfl) .nil) rfl)
          (.c (S.call (mon_CheckEnvelope) Tryz.call27 .none rfl (.cons (.tmp rfl rfl) (.cons (.tmp rfl rfl) .nil)) rfl)
          (.c (S.move .none rfl (.tmp rfl rfl))
          (.c (S.extract .none rfl (.tmp rfl rfl) rfl rfl)
          (.c (S.extract .none rfl (.tmp rfl rfl) rfl rfl)
          (.c (S.assign .none rfl (.tmp rfl rfl))
          (.c (S.assign .none rfl (.tmp rfl rfl))
          .nil)))))))))) (by kernel_rfl) ?_
        refine Ab.D.code ?_
        refine OK.seq ?_
        refine OK.regionDraw follows (.c (S.bloadN ti24 .none rfl (.tmp rfl rfl) rfl rfl rfl rfl)
          (.c (S.call (ref_CopyPlan (by omega)) Tryz.call13 .none rfl (.cons (.tmp rfl rfl) .nil) rfl)
          (.c (S.bloadN ti33 .none rfl (.tmp rfl rfl) rfl rfl rfl rfl)
          (.c (S.call (ref_CopyEnvelope (by omega) hel) Tryz.call22 .none rfl (.cons (.tmp rfl rfl) .nil) rfl)
          (.c (S.bloadN ti51 .none rfl (.tmp rfl rfl) rfl rfl rfl rfl)
          (.c (S.call (ref_CopyRecord (by omega) hvl) Tryz.call23 .none rfl (.cons (.tmp rfl rfl) .nil) rfl)
          (.c (S.call (mon_DeviationsOf) Tryz.call28 .none rfl (.cons (.tmp rfl rfl) (.cons (.tmp rfl rfl) (.cons (.tmp rfl rfl) .nil))) rfl)
          (.c (S.move .none rfl (.tmp rfl rfl))
          (.c (S.extract .none rfl (.tmp rfl rfl) rfl rfl)
          (.c (S.extract .none rfl (.tmp rfl rfl) rfl rfl)
          (.c (S.assign .none rfl (.tmp rfl rfl))
          (.c (S.assign .none rfl (.tmp rfl rfl))
          .nil)))))))))))) (by kernel_rfl) ?_
        refine Ab.D.code ?_
        refine OK.seq ?_
        refine OK.regionDraw follows (.c (S.bloadN ti24 .none rfl (.tmp rfl rfl) rfl rfl rfl rfl)
          (.c (S.call (ref_CopyPlan (by omega)) Tryz.call13 .none rfl (.cons (.tmp rfl rfl) .nil) rfl)
          (.c (S.bloadN ti33 .none rfl (.tmp rfl rfl) rfl rfl rfl rfl)
          (.c (S.call (ref_CopyEnvelope (by omega) hel) Tryz.call22 .none rfl (.cons (.tmp rfl rfl) .nil) rfl)
          (.c (S.bloadN ti51 .none rfl (.tmp rfl rfl) rfl rfl rfl rfl)
          (.c (S.call (ref_CopyRecord (by omega) hvl) Tryz.call23 .none rfl (.cons (.tmp rfl rfl) .nil) rfl)
          (.c (S.call (mon_VerdictOf) Tryz.call21 .none rfl (.cons (.tmp rfl rfl) (.cons (.tmp rfl rfl) (.cons (.tmp rfl rfl) .nil))) rfl)
          (.c (S.move .none rfl (.tmp rfl rfl))
          (.c (S.extract .none rfl (.tmp rfl rfl) rfl rfl)
          (.c (S.extract .none rfl (.tmp rfl rfl) rfl rfl)
          (.c (S.assign .none rfl (.tmp rfl rfl))
          (.c (S.assign .none rfl (.tmp rfl rfl))
          .nil)))))))))))) (by kernel_rfl) ?_
        refine Ab.D.code ?_
        refine OK.seq ?_
        refine OK.reg ?_
        refine RK.c (S.bloadN ti24 .none rfl (.tmp rfl rfl) rfl rfl rfl rfl) ?_
        refine RK.c (S.call (ref_PlanErr) Tryz.call15 .none rfl (.cons (.tmp rfl rfl) .nil) rfl) ?_
        refine RK.c (S.assign .none rfl (.cint rfl)) ?_
        refine RK.c (S.assign .none rfl (.tmp rfl rfl)) ?_
        refine RK.nil ?_
        refine Ab.D.code ?_
        refine OK.seq ?_
        refine OK.seq ?_
        refine OK.reg ?_
        refine RK.c (S.move .none rfl (.tmp rfl rfl)) ?_
        refine RK.c (S.eql .none rfl (.tmp rfl rfl) (.cint rfl)) ?_
        refine RK.nil ?_
        refine Ab.D.code ?_
        refine OK.condD rfl rfl (fun c61 => ?_) (fun c61 => ?_)
        ·
          have hk : (envelopeChk p x).1 = (envChk p x).1 ∧ (envelopeChk p x).2 = (envChk p x).2 := by rw [envelopeChk, if_neg (by omega)]; exact ⟨rfl, rfl⟩
          refine OK.reg ?_
          refine RK.c (S.bloadN ti24 .none rfl (.tmp rfl rfl) rfl rfl rfl rfl) ?_
          refine RK.c (S.bloadN ti33 .none rfl (.tmp rfl rfl) rfl rfl rfl rfl) ?_
          refine RK.c (S.call (ref_CheckEnvelope) Tryz.call29 .none rfl (.cons (.tmp rfl rfl) (.cons (.tmp rfl rfl) .nil)) rfl) ?_
          refine RK.c (S.move .none rfl (.tmp rfl rfl)) ?_
          refine RK.c (S.extract .none rfl (.tmp rfl rfl) rfl rfl) ?_
          refine RK.c (S.extract .none rfl (.tmp rfl rfl) rfl rfl) ?_
          refine RK.c (S.assign .none rfl (.tmp rfl rfl)) ?_
          refine RK.c (S.assign .none rfl (.tmp rfl rfl)) ?_
          refine RK.nil ?_
          refine Ab.D.code ?_
          refine OK.seq ?_
          refine OK.seq ?_
          refine OK.reg ?_
          refine RK.c (S.move .none rfl (.tmp rfl rfl)) ?_
          refine RK.c (S.move .none rfl (.tmp rfl rfl)) ?_
          refine RK.c (S.neq .none rfl (.tmp rfl rfl) (.tmp rfl rfl)) ?_
          refine RK.c (S.move .none rfl (.tmp rfl rfl)) ?_
          refine RK.splitD (t := 71) rfl (fun g71 => ?_) (fun g71 => ?_)
          ·
            refine RK.c (S.skip rfl rfl rfl rfl rfl) ?_
            refine RK.c (S.skip rfl rfl rfl rfl rfl) ?_
            refine RK.c (S.skip rfl rfl rfl rfl rfl) ?_
            refine RK.c (S.pickT .none rfl (.tmp rfl rfl) .cbool rfl) ?_
            refine RK.nil ?_
            refine Ab.D.code ?_
            refine OK.condT rfl rfl rfl ?_
            refine OK.seq ?_
            refine OK.reg ?_
            refine RK.c (S.assign .none rfl .cbool) ?_
            refine RK.nil ?_
            refine Ab.D.code ?_
            refine OK.ret (Ret.r1 (.tmp rfl rfl (.c (.same rfl) rfl) rfl) ?_)
            first | rfl | (refine ret_dT ?_; omega) | (refine ret_abs ?_; omega) | (refine ret_dT ?_; exact hvv) | (refine ret_abs ?_; rw [hd] at g109; simp at g109; done)
          ·
            refine RK.c (S.move (.yes rfl rfl rfl rfl) rfl (.tmp rfl rfl)) ?_
            refine RK.c (S.move (.yes rfl rfl rfl rfl) rfl (.tmp rfl rfl)) ?_
            refine RK.c (S.neq (.yes rfl rfl rfl rfl) rfl (.tmp rfl rfl) (.tmp rfl rfl)) ?_
            refine RK.c (S.pickF .none rfl (.tmp rfl rfl) (.tmp rfl rfl) rfl) ?_
            refine RK.nil ?_
            refine Ab.D.code ?_
            refine OK.condD rfl rfl (fun c75 => ?_) (fun c75 => ?_)
            ·
              refine OK.seq ?_
              refine OK.reg ?_
              refine RK.c (S.assign .none rfl .cbool) ?_
              refine RK.nil ?_
              refine Ab.D.code ?_
              refine OK.ret (Ret.r1 (.tmp rfl rfl (.c (.same rfl) rfl) rfl) ?_)
              first | rfl | (refine ret_dT ?_; omega) | (refine ret_abs ?_; omega) | (refine ret_dT ?_; exact hvv) | (refine ret_abs ?_; rw [hd] at g109; simp at g109; done)
            ·
              refine OK.skip ?_
              refine Ab.D.code ?_
              refine OK.seq ?_
              refine OK.seq ?_
              refine OK.reg ?_
              refine RK.c (S.move .none rfl (.tmp rfl rfl)) ?_
              refine RK.c (S.eql .none rfl (.tmp rfl rfl) (.cint rfl)) ?_
              refine RK.nil ?_
              refine Ab.D.code ?_
              refine OK.condD rfl rfl (fun c77 => ?_) (fun c77 => ?_)
              ·
                refine OK.reg ?_
                refine RK.c (S.bloadN ti24 .none rfl (.tmp rfl rfl) rfl rfl rfl rfl) ?_
                refine RK.c (S.bloadN ti51 .none rfl (.tmp rfl rfl) rfl rfl rfl rfl) ?_
                refine RK.c (S.call (ref_RecordErr) Tryz.call30 .none rfl (.cons (.tmp rfl rfl) (.cons (.tmp rfl rfl) .nil)) rfl) ?_
                refine RK.c (S.assign .none rfl (.tmp rfl rfl)) ?_
                refine RK.nil ?_
                refine Ab.D.code ?_
                refine OK.seq ?_
                refine OK.seq ?_
                refine OK.reg ?_
                refine RK.c (S.move .none rfl (.tmp rfl rfl)) ?_
                refine RK.c (S.neq .none rfl (.tmp rfl rfl) (.cint rfl)) ?_
                refine RK.nil ?_
                refine Ab.D.code ?_
                refine OK.condD rfl rfl (fun c82 => ?_) (fun c82 => ?_)
                ·
                  have he : ¬ bothErr p x r = 0 := by omega
                  have hl0 : (if bothErr p x r = 0 then devT x r else []).length = 0 := by rw [if_neg he]; rfl
                  have hv0 : (if bothErr p x r = 0 then verdT x r else 0) = 0 := by rw [if_neg he]
                  refine OK.seq ?_
                  refine OK.reg ?_
                  refine RK.c (S.move .none rfl (.tmp rfl rfl)) ?_
                  refine RK.c (S.move .none rfl (.tmp rfl rfl)) ?_
                  refine RK.c (S.eql .none rfl (.tmp rfl rfl) (.tmp rfl rfl)) ?_
                  refine RK.c (S.move .none rfl (.tmp rfl rfl)) ?_
                  refine RK.splitD (t := 86) rfl (fun g86 => ?_) (fun g86 => ?_)
                  ·
                    refine RK.c (S.move (.yes rfl rfl rfl rfl) rfl (.tmp rfl rfl)) ?_
                    refine RK.c (S.move (.yes rfl rfl rfl rfl) rfl (.tmp rfl rfl)) ?_
                    refine RK.c (S.eql (.yes rfl rfl rfl rfl) rfl (.tmp rfl rfl) (.tmp rfl rfl)) ?_
                    refine RK.c (S.pickT .none rfl (.tmp rfl rfl) (.tmp rfl rfl) rfl) ?_
                    refine RK.c (S.move .none rfl (.tmp rfl rfl)) ?_
                    refine RK.splitD (t := 91) rfl (fun g91 => ?_) (fun g91 => ?_)
                    ·
                      refine RK.c (S.move (.yes rfl rfl rfl rfl) rfl (.tmp rfl rfl)) ?_
                      refine RK.c (S.lenM si63 (.yes rfl rfl rfl rfl) rfl (.tmp rfl rfl)) ?_
                      refine RK.c (S.eql (.yes rfl rfl rfl rfl) rfl (.tmp rfl rfl) (.cint rfl)) ?_
                      refine RK.c (S.pickT .none rfl (.tmp rfl rfl) (.tmp rfl rfl) rfl) ?_
                      refine RK.c (S.move .none rfl (.tmp rfl rfl)) ?_
                      refine RK.splitD (t := 96) rfl (fun g96 => ?_) (fun g96 => ?_)
                      ·
                        refine RK.c (S.move (.yes rfl rfl rfl rfl) rfl (.tmp rfl rfl)) ?_
                        refine RK.c (S.eql (.yes rfl rfl rfl rfl) rfl (.tmp rfl rfl) (.cint rfl)) ?_
                        refine RK.c (S.pickT .none rfl (.tmp rfl rfl) (.tmp rfl rfl) rfl) ?_
                        refine RK.c (S.assign .none rfl (.tmp rfl rfl)) ?_
                        refine RK.nil ?_
                        refine Ab.D.code ?_
                        refine OK.ret (Ret.r1 (.tmp rfl rfl (.c (.same rfl) rfl) rfl) ?_)
                        first | rfl | (refine ret_dT ?_; omega) | (refine ret_abs ?_; omega) | (refine ret_dT ?_; exact hvv) | (refine ret_abs ?_; rw [hd] at g109; simp at g109; done)
                      ·
                        refine RK.c (S.skip rfl rfl rfl rfl rfl) ?_
                        refine RK.c (S.skip rfl rfl rfl rfl rfl) ?_
                        refine RK.c (S.pickF .none rfl (.tmp rfl rfl) .cbool rfl) ?_
                        refine RK.c (S.assign .none rfl (.tmp rfl rfl)) ?_
                        refine RK.nil ?_
                        refine Ab.D.code ?_
                        refine OK.ret (Ret.r1 (.tmp rfl rfl (.c (.same rfl) rfl) rfl) ?_)
                        first | rfl | (refine ret_dT ?_; omega) | (refine ret_abs ?_; omega) | (refine ret_dT ?_; exact hvv) | (refine ret_abs ?_; rw [hd] at g109; simp at g109; done)
                    ·
                      refine RK.c (S.skip rfl rfl rfl rfl rfl) ?_
                      refine RK.c (S.skip rfl rfl rfl rfl rfl) ?_
                      refine RK.c (S.skip rfl rfl rfl rfl rfl) ?_
                      refine RK.c (S.pickF .none rfl (.tmp rfl rfl) .cbool rfl) ?_
                      refine RK.c (S.move .none rfl (.tmp rfl rfl)) ?_
                      refine RK.c (S.skip rfl rfl rfl rfl rfl) ?_
                      refine RK.c (S.skip rfl rfl rfl rfl rfl) ?_
                      refine RK.c (S.pickF .none rfl (.tmp rfl rfl) .cbool rfl) ?_
                      refine RK.c (S.assign .none rfl (.tmp rfl rfl)) ?_
                      refine RK.nil ?_
                      refine Ab.D.code ?_
                      refine OK.ret (Ret.r1 (.tmp rfl rfl (.c (.same rfl) rfl) rfl) ?_)
                      first | rfl | (refine ret_dT ?_; omega) | (refine ret_abs ?_; omega) | (refine ret_dT ?_; exact hvv) | (refine ret_abs ?_; rw [hd] at g109; simp at g109; done)
                  ·
                    refine RK.c (S.skip rfl rfl rfl rfl rfl) ?_
                    refine RK.c (S.skip rfl rfl rfl rfl rfl) ?_
                    refine RK.c (S.skip rfl rfl rfl rfl rfl) ?_
                    refine RK.c (S.pickF .none rfl (.tmp rfl rfl) .cbool rfl) ?_
                    refine RK.c (S.move .none rfl (.tmp rfl rfl)) ?_
                    refine RK.c (S.skip rfl rfl rfl rfl rfl) ?_
                    refine RK.c (S.skip rfl rfl rfl rfl rfl) ?_
                    refine RK.c (S.skip rfl rfl rfl rfl rfl) ?_
                    refine RK.c (S.pickF .none rfl (.tmp rfl rfl) .cbool rfl) ?_
                    refine RK.c (S.move .none rfl (.tmp rfl rfl)) ?_
                    refine RK.c (S.skip rfl rfl rfl rfl rfl) ?_
                    refine RK.c (S.skip rfl rfl rfl rfl rfl) ?_
                    refine RK.c (S.pickF .none rfl (.tmp rfl rfl) .cbool rfl) ?_
                    refine RK.c (S.assign .none rfl (.tmp rfl rfl)) ?_
                    refine RK.nil ?_
                    refine Ab.D.code ?_
                    refine OK.ret (Ret.r1 (.tmp rfl rfl (.c (.same rfl) rfl) rfl) ?_)
                    first | rfl | (refine ret_dT ?_; omega) | (refine ret_abs ?_; omega) | (refine ret_dT ?_; exact hvv) | (refine ret_abs ?_; rw [hd] at g109; simp at g109; done)
                ·
                  have he : bothErr p x r = 0 := by omega
                  have hb := both_of he
                  have hbr := hb.rows
                  have hcz : (envChk p x).2 = 0 := by omega
                  have hord := env_ord hcz
                  have hD := both_len hb
                  have hd : (if bothErr p x r = 0 then devT x r else []) = devT x r := if_pos he
                  have hvv : (if bothErr p x r = 0 then verdT x r else 0) = verdT x r := if_pos he
                  refine OK.skip ?_
                  refine Ab.D.code ?_
                  refine OK.seq ?_
                  refine OK.reg ?_
                  refine RK.c (S.move .none rfl (.tmp rfl rfl)) ?_
                  refine RK.c (S.eql .none rfl (.tmp rfl rfl) (.cint rfl)) ?_
                  refine RK.c (S.move .none rfl (.tmp rfl rfl)) ?_
                  refine RK.splitD (t := 102) rfl (fun g102 => ?_) (fun g102 => ?_)
                  ·
                    refine RK.c (S.move (.yes rfl rfl rfl rfl) rfl (.tmp rfl rfl)) ?_
                    refine RK.c (S.bloadN ti33 (.yes rfl rfl rfl rfl) rfl (.tmp rfl rfl) rfl rfl rfl rfl) ?_
                    refine RK.c (S.bloadN ti51 (.yes rfl rfl rfl rfl) rfl (.tmp rfl rfl) rfl rfl rfl rfl) ?_
                    refine RK.c (S.call (ref_Deviations hb.fit (by omega) hvl hord hD) Tryz.call32 (.yes rfl rfl rfl rfl) rfl (.cons (.tmp rfl rfl) (.cons (.tmp rfl rfl) .nil)) rfl) ?_
                    refine RK.c (S.call (ref_SameDeviations) Tryz.call31 (.yes rfl rfl rfl rfl) rfl (.cons (.tmp rfl rfl) (.cons (.tmp rfl rfl) .nil)) rfl) ?_
                    refine RK.c (S.pickT .none rfl (.tmp rfl rfl) (.tmp rfl rfl) rfl) ?_
                    refine RK.c (S.move .none rfl (.tmp rfl rfl)) ?_
                    refine RK.splitD (t := 109) rfl (fun g109 => ?_) (fun g109 => ?_)
                    ·
                      refine RK.c (S.move (.yes rfl rfl rfl rfl) rfl (.tmp rfl rfl)) ?_
                      refine RK.c (S.eql (.yes rfl rfl rfl rfl) rfl (.tmp rfl rfl) (.cint rfl)) ?_
                      refine RK.c (S.pickT .none rfl (.tmp rfl rfl) (.tmp rfl rfl) rfl) ?_
                      refine RK.c (S.move .none rfl (.tmp rfl rfl)) ?_
                      refine RK.splitD (t := 113) rfl (fun g113 => ?_) (fun g113 => ?_)
                      ·
                        refine RK.c (S.move (.yes rfl rfl rfl rfl) rfl (.tmp rfl rfl)) ?_
                        refine RK.c (S.bloadN ti33 (.yes rfl rfl rfl rfl) rfl (.tmp rfl rfl) rfl rfl rfl rfl) ?_
                        refine RK.c (S.bloadN ti51 (.yes rfl rfl rfl rfl) rfl (.tmp rfl rfl) rfl rfl rfl rfl) ?_
                        refine RK.c (S.call (ref_Verdict hb.fit (by omega) hvl hord hD) Tryz.call33 (.yes rfl rfl rfl rfl) rfl (.cons (.tmp rfl rfl) (.cons (.tmp rfl rfl) .nil)) rfl) ?_
                        refine RK.c (S.eql (.yes rfl rfl rfl rfl) rfl (.tmp rfl rfl) (.tmp rfl rfl)) ?_
                        refine RK.c (S.pickT .none rfl (.tmp rfl rfl) (.tmp rfl rfl) rfl) ?_
                        refine RK.c (S.assign .none rfl (.tmp rfl rfl)) ?_
                        refine RK.nil ?_
                        refine Ab.D.code ?_
                        refine OK.ret (Ret.r1 (.tmp rfl rfl (.c (.same rfl) rfl) rfl) ?_)
                        first | rfl | (refine ret_dT ?_; omega) | (refine ret_abs ?_; omega) | (refine ret_dT ?_; exact hvv) | (refine ret_abs ?_; rw [hd] at g109; simp at g109; done)
                      ·
                        refine RK.c (S.skip rfl rfl rfl rfl rfl) ?_
                        refine RK.c (S.skip rfl rfl rfl rfl rfl) ?_
                        refine RK.c (S.skip rfl rfl rfl rfl rfl) ?_
                        refine RK.c (S.skip rfl rfl rfl rfl rfl) ?_
                        refine RK.c (S.skip rfl rfl rfl rfl rfl) ?_
                        refine RK.c (S.pickF .none rfl (.tmp rfl rfl) .cbool rfl) ?_
                        refine RK.c (S.assign .none rfl (.tmp rfl rfl)) ?_
                        refine RK.nil ?_
                        refine Ab.D.code ?_
                        refine OK.ret (Ret.r1 (.tmp rfl rfl (.c (.same rfl) rfl) rfl) ?_)
                        first | rfl | (refine ret_dT ?_; omega) | (refine ret_abs ?_; omega) | (refine ret_dT ?_; exact hvv) | (refine ret_abs ?_; rw [hd] at g109; simp at g109; done)
                    ·
                      refine RK.c (S.skip rfl rfl rfl rfl rfl) ?_
                      refine RK.c (S.skip rfl rfl rfl rfl rfl) ?_
                      refine RK.c (S.pickF .none rfl (.tmp rfl rfl) .cbool rfl) ?_
                      refine RK.c (S.move .none rfl (.tmp rfl rfl)) ?_
                      refine RK.c (S.skip rfl rfl rfl rfl rfl) ?_
                      refine RK.c (S.skip rfl rfl rfl rfl rfl) ?_
                      refine RK.c (S.skip rfl rfl rfl rfl rfl) ?_
                      refine RK.c (S.skip rfl rfl rfl rfl rfl) ?_
                      refine RK.c (S.skip rfl rfl rfl rfl rfl) ?_
                      refine RK.c (S.pickF .none rfl (.tmp rfl rfl) .cbool rfl) ?_
                      refine RK.c (S.assign .none rfl (.tmp rfl rfl)) ?_
                      refine RK.nil ?_
                      refine Ab.D.code ?_
                      refine OK.ret (Ret.r1 (.tmp rfl rfl (.c (.same rfl) rfl) rfl) ?_)
                      first | rfl | (refine ret_dT ?_; omega) | (refine ret_abs ?_; omega) | (refine ret_dT ?_; exact hvv) | (refine ret_abs ?_; rw [hd] at g109; simp at g109; done)
                  ·
                    refine RK.c (S.skip rfl rfl rfl rfl rfl) ?_
                    refine RK.c (S.skip rfl rfl rfl rfl rfl) ?_
                    refine RK.c (S.skip rfl rfl rfl rfl rfl) ?_
                    refine RK.c (S.skip rfl rfl rfl rfl rfl) ?_
                    refine RK.c (S.skip rfl rfl rfl rfl rfl) ?_
                    refine RK.c (S.pickF .none rfl (.tmp rfl rfl) .cbool rfl) ?_
                    refine RK.c (S.move .none rfl (.tmp rfl rfl)) ?_
                    refine RK.c (S.skip rfl rfl rfl rfl rfl) ?_
                    refine RK.c (S.skip rfl rfl rfl rfl rfl) ?_
                    refine RK.c (S.pickF .none rfl (.tmp rfl rfl) .cbool rfl) ?_
                    refine RK.c (S.move .none rfl (.tmp rfl rfl)) ?_
                    refine RK.c (S.skip rfl rfl rfl rfl rfl) ?_
                    refine RK.c (S.skip rfl rfl rfl rfl rfl) ?_
                    refine RK.c (S.skip rfl rfl rfl rfl rfl) ?_
                    refine RK.c (S.skip rfl rfl rfl rfl rfl) ?_
                    refine RK.c (S.skip rfl rfl rfl rfl rfl) ?_
                    refine RK.c (S.pickF .none rfl (.tmp rfl rfl) .cbool rfl) ?_
                    refine RK.c (S.assign .none rfl (.tmp rfl rfl)) ?_
                    refine RK.nil ?_
                    refine Ab.D.code ?_
                    refine OK.ret (Ret.r1 (.tmp rfl rfl (.c (.same rfl) rfl) rfl) ?_)
                    first | rfl | (refine ret_dT ?_; omega) | (refine ret_abs ?_; omega) | (refine ret_dT ?_; exact hvv) | (refine ret_abs ?_; rw [hd] at g109; simp at g109; done)
              ·
                refine OK.skip ?_
                refine Ab.D.code ?_
                refine OK.seq ?_
                refine OK.seq ?_
                refine OK.reg ?_
                refine RK.c (S.move .none rfl (.tmp rfl rfl)) ?_
                refine RK.c (S.neq .none rfl (.tmp rfl rfl) (.cint rfl)) ?_
                refine RK.nil ?_
                refine Ab.D.code ?_
                refine OK.condD rfl rfl (fun c82 => ?_) (fun c82 => ?_)
                ·
                  have he : ¬ bothErr p x r = 0 := by omega
                  have hl0 : (if bothErr p x r = 0 then devT x r else []).length = 0 := by rw [if_neg he]; rfl
                  have hv0 : (if bothErr p x r = 0 then verdT x r else 0) = 0 := by rw [if_neg he]
                  refine OK.seq ?_
                  refine OK.reg ?_
                  refine RK.c (S.move .none rfl (.tmp rfl rfl)) ?_
                  refine RK.c (S.move .none rfl (.tmp rfl rfl)) ?_
                  refine RK.c (S.eql .none rfl (.tmp rfl rfl) (.tmp rfl rfl)) ?_
                  refine RK.c (S.move .none rfl (.tmp rfl rfl)) ?_
                  refine RK.splitD (t := 86) rfl (fun g86 => ?_) (fun g86 => ?_)
                  ·
                    refine RK.c (S.move (.yes rfl rfl rfl rfl) rfl (.tmp rfl rfl)) ?_
                    refine RK.c (S.move (.yes rfl rfl rfl rfl) rfl (.tmp rfl rfl)) ?_
                    refine RK.c (S.eql (.yes rfl rfl rfl rfl) rfl (.tmp rfl rfl) (.tmp rfl rfl)) ?_
                    refine RK.c (S.pickT .none rfl (.tmp rfl rfl) (.tmp rfl rfl) rfl) ?_
                    refine RK.c (S.move .none rfl (.tmp rfl rfl)) ?_
                    refine RK.splitD (t := 91) rfl (fun g91 => ?_) (fun g91 => ?_)
                    ·
                      refine RK.c (S.move (.yes rfl rfl rfl rfl) rfl (.tmp rfl rfl)) ?_
                      refine RK.c (S.lenM si63 (.yes rfl rfl rfl rfl) rfl (.tmp rfl rfl)) ?_
                      refine RK.c (S.eql (.yes rfl rfl rfl rfl) rfl (.tmp rfl rfl) (.cint rfl)) ?_
                      refine RK.c (S.pickT .none rfl (.tmp rfl rfl) (.tmp rfl rfl) rfl) ?_
                      refine RK.c (S.move .none rfl (.tmp rfl rfl)) ?_
                      refine RK.splitD (t := 96) rfl (fun g96 => ?_) (fun g96 => ?_)
                      ·
                        refine RK.c (S.move (.yes rfl rfl rfl rfl) rfl (.tmp rfl rfl)) ?_
                        refine RK.c (S.eql (.yes rfl rfl rfl rfl) rfl (.tmp rfl rfl) (.cint rfl)) ?_
                        refine RK.c (S.pickT .none rfl (.tmp rfl rfl) (.tmp rfl rfl) rfl) ?_
                        refine RK.c (S.assign .none rfl (.tmp rfl rfl)) ?_
                        refine RK.nil ?_
                        refine Ab.D.code ?_
                        refine OK.ret (Ret.r1 (.tmp rfl rfl (.c (.same rfl) rfl) rfl) ?_)
                        first | rfl | (refine ret_dT ?_; omega) | (refine ret_abs ?_; omega) | (refine ret_dT ?_; exact hvv) | (refine ret_abs ?_; rw [hd] at g109; simp at g109; done)
                      ·
                        refine RK.c (S.skip rfl rfl rfl rfl rfl) ?_
                        refine RK.c (S.skip rfl rfl rfl rfl rfl) ?_
                        refine RK.c (S.pickF .none rfl (.tmp rfl rfl) .cbool rfl) ?_
                        refine RK.c (S.assign .none rfl (.tmp rfl rfl)) ?_
                        refine RK.nil ?_
                        refine Ab.D.code ?_
                        refine OK.ret (Ret.r1 (.tmp rfl rfl (.c (.same rfl) rfl) rfl) ?_)
                        first | rfl | (refine ret_dT ?_; omega) | (refine ret_abs ?_; omega) | (refine ret_dT ?_; exact hvv) | (refine ret_abs ?_; rw [hd] at g109; simp at g109; done)
                    ·
                      refine RK.c (S.skip rfl rfl rfl rfl rfl) ?_
                      refine RK.c (S.skip rfl rfl rfl rfl rfl) ?_
                      refine RK.c (S.skip rfl rfl rfl rfl rfl) ?_
                      refine RK.c (S.pickF .none rfl (.tmp rfl rfl) .cbool rfl) ?_
                      refine RK.c (S.move .none rfl (.tmp rfl rfl)) ?_
                      refine RK.c (S.skip rfl rfl rfl rfl rfl) ?_
                      refine RK.c (S.skip rfl rfl rfl rfl rfl) ?_
                      refine RK.c (S.pickF .none rfl (.tmp rfl rfl) .cbool rfl) ?_
                      refine RK.c (S.assign .none rfl (.tmp rfl rfl)) ?_
                      refine RK.nil ?_
                      refine Ab.D.code ?_
                      refine OK.ret (Ret.r1 (.tmp rfl rfl (.c (.same rfl) rfl) rfl) ?_)
                      first | rfl | (refine ret_dT ?_; omega) | (refine ret_abs ?_; omega) | (refine ret_dT ?_; exact hvv) | (refine ret_abs ?_; rw [hd] at g109; simp at g109; done)
                  ·
                    refine RK.c (S.skip rfl rfl rfl rfl rfl) ?_
                    refine RK.c (S.skip rfl rfl rfl rfl rfl) ?_
                    refine RK.c (S.skip rfl rfl rfl rfl rfl) ?_
                    refine RK.c (S.pickF .none rfl (.tmp rfl rfl) .cbool rfl) ?_
                    refine RK.c (S.move .none rfl (.tmp rfl rfl)) ?_
                    refine RK.c (S.skip rfl rfl rfl rfl rfl) ?_
                    refine RK.c (S.skip rfl rfl rfl rfl rfl) ?_
                    refine RK.c (S.skip rfl rfl rfl rfl rfl) ?_
                    refine RK.c (S.pickF .none rfl (.tmp rfl rfl) .cbool rfl) ?_
                    refine RK.c (S.move .none rfl (.tmp rfl rfl)) ?_
                    refine RK.c (S.skip rfl rfl rfl rfl rfl) ?_
                    refine RK.c (S.skip rfl rfl rfl rfl rfl) ?_
                    refine RK.c (S.pickF .none rfl (.tmp rfl rfl) .cbool rfl) ?_
                    refine RK.c (S.assign .none rfl (.tmp rfl rfl)) ?_
                    refine RK.nil ?_
                    refine Ab.D.code ?_
                    refine OK.ret (Ret.r1 (.tmp rfl rfl (.c (.same rfl) rfl) rfl) ?_)
                    first | rfl | (refine ret_dT ?_; omega) | (refine ret_abs ?_; omega) | (refine ret_dT ?_; exact hvv) | (refine ret_abs ?_; rw [hd] at g109; simp at g109; done)
                ·
                  have he : bothErr p x r = 0 := by omega
                  have hb := both_of he
                  have hbr := hb.rows
                  have hcz : (envChk p x).2 = 0 := by omega
                  have hord := env_ord hcz
                  have hD := both_len hb
                  have hd : (if bothErr p x r = 0 then devT x r else []) = devT x r := if_pos he
                  have hvv : (if bothErr p x r = 0 then verdT x r else 0) = verdT x r := if_pos he
                  refine OK.skip ?_
                  refine Ab.D.code ?_
                  refine OK.seq ?_
                  refine OK.reg ?_
                  refine RK.c (S.move .none rfl (.tmp rfl rfl)) ?_
                  refine RK.c (S.eql .none rfl (.tmp rfl rfl) (.cint rfl)) ?_
                  refine RK.c (S.move .none rfl (.tmp rfl rfl)) ?_
                  refine RK.splitD (t := 102) rfl (fun g102 => ?_) (fun g102 => ?_)
                  ·
                    refine RK.c (S.move (.yes rfl rfl rfl rfl) rfl (.tmp rfl rfl)) ?_
                    refine RK.c (S.bloadN ti33 (.yes rfl rfl rfl rfl) rfl (.tmp rfl rfl) rfl rfl rfl rfl) ?_
                    refine RK.c (S.bloadN ti51 (.yes rfl rfl rfl rfl) rfl (.tmp rfl rfl) rfl rfl rfl rfl) ?_
                    refine RK.c (S.call (ref_Deviations hb.fit (by omega) hvl hord hD) Tryz.call32 (.yes rfl rfl rfl rfl) rfl (.cons (.tmp rfl rfl) (.cons (.tmp rfl rfl) .nil)) rfl) ?_
                    refine RK.c (S.call (ref_SameDeviations) Tryz.call31 (.yes rfl rfl rfl rfl) rfl (.cons (.tmp rfl rfl) (.cons (.tmp rfl rfl) .nil)) rfl) ?_
                    refine RK.c (S.pickT .none rfl (.tmp rfl rfl) (.tmp rfl rfl) rfl) ?_
                    refine RK.c (S.move .none rfl (.tmp rfl rfl)) ?_
                    refine RK.splitD (t := 109) rfl (fun g109 => ?_) (fun g109 => ?_)
                    ·
                      refine RK.c (S.move (.yes rfl rfl rfl rfl) rfl (.tmp rfl rfl)) ?_
                      refine RK.c (S.eql (.yes rfl rfl rfl rfl) rfl (.tmp rfl rfl) (.cint rfl)) ?_
                      refine RK.c (S.pickT .none rfl (.tmp rfl rfl) (.tmp rfl rfl) rfl) ?_
                      refine RK.c (S.move .none rfl (.tmp rfl rfl)) ?_
                      refine RK.splitD (t := 113) rfl (fun g113 => ?_) (fun g113 => ?_)
                      ·
                        refine RK.c (S.move (.yes rfl rfl rfl rfl) rfl (.tmp rfl rfl)) ?_
                        refine RK.c (S.bloadN ti33 (.yes rfl rfl rfl rfl) rfl (.tmp rfl rfl) rfl rfl rfl rfl) ?_
                        refine RK.c (S.bloadN ti51 (.yes rfl rfl rfl rfl) rfl (.tmp rfl rfl) rfl rfl rfl rfl) ?_
                        refine RK.c (S.call (ref_Verdict hb.fit (by omega) hvl hord hD) Tryz.call33 (.yes rfl rfl rfl rfl) rfl (.cons (.tmp rfl rfl) (.cons (.tmp rfl rfl) .nil)) rfl) ?_
                        refine RK.c (S.eql (.yes rfl rfl rfl rfl) rfl (.tmp rfl rfl) (.tmp rfl rfl)) ?_
                        refine RK.c (S.pickT .none rfl (.tmp rfl rfl) (.tmp rfl rfl) rfl) ?_
                        refine RK.c (S.assign .none rfl (.tmp rfl rfl)) ?_
                        refine RK.nil ?_
                        refine Ab.D.code ?_
                        refine OK.ret (Ret.r1 (.tmp rfl rfl (.c (.same rfl) rfl) rfl) ?_)
                        first | rfl | (refine ret_dT ?_; omega) | (refine ret_abs ?_; omega) | (refine ret_dT ?_; exact hvv) | (refine ret_abs ?_; rw [hd] at g109; simp at g109; done)
                      ·
                        refine RK.c (S.skip rfl rfl rfl rfl rfl) ?_
                        refine RK.c (S.skip rfl rfl rfl rfl rfl) ?_
                        refine RK.c (S.skip rfl rfl rfl rfl rfl) ?_
                        refine RK.c (S.skip rfl rfl rfl rfl rfl) ?_
                        refine RK.c (S.skip rfl rfl rfl rfl rfl) ?_
                        refine RK.c (S.pickF .none rfl (.tmp rfl rfl) .cbool rfl) ?_
                        refine RK.c (S.assign .none rfl (.tmp rfl rfl)) ?_
                        refine RK.nil ?_
                        refine Ab.D.code ?_
                        refine OK.ret (Ret.r1 (.tmp rfl rfl (.c (.same rfl) rfl) rfl) ?_)
                        first | rfl | (refine ret_dT ?_; omega) | (refine ret_abs ?_; omega) | (refine ret_dT ?_; exact hvv) | (refine ret_abs ?_; rw [hd] at g109; simp at g109; done)
                    ·
                      refine RK.c (S.skip rfl rfl rfl rfl rfl) ?_
                      refine RK.c (S.skip rfl rfl rfl rfl rfl) ?_
                      refine RK.c (S.pickF .none rfl (.tmp rfl rfl) .cbool rfl) ?_
                      refine RK.c (S.move .none rfl (.tmp rfl rfl)) ?_
                      refine RK.c (S.skip rfl rfl rfl rfl rfl) ?_
                      refine RK.c (S.skip rfl rfl rfl rfl rfl) ?_
                      refine RK.c (S.skip rfl rfl rfl rfl rfl) ?_
                      refine RK.c (S.skip rfl rfl rfl rfl rfl) ?_
                      refine RK.c (S.skip rfl rfl rfl rfl rfl) ?_
                      refine RK.c (S.pickF .none rfl (.tmp rfl rfl) .cbool rfl) ?_
                      refine RK.c (S.assign .none rfl (.tmp rfl rfl)) ?_
                      refine RK.nil ?_
                      refine Ab.D.code ?_
                      refine OK.ret (Ret.r1 (.tmp rfl rfl (.c (.same rfl) rfl) rfl) ?_)
                      first | rfl | (refine ret_dT ?_; omega) | (refine ret_abs ?_; omega) | (refine ret_dT ?_; exact hvv) | (refine ret_abs ?_; rw [hd] at g109; simp at g109; done)
                  ·
                    refine RK.c (S.skip rfl rfl rfl rfl rfl) ?_
                    refine RK.c (S.skip rfl rfl rfl rfl rfl) ?_
                    refine RK.c (S.skip rfl rfl rfl rfl rfl) ?_
                    refine RK.c (S.skip rfl rfl rfl rfl rfl) ?_
                    refine RK.c (S.skip rfl rfl rfl rfl rfl) ?_
                    refine RK.c (S.pickF .none rfl (.tmp rfl rfl) .cbool rfl) ?_
                    refine RK.c (S.move .none rfl (.tmp rfl rfl)) ?_
                    refine RK.c (S.skip rfl rfl rfl rfl rfl) ?_
                    refine RK.c (S.skip rfl rfl rfl rfl rfl) ?_
                    refine RK.c (S.pickF .none rfl (.tmp rfl rfl) .cbool rfl) ?_
                    refine RK.c (S.move .none rfl (.tmp rfl rfl)) ?_
                    refine RK.c (S.skip rfl rfl rfl rfl rfl) ?_
                    refine RK.c (S.skip rfl rfl rfl rfl rfl) ?_
                    refine RK.c (S.skip rfl rfl rfl rfl rfl) ?_
                    refine RK.c (S.skip rfl rfl rfl rfl rfl) ?_
                    refine RK.c (S.skip rfl rfl rfl rfl rfl) ?_
                    refine RK.c (S.pickF .none rfl (.tmp rfl rfl) .cbool rfl) ?_
                    refine RK.c (S.assign .none rfl (.tmp rfl rfl)) ?_
                    refine RK.nil ?_
                    refine Ab.D.code ?_
                    refine OK.ret (Ret.r1 (.tmp rfl rfl (.c (.same rfl) rfl) rfl) ?_)
                    first | rfl | (refine ret_dT ?_; omega) | (refine ret_abs ?_; omega) | (refine ret_dT ?_; exact hvv) | (refine ret_abs ?_; rw [hd] at g109; simp at g109; done)
        ·
          have hk : (envelopeChk p x).1 = 0 ∧ (envelopeChk p x).2 = planErr p := by rw [envelopeChk, if_pos (by omega)]; exact ⟨rfl, rfl⟩
          refine OK.skip ?_
          refine Ab.D.code ?_
          refine OK.seq ?_
          refine OK.seq ?_
          refine OK.reg ?_
          refine RK.c (S.move .none rfl (.tmp rfl rfl)) ?_
          refine RK.c (S.move .none rfl (.tmp rfl rfl)) ?_
          refine RK.c (S.neq .none rfl (.tmp rfl rfl) (.tmp rfl rfl)) ?_
          refine RK.c (S.move .none rfl (.tmp rfl rfl)) ?_
          refine RK.splitD (t := 71) rfl (fun g71 => ?_) (fun g71 => ?_)
          ·
            refine RK.c (S.skip rfl rfl rfl rfl rfl) ?_
            refine RK.c (S.skip rfl rfl rfl rfl rfl) ?_
            refine RK.c (S.skip rfl rfl rfl rfl rfl) ?_
            refine RK.c (S.pickT .none rfl (.tmp rfl rfl) .cbool rfl) ?_
            refine RK.nil ?_
            refine Ab.D.code ?_
            refine OK.condT rfl rfl rfl ?_
            refine OK.seq ?_
            refine OK.reg ?_
            refine RK.c (S.assign .none rfl .cbool) ?_
            refine RK.nil ?_
            refine Ab.D.code ?_
            refine OK.ret (Ret.r1 (.tmp rfl rfl (.c (.same rfl) rfl) rfl) ?_)
            first | rfl | (refine ret_dT ?_; omega) | (refine ret_abs ?_; omega) | (refine ret_dT ?_; exact hvv) | (refine ret_abs ?_; rw [hd] at g109; simp at g109; done)
          ·
            refine RK.c (S.move (.yes rfl rfl rfl rfl) rfl (.tmp rfl rfl)) ?_
            refine RK.c (S.move (.yes rfl rfl rfl rfl) rfl (.tmp rfl rfl)) ?_
            refine RK.c (S.neq (.yes rfl rfl rfl rfl) rfl (.tmp rfl rfl) (.tmp rfl rfl)) ?_
            refine RK.c (S.pickF .none rfl (.tmp rfl rfl) (.tmp rfl rfl) rfl) ?_
            refine RK.nil ?_
            refine Ab.D.code ?_
            refine OK.condD rfl rfl (fun c75 => ?_) (fun c75 => ?_)
            ·
              refine OK.seq ?_
              refine OK.reg ?_
              refine RK.c (S.assign .none rfl .cbool) ?_
              refine RK.nil ?_
              refine Ab.D.code ?_
              refine OK.ret (Ret.r1 (.tmp rfl rfl (.c (.same rfl) rfl) rfl) ?_)
              first | rfl | (refine ret_dT ?_; omega) | (refine ret_abs ?_; omega) | (refine ret_dT ?_; exact hvv) | (refine ret_abs ?_; rw [hd] at g109; simp at g109; done)
            ·
              refine OK.skip ?_
              refine Ab.D.code ?_
              refine OK.seq ?_
              refine OK.seq ?_
              refine OK.reg ?_
              refine RK.c (S.move .none rfl (.tmp rfl rfl)) ?_
              refine RK.c (S.eql .none rfl (.tmp rfl rfl) (.cint rfl)) ?_
              refine RK.nil ?_
              refine Ab.D.code ?_
              refine OK.condD rfl rfl (fun c77 => ?_) (fun c77 => ?_)
              ·
                refine OK.reg ?_
                refine RK.c (S.bloadN ti24 .none rfl (.tmp rfl rfl) rfl rfl rfl rfl) ?_
                refine RK.c (S.bloadN ti51 .none rfl (.tmp rfl rfl) rfl rfl rfl rfl) ?_
                refine RK.c (S.call (ref_RecordErr) Tryz.call30 .none rfl (.cons (.tmp rfl rfl) (.cons (.tmp rfl rfl) .nil)) rfl) ?_
                refine RK.c (S.assign .none rfl (.tmp rfl rfl)) ?_
                refine RK.nil ?_
                refine Ab.D.code ?_
                refine OK.seq ?_
                refine OK.seq ?_
                refine OK.reg ?_
                refine RK.c (S.move .none rfl (.tmp rfl rfl)) ?_
                refine RK.c (S.neq .none rfl (.tmp rfl rfl) (.cint rfl)) ?_
                refine RK.nil ?_
                refine Ab.D.code ?_
                refine OK.condD rfl rfl (fun c82 => ?_) (fun c82 => ?_)
                ·
                  have he : ¬ bothErr p x r = 0 := by omega
                  have hl0 : (if bothErr p x r = 0 then devT x r else []).length = 0 := by rw [if_neg he]; rfl
                  have hv0 : (if bothErr p x r = 0 then verdT x r else 0) = 0 := by rw [if_neg he]
                  refine OK.seq ?_
                  refine OK.reg ?_
                  refine RK.c (S.move .none rfl (.tmp rfl rfl)) ?_
                  refine RK.c (S.move .none rfl (.tmp rfl rfl)) ?_
                  refine RK.c (S.eql .none rfl (.tmp rfl rfl) (.tmp rfl rfl)) ?_
                  refine RK.c (S.move .none rfl (.tmp rfl rfl)) ?_
                  refine RK.splitD (t := 86) rfl (fun g86 => ?_) (fun g86 => ?_)
                  ·
                    refine RK.c (S.move (.yes rfl rfl rfl rfl) rfl (.tmp rfl rfl)) ?_
                    refine RK.c (S.move (.yes rfl rfl rfl rfl) rfl (.tmp rfl rfl)) ?_
                    refine RK.c (S.eql (.yes rfl rfl rfl rfl) rfl (.tmp rfl rfl) (.tmp rfl rfl)) ?_
                    refine RK.c (S.pickT .none rfl (.tmp rfl rfl) (.tmp rfl rfl) rfl) ?_
                    refine RK.c (S.move .none rfl (.tmp rfl rfl)) ?_
                    refine RK.splitD (t := 91) rfl (fun g91 => ?_) (fun g91 => ?_)
                    ·
                      refine RK.c (S.move (.yes rfl rfl rfl rfl) rfl (.tmp rfl rfl)) ?_
                      refine RK.c (S.lenM si63 (.yes rfl rfl rfl rfl) rfl (.tmp rfl rfl)) ?_
                      refine RK.c (S.eql (.yes rfl rfl rfl rfl) rfl (.tmp rfl rfl) (.cint rfl)) ?_
                      refine RK.c (S.pickT .none rfl (.tmp rfl rfl) (.tmp rfl rfl) rfl) ?_
                      refine RK.c (S.move .none rfl (.tmp rfl rfl)) ?_
                      refine RK.splitD (t := 96) rfl (fun g96 => ?_) (fun g96 => ?_)
                      ·
                        refine RK.c (S.move (.yes rfl rfl rfl rfl) rfl (.tmp rfl rfl)) ?_
                        refine RK.c (S.eql (.yes rfl rfl rfl rfl) rfl (.tmp rfl rfl) (.cint rfl)) ?_
                        refine RK.c (S.pickT .none rfl (.tmp rfl rfl) (.tmp rfl rfl) rfl) ?_
                        refine RK.c (S.assign .none rfl (.tmp rfl rfl)) ?_
                        refine RK.nil ?_
                        refine Ab.D.code ?_
                        refine OK.ret (Ret.r1 (.tmp rfl rfl (.c (.same rfl) rfl) rfl) ?_)
                        first | rfl | (refine ret_dT ?_; omega) | (refine ret_abs ?_; omega) | (refine ret_dT ?_; exact hvv) | (refine ret_abs ?_; rw [hd] at g109; simp at g109; done)
                      ·
                        refine RK.c (S.skip rfl rfl rfl rfl rfl) ?_
                        refine RK.c (S.skip rfl rfl rfl rfl rfl) ?_
                        refine RK.c (S.pickF .none rfl (.tmp rfl rfl) .cbool rfl) ?_
                        refine RK.c (S.assign .none rfl (.tmp rfl rfl)) ?_
                        refine RK.nil ?_
                        refine Ab.D.code ?_
                        refine OK.ret (Ret.r1 (.tmp rfl rfl (.c (.same rfl) rfl) rfl) ?_)
                        first | rfl | (refine ret_dT ?_; omega) | (refine ret_abs ?_; omega) | (refine ret_dT ?_; exact hvv) | (refine ret_abs ?_; rw [hd] at g109; simp at g109; done)
                    ·
                      refine RK.c (S.skip rfl rfl rfl rfl rfl) ?_
                      refine RK.c (S.skip rfl rfl rfl rfl rfl) ?_
                      refine RK.c (S.skip rfl rfl rfl rfl rfl) ?_
                      refine RK.c (S.pickF .none rfl (.tmp rfl rfl) .cbool rfl) ?_
                      refine RK.c (S.move .none rfl (.tmp rfl rfl)) ?_
                      refine RK.c (S.skip rfl rfl rfl rfl rfl) ?_
                      refine RK.c (S.skip rfl rfl rfl rfl rfl) ?_
                      refine RK.c (S.pickF .none rfl (.tmp rfl rfl) .cbool rfl) ?_
                      refine RK.c (S.assign .none rfl (.tmp rfl rfl)) ?_
                      refine RK.nil ?_
                      refine Ab.D.code ?_
                      refine OK.ret (Ret.r1 (.tmp rfl rfl (.c (.same rfl) rfl) rfl) ?_)
                      first | rfl | (refine ret_dT ?_; omega) | (refine ret_abs ?_; omega) | (refine ret_dT ?_; exact hvv) | (refine ret_abs ?_; rw [hd] at g109; simp at g109; done)
                  ·
                    refine RK.c (S.skip rfl rfl rfl rfl rfl) ?_
                    refine RK.c (S.skip rfl rfl rfl rfl rfl) ?_
                    refine RK.c (S.skip rfl rfl rfl rfl rfl) ?_
                    refine RK.c (S.pickF .none rfl (.tmp rfl rfl) .cbool rfl) ?_
                    refine RK.c (S.move .none rfl (.tmp rfl rfl)) ?_
                    refine RK.c (S.skip rfl rfl rfl rfl rfl) ?_
                    refine RK.c (S.skip rfl rfl rfl rfl rfl) ?_
                    refine RK.c (S.skip rfl rfl rfl rfl rfl) ?_
                    refine RK.c (S.pickF .none rfl (.tmp rfl rfl) .cbool rfl) ?_
                    refine RK.c (S.move .none rfl (.tmp rfl rfl)) ?_
                    refine RK.c (S.skip rfl rfl rfl rfl rfl) ?_
                    refine RK.c (S.skip rfl rfl rfl rfl rfl) ?_
                    refine RK.c (S.pickF .none rfl (.tmp rfl rfl) .cbool rfl) ?_
                    refine RK.c (S.assign .none rfl (.tmp rfl rfl)) ?_
                    refine RK.nil ?_
                    refine Ab.D.code ?_
                    refine OK.ret (Ret.r1 (.tmp rfl rfl (.c (.same rfl) rfl) rfl) ?_)
                    first | rfl | (refine ret_dT ?_; omega) | (refine ret_abs ?_; omega) | (refine ret_dT ?_; exact hvv) | (refine ret_abs ?_; rw [hd] at g109; simp at g109; done)
                ·
                  have he : bothErr p x r = 0 := by omega
                  have hb := both_of he
                  have hbr := hb.rows
                  have hcz : (envChk p x).2 = 0 := by omega
                  have hord := env_ord hcz
                  have hD := both_len hb
                  have hd : (if bothErr p x r = 0 then devT x r else []) = devT x r := if_pos he
                  have hvv : (if bothErr p x r = 0 then verdT x r else 0) = verdT x r := if_pos he
                  refine OK.skip ?_
                  refine Ab.D.code ?_
                  refine OK.seq ?_
                  refine OK.reg ?_
                  refine RK.c (S.move .none rfl (.tmp rfl rfl)) ?_
                  refine RK.c (S.eql .none rfl (.tmp rfl rfl) (.cint rfl)) ?_
                  refine RK.c (S.move .none rfl (.tmp rfl rfl)) ?_
                  refine RK.splitD (t := 102) rfl (fun g102 => ?_) (fun g102 => ?_)
                  ·
                    refine RK.c (S.move (.yes rfl rfl rfl rfl) rfl (.tmp rfl rfl)) ?_
                    refine RK.c (S.bloadN ti33 (.yes rfl rfl rfl rfl) rfl (.tmp rfl rfl) rfl rfl rfl rfl) ?_
                    refine RK.c (S.bloadN ti51 (.yes rfl rfl rfl rfl) rfl (.tmp rfl rfl) rfl rfl rfl rfl) ?_
                    refine RK.c (S.call (ref_Deviations hb.fit (by omega) hvl hord hD) Tryz.call32 (.yes rfl rfl rfl rfl) rfl (.cons (.tmp rfl rfl) (.cons (.tmp rfl rfl) .nil)) rfl) ?_
                    refine RK.c (S.call (ref_SameDeviations) Tryz.call31 (.yes rfl rfl rfl rfl) rfl (.cons (.tmp rfl rfl) (.cons (.tmp rfl rfl) .nil)) rfl) ?_
                    refine RK.c (S.pickT .none rfl (.tmp rfl rfl) (.tmp rfl rfl) rfl) ?_
                    refine RK.c (S.move .none rfl (.tmp rfl rfl)) ?_
                    refine RK.splitD (t := 109) rfl (fun g109 => ?_) (fun g109 => ?_)
                    ·
                      refine RK.c (S.move (.yes rfl rfl rfl rfl) rfl (.tmp rfl rfl)) ?_
                      refine RK.c (S.eql (.yes rfl rfl rfl rfl) rfl (.tmp rfl rfl) (.cint rfl)) ?_
                      refine RK.c (S.pickT .none rfl (.tmp rfl rfl) (.tmp rfl rfl) rfl) ?_
                      refine RK.c (S.move .none rfl (.tmp rfl rfl)) ?_
                      refine RK.splitD (t := 113) rfl (fun g113 => ?_) (fun g113 => ?_)
                      ·
                        refine RK.c (S.move (.yes rfl rfl rfl rfl) rfl (.tmp rfl rfl)) ?_
                        refine RK.c (S.bloadN ti33 (.yes rfl rfl rfl rfl) rfl (.tmp rfl rfl) rfl rfl rfl rfl) ?_
                        refine RK.c (S.bloadN ti51 (.yes rfl rfl rfl rfl) rfl (.tmp rfl rfl) rfl rfl rfl rfl) ?_
                        refine RK.c (S.call (ref_Verdict hb.fit (by omega) hvl hord hD) Tryz.call33 (.yes rfl rfl rfl rfl) rfl (.cons (.tmp rfl rfl) (.cons (.tmp rfl rfl) .nil)) rfl) ?_
                        refine RK.c (S.eql (.yes rfl rfl rfl rfl) rfl (.tmp rfl rfl) (.tmp rfl rfl)) ?_
                        refine RK.c (S.pickT .none rfl (.tmp rfl rfl) (.tmp rfl rfl) rfl) ?_
                        refine RK.c (S.assign .none rfl (.tmp rfl rfl)) ?_
                        refine RK.nil ?_
                        refine Ab.D.code ?_
                        refine OK.ret (Ret.r1 (.tmp rfl rfl (.c (.same rfl) rfl) rfl) ?_)
                        first | rfl | (refine ret_dT ?_; omega) | (refine ret_abs ?_; omega) | (refine ret_dT ?_; exact hvv) | (refine ret_abs ?_; rw [hd] at g109; simp at g109; done)
                      ·
                        refine RK.c (S.skip rfl rfl rfl rfl rfl) ?_
                        refine RK.c (S.skip rfl rfl rfl rfl rfl) ?_
                        refine RK.c (S.skip rfl rfl rfl rfl rfl) ?_
                        refine RK.c (S.skip rfl rfl rfl rfl rfl) ?_
                        refine RK.c (S.skip rfl rfl rfl rfl rfl) ?_
                        refine RK.c (S.pickF .none rfl (.tmp rfl rfl) .cbool rfl) ?_
                        refine RK.c (S.assign .none rfl (.tmp rfl rfl)) ?_
                        refine RK.nil ?_
                        refine Ab.D.code ?_
                        refine OK.ret (Ret.r1 (.tmp rfl rfl (.c (.same rfl) rfl) rfl) ?_)
                        first | rfl | (refine ret_dT ?_; omega) | (refine ret_abs ?_; omega) | (refine ret_dT ?_; exact hvv) | (refine ret_abs ?_; rw [hd] at g109; simp at g109; done)
                    ·
                      refine RK.c (S.skip rfl rfl rfl rfl rfl) ?_
                      refine RK.c (S.skip rfl rfl rfl rfl rfl) ?_
                      refine RK.c (S.pickF .none rfl (.tmp rfl rfl) .cbool rfl) ?_
                      refine RK.c (S.move .none rfl (.tmp rfl rfl)) ?_
                      refine RK.c (S.skip rfl rfl rfl rfl rfl) ?_
                      refine RK.c (S.skip rfl rfl rfl rfl rfl) ?_
                      refine RK.c (S.skip rfl rfl rfl rfl rfl) ?_
                      refine RK.c (S.skip rfl rfl rfl rfl rfl) ?_
                      refine RK.c (S.skip rfl rfl rfl rfl rfl) ?_
                      refine RK.c (S.pickF .none rfl (.tmp rfl rfl) .cbool rfl) ?_
                      refine RK.c (S.assign .none rfl (.tmp rfl rfl)) ?_
                      refine RK.nil ?_
                      refine Ab.D.code ?_
                      refine OK.ret (Ret.r1 (.tmp rfl rfl (.c (.same rfl) rfl) rfl) ?_)
                      first | rfl | (refine ret_dT ?_; omega) | (refine ret_abs ?_; omega) | (refine ret_dT ?_; exact hvv) | (refine ret_abs ?_; rw [hd] at g109; simp at g109; done)
                  ·
                    refine RK.c (S.skip rfl rfl rfl rfl rfl) ?_
                    refine RK.c (S.skip rfl rfl rfl rfl rfl) ?_
                    refine RK.c (S.skip rfl rfl rfl rfl rfl) ?_
                    refine RK.c (S.skip rfl rfl rfl rfl rfl) ?_
                    refine RK.c (S.skip rfl rfl rfl rfl rfl) ?_
                    refine RK.c (S.pickF .none rfl (.tmp rfl rfl) .cbool rfl) ?_
                    refine RK.c (S.move .none rfl (.tmp rfl rfl)) ?_
                    refine RK.c (S.skip rfl rfl rfl rfl rfl) ?_
                    refine RK.c (S.skip rfl rfl rfl rfl rfl) ?_
                    refine RK.c (S.pickF .none rfl (.tmp rfl rfl) .cbool rfl) ?_
                    refine RK.c (S.move .none rfl (.tmp rfl rfl)) ?_
                    refine RK.c (S.skip rfl rfl rfl rfl rfl) ?_
                    refine RK.c (S.skip rfl rfl rfl rfl rfl) ?_
                    refine RK.c (S.skip rfl rfl rfl rfl rfl) ?_
                    refine RK.c (S.skip rfl rfl rfl rfl rfl) ?_
                    refine RK.c (S.skip rfl rfl rfl rfl rfl) ?_
                    refine RK.c (S.pickF .none rfl (.tmp rfl rfl) .cbool rfl) ?_
                    refine RK.c (S.assign .none rfl (.tmp rfl rfl)) ?_
                    refine RK.nil ?_
                    refine Ab.D.code ?_
                    refine OK.ret (Ret.r1 (.tmp rfl rfl (.c (.same rfl) rfl) rfl) ?_)
                    first | rfl | (refine ret_dT ?_; omega) | (refine ret_abs ?_; omega) | (refine ret_dT ?_; exact hvv) | (refine ret_abs ?_; rw [hd] at g109; simp at g109; done)
              ·
                refine OK.skip ?_
                refine Ab.D.code ?_
                refine OK.seq ?_
                refine OK.seq ?_
                refine OK.reg ?_
                refine RK.c (S.move .none rfl (.tmp rfl rfl)) ?_
                refine RK.c (S.neq .none rfl (.tmp rfl rfl) (.cint rfl)) ?_
                refine RK.nil ?_
                refine Ab.D.code ?_
                refine OK.condD rfl rfl (fun c82 => ?_) (fun c82 => ?_)
                ·
                  have he : ¬ bothErr p x r = 0 := by omega
                  have hl0 : (if bothErr p x r = 0 then devT x r else []).length = 0 := by rw [if_neg he]; rfl
                  have hv0 : (if bothErr p x r = 0 then verdT x r else 0) = 0 := by rw [if_neg he]
                  refine OK.seq ?_
                  refine OK.reg ?_
                  refine RK.c (S.move .none rfl (.tmp rfl rfl)) ?_
                  refine RK.c (S.move .none rfl (.tmp rfl rfl)) ?_
                  refine RK.c (S.eql .none rfl (.tmp rfl rfl) (.tmp rfl rfl)) ?_
                  refine RK.c (S.move .none rfl (.tmp rfl rfl)) ?_
                  refine RK.splitD (t := 86) rfl (fun g86 => ?_) (fun g86 => ?_)
                  ·
                    refine RK.c (S.move (.yes rfl rfl rfl rfl) rfl (.tmp rfl rfl)) ?_
                    refine RK.c (S.move (.yes rfl rfl rfl rfl) rfl (.tmp rfl rfl)) ?_
                    refine RK.c (S.eql (.yes rfl rfl rfl rfl) rfl (.tmp rfl rfl) (.tmp rfl rfl)) ?_
                    refine RK.c (S.pickT .none rfl (.tmp rfl rfl) (.tmp rfl rfl) rfl) ?_
                    refine RK.c (S.move .none rfl (.tmp rfl rfl)) ?_
                    refine RK.splitD (t := 91) rfl (fun g91 => ?_) (fun g91 => ?_)
                    ·
                      refine RK.c (S.move (.yes rfl rfl rfl rfl) rfl (.tmp rfl rfl)) ?_
                      refine RK.c (S.lenM si63 (.yes rfl rfl rfl rfl) rfl (.tmp rfl rfl)) ?_
                      refine RK.c (S.eql (.yes rfl rfl rfl rfl) rfl (.tmp rfl rfl) (.cint rfl)) ?_
                      refine RK.c (S.pickT .none rfl (.tmp rfl rfl) (.tmp rfl rfl) rfl) ?_
                      refine RK.c (S.move .none rfl (.tmp rfl rfl)) ?_
                      refine RK.splitD (t := 96) rfl (fun g96 => ?_) (fun g96 => ?_)
                      ·
                        refine RK.c (S.move (.yes rfl rfl rfl rfl) rfl (.tmp rfl rfl)) ?_
                        refine RK.c (S.eql (.yes rfl rfl rfl rfl) rfl (.tmp rfl rfl) (.cint rfl)) ?_
                        refine RK.c (S.pickT .none rfl (.tmp rfl rfl) (.tmp rfl rfl) rfl) ?_
                        refine RK.c (S.assign .none rfl (.tmp rfl rfl)) ?_
                        refine RK.nil ?_
                        refine Ab.D.code ?_
                        refine OK.ret (Ret.r1 (.tmp rfl rfl (.c (.same rfl) rfl) rfl) ?_)
                        first | rfl | (refine ret_dT ?_; omega) | (refine ret_abs ?_; omega) | (refine ret_dT ?_; exact hvv) | (refine ret_abs ?_; rw [hd] at g109; simp at g109; done)
                      ·
                        refine RK.c (S.skip rfl rfl rfl rfl rfl) ?_
                        refine RK.c (S.skip rfl rfl rfl rfl rfl) ?_
                        refine RK.c (S.pickF .none rfl (.tmp rfl rfl) .cbool rfl) ?_
                        refine RK.c (S.assign .none rfl (.tmp rfl rfl)) ?_
                        refine RK.nil ?_
                        refine Ab.D.code ?_
                        refine OK.ret (Ret.r1 (.tmp rfl rfl (.c (.same rfl) rfl) rfl) ?_)
                        first | rfl | (refine ret_dT ?_; omega) | (refine ret_abs ?_; omega) | (refine ret_dT ?_; exact hvv) | (refine ret_abs ?_; rw [hd] at g109; simp at g109; done)
                    ·
                      refine RK.c (S.skip rfl rfl rfl rfl rfl) ?_
                      refine RK.c (S.skip rfl rfl rfl rfl rfl) ?_
                      refine RK.c (S.skip rfl rfl rfl rfl rfl) ?_
                      refine RK.c (S.pickF .none rfl (.tmp rfl rfl) .cbool rfl) ?_
                      refine RK.c (S.move .none rfl (.tmp rfl rfl)) ?_
                      refine RK.c (S.skip rfl rfl rfl rfl rfl) ?_
                      refine RK.c (S.skip rfl rfl rfl rfl rfl) ?_
                      refine RK.c (S.pickF .none rfl (.tmp rfl rfl) .cbool rfl) ?_
                      refine RK.c (S.assign .none rfl (.tmp rfl rfl)) ?_
                      refine RK.nil ?_
                      refine Ab.D.code ?_
                      refine OK.ret (Ret.r1 (.tmp rfl rfl (.c (.same rfl) rfl) rfl) ?_)
                      first | rfl | (refine ret_dT ?_; omega) | (refine ret_abs ?_; omega) | (refine ret_dT ?_; exact hvv) | (refine ret_abs ?_; rw [hd] at g109; simp at g109; done)
                  ·
                    refine RK.c (S.skip rfl rfl rfl rfl rfl) ?_
                    refine RK.c (S.skip rfl rfl rfl rfl rfl) ?_
                    refine RK.c (S.skip rfl rfl rfl rfl rfl) ?_
                    refine RK.c (S.pickF .none rfl (.tmp rfl rfl) .cbool rfl) ?_
                    refine RK.c (S.move .none rfl (.tmp rfl rfl)) ?_
                    refine RK.c (S.skip rfl rfl rfl rfl rfl) ?_
                    refine RK.c (S.skip rfl rfl rfl rfl rfl) ?_
                    refine RK.c (S.skip rfl rfl rfl rfl rfl) ?_
                    refine RK.c (S.pickF .none rfl (.tmp rfl rfl) .cbool rfl) ?_
                    refine RK.c (S.move .none rfl (.tmp rfl rfl)) ?_
                    refine RK.c (S.skip rfl rfl rfl rfl rfl) ?_
                    refine RK.c (S.skip rfl rfl rfl rfl rfl) ?_
                    refine RK.c (S.pickF .none rfl (.tmp rfl rfl) .cbool rfl) ?_
                    refine RK.c (S.assign .none rfl (.tmp rfl rfl)) ?_
                    refine RK.nil ?_
                    refine Ab.D.code ?_
                    refine OK.ret (Ret.r1 (.tmp rfl rfl (.c (.same rfl) rfl) rfl) ?_)
                    first | rfl | (refine ret_dT ?_; omega) | (refine ret_abs ?_; omega) | (refine ret_dT ?_; exact hvv) | (refine ret_abs ?_; rw [hd] at g109; simp at g109; done)
                ·
                  have he : bothErr p x r = 0 := by omega
                  have hb := both_of he
                  have hbr := hb.rows
                  have hcz : (envChk p x).2 = 0 := by omega
                  have hord := env_ord hcz
                  have hD := both_len hb
                  have hd : (if bothErr p x r = 0 then devT x r else []) = devT x r := if_pos he
                  have hvv : (if bothErr p x r = 0 then verdT x r else 0) = verdT x r := if_pos he
                  refine OK.skip ?_
                  refine Ab.D.code ?_
                  refine OK.seq ?_
                  refine OK.reg ?_
                  refine RK.c (S.move .none rfl (.tmp rfl rfl)) ?_
                  refine RK.c (S.eql .none rfl (.tmp rfl rfl) (.cint rfl)) ?_
                  refine RK.c (S.move .none rfl (.tmp rfl rfl)) ?_
                  refine RK.splitD (t := 102) rfl (fun g102 => ?_) (fun g102 => ?_)
                  ·
                    refine RK.c (S.move (.yes rfl rfl rfl rfl) rfl (.tmp rfl rfl)) ?_
                    refine RK.c (S.bloadN ti33 (.yes rfl rfl rfl rfl) rfl (.tmp rfl rfl) rfl rfl rfl rfl) ?_
                    refine RK.c (S.bloadN ti51 (.yes rfl rfl rfl rfl) rfl (.tmp rfl rfl) rfl rfl rfl rfl) ?_
                    refine RK.c (S.call (ref_Deviations hb.fit (by omega) hvl hord hD) Tryz.call32 (.yes rfl rfl rfl rfl) rfl (.cons (.tmp rfl rfl) (.cons (.tmp rfl rfl) .nil)) rfl) ?_
                    refine RK.c (S.call (ref_SameDeviations) Tryz.call31 (.yes rfl rfl rfl rfl) rfl (.cons (.tmp rfl rfl) (.cons (.tmp rfl rfl) .nil)) rfl) ?_
                    refine RK.c (S.pickT .none rfl (.tmp rfl rfl) (.tmp rfl rfl) rfl) ?_
                    refine RK.c (S.move .none rfl (.tmp rfl rfl)) ?_
                    refine RK.splitD (t := 109) rfl (fun g109 => ?_) (fun g109 => ?_)
                    ·
                      refine RK.c (S.move (.yes rfl rfl rfl rfl) rfl (.tmp rfl rfl)) ?_
                      refine RK.c (S.eql (.yes rfl rfl rfl rfl) rfl (.tmp rfl rfl) (.cint rfl)) ?_
                      refine RK.c (S.pickT .none rfl (.tmp rfl rfl) (.tmp rfl rfl) rfl) ?_
                      refine RK.c (S.move .none rfl (.tmp rfl rfl)) ?_
                      refine RK.splitD (t := 113) rfl (fun g113 => ?_) (fun g113 => ?_)
                      ·
                        refine RK.c (S.move (.yes rfl rfl rfl rfl) rfl (.tmp rfl rfl)) ?_
                        refine RK.c (S.bloadN ti33 (.yes rfl rfl rfl rfl) rfl (.tmp rfl rfl) rfl rfl rfl rfl) ?_
                        refine RK.c (S.bloadN ti51 (.yes rfl rfl rfl rfl) rfl (.tmp rfl rfl) rfl rfl rfl rfl) ?_
                        refine RK.c (S.call (ref_Verdict hb.fit (by omega) hvl hord hD) Tryz.call33 (.yes rfl rfl rfl rfl) rfl (.cons (.tmp rfl rfl) (.cons (.tmp rfl rfl) .nil)) rfl) ?_
                        refine RK.c (S.eql (.yes rfl rfl rfl rfl) rfl (.tmp rfl rfl) (.tmp rfl rfl)) ?_
                        refine RK.c (S.pickT .none rfl (.tmp rfl rfl) (.tmp rfl rfl) rfl) ?_
                        refine RK.c (S.assign .none rfl (.tmp rfl rfl)) ?_
                        refine RK.nil ?_
                        refine Ab.D.code ?_
                        refine OK.ret (Ret.r1 (.tmp rfl rfl (.c (.same rfl) rfl) rfl) ?_)
                        first | rfl | (refine ret_dT ?_; omega) | (refine ret_abs ?_; omega) | (refine ret_dT ?_; exact hvv) | (refine ret_abs ?_; rw [hd] at g109; simp at g109; done)
                      ·
                        refine RK.c (S.skip rfl rfl rfl rfl rfl) ?_
                        refine RK.c (S.skip rfl rfl rfl rfl rfl) ?_
                        refine RK.c (S.skip rfl rfl rfl rfl rfl) ?_
                        refine RK.c (S.skip rfl rfl rfl rfl rfl) ?_
                        refine RK.c (S.skip rfl rfl rfl rfl rfl) ?_
                        refine RK.c (S.pickF .none rfl (.tmp rfl rfl) .cbool rfl) ?_
                        refine RK.c (S.assign .none rfl (.tmp rfl rfl)) ?_
                        refine RK.nil ?_
                        refine Ab.D.code ?_
                        refine OK.ret (Ret.r1 (.tmp rfl rfl (.c (.same rfl) rfl) rfl) ?_)
                        first | rfl | (refine ret_dT ?_; omega) | (refine ret_abs ?_; omega) | (refine ret_dT ?_; exact hvv) | (refine ret_abs ?_; rw [hd] at g109; simp at g109; done)
                    ·
                      refine RK.c (S.skip rfl rfl rfl rfl rfl) ?_
                      refine RK.c (S.skip rfl rfl rfl rfl rfl) ?_
                      refine RK.c (S.pickF .none rfl (.tmp rfl rfl) .cbool rfl) ?_
                      refine RK.c (S.move .none rfl (.tmp rfl rfl)) ?_
                      refine RK.c (S.skip rfl rfl rfl rfl rfl) ?_
                      refine RK.c (S.skip rfl rfl rfl rfl rfl) ?_
                      refine RK.c (S.skip rfl rfl rfl rfl rfl) ?_
                      refine RK.c (S.skip rfl rfl rfl rfl rfl) ?_
                      refine RK.c (S.skip rfl rfl rfl rfl rfl) ?_
                      refine RK.c (S.pickF .none rfl (.tmp rfl rfl) .cbool rfl) ?_
                      refine RK.c (S.assign .none rfl (.tmp rfl rfl)) ?_
                      refine RK.nil ?_
                      refine Ab.D.code ?_
                      refine OK.ret (Ret.r1 (.tmp rfl rfl (.c (.same rfl) rfl) rfl) ?_)
                      first | rfl | (refine ret_dT ?_; omega) | (refine ret_abs ?_; omega) | (refine ret_dT ?_; exact hvv) | (refine ret_abs ?_; rw [hd] at g109; simp at g109; done)
                  ·
                    refine RK.c (S.skip rfl rfl rfl rfl rfl) ?_
                    refine RK.c (S.skip rfl rfl rfl rfl rfl) ?_
                    refine RK.c (S.skip rfl rfl rfl rfl rfl) ?_
                    refine RK.c (S.skip rfl rfl rfl rfl rfl) ?_
                    refine RK.c (S.skip rfl rfl rfl rfl rfl) ?_
                    refine RK.c (S.pickF .none rfl (.tmp rfl rfl) .cbool rfl) ?_
                    refine RK.c (S.move .none rfl (.tmp rfl rfl)) ?_
                    refine RK.c (S.skip rfl rfl rfl rfl rfl) ?_
                    refine RK.c (S.skip rfl rfl rfl rfl rfl) ?_
                    refine RK.c (S.pickF .none rfl (.tmp rfl rfl) .cbool rfl) ?_
                    refine RK.c (S.move .none rfl (.tmp rfl rfl)) ?_
                    refine RK.c (S.skip rfl rfl rfl rfl rfl) ?_
                    refine RK.c (S.skip rfl rfl rfl rfl rfl) ?_
                    refine RK.c (S.skip rfl rfl rfl rfl rfl) ?_
                    refine RK.c (S.skip rfl rfl rfl rfl rfl) ?_
                    refine RK.c (S.skip rfl rfl rfl rfl rfl) ?_
                    refine RK.c (S.pickF .none rfl (.tmp rfl rfl) .cbool rfl) ?_
                    refine RK.c (S.assign .none rfl (.tmp rfl rfl)) ?_
                    refine RK.nil ?_
                    refine Ab.D.code ?_
                    refine OK.ret (Ret.r1 (.tmp rfl rfl (.c (.same rfl) rfl) rfl) ?_)
                    first | rfl | (refine ret_dT ?_; omega) | (refine ret_abs ?_; omega) | (refine ret_dT ?_; exact hvv) | (refine ret_abs ?_; rw [hd] at g109; simp at g109; done)

end Go.Proofs.YtfjldfkgjejpmaaGreat
