/-
  Trims, the greatest common divisor, the bound of alarms; whole records, envelopes.
-/
import Derived.Test.YtfjldfkgjejpmaaWh
namespace Go.Proofs.Ytfjldfkgjejpmaa
open Go.Ab

def trimErr (t n : Int) : Int := if 0 ≤ t ∧ t ≤ (n - 1).tdiv 2 then 0 else 2
theorem tdiv2_bd {n : Int} (hn : -1000000000000 ≤ n ∧ n ≤ 1000000000000) : -9223372036854775808 ≤ (n - 1).tdiv 2 ∧ (n - 1).tdiv 2 ≤ 9223372036854775807 := by
  by_cases h : 0 ≤ n - 1
  · have := Int.tdiv_eq_ediv_of_nonneg (b := 2) h
    omega
  · have h1 := Int.neg_tdiv (n - 1) 2
    have h2 := Int.tdiv_eq_ediv_of_nonneg (a := -(n - 1)) (b := 2) (by omega)
    omega
def gcdGo : Nat → Int → Int → Int
  | 0, a, _ => a
  | f + 1, a, b => if b = 0 then a else gcdGo f b (a.tmod b)
def gcdT (a b : Int) : Int := gcdGo (b.toNat + 1) a b
theorem gcdGo_more : ∀ (f g : Nat) (a b : Int), 0 ≤ a → 0 ≤ b → b.toNat < f → b.toNat < g → gcdGo f a b = gcdGo g a b
  | 0, _, _, _, _, _, h, _ => by omega
  | _ + 1, 0, _, _, _, _, _, h => by omega
  | f + 1, g + 1, a, b, ha, hb, h1, h2 => by
    simp only [gcdGo]
    split
    · rfl
    · have h3 : 0 ≤ a.tmod b := Int.tmod_nonneg b ha
      have h4 : a.tmod b < b := Int.tmod_lt_of_pos a (by omega)
      exact gcdGo_more f g b (a.tmod b) hb h3 (by omega) (by omega)
theorem gcdT_step {a b : Int} (ha : 0 ≤ a) (hb : 0 ≤ b) (h : b ≠ 0) : gcdT a b = gcdT b (a.tmod b) := by
  have h3 : 0 ≤ a.tmod b := Int.tmod_nonneg b ha
  have h4 : a.tmod b < b := Int.tmod_lt_of_pos a (by omega)
  rw [gcdT, gcdGo, if_neg h]
  exact gcdGo_more _ _ _ _ hb h3 (by omega) (by omega)
theorem gcdT_0 (a : Int) : gcdT a 0 = a := by simp [gcdT, gcdGo]
theorem gcdT_pos : ∀ (f : Nat) (a b : Int), 0 < a → 0 ≤ b → b.toNat < f → 0 < gcdT a b
  | 0, _, _, _, _, h => by omega
  | f + 1, a, b, ha, hb, h => by
    by_cases h0 : b = 0
    · subst h0; rw [gcdT_0]; exact ha
    · rw [gcdT_step (by omega) hb h0]
      have h3 : 0 ≤ a.tmod b := Int.tmod_nonneg b (by omega)
      have h4 : a.tmod b < b := Int.tmod_lt_of_pos a (by omega)
      exact gcdT_pos f b (a.tmod b) (by omega) h3 (by omega)
def recsErr1 (p : Plan) (r : Record) : Int := if (recChk p r).2 ≠ 0 then (recChk p r).2 else if (lostT r).length = 0 then 0 else 14
def recsErr (p : Plan) (l : List Record) : Int := if l.length = 0 then 10 else if 20 < l.length then 8 else (eachGo (fun _ r => recsErr1 p r) 0 l).2
def openRecs (p : Plan) (l : List Record) : Int := if planErr p ≠ 0 then planErr p else recsErr p l
theorem lostGo_len : ∀ (l : List Row) (i : Nat), (lostGo i l).length ≤ l.length
  | [], _ => Nat.le_refl _
  | x :: l, i => by
    have := lostGo_len l (i + 1)
    rw [lostGo]
    split
    · simp; omega
    · simp; omega
theorem recChk_len {p : Plan} {r : Record} (h : (recChk p r).2 = 0) : (r.rows.length : Int) = p.ticks := by
  unfold recChk at h
  split at h
  · contradiction
  · omega
def boundErr (p : Plan) (parts trim : Int) : Int := if planErr p ≠ 0 then planErr p else if ¬ (1 ≤ parts ∧ parts ≤ 20) then 2 else trimErr trim parts
theorem planErr_0 {p : Plan} (h : planErr p = 0) : 1 ≤ p.channels.length ∧ p.channels.length ≤ 4 ∧ 1 ≤ p.ticks ∧ p.ticks ≤ 12 ∧ (eachGo (chanErr p.channels) 0 p.channels).2 = 0 := by
  unfold planErr planChk at h
  split at h
  · contradiction
  · split at h
    · contradiction
    · split at h
      · contradiction
      · rename_i h3
        by_cases h4 : 1 ≤ p.ticks ∧ p.ticks ≤ 12
        · refine ⟨by omega, by omega, h4.1, h4.2, ?_⟩
          simpa using h3
        · rw [if_neg h4] at h; contradiction
theorem trimErr_0 {t n : Int} (hn : 1 ≤ n) (h : trimErr t n = 0) : 0 ≤ t ∧ 2 * t ≤ n - 1 := by
  unfold trimErr at h
  split at h
  · have := Int.tdiv_eq_ediv_of_nonneg (a := n - 1) (b := 2) (by omega)
    omega
  · contradiction
def boundNum (p : Plan) (parts trim : Int) : Int := if 2 * (trim + 1) * p.channels.length * p.ticks < parts + 1 then 2 * (trim + 1) * p.channels.length * p.ticks else parts + 1

theorem mon_trimErr {t n : Int} (hn : -1000000000000 ≤ n ∧ n ≤ 1000000000000) : Ct Try.prog 81 [.int .i64 t, .int .i64 n] (.int .i64 (trimErr t n)) := by
  refine Ct.intro (rs := [.tmp 4]) Try.func81 rfl Try.ntmps81 Try.results81 rfl rfl rfl fun w h => ?_
  refine OK.seq ?_
  refine OK.reg ?_
  refine RK.c (S.assign .none rfl (.cint rfl)) ?_
  refine RK.nil ?_
  refine Ab.D.code ?_
  refine OK.seq ?_
  refine OK.reg ?_
  refine RK.c (S.move .none rfl (.tmp rfl rfl)) ?_
  refine RK.c (S.move .none rfl (.tmp rfl rfl)) ?_
  refine RK.c (S.sub .none rfl (.tmp rfl rfl) (.cint rfl) (IntWalk.i64_in _ (by omega)) (IntWalk.i64_in _ (by omega))) ?_
  refine RK.c (S.quo .none rfl (.tmp rfl rfl) (.cint rfl) (by decide) (IntWalk.i64_in _ (tdiv2_bd hn)) (IntWalk.i64_in _ (tdiv2_bd hn))) ?_
  refine RK.c (S.call (mon_within) Try.call63 .none rfl (.cons (.tmp rfl rfl) (.cons (.cint rfl) (.cons (.tmp rfl rfl) .nil))) rfl) ?_
  refine RK.c (S.call (monitor_unless) Try.call57 .none rfl (.cons (.tmp rfl rfl) (.cons (.cint rfl) .nil)) rfl) ?_
  refine RK.c (S.assign .none rfl (.tmp rfl rfl)) ?_
  refine RK.nil ?_
  refine Ab.D.code ?_
  refine OK.ret (Ret.r1 (.tmp rfl rfl (.c (.same rfl) rfl) rfl) ?_)
  exact ret_i ite_unless

theorem mon_divisor {a b : Int} (ha : 0 ≤ a ∧ a ≤ 1000000000000) (hb : 0 ≤ b ∧ b ≤ 1000000000000) : Ct Try.prog 86 [.int .i64 a, .int .i64 b] (.int .i64 (gcdT a b)) := by
  refine Ct.intro (rs := [.tmp 4]) Try.func86 rfl Try.ntmps86 Try.results86 rfl rfl rfl fun w h => ?_
  refine OK.seq ?_
  refine OK.reg ?_
  refine RK.c (S.assign .none rfl (.cint rfl)) ?_
  refine RK.nil ?_
  refine Ab.D.code ?_
  refine OK.seq ?_
  refine OK.block ?_
  refine OK.loop2 [] (fun (x : Int) (y : Int) => [(0, .int .i64 x), (1, .int .i64 y)]) (fun x y => (0 ≤ x ∧ x ≤ 1000000000000) ∧ (0 ≤ y ∧ y ≤ 1000000000000) ∧ gcdT a b = gcdT x y) (fun x y => y.toNat) (a) (b) ⟨ha, hb, rfl⟩ ⟨rfl, rfl, trivial⟩ (fun _ _ => rfl) ?_
  rintro x y ⟨hx, hy, hg⟩
  refine OK.seq ?_
  refine OK.seq ?_
  refine OK.reg ?_
  refine RK.c (S.move .none rfl (.tmp rfl rfl)) ?_
  refine RK.c (S.neq .none rfl (.tmp rfl rfl) (.cint rfl)) ?_
  refine RK.nil ?_
  refine Ab.D.code ?_
  refine OK.condD rfl rfl (fun c6 => ?_) (fun c6 => ?_)
  ·
    have h3 : 0 ≤ x.tmod y := Int.tmod_nonneg y hx.1
    have h4 : x.tmod y < y := Int.tmod_lt_of_pos x (by omega)
    refine OK.skip ?_
    refine Ab.D.code ?_
    refine OK.block ?_
    refine OK.regionDraw follows (.c (S.move .none rfl (.tmp rfl rfl))
      (.c (S.move .none rfl (.tmp rfl rfl))
      (.c (S.move .none rfl (.tmp rfl rfl))
      (.c (S.rem .none rfl (.tmp rfl rfl) (.tmp rfl rfl) c6 rfl (IntWalk.i64_in _ (by omega)))
      (.c (S.assign .none rfl (.tmp rfl rfl))
      (.c (S.assign .none rfl (.tmp rfl rfl))
      .nil)))))) (by kernel_rfl) ?_
    refine Ab.D.blk ?_
    refine Ab.D.lp ⟨y, x.tmod y, ⟨hy, ⟨h3, by omega⟩, ?_⟩, (by omega), rfl, rfl, trivial⟩
    rw [hg, gcdT_step hx.1 hy.1 c6]
  ·
    refine OK.exit rfl ?_
    refine Ab.D.code ?_
    refine OK.seq ?_
    refine OK.reg ?_
    refine RK.c (S.move .none rfl (.tmp rfl rfl)) ?_
    refine RK.c (S.assign .none rfl (.tmp rfl rfl)) ?_
    refine RK.nil ?_
    refine Ab.D.code ?_
    refine OK.ret (Ret.r1 (.tmp rfl rfl (.c (.same rfl) rfl) rfl) ?_)
    have : y = 0 := by omega
    subst this
    rw [hg, gcdT_0]

theorem mon_record1 {p : Plan} {i : Nat} {r : Record} (hp : planErr p = 0) : Ct Try.prog 102 [.int .i64 i, .agg r.cs, .eptr p.cs] (.int .i64 (recsErr1 p r)) := by
  refine Ct.intro (rs := [.tmp 5]) Try.func102 rfl Try.ntmps102 Try.results102 rfl rfl rfl fun w h => ?_
  refine OK.seq ?_
  refine OK.reg ?_
  refine RK.c (S.box (k := 4) rfl .none rfl (.tmp rfl rfl) rfl) ?_
  refine RK.c (S.assign .none rfl (.cint rfl)) ?_
  refine RK.nil ?_
  refine Ab.D.code ?_
  refine OK.seq ?_
  refine OK.seq ?_
  refine OK.reg ?_
  refine RK.c (S.loadN ti129 .none rfl (.tmp rfl rfl) rfl rfl) ?_
  refine RK.c (S.bloadN ti56 .none rfl (.tmp rfl rfl) rfl rfl rfl rfl) ?_
  refine RK.c (S.call (mon_recordErr) Try.call71 .none rfl (.cons (.tmp rfl rfl) (.cons (.tmp rfl rfl) .nil)) rfl) ?_
  refine RK.c (S.move .none rfl (.tmp rfl rfl)) ?_
  refine RK.c (S.extract .none rfl (.tmp rfl rfl) rfl rfl) ?_
  refine RK.c (S.extract .none rfl (.tmp rfl rfl) rfl rfl) ?_
  refine RK.c (S.assign .none rfl (.tmp rfl rfl)) ?_
  refine RK.c (S.assign .none rfl (.tmp rfl rfl)) ?_
  refine RK.nil ?_
  refine Ab.D.code ?_
  refine OK.seq ?_
  refine OK.reg ?_
  refine RK.c (S.move .none rfl (.tmp rfl rfl)) ?_
  refine RK.c (S.neq .none rfl (.tmp rfl rfl) (.cint rfl)) ?_
  refine RK.nil ?_
  refine Ab.D.code ?_
  refine OK.condD rfl rfl (fun c15 => ?_) (fun c15 => ?_)
  ·
    refine OK.seq ?_
    refine OK.reg ?_
    refine RK.c (S.move .none rfl (.tmp rfl rfl)) ?_
    refine RK.c (S.assign .none rfl (.tmp rfl rfl)) ?_
    refine RK.nil ?_
    refine Ab.D.code ?_
    refine OK.ret (Ret.r1 (.tmp rfl rfl (.c (.same rfl) rfl) rfl) ?_)
    refine ret_i ?_
    rw [recsErr1, if_pos c15]
  ·
    refine OK.skip ?_
    refine Ab.D.code ?_
    refine OK.seq ?_
    refine OK.reg ?_
    refine RK.c (S.bloadN ti56 .none rfl (.tmp rfl rfl) rfl rfl rfl rfl) ?_
    refine RK.c (S.call (mon_lost (by have := planErr_0 hp; have := recChk_len (p := p) (r := r) (by omega); omega)) Try.call72 .none rfl (.cons (.tmp rfl rfl) .nil) rfl) ?_
    refine RK.c (S.lenM si23 .none rfl (.tmp rfl rfl)) ?_
    refine RK.c (S.eql .none rfl (.tmp rfl rfl) (.cint rfl)) ?_
    refine RK.c (S.call (monitor_unless) Try.call57 .none rfl (.cons (.tmp rfl rfl) (.cons (.cint rfl) .nil)) rfl) ?_
    refine RK.c (S.assign .none rfl (.tmp rfl rfl)) ?_
    refine RK.nil ?_
    refine Ab.D.code ?_
    refine OK.ret (Ret.r1 (.tmp rfl rfl (.c (.same rfl) rfl) rfl) ?_)
    refine ret_i ?_
    rw [recsErr1, if_neg c15, ite_unless]
    split <;> split <;> omega

theorem mon_openRecords {p : Plan} {l : List Record} : Ct Try.prog 80 [.agg p.cs, .sl (l.map Record.cs)] (.tup [.agg p.cs, .int .i64 (openRecs p l)]) := by
  refine Ct.intro (rs := [.cell 4 129, .tmp 5]) Try.func80 rfl Try.ntmps80 Try.results80 rfl rfl rfl fun w h => ?_
  refine OK.seq ?_
  refine OK.reg ?_
  refine RK.c (S.box (k := 2) rfl .none rfl (.tmp rfl rfl) rfl) ?_
  refine RK.c (S.alloc (k := 4) ze129 rfl .none rfl) ?_
  refine RK.c (S.assign .none rfl (.cint rfl)) ?_
  refine RK.nil ?_
  refine Ab.D.code ?_
  refine OK.seq ?_
  refine OK.reg ?_
  refine RK.c (S.bloadN ti53 .none rfl (.tmp rfl rfl) rfl rfl rfl rfl) ?_
  refine RK.c (S.call (mon_open) Try.call70 .none rfl (.cons (.tmp rfl rfl) .nil) rfl) ?_
  refine RK.c (S.move .none rfl (.tmp rfl rfl)) ?_
  refine RK.c (S.extract .none rfl (.tmp rfl rfl) rfl rfl) ?_
  refine RK.c (S.extract .none rfl (.tmp rfl rfl) rfl rfl) ?_
  refine RK.c (S.alloc (k := 6) ze129 rfl .none rfl) ?_
  refine RK.c (S.store ti129 .none (.tmp rfl rfl) (.tmp rfl rfl) rfl rfl rfl rfl rfl rfl) ?_
  refine RK.c (S.assign .none rfl (.tmp rfl rfl)) ?_
  refine RK.nil ?_
  refine Ab.D.code ?_
  refine OK.seq ?_
  refine OK.seq ?_
  refine OK.reg ?_
  refine RK.c (S.move .none rfl (.tmp rfl rfl)) ?_
  refine RK.c (S.move .none rfl (.tmp rfl rfl)) ?_
  refine RK.c (S.lenM si97 .none rfl (.tmp rfl rfl)) ?_
  refine RK.c (S.gtr .none rfl (.tmp rfl rfl) (.cint rfl)) ?_
  refine RK.c (S.call (monitor_unless) Try.call57 .none rfl (.cons (.tmp rfl rfl) (.cons (.cint rfl) .nil)) rfl) ?_
  refine RK.c (S.move .none rfl (.tmp rfl rfl)) ?_
  refine RK.c (S.lenM si97 .none rfl (.tmp rfl rfl)) ?_
  refine RK.c (S.leq .none rfl (.tmp rfl rfl) (.cint rfl)) ?_
  refine RK.c (S.call (monitor_unless) Try.call57 .none rfl (.cons (.tmp rfl rfl) (.cons (.cint rfl) .nil)) rfl) ?_
  refine RK.c (S.mkSlice (k := 22) (rows := [[_], [_], [_]]) ai155 .none rfl (.cons (.tmp rfl rfl) (.cons (.tmp rfl rfl) (.cons (.tmp rfl rfl) .nil))) rfl rfl rfl rfl rfl rfl rfl) ?_
  refine RK.c (S.callL (monitor_first (l := [_, _, _])) Try.call56 .none rfl (.cons (.tmp rfl rfl) .nil) (.cons (.p (.own rfl rfl) rfl) .nil) rfl) ?_
  refine RK.c (S.assign .none rfl (.tmp rfl rfl)) ?_
  refine RK.nil ?_
  refine Ab.D.code ?_
  refine OK.seq ?_
  refine OK.reg ?_
  refine RK.c (S.move .none rfl (.tmp rfl rfl)) ?_
  refine RK.c (S.neq .none rfl (.tmp rfl rfl) (.cint rfl)) ?_
  refine RK.nil ?_
  refine Ab.D.code ?_
  refine OK.condD rfl rfl (fun c25 => ?_) (fun c25 => ?_)
  ·
    refine OK.seq ?_
    refine OK.reg ?_
    refine RK.c (S.bloadN ti129 .none rfl (.tmp rfl rfl) rfl rfl rfl rfl) ?_
    refine RK.c (S.move .none rfl (.tmp rfl rfl)) ?_
    refine RK.c (S.store ti129 .none (.tmp rfl rfl) (.tmp rfl rfl) rfl rfl rfl rfl rfl rfl) ?_
    refine RK.c (S.assign .none rfl (.tmp rfl rfl)) ?_
    refine RK.nil ?_
    refine Ab.D.code ?_
    refine OK.ret (Ret.r2 (.cellN rfl rfl rfl rfl ti129 rfl (.k (.same rfl) (.k (.same rfl) .z))) (.tmp rfl rfl (.c (.same rfl) rfl) rfl) ?_)
    refine congrArg (fun z => X.tup [.agg p.cs, .int .i64 z]) ?_
    rw [openRecs]
    rw [firstE3] at c25 ⊢
    simp only [ite_unless, recsErr] at c25 ⊢
    repeat' split at c25
    all_goals (repeat' split)
    all_goals omega
  ·
    rw [firstE3] at c25
    have hp : planErr p = 0 := by
      split at c25
      · contradiction
      · omega
    have hq : l.length ≠ 0 ∧ ¬ 20 < l.length := by
      rw [hp] at c25
      simp only [ite_unless] at c25
      repeat' split at c25
      all_goals omega
    refine OK.skip ?_
    refine Ab.D.code ?_
    refine OK.seq ?_
    refine OK.reg ?_
    refine RK.c (S.move .none rfl (.tmp rfl rfl)) ?_
    refine RK.c (S.makeFunc1 .none rfl (.tmp rfl rfl) rfl) ?_
    refine RK.c (S.callL (each_Record (l := l) (g := fun _ r => recsErr1 p r) (caps := [.eptr p.cs]) (fun i x _ => mon_record1 hp) Try.call102 ⟨rfl, rfl⟩) Try.call101 .none rfl (.cons (.tmp rfl rfl) (.cons (.tmp rfl rfl) .nil)) (.cons (.same rfl) (.cons (.fn (.cons (.ptr rfl rfl rfl rfl) .nil)) .nil)) rfl) ?_
    refine RK.c (S.move .none rfl (.tmp rfl rfl)) ?_
    refine RK.c (S.extract .none rfl (.tmp rfl rfl) rfl rfl) ?_
    refine RK.c (S.extract .none rfl (.tmp rfl rfl) rfl rfl) ?_
    refine RK.c (S.assign .none rfl (.tmp rfl rfl)) ?_
    refine RK.nil ?_
    refine Ab.D.code ?_
    refine OK.seq ?_
    refine OK.reg ?_
    refine RK.c (S.bloadN ti129 .none rfl (.tmp rfl rfl) rfl rfl rfl rfl) ?_
    refine RK.c (S.move .none rfl (.tmp rfl rfl)) ?_
    refine RK.c (S.store ti129 .none (.tmp rfl rfl) (.tmp rfl rfl) rfl rfl rfl rfl rfl rfl) ?_
    refine RK.c (S.assign .none rfl (.tmp rfl rfl)) ?_
    refine RK.nil ?_
    refine Ab.D.code ?_
    refine OK.ret (Ret.r2 (.cellN rfl rfl rfl rfl ti129 rfl (.k (.same rfl) (.k (.same rfl) .z))) (.tmp rfl rfl (.c (.same rfl) rfl) rfl) ?_)
    refine congrArg (fun z => X.tup [.agg p.cs, .int .i64 z]) ?_
    rw [openRecs, if_neg (by omega), recsErr, if_neg (by omega), if_neg hq.2]

end Go.Proofs.Ytfjldfkgjejpmaa
