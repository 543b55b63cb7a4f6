/-
  The bound of alarms; envelopes.
-/
import Derived.Test.YtfjldfkgjejpmaaSh
import Derived.Test.YtfjldfkgjejpmaaWi
namespace Go.Proofs.Ytfjldfkgjejpmaa
open Go.Ab

theorem mulb {a b A B : Int} (ha : 0 ≤ a) (hA : a ≤ A) (hb : 0 ≤ b) (hB : b ≤ B) : 0 ≤ a * b ∧ a * b ≤ A * B := ⟨Int.mul_nonneg ha hb, Int.mul_le_mul hA hB hb (by omega)⟩
def alarmT (p : Plan) (parts trim : Int) : Frac :=
  if boundErr p parts trim = 0 then ⟨(boundNum p parts trim).tdiv (gcdT (boundNum p parts trim) (parts + 1)), (parts + 1).tdiv (gcdT (boundNum p parts trim) (parts + 1))⟩ else ⟨0, 0⟩
theorem bound_bd {p : Plan} {parts trim : Int} (h : boundErr p parts trim = 0) : planErr p = 0 ∧ (1 ≤ parts ∧ parts ≤ 20) ∧ 0 ≤ trim ∧ 2 * trim ≤ parts - 1 := by
  unfold boundErr at h
  split at h
  · contradiction
  · split at h
    · contradiction
    · rename_i h1 h2
      exact ⟨by omega, by omega, trimErr_0 (by omega) h⟩
theorem num_bd {p : Plan} {parts trim : Int} (h : boundErr p parts trim = 0) : (0 ≤ 2 * (trim + 1) ∧ 2 * (trim + 1) ≤ 100) ∧ (0 ≤ 2 * (trim + 1) * p.channels.length ∧ 2 * (trim + 1) * p.channels.length ≤ 400) ∧ (0 ≤ 2 * (trim + 1) * p.channels.length * p.ticks ∧ 2 * (trim + 1) * p.channels.length * p.ticks ≤ 4800) := by
  obtain ⟨h1, h2, h3⟩ := bound_bd h
  have h4 := planErr_0 h1
  have e1 := mulb (a := 2 * (trim + 1)) (A := 100) (b := p.channels.length) (B := 4) (by omega) (by omega) (by omega) (by omega)
  have e2 := mulb (a := 2 * (trim + 1) * p.channels.length) (A := 400) (b := p.ticks) (B := 12) e1.1 (by omega) (by omega) (by omega)
  exact ⟨by omega, ⟨e1.1, by omega⟩, e2.1, by omega⟩
theorem boundNum_bd {p : Plan} {parts trim : Int} (h : boundErr p parts trim = 0) : 0 ≤ boundNum p parts trim ∧ boundNum p parts trim ≤ 4800 := by
  have h1 := num_bd h
  have h2 := bound_bd h
  unfold boundNum
  split <;> omega
theorem gcd_pos {a b : Int} (ha : 0 ≤ a) (hb : 0 < b) : 0 < gcdT a b := by
  rw [gcdT_step ha (by omega) (by omega)]
  exact gcdT_pos ((a.tmod b).toNat + 1) b (a.tmod b) hb (Int.tmod_nonneg b ha) (by omega)
theorem tdiv_bd {a g : Int} (ha : 0 ≤ a ∧ a ≤ 1000000) (hg : 0 < g) : -9223372036854775808 ≤ a.tdiv g ∧ a.tdiv g ≤ 9223372036854775807 := by
  have h1 := Int.tdiv_nonneg ha.1 (by omega : 0 ≤ g)
  have h2 : a.tdiv g ≤ a := Int.tdiv_le_self g ha.1
  omega
theorem boundErr_eq (p : Plan) (parts trim : Int) : (if firstE [planErr p, unlessE (decide (1 ≤ parts ∧ parts ≤ 20)) 2] = 0 then trimErr trim parts else firstE [planErr p, unlessE (decide (1 ≤ parts ∧ parts ≤ 20)) 2]) = boundErr p parts trim := by
  rw [firstE2, boundErr]
  by_cases h1 : planErr p = 0
  · by_cases h2 : 1 ≤ parts ∧ parts ≤ 20
    · rw [unlessE_of h2]; simp [h1, h2]
    · rw [unlessE_not h2]; simp [h1, h2]
  · simp [h1]

theorem mon_AlarmBound {p : Plan} {parts trim : Int} : Ct Try.prog 51 [.agg p.cs, .int .i64 parts, .int .i64 trim] (.tup [.agg (alarmT p parts trim).cs, .int .i64 (boundErr p parts trim)]) := by
  refine Ct.intro (rs := [.cell 6 104, .tmp 7]) Try.func51 rfl Try.ntmps51 Try.results51 rfl rfl rfl fun w h => ?_
  refine OK.seq ?_
  refine OK.reg ?_
  refine RK.c (S.box (k := 3) rfl .none rfl (.tmp rfl rfl) rfl) ?_
  refine RK.c (S.alloc (k := 6) ze104 rfl .none rfl) ?_
  refine RK.c (S.assign .none rfl (.cint rfl)) ?_
  refine RK.nil ?_
  refine Ab.D.code ?_
  refine OK.seq ?_
  refine OK.reg ?_
  refine RK.c (S.bloadN ti53 .none rfl (.tmp rfl rfl) rfl rfl rfl rfl) ?_
  refine RK.c (S.call (mon_open) Try.call70 .none rfl (.cons (.tmp rfl rfl) .nil) rfl) ?_
  refine RK.c (S.move .none rfl (.tmp rfl rfl)) ?_
  refine RK.c (S.extract .none rfl (.tmp rfl rfl) rfl rfl) ?_
  refine RK.c (S.extract .none rfl (.tmp rfl rfl) rfl rfl) ?_
  refine RK.c (S.alloc (k := 8) ze129 rfl .none rfl) ?_
  refine RK.c (S.store ti129 .none (.tmp rfl rfl) (.tmp rfl rfl) rfl rfl rfl rfl rfl rfl) ?_
  refine RK.c (S.assign .none rfl (.tmp rfl rfl)) ?_
  refine RK.nil ?_
  refine Ab.D.code ?_
  refine OK.seq ?_
  refine OK.reg ?_
  refine RK.c (S.move .none rfl (.tmp rfl rfl)) ?_
  refine RK.c (S.move .none rfl (.tmp rfl rfl)) ?_
  refine RK.c (S.call (mon_within) Try.call63 .none rfl (.cons (.tmp rfl rfl) (.cons (.cint rfl) (.cons (.cint rfl) .nil))) rfl) ?_
  refine RK.c (S.call (monitor_unless) Try.call57 .none rfl (.cons (.tmp rfl rfl) (.cons (.cint rfl) .nil)) rfl) ?_
  refine RK.c (S.mkSlice (k := 22) (rows := [[_], [_]]) ai155 .none rfl (.cons (.tmp rfl rfl) (.cons (.tmp rfl rfl) .nil)) rfl rfl rfl rfl rfl rfl rfl) ?_
  refine RK.c (S.callL (monitor_first (l := [_, _])) Try.call56 .none rfl (.cons (.tmp rfl rfl) .nil) (.cons (.p (.own rfl rfl) rfl) .nil) rfl) ?_
  refine RK.c (S.assign .none rfl (.tmp rfl rfl)) ?_
  refine RK.nil ?_
  refine Ab.D.code ?_
  refine OK.seq ?_
  refine OK.seq ?_
  refine OK.reg ?_
  refine RK.c (S.move .none rfl (.tmp rfl rfl)) ?_
  refine RK.c (S.eql .none rfl (.tmp rfl rfl) (.cint rfl)) ?_
  refine RK.nil ?_
  refine Ab.D.code ?_
  refine OK.condD rfl rfl (fun c25 => ?_) (fun c25 => ?_)
  ·
    have hq := boundErr_eq p parts trim
    rw [if_pos c25] at hq
    have hpa : 1 ≤ parts ∧ parts ≤ 20 := by
      rw [firstE2] at c25
      simp only [ite_unless] at c25
      repeat' split at c25
      all_goals omega
    refine OK.reg ?_
    refine RK.c (S.move .none rfl (.tmp rfl rfl)) ?_
    refine RK.c (S.move .none rfl (.tmp rfl rfl)) ?_
    refine RK.c (S.call (mon_trimErr (by omega)) Try.call81 .none rfl (.cons (.tmp rfl rfl) (.cons (.tmp rfl rfl) .nil)) rfl) ?_
    refine RK.c (S.assign .none rfl (.tmp rfl rfl)) ?_
    refine RK.nil ?_
    refine Ab.D.code ?_
    refine OK.seq ?_
    refine OK.seq ?_
    refine OK.reg ?_
    refine RK.c (S.move .none rfl (.tmp rfl rfl)) ?_
    refine RK.c (S.neq .none rfl (.tmp rfl rfl) (.cint rfl)) ?_
    refine RK.nil ?_
    refine Ab.D.code ?_
    refine OK.condD rfl rfl (fun c30 => ?_) (fun c30 => ?_)
    ·
      refine OK.seq ?_
      refine OK.reg ?_
      refine RK.c (S.build bu104 rfl .none rfl .nil rfl rfl) ?_
      refine RK.c (S.move .none rfl (.tmp rfl rfl)) ?_
      refine RK.c (S.store ti104 .none (.tmp rfl rfl) (.tmp rfl rfl) rfl rfl rfl rfl rfl rfl) ?_
      refine RK.c (S.assign .none rfl (.tmp rfl rfl)) ?_
      refine RK.nil ?_
      refine Ab.D.code ?_
      refine OK.ret (Ret.r2 (.cellN rfl rfl rfl rfl ti104 rfl (.k (.same rfl) (.k (.same rfl) .z))) (.tmp rfl rfl (.c (.same rfl) rfl) rfl) ?_)
      rw [hq, alarmT, if_neg (show ¬ boundErr p parts trim = 0 by omega)]
      rfl
    ·
      have he : boundErr p parts trim = 0 := by omega
      obtain ⟨n1, n2, n3⟩ := num_bd he
      have hbd := bound_bd he
      have hnb := boundNum_bd he
      refine OK.skip ?_
      refine Ab.D.code ?_
      refine OK.seq ?_
      refine OK.reg ?_
      refine RK.c (S.move .none rfl (.tmp rfl rfl)) ?_
      refine RK.c (S.add .none rfl (.tmp rfl rfl) (.cint rfl) (IntWalk.i64_in _ (by omega)) (IntWalk.i64_in _ (by omega))) ?_
      refine RK.c (S.assign .none rfl (.tmp rfl rfl)) ?_
      refine RK.nil ?_
      refine Ab.D.code ?_
      refine OK.seq ?_
      refine OK.reg ?_
      refine RK.c (S.move .none rfl (.tmp rfl rfl)) ?_
      refine RK.c (S.move .none rfl (.tmp rfl rfl)) ?_
      refine RK.c (S.add .none rfl (.tmp rfl rfl) (.cint rfl) (IntWalk.i64_in _ (by omega)) (IntWalk.i64_in _ (by omega))) ?_
      refine RK.c (S.mul .none rfl (.cint rfl) (.tmp rfl rfl) (IntWalk.i64_in _ (by omega)) (IntWalk.i64_in _ (by omega))) ?_
      refine RK.c (S.bfield fi129_0 .none rfl (.tmp rfl rfl)) ?_
      refine RK.c (S.bfield fi53_0 .none rfl (.tmp rfl rfl)) ?_
      refine RK.c (S.bload1 ti51 .none rfl (.tmp rfl rfl) rfl rfl rfl rfl) ?_
      refine RK.c (S.lenM si51 .none rfl (.tmp rfl rfl)) ?_
      refine RK.c (S.mul .none rfl (.tmp rfl rfl) (.tmp rfl rfl) (IntWalk.i64_in _ (by omega)) (IntWalk.i64_in _ (by omega))) ?_
      refine RK.c (S.bfield fi129_0 .none rfl (.tmp rfl rfl)) ?_
      refine RK.c (S.bfield fi53_1 .none rfl (.tmp rfl rfl)) ?_
      refine RK.c (S.bload1 ti3 .none rfl (.tmp rfl rfl) rfl rfl rfl rfl) ?_
      refine RK.c (S.mul .none rfl (.tmp rfl rfl) (.tmp rfl rfl) (IntWalk.i64_in _ (by omega)) (IntWalk.i64_in _ (by omega))) ?_
      refine RK.c (S.min2 .none rfl (.tmp rfl rfl) (.tmp rfl rfl)) ?_
      refine RK.c (S.assign .none rfl (.tmp rfl rfl)) ?_
      refine RK.nil ?_
      refine Ab.D.code ?_
      refine OK.seq ?_
      refine OK.reg ?_
      refine RK.c (S.move .none rfl (.tmp rfl rfl)) ?_
      refine RK.c (S.move .none rfl (.tmp rfl rfl)) ?_
      refine RK.c (S.call (mon_divisor (a := boundNum p parts trim) (b := parts + 1) (by omega) (by omega)) Try.call86 .none rfl (.cons (.tmp rfl rfl) (.cons (.tmp rfl rfl) .nil)) rfl) ?_
      refine RK.c (S.assign .none rfl (.tmp rfl rfl)) ?_
      refine RK.nil ?_
      refine Ab.D.code ?_
      refine OK.seq ?_
      refine OK.regionDraw follows (.c (S.move .none rfl (.tmp rfl rfl))
        (.c (S.move .none rfl (.tmp rfl rfl))
        (.c (S.quo .none rfl (.tmp rfl rfl) (.tmp rfl rfl) (by have := gcd_pos (a := boundNum p parts trim) (b := parts + 1) (boundNum_bd he).1 (by omega); omega) (IntWalk.i64_in _ (tdiv_bd (by have := boundNum_bd he; omega) (gcd_pos (boundNum_bd he).1 (by omega)))) (IntWalk.i64_in _ (tdiv_bd (by have := boundNum_bd he; omega) (gcd_pos (boundNum_bd he).1 (by omega)))))
        (.c (S.move .none rfl (.tmp rfl rfl))
        (.c (S.move .none rfl (.tmp rfl rfl))
        (.c (S.quo .none rfl (.tmp rfl rfl) (.tmp rfl rfl) (by have := gcd_pos (a := boundNum p parts trim) (b := parts + 1) (boundNum_bd he).1 (by omega); omega) (IntWalk.i64_in _ (tdiv_bd (by have := boundNum_bd he; omega) (gcd_pos (boundNum_bd he).1 (by omega)))) (IntWalk.i64_in _ (tdiv_bd (by have := boundNum_bd he; omega) (gcd_pos (boundNum_bd he).1 (by omega)))))
        (.c (S.build bu104 rfl .none rfl (.cons (.tmp rfl rfl) (.cons (.tmp rfl rfl) .nil)) rfl rfl)
        (.c (S.store ti104 .none (.tmp rfl rfl) (.tmp rfl rfl) rfl rfl rfl rfl rfl rfl)
        (.c (S.assign .none rfl (.cint rfl))
        .nil))))))))) (by kernel_rfl) ?_
      refine Ab.D.code ?_
      refine OK.ret (Ret.r2 (.cellN rfl rfl rfl rfl ti104 rfl (.k (.same rfl) (.k (.same rfl) .z))) (.tmp rfl rfl (.c (.same rfl) rfl) rfl) ?_)
      rw [alarmT, if_pos he, he]
      rfl
  ·
    have hq := boundErr_eq p parts trim
    rw [if_neg c25] at hq
    refine OK.skip ?_
    refine Ab.D.code ?_
    refine OK.seq ?_
    refine OK.seq ?_
    refine OK.reg ?_
    refine RK.c (S.move .none rfl (.tmp rfl rfl)) ?_
    refine RK.c (S.neq .none rfl (.tmp rfl rfl) (.cint rfl)) ?_
    refine RK.nil ?_
    refine Ab.D.code ?_
    refine OK.condD rfl rfl (fun c30 => ?_) (fun c30 => ?_)
    ·
      refine OK.seq ?_
      refine OK.reg ?_
      refine RK.c (S.build bu104 rfl .none rfl .nil rfl rfl) ?_
      refine RK.c (S.move .none rfl (.tmp rfl rfl)) ?_
      refine RK.c (S.store ti104 .none (.tmp rfl rfl) (.tmp rfl rfl) rfl rfl rfl rfl rfl rfl) ?_
      refine RK.c (S.assign .none rfl (.tmp rfl rfl)) ?_
      refine RK.nil ?_
      refine Ab.D.code ?_
      refine OK.ret (Ret.r2 (.cellN rfl rfl rfl rfl ti104 rfl (.k (.same rfl) (.k (.same rfl) .z))) (.tmp rfl rfl (.c (.same rfl) rfl) rfl) ?_)
      rw [hq, alarmT, if_neg (show ¬ boundErr p parts trim = 0 by omega)]
      rfl
    ·
      have he : boundErr p parts trim = 0 := by omega
      obtain ⟨n1, n2, n3⟩ := num_bd he
      have hbd := bound_bd he
      have hnb := boundNum_bd he
      refine OK.skip ?_
      refine Ab.D.code ?_
      refine OK.seq ?_
      refine OK.reg ?_
      refine RK.c (S.move .none rfl (.tmp rfl rfl)) ?_
      refine RK.c (S.add .none rfl (.tmp rfl rfl) (.cint rfl) (IntWalk.i64_in _ (by omega)) (IntWalk.i64_in _ (by omega))) ?_
      refine RK.c (S.assign .none rfl (.tmp rfl rfl)) ?_
      refine RK.nil ?_
      refine Ab.D.code ?_
      refine OK.seq ?_
      refine OK.reg ?_
      refine RK.c (S.move .none rfl (.tmp rfl rfl)) ?_
      refine RK.c (S.move .none rfl (.tmp rfl rfl)) ?_
      refine RK.c (S.add .none rfl (.tmp rfl rfl) (.cint rfl) (IntWalk.i64_in _ (by omega)) (IntWalk.i64_in _ (by omega))) ?_
      refine RK.c (S.mul .none rfl (.cint rfl) (.tmp rfl rfl) (IntWalk.i64_in _ (by omega)) (IntWalk.i64_in _ (by omega))) ?_
      refine RK.c (S.bfield fi129_0 .none rfl (.tmp rfl rfl)) ?_
      refine RK.c (S.bfield fi53_0 .none rfl (.tmp rfl rfl)) ?_
      refine RK.c (S.bload1 ti51 .none rfl (.tmp rfl rfl) rfl rfl rfl rfl) ?_
      refine RK.c (S.lenM si51 .none rfl (.tmp rfl rfl)) ?_
      refine RK.c (S.mul .none rfl (.tmp rfl rfl) (.tmp rfl rfl) (IntWalk.i64_in _ (by omega)) (IntWalk.i64_in _ (by omega))) ?_
      refine RK.c (S.bfield fi129_0 .none rfl (.tmp rfl rfl)) ?_
      refine RK.c (S.bfield fi53_1 .none rfl (.tmp rfl rfl)) ?_
      refine RK.c (S.bload1 ti3 .none rfl (.tmp rfl rfl) rfl rfl rfl rfl) ?_
      refine RK.c (S.mul .none rfl (.tmp rfl rfl) (.tmp rfl rfl) (IntWalk.i64_in _ (by omega)) (IntWalk.i64_in _ (by omega))) ?_
      refine RK.c (S.min2 .none rfl (.tmp rfl rfl) (.tmp rfl rfl)) ?_
      refine RK.c (S.assign .none rfl (.tmp rfl rfl)) ?_
      refine RK.nil ?_
      refine Ab.D.code ?_
      refine OK.seq ?_
      refine OK.reg ?_
      refine RK.c (S.move .none rfl (.tmp rfl rfl)) ?_
      refine RK.c (S.move .none rfl (.tmp rfl rfl)) ?_
      refine RK.c (S.call (mon_divisor (a := boundNum p parts trim) (b := parts + 1) (by omega) (by omega)) Try.call86 .none rfl (.cons (.tmp rfl rfl) (.cons (.tmp rfl rfl) .nil)) rfl) ?_
      refine RK.c (S.assign .none rfl (.tmp rfl rfl)) ?_
      refine RK.nil ?_
      refine Ab.D.code ?_
      refine OK.seq ?_
      refine OK.regionDraw follows (.c (S.move .none rfl (.tmp rfl rfl))
        (.c (S.move .none rfl (.tmp rfl rfl))
        (.c (S.quo .none rfl (.tmp rfl rfl) (.tmp rfl rfl) (by have := gcd_pos (a := boundNum p parts trim) (b := parts + 1) (boundNum_bd he).1 (by omega); omega) (IntWalk.i64_in _ (tdiv_bd (by have := boundNum_bd he; omega) (gcd_pos (boundNum_bd he).1 (by omega)))) (IntWalk.i64_in _ (tdiv_bd (by have := boundNum_bd he; omega) (gcd_pos (boundNum_bd he).1 (by omega)))))
        (.c (S.move .none rfl (.tmp rfl rfl))
        (.c (S.move .none rfl (.tmp rfl rfl))
        (.c (S.quo .none rfl (.tmp rfl rfl) (.tmp rfl rfl) (by have := gcd_pos (a := boundNum p parts trim) (b := parts + 1) (boundNum_bd he).1 (by omega); omega) (IntWalk.i64_in _ (tdiv_bd (by have := boundNum_bd he; omega) (gcd_pos (boundNum_bd he).1 (by omega)))) (IntWalk.i64_in _ (tdiv_bd (by have := boundNum_bd he; omega) (gcd_pos (boundNum_bd he).1 (by omega)))))
        (.c (S.build bu104 rfl .none rfl (.cons (.tmp rfl rfl) (.cons (.tmp rfl rfl) .nil)) rfl rfl)
        (.c (S.store ti104 .none (.tmp rfl rfl) (.tmp rfl rfl) rfl rfl rfl rfl rfl rfl)
        (.c (S.assign .none rfl (.cint rfl))
        .nil))))))))) (by kernel_rfl) ?_
      refine Ab.D.code ?_
      refine OK.ret (Ret.r2 (.cellN rfl rfl rfl rfl ti104 rfl (.k (.same rfl) (.k (.same rfl) .z))) (.tmp rfl rfl (.c (.same rfl) rfl) rfl) ?_)
      rw [alarmT, if_pos he, he]
      rfl

end Go.Proofs.Ytfjldfkgjejpmaa
