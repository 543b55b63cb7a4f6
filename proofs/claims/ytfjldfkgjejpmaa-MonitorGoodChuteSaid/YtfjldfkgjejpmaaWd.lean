/-
  Plans, values, records: what is valid, with an index; the ticks that are lost.
-/
import Derived.Test.YtfjldfkgjejpmaaWc
namespace Go.Proofs.Ytfjldfkgjejpmaa
open Go.Ab

theorem firstE2 (a b : Int) : firstE [a, b] = if a ≠ 0 then a else b := by
  simp only [firstE]
  split
  · rfl
  · split
    · rfl
    · omega
theorem firstE3 (a b c : Int) : firstE [a, b, c] = if a ≠ 0 then a else if b ≠ 0 then b else c := by
  simp only [firstE]
  split
  · rfl
  · split
    · rfl
    · split
      · rfl
      · omega
theorem unlessE_of {p : Prop} [Decidable p] {e : Int} (h : p) : unlessE (decide p) e = 0 := by simp [unlessE, h]
theorem unlessE_not {p : Prop} [Decidable p] {e : Int} (h : ¬ p) : unlessE (decide p) e = e := by simp [unlessE, h]
theorem planChk_0 {p : Plan} (h : p.channels.length = 0) : planChk p = (0, 10) := by simp [planChk, h]
theorem planChk_4 {p : Plan} (h : 4 < p.channels.length) : planChk p = (0, 8) := by
  rw [planChk, if_neg (by omega), if_pos h]
theorem planChk_r {p : Plan} (h : ¬ p.channels.length = 0) (h4 : ¬ 4 < p.channels.length) :
    planChk p = if (eachGo (chanErr p.channels) 0 p.channels).2 ≠ 0 then eachGo (chanErr p.channels) 0 p.channels else (0, if 1 ≤ p.ticks ∧ p.ticks ≤ 12 then 0 else 2) := by
  rw [planChk, if_neg h, if_neg h4]
theorem planHead (p : Plan) : firstE [unlessE (decide ((p.channels.length : Int) > 0)) 10, unlessE (decide ((p.channels.length : Int) ≤ 4)) 8] = if p.channels.length = 0 then 10 else if 4 < p.channels.length then 8 else 0 := by
  rw [firstE2]
  by_cases h : p.channels.length = 0
  · rw [unlessE_not (by omega), if_pos h]; rfl
  · by_cases h4 : 4 < p.channels.length
    · rw [unlessE_of (by omega), unlessE_not (by omega), if_neg h, if_pos h4]; rfl
    · rw [unlessE_of (by omega), unlessE_of (by omega), if_neg h, if_neg h4]; rfl
theorem planHead_ne {p : Plan} (c : firstE [unlessE (decide ((p.channels.length : Int) > 0)) 10, unlessE (decide ((p.channels.length : Int) ≤ 4)) 8] ≠ 0) :
    (0, firstE [unlessE (decide ((p.channels.length : Int) > 0)) 10, unlessE (decide ((p.channels.length : Int) ≤ 4)) 8]) = planChk p := by
  rw [planHead] at c ⊢
  by_cases h : p.channels.length = 0
  · rw [if_pos h, planChk_0 h]
  · rw [if_neg h] at c ⊢
    by_cases h4 : 4 < p.channels.length
    · rw [if_pos h4, planChk_4 h4]
    · rw [if_neg h4] at c; exact absurd rfl c
theorem planHead_eq {p : Plan} (c : ¬ firstE [unlessE (decide ((p.channels.length : Int) > 0)) 10, unlessE (decide ((p.channels.length : Int) ≤ 4)) 8] ≠ 0) : ¬ p.channels.length = 0 ∧ ¬ 4 < p.channels.length := by
  rw [planHead] at c
  refine ⟨fun h => c (by rw [if_pos h]; decide), fun h => c (by rw [if_neg (by omega), if_pos h]; decide)⟩
theorem lt_of_get {α : Type} {l : List α} {i : Nat} {x : α} (h : l[i]? = some x) : i ≤ l.length := Nat.le_of_lt (List.getElem?_eq_some_iff.1 h).1
theorem ite_unless {p : Prop} [Decidable p] {e : Int} : unlessE (decide p) e = if p then 0 else e := by simp only [unlessE, decide_eq_true_eq]
def planErr (p : Plan) : Int := (planChk p).2

theorem mon_CheckPlan {p : Plan} : Ct Try.prog 93 [.agg p.cs] (pair (planChk p)) := by
  refine Ct.intro (rs := [.tmp 2, .tmp 3]) Try.func93 rfl Try.ntmps93 Try.results93 rfl rfl rfl fun w h => ?_
  refine OK.seq ?_
  refine OK.reg ?_
  refine RK.c (S.box (k := 1) rfl .none rfl (.tmp rfl rfl) rfl) ?_
  refine RK.c (S.assign .none rfl (.cint rfl)) ?_
  refine RK.c (S.assign .none rfl (.cint rfl)) ?_
  refine RK.nil ?_
  refine Ab.D.code ?_
  refine OK.seq ?_
  refine OK.seq ?_
  refine OK.regionDraw follows (.c (S.bfield fi53_0 .none rfl (.tmp rfl rfl))
    (.c (S.bload1 ti51 .none rfl (.tmp rfl rfl) rfl rfl rfl rfl)
    (.c (S.lenM si51 .none rfl (.tmp rfl rfl))
    (.c (S.gtr .none rfl (.tmp rfl rfl) (.cint rfl))
    (.c (S.call (monitor_unless) Try.call57 .none rfl (.cons (.tmp rfl rfl) (.cons (.cint rfl) .nil)) rfl)
    (.c (S.bfield fi53_0 .none rfl (.tmp rfl rfl))
    (.c (S.bload1 ti51 .none rfl (.tmp rfl rfl) rfl rfl rfl rfl)
    (.c (S.lenM si51 .none rfl (.tmp rfl rfl))
    (.c (S.leq .none rfl (.tmp rfl rfl) (.cint rfl))
    (.c (S.call (monitor_unless) Try.call57 .none rfl (.cons (.tmp rfl rfl) (.cons (.cint rfl) .nil)) rfl)
    (.c (S.mkSlice (k := 17) (rows := [[_], [_]]) ai155 .none rfl (.cons (.tmp rfl rfl) (.cons (.tmp rfl rfl) .nil)) rfl rfl rfl rfl rfl rfl rfl)
    (.c (S.callL (monitor_first (l := [_, _])) Try.call56 .none rfl (.cons (.tmp rfl rfl) .nil) (.cons (.p (.own rfl rfl) rfl) .nil) rfl)
    (.c (S.assign .none rfl (.tmp rfl rfl))
    .nil))))))))))))) (by kernel_rfl) ?_
  refine Ab.D.code ?_
  refine OK.seq ?_
  refine OK.reg ?_
  refine RK.c (S.move .none rfl (.tmp rfl rfl)) ?_
  refine RK.c (S.neq .none rfl (.tmp rfl rfl) (.cint rfl)) ?_
  refine RK.nil ?_
  refine Ab.D.code ?_
  refine OK.condD rfl rfl (fun c20 => ?_) (fun c20 => ?_)
  ·
    refine OK.seq ?_
    refine OK.reg ?_
    refine RK.c (S.move .none rfl (.tmp rfl rfl)) ?_
    refine RK.c (S.assign .none rfl (.cint rfl)) ?_
    refine RK.c (S.assign .none rfl (.tmp rfl rfl)) ?_
    refine RK.nil ?_
    refine Ab.D.code ?_
    refine OK.ret (Ret.r2 (.tmp rfl rfl (.c (.same rfl) rfl) rfl) (.tmp rfl rfl (.c (.same rfl) rfl) rfl) ?_)
    exact ret_p (planHead_ne c20)
  ·
    refine OK.skip ?_
    refine Ab.D.code ?_
    refine OK.seq ?_
    refine OK.reg ?_
    refine RK.c (S.bfield fi53_0 .none rfl (.tmp rfl rfl)) ?_
    refine RK.c (S.bload1 ti51 .none rfl (.tmp rfl rfl) rfl rfl rfl rfl) ?_
    refine RK.c (S.makeFunc1 .none rfl (.tmp rfl rfl) rfl) ?_
    refine RK.c (S.callL (each_List_UInt8 (l := p.channels) (g := chanErr p.channels) (caps := [.eptr p.cs]) (fun i x hx => mon_chan (lt_of_get hx)) Try.call118 ⟨rfl, rfl⟩) Try.call117 .none rfl (.cons (.tmp rfl rfl) (.cons (.tmp rfl rfl) .nil)) (.cons (.same rfl) (.cons (.fn (.cons (.ptr rfl rfl rfl rfl) .nil)) .nil)) rfl) ?_
    refine RK.c (S.move .none rfl (.tmp rfl rfl)) ?_
    refine RK.c (S.extract .none rfl (.tmp rfl rfl) rfl rfl) ?_
    refine RK.c (S.extract .none rfl (.tmp rfl rfl) rfl rfl) ?_
    refine RK.c (S.assign .none rfl (.tmp rfl rfl)) ?_
    refine RK.c (S.assign .none rfl (.tmp rfl rfl)) ?_
    refine RK.nil ?_
    refine Ab.D.code ?_
    refine OK.seq ?_
    refine OK.seq ?_
    refine OK.reg ?_
    refine RK.c (S.move .none rfl (.tmp rfl rfl)) ?_
    refine RK.c (S.neq .none rfl (.tmp rfl rfl) (.cint rfl)) ?_
    refine RK.nil ?_
    refine Ab.D.code ?_
    refine OK.condD rfl rfl (fun c30 => ?_) (fun c30 => ?_)
    ·
      refine OK.seq ?_
      refine OK.reg ?_
      refine RK.c (S.move .none rfl (.tmp rfl rfl)) ?_
      refine RK.c (S.move .none rfl (.tmp rfl rfl)) ?_
      refine RK.c (S.assign .none rfl (.tmp rfl rfl)) ?_
      refine RK.c (S.assign .none rfl (.tmp rfl rfl)) ?_
      refine RK.nil ?_
      refine Ab.D.code ?_
      refine OK.ret (Ret.r2 (.tmp rfl rfl (.c (.same rfl) rfl) rfl) (.tmp rfl rfl (.c (.same rfl) rfl) rfl) ?_)
      obtain ⟨h1, h2⟩ := planHead_eq c20
      refine ret_p ?_
      rw [planChk_r h1 h2, if_pos c30]
    ·
      refine OK.skip ?_
      refine Ab.D.code ?_
      refine OK.seq ?_
      refine OK.reg ?_
      refine RK.c (S.bfield fi53_1 .none rfl (.tmp rfl rfl)) ?_
      refine RK.c (S.bload1 ti3 .none rfl (.tmp rfl rfl) rfl rfl rfl rfl) ?_
      refine RK.c (S.call (mon_within) Try.call63 .none rfl (.cons (.tmp rfl rfl) (.cons (.cint rfl) (.cons (.cint rfl) .nil))) rfl) ?_
      refine RK.c (S.call (monitor_unless) Try.call57 .none rfl (.cons (.tmp rfl rfl) (.cons (.cint rfl) .nil)) rfl) ?_
      refine RK.c (S.assign .none rfl (.cint rfl)) ?_
      refine RK.c (S.assign .none rfl (.tmp rfl rfl)) ?_
      refine RK.nil ?_
      refine Ab.D.code ?_
      refine OK.ret (Ret.r2 (.tmp rfl rfl (.c (.same rfl) rfl) rfl) (.tmp rfl rfl (.c (.same rfl) rfl) rfl) ?_)
      obtain ⟨h1, h2⟩ := planHead_eq c20
      refine ret_p ?_
      rw [planChk_r h1 h2, if_neg c30, ite_unless]

end Go.Proofs.Ytfjldfkgjejpmaa
