import Derived.Test.YtjamlnkjfkcdkaaGreatDoorKg
import Derived.Test.YtjamlnkjfkcdkaaGreatDoorKz
namespace Go.Proofs.YtjamlnkjfkcdkaaGreatDoor
open Go.Ab
theorem ret_dT {p : Prop} [Decidable p] (h : p) : X.bool (decide p) = X.bool true := by rw [decide_eq_true h]
theorem ref9_CopyRuns {l : List Run} (hlen : l.length ≤ 100000) : Ct Tryz.prog 29 [.sl (l.map Run.cs)] (.sl (l.map Run.cs)) := by
  refine Ct.intro (rs := [.tmp 2]) Tryz.func29 rfl Tryz.ntmps29 Tryz.results29 rfl rfl rfl fun w h => ?_
  refine OK.seq ?_
  refine OK.reg ?_
  refine RK.c (S.assign .none rfl .cnil) ?_
  refine RK.nil ?_
  refine Ab.D.code ?_
  refine OK.seq ?_
  refine OK.reg ?_
  refine RK.c (S.mkSlice (k := 3) (rows := []) ai41 .none rfl .nil rfl rfl rfl rfl rfl rfl rfl) ?_
  refine RK.c (S.move .none rfl (.tmp rfl rfl)) ?_
  refine RK.c (S.appendSl ai41 .none rfl (.tmp rfl rfl) rfl (by first | rfl | (simp; done) | (simp; omega)) (.tmp rfl rfl) (by intro q hq; obtain ⟨b, _, rfl⟩ := List.mem_map.1 hq; rfl) rfl (by simp only [List.length_map]; omega) (by simp only [maxLen, List.length_map]; omega)) ?_
  refine RK.c (S.assign .none rfl (.tmp rfl rfl)) ?_
  refine RK.nil ?_
  refine Ab.D.code ?_
  refine OK.ret (Ret.r1 (.tmp rfl rfl (.c (.own rfl rfl (by first | rfl | (simp; done) | (simp; omega))) rfl) rfl) ?_)
  rfl
theorem ref9_isTicks {n : Int} : Ct Tryz.prog 117 [.int .i64 n] (.bool (decide (0 ≤ n ∧ n ≤ 100000))) := by
  refine Ct.intro (rs := [.tmp 2]) Tryz.func117 rfl Tryz.ntmps117 Tryz.results117 rfl rfl rfl fun w h => ?_
  refine OK.seq ?_
  refine OK.reg ?_
  refine RK.c (S.assign .none rfl .cbool) ?_
  refine RK.nil ?_
  refine Ab.D.code ?_
  refine OK.seq ?_
  refine OK.reg ?_
  refine RK.c (S.move .none rfl (.tmp rfl rfl)) ?_
  refine RK.c (S.call (base_Within) Tryz.call27 .none rfl (.cons (.tmp rfl rfl) (.cons (.cint rfl) (.cons (.cint rfl) .nil))) rfl) ?_
  refine RK.c (S.assign .none rfl (.tmp rfl rfl)) ?_
  refine RK.nil ?_
  refine Ab.D.code ?_
  refine OK.ret (Ret.r1 (.tmp rfl rfl (.c (.same rfl) rfl) rfl) ?_)
  rfl
theorem ref9_isPower {n : Int} : Ct Tryz.prog 118 [.int .i64 n] (.bool (decide (1 ≤ n ∧ n ≤ 100000))) := by
  refine Ct.intro (rs := [.tmp 2]) Tryz.func118 rfl Tryz.ntmps118 Tryz.results118 rfl rfl rfl fun w h => ?_
  refine OK.seq ?_
  refine OK.reg ?_
  refine RK.c (S.assign .none rfl .cbool) ?_
  refine RK.nil ?_
  refine Ab.D.code ?_
  refine OK.seq ?_
  refine OK.reg ?_
  refine RK.c (S.move .none rfl (.tmp rfl rfl)) ?_
  refine RK.c (S.call (base_Within) Tryz.call27 .none rfl (.cons (.tmp rfl rfl) (.cons (.cint rfl) (.cons (.cint rfl) .nil))) rfl) ?_
  refine RK.c (S.assign .none rfl (.tmp rfl rfl)) ?_
  refine RK.nil ?_
  refine Ab.D.code ?_
  refine OK.ret (Ret.r1 (.tmp rfl rfl (.c (.same rfl) rfl) rfl) ?_)
  rfl
end Go.Proofs.YtjamlnkjfkcdkaaGreatDoor
