import Derived.Test.YtpfepjgnojfppaaGreatDoorGh
import Derived.Test.YtpfepjgnojfppaaGreatDoorKh
import Derived.Test.YtpfepjgnojfppaaGreatDoorTy
namespace Go.Proofs.YtpfepjgnojfppaaGreatDoor
open Go.Ab
def floorT (n b : Int) : Int := if n.tmod b < 0 then n.tdiv b - 1 else n.tdiv b
theorem tmod_bd {n b A : Int} (hb : 0 < b) (h : -A ≤ n ∧ n ≤ A) : -A ≤ n.tmod b ∧ n.tmod b ≤ A := by
  have h1 := Int.mul_tdiv_add_tmod n b
  by_cases h0 : 0 ≤ n
  · have h2 := Int.tmod_nonneg b h0
    have h3 : 0 ≤ b * n.tdiv b := Int.mul_nonneg (by omega) (tdiv_bd h0 hb).1
    omega
  · have h2 := Int.tmod_nonneg b (a := -n) (by omega)
    have h3 : 0 ≤ b * (-n).tdiv b := Int.mul_nonneg (by omega) (tdiv_bd (by omega) hb).1
    have h4 := Int.mul_tdiv_add_tmod (-n) b
    rw [Int.neg_tmod] at h2 h4
    omega
theorem floor_bd {n b : Int} (hb : 0 < b) {A : Int} (h : -A ≤ n ∧ n ≤ A) : -A - 1 ≤ floorT n b ∧ floorT n b ≤ A := by
  have h1 : n = b * n.tdiv b + n.tmod b := (Int.mul_tdiv_add_tmod n b).symm
  have h2 : n.tdiv b ≤ A ∧ -A ≤ n.tdiv b := by
    by_cases h0 : 0 ≤ n
    · have := tdiv_bd h0 hb; omega
    · have h3 := tdiv_bd (a := -n) (g := b) (by omega) hb
      rw [Int.neg_tdiv] at h3
      omega
  unfold floorT
  split <;> omega
theorem base_Floor {n b A : Int} (hb : 0 < b) (hn : -A ≤ n ∧ n ≤ A) (hA : A ≤ 1000000000000) : Ct Tryz.prog 93 [.int .i64 n, .int .i64 b] (.int .i64 (floorT n b)) := by
  refine Ct.intro (rs := [.tmp 4]) Tryz.func93 rfl Tryz.ntmps93 Tryz.results93 rfl rfl rfl fun w h => ?_
  have hf := floor_bd hb hn
  have hf0 : floorT n b = if n.tmod b < 0 then n.tdiv b - 1 else n.tdiv b := rfl
  have hq : -A ≤ n.tdiv b ∧ n.tdiv b ≤ A := by
    by_cases h0 : 0 ≤ n
    · have := tdiv_bd h0 hb; omega
    · have h3 := tdiv_bd (a := -n) (g := b) (by omega) hb
      rw [Int.neg_tdiv] at h3
      omega
  have hr : -A ≤ n.tmod b ∧ n.tmod b ≤ A := tmod_bd hb hn
  refine OK.seq ?_
  refine OK.reg ?_
  refine RK.c (S.assign .none rfl (.cint rfl)) ?_
  refine RK.nil ?_
  refine Ab.D.code ?_
  refine OK.seq ?_
  refine OK.reg ?_
  refine RK.c (S.move .none rfl (.tmp rfl rfl)) ?_
  refine RK.c (S.move .none rfl (.tmp rfl rfl)) ?_
  refine RK.c (S.quo .none rfl (.tmp rfl rfl) (.tmp rfl rfl) (by omega) (IntWalk.i64_in _ (by omega)) (IntWalk.i64_in _ (by omega))) ?_
  refine RK.c (S.assign .none rfl (.tmp rfl rfl)) ?_
  refine RK.nil ?_
  refine Ab.D.code ?_
  refine OK.seq ?_
  refine OK.seq ?_
  refine OK.reg ?_
  refine RK.c (S.move .none rfl (.tmp rfl rfl)) ?_
  refine RK.c (S.move .none rfl (.tmp rfl rfl)) ?_
  refine RK.c (S.rem .none rfl (.tmp rfl rfl) (.tmp rfl rfl) (by omega) rfl (IntWalk.i64_in _ (by omega))) ?_
  refine RK.c (S.lss .none rfl (.tmp rfl rfl) (.cint rfl)) ?_
  refine RK.nil ?_
  refine Ab.D.code ?_
  refine OK.condD rfl rfl (fun c12 => ?_) (fun c12 => ?_)
  ·
    refine OK.reg ?_
    refine RK.c (S.move .none rfl (.tmp rfl rfl)) ?_
    refine RK.c (S.sub .none rfl (.tmp rfl rfl) (.cint rfl) (IntWalk.i64_in _ (by omega)) (IntWalk.i64_in _ (by omega))) ?_
    refine RK.c (S.assign .none rfl (.tmp rfl rfl)) ?_
    refine RK.nil ?_
    refine Ab.D.code ?_
    refine OK.seq ?_
    refine OK.reg ?_
    refine RK.c (S.move .none rfl (.tmp rfl rfl)) ?_
    refine RK.c (S.assign .none rfl (.tmp rfl rfl)) ?_
    refine RK.nil ?_
    refine Ab.D.code ?_
    refine OK.ret (Ret.r1 (.tmp rfl rfl (.c (.same rfl) rfl) rfl) ?_)
    rw [hf0, if_pos c12]
  ·
    refine OK.skip ?_
    refine Ab.D.code ?_
    refine OK.seq ?_
    refine OK.reg ?_
    refine RK.c (S.move .none rfl (.tmp rfl rfl)) ?_
    refine RK.c (S.assign .none rfl (.tmp rfl rfl)) ?_
    refine RK.nil ?_
    refine Ab.D.code ?_
    refine OK.ret (Ret.r1 (.tmp rfl rfl (.c (.same rfl) rfl) rfl) ?_)
    rw [hf0, if_neg c12]
theorem base_Ceil {n b A : Int} (hb : 0 < b) (hn : -A ≤ n ∧ n ≤ A) (hA : A ≤ 1000000000000) : Ct Tryz.prog 41 [.int .i64 n, .int .i64 b] (.int .i64 (0 - floorT (0 - n) b)) := by
  refine Ct.intro (rs := [.tmp 4]) Tryz.func41 rfl Tryz.ntmps41 Tryz.results41 rfl rfl rfl fun w h => ?_
  have hf := floor_bd (n := 0 - n) hb (A := A) (by omega)
  refine OK.seq ?_
  refine OK.reg ?_
  refine RK.c (S.assign .none rfl (.cint rfl)) ?_
  refine RK.nil ?_
  refine Ab.D.code ?_
  refine OK.seq ?_
  refine OK.reg ?_
  refine RK.c (S.move .none rfl (.tmp rfl rfl)) ?_
  refine RK.c (S.neg .none rfl (.tmp rfl rfl) (IntWalk.i64_in _ (by omega)) (IntWalk.i64_in _ (by omega))) ?_
  refine RK.c (S.move .none rfl (.tmp rfl rfl)) ?_
  refine RK.c (S.call (base_Floor (A := A) hb (by omega) hA) Tryz.call93 .none rfl (.cons (.tmp rfl rfl) (.cons (.tmp rfl rfl) .nil)) rfl) ?_
  refine RK.c (S.neg .none rfl (.tmp rfl rfl) (IntWalk.i64_in _ (by omega)) (IntWalk.i64_in _ (by omega))) ?_
  refine RK.c (S.assign .none rfl (.tmp rfl rfl)) ?_
  refine RK.nil ?_
  refine Ab.D.code ?_
  refine OK.ret (Ret.r1 (.tmp rfl rfl (.c (.same rfl) rfl) rfl) ?_)
  rfl
end Go.Proofs.YtpfepjgnojfppaaGreatDoor
