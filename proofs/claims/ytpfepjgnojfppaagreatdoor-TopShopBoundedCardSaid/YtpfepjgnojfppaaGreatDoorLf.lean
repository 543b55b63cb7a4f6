import Derived.Test.YtpfepjgnojfppaaGreatDoorGs
import Derived.Test.YtpfepjgnojfppaaGreatDoorLe
import Derived.Test.YtpfepjgnojfppaaGreatDoorTz
namespace Go.Proofs.YtpfepjgnojfppaaGreatDoor
open Go.Ab
theorem same_lenG {α : Type} [DecidableEq α] {a b : List α} (h : a.length ≠ b.length) : false = decide (a = b) := (decide_eq_false fun e => h (by rw [e])).symm
theorem same_atG {α : Type} [DecidableEq α] {a b : List α} {i : Nat} (h1 : i < a.length) (h2 : i < b.length) (h : a[i] ≠ b[i]) : false = decide (a = b) := (decide_eq_false fun e => h (by subst e; rfl)).symm
theorem same_endG {α : Type} [DecidableEq α] {a b : List α} (hl : a.length = b.length) (h : ∀ (k : Nat) (h1 : k < a.length) (h2 : k < b.length), a[k] = b[k]) : true = decide (a = b) := (decide_eq_true (List.ext_getElem hl h)).symm
theorem job_pneq {x y : Job} : (!plEq [.s x.name, .i x.setup, .i x.ticks, .i x.due] [.s y.name, .i y.setup, .i y.ticks, .i y.due]) = decide (x ≠ y) := by
  cases x
  cases y
  simp [plEq, Pl.eq, Job.mk.injEq]
theorem ref9_SameJobs {a b : List Job} : Ct Tryz.prog 66 [.sl (a.map Job.cs), .sl (b.map Job.cs)] (.bool (decide (a = b))) := by
 refine Ct.intro (rs := [.tmp 4]) Tryz.func66 rfl Tryz.ntmps66 Tryz.results66 rfl rfl rfl fun w h => ?_
 refine OK.slLen (rows := a.map Job.cs) (t := 0) rfl rfl fun hlen => ?_
 rw [List.length_map] at hlen
 unfold maxLen at hlen
 refine OK.seq (OK.reg ?_)
 refine RK.c (S.assign .none rfl .cbool) ?_
 refine RK.nil (Ab.D.code (OK.seq (OK.seq (OK.reg ?_))))
 refine RK.c (S.move .none rfl (.tmp rfl rfl)) ?_
 refine RK.c (S.lenM si22 .none rfl (.tmp rfl rfl)) ?_
 refine RK.c (S.move .none rfl (.tmp rfl rfl)) ?_
 refine RK.c (S.lenM si22 .none rfl (.tmp rfl rfl)) ?_
 refine RK.c (S.neq .none rfl (.tmp rfl rfl) (.tmp rfl rfl)) ?_
 refine RK.nil (Ab.D.code ?_)
 refine OK.condD rfl rfl (fun c10 => ?_) (fun c10 => ?_)
 ·
  refine OK.seq (OK.reg ?_)
  refine RK.c (S.assign .none rfl .cbool) ?_
  refine RK.nil (Ab.D.code ?_)
  refine OK.ret (Ret.r1 (.tmp rfl rfl (.c (.same rfl) rfl) rfl) ?_)
  exact ret_b (same_lenG (by omega))
 ·
  have hll : a.length = b.length := by omega
  refine OK.skip ?_
  refine Ab.D.code (OK.seq (OK.seq (OK.reg ?_)))
  refine RK.c (S.assign .none rfl (.cint rfl)) ?_
  refine RK.nil (Ab.D.code ?_)
  refine OK.block ?_
  refine OK.loop (G := Nat) [] (fun i => [(0, .sl (a.map Job.cs)), (1, .sl (b.map Job.cs)), (5, .int .i64 i)]) (fun i => i ≤ a.length ∧ ∀ (m : Nat) (h1 : m < a.length) (h2 : m < b.length), m < i → a[m] = b[m]) (fun i => a.length - i) 0 ⟨Nat.zero_le _, fun m _ _ h => absurd h (by omega)⟩ ⟨rfl, rfl, rfl, trivial⟩ (fun _ => rfl) ?_
  rintro i ⟨hi, hg⟩
  refine OK.seq (OK.seq (OK.reg ?_))
  refine RK.c (S.move .none rfl (.tmp rfl rfl)) ?_
  refine RK.c (S.move .none rfl (.tmp rfl rfl)) ?_
  refine RK.c (S.lenM si22 .none rfl (.tmp rfl rfl)) ?_
  refine RK.c (S.lss .none rfl (.tmp rfl rfl) (.tmp rfl rfl)) ?_
  refine RK.nil (Ab.D.code ?_)
  refine OK.condD rfl rfl (fun c14 => ?_) (fun c14 => ?_)
  ·
   have hia : i < a.length := by omega
   have hib : i < b.length := by omega
   refine OK.skip ?_
   refine Ab.D.code ?_
   refine OK.seq ?_
   refine OK.block ?_
   refine OK.seq ?_
   refine OK.regionDraw follows (.c (S.move .none rfl (.tmp rfl rfl))
    (.c (S.move .none rfl (.tmp rfl rfl))
    (.c (S.indexM (n := i) si22 .none rfl (.tmp rfl rfl) (.tmp rfl rfl) rfl (by omega) rfl)
    (.c (S.loadN ti114 .none rfl (.tmp rfl rfl) rfl rfl)
    (.c (S.move .none rfl (.tmp rfl rfl))
    (.c (S.move .none rfl (.tmp rfl rfl))
    (.c (S.indexM (n := i) si22 .none rfl (.tmp rfl rfl) (.tmp rfl rfl) rfl (by omega) rfl)
    (.c (S.loadN ti114 .none rfl (.tmp rfl rfl) rfl rfl)
    (.c (S.pneq (b := decide (a[i] ≠ b[i])) [.s [], .i 0, .i 0, .i 0] [.s a[i].name, .i a[i].setup, .i a[i].ticks, .i a[i].due] [.s b[i].name, .i b[i].setup, .i b[i].ticks, .i b[i].due] eqp114 .none rfl (.tmp rfl rfl) (.tmp rfl rfl) rfl rfl rfl rfl job_pneq)
    .nil))))))))) (by kernel_rfl) ?_
   refine Ab.D.code ?_
   refine OK.condD rfl rfl (fun c25 => ?_) (fun c25 => ?_)
   ·
    refine OK.seq (OK.reg ?_)
    refine RK.c (S.assign .none rfl .cbool) ?_
    refine RK.nil (Ab.D.code ?_)
    refine OK.ret (Ret.r1 (.tmp rfl rfl (.c (.same rfl) rfl) rfl) ?_)
    exact ret_b (same_atG hia hib c25)
   ·
    refine OK.skip ?_
    refine Ab.D.blk ?_
    refine Ab.D.code (OK.reg ?_)
    refine RK.c (S.move .none rfl (.tmp rfl rfl)) ?_
    refine RK.c (S.add .none rfl (.tmp rfl rfl) (.cint rfl) (IntWalk.i64_in _ (by omega)) (IntWalk.i64_in _ (by omega))) ?_
    refine RK.c (S.assign .none rfl (.tmp rfl rfl)) ?_
    refine RK.nil ?_
    refine Ab.D.lp ⟨i + 1, ⟨by omega, fun m h1 h2 h => by rcases Nat.lt_or_ge m i with q | q; exact hg m h1 h2 q; obtain rfl : m = i := (by omega); exact Decidable.not_not.1 c25⟩, (by omega), rfl, rfl, rfl, trivial⟩
  ·
   refine OK.exit rfl ?_
   refine Ab.D.code (OK.seq (OK.reg ?_))
   refine RK.c (S.assign .none rfl .cbool) ?_
   refine RK.nil (Ab.D.code ?_)
   refine OK.ret (Ret.r1 (.tmp rfl rfl (.c (.same rfl) rfl) rfl) ?_)
   exact ret_b (same_endG hll fun k h1 h2 => hg k h1 h2 (by omega))
end Go.Proofs.YtpfepjgnojfppaaGreatDoor
