import Derived.Test.YtjamlnkjfkcdkaaGreatDoorKg
import Derived.Test.YtjamlnkjfkcdkaaGreatDoorKz
namespace Go.Proofs.YtjamlnkjfkcdkaaGreatDoor
open Go.Ab
theorem ret_dT {p : Prop} [Decidable p] (h : p) : X.bool (decide p) = X.bool true := by rw [decide_eq_true h]
theorem all_drop9 (g : Int → Bool) {l : List Int} {i : Nat} (h : i < l.length) : (l.drop i).all g = (g l[i] && (l.drop (i + 1)).all g) := by rw [List.drop_eq_getElem_cons h, List.all_cons]
theorem base_CopyInts {l : List Int} (hlen : l.length ≤ 100000) : Ct Tryz.prog 32 [.sl (l.map (fun n => [.int .i64 n]))] (.sl (l.map (fun n => [.int .i64 n]))) := by
  refine Ct.intro (rs := [.tmp 2]) Tryz.func32 rfl Tryz.ntmps32 Tryz.results32 rfl rfl rfl fun w h => ?_
  refine OK.seq ?_
  refine OK.reg ?_
  refine RK.c (S.assign .none rfl .cnil) ?_
  refine RK.nil ?_
  refine Ab.D.code ?_
  refine OK.seq ?_
  refine OK.reg ?_
  refine RK.c (S.mkSlice (k := 3) (rows := []) ai30 .none rfl .nil rfl rfl rfl rfl rfl rfl rfl) ?_
  refine RK.c (S.move .none rfl (.tmp rfl rfl)) ?_
  refine RK.c (S.appendSl ai30 .none rfl (.tmp rfl rfl) rfl (by first | rfl | (simp; done) | (simp; omega)) (.tmp rfl rfl) (by intro q hq; obtain ⟨b, _, rfl⟩ := List.mem_map.1 hq; rfl) rfl (by simp only [List.length_map]; omega) (by simp only [maxLen, List.length_map]; omega)) ?_
  refine RK.c (S.assign .none rfl (.tmp rfl rfl)) ?_
  refine RK.nil ?_
  refine Ab.D.code ?_
  refine OK.ret (Ret.r1 (.tmp rfl rfl (.c (.own rfl rfl (by first | rfl | (simp; done) | (simp; omega))) rfl) rfl) ?_)
  rfl
theorem ref9_isValue {n : Int} : Ct Tryz.prog 109 [.int .i64 n] (.bool (decide (-10000 ≤ n ∧ n ≤ 10000))) := by
  refine Ct.intro (rs := [.tmp 2]) Tryz.func109 rfl Tryz.ntmps109 Tryz.results109 rfl rfl rfl fun w h => ?_
  refine OK.seq ?_
  refine OK.reg ?_
  refine RK.c (S.assign .none rfl .cbool) ?_
  refine RK.nil ?_
  refine Ab.D.code ?_
  refine OK.seq ?_
  refine OK.reg ?_
  refine RK.c (S.move .none rfl (.tmp rfl rfl)) ?_
  refine RK.c (S.call (base_Within) Tryz.call27 .none rfl (.cons (.tmp rfl rfl) (.cons (.cint rfl) (.cons (.cint rfl) .nil))) rfl) ?_
  refine RK.c (S.assign .none rfl (.tmp rfl rfl)) ?_
  refine RK.nil ?_
  refine Ab.D.code ?_
  refine OK.ret (Ret.r1 (.tmp rfl rfl (.c (.same rfl) rfl) rfl) ?_)
  rfl
theorem ref9_ValuesErr {l : List Int} : Ct Tryz.prog 33 [ints l] (.int .i64 (valsE l)) := by
  refine Ct.intro (rs := [.tmp 2]) Tryz.func33 rfl Tryz.ntmps33 Tryz.results33 rfl rfl rfl fun w h => ?_
  refine OK.seq ?_
  refine OK.reg ?_
  refine RK.c (S.assign .none rfl (.cint rfl)) ?_
  refine RK.nil ?_
  refine Ab.D.code ?_
  refine OK.seq ?_
  refine OK.seq ?_
  refine OK.reg ?_
  refine RK.c (S.move .none rfl (.tmp rfl rfl)) ?_
  refine RK.c (S.lenM si30 .none rfl (.tmp rfl rfl)) ?_
  refine RK.c (S.eql .none rfl (.tmp rfl rfl) (.cint rfl)) ?_
  refine RK.nil ?_
  refine Ab.D.code ?_
  refine OK.condD rfl rfl (fun c6 => ?_) (fun c6 => ?_)
  ·
    refine OK.seq ?_
    refine OK.reg ?_
    refine RK.c (S.assign .none rfl (.cint rfl)) ?_
    refine RK.nil ?_
    refine Ab.D.code ?_
    refine OK.ret (Ret.r1 (.tmp rfl rfl (.c (.same rfl) rfl) rfl) ?_)
    refine ret_i ?_
    rw [valsE, if_pos (by omega)]
  ·
    refine OK.skip ?_
    refine Ab.D.code ?_
    refine OK.seq ?_
    refine OK.seq ?_
    refine OK.reg ?_
    refine RK.c (S.move .none rfl (.tmp rfl rfl)) ?_
    refine RK.c (S.lenM si30 .none rfl (.tmp rfl rfl)) ?_
    refine RK.c (S.gtr .none rfl (.tmp rfl rfl) (.cint rfl)) ?_
    refine RK.nil ?_
    refine Ab.D.code ?_
    refine OK.condD rfl rfl (fun c9 => ?_) (fun c9 => ?_)
    ·
      refine OK.seq ?_
      refine OK.reg ?_
      refine RK.c (S.assign .none rfl (.cint rfl)) ?_
      refine RK.nil ?_
      refine Ab.D.code ?_
      refine OK.ret (Ret.r1 (.tmp rfl rfl (.c (.same rfl) rfl) rfl) ?_)
      refine ret_i ?_
      rw [valsE, if_neg (by omega), if_pos (by omega)]
    ·
      refine OK.skip ?_
      refine Ab.D.code ?_
      refine OK.seq ?_
      refine OK.seq ?_
      refine OK.reg ?_
      refine RK.c (S.assign .none rfl (.cint rfl)) ?_
      refine RK.nil ?_
      refine Ab.D.code ?_
      refine OK.block ?_
      refine OK.loop (G := Nat) [] (fun i => [(0, ints l), (3, .int .i64 i)]) (fun i => i ≤ l.length ∧ l.all isVal9 = (l.drop i).all isVal9) (fun i => l.length - i) 0 ⟨Nat.zero_le _, rfl⟩ ⟨rfl, rfl, trivial⟩ (fun _ => rfl) ?_
      rintro i ⟨hi, hg⟩
      refine OK.seq ?_
      refine OK.seq ?_
      refine OK.reg ?_
      refine RK.c (S.move .none rfl (.tmp rfl rfl)) ?_
      refine RK.c (S.move .none rfl (.tmp rfl rfl)) ?_
      refine RK.c (S.lenM si30 .none rfl (.tmp rfl rfl)) ?_
      refine RK.c (S.lss .none rfl (.tmp rfl rfl) (.tmp rfl rfl)) ?_
      refine RK.nil ?_
      refine Ab.D.code ?_
      refine OK.condD rfl rfl (fun c13 => ?_) (fun c13 => ?_)
      ·
        refine OK.skip ?_
        refine Ab.D.code ?_
        refine OK.seq ?_
        refine OK.block ?_
        refine OK.seq ?_
        refine OK.reg ?_
        refine RK.c (S.move .none rfl (.tmp rfl rfl)) ?_
        refine RK.c (S.move .none rfl (.tmp rfl rfl)) ?_
        refine RK.c (S.indexM (n := i) si30 .none rfl (.tmp rfl rfl) (.tmp rfl rfl) rfl (by omega) rfl) ?_
        refine RK.c (S.load1 ti3 .none rfl (.tmp rfl rfl) rfl) ?_
        refine RK.c (S.call (ref9_isValue) Tryz.call109 .none rfl (.cons (.tmp rfl rfl) .nil) rfl) ?_
        refine RK.c (S.notD .none rfl (.tmp rfl rfl)) ?_
        refine RK.nil ?_
        refine Ab.D.code ?_
        refine OK.condD rfl rfl (fun c21 => ?_) (fun c21 => ?_)
        ·
          refine OK.seq ?_
          refine OK.reg ?_
          refine RK.c (S.assign .none rfl (.cint rfl)) ?_
          refine RK.nil ?_
          refine Ab.D.code ?_
          refine OK.ret (Ret.r1 (.tmp rfl rfl (.c (.same rfl) rfl) rfl) ?_)
          refine ret_i ?_
          rw [valsE, if_neg (by omega), if_neg (by omega), hg, all_drop9 _ (by omega), show isVal9 l[i] = false from decide_eq_false (by omega), Bool.false_and]
          rfl
        ·
          refine OK.skip ?_
          refine Ab.D.blk ?_
          refine Ab.D.code ?_
          refine OK.reg ?_
          refine RK.c (S.move .none rfl (.tmp rfl rfl)) ?_
          refine RK.c (S.add .none rfl (.tmp rfl rfl) (.cint rfl) (IntWalk.i64_in _ (by omega)) (IntWalk.i64_in _ (by omega))) ?_
          refine RK.c (S.assign .none rfl (.tmp rfl rfl)) ?_
          refine RK.nil ?_
          refine Ab.D.lp ⟨i + 1, ⟨by omega, ?_⟩, (by omega), rfl, rfl, trivial⟩
          rw [hg, all_drop9 _ (by omega), show isVal9 l[i] = true from decide_eq_true (by omega), Bool.true_and]
      ·
        refine OK.exit rfl ?_
        refine Ab.D.code ?_
        refine OK.seq ?_
        refine OK.reg ?_
        refine RK.c (S.assign .none rfl (.cint rfl)) ?_
        refine RK.nil ?_
        refine Ab.D.code ?_
        refine OK.ret (Ret.r1 (.tmp rfl rfl (.c (.same rfl) rfl) rfl) ?_)
        refine ret_i ?_
        rw [valsE, if_neg (by omega), if_neg (by omega), hg, show i = l.length by omega, List.drop_length]
        rfl
theorem ref9_Chart {l : List Int} (hv : AllV l) (hn : l.length ≤ 100) : Ct Tryz.prog 83 [ints l] (.agg (chartT l).cs) := by
  refine Ct.intro (rs := [.cell 2 131]) Tryz.func83 rfl Tryz.ntmps83 Tryz.results83 rfl rfl rfl fun w h => ?_
  refine OK.seq ?_
  refine OK.reg ?_
  refine RK.c (S.alloc (k := 2) ze131 rfl .none rfl) ?_
  refine RK.nil ?_
  refine Ab.D.code ?_
  refine OK.seq ?_
  refine OK.reg ?_
  refine RK.c (S.move .none rfl (.tmp rfl rfl)) ?_
  refine RK.c (S.lenM si30 .none rfl (.tmp rfl rfl)) ?_
  refine RK.c (S.build bu131 rfl .none rfl (.cons (.tmp rfl rfl) .nil) rfl rfl) ?_
  refine RK.c (S.alloc (k := 3) ze131 rfl .none rfl) ?_
  refine RK.c (S.store ti131 .none (.tmp rfl rfl) (.tmp rfl rfl) rfl rfl rfl rfl rfl rfl) ?_
  refine RK.nil ?_
  refine Ab.D.code ?_
  refine OK.seq ?_
  refine OK.seq ?_
  refine OK.reg ?_
  refine RK.c (S.assign .none rfl (.cint rfl)) ?_
  refine RK.nil ?_
  refine Ab.D.code ?_
  refine OK.block ?_
  refine OK.loop (G := Nat) [2, 3] (fun i => [(0, ints l), (2, .ptr 2 0), (1002, .box [.int .i64 0, .int .i64 0, .int .i64 0]), (3, .ptr 3 0), (1003, .box [.int .i64 l.length, .int .i64 (sumT (l.take i)), .int .i64 (sqT (l.take i))]), (4, .int .i64 i)]) (fun i => i ≤ l.length) (fun i => l.length - i) 0 (Nat.zero_le _) ⟨rfl, rfl, rfl, rfl, rfl, rfl, trivial⟩ (fun _ => rfl) ?_
  rintro i hi
  refine OK.seq ?_
  refine OK.seq ?_
  refine OK.reg ?_
  refine RK.c (S.move .none rfl (.tmp rfl rfl)) ?_
  refine RK.c (S.move .none rfl (.tmp rfl rfl)) ?_
  refine RK.c (S.lenM si30 .none rfl (.tmp rfl rfl)) ?_
  refine RK.c (S.lss .none rfl (.tmp rfl rfl) (.tmp rfl rfl)) ?_
  refine RK.nil ?_
  refine Ab.D.code ?_
  refine OK.condD rfl rfl (fun c11 => ?_) (fun c11 => ?_)
  ·
    have hb := sums_bd (l := l.take i) fun n hm => hv n (List.mem_of_mem_take hm)
    have hll : (l.take i).length ≤ i := List.length_take_le i l
    have hx := hv l[i] (List.getElem_mem (by omega))
    have hq := sq_bd hx
    refine OK.skip ?_
    refine Ab.D.code ?_
    refine OK.seq ?_
    refine OK.block ?_
    refine OK.regionDraw follows (.c (S.bfield fi131_1 .none rfl (.tmp rfl rfl))
      (.c (S.bload1 ti3 .none rfl (.tmp rfl rfl) rfl rfl rfl rfl)
      (.c (S.move .none rfl (.tmp rfl rfl))
      (.c (S.move .none rfl (.tmp rfl rfl))
      (.c (S.indexM (n := i) si30 .none rfl (.tmp rfl rfl) (.tmp rfl rfl) rfl (by omega) rfl)
      (.c (S.load1 ti3 .none rfl (.tmp rfl rfl) rfl)
      (.c (S.add .none rfl (.tmp rfl rfl) (.tmp rfl rfl) (IntWalk.i64_in _ (by omega)) (IntWalk.i64_in _ (by omega)))
      (.c (S.bfield fi131_2 .none rfl (.tmp rfl rfl))
      (.c (S.bload1 ti3 .none rfl (.tmp rfl rfl) rfl rfl rfl rfl)
      (.c (S.move .none rfl (.tmp rfl rfl))
      (.c (S.move .none rfl (.tmp rfl rfl))
      (.c (S.indexM (n := i) si30 .none rfl (.tmp rfl rfl) (.tmp rfl rfl) rfl (by omega) rfl)
      (.c (S.load1 ti3 .none rfl (.tmp rfl rfl) rfl)
      (.c (S.move .none rfl (.tmp rfl rfl))
      (.c (S.move .none rfl (.tmp rfl rfl))
      (.c (S.indexM (n := i) si30 .none rfl (.tmp rfl rfl) (.tmp rfl rfl) rfl (by omega) rfl)
      (.c (S.load1 ti3 .none rfl (.tmp rfl rfl) rfl)
      (.c (S.mul .none rfl (.tmp rfl rfl) (.tmp rfl rfl) (IntWalk.i64_in _ (by omega)) (IntWalk.i64_in _ (by omega)))
      (.c (S.add .none rfl (.tmp rfl rfl) (.tmp rfl rfl) (IntWalk.i64_in _ (by omega)) (IntWalk.i64_in _ (by omega)))
      (.c (S.bfield fi131_1 .none rfl (.tmp rfl rfl))
      (.c (S.store ti3 .none (.tmp rfl rfl) (.tmp rfl rfl) rfl rfl rfl rfl rfl rfl)
      (.c (S.bfield fi131_2 .none rfl (.tmp rfl rfl))
      (.c (S.store ti3 .none (.tmp rfl rfl) (.tmp rfl rfl) rfl rfl rfl rfl rfl rfl)
      .nil))))))))))))))))))))))) (by kernel_rfl) ?_
    refine Ab.D.blk ?_
    refine Ab.D.code ?_
    refine OK.reg ?_
    refine RK.c (S.move .none rfl (.tmp rfl rfl)) ?_
    refine RK.c (S.add .none rfl (.tmp rfl rfl) (.cint rfl) (IntWalk.i64_in _ (by omega)) (IntWalk.i64_in _ (by omega))) ?_
    refine RK.c (S.assign .none rfl (.tmp rfl rfl)) ?_
    refine RK.nil ?_
    refine Ab.D.lp ⟨i + 1, (by omega), (by omega), rfl, rfl, rfl, rfl, (show _ = some (X.box [.int .i64 l.length, .int .i64 (sumT (l.take (i + 1))), .int .i64 (sqT (l.take (i + 1)))]) by rw [sum_take (by omega), sq_take (by omega)]; rfl), rfl, trivial⟩
  ·
    refine OK.exit rfl ?_
    refine Ab.D.code ?_
    refine OK.seq ?_
    refine OK.reg ?_
    refine RK.c (S.bloadN ti131 .none rfl (.tmp rfl rfl) rfl rfl rfl rfl) ?_
    refine RK.c (S.store ti131 .none (.tmp rfl rfl) (.tmp rfl rfl) rfl rfl rfl rfl rfl rfl) ?_
    refine RK.nil ?_
    refine Ab.D.code ?_
    refine OK.ret (Ret.r1 (.cellN rfl rfl rfl rfl ti131 rfl (.k (.same rfl) (.k (.same rfl) (.k (.same rfl) .z)))) ?_)
    rw [show i = l.length by omega, List.take_length]
    rfl
theorem ref9_Spread {c : Chart} (hB : ChartB c) : Ct Tryz.prog 110 [.agg c.cs] (.int .i64 (spreadT c)) := by
  refine Ct.intro (rs := [.tmp 2]) Tryz.func110 rfl Tryz.ntmps110 Tryz.results110 rfl rfl rfl fun w h => ?_
  have hb := spread_bd hB
  refine OK.seq ?_
  refine OK.reg ?_
  refine RK.c (S.box (k := 1) rfl .none rfl (.tmp rfl rfl) rfl) ?_
  refine RK.c (S.assign .none rfl (.cint rfl)) ?_
  refine RK.nil ?_
  refine Ab.D.code ?_
  refine OK.seq ?_
  refine OK.reg ?_
  refine RK.c (S.bfield fi131_0 .none rfl (.tmp rfl rfl)) ?_
  refine RK.c (S.bload1 ti3 .none rfl (.tmp rfl rfl) rfl rfl rfl rfl) ?_
  refine RK.c (S.bfield fi131_2 .none rfl (.tmp rfl rfl)) ?_
  refine RK.c (S.bload1 ti3 .none rfl (.tmp rfl rfl) rfl rfl rfl rfl) ?_
  refine RK.c (S.mul .none rfl (.tmp rfl rfl) (.tmp rfl rfl) (IntWalk.i64_in _ (by omega)) (IntWalk.i64_in _ (by omega))) ?_
  refine RK.c (S.bfield fi131_1 .none rfl (.tmp rfl rfl)) ?_
  refine RK.c (S.bload1 ti3 .none rfl (.tmp rfl rfl) rfl rfl rfl rfl) ?_
  refine RK.c (S.bfield fi131_1 .none rfl (.tmp rfl rfl)) ?_
  refine RK.c (S.bload1 ti3 .none rfl (.tmp rfl rfl) rfl rfl rfl rfl) ?_
  refine RK.c (S.mul .none rfl (.tmp rfl rfl) (.tmp rfl rfl) (IntWalk.i64_in _ (by omega)) (IntWalk.i64_in _ (by omega))) ?_
  refine RK.c (S.sub .none rfl (.tmp rfl rfl) (.tmp rfl rfl) (IntWalk.i64_in _ (by unfold spreadT at hb; omega)) (IntWalk.i64_in _ (by unfold spreadT at hb; omega))) ?_
  refine RK.c (S.assign .none rfl (.tmp rfl rfl)) ?_
  refine RK.nil ?_
  refine Ab.D.code ?_
  refine OK.ret (Ret.r1 (.tmp rfl rfl (.c (.same rfl) rfl) rfl) ?_)
  rfl
end Go.Proofs.YtjamlnkjfkcdkaaGreatDoor
