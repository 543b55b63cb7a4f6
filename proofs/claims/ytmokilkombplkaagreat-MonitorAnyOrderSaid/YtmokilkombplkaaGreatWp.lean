/-
  The law of records: which records are valid, with an index, and the ticks that are lost.
-/
import Derived.Test.YtmokilkombplkaaGreatSh
import Derived.Test.YtmokilkombplkaaGreatWo
import Derived.Test.YtmokilkombplkaaGreatWz0
namespace Go.Proofs.YtmokilkombplkaaGreat
open Go.Ab

theorem few_len {p : Plan} (h : fewT p = true) : p.channels.length ≤ 6 := by
  unfold fewT at h
  simp only [Bool.and_eq_true, decide_eq_true_eq] at h
  exact h.1
theorem short_len {r : Record} (h : shortRec r = true) : r.rows.length ≤ 14 ∧ ∀ (i : Nat) (h : i < r.rows.length), r.rows[i].values.length ≤ 6 := by
  unfold shortRec at h
  simp only [Bool.and_eq_true, decide_eq_true_eq] at h
  refine ⟨h.1, fun i hi => ?_⟩
  have := List.all_eq_true.1 h.2 _ (List.getElem_mem hi)
  unfold shortT at this
  simp only [decide_eq_true_eq] at this
  omega
theorem ret_dT {p : Prop} [Decidable p] (h : p) : X.bool (decide p) = X.bool true := by rw [decide_eq_true h]
theorem ret_abs {x y : X} (h : False) : x = y := h.elim

theorem ref_CopyRecord {r : Record} (hlen : r.rows.length ≤ 100000) (hvl : ∀ (i : Nat) (h : i < r.rows.length), r.rows[i].values.length ≤ 100000) : Ct Tryz.prog 13 [.agg r.cs] (.agg r.cs) := by
  refine Ct.intro (rs := [.cell 2 39]) Tryz.func13 rfl Tryz.ntmps13 Tryz.results13 rfl rfl rfl fun w h => ?_
  refine OK.seq ?_
  refine OK.reg ?_
  refine RK.c (S.box (k := 1) rfl .none rfl (.tmp rfl rfl) rfl) ?_
  refine RK.c (S.alloc (k := 2) ze39 rfl .none rfl) ?_
  refine RK.nil ?_
  refine Ab.D.code ?_
  refine OK.seq ?_
  refine OK.reg ?_
  refine RK.c (S.alloc (k := 3) ze39 rfl .none rfl) ?_
  refine RK.nil ?_
  refine Ab.D.code ?_
  refine OK.seq ?_
  refine OK.seq ?_
  refine OK.reg ?_
  refine RK.c (S.assign .none rfl (.cint rfl)) ?_
  refine RK.nil ?_
  refine Ab.D.code ?_
  refine OK.block ?_
  refine OK.boxOwn 3 0 890 2 rfl rfl rfl rfl rfl ?_
  refine OK.loop (G := Nat) [1, 2, 3, 890] (fun i => [(1, .ptr 1 0), (1001, .box r.cs), (2, .ptr 2 0), (1002, .box [.nils]), (3, .ptr 3 0), (1003, .box [.own 890 i]), (2890, .arr 2 ((r.rows.take i).map Row.cs)), (4, .int .i64 i)]) (fun i => i ≤ r.rows.length) (fun i => r.rows.length - i) 0 (Nat.zero_le _) ⟨rfl, rfl, rfl, rfl, rfl, rfl, (lk_arr (by first | rfl | (simp; done) | (simp; omega))), rfl, trivial⟩ (fun _ => rfl) ?_
  rintro i hi
  refine OK.seq ?_
  refine OK.seq ?_
  refine OK.reg ?_
  refine RK.c (S.move .none rfl (.tmp rfl rfl)) ?_
  refine RK.c (S.bfield fi39_0 .none rfl (.tmp rfl rfl)) ?_
  refine RK.c (S.bload1 ti37 .none rfl (.tmp rfl rfl) rfl rfl rfl rfl) ?_
  refine RK.c (S.lenM si37 .none rfl (.tmp rfl rfl)) ?_
  refine RK.c (S.lss .none rfl (.tmp rfl rfl) (.tmp rfl rfl)) ?_
  refine RK.nil ?_
  refine Ab.D.code ?_
  refine OK.condD rfl rfl (fun c9 => ?_) (fun c9 => ?_)
  ·
    have hvli := hvl i (by omega)
    refine OK.skip ?_
    refine Ab.D.code ?_
    refine OK.seq ?_
    refine OK.block ?_
    refine OK.regionDraw follows (.c (S.bfield fi39_0 .none rfl (.tmp rfl rfl))
      (.c (S.bload1 ti37 .none rfl (.tmp rfl rfl) rfl rfl rfl rfl)
      (.c (S.bfield fi39_0 .none rfl (.tmp rfl rfl))
      (.c (S.bload1 ti37 .none rfl (.tmp rfl rfl) rfl rfl rfl rfl)
      (.c (S.move .none rfl (.tmp rfl rfl))
      (.c (S.indexM si37 .none rfl (.tmp rfl rfl) (.tmp rfl rfl) rfl (by omega) rfl)
      (.c (S.field fi99_0 .none rfl (.tmp rfl rfl) rfl)
      (.c (S.load1 ti4 .none rfl (.tmp rfl rfl) rfl)
      (.c (S.bfield fi39_0 .none rfl (.tmp rfl rfl))
      (.c (S.bload1 ti37 .none rfl (.tmp rfl rfl) rfl rfl rfl rfl)
      (.c (S.move .none rfl (.tmp rfl rfl))
      (.c (S.indexM si37 .none rfl (.tmp rfl rfl) (.tmp rfl rfl) rfl (by omega) rfl)
      (.c (S.field fi99_1 .none rfl (.tmp rfl rfl) rfl)
      (.c (S.load1 ti33 .none rfl (.tmp rfl rfl) rfl)
      (.c (S.call (base_CopyInts (l := r.rows[i].values) hvli) Tryz.call31 .none rfl (.cons (.tmp rfl rfl) .nil) rfl)
      (.c (S.build bu99 rfl .none rfl (.cons (.tmp rfl rfl) (.cons (.tmp rfl rfl) .nil)) rfl rfl)
      (.c (S.mkSlice (k := 28) (rows := [[_, _]]) ai37 .none rfl (.cons (.tmp rfl rfl) .nil) rfl rfl rfl rfl rfl rfl rfl)
      (.c (S.append ai37 .none rfl (.tmp rfl rfl) rfl (by simp; omega) (.tmp rfl rfl) rfl (by first | rfl | (simp; done) | (simp; omega)) (by omega) (by simp only [maxLen]; omega))
      (.c (S.bfield fi39_0 .none rfl (.tmp rfl rfl))
      (.c (S.store ti37 .none (.tmp rfl rfl) (.tmp rfl rfl) rfl rfl rfl rfl rfl rfl)
      .nil)))))))))))))))))))) (by kernel_rfl) ?_
    refine Ab.D.blk ?_
    refine Ab.D.code ?_
    refine OK.reg ?_
    refine RK.c (S.move .none rfl (.tmp rfl rfl)) ?_
    refine RK.c (S.add .none rfl (.tmp rfl rfl) (.cint rfl) (IntWalk.i64_in _ (by omega)) (IntWalk.i64_in _ (by omega))) ?_
    refine RK.c (S.assign .none rfl (.tmp rfl rfl)) ?_
    refine RK.nil ?_
    refine Ab.D.lp ⟨i + 1, (by omega), (by omega), rfl, rfl, rfl, rfl, rfl, rfl, (lk_arr (by rw [← take_snoc (by omega)]; simp only [List.map_append, List.map_cons, List.map_nil]; rfl)), rfl, trivial⟩
  ·
    refine OK.exit rfl ?_
    refine Ab.D.code ?_
    refine OK.seq ?_
    refine OK.reg ?_
    refine RK.c (S.bloadN ti39 .none rfl (.tmp rfl rfl) rfl rfl rfl rfl) ?_
    refine RK.c (S.store ti39 .none (.tmp rfl rfl) (.tmp rfl rfl) rfl rfl rfl rfl rfl rfl) ?_
    refine RK.nil ?_
    refine Ab.D.code ?_
    refine OK.ret (Ret.r1 (.cellN rfl rfl rfl rfl ti39 rfl (.k (.own rfl rfl (by first | rfl | (simp; done) | (simp; omega))) .z)) ?_)
    rw [show i = r.rows.length by omega, List.take_length]
    rfl

end Go.Proofs.YtmokilkombplkaaGreat
