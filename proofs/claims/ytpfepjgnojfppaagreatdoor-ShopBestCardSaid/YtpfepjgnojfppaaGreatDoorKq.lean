import Derived.Test.YtpfepjgnojfppaaGreatDoorGh
import Derived.Test.YtpfepjgnojfppaaGreatDoorKp
import Derived.Test.YtpfepjgnojfppaaGreatDoorTy
namespace Go.Proofs.YtpfepjgnojfppaaGreatDoor
open Go.Ab
structure PreOk (n : Nat) (o : List Int) : Prop where
  rng : ∀ x ∈ o, 0 ≤ x ∧ x < (n : Int)
  dis : ∀ (i j : Nat) (hi : i < o.length) (hj : j < o.length), i < j → o[i] ≠ o[j]
theorem PreOk.ord {n : Nat} {o : List Int} (h : PreOk n o) (hl : o.length = n) : OrdOkN n o := ⟨hl, h.rng, h.dis⟩
theorem free_not {o : List Int} {i : Nat} (h : freeI o i = true) : ∀ x ∈ o, x ≠ (i : Int) := by
  unfold freeI at h
  rw [Bool.not_eq_true', List.any_eq_false] at h
  intro x hx e
  exact h x hx (decide_eq_true e.symm)
theorem PreOk.snoc {n : Nat} {o : List Int} {i : Nat} (h : PreOk n o) (hi : i < n) (hf : freeI o i = true) : PreOk n (o ++ [(i : Int)]) := by
  refine ⟨fun x hx => ?_, fun j k hj hk hjk => ?_⟩
  · rcases List.mem_append.1 hx with hx | hx
    · exact h.rng x hx
    · rw [List.mem_singleton] at hx; omega
  · rw [List.length_append, List.length_singleton] at hj hk
    rw [List.getElem_append_left (by omega)]
    by_cases e : k < o.length
    · rw [List.getElem_append_left e]; exact h.dis j k (by omega) e hjk
    · rw [List.getElem_append_right (by omega)]
      simp only [List.getElem_singleton]
      exact free_not hf _ (List.getElem_mem _)
theorem pre_nil (n : Nat) : PreOk n [] := ⟨(fun x hx => by cases hx), (fun i j hi _ _ => by simp at hi)⟩
theorem mom_snoc (l : List Job) (c : Changes) (o : List Int) (x : Int) : momTo l c (o ++ [x]) (o ++ [x]).length = afterT l c (momTo l c o o.length) x := by
  unfold momTo
  rw [List.take_length, List.take_length, List.foldl_append]
  rfl
def QOk (l : List Job) (c : Changes) (q : List Int × Moment) : Prop := OrdOkN l.length q.1 ∧ q.2 = momTo l c q.1 q.1.length
theorem ordTo_ok {l : List Job} {c : Changes} {f : Nat} {o : List Int} {q : List Int × Moment} (ih : ∀ o q, o.length + f = l.length → PreOk l.length o → (q.1 = [] ∨ QOk l c q) → ((ordersGo l c f o (momTo l c o o.length) q).1 = [] ∨ QOk l c (ordersGo l c f o (momTo l c o o.length) q)))
    (ho : o.length + (f + 1) = l.length) (hp : PreOk l.length o) (hq : q.1 = [] ∨ QOk l c q) : ∀ n, n ≤ l.length → ((ordTo l c f o (momTo l c o o.length) q n).1 = [] ∨ QOk l c (ordTo l c f o (momTo l c o o.length) q n))
  | 0, _ => hq
  | n + 1, h => by
    have h1 := ordTo_ok ih ho hp hq n (by omega)
    cases hf : freeI o n with
    | true =>
      rw [ordTo_T hf, ← mom_snoc]
      exact ih _ _ (by rw [List.length_append, List.length_singleton]; omega) (hp.snoc (by omega) hf) h1
    | false =>
      rw [ordTo_F hf]
      exact h1
theorem go_ok {l : List Job} {c : Changes} : ∀ (f : Nat) (o : List Int) (q : List Int × Moment), o.length + f = l.length → PreOk l.length o → (q.1 = [] ∨ QOk l c q) → ((ordersGo l c f o (momTo l c o o.length) q).1 = [] ∨ QOk l c (ordersGo l c f o (momTo l c o o.length) q))
  | 0, o, q, ho, hp, hq => by
    show (stepB q o (momTo l c o o.length)).1 = [] ∨ QOk l c (stepB q o (momTo l c o o.length))
    unfold stepB
    split
    · exact .inr ⟨hp.ord (by omega), rfl⟩
    · exact hq
  | f + 1, o, q, ho, hp, hq => by
    rw [ordersGo_succ]
    exact ordTo_ok (go_ok f) ho hp hq _ (Nat.le_refl _)
theorem go_q {l : List Job} {c : Changes} (hl : 0 < l.length) {f : Nat} {o : List Int} {q : List Int × Moment} (ho : o.length + f = l.length) (hp : PreOk l.length o) (hq : q.1 = [] ∨ QOk l c q) : QOk l c (ordersGo l c f o (momTo l c o o.length) q) :=
  (go_ok f o q ho hp hq).resolve_left (orders_ne l c hl f o _ q ho)
theorem best_q {l : List Job} (c : Changes) (hl : 0 < l.length) : QOk l c (bestT l c) := go_q hl (by simp) (pre_nil _) (.inl rfl)
def bestX (q : List Int × Moment) : X := if q.1 = [] then .nils else ints q.1
theorem best_nil {q : List Int × Moment} (h : q.1 = []) : bestX q = .nils := if_pos h
theorem best_some {q : List Int × Moment} (h : q.1 ≠ []) : bestX q = ints q.1 := if_neg h
abbrev BetOk (l : List Job) (c : Changes) (f : Nat) : Prop := ∀ (o : List Int) (q : List Int × Moment), o.length + f = l.length → PreOk l.length o → (q.1 = [] ∨ QOk l c q) →
  Ct Tryz.prog 83 [.sl (l.map Job.cs), .agg c.cs, ints o, bestX q] (ints (ordersGo l c f o (momTo l c o o.length) q).1)
theorem bet_T {l : List Job} {c : Changes} {f : Nat} {o : List Int} {q : List Int × Moment} {i : Nat} (h : freeI o i = true) (hl : 0 < l.length) (ho : o.length + (f + 1) = l.length) :
    some (ints (ordersGo l c f (o ++ [(i : Int)]) (momTo l c (o ++ [(i : Int)]) (o ++ [(i : Int)]).length) (ordTo l c f o (momTo l c o o.length) q i)).1) = some (bestX (ordTo l c f o (momTo l c o o.length) q (i + 1))) := by
  rw [ordTo_T h, ← mom_snoc, best_some (orders_ne l c hl f _ _ _ (by rw [List.length_append, List.length_singleton]; omega))]
theorem bet_N {l : List Job} {c : Changes} {f : Nat} {o : List Int} {m : Moment} {q : List Int × Moment} {i : Nat} (h : freeI o i = false) (hb : (ordTo l c f o m q i).1 = []) : some X.nils = some (bestX (ordTo l c f o m q (i + 1))) := by rw [ordTo_F h, best_nil hb]
theorem bet_S {l : List Job} {c : Changes} {f : Nat} {o : List Int} {m : Moment} {q : List Int × Moment} {i : Nat} (h : freeI o i = false) (hb : ¬ (ordTo l c f o m q i).1 = []) : some (ints (ordTo l c f o m q i).1) = some (bestX (ordTo l c f o m q (i + 1))) := by rw [ordTo_F h, best_some hb]
theorem step_nil {q : List Int × Moment} {o : List Int} {m : Moment} (h : q.1 = []) : (stepB q o m).1 = o := by rw [stepB, if_pos (.inl h)]
theorem step_T {q : List Int × Moment} {o : List Int} {m : Moment} (h : m.late < q.2.late ∨ (m.late = q.2.late ∧ m.changes < q.2.changes)) : (stepB q o m).1 = o := by rw [stepB, if_pos (.inr h)]
theorem step_F {q : List Int × Moment} {o : List Int} {m : Moment} (h0 : q.1 ≠ []) (h : ¬ (m.late < q.2.late ∨ (m.late = q.2.late ∧ m.changes < q.2.changes))) : (stepB q o m).1 = q.1 := by rw [stepB, if_neg (fun e => e.elim h0 h)]
theorem baseO_CopyInts {l : List Int} (hlen : l.length ≤ 100000) : CtO Tryz.prog 24 [ints l] 1 (l.map (fun n => [.int .i64 n])) := by
  refine CtO.intro Tryz.func24 rfl Tryz.ntmps24 Tryz.results24 rfl rfl rfl fun w h => ?_
  refine OK.seq ?_
  refine OK.reg ?_
  refine RK.c (S.assign .none rfl .cnil) ?_
  refine RK.nil ?_
  refine Ab.D.code ?_
  refine OK.seq ?_
  refine OK.reg ?_
  refine RK.c (S.mkSlice (k := 3) (rows := []) ai30 .none rfl .nil rfl rfl rfl rfl rfl rfl rfl) ?_
  refine RK.c (S.move .none rfl (.tmp rfl rfl)) ?_
  refine RK.c (S.appendSl ai30 .none rfl (.tmp rfl rfl) rfl (by first | rfl | (simp; done) | (simp; omega)) (.tmp rfl rfl) (by intro q hq; obtain ⟨x, _, rfl⟩ := List.mem_map.1 hq; rfl) rfl (by simp only [List.length_map]; omega) (by simp only [maxLen, List.length_map]; omega)) ?_
  refine RK.c (S.assign .none rfl (.tmp rfl rfl)) ?_
  refine RK.nil ?_
  refine Ab.D.code ?_
  refine OK.ret (RetO.mk rfl rfl rfl (by first | rfl | (simp; done) | (simp; omega)) ?_)
  rfl
set_option maxHeartbeats 1000000 in
theorem ref9_better0n {l : List Job} {c : Changes} {o : List Int} {q : List Int × Moment} (ho : o.length = l.length) (hq : q.1 = []) : Ct Tryz.prog 83 [.sl (l.map Job.cs), .agg c.cs, ints o, .nils] (ints (ordersGo l c 0 o (momTo l c o o.length) q).1) := by
  refine Ct.intro (rs := [.tmp 8]) Tryz.func83 rfl Tryz.ntmps83 Tryz.results83 rfl rfl rfl fun w h => ?_
  refine OK.seq ?_
  refine OK.reg ?_
  refine RK.c (S.box (k := 5) rfl .none rfl (.tmp rfl rfl) rfl) ?_
  refine RK.c (S.assign .none rfl .cnil) ?_
  refine RK.nil ?_
  refine Ab.D.code ?_
  refine OK.seq ?_
  refine OK.seq ?_
  refine OK.reg ?_
  refine RK.c (S.move .none rfl (.tmp rfl rfl)) ?_
  refine RK.c (S.lenM si30 .none rfl (.tmp rfl rfl)) ?_
  refine RK.c (S.move .none rfl (.tmp rfl rfl)) ?_
  refine RK.c (S.lenM si22 .none rfl (.tmp rfl rfl)) ?_
  refine RK.c (S.eql .none rfl (.tmp rfl rfl) (.tmp rfl rfl)) ?_
  refine RK.nil ?_
  refine Ab.D.code ?_
  refine OK.condD rfl rfl (fun c18 => ?_) (fun c18 => ?_)
  ·
    refine OK.seq ?_
    refine OK.seq ?_
    refine OK.reg ?_
    refine RK.c (S.move .none rfl (.tmp rfl rfl)) ?_
    refine RK.c (S.eqnilN Tryz.underlying30 .none rfl (.tmp rfl rfl)) ?_
    refine RK.nil ?_
    refine Ab.D.code ?_
    refine OK.condT rfl rfl rfl ?_
    refine OK.seq ?_
    refine OK.reg ?_
    refine RK.c (S.move .none rfl (.tmp rfl rfl)) ?_
    refine RK.c (S.assign .none rfl (.tmp rfl rfl)) ?_
    refine RK.nil ?_
    refine Ab.D.code ?_
    refine OK.ret (Ret.r1 (.tmp rfl rfl (.c (.same rfl) rfl) rfl) ?_)
    rw [show ordersGo l c 0 o (momTo l c o o.length) q = stepB q o (momTo l c o o.length) from rfl, step_nil hq]
  ·
    exfalso
    omega
set_option maxHeartbeats 1000000 in
theorem ref9_better0s {l : List Job} {c : Changes} {o : List Int} {q : List Int × Moment} (hB : BothOk l c) (hp : OrdOkN l.length o) (h0 : q.1 ≠ []) (hq : QOk l c q) : Ct Tryz.prog 83 [.sl (l.map Job.cs), .agg c.cs, ints o, ints q.1] (ints (ordersGo l c 0 o (momTo l c o o.length) q).1) := by
  refine Ct.intro (rs := [.tmp 8]) Tryz.func83 rfl Tryz.ntmps83 Tryz.results83 rfl rfl rfl fun w h => ?_
  have ho := hp.len
  have hbl := hB.len
  have hql := hq.1.len
  refine OK.seq ?_
  refine OK.reg ?_
  refine RK.c (S.box (k := 5) rfl .none rfl (.tmp rfl rfl) rfl) ?_
  refine RK.c (S.assign .none rfl .cnil) ?_
  refine RK.nil ?_
  refine Ab.D.code ?_
  refine OK.seq ?_
  refine OK.seq ?_
  refine OK.reg ?_
  refine RK.c (S.move .none rfl (.tmp rfl rfl)) ?_
  refine RK.c (S.lenM si30 .none rfl (.tmp rfl rfl)) ?_
  refine RK.c (S.move .none rfl (.tmp rfl rfl)) ?_
  refine RK.c (S.lenM si22 .none rfl (.tmp rfl rfl)) ?_
  refine RK.c (S.eql .none rfl (.tmp rfl rfl) (.tmp rfl rfl)) ?_
  refine RK.nil ?_
  refine Ab.D.code ?_
  refine OK.condD rfl rfl (fun c18 => ?_) (fun c18 => ?_)
  ·
    refine OK.seq ?_
    refine OK.seq ?_
    refine OK.reg ?_
    refine RK.c (S.move .none rfl (.tmp rfl rfl)) ?_
    refine RK.c (S.eqnil Tryz.underlying30 .none rfl (.tmp rfl rfl) (by simp; omega)) ?_
    refine RK.nil ?_
    refine Ab.D.code ?_
    refine OK.condF rfl rfl rfl ?_
    refine OK.skip ?_
    refine Ab.D.code ?_
    refine OK.seq ?_
    refine OK.reg ?_
    refine RK.c (S.move .none rfl (.tmp rfl rfl)) ?_
    refine RK.c (S.bloadN ti25 .none rfl (.tmp rfl rfl) rfl rfl rfl rfl) ?_
    refine RK.c (S.move .none rfl (.tmp rfl rfl)) ?_
    refine RK.c (S.call (ref9_Late hB hp) Tryz.call20 .none rfl (.cons (.tmp rfl rfl) (.cons (.tmp rfl rfl) (.cons (.tmp rfl rfl) .nil))) rfl) ?_
    refine RK.c (S.move .none rfl (.tmp rfl rfl)) ?_
    refine RK.c (S.extract .none rfl (.tmp rfl rfl) rfl rfl) ?_
    refine RK.c (S.extract .none rfl (.tmp rfl rfl) rfl rfl) ?_
    refine RK.c (S.assign .none rfl (.tmp rfl rfl)) ?_
    refine RK.c (S.assign .none rfl (.tmp rfl rfl)) ?_
    refine RK.nil ?_
    refine Ab.D.code ?_
    refine OK.seq ?_
    refine OK.reg ?_
    refine RK.c (S.move .none rfl (.tmp rfl rfl)) ?_
    refine RK.c (S.bloadN ti25 .none rfl (.tmp rfl rfl) rfl rfl rfl rfl) ?_
    refine RK.c (S.move .none rfl (.tmp rfl rfl)) ?_
    refine RK.c (S.call (ref9_Late hB hq.1) Tryz.call20 .none rfl (.cons (.tmp rfl rfl) (.cons (.tmp rfl rfl) (.cons (.tmp rfl rfl) .nil))) rfl) ?_
    refine RK.c (S.move .none rfl (.tmp rfl rfl)) ?_
    refine RK.c (S.extract .none rfl (.tmp rfl rfl) rfl rfl) ?_
    refine RK.c (S.extract .none rfl (.tmp rfl rfl) rfl rfl) ?_
    refine RK.c (S.assign .none rfl (.tmp rfl rfl)) ?_
    refine RK.c (S.assign .none rfl (.tmp rfl rfl)) ?_
    refine RK.nil ?_
    refine Ab.D.code ?_
    refine OK.seq ?_
    refine OK.seq ?_
    refine OK.reg ?_
    refine RK.c (S.move .none rfl (.tmp rfl rfl)) ?_
    refine RK.c (S.move .none rfl (.tmp rfl rfl)) ?_
    refine RK.c (S.lss .none rfl (.tmp rfl rfl) (.tmp rfl rfl)) ?_
    refine RK.c (S.move .none rfl (.tmp rfl rfl)) ?_
    refine RK.splitD (t := 39) rfl (fun g39 => ?_) (fun g39 => ?_)
    ·
      refine RK.c (S.skip rfl rfl rfl rfl rfl) ?_
      refine RK.c (S.skip rfl rfl rfl rfl rfl) ?_
      refine RK.c (S.skip rfl rfl rfl rfl rfl) ?_
      refine RK.c (S.skip rfl rfl rfl rfl rfl) ?_
      refine RK.c (S.skipU rfl rfl rfl rfl) ?_
      refine RK.c (S.skipU rfl rfl rfl rfl) ?_
      refine RK.c (S.skipU rfl rfl rfl rfl) ?_
      refine RK.c (S.skip rfl rfl rfl rfl rfl) ?_
      refine RK.c (S.pickT .none rfl (.tmp rfl rfl) .cbool rfl) ?_
      refine RK.nil ?_
      refine Ab.D.code ?_
      refine OK.condT rfl rfl rfl ?_
      refine OK.seq ?_
      refine OK.reg ?_
      refine RK.c (S.move .none rfl (.tmp rfl rfl)) ?_
      refine RK.c (S.assign .none rfl (.tmp rfl rfl)) ?_
      refine RK.nil ?_
      refine Ab.D.code ?_
      rw [show ordersGo l c 0 o (momTo l c o o.length) q = stepB q o (momTo l c o o.length) from rfl]
      refine OK.ret (Ret.r1 (.tmp rfl rfl (.c (.same rfl) rfl) rfl) ?_)
      first | (rw [step_T (by rw [hq.2]; omega)]; done) | (rw [step_F h0 (by rw [hq.2]; omega)]; done) | skip
    ·
      refine RK.c (S.move (.yes rfl rfl rfl rfl) rfl (.tmp rfl rfl)) ?_
      refine RK.c (S.move (.yes rfl rfl rfl rfl) rfl (.tmp rfl rfl)) ?_
      refine RK.c (S.eql (.yes rfl rfl rfl rfl) rfl (.tmp rfl rfl) (.tmp rfl rfl)) ?_
      refine RK.c (S.move (.yes rfl rfl rfl rfl) rfl (.tmp rfl rfl)) ?_
      refine RK.splitD (t := 43) rfl (fun g43 => ?_) (fun g43 => ?_)
      ·
        refine RK.c (S.move (.yes rfl rfl rfl rfl) rfl (.tmp rfl rfl)) ?_
        refine RK.c (S.move (.yes rfl rfl rfl rfl) rfl (.tmp rfl rfl)) ?_
        refine RK.c (S.lss (.yes rfl rfl rfl rfl) rfl (.tmp rfl rfl) (.tmp rfl rfl)) ?_
        refine RK.c (S.pickT (.yes rfl rfl rfl rfl) rfl (.tmp rfl rfl) (.tmp rfl rfl) rfl) ?_
        refine RK.c (S.pickF .none rfl (.tmp rfl rfl) (.tmp rfl rfl) rfl) ?_
        refine RK.nil ?_
        refine Ab.D.code ?_
        refine OK.condD rfl rfl (fun c48 => ?_) (fun c48 => ?_)
        ·
          refine OK.seq ?_
          refine OK.reg ?_
          refine RK.c (S.move .none rfl (.tmp rfl rfl)) ?_
          refine RK.c (S.assign .none rfl (.tmp rfl rfl)) ?_
          refine RK.nil ?_
          refine Ab.D.code ?_
          rw [show ordersGo l c 0 o (momTo l c o o.length) q = stepB q o (momTo l c o o.length) from rfl]
          refine OK.ret (Ret.r1 (.tmp rfl rfl (.c (.same rfl) rfl) rfl) ?_)
          first | (rw [step_T (by rw [hq.2]; omega)]; done) | (rw [step_F h0 (by rw [hq.2]; omega)]; done) | skip
        ·
          refine OK.skip ?_
          refine Ab.D.code ?_
          refine OK.seq ?_
          refine OK.reg ?_
          refine RK.c (S.move .none rfl (.tmp rfl rfl)) ?_
          refine RK.c (S.assign .none rfl (.tmp rfl rfl)) ?_
          refine RK.nil ?_
          refine Ab.D.code ?_
          rw [show ordersGo l c 0 o (momTo l c o o.length) q = stepB q o (momTo l c o o.length) from rfl]
          refine OK.ret (Ret.r1 (.tmp rfl rfl (.c (.same rfl) rfl) rfl) ?_)
          first | (rw [step_T (by rw [hq.2]; omega)]; done) | (rw [step_F h0 (by rw [hq.2]; omega)]; done) | skip
      ·
        refine RK.c (S.skip rfl rfl rfl rfl rfl) ?_
        refine RK.c (S.skip rfl rfl rfl rfl rfl) ?_
        refine RK.c (S.skip rfl rfl rfl rfl rfl) ?_
        refine RK.c (S.pickF (.yes rfl rfl rfl rfl) rfl (.tmp rfl rfl) .cbool rfl) ?_
        refine RK.c (S.pickF .none rfl (.tmp rfl rfl) (.tmp rfl rfl) rfl) ?_
        refine RK.nil ?_
        refine Ab.D.code ?_
        refine OK.condF rfl rfl rfl ?_
        refine OK.skip ?_
        refine Ab.D.code ?_
        refine OK.seq ?_
        refine OK.reg ?_
        refine RK.c (S.move .none rfl (.tmp rfl rfl)) ?_
        refine RK.c (S.assign .none rfl (.tmp rfl rfl)) ?_
        refine RK.nil ?_
        refine Ab.D.code ?_
        rw [show ordersGo l c 0 o (momTo l c o o.length) q = stepB q o (momTo l c o o.length) from rfl]
        refine OK.ret (Ret.r1 (.tmp rfl rfl (.c (.same rfl) rfl) rfl) ?_)
        first | (rw [step_T (by rw [hq.2]; omega)]; done) | (rw [step_F h0 (by rw [hq.2]; omega)]; done) | skip
  ·
    exfalso
    omega
set_option maxHeartbeats 1000000 in
theorem ref9_betterS {l : List Job} {c : Changes} {o : List Int} {q : List Int × Moment} {f : Nat} (hB : BothOk l c) (hp : PreOk l.length o) (ho : o.length + (f + 1) = l.length) (hq : q.1 = [] ∨ QOk l c q) (ih : BetOk l c f) : Ct Tryz.prog 83 [.sl (l.map Job.cs), .agg c.cs, ints o, bestX q] (ints (ordersGo l c (f + 1) o (momTo l c o o.length) q).1) := by
  refine Ct.intro (rs := [.tmp 8]) Tryz.func83 rfl Tryz.ntmps83 Tryz.results83 rfl (by unfold bestX; split <;> rfl) rfl fun w h => ?_
  have hbl := hB.len
  refine OK.seq ?_
  refine OK.reg ?_
  refine RK.c (S.box (k := 5) rfl .none rfl (.tmp rfl rfl) rfl) ?_
  refine RK.c (S.assign .none rfl .cnil) ?_
  refine RK.nil ?_
  refine Ab.D.code ?_
  refine OK.seq ?_
  refine OK.seq ?_
  refine OK.reg ?_
  refine RK.c (S.move .none rfl (.tmp rfl rfl)) ?_
  refine RK.c (S.lenM si30 .none rfl (.tmp rfl rfl)) ?_
  refine RK.c (S.move .none rfl (.tmp rfl rfl)) ?_
  refine RK.c (S.lenM si22 .none rfl (.tmp rfl rfl)) ?_
  refine RK.c (S.eql .none rfl (.tmp rfl rfl) (.tmp rfl rfl)) ?_
  refine RK.nil ?_
  refine Ab.D.code ?_
  refine OK.condD rfl rfl (fun c18 => ?_) (fun c18 => ?_)
  ·
    exfalso
    omega
  ·
    refine OK.skip ?_
    refine Ab.D.code ?_
    refine OK.seq ?_
    refine OK.seq ?_
    refine OK.reg ?_
    refine RK.c (S.assign .none rfl (.cint rfl)) ?_
    refine RK.nil ?_
    refine Ab.D.code ?_
    refine OK.block ?_
    refine OK.loop (G := Nat) [5] (fun i => [(0, .sl (l.map Job.cs)), (2, ints o), (3, bestX (ordTo l c f o (momTo l c o o.length) q i)), (5, .ptr 5 0), (1005, .box c.cs), (13, .int .i64 i)]) (fun i => i ≤ l.length ∧ ((ordTo l c f o (momTo l c o o.length) q i).1 = [] ∨ QOk l c (ordTo l c f o (momTo l c o o.length) q i))) (fun i => l.length - i) 0 ⟨Nat.zero_le _, hq⟩ ⟨rfl, rfl, rfl, rfl, rfl, rfl, trivial⟩ (fun _ => by unfold bestX; split <;> rfl) ?_
    rintro i ⟨hi, hqi⟩
    by_cases hb : (ordTo l c f o (momTo l c o o.length) q i).1 = []
    ·
      rw [best_nil hb]
      refine OK.seq ?_
      refine OK.seq ?_
      refine OK.reg ?_
      refine RK.c (S.move .none rfl (.tmp rfl rfl)) ?_
      refine RK.c (S.move .none rfl (.tmp rfl rfl)) ?_
      refine RK.c (S.lenM si22 .none rfl (.tmp rfl rfl)) ?_
      refine RK.c (S.lss .none rfl (.tmp rfl rfl) (.tmp rfl rfl)) ?_
      refine RK.nil ?_
      refine Ab.D.code ?_
      refine OK.condD rfl rfl (fun c54 => ?_) (fun c54 => ?_)
      ·
        refine OK.skip ?_
        refine Ab.D.code ?_
        refine OK.seq ?_
        refine OK.block ?_
        refine OK.seq ?_
        refine OK.reg ?_
        refine RK.c (S.move .none rfl (.tmp rfl rfl)) ?_
        refine RK.c (S.move .none rfl (.tmp rfl rfl)) ?_
        refine RK.c (S.call (base_Has (l := o)) Tryz.call101 .none rfl (.cons (.tmp rfl rfl) (.cons (.tmp rfl rfl) .nil)) rfl) ?_
        refine RK.c (S.not .none rfl (.tmp rfl rfl)) ?_
        refine RK.nil ?_
        refine Ab.D.code ?_
        refine OK.cond rfl rfl (fun c60 => ?_) (fun c60 => ?_)
        ·
          have hfr : freeI o i = true := by unfold freeI; rw [← hasI_any]; simpa using c60
          have h69 := ih (o ++ [(i : Int)]) (ordTo l c f o (momTo l c o o.length) q i) (by rw [List.length_append, List.length_singleton]; omega) (hp.snoc (by omega) hfr) hqi
          rw [best_nil hb] at h69
          refine OK.regionDraw follows (.c (S.move .none rfl (.tmp rfl rfl))
            (.c (S.bloadN ti25 .none rfl (.tmp rfl rfl) rfl rfl rfl rfl)
            (.c (S.move .none rfl (.tmp rfl rfl))
            (.c (S.callO (k := 64) (baseO_CopyInts (l := o) (by omega)) Tryz.call24 .none rfl (.cons (.tmp rfl rfl) .nil) rfl (List.length_map ..))
            (.c (S.move .none rfl (.tmp rfl rfl))
            (.c (S.mkSlice (k := 66) (rows := [[_]]) ai30 .none rfl (.cons (.tmp rfl rfl) .nil) rfl rfl rfl rfl rfl rfl rfl)
            (.c (S.frz (rows' := (o ++ [(i : Int)]).map (fun n => [.int .i64 n])) (S.append ai30 .none rfl (.tmp rfl rfl) rfl (by simp) (.tmp rfl rfl) rfl (by first | rfl | (simp; done) | (simp; omega)) (by omega) (by simp only [maxLen]; omega)) (by simp) (by simp) rfl rfl)
            (.c (S.move .none rfl (.tmp rfl rfl))
            (.c (S.call (h69) Tryz.call83 .none rfl (.cons (.tmp rfl rfl) (.cons (.tmp rfl rfl) (.cons (.tmp rfl rfl) (.cons (.tmp rfl rfl) .nil)))) rfl)
            (.c (S.assign .none rfl (.tmp rfl rfl))
            .nil)))))))))) (by kernel_rfl) ?_
          refine Ab.D.blk ?_
          refine Ab.D.code ?_
          refine OK.reg ?_
          refine RK.c (S.move .none rfl (.tmp rfl rfl)) ?_
          refine RK.c (S.add .none rfl (.tmp rfl rfl) (.cint rfl) (IntWalk.i64_in _ (by omega)) (IntWalk.i64_in _ (by omega))) ?_
          refine RK.c (S.assign .none rfl (.tmp rfl rfl)) ?_
          refine RK.nil ?_
          refine Ab.D.lp ⟨i + 1, ⟨by omega, ordTo_ok (go_ok f) ho hp hq (i + 1) (by omega)⟩, (by omega), rfl, rfl, (by first | exact bet_T hfr (by omega) ho | exact bet_N hfr hb | exact bet_S hfr hb), rfl, rfl, rfl, trivial⟩
        ·
          have hfr : freeI o i = false := by unfold freeI; rw [← hasI_any]; simpa using c60
          refine OK.skip ?_
          refine Ab.D.blk ?_
          refine Ab.D.code ?_
          refine OK.reg ?_
          refine RK.c (S.move .none rfl (.tmp rfl rfl)) ?_
          refine RK.c (S.add .none rfl (.tmp rfl rfl) (.cint rfl) (IntWalk.i64_in _ (by omega)) (IntWalk.i64_in _ (by omega))) ?_
          refine RK.c (S.assign .none rfl (.tmp rfl rfl)) ?_
          refine RK.nil ?_
          refine Ab.D.lp ⟨i + 1, ⟨by omega, ordTo_ok (go_ok f) ho hp hq (i + 1) (by omega)⟩, (by omega), rfl, rfl, (by first | exact bet_T hfr (by omega) ho | exact bet_N hfr hb | exact bet_S hfr hb), rfl, rfl, rfl, trivial⟩
      ·
        exfalso
        have hie : i = l.length := by omega
        subst hie
        have h9 := orders_ne l c (by omega) (f + 1) o (momTo l c o o.length) q ho
        rw [ordersGo_succ] at h9
        exact h9 hb
    ·
      rw [best_some hb]
      refine OK.seq ?_
      refine OK.seq ?_
      refine OK.reg ?_
      refine RK.c (S.move .none rfl (.tmp rfl rfl)) ?_
      refine RK.c (S.move .none rfl (.tmp rfl rfl)) ?_
      refine RK.c (S.lenM si22 .none rfl (.tmp rfl rfl)) ?_
      refine RK.c (S.lss .none rfl (.tmp rfl rfl) (.tmp rfl rfl)) ?_
      refine RK.nil ?_
      refine Ab.D.code ?_
      refine OK.condD rfl rfl (fun c54 => ?_) (fun c54 => ?_)
      ·
        refine OK.skip ?_
        refine Ab.D.code ?_
        refine OK.seq ?_
        refine OK.block ?_
        refine OK.seq ?_
        refine OK.reg ?_
        refine RK.c (S.move .none rfl (.tmp rfl rfl)) ?_
        refine RK.c (S.move .none rfl (.tmp rfl rfl)) ?_
        refine RK.c (S.call (base_Has (l := o)) Tryz.call101 .none rfl (.cons (.tmp rfl rfl) (.cons (.tmp rfl rfl) .nil)) rfl) ?_
        refine RK.c (S.not .none rfl (.tmp rfl rfl)) ?_
        refine RK.nil ?_
        refine Ab.D.code ?_
        refine OK.cond rfl rfl (fun c60 => ?_) (fun c60 => ?_)
        ·
          have hfr : freeI o i = true := by unfold freeI; rw [← hasI_any]; simpa using c60
          have h69 := ih (o ++ [(i : Int)]) (ordTo l c f o (momTo l c o o.length) q i) (by rw [List.length_append, List.length_singleton]; omega) (hp.snoc (by omega) hfr) hqi
          rw [best_some hb] at h69
          refine OK.regionDraw follows (.c (S.move .none rfl (.tmp rfl rfl))
            (.c (S.bloadN ti25 .none rfl (.tmp rfl rfl) rfl rfl rfl rfl)
            (.c (S.move .none rfl (.tmp rfl rfl))
            (.c (S.callO (k := 64) (baseO_CopyInts (l := o) (by omega)) Tryz.call24 .none rfl (.cons (.tmp rfl rfl) .nil) rfl (List.length_map ..))
            (.c (S.move .none rfl (.tmp rfl rfl))
            (.c (S.mkSlice (k := 66) (rows := [[_]]) ai30 .none rfl (.cons (.tmp rfl rfl) .nil) rfl rfl rfl rfl rfl rfl rfl)
            (.c (S.frz (rows' := (o ++ [(i : Int)]).map (fun n => [.int .i64 n])) (S.append ai30 .none rfl (.tmp rfl rfl) rfl (by simp) (.tmp rfl rfl) rfl (by first | rfl | (simp; done) | (simp; omega)) (by omega) (by simp only [maxLen]; omega)) (by simp) (by simp) rfl rfl)
            (.c (S.move .none rfl (.tmp rfl rfl))
            (.c (S.call (h69) Tryz.call83 .none rfl (.cons (.tmp rfl rfl) (.cons (.tmp rfl rfl) (.cons (.tmp rfl rfl) (.cons (.tmp rfl rfl) .nil)))) rfl)
            (.c (S.assign .none rfl (.tmp rfl rfl))
            .nil)))))))))) (by kernel_rfl) ?_
          refine Ab.D.blk ?_
          refine Ab.D.code ?_
          refine OK.reg ?_
          refine RK.c (S.move .none rfl (.tmp rfl rfl)) ?_
          refine RK.c (S.add .none rfl (.tmp rfl rfl) (.cint rfl) (IntWalk.i64_in _ (by omega)) (IntWalk.i64_in _ (by omega))) ?_
          refine RK.c (S.assign .none rfl (.tmp rfl rfl)) ?_
          refine RK.nil ?_
          refine Ab.D.lp ⟨i + 1, ⟨by omega, ordTo_ok (go_ok f) ho hp hq (i + 1) (by omega)⟩, (by omega), rfl, rfl, (by first | exact bet_T hfr (by omega) ho | exact bet_N hfr hb | exact bet_S hfr hb), rfl, rfl, rfl, trivial⟩
        ·
          have hfr : freeI o i = false := by unfold freeI; rw [← hasI_any]; simpa using c60
          refine OK.skip ?_
          refine Ab.D.blk ?_
          refine Ab.D.code ?_
          refine OK.reg ?_
          refine RK.c (S.move .none rfl (.tmp rfl rfl)) ?_
          refine RK.c (S.add .none rfl (.tmp rfl rfl) (.cint rfl) (IntWalk.i64_in _ (by omega)) (IntWalk.i64_in _ (by omega))) ?_
          refine RK.c (S.assign .none rfl (.tmp rfl rfl)) ?_
          refine RK.nil ?_
          refine Ab.D.lp ⟨i + 1, ⟨by omega, ordTo_ok (go_ok f) ho hp hq (i + 1) (by omega)⟩, (by omega), rfl, rfl, (by first | exact bet_T hfr (by omega) ho | exact bet_N hfr hb | exact bet_S hfr hb), rfl, rfl, rfl, trivial⟩
      ·
        refine OK.exit rfl ?_
        refine Ab.D.code ?_
        refine OK.seq ?_
        refine OK.reg ?_
        refine RK.c (S.move .none rfl (.tmp rfl rfl)) ?_
        refine RK.c (S.assign .none rfl (.tmp rfl rfl)) ?_
        refine RK.nil ?_
        refine Ab.D.code ?_
        refine OK.ret (Ret.r1 (.tmp rfl rfl (.c (.same rfl) rfl) rfl) ?_)
        have hie : i = l.length := by omega
        rw [hie, ordersGo_succ]
theorem ref9_better {l : List Job} {c : Changes} (hB : BothOk l c) : ∀ f, BetOk l c f
  | 0 => fun o q ho hp hq => by
    by_cases h : q.1 = []
    · rw [best_nil h]
      exact ref9_better0n (by omega) h
    · rw [best_some h]
      exact ref9_better0s hB (hp.ord (by omega)) h (hq.resolve_left h)
  | f + 1 => fun o q ho hp hq => ref9_betterS hB hp ho hq (ref9_better hB f)
theorem ref9_best {l : List Job} {c : Changes} (hB : BothOk l c) : Ct Tryz.prog 83 [.sl (l.map Job.cs), .agg c.cs, .sl [], .nils] (ints (bestT l c).1) := by
  have h := ref9_better hB l.length [] ([], ⟨0, 0, 0, 0⟩) (by simp) (pre_nil _) (.inl rfl)
  rw [best_nil rfl] at h
  exact h
theorem ref9_Best {l : List Job} {c : Changes} (hB : BothOk l c) : Ct Tryz.prog 19 [.sl (l.map Job.cs), .agg c.cs] (ints (bestT l c).1) := by
  refine Ct.intro (rs := [.tmp 4]) Tryz.func19 rfl Tryz.ntmps19 Tryz.results19 rfl rfl rfl fun w h => ?_
  refine OK.seq ?_
  refine OK.reg ?_
  refine RK.c (S.box (k := 3) rfl .none rfl (.tmp rfl rfl) rfl) ?_
  refine RK.c (S.assign .none rfl .cnil) ?_
  refine RK.nil ?_
  refine Ab.D.code ?_
  refine OK.seq ?_
  refine OK.reg ?_
  refine RK.c (S.move .none rfl (.tmp rfl rfl)) ?_
  refine RK.c (S.bloadN ti25 .none rfl (.tmp rfl rfl) rfl rfl rfl rfl) ?_
  refine RK.c (S.call (ref9_best hB) Tryz.call83 .none rfl (.cons (.tmp rfl rfl) (.cons (.tmp rfl rfl) (.cons .cnil (.cons .cnils .nil)))) rfl) ?_
  refine RK.c (S.assign .none rfl (.tmp rfl rfl)) ?_
  refine RK.nil ?_
  refine Ab.D.code ?_
  refine OK.ret (Ret.r1 (.tmp rfl rfl (.c (.same rfl) rfl) rfl) ?_)
  rfl
set_option maxHeartbeats 1000000 in
theorem law_ShopBest {l : List Job} {c : Changes} : Ct Tryz.prog 3 [.sl (l.map Job.cs), .agg c.cs] (.bool true) := by
  refine Ct.intro (rs := [.tmp 4]) Tryz.func3 rfl Tryz.ntmps3 Tryz.results3 rfl rfl rfl fun w h => ?_
  refine OK.seq ?_
  refine OK.reg ?_
  refine RK.c (S.box (k := 3) rfl .none rfl (.tmp rfl rfl) rfl) ?_
  refine RK.c (S.assign .none rfl .cbool) ?_
  refine RK.nil ?_
  refine Ab.D.code ?_
  refine OK.seq ?_
  refine OK.seq ?_
  refine OK.reg ?_
  refine RK.c (S.call (law9_awake) Tryz.call12 .none rfl .nil rfl) ?_
  refine RK.c (S.not .none rfl (.tmp rfl rfl)) ?_
  refine RK.nil ?_
  refine Ab.D.code ?_
  refine OK.condF rfl rfl rfl ?_
  refine OK.skip ?_
  refine Ab.D.code ?_
  refine OK.seq ?_
  refine OK.seq ?_
  refine OK.reg ?_
  refine RK.c (S.move .none rfl (.tmp rfl rfl)) ?_
  refine RK.c (S.call (law9_fewJobs) Tryz.call13 .none rfl (.cons (.tmp rfl rfl) .nil) rfl) ?_
  refine RK.c (S.not .none rfl (.tmp rfl rfl)) ?_
  refine RK.c (S.move .none rfl (.tmp rfl rfl)) ?_
  refine RK.split (t := 18) rfl (fun g18 => ?_) (fun g18 => ?_)
  ·
    refine RK.c (S.skip rfl rfl rfl rfl rfl) ?_
    refine RK.c (S.skip rfl rfl rfl rfl rfl) ?_
    refine RK.c (S.skip rfl rfl rfl rfl rfl) ?_
    refine RK.c (S.pickT .none rfl (.tmp rfl rfl) .cbool rfl) ?_
    refine RK.c (S.move .none rfl (.tmp rfl rfl)) ?_
    refine RK.c (S.skip rfl rfl rfl rfl rfl) ?_
    refine RK.c (S.skip rfl rfl rfl rfl rfl) ?_
    refine RK.c (S.skip rfl rfl rfl rfl rfl) ?_
    refine RK.c (S.skip rfl rfl rfl rfl rfl) ?_
    refine RK.c (S.skipU rfl rfl rfl rfl) ?_
    refine RK.c (S.skipU rfl rfl rfl rfl) ?_
    refine RK.c (S.skipU rfl rfl rfl rfl) ?_
    refine RK.c (S.skipU rfl rfl rfl rfl) ?_
    refine RK.c (S.skip rfl rfl rfl rfl rfl) ?_
    refine RK.c (S.pickT .none rfl (.tmp rfl rfl) .cbool rfl) ?_
    refine RK.nil ?_
    refine Ab.D.code ?_
    refine OK.condT rfl rfl rfl ?_
    refine OK.seq ?_
    refine OK.reg ?_
    refine RK.c (S.assign .none rfl .cbool) ?_
    refine RK.nil ?_
    refine Ab.D.code ?_
    refine OK.ret (Ret.r1 (.tmp rfl rfl (.c (.same rfl) rfl) rfl) ?_)
    first | rfl | exact ret_dT rfl | exact ret_dT trivial | exact ret_dT (congrArg Moment.changes hbq.2)
  ·
    refine RK.c (S.bloadN ti25 (.yes rfl rfl rfl rfl) rfl (.tmp rfl rfl) rfl rfl rfl rfl) ?_
    refine RK.c (S.call (law9_fewChanges) Tryz.call14 (.yes rfl rfl rfl rfl) rfl (.cons (.tmp rfl rfl) .nil) rfl) ?_
    refine RK.c (S.not (.yes rfl rfl rfl rfl) rfl (.tmp rfl rfl)) ?_
    refine RK.c (S.pickF .none rfl (.tmp rfl rfl) (.tmp rfl rfl) rfl) ?_
    refine RK.c (S.move .none rfl (.tmp rfl rfl)) ?_
    refine RK.split (t := 23) rfl (fun g23 => ?_) (fun g23 => ?_)
    ·
      refine RK.c (S.skip rfl rfl rfl rfl rfl) ?_
      refine RK.c (S.skip rfl rfl rfl rfl rfl) ?_
      refine RK.c (S.skip rfl rfl rfl rfl rfl) ?_
      refine RK.c (S.skip rfl rfl rfl rfl rfl) ?_
      refine RK.c (S.skipU rfl rfl rfl rfl) ?_
      refine RK.c (S.skipU rfl rfl rfl rfl) ?_
      refine RK.c (S.skipU rfl rfl rfl rfl) ?_
      refine RK.c (S.skipU rfl rfl rfl rfl) ?_
      refine RK.c (S.skip rfl rfl rfl rfl rfl) ?_
      refine RK.c (S.pickT .none rfl (.tmp rfl rfl) .cbool rfl) ?_
      refine RK.nil ?_
      refine Ab.D.code ?_
      refine OK.condT rfl rfl rfl ?_
      refine OK.seq ?_
      refine OK.reg ?_
      refine RK.c (S.assign .none rfl .cbool) ?_
      refine RK.nil ?_
      refine Ab.D.code ?_
      refine OK.ret (Ret.r1 (.tmp rfl rfl (.c (.same rfl) rfl) rfl) ?_)
      first | rfl | exact ret_dT rfl | exact ret_dT trivial | exact ret_dT (congrArg Moment.changes hbq.2)
    ·
      refine RK.c (S.move (.yes rfl rfl rfl rfl) rfl (.tmp rfl rfl)) ?_
      refine RK.c (S.lenM si22 (.yes rfl rfl rfl rfl) rfl (.tmp rfl rfl)) ?_
      refine RK.c (S.gtr (.yes rfl rfl rfl rfl) rfl (.tmp rfl rfl) (.cint rfl)) ?_
      refine RK.c (S.move (.yes rfl rfl rfl rfl) rfl (.tmp rfl rfl)) ?_
      refine RK.splitD (t := 27) rfl (fun g27 => ?_) (fun g27 => ?_)
      ·
        refine RK.c (S.move (.yes rfl rfl rfl rfl) rfl (.tmp rfl rfl)) ?_
        refine RK.c (S.bloadN ti25 (.yes rfl rfl rfl rfl) rfl (.tmp rfl rfl) rfl rfl rfl rfl) ?_
        refine RK.c (S.call (ref9_BothErr) Tryz.call15 (.yes rfl rfl rfl rfl) rfl (.cons (.tmp rfl rfl) (.cons (.tmp rfl rfl) .nil)) rfl) ?_
        refine RK.c (S.eql (.yes rfl rfl rfl rfl) rfl (.tmp rfl rfl) (.cint rfl)) ?_
        refine RK.c (S.pickT (.yes rfl rfl rfl rfl) rfl (.tmp rfl rfl) (.tmp rfl rfl) rfl) ?_
        refine RK.c (S.pickF .none rfl (.tmp rfl rfl) (.tmp rfl rfl) rfl) ?_
        refine RK.nil ?_
        refine Ab.D.code ?_
        refine OK.condD rfl rfl (fun c33 => ?_) (fun c33 => ?_)
        ·
          refine OK.seq ?_
          refine OK.reg ?_
          refine RK.c (S.assign .none rfl .cbool) ?_
          refine RK.nil ?_
          refine Ab.D.code ?_
          refine OK.ret (Ret.r1 (.tmp rfl rfl (.c (.same rfl) rfl) rfl) ?_)
          first | rfl | exact ret_dT rfl | exact ret_dT trivial | exact ret_dT (congrArg Moment.changes hbq.2)
        ·
          have hfj := few_j (l := l) (by simpa using g18)
          obtain ⟨hfc1, hfc2⟩ := few_c (c := c) (by simpa using g23)
          refine OK.skip ?_
          refine Ab.D.code ?_
          refine OK.seq ?_
          refine OK.regionDraw follows (.c (S.move .none rfl (.tmp rfl rfl))
            (.c (S.call (ref9_CopyJobs (by omega)) Tryz.call17 .none rfl (.cons (.tmp rfl rfl) .nil) rfl)
            (.c (S.bloadN ti25 .none rfl (.tmp rfl rfl) rfl rfl rfl rfl)
            (.c (S.call (ref9_CopyChanges (by omega) (fun r hr => by have := hfc2 r hr; omega)) Tryz.call18 .none rfl (.cons (.tmp rfl rfl) .nil) rfl)
            (.c (S.call (shp_BestOf) Tryz.call16 .none rfl (.cons (.tmp rfl rfl) (.cons (.tmp rfl rfl) .nil)) rfl)
            (.c (S.move .none rfl (.tmp rfl rfl))
            (.c (S.extract .none rfl (.tmp rfl rfl) rfl rfl)
            (.c (S.extract .none rfl (.tmp rfl rfl) rfl rfl)
            (.c (S.extract .none rfl (.tmp rfl rfl) rfl rfl)
            (.c (S.extract .none rfl (.tmp rfl rfl) rfl rfl)
            (.c (S.assign .none rfl (.tmp rfl rfl))
            (.c (S.assign .none rfl (.tmp rfl rfl))
            (.c (S.assign .none rfl (.tmp rfl rfl))
            (.c (S.assign .none rfl (.tmp rfl rfl))
            .nil)))))))))))))) (by kernel_rfl) ?_
          refine Ab.D.code ?_
          refine OK.seq ?_
          refine OK.seq ?_
          refine OK.reg ?_
          refine RK.c (S.move .none rfl (.tmp rfl rfl)) ?_
          refine RK.c (S.bloadN ti25 .none rfl (.tmp rfl rfl) rfl rfl rfl rfl) ?_
          refine RK.c (S.call (ref9_BothErr) Tryz.call15 .none rfl (.cons (.tmp rfl rfl) (.cons (.tmp rfl rfl) .nil)) rfl) ?_
          refine RK.c (S.assign .none rfl (.tmp rfl rfl)) ?_
          refine RK.nil ?_
          refine Ab.D.code ?_
          refine OK.seq ?_
          refine OK.reg ?_
          refine RK.c (S.move .none rfl (.tmp rfl rfl)) ?_
          refine RK.c (S.neq .none rfl (.tmp rfl rfl) (.cint rfl)) ?_
          refine RK.nil ?_
          refine Ab.D.code ?_
          refine OK.condD rfl rfl (fun c48 => ?_) (fun c48 => ?_)
          ·
            rw [if_neg c48, if_neg c48, if_neg c48]
            refine OK.seq ?_
            refine OK.reg ?_
            refine RK.c (S.move .none rfl (.tmp rfl rfl)) ?_
            refine RK.c (S.move .none rfl (.tmp rfl rfl)) ?_
            refine RK.c (S.eql .none rfl (.tmp rfl rfl) (.tmp rfl rfl)) ?_
            refine RK.c (S.move .none rfl (.tmp rfl rfl)) ?_
            refine RK.splitD (t := 52) rfl (fun g52 => ?_) (fun g52 => ?_)
            ·
              refine RK.c (S.move (.yes rfl rfl rfl rfl) rfl (.tmp rfl rfl)) ?_
              refine RK.c (S.lenM si30 (.yes rfl rfl rfl rfl) rfl (.tmp rfl rfl)) ?_
              refine RK.c (S.eql (.yes rfl rfl rfl rfl) rfl (.tmp rfl rfl) (.cint rfl)) ?_
              refine RK.c (S.pickT .none rfl (.tmp rfl rfl) (.tmp rfl rfl) rfl) ?_
              refine RK.c (S.move .none rfl (.tmp rfl rfl)) ?_
              refine RK.splitD (t := 57) rfl (fun g57 => ?_) (fun g57 => ?_)
              ·
                refine RK.c (S.move (.yes rfl rfl rfl rfl) rfl (.tmp rfl rfl)) ?_
                refine RK.c (S.eql (.yes rfl rfl rfl rfl) rfl (.tmp rfl rfl) (.cint rfl)) ?_
                refine RK.c (S.pickT .none rfl (.tmp rfl rfl) (.tmp rfl rfl) rfl) ?_
                refine RK.c (S.move .none rfl (.tmp rfl rfl)) ?_
                refine RK.splitD (t := 61) rfl (fun g61 => ?_) (fun g61 => ?_)
                ·
                  refine RK.c (S.move (.yes rfl rfl rfl rfl) rfl (.tmp rfl rfl)) ?_
                  refine RK.c (S.eql (.yes rfl rfl rfl rfl) rfl (.tmp rfl rfl) (.cint rfl)) ?_
                  refine RK.c (S.pickT .none rfl (.tmp rfl rfl) (.tmp rfl rfl) rfl) ?_
                  refine RK.c (S.assign .none rfl (.tmp rfl rfl)) ?_
                  refine RK.nil ?_
                  refine Ab.D.code ?_
                  refine OK.ret (Ret.r1 (.tmp rfl rfl (.c (.same rfl) rfl) rfl) ?_)
                  first | rfl | exact ret_dT rfl | exact ret_dT trivial | exact ret_dT (congrArg Moment.changes hbq.2)
                ·
                  exact absurd rfl g61
              ·
                exact absurd rfl g57
            ·
              exact absurd rfl g52
          ·
            have he : bothE l c = 0 := Decidable.not_not.1 c48
            have hB := both_ok he
            have hbl := hB.len
            have hbq := best_q (l := l) c (by omega)
            rw [if_pos he, if_pos he, if_pos he]
            refine OK.skip ?_
            refine Ab.D.code ?_
            refine OK.seq ?_
            refine OK.reg ?_
            refine RK.c (S.move .none rfl (.tmp rfl rfl)) ?_
            refine RK.c (S.bloadN ti25 .none rfl (.tmp rfl rfl) rfl rfl rfl rfl) ?_
            refine RK.c (S.call (ref9_Best hB) Tryz.call19 .none rfl (.cons (.tmp rfl rfl) (.cons (.tmp rfl rfl) .nil)) rfl) ?_
            refine RK.c (S.assign .none rfl (.tmp rfl rfl)) ?_
            refine RK.nil ?_
            refine Ab.D.code ?_
            refine OK.seq ?_
            refine OK.reg ?_
            refine RK.c (S.move .none rfl (.tmp rfl rfl)) ?_
            refine RK.c (S.bloadN ti25 .none rfl (.tmp rfl rfl) rfl rfl rfl rfl) ?_
            refine RK.c (S.move .none rfl (.tmp rfl rfl)) ?_
            refine RK.c (S.call (ref9_Late hB hbq.1) Tryz.call20 .none rfl (.cons (.tmp rfl rfl) (.cons (.tmp rfl rfl) (.cons (.tmp rfl rfl) .nil))) rfl) ?_
            refine RK.c (S.move .none rfl (.tmp rfl rfl)) ?_
            refine RK.c (S.extract .none rfl (.tmp rfl rfl) rfl rfl) ?_
            refine RK.c (S.extract .none rfl (.tmp rfl rfl) rfl rfl) ?_
            refine RK.c (S.assign .none rfl (.tmp rfl rfl)) ?_
            refine RK.c (S.assign .none rfl (.tmp rfl rfl)) ?_
            refine RK.nil ?_
            refine Ab.D.code ?_
            refine OK.seq ?_
            refine OK.reg ?_
            refine RK.c (S.move .none rfl (.tmp rfl rfl)) ?_
            refine RK.c (S.eql .none rfl (.tmp rfl rfl) (.cint rfl)) ?_
            refine RK.c (S.move .none rfl (.tmp rfl rfl)) ?_
            refine RK.splitD (t := 77) rfl (fun g77 => ?_) (fun g77 => ?_)
            ·
              refine RK.c (S.move (.yes rfl rfl rfl rfl) rfl (.tmp rfl rfl)) ?_
              refine RK.c (S.move (.yes rfl rfl rfl rfl) rfl (.tmp rfl rfl)) ?_
              refine RK.c (S.call (base_Ints) Tryz.call21 (.yes rfl rfl rfl rfl) rfl (.cons (.tmp rfl rfl) (.cons (.tmp rfl rfl) .nil)) rfl) ?_
              refine RK.c (S.pickT .none rfl (.tmp rfl rfl) (.tmp rfl rfl) rfl) ?_
              refine RK.c (S.move .none rfl (.tmp rfl rfl)) ?_
              refine RK.splitD (t := 82) rfl (fun g82 => ?_) (fun g82 => ?_)
              ·
                refine RK.c (S.move (.yes rfl rfl rfl rfl) rfl (.tmp rfl rfl)) ?_
                refine RK.c (S.move (.yes rfl rfl rfl rfl) rfl (.tmp rfl rfl)) ?_
                refine RK.c (S.eql (.yes rfl rfl rfl rfl) rfl (.tmp rfl rfl) (.tmp rfl rfl)) ?_
                refine RK.c (S.pickT .none rfl (.tmp rfl rfl) (.tmp rfl rfl) rfl) ?_
                refine RK.c (S.move .none rfl (.tmp rfl rfl)) ?_
                refine RK.splitD (t := 87) rfl (fun g87 => ?_) (fun g87 => ?_)
                ·
                  refine RK.c (S.move (.yes rfl rfl rfl rfl) rfl (.tmp rfl rfl)) ?_
                  refine RK.c (S.move (.yes rfl rfl rfl rfl) rfl (.tmp rfl rfl)) ?_
                  refine RK.c (S.eql (.yes rfl rfl rfl rfl) rfl (.tmp rfl rfl) (.tmp rfl rfl)) ?_
                  refine RK.c (S.pickT .none rfl (.tmp rfl rfl) (.tmp rfl rfl) rfl) ?_
                  refine RK.c (S.assign .none rfl (.tmp rfl rfl)) ?_
                  refine RK.nil ?_
                  refine Ab.D.code ?_
                  refine OK.ret (Ret.r1 (.tmp rfl rfl (.c (.same rfl) rfl) rfl) ?_)
                  first | rfl | exact ret_dT rfl | exact ret_dT trivial | exact ret_dT (congrArg Moment.changes hbq.2)
                ·
                  exact absurd (congrArg Moment.late hbq.2) g87
              ·
                exact absurd rfl g82
            ·
              exact absurd he g77
      ·
        have hfj := few_j (l := l) (by simpa using g18)
        obtain ⟨hfc1, hfc2⟩ := few_c (c := c) (by simpa using g23)
        refine RK.c (S.skip rfl rfl rfl rfl rfl) ?_
        refine RK.c (S.skip rfl rfl rfl rfl rfl) ?_
        refine RK.c (S.skip rfl rfl rfl rfl rfl) ?_
        refine RK.c (S.skip rfl rfl rfl rfl rfl) ?_
        refine RK.c (S.pickF (.yes rfl rfl rfl rfl) rfl (.tmp rfl rfl) .cbool rfl) ?_
        refine RK.c (S.pickF .none rfl (.tmp rfl rfl) (.tmp rfl rfl) rfl) ?_
        refine RK.nil ?_
        refine Ab.D.code ?_
        refine OK.condF rfl rfl rfl ?_
        refine OK.skip ?_
        refine Ab.D.code ?_
        refine OK.seq ?_
        refine OK.regionDraw follows (.c (S.move .none rfl (.tmp rfl rfl))
          (.c (S.call (ref9_CopyJobs (by omega)) Tryz.call17 .none rfl (.cons (.tmp rfl rfl) .nil) rfl)
          (.c (S.bloadN ti25 .none rfl (.tmp rfl rfl) rfl rfl rfl rfl)
          (.c (S.call (ref9_CopyChanges (by omega) (fun r hr => by have := hfc2 r hr; omega)) Tryz.call18 .none rfl (.cons (.tmp rfl rfl) .nil) rfl)
          (.c (S.call (shp_BestOf) Tryz.call16 .none rfl (.cons (.tmp rfl rfl) (.cons (.tmp rfl rfl) .nil)) rfl)
          (.c (S.move .none rfl (.tmp rfl rfl))
          (.c (S.extract .none rfl (.tmp rfl rfl) rfl rfl)
          (.c (S.extract .none rfl (.tmp rfl rfl) rfl rfl)
          (.c (S.extract .none rfl (.tmp rfl rfl) rfl rfl)
          (.c (S.extract .none rfl (.tmp rfl rfl) rfl rfl)
          (.c (S.assign .none rfl (.tmp rfl rfl))
          (.c (S.assign .none rfl (.tmp rfl rfl))
          (.c (S.assign .none rfl (.tmp rfl rfl))
          (.c (S.assign .none rfl (.tmp rfl rfl))
          .nil)))))))))))))) (by kernel_rfl) ?_
        refine Ab.D.code ?_
        refine OK.seq ?_
        refine OK.seq ?_
        refine OK.reg ?_
        refine RK.c (S.move .none rfl (.tmp rfl rfl)) ?_
        refine RK.c (S.bloadN ti25 .none rfl (.tmp rfl rfl) rfl rfl rfl rfl) ?_
        refine RK.c (S.call (ref9_BothErr) Tryz.call15 .none rfl (.cons (.tmp rfl rfl) (.cons (.tmp rfl rfl) .nil)) rfl) ?_
        refine RK.c (S.assign .none rfl (.tmp rfl rfl)) ?_
        refine RK.nil ?_
        refine Ab.D.code ?_
        refine OK.seq ?_
        refine OK.reg ?_
        refine RK.c (S.move .none rfl (.tmp rfl rfl)) ?_
        refine RK.c (S.neq .none rfl (.tmp rfl rfl) (.cint rfl)) ?_
        refine RK.nil ?_
        refine Ab.D.code ?_
        refine OK.condD rfl rfl (fun c48 => ?_) (fun c48 => ?_)
        ·
          rw [if_neg c48, if_neg c48, if_neg c48]
          refine OK.seq ?_
          refine OK.reg ?_
          refine RK.c (S.move .none rfl (.tmp rfl rfl)) ?_
          refine RK.c (S.move .none rfl (.tmp rfl rfl)) ?_
          refine RK.c (S.eql .none rfl (.tmp rfl rfl) (.tmp rfl rfl)) ?_
          refine RK.c (S.move .none rfl (.tmp rfl rfl)) ?_
          refine RK.splitD (t := 52) rfl (fun g52 => ?_) (fun g52 => ?_)
          ·
            refine RK.c (S.move (.yes rfl rfl rfl rfl) rfl (.tmp rfl rfl)) ?_
            refine RK.c (S.lenM si30 (.yes rfl rfl rfl rfl) rfl (.tmp rfl rfl)) ?_
            refine RK.c (S.eql (.yes rfl rfl rfl rfl) rfl (.tmp rfl rfl) (.cint rfl)) ?_
            refine RK.c (S.pickT .none rfl (.tmp rfl rfl) (.tmp rfl rfl) rfl) ?_
            refine RK.c (S.move .none rfl (.tmp rfl rfl)) ?_
            refine RK.splitD (t := 57) rfl (fun g57 => ?_) (fun g57 => ?_)
            ·
              refine RK.c (S.move (.yes rfl rfl rfl rfl) rfl (.tmp rfl rfl)) ?_
              refine RK.c (S.eql (.yes rfl rfl rfl rfl) rfl (.tmp rfl rfl) (.cint rfl)) ?_
              refine RK.c (S.pickT .none rfl (.tmp rfl rfl) (.tmp rfl rfl) rfl) ?_
              refine RK.c (S.move .none rfl (.tmp rfl rfl)) ?_
              refine RK.splitD (t := 61) rfl (fun g61 => ?_) (fun g61 => ?_)
              ·
                refine RK.c (S.move (.yes rfl rfl rfl rfl) rfl (.tmp rfl rfl)) ?_
                refine RK.c (S.eql (.yes rfl rfl rfl rfl) rfl (.tmp rfl rfl) (.cint rfl)) ?_
                refine RK.c (S.pickT .none rfl (.tmp rfl rfl) (.tmp rfl rfl) rfl) ?_
                refine RK.c (S.assign .none rfl (.tmp rfl rfl)) ?_
                refine RK.nil ?_
                refine Ab.D.code ?_
                refine OK.ret (Ret.r1 (.tmp rfl rfl (.c (.same rfl) rfl) rfl) ?_)
                first | rfl | exact ret_dT rfl | exact ret_dT trivial | exact ret_dT (congrArg Moment.changes hbq.2)
              ·
                exact absurd rfl g61
            ·
              exact absurd rfl g57
          ·
            exact absurd rfl g52
        ·
          have he : bothE l c = 0 := Decidable.not_not.1 c48
          have hB := both_ok he
          have hbl := hB.len
          have hbq := best_q (l := l) c (by omega)
          rw [if_pos he, if_pos he, if_pos he]
          refine OK.skip ?_
          refine Ab.D.code ?_
          refine OK.seq ?_
          refine OK.reg ?_
          refine RK.c (S.move .none rfl (.tmp rfl rfl)) ?_
          refine RK.c (S.bloadN ti25 .none rfl (.tmp rfl rfl) rfl rfl rfl rfl) ?_
          refine RK.c (S.call (ref9_Best hB) Tryz.call19 .none rfl (.cons (.tmp rfl rfl) (.cons (.tmp rfl rfl) .nil)) rfl) ?_
          refine RK.c (S.assign .none rfl (.tmp rfl rfl)) ?_
          refine RK.nil ?_
          refine Ab.D.code ?_
          refine OK.seq ?_
          refine OK.reg ?_
          refine RK.c (S.move .none rfl (.tmp rfl rfl)) ?_
          refine RK.c (S.bloadN ti25 .none rfl (.tmp rfl rfl) rfl rfl rfl rfl) ?_
          refine RK.c (S.move .none rfl (.tmp rfl rfl)) ?_
          refine RK.c (S.call (ref9_Late hB hbq.1) Tryz.call20 .none rfl (.cons (.tmp rfl rfl) (.cons (.tmp rfl rfl) (.cons (.tmp rfl rfl) .nil))) rfl) ?_
          refine RK.c (S.move .none rfl (.tmp rfl rfl)) ?_
          refine RK.c (S.extract .none rfl (.tmp rfl rfl) rfl rfl) ?_
          refine RK.c (S.extract .none rfl (.tmp rfl rfl) rfl rfl) ?_
          refine RK.c (S.assign .none rfl (.tmp rfl rfl)) ?_
          refine RK.c (S.assign .none rfl (.tmp rfl rfl)) ?_
          refine RK.nil ?_
          refine Ab.D.code ?_
          refine OK.seq ?_
          refine OK.reg ?_
          refine RK.c (S.move .none rfl (.tmp rfl rfl)) ?_
          refine RK.c (S.eql .none rfl (.tmp rfl rfl) (.cint rfl)) ?_
          refine RK.c (S.move .none rfl (.tmp rfl rfl)) ?_
          refine RK.splitD (t := 77) rfl (fun g77 => ?_) (fun g77 => ?_)
          ·
            refine RK.c (S.move (.yes rfl rfl rfl rfl) rfl (.tmp rfl rfl)) ?_
            refine RK.c (S.move (.yes rfl rfl rfl rfl) rfl (.tmp rfl rfl)) ?_
            refine RK.c (S.call (base_Ints) Tryz.call21 (.yes rfl rfl rfl rfl) rfl (.cons (.tmp rfl rfl) (.cons (.tmp rfl rfl) .nil)) rfl) ?_
            refine RK.c (S.pickT .none rfl (.tmp rfl rfl) (.tmp rfl rfl) rfl) ?_
            refine RK.c (S.move .none rfl (.tmp rfl rfl)) ?_
            refine RK.splitD (t := 82) rfl (fun g82 => ?_) (fun g82 => ?_)
            ·
              refine RK.c (S.move (.yes rfl rfl rfl rfl) rfl (.tmp rfl rfl)) ?_
              refine RK.c (S.move (.yes rfl rfl rfl rfl) rfl (.tmp rfl rfl)) ?_
              refine RK.c (S.eql (.yes rfl rfl rfl rfl) rfl (.tmp rfl rfl) (.tmp rfl rfl)) ?_
              refine RK.c (S.pickT .none rfl (.tmp rfl rfl) (.tmp rfl rfl) rfl) ?_
              refine RK.c (S.move .none rfl (.tmp rfl rfl)) ?_
              refine RK.splitD (t := 87) rfl (fun g87 => ?_) (fun g87 => ?_)
              ·
                refine RK.c (S.move (.yes rfl rfl rfl rfl) rfl (.tmp rfl rfl)) ?_
                refine RK.c (S.move (.yes rfl rfl rfl rfl) rfl (.tmp rfl rfl)) ?_
                refine RK.c (S.eql (.yes rfl rfl rfl rfl) rfl (.tmp rfl rfl) (.tmp rfl rfl)) ?_
                refine RK.c (S.pickT .none rfl (.tmp rfl rfl) (.tmp rfl rfl) rfl) ?_
                refine RK.c (S.assign .none rfl (.tmp rfl rfl)) ?_
                refine RK.nil ?_
                refine Ab.D.code ?_
                refine OK.ret (Ret.r1 (.tmp rfl rfl (.c (.same rfl) rfl) rfl) ?_)
                first | rfl | exact ret_dT rfl | exact ret_dT trivial | exact ret_dT (congrArg Moment.changes hbq.2)
              ·
                exact absurd (congrArg Moment.late hbq.2) g87
            ·
              exact absurd rfl g82
          ·
            exact absurd he g77
end Go.Proofs.YtpfepjgnojfppaaGreatDoor
