/-
  Frames: the walks.
-/
import Derived.Test.YtmokilkombplkaaGreatSh
import Derived.Test.YtmokilkombplkaaGreatFx
import Derived.Test.YtmokilkombplkaaGreatYa
namespace Go.Proofs.YtmokilkombplkaaGreat
open Go.Ab


theorem lib_EqualInts {a b : List Int} : Ct Tryz.prog 38 [ints a, ints b] (.bool (decide (a = b))) := by
  refine Ct.intro (rs := [.tmp 4]) Tryz.func38 rfl Tryz.ntmps38 Tryz.results38 rfl rfl rfl fun w h => ?_
  refine OK.slLen (rows := a.map (fun n => [.int .i64 n])) (t := 0) rfl rfl fun hlen => ?_
  rw [List.length_map] at hlen
  unfold maxLen at hlen
  refine OK.seq ?_
  refine OK.reg ?_
  refine RK.c (S.assign .none rfl .cbool) ?_
  refine RK.nil ?_
  refine Ab.D.code ?_
  refine OK.seq ?_
  refine OK.seq ?_
  refine OK.reg ?_
  refine RK.c (S.move .none rfl (.tmp rfl rfl)) ?_
  refine RK.c (S.lenM si33 .none rfl (.tmp rfl rfl)) ?_
  refine RK.c (S.move .none rfl (.tmp rfl rfl)) ?_
  refine RK.c (S.lenM si33 .none rfl (.tmp rfl rfl)) ?_
  refine RK.c (S.neq .none rfl (.tmp rfl rfl) (.tmp rfl rfl)) ?_
  refine RK.nil ?_
  refine Ab.D.code ?_
  refine OK.condD rfl rfl (fun c10 => ?_) (fun c10 => ?_)
  ·
    refine OK.seq ?_
    refine OK.reg ?_
    refine RK.c (S.assign .none rfl .cbool) ?_
    refine RK.nil ?_
    refine Ab.D.code ?_
    refine OK.ret (Ret.r1 (.tmp rfl rfl (.c (.same rfl) rfl) rfl) ?_)
    exact ret_F (fun e => c10 (by rw [e]))
  ·
    have hl : a.length = b.length := by omega
    refine OK.skip ?_
    refine Ab.D.code ?_
    refine OK.seq ?_
    refine OK.seq ?_
    refine OK.reg ?_
    refine RK.c (S.move .none rfl (.tmp rfl rfl)) ?_
    refine RK.c (S.lenM si33 .none rfl (.tmp rfl rfl)) ?_
    refine RK.c (S.move .none rfl (.cint rfl)) ?_
    refine RK.nil ?_
    refine Ab.D.code ?_
    refine OK.block ?_
    refine OK.loop (G := Nat) [] (fun i => [(0, ints a), (1, ints b), (12, .int .i64 a.length), (13, .int .i64 i)]) (fun i => i ≤ a.length ∧ a.take i = b.take i) (fun i => a.length - i) 0 ⟨Nat.zero_le _, rfl⟩ ⟨rfl, rfl, rfl, rfl, trivial⟩ (fun _ => rfl) ?_
    rintro i ⟨hi, ht⟩
    refine OK.seq ?_
    refine OK.reg ?_
    refine RK.c (S.lss .none rfl (.tmp rfl rfl) (.tmp rfl rfl)) ?_
    refine RK.nil ?_
    refine Ab.D.code ?_
    refine OK.seq ?_
    refine OK.condD rfl rfl (fun c14 => ?_) (fun c14 => ?_)
    ·
      refine OK.skip ?_
      refine Ab.D.code ?_
      refine OK.seq ?_
      refine OK.block ?_
      refine OK.seq ?_
      refine OK.reg ?_
      refine RK.c (S.move .none rfl (.tmp rfl rfl)) ?_
      refine RK.c (S.assign .none rfl (.tmp rfl rfl)) ?_
      refine RK.nil ?_
      refine Ab.D.code ?_
      refine OK.seq ?_
      refine OK.regionDraw follows (.c (S.move .none rfl (.tmp rfl rfl))
        (.c (S.move .none rfl (.tmp rfl rfl))
        (.c (S.indexM si33 .none rfl (.tmp rfl rfl) (.tmp rfl rfl) rfl (by omega) rfl)
        (.c (S.load1 ti3 .none rfl (.tmp rfl rfl) rfl)
        (.c (S.move .none rfl (.tmp rfl rfl))
        (.c (S.move .none rfl (.tmp rfl rfl))
        (.c (S.indexM si33 .none rfl (.tmp rfl rfl) (.tmp rfl rfl) rfl (by omega) rfl)
        (.c (S.load1 ti3 .none rfl (.tmp rfl rfl) rfl)
        (.c (S.neq .none rfl (.tmp rfl rfl) (.tmp rfl rfl))
        .nil))))))))) (by kernel_rfl) ?_
      refine Ab.D.code ?_
      refine OK.condD rfl rfl (fun c24 => ?_) (fun c24 => ?_)
      ·
        refine OK.seq ?_
        refine OK.reg ?_
        refine RK.c (S.assign .none rfl .cbool) ?_
        refine RK.nil ?_
        refine Ab.D.code ?_
        refine OK.ret (Ret.r1 (.tmp rfl rfl (.c (.same rfl) rfl) rfl) ?_)
        exact ret_F (fun e => by subst e; exact c24 rfl)
      ·
        refine OK.skip ?_
        refine Ab.D.blk ?_
        refine Ab.D.code ?_
        refine OK.reg ?_
        refine RK.c (S.add .none rfl (.tmp rfl rfl) (.cint rfl) (IntWalk.i64_in _ (by omega)) (IntWalk.i64_in _ (by omega))) ?_
        refine RK.c (S.move .none rfl (.tmp rfl rfl)) ?_
        refine RK.nil ?_
        refine Ab.D.lp ⟨i + 1, ⟨by omega, ?_⟩, (by omega), rfl, rfl, rfl, rfl, trivial⟩
        simp only [ne_eq, Decidable.not_not] at c24
        rw [List.take_succ_eq_append_getElem (by omega), List.take_succ_eq_append_getElem (by omega), ht, c24]
    ·
      refine OK.exit rfl ?_
      refine Ab.D.code ?_
      refine OK.seq ?_
      refine OK.reg ?_
      refine RK.c (S.assign .none rfl .cbool) ?_
      refine RK.nil ?_
      refine Ab.D.code ?_
      refine OK.ret (Ret.r1 (.tmp rfl rfl (.c (.same rfl) rfl) rfl) ?_)
      have : i = a.length := by omega
      subst this
      rw [List.take_length, hl, List.take_length] at ht
      exact ret_T ht

theorem lib_CloneInts {l : List Int} (h0 : 0 < l.length) (hlen : l.length ≤ 100000) : Ct Tryz.prog 39 [ints l] (ints l) := by
  refine Ct.intro (rs := [.tmp 2]) Tryz.func39 rfl Tryz.ntmps39 Tryz.results39 rfl rfl rfl fun w h => ?_
  refine OK.seq ?_
  refine OK.reg ?_
  refine RK.c (S.assign .none rfl .cnil) ?_
  refine RK.nil ?_
  refine Ab.D.code ?_
  refine OK.seq ?_
  refine OK.seq ?_
  refine OK.reg ?_
  refine RK.c (S.move .none rfl (.tmp rfl rfl)) ?_
  refine RK.c (S.eqnil Tryz.underlying33 .none rfl (.tmp rfl rfl) (by rw [List.length_map]; exact h0)) ?_
  refine RK.nil ?_
  refine Ab.D.code ?_
  refine OK.condF rfl rfl rfl ?_
  refine OK.skip ?_
  refine Ab.D.code ?_
  refine OK.seq ?_
  refine OK.reg ?_
  refine RK.c (S.mkSlice (k := 5) (rows := []) ai33 .none rfl .nil rfl rfl rfl rfl rfl rfl rfl) ?_
  refine RK.c (S.move .none rfl (.tmp rfl rfl)) ?_
  refine RK.c (S.appendSl ai33 .none rfl (.tmp rfl rfl) rfl (by first | rfl | (simp; done) | (simp; omega)) (.tmp rfl rfl) (by intro q hq; obtain ⟨b, _, rfl⟩ := List.mem_map.1 hq; rfl) rfl (by simp only [List.length_map]; omega) (by simp only [maxLen, List.length_map]; omega)) ?_
  refine RK.c (S.assign .none rfl (.tmp rfl rfl)) ?_
  refine RK.nil ?_
  refine Ab.D.code ?_
  refine OK.ret (Ret.r1 (.tmp rfl rfl (.c (.own rfl rfl (by first | rfl | (simp; done) | (simp; omega))) rfl) rfl) ?_)
  rfl

theorem mon_frameErr {p : Plan} {f : Frame} (hpt : 1 ≤ p.ticks ∧ p.ticks ≤ 12) : Ct Tryz.prog 37 [.agg p.cs, .agg f.cs] (.int .i64 (frameE p f)) := by
  refine Ct.intro (rs := [.tmp 4]) Tryz.func37 rfl Tryz.ntmps37 Tryz.results37 rfl rfl rfl fun w h => ?_
  refine OK.seq ?_
  refine OK.reg ?_
  refine RK.c (S.box (k := 2) rfl .none rfl (.tmp rfl rfl) rfl) ?_
  refine RK.c (S.box (k := 3) rfl .none rfl (.tmp rfl rfl) rfl) ?_
  refine RK.c (S.assign .none rfl (.cint rfl)) ?_
  refine RK.nil ?_
  refine Ab.D.code ?_
  refine OK.seq ?_
  refine OK.regionDraw follows (.c (S.bfield fi35_0 .none rfl (.tmp rfl rfl))
    (.c (S.bload1 ti3 .none rfl (.tmp rfl rfl) rfl rfl rfl rfl)
    (.c (S.bfield fi89_0 .none rfl (.tmp rfl rfl))
    (.c (S.bfield fi24_1 .none rfl (.tmp rfl rfl))
    (.c (S.bload1 ti3 .none rfl (.tmp rfl rfl) rfl rfl rfl rfl)
    (.c (S.sub .none rfl (.tmp rfl rfl) (.cint rfl) (IntWalk.i64_in _ (by omega)) (IntWalk.i64_in _ (by omega)))
    (.c (S.call (mon_within) Tryz.call49 .none rfl (.cons (.tmp rfl rfl) (.cons (.cint rfl) (.cons (.tmp rfl rfl) .nil))) rfl)
    (.c (S.call (monitor_unless) Tryz.call34 .none rfl (.cons (.tmp rfl rfl) (.cons (.cint rfl) .nil)) rfl)
    (.c (S.bloadN ti89 .none rfl (.tmp rfl rfl) rfl rfl rfl rfl)
    (.c (S.bfield fi35_1 .none rfl (.tmp rfl rfl))
    (.c (S.bload1 ti33 .none rfl (.tmp rfl rfl) rfl rfl rfl rfl)
    (.c (S.call (mon_valuesErr) Tryz.call65 .none rfl (.cons (.tmp rfl rfl) (.cons (.tmp rfl rfl) .nil)) rfl)
    (.c (S.mkSlice (k := 17) (rows := [[_], [_]]) ai125 .none rfl (.cons (.tmp rfl rfl) (.cons (.tmp rfl rfl) .nil)) rfl rfl rfl rfl rfl rfl rfl)
    (.c (S.callL (monitor_first (l := [_, _])) Tryz.call33 .none rfl (.cons (.tmp rfl rfl) .nil) (.cons (.p (.own rfl rfl) rfl) .nil) rfl)
    (.c (S.assign .none rfl (.tmp rfl rfl))
    .nil))))))))))))))) (by kernel_rfl) ?_
  refine Ab.D.code ?_
  refine OK.ret (Ret.r1 (.tmp rfl rfl (.c (.same rfl) rfl) rfl) ?_)
  exact ret_i (frameE_eq p f)

theorem mon_step {p : Plan} {rows : List Row} {n : Nat} {i : Nat} {f : Frame} (hn : rows.length = n) (hnt : n = p.ticks.toNat) (hpt : 1 ≤ p.ticks ∧ p.ticks ≤ 12) (hc : 0 < p.channels.length ∧ p.channels.length ≤ 100000) : CtG Tryz.prog 36 [6, 8, 27] [.int .i64 i, .agg f.cs, .ptr 6 0, .ptr 8 0] [(1006, .box p.cs), (1008, .box [.own 27 n]), (2027, .arr 2 (rows.map Row.cs))] [(1006, .box p.cs), (1008, .box [.own 27 n]), (2027, .arr 2 ((stepRows p rows f).map Row.cs))] (.int .i64 (stepErr p rows f)) := by
  refine CtG.intro (rs := [.tmp 6]) Tryz.func36 rfl Tryz.ntmps36 Tryz.results36 rfl rfl rfl rfl fun w h => ?_
  have hrl : (rows.map Row.cs).length = n := by rw [List.length_map, hn]
  refine OK.seq ?_
  refine OK.reg ?_
  refine RK.c (S.box (k := 5) rfl .none rfl (.tmp rfl rfl) rfl) ?_
  refine RK.c (S.assign .none rfl (.cint rfl)) ?_
  refine RK.nil ?_
  refine Ab.D.code ?_
  refine OK.seq ?_
  refine OK.seq ?_
  refine OK.reg ?_
  refine RK.c (S.bloadN ti89 .none rfl (.tmp rfl rfl) rfl rfl rfl rfl) ?_
  refine RK.c (S.bloadN ti35 .none rfl (.tmp rfl rfl) rfl rfl rfl rfl) ?_
  refine RK.c (S.call (mon_frameErr (by omega)) Tryz.call37 .none rfl (.cons (.tmp rfl rfl) (.cons (.tmp rfl rfl) .nil)) rfl) ?_
  refine RK.c (S.assign .none rfl (.tmp rfl rfl)) ?_
  refine RK.nil ?_
  refine Ab.D.code ?_
  refine OK.seq ?_
  refine OK.reg ?_
  refine RK.c (S.move .none rfl (.tmp rfl rfl)) ?_
  refine RK.c (S.neq .none rfl (.tmp rfl rfl) (.cint rfl)) ?_
  refine RK.nil ?_
  refine Ab.D.code ?_
  refine OK.condD rfl rfl (fun c13 => ?_) (fun c13 => ?_)
  ·
    refine OK.seq ?_
    refine OK.reg ?_
    refine RK.c (S.move .none rfl (.tmp rfl rfl)) ?_
    refine RK.c (S.assign .none rfl (.tmp rfl rfl)) ?_
    refine RK.nil ?_
    refine Ab.D.code ?_
    refine OK.ret ⟨Ret.r1 (.tmp rfl rfl (.c (.same rfl) rfl) rfl) ?_, rfl, rfl, (lk_arr (by rw [stepRows, if_pos c13])), trivial⟩
    refine ret_i ?_
    rw [stepErr, if_pos c13]
  ·
    have he : frameE p f = 0 := Decidable.not_not.1 c13
    obtain ⟨hf1, hf2⟩ := frameE_0 he
    have hto : ((f.tick.toNat : Nat) : Int) = f.tick := Int.toNat_of_nonneg hf1.1
    have hlt : f.tick.toNat < rows.length := by omega
    have hrow : rowAt rows f = rows[f.tick.toNat] := getD_at hlt
    refine OK.skip ?_
    refine Ab.D.code ?_
    refine OK.seq ?_
    refine OK.reg ?_
    refine RK.c (S.bfield fi39_0 .none rfl (.tmp rfl rfl)) ?_
    refine RK.c (S.bload1 ti37 .none rfl (.tmp rfl rfl) rfl rfl rfl rfl) ?_
    refine RK.c (S.bfield fi35_0 .none rfl (.tmp rfl rfl)) ?_
    refine RK.c (S.bload1 ti3 .none rfl (.tmp rfl rfl) rfl rfl rfl rfl) ?_
    refine RK.c (S.oindex (i := f.tick.toNat) si37 .none rfl (.tmp rfl rfl) rfl hrl (.tmp rfl rfl) hto.symm (by omega)) ?_
    refine RK.c (S.assign .none rfl (.tmp rfl rfl)) ?_
    refine RK.nil ?_
    refine Ab.D.code ?_
    refine OK.seq ?_
    refine OK.seq ?_
    refine OK.reg ?_
    refine RK.c (S.move .none rfl (.tmp rfl rfl)) ?_
    refine RK.c (S.nilCheckO .none rfl (.tmp rfl rfl) rfl hrl) ?_
    refine RK.c (S.ofield fi99_0 .none rfl (.tmp rfl rfl) rfl hrl) ?_
    refine RK.c (S.oload1 ti4 .none rfl (.tmp rfl rfl) rfl hrl (row_cell0 hlt)) ?_
    refine RK.nil ?_
    refine Ab.D.code ?_
    refine OK.cond rfl rfl (fun c23 => ?_) (fun c23 => ?_)
    ·
      refine OK.seq ?_
      refine OK.regionDraw follows (.c (S.move .none rfl (.tmp rfl rfl))
        (.c (S.nilCheckO .none rfl (.tmp rfl rfl) rfl hrl)
        (.c (S.ofield fi99_1 .none rfl (.tmp rfl rfl) rfl hrl)
        (.c (S.oload1 ti33 .none rfl (.tmp rfl rfl) rfl hrl (row_cell1 hlt))
        (.c (S.bfield fi35_1 .none rfl (.tmp rfl rfl))
        (.c (S.bload1 ti33 .none rfl (.tmp rfl rfl) rfl rfl rfl rfl)
        (.c (S.call (lib_EqualInts) Tryz.call38 .none rfl (.cons (.tmp rfl rfl) (.cons (.tmp rfl rfl) .nil)) rfl)
        (.c (S.call (monitor_unless) Tryz.call34 .none rfl (.cons (.tmp rfl rfl) (.cons (.cint rfl) .nil)) rfl)
        (.c (S.assign .none rfl (.tmp rfl rfl))
        .nil))))))))) (by kernel_rfl) ?_
      refine Ab.D.code ?_
      refine OK.ret ⟨Ret.r1 (.tmp rfl rfl (.c (.same rfl) rfl) rfl) ?_, rfl, rfl, (lk_arr (by rw [stepRows, if_neg (by omega), hrow, if_pos c23])), trivial⟩
      refine ret_i ?_
      rw [stepErr, if_neg (by omega), hrow, if_pos c23]
    ·
      refine OK.skip ?_
      refine Ab.D.code ?_
      refine OK.seq ?_
      refine OK.reg ?_
      refine RK.c (S.move .none rfl (.tmp rfl rfl)) ?_
      refine RK.c (S.bfield fi35_1 .none rfl (.tmp rfl rfl)) ?_
      refine RK.c (S.bload1 ti33 .none rfl (.tmp rfl rfl) rfl rfl rfl rfl) ?_
      refine RK.c (S.call (lib_CloneInts (l := f.values) (by omega) (by omega)) Tryz.call39 .none rfl (.cons (.tmp rfl rfl) .nil) rfl) ?_
      refine RK.c (S.build bu99 rfl .none rfl (.cons .cbool (.cons (.tmp rfl rfl) .nil)) rfl rfl) ?_
      refine RK.c (S.nilCheckO .none rfl (.tmp rfl rfl) rfl hrl) ?_
      refine RK.c (S.ostore (i := f.tick.toNat) ti99 .none (.tmp rfl rfl) (.tmp rfl rfl) rfl hrl rfl (by omega) rfl rfl rfl (show _ = (rows.set f.tick.toNat ⟨true, f.values⟩).map Row.cs by rw [List.map_set]; rfl)) ?_
      refine RK.nil ?_
      refine Ab.D.code ?_
      refine OK.seq ?_
      refine OK.reg ?_
      refine RK.c (S.assign .none rfl (.cint rfl)) ?_
      refine RK.nil ?_
      refine Ab.D.code ?_
      refine OK.ret ⟨Ret.r1 (.tmp rfl rfl (.c (.same rfl) rfl) rfl) ?_, rfl, rfl, (lk_arr (by rw [stepRows, if_neg (by omega), hrow, if_neg (by simp [c23])])), trivial⟩
      refine ret_i ?_
      rw [stepErr, if_neg (by omega), hrow, if_neg (by simp [c23])]

theorem eachCb_Frame {l : List Frame} {g : Nat → Frame → Int} {Φ : Value → Prop} {J : Nat → Mem → (Nat → Prop) → World → Prop} (hΦ : ∀ (i : Nat) (h : i < l.length) (v : Value), Φ v → CbOk Tryz.prog v [.int .i64 i, .agg l[i].cs] (.int .i64 (g i l[i])) (J i) (J (i + 1))) (hJ : ∀ i, Stable (J i)) : CtG Tryz.prog 35 [] [.sl (l.map Frame.cs), .cb Φ] [(3000, .res (J 0))] [(3000, .res (J (eachN g 0 l)))] (pair (eachGo g 0 l)) := by
  refine CtG.intro (rs := [.tmp 4, .tmp 5]) Tryz.func35 rfl Tryz.ntmps35 Tryz.results35 rfl rfl rfl rfl fun w h => ?_
  refine OK.slLen (rows := l.map Frame.cs) (t := 0) rfl rfl fun hlen => ?_
  rw [List.length_map] at hlen
  unfold maxLen at hlen
  refine OK.seq ?_
  refine OK.reg ?_
  refine RK.c (S.assign .none rfl (.cint rfl)) ?_
  refine RK.c (S.assign .none rfl (.cint rfl)) ?_
  refine RK.nil ?_
  refine Ab.D.code ?_
  refine OK.seq ?_
  refine OK.seq ?_
  refine OK.reg ?_
  refine RK.c (S.move .none rfl (.tmp rfl rfl)) ?_
  refine RK.c (S.lenM si25 .none rfl (.tmp rfl rfl)) ?_
  refine RK.c (S.move .none rfl (.cint rfl)) ?_
  refine RK.nil ?_
  refine Ab.D.code ?_
  refine OK.block ?_
  refine OK.loop (G := Nat) [] (fun i => [(1, .cb Φ), (9, .sl (l.map Frame.cs)), (10, .int .i64 l.length), (11, .int .i64 i), (3000, .res (J i))]) (fun i => i ≤ l.length ∧ eachGo g 0 l = eachGo g i (l.drop i) ∧ eachN g 0 l = eachN g i (l.drop i)) (fun i => l.length - i) 0 ⟨Nat.zero_le _, rfl, rfl⟩ ⟨rfl, rfl, rfl, rfl, rfl, trivial⟩ (fun _ => rfl) ?_
  rintro i ⟨hi, hg, hN⟩
  refine OK.seq ?_
  refine OK.reg ?_
  refine RK.c (S.lss .none rfl (.tmp rfl rfl) (.tmp rfl rfl)) ?_
  refine RK.nil ?_
  refine Ab.D.code ?_
  refine OK.seq ?_
  refine OK.condD rfl rfl (fun c12 => ?_) (fun c12 => ?_)
  ·
    refine OK.skip ?_
    refine Ab.D.code ?_
    refine OK.seq ?_
    refine OK.block ?_
    refine OK.seq ?_
    refine OK.reg ?_
    refine RK.c (S.move .none rfl (.tmp rfl rfl)) ?_
    refine RK.c (S.indexM si25 .none rfl (.tmp rfl rfl) (.tmp rfl rfl) rfl (by omega) rfl) ?_
    refine RK.c (S.loadN ti35 .none rfl (.tmp rfl rfl) rfl rfl) ?_
    refine RK.c (S.alloc (k := 7) ze35 rfl .none rfl) ?_
    refine RK.c (S.assign .none rfl (.tmp rfl rfl)) ?_
    refine RK.c (S.store ti35 .none (.tmp rfl rfl) (.tmp rfl rfl) rfl rfl rfl rfl rfl rfl) ?_
    refine RK.nil ?_
    refine Ab.D.code ?_
    refine OK.seq ?_
    refine OK.reg ?_
    refine RK.c (S.move .none rfl (.tmp rfl rfl)) ?_
    refine RK.c (S.move .none rfl (.tmp rfl rfl)) ?_
    refine RK.c (S.bloadN ti35 .none rfl (.tmp rfl rfl) rfl rfl rfl rfl) ?_
    refine RK.c (S.callcb (J1 := J (i + 1)) (hΦ i (by omega)) (hJ _) .none rfl (.tmp rfl rfl) (.cons (.tmp rfl rfl) (.cons (.tmp rfl rfl) .nil)) rfl rfl) ?_
    refine RK.c (S.assign .none rfl (.tmp rfl rfl)) ?_
    refine RK.nil ?_
    refine Ab.D.code ?_
    refine OK.seq ?_
    refine OK.reg ?_
    refine RK.c (S.move .none rfl (.tmp rfl rfl)) ?_
    refine RK.c (S.neq .none rfl (.tmp rfl rfl) (.cint rfl)) ?_
    refine RK.nil ?_
    refine Ab.D.code ?_
    refine OK.condD rfl rfl (fun c21 => ?_) (fun c21 => ?_)
    ·
      refine OK.seq ?_
      refine OK.reg ?_
      refine RK.c (S.move .none rfl (.tmp rfl rfl)) ?_
      refine RK.c (S.move .none rfl (.tmp rfl rfl)) ?_
      refine RK.c (S.assign .none rfl (.tmp rfl rfl)) ?_
      refine RK.c (S.assign .none rfl (.tmp rfl rfl)) ?_
      refine RK.nil ?_
      refine Ab.D.code ?_
      refine OK.ret ⟨Ret.r2 (.tmp rfl rfl (.c (.same rfl) rfl) rfl) (.tmp rfl rfl (.c (.same rfl) rfl) rfl) ?_, (lk_res (by rw [hN, eachN_drop _ (by omega), if_pos c21])), trivial⟩
      refine ret_p ?_
      rw [hg, eachGo_drop _ (by omega), if_pos c21]
    ·
      refine OK.skip ?_
      refine Ab.D.blk ?_
      refine Ab.D.code ?_
      refine OK.reg ?_
      refine RK.c (S.add .none rfl (.tmp rfl rfl) (.cint rfl) (IntWalk.i64_in _ (by omega)) (IntWalk.i64_in _ (by omega))) ?_
      refine RK.c (S.move .none rfl (.tmp rfl rfl)) ?_
      refine RK.nil ?_
      refine Ab.D.lp ⟨i + 1, ⟨by omega, ?_, ?_⟩, (by omega), rfl, rfl, rfl, rfl, rfl, trivial⟩
      · rw [hg, eachGo_drop _ (by omega), if_neg c21]
      · rw [hN, eachN_drop _ (by omega), if_neg c21]
  ·
    refine OK.exit rfl ?_
    refine Ab.D.code ?_
    refine OK.seq ?_
    refine OK.reg ?_
    refine RK.c (S.assign .none rfl (.cint rfl)) ?_
    refine RK.c (S.assign .none rfl (.cint rfl)) ?_
    refine RK.nil ?_
    refine Ab.D.code ?_
    refine OK.ret ⟨Ret.r2 (.tmp rfl rfl (.c (.same rfl) rfl) rfl) (.tmp rfl rfl (.c (.same rfl) rfl) rfl) ?_, (lk_res (by rw [hN, show i = l.length by omega, List.drop_length]; rfl)), trivial⟩
    refine ret_p ?_
    rw [hg, show i = l.length by omega, List.drop_length]
    rfl

end Go.Proofs.YtmokilkombplkaaGreat
