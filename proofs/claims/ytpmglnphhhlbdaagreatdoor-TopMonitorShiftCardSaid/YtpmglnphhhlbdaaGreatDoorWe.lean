import Derived.Test.YtpmglnphhhlbdaaGreatDoorWc
namespace Go.Proofs.YtpmglnphhhlbdaaGreatDoor
open Go.Ab
theorem planLoop {p : Plan} {i : Nat} (h : i < p.channels.length) (hg : eachGo (chanErr p.channels) 0 p.channels = eachGo (chanErr p.channels) i (p.channels.drop i)) :
    eachGo (chanErr p.channels) 0 p.channels = if chanErr p.channels i p.channels[i] ≠ 0 then ((i : Int), chanErr p.channels i p.channels[i]) else eachGo (chanErr p.channels) (i + 1) (p.channels.drop (i + 1)) := by
  rw [hg, eachGo_drop _ h]
theorem valuesErr_eq (p : Plan) (l : List Int) : firstE [unlessE (decide ((l.length : Int) = p.channels.length)) 10, unlessE (!l.any fun x => !isVal x) 2] = valuesErr p l := by
  rw [firstE2, valuesErr]
  have e : (!l.any fun x => !isVal x) = l.all isVal := by
    induction l with
    | nil => rfl
    | cons x l ih => rw [List.any_cons, List.all_cons, ← ih]; cases isVal x <;> simp
  rw [e]
  by_cases h : l.length = p.channels.length
  · rw [unlessE_of (by omega)]
    simp [h, unlessE]
  · rw [unlessE_not (by omega)]
    simp [h]
def recordChk (p : Plan) (r : Record) : Int × Int := if planErr p ≠ 0 then (0, planErr p) else recChk p r
def lostGo : Nat → List Row → List Int
  | _, [] => []
  | i, x :: l => if x.known = true then lostGo (i + 1) l else (i : Int) :: lostGo (i + 1) l
theorem lostGo_drop {l : List Row} {i : Nat} (h : i < l.length) : lostGo i (l.drop i) = if l[i].known = true then lostGo (i + 1) (l.drop (i + 1)) else (i : Int) :: lostGo (i + 1) (l.drop (i + 1)) := by
  rw [List.drop_eq_getElem_cons h, lostGo]
def lostT (r : Record) : List Int := lostGo 0 r.rows
theorem all_drop {α : Type} (g : α → Bool) {l : List α} {i : Nat} (h : i < l.length) : (l.drop i).all g = (g l[i] && (l.drop (i + 1)).all g) := by
  rw [List.drop_eq_getElem_cons h, List.all_cons]
theorem take_snoc {α : Type} {l : List α} {i : Nat} (h : i < l.length) : l.take i ++ [l[i]] = l.take (i + 1) := by simp
theorem vals_drop_F {p : Plan} {l : List Int} {i : Nat} (h : i < l.length) (hl : l.length = p.channels.length) (hg : l.all isVal = (l.drop i).all isVal) (hv : ¬ (-1000000 ≤ l[i] ∧ l[i] ≤ 1000000)) : valuesErr p l = 2 := by
  have : isVal l[i] = false := decide_eq_false hv
  rw [valuesErr, hg, all_drop _ h, this]
  simp [hl]
theorem vals_drop_T {l : List Int} {i : Nat} (h : i < l.length) (hg : l.all isVal = (l.drop i).all isVal) (hv : -1000000 ≤ l[i] ∧ l[i] ≤ 1000000) : l.all isVal = (l.drop (i + 1)).all isVal := by
  have : isVal l[i] = true := decide_eq_true hv
  rw [hg, all_drop _ h, this, Bool.true_and]
theorem ref_CheckPlan {p : Plan} : Ct Tryz.prog 73 [.agg p.cs] (pair (planChk p)) := by
 refine Ct.intro (rs := [.tmp 2, .tmp 3]) Tryz.func73 rfl Tryz.ntmps73 Tryz.results73 rfl rfl rfl fun w h => ?_
 refine OK.seq (OK.reg ?_)
 refine RK.c (S.box (k := 1) rfl .none rfl (.tmp rfl rfl) rfl) ?_
 refine RK.c (S.assign .none rfl (.cint rfl)) ?_
 refine RK.c (S.assign .none rfl (.cint rfl)) ?_
 refine RK.nil (Ab.D.code (OK.seq (OK.seq (OK.reg ?_))))
 refine RK.c (S.bfield fi24_0 .none rfl (.tmp rfl rfl)) ?_
 refine RK.c (S.bload1 ti22 .none rfl (.tmp rfl rfl) rfl rfl rfl rfl) ?_
 refine RK.c (S.lenM si22 .none rfl (.tmp rfl rfl)) ?_
 refine RK.c (S.eql .none rfl (.tmp rfl rfl) (.cint rfl)) ?_
 refine RK.nil (Ab.D.code ?_)
 refine OK.condD rfl rfl (fun c8 => ?_) (fun c8 => ?_)
 ·
  refine OK.seq (OK.reg ?_)
  refine RK.c (S.assign .none rfl (.cint rfl)) ?_
  refine RK.c (S.assign .none rfl (.cint rfl)) ?_
  refine RK.nil (Ab.D.code ?_)
  refine OK.ret (Ret.r2 (.tmp rfl rfl (.c (.same rfl) rfl) rfl) (.tmp rfl rfl (.c (.same rfl) rfl) rfl) ?_)
  exact ret_p (planChk_0 (by omega)).symm
 ·
  refine OK.skip ?_
  refine Ab.D.code (OK.seq (OK.seq (OK.reg ?_)))
  refine RK.c (S.bfield fi24_0 .none rfl (.tmp rfl rfl)) ?_
  refine RK.c (S.bload1 ti22 .none rfl (.tmp rfl rfl) rfl rfl rfl rfl) ?_
  refine RK.c (S.lenM si22 .none rfl (.tmp rfl rfl)) ?_
  refine RK.c (S.gtr .none rfl (.tmp rfl rfl) (.cint rfl)) ?_
  refine RK.nil (Ab.D.code ?_)
  refine OK.condD rfl rfl (fun c12 => ?_) (fun c12 => ?_)
  ·
   refine OK.seq (OK.reg ?_)
   refine RK.c (S.assign .none rfl (.cint rfl)) ?_
   refine RK.c (S.assign .none rfl (.cint rfl)) ?_
   refine RK.nil (Ab.D.code ?_)
   refine OK.ret (Ret.r2 (.tmp rfl rfl (.c (.same rfl) rfl) rfl) (.tmp rfl rfl (.c (.same rfl) rfl) rfl) ?_)
   exact ret_p (planChk_4 (by omega)).symm
  ·
   refine OK.skip ?_
   refine Ab.D.code (OK.seq (OK.seq (OK.reg ?_)))
   refine RK.c (S.assign .none rfl (.cint rfl)) ?_
   refine RK.nil (Ab.D.code ?_)
   refine OK.block ?_
   refine OK.loop (G := Nat) [1] (fun i => [(1, .ptr 1 0), (4, .int .i64 i), (1001, .box p.cs)]) (fun i => i ≤ p.channels.length ∧ eachGo (chanErr p.channels) 0 p.channels = eachGo (chanErr p.channels) i (p.channels.drop i)) (fun i => p.channels.length - i) 0 ⟨Nat.zero_le _, rfl⟩ ⟨rfl, rfl, rfl, trivial⟩ (fun _ => rfl) ?_
   rintro i ⟨hi, hg⟩
   refine OK.seq (OK.seq (OK.reg ?_))
   refine RK.c (S.move .none rfl (.tmp rfl rfl)) ?_
   refine RK.c (S.bfield fi24_0 .none rfl (.tmp rfl rfl)) ?_
   refine RK.c (S.bload1 ti22 .none rfl (.tmp rfl rfl) rfl rfl rfl rfl) ?_
   refine RK.c (S.lenM si22 .none rfl (.tmp rfl rfl)) ?_
   refine RK.c (S.lss .none rfl (.tmp rfl rfl) (.tmp rfl rfl)) ?_
   refine RK.nil (Ab.D.code ?_)
   refine OK.condD rfl rfl (fun c17 => ?_) (fun c17 => ?_)
   ·
    refine OK.skip ?_
    refine Ab.D.code ?_
    refine OK.seq ?_
    refine OK.block ?_
    refine OK.seq (OK.seq (OK.reg ?_))
    refine RK.c (S.bfield fi24_0 .none rfl (.tmp rfl rfl)) ?_
    refine RK.c (S.bload1 ti22 .none rfl (.tmp rfl rfl) rfl rfl rfl rfl) ?_
    refine RK.c (S.move .none rfl (.tmp rfl rfl)) ?_
    refine RK.c (S.indexM si22 .none rfl (.tmp rfl rfl) (.tmp rfl rfl) rfl (by omega) rfl) ?_
    refine RK.c (S.load1 ti9 .none rfl (.tmp rfl rfl) rfl) ?_
    refine RK.c (S.call (base_IsName) Tryz.call125 .none rfl (.cons (.tmp rfl rfl) .nil) rfl) ?_
    refine RK.c (S.not .none rfl (.tmp rfl rfl)) ?_
    refine RK.nil (Ab.D.code ?_)
    refine OK.cond rfl rfl (fun c26 => ?_) (fun c26 => ?_)
    ·
     refine OK.seq (OK.reg ?_)
     refine RK.c (S.move .none rfl (.tmp rfl rfl)) ?_
     refine RK.c (S.assign .none rfl (.tmp rfl rfl)) ?_
     refine RK.c (S.assign .none rfl (.cint rfl)) ?_
     refine RK.nil (Ab.D.code ?_)
     refine OK.ret (Ret.r2 (.tmp rfl rfl (.c (.same rfl) rfl) rfl) (.tmp rfl rfl (.c (.same rfl) rfl) rfl) ?_)
     have e : chanErr p.channels i p.channels[i] = 4 := by rw [chanErr, if_pos (by simpa using c26)]
     refine ret_p ?_
     rw [planChk_r (by omega) (by omega), planLoop (by omega) hg, e]
     rfl
    ·
     refine OK.skip ?_
     refine Ab.D.code ?_
     refine OK.seq ?_
     refine OK.regionDraw follows (.c (S.bfield fi24_0 .none rfl (.tmp rfl rfl))
      (.c (S.bload1 ti22 .none rfl (.tmp rfl rfl) rfl rfl rfl rfl)
      (.c (S.move .none rfl (.tmp rfl rfl))
      (.c (S.slice (hi := i) (l' := p.channels.take i) si22 (fun _ => rfl) .none rfl (.tmp rfl rfl) (.inl ⟨rfl, rfl, rfl⟩) (.inr ⟨_, _, rfl, (.tmp rfl rfl), rfl⟩) (Nat.zero_le _) (by omega) rfl)
      (.c (S.bfield fi24_0 .none rfl (.tmp rfl rfl))
      (.c (S.bload1 ti22 .none rfl (.tmp rfl rfl) rfl rfl rfl rfl)
      (.c (S.move .none rfl (.tmp rfl rfl))
      (.c (S.indexM si22 .none rfl (.tmp rfl rfl) (.tmp rfl rfl) rfl (by omega) rfl)
      (.c (S.load1 ti9 .none rfl (.tmp rfl rfl) rfl)
      (.c (S.call (base_HasText) Tryz.call70 .none rfl (.cons (.tmp rfl rfl) (.cons (.tmp rfl rfl) .nil)) rfl)
      .nil)))))))))) (by kernel_rfl) ?_
     refine Ab.D.code ?_
     refine OK.cond rfl rfl (fun c37 => ?_) (fun c37 => ?_)
     ·
      refine OK.seq (OK.reg ?_)
      refine RK.c (S.move .none rfl (.tmp rfl rfl)) ?_
      refine RK.c (S.assign .none rfl (.tmp rfl rfl)) ?_
      refine RK.c (S.assign .none rfl (.cint rfl)) ?_
      refine RK.nil (Ab.D.code ?_)
      refine OK.ret (Ret.r2 (.tmp rfl rfl (.c (.same rfl) rfl) rfl) (.tmp rfl rfl (.c (.same rfl) rfl) rfl) ?_)
      have e : chanErr p.channels i p.channels[i] = 5 := by rw [chanErr, if_neg (by simpa using c26), if_pos c37]
      refine ret_p ?_
      rw [planChk_r (by omega) (by omega), planLoop (by omega) hg, e]
      rfl
     ·
      refine OK.skip ?_
      refine Ab.D.blk ?_
      refine Ab.D.code (OK.reg ?_)
      refine RK.c (S.move .none rfl (.tmp rfl rfl)) ?_
      refine RK.c (S.add .none rfl (.tmp rfl rfl) (.cint rfl) (IntWalk.i64_in _ (by omega)) (IntWalk.i64_in _ (by omega))) ?_
      refine RK.c (S.assign .none rfl (.tmp rfl rfl)) ?_
      refine RK.nil ?_
      refine Ab.D.lp ⟨i + 1, ⟨by omega, ?_⟩, (by omega), rfl, rfl, rfl, trivial⟩
      have e : chanErr p.channels i p.channels[i] = 0 := by rw [chanErr, if_neg (by simpa using c26), if_neg (by simp [c37])]
      rw [planLoop (by omega) hg, e]
      rfl
   ·
    refine OK.exit rfl ?_
    refine Ab.D.code (OK.seq (OK.seq (OK.reg ?_)))
    refine RK.c (S.bfield fi24_1 .none rfl (.tmp rfl rfl)) ?_
    refine RK.c (S.bload1 ti3 .none rfl (.tmp rfl rfl) rfl rfl rfl rfl) ?_
    refine RK.c (S.call (base_Within) Tryz.call74 .none rfl (.cons (.tmp rfl rfl) (.cons (.cint rfl) (.cons (.cint rfl) .nil))) rfl) ?_
    refine RK.c (S.notD .none rfl (.tmp rfl rfl)) ?_
    refine RK.nil (Ab.D.code ?_)
    refine OK.condD rfl rfl (fun c42 => ?_) (fun c42 => ?_)
    ·
     refine OK.seq (OK.reg ?_)
     refine RK.c (S.assign .none rfl (.cint rfl)) ?_
     refine RK.c (S.assign .none rfl (.cint rfl)) ?_
     refine RK.nil (Ab.D.code ?_)
     refine OK.ret (Ret.r2 (.tmp rfl rfl (.c (.same rfl) rfl) rfl) (.tmp rfl rfl (.c (.same rfl) rfl) rfl) ?_)
     have : i = p.channels.length := by omega
     rw [this, List.drop_length, eachGo] at hg
     refine ret_p ?_
     rw [planChk_r (by omega) (by omega), hg, if_neg (by simp), if_neg c42]
    ·
     refine OK.skip ?_
     refine Ab.D.code (OK.seq (OK.reg ?_))
     refine RK.c (S.assign .none rfl (.cint rfl)) ?_
     refine RK.c (S.assign .none rfl (.cint rfl)) ?_
     refine RK.nil (Ab.D.code ?_)
     refine OK.ret (Ret.r2 (.tmp rfl rfl (.c (.same rfl) rfl) rfl) (.tmp rfl rfl (.c (.same rfl) rfl) rfl) ?_)
     have : i = p.channels.length := by omega
     rw [this, List.drop_length, eachGo] at hg
     refine ret_p ?_
     rw [planChk_r (by omega) (by omega), hg, if_neg (by simp), if_pos (by omega)]
theorem ref_PlanErr {p : Plan} : Ct Tryz.prog 27 [.agg p.cs] (.int .i64 (planErr p)) := by
 refine Ct.intro (rs := [.tmp 2]) Tryz.func27 rfl Tryz.ntmps27 Tryz.results27 rfl rfl rfl fun w h => ?_
 refine OK.seq (OK.reg ?_)
 refine RK.c (S.box (k := 1) rfl .none rfl (.tmp rfl rfl) rfl) ?_
 refine RK.c (S.assign .none rfl (.cint rfl)) ?_
 refine RK.nil (Ab.D.code (OK.seq (OK.reg ?_)))
 refine RK.c (S.bloadN ti24 .none rfl (.tmp rfl rfl) rfl rfl rfl rfl) ?_
 refine RK.c (S.call (ref_CheckPlan) Tryz.call73 .none rfl (.cons (.tmp rfl rfl) .nil) rfl) ?_
 refine RK.c (S.move .none rfl (.tmp rfl rfl)) ?_
 refine RK.c (S.extract .none rfl (.tmp rfl rfl) rfl rfl) ?_
 refine RK.c (S.extract .none rfl (.tmp rfl rfl) rfl rfl) ?_
 refine RK.c (S.assign .none rfl (.tmp rfl rfl)) ?_
 refine RK.c (S.assign .none rfl (.tmp rfl rfl)) ?_
 refine RK.nil (Ab.D.code (OK.seq (OK.reg ?_)))
 refine RK.c (S.move .none rfl (.tmp rfl rfl)) ?_
 refine RK.c (S.assign .none rfl (.tmp rfl rfl)) ?_
 refine RK.nil (Ab.D.code ?_)
 refine OK.ret (Ret.r1 (.tmp rfl rfl (.c (.same rfl) rfl) rfl) ?_)
 rfl
theorem mon_open {p : Plan} : Ct Tryz.prog 82 [.agg p.cs] (.tup [.agg p.cs, .int .i64 (planErr p)]) := by
 refine Ct.intro (rs := [.cell 2 150, .tmp 3]) Tryz.func82 rfl Tryz.ntmps82 Tryz.results82 rfl rfl rfl fun w h => ?_
 refine OK.seq (OK.reg ?_)
 refine RK.c (S.box (k := 1) rfl .none rfl (.tmp rfl rfl) rfl) ?_
 refine RK.c (S.alloc (k := 2) ze150 rfl .none rfl) ?_
 refine RK.c (S.assign .none rfl (.cint rfl)) ?_
 refine RK.nil (Ab.D.code (OK.seq (OK.reg ?_)))
 refine RK.c (S.bloadN ti24 .none rfl (.tmp rfl rfl) rfl rfl rfl rfl) ?_
 refine RK.c (S.call (mon_CheckPlan) Tryz.call64 .none rfl (.cons (.tmp rfl rfl) .nil) rfl) ?_
 refine RK.c (S.move .none rfl (.tmp rfl rfl)) ?_
 refine RK.c (S.extract .none rfl (.tmp rfl rfl) rfl rfl) ?_
 refine RK.c (S.extract .none rfl (.tmp rfl rfl) rfl rfl) ?_
 refine RK.c (S.assign .none rfl (.tmp rfl rfl)) ?_
 refine RK.c (S.assign .none rfl (.tmp rfl rfl)) ?_
 refine RK.nil (Ab.D.code (OK.seq (OK.reg ?_)))
 refine RK.c (S.bloadN ti24 .none rfl (.tmp rfl rfl) rfl rfl rfl rfl) ?_
 refine RK.c (S.build bu150 rfl .none rfl (.cons (.tmp rfl rfl) .nil) rfl rfl) ?_
 refine RK.c (S.move .none rfl (.tmp rfl rfl)) ?_
 refine RK.c (S.store ti150 .none (.tmp rfl rfl) (.tmp rfl rfl) rfl rfl rfl rfl rfl rfl) ?_
 refine RK.c (S.assign .none rfl (.tmp rfl rfl)) ?_
 refine RK.nil (Ab.D.code ?_)
 refine OK.ret (Ret.r2 (.cellN rfl rfl rfl rfl ti150 rfl (.k (.same rfl) (.k (.same rfl) .z))) (.tmp rfl rfl (.c (.same rfl) rfl) rfl) ?_)
 rfl
theorem mon_odd {n : Int} : Ct Tryz.prog 157 [.int .i64 n] (.bool (!isVal n)) := by
 refine Ct.intro (rs := [.tmp 2]) Tryz.func157 rfl Tryz.ntmps157 Tryz.results157 rfl rfl rfl fun w h => ?_
 refine OK.seq (OK.reg ?_)
 refine RK.c (S.assign .none rfl .cbool) ?_
 refine RK.nil (Ab.D.code (OK.seq (OK.reg ?_)))
 refine RK.c (S.move .none rfl (.tmp rfl rfl)) ?_
 refine RK.c (S.call (mon_isValue) Tryz.call142 .none rfl (.cons (.tmp rfl rfl) .nil) rfl) ?_
 refine RK.c (S.notD .none rfl (.tmp rfl rfl)) ?_
 refine RK.c (S.assign .none rfl (.tmp rfl rfl)) ?_
 refine RK.nil (Ab.D.code ?_)
 refine OK.ret (Ret.r1 (.tmp rfl rfl (.c (.same rfl) rfl) rfl) ?_)
 exact ret_b (by simp only [isVal, decide_not])
theorem mon_valuesErr {p : Plan} {l : List Int} : Ct Tryz.prog 131 [.agg p.cs, ints l] (.int .i64 (valuesErr p l)) := by
 refine Ct.intro (rs := [.tmp 4]) Tryz.func131 rfl Tryz.ntmps131 Tryz.results131 rfl rfl rfl fun w h => ?_
 refine OK.seq (OK.reg ?_)
 refine RK.c (S.box (k := 2) rfl .none rfl (.tmp rfl rfl) rfl) ?_
 refine RK.c (S.assign .none rfl (.cint rfl)) ?_
 refine RK.nil (Ab.D.code (OK.seq (OK.reg ?_)))
 refine RK.c (S.move .none rfl (.tmp rfl rfl)) ?_
 refine RK.c (S.call (containsFunc_int (l := l) (g := fun n => !isVal n) (caps := []) (fun x _ => mon_odd) Tryz.call157 ⟨rfl, rfl⟩) Tryz.call102 .none rfl (.cons (.tmp rfl rfl) (.cons .cfn .nil)) rfl) ?_
 refine RK.c (S.assign .none rfl (.tmp rfl rfl)) ?_
 refine RK.nil (Ab.D.code (OK.seq (OK.reg ?_)))
 refine RK.c (S.move .none rfl (.tmp rfl rfl)) ?_
 refine RK.c (S.lenM si25 .none rfl (.tmp rfl rfl)) ?_
 refine RK.c (S.bfield fi150_0 .none rfl (.tmp rfl rfl)) ?_
 refine RK.c (S.bfield fi24_0 .none rfl (.tmp rfl rfl)) ?_
 refine RK.c (S.bload1 ti22 .none rfl (.tmp rfl rfl) rfl rfl rfl rfl) ?_
 refine RK.c (S.lenM si22 .none rfl (.tmp rfl rfl)) ?_
 refine RK.c (S.eql .none rfl (.tmp rfl rfl) (.tmp rfl rfl)) ?_
 refine RK.c (S.call (monitor_unless) Tryz.call84 .none rfl (.cons (.tmp rfl rfl) (.cons (.cint rfl) .nil)) rfl) ?_
 refine RK.c (S.move .none rfl (.tmp rfl rfl)) ?_
 refine RK.c (S.not .none rfl (.tmp rfl rfl)) ?_
 refine RK.c (S.call (monitor_unless) Tryz.call84 .none rfl (.cons (.tmp rfl rfl) (.cons (.cint rfl) .nil)) rfl) ?_
 refine RK.c (S.mkSlice (k := 19) (rows := [[_], [_]]) ai209 .none rfl (.cons (.tmp rfl rfl) (.cons (.tmp rfl rfl) .nil)) rfl rfl rfl rfl rfl rfl rfl) ?_
 refine RK.c (S.callL (monitor_first (l := [_, _])) Tryz.call83 .none rfl (.cons (.tmp rfl rfl) .nil) (.cons (.p (.own rfl rfl) rfl) .nil) rfl) ?_
 refine RK.c (S.assign .none rfl (.tmp rfl rfl)) ?_
 refine RK.nil (Ab.D.code ?_)
 refine OK.ret (Ret.r1 (.tmp rfl rfl (.c (.same rfl) rfl) rfl) ?_)
 exact ret_i (valuesErr_eq p l)
theorem mon_row {p : Plan} {i : Nat} {x : Row} : Ct Tryz.prog 156 [.int .i64 i, .agg x.cs, .eptr p.cs] (.int .i64 (rowErr p x)) := by
 refine Ct.intro (rs := [.tmp 5]) Tryz.func156 rfl Tryz.ntmps156 Tryz.results156 rfl rfl rfl fun w h => ?_
 refine OK.seq (OK.reg ?_)
 refine RK.c (S.box (k := 4) rfl .none rfl (.tmp rfl rfl) rfl) ?_
 refine RK.c (S.assign .none rfl (.cint rfl)) ?_
 refine RK.nil (Ab.D.code (OK.seq (OK.seq (OK.reg ?_))))
 refine RK.c (S.bfield fi162_0 .none rfl (.tmp rfl rfl)) ?_
 refine RK.c (S.bload1 ti4 .none rfl (.tmp rfl rfl) rfl rfl rfl rfl) ?_
 refine RK.c (S.not .none rfl (.tmp rfl rfl)) ?_
 refine RK.nil (Ab.D.code ?_)
 refine OK.cond rfl rfl (fun c8 => ?_) (fun c8 => ?_)
 ·
  refine OK.seq (OK.reg ?_)
  refine RK.c (S.bfield fi162_1 .none rfl (.tmp rfl rfl)) ?_
  refine RK.c (S.bload1 ti25 .none rfl (.tmp rfl rfl) rfl rfl rfl rfl) ?_
  refine RK.c (S.lenM si25 .none rfl (.tmp rfl rfl)) ?_
  refine RK.c (S.eql .none rfl (.tmp rfl rfl) (.cint rfl)) ?_
  refine RK.c (S.call (monitor_unless) Tryz.call84 .none rfl (.cons (.tmp rfl rfl) (.cons (.cint rfl) .nil)) rfl) ?_
  refine RK.c (S.assign .none rfl (.tmp rfl rfl)) ?_
  refine RK.nil (Ab.D.code ?_)
  refine OK.ret (Ret.r1 (.tmp rfl rfl (.c (.same rfl) rfl) rfl) ?_)
  refine ret_i ?_
  rw [rowErr, if_neg (by simpa using c8), ite_unless]
  split <;> split <;> omega
 ·
  refine OK.skip ?_
  refine Ab.D.code (OK.seq (OK.reg ?_))
  refine RK.c (S.loadN ti150 .none rfl (.tmp rfl rfl) rfl rfl) ?_
  refine RK.c (S.bfield fi162_1 .none rfl (.tmp rfl rfl)) ?_
  refine RK.c (S.bload1 ti25 .none rfl (.tmp rfl rfl) rfl rfl rfl rfl) ?_
  refine RK.c (S.call (mon_valuesErr) Tryz.call131 .none rfl (.cons (.tmp rfl rfl) (.cons (.tmp rfl rfl) .nil)) rfl) ?_
  refine RK.c (S.assign .none rfl (.tmp rfl rfl)) ?_
  refine RK.nil (Ab.D.code ?_)
  refine OK.ret (Ret.r1 (.tmp rfl rfl (.c (.same rfl) rfl) rfl) ?_)
  refine ret_i ?_
  rw [rowErr, if_pos (by simpa using c8)]
theorem mon_recordErr {p : Plan} {r : Record} : Ct Tryz.prog 130 [.agg p.cs, .agg r.cs] (pair (recChk p r)) := by
 refine Ct.intro (rs := [.tmp 4, .tmp 5]) Tryz.func130 rfl Tryz.ntmps130 Tryz.results130 rfl rfl rfl fun w h => ?_
 refine OK.seq (OK.reg ?_)
 refine RK.c (S.box (k := 2) rfl .none rfl (.tmp rfl rfl) rfl) ?_
 refine RK.c (S.box (k := 3) rfl .none rfl (.tmp rfl rfl) rfl) ?_
 refine RK.c (S.assign .none rfl (.cint rfl)) ?_
 refine RK.c (S.assign .none rfl (.cint rfl)) ?_
 refine RK.nil (Ab.D.code (OK.seq (OK.seq (OK.reg ?_))))
 refine RK.c (S.bfield fi75_0 .none rfl (.tmp rfl rfl)) ?_
 refine RK.c (S.bload1 ti73 .none rfl (.tmp rfl rfl) rfl rfl rfl rfl) ?_
 refine RK.c (S.lenM si73 .none rfl (.tmp rfl rfl)) ?_
 refine RK.c (S.bfield fi150_0 .none rfl (.tmp rfl rfl)) ?_
 refine RK.c (S.bfield fi24_1 .none rfl (.tmp rfl rfl)) ?_
 refine RK.c (S.bload1 ti3 .none rfl (.tmp rfl rfl) rfl rfl rfl rfl) ?_
 refine RK.c (S.neq .none rfl (.tmp rfl rfl) (.tmp rfl rfl)) ?_
 refine RK.nil (Ab.D.code ?_)
 refine OK.condD rfl rfl (fun c12 => ?_) (fun c12 => ?_)
 ·
  refine OK.seq (OK.reg ?_)
  refine RK.c (S.assign .none rfl (.cint rfl)) ?_
  refine RK.c (S.assign .none rfl (.cint rfl)) ?_
  refine RK.nil (Ab.D.code ?_)
  refine OK.ret (Ret.r2 (.tmp rfl rfl (.c (.same rfl) rfl) rfl) (.tmp rfl rfl (.c (.same rfl) rfl) rfl) ?_)
  refine ret_p ?_
  rw [recChk, if_pos c12]
 ·
  refine OK.skip ?_
  refine Ab.D.code (OK.seq (OK.reg ?_))
  refine RK.c (S.bfield fi75_0 .none rfl (.tmp rfl rfl)) ?_
  refine RK.c (S.bload1 ti73 .none rfl (.tmp rfl rfl) rfl rfl rfl rfl) ?_
  refine RK.c (S.makeFunc1 .none rfl (.tmp rfl rfl) rfl) ?_
  refine RK.c (S.callL (each_Row (l := r.rows) (g := fun _ x => rowErr p x) (caps := [.eptr p.cs]) (fun i x _ => mon_row) Tryz.call156 ⟨rfl, rfl⟩) Tryz.call155 .none rfl (.cons (.tmp rfl rfl) (.cons (.tmp rfl rfl) .nil)) (.cons (.same rfl) (.cons (.fn (.cons (.ptr rfl rfl rfl rfl) .nil)) .nil)) rfl) ?_
  refine RK.c (S.extract .none rfl (.tmp rfl rfl) rfl rfl) ?_
  refine RK.c (S.extract .none rfl (.tmp rfl rfl) rfl rfl) ?_
  refine RK.c (S.assign .none rfl (.tmp rfl rfl)) ?_
  refine RK.c (S.assign .none rfl (.tmp rfl rfl)) ?_
  refine RK.nil (Ab.D.code ?_)
  refine OK.ret (Ret.r2 (.tmp rfl rfl (.c (.same rfl) rfl) rfl) (.tmp rfl rfl (.c (.same rfl) rfl) rfl) ?_)
  refine ret_p ?_
  rw [recChk, if_neg c12]
theorem mon_CheckRecord {p : Plan} {r : Record} : Ct Tryz.prog 93 [.agg p.cs, .agg r.cs] (pair (recordChk p r)) := by
 refine Ct.intro (rs := [.tmp 4, .tmp 5]) Tryz.func93 rfl Tryz.ntmps93 Tryz.results93 rfl rfl rfl fun w h => ?_
 refine OK.seq (OK.reg ?_)
 refine RK.c (S.box (k := 2) rfl .none rfl (.tmp rfl rfl) rfl) ?_
 refine RK.c (S.box (k := 3) rfl .none rfl (.tmp rfl rfl) rfl) ?_
 refine RK.c (S.assign .none rfl (.cint rfl)) ?_
 refine RK.c (S.assign .none rfl (.cint rfl)) ?_
 refine RK.nil (Ab.D.code (OK.seq (OK.reg ?_)))
 refine RK.c (S.bloadN ti24 .none rfl (.tmp rfl rfl) rfl rfl rfl rfl) ?_
 refine RK.c (S.call (mon_open) Tryz.call82 .none rfl (.cons (.tmp rfl rfl) .nil) rfl) ?_
 refine RK.c (S.move .none rfl (.tmp rfl rfl)) ?_
 refine RK.c (S.extract .none rfl (.tmp rfl rfl) rfl rfl) ?_
 refine RK.c (S.extract .none rfl (.tmp rfl rfl) rfl rfl) ?_
 refine RK.c (S.alloc (k := 6) ze150 rfl .none rfl) ?_
 refine RK.c (S.store ti150 .none (.tmp rfl rfl) (.tmp rfl rfl) rfl rfl rfl rfl rfl rfl) ?_
 refine RK.c (S.assign .none rfl (.tmp rfl rfl)) ?_
 refine RK.nil (Ab.D.code (OK.seq (OK.seq (OK.reg ?_))))
 refine RK.c (S.move .none rfl (.tmp rfl rfl)) ?_
 refine RK.c (S.neq .none rfl (.tmp rfl rfl) (.cint rfl)) ?_
 refine RK.nil (Ab.D.code ?_)
 refine OK.condD rfl rfl (fun c14 => ?_) (fun c14 => ?_)
 ·
  refine OK.seq (OK.reg ?_)
  refine RK.c (S.move .none rfl (.tmp rfl rfl)) ?_
  refine RK.c (S.assign .none rfl (.cint rfl)) ?_
  refine RK.c (S.assign .none rfl (.tmp rfl rfl)) ?_
  refine RK.nil (Ab.D.code ?_)
  refine OK.ret (Ret.r2 (.tmp rfl rfl (.c (.same rfl) rfl) rfl) (.tmp rfl rfl (.c (.same rfl) rfl) rfl) ?_)
  refine ret_p ?_
  rw [recordChk, if_pos c14]
 ·
  refine OK.skip ?_
  refine Ab.D.code (OK.seq (OK.reg ?_))
  refine RK.c (S.bloadN ti150 .none rfl (.tmp rfl rfl) rfl rfl rfl rfl) ?_
  refine RK.c (S.bloadN ti75 .none rfl (.tmp rfl rfl) rfl rfl rfl rfl) ?_
  refine RK.c (S.call (mon_recordErr) Tryz.call130 .none rfl (.cons (.tmp rfl rfl) (.cons (.tmp rfl rfl) .nil)) rfl) ?_
  refine RK.c (S.extract .none rfl (.tmp rfl rfl) rfl rfl) ?_
  refine RK.c (S.extract .none rfl (.tmp rfl rfl) rfl rfl) ?_
  refine RK.c (S.assign .none rfl (.tmp rfl rfl)) ?_
  refine RK.c (S.assign .none rfl (.tmp rfl rfl)) ?_
  refine RK.nil (Ab.D.code ?_)
  refine OK.ret (Ret.r2 (.tmp rfl rfl (.c (.same rfl) rfl) rfl) (.tmp rfl rfl (.c (.same rfl) rfl) rfl) ?_)
  refine ret_p ?_
  rw [recordChk, if_neg c14]
theorem mon_lost {r : Record} (hlen : r.rows.length ≤ 100000) : Ct Tryz.prog 92 [.agg r.cs] (ints (lostT r)) := by
 refine Ct.intro (rs := [.tmp 2]) Tryz.func92 rfl Tryz.ntmps92 Tryz.results92 rfl rfl rfl fun w h => ?_
 refine OK.seq (OK.reg ?_)
 refine RK.c (S.box (k := 1) rfl .none rfl (.tmp rfl rfl) rfl) ?_
 refine RK.c (S.assign .none rfl .cnil) ?_
 refine RK.nil (Ab.D.code (OK.seq (OK.reg ?_)))
 refine RK.c (S.nilOwn (k := 3) (sz := 1) .none rfl) ?_
 refine RK.nil (Ab.D.code (OK.seq (OK.seq (OK.reg ?_))))
 refine RK.c (S.bfield fi75_0 .none rfl (.tmp rfl rfl)) ?_
 refine RK.c (S.bload1 ti73 .none rfl (.tmp rfl rfl) rfl rfl rfl rfl) ?_
 refine RK.c (S.lenM si73 .none rfl (.tmp rfl rfl)) ?_
 refine RK.c (S.move .none rfl (.cint rfl)) ?_
 refine RK.nil (Ab.D.code ?_)
 refine OK.block ?_
 refine OK.loop2 [3] (fun (i : Nat) (out : List Int) => [(3, .own 3 out.length), (2003, .arr 1 (out.map fun n => [.int .i64 n])), (7, .sl (r.rows.map Row.cs)), (8, .int .i64 r.rows.length), (9, .int .i64 i)]) (fun i out => i ≤ r.rows.length ∧ out.length ≤ i ∧ lostT r = out ++ lostGo i (r.rows.drop i)) (fun i out => r.rows.length - i) (0) ([]) ⟨Nat.zero_le _, Nat.le_refl _, rfl⟩ ⟨(lk_own (by first | rfl | (simp; done) | (simp; omega))), (lk_arr (by first | rfl | (simp; done) | (simp; omega))), rfl, rfl, rfl, trivial⟩ (fun _ _ => rfl) ?_
 rintro i out ⟨hi, ho, hg⟩
 refine OK.seq (OK.reg ?_)
 refine RK.c (S.lss .none rfl (.tmp rfl rfl) (.tmp rfl rfl)) ?_
 refine RK.nil (Ab.D.code ?_)
 refine OK.seq ?_
 refine OK.condD rfl rfl (fun c10 => ?_) (fun c10 => ?_)
 ·
  refine OK.skip ?_
  refine Ab.D.code ?_
  refine OK.seq ?_
  refine OK.block ?_
  refine OK.seq (OK.reg ?_)
  refine RK.c (S.move .none rfl (.tmp rfl rfl)) ?_
  refine RK.c (S.indexM si73 .none rfl (.tmp rfl rfl) (.tmp rfl rfl) rfl (by omega) rfl) ?_
  refine RK.c (S.loadN ti162 .none rfl (.tmp rfl rfl) rfl rfl) ?_
  refine RK.c (S.alloc (k := 5) ze162 rfl .none rfl) ?_
  refine RK.c (S.assign .none rfl (.tmp rfl rfl)) ?_
  refine RK.c (S.store ti162 .none (.tmp rfl rfl) (.tmp rfl rfl) rfl rfl rfl rfl rfl rfl) ?_
  refine RK.nil (Ab.D.code (OK.seq (OK.reg ?_)))
  refine RK.c (S.bfield fi162_0 .none rfl (.tmp rfl rfl)) ?_
  refine RK.c (S.bload1 ti4 .none rfl (.tmp rfl rfl) rfl rfl rfl rfl) ?_
  refine RK.c (S.not .none rfl (.tmp rfl rfl)) ?_
  refine RK.nil (Ab.D.code ?_)
  refine OK.cond rfl rfl (fun c16 => ?_) (fun c16 => ?_)
  ·
   refine OK.reg ?_
   refine RK.c (S.move .none rfl (.tmp rfl rfl)) ?_
   refine RK.c (S.move .none rfl (.tmp rfl rfl)) ?_
   refine RK.c (S.mkSlice (k := 19) (rows := [[_]]) ai25 .none rfl (.cons (.tmp rfl rfl) .nil) rfl rfl rfl rfl rfl rfl rfl) ?_
   refine RK.c (S.append ai25 .none rfl (.tmp rfl rfl) rfl (by simp) (.tmp rfl rfl) rfl (by first | rfl | (simp; done) | (simp; omega)) (by omega) (by simp only [maxLen]; omega)) ?_
   refine RK.c (S.assign .none rfl (.tmp rfl rfl)) ?_
   refine RK.nil ?_
   refine Ab.D.blk ?_
   refine Ab.D.code (OK.reg ?_)
   refine RK.c (S.add .none rfl (.tmp rfl rfl) (.cint rfl) (IntWalk.i64_in _ (by omega)) (IntWalk.i64_in _ (by omega))) ?_
   refine RK.c (S.move .none rfl (.tmp rfl rfl)) ?_
   refine RK.nil ?_
   refine Ab.D.lp ⟨i + 1, out ++ [(i : Int)], ⟨by omega, by first | omega | (simp only [List.length_append, List.length_cons, List.length_nil]; omega), ?_⟩, (by omega), (lk_own (by first | rfl | (simp; done) | (simp; omega))), (lk_arr (by first | rfl | (simp; done) | (simp; omega))), rfl, rfl, rfl, trivial⟩
   rw [hg, lostGo_drop (by omega), if_neg (by simpa using c16), List.append_assoc, List.singleton_append]
  ·
   refine OK.skip ?_
   refine Ab.D.blk ?_
   refine Ab.D.code (OK.reg ?_)
   refine RK.c (S.add .none rfl (.tmp rfl rfl) (.cint rfl) (IntWalk.i64_in _ (by omega)) (IntWalk.i64_in _ (by omega))) ?_
   refine RK.c (S.move .none rfl (.tmp rfl rfl)) ?_
   refine RK.nil ?_
   refine Ab.D.lp ⟨i + 1, out, ⟨by omega, by first | omega | (simp only [List.length_append, List.length_cons, List.length_nil]; omega), ?_⟩, (by omega), (lk_own (by first | rfl | (simp; done) | (simp; omega))), (lk_arr (by first | rfl | (simp; done) | (simp; omega))), rfl, rfl, rfl, trivial⟩
   rw [hg, lostGo_drop (by omega), if_pos (by simpa using c16)]
 ·
  refine OK.exit rfl ?_
  refine Ab.D.code (OK.seq (OK.reg ?_))
  refine RK.c (S.move .none rfl (.tmp rfl rfl)) ?_
  refine RK.c (S.assign .none rfl (.tmp rfl rfl)) ?_
  refine RK.nil (Ab.D.code ?_)
  refine OK.ret (Ret.r1 (.tmp rfl rfl (.c (.own rfl rfl (by first | rfl | (simp; done) | (simp; omega))) rfl) rfl) ?_)
  have : i = r.rows.length := by omega
  subst this
  rw [hg, List.drop_length, lostGo, List.append_nil]
  rfl
theorem mon_LostIn {p : Plan} {r : Record} (hlen : r.rows.length ≤ 100000) : Ct Tryz.prog 40 [.agg p.cs, .agg r.cs] (.tup [ints (if (recordChk p r).2 = 0 then lostT r else []), .int .i64 (recordChk p r).2]) := by
 refine Ct.intro (rs := [.tmp 4, .tmp 5]) Tryz.func40 rfl Tryz.ntmps40 Tryz.results40 rfl rfl rfl fun w h => ?_
 refine OK.seq (OK.reg ?_)
 refine RK.c (S.box (k := 2) rfl .none rfl (.tmp rfl rfl) rfl) ?_
 refine RK.c (S.box (k := 3) rfl .none rfl (.tmp rfl rfl) rfl) ?_
 refine RK.c (S.assign .none rfl .cnil) ?_
 refine RK.c (S.assign .none rfl (.cint rfl)) ?_
 refine RK.nil (Ab.D.code (OK.seq (OK.seq (OK.reg ?_))))
 refine RK.c (S.bloadN ti24 .none rfl (.tmp rfl rfl) rfl rfl rfl rfl) ?_
 refine RK.c (S.bloadN ti75 .none rfl (.tmp rfl rfl) rfl rfl rfl rfl) ?_
 refine RK.c (S.call (mon_CheckRecord) Tryz.call93 .none rfl (.cons (.tmp rfl rfl) (.cons (.tmp rfl rfl) .nil)) rfl) ?_
 refine RK.c (S.move .none rfl (.tmp rfl rfl)) ?_
 refine RK.c (S.extract .none rfl (.tmp rfl rfl) rfl rfl) ?_
 refine RK.c (S.extract .none rfl (.tmp rfl rfl) rfl rfl) ?_
 refine RK.c (S.assign .none rfl (.tmp rfl rfl)) ?_
 refine RK.c (S.assign .none rfl (.tmp rfl rfl)) ?_
 refine RK.nil (Ab.D.code (OK.seq (OK.reg ?_)))
 refine RK.c (S.move .none rfl (.tmp rfl rfl)) ?_
 refine RK.c (S.neq .none rfl (.tmp rfl rfl) (.cint rfl)) ?_
 refine RK.nil (Ab.D.code ?_)
 refine OK.condD rfl rfl (fun c15 => ?_) (fun c15 => ?_)
 ·
  refine OK.seq (OK.reg ?_)
  refine RK.c (S.move .none rfl (.tmp rfl rfl)) ?_
  refine RK.c (S.assign .none rfl .cnil) ?_
  refine RK.c (S.assign .none rfl (.tmp rfl rfl)) ?_
  refine RK.nil (Ab.D.code ?_)
  refine OK.ret (Ret.r2 (.tmp rfl rfl (.c (.same rfl) rfl) rfl) (.tmp rfl rfl (.c (.same rfl) rfl) rfl) ?_)
  rw [if_neg c15]
  rfl
 ·
  refine OK.skip ?_
  refine Ab.D.code (OK.seq (OK.reg ?_))
  refine RK.c (S.bloadN ti75 .none rfl (.tmp rfl rfl) rfl rfl rfl rfl) ?_
  refine RK.c (S.call (mon_lost (by omega)) Tryz.call92 .none rfl (.cons (.tmp rfl rfl) .nil) rfl) ?_
  refine RK.c (S.assign .none rfl (.tmp rfl rfl)) ?_
  refine RK.c (S.assign .none rfl (.cint rfl)) ?_
  refine RK.nil (Ab.D.code ?_)
  refine OK.ret (Ret.r2 (.tmp rfl rfl (.c (.same rfl) rfl) rfl) (.tmp rfl rfl (.c (.same rfl) rfl) rfl) ?_)
  rw [if_pos (by omega)]
  rw [show (recordChk p r).2 = 0 by omega]
theorem ref_CheckRecord {p : Plan} {r : Record} : Ct Tryz.prog 154 [.agg p.cs, .agg r.cs] (pair (recChk p r)) := by
 refine Ct.intro (rs := [.tmp 4, .tmp 5]) Tryz.func154 rfl Tryz.ntmps154 Tryz.results154 rfl rfl rfl fun w h => ?_
 refine OK.aggLen 1 0 (r.rows.map Row.cs) rfl rfl rfl fun hlen => ?_
 rw [List.length_map] at hlen
 unfold maxLen at hlen
 refine OK.aggLen 0 0 (p.channels.map fun s => [.str s]) rfl rfl rfl fun hlenp => ?_
 rw [List.length_map] at hlenp
 unfold maxLen at hlenp
 refine OK.seq (OK.reg ?_)
 refine RK.c (S.box (k := 2) rfl .none rfl (.tmp rfl rfl) rfl) ?_
 refine RK.c (S.box (k := 3) rfl .none rfl (.tmp rfl rfl) rfl) ?_
 refine RK.c (S.assign .none rfl (.cint rfl)) ?_
 refine RK.c (S.assign .none rfl (.cint rfl)) ?_
 refine RK.nil (Ab.D.code (OK.seq (OK.seq (OK.reg ?_))))
 refine RK.c (S.bfield fi75_0 .none rfl (.tmp rfl rfl)) ?_
 refine RK.c (S.bload1 ti73 .none rfl (.tmp rfl rfl) rfl rfl rfl rfl) ?_
 refine RK.c (S.lenM si73 .none rfl (.tmp rfl rfl)) ?_
 refine RK.c (S.bfield fi24_1 .none rfl (.tmp rfl rfl)) ?_
 refine RK.c (S.bload1 ti3 .none rfl (.tmp rfl rfl) rfl rfl rfl rfl) ?_
 refine RK.c (S.neq .none rfl (.tmp rfl rfl) (.tmp rfl rfl)) ?_
 refine RK.nil (Ab.D.code ?_)
 refine OK.condD rfl rfl (fun c14 => ?_) (fun c14 => ?_)
 ·
  refine OK.seq (OK.reg ?_)
  refine RK.c (S.assign .none rfl (.cint rfl)) ?_
  refine RK.c (S.assign .none rfl (.cint rfl)) ?_
  refine RK.nil (Ab.D.code ?_)
  refine OK.ret (Ret.r2 (.tmp rfl rfl (.c (.same rfl) rfl) rfl) (.tmp rfl rfl (.c (.same rfl) rfl) rfl) ?_)
  refine ret_p ?_
  rw [recChk, if_pos c14]
 ·
  have hl : (r.rows.length : Int) = p.ticks := by omega
  have hrc : recChk p r = eachGo (fun _ x => rowErr p x) 0 r.rows := by rw [recChk, if_neg (by omega)]
  refine OK.skip ?_
  refine Ab.D.code (OK.seq (OK.seq (OK.reg ?_)))
  refine RK.c (S.assign .none rfl (.cint rfl)) ?_
  refine RK.nil (Ab.D.code ?_)
  refine OK.block ?_
  refine OK.loop (G := Nat) [2, 3] (fun i => [(2, .ptr 2 0), (1002, .box p.cs), (3, .ptr 3 0), (1003, .box r.cs), (6, .int .i64 i)]) (fun i => i ≤ r.rows.length ∧ eachGo (fun _ x => rowErr p x) 0 r.rows = eachGo (fun _ x => rowErr p x) i (r.rows.drop i)) (fun i => r.rows.length - i) 0 ⟨Nat.zero_le _, rfl⟩ ⟨rfl, rfl, rfl, rfl, rfl, trivial⟩ (fun _ => rfl) ?_
  rintro i ⟨hi, hg⟩
  refine OK.seq (OK.seq (OK.reg ?_))
  refine RK.c (S.move .none rfl (.tmp rfl rfl)) ?_
  refine RK.c (S.bfield fi75_0 .none rfl (.tmp rfl rfl)) ?_
  refine RK.c (S.bload1 ti73 .none rfl (.tmp rfl rfl) rfl rfl rfl rfl) ?_
  refine RK.c (S.lenM si73 .none rfl (.tmp rfl rfl)) ?_
  refine RK.c (S.lss .none rfl (.tmp rfl rfl) (.tmp rfl rfl)) ?_
  refine RK.nil (Ab.D.code ?_)
  refine OK.condD rfl rfl (fun c19 => ?_) (fun c19 => ?_)
  ·
   refine OK.skip ?_
   refine Ab.D.code ?_
   refine OK.seq ?_
   refine OK.block ?_
   refine OK.seq (OK.reg ?_)
   refine RK.c (S.bfield fi75_0 .none rfl (.tmp rfl rfl)) ?_
   refine RK.c (S.bload1 ti73 .none rfl (.tmp rfl rfl) rfl rfl rfl rfl) ?_
   refine RK.c (S.move .none rfl (.tmp rfl rfl)) ?_
   refine RK.c (S.indexM si73 .none rfl (.tmp rfl rfl) (.tmp rfl rfl) rfl (by omega) rfl) ?_
   refine RK.c (S.loadN ti162 .none rfl (.tmp rfl rfl) rfl rfl) ?_
   refine RK.c (S.alloc (k := 7) ze162 rfl .none rfl) ?_
   refine RK.c (S.store ti162 .none (.tmp rfl rfl) (.tmp rfl rfl) rfl rfl rfl rfl rfl rfl) ?_
   refine RK.nil (Ab.D.code (OK.seq (OK.seq (OK.reg ?_))))
   refine RK.c (S.bfield fi162_0 .none rfl (.tmp rfl rfl)) ?_
   refine RK.c (S.bload1 ti4 .none rfl (.tmp rfl rfl) rfl rfl rfl rfl) ?_
   refine RK.c (S.not .none rfl (.tmp rfl rfl)) ?_
   refine RK.nil (Ab.D.code ?_)
   refine OK.cond rfl rfl (fun c29 => ?_) (fun c29 => ?_)
   ·
    refine OK.seq (OK.seq (OK.reg ?_))
    refine RK.c (S.bfield fi162_1 .none rfl (.tmp rfl rfl)) ?_
    refine RK.c (S.bload1 ti25 .none rfl (.tmp rfl rfl) rfl rfl rfl rfl) ?_
    refine RK.c (S.lenM si25 .none rfl (.tmp rfl rfl)) ?_
    refine RK.c (S.gtr .none rfl (.tmp rfl rfl) (.cint rfl)) ?_
    refine RK.nil (Ab.D.code ?_)
    refine OK.condD rfl rfl (fun c33 => ?_) (fun c33 => ?_)
    ·
     refine OK.seq (OK.reg ?_)
     refine RK.c (S.move .none rfl (.tmp rfl rfl)) ?_
     refine RK.c (S.assign .none rfl (.tmp rfl rfl)) ?_
     refine RK.c (S.assign .none rfl (.cint rfl)) ?_
     refine RK.nil (Ab.D.code ?_)
     refine OK.ret (Ret.r2 (.tmp rfl rfl (.c (.same rfl) rfl) rfl) (.tmp rfl rfl (.c (.same rfl) rfl) rfl) ?_)
     have e : rowErr p r.rows[i] = 3 := by rw [rowErr, if_neg (by simpa using c29), if_neg (by omega)]
     refine ret_p ?_
     rw [hrc, hg, eachGo_drop _ (by omega), e]
     rfl
    ·
     refine OK.skip ?_
     refine Ab.D.code ?_
     refine OK.exit rfl ?_
     refine Ab.D.code (OK.reg ?_)
     refine RK.c (S.move .none rfl (.tmp rfl rfl)) ?_
     refine RK.c (S.add .none rfl (.tmp rfl rfl) (.cint rfl) (IntWalk.i64_in _ (by omega)) (IntWalk.i64_in _ (by omega))) ?_
     refine RK.c (S.assign .none rfl (.tmp rfl rfl)) ?_
     refine RK.nil ?_
     refine Ab.D.lp ⟨i + 1, ⟨by omega, ?_⟩, (by omega), rfl, rfl, rfl, rfl, rfl, trivial⟩
     have e : rowErr p r.rows[i] = 0 := by rw [rowErr, if_neg (by simpa using c29), if_pos (by omega)]
     rw [hg, eachGo_drop _ (by omega), e]
     rfl
   ·
    refine OK.skip ?_
    refine Ab.D.code (OK.seq (OK.seq (OK.reg ?_)))
    refine RK.c (S.bfield fi162_1 .none rfl (.tmp rfl rfl)) ?_
    refine RK.c (S.bload1 ti25 .none rfl (.tmp rfl rfl) rfl rfl rfl rfl) ?_
    refine RK.c (S.lenM si25 .none rfl (.tmp rfl rfl)) ?_
    refine RK.c (S.bfield fi24_0 .none rfl (.tmp rfl rfl)) ?_
    refine RK.c (S.bload1 ti22 .none rfl (.tmp rfl rfl) rfl rfl rfl rfl) ?_
    refine RK.c (S.lenM si22 .none rfl (.tmp rfl rfl)) ?_
    refine RK.c (S.neq .none rfl (.tmp rfl rfl) (.tmp rfl rfl)) ?_
    refine RK.nil (Ab.D.code ?_)
    refine OK.condD rfl rfl (fun c41 => ?_) (fun c41 => ?_)
    ·
     refine OK.seq (OK.reg ?_)
     refine RK.c (S.move .none rfl (.tmp rfl rfl)) ?_
     refine RK.c (S.assign .none rfl (.tmp rfl rfl)) ?_
     refine RK.c (S.assign .none rfl (.cint rfl)) ?_
     refine RK.nil (Ab.D.code ?_)
     refine OK.ret (Ret.r2 (.tmp rfl rfl (.c (.same rfl) rfl) rfl) (.tmp rfl rfl (.c (.same rfl) rfl) rfl) ?_)
     have e : rowErr p r.rows[i] = 10 := by rw [rowErr, if_pos (by simpa using c29), valuesErr, if_pos (by omega)]
     refine ret_p ?_
     rw [hrc, hg, eachGo_drop _ (by omega), e]
     rfl
    ·
     refine OK.skip ?_
     refine Ab.D.code (OK.seq (OK.reg ?_))
     refine RK.c (S.assign .none rfl (.cint rfl)) ?_
     refine RK.nil (Ab.D.code ?_)
     refine OK.block ?_
     have hk : r.rows[i].known = true := by simpa using c29
     have hvl : r.rows[i].values.length = p.channels.length := by omega
     refine OK.loop (G := Nat) [2, 3, 7] (fun j => [(2, .ptr 2 0), (1002, .box p.cs), (3, .ptr 3 0), (1003, .box r.cs), (6, .int .i64 i), (7, .ptr 7 0), (1007, .box r.rows[i].cs), (8, .int .i64 j)]) (fun j => j ≤ r.rows[i].values.length ∧ r.rows[i].values.all isVal = (r.rows[i].values.drop j).all isVal) (fun j => r.rows[i].values.length - j) 0 ⟨Nat.zero_le _, rfl⟩ ⟨rfl, rfl, rfl, rfl, rfl, rfl, rfl, rfl, trivial⟩ (fun _ => rfl) ?_
     rintro j ⟨hj, hv⟩
     refine OK.seq (OK.seq (OK.reg ?_))
     refine RK.c (S.move .none rfl (.tmp rfl rfl)) ?_
     refine RK.c (S.bfield fi162_1 .none rfl (.tmp rfl rfl)) ?_
     refine RK.c (S.bload1 ti25 .none rfl (.tmp rfl rfl) rfl rfl rfl rfl) ?_
     refine RK.c (S.lenM si25 .none rfl (.tmp rfl rfl)) ?_
     refine RK.c (S.lss .none rfl (.tmp rfl rfl) (.tmp rfl rfl)) ?_
     refine RK.nil (Ab.D.code ?_)
     refine OK.condD rfl rfl (fun c47 => ?_) (fun c47 => ?_)
     ·
      refine OK.skip ?_
      refine Ab.D.code ?_
      refine OK.seq ?_
      refine OK.block ?_
      refine OK.seq (OK.reg ?_)
      refine RK.c (S.bfield fi162_1 .none rfl (.tmp rfl rfl)) ?_
      refine RK.c (S.bload1 ti25 .none rfl (.tmp rfl rfl) rfl rfl rfl rfl) ?_
      refine RK.c (S.move .none rfl (.tmp rfl rfl)) ?_
      refine RK.c (S.indexM (n := j) si25 .none rfl (.tmp rfl rfl) (.tmp rfl rfl) rfl (by omega) rfl) ?_
      refine RK.c (S.load1 ti3 .none rfl (.tmp rfl rfl) rfl) ?_
      refine RK.c (S.call (ref_isValue) Tryz.call75 .none rfl (.cons (.tmp rfl rfl) .nil) rfl) ?_
      refine RK.c (S.notD .none rfl (.tmp rfl rfl)) ?_
      refine RK.nil (Ab.D.code ?_)
      refine OK.condD rfl rfl (fun c56 => ?_) (fun c56 => ?_)
      ·
       refine OK.seq (OK.reg ?_)
       refine RK.c (S.move .none rfl (.tmp rfl rfl)) ?_
       refine RK.c (S.assign .none rfl (.tmp rfl rfl)) ?_
       refine RK.c (S.assign .none rfl (.cint rfl)) ?_
       refine RK.nil (Ab.D.code ?_)
       refine OK.ret (Ret.r2 (.tmp rfl rfl (.c (.same rfl) rfl) rfl) (.tmp rfl rfl (.c (.same rfl) rfl) rfl) ?_)
       have e : rowErr p r.rows[i] = 2 := by rw [rowErr, if_pos hk]; exact vals_drop_F (by omega) hvl hv (by simpa using c56)
       refine ret_p ?_
       rw [hrc, hg, eachGo_drop _ (by omega), e]
       rfl
      ·
       refine OK.skip ?_
       refine Ab.D.blk ?_
       refine Ab.D.code (OK.reg ?_)
       refine RK.c (S.move .none rfl (.tmp rfl rfl)) ?_
       refine RK.c (S.add .none rfl (.tmp rfl rfl) (.cint rfl) (IntWalk.i64_in _ (by omega)) (IntWalk.i64_in _ (by omega))) ?_
       refine RK.c (S.assign .none rfl (.tmp rfl rfl)) ?_
       refine RK.nil ?_
       refine Ab.D.lp ⟨j + 1, ⟨by omega, vals_drop_T (by omega) hv (by simpa using c56)⟩, (by omega), rfl, rfl, rfl, rfl, rfl, rfl, rfl, rfl, trivial⟩
     ·
      refine OK.exit rfl ?_
      refine Ab.D.blk ?_
      refine Ab.D.code (OK.reg ?_)
      refine RK.c (S.move .none rfl (.tmp rfl rfl)) ?_
      refine RK.c (S.add .none rfl (.tmp rfl rfl) (.cint rfl) (IntWalk.i64_in _ (by omega)) (IntWalk.i64_in _ (by omega))) ?_
      refine RK.c (S.assign .none rfl (.tmp rfl rfl)) ?_
      refine RK.nil ?_
      refine Ab.D.lp ⟨i + 1, ⟨by omega, ?_⟩, (by omega), rfl, rfl, rfl, rfl, rfl, trivial⟩
      have e : rowErr p r.rows[i] = 0 := by
       rw [rowErr, if_pos hk, valuesErr, if_neg (by omega), hv, show j = r.rows[i].values.length by omega, List.drop_length]
       rfl
      rw [hg, eachGo_drop _ (by omega), e]
      rfl
  ·
   refine OK.exit rfl ?_
   refine Ab.D.code (OK.seq (OK.reg ?_))
   refine RK.c (S.assign .none rfl (.cint rfl)) ?_
   refine RK.c (S.assign .none rfl (.cint rfl)) ?_
   refine RK.nil (Ab.D.code ?_)
   refine OK.ret (Ret.r2 (.tmp rfl rfl (.c (.same rfl) rfl) rfl) (.tmp rfl rfl (.c (.same rfl) rfl) rfl) ?_)
   refine ret_p ?_
   rw [hrc, hg, show i = r.rows.length by omega, List.drop_length]
   rfl
theorem ref_RecordErr {p : Plan} {r : Record} : Ct Tryz.prog 126 [.agg p.cs, .agg r.cs] (.int .i64 (recChk p r).2) := by
 refine Ct.intro (rs := [.tmp 4]) Tryz.func126 rfl Tryz.ntmps126 Tryz.results126 rfl rfl rfl fun w h => ?_
 refine OK.seq (OK.reg ?_)
 refine RK.c (S.box (k := 2) rfl .none rfl (.tmp rfl rfl) rfl) ?_
 refine RK.c (S.box (k := 3) rfl .none rfl (.tmp rfl rfl) rfl) ?_
 refine RK.c (S.assign .none rfl (.cint rfl)) ?_
 refine RK.nil (Ab.D.code (OK.seq (OK.reg ?_)))
 refine RK.c (S.bloadN ti24 .none rfl (.tmp rfl rfl) rfl rfl rfl rfl) ?_
 refine RK.c (S.bloadN ti75 .none rfl (.tmp rfl rfl) rfl rfl rfl rfl) ?_
 refine RK.c (S.call (ref_CheckRecord) Tryz.call154 .none rfl (.cons (.tmp rfl rfl) (.cons (.tmp rfl rfl) .nil)) rfl) ?_
 refine RK.c (S.move .none rfl (.tmp rfl rfl)) ?_
 refine RK.c (S.extract .none rfl (.tmp rfl rfl) rfl rfl) ?_
 refine RK.c (S.extract .none rfl (.tmp rfl rfl) rfl rfl) ?_
 refine RK.c (S.assign .none rfl (.tmp rfl rfl)) ?_
 refine RK.c (S.assign .none rfl (.tmp rfl rfl)) ?_
 refine RK.nil (Ab.D.code (OK.seq (OK.reg ?_)))
 refine RK.c (S.move .none rfl (.tmp rfl rfl)) ?_
 refine RK.c (S.assign .none rfl (.tmp rfl rfl)) ?_
 refine RK.nil (Ab.D.code ?_)
 refine OK.ret (Ret.r1 (.tmp rfl rfl (.c (.same rfl) rfl) rfl) ?_)
 rfl
theorem ref_Lost {r : Record} (hlen : r.rows.length ≤ 100000) : Ct Tryz.prog 127 [.agg r.cs] (ints (lostT r)) := by
 refine Ct.intro (rs := [.tmp 2]) Tryz.func127 rfl Tryz.ntmps127 Tryz.results127 rfl rfl rfl fun w h => ?_
 refine OK.seq (OK.reg ?_)
 refine RK.c (S.box (k := 1) rfl .none rfl (.tmp rfl rfl) rfl) ?_
 refine RK.c (S.assign .none rfl .cnil) ?_
 refine RK.nil (Ab.D.code (OK.seq (OK.reg ?_)))
 refine RK.c (S.nilOwn (k := 3) (sz := 1) .none rfl) ?_
 refine RK.nil (Ab.D.code (OK.seq (OK.seq (OK.reg ?_))))
 refine RK.c (S.assign .none rfl (.cint rfl)) ?_
 refine RK.nil (Ab.D.code ?_)
 refine OK.block ?_
 refine OK.loop2 [1, 3] (fun (i : Nat) (out : List Int) => [(1, .ptr 1 0), (1001, .box r.cs), (3, .own 3 out.length), (2003, .arr 1 (out.map fun n => [.int .i64 n])), (4, .int .i64 i)]) (fun i out => i ≤ r.rows.length ∧ out.length ≤ i ∧ lostT r = out ++ lostGo i (r.rows.drop i)) (fun i out => r.rows.length - i) (0) ([]) ⟨Nat.zero_le _, Nat.le_refl _, rfl⟩ ⟨rfl, rfl, (lk_own (by first | rfl | (simp; done) | (simp; omega))), (lk_arr (by first | rfl | (simp; done) | (simp; omega))), rfl, trivial⟩ (fun _ _ => rfl) ?_
 rintro i out ⟨hi, ho, hg⟩
 refine OK.seq (OK.seq (OK.reg ?_))
 refine RK.c (S.move .none rfl (.tmp rfl rfl)) ?_
 refine RK.c (S.bfield fi75_0 .none rfl (.tmp rfl rfl)) ?_
 refine RK.c (S.bload1 ti73 .none rfl (.tmp rfl rfl) rfl rfl rfl rfl) ?_
 refine RK.c (S.lenM si73 .none rfl (.tmp rfl rfl)) ?_
 refine RK.c (S.lss .none rfl (.tmp rfl rfl) (.tmp rfl rfl)) ?_
 refine RK.nil (Ab.D.code ?_)
 refine OK.condD rfl rfl (fun c9 => ?_) (fun c9 => ?_)
 ·
  refine OK.skip ?_
  refine Ab.D.code ?_
  refine OK.seq ?_
  refine OK.block ?_
  refine OK.seq (OK.reg ?_)
  refine RK.c (S.bfield fi75_0 .none rfl (.tmp rfl rfl)) ?_
  refine RK.c (S.bload1 ti73 .none rfl (.tmp rfl rfl) rfl rfl rfl rfl) ?_
  refine RK.c (S.move .none rfl (.tmp rfl rfl)) ?_
  refine RK.c (S.indexM si73 .none rfl (.tmp rfl rfl) (.tmp rfl rfl) rfl (by omega) rfl) ?_
  refine RK.c (S.field fi162_0 .none rfl (.tmp rfl rfl) rfl) ?_
  refine RK.c (S.load1 ti4 .none rfl (.tmp rfl rfl) rfl) ?_
  refine RK.c (S.not .none rfl (.tmp rfl rfl)) ?_
  refine RK.nil (Ab.D.code ?_)
  refine OK.cond rfl rfl (fun c18 => ?_) (fun c18 => ?_)
  ·
   refine OK.reg ?_
   refine RK.c (S.move .none rfl (.tmp rfl rfl)) ?_
   refine RK.c (S.move .none rfl (.tmp rfl rfl)) ?_
   refine RK.c (S.mkSlice (k := 21) (rows := [[_]]) ai25 .none rfl (.cons (.tmp rfl rfl) .nil) rfl rfl rfl rfl rfl rfl rfl) ?_
   refine RK.c (S.append ai25 .none rfl (.tmp rfl rfl) rfl (by first | rfl | (simp; done) | (simp; omega)) (.tmp rfl rfl) rfl (by first | rfl | (simp; done) | (simp; omega)) (by omega) (by simp only [maxLen]; omega)) ?_
   refine RK.c (S.assign .none rfl (.tmp rfl rfl)) ?_
   refine RK.nil ?_
   refine Ab.D.blk ?_
   refine Ab.D.code (OK.reg ?_)
   refine RK.c (S.move .none rfl (.tmp rfl rfl)) ?_
   refine RK.c (S.add .none rfl (.tmp rfl rfl) (.cint rfl) (IntWalk.i64_in _ (by omega)) (IntWalk.i64_in _ (by omega))) ?_
   refine RK.c (S.assign .none rfl (.tmp rfl rfl)) ?_
   refine RK.nil ?_
   refine Ab.D.lp ⟨i + 1, out ++ [(i : Int)], ⟨by omega, by first | omega | (simp only [List.length_append, List.length_cons, List.length_nil]; omega), ?_⟩, (by omega), rfl, rfl, (lk_own (by first | rfl | (simp; done) | (simp; omega))), (lk_arr (by first | rfl | (simp; done) | (simp; omega))), rfl, trivial⟩
   rw [hg, lostGo_drop (by omega), if_neg (by simpa using c18), List.append_assoc, List.singleton_append]
  ·
   refine OK.skip ?_
   refine Ab.D.blk ?_
   refine Ab.D.code (OK.reg ?_)
   refine RK.c (S.move .none rfl (.tmp rfl rfl)) ?_
   refine RK.c (S.add .none rfl (.tmp rfl rfl) (.cint rfl) (IntWalk.i64_in _ (by omega)) (IntWalk.i64_in _ (by omega))) ?_
   refine RK.c (S.assign .none rfl (.tmp rfl rfl)) ?_
   refine RK.nil ?_
   refine Ab.D.lp ⟨i + 1, out, ⟨by omega, by first | omega | (simp only [List.length_append, List.length_cons, List.length_nil]; omega), ?_⟩, (by omega), rfl, rfl, (lk_own (by first | rfl | (simp; done) | (simp; omega))), (lk_arr (by first | rfl | (simp; done) | (simp; omega))), rfl, trivial⟩
   rw [hg, lostGo_drop (by omega), if_pos (by simpa using c18)]
 ·
  refine OK.exit rfl ?_
  refine Ab.D.code (OK.seq (OK.reg ?_))
  refine RK.c (S.move .none rfl (.tmp rfl rfl)) ?_
  refine RK.c (S.assign .none rfl (.tmp rfl rfl)) ?_
  refine RK.nil (Ab.D.code ?_)
  refine OK.ret (Ret.r1 (.tmp rfl rfl (.c (.own rfl rfl (by first | rfl | (simp; done) | (simp; omega))) rfl) rfl) ?_)
  have : i = r.rows.length := by omega
  subst this
  rw [hg, List.drop_length, lostGo, List.append_nil]
  rfl
end Go.Proofs.YtpmglnphhhlbdaaGreatDoor
