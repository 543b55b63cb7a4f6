import Derived.Test.YtpfepjgnojfppaaGreatDoorGh
import Derived.Test.YtpfepjgnojfppaaGreatDoorKh
import Derived.Test.YtpfepjgnojfppaaGreatDoorTy
namespace Go.Proofs.YtpfepjgnojfppaaGreatDoor
open Go.Ab
def charE (c : Chart) : Int := if ¬ ((1 ≤ c.count ∧ c.count ≤ 40) ∧ (-400000 ≤ c.sum ∧ c.sum ≤ 400000) ∧ (0 ≤ c.squares ∧ c.squares ≤ 4000000000)) then 2 else if spreadT c ≥ 0 then 0 else 13
theorem char_ok {c : Chart} (h : charE c = 0) : ChartB c := by
  unfold charE at h
  split at h
  · cases h
  · rename_i h1
    have h2 := Decidable.not_not.1 h1
    exact h2
def chartO (l : List Int) : Chart := if valsE l = 0 then chartT l else ⟨0, 0, 0⟩
def outT (c : Chart) (v : Int) : Bool := decide (offT c v * offT c v > 9 * spreadT c)
def allTo (p : Nat → Bool) (k : Nat) : Bool := (List.range k).all p
theorem allTo_succ (p : Nat → Bool) (k : Nat) : allTo p (k + 1) = (allTo p k && p k) := by
  unfold allTo
  rw [List.range_succ, List.all_append]
  simp
theorem allTo_no {p : Nat → Bool} {i k : Nat} (hi : i < k) (h : p i = false) : allTo p k = false := by
  rw [Bool.eq_false_iff]
  intro hc
  have := List.all_eq_true.1 hc i (List.mem_range.2 hi)
  rw [h] at this
  cases this
theorem allTo_congr {p q : Nat → Bool} {k : Nat} (h : ∀ j, j < k → p j = q j) : allTo p k = allTo q k := by
  induction k with
  | zero => rfl
  | succ k ih => rw [allTo_succ, allTo_succ, ih fun j hj => h j (by omega), h k (by omega)]
def tailT (l : List Int) (n : Nat) (g : Nat → Int → Bool) : Bool := decide (n ≤ l.length) && allTo (fun j => g (l.length - n + j) (l.getD (l.length - n + j) 0)) n
theorem tail_no {l : List Int} {n i : Nat} {g : Nat → Int → Bool} (hi : i < n) (h : g (l.length - n + i) (l.getD (l.length - n + i) 0) = false) : tailT l n g = false := by
  unfold tailT
  rw [allTo_no (p := fun j => g (l.length - n + j) (l.getD (l.length - n + j) 0)) hi h, Bool.and_false]
theorem tail_all {l : List Int} {n : Nat} {g : Nat → Int → Bool} (hn : n ≤ l.length) (h : allTo (fun j => g (l.length - n + j) (l.getD (l.length - n + j) 0)) n = true) : tailT l n g = true := by
  unfold tailT
  rw [h, decide_eq_true hn]; rfl
def upT (c : Chart) (_ : Nat) (v : Int) : Bool := decide (offT c v > 0)
def dnT (c : Chart) (_ : Nat) (v : Int) : Bool := decide (offT c v < 0)
def riT (l : List Int) (f : Int) (i : Nat) (v : Int) : Bool := decide ((i : Int) = f) || decide (v > l.getD (i - 1) 0)
def faT (l : List Int) (f : Int) (i : Nat) (v : Int) : Bool := decide ((i : Int) = f) || decide (v < l.getD (i - 1) 0)
def sideT (c : Chart) (l : List Int) : Bool := tailT l 7 (upT c) || tailT l 7 (dnT c)
def trendT (l : List Int) : Bool := tailT l 5 (riT l (l.length - 5)) || tailT l 5 (faT l (l.length - 5))
def sigT (c : Chart) (l : List Int) : Int := if outT c (l.getD (l.length - 1) 0) = true then 1 else if sideT c l = true then 2 else if trendT l = true then 3 else 0
theorem sig_1 {c : Chart} {l : List Int} (h : outT c (l.getD (l.length - 1) 0) = true) : sigT c l = 1 := if_pos h
theorem sig_2 {c : Chart} {l : List Int} (h : outT c (l.getD (l.length - 1) 0) = false) (h2 : sideT c l = true) : sigT c l = 2 := by unfold sigT; rw [h, h2]; rfl
theorem sig_3 {c : Chart} {l : List Int} (h : outT c (l.getD (l.length - 1) 0) = false) (h2 : sideT c l = false) (h3 : trendT l = true) : sigT c l = 3 := by unfold sigT; rw [h, h2, h3]; rfl
theorem sig_0 {c : Chart} {l : List Int} (h : outT c (l.getD (l.length - 1) 0) = false) (h2 : sideT c l = false) (h3 : trendT l = false) : sigT c l = 0 := by unfold sigT; rw [h, h2, h3]; rfl
theorem or_l {a b : Bool} (h : a = true) : (a || b) = true := by rw [h]; rfl
theorem or_r {a b : Bool} (h : b = true) : (a || b) = true := by rw [h, Bool.or_true]
theorem or_n {a b : Bool} (h : a = false) (h2 : b = false) : (a || b) = false := by rw [h, h2]; rfl
def sigsTo (c : Chart) (l : List Int) (i : Nat) : List Int := (List.range i).map fun k => sigT c (l.take (k + 1))
theorem sigsTo_succ (c : Chart) (l : List Int) (i : Nat) : sigsTo c l (i + 1) = sigsTo c l i ++ [sigT c (l.take (i + 1))] := by
  unfold sigsTo
  rw [List.range_succ, List.map_append]
  rfl
theorem sigsTo_len (c : Chart) (l : List Int) (i : Nat) : (sigsTo c l i).length = i := by unfold sigsTo; simp
def sigE (c : Chart) (l : List Int) : Int := if charE c ≠ 0 then charE c else valsE l
def sigR (c : Chart) (l : List Int) : List Int := if sigE c l = 0 then sigsTo c l l.length else []
theorem AllV.take {l : List Int} (h : AllV l) (i : Nat) : AllV (l.take i) := fun n hn => h n (List.mem_of_mem_take hn)
theorem AllV.get {l : List Int} (h : AllV l) {i : Nat} (hi : i < l.length) : -10000 ≤ l[i] ∧ l[i] ≤ 10000 := h _ (List.getElem_mem hi)
theorem mul_sq8 {a A : Int} (h : -A ≤ a ∧ a ≤ A) : 0 ≤ a * a ∧ a * a ≤ A * A := mul_sq h
theorem shp_ChartOf {l : List Int} : Ct Tryz.prog 54 [ints l] (.tup [.agg (chartO l).cs, .int .i64 (valsE l)]) := by
  refine Ct.intro (rs := [.cell 2 91, .tmp 3]) Tryz.func54 rfl Tryz.ntmps54 Tryz.results54 rfl rfl rfl fun w h => ?_
  refine OK.seq ?_
  refine OK.reg ?_
  refine RK.c (S.alloc (k := 2) ze91 rfl .none rfl) ?_
  refine RK.c (S.assign .none rfl (.cint rfl)) ?_
  refine RK.nil ?_
  refine Ab.D.code ?_
  refine OK.seq ?_
  refine OK.seq ?_
  refine OK.reg ?_
  refine RK.c (S.move .none rfl (.tmp rfl rfl)) ?_
  refine RK.c (S.call (shp_valuesErr) Tryz.call103 .none rfl (.cons (.tmp rfl rfl) .nil) rfl) ?_
  refine RK.c (S.assign .none rfl (.tmp rfl rfl)) ?_
  refine RK.nil ?_
  refine Ab.D.code ?_
  refine OK.seq ?_
  refine OK.reg ?_
  refine RK.c (S.move .none rfl (.tmp rfl rfl)) ?_
  refine RK.c (S.neq .none rfl (.tmp rfl rfl) (.cint rfl)) ?_
  refine RK.nil ?_
  refine Ab.D.code ?_
  refine OK.condD rfl rfl (fun c8 => ?_) (fun c8 => ?_)
  ·
    refine OK.seq ?_
    refine OK.reg ?_
    refine RK.c (S.build bu91 rfl .none rfl .nil rfl rfl) ?_
    refine RK.c (S.move .none rfl (.tmp rfl rfl)) ?_
    refine RK.c (S.store ti91 .none (.tmp rfl rfl) (.tmp rfl rfl) rfl rfl rfl rfl rfl rfl) ?_
    refine RK.c (S.assign .none rfl (.tmp rfl rfl)) ?_
    refine RK.nil ?_
    refine Ab.D.code ?_
    refine OK.ret (Ret.r2 (.cellN rfl rfl rfl rfl ti91 rfl (.k (.same rfl) (.k (.same rfl) (.k (.same rfl) .z)))) (.tmp rfl rfl (.c (.same rfl) rfl) rfl) ?_)
    rw [chartO, if_neg c8]
    rfl
  ·
    have hv : valsE l = 0 := Decidable.not_not.1 c8
    have hww : chartW l = chartT l := by obtain ⟨q1, q2, q3⟩ := vals_ok hv; exact chartW_eq q3 (by omega)
    refine OK.skip ?_
    refine Ab.D.code ?_
    refine OK.seq ?_
    refine OK.reg ?_
    refine RK.c (S.move .none rfl (.tmp rfl rfl)) ?_
    refine RK.c (S.call (shp_learned) Tryz.call104 .none rfl (.cons (.tmp rfl rfl) .nil) rfl) ?_
    refine RK.c (S.fieldG (Tf := 91) ⟨_, _, Tryz.underlying161, rfl, rfl, rfl⟩ ti91 .none rfl (.tmp rfl rfl) rfl) ?_
    refine RK.c (S.store ti91 .none (.tmp rfl rfl) (.tmp rfl rfl) rfl rfl rfl rfl rfl rfl) ?_
    refine RK.c (S.assign .none rfl (.cint rfl)) ?_
    refine RK.nil ?_
    refine Ab.D.code ?_
    refine OK.ret (Ret.r2 (.cellN rfl rfl rfl rfl ti91 rfl (.k (.same rfl) (.k (.same rfl) (.k (.same rfl) .z)))) (.tmp rfl rfl (.c (.same rfl) rfl) rfl) ?_)
    rw [chartO, if_pos hv, hv, hww]
    rfl
theorem shp_chartErr {c : Chart} : Ct Tryz.prog 106 [.agg c.cs] (.int .i64 (charE c)) := by
  refine Ct.intro (rs := [.tmp 2]) Tryz.func106 rfl Tryz.ntmps106 Tryz.results106 rfl rfl rfl fun w h => ?_
  refine OK.seq ?_
  refine OK.reg ?_
  refine RK.c (S.box (k := 1) rfl .none rfl (.tmp rfl rfl) rfl) ?_
  refine RK.c (S.assign .none rfl (.cint rfl)) ?_
  refine RK.nil ?_
  refine Ab.D.code ?_
  refine OK.seq ?_
  refine OK.reg ?_
  refine RK.c (S.bfield fi161_0 .none rfl (.tmp rfl rfl)) ?_
  refine RK.c (S.bfield fi91_0 .none rfl (.tmp rfl rfl)) ?_
  refine RK.c (S.bload1 ti3 .none rfl (.tmp rfl rfl) rfl rfl rfl rfl) ?_
  refine RK.c (S.call (shp_within) Tryz.call87 .none rfl (.cons (.tmp rfl rfl) (.cons (.cint rfl) (.cons (.cint rfl) .nil))) rfl) ?_
  refine RK.c (S.move .none rfl (.tmp rfl rfl)) ?_
  refine RK.splitD (t := 8) rfl (fun g8 => ?_) (fun g8 => ?_)
  ·
    refine RK.c (S.bfield fi161_0 (.yes rfl rfl rfl rfl) rfl (.tmp rfl rfl)) ?_
    refine RK.c (S.bfield fi91_1 (.yes rfl rfl rfl rfl) rfl (.tmp rfl rfl)) ?_
    refine RK.c (S.bload1 ti3 (.yes rfl rfl rfl rfl) rfl (.tmp rfl rfl) rfl rfl rfl rfl) ?_
    refine RK.c (S.call (shp_within) Tryz.call87 (.yes rfl rfl rfl rfl) rfl (.cons (.tmp rfl rfl) (.cons (.cint rfl) (.cons (.cint rfl) .nil))) rfl) ?_
    refine RK.c (S.pickT .none rfl (.tmp rfl rfl) (.tmp rfl rfl) rfl) ?_
    refine RK.c (S.move .none rfl (.tmp rfl rfl)) ?_
    refine RK.splitD (t := 14) rfl (fun g14 => ?_) (fun g14 => ?_)
    ·
      refine RK.c (S.bfield fi161_0 (.yes rfl rfl rfl rfl) rfl (.tmp rfl rfl)) ?_
      refine RK.c (S.bfield fi91_2 (.yes rfl rfl rfl rfl) rfl (.tmp rfl rfl)) ?_
      refine RK.c (S.bload1 ti3 (.yes rfl rfl rfl rfl) rfl (.tmp rfl rfl) rfl rfl rfl rfl) ?_
      refine RK.c (S.call (shp_within) Tryz.call87 (.yes rfl rfl rfl rfl) rfl (.cons (.tmp rfl rfl) (.cons (.cint rfl) (.cons (.cint rfl) .nil))) rfl) ?_
      refine RK.c (S.pickT .none rfl (.tmp rfl rfl) (.tmp rfl rfl) rfl) ?_
      refine RK.c (S.assign .none rfl (.tmp rfl rfl)) ?_
      refine RK.nil ?_
      refine Ab.D.code ?_
      refine OK.seq ?_
      refine OK.seq ?_
      refine OK.reg ?_
      refine RK.c (S.move .none rfl (.tmp rfl rfl)) ?_
      refine RK.c (S.notD .none rfl (.tmp rfl rfl)) ?_
      refine RK.nil ?_
      refine Ab.D.code ?_
      refine OK.condD rfl rfl (fun c21 => ?_) (fun c21 => ?_)
      ·
        refine OK.seq ?_
        refine OK.reg ?_
        refine RK.c (S.assign .none rfl (.cint rfl)) ?_
        refine RK.nil ?_
        refine Ab.D.code ?_
        refine OK.ret (Ret.r1 (.tmp rfl rfl (.c (.same rfl) rfl) rfl) ?_)
        refine ret_i ?_
        first | (unfold charE; rw [if_neg hcb2]; by_cases q : spreadT c ≥ 0 <;> simp [unlessE, q]; done) | (unfold charE; rw [if_pos (by omega)]; done) | (unfold charE; rw [if_neg (by omega)]; done) | (unfold charE unlessE; simp only [decide_eq_true_eq]; rw [if_neg (by omega)]; done) | (unfold charE; simp_all; done)
      ·
        have hcb : ChartB c := by refine ⟨?_, ?_, ?_⟩ <;> simp_all
        have hcb2 : ¬ ¬ ((1 ≤ c.count ∧ c.count ≤ 40) ∧ (-400000 ≤ c.sum ∧ c.sum ≤ 400000) ∧ (0 ≤ c.squares ∧ c.squares ≤ 4000000000)) := fun q => q hcb
        refine OK.skip ?_
        refine Ab.D.code ?_
        refine OK.seq ?_
        refine OK.reg ?_
        refine RK.c (S.bloadN ti161 .none rfl (.tmp rfl rfl) rfl rfl rfl rfl) ?_
        refine RK.c (S.call (shp_spread hcb) Tryz.call109 .none rfl (.cons (.tmp rfl rfl) .nil) rfl) ?_
        refine RK.c (S.geq .none rfl (.tmp rfl rfl) (.cint rfl)) ?_
        refine RK.c (S.call (shop_unless) Tryz.call86 .none rfl (.cons (.tmp rfl rfl) (.cons (.cint rfl) .nil)) rfl) ?_
        refine RK.c (S.assign .none rfl (.tmp rfl rfl)) ?_
        refine RK.nil ?_
        refine Ab.D.code ?_
        refine OK.ret (Ret.r1 (.tmp rfl rfl (.c (.same rfl) rfl) rfl) ?_)
        refine ret_i ?_
        first | (unfold charE; rw [if_neg hcb2]; by_cases q : spreadT c ≥ 0 <;> simp [unlessE, q]; done) | (unfold charE; rw [if_pos (by omega)]; done) | (unfold charE; rw [if_neg (by omega)]; done) | (unfold charE unlessE; simp only [decide_eq_true_eq]; rw [if_neg (by omega)]; done) | (unfold charE; simp_all; done)
    ·
      refine RK.c (S.skip rfl rfl rfl rfl rfl) ?_
      refine RK.c (S.skip rfl rfl rfl rfl rfl) ?_
      refine RK.c (S.skip rfl rfl rfl rfl rfl) ?_
      refine RK.c (S.skip rfl rfl rfl rfl rfl) ?_
      refine RK.c (S.pickF .none rfl (.tmp rfl rfl) .cbool rfl) ?_
      refine RK.c (S.assign .none rfl (.tmp rfl rfl)) ?_
      refine RK.nil ?_
      refine Ab.D.code ?_
      refine OK.seq ?_
      refine OK.seq ?_
      refine OK.reg ?_
      refine RK.c (S.move .none rfl (.tmp rfl rfl)) ?_
      refine RK.c (S.not .none rfl (.tmp rfl rfl)) ?_
      refine RK.nil ?_
      refine Ab.D.code ?_
      refine OK.condT rfl rfl rfl ?_
      refine OK.seq ?_
      refine OK.reg ?_
      refine RK.c (S.assign .none rfl (.cint rfl)) ?_
      refine RK.nil ?_
      refine Ab.D.code ?_
      refine OK.ret (Ret.r1 (.tmp rfl rfl (.c (.same rfl) rfl) rfl) ?_)
      refine ret_i ?_
      first | (unfold charE; rw [if_neg hcb2]; by_cases q : spreadT c ≥ 0 <;> simp [unlessE, q]; done) | (unfold charE; rw [if_pos (by omega)]; done) | (unfold charE; rw [if_neg (by omega)]; done) | (unfold charE unlessE; simp only [decide_eq_true_eq]; rw [if_neg (by omega)]; done) | (unfold charE; simp_all; done)
  ·
    refine RK.c (S.skip rfl rfl rfl rfl rfl) ?_
    refine RK.c (S.skip rfl rfl rfl rfl rfl) ?_
    refine RK.c (S.skip rfl rfl rfl rfl rfl) ?_
    refine RK.c (S.skip rfl rfl rfl rfl rfl) ?_
    refine RK.c (S.pickF .none rfl (.tmp rfl rfl) .cbool rfl) ?_
    refine RK.c (S.move .none rfl (.tmp rfl rfl)) ?_
    refine RK.c (S.skip rfl rfl rfl rfl rfl) ?_
    refine RK.c (S.skip rfl rfl rfl rfl rfl) ?_
    refine RK.c (S.skip rfl rfl rfl rfl rfl) ?_
    refine RK.c (S.skip rfl rfl rfl rfl rfl) ?_
    refine RK.c (S.pickF .none rfl (.tmp rfl rfl) .cbool rfl) ?_
    refine RK.c (S.assign .none rfl (.tmp rfl rfl)) ?_
    refine RK.nil ?_
    refine Ab.D.code ?_
    refine OK.seq ?_
    refine OK.seq ?_
    refine OK.reg ?_
    refine RK.c (S.move .none rfl (.tmp rfl rfl)) ?_
    refine RK.c (S.not .none rfl (.tmp rfl rfl)) ?_
    refine RK.nil ?_
    refine Ab.D.code ?_
    refine OK.condT rfl rfl rfl ?_
    refine OK.seq ?_
    refine OK.reg ?_
    refine RK.c (S.assign .none rfl (.cint rfl)) ?_
    refine RK.nil ?_
    refine Ab.D.code ?_
    refine OK.ret (Ret.r1 (.tmp rfl rfl (.c (.same rfl) rfl) rfl) ?_)
    refine ret_i ?_
    first | (unfold charE; rw [if_neg hcb2]; by_cases q : spreadT c ≥ 0 <;> simp [unlessE, q]; done) | (unfold charE; rw [if_pos (by omega)]; done) | (unfold charE; rw [if_neg (by omega)]; done) | (unfold charE unlessE; simp only [decide_eq_true_eq]; rw [if_neg (by omega)]; done) | (unfold charE; simp_all; done)
theorem shp_tail {l : List Int} {n : Nat} {fid : Nat} {caps : List X} {g : Nat → Int → Bool} (hf : ∀ (i : Nat) (h : i < l.length), Ct Tryz.prog fid ([.int .i64 i, .int .i64 l[i]] ++ caps) (.bool (g i l[i]))) (hn : 1 ≤ n ∧ n ≤ 100) (hcall : CallOk fid) (hc : Clean caps) : Ct Tryz.prog 156 [ints l, .int .i64 n, .fn fid caps] (.bool (tailT l n g)) := by
  refine Ct.intro (rs := [.tmp 6]) Tryz.func156 rfl Tryz.ntmps156 Tryz.results156 rfl rfl rfl fun w h => ?_
  refine OK.slLen (rows := l.map (fun n => [.int .i64 n])) (t := 0) rfl rfl fun hlen => ?_
  rw [List.length_map] at hlen
  unfold maxLen at hlen
  refine OK.seq ?_
  refine OK.reg ?_
  refine RK.c (S.assign .none rfl .cbool) ?_
  refine RK.nil ?_
  refine Ab.D.code ?_
  refine OK.seq ?_
  refine OK.seq ?_
  refine OK.reg ?_
  refine RK.c (S.move .none rfl (.tmp rfl rfl)) ?_
  refine RK.c (S.lenM si30 .none rfl (.tmp rfl rfl)) ?_
  refine RK.c (S.move .none rfl (.tmp rfl rfl)) ?_
  refine RK.c (S.lss .none rfl (.tmp rfl rfl) (.tmp rfl rfl)) ?_
  refine RK.nil ?_
  refine Ab.D.code ?_
  refine OK.condD rfl rfl (fun c12 => ?_) (fun c12 => ?_)
  ·
    refine OK.seq ?_
    refine OK.reg ?_
    refine RK.c (S.assign .none rfl .cbool) ?_
    refine RK.nil ?_
    refine Ab.D.code ?_
    refine OK.ret (Ret.r1 (.tmp rfl rfl (.c (.same rfl) rfl) rfl) ?_)
    refine ret_b ?_
    unfold tailT
    rw [decide_eq_false (by omega)]
    rfl
  ·
    have hnl : n ≤ l.length := by omega
    have hdl : (l.drop (l.length - n)).length = n := by simp; omega
    have hf2 : ∀ (j : Nat) (hj : j < (l.drop (l.length - n)).length), Ct Tryz.prog fid ([.int .i64 ((l.length : Int) - n + j), .int .i64 (l.drop (l.length - n))[j]] ++ caps) (.bool (g (l.length - n + j) (l.getD (l.length - n + j) 0))) := fun j hj => by
      have := hf (l.length - n + j) (by omega)
      rw [show ((l.length - n + j : Nat) : Int) = (l.length : Int) - n + j by omega] at this
      rw [List.getElem_drop, getD_at (by omega)]
      exact this
    refine OK.skip ?_
    refine Ab.D.code ?_
    refine OK.seq ?_
    refine OK.seq ?_
    refine OK.reg ?_
    refine RK.c (S.move .none rfl (.tmp rfl rfl)) ?_
    refine RK.c (S.move .none rfl (.tmp rfl rfl)) ?_
    refine RK.c (S.lenM si30 .none rfl (.tmp rfl rfl)) ?_
    refine RK.c (S.move .none rfl (.tmp rfl rfl)) ?_
    refine RK.c (S.sub .none rfl (.tmp rfl rfl) (.tmp rfl rfl) (IntWalk.i64_in _ (by omega)) (IntWalk.i64_in _ (by omega))) ?_
    refine RK.c (S.slice (lo := l.length - n) (l' := l.drop (l.length - n)) si30 (fun _ => rfl) .none rfl (.tmp rfl rfl) (.inr ⟨_, _, rfl, (.tmp rfl rfl), (by omega)⟩) (.inl ⟨rfl, rfl, rfl⟩) (by omega) (by omega) (by simp)) ?_
    refine RK.c (S.lenM si30 .none rfl (.tmp rfl rfl)) ?_
    refine RK.c (S.move .none rfl (.cint rfl)) ?_
    refine RK.nil ?_
    refine Ab.D.code ?_
    refine OK.block ?_
    refine OK.loop (G := Nat) [] (fun i => [(0, .sl (l.map (fun n => [.int .i64 n]))), (1, .int .i64 n), (2, .fn fid caps), (18, .sl ((l.drop (l.length - n)).map (fun n => [.int .i64 n]))), (19, .int .i64 ((l.drop (l.length - n)).length)), (20, .int .i64 i)]) (fun i => i ≤ n ∧ allTo (fun j => g (l.length - n + j) (l.getD (l.length - n + j) 0)) i = true) (fun i => n - i) 0 ⟨Nat.zero_le _, rfl⟩ ⟨rfl, rfl, rfl, rfl, (lkI (by simp)), rfl, trivial⟩ (fun _ => by simp [okKey, okT, okV, okC, okP, hc.1]) ?_
    rintro i ⟨hi, hg⟩
    refine OK.seq ?_
    refine OK.reg ?_
    refine RK.c (S.lss .none rfl (.tmp rfl rfl) (.tmp rfl rfl)) ?_
    refine RK.nil ?_
    refine Ab.D.code ?_
    refine OK.seq ?_
    refine OK.condD rfl rfl (fun c21 => ?_) (fun c21 => ?_)
    ·
      refine OK.skip ?_
      refine Ab.D.code ?_
      refine OK.seq ?_
      refine OK.block ?_
      refine OK.seq ?_
      refine OK.reg ?_
      refine RK.c (S.move .none rfl (.tmp rfl rfl)) ?_
      refine RK.c (S.indexM (n := i) si30 .none rfl (.tmp rfl rfl) (.tmp rfl rfl) rfl (by omega) rfl) ?_
      refine RK.c (S.load1 ti3 .none rfl (.tmp rfl rfl) rfl) ?_
      refine RK.c (S.assign .none rfl (.tmp rfl rfl)) ?_
      refine RK.c (S.assign .none rfl (.tmp rfl rfl)) ?_
      refine RK.nil ?_
      refine Ab.D.code ?_
      refine OK.seq ?_
      refine OK.reg ?_
      refine RK.c (S.move .none rfl (.tmp rfl rfl)) ?_
      refine RK.c (S.move .none rfl (.tmp rfl rfl)) ?_
      refine RK.c (S.lenM si30 .none rfl (.tmp rfl rfl)) ?_
      refine RK.c (S.move .none rfl (.tmp rfl rfl)) ?_
      refine RK.c (S.sub .none rfl (.tmp rfl rfl) (.tmp rfl rfl) (IntWalk.i64_in _ (by omega)) (IntWalk.i64_in _ (by omega))) ?_
      refine RK.c (S.move .none rfl (.tmp rfl rfl)) ?_
      refine RK.c (S.add .none rfl (.tmp rfl rfl) (.tmp rfl rfl) (IntWalk.i64_in _ (by omega)) (IntWalk.i64_in _ (by omega))) ?_
      refine RK.c (S.move .none rfl (.tmp rfl rfl)) ?_
      refine RK.c (S.callv (hf2 i (by omega)) hcall .none rfl (.tmp rfl rfl) (.cons (.tmp rfl rfl) (.cons (.tmp rfl rfl) .nil)) rfl hc.1 hc.2) ?_
      refine RK.c (S.not .none rfl (.tmp rfl rfl)) ?_
      refine RK.nil ?_
      refine Ab.D.code ?_
      refine OK.cond rfl rfl (fun c34 => ?_) (fun c34 => ?_)
      ·
        refine OK.seq ?_
        refine OK.reg ?_
        refine RK.c (S.assign .none rfl .cbool) ?_
        refine RK.nil ?_
        refine Ab.D.code ?_
        refine OK.ret (Ret.r1 (.tmp rfl rfl (.c (.same rfl) rfl) rfl) ?_)
        refine ret_b ?_
        rw [tail_no (i := i) (by omega) (by simpa using c34)]
      ·
        refine OK.skip ?_
        refine Ab.D.blk ?_
        refine Ab.D.code ?_
        refine OK.reg ?_
        refine RK.c (S.add .none rfl (.tmp rfl rfl) (.cint rfl) (IntWalk.i64_in _ (by omega)) (IntWalk.i64_in _ (by omega))) ?_
        refine RK.c (S.move .none rfl (.tmp rfl rfl)) ?_
        refine RK.nil ?_
        refine Ab.D.lp ⟨i + 1, ⟨by omega, ?_⟩, (by omega), rfl, rfl, rfl, rfl, rfl, rfl, trivial⟩
        rw [allTo_succ, hg, Bool.true_and]
        first | simpa using c34 | simp_all
    ·
      refine OK.exit rfl ?_
      refine Ab.D.code ?_
      refine OK.seq ?_
      refine OK.reg ?_
      refine RK.c (S.assign .none rfl .cbool) ?_
      refine RK.nil ?_
      refine Ab.D.code ?_
      refine OK.ret (Ret.r1 (.tmp rfl rfl (.c (.same rfl) rfl) rfl) ?_)
      refine ret_b ?_
      rw [tail_all hnl (by rw [show i = n by omega] at hg; exact hg)]
theorem shp_sig1 {c : Chart} {i : Nat} {v : Int} (hB : ChartB c) (hv : -10000 ≤ v ∧ v ≤ 10000) : Ct Tryz.prog 151 [.int .i64 i, .int .i64 v, .eptr c.cs] (.bool (upT c i v)) := by
  refine Ct.intro (rs := [.tmp 5]) Tryz.func151 rfl Tryz.ntmps151 Tryz.results151 rfl rfl rfl fun w h => ?_
  refine OK.seq ?_
  refine OK.reg ?_
  refine RK.c (S.assign .none rfl .cbool) ?_
  refine RK.nil ?_
  refine Ab.D.code ?_
  refine OK.seq ?_
  refine OK.reg ?_
  refine RK.c (S.loadN ti161 .none rfl (.tmp rfl rfl) rfl rfl) ?_
  refine RK.c (S.move .none rfl (.tmp rfl rfl)) ?_
  refine RK.c (S.call (shp_off hB hv) Tryz.call110 .none rfl (.cons (.tmp rfl rfl) (.cons (.tmp rfl rfl) .nil)) rfl) ?_
  refine RK.c (S.gtr .none rfl (.tmp rfl rfl) (.cint rfl)) ?_
  refine RK.c (S.assign .none rfl (.tmp rfl rfl)) ?_
  refine RK.nil ?_
  refine Ab.D.code ?_
  refine OK.ret (Ret.r1 (.tmp rfl rfl (.c (.same rfl) rfl) rfl) ?_)
  rfl
theorem shp_sig2 {c : Chart} {i : Nat} {v : Int} (hB : ChartB c) (hv : -10000 ≤ v ∧ v ≤ 10000) : Ct Tryz.prog 152 [.int .i64 i, .int .i64 v, .eptr c.cs] (.bool (dnT c i v)) := by
  refine Ct.intro (rs := [.tmp 5]) Tryz.func152 rfl Tryz.ntmps152 Tryz.results152 rfl rfl rfl fun w h => ?_
  refine OK.seq ?_
  refine OK.reg ?_
  refine RK.c (S.assign .none rfl .cbool) ?_
  refine RK.nil ?_
  refine Ab.D.code ?_
  refine OK.seq ?_
  refine OK.reg ?_
  refine RK.c (S.loadN ti161 .none rfl (.tmp rfl rfl) rfl rfl) ?_
  refine RK.c (S.move .none rfl (.tmp rfl rfl)) ?_
  refine RK.c (S.call (shp_off hB hv) Tryz.call110 .none rfl (.cons (.tmp rfl rfl) (.cons (.tmp rfl rfl) .nil)) rfl) ?_
  refine RK.c (S.lss .none rfl (.tmp rfl rfl) (.cint rfl)) ?_
  refine RK.c (S.assign .none rfl (.tmp rfl rfl)) ?_
  refine RK.nil ?_
  refine Ab.D.code ?_
  refine OK.ret (Ret.r1 (.tmp rfl rfl (.c (.same rfl) rfl) rfl) ?_)
  rfl
theorem shp_sig3 {l : List Int} {f : Int} {i : Nat} {v : Int} (hi : i < l.length) (hn : l.length ≤ 100) : Ct Tryz.prog 153 [.int .i64 i, .int .i64 v, .eptr [.int .i64 f], .eptr [ints l]] (.bool (riT l f i v)) := by
  refine Ct.intro (rs := [.tmp 6]) Tryz.func153 rfl Tryz.ntmps153 Tryz.results153 rfl rfl rfl fun w h => ?_
  have hgd : l.getD (i - 1) 0 = l[i - 1] := getD_at (by omega)
  refine OK.seq ?_
  refine OK.reg ?_
  refine RK.c (S.assign .none rfl .cbool) ?_
  refine RK.nil ?_
  refine Ab.D.code ?_
  refine OK.seq ?_
  refine OK.reg ?_
  refine RK.c (S.move .none rfl (.tmp rfl rfl)) ?_
  refine RK.c (S.load1 ti3 .none rfl (.tmp rfl rfl) rfl) ?_
  refine RK.c (S.eql .none rfl (.tmp rfl rfl) (.tmp rfl rfl)) ?_
  refine RK.c (S.move .none rfl (.tmp rfl rfl)) ?_
  refine RK.splitD (t := 10) rfl (fun g10 => ?_) (fun g10 => ?_)
  ·
    refine RK.c (S.skip rfl rfl rfl rfl rfl) ?_
    refine RK.c (S.skip rfl rfl rfl rfl rfl) ?_
    refine RK.c (S.skip rfl rfl rfl rfl rfl) ?_
    refine RK.c (S.skip rfl rfl rfl rfl rfl) ?_
    refine RK.c (S.skip rfl rfl rfl rfl rfl) ?_
    refine RK.c (S.skip rfl rfl rfl rfl rfl) ?_
    refine RK.c (S.skip rfl rfl rfl rfl rfl) ?_
    refine RK.c (S.skip rfl rfl rfl rfl rfl) ?_
    refine RK.c (S.pickT .none rfl (.tmp rfl rfl) .cbool rfl) ?_
    refine RK.c (S.assign .none rfl (.tmp rfl rfl)) ?_
    refine RK.nil ?_
    refine Ab.D.code ?_
    refine OK.ret (Ret.r1 (.tmp rfl rfl (.c (.same rfl) rfl) rfl) ?_)
    refine ret_b ?_
    unfold riT
    first | (rw [decide_eq_true g10]; rfl) | (rw [decide_eq_false g10, hgd]; rfl)
  ·
    refine RK.c (S.move (.yes rfl rfl rfl rfl) rfl (.tmp rfl rfl)) ?_
    refine RK.c (S.load1 ti30 (.yes rfl rfl rfl rfl) rfl (.tmp rfl rfl) rfl) ?_
    refine RK.c (S.move (.yes rfl rfl rfl rfl) rfl (.tmp rfl rfl)) ?_
    refine RK.c (S.sub (.yes rfl rfl rfl rfl) rfl (.tmp rfl rfl) (.cint rfl) (IntWalk.i64_in _ (by omega)) (IntWalk.i64_in _ (by omega))) ?_
    refine RK.c (S.max2 (.yes rfl rfl rfl rfl) rfl (.cint rfl) (.tmp rfl rfl)) ?_
    refine RK.c (S.indexM (n := i - 1) si30 (.yes rfl rfl rfl rfl) rfl (.tmp rfl rfl) (.tmp rfl rfl) (by split <;> omega) (by omega) rfl) ?_
    refine RK.c (S.load1 ti3 (.yes rfl rfl rfl rfl) rfl (.tmp rfl rfl) rfl) ?_
    refine RK.c (S.gtr (.yes rfl rfl rfl rfl) rfl (.tmp rfl rfl) (.tmp rfl rfl)) ?_
    refine RK.c (S.pickF .none rfl (.tmp rfl rfl) (.tmp rfl rfl) rfl) ?_
    refine RK.c (S.assign .none rfl (.tmp rfl rfl)) ?_
    refine RK.nil ?_
    refine Ab.D.code ?_
    refine OK.ret (Ret.r1 (.tmp rfl rfl (.c (.same rfl) rfl) rfl) ?_)
    refine ret_b ?_
    unfold riT
    first | (rw [decide_eq_true g10]; rfl) | (rw [decide_eq_false g10, hgd]; rfl)
theorem shp_sig4 {l : List Int} {f : Int} {i : Nat} {v : Int} (hi : i < l.length) (hn : l.length ≤ 100) : Ct Tryz.prog 154 [.int .i64 i, .int .i64 v, .eptr [.int .i64 f], .eptr [ints l]] (.bool (faT l f i v)) := by
  refine Ct.intro (rs := [.tmp 6]) Tryz.func154 rfl Tryz.ntmps154 Tryz.results154 rfl rfl rfl fun w h => ?_
  have hgd : l.getD (i - 1) 0 = l[i - 1] := getD_at (by omega)
  refine OK.seq ?_
  refine OK.reg ?_
  refine RK.c (S.assign .none rfl .cbool) ?_
  refine RK.nil ?_
  refine Ab.D.code ?_
  refine OK.seq ?_
  refine OK.reg ?_
  refine RK.c (S.move .none rfl (.tmp rfl rfl)) ?_
  refine RK.c (S.load1 ti3 .none rfl (.tmp rfl rfl) rfl) ?_
  refine RK.c (S.eql .none rfl (.tmp rfl rfl) (.tmp rfl rfl)) ?_
  refine RK.c (S.move .none rfl (.tmp rfl rfl)) ?_
  refine RK.splitD (t := 10) rfl (fun g10 => ?_) (fun g10 => ?_)
  ·
    refine RK.c (S.skip rfl rfl rfl rfl rfl) ?_
    refine RK.c (S.skip rfl rfl rfl rfl rfl) ?_
    refine RK.c (S.skip rfl rfl rfl rfl rfl) ?_
    refine RK.c (S.skip rfl rfl rfl rfl rfl) ?_
    refine RK.c (S.skip rfl rfl rfl rfl rfl) ?_
    refine RK.c (S.skip rfl rfl rfl rfl rfl) ?_
    refine RK.c (S.skip rfl rfl rfl rfl rfl) ?_
    refine RK.c (S.skip rfl rfl rfl rfl rfl) ?_
    refine RK.c (S.pickT .none rfl (.tmp rfl rfl) .cbool rfl) ?_
    refine RK.c (S.assign .none rfl (.tmp rfl rfl)) ?_
    refine RK.nil ?_
    refine Ab.D.code ?_
    refine OK.ret (Ret.r1 (.tmp rfl rfl (.c (.same rfl) rfl) rfl) ?_)
    refine ret_b ?_
    unfold faT
    first | (rw [decide_eq_true g10]; rfl) | (rw [decide_eq_false g10, hgd]; rfl)
  ·
    refine RK.c (S.move (.yes rfl rfl rfl rfl) rfl (.tmp rfl rfl)) ?_
    refine RK.c (S.load1 ti30 (.yes rfl rfl rfl rfl) rfl (.tmp rfl rfl) rfl) ?_
    refine RK.c (S.move (.yes rfl rfl rfl rfl) rfl (.tmp rfl rfl)) ?_
    refine RK.c (S.sub (.yes rfl rfl rfl rfl) rfl (.tmp rfl rfl) (.cint rfl) (IntWalk.i64_in _ (by omega)) (IntWalk.i64_in _ (by omega))) ?_
    refine RK.c (S.max2 (.yes rfl rfl rfl rfl) rfl (.cint rfl) (.tmp rfl rfl)) ?_
    refine RK.c (S.indexM (n := i - 1) si30 (.yes rfl rfl rfl rfl) rfl (.tmp rfl rfl) (.tmp rfl rfl) (by split <;> omega) (by omega) rfl) ?_
    refine RK.c (S.load1 ti3 (.yes rfl rfl rfl rfl) rfl (.tmp rfl rfl) rfl) ?_
    refine RK.c (S.lss (.yes rfl rfl rfl rfl) rfl (.tmp rfl rfl) (.tmp rfl rfl)) ?_
    refine RK.c (S.pickF .none rfl (.tmp rfl rfl) (.tmp rfl rfl) rfl) ?_
    refine RK.c (S.assign .none rfl (.tmp rfl rfl)) ?_
    refine RK.nil ?_
    refine Ab.D.code ?_
    refine OK.ret (Ret.r1 (.tmp rfl rfl (.c (.same rfl) rfl) rfl) ?_)
    refine ret_b ?_
    unfold faT
    first | (rw [decide_eq_true g10]; rfl) | (rw [decide_eq_false g10, hgd]; rfl)
theorem shp_isOutside {c : Chart} {v : Int} (hB : ChartB c) (hv : -10000 ≤ v ∧ v ≤ 10000) : Ct Tryz.prog 155 [.agg c.cs, .int .i64 v] (.bool (outT c v)) := by
  refine Ct.intro (rs := [.tmp 4]) Tryz.func155 rfl Tryz.ntmps155 Tryz.results155 rfl rfl rfl fun w h => ?_
  have hb := off_bd hB hv
  have hs := spread_bd hB
  have hq := mul_sq8 hb.2
  refine OK.seq ?_
  refine OK.reg ?_
  refine RK.c (S.box (k := 2) rfl .none rfl (.tmp rfl rfl) rfl) ?_
  refine RK.c (S.assign .none rfl .cbool) ?_
  refine RK.nil ?_
  refine Ab.D.code ?_
  refine OK.seq ?_
  refine OK.regionDraw follows (.c (S.bloadN ti161 .none rfl (.tmp rfl rfl) rfl rfl rfl rfl)
    (.c (S.move .none rfl (.tmp rfl rfl))
    (.c (S.call (shp_off hB hv) Tryz.call110 .none rfl (.cons (.tmp rfl rfl) (.cons (.tmp rfl rfl) .nil)) rfl)
    (.c (S.bloadN ti161 .none rfl (.tmp rfl rfl) rfl rfl rfl rfl)
    (.c (S.move .none rfl (.tmp rfl rfl))
    (.c (S.call (shp_off hB hv) Tryz.call110 .none rfl (.cons (.tmp rfl rfl) (.cons (.tmp rfl rfl) .nil)) rfl)
    (.c (S.mul .none rfl (.tmp rfl rfl) (.tmp rfl rfl) (IntWalk.i64_in _ (by omega)) (IntWalk.i64_in _ (by omega)))
    (.c (S.bloadN ti161 .none rfl (.tmp rfl rfl) rfl rfl rfl rfl)
    (.c (S.call (shp_spread hB) Tryz.call109 .none rfl (.cons (.tmp rfl rfl) .nil) rfl)
    (.c (S.mul .none rfl (.cint rfl) (.tmp rfl rfl) (IntWalk.i64_in _ (by omega)) (IntWalk.i64_in _ (by omega)))
    (.c (S.gtr .none rfl (.tmp rfl rfl) (.tmp rfl rfl))
    (.c (S.assign .none rfl (.tmp rfl rfl))
    .nil)))))))))))) (by kernel_rfl) ?_
  refine Ab.D.code ?_
  refine OK.ret (Ret.r1 (.tmp rfl rfl (.c (.same rfl) rfl) rfl) ?_)
  rfl
theorem shp_signal {c : Chart} {l : List Int} (hB : ChartB c) (hv : AllV l) (hn : 1 ≤ l.length ∧ l.length ≤ 100) : Ct Tryz.prog 107 [.agg c.cs, ints l] (.int .i64 (sigT c l)) := by
  refine Ct.intro (rs := [.tmp 4]) Tryz.func107 rfl Tryz.ntmps107 Tryz.results107 rfl rfl rfl fun w h => ?_
  have hgd : l.getD (l.length - 1) 0 = l[l.length - 1] := getD_at (by omega)
  refine OK.seq ?_
  refine OK.reg ?_
  refine RK.c (S.box (k := 2) rfl .none rfl (.tmp rfl rfl) rfl) ?_
  refine RK.c (S.box (k := 3) rfl .none rfl (.tmp rfl rfl) rfl) ?_
  refine RK.c (S.assign .none rfl (.cint rfl)) ?_
  refine RK.nil ?_
  refine Ab.D.code ?_
  refine OK.seq ?_
  refine OK.reg ?_
  refine RK.c (S.makeFunc1 .none rfl (.tmp rfl rfl) rfl) ?_
  refine RK.c (S.assign .none rfl (.tmp rfl rfl)) ?_
  refine RK.nil ?_
  refine Ab.D.code ?_
  refine OK.seq ?_
  refine OK.reg ?_
  refine RK.c (S.makeFunc1 .none rfl (.tmp rfl rfl) rfl) ?_
  refine RK.c (S.assign .none rfl (.tmp rfl rfl)) ?_
  refine RK.nil ?_
  refine Ab.D.code ?_
  refine OK.seq ?_
  refine OK.reg ?_
  refine RK.c (S.bload1 ti30 .none rfl (.tmp rfl rfl) rfl rfl rfl rfl) ?_
  refine RK.c (S.lenM si30 .none rfl (.tmp rfl rfl)) ?_
  refine RK.c (S.sub .none rfl (.tmp rfl rfl) (.cint rfl) (IntWalk.i64_in _ (by omega)) (IntWalk.i64_in _ (by omega))) ?_
  refine RK.c (S.alloc (k := 7) ze3 rfl .none rfl) ?_
  refine RK.c (S.store ti3 .none (.tmp rfl rfl) (.tmp rfl rfl) rfl rfl rfl rfl rfl rfl) ?_
  refine RK.nil ?_
  refine Ab.D.code ?_
  refine OK.seq ?_
  refine OK.reg ?_
  refine RK.c (S.makeFunc2 .none rfl (.tmp rfl rfl) (.tmp rfl rfl) rfl rfl) ?_
  refine RK.c (S.assign .none rfl (.tmp rfl rfl)) ?_
  refine RK.nil ?_
  refine Ab.D.code ?_
  refine OK.seq ?_
  refine OK.reg ?_
  refine RK.c (S.makeFunc2 .none rfl (.tmp rfl rfl) (.tmp rfl rfl) rfl rfl) ?_
  refine RK.c (S.assign .none rfl (.tmp rfl rfl)) ?_
  refine RK.nil ?_
  refine Ab.D.code ?_
  refine OK.seq ?_
  refine OK.block ?_
  refine OK.seq ?_
  refine OK.regionDraw follows (.c (S.bloadN ti161 .none rfl (.tmp rfl rfl) rfl rfl rfl rfl)
    (.c (S.bload1 ti30 .none rfl (.tmp rfl rfl) rfl rfl rfl rfl)
    (.c (S.bload1 ti30 .none rfl (.tmp rfl rfl) rfl rfl rfl rfl)
    (.c (S.lenM si30 .none rfl (.tmp rfl rfl))
    (.c (S.sub .none rfl (.tmp rfl rfl) (.cint rfl) (IntWalk.i64_in _ (by omega)) (IntWalk.i64_in _ (by omega)))
    (.c (S.indexM (n := l.length - 1) si30 .none rfl (.tmp rfl rfl) (.tmp rfl rfl) (by omega) (by omega) rfl)
    (.c (S.load1 ti3 .none rfl (.tmp rfl rfl) rfl)
    (.c (S.call (shp_isOutside hB (hv.get (by omega))) Tryz.call155 .none rfl (.cons (.tmp rfl rfl) (.cons (.tmp rfl rfl) .nil)) rfl)
    (.c (S.assign .none rfl (.tmp rfl rfl))
    .nil))))))))) (by kernel_rfl) ?_
  refine Ab.D.code ?_
  refine OK.cond rfl rfl (fun c17 => ?_) (fun c17 => ?_)
  ·
    refine OK.seq ?_
    refine OK.reg ?_
    refine RK.c (S.assign .none rfl (.cint rfl)) ?_
    refine RK.nil ?_
    refine Ab.D.code ?_
    refine OK.ret (Ret.r1 (.tmp rfl rfl (.c (.same rfl) rfl) rfl) ?_)
    refine ret_i ?_
    first | exact (sig_1 (by rw [hgd]; assumption)).symm | exact (sig_2 (by rw [hgd]; assumption) (or_l (by assumption))).symm | exact (sig_2 (by rw [hgd]; assumption) (or_r (by assumption))).symm | exact (sig_3 (by rw [hgd]; assumption) (or_n (by assumption) (by assumption)) (or_l (by assumption))).symm | exact (sig_3 (by rw [hgd]; assumption) (or_n (by assumption) (by assumption)) (or_r (by assumption))).symm | exact (sig_0 (by rw [hgd]; assumption) (or_n (by assumption) (by assumption)) (or_n (by assumption) (by assumption))).symm | (exfalso; simp_all; done)
  ·
    refine OK.seq ?_
    refine OK.seq ?_
    refine OK.reg ?_
    refine RK.c (S.bload1 ti30 .none rfl (.tmp rfl rfl) rfl rfl rfl rfl) ?_
    refine RK.c (S.move .none rfl (.tmp rfl rfl)) ?_
    refine RK.c (S.callL (shp_tail (n := 7) (g := upT c) (caps := [.eptr c.cs]) (fun i h => shp_sig1 hB (hv.get h)) (by omega) Tryz.call151 ⟨rfl, rfl⟩) Tryz.call156 .none rfl (.cons (.tmp rfl rfl) (.cons (.cint rfl) (.cons (.tmp rfl rfl) .nil))) (.cons (.same rfl) (.cons (.same rfl) (.cons (.fn (.cons (.ptr rfl rfl rfl rfl) .nil)) .nil))) rfl) ?_
    refine RK.c (S.assign .none rfl (.tmp rfl rfl)) ?_
    refine RK.nil ?_
    refine Ab.D.code ?_
    refine OK.cond rfl rfl (fun c26 => ?_) (fun c26 => ?_)
    ·
      refine OK.skip ?_
      refine Ab.D.code ?_
      refine OK.cond rfl rfl (fun c26 => ?_) (fun c26 => ?_)
      ·
        refine OK.seq ?_
        refine OK.reg ?_
        refine RK.c (S.assign .none rfl (.cint rfl)) ?_
        refine RK.nil ?_
        refine Ab.D.code ?_
        refine OK.ret (Ret.r1 (.tmp rfl rfl (.c (.same rfl) rfl) rfl) ?_)
        refine ret_i ?_
        first | exact (sig_1 (by rw [hgd]; assumption)).symm | exact (sig_2 (by rw [hgd]; assumption) (or_l (by assumption))).symm | exact (sig_2 (by rw [hgd]; assumption) (or_r (by assumption))).symm | exact (sig_3 (by rw [hgd]; assumption) (or_n (by assumption) (by assumption)) (or_l (by assumption))).symm | exact (sig_3 (by rw [hgd]; assumption) (or_n (by assumption) (by assumption)) (or_r (by assumption))).symm | exact (sig_0 (by rw [hgd]; assumption) (or_n (by assumption) (by assumption)) (or_n (by assumption) (by assumption))).symm | (exfalso; simp_all; done)
      ·
        refine OK.seq ?_
        refine OK.seq ?_
        refine OK.reg ?_
        refine RK.c (S.bload1 ti30 .none rfl (.tmp rfl rfl) rfl rfl rfl rfl) ?_
        refine RK.c (S.move .none rfl (.tmp rfl rfl)) ?_
        refine RK.c (S.callL (shp_tail (n := 5) (g := riT l (l.length - 5)) (caps := [.eptr [.int .i64 (l.length - 5)], .eptr [ints l]]) (fun i h => shp_sig3 h hn.2) (by omega) Tryz.call153 ⟨rfl, rfl⟩) Tryz.call156 .none rfl (.cons (.tmp rfl rfl) (.cons (.cint rfl) (.cons (.tmp rfl rfl) .nil))) (.cons (.same rfl) (.cons (.same rfl) (.cons (.fn (.cons (.ptr rfl rfl rfl rfl) (.cons (.ptr rfl rfl rfl rfl) .nil))) .nil))) rfl) ?_
        refine RK.c (S.assign .none rfl (.tmp rfl rfl)) ?_
        refine RK.nil ?_
        refine Ab.D.code ?_
        refine OK.cond rfl rfl (fun c33 => ?_) (fun c33 => ?_)
        ·
          refine OK.skip ?_
          refine Ab.D.code ?_
          refine OK.cond rfl rfl (fun c33 => ?_) (fun c33 => ?_)
          ·
            refine OK.seq ?_
            refine OK.reg ?_
            refine RK.c (S.assign .none rfl (.cint rfl)) ?_
            refine RK.nil ?_
            refine Ab.D.code ?_
            refine OK.ret (Ret.r1 (.tmp rfl rfl (.c (.same rfl) rfl) rfl) ?_)
            refine ret_i ?_
            first | exact (sig_1 (by rw [hgd]; assumption)).symm | exact (sig_2 (by rw [hgd]; assumption) (or_l (by assumption))).symm | exact (sig_2 (by rw [hgd]; assumption) (or_r (by assumption))).symm | exact (sig_3 (by rw [hgd]; assumption) (or_n (by assumption) (by assumption)) (or_l (by assumption))).symm | exact (sig_3 (by rw [hgd]; assumption) (or_n (by assumption) (by assumption)) (or_r (by assumption))).symm | exact (sig_0 (by rw [hgd]; assumption) (or_n (by assumption) (by assumption)) (or_n (by assumption) (by assumption))).symm | (exfalso; simp_all; done)
          ·
            refine OK.skip ?_
            refine Ab.D.blk ?_
            refine Ab.D.code ?_
            refine OK.seq ?_
            refine OK.reg ?_
            refine RK.c (S.assign .none rfl (.cint rfl)) ?_
            refine RK.nil ?_
            refine Ab.D.code ?_
            refine OK.ret (Ret.r1 (.tmp rfl rfl (.c (.same rfl) rfl) rfl) ?_)
            refine ret_i ?_
            first | exact (sig_1 (by rw [hgd]; assumption)).symm | exact (sig_2 (by rw [hgd]; assumption) (or_l (by assumption))).symm | exact (sig_2 (by rw [hgd]; assumption) (or_r (by assumption))).symm | exact (sig_3 (by rw [hgd]; assumption) (or_n (by assumption) (by assumption)) (or_l (by assumption))).symm | exact (sig_3 (by rw [hgd]; assumption) (or_n (by assumption) (by assumption)) (or_r (by assumption))).symm | exact (sig_0 (by rw [hgd]; assumption) (or_n (by assumption) (by assumption)) (or_n (by assumption) (by assumption))).symm | (exfalso; simp_all; done)
        ·
          refine OK.reg ?_
          refine RK.c (S.bload1 ti30 .none rfl (.tmp rfl rfl) rfl rfl rfl rfl) ?_
          refine RK.c (S.move .none rfl (.tmp rfl rfl)) ?_
          refine RK.c (S.callL (shp_tail (n := 5) (g := faT l (l.length - 5)) (caps := [.eptr [.int .i64 (l.length - 5)], .eptr [ints l]]) (fun i h => shp_sig4 h hn.2) (by omega) Tryz.call154 ⟨rfl, rfl⟩) Tryz.call156 .none rfl (.cons (.tmp rfl rfl) (.cons (.cint rfl) (.cons (.tmp rfl rfl) .nil))) (.cons (.same rfl) (.cons (.same rfl) (.cons (.fn (.cons (.ptr rfl rfl rfl rfl) (.cons (.ptr rfl rfl rfl rfl) .nil))) .nil))) rfl) ?_
          refine RK.c (S.assign .none rfl (.tmp rfl rfl)) ?_
          refine RK.nil ?_
          refine Ab.D.code ?_
          refine OK.cond rfl rfl (fun c33 => ?_) (fun c33 => ?_)
          ·
            refine OK.seq ?_
            refine OK.reg ?_
            refine RK.c (S.assign .none rfl (.cint rfl)) ?_
            refine RK.nil ?_
            refine Ab.D.code ?_
            refine OK.ret (Ret.r1 (.tmp rfl rfl (.c (.same rfl) rfl) rfl) ?_)
            refine ret_i ?_
            first | exact (sig_1 (by rw [hgd]; assumption)).symm | exact (sig_2 (by rw [hgd]; assumption) (or_l (by assumption))).symm | exact (sig_2 (by rw [hgd]; assumption) (or_r (by assumption))).symm | exact (sig_3 (by rw [hgd]; assumption) (or_n (by assumption) (by assumption)) (or_l (by assumption))).symm | exact (sig_3 (by rw [hgd]; assumption) (or_n (by assumption) (by assumption)) (or_r (by assumption))).symm | exact (sig_0 (by rw [hgd]; assumption) (or_n (by assumption) (by assumption)) (or_n (by assumption) (by assumption))).symm | (exfalso; simp_all; done)
          ·
            refine OK.skip ?_
            refine Ab.D.blk ?_
            refine Ab.D.code ?_
            refine OK.seq ?_
            refine OK.reg ?_
            refine RK.c (S.assign .none rfl (.cint rfl)) ?_
            refine RK.nil ?_
            refine Ab.D.code ?_
            refine OK.ret (Ret.r1 (.tmp rfl rfl (.c (.same rfl) rfl) rfl) ?_)
            refine ret_i ?_
            first | exact (sig_1 (by rw [hgd]; assumption)).symm | exact (sig_2 (by rw [hgd]; assumption) (or_l (by assumption))).symm | exact (sig_2 (by rw [hgd]; assumption) (or_r (by assumption))).symm | exact (sig_3 (by rw [hgd]; assumption) (or_n (by assumption) (by assumption)) (or_l (by assumption))).symm | exact (sig_3 (by rw [hgd]; assumption) (or_n (by assumption) (by assumption)) (or_r (by assumption))).symm | exact (sig_0 (by rw [hgd]; assumption) (or_n (by assumption) (by assumption)) (or_n (by assumption) (by assumption))).symm | (exfalso; simp_all; done)
    ·
      refine OK.reg ?_
      refine RK.c (S.bload1 ti30 .none rfl (.tmp rfl rfl) rfl rfl rfl rfl) ?_
      refine RK.c (S.move .none rfl (.tmp rfl rfl)) ?_
      refine RK.c (S.callL (shp_tail (n := 7) (g := dnT c) (caps := [.eptr c.cs]) (fun i h => shp_sig2 hB (hv.get h)) (by omega) Tryz.call152 ⟨rfl, rfl⟩) Tryz.call156 .none rfl (.cons (.tmp rfl rfl) (.cons (.cint rfl) (.cons (.tmp rfl rfl) .nil))) (.cons (.same rfl) (.cons (.same rfl) (.cons (.fn (.cons (.ptr rfl rfl rfl rfl) .nil)) .nil))) rfl) ?_
      refine RK.c (S.assign .none rfl (.tmp rfl rfl)) ?_
      refine RK.nil ?_
      refine Ab.D.code ?_
      refine OK.cond rfl rfl (fun c26 => ?_) (fun c26 => ?_)
      ·
        refine OK.seq ?_
        refine OK.reg ?_
        refine RK.c (S.assign .none rfl (.cint rfl)) ?_
        refine RK.nil ?_
        refine Ab.D.code ?_
        refine OK.ret (Ret.r1 (.tmp rfl rfl (.c (.same rfl) rfl) rfl) ?_)
        refine ret_i ?_
        first | exact (sig_1 (by rw [hgd]; assumption)).symm | exact (sig_2 (by rw [hgd]; assumption) (or_l (by assumption))).symm | exact (sig_2 (by rw [hgd]; assumption) (or_r (by assumption))).symm | exact (sig_3 (by rw [hgd]; assumption) (or_n (by assumption) (by assumption)) (or_l (by assumption))).symm | exact (sig_3 (by rw [hgd]; assumption) (or_n (by assumption) (by assumption)) (or_r (by assumption))).symm | exact (sig_0 (by rw [hgd]; assumption) (or_n (by assumption) (by assumption)) (or_n (by assumption) (by assumption))).symm | (exfalso; simp_all; done)
      ·
        refine OK.seq ?_
        refine OK.seq ?_
        refine OK.reg ?_
        refine RK.c (S.bload1 ti30 .none rfl (.tmp rfl rfl) rfl rfl rfl rfl) ?_
        refine RK.c (S.move .none rfl (.tmp rfl rfl)) ?_
        refine RK.c (S.callL (shp_tail (n := 5) (g := riT l (l.length - 5)) (caps := [.eptr [.int .i64 (l.length - 5)], .eptr [ints l]]) (fun i h => shp_sig3 h hn.2) (by omega) Tryz.call153 ⟨rfl, rfl⟩) Tryz.call156 .none rfl (.cons (.tmp rfl rfl) (.cons (.cint rfl) (.cons (.tmp rfl rfl) .nil))) (.cons (.same rfl) (.cons (.same rfl) (.cons (.fn (.cons (.ptr rfl rfl rfl rfl) (.cons (.ptr rfl rfl rfl rfl) .nil))) .nil))) rfl) ?_
        refine RK.c (S.assign .none rfl (.tmp rfl rfl)) ?_
        refine RK.nil ?_
        refine Ab.D.code ?_
        refine OK.cond rfl rfl (fun c33 => ?_) (fun c33 => ?_)
        ·
          refine OK.skip ?_
          refine Ab.D.code ?_
          refine OK.cond rfl rfl (fun c33 => ?_) (fun c33 => ?_)
          ·
            refine OK.seq ?_
            refine OK.reg ?_
            refine RK.c (S.assign .none rfl (.cint rfl)) ?_
            refine RK.nil ?_
            refine Ab.D.code ?_
            refine OK.ret (Ret.r1 (.tmp rfl rfl (.c (.same rfl) rfl) rfl) ?_)
            refine ret_i ?_
            first | exact (sig_1 (by rw [hgd]; assumption)).symm | exact (sig_2 (by rw [hgd]; assumption) (or_l (by assumption))).symm | exact (sig_2 (by rw [hgd]; assumption) (or_r (by assumption))).symm | exact (sig_3 (by rw [hgd]; assumption) (or_n (by assumption) (by assumption)) (or_l (by assumption))).symm | exact (sig_3 (by rw [hgd]; assumption) (or_n (by assumption) (by assumption)) (or_r (by assumption))).symm | exact (sig_0 (by rw [hgd]; assumption) (or_n (by assumption) (by assumption)) (or_n (by assumption) (by assumption))).symm | (exfalso; simp_all; done)
          ·
            refine OK.skip ?_
            refine Ab.D.blk ?_
            refine Ab.D.code ?_
            refine OK.seq ?_
            refine OK.reg ?_
            refine RK.c (S.assign .none rfl (.cint rfl)) ?_
            refine RK.nil ?_
            refine Ab.D.code ?_
            refine OK.ret (Ret.r1 (.tmp rfl rfl (.c (.same rfl) rfl) rfl) ?_)
            refine ret_i ?_
            first | exact (sig_1 (by rw [hgd]; assumption)).symm | exact (sig_2 (by rw [hgd]; assumption) (or_l (by assumption))).symm | exact (sig_2 (by rw [hgd]; assumption) (or_r (by assumption))).symm | exact (sig_3 (by rw [hgd]; assumption) (or_n (by assumption) (by assumption)) (or_l (by assumption))).symm | exact (sig_3 (by rw [hgd]; assumption) (or_n (by assumption) (by assumption)) (or_r (by assumption))).symm | exact (sig_0 (by rw [hgd]; assumption) (or_n (by assumption) (by assumption)) (or_n (by assumption) (by assumption))).symm | (exfalso; simp_all; done)
        ·
          refine OK.reg ?_
          refine RK.c (S.bload1 ti30 .none rfl (.tmp rfl rfl) rfl rfl rfl rfl) ?_
          refine RK.c (S.move .none rfl (.tmp rfl rfl)) ?_
          refine RK.c (S.callL (shp_tail (n := 5) (g := faT l (l.length - 5)) (caps := [.eptr [.int .i64 (l.length - 5)], .eptr [ints l]]) (fun i h => shp_sig4 h hn.2) (by omega) Tryz.call154 ⟨rfl, rfl⟩) Tryz.call156 .none rfl (.cons (.tmp rfl rfl) (.cons (.cint rfl) (.cons (.tmp rfl rfl) .nil))) (.cons (.same rfl) (.cons (.same rfl) (.cons (.fn (.cons (.ptr rfl rfl rfl rfl) (.cons (.ptr rfl rfl rfl rfl) .nil))) .nil))) rfl) ?_
          refine RK.c (S.assign .none rfl (.tmp rfl rfl)) ?_
          refine RK.nil ?_
          refine Ab.D.code ?_
          refine OK.cond rfl rfl (fun c33 => ?_) (fun c33 => ?_)
          ·
            refine OK.seq ?_
            refine OK.reg ?_
            refine RK.c (S.assign .none rfl (.cint rfl)) ?_
            refine RK.nil ?_
            refine Ab.D.code ?_
            refine OK.ret (Ret.r1 (.tmp rfl rfl (.c (.same rfl) rfl) rfl) ?_)
            refine ret_i ?_
            first | exact (sig_1 (by rw [hgd]; assumption)).symm | exact (sig_2 (by rw [hgd]; assumption) (or_l (by assumption))).symm | exact (sig_2 (by rw [hgd]; assumption) (or_r (by assumption))).symm | exact (sig_3 (by rw [hgd]; assumption) (or_n (by assumption) (by assumption)) (or_l (by assumption))).symm | exact (sig_3 (by rw [hgd]; assumption) (or_n (by assumption) (by assumption)) (or_r (by assumption))).symm | exact (sig_0 (by rw [hgd]; assumption) (or_n (by assumption) (by assumption)) (or_n (by assumption) (by assumption))).symm | (exfalso; simp_all; done)
          ·
            refine OK.skip ?_
            refine Ab.D.blk ?_
            refine Ab.D.code ?_
            refine OK.seq ?_
            refine OK.reg ?_
            refine RK.c (S.assign .none rfl (.cint rfl)) ?_
            refine RK.nil ?_
            refine Ab.D.code ?_
            refine OK.ret (Ret.r1 (.tmp rfl rfl (.c (.same rfl) rfl) rfl) ?_)
            refine ret_i ?_
            first | exact (sig_1 (by rw [hgd]; assumption)).symm | exact (sig_2 (by rw [hgd]; assumption) (or_l (by assumption))).symm | exact (sig_2 (by rw [hgd]; assumption) (or_r (by assumption))).symm | exact (sig_3 (by rw [hgd]; assumption) (or_n (by assumption) (by assumption)) (or_l (by assumption))).symm | exact (sig_3 (by rw [hgd]; assumption) (or_n (by assumption) (by assumption)) (or_r (by assumption))).symm | exact (sig_0 (by rw [hgd]; assumption) (or_n (by assumption) (by assumption)) (or_n (by assumption) (by assumption))).symm | (exfalso; simp_all; done)
theorem shp_SignalsOf {c : Chart} {l : List Int} : Ct Tryz.prog 56 [.agg c.cs, ints l] (.tup [ints (sigR c l), .int .i64 (sigE c l)]) := by
  refine Ct.intro (rs := [.tmp 4, .tmp 5]) Tryz.func56 rfl Tryz.ntmps56 Tryz.results56 rfl rfl rfl fun w h => ?_
  refine OK.seq ?_
  refine OK.reg ?_
  refine RK.c (S.box (k := 2) rfl .none rfl (.tmp rfl rfl) rfl) ?_
  refine RK.c (S.assign .none rfl .cnil) ?_
  refine RK.c (S.assign .none rfl (.cint rfl)) ?_
  refine RK.nil ?_
  refine Ab.D.code ?_
  refine OK.seq ?_
  refine OK.reg ?_
  refine RK.c (S.bloadN ti91 .none rfl (.tmp rfl rfl) rfl rfl rfl rfl) ?_
  refine RK.c (S.build bu161 rfl .none rfl (.cons (.tmp rfl rfl) .nil) rfl rfl) ?_
  refine RK.c (S.alloc (k := 6) ze161 rfl .none rfl) ?_
  refine RK.c (S.store ti161 .none (.tmp rfl rfl) (.tmp rfl rfl) rfl rfl rfl rfl rfl rfl) ?_
  refine RK.nil ?_
  refine Ab.D.code ?_
  refine OK.seq ?_
  refine OK.seq ?_
  refine OK.reg ?_
  refine RK.c (S.bloadN ti161 .none rfl (.tmp rfl rfl) rfl rfl rfl rfl) ?_
  refine RK.c (S.call (shp_chartErr) Tryz.call106 .none rfl (.cons (.tmp rfl rfl) .nil) rfl) ?_
  refine RK.c (S.move .none rfl (.tmp rfl rfl)) ?_
  refine RK.c (S.call (shp_valuesErr) Tryz.call103 .none rfl (.cons (.tmp rfl rfl) .nil) rfl) ?_
  refine RK.c (S.mkSlice (k := 16) (rows := [[_], [_]]) ai191 .none rfl (.cons (.tmp rfl rfl) (.cons (.tmp rfl rfl) .nil)) rfl rfl rfl rfl rfl rfl rfl) ?_
  refine RK.c (S.callL (shop_first (l := [_, _])) Tryz.call85 .none rfl (.cons (.tmp rfl rfl) .nil) (.cons (.p (.own rfl rfl) rfl) .nil) rfl) ?_
  refine RK.c (S.assign .none rfl (.tmp rfl rfl)) ?_
  refine RK.nil ?_
  refine Ab.D.code ?_
  refine OK.seq ?_
  refine OK.reg ?_
  refine RK.c (S.move .none rfl (.tmp rfl rfl)) ?_
  refine RK.c (S.neq .none rfl (.tmp rfl rfl) (.cint rfl)) ?_
  refine RK.nil ?_
  refine Ab.D.code ?_
  refine OK.condD rfl rfl (fun c19 => ?_) (fun c19 => ?_)
  ·
    rw [firstE2] at c19
    refine OK.seq ?_
    refine OK.reg ?_
    refine RK.c (S.move .none rfl (.tmp rfl rfl)) ?_
    refine RK.c (S.assign .none rfl .cnil) ?_
    refine RK.c (S.assign .none rfl (.tmp rfl rfl)) ?_
    refine RK.nil ?_
    refine Ab.D.code ?_
    refine OK.ret (Ret.r2 (.tmp rfl rfl (.c (.same rfl) rfl) rfl) (.tmp rfl rfl (.c (.same rfl) rfl) rfl) ?_)
    have he : sigE c l = firstE [charE c, valsE l] := by rw [firstE2]; rfl
    rw [sigR, if_neg (by rw [he, firstE2]; exact c19), he]
    rfl
  ·
    have hE : firstE [charE c, valsE l] = 0 := Decidable.not_not.1 c19
    rw [firstE2] at hE
    have hE2 : sigE c l = 0 := hE
    have hc0 : charE c = 0 := by split at hE <;> omega
    have hv0 : valsE l = 0 := by rw [if_neg (by omega)] at hE; exact hE
    have hB := char_ok hc0
    obtain ⟨hv1, hv2, hv3⟩ := vals_ok hv0
    refine OK.skip ?_
    refine Ab.D.code ?_
    refine OK.seq ?_
    refine OK.reg ?_
    refine RK.c (S.nilOwn (k := 8) (sz := 1) .none rfl) ?_
    refine RK.nil ?_
    refine Ab.D.code ?_
    refine OK.seq ?_
    refine OK.seq ?_
    refine OK.reg ?_
    refine RK.c (S.move .none rfl (.tmp rfl rfl)) ?_
    refine RK.c (S.lenM si30 .none rfl (.tmp rfl rfl)) ?_
    refine RK.c (S.move .none rfl (.cint rfl)) ?_
    refine RK.nil ?_
    refine Ab.D.code ?_
    refine OK.block ?_
    refine OK.loop (G := Nat) [6, 8] (fun i => [(1, ints l), (6, .ptr 6 0), (1006, .box c.cs), (8, .own 8 i), (2008, .arr 1 ((sigsTo c l i).map fun n => [.int .i64 n])), (22, .int .i64 l.length), (23, .int .i64 i)]) (fun i => i ≤ l.length) (fun i => l.length - i) 0 (Nat.zero_le _) ⟨rfl, rfl, rfl, (lk_own (by first | rfl | (simp; done) | (simp; omega))), (lk_arr (by first | rfl | (simp; done) | (simp; omega))), rfl, rfl, trivial⟩ (fun _ => rfl) ?_
    rintro i hi
    refine OK.seq ?_
    refine OK.reg ?_
    refine RK.c (S.lss .none rfl (.tmp rfl rfl) (.tmp rfl rfl)) ?_
    refine RK.nil ?_
    refine Ab.D.code ?_
    refine OK.seq ?_
    refine OK.condD rfl rfl (fun c24 => ?_) (fun c24 => ?_)
    ·
      have hsl := sigsTo_len c l i
      refine OK.skip ?_
      refine Ab.D.code ?_
      refine OK.seq ?_
      refine OK.block ?_
      refine OK.seq ?_
      refine OK.reg ?_
      refine RK.c (S.move .none rfl (.tmp rfl rfl)) ?_
      refine RK.c (S.assign .none rfl (.tmp rfl rfl)) ?_
      refine RK.nil ?_
      refine Ab.D.code ?_
      refine OK.regionDraw follows (.c (S.move .none rfl (.tmp rfl rfl))
        (.c (S.bloadN ti161 .none rfl (.tmp rfl rfl) rfl rfl rfl rfl)
        (.c (S.move .none rfl (.tmp rfl rfl))
        (.c (S.move .none rfl (.tmp rfl rfl))
        (.c (S.add .none rfl (.tmp rfl rfl) (.cint rfl) (IntWalk.i64_in _ (by omega)) (IntWalk.i64_in _ (by omega)))
        (.c (S.slice (hi := i + 1) (l' := l.take (i + 1)) si30 (fun _ => rfl) .none rfl (.tmp rfl rfl) (.inl ⟨rfl, rfl, rfl⟩) (.inr ⟨_, _, rfl, (.tmp rfl rfl), (by omega)⟩) (Nat.zero_le _) (by omega) rfl)
        (.c (S.call (shp_signal hB (hv3.take _) (by simp; omega)) Tryz.call107 .none rfl (.cons (.tmp rfl rfl) (.cons (.tmp rfl rfl) .nil)) rfl)
        (.c (S.mkSlice (k := 33) (rows := [[_]]) ai30 .none rfl (.cons (.tmp rfl rfl) .nil) rfl rfl rfl rfl rfl rfl rfl)
        (.c (S.append ai30 .none rfl (.tmp rfl rfl) rfl (by simp [sigsTo_len]) (.tmp rfl rfl) rfl (by first | rfl | (simp; done) | (simp; omega)) (by omega) (by simp only [maxLen]; omega))
        (.c (S.assign .none rfl (.tmp rfl rfl))
        .nil)))))))))) (by kernel_rfl) ?_
      refine Ab.D.blk ?_
      refine Ab.D.code ?_
      refine OK.reg ?_
      refine RK.c (S.add .none rfl (.tmp rfl rfl) (.cint rfl) (IntWalk.i64_in _ (by omega)) (IntWalk.i64_in _ (by omega))) ?_
      refine RK.c (S.move .none rfl (.tmp rfl rfl)) ?_
      refine RK.nil ?_
      refine Ab.D.lp ⟨i + 1, (by omega), (by omega), rfl, rfl, rfl, (lk_own (by simp [sigsTo_len])), (lk_arr (by rw [sigsTo_succ]; simp)), rfl, rfl, trivial⟩
    ·
      have hsl := sigsTo_len c l i
      refine OK.exit rfl ?_
      refine Ab.D.code ?_
      refine OK.seq ?_
      refine OK.reg ?_
      refine RK.c (S.move .none rfl (.tmp rfl rfl)) ?_
      refine RK.c (S.assign .none rfl (.tmp rfl rfl)) ?_
      refine RK.c (S.assign .none rfl (.cint rfl)) ?_
      refine RK.nil ?_
      refine Ab.D.code ?_
      refine OK.ret (Ret.r2 (.tmp rfl rfl (.c (.own rfl rfl (by first | rfl | (simp; done) | (simp; omega))) rfl) rfl) (.tmp rfl rfl (.c (.same rfl) rfl) rfl) ?_)
      rw [sigR, if_pos hE2, hE2, show i = l.length by omega]
      rfl
theorem ref9_ChartErr {c : Chart} : Ct Tryz.prog 55 [.agg c.cs] (.int .i64 (charE c)) := by
  refine Ct.intro (rs := [.tmp 2]) Tryz.func55 rfl Tryz.ntmps55 Tryz.results55 rfl rfl rfl fun w h => ?_
  refine OK.seq ?_
  refine OK.reg ?_
  refine RK.c (S.box (k := 1) rfl .none rfl (.tmp rfl rfl) rfl) ?_
  refine RK.c (S.assign .none rfl (.cint rfl)) ?_
  refine RK.nil ?_
  refine Ab.D.code ?_
  refine OK.seq ?_
  refine OK.reg ?_
  refine RK.c (S.assign .none rfl (.cint rfl)) ?_
  refine RK.nil ?_
  refine Ab.D.code ?_
  refine OK.seq ?_
  refine OK.seq ?_
  refine OK.reg ?_
  refine RK.c (S.bfield fi91_0 .none rfl (.tmp rfl rfl)) ?_
  refine RK.c (S.bload1 ti3 .none rfl (.tmp rfl rfl) rfl rfl rfl rfl) ?_
  refine RK.c (S.call (base_Within) Tryz.call43 .none rfl (.cons (.tmp rfl rfl) (.cons (.cint rfl) (.cons (.cint rfl) .nil))) rfl) ?_
  refine RK.c (S.notD .none rfl (.tmp rfl rfl)) ?_
  refine RK.c (S.move .none rfl (.tmp rfl rfl)) ?_
  refine RK.splitD (t := 8) rfl (fun g8 => ?_) (fun g8 => ?_)
  ·
    refine RK.c (S.skip rfl rfl rfl rfl rfl) ?_
    refine RK.c (S.skip rfl rfl rfl rfl rfl) ?_
    refine RK.c (S.skip rfl rfl rfl rfl rfl) ?_
    refine RK.c (S.skip rfl rfl rfl rfl rfl) ?_
    refine RK.c (S.skip rfl rfl rfl rfl rfl) ?_
    refine RK.c (S.skip rfl rfl rfl rfl rfl) ?_
    refine RK.c (S.skip rfl rfl rfl rfl rfl) ?_
    refine RK.c (S.pickT .none rfl (.tmp rfl rfl) .cbool rfl) ?_
    refine RK.c (S.move .none rfl (.tmp rfl rfl)) ?_
    refine RK.c (S.skip rfl rfl rfl rfl rfl) ?_
    refine RK.c (S.skip rfl rfl rfl rfl rfl) ?_
    refine RK.c (S.skip rfl rfl rfl rfl rfl) ?_
    refine RK.c (S.skip rfl rfl rfl rfl rfl) ?_
    refine RK.c (S.skip rfl rfl rfl rfl rfl) ?_
    refine RK.c (S.skip rfl rfl rfl rfl rfl) ?_
    refine RK.c (S.pickT .none rfl (.tmp rfl rfl) .cbool rfl) ?_
    refine RK.nil ?_
    refine Ab.D.code ?_
    refine OK.condT rfl rfl rfl ?_
    refine OK.seq ?_
    refine OK.reg ?_
    refine RK.c (S.assign .none rfl (.cint rfl)) ?_
    refine RK.nil ?_
    refine Ab.D.code ?_
    refine OK.ret (Ret.r1 (.tmp rfl rfl (.c (.same rfl) rfl) rfl) ?_)
    refine ret_i ?_
    unfold charE
    first | (rw [if_pos (by omega)]; done) | (rw [if_neg (by omega), if_neg (by omega)]; done) | (rw [if_neg (by omega), if_pos (by omega)]; done)
  ·
    refine RK.c (S.bfield fi91_1 (.yes rfl rfl rfl rfl) rfl (.tmp rfl rfl)) ?_
    refine RK.c (S.bload1 ti3 (.yes rfl rfl rfl rfl) rfl (.tmp rfl rfl) rfl rfl rfl rfl) ?_
    refine RK.c (S.move (.yes rfl rfl rfl rfl) rfl (.tmp rfl rfl)) ?_
    refine RK.c (S.neg (.yes rfl rfl rfl rfl) rfl (.tmp rfl rfl) (IntWalk.i64_in _ (by omega)) (IntWalk.i64_in _ (by omega))) ?_
    refine RK.c (S.move (.yes rfl rfl rfl rfl) rfl (.tmp rfl rfl)) ?_
    refine RK.c (S.call (base_Within) Tryz.call43 (.yes rfl rfl rfl rfl) rfl (.cons (.tmp rfl rfl) (.cons (.tmp rfl rfl) (.cons (.tmp rfl rfl) .nil))) rfl) ?_
    refine RK.c (S.notD (.yes rfl rfl rfl rfl) rfl (.tmp rfl rfl)) ?_
    refine RK.c (S.pickF .none rfl (.tmp rfl rfl) (.tmp rfl rfl) rfl) ?_
    refine RK.c (S.move .none rfl (.tmp rfl rfl)) ?_
    refine RK.splitD (t := 17) rfl (fun g17 => ?_) (fun g17 => ?_)
    ·
      refine RK.c (S.skip rfl rfl rfl rfl rfl) ?_
      refine RK.c (S.skip rfl rfl rfl rfl rfl) ?_
      refine RK.c (S.skip rfl rfl rfl rfl rfl) ?_
      refine RK.c (S.skip rfl rfl rfl rfl rfl) ?_
      refine RK.c (S.skip rfl rfl rfl rfl rfl) ?_
      refine RK.c (S.skip rfl rfl rfl rfl rfl) ?_
      refine RK.c (S.pickT .none rfl (.tmp rfl rfl) .cbool rfl) ?_
      refine RK.nil ?_
      refine Ab.D.code ?_
      refine OK.condT rfl rfl rfl ?_
      refine OK.seq ?_
      refine OK.reg ?_
      refine RK.c (S.assign .none rfl (.cint rfl)) ?_
      refine RK.nil ?_
      refine Ab.D.code ?_
      refine OK.ret (Ret.r1 (.tmp rfl rfl (.c (.same rfl) rfl) rfl) ?_)
      refine ret_i ?_
      unfold charE
      first | (rw [if_pos (by omega)]; done) | (rw [if_neg (by omega), if_neg (by omega)]; done) | (rw [if_neg (by omega), if_pos (by omega)]; done)
    ·
      refine RK.c (S.bfield fi91_2 (.yes rfl rfl rfl rfl) rfl (.tmp rfl rfl)) ?_
      refine RK.c (S.bload1 ti3 (.yes rfl rfl rfl rfl) rfl (.tmp rfl rfl) rfl rfl rfl rfl) ?_
      refine RK.c (S.move (.yes rfl rfl rfl rfl) rfl (.tmp rfl rfl)) ?_
      refine RK.c (S.mul (.yes rfl rfl rfl rfl) rfl (.tmp rfl rfl) (.cint rfl) (IntWalk.i64_in _ (by omega)) (IntWalk.i64_in _ (by omega))) ?_
      refine RK.c (S.call (base_Within) Tryz.call43 (.yes rfl rfl rfl rfl) rfl (.cons (.tmp rfl rfl) (.cons (.cint rfl) (.cons (.tmp rfl rfl) .nil))) rfl) ?_
      refine RK.c (S.notD (.yes rfl rfl rfl rfl) rfl (.tmp rfl rfl)) ?_
      refine RK.c (S.pickF .none rfl (.tmp rfl rfl) (.tmp rfl rfl) rfl) ?_
      refine RK.nil ?_
      refine Ab.D.code ?_
      refine OK.condD rfl rfl (fun c24 => ?_) (fun c24 => ?_)
      ·
        refine OK.seq ?_
        refine OK.reg ?_
        refine RK.c (S.assign .none rfl (.cint rfl)) ?_
        refine RK.nil ?_
        refine Ab.D.code ?_
        refine OK.ret (Ret.r1 (.tmp rfl rfl (.c (.same rfl) rfl) rfl) ?_)
        refine ret_i ?_
        unfold charE
        first | (rw [if_pos (by omega)]; done) | (rw [if_neg (by omega), if_neg (by omega)]; done) | (rw [if_neg (by omega), if_pos (by omega)]; done)
      ·
        refine OK.skip ?_
        refine Ab.D.code ?_
        refine OK.seq ?_
        refine OK.seq ?_
        refine OK.reg ?_
        refine RK.c (S.bloadN ti91 .none rfl (.tmp rfl rfl) rfl rfl rfl rfl) ?_
        refine RK.c (S.call (ref9_Spread ⟨by omega, by omega, by omega⟩) Tryz.call105 .none rfl (.cons (.tmp rfl rfl) .nil) rfl) ?_
        refine RK.c (S.lss .none rfl (.tmp rfl rfl) (.cint rfl)) ?_
        refine RK.nil ?_
        refine Ab.D.code ?_
        refine OK.condD rfl rfl (fun c27 => ?_) (fun c27 => ?_)
        ·
          refine OK.seq ?_
          refine OK.reg ?_
          refine RK.c (S.assign .none rfl (.cint rfl)) ?_
          refine RK.nil ?_
          refine Ab.D.code ?_
          refine OK.ret (Ret.r1 (.tmp rfl rfl (.c (.same rfl) rfl) rfl) ?_)
          refine ret_i ?_
          unfold charE
          first | (rw [if_pos (by omega)]; done) | (rw [if_neg (by omega), if_neg (by omega)]; done) | (rw [if_neg (by omega), if_pos (by omega)]; done)
        ·
          refine OK.skip ?_
          refine Ab.D.code ?_
          refine OK.seq ?_
          refine OK.reg ?_
          refine RK.c (S.assign .none rfl (.cint rfl)) ?_
          refine RK.nil ?_
          refine Ab.D.code ?_
          refine OK.ret (Ret.r1 (.tmp rfl rfl (.c (.same rfl) rfl) rfl) ?_)
          refine ret_i ?_
          unfold charE
          first | (rw [if_pos (by omega)]; done) | (rw [if_neg (by omega), if_neg (by omega)]; done) | (rw [if_neg (by omega), if_pos (by omega)]; done)
end Go.Proofs.YtpfepjgnojfppaaGreatDoor
