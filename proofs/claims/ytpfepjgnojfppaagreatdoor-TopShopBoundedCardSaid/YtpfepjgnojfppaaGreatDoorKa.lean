import Derived.Test.YtpfepjgnojfppaaGreatDoorFy
import Derived.Test.YtpfepjgnojfppaaGreatDoorSh
import Derived.Test.YtpfepjgnojfppaaGreatDoorWc
namespace Go.Proofs.YtpfepjgnojfppaaGreatDoor
open Go.Ab
structure Job where
  name : List UInt8
  setup : Int
  ticks : Int
  due : Int
  deriving DecidableEq
def Job.cs (x : Job) : List X := [.str x.name, .int .i64 x.setup, .int .i64 x.ticks, .int .i64 x.due]
structure Changes where
  start : Int
  ticks : List (List Int)
  deriving DecidableEq
def Changes.cs (x : Changes) : List X := [.int .i64 x.start, .sl (x.ticks.map fun l => [.sl (l.map fun n => [.int .i64 n])])]
structure Lot where
  name : List UInt8
  heat : List UInt8
  parts : Int
  deriving DecidableEq
def Lot.cs (x : Lot) : List X := [.str x.name, .str x.heat, .int .i64 x.parts]
structure Share where
  lot : List UInt8
  parts : Int
  deriving DecidableEq
def Share.cs (x : Share) : List X := [.str x.lot, .int .i64 x.parts]
structure Basket where
  shares : List Share
  deriving DecidableEq
def Basket.cs (x : Basket) : List X := [.sl (x.shares.map Share.cs)]
structure Run where
  start : Int
  ticks : Int
  power : Int
  deriving DecidableEq
def Run.cs (x : Run) : List X := [.int .i64 x.start, .int .i64 x.ticks, .int .i64 x.power]
structure Chart where
  count : Int
  sum : Int
  squares : Int
  deriving DecidableEq
def Chart.cs (x : Chart) : List X := [.int .i64 x.count, .int .i64 x.sum, .int .i64 x.squares]
structure Bath where
  tick : Int
  value : Range
  deriving DecidableEq
def Bath.cs (x : Bath) : List X := [.int .i64 x.tick, .int .i64 x.value.lo, .int .i64 x.value.hi]
theorem sortsI : SortsI Tryz.prog 173 := ⟨fun blk off cap zs w h1 h2 h3 => Tryz.slices_Sort_int blk off cap zs w h1 h2 h3, fun p cap w => Tryz.slices_Sort_int_none p cap w⟩
def sorted (l : List Int) : List Int := l.mergeSort fun x y => decide (x ≤ y)
theorem sort_len (zs : List Int) : (zs.mergeSort fun x y => decide (x ≤ y)).length = zs.length := (List.mergeSort_perm zs _).length_eq
theorem firstE1 (a : Int) : firstE [a] = a := by simp only [firstE]; split <;> omega
theorem firstE2 (a b : Int) : firstE [a, b] = if a ≠ 0 then a else b := by rw [firstE, firstE1]
theorem firstE3 (a b c : Int) : firstE [a, b, c] = if a ≠ 0 then a else if b ≠ 0 then b else c := by rw [firstE, firstE2]
def runE (r : Run) : Int := if (0 ≤ r.start ∧ r.start ≤ 100000) ∧ (1 ≤ r.ticks ∧ r.ticks ≤ 100000) ∧ (1 ≤ r.power ∧ r.power ≤ 100000) then 0 else 2
def runsChk (l : List Run) : Int × Int := if 12 < l.length then (0, 8) else if 0 ≤ idxGo (fun r => decide (runE r ≠ 0)) 0 l then (idxGo (fun r => decide (runE r ≠ 0)) 0 l, 2) else (0, 0)
def peakE (n : Int) : Int := if 1 ≤ n ∧ n ≤ 200000 then 0 else 2
def powOf (tick : Int) (r : Run) : Int := if r.start ≤ tick ∧ tick ≤ r.start + r.ticks - 1 then r.power else 0
def powerT (tick : Int) : List Run → Int
  | [] => 0
  | r :: l => powOf tick r + powerT tick l
def RunB (B : Int) (r : Run) : Prop := (0 ≤ r.start ∧ r.start ≤ B) ∧ (1 ≤ r.ticks ∧ r.ticks ≤ 100000) ∧ (1 ≤ r.power ∧ r.power ≤ 100000)
theorem power_app (tick : Int) : ∀ a b : List Run, powerT tick (a ++ b) = powerT tick a + powerT tick b
  | [], b => by simp [powerT]
  | r :: a, b => by simp only [List.cons_append, powerT, power_app tick a b]; omega
theorem power_take {tick : Int} {l : List Run} {i : Nat} (h : i < l.length) : powerT tick (l.take (i + 1)) = powerT tick (l.take i) + powOf tick l[i] := by
  rw [List.take_succ_eq_append_getElem h, power_app]
  simp [powerT]
theorem powOf_bd {B : Int} {r : Run} (h : RunB B r) (tick : Int) : 0 ≤ powOf tick r ∧ powOf tick r ≤ 100000 := by
  obtain ⟨h1, h2, h3⟩ := h
  unfold powOf
  split <;> omega
theorem power_bd {B : Int} (tick : Int) : ∀ {l : List Run}, (∀ r ∈ l, RunB B r) → 0 ≤ powerT tick l ∧ powerT tick l ≤ 100000 * l.length
  | [], _ => by simp [powerT]
  | r :: l, h => by
    have h1 := powOf_bd (h r List.mem_cons_self) tick
    have h2 := power_bd tick fun q hq => h q (List.mem_cons_of_mem r hq)
    simp only [powerT, List.length_cons]
    omega
def mom1 (x r : Run) : Bool := decide (x.start ≤ r.start ∧ r.start ≤ x.start + x.ticks - 1)
def momentsT (l : List Run) (x : Run) : List Int := x.start :: (l.filter (mom1 x)).map (·.start)
def fitsT (l : List Run) (x : Run) (peak : Int) : Bool := !((momentsT l x).any fun t => decide (powerT t l + x.power > peak))
theorem mom_T {l : List Run} {x : Run} {i : Nat} (h : i < l.length) (hc : x.start ≤ l[i].start ∧ l[i].start ≤ x.start + x.ticks - 1) : momentsT (l.take (i + 1)) x = momentsT (l.take i) x ++ [l[i].start] := by
  have hm : mom1 x l[i] = true := decide_eq_true hc
  have hf : [l[i]].filter (mom1 x) = [l[i]] := by rw [List.filter_cons, if_pos hm, List.filter_nil]
  rw [momentsT, List.take_succ_eq_append_getElem h, List.filter_append, List.map_append, hf]
  rfl
theorem mom_F {l : List Run} {x : Run} {i : Nat} (h : i < l.length) (hc : ¬ (x.start ≤ l[i].start ∧ l[i].start ≤ x.start + x.ticks - 1)) : momentsT (l.take (i + 1)) x = momentsT (l.take i) x := by
  have hm : ¬ mom1 x l[i] = true := by rw [show mom1 x l[i] = false from decide_eq_false hc]; decide
  have hf : [l[i]].filter (mom1 x) = [] := by rw [List.filter_cons, if_neg hm, List.filter_nil]
  rw [momentsT, List.take_succ_eq_append_getElem h, List.filter_append, List.map_append, hf, List.map_nil, List.append_nil]
  rfl
theorem mom_len (l : List Run) (x : Run) (i : Nat) : (momentsT (l.take i) x).length ≤ i + 1 := by
  have h1 := List.length_filter_le (mom1 x) (l.take i)
  have h2 : (l.take i).length ≤ i := List.length_take_le i l
  simp only [momentsT, List.length_cons, List.length_map]
  omega
theorem shp_within {n lo hi : Int} : Ct Tryz.prog 87 [.int .i64 n, .int .i64 lo, .int .i64 hi] (.bool (decide (lo ≤ n ∧ n ≤ hi))) := by
 refine Ct.intro (rs := [.tmp 6]) Tryz.func87 rfl Tryz.ntmps87 Tryz.results87 rfl rfl rfl fun w h => ?_
 refine OK.seq (OK.reg ?_)
 refine RK.c (S.assign .none rfl .cbool) ?_
 refine RK.nil (Ab.D.code (OK.seq (OK.reg ?_)))
 refine RK.c (S.move .none rfl (.tmp rfl rfl)) ?_
 refine RK.c (S.move .none rfl (.tmp rfl rfl)) ?_
 refine RK.c (S.leq .none rfl (.tmp rfl rfl) (.tmp rfl rfl)) ?_
 refine RK.c (S.move .none rfl (.tmp rfl rfl)) ?_
 refine RK.splitD (t := 10) rfl (fun g10 => ?_) (fun g10 => ?_)
 ·
  refine RK.c (S.move (.yes rfl rfl rfl rfl) rfl (.tmp rfl rfl)) ?_
  refine RK.c (S.move (.yes rfl rfl rfl rfl) rfl (.tmp rfl rfl)) ?_
  refine RK.c (S.leq (.yes rfl rfl rfl rfl) rfl (.tmp rfl rfl) (.tmp rfl rfl)) ?_
  refine RK.c (S.pickT .none rfl (.tmp rfl rfl) (.tmp rfl rfl) rfl) ?_
  refine RK.c (S.assign .none rfl (.tmp rfl rfl)) ?_
  refine RK.nil (Ab.D.code ?_)
  refine OK.ret (Ret.r1 (.tmp rfl rfl (.c (.same rfl) rfl) rfl) ?_)
  simp [*]
 ·
  refine RK.c (S.skip rfl rfl rfl rfl rfl) ?_
  refine RK.c (S.skip rfl rfl rfl rfl rfl) ?_
  refine RK.c (S.skip rfl rfl rfl rfl rfl) ?_
  refine RK.c (S.pickF .none rfl (.tmp rfl rfl) .cbool rfl) ?_
  refine RK.c (S.assign .none rfl (.tmp rfl rfl)) ?_
  refine RK.nil (Ab.D.code ?_)
  refine OK.ret (Ret.r1 (.tmp rfl rfl (.c (.same rfl) rfl) rfl) ?_)
  simp [*]
theorem shop_unless {ok : Bool} {e : Int} : Ct Tryz.prog 86 [.bool ok, .int .i64 e] (.int .i64 (unlessE ok e)) := by
 refine Ct.intro (rs := [.tmp 4]) Tryz.func86 rfl Tryz.ntmps86 Tryz.results86 rfl rfl rfl fun w h => ?_
 refine OK.seq (OK.reg ?_)
 refine RK.c (S.assign .none rfl (.cint rfl)) ?_
 refine RK.nil (Ab.D.code (OK.seq (OK.seq (OK.reg ?_))))
 refine RK.c (S.move .none rfl (.tmp rfl rfl)) ?_
 refine RK.nil (Ab.D.code ?_)
 refine OK.cond rfl rfl (fun c5 => ?_) (fun c5 => ?_)
 ·
  refine OK.seq (OK.reg ?_)
  refine RK.c (S.assign .none rfl (.cint rfl)) ?_
  refine RK.nil (Ab.D.code ?_)
  refine OK.ret (Ret.r1 (.tmp rfl rfl (.c (.same rfl) rfl) rfl) ?_)
  simp [unlessE, *]
 ·
  refine OK.skip ?_
  refine Ab.D.code (OK.seq (OK.reg ?_))
  refine RK.c (S.move .none rfl (.tmp rfl rfl)) ?_
  refine RK.c (S.assign .none rfl (.tmp rfl rfl)) ?_
  refine RK.nil (Ab.D.code ?_)
  refine OK.ret (Ret.r1 (.tmp rfl rfl (.c (.same rfl) rfl) rfl) ?_)
  simp [unlessE, *]
theorem shop_first {l : List Int} : Ct Tryz.prog 85 [ints l] (.int .i64 (firstE l)) := by
 refine Ct.intro (rs := [.tmp 2]) Tryz.func85 rfl Tryz.ntmps85 Tryz.results85 rfl rfl rfl fun w h => ?_
 refine OK.slLen (rows := l.map fun n => [.int .i64 n]) (t := 0) rfl rfl fun hlen => ?_
 rw [List.length_map] at hlen
 unfold maxLen at hlen
 refine OK.seq (OK.reg ?_)
 refine RK.c (S.assign .none rfl (.cint rfl)) ?_
 refine RK.nil (Ab.D.code (OK.seq (OK.seq (OK.reg ?_))))
 refine RK.c (S.move .none rfl (.tmp rfl rfl)) ?_
 refine RK.c (S.lenM si191 .none rfl (.tmp rfl rfl)) ?_
 refine RK.c (S.move .none rfl (.cint rfl)) ?_
 refine RK.nil (Ab.D.code ?_)
 refine OK.block ?_
 refine OK.loop (G := Nat) [] (fun i => [(5, ints l), (6, .int .i64 l.length), (7, .int .i64 i)]) (fun i => i ≤ l.length ∧ firstE l = firstE (l.drop i)) (fun i => l.length - i) 0 ⟨Nat.zero_le _, rfl⟩ ⟨rfl, rfl, rfl, trivial⟩ (fun _ => rfl) ?_
 rintro i ⟨hi, hf⟩
 refine OK.seq (OK.reg ?_)
 refine RK.c (S.lss .none rfl (.tmp rfl rfl) (.tmp rfl rfl)) ?_
 refine RK.nil (Ab.D.code ?_)
 refine OK.seq ?_
 refine OK.condD rfl rfl (fun c8 => ?_) (fun c8 => ?_)
 ·
  refine OK.skip ?_
  refine Ab.D.code ?_
  refine OK.seq ?_
  refine OK.block ?_
  refine OK.seq (OK.reg ?_)
  refine RK.c (S.indexM si191 .none rfl (.tmp rfl rfl) (.tmp rfl rfl) rfl (by omega) rfl) ?_
  refine RK.c (S.load1 ti31 .none rfl (.tmp rfl rfl) rfl) ?_
  refine RK.c (S.assign .none rfl (.tmp rfl rfl)) ?_
  refine RK.nil (Ab.D.code (OK.seq (OK.reg ?_)))
  refine RK.c (S.move .none rfl (.tmp rfl rfl)) ?_
  refine RK.c (S.neq .none rfl (.tmp rfl rfl) (.cint rfl)) ?_
  refine RK.nil (Ab.D.code ?_)
  refine OK.condD rfl rfl (fun c12 => ?_) (fun c12 => ?_)
  ·
   refine OK.seq (OK.reg ?_)
   refine RK.c (S.move .none rfl (.tmp rfl rfl)) ?_
   refine RK.c (S.assign .none rfl (.tmp rfl rfl)) ?_
   refine RK.nil (Ab.D.code ?_)
   refine OK.ret (Ret.r1 (.tmp rfl rfl (.c (.same rfl) rfl) rfl) ?_)
   rw [hf, firstE_drop (by omega)]
   simp_all
  ·
   refine OK.skip ?_
   refine Ab.D.blk ?_
   refine Ab.D.code (OK.reg ?_)
   refine RK.c (S.add .none rfl (.tmp rfl rfl) (.cint rfl) (IntWalk.i64_in _ (by omega)) (IntWalk.i64_in _ (by omega))) ?_
   refine RK.c (S.move .none rfl (.tmp rfl rfl)) ?_
   refine RK.nil ?_
   refine Ab.D.lp ⟨i + 1, ⟨by omega, ?_⟩, (by omega), rfl, rfl, rfl, trivial⟩
   rw [hf, firstE_drop (by omega)]
   simp_all
 ·
  refine OK.exit rfl ?_
  refine Ab.D.code (OK.seq (OK.reg ?_))
  refine RK.c (S.assign .none rfl (.cint rfl)) ?_
  refine RK.nil (Ab.D.code ?_)
  refine OK.ret (Ret.r1 (.tmp rfl rfl (.c (.same rfl) rfl) rfl) ?_)
  have : i = l.length := by omega
  subst this
  rw [hf, List.drop_length]
  rfl
theorem shp_isName {s : List UInt8} : Ct Tryz.prog 97 [.str s] (.bool (nameOk s)) := by
 refine Ct.intro (rs := [.tmp 2]) Tryz.func97 rfl Tryz.ntmps97 Tryz.results97 rfl rfl rfl fun w h => ?_
 refine OK.strLen (t := 0) (z := s) rfl rfl fun hlen => ?_
 unfold maxLen at hlen
 refine OK.seq (OK.reg ?_)
 refine RK.c (S.assign .none rfl .cbool) ?_
 refine RK.nil (Ab.D.code (OK.seq (OK.seq (OK.reg ?_))))
 refine RK.c (S.move .none rfl (.tmp rfl rfl)) ?_
 refine RK.c (S.bytes Tryz.underlying9 Tryz.underlying200 Tryz.underlying5 .none rfl (.tmp rfl rfl)) ?_
 refine RK.c (S.lenM si200 .none rfl (.tmp rfl rfl)) ?_
 refine RK.c (S.move .none rfl (.cint rfl)) ?_
 refine RK.nil (Ab.D.code ?_)
 refine OK.block ?_
 refine OK.loop (G := Nat) [] (fun i => [(0, .str s), (7, .sl (s.map fun b => [.int .u8 b.toNat])), (8, .int .i64 s.length), (9, .int .i64 i)]) (fun i => i ≤ s.length ∧ allGo nameC 0 s = allGo nameC i (s.drop i)) (fun i => s.length - i) 0 ⟨Nat.zero_le _, rfl⟩ ⟨rfl, rfl, rfl, rfl, trivial⟩ (fun _ => rfl) ?_
 rintro i ⟨hi, hg⟩
 refine OK.seq (OK.reg ?_)
 refine RK.c (S.lss .none rfl (.tmp rfl rfl) (.tmp rfl rfl)) ?_
 refine RK.nil (Ab.D.code ?_)
 refine OK.seq ?_
 refine OK.condD rfl rfl (fun c10 => ?_) (fun c10 => ?_)
 ·
  refine OK.skip ?_
  refine Ab.D.code ?_
  refine OK.seq ?_
  refine OK.block ?_
  refine OK.seq (OK.reg ?_)
  refine RK.c (S.move .none rfl (.tmp rfl rfl)) ?_
  refine RK.c (S.indexM si200 .none rfl (.tmp rfl rfl) (.tmp rfl rfl) rfl (by omega) rfl) ?_
  refine RK.c (S.load1 ti5 .none rfl (.tmp rfl rfl) rfl) ?_
  refine RK.c (S.assign .none rfl (.tmp rfl rfl)) ?_
  refine RK.c (S.assign .none rfl (.tmp rfl rfl)) ?_
  refine RK.nil (Ab.D.code (OK.seq (OK.reg ?_)))
  refine RK.c (S.move .none rfl (.tmp rfl rfl)) ?_
  refine RK.c (S.conv .none rfl (.tmp rfl rfl) Tryz.underlying5 Tryz.underlying3 (IntWalk.i64_in _ (u8_i64 _)) (IntWalk.i64_in _ (u8_i64 _))) ?_
  refine RK.c (S.call (shp_within) Tryz.call87 .none rfl (.cons (.tmp rfl rfl) (.cons (.cint rfl) (.cons (.cint rfl) .nil))) rfl) ?_
  refine RK.c (S.move .none rfl (.tmp rfl rfl)) ?_
  refine RK.splitD (t := 17) rfl (fun g17 => ?_) (fun g17 => ?_)
  ·
   refine RK.c (S.skip rfl rfl rfl rfl rfl) ?_
   refine RK.c (S.skip rfl rfl rfl rfl rfl) ?_
   refine RK.c (S.skip rfl rfl rfl rfl rfl) ?_
   refine RK.c (S.pickT .none rfl (.tmp rfl rfl) .cbool rfl) ?_
   refine RK.c (S.assign .none rfl (.tmp rfl rfl)) ?_
   refine RK.nil (Ab.D.code (OK.seq (OK.reg ?_)))
   refine RK.c (S.move .none rfl (.tmp rfl rfl)) ?_
   refine RK.c (S.not .none rfl (.tmp rfl rfl)) ?_
   refine RK.c (S.move .none rfl (.tmp rfl rfl)) ?_
   refine RK.c (S.skip rfl rfl rfl rfl rfl) ?_
   refine RK.c (S.skip rfl rfl rfl rfl rfl) ?_
   refine RK.c (S.skip rfl rfl rfl rfl rfl) ?_
   refine RK.c (S.skipU rfl rfl rfl rfl) ?_
   refine RK.c (S.skipU rfl rfl rfl rfl) ?_
   refine RK.c (S.skipU rfl rfl rfl rfl) ?_
   refine RK.c (S.skipU rfl rfl rfl rfl) ?_
   refine RK.c (S.skipU rfl rfl rfl rfl) ?_
   refine RK.c (S.skipU rfl rfl rfl rfl) ?_
   refine RK.c (S.skipU rfl rfl rfl rfl) ?_
   refine RK.c (S.skipU rfl rfl rfl rfl) ?_
   refine RK.c (S.skip rfl rfl rfl rfl rfl) ?_
   refine RK.c (S.pickF .none rfl (.tmp rfl rfl) .cbool rfl) ?_
   refine RK.nil (Ab.D.code ?_)
   refine OK.condF rfl rfl rfl ?_
   refine OK.skip ?_
   refine Ab.D.blk ?_
   refine Ab.D.code (OK.reg ?_)
   refine RK.c (S.add .none rfl (.tmp rfl rfl) (.cint rfl) (IntWalk.i64_in _ (by omega)) (IntWalk.i64_in _ (by omega))) ?_
   refine RK.c (S.move .none rfl (.tmp rfl rfl)) ?_
   refine RK.nil ?_
   refine Ab.D.lp ⟨i + 1, ⟨by omega, ?_⟩, (by omega), rfl, rfl, rfl, rfl, trivial⟩
   exact nameT (by omega) hg (by simp only [nameC, Bool.or_eq_true, Bool.and_eq_true, decide_eq_true_iff]; omega)
  ·
   refine RK.c (S.move (.yes rfl rfl rfl rfl) rfl (.tmp rfl rfl)) ?_
   refine RK.c (S.conv (.yes rfl rfl rfl rfl) rfl (.tmp rfl rfl) Tryz.underlying5 Tryz.underlying3 (IntWalk.i64_in _ (u8_i64 _)) (IntWalk.i64_in _ (u8_i64 _))) ?_
   refine RK.c (S.call (shp_within) Tryz.call87 (.yes rfl rfl rfl rfl) rfl (.cons (.tmp rfl rfl) (.cons (.cint rfl) (.cons (.cint rfl) .nil))) rfl) ?_
   refine RK.c (S.pickF .none rfl (.tmp rfl rfl) (.tmp rfl rfl) rfl) ?_
   refine RK.c (S.assign .none rfl (.tmp rfl rfl)) ?_
   refine RK.nil (Ab.D.code (OK.seq (OK.reg ?_)))
   refine RK.c (S.move .none rfl (.tmp rfl rfl)) ?_
   refine RK.c (S.notD .none rfl (.tmp rfl rfl)) ?_
   refine RK.c (S.move .none rfl (.tmp rfl rfl)) ?_
   refine RK.splitD (t := 24) rfl (fun g24 => ?_) (fun g24 => ?_)
   ·
    refine RK.c (S.move (.yes rfl rfl rfl rfl) rfl (.tmp rfl rfl)) ?_
    refine RK.c (S.eql (.yes rfl rfl rfl rfl) rfl (.tmp rfl rfl) (.cint rfl)) ?_
    refine RK.c (S.move (.yes rfl rfl rfl rfl) rfl (.tmp rfl rfl)) ?_
    refine RK.splitD (t := 27) rfl (fun g27 => ?_) (fun g27 => ?_)
    ·
     refine RK.c (S.skip rfl rfl rfl rfl rfl) ?_
     refine RK.c (S.skip rfl rfl rfl rfl rfl) ?_
     refine RK.c (S.skip rfl rfl rfl rfl rfl) ?_
     refine RK.c (S.skipU rfl rfl rfl rfl) ?_
     refine RK.c (S.skipU rfl rfl rfl rfl) ?_
     refine RK.c (S.skipU rfl rfl rfl rfl) ?_
     refine RK.c (S.skipU rfl rfl rfl rfl) ?_
     refine RK.c (S.skip rfl rfl rfl rfl rfl) ?_
     refine RK.c (S.pickT (.yes rfl rfl rfl rfl) rfl (.tmp rfl rfl) .cbool rfl) ?_
     refine RK.c (S.pickT .none rfl (.tmp rfl rfl) (.tmp rfl rfl) rfl) ?_
     refine RK.nil (Ab.D.code ?_)
     refine OK.condT rfl rfl rfl ?_
     refine OK.seq (OK.reg ?_)
     refine RK.c (S.assign .none rfl .cbool) ?_
     refine RK.nil (Ab.D.code ?_)
     refine OK.ret (Ret.r1 (.tmp rfl rfl (.c (.same rfl) rfl) rfl) ?_)
     exact nameF (by omega) hg (by simp only [nameC, Bool.or_eq_false_iff, Bool.and_eq_false_iff, decide_eq_false_iff_not]; omega)
    ·
     refine RK.c (S.move (.yes rfl rfl rfl rfl) rfl (.tmp rfl rfl)) ?_
     refine RK.c (S.neq (.yes rfl rfl rfl rfl) rfl (.tmp rfl rfl) (.cint rfl)) ?_
     refine RK.c (S.move (.yes rfl rfl rfl rfl) rfl (.tmp rfl rfl)) ?_
     refine RK.splitD (t := 30) rfl (fun g30 => ?_) (fun g30 => ?_)
     ·
      refine RK.c (S.move (.yes rfl rfl rfl rfl) rfl (.tmp rfl rfl)) ?_
      refine RK.c (S.conv (.yes rfl rfl rfl rfl) rfl (.tmp rfl rfl) Tryz.underlying5 Tryz.underlying3 (IntWalk.i64_in _ (u8_i64 _)) (IntWalk.i64_in _ (u8_i64 _))) ?_
      refine RK.c (S.call (shp_within) Tryz.call87 (.yes rfl rfl rfl rfl) rfl (.cons (.tmp rfl rfl) (.cons (.cint rfl) (.cons (.cint rfl) .nil))) rfl) ?_
      refine RK.c (S.notD (.yes rfl rfl rfl rfl) rfl (.tmp rfl rfl)) ?_
      refine RK.c (S.pickT (.yes rfl rfl rfl rfl) rfl (.tmp rfl rfl) (.tmp rfl rfl) rfl) ?_
      refine RK.c (S.pickF (.yes rfl rfl rfl rfl) rfl (.tmp rfl rfl) (.tmp rfl rfl) rfl) ?_
      refine RK.c (S.pickT .none rfl (.tmp rfl rfl) (.tmp rfl rfl) rfl) ?_
      refine RK.nil (Ab.D.code ?_)
      refine OK.condD rfl rfl (fun c37 => ?_) (fun c37 => ?_)
      ·
       refine OK.seq (OK.reg ?_)
       refine RK.c (S.assign .none rfl .cbool) ?_
       refine RK.nil (Ab.D.code ?_)
       refine OK.ret (Ret.r1 (.tmp rfl rfl (.c (.same rfl) rfl) rfl) ?_)
       exact nameF (by omega) hg (by simp only [nameC, Bool.or_eq_false_iff, Bool.and_eq_false_iff, decide_eq_false_iff_not]; omega)
      ·
       refine OK.skip ?_
       refine Ab.D.blk ?_
       refine Ab.D.code (OK.reg ?_)
       refine RK.c (S.add .none rfl (.tmp rfl rfl) (.cint rfl) (IntWalk.i64_in _ (by omega)) (IntWalk.i64_in _ (by omega))) ?_
       refine RK.c (S.move .none rfl (.tmp rfl rfl)) ?_
       refine RK.nil ?_
       refine Ab.D.lp ⟨i + 1, ⟨by omega, ?_⟩, (by omega), rfl, rfl, rfl, rfl, trivial⟩
       exact nameT (by omega) hg (by simp only [nameC, Bool.or_eq_true, Bool.and_eq_true, decide_eq_true_iff]; omega)
     ·
      refine RK.c (S.skip rfl rfl rfl rfl rfl) ?_
      refine RK.c (S.skip rfl rfl rfl rfl rfl) ?_
      refine RK.c (S.skip rfl rfl rfl rfl rfl) ?_
      refine RK.c (S.skip rfl rfl rfl rfl rfl) ?_
      refine RK.c (S.pickF (.yes rfl rfl rfl rfl) rfl (.tmp rfl rfl) .cbool rfl) ?_
      refine RK.c (S.pickF (.yes rfl rfl rfl rfl) rfl (.tmp rfl rfl) (.tmp rfl rfl) rfl) ?_
      refine RK.c (S.pickT .none rfl (.tmp rfl rfl) (.tmp rfl rfl) rfl) ?_
      refine RK.nil (Ab.D.code ?_)
      refine OK.condF rfl rfl rfl ?_
      refine OK.skip ?_
      refine Ab.D.blk ?_
      refine Ab.D.code (OK.reg ?_)
      refine RK.c (S.add .none rfl (.tmp rfl rfl) (.cint rfl) (IntWalk.i64_in _ (by omega)) (IntWalk.i64_in _ (by omega))) ?_
      refine RK.c (S.move .none rfl (.tmp rfl rfl)) ?_
      refine RK.nil ?_
      refine Ab.D.lp ⟨i + 1, ⟨by omega, ?_⟩, (by omega), rfl, rfl, rfl, rfl, trivial⟩
      exact nameT (by omega) hg (by simp only [nameC, Bool.or_eq_true, Bool.and_eq_true, decide_eq_true_iff]; omega)
   ·
    refine RK.c (S.skip rfl rfl rfl rfl rfl) ?_
    refine RK.c (S.skip rfl rfl rfl rfl rfl) ?_
    refine RK.c (S.skip rfl rfl rfl rfl rfl) ?_
    refine RK.c (S.skipU rfl rfl rfl rfl) ?_
    refine RK.c (S.skipU rfl rfl rfl rfl) ?_
    refine RK.c (S.skipU rfl rfl rfl rfl) ?_
    refine RK.c (S.skipU rfl rfl rfl rfl) ?_
    refine RK.c (S.skipU rfl rfl rfl rfl) ?_
    refine RK.c (S.skipU rfl rfl rfl rfl) ?_
    refine RK.c (S.skipU rfl rfl rfl rfl) ?_
    refine RK.c (S.skipU rfl rfl rfl rfl) ?_
    refine RK.c (S.skip rfl rfl rfl rfl rfl) ?_
    refine RK.c (S.pickF .none rfl (.tmp rfl rfl) .cbool rfl) ?_
    refine RK.nil (Ab.D.code ?_)
    refine OK.condF rfl rfl rfl ?_
    refine OK.skip ?_
    refine Ab.D.blk ?_
    refine Ab.D.code (OK.reg ?_)
    refine RK.c (S.add .none rfl (.tmp rfl rfl) (.cint rfl) (IntWalk.i64_in _ (by omega)) (IntWalk.i64_in _ (by omega))) ?_
    refine RK.c (S.move .none rfl (.tmp rfl rfl)) ?_
    refine RK.nil ?_
    refine Ab.D.lp ⟨i + 1, ⟨by omega, ?_⟩, (by omega), rfl, rfl, rfl, rfl, trivial⟩
    exact nameT (by omega) hg (by simp only [nameC, Bool.or_eq_true, Bool.and_eq_true, decide_eq_true_iff]; omega)
 ·
  refine OK.exit rfl ?_
  refine Ab.D.code (OK.seq (OK.reg ?_))
  refine RK.c (S.move .none rfl (.tmp rfl rfl)) ?_
  refine RK.c (S.slen Tryz.underlying9 .none rfl (.tmp rfl rfl)) ?_
  refine RK.c (S.call (shp_within) Tryz.call87 .none rfl (.cons (.tmp rfl rfl) (.cons (.cint rfl) (.cons (.cint rfl) .nil))) rfl) ?_
  refine RK.c (S.assign .none rfl (.tmp rfl rfl)) ?_
  refine RK.nil (Ab.D.code ?_)
  refine OK.ret (Ret.r1 (.tmp rfl rfl (.c (.same rfl) rfl) rfl) ?_)
  have : i = s.length := by omega
  subst this
  rw [List.drop_length, allGo] at hg
  rw [nameOk, hg, Bool.true_and]
theorem shp_isTicks {n least : Int} : Ct Tryz.prog 96 [.int .i64 n, .int .i64 least] (.bool (decide (least ≤ n ∧ n ≤ 100000))) := by
 refine Ct.intro (rs := [.tmp 4]) Tryz.func96 rfl Tryz.ntmps96 Tryz.results96 rfl rfl rfl fun w h => ?_
 refine OK.seq (OK.reg ?_)
 refine RK.c (S.assign .none rfl .cbool) ?_
 refine RK.nil (Ab.D.code (OK.seq (OK.reg ?_)))
 refine RK.c (S.move .none rfl (.tmp rfl rfl)) ?_
 refine RK.c (S.move .none rfl (.tmp rfl rfl)) ?_
 refine RK.c (S.call (shp_within) Tryz.call87 .none rfl (.cons (.tmp rfl rfl) (.cons (.tmp rfl rfl) (.cons (.cint rfl) .nil))) rfl) ?_
 refine RK.c (S.assign .none rfl (.tmp rfl rfl)) ?_
 refine RK.nil (Ab.D.code ?_)
 refine OK.ret (Ret.r1 (.tmp rfl rfl (.c (.same rfl) rfl) rfl) ?_)
 rfl
theorem shp_isParts {n : Int} : Ct Tryz.prog 137 [.int .i64 n] (.bool (decide (1 ≤ n ∧ n ≤ 1000))) := by
 refine Ct.intro (rs := [.tmp 2]) Tryz.func137 rfl Tryz.ntmps137 Tryz.results137 rfl rfl rfl fun w h => ?_
 refine OK.seq (OK.reg ?_)
 refine RK.c (S.assign .none rfl .cbool) ?_
 refine RK.nil (Ab.D.code (OK.seq (OK.reg ?_)))
 refine RK.c (S.move .none rfl (.tmp rfl rfl)) ?_
 refine RK.c (S.call (shp_within) Tryz.call87 .none rfl (.cons (.tmp rfl rfl) (.cons (.cint rfl) (.cons (.cint rfl) .nil))) rfl) ?_
 refine RK.c (S.assign .none rfl (.tmp rfl rfl)) ?_
 refine RK.nil (Ab.D.code ?_)
 refine OK.ret (Ret.r1 (.tmp rfl rfl (.c (.same rfl) rfl) rfl) ?_)
 rfl
theorem indexFunc_Job {l : List Job} {fid : Nat} {caps : List X} {g : Job → Bool} (hf : ∀ x, x ∈ l → Ct Tryz.prog fid ([.agg x.cs] ++ caps) (.bool (g x))) (hcall : CallOk fid) (hc : Clean caps) : Ct Tryz.prog 146 [.sl (l.map Job.cs), .fn fid caps] (.int .i64 (idxGo g 0 l)) := by
 refine Ct.intro (rs := [.tmp 4]) Tryz.func146 rfl Tryz.ntmps146 Tryz.results146 rfl rfl rfl fun w h => ?_
 refine OK.slLen (rows := l.map Job.cs) (t := 0) rfl rfl fun hlen => ?_
 rw [List.length_map] at hlen
 unfold maxLen at hlen
 refine OK.seq (OK.reg ?_)
 refine RK.c (S.assign .none rfl (.cint rfl)) ?_
 refine RK.nil (Ab.D.code (OK.seq (OK.seq (OK.reg ?_))))
 refine RK.c (S.move .none rfl (.tmp rfl rfl)) ?_
 refine RK.c (S.lenM si22 .none rfl (.tmp rfl rfl)) ?_
 refine RK.c (S.move .none rfl (.cint rfl)) ?_
 refine RK.nil (Ab.D.code ?_)
 refine OK.block ?_
 refine OK.loop (G := Nat) [] (fun i => [(0, .sl (l.map Job.cs)), (1, .fn fid caps), (6, .sl (l.map Job.cs)), (7, .int .i64 l.length), (8, .int .i64 i)]) (fun i => i ≤ l.length ∧ idxGo g 0 l = idxGo g i (l.drop i)) (fun i => l.length - i) 0 ⟨Nat.zero_le _, rfl⟩ ⟨rfl, rfl, rfl, rfl, rfl, trivial⟩ (fun _ => by simp [okKey, okT, okV, okC, okP, hc.1]) ?_
 rintro i ⟨hi, hg⟩
 refine OK.seq (OK.reg ?_)
 refine RK.c (S.lss .none rfl (.tmp rfl rfl) (.tmp rfl rfl)) ?_
 refine RK.nil (Ab.D.code ?_)
 refine OK.seq ?_
 refine OK.condD rfl rfl (fun c9 => ?_) (fun c9 => ?_)
 ·
  refine OK.skip ?_
  refine Ab.D.code ?_
  refine OK.seq ?_
  refine OK.block ?_
  refine OK.seq (OK.reg ?_)
  refine RK.c (S.move .none rfl (.tmp rfl rfl)) ?_
  refine RK.c (S.assign .none rfl (.tmp rfl rfl)) ?_
  refine RK.nil (Ab.D.code (OK.seq (OK.reg ?_)))
  refine RK.c (S.move .none rfl (.tmp rfl rfl)) ?_
  refine RK.c (S.move .none rfl (.tmp rfl rfl)) ?_
  refine RK.c (S.move .none rfl (.tmp rfl rfl)) ?_
  refine RK.c (S.indexM si22 .none rfl (.tmp rfl rfl) (.tmp rfl rfl) rfl (by omega) rfl) ?_
  refine RK.c (S.loadN ti114 .none rfl (.tmp rfl rfl) rfl rfl) ?_
  refine RK.c (S.callv (hf _ (List.getElem_mem _)) hcall .none rfl (.tmp rfl rfl) (.cons (.tmp rfl rfl) .nil) rfl hc.1 hc.2) ?_
  refine RK.nil (Ab.D.code ?_)
  refine OK.cond rfl rfl (fun c16 => ?_) (fun c16 => ?_)
  ·
   refine OK.seq (OK.reg ?_)
   refine RK.c (S.move .none rfl (.tmp rfl rfl)) ?_
   refine RK.c (S.assign .none rfl (.tmp rfl rfl)) ?_
   refine RK.nil (Ab.D.code ?_)
   refine OK.ret (Ret.r1 (.tmp rfl rfl (.c (.same rfl) rfl) rfl) ?_)
   rw [hg, idxGo_drop _ (by omega)]
   simp_all
  ·
   refine OK.skip ?_
   refine Ab.D.blk ?_
   refine Ab.D.code (OK.reg ?_)
   refine RK.c (S.add .none rfl (.tmp rfl rfl) (.cint rfl) (IntWalk.i64_in _ (by omega)) (IntWalk.i64_in _ (by omega))) ?_
   refine RK.c (S.move .none rfl (.tmp rfl rfl)) ?_
   refine RK.nil ?_
   refine Ab.D.lp ⟨i + 1, ⟨by omega, ?_⟩, (by omega), rfl, rfl, rfl, rfl, rfl, trivial⟩
   rw [hg, idxGo_drop _ (by omega)]
   simp_all
 ·
  refine OK.exit rfl ?_
  refine Ab.D.code (OK.seq (OK.reg ?_))
  refine RK.c (S.assign .none rfl (.cint rfl)) ?_
  refine RK.nil (Ab.D.code ?_)
  refine OK.ret (Ret.r1 (.tmp rfl rfl (.c (.same rfl) rfl) rfl) ?_)
  have : i = l.length := by omega
  subst this
  rw [hg, List.drop_length]
  rfl
theorem containsFunc_Job {l : List Job} {fid : Nat} {caps : List X} {g : Job → Bool} (hf : ∀ x, x ∈ l → Ct Tryz.prog fid ([.agg x.cs] ++ caps) (.bool (g x))) (hcall : CallOk fid) (hc : Clean caps) : Ct Tryz.prog 94 [.sl (l.map Job.cs), .fn fid caps] (.bool (l.any g)) := by
 refine Ct.intro (rs := [.tmp 4]) Tryz.func94 rfl Tryz.ntmps94 Tryz.results94 rfl rfl rfl fun w h => ?_
 refine OK.seq (OK.reg ?_)
 refine RK.c (S.assign .none rfl .cbool) ?_
 refine RK.nil (Ab.D.code (OK.seq (OK.reg ?_)))
 refine RK.c (S.move .none rfl (.tmp rfl rfl)) ?_
 refine RK.c (S.move .none rfl (.tmp rfl rfl)) ?_
 refine RK.c (S.call (indexFunc_Job hf hcall hc) Tryz.call146 .none rfl (.cons (.tmp rfl rfl) (.cons (.tmp rfl rfl) .nil)) (by simp [okArg, okV, okC, okP, isTup, hc.1])) ?_
 refine RK.c (S.geq .none rfl (.tmp rfl rfl) (.cint rfl)) ?_
 refine RK.c (S.assign .none rfl (.tmp rfl rfl)) ?_
 refine RK.nil (Ab.D.code ?_)
 refine OK.ret (Ret.r1 (.tmp rfl rfl (.c (.same rfl) rfl) rfl) ?_)
 exact ret_b (by rw [← idxGo_any g l 0])
theorem indexFunc_Lot {l : List Lot} {fid : Nat} {caps : List X} {g : Lot → Bool} (hf : ∀ x, x ∈ l → Ct Tryz.prog fid ([.agg x.cs] ++ caps) (.bool (g x))) (hcall : CallOk fid) (hc : Clean caps) : Ct Tryz.prog 142 [.sl (l.map Lot.cs), .fn fid caps] (.int .i64 (idxGo g 0 l)) := by
 refine Ct.intro (rs := [.tmp 4]) Tryz.func142 rfl Tryz.ntmps142 Tryz.results142 rfl rfl rfl fun w h => ?_
 refine OK.slLen (rows := l.map Lot.cs) (t := 0) rfl rfl fun hlen => ?_
 rw [List.length_map] at hlen
 unfold maxLen at hlen
 refine OK.seq (OK.reg ?_)
 refine RK.c (S.assign .none rfl (.cint rfl)) ?_
 refine RK.nil (Ab.D.code (OK.seq (OK.seq (OK.reg ?_))))
 refine RK.c (S.move .none rfl (.tmp rfl rfl)) ?_
 refine RK.c (S.lenM si49 .none rfl (.tmp rfl rfl)) ?_
 refine RK.c (S.move .none rfl (.cint rfl)) ?_
 refine RK.nil (Ab.D.code ?_)
 refine OK.block ?_
 refine OK.loop (G := Nat) [] (fun i => [(0, .sl (l.map Lot.cs)), (1, .fn fid caps), (6, .sl (l.map Lot.cs)), (7, .int .i64 l.length), (8, .int .i64 i)]) (fun i => i ≤ l.length ∧ idxGo g 0 l = idxGo g i (l.drop i)) (fun i => l.length - i) 0 ⟨Nat.zero_le _, rfl⟩ ⟨rfl, rfl, rfl, rfl, rfl, trivial⟩ (fun _ => by simp [okKey, okT, okV, okC, okP, hc.1]) ?_
 rintro i ⟨hi, hg⟩
 refine OK.seq (OK.reg ?_)
 refine RK.c (S.lss .none rfl (.tmp rfl rfl) (.tmp rfl rfl)) ?_
 refine RK.nil (Ab.D.code ?_)
 refine OK.seq ?_
 refine OK.condD rfl rfl (fun c9 => ?_) (fun c9 => ?_)
 ·
  refine OK.skip ?_
  refine Ab.D.code ?_
  refine OK.seq ?_
  refine OK.block ?_
  refine OK.seq (OK.reg ?_)
  refine RK.c (S.move .none rfl (.tmp rfl rfl)) ?_
  refine RK.c (S.assign .none rfl (.tmp rfl rfl)) ?_
  refine RK.nil (Ab.D.code (OK.seq (OK.reg ?_)))
  refine RK.c (S.move .none rfl (.tmp rfl rfl)) ?_
  refine RK.c (S.move .none rfl (.tmp rfl rfl)) ?_
  refine RK.c (S.move .none rfl (.tmp rfl rfl)) ?_
  refine RK.c (S.indexM si49 .none rfl (.tmp rfl rfl) (.tmp rfl rfl) rfl (by omega) rfl) ?_
  refine RK.c (S.loadN ti66 .none rfl (.tmp rfl rfl) rfl rfl) ?_
  refine RK.c (S.callv (hf _ (List.getElem_mem _)) hcall .none rfl (.tmp rfl rfl) (.cons (.tmp rfl rfl) .nil) rfl hc.1 hc.2) ?_
  refine RK.nil (Ab.D.code ?_)
  refine OK.cond rfl rfl (fun c16 => ?_) (fun c16 => ?_)
  ·
   refine OK.seq (OK.reg ?_)
   refine RK.c (S.move .none rfl (.tmp rfl rfl)) ?_
   refine RK.c (S.assign .none rfl (.tmp rfl rfl)) ?_
   refine RK.nil (Ab.D.code ?_)
   refine OK.ret (Ret.r1 (.tmp rfl rfl (.c (.same rfl) rfl) rfl) ?_)
   rw [hg, idxGo_drop _ (by omega)]
   simp_all
  ·
   refine OK.skip ?_
   refine Ab.D.blk ?_
   refine Ab.D.code (OK.reg ?_)
   refine RK.c (S.add .none rfl (.tmp rfl rfl) (.cint rfl) (IntWalk.i64_in _ (by omega)) (IntWalk.i64_in _ (by omega))) ?_
   refine RK.c (S.move .none rfl (.tmp rfl rfl)) ?_
   refine RK.nil ?_
   refine Ab.D.lp ⟨i + 1, ⟨by omega, ?_⟩, (by omega), rfl, rfl, rfl, rfl, rfl, trivial⟩
   rw [hg, idxGo_drop _ (by omega)]
   simp_all
 ·
  refine OK.exit rfl ?_
  refine Ab.D.code (OK.seq (OK.reg ?_))
  refine RK.c (S.assign .none rfl (.cint rfl)) ?_
  refine RK.nil (Ab.D.code ?_)
  refine OK.ret (Ret.r1 (.tmp rfl rfl (.c (.same rfl) rfl) rfl) ?_)
  have : i = l.length := by omega
  subst this
  rw [hg, List.drop_length]
  rfl
theorem containsFunc_Lot {l : List Lot} {fid : Nat} {caps : List X} {g : Lot → Bool} (hf : ∀ x, x ∈ l → Ct Tryz.prog fid ([.agg x.cs] ++ caps) (.bool (g x))) (hcall : CallOk fid) (hc : Clean caps) : Ct Tryz.prog 91 [.sl (l.map Lot.cs), .fn fid caps] (.bool (l.any g)) := by
 refine Ct.intro (rs := [.tmp 4]) Tryz.func91 rfl Tryz.ntmps91 Tryz.results91 rfl rfl rfl fun w h => ?_
 refine OK.seq (OK.reg ?_)
 refine RK.c (S.assign .none rfl .cbool) ?_
 refine RK.nil (Ab.D.code (OK.seq (OK.reg ?_)))
 refine RK.c (S.move .none rfl (.tmp rfl rfl)) ?_
 refine RK.c (S.move .none rfl (.tmp rfl rfl)) ?_
 refine RK.c (S.call (indexFunc_Lot hf hcall hc) Tryz.call142 .none rfl (.cons (.tmp rfl rfl) (.cons (.tmp rfl rfl) .nil)) (by simp [okArg, okV, okC, okP, isTup, hc.1])) ?_
 refine RK.c (S.geq .none rfl (.tmp rfl rfl) (.cint rfl)) ?_
 refine RK.c (S.assign .none rfl (.tmp rfl rfl)) ?_
 refine RK.nil (Ab.D.code ?_)
 refine OK.ret (Ret.r1 (.tmp rfl rfl (.c (.same rfl) rfl) rfl) ?_)
 exact ret_b (by rw [← idxGo_any g l 0])
theorem indexFunc_Run {l : List Run} {fid : Nat} {caps : List X} {g : Run → Bool} (hf : ∀ x, x ∈ l → Ct Tryz.prog fid ([.agg x.cs] ++ caps) (.bool (g x))) (hcall : CallOk fid) (hc : Clean caps) : Ct Tryz.prog 170 [.sl (l.map Run.cs), .fn fid caps] (.int .i64 (idxGo g 0 l)) := by
 refine Ct.intro (rs := [.tmp 4]) Tryz.func170 rfl Tryz.ntmps170 Tryz.results170 rfl rfl rfl fun w h => ?_
 refine OK.slLen (rows := l.map Run.cs) (t := 0) rfl rfl fun hlen => ?_
 rw [List.length_map] at hlen
 unfold maxLen at hlen
 refine OK.seq (OK.reg ?_)
 refine RK.c (S.assign .none rfl (.cint rfl)) ?_
 refine RK.nil (Ab.D.code (OK.seq (OK.seq (OK.reg ?_))))
 refine RK.c (S.move .none rfl (.tmp rfl rfl)) ?_
 refine RK.c (S.lenM si115 .none rfl (.tmp rfl rfl)) ?_
 refine RK.c (S.move .none rfl (.cint rfl)) ?_
 refine RK.nil (Ab.D.code ?_)
 refine OK.block ?_
 refine OK.loop (G := Nat) [] (fun i => [(0, .sl (l.map Run.cs)), (1, .fn fid caps), (6, .sl (l.map Run.cs)), (7, .int .i64 l.length), (8, .int .i64 i)]) (fun i => i ≤ l.length ∧ idxGo g 0 l = idxGo g i (l.drop i)) (fun i => l.length - i) 0 ⟨Nat.zero_le _, rfl⟩ ⟨rfl, rfl, rfl, rfl, rfl, trivial⟩ (fun _ => by simp [okKey, okT, okV, okC, okP, hc.1]) ?_
 rintro i ⟨hi, hg⟩
 refine OK.seq (OK.reg ?_)
 refine RK.c (S.lss .none rfl (.tmp rfl rfl) (.tmp rfl rfl)) ?_
 refine RK.nil (Ab.D.code ?_)
 refine OK.seq ?_
 refine OK.condD rfl rfl (fun c9 => ?_) (fun c9 => ?_)
 ·
  refine OK.skip ?_
  refine Ab.D.code ?_
  refine OK.seq ?_
  refine OK.block ?_
  refine OK.seq (OK.reg ?_)
  refine RK.c (S.move .none rfl (.tmp rfl rfl)) ?_
  refine RK.c (S.assign .none rfl (.tmp rfl rfl)) ?_
  refine RK.nil (Ab.D.code (OK.seq (OK.reg ?_)))
  refine RK.c (S.move .none rfl (.tmp rfl rfl)) ?_
  refine RK.c (S.move .none rfl (.tmp rfl rfl)) ?_
  refine RK.c (S.move .none rfl (.tmp rfl rfl)) ?_
  refine RK.c (S.indexM si115 .none rfl (.tmp rfl rfl) (.tmp rfl rfl) rfl (by omega) rfl) ?_
  refine RK.c (S.loadN ti117 .none rfl (.tmp rfl rfl) rfl rfl) ?_
  refine RK.c (S.callv (hf _ (List.getElem_mem _)) hcall .none rfl (.tmp rfl rfl) (.cons (.tmp rfl rfl) .nil) rfl hc.1 hc.2) ?_
  refine RK.nil (Ab.D.code ?_)
  refine OK.cond rfl rfl (fun c16 => ?_) (fun c16 => ?_)
  ·
   refine OK.seq (OK.reg ?_)
   refine RK.c (S.move .none rfl (.tmp rfl rfl)) ?_
   refine RK.c (S.assign .none rfl (.tmp rfl rfl)) ?_
   refine RK.nil (Ab.D.code ?_)
   refine OK.ret (Ret.r1 (.tmp rfl rfl (.c (.same rfl) rfl) rfl) ?_)
   rw [hg, idxGo_drop _ (by omega)]
   simp_all
  ·
   refine OK.skip ?_
   refine Ab.D.blk ?_
   refine Ab.D.code (OK.reg ?_)
   refine RK.c (S.add .none rfl (.tmp rfl rfl) (.cint rfl) (IntWalk.i64_in _ (by omega)) (IntWalk.i64_in _ (by omega))) ?_
   refine RK.c (S.move .none rfl (.tmp rfl rfl)) ?_
   refine RK.nil ?_
   refine Ab.D.lp ⟨i + 1, ⟨by omega, ?_⟩, (by omega), rfl, rfl, rfl, rfl, rfl, trivial⟩
   rw [hg, idxGo_drop _ (by omega)]
   simp_all
 ·
  refine OK.exit rfl ?_
  refine Ab.D.code (OK.seq (OK.reg ?_))
  refine RK.c (S.assign .none rfl (.cint rfl)) ?_
  refine RK.nil (Ab.D.code ?_)
  refine OK.ret (Ret.r1 (.tmp rfl rfl (.c (.same rfl) rfl) rfl) ?_)
  have : i = l.length := by omega
  subst this
  rw [hg, List.drop_length]
  rfl
theorem containsFunc_Run {l : List Run} {fid : Nat} {caps : List X} {g : Run → Bool} (hf : ∀ x, x ∈ l → Ct Tryz.prog fid ([.agg x.cs] ++ caps) (.bool (g x))) (hcall : CallOk fid) (hc : Clean caps) : Ct Tryz.prog 125 [.sl (l.map Run.cs), .fn fid caps] (.bool (l.any g)) := by
 refine Ct.intro (rs := [.tmp 4]) Tryz.func125 rfl Tryz.ntmps125 Tryz.results125 rfl rfl rfl fun w h => ?_
 refine OK.seq (OK.reg ?_)
 refine RK.c (S.assign .none rfl .cbool) ?_
 refine RK.nil (Ab.D.code (OK.seq (OK.reg ?_)))
 refine RK.c (S.move .none rfl (.tmp rfl rfl)) ?_
 refine RK.c (S.move .none rfl (.tmp rfl rfl)) ?_
 refine RK.c (S.call (indexFunc_Run hf hcall hc) Tryz.call170 .none rfl (.cons (.tmp rfl rfl) (.cons (.tmp rfl rfl) .nil)) (by simp [okArg, okV, okC, okP, isTup, hc.1])) ?_
 refine RK.c (S.geq .none rfl (.tmp rfl rfl) (.cint rfl)) ?_
 refine RK.c (S.assign .none rfl (.tmp rfl rfl)) ?_
 refine RK.nil (Ab.D.code ?_)
 refine OK.ret (Ret.r1 (.tmp rfl rfl (.c (.same rfl) rfl) rfl) ?_)
 exact ret_b (by rw [← idxGo_any g l 0])
theorem shp_runErr {r : Run} : Ct Tryz.prog 172 [.agg r.cs] (.int .i64 (runE r)) := by
 refine Ct.intro (rs := [.tmp 2]) Tryz.func172 rfl Tryz.ntmps172 Tryz.results172 rfl rfl rfl fun w h => ?_
 refine OK.seq (OK.reg ?_)
 refine RK.c (S.box (k := 1) rfl .none rfl (.tmp rfl rfl) rfl) ?_
 refine RK.c (S.assign .none rfl (.cint rfl)) ?_
 refine RK.nil (Ab.D.code (OK.seq (OK.reg ?_)))
 refine RK.c (S.bfield fi117_0 .none rfl (.tmp rfl rfl)) ?_
 refine RK.c (S.bload1 ti3 .none rfl (.tmp rfl rfl) rfl rfl rfl rfl) ?_
 refine RK.c (S.call (shp_isTicks) Tryz.call96 .none rfl (.cons (.tmp rfl rfl) (.cons (.cint rfl) .nil)) rfl) ?_
 refine RK.c (S.move .none rfl (.tmp rfl rfl)) ?_
 refine RK.splitD (t := 6) rfl (fun g6 => ?_) (fun g6 => ?_)
 ·
  refine RK.c (S.bfield fi117_1 (.yes rfl rfl rfl rfl) rfl (.tmp rfl rfl)) ?_
  refine RK.c (S.bload1 ti3 (.yes rfl rfl rfl rfl) rfl (.tmp rfl rfl) rfl rfl rfl rfl) ?_
  refine RK.c (S.call (shp_isTicks) Tryz.call96 (.yes rfl rfl rfl rfl) rfl (.cons (.tmp rfl rfl) (.cons (.cint rfl) .nil)) rfl) ?_
  refine RK.c (S.pickT .none rfl (.tmp rfl rfl) (.tmp rfl rfl) rfl) ?_
  refine RK.c (S.move .none rfl (.tmp rfl rfl)) ?_
  refine RK.splitD (t := 11) rfl (fun g11 => ?_) (fun g11 => ?_)
  ·
   refine RK.c (S.bfield fi117_2 (.yes rfl rfl rfl rfl) rfl (.tmp rfl rfl)) ?_
   refine RK.c (S.bload1 ti3 (.yes rfl rfl rfl rfl) rfl (.tmp rfl rfl) rfl rfl rfl rfl) ?_
   refine RK.c (S.call (shp_within) Tryz.call87 (.yes rfl rfl rfl rfl) rfl (.cons (.tmp rfl rfl) (.cons (.cint rfl) (.cons (.cint rfl) .nil))) rfl) ?_
   refine RK.c (S.pickT .none rfl (.tmp rfl rfl) (.tmp rfl rfl) rfl) ?_
   refine RK.c (S.call (shop_unless) Tryz.call86 .none rfl (.cons (.tmp rfl rfl) (.cons (.cint rfl) .nil)) rfl) ?_
   refine RK.c (S.assign .none rfl (.tmp rfl rfl)) ?_
   refine RK.nil (Ab.D.code ?_)
   refine OK.ret (Ret.r1 (.tmp rfl rfl (.c (.same rfl) rfl) rfl) ?_)
   refine ret_i ?_
   simp only [runE, unlessE, decide_eq_true_eq]
   repeat' split
   all_goals (first | rfl | omega | contradiction)
  ·
   refine RK.c (S.skip rfl rfl rfl rfl rfl) ?_
   refine RK.c (S.skip rfl rfl rfl rfl rfl) ?_
   refine RK.c (S.skip rfl rfl rfl rfl rfl) ?_
   refine RK.c (S.pickF .none rfl (.tmp rfl rfl) .cbool rfl) ?_
   refine RK.c (S.call (shop_unless) Tryz.call86 .none rfl (.cons (.tmp rfl rfl) (.cons (.cint rfl) .nil)) rfl) ?_
   refine RK.c (S.assign .none rfl (.tmp rfl rfl)) ?_
   refine RK.nil (Ab.D.code ?_)
   refine OK.ret (Ret.r1 (.tmp rfl rfl (.c (.same rfl) rfl) rfl) ?_)
   refine ret_i ?_
   simp only [runE, unlessE, decide_eq_true_eq]
   repeat' split
   all_goals (first | rfl | omega | contradiction)
 ·
  refine RK.c (S.skip rfl rfl rfl rfl rfl) ?_
  refine RK.c (S.skip rfl rfl rfl rfl rfl) ?_
  refine RK.c (S.skip rfl rfl rfl rfl rfl) ?_
  refine RK.c (S.pickF .none rfl (.tmp rfl rfl) .cbool rfl) ?_
  refine RK.c (S.move .none rfl (.tmp rfl rfl)) ?_
  refine RK.c (S.skip rfl rfl rfl rfl rfl) ?_
  refine RK.c (S.skip rfl rfl rfl rfl rfl) ?_
  refine RK.c (S.skip rfl rfl rfl rfl rfl) ?_
  refine RK.c (S.pickF .none rfl (.tmp rfl rfl) .cbool rfl) ?_
  refine RK.c (S.call (shop_unless) Tryz.call86 .none rfl (.cons (.tmp rfl rfl) (.cons (.cint rfl) .nil)) rfl) ?_
  refine RK.c (S.assign .none rfl (.tmp rfl rfl)) ?_
  refine RK.nil (Ab.D.code ?_)
  refine OK.ret (Ret.r1 (.tmp rfl rfl (.c (.same rfl) rfl) rfl) ?_)
  refine ret_i ?_
  simp only [runE, unlessE, decide_eq_true_eq]
  repeat' split
  all_goals (first | rfl | omega | contradiction)
theorem shp_runBad {r : Run} : Ct Tryz.prog 171 [.agg r.cs] (.bool (decide (runE r ≠ 0))) := by
 refine Ct.intro (rs := [.tmp 2]) Tryz.func171 rfl Tryz.ntmps171 Tryz.results171 rfl rfl rfl fun w h => ?_
 refine OK.seq (OK.reg ?_)
 refine RK.c (S.box (k := 1) rfl .none rfl (.tmp rfl rfl) rfl) ?_
 refine RK.c (S.assign .none rfl .cbool) ?_
 refine RK.nil (Ab.D.code (OK.seq (OK.reg ?_)))
 refine RK.c (S.bloadN ti117 .none rfl (.tmp rfl rfl) rfl rfl rfl rfl) ?_
 refine RK.c (S.call (shp_runErr) Tryz.call172 .none rfl (.cons (.tmp rfl rfl) .nil) rfl) ?_
 refine RK.c (S.neq .none rfl (.tmp rfl rfl) (.cint rfl)) ?_
 refine RK.c (S.assign .none rfl (.tmp rfl rfl)) ?_
 refine RK.nil (Ab.D.code ?_)
 refine OK.ret (Ret.r1 (.tmp rfl rfl (.c (.same rfl) rfl) rfl) ?_)
 rfl
theorem shp_CheckRuns {l : List Run} : Ct Tryz.prog 123 [.sl (l.map Run.cs)] (pair (runsChk l)) := by
 refine Ct.intro (rs := [.tmp 2, .tmp 3]) Tryz.func123 rfl Tryz.ntmps123 Tryz.results123 rfl rfl rfl fun w h => ?_
 refine OK.slLen (rows := l.map Run.cs) (t := 0) rfl rfl fun hlen => ?_
 rw [List.length_map] at hlen
 unfold maxLen at hlen
 refine OK.seq (OK.reg ?_)
 refine RK.c (S.assign .none rfl (.cint rfl)) ?_
 refine RK.c (S.assign .none rfl (.cint rfl)) ?_
 refine RK.nil (Ab.D.code (OK.seq (OK.seq (OK.reg ?_))))
 refine RK.c (S.move .none rfl (.tmp rfl rfl)) ?_
 refine RK.c (S.lenM si115 .none rfl (.tmp rfl rfl)) ?_
 refine RK.c (S.gtr .none rfl (.tmp rfl rfl) (.cint rfl)) ?_
 refine RK.nil (Ab.D.code ?_)
 refine OK.condD rfl rfl (fun c7 => ?_) (fun c7 => ?_)
 ·
  refine OK.seq (OK.reg ?_)
  refine RK.c (S.assign .none rfl (.cint rfl)) ?_
  refine RK.c (S.assign .none rfl (.cint rfl)) ?_
  refine RK.nil (Ab.D.code ?_)
  refine OK.ret (Ret.r2 (.tmp rfl rfl (.c (.same rfl) rfl) rfl) (.tmp rfl rfl (.c (.same rfl) rfl) rfl) ?_)
  refine ret_p ?_
  rw [runsChk, if_pos (by omega)]
 ·
  refine OK.skip ?_
  refine Ab.D.code (OK.seq (OK.seq (OK.reg ?_)))
  refine RK.c (S.move .none rfl (.tmp rfl rfl)) ?_
  refine RK.c (S.call (indexFunc_Run (l := l) (g := fun r => decide (runE r ≠ 0)) (caps := []) (fun x _ => shp_runBad) Tryz.call171 ⟨rfl, rfl⟩) Tryz.call170 .none rfl (.cons (.tmp rfl rfl) (.cons .cfn .nil)) rfl) ?_
  refine RK.c (S.assign .none rfl (.tmp rfl rfl)) ?_
  refine RK.nil (Ab.D.code (OK.seq (OK.reg ?_)))
  refine RK.c (S.move .none rfl (.tmp rfl rfl)) ?_
  refine RK.c (S.geq .none rfl (.tmp rfl rfl) (.cint rfl)) ?_
  refine RK.nil (Ab.D.code ?_)
  refine OK.condD rfl rfl (fun c11 => ?_) (fun c11 => ?_)
  ·
   refine OK.seq (OK.reg ?_)
   refine RK.c (S.move .none rfl (.tmp rfl rfl)) ?_
   refine RK.c (S.assign .none rfl (.tmp rfl rfl)) ?_
   refine RK.c (S.assign .none rfl (.cint rfl)) ?_
   refine RK.nil (Ab.D.code ?_)
   refine OK.ret (Ret.r2 (.tmp rfl rfl (.c (.same rfl) rfl) rfl) (.tmp rfl rfl (.c (.same rfl) rfl) rfl) ?_)
   refine ret_p ?_
   rw [runsChk, if_neg (by omega), if_pos (by omega)]
  ·
   refine OK.skip ?_
   refine Ab.D.code (OK.seq (OK.reg ?_))
   refine RK.c (S.assign .none rfl (.cint rfl)) ?_
   refine RK.c (S.assign .none rfl (.cint rfl)) ?_
   refine RK.nil (Ab.D.code ?_)
   refine OK.ret (Ret.r2 (.tmp rfl rfl (.c (.same rfl) rfl) rfl) (.tmp rfl rfl (.c (.same rfl) rfl) rfl) ?_)
   refine ret_p ?_
   rw [runsChk, if_neg (by omega), if_neg (by omega)]
theorem shp_peakErr {n : Int} : Ct Tryz.prog 127 [.int .i64 n] (.int .i64 (peakE n)) := by
 refine Ct.intro (rs := [.tmp 2]) Tryz.func127 rfl Tryz.ntmps127 Tryz.results127 rfl rfl rfl fun w h => ?_
 refine OK.seq (OK.reg ?_)
 refine RK.c (S.assign .none rfl (.cint rfl)) ?_
 refine RK.nil (Ab.D.code (OK.seq (OK.reg ?_)))
 refine RK.c (S.move .none rfl (.tmp rfl rfl)) ?_
 refine RK.c (S.call (shp_within) Tryz.call87 .none rfl (.cons (.tmp rfl rfl) (.cons (.cint rfl) (.cons (.cint rfl) .nil))) rfl) ?_
 refine RK.c (S.call (shop_unless) Tryz.call86 .none rfl (.cons (.tmp rfl rfl) (.cons (.cint rfl) .nil)) rfl) ?_
 refine RK.c (S.assign .none rfl (.tmp rfl rfl)) ?_
 refine RK.nil (Ab.D.code ?_)
 refine OK.ret (Ret.r1 (.tmp rfl rfl (.c (.same rfl) rfl) rfl) ?_)
 refine ret_i ?_
 simp only [peakE, unlessE, decide_eq_true_eq]
theorem shp_powerAt {l : List Run} {tick : Int} (hl : ∀ r ∈ l, RunB 1000000000 r) (hn : l.length ≤ 100) : Ct Tryz.prog 124 [.sl (l.map Run.cs), .int .i64 tick] (.int .i64 (powerT tick l)) := by
 refine Ct.intro (rs := [.tmp 4]) Tryz.func124 rfl Tryz.ntmps124 Tryz.results124 rfl rfl rfl fun w h => ?_
 refine OK.seq (OK.reg ?_)
 refine RK.c (S.assign .none rfl (.cint rfl)) ?_
 refine RK.nil (Ab.D.code (OK.seq (OK.reg ?_)))
 refine RK.c (S.assign .none rfl (.cint rfl)) ?_
 refine RK.nil (Ab.D.code (OK.seq (OK.seq (OK.reg ?_))))
 refine RK.c (S.move .none rfl (.tmp rfl rfl)) ?_
 refine RK.c (S.lenM si115 .none rfl (.tmp rfl rfl)) ?_
 refine RK.c (S.move .none rfl (.cint rfl)) ?_
 refine RK.nil (Ab.D.code ?_)
 refine OK.block ?_
 refine OK.loop (G := Nat) [] (fun i => [(1, .int .i64 tick), (5, .int .i64 (powerT tick (l.take i))), (8, .sl (l.map Run.cs)), (9, .int .i64 l.length), (10, .int .i64 i)]) (fun i => i ≤ l.length) (fun i => l.length - i) 0 (Nat.zero_le _) ⟨rfl, rfl, rfl, rfl, rfl, trivial⟩ (fun _ => rfl) ?_
 rintro i hi
 refine OK.seq (OK.reg ?_)
 refine RK.c (S.lss .none rfl (.tmp rfl rfl) (.tmp rfl rfl)) ?_
 refine RK.nil (Ab.D.code ?_)
 refine OK.seq ?_
 refine OK.condD rfl rfl (fun c11 => ?_) (fun c11 => ?_)
 ·
  have hr := hl l[i] (List.getElem_mem (by omega))
  obtain ⟨hr1, hr2, hr3⟩ := hr
  have hp := power_bd (B := 1000000000) tick (l := l.take i) fun r hr => hl r (List.mem_of_mem_take hr)
  have htl : (l.take i).length ≤ i := List.length_take_le i l
  refine OK.skip ?_
  refine Ab.D.code ?_
  refine OK.seq ?_
  refine OK.block ?_
  refine OK.seq (OK.reg ?_)
  refine RK.c (S.indexM si115 .none rfl (.tmp rfl rfl) (.tmp rfl rfl) rfl (by omega) rfl) ?_
  refine RK.c (S.loadN ti117 .none rfl (.tmp rfl rfl) rfl rfl) ?_
  refine RK.c (S.alloc (k := 7) ze117 rfl .none rfl) ?_
  refine RK.c (S.store ti117 .none (.tmp rfl rfl) (.tmp rfl rfl) rfl rfl rfl rfl rfl rfl) ?_
  refine RK.nil (Ab.D.code (OK.seq (OK.reg ?_)))
  refine RK.c (S.move .none rfl (.tmp rfl rfl)) ?_
  refine RK.c (S.bfield fi117_0 .none rfl (.tmp rfl rfl)) ?_
  refine RK.c (S.bload1 ti3 .none rfl (.tmp rfl rfl) rfl rfl rfl rfl) ?_
  refine RK.c (S.bfield fi117_0 .none rfl (.tmp rfl rfl)) ?_
  refine RK.c (S.bload1 ti3 .none rfl (.tmp rfl rfl) rfl rfl rfl rfl) ?_
  refine RK.c (S.bfield fi117_1 .none rfl (.tmp rfl rfl)) ?_
  refine RK.c (S.bload1 ti3 .none rfl (.tmp rfl rfl) rfl rfl rfl rfl) ?_
  refine RK.c (S.add .none rfl (.tmp rfl rfl) (.tmp rfl rfl) (IntWalk.i64_in _ (by omega)) (IntWalk.i64_in _ (by omega))) ?_
  refine RK.c (S.sub .none rfl (.tmp rfl rfl) (.cint rfl) (IntWalk.i64_in _ (by omega)) (IntWalk.i64_in _ (by omega))) ?_
  refine RK.c (S.call (shp_within) Tryz.call87 .none rfl (.cons (.tmp rfl rfl) (.cons (.tmp rfl rfl) (.cons (.tmp rfl rfl) .nil))) rfl) ?_
  refine RK.nil (Ab.D.code ?_)
  refine OK.condD rfl rfl (fun c23 => ?_) (fun c23 => ?_)
  ·
   refine OK.reg ?_
   refine RK.c (S.move .none rfl (.tmp rfl rfl)) ?_
   refine RK.c (S.bfield fi117_2 .none rfl (.tmp rfl rfl)) ?_
   refine RK.c (S.bload1 ti3 .none rfl (.tmp rfl rfl) rfl rfl rfl rfl) ?_
   refine RK.c (S.add .none rfl (.tmp rfl rfl) (.tmp rfl rfl) (IntWalk.i64_in _ (by omega)) (IntWalk.i64_in _ (by omega))) ?_
   refine RK.c (S.assign .none rfl (.tmp rfl rfl)) ?_
   refine RK.nil ?_
   refine Ab.D.blk ?_
   refine Ab.D.code (OK.reg ?_)
   refine RK.c (S.add .none rfl (.tmp rfl rfl) (.cint rfl) (IntWalk.i64_in _ (by omega)) (IntWalk.i64_in _ (by omega))) ?_
   refine RK.c (S.move .none rfl (.tmp rfl rfl)) ?_
   refine RK.nil ?_
   refine Ab.D.lp ⟨i + 1, (by omega), (by omega), rfl, (lkI (by rw [power_take (by omega), powOf]; first | rw [if_pos c23] | (rw [if_neg c23]; omega))), rfl, rfl, rfl, trivial⟩
  ·
   refine OK.skip ?_
   refine Ab.D.blk ?_
   refine Ab.D.code (OK.reg ?_)
   refine RK.c (S.add .none rfl (.tmp rfl rfl) (.cint rfl) (IntWalk.i64_in _ (by omega)) (IntWalk.i64_in _ (by omega))) ?_
   refine RK.c (S.move .none rfl (.tmp rfl rfl)) ?_
   refine RK.nil ?_
   refine Ab.D.lp ⟨i + 1, (by omega), (by omega), rfl, (lkI (by rw [power_take (by omega), powOf]; first | rw [if_pos c23] | (rw [if_neg c23]; omega))), rfl, rfl, rfl, trivial⟩
 ·
  refine OK.exit rfl ?_
  refine Ab.D.code (OK.seq (OK.reg ?_))
  refine RK.c (S.move .none rfl (.tmp rfl rfl)) ?_
  refine RK.c (S.assign .none rfl (.tmp rfl rfl)) ?_
  refine RK.nil (Ab.D.code ?_)
  refine OK.ret (Ret.r1 (.tmp rfl rfl (.c (.same rfl) rfl) rfl) ?_)
  rw [show i = l.length by omega, List.take_length]
theorem shp_fits1 {l : List Run} {x : Run} {peak tick : Int} (hl : ∀ r ∈ l, RunB 1000000000 r) (hn : l.length ≤ 100) (hx : 1 ≤ x.power ∧ x.power ≤ 100000) : Ct Tryz.prog 194 [.int .i64 tick, .eptr [.sl (l.map Run.cs)], .eptr x.cs, .eptr [.int .i64 peak]] (.bool (decide (powerT tick l + x.power > peak))) := by
 refine Ct.intro (rs := [.tmp 5]) Tryz.func194 rfl Tryz.ntmps194 Tryz.results194 rfl rfl rfl fun w h => ?_
 have hp := power_bd (B := 1000000000) tick hl
 refine OK.seq (OK.reg ?_)
 refine RK.c (S.assign .none rfl .cbool) ?_
 refine RK.nil (Ab.D.code ?_)
 refine OK.seq ?_
 refine OK.regionDraw follows (.c (S.load1 ti115 .none rfl (.tmp rfl rfl) rfl)
  (.c (S.move .none rfl (.tmp rfl rfl))
  (.c (S.call (shp_powerAt hl hn) Tryz.call124 .none rfl (.cons (.tmp rfl rfl) (.cons (.tmp rfl rfl) .nil)) rfl)
  (.c (S.field fi117_2 .none rfl (.tmp rfl rfl) rfl)
  (.c (S.load1 ti3 .none rfl (.tmp rfl rfl) rfl)
  (.c (S.add .none rfl (.tmp rfl rfl) (.tmp rfl rfl) (IntWalk.i64_in _ (by omega)) (IntWalk.i64_in _ (by omega)))
  (.c (S.load1 ti3 .none rfl (.tmp rfl rfl) rfl)
  (.c (S.gtr .none rfl (.tmp rfl rfl) (.tmp rfl rfl))
  (.c (S.assign .none rfl (.tmp rfl rfl))
  .nil))))))))) (by kernel_rfl) ?_
 refine Ab.D.code ?_
 refine OK.ret (Ret.r1 (.tmp rfl rfl (.c (.same rfl) rfl) rfl) ?_)
 rfl
theorem shp_fits {l : List Run} {x : Run} {peak : Int} (hl : ∀ r ∈ l, RunB 1000000000 r) (hn : l.length ≤ 100) (hx : RunB 1000000000 x) : Ct Tryz.prog 176 [.sl (l.map Run.cs), .agg x.cs, .int .i64 peak] (.bool (fitsT l x peak)) := by
 refine Ct.intro (rs := [.tmp 6]) Tryz.func176 rfl Tryz.ntmps176 Tryz.results176 rfl rfl rfl fun w h => ?_
 have hxx := hx
 obtain ⟨hx1, hx2, hx3⟩ := hx
 refine OK.seq (OK.reg ?_)
 refine RK.c (S.box (k := 3) rfl .none rfl (.tmp rfl rfl) rfl) ?_
 refine RK.c (S.box (k := 4) rfl .none rfl (.tmp rfl rfl) rfl) ?_
 refine RK.c (S.box (k := 5) rfl .none rfl (.tmp rfl rfl) rfl) ?_
 refine RK.c (S.assign .none rfl .cbool) ?_
 refine RK.nil (Ab.D.code (OK.seq (OK.reg ?_)))
 refine RK.c (S.bfield fi117_0 .none rfl (.tmp rfl rfl)) ?_
 refine RK.c (S.bload1 ti3 .none rfl (.tmp rfl rfl) rfl rfl rfl rfl) ?_
 refine RK.c (S.mkSlice (k := 12) (rows := [[_]]) ai30 .none rfl (.cons (.tmp rfl rfl) .nil) rfl rfl rfl rfl rfl rfl rfl) ?_
 refine RK.c (S.assign .none rfl (.tmp rfl rfl)) ?_
 refine RK.nil (Ab.D.code (OK.seq (OK.seq (OK.reg ?_))))
 refine RK.c (S.bload1 ti115 .none rfl (.tmp rfl rfl) rfl rfl rfl rfl) ?_
 refine RK.c (S.lenM si115 .none rfl (.tmp rfl rfl)) ?_
 refine RK.c (S.move .none rfl (.cint rfl)) ?_
 refine RK.nil (Ab.D.code ?_)
 refine OK.block ?_
 refine OK.loop (G := Nat) [3, 4, 5, 12] (fun i => [(3, .ptr 3 0), (4, .ptr 4 0), (5, .ptr 5 0), (1003, .box [.sl (l.map Run.cs)]), (1004, .box x.cs), (1005, .box [.int .i64 peak]), (7, .own 12 (momentsT (l.take i) x).length), (2012, .arr 1 ((momentsT (l.take i) x).map fun n => [.int .i64 n])), (13, .sl (l.map Run.cs)), (14, .int .i64 l.length), (15, .int .i64 i)]) (fun i => i ≤ l.length) (fun i => l.length - i) 0 (Nat.zero_le _) ⟨rfl, rfl, rfl, rfl, rfl, rfl, (lk_own (by first | rfl | (simp; done) | (simp; omega))), (lk_arr (by first | rfl | (simp; done) | (simp; omega))), rfl, rfl, rfl, trivial⟩ (fun _ => rfl) ?_
 rintro i hi
 refine OK.seq (OK.reg ?_)
 refine RK.c (S.lss .none rfl (.tmp rfl rfl) (.tmp rfl rfl)) ?_
 refine RK.nil (Ab.D.code ?_)
 refine OK.seq ?_
 refine OK.condD rfl rfl (fun c16 => ?_) (fun c16 => ?_)
 ·
  have hml := mom_len l x i
  have hr := hl l[i] (List.getElem_mem (by omega))
  obtain ⟨hr1, hr2, hr3⟩ := hr
  refine OK.skip ?_
  refine Ab.D.code ?_
  refine OK.seq ?_
  refine OK.block ?_
  refine OK.seq (OK.reg ?_)
  refine RK.c (S.indexM si115 .none rfl (.tmp rfl rfl) (.tmp rfl rfl) rfl (by omega) rfl) ?_
  refine RK.c (S.loadN ti117 .none rfl (.tmp rfl rfl) rfl rfl) ?_
  refine RK.c (S.alloc (k := 9) ze117 rfl .none rfl) ?_
  refine RK.c (S.store ti117 .none (.tmp rfl rfl) (.tmp rfl rfl) rfl rfl rfl rfl rfl rfl) ?_
  refine RK.nil (Ab.D.code (OK.seq (OK.reg ?_)))
  refine RK.c (S.bfield fi117_0 .none rfl (.tmp rfl rfl)) ?_
  refine RK.c (S.bload1 ti3 .none rfl (.tmp rfl rfl) rfl rfl rfl rfl) ?_
  refine RK.c (S.bfield fi117_0 .none rfl (.tmp rfl rfl)) ?_
  refine RK.c (S.bload1 ti3 .none rfl (.tmp rfl rfl) rfl rfl rfl rfl) ?_
  refine RK.c (S.bfield fi117_0 .none rfl (.tmp rfl rfl)) ?_
  refine RK.c (S.bload1 ti3 .none rfl (.tmp rfl rfl) rfl rfl rfl rfl) ?_
  refine RK.c (S.bfield fi117_1 .none rfl (.tmp rfl rfl)) ?_
  refine RK.c (S.bload1 ti3 .none rfl (.tmp rfl rfl) rfl rfl rfl rfl) ?_
  refine RK.c (S.add .none rfl (.tmp rfl rfl) (.tmp rfl rfl) (IntWalk.i64_in _ (by omega)) (IntWalk.i64_in _ (by omega))) ?_
  refine RK.c (S.sub .none rfl (.tmp rfl rfl) (.cint rfl) (IntWalk.i64_in _ (by omega)) (IntWalk.i64_in _ (by omega))) ?_
  refine RK.c (S.call (shp_within) Tryz.call87 .none rfl (.cons (.tmp rfl rfl) (.cons (.tmp rfl rfl) (.cons (.tmp rfl rfl) .nil))) rfl) ?_
  refine RK.nil (Ab.D.code ?_)
  refine OK.condD rfl rfl (fun c29 => ?_) (fun c29 => ?_)
  ·
   refine OK.reg ?_
   refine RK.c (S.move .none rfl (.tmp rfl rfl)) ?_
   refine RK.c (S.bfield fi117_0 .none rfl (.tmp rfl rfl)) ?_
   refine RK.c (S.bload1 ti3 .none rfl (.tmp rfl rfl) rfl rfl rfl rfl) ?_
   refine RK.c (S.mkSlice (k := 33) (rows := [[_]]) ai30 .none rfl (.cons (.tmp rfl rfl) .nil) rfl rfl rfl rfl rfl rfl rfl) ?_
   refine RK.c (S.append ai30 .none rfl (.tmp rfl rfl) rfl (by simp) (.tmp rfl rfl) rfl (by first | rfl | (simp; done) | (simp; omega)) (by omega) (by simp only [maxLen]; omega)) ?_
   refine RK.c (S.assign .none rfl (.tmp rfl rfl)) ?_
   refine RK.nil ?_
   refine Ab.D.blk ?_
   refine Ab.D.code (OK.reg ?_)
   refine RK.c (S.add .none rfl (.tmp rfl rfl) (.cint rfl) (IntWalk.i64_in _ (by omega)) (IntWalk.i64_in _ (by omega))) ?_
   refine RK.c (S.move .none rfl (.tmp rfl rfl)) ?_
   refine RK.nil ?_
   refine Ab.D.lp ⟨i + 1, (by omega), (by omega), rfl, rfl, rfl, rfl, rfl, rfl, (lk_own (by first | (rw [mom_T (by omega) c29]; simp) | rw [mom_F (by omega) c29])), (lk_arr (by first | (rw [mom_T (by omega) c29]; simp) | rw [mom_F (by omega) c29])), rfl, rfl, rfl, trivial⟩
  ·
   refine OK.skip ?_
   refine Ab.D.blk ?_
   refine Ab.D.code (OK.reg ?_)
   refine RK.c (S.add .none rfl (.tmp rfl rfl) (.cint rfl) (IntWalk.i64_in _ (by omega)) (IntWalk.i64_in _ (by omega))) ?_
   refine RK.c (S.move .none rfl (.tmp rfl rfl)) ?_
   refine RK.nil ?_
   refine Ab.D.lp ⟨i + 1, (by omega), (by omega), rfl, rfl, rfl, rfl, rfl, rfl, (lk_own (by first | (rw [mom_T (by omega) c29]; simp) | rw [mom_F (by omega) c29])), (lk_arr (by first | (rw [mom_T (by omega) c29]; simp) | rw [mom_F (by omega) c29])), rfl, rfl, rfl, trivial⟩
 ·
  refine OK.exit rfl ?_
  refine Ab.D.code ?_
  refine OK.seq ?_
  have hil : i = l.length := by omega
  have hml := mom_len l x i
  refine OK.reg ?_
  refine RK.c (S.move .none rfl (.tmp rfl rfl)) ?_
  refine RK.c (S.makeFunc3 .none rfl (.tmp rfl rfl) (.tmp rfl rfl) (.tmp rfl rfl) rfl rfl rfl) ?_
  refine RK.c (S.callL (containsFunc_int (l := momentsT (l.take i) x) (g := fun t => decide (powerT t l + x.power > peak)) (caps := [.eptr [.sl (l.map Run.cs)], .eptr x.cs, .eptr [.int .i64 peak]]) (fun t _ => shp_fits1 hl hn hx3) Tryz.call194 ⟨rfl, rfl⟩) Tryz.call148 .none rfl (.cons (.tmp rfl rfl) (.cons (.tmp rfl rfl) .nil)) (.cons (.p (.own rfl (by simp)) rfl) (.cons (.fn (.cons (.ptr rfl rfl rfl rfl) (.cons (.ptr rfl rfl rfl rfl) (.cons (.ptr rfl rfl rfl rfl) .nil)))) .nil)) rfl) ?_
  refine RK.c (S.not .none rfl (.tmp rfl rfl)) ?_
  refine RK.c (S.assign .none rfl (.tmp rfl rfl)) ?_
  refine RK.nil (Ab.D.code ?_)
  refine OK.ret (Ret.r1 (.tmp rfl rfl (.c (.same rfl) rfl) rfl) ?_)
  rw [hil, List.take_length]
  rfl
end Go.Proofs.YtpfepjgnojfppaaGreatDoor
