import Derived.Test.YtbnimikgjjjcaaaGreatDoorFy
import Derived.Test.YtbnimikgjjjcaaaGreatDoorSh
import Derived.Test.YtbnimikgjjjcaaaGreatDoorWa
namespace Go.Proofs.YtbnimikgjjjcaaaGreatDoor
open Go.Ab
structure Job where
  name : List UInt8
  setup : Int
  ticks : Int
  due : Int
  deriving DecidableEq
def Job.cs (x : Job) : List X := [.str x.name, .int .i64 x.setup, .int .i64 x.ticks, .int .i64 x.due]
structure Changes where
  start : Int
  ticks : List (List Int)
  deriving DecidableEq
def Changes.cs (x : Changes) : List X := [.int .i64 x.start, .sl (x.ticks.map fun l => [.sl (l.map fun n => [.int .i64 n])])]
structure Lot where
  name : List UInt8
  heat : List UInt8
  parts : Int
  deriving DecidableEq
def Lot.cs (x : Lot) : List X := [.str x.name, .str x.heat, .int .i64 x.parts]
structure Share where
  lot : List UInt8
  parts : Int
  deriving DecidableEq
def Share.cs (x : Share) : List X := [.str x.lot, .int .i64 x.parts]
structure Basket where
  shares : List Share
  deriving DecidableEq
def Basket.cs (x : Basket) : List X := [.sl (x.shares.map Share.cs)]
structure Run where
  start : Int
  ticks : Int
  power : Int
  deriving DecidableEq
def Run.cs (x : Run) : List X := [.int .i64 x.start, .int .i64 x.ticks, .int .i64 x.power]
structure Chart where
  count : Int
  sum : Int
  squares : Int
  deriving DecidableEq
def Chart.cs (x : Chart) : List X := [.int .i64 x.count, .int .i64 x.sum, .int .i64 x.squares]
structure Bath where
  tick : Int
  value : Range
  deriving DecidableEq
def Bath.cs (x : Bath) : List X := [.int .i64 x.tick, .int .i64 x.value.lo, .int .i64 x.value.hi]
def gcdGo : Nat → Int → Int → Int
  | 0, a, _ => a
  | f + 1, a, b => if b = 0 then a else gcdGo f b (a.tmod b)
def gcdT (a b : Int) : Int := gcdGo (b.toNat + 1) a b
theorem gcdGo_more : ∀ (f g : Nat) (a b : Int), 0 ≤ a → 0 ≤ b → b.toNat < f → b.toNat < g → gcdGo f a b = gcdGo g a b
  | 0, _, _, _, _, _, h, _ => by omega
  | _ + 1, 0, _, _, _, _, _, h => by omega
  | f + 1, g + 1, a, b, ha, hb, h1, h2 => by
    simp only [gcdGo]
    split
    · rfl
    · have h3 : 0 ≤ a.tmod b := Int.tmod_nonneg b ha
      have h4 : a.tmod b < b := Int.tmod_lt_of_pos a (by omega)
      exact gcdGo_more f g b (a.tmod b) hb h3 (by omega) (by omega)
theorem gcdT_step {a b : Int} (ha : 0 ≤ a) (hb : 0 ≤ b) (h : b ≠ 0) : gcdT a b = gcdT b (a.tmod b) := by
  have h3 : 0 ≤ a.tmod b := Int.tmod_nonneg b ha
  have h4 : a.tmod b < b := Int.tmod_lt_of_pos a (by omega)
  rw [gcdT, gcdGo, if_neg h]
  exact gcdGo_more _ _ _ _ hb h3 (by omega) (by omega)
theorem gcdT_0 (a : Int) : gcdT a 0 = a := by simp [gcdT, gcdGo]
theorem gcdT_pos : ∀ (f : Nat) (a b : Int), 0 < a → 0 ≤ b → b.toNat < f → 0 < gcdT a b
  | 0, _, _, _, _, h => by omega
  | f + 1, a, b, ha, hb, h => by
    by_cases h0 : b = 0
    · subst h0; rw [gcdT_0]; exact ha
    · rw [gcdT_step (by omega) hb h0]
      have h3 : 0 ≤ a.tmod b := Int.tmod_nonneg b (by omega)
      have h4 : a.tmod b < b := Int.tmod_lt_of_pos a (by omega)
      exact gcdT_pos f b (a.tmod b) (by omega) h3 (by omega)
theorem sortsI : SortsI Tryz.prog 81 := ⟨fun blk off cap zs w h1 h2 h3 => Tryz.slices_Sort_int blk off cap zs w h1 h2 h3, fun p cap w => Tryz.slices_Sort_int_none p cap w⟩
def sorted (l : List Int) : List Int := l.mergeSort fun x y => decide (x ≤ y)
theorem sort_len (zs : List Int) : (zs.mergeSort fun x y => decide (x ≤ y)).length = zs.length := (List.mergeSort_perm zs _).length_eq
theorem firstE1 (a : Int) : firstE [a] = a := by simp only [firstE]; split <;> omega
theorem firstE2 (a b : Int) : firstE [a, b] = if a ≠ 0 then a else b := by rw [firstE, firstE1]
theorem firstE3 (a b c : Int) : firstE [a, b, c] = if a ≠ 0 then a else if b ≠ 0 then b else c := by rw [firstE, firstE2]
def runE (r : Run) : Int := if (0 ≤ r.start ∧ r.start ≤ 100000) ∧ (1 ≤ r.ticks ∧ r.ticks ≤ 100000) ∧ (1 ≤ r.power ∧ r.power ≤ 100000) then 0 else 2
def runsChk (l : List Run) : Int × Int := if 12 < l.length then (0, 8) else if 0 ≤ idxGo (fun r => decide (runE r ≠ 0)) 0 l then (idxGo (fun r => decide (runE r ≠ 0)) 0 l, 2) else (0, 0)
def peakE (n : Int) : Int := if 1 ≤ n ∧ n ≤ 200000 then 0 else 2
def powOf (tick : Int) (r : Run) : Int := if r.start ≤ tick ∧ tick ≤ r.start + r.ticks - 1 then r.power else 0
def powerT (tick : Int) : List Run → Int
  | [] => 0
  | r :: l => powOf tick r + powerT tick l
def RunB (B : Int) (r : Run) : Prop := (0 ≤ r.start ∧ r.start ≤ B) ∧ (1 ≤ r.ticks ∧ r.ticks ≤ 100000) ∧ (1 ≤ r.power ∧ r.power ≤ 100000)
theorem power_app (tick : Int) : ∀ a b : List Run, powerT tick (a ++ b) = powerT tick a + powerT tick b
  | [], b => by simp [powerT]
  | r :: a, b => by simp only [List.cons_append, powerT, power_app tick a b]; omega
theorem power_take {tick : Int} {l : List Run} {i : Nat} (h : i < l.length) : powerT tick (l.take (i + 1)) = powerT tick (l.take i) + powOf tick l[i] := by
  rw [List.take_succ_eq_append_getElem h, power_app]
  simp [powerT]
theorem powOf_bd {B : Int} {r : Run} (h : RunB B r) (tick : Int) : 0 ≤ powOf tick r ∧ powOf tick r ≤ 100000 := by
  obtain ⟨h1, h2, h3⟩ := h
  unfold powOf
  split <;> omega
theorem power_bd {B : Int} (tick : Int) : ∀ {l : List Run}, (∀ r ∈ l, RunB B r) → 0 ≤ powerT tick l ∧ powerT tick l ≤ 100000 * l.length
  | [], _ => by simp [powerT]
  | r :: l, h => by
    have h1 := powOf_bd (h r List.mem_cons_self) tick
    have h2 := power_bd tick fun q hq => h q (List.mem_cons_of_mem r hq)
    simp only [powerT, List.length_cons]
    omega
def mom1 (x r : Run) : Bool := decide (x.start ≤ r.start ∧ r.start ≤ x.start + x.ticks - 1)
def momentsT (l : List Run) (x : Run) : List Int := x.start :: (l.filter (mom1 x)).map (·.start)
def fitsT (l : List Run) (x : Run) (peak : Int) : Bool := !((momentsT l x).any fun t => decide (powerT t l + x.power > peak))
theorem mom_T {l : List Run} {x : Run} {i : Nat} (h : i < l.length) (hc : x.start ≤ l[i].start ∧ l[i].start ≤ x.start + x.ticks - 1) : momentsT (l.take (i + 1)) x = momentsT (l.take i) x ++ [l[i].start] := by
  have hm : mom1 x l[i] = true := decide_eq_true hc
  have hf : [l[i]].filter (mom1 x) = [l[i]] := by rw [List.filter_cons, if_pos hm, List.filter_nil]
  rw [momentsT, List.take_succ_eq_append_getElem h, List.filter_append, List.map_append, hf]
  rfl
theorem mom_F {l : List Run} {x : Run} {i : Nat} (h : i < l.length) (hc : ¬ (x.start ≤ l[i].start ∧ l[i].start ≤ x.start + x.ticks - 1)) : momentsT (l.take (i + 1)) x = momentsT (l.take i) x := by
  have hm : ¬ mom1 x l[i] = true := by rw [show mom1 x l[i] = false from decide_eq_false hc]; decide
  have hf : [l[i]].filter (mom1 x) = [] := by rw [List.filter_cons, if_neg hm, List.filter_nil]
  rw [momentsT, List.take_succ_eq_append_getElem h, List.filter_append, List.map_append, hf, List.map_nil, List.append_nil]
  rfl
theorem mom_len (l : List Run) (x : Run) (i : Nat) : (momentsT (l.take i) x).length ≤ i + 1 := by
  have h1 := List.length_filter_le (mom1 x) (l.take i)
  have h2 : (l.take i).length ≤ i := List.length_take_le i l
  simp only [momentsT, List.length_cons, List.length_map]
  omega
def isVal9 (n : Int) : Bool := decide (-10000 ≤ n ∧ n ≤ 10000)
def valsE (l : List Int) : Int := if l.length = 0 then 10 else if 40 < l.length then 8 else if l.all isVal9 = true then 0 else 2
def limE (r : Range) : Int := if ¬ ((-10000 ≤ r.lo ∧ r.lo ≤ 10000) ∧ (-10000 ≤ r.hi ∧ r.hi ≤ 10000)) then 2 else if r.lo ≤ r.hi then 0 else 9
theorem any_not (g : Int → Bool) (l : List Int) : (l.any fun n => !g n) = !l.all g := by
  induction l with
  | nil => rfl
  | cons x l ih => simp [ih]
def sumT (l : List Int) : Int := l.sum
def sqT (l : List Int) : Int := (l.map fun n => n * n).sum
def chartT (l : List Int) : Chart := ⟨l.length, sumT l, sqT l⟩
theorem sum_take {l : List Int} {i : Nat} (h : i < l.length) : sumT (l.take (i + 1)) = sumT (l.take i) + l[i] := by
  rw [sumT, List.take_succ_eq_append_getElem h, List.sum_append]; simp [sumT]
theorem sq_take {l : List Int} {i : Nat} (h : i < l.length) : sqT (l.take (i + 1)) = sqT (l.take i) + l[i] * l[i] := by
  rw [sqT, List.take_succ_eq_append_getElem h, List.map_append, List.sum_append]; simp [sqT]
theorem sq_bd {n : Int} (h : -10000 ≤ n ∧ n ≤ 10000) : 0 ≤ n * n ∧ n * n ≤ 100000000 := by
  by_cases h0 : 0 ≤ n
  · have h1 := Int.mul_nonneg h0 h0
    have h2 := Int.mul_le_mul h.2 h.2 h0 (by omega)
    omega
  · have h1 := Int.mul_nonneg (a := -n) (b := -n) (by omega) (by omega)
    have h2 : -n * -n ≤ 10000 * 10000 := Int.mul_le_mul (by omega) (by omega) (by omega) (by omega)
    rw [Int.neg_mul_neg] at h1 h2
    omega
theorem sums_bd : ∀ {l : List Int}, (∀ n ∈ l, -10000 ≤ n ∧ n ≤ 10000) → (-(10000 * (l.length : Int)) ≤ sumT l ∧ sumT l ≤ 10000 * l.length) ∧ 0 ≤ sqT l ∧ sqT l ≤ 100000000 * l.length
  | [], _ => by simp [sumT, sqT]
  | n :: l, h => by
    have h1 := h n List.mem_cons_self
    have h2 := sums_bd fun q hq => h q (List.mem_cons_of_mem n hq)
    have h3 := sq_bd h1
    simp only [sumT, sqT, List.sum_cons, List.map_cons, List.length_cons] at *
    omega
def spreadT (c : Chart) : Int := c.count * c.squares - c.sum * c.sum
def offT (c : Chart) (v : Int) : Int := c.count * v - c.sum
theorem shp_within {n lo hi : Int} : Ct Tryz.prog 41 [.int .i64 n, .int .i64 lo, .int .i64 hi] (.bool (decide (lo ≤ n ∧ n ≤ hi))) := by
 refine Ct.intro (rs := [.tmp 6]) Tryz.func41 rfl Tryz.ntmps41 Tryz.results41 rfl rfl rfl fun w h => ?_
 refine OK.seq (OK.reg ?_)
 refine RK.c (S.assign .none rfl .cbool) ?_
 refine RK.nil (Ab.D.code (OK.seq (OK.reg ?_)))
 refine RK.c (S.move .none rfl (.tmp rfl rfl)) ?_
 refine RK.c (S.move .none rfl (.tmp rfl rfl)) ?_
 refine RK.c (S.leq .none rfl (.tmp rfl rfl) (.tmp rfl rfl)) ?_
 refine RK.c (S.move .none rfl (.tmp rfl rfl)) ?_
 refine RK.splitD (t := 10) rfl (fun g10 => ?_) (fun g10 => ?_)
 ·
  refine RK.c (S.move (.yes rfl rfl rfl rfl) rfl (.tmp rfl rfl)) ?_
  refine RK.c (S.move (.yes rfl rfl rfl rfl) rfl (.tmp rfl rfl)) ?_
  refine RK.c (S.leq (.yes rfl rfl rfl rfl) rfl (.tmp rfl rfl) (.tmp rfl rfl)) ?_
  refine RK.c (S.pickT .none rfl (.tmp rfl rfl) (.tmp rfl rfl) rfl) ?_
  refine RK.c (S.assign .none rfl (.tmp rfl rfl)) ?_
  refine RK.nil (Ab.D.code ?_)
  refine OK.ret (Ret.r1 (.tmp rfl rfl (.c (.same rfl) rfl) rfl) ?_)
  simp [*]
 ·
  refine RK.c (S.skip rfl rfl rfl rfl rfl) ?_
  refine RK.c (S.skip rfl rfl rfl rfl rfl) ?_
  refine RK.c (S.skip rfl rfl rfl rfl rfl) ?_
  refine RK.c (S.pickF .none rfl (.tmp rfl rfl) .cbool rfl) ?_
  refine RK.c (S.assign .none rfl (.tmp rfl rfl)) ?_
  refine RK.nil (Ab.D.code ?_)
  refine OK.ret (Ret.r1 (.tmp rfl rfl (.c (.same rfl) rfl) rfl) ?_)
  simp [*]
theorem shop_unless {ok : Bool} {e : Int} : Ct Tryz.prog 40 [.bool ok, .int .i64 e] (.int .i64 (unlessE ok e)) := by
 refine Ct.intro (rs := [.tmp 4]) Tryz.func40 rfl Tryz.ntmps40 Tryz.results40 rfl rfl rfl fun w h => ?_
 refine OK.seq (OK.reg ?_)
 refine RK.c (S.assign .none rfl (.cint rfl)) ?_
 refine RK.nil (Ab.D.code (OK.seq (OK.seq (OK.reg ?_))))
 refine RK.c (S.move .none rfl (.tmp rfl rfl)) ?_
 refine RK.nil (Ab.D.code ?_)
 refine OK.cond rfl rfl (fun c5 => ?_) (fun c5 => ?_)
 ·
  refine OK.seq (OK.reg ?_)
  refine RK.c (S.assign .none rfl (.cint rfl)) ?_
  refine RK.nil (Ab.D.code ?_)
  refine OK.ret (Ret.r1 (.tmp rfl rfl (.c (.same rfl) rfl) rfl) ?_)
  simp [unlessE, *]
 ·
  refine OK.skip ?_
  refine Ab.D.code (OK.seq (OK.reg ?_))
  refine RK.c (S.move .none rfl (.tmp rfl rfl)) ?_
  refine RK.c (S.assign .none rfl (.tmp rfl rfl)) ?_
  refine RK.nil (Ab.D.code ?_)
  refine OK.ret (Ret.r1 (.tmp rfl rfl (.c (.same rfl) rfl) rfl) ?_)
  simp [unlessE, *]
theorem shop_first {l : List Int} : Ct Tryz.prog 36 [ints l] (.int .i64 (firstE l)) := by
 refine Ct.intro (rs := [.tmp 2]) Tryz.func36 rfl Tryz.ntmps36 Tryz.results36 rfl rfl rfl fun w h => ?_
 refine OK.slLen (rows := l.map fun n => [.int .i64 n]) (t := 0) rfl rfl fun hlen => ?_
 rw [List.length_map] at hlen
 unfold maxLen at hlen
 refine OK.seq (OK.reg ?_)
 refine RK.c (S.assign .none rfl (.cint rfl)) ?_
 refine RK.nil (Ab.D.code (OK.seq (OK.seq (OK.reg ?_))))
 refine RK.c (S.move .none rfl (.tmp rfl rfl)) ?_
 refine RK.c (S.lenM si130 .none rfl (.tmp rfl rfl)) ?_
 refine RK.c (S.move .none rfl (.cint rfl)) ?_
 refine RK.nil (Ab.D.code ?_)
 refine OK.block ?_
 refine OK.loop (G := Nat) [] (fun i => [(5, ints l), (6, .int .i64 l.length), (7, .int .i64 i)]) (fun i => i ≤ l.length ∧ firstE l = firstE (l.drop i)) (fun i => l.length - i) 0 ⟨Nat.zero_le _, rfl⟩ ⟨rfl, rfl, rfl, trivial⟩ (fun _ => rfl) ?_
 rintro i ⟨hi, hf⟩
 refine OK.seq (OK.reg ?_)
 refine RK.c (S.lss .none rfl (.tmp rfl rfl) (.tmp rfl rfl)) ?_
 refine RK.nil (Ab.D.code ?_)
 refine OK.seq ?_
 refine OK.condD rfl rfl (fun c8 => ?_) (fun c8 => ?_)
 ·
  refine OK.skip ?_
  refine Ab.D.code ?_
  refine OK.seq ?_
  refine OK.block ?_
  refine OK.seq (OK.reg ?_)
  refine RK.c (S.indexM si130 .none rfl (.tmp rfl rfl) (.tmp rfl rfl) rfl (by omega) rfl) ?_
  refine RK.c (S.load1 ti31 .none rfl (.tmp rfl rfl) rfl) ?_
  refine RK.c (S.assign .none rfl (.tmp rfl rfl)) ?_
  refine RK.nil (Ab.D.code (OK.seq (OK.reg ?_)))
  refine RK.c (S.move .none rfl (.tmp rfl rfl)) ?_
  refine RK.c (S.neq .none rfl (.tmp rfl rfl) (.cint rfl)) ?_
  refine RK.nil (Ab.D.code ?_)
  refine OK.condD rfl rfl (fun c12 => ?_) (fun c12 => ?_)
  ·
   refine OK.seq (OK.reg ?_)
   refine RK.c (S.move .none rfl (.tmp rfl rfl)) ?_
   refine RK.c (S.assign .none rfl (.tmp rfl rfl)) ?_
   refine RK.nil (Ab.D.code ?_)
   refine OK.ret (Ret.r1 (.tmp rfl rfl (.c (.same rfl) rfl) rfl) ?_)
   rw [hf, firstE_drop (by omega)]
   simp_all
  ·
   refine OK.skip ?_
   refine Ab.D.blk ?_
   refine Ab.D.code (OK.reg ?_)
   refine RK.c (S.add .none rfl (.tmp rfl rfl) (.cint rfl) (IntWalk.i64_in _ (by omega)) (IntWalk.i64_in _ (by omega))) ?_
   refine RK.c (S.move .none rfl (.tmp rfl rfl)) ?_
   refine RK.nil ?_
   refine Ab.D.lp ⟨i + 1, ⟨by omega, ?_⟩, (by omega), rfl, rfl, rfl, trivial⟩
   rw [hf, firstE_drop (by omega)]
   simp_all
 ·
  refine OK.exit rfl ?_
  refine Ab.D.code (OK.seq (OK.reg ?_))
  refine RK.c (S.assign .none rfl (.cint rfl)) ?_
  refine RK.nil (Ab.D.code ?_)
  refine OK.ret (Ret.r1 (.tmp rfl rfl (.c (.same rfl) rfl) rfl) ?_)
  have : i = l.length := by omega
  subst this
  rw [hf, List.drop_length]
  rfl
theorem shp_isName {s : List UInt8} : Ct Tryz.prog 72 [.str s] (.bool (nameOk s)) := by
 refine Ct.intro (rs := [.tmp 2]) Tryz.func72 rfl Tryz.ntmps72 Tryz.results72 rfl rfl rfl fun w h => ?_
 refine OK.strLen (t := 0) (z := s) rfl rfl fun hlen => ?_
 unfold maxLen at hlen
 refine OK.seq (OK.reg ?_)
 refine RK.c (S.assign .none rfl .cbool) ?_
 refine RK.nil (Ab.D.code (OK.seq (OK.seq (OK.reg ?_))))
 refine RK.c (S.move .none rfl (.tmp rfl rfl)) ?_
 refine RK.c (S.bytes Tryz.underlying9 Tryz.underlying150 Tryz.underlying5 .none rfl (.tmp rfl rfl)) ?_
 refine RK.c (S.lenM si150 .none rfl (.tmp rfl rfl)) ?_
 refine RK.c (S.move .none rfl (.cint rfl)) ?_
 refine RK.nil (Ab.D.code ?_)
 refine OK.block ?_
 refine OK.loop (G := Nat) [] (fun i => [(0, .str s), (7, .sl (s.map fun b => [.int .u8 b.toNat])), (8, .int .i64 s.length), (9, .int .i64 i)]) (fun i => i ≤ s.length ∧ allGo nameC 0 s = allGo nameC i (s.drop i)) (fun i => s.length - i) 0 ⟨Nat.zero_le _, rfl⟩ ⟨rfl, rfl, rfl, rfl, trivial⟩ (fun _ => rfl) ?_
 rintro i ⟨hi, hg⟩
 refine OK.seq (OK.reg ?_)
 refine RK.c (S.lss .none rfl (.tmp rfl rfl) (.tmp rfl rfl)) ?_
 refine RK.nil (Ab.D.code ?_)
 refine OK.seq ?_
 refine OK.condD rfl rfl (fun c10 => ?_) (fun c10 => ?_)
 ·
  refine OK.skip ?_
  refine Ab.D.code ?_
  refine OK.seq ?_
  refine OK.block ?_
  refine OK.seq (OK.reg ?_)
  refine RK.c (S.move .none rfl (.tmp rfl rfl)) ?_
  refine RK.c (S.indexM si150 .none rfl (.tmp rfl rfl) (.tmp rfl rfl) rfl (by omega) rfl) ?_
  refine RK.c (S.load1 ti5 .none rfl (.tmp rfl rfl) rfl) ?_
  refine RK.c (S.assign .none rfl (.tmp rfl rfl)) ?_
  refine RK.c (S.assign .none rfl (.tmp rfl rfl)) ?_
  refine RK.nil (Ab.D.code (OK.seq (OK.reg ?_)))
  refine RK.c (S.move .none rfl (.tmp rfl rfl)) ?_
  refine RK.c (S.conv .none rfl (.tmp rfl rfl) Tryz.underlying5 Tryz.underlying3 (IntWalk.i64_in _ (u8_i64 _)) (IntWalk.i64_in _ (u8_i64 _))) ?_
  refine RK.c (S.call (shp_within) Tryz.call41 .none rfl (.cons (.tmp rfl rfl) (.cons (.cint rfl) (.cons (.cint rfl) .nil))) rfl) ?_
  refine RK.c (S.move .none rfl (.tmp rfl rfl)) ?_
  refine RK.splitD (t := 17) rfl (fun g17 => ?_) (fun g17 => ?_)
  ·
   refine RK.c (S.skip rfl rfl rfl rfl rfl) ?_
   refine RK.c (S.skip rfl rfl rfl rfl rfl) ?_
   refine RK.c (S.skip rfl rfl rfl rfl rfl) ?_
   refine RK.c (S.pickT .none rfl (.tmp rfl rfl) .cbool rfl) ?_
   refine RK.c (S.assign .none rfl (.tmp rfl rfl)) ?_
   refine RK.nil (Ab.D.code (OK.seq (OK.reg ?_)))
   refine RK.c (S.move .none rfl (.tmp rfl rfl)) ?_
   refine RK.c (S.not .none rfl (.tmp rfl rfl)) ?_
   refine RK.c (S.move .none rfl (.tmp rfl rfl)) ?_
   refine RK.c (S.skip rfl rfl rfl rfl rfl) ?_
   refine RK.c (S.skip rfl rfl rfl rfl rfl) ?_
   refine RK.c (S.skip rfl rfl rfl rfl rfl) ?_
   refine RK.c (S.skipU rfl rfl rfl rfl) ?_
   refine RK.c (S.skipU rfl rfl rfl rfl) ?_
   refine RK.c (S.skipU rfl rfl rfl rfl) ?_
   refine RK.c (S.skipU rfl rfl rfl rfl) ?_
   refine RK.c (S.skipU rfl rfl rfl rfl) ?_
   refine RK.c (S.skipU rfl rfl rfl rfl) ?_
   refine RK.c (S.skipU rfl rfl rfl rfl) ?_
   refine RK.c (S.skipU rfl rfl rfl rfl) ?_
   refine RK.c (S.skip rfl rfl rfl rfl rfl) ?_
   refine RK.c (S.pickF .none rfl (.tmp rfl rfl) .cbool rfl) ?_
   refine RK.nil (Ab.D.code ?_)
   refine OK.condF rfl rfl rfl ?_
   refine OK.skip ?_
   refine Ab.D.blk ?_
   refine Ab.D.code (OK.reg ?_)
   refine RK.c (S.add .none rfl (.tmp rfl rfl) (.cint rfl) (IntWalk.i64_in _ (by omega)) (IntWalk.i64_in _ (by omega))) ?_
   refine RK.c (S.move .none rfl (.tmp rfl rfl)) ?_
   refine RK.nil ?_
   refine Ab.D.lp ⟨i + 1, ⟨by omega, ?_⟩, (by omega), rfl, rfl, rfl, rfl, trivial⟩
   exact nameT (by omega) hg (by simp only [nameC, Bool.or_eq_true, Bool.and_eq_true, decide_eq_true_iff]; omega)
  ·
   refine RK.c (S.move (.yes rfl rfl rfl rfl) rfl (.tmp rfl rfl)) ?_
   refine RK.c (S.conv (.yes rfl rfl rfl rfl) rfl (.tmp rfl rfl) Tryz.underlying5 Tryz.underlying3 (IntWalk.i64_in _ (u8_i64 _)) (IntWalk.i64_in _ (u8_i64 _))) ?_
   refine RK.c (S.call (shp_within) Tryz.call41 (.yes rfl rfl rfl rfl) rfl (.cons (.tmp rfl rfl) (.cons (.cint rfl) (.cons (.cint rfl) .nil))) rfl) ?_
   refine RK.c (S.pickF .none rfl (.tmp rfl rfl) (.tmp rfl rfl) rfl) ?_
   refine RK.c (S.assign .none rfl (.tmp rfl rfl)) ?_
   refine RK.nil (Ab.D.code (OK.seq (OK.reg ?_)))
   refine RK.c (S.move .none rfl (.tmp rfl rfl)) ?_
   refine RK.c (S.notD .none rfl (.tmp rfl rfl)) ?_
   refine RK.c (S.move .none rfl (.tmp rfl rfl)) ?_
   refine RK.splitD (t := 24) rfl (fun g24 => ?_) (fun g24 => ?_)
   ·
    refine RK.c (S.move (.yes rfl rfl rfl rfl) rfl (.tmp rfl rfl)) ?_
    refine RK.c (S.eql (.yes rfl rfl rfl rfl) rfl (.tmp rfl rfl) (.cint rfl)) ?_
    refine RK.c (S.move (.yes rfl rfl rfl rfl) rfl (.tmp rfl rfl)) ?_
    refine RK.splitD (t := 27) rfl (fun g27 => ?_) (fun g27 => ?_)
    ·
     refine RK.c (S.skip rfl rfl rfl rfl rfl) ?_
     refine RK.c (S.skip rfl rfl rfl rfl rfl) ?_
     refine RK.c (S.skip rfl rfl rfl rfl rfl) ?_
     refine RK.c (S.skipU rfl rfl rfl rfl) ?_
     refine RK.c (S.skipU rfl rfl rfl rfl) ?_
     refine RK.c (S.skipU rfl rfl rfl rfl) ?_
     refine RK.c (S.skipU rfl rfl rfl rfl) ?_
     refine RK.c (S.skip rfl rfl rfl rfl rfl) ?_
     refine RK.c (S.pickT (.yes rfl rfl rfl rfl) rfl (.tmp rfl rfl) .cbool rfl) ?_
     refine RK.c (S.pickT .none rfl (.tmp rfl rfl) (.tmp rfl rfl) rfl) ?_
     refine RK.nil (Ab.D.code ?_)
     refine OK.condT rfl rfl rfl ?_
     refine OK.seq (OK.reg ?_)
     refine RK.c (S.assign .none rfl .cbool) ?_
     refine RK.nil (Ab.D.code ?_)
     refine OK.ret (Ret.r1 (.tmp rfl rfl (.c (.same rfl) rfl) rfl) ?_)
     exact nameF (by omega) hg (by simp only [nameC, Bool.or_eq_false_iff, Bool.and_eq_false_iff, decide_eq_false_iff_not]; omega)
    ·
     refine RK.c (S.move (.yes rfl rfl rfl rfl) rfl (.tmp rfl rfl)) ?_
     refine RK.c (S.neq (.yes rfl rfl rfl rfl) rfl (.tmp rfl rfl) (.cint rfl)) ?_
     refine RK.c (S.move (.yes rfl rfl rfl rfl) rfl (.tmp rfl rfl)) ?_
     refine RK.splitD (t := 30) rfl (fun g30 => ?_) (fun g30 => ?_)
     ·
      refine RK.c (S.move (.yes rfl rfl rfl rfl) rfl (.tmp rfl rfl)) ?_
      refine RK.c (S.conv (.yes rfl rfl rfl rfl) rfl (.tmp rfl rfl) Tryz.underlying5 Tryz.underlying3 (IntWalk.i64_in _ (u8_i64 _)) (IntWalk.i64_in _ (u8_i64 _))) ?_
      refine RK.c (S.call (shp_within) Tryz.call41 (.yes rfl rfl rfl rfl) rfl (.cons (.tmp rfl rfl) (.cons (.cint rfl) (.cons (.cint rfl) .nil))) rfl) ?_
      refine RK.c (S.notD (.yes rfl rfl rfl rfl) rfl (.tmp rfl rfl)) ?_
      refine RK.c (S.pickT (.yes rfl rfl rfl rfl) rfl (.tmp rfl rfl) (.tmp rfl rfl) rfl) ?_
      refine RK.c (S.pickF (.yes rfl rfl rfl rfl) rfl (.tmp rfl rfl) (.tmp rfl rfl) rfl) ?_
      refine RK.c (S.pickT .none rfl (.tmp rfl rfl) (.tmp rfl rfl) rfl) ?_
      refine RK.nil (Ab.D.code ?_)
      refine OK.condD rfl rfl (fun c37 => ?_) (fun c37 => ?_)
      ·
       refine OK.seq (OK.reg ?_)
       refine RK.c (S.assign .none rfl .cbool) ?_
       refine RK.nil (Ab.D.code ?_)
       refine OK.ret (Ret.r1 (.tmp rfl rfl (.c (.same rfl) rfl) rfl) ?_)
       exact nameF (by omega) hg (by simp only [nameC, Bool.or_eq_false_iff, Bool.and_eq_false_iff, decide_eq_false_iff_not]; omega)
      ·
       refine OK.skip ?_
       refine Ab.D.blk ?_
       refine Ab.D.code (OK.reg ?_)
       refine RK.c (S.add .none rfl (.tmp rfl rfl) (.cint rfl) (IntWalk.i64_in _ (by omega)) (IntWalk.i64_in _ (by omega))) ?_
       refine RK.c (S.move .none rfl (.tmp rfl rfl)) ?_
       refine RK.nil ?_
       refine Ab.D.lp ⟨i + 1, ⟨by omega, ?_⟩, (by omega), rfl, rfl, rfl, rfl, trivial⟩
       exact nameT (by omega) hg (by simp only [nameC, Bool.or_eq_true, Bool.and_eq_true, decide_eq_true_iff]; omega)
     ·
      refine RK.c (S.skip rfl rfl rfl rfl rfl) ?_
      refine RK.c (S.skip rfl rfl rfl rfl rfl) ?_
      refine RK.c (S.skip rfl rfl rfl rfl rfl) ?_
      refine RK.c (S.skip rfl rfl rfl rfl rfl) ?_
      refine RK.c (S.pickF (.yes rfl rfl rfl rfl) rfl (.tmp rfl rfl) .cbool rfl) ?_
      refine RK.c (S.pickF (.yes rfl rfl rfl rfl) rfl (.tmp rfl rfl) (.tmp rfl rfl) rfl) ?_
      refine RK.c (S.pickT .none rfl (.tmp rfl rfl) (.tmp rfl rfl) rfl) ?_
      refine RK.nil (Ab.D.code ?_)
      refine OK.condF rfl rfl rfl ?_
      refine OK.skip ?_
      refine Ab.D.blk ?_
      refine Ab.D.code (OK.reg ?_)
      refine RK.c (S.add .none rfl (.tmp rfl rfl) (.cint rfl) (IntWalk.i64_in _ (by omega)) (IntWalk.i64_in _ (by omega))) ?_
      refine RK.c (S.move .none rfl (.tmp rfl rfl)) ?_
      refine RK.nil ?_
      refine Ab.D.lp ⟨i + 1, ⟨by omega, ?_⟩, (by omega), rfl, rfl, rfl, rfl, trivial⟩
      exact nameT (by omega) hg (by simp only [nameC, Bool.or_eq_true, Bool.and_eq_true, decide_eq_true_iff]; omega)
   ·
    refine RK.c (S.skip rfl rfl rfl rfl rfl) ?_
    refine RK.c (S.skip rfl rfl rfl rfl rfl) ?_
    refine RK.c (S.skip rfl rfl rfl rfl rfl) ?_
    refine RK.c (S.skipU rfl rfl rfl rfl) ?_
    refine RK.c (S.skipU rfl rfl rfl rfl) ?_
    refine RK.c (S.skipU rfl rfl rfl rfl) ?_
    refine RK.c (S.skipU rfl rfl rfl rfl) ?_
    refine RK.c (S.skipU rfl rfl rfl rfl) ?_
    refine RK.c (S.skipU rfl rfl rfl rfl) ?_
    refine RK.c (S.skipU rfl rfl rfl rfl) ?_
    refine RK.c (S.skipU rfl rfl rfl rfl) ?_
    refine RK.c (S.skip rfl rfl rfl rfl rfl) ?_
    refine RK.c (S.pickF .none rfl (.tmp rfl rfl) .cbool rfl) ?_
    refine RK.nil (Ab.D.code ?_)
    refine OK.condF rfl rfl rfl ?_
    refine OK.skip ?_
    refine Ab.D.blk ?_
    refine Ab.D.code (OK.reg ?_)
    refine RK.c (S.add .none rfl (.tmp rfl rfl) (.cint rfl) (IntWalk.i64_in _ (by omega)) (IntWalk.i64_in _ (by omega))) ?_
    refine RK.c (S.move .none rfl (.tmp rfl rfl)) ?_
    refine RK.nil ?_
    refine Ab.D.lp ⟨i + 1, ⟨by omega, ?_⟩, (by omega), rfl, rfl, rfl, rfl, trivial⟩
    exact nameT (by omega) hg (by simp only [nameC, Bool.or_eq_true, Bool.and_eq_true, decide_eq_true_iff]; omega)
 ·
  refine OK.exit rfl ?_
  refine Ab.D.code (OK.seq (OK.reg ?_))
  refine RK.c (S.move .none rfl (.tmp rfl rfl)) ?_
  refine RK.c (S.slen Tryz.underlying9 .none rfl (.tmp rfl rfl)) ?_
  refine RK.c (S.call (shp_within) Tryz.call41 .none rfl (.cons (.tmp rfl rfl) (.cons (.cint rfl) (.cons (.cint rfl) .nil))) rfl) ?_
  refine RK.c (S.assign .none rfl (.tmp rfl rfl)) ?_
  refine RK.nil (Ab.D.code ?_)
  refine OK.ret (Ret.r1 (.tmp rfl rfl (.c (.same rfl) rfl) rfl) ?_)
  have : i = s.length := by omega
  subst this
  rw [List.drop_length, allGo] at hg
  rw [nameOk, hg, Bool.true_and]
theorem shp_divisor {a b : Int} (ha : 0 ≤ a ∧ a ≤ 10000000000000) (hb : 0 ≤ b ∧ b ≤ 10000000000000) : Ct Tryz.prog 54 [.int .i64 a, .int .i64 b] (.int .i64 (gcdT a b)) := by
 refine Ct.intro (rs := [.tmp 4]) Tryz.func54 rfl Tryz.ntmps54 Tryz.results54 rfl rfl rfl fun w h => ?_
 refine OK.seq (OK.reg ?_)
 refine RK.c (S.assign .none rfl (.cint rfl)) ?_
 refine RK.nil (Ab.D.code ?_)
 refine OK.seq ?_
 refine OK.block ?_
 refine OK.loop2 [] (fun (x : Int) (y : Int) => [(0, .int .i64 x), (1, .int .i64 y)]) (fun x y => (0 ≤ x ∧ x ≤ 10000000000000) ∧ (0 ≤ y ∧ y ≤ 10000000000000) ∧ gcdT a b = gcdT x y) (fun x y => y.toNat) (a) (b) ⟨ha, hb, rfl⟩ ⟨rfl, rfl, trivial⟩ (fun _ _ => rfl) ?_
 rintro x y ⟨hx, hy, hg⟩
 refine OK.seq (OK.seq (OK.reg ?_))
 refine RK.c (S.move .none rfl (.tmp rfl rfl)) ?_
 refine RK.c (S.neq .none rfl (.tmp rfl rfl) (.cint rfl)) ?_
 refine RK.nil (Ab.D.code ?_)
 refine OK.condD rfl rfl (fun c6 => ?_) (fun c6 => ?_)
 ·
  have h3 : 0 ≤ x.tmod y := Int.tmod_nonneg y hx.1
  have h4 : x.tmod y < y := Int.tmod_lt_of_pos x (by omega)
  refine OK.skip ?_
  refine Ab.D.code ?_
  refine OK.block ?_
  refine OK.regionDraw follows (.c (S.move .none rfl (.tmp rfl rfl))
   (.c (S.move .none rfl (.tmp rfl rfl))
   (.c (S.move .none rfl (.tmp rfl rfl))
   (.c (S.rem .none rfl (.tmp rfl rfl) (.tmp rfl rfl) c6 rfl (IntWalk.i64_in _ (by omega)))
   (.c (S.assign .none rfl (.tmp rfl rfl))
   (.c (S.assign .none rfl (.tmp rfl rfl))
   .nil)))))) (by kernel_rfl) ?_
  refine Ab.D.blk ?_
  refine Ab.D.lp ⟨y, x.tmod y, ⟨hy, ⟨h3, by omega⟩, ?_⟩, (by omega), rfl, rfl, trivial⟩
  rw [hg, gcdT_step hx.1 hy.1 c6]
 ·
  refine OK.exit rfl ?_
  refine Ab.D.code (OK.seq (OK.reg ?_))
  refine RK.c (S.move .none rfl (.tmp rfl rfl)) ?_
  refine RK.c (S.assign .none rfl (.tmp rfl rfl)) ?_
  refine RK.nil (Ab.D.code ?_)
  refine OK.ret (Ret.r1 (.tmp rfl rfl (.c (.same rfl) rfl) rfl) ?_)
  have : y = 0 := by omega
  subst this
  rw [hg, gcdT_0]
theorem shp_isTicks {n least : Int} : Ct Tryz.prog 88 [.int .i64 n, .int .i64 least] (.bool (decide (least ≤ n ∧ n ≤ 100000))) := by
 refine Ct.intro (rs := [.tmp 4]) Tryz.func88 rfl Tryz.ntmps88 Tryz.results88 rfl rfl rfl fun w h => ?_
 refine OK.seq (OK.reg ?_)
 refine RK.c (S.assign .none rfl .cbool) ?_
 refine RK.nil (Ab.D.code (OK.seq (OK.reg ?_)))
 refine RK.c (S.move .none rfl (.tmp rfl rfl)) ?_
 refine RK.c (S.move .none rfl (.tmp rfl rfl)) ?_
 refine RK.c (S.call (shp_within) Tryz.call41 .none rfl (.cons (.tmp rfl rfl) (.cons (.tmp rfl rfl) (.cons (.cint rfl) .nil))) rfl) ?_
 refine RK.c (S.assign .none rfl (.tmp rfl rfl)) ?_
 refine RK.nil (Ab.D.code ?_)
 refine OK.ret (Ret.r1 (.tmp rfl rfl (.c (.same rfl) rfl) rfl) ?_)
 rfl
theorem shp_isParts {n : Int} : Ct Tryz.prog 73 [.int .i64 n] (.bool (decide (1 ≤ n ∧ n ≤ 1000))) := by
 refine Ct.intro (rs := [.tmp 2]) Tryz.func73 rfl Tryz.ntmps73 Tryz.results73 rfl rfl rfl fun w h => ?_
 refine OK.seq (OK.reg ?_)
 refine RK.c (S.assign .none rfl .cbool) ?_
 refine RK.nil (Ab.D.code (OK.seq (OK.reg ?_)))
 refine RK.c (S.move .none rfl (.tmp rfl rfl)) ?_
 refine RK.c (S.call (shp_within) Tryz.call41 .none rfl (.cons (.tmp rfl rfl) (.cons (.cint rfl) (.cons (.cint rfl) .nil))) rfl) ?_
 refine RK.c (S.assign .none rfl (.tmp rfl rfl)) ?_
 refine RK.nil (Ab.D.code ?_)
 refine OK.ret (Ret.r1 (.tmp rfl rfl (.c (.same rfl) rfl) rfl) ?_)
 rfl
theorem shp_isValue {n : Int} : Ct Tryz.prog 87 [.int .i64 n] (.bool (decide (-10000 ≤ n ∧ n ≤ 10000))) := by
 refine Ct.intro (rs := [.tmp 2]) Tryz.func87 rfl Tryz.ntmps87 Tryz.results87 rfl rfl rfl fun w h => ?_
 refine OK.seq (OK.reg ?_)
 refine RK.c (S.assign .none rfl .cbool) ?_
 refine RK.nil (Ab.D.code (OK.seq (OK.reg ?_)))
 refine RK.c (S.move .none rfl (.tmp rfl rfl)) ?_
 refine RK.c (S.call (shp_within) Tryz.call41 .none rfl (.cons (.tmp rfl rfl) (.cons (.cint rfl) (.cons (.cint rfl) .nil))) rfl) ?_
 refine RK.c (S.assign .none rfl (.tmp rfl rfl)) ?_
 refine RK.nil (Ab.D.code ?_)
 refine OK.ret (Ret.r1 (.tmp rfl rfl (.c (.same rfl) rfl) rfl) ?_)
 rfl
theorem indexFunc_Job {l : List Job} {fid : Nat} {caps : List X} {g : Job → Bool} (hf : ∀ x, x ∈ l → Ct Tryz.prog fid ([.agg x.cs] ++ caps) (.bool (g x))) (hcall : CallOk fid) (hc : Clean caps) : Ct Tryz.prog 95 [.sl (l.map Job.cs), .fn fid caps] (.int .i64 (idxGo g 0 l)) := by
 refine Ct.intro (rs := [.tmp 4]) Tryz.func95 rfl Tryz.ntmps95 Tryz.results95 rfl rfl rfl fun w h => ?_
 refine OK.slLen (rows := l.map Job.cs) (t := 0) rfl rfl fun hlen => ?_
 rw [List.length_map] at hlen
 unfold maxLen at hlen
 refine OK.seq (OK.reg ?_)
 refine RK.c (S.assign .none rfl (.cint rfl)) ?_
 refine RK.nil (Ab.D.code (OK.seq (OK.seq (OK.reg ?_))))
 refine RK.c (S.move .none rfl (.tmp rfl rfl)) ?_
 refine RK.c (S.lenM si22 .none rfl (.tmp rfl rfl)) ?_
 refine RK.c (S.move .none rfl (.cint rfl)) ?_
 refine RK.nil (Ab.D.code ?_)
 refine OK.block ?_
 refine OK.loop (G := Nat) [] (fun i => [(0, .sl (l.map Job.cs)), (1, .fn fid caps), (6, .sl (l.map Job.cs)), (7, .int .i64 l.length), (8, .int .i64 i)]) (fun i => i ≤ l.length ∧ idxGo g 0 l = idxGo g i (l.drop i)) (fun i => l.length - i) 0 ⟨Nat.zero_le _, rfl⟩ ⟨rfl, rfl, rfl, rfl, rfl, trivial⟩ (fun _ => by simp [okKey, okT, okV, okC, okP, hc.1]) ?_
 rintro i ⟨hi, hg⟩
 refine OK.seq (OK.reg ?_)
 refine RK.c (S.lss .none rfl (.tmp rfl rfl) (.tmp rfl rfl)) ?_
 refine RK.nil (Ab.D.code ?_)
 refine OK.seq ?_
 refine OK.condD rfl rfl (fun c9 => ?_) (fun c9 => ?_)
 ·
  refine OK.skip ?_
  refine Ab.D.code ?_
  refine OK.seq ?_
  refine OK.block ?_
  refine OK.seq (OK.reg ?_)
  refine RK.c (S.move .none rfl (.tmp rfl rfl)) ?_
  refine RK.c (S.assign .none rfl (.tmp rfl rfl)) ?_
  refine RK.nil (Ab.D.code (OK.seq (OK.reg ?_)))
  refine RK.c (S.move .none rfl (.tmp rfl rfl)) ?_
  refine RK.c (S.move .none rfl (.tmp rfl rfl)) ?_
  refine RK.c (S.move .none rfl (.tmp rfl rfl)) ?_
  refine RK.c (S.indexM si22 .none rfl (.tmp rfl rfl) (.tmp rfl rfl) rfl (by omega) rfl) ?_
  refine RK.c (S.loadN ti70 .none rfl (.tmp rfl rfl) rfl rfl) ?_
  refine RK.c (S.callv (hf _ (List.getElem_mem _)) hcall .none rfl (.tmp rfl rfl) (.cons (.tmp rfl rfl) .nil) rfl hc.1 hc.2) ?_
  refine RK.nil (Ab.D.code ?_)
  refine OK.cond rfl rfl (fun c16 => ?_) (fun c16 => ?_)
  ·
   refine OK.seq (OK.reg ?_)
   refine RK.c (S.move .none rfl (.tmp rfl rfl)) ?_
   refine RK.c (S.assign .none rfl (.tmp rfl rfl)) ?_
   refine RK.nil (Ab.D.code ?_)
   refine OK.ret (Ret.r1 (.tmp rfl rfl (.c (.same rfl) rfl) rfl) ?_)
   rw [hg, idxGo_drop _ (by omega)]
   simp_all
  ·
   refine OK.skip ?_
   refine Ab.D.blk ?_
   refine Ab.D.code (OK.reg ?_)
   refine RK.c (S.add .none rfl (.tmp rfl rfl) (.cint rfl) (IntWalk.i64_in _ (by omega)) (IntWalk.i64_in _ (by omega))) ?_
   refine RK.c (S.move .none rfl (.tmp rfl rfl)) ?_
   refine RK.nil ?_
   refine Ab.D.lp ⟨i + 1, ⟨by omega, ?_⟩, (by omega), rfl, rfl, rfl, rfl, rfl, trivial⟩
   rw [hg, idxGo_drop _ (by omega)]
   simp_all
 ·
  refine OK.exit rfl ?_
  refine Ab.D.code (OK.seq (OK.reg ?_))
  refine RK.c (S.assign .none rfl (.cint rfl)) ?_
  refine RK.nil (Ab.D.code ?_)
  refine OK.ret (Ret.r1 (.tmp rfl rfl (.c (.same rfl) rfl) rfl) ?_)
  have : i = l.length := by omega
  subst this
  rw [hg, List.drop_length]
  rfl
theorem containsFunc_Job {l : List Job} {fid : Nat} {caps : List X} {g : Job → Bool} (hf : ∀ x, x ∈ l → Ct Tryz.prog fid ([.agg x.cs] ++ caps) (.bool (g x))) (hcall : CallOk fid) (hc : Clean caps) : Ct Tryz.prog 63 [.sl (l.map Job.cs), .fn fid caps] (.bool (l.any g)) := by
 refine Ct.intro (rs := [.tmp 4]) Tryz.func63 rfl Tryz.ntmps63 Tryz.results63 rfl rfl rfl fun w h => ?_
 refine OK.seq (OK.reg ?_)
 refine RK.c (S.assign .none rfl .cbool) ?_
 refine RK.nil (Ab.D.code (OK.seq (OK.reg ?_)))
 refine RK.c (S.move .none rfl (.tmp rfl rfl)) ?_
 refine RK.c (S.move .none rfl (.tmp rfl rfl)) ?_
 refine RK.c (S.call (indexFunc_Job hf hcall hc) Tryz.call95 .none rfl (.cons (.tmp rfl rfl) (.cons (.tmp rfl rfl) .nil)) (by simp [okArg, okV, okC, okP, isTup, hc.1])) ?_
 refine RK.c (S.geq .none rfl (.tmp rfl rfl) (.cint rfl)) ?_
 refine RK.c (S.assign .none rfl (.tmp rfl rfl)) ?_
 refine RK.nil (Ab.D.code ?_)
 refine OK.ret (Ret.r1 (.tmp rfl rfl (.c (.same rfl) rfl) rfl) ?_)
 exact ret_b (by rw [← idxGo_any g l 0])
theorem indexFunc_Lot {l : List Lot} {fid : Nat} {caps : List X} {g : Lot → Bool} (hf : ∀ x, x ∈ l → Ct Tryz.prog fid ([.agg x.cs] ++ caps) (.bool (g x))) (hcall : CallOk fid) (hc : Clean caps) : Ct Tryz.prog 98 [.sl (l.map Lot.cs), .fn fid caps] (.int .i64 (idxGo g 0 l)) := by
 refine Ct.intro (rs := [.tmp 4]) Tryz.func98 rfl Tryz.ntmps98 Tryz.results98 rfl rfl rfl fun w h => ?_
 refine OK.slLen (rows := l.map Lot.cs) (t := 0) rfl rfl fun hlen => ?_
 rw [List.length_map] at hlen
 unfold maxLen at hlen
 refine OK.seq (OK.reg ?_)
 refine RK.c (S.assign .none rfl (.cint rfl)) ?_
 refine RK.nil (Ab.D.code (OK.seq (OK.seq (OK.reg ?_))))
 refine RK.c (S.move .none rfl (.tmp rfl rfl)) ?_
 refine RK.c (S.lenM si50 .none rfl (.tmp rfl rfl)) ?_
 refine RK.c (S.move .none rfl (.cint rfl)) ?_
 refine RK.nil (Ab.D.code ?_)
 refine OK.block ?_
 refine OK.loop (G := Nat) [] (fun i => [(0, .sl (l.map Lot.cs)), (1, .fn fid caps), (6, .sl (l.map Lot.cs)), (7, .int .i64 l.length), (8, .int .i64 i)]) (fun i => i ≤ l.length ∧ idxGo g 0 l = idxGo g i (l.drop i)) (fun i => l.length - i) 0 ⟨Nat.zero_le _, rfl⟩ ⟨rfl, rfl, rfl, rfl, rfl, trivial⟩ (fun _ => by simp [okKey, okT, okV, okC, okP, hc.1]) ?_
 rintro i ⟨hi, hg⟩
 refine OK.seq (OK.reg ?_)
 refine RK.c (S.lss .none rfl (.tmp rfl rfl) (.tmp rfl rfl)) ?_
 refine RK.nil (Ab.D.code ?_)
 refine OK.seq ?_
 refine OK.condD rfl rfl (fun c9 => ?_) (fun c9 => ?_)
 ·
  refine OK.skip ?_
  refine Ab.D.code ?_
  refine OK.seq ?_
  refine OK.block ?_
  refine OK.seq (OK.reg ?_)
  refine RK.c (S.move .none rfl (.tmp rfl rfl)) ?_
  refine RK.c (S.assign .none rfl (.tmp rfl rfl)) ?_
  refine RK.nil (Ab.D.code (OK.seq (OK.reg ?_)))
  refine RK.c (S.move .none rfl (.tmp rfl rfl)) ?_
  refine RK.c (S.move .none rfl (.tmp rfl rfl)) ?_
  refine RK.c (S.move .none rfl (.tmp rfl rfl)) ?_
  refine RK.c (S.indexM si50 .none rfl (.tmp rfl rfl) (.tmp rfl rfl) rfl (by omega) rfl) ?_
  refine RK.c (S.loadN ti96 .none rfl (.tmp rfl rfl) rfl rfl) ?_
  refine RK.c (S.callv (hf _ (List.getElem_mem _)) hcall .none rfl (.tmp rfl rfl) (.cons (.tmp rfl rfl) .nil) rfl hc.1 hc.2) ?_
  refine RK.nil (Ab.D.code ?_)
  refine OK.cond rfl rfl (fun c16 => ?_) (fun c16 => ?_)
  ·
   refine OK.seq (OK.reg ?_)
   refine RK.c (S.move .none rfl (.tmp rfl rfl)) ?_
   refine RK.c (S.assign .none rfl (.tmp rfl rfl)) ?_
   refine RK.nil (Ab.D.code ?_)
   refine OK.ret (Ret.r1 (.tmp rfl rfl (.c (.same rfl) rfl) rfl) ?_)
   rw [hg, idxGo_drop _ (by omega)]
   simp_all
  ·
   refine OK.skip ?_
   refine Ab.D.blk ?_
   refine Ab.D.code (OK.reg ?_)
   refine RK.c (S.add .none rfl (.tmp rfl rfl) (.cint rfl) (IntWalk.i64_in _ (by omega)) (IntWalk.i64_in _ (by omega))) ?_
   refine RK.c (S.move .none rfl (.tmp rfl rfl)) ?_
   refine RK.nil ?_
   refine Ab.D.lp ⟨i + 1, ⟨by omega, ?_⟩, (by omega), rfl, rfl, rfl, rfl, rfl, trivial⟩
   rw [hg, idxGo_drop _ (by omega)]
   simp_all
 ·
  refine OK.exit rfl ?_
  refine Ab.D.code (OK.seq (OK.reg ?_))
  refine RK.c (S.assign .none rfl (.cint rfl)) ?_
  refine RK.nil (Ab.D.code ?_)
  refine OK.ret (Ret.r1 (.tmp rfl rfl (.c (.same rfl) rfl) rfl) ?_)
  have : i = l.length := by omega
  subst this
  rw [hg, List.drop_length]
  rfl
theorem containsFunc_Lot {l : List Lot} {fid : Nat} {caps : List X} {g : Lot → Bool} (hf : ∀ x, x ∈ l → Ct Tryz.prog fid ([.agg x.cs] ++ caps) (.bool (g x))) (hcall : CallOk fid) (hc : Clean caps) : Ct Tryz.prog 70 [.sl (l.map Lot.cs), .fn fid caps] (.bool (l.any g)) := by
 refine Ct.intro (rs := [.tmp 4]) Tryz.func70 rfl Tryz.ntmps70 Tryz.results70 rfl rfl rfl fun w h => ?_
 refine OK.seq (OK.reg ?_)
 refine RK.c (S.assign .none rfl .cbool) ?_
 refine RK.nil (Ab.D.code (OK.seq (OK.reg ?_)))
 refine RK.c (S.move .none rfl (.tmp rfl rfl)) ?_
 refine RK.c (S.move .none rfl (.tmp rfl rfl)) ?_
 refine RK.c (S.call (indexFunc_Lot hf hcall hc) Tryz.call98 .none rfl (.cons (.tmp rfl rfl) (.cons (.tmp rfl rfl) .nil)) (by simp [okArg, okV, okC, okP, isTup, hc.1])) ?_
 refine RK.c (S.geq .none rfl (.tmp rfl rfl) (.cint rfl)) ?_
 refine RK.c (S.assign .none rfl (.tmp rfl rfl)) ?_
 refine RK.nil (Ab.D.code ?_)
 refine OK.ret (Ret.r1 (.tmp rfl rfl (.c (.same rfl) rfl) rfl) ?_)
 exact ret_b (by rw [← idxGo_any g l 0])
theorem indexFunc_Run {l : List Run} {fid : Nat} {caps : List X} {g : Run → Bool} (hf : ∀ x, x ∈ l → Ct Tryz.prog fid ([.agg x.cs] ++ caps) (.bool (g x))) (hcall : CallOk fid) (hc : Clean caps) : Ct Tryz.prog 78 [.sl (l.map Run.cs), .fn fid caps] (.int .i64 (idxGo g 0 l)) := by
 refine Ct.intro (rs := [.tmp 4]) Tryz.func78 rfl Tryz.ntmps78 Tryz.results78 rfl rfl rfl fun w h => ?_
 refine OK.slLen (rows := l.map Run.cs) (t := 0) rfl rfl fun hlen => ?_
 rw [List.length_map] at hlen
 unfold maxLen at hlen
 refine OK.seq (OK.reg ?_)
 refine RK.c (S.assign .none rfl (.cint rfl)) ?_
 refine RK.nil (Ab.D.code (OK.seq (OK.seq (OK.reg ?_))))
 refine RK.c (S.move .none rfl (.tmp rfl rfl)) ?_
 refine RK.c (S.lenM si56 .none rfl (.tmp rfl rfl)) ?_
 refine RK.c (S.move .none rfl (.cint rfl)) ?_
 refine RK.nil (Ab.D.code ?_)
 refine OK.block ?_
 refine OK.loop (G := Nat) [] (fun i => [(0, .sl (l.map Run.cs)), (1, .fn fid caps), (6, .sl (l.map Run.cs)), (7, .int .i64 l.length), (8, .int .i64 i)]) (fun i => i ≤ l.length ∧ idxGo g 0 l = idxGo g i (l.drop i)) (fun i => l.length - i) 0 ⟨Nat.zero_le _, rfl⟩ ⟨rfl, rfl, rfl, rfl, rfl, trivial⟩ (fun _ => by simp [okKey, okT, okV, okC, okP, hc.1]) ?_
 rintro i ⟨hi, hg⟩
 refine OK.seq (OK.reg ?_)
 refine RK.c (S.lss .none rfl (.tmp rfl rfl) (.tmp rfl rfl)) ?_
 refine RK.nil (Ab.D.code ?_)
 refine OK.seq ?_
 refine OK.condD rfl rfl (fun c9 => ?_) (fun c9 => ?_)
 ·
  refine OK.skip ?_
  refine Ab.D.code ?_
  refine OK.seq ?_
  refine OK.block ?_
  refine OK.seq (OK.reg ?_)
  refine RK.c (S.move .none rfl (.tmp rfl rfl)) ?_
  refine RK.c (S.assign .none rfl (.tmp rfl rfl)) ?_
  refine RK.nil (Ab.D.code (OK.seq (OK.reg ?_)))
  refine RK.c (S.move .none rfl (.tmp rfl rfl)) ?_
  refine RK.c (S.move .none rfl (.tmp rfl rfl)) ?_
  refine RK.c (S.move .none rfl (.tmp rfl rfl)) ?_
  refine RK.c (S.indexM si56 .none rfl (.tmp rfl rfl) (.tmp rfl rfl) rfl (by omega) rfl) ?_
  refine RK.c (S.loadN ti55 .none rfl (.tmp rfl rfl) rfl rfl) ?_
  refine RK.c (S.callv (hf _ (List.getElem_mem _)) hcall .none rfl (.tmp rfl rfl) (.cons (.tmp rfl rfl) .nil) rfl hc.1 hc.2) ?_
  refine RK.nil (Ab.D.code ?_)
  refine OK.cond rfl rfl (fun c16 => ?_) (fun c16 => ?_)
  ·
   refine OK.seq (OK.reg ?_)
   refine RK.c (S.move .none rfl (.tmp rfl rfl)) ?_
   refine RK.c (S.assign .none rfl (.tmp rfl rfl)) ?_
   refine RK.nil (Ab.D.code ?_)
   refine OK.ret (Ret.r1 (.tmp rfl rfl (.c (.same rfl) rfl) rfl) ?_)
   rw [hg, idxGo_drop _ (by omega)]
   simp_all
  ·
   refine OK.skip ?_
   refine Ab.D.blk ?_
   refine Ab.D.code (OK.reg ?_)
   refine RK.c (S.add .none rfl (.tmp rfl rfl) (.cint rfl) (IntWalk.i64_in _ (by omega)) (IntWalk.i64_in _ (by omega))) ?_
   refine RK.c (S.move .none rfl (.tmp rfl rfl)) ?_
   refine RK.nil ?_
   refine Ab.D.lp ⟨i + 1, ⟨by omega, ?_⟩, (by omega), rfl, rfl, rfl, rfl, rfl, trivial⟩
   rw [hg, idxGo_drop _ (by omega)]
   simp_all
 ·
  refine OK.exit rfl ?_
  refine Ab.D.code (OK.seq (OK.reg ?_))
  refine RK.c (S.assign .none rfl (.cint rfl)) ?_
  refine RK.nil (Ab.D.code ?_)
  refine OK.ret (Ret.r1 (.tmp rfl rfl (.c (.same rfl) rfl) rfl) ?_)
  have : i = l.length := by omega
  subst this
  rw [hg, List.drop_length]
  rfl
theorem containsFunc_Run {l : List Run} {fid : Nat} {caps : List X} {g : Run → Bool} (hf : ∀ x, x ∈ l → Ct Tryz.prog fid ([.agg x.cs] ++ caps) (.bool (g x))) (hcall : CallOk fid) (hc : Clean caps) : Ct Tryz.prog 45 [.sl (l.map Run.cs), .fn fid caps] (.bool (l.any g)) := by
 refine Ct.intro (rs := [.tmp 4]) Tryz.func45 rfl Tryz.ntmps45 Tryz.results45 rfl rfl rfl fun w h => ?_
 refine OK.seq (OK.reg ?_)
 refine RK.c (S.assign .none rfl .cbool) ?_
 refine RK.nil (Ab.D.code (OK.seq (OK.reg ?_)))
 refine RK.c (S.move .none rfl (.tmp rfl rfl)) ?_
 refine RK.c (S.move .none rfl (.tmp rfl rfl)) ?_
 refine RK.c (S.call (indexFunc_Run hf hcall hc) Tryz.call78 .none rfl (.cons (.tmp rfl rfl) (.cons (.tmp rfl rfl) .nil)) (by simp [okArg, okV, okC, okP, isTup, hc.1])) ?_
 refine RK.c (S.geq .none rfl (.tmp rfl rfl) (.cint rfl)) ?_
 refine RK.c (S.assign .none rfl (.tmp rfl rfl)) ?_
 refine RK.nil (Ab.D.code ?_)
 refine OK.ret (Ret.r1 (.tmp rfl rfl (.c (.same rfl) rfl) rfl) ?_)
 exact ret_b (by rw [← idxGo_any g l 0])
theorem shp_runErr {r : Run} : Ct Tryz.prog 80 [.agg r.cs] (.int .i64 (runE r)) := by
 refine Ct.intro (rs := [.tmp 2]) Tryz.func80 rfl Tryz.ntmps80 Tryz.results80 rfl rfl rfl fun w h => ?_
 refine OK.seq (OK.reg ?_)
 refine RK.c (S.box (k := 1) rfl .none rfl (.tmp rfl rfl) rfl) ?_
 refine RK.c (S.assign .none rfl (.cint rfl)) ?_
 refine RK.nil (Ab.D.code (OK.seq (OK.reg ?_)))
 refine RK.c (S.bfield fi55_0 .none rfl (.tmp rfl rfl)) ?_
 refine RK.c (S.bload1 ti3 .none rfl (.tmp rfl rfl) rfl rfl rfl rfl) ?_
 refine RK.c (S.call (shp_isTicks) Tryz.call88 .none rfl (.cons (.tmp rfl rfl) (.cons (.cint rfl) .nil)) rfl) ?_
 refine RK.c (S.move .none rfl (.tmp rfl rfl)) ?_
 refine RK.splitD (t := 6) rfl (fun g6 => ?_) (fun g6 => ?_)
 ·
  refine RK.c (S.bfield fi55_1 (.yes rfl rfl rfl rfl) rfl (.tmp rfl rfl)) ?_
  refine RK.c (S.bload1 ti3 (.yes rfl rfl rfl rfl) rfl (.tmp rfl rfl) rfl rfl rfl rfl) ?_
  refine RK.c (S.call (shp_isTicks) Tryz.call88 (.yes rfl rfl rfl rfl) rfl (.cons (.tmp rfl rfl) (.cons (.cint rfl) .nil)) rfl) ?_
  refine RK.c (S.pickT .none rfl (.tmp rfl rfl) (.tmp rfl rfl) rfl) ?_
  refine RK.c (S.move .none rfl (.tmp rfl rfl)) ?_
  refine RK.splitD (t := 11) rfl (fun g11 => ?_) (fun g11 => ?_)
  ·
   refine RK.c (S.bfield fi55_2 (.yes rfl rfl rfl rfl) rfl (.tmp rfl rfl)) ?_
   refine RK.c (S.bload1 ti3 (.yes rfl rfl rfl rfl) rfl (.tmp rfl rfl) rfl rfl rfl rfl) ?_
   refine RK.c (S.call (shp_within) Tryz.call41 (.yes rfl rfl rfl rfl) rfl (.cons (.tmp rfl rfl) (.cons (.cint rfl) (.cons (.cint rfl) .nil))) rfl) ?_
   refine RK.c (S.pickT .none rfl (.tmp rfl rfl) (.tmp rfl rfl) rfl) ?_
   refine RK.c (S.call (shop_unless) Tryz.call40 .none rfl (.cons (.tmp rfl rfl) (.cons (.cint rfl) .nil)) rfl) ?_
   refine RK.c (S.assign .none rfl (.tmp rfl rfl)) ?_
   refine RK.nil (Ab.D.code ?_)
   refine OK.ret (Ret.r1 (.tmp rfl rfl (.c (.same rfl) rfl) rfl) ?_)
   refine ret_i ?_
   simp only [runE, unlessE, decide_eq_true_eq]
   repeat' split
   all_goals (first | rfl | omega | contradiction)
  ·
   refine RK.c (S.skip rfl rfl rfl rfl rfl) ?_
   refine RK.c (S.skip rfl rfl rfl rfl rfl) ?_
   refine RK.c (S.skip rfl rfl rfl rfl rfl) ?_
   refine RK.c (S.pickF .none rfl (.tmp rfl rfl) .cbool rfl) ?_
   refine RK.c (S.call (shop_unless) Tryz.call40 .none rfl (.cons (.tmp rfl rfl) (.cons (.cint rfl) .nil)) rfl) ?_
   refine RK.c (S.assign .none rfl (.tmp rfl rfl)) ?_
   refine RK.nil (Ab.D.code ?_)
   refine OK.ret (Ret.r1 (.tmp rfl rfl (.c (.same rfl) rfl) rfl) ?_)
   refine ret_i ?_
   simp only [runE, unlessE, decide_eq_true_eq]
   repeat' split
   all_goals (first | rfl | omega | contradiction)
 ·
  refine RK.c (S.skip rfl rfl rfl rfl rfl) ?_
  refine RK.c (S.skip rfl rfl rfl rfl rfl) ?_
  refine RK.c (S.skip rfl rfl rfl rfl rfl) ?_
  refine RK.c (S.pickF .none rfl (.tmp rfl rfl) .cbool rfl) ?_
  refine RK.c (S.move .none rfl (.tmp rfl rfl)) ?_
  refine RK.c (S.skip rfl rfl rfl rfl rfl) ?_
  refine RK.c (S.skip rfl rfl rfl rfl rfl) ?_
  refine RK.c (S.skip rfl rfl rfl rfl rfl) ?_
  refine RK.c (S.pickF .none rfl (.tmp rfl rfl) .cbool rfl) ?_
  refine RK.c (S.call (shop_unless) Tryz.call40 .none rfl (.cons (.tmp rfl rfl) (.cons (.cint rfl) .nil)) rfl) ?_
  refine RK.c (S.assign .none rfl (.tmp rfl rfl)) ?_
  refine RK.nil (Ab.D.code ?_)
  refine OK.ret (Ret.r1 (.tmp rfl rfl (.c (.same rfl) rfl) rfl) ?_)
  refine ret_i ?_
  simp only [runE, unlessE, decide_eq_true_eq]
  repeat' split
  all_goals (first | rfl | omega | contradiction)
theorem shp_runBad {r : Run} : Ct Tryz.prog 79 [.agg r.cs] (.bool (decide (runE r ≠ 0))) := by
 refine Ct.intro (rs := [.tmp 2]) Tryz.func79 rfl Tryz.ntmps79 Tryz.results79 rfl rfl rfl fun w h => ?_
 refine OK.seq (OK.reg ?_)
 refine RK.c (S.box (k := 1) rfl .none rfl (.tmp rfl rfl) rfl) ?_
 refine RK.c (S.assign .none rfl .cbool) ?_
 refine RK.nil (Ab.D.code (OK.seq (OK.reg ?_)))
 refine RK.c (S.bloadN ti55 .none rfl (.tmp rfl rfl) rfl rfl rfl rfl) ?_
 refine RK.c (S.call (shp_runErr) Tryz.call80 .none rfl (.cons (.tmp rfl rfl) .nil) rfl) ?_
 refine RK.c (S.neq .none rfl (.tmp rfl rfl) (.cint rfl)) ?_
 refine RK.c (S.assign .none rfl (.tmp rfl rfl)) ?_
 refine RK.nil (Ab.D.code ?_)
 refine OK.ret (Ret.r1 (.tmp rfl rfl (.c (.same rfl) rfl) rfl) ?_)
 rfl
theorem shp_CheckRuns {l : List Run} : Ct Tryz.prog 44 [.sl (l.map Run.cs)] (pair (runsChk l)) := by
 refine Ct.intro (rs := [.tmp 2, .tmp 3]) Tryz.func44 rfl Tryz.ntmps44 Tryz.results44 rfl rfl rfl fun w h => ?_
 refine OK.slLen (rows := l.map Run.cs) (t := 0) rfl rfl fun hlen => ?_
 rw [List.length_map] at hlen
 unfold maxLen at hlen
 refine OK.seq (OK.reg ?_)
 refine RK.c (S.assign .none rfl (.cint rfl)) ?_
 refine RK.c (S.assign .none rfl (.cint rfl)) ?_
 refine RK.nil (Ab.D.code (OK.seq (OK.seq (OK.reg ?_))))
 refine RK.c (S.move .none rfl (.tmp rfl rfl)) ?_
 refine RK.c (S.lenM si56 .none rfl (.tmp rfl rfl)) ?_
 refine RK.c (S.gtr .none rfl (.tmp rfl rfl) (.cint rfl)) ?_
 refine RK.nil (Ab.D.code ?_)
 refine OK.condD rfl rfl (fun c7 => ?_) (fun c7 => ?_)
 ·
  refine OK.seq (OK.reg ?_)
  refine RK.c (S.assign .none rfl (.cint rfl)) ?_
  refine RK.c (S.assign .none rfl (.cint rfl)) ?_
  refine RK.nil (Ab.D.code ?_)
  refine OK.ret (Ret.r2 (.tmp rfl rfl (.c (.same rfl) rfl) rfl) (.tmp rfl rfl (.c (.same rfl) rfl) rfl) ?_)
  refine ret_p ?_
  rw [runsChk, if_pos (by omega)]
 ·
  refine OK.skip ?_
  refine Ab.D.code (OK.seq (OK.seq (OK.reg ?_)))
  refine RK.c (S.move .none rfl (.tmp rfl rfl)) ?_
  refine RK.c (S.call (indexFunc_Run (l := l) (g := fun r => decide (runE r ≠ 0)) (caps := []) (fun x _ => shp_runBad) Tryz.call79 ⟨rfl, rfl⟩) Tryz.call78 .none rfl (.cons (.tmp rfl rfl) (.cons .cfn .nil)) rfl) ?_
  refine RK.c (S.assign .none rfl (.tmp rfl rfl)) ?_
  refine RK.nil (Ab.D.code (OK.seq (OK.reg ?_)))
  refine RK.c (S.move .none rfl (.tmp rfl rfl)) ?_
  refine RK.c (S.geq .none rfl (.tmp rfl rfl) (.cint rfl)) ?_
  refine RK.nil (Ab.D.code ?_)
  refine OK.condD rfl rfl (fun c11 => ?_) (fun c11 => ?_)
  ·
   refine OK.seq (OK.reg ?_)
   refine RK.c (S.move .none rfl (.tmp rfl rfl)) ?_
   refine RK.c (S.assign .none rfl (.tmp rfl rfl)) ?_
   refine RK.c (S.assign .none rfl (.cint rfl)) ?_
   refine RK.nil (Ab.D.code ?_)
   refine OK.ret (Ret.r2 (.tmp rfl rfl (.c (.same rfl) rfl) rfl) (.tmp rfl rfl (.c (.same rfl) rfl) rfl) ?_)
   refine ret_p ?_
   rw [runsChk, if_neg (by omega), if_pos (by omega)]
  ·
   refine OK.skip ?_
   refine Ab.D.code (OK.seq (OK.reg ?_))
   refine RK.c (S.assign .none rfl (.cint rfl)) ?_
   refine RK.c (S.assign .none rfl (.cint rfl)) ?_
   refine RK.nil (Ab.D.code ?_)
   refine OK.ret (Ret.r2 (.tmp rfl rfl (.c (.same rfl) rfl) rfl) (.tmp rfl rfl (.c (.same rfl) rfl) rfl) ?_)
   refine ret_p ?_
   rw [runsChk, if_neg (by omega), if_neg (by omega)]
theorem shp_peakErr {n : Int} : Ct Tryz.prog 47 [.int .i64 n] (.int .i64 (peakE n)) := by
 refine Ct.intro (rs := [.tmp 2]) Tryz.func47 rfl Tryz.ntmps47 Tryz.results47 rfl rfl rfl fun w h => ?_
 refine OK.seq (OK.reg ?_)
 refine RK.c (S.assign .none rfl (.cint rfl)) ?_
 refine RK.nil (Ab.D.code (OK.seq (OK.reg ?_)))
 refine RK.c (S.move .none rfl (.tmp rfl rfl)) ?_
 refine RK.c (S.call (shp_within) Tryz.call41 .none rfl (.cons (.tmp rfl rfl) (.cons (.cint rfl) (.cons (.cint rfl) .nil))) rfl) ?_
 refine RK.c (S.call (shop_unless) Tryz.call40 .none rfl (.cons (.tmp rfl rfl) (.cons (.cint rfl) .nil)) rfl) ?_
 refine RK.c (S.assign .none rfl (.tmp rfl rfl)) ?_
 refine RK.nil (Ab.D.code ?_)
 refine OK.ret (Ret.r1 (.tmp rfl rfl (.c (.same rfl) rfl) rfl) ?_)
 refine ret_i ?_
 simp only [peakE, unlessE, decide_eq_true_eq]
theorem shp_powerAt {l : List Run} {tick : Int} (hl : ∀ r ∈ l, RunB 1000000000 r) (hn : l.length ≤ 100) : Ct Tryz.prog 102 [.sl (l.map Run.cs), .int .i64 tick] (.int .i64 (powerT tick l)) := by
 refine Ct.intro (rs := [.tmp 4]) Tryz.func102 rfl Tryz.ntmps102 Tryz.results102 rfl rfl rfl fun w h => ?_
 refine OK.seq (OK.reg ?_)
 refine RK.c (S.assign .none rfl (.cint rfl)) ?_
 refine RK.nil (Ab.D.code (OK.seq (OK.reg ?_)))
 refine RK.c (S.assign .none rfl (.cint rfl)) ?_
 refine RK.nil (Ab.D.code (OK.seq (OK.seq (OK.reg ?_))))
 refine RK.c (S.move .none rfl (.tmp rfl rfl)) ?_
 refine RK.c (S.lenM si56 .none rfl (.tmp rfl rfl)) ?_
 refine RK.c (S.move .none rfl (.cint rfl)) ?_
 refine RK.nil (Ab.D.code ?_)
 refine OK.block ?_
 refine OK.loop (G := Nat) [] (fun i => [(1, .int .i64 tick), (5, .int .i64 (powerT tick (l.take i))), (8, .sl (l.map Run.cs)), (9, .int .i64 l.length), (10, .int .i64 i)]) (fun i => i ≤ l.length) (fun i => l.length - i) 0 (Nat.zero_le _) ⟨rfl, rfl, rfl, rfl, rfl, trivial⟩ (fun _ => rfl) ?_
 rintro i hi
 refine OK.seq (OK.reg ?_)
 refine RK.c (S.lss .none rfl (.tmp rfl rfl) (.tmp rfl rfl)) ?_
 refine RK.nil (Ab.D.code ?_)
 refine OK.seq ?_
 refine OK.condD rfl rfl (fun c11 => ?_) (fun c11 => ?_)
 ·
  have hr := hl l[i] (List.getElem_mem (by omega))
  obtain ⟨hr1, hr2, hr3⟩ := hr
  have hp := power_bd (B := 1000000000) tick (l := l.take i) fun r hr => hl r (List.mem_of_mem_take hr)
  have htl : (l.take i).length ≤ i := List.length_take_le i l
  refine OK.skip ?_
  refine Ab.D.code ?_
  refine OK.seq ?_
  refine OK.block ?_
  refine OK.seq (OK.reg ?_)
  refine RK.c (S.indexM si56 .none rfl (.tmp rfl rfl) (.tmp rfl rfl) rfl (by omega) rfl) ?_
  refine RK.c (S.loadN ti55 .none rfl (.tmp rfl rfl) rfl rfl) ?_
  refine RK.c (S.alloc (k := 7) ze55 rfl .none rfl) ?_
  refine RK.c (S.store ti55 .none (.tmp rfl rfl) (.tmp rfl rfl) rfl rfl rfl rfl rfl rfl) ?_
  refine RK.nil (Ab.D.code (OK.seq (OK.reg ?_)))
  refine RK.c (S.move .none rfl (.tmp rfl rfl)) ?_
  refine RK.c (S.bfield fi55_0 .none rfl (.tmp rfl rfl)) ?_
  refine RK.c (S.bload1 ti3 .none rfl (.tmp rfl rfl) rfl rfl rfl rfl) ?_
  refine RK.c (S.bfield fi55_0 .none rfl (.tmp rfl rfl)) ?_
  refine RK.c (S.bload1 ti3 .none rfl (.tmp rfl rfl) rfl rfl rfl rfl) ?_
  refine RK.c (S.bfield fi55_1 .none rfl (.tmp rfl rfl)) ?_
  refine RK.c (S.bload1 ti3 .none rfl (.tmp rfl rfl) rfl rfl rfl rfl) ?_
  refine RK.c (S.add .none rfl (.tmp rfl rfl) (.tmp rfl rfl) (IntWalk.i64_in _ (by omega)) (IntWalk.i64_in _ (by omega))) ?_
  refine RK.c (S.sub .none rfl (.tmp rfl rfl) (.cint rfl) (IntWalk.i64_in _ (by omega)) (IntWalk.i64_in _ (by omega))) ?_
  refine RK.c (S.call (shp_within) Tryz.call41 .none rfl (.cons (.tmp rfl rfl) (.cons (.tmp rfl rfl) (.cons (.tmp rfl rfl) .nil))) rfl) ?_
  refine RK.nil (Ab.D.code ?_)
  refine OK.condD rfl rfl (fun c23 => ?_) (fun c23 => ?_)
  ·
   refine OK.reg ?_
   refine RK.c (S.move .none rfl (.tmp rfl rfl)) ?_
   refine RK.c (S.bfield fi55_2 .none rfl (.tmp rfl rfl)) ?_
   refine RK.c (S.bload1 ti3 .none rfl (.tmp rfl rfl) rfl rfl rfl rfl) ?_
   refine RK.c (S.add .none rfl (.tmp rfl rfl) (.tmp rfl rfl) (IntWalk.i64_in _ (by omega)) (IntWalk.i64_in _ (by omega))) ?_
   refine RK.c (S.assign .none rfl (.tmp rfl rfl)) ?_
   refine RK.nil ?_
   refine Ab.D.blk ?_
   refine Ab.D.code (OK.reg ?_)
   refine RK.c (S.add .none rfl (.tmp rfl rfl) (.cint rfl) (IntWalk.i64_in _ (by omega)) (IntWalk.i64_in _ (by omega))) ?_
   refine RK.c (S.move .none rfl (.tmp rfl rfl)) ?_
   refine RK.nil ?_
   refine Ab.D.lp ⟨i + 1, (by omega), (by omega), rfl, (lkI (by rw [power_take (by omega), powOf]; first | rw [if_pos c23] | (rw [if_neg c23]; omega))), rfl, rfl, rfl, trivial⟩
  ·
   refine OK.skip ?_
   refine Ab.D.blk ?_
   refine Ab.D.code (OK.reg ?_)
   refine RK.c (S.add .none rfl (.tmp rfl rfl) (.cint rfl) (IntWalk.i64_in _ (by omega)) (IntWalk.i64_in _ (by omega))) ?_
   refine RK.c (S.move .none rfl (.tmp rfl rfl)) ?_
   refine RK.nil ?_
   refine Ab.D.lp ⟨i + 1, (by omega), (by omega), rfl, (lkI (by rw [power_take (by omega), powOf]; first | rw [if_pos c23] | (rw [if_neg c23]; omega))), rfl, rfl, rfl, trivial⟩
 ·
  refine OK.exit rfl ?_
  refine Ab.D.code (OK.seq (OK.reg ?_))
  refine RK.c (S.move .none rfl (.tmp rfl rfl)) ?_
  refine RK.c (S.assign .none rfl (.tmp rfl rfl)) ?_
  refine RK.nil (Ab.D.code ?_)
  refine OK.ret (Ret.r1 (.tmp rfl rfl (.c (.same rfl) rfl) rfl) ?_)
  rw [show i = l.length by omega, List.take_length]
theorem shp_fits1 {l : List Run} {x : Run} {peak tick : Int} (hl : ∀ r ∈ l, RunB 1000000000 r) (hn : l.length ≤ 100) (hx : 1 ≤ x.power ∧ x.power ≤ 100000) : Ct Tryz.prog 101 [.int .i64 tick, .eptr [.sl (l.map Run.cs)], .eptr x.cs, .eptr [.int .i64 peak]] (.bool (decide (powerT tick l + x.power > peak))) := by
 refine Ct.intro (rs := [.tmp 5]) Tryz.func101 rfl Tryz.ntmps101 Tryz.results101 rfl rfl rfl fun w h => ?_
 have hp := power_bd (B := 1000000000) tick hl
 refine OK.seq (OK.reg ?_)
 refine RK.c (S.assign .none rfl .cbool) ?_
 refine RK.nil (Ab.D.code ?_)
 refine OK.seq ?_
 refine OK.regionDraw follows (.c (S.load1 ti56 .none rfl (.tmp rfl rfl) rfl)
  (.c (S.move .none rfl (.tmp rfl rfl))
  (.c (S.call (shp_powerAt hl hn) Tryz.call102 .none rfl (.cons (.tmp rfl rfl) (.cons (.tmp rfl rfl) .nil)) rfl)
  (.c (S.field fi55_2 .none rfl (.tmp rfl rfl) rfl)
  (.c (S.load1 ti3 .none rfl (.tmp rfl rfl) rfl)
  (.c (S.add .none rfl (.tmp rfl rfl) (.tmp rfl rfl) (IntWalk.i64_in _ (by omega)) (IntWalk.i64_in _ (by omega)))
  (.c (S.load1 ti3 .none rfl (.tmp rfl rfl) rfl)
  (.c (S.gtr .none rfl (.tmp rfl rfl) (.tmp rfl rfl))
  (.c (S.assign .none rfl (.tmp rfl rfl))
  .nil))))))))) (by kernel_rfl) ?_
 refine Ab.D.code ?_
 refine OK.ret (Ret.r1 (.tmp rfl rfl (.c (.same rfl) rfl) rfl) ?_)
 rfl
theorem shp_fits {l : List Run} {x : Run} {peak : Int} (hl : ∀ r ∈ l, RunB 1000000000 r) (hn : l.length ≤ 100) (hx : RunB 1000000000 x) : Ct Tryz.prog 84 [.sl (l.map Run.cs), .agg x.cs, .int .i64 peak] (.bool (fitsT l x peak)) := by
 refine Ct.intro (rs := [.tmp 6]) Tryz.func84 rfl Tryz.ntmps84 Tryz.results84 rfl rfl rfl fun w h => ?_
 have hxx := hx
 obtain ⟨hx1, hx2, hx3⟩ := hx
 refine OK.seq (OK.reg ?_)
 refine RK.c (S.box (k := 3) rfl .none rfl (.tmp rfl rfl) rfl) ?_
 refine RK.c (S.box (k := 4) rfl .none rfl (.tmp rfl rfl) rfl) ?_
 refine RK.c (S.box (k := 5) rfl .none rfl (.tmp rfl rfl) rfl) ?_
 refine RK.c (S.assign .none rfl .cbool) ?_
 refine RK.nil (Ab.D.code (OK.seq (OK.reg ?_)))
 refine RK.c (S.bfield fi55_0 .none rfl (.tmp rfl rfl)) ?_
 refine RK.c (S.bload1 ti3 .none rfl (.tmp rfl rfl) rfl rfl rfl rfl) ?_
 refine RK.c (S.mkSlice (k := 12) (rows := [[_]]) ai26 .none rfl (.cons (.tmp rfl rfl) .nil) rfl rfl rfl rfl rfl rfl rfl) ?_
 refine RK.c (S.assign .none rfl (.tmp rfl rfl)) ?_
 refine RK.nil (Ab.D.code (OK.seq (OK.seq (OK.reg ?_))))
 refine RK.c (S.bload1 ti56 .none rfl (.tmp rfl rfl) rfl rfl rfl rfl) ?_
 refine RK.c (S.lenM si56 .none rfl (.tmp rfl rfl)) ?_
 refine RK.c (S.move .none rfl (.cint rfl)) ?_
 refine RK.nil (Ab.D.code ?_)
 refine OK.block ?_
 refine OK.loop (G := Nat) [3, 4, 5, 12] (fun i => [(3, .ptr 3 0), (4, .ptr 4 0), (5, .ptr 5 0), (1003, .box [.sl (l.map Run.cs)]), (1004, .box x.cs), (1005, .box [.int .i64 peak]), (7, .own 12 (momentsT (l.take i) x).length), (2012, .arr 1 ((momentsT (l.take i) x).map fun n => [.int .i64 n])), (13, .sl (l.map Run.cs)), (14, .int .i64 l.length), (15, .int .i64 i)]) (fun i => i ≤ l.length) (fun i => l.length - i) 0 (Nat.zero_le _) ⟨rfl, rfl, rfl, rfl, rfl, rfl, (lk_own (by first | rfl | (simp; done) | (simp; omega))), (lk_arr (by first | rfl | (simp; done) | (simp; omega))), rfl, rfl, rfl, trivial⟩ (fun _ => rfl) ?_
 rintro i hi
 refine OK.seq (OK.reg ?_)
 refine RK.c (S.lss .none rfl (.tmp rfl rfl) (.tmp rfl rfl)) ?_
 refine RK.nil (Ab.D.code ?_)
 refine OK.seq ?_
 refine OK.condD rfl rfl (fun c16 => ?_) (fun c16 => ?_)
 ·
  have hml := mom_len l x i
  have hr := hl l[i] (List.getElem_mem (by omega))
  obtain ⟨hr1, hr2, hr3⟩ := hr
  refine OK.skip ?_
  refine Ab.D.code ?_
  refine OK.seq ?_
  refine OK.block ?_
  refine OK.seq (OK.reg ?_)
  refine RK.c (S.indexM si56 .none rfl (.tmp rfl rfl) (.tmp rfl rfl) rfl (by omega) rfl) ?_
  refine RK.c (S.loadN ti55 .none rfl (.tmp rfl rfl) rfl rfl) ?_
  refine RK.c (S.alloc (k := 9) ze55 rfl .none rfl) ?_
  refine RK.c (S.store ti55 .none (.tmp rfl rfl) (.tmp rfl rfl) rfl rfl rfl rfl rfl rfl) ?_
  refine RK.nil (Ab.D.code (OK.seq (OK.reg ?_)))
  refine RK.c (S.bfield fi55_0 .none rfl (.tmp rfl rfl)) ?_
  refine RK.c (S.bload1 ti3 .none rfl (.tmp rfl rfl) rfl rfl rfl rfl) ?_
  refine RK.c (S.bfield fi55_0 .none rfl (.tmp rfl rfl)) ?_
  refine RK.c (S.bload1 ti3 .none rfl (.tmp rfl rfl) rfl rfl rfl rfl) ?_
  refine RK.c (S.bfield fi55_0 .none rfl (.tmp rfl rfl)) ?_
  refine RK.c (S.bload1 ti3 .none rfl (.tmp rfl rfl) rfl rfl rfl rfl) ?_
  refine RK.c (S.bfield fi55_1 .none rfl (.tmp rfl rfl)) ?_
  refine RK.c (S.bload1 ti3 .none rfl (.tmp rfl rfl) rfl rfl rfl rfl) ?_
  refine RK.c (S.add .none rfl (.tmp rfl rfl) (.tmp rfl rfl) (IntWalk.i64_in _ (by omega)) (IntWalk.i64_in _ (by omega))) ?_
  refine RK.c (S.sub .none rfl (.tmp rfl rfl) (.cint rfl) (IntWalk.i64_in _ (by omega)) (IntWalk.i64_in _ (by omega))) ?_
  refine RK.c (S.call (shp_within) Tryz.call41 .none rfl (.cons (.tmp rfl rfl) (.cons (.tmp rfl rfl) (.cons (.tmp rfl rfl) .nil))) rfl) ?_
  refine RK.nil (Ab.D.code ?_)
  refine OK.condD rfl rfl (fun c29 => ?_) (fun c29 => ?_)
  ·
   refine OK.reg ?_
   refine RK.c (S.move .none rfl (.tmp rfl rfl)) ?_
   refine RK.c (S.bfield fi55_0 .none rfl (.tmp rfl rfl)) ?_
   refine RK.c (S.bload1 ti3 .none rfl (.tmp rfl rfl) rfl rfl rfl rfl) ?_
   refine RK.c (S.mkSlice (k := 33) (rows := [[_]]) ai26 .none rfl (.cons (.tmp rfl rfl) .nil) rfl rfl rfl rfl rfl rfl rfl) ?_
   refine RK.c (S.append ai26 .none rfl (.tmp rfl rfl) rfl (by simp) (.tmp rfl rfl) rfl (by first | rfl | (simp; done) | (simp; omega)) (by omega) (by simp only [maxLen]; omega)) ?_
   refine RK.c (S.assign .none rfl (.tmp rfl rfl)) ?_
   refine RK.nil ?_
   refine Ab.D.blk ?_
   refine Ab.D.code (OK.reg ?_)
   refine RK.c (S.add .none rfl (.tmp rfl rfl) (.cint rfl) (IntWalk.i64_in _ (by omega)) (IntWalk.i64_in _ (by omega))) ?_
   refine RK.c (S.move .none rfl (.tmp rfl rfl)) ?_
   refine RK.nil ?_
   refine Ab.D.lp ⟨i + 1, (by omega), (by omega), rfl, rfl, rfl, rfl, rfl, rfl, (lk_own (by first | (rw [mom_T (by omega) c29]; simp) | rw [mom_F (by omega) c29])), (lk_arr (by first | (rw [mom_T (by omega) c29]; simp) | rw [mom_F (by omega) c29])), rfl, rfl, rfl, trivial⟩
  ·
   refine OK.skip ?_
   refine Ab.D.blk ?_
   refine Ab.D.code (OK.reg ?_)
   refine RK.c (S.add .none rfl (.tmp rfl rfl) (.cint rfl) (IntWalk.i64_in _ (by omega)) (IntWalk.i64_in _ (by omega))) ?_
   refine RK.c (S.move .none rfl (.tmp rfl rfl)) ?_
   refine RK.nil ?_
   refine Ab.D.lp ⟨i + 1, (by omega), (by omega), rfl, rfl, rfl, rfl, rfl, rfl, (lk_own (by first | (rw [mom_T (by omega) c29]; simp) | rw [mom_F (by omega) c29])), (lk_arr (by first | (rw [mom_T (by omega) c29]; simp) | rw [mom_F (by omega) c29])), rfl, rfl, rfl, trivial⟩
 ·
  refine OK.exit rfl ?_
  refine Ab.D.code ?_
  refine OK.seq ?_
  have hil : i = l.length := by omega
  have hml := mom_len l x i
  refine OK.reg ?_
  refine RK.c (S.move .none rfl (.tmp rfl rfl)) ?_
  refine RK.c (S.makeFunc3 .none rfl (.tmp rfl rfl) (.tmp rfl rfl) (.tmp rfl rfl) rfl rfl rfl) ?_
  refine RK.c (S.callL (containsFunc_int (l := momentsT (l.take i) x) (g := fun t => decide (powerT t l + x.power > peak)) (caps := [.eptr [.sl (l.map Run.cs)], .eptr x.cs, .eptr [.int .i64 peak]]) (fun t _ => shp_fits1 hl hn hx3) Tryz.call101 ⟨rfl, rfl⟩) Tryz.call85 .none rfl (.cons (.tmp rfl rfl) (.cons (.tmp rfl rfl) .nil)) (.cons (.p (.own rfl (by simp)) rfl) (.cons (.fn (.cons (.ptr rfl rfl rfl rfl) (.cons (.ptr rfl rfl rfl rfl) (.cons (.ptr rfl rfl rfl rfl) .nil)))) .nil)) rfl) ?_
  refine RK.c (S.not .none rfl (.tmp rfl rfl)) ?_
  refine RK.c (S.assign .none rfl (.tmp rfl rfl)) ?_
  refine RK.nil (Ab.D.code ?_)
  refine OK.ret (Ret.r1 (.tmp rfl rfl (.c (.same rfl) rfl) rfl) ?_)
  rw [hil, List.take_length]
  rfl
theorem shp_odd {n : Int} : Ct Tryz.prog 86 [.int .i64 n] (.bool (!isVal9 n)) := by
 refine Ct.intro (rs := [.tmp 2]) Tryz.func86 rfl Tryz.ntmps86 Tryz.results86 rfl rfl rfl fun w h => ?_
 refine OK.seq (OK.reg ?_)
 refine RK.c (S.assign .none rfl .cbool) ?_
 refine RK.nil (Ab.D.code (OK.seq (OK.reg ?_)))
 refine RK.c (S.move .none rfl (.tmp rfl rfl)) ?_
 refine RK.c (S.call (shp_isValue) Tryz.call87 .none rfl (.cons (.tmp rfl rfl) .nil) rfl) ?_
 refine RK.c (S.notD .none rfl (.tmp rfl rfl)) ?_
 refine RK.c (S.assign .none rfl (.tmp rfl rfl)) ?_
 refine RK.nil (Ab.D.code ?_)
 refine OK.ret (Ret.r1 (.tmp rfl rfl (.c (.same rfl) rfl) rfl) ?_)
 exact ret_b (by simp only [isVal9, decide_not])
theorem shp_valuesErr {l : List Int} : Ct Tryz.prog 49 [ints l] (.int .i64 (valsE l)) := by
 refine Ct.intro (rs := [.tmp 2]) Tryz.func49 rfl Tryz.ntmps49 Tryz.results49 rfl rfl rfl fun w h => ?_
 refine OK.seq (OK.reg ?_)
 refine RK.c (S.assign .none rfl (.cint rfl)) ?_
 refine RK.nil (Ab.D.code (OK.seq (OK.reg ?_)))
 refine RK.c (S.move .none rfl (.tmp rfl rfl)) ?_
 refine RK.c (S.call (containsFunc_int (l := l) (g := fun n => !isVal9 n) (caps := []) (fun x _ => shp_odd) Tryz.call86 ⟨rfl, rfl⟩) Tryz.call85 .none rfl (.cons (.tmp rfl rfl) (.cons .cfn .nil)) rfl) ?_
 refine RK.c (S.assign .none rfl (.tmp rfl rfl)) ?_
 refine RK.nil (Ab.D.code (OK.seq (OK.reg ?_)))
 refine RK.c (S.move .none rfl (.tmp rfl rfl)) ?_
 refine RK.c (S.lenM si26 .none rfl (.tmp rfl rfl)) ?_
 refine RK.c (S.gtr .none rfl (.tmp rfl rfl) (.cint rfl)) ?_
 refine RK.c (S.call (shop_unless) Tryz.call40 .none rfl (.cons (.tmp rfl rfl) (.cons (.cint rfl) .nil)) rfl) ?_
 refine RK.c (S.move .none rfl (.tmp rfl rfl)) ?_
 refine RK.c (S.lenM si26 .none rfl (.tmp rfl rfl)) ?_
 refine RK.c (S.leq .none rfl (.tmp rfl rfl) (.cint rfl)) ?_
 refine RK.c (S.call (shop_unless) Tryz.call40 .none rfl (.cons (.tmp rfl rfl) (.cons (.cint rfl) .nil)) rfl) ?_
 refine RK.c (S.move .none rfl (.tmp rfl rfl)) ?_
 refine RK.c (S.not .none rfl (.tmp rfl rfl)) ?_
 refine RK.c (S.call (shop_unless) Tryz.call40 .none rfl (.cons (.tmp rfl rfl) (.cons (.cint rfl) .nil)) rfl) ?_
 refine RK.c (S.mkSlice (k := 17) (rows := [[_], [_], [_]]) ai130 .none rfl (.cons (.tmp rfl rfl) (.cons (.tmp rfl rfl) (.cons (.tmp rfl rfl) .nil))) rfl rfl rfl rfl rfl rfl rfl) ?_
 refine RK.c (S.callL (shop_first (l := [_, _, _])) Tryz.call36 .none rfl (.cons (.tmp rfl rfl) .nil) (.cons (.p (.own rfl rfl) rfl) .nil) rfl) ?_
 refine RK.c (S.assign .none rfl (.tmp rfl rfl)) ?_
 refine RK.nil (Ab.D.code ?_)
 refine OK.ret (Ret.r1 (.tmp rfl rfl (.c (.same rfl) rfl) rfl) ?_)
 refine ret_i ?_
 rw [firstE3, any_not]
 simp only [valsE, unlessE, Bool.not_not, decide_eq_true_eq]
 repeat' split
 all_goals (first | rfl | omega | contradiction)
theorem shp_limitsErr {r : Range} : Ct Tryz.prog 50 [.agg r.cs] (.int .i64 (limE r)) := by
 refine Ct.intro (rs := [.tmp 2]) Tryz.func50 rfl Tryz.ntmps50 Tryz.results50 rfl rfl rfl fun w h => ?_
 refine OK.seq (OK.reg ?_)
 refine RK.c (S.box (k := 1) rfl .none rfl (.tmp rfl rfl) rfl) ?_
 refine RK.c (S.assign .none rfl (.cint rfl)) ?_
 refine RK.nil (Ab.D.code ?_)
 refine OK.seq ?_
 by_cases g6 : -10000 ≤ r.lo ∧ r.lo ≤ 10000
 ·
  refine OK.regionDraw follows (.c (S.bfield fi62_0 .none rfl (.tmp rfl rfl))
   (.c (S.bload1 ti3 .none rfl (.tmp rfl rfl) rfl rfl rfl rfl)
   (.c (S.call (shp_isValue) Tryz.call87 .none rfl (.cons (.tmp rfl rfl) .nil) rfl)
   (.c (S.move .none rfl (.tmp rfl rfl))
   (.c (S.bfield fi62_1 (.yes rfl rfl rfl (by first | rfl | exact decide_eq_true g6 | exact decide_eq_false g6 | (rw [decide_eq_true g6]; rfl) | (rw [decide_eq_false g6]; rfl) | simp [*])) rfl (.tmp rfl rfl))
   (.c (S.bload1 ti3 (.yes rfl rfl rfl (by first | rfl | exact decide_eq_true g6 | exact decide_eq_false g6 | (rw [decide_eq_true g6]; rfl) | (rw [decide_eq_false g6]; rfl) | simp [*])) rfl (.tmp rfl rfl) rfl rfl rfl rfl)
   (.c (S.call (shp_isValue) Tryz.call87 (.yes rfl rfl rfl (by first | rfl | exact decide_eq_true g6 | exact decide_eq_false g6 | (rw [decide_eq_true g6]; rfl) | (rw [decide_eq_false g6]; rfl) | simp [*])) rfl (.cons (.tmp rfl rfl) .nil) rfl)
   (.c (S.pickT .none rfl (.tmp rfl rfl) (.tmp rfl rfl) (by first | rfl | exact decide_eq_true g6 | exact decide_eq_false g6 | (rw [decide_eq_true g6]; rfl) | (rw [decide_eq_false g6]; rfl) | simp [*]))
   (.c (S.call (shop_unless) Tryz.call40 .none rfl (.cons (.tmp rfl rfl) (.cons (.cint rfl) .nil)) rfl)
   (.c (S.bfield fi62_0 .none rfl (.tmp rfl rfl))
   (.c (S.bload1 ti3 .none rfl (.tmp rfl rfl) rfl rfl rfl rfl)
   (.c (S.bfield fi62_1 .none rfl (.tmp rfl rfl))
   (.c (S.bload1 ti3 .none rfl (.tmp rfl rfl) rfl rfl rfl rfl)
   (.c (S.leq .none rfl (.tmp rfl rfl) (.tmp rfl rfl))
   (.c (S.call (shop_unless) Tryz.call40 .none rfl (.cons (.tmp rfl rfl) (.cons (.cint rfl) .nil)) rfl)
   (.c (S.mkSlice (k := 18) (rows := [[_], [_]]) ai130 .none rfl (.cons (.tmp rfl rfl) (.cons (.tmp rfl rfl) .nil)) rfl rfl rfl rfl rfl rfl rfl)
   (.c (S.callL (shop_first (l := [_, _])) Tryz.call36 .none rfl (.cons (.tmp rfl rfl) .nil) (.cons (.p (.own rfl rfl) rfl) .nil) rfl)
   (.c (S.assign .none rfl (.tmp rfl rfl))
   .nil)))))))))))))))))) (by kernel_rfl) ?_
  refine Ab.D.code ?_
  refine OK.ret (Ret.r1 (.tmp rfl rfl (.c (.same rfl) rfl) rfl) ?_)
  refine ret_i ?_
  rw [firstE2]
  simp only [limE, unlessE, decide_eq_true_eq]
  repeat' split
  all_goals (first | rfl | omega | contradiction)
 ·
  refine OK.regionDraw follows (.c (S.bfield fi62_0 .none rfl (.tmp rfl rfl))
   (.c (S.bload1 ti3 .none rfl (.tmp rfl rfl) rfl rfl rfl rfl)
   (.c (S.call (shp_isValue) Tryz.call87 .none rfl (.cons (.tmp rfl rfl) .nil) rfl)
   (.c (S.move .none rfl (.tmp rfl rfl))
   (.c (S.skip rfl rfl rfl (by first | rfl | exact decide_eq_true g6 | exact decide_eq_false g6 | (rw [decide_eq_true g6]; rfl) | (rw [decide_eq_false g6]; rfl) | simp [*]) rfl)
   (.c (S.skip rfl rfl rfl (by first | rfl | exact decide_eq_true g6 | exact decide_eq_false g6 | (rw [decide_eq_true g6]; rfl) | (rw [decide_eq_false g6]; rfl) | simp [*]) rfl)
   (.c (S.skip rfl rfl rfl (by first | rfl | exact decide_eq_true g6 | exact decide_eq_false g6 | (rw [decide_eq_true g6]; rfl) | (rw [decide_eq_false g6]; rfl) | simp [*]) rfl)
   (.c (S.pickF .none rfl (.tmp rfl rfl) .cbool (by first | rfl | exact decide_eq_true g6 | exact decide_eq_false g6 | (rw [decide_eq_true g6]; rfl) | (rw [decide_eq_false g6]; rfl) | simp [*]))
   (.c (S.call (shop_unless) Tryz.call40 .none rfl (.cons (.tmp rfl rfl) (.cons (.cint rfl) .nil)) rfl)
   (.c (S.bfield fi62_0 .none rfl (.tmp rfl rfl))
   (.c (S.bload1 ti3 .none rfl (.tmp rfl rfl) rfl rfl rfl rfl)
   (.c (S.bfield fi62_1 .none rfl (.tmp rfl rfl))
   (.c (S.bload1 ti3 .none rfl (.tmp rfl rfl) rfl rfl rfl rfl)
   (.c (S.leq .none rfl (.tmp rfl rfl) (.tmp rfl rfl))
   (.c (S.call (shop_unless) Tryz.call40 .none rfl (.cons (.tmp rfl rfl) (.cons (.cint rfl) .nil)) rfl)
   (.c (S.mkSlice (k := 18) (rows := [[_], [_]]) ai130 .none rfl (.cons (.tmp rfl rfl) (.cons (.tmp rfl rfl) .nil)) rfl rfl rfl rfl rfl rfl rfl)
   (.c (S.callL (shop_first (l := [_, _])) Tryz.call36 .none rfl (.cons (.tmp rfl rfl) .nil) (.cons (.p (.own rfl rfl) rfl) .nil) rfl)
   (.c (S.assign .none rfl (.tmp rfl rfl))
   .nil)))))))))))))))))) (by kernel_rfl) ?_
  refine Ab.D.code ?_
  refine OK.ret (Ret.r1 (.tmp rfl rfl (.c (.same rfl) rfl) rfl) ?_)
  refine ret_i ?_
  rw [firstE2]
  simp only [limE, unlessE, decide_eq_true_eq]
  repeat' split
  all_goals (first | rfl | omega | contradiction)
end Go.Proofs.YtbnimikgjjjcaaaGreatDoor
