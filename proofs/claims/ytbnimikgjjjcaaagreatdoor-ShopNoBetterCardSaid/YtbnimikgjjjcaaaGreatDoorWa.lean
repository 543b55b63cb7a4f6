import Derived.Test.YtbnimikgjjjcaaaGreatDoorGs
import Derived.Test.YtbnimikgjjjcaaaGreatDoorTy
namespace Go.Proofs.YtbnimikgjjjcaaaGreatDoor
open Go.Ab
def ints (l : List Int) : X := .sl (l.map fun n => [.int .i64 n])
def texts (l : List (List UInt8)) : X := .sl (l.map fun s => [.str s])
def firstE : List Int → Int
  | [] => 0
  | e :: l => if e ≠ 0 then e else firstE l
theorem ret_b {a b : Bool} (h : a = b) : X.bool a = X.bool b := congrArg _ h
theorem ret_F {p : Prop} [Decidable p] (h : ¬ p) : X.bool false = X.bool (decide p) := by rw [decide_eq_false h]
theorem ret_T {p : Prop} [Decidable p] (h : p) : X.bool true = X.bool (decide p) := by rw [decide_eq_true h]
theorem ret_i {a b : Int} (h : a = b) : X.int .i64 a = X.int .i64 b := congrArg _ h
def unlessE (ok : Bool) (e : Int) : Int := if ok then 0 else e
theorem firstE_drop {l : List Int} {i : Nat} (h : i < l.length) : firstE (l.drop i) = if l[i] ≠ 0 then l[i] else firstE (l.drop (i + 1)) := by
  rw [List.drop_eq_getElem_cons h, firstE]
theorem base_Within {n lo hi : Int} : Ct Tryz.prog 34 [.int .i64 n, .int .i64 lo, .int .i64 hi] (.bool (decide (lo ≤ n ∧ n ≤ hi))) := by
 refine Ct.intro (rs := [.tmp 6]) Tryz.func34 rfl Tryz.ntmps34 Tryz.results34 rfl rfl rfl fun w h => ?_
 refine OK.seq (OK.reg ?_)
 refine RK.c (S.assign .none rfl .cbool) ?_
 refine RK.nil (Ab.D.code (OK.seq (OK.reg ?_)))
 refine RK.c (S.move .none rfl (.tmp rfl rfl)) ?_
 refine RK.c (S.move .none rfl (.tmp rfl rfl)) ?_
 refine RK.c (S.leq .none rfl (.tmp rfl rfl) (.tmp rfl rfl)) ?_
 refine RK.c (S.move .none rfl (.tmp rfl rfl)) ?_
 refine RK.splitD (t := 10) rfl (fun g10 => ?_) (fun g10 => ?_)
 ·
  refine RK.c (S.move (.yes rfl rfl rfl rfl) rfl (.tmp rfl rfl)) ?_
  refine RK.c (S.move (.yes rfl rfl rfl rfl) rfl (.tmp rfl rfl)) ?_
  refine RK.c (S.leq (.yes rfl rfl rfl rfl) rfl (.tmp rfl rfl) (.tmp rfl rfl)) ?_
  refine RK.c (S.pickT .none rfl (.tmp rfl rfl) (.tmp rfl rfl) rfl) ?_
  refine RK.c (S.assign .none rfl (.tmp rfl rfl)) ?_
  refine RK.nil (Ab.D.code ?_)
  refine OK.ret (Ret.r1 (.tmp rfl rfl (.c (.same rfl) rfl) rfl) ?_)
  simp [*]
 ·
  refine RK.c (S.skip rfl rfl rfl rfl rfl) ?_
  refine RK.c (S.skip rfl rfl rfl rfl rfl) ?_
  refine RK.c (S.skip rfl rfl rfl rfl rfl) ?_
  refine RK.c (S.pickF .none rfl (.tmp rfl rfl) .cbool rfl) ?_
  refine RK.c (S.assign .none rfl (.tmp rfl rfl)) ?_
  refine RK.nil (Ab.D.code ?_)
  refine OK.ret (Ret.r1 (.tmp rfl rfl (.c (.same rfl) rfl) rfl) ?_)
  simp [*]
theorem base_Ints {a b : List Int} : Ct Tryz.prog 24 [ints a, ints b] (.bool (decide (a = b))) := by
 refine Ct.intro (rs := [.tmp 4]) Tryz.func24 rfl Tryz.ntmps24 Tryz.results24 rfl rfl rfl fun w h => ?_
 refine OK.slLen (rows := a.map fun n => [.int .i64 n]) (t := 0) rfl rfl fun hlen => ?_
 rw [List.length_map] at hlen
 unfold maxLen at hlen
 refine OK.seq (OK.reg ?_)
 refine RK.c (S.assign .none rfl .cbool) ?_
 refine RK.nil (Ab.D.code (OK.seq (OK.seq (OK.reg ?_))))
 refine RK.c (S.move .none rfl (.tmp rfl rfl)) ?_
 refine RK.c (S.lenM si26 .none rfl (.tmp rfl rfl)) ?_
 refine RK.c (S.move .none rfl (.tmp rfl rfl)) ?_
 refine RK.c (S.lenM si26 .none rfl (.tmp rfl rfl)) ?_
 refine RK.c (S.neq .none rfl (.tmp rfl rfl) (.tmp rfl rfl)) ?_
 refine RK.nil (Ab.D.code ?_)
 refine OK.condD rfl rfl (fun c10 => ?_) (fun c10 => ?_)
 ·
  refine OK.seq (OK.reg ?_)
  refine RK.c (S.assign .none rfl .cbool) ?_
  refine RK.nil (Ab.D.code ?_)
  refine OK.ret (Ret.r1 (.tmp rfl rfl (.c (.same rfl) rfl) rfl) ?_)
  exact ret_F (fun e => c10 (by rw [e]))
 ·
  have hl : a.length = b.length := by omega
  refine OK.skip ?_
  refine Ab.D.code (OK.seq (OK.seq (OK.reg ?_)))
  refine RK.c (S.assign .none rfl (.cint rfl)) ?_
  refine RK.nil (Ab.D.code ?_)
  refine OK.block ?_
  refine OK.loop (G := Nat) [] (fun i => [(0, ints a), (1, ints b), (5, .int .i64 i)]) (fun i => i ≤ a.length ∧ a.take i = b.take i) (fun i => a.length - i) 0 ⟨Nat.zero_le _, rfl⟩ ⟨rfl, rfl, rfl, trivial⟩ (fun _ => rfl) ?_
  rintro i ⟨hi, ht⟩
  refine OK.seq (OK.seq (OK.reg ?_))
  refine RK.c (S.move .none rfl (.tmp rfl rfl)) ?_
  refine RK.c (S.move .none rfl (.tmp rfl rfl)) ?_
  refine RK.c (S.lenM si26 .none rfl (.tmp rfl rfl)) ?_
  refine RK.c (S.lss .none rfl (.tmp rfl rfl) (.tmp rfl rfl)) ?_
  refine RK.nil (Ab.D.code ?_)
  refine OK.condD rfl rfl (fun c14 => ?_) (fun c14 => ?_)
  ·
   refine OK.skip ?_
   refine Ab.D.code ?_
   refine OK.seq ?_
   refine OK.block ?_
   refine OK.seq ?_
   refine OK.regionDraw follows (.c (S.move .none rfl (.tmp rfl rfl))
    (.c (S.move .none rfl (.tmp rfl rfl))
    (.c (S.indexM si26 .none rfl (.tmp rfl rfl) (.tmp rfl rfl) rfl (by omega) rfl)
    (.c (S.load1 ti3 .none rfl (.tmp rfl rfl) rfl)
    (.c (S.move .none rfl (.tmp rfl rfl))
    (.c (S.move .none rfl (.tmp rfl rfl))
    (.c (S.indexM si26 .none rfl (.tmp rfl rfl) (.tmp rfl rfl) rfl (by omega) rfl)
    (.c (S.load1 ti3 .none rfl (.tmp rfl rfl) rfl)
    (.c (S.neq .none rfl (.tmp rfl rfl) (.tmp rfl rfl))
    .nil))))))))) (by kernel_rfl) ?_
   refine Ab.D.code ?_
   refine OK.condD rfl rfl (fun c25 => ?_) (fun c25 => ?_)
   ·
    refine OK.seq (OK.reg ?_)
    refine RK.c (S.assign .none rfl .cbool) ?_
    refine RK.nil (Ab.D.code ?_)
    refine OK.ret (Ret.r1 (.tmp rfl rfl (.c (.same rfl) rfl) rfl) ?_)
    exact ret_F (fun e => by subst e; exact c25 rfl)
   ·
    refine OK.skip ?_
    refine Ab.D.blk ?_
    refine Ab.D.code (OK.reg ?_)
    refine RK.c (S.move .none rfl (.tmp rfl rfl)) ?_
    refine RK.c (S.add .none rfl (.tmp rfl rfl) (.cint rfl) (IntWalk.i64_in _ (by omega)) (IntWalk.i64_in _ (by omega))) ?_
    refine RK.c (S.assign .none rfl (.tmp rfl rfl)) ?_
    refine RK.nil ?_
    refine Ab.D.lp ⟨i + 1, ⟨by omega, ?_⟩, (by omega), rfl, rfl, rfl, trivial⟩
    simp only [ne_eq, Decidable.not_not] at c25
    rw [List.take_succ_eq_append_getElem (by omega), List.take_succ_eq_append_getElem (by omega), ht, c25]
  ·
   refine OK.exit rfl ?_
   refine Ab.D.code (OK.seq (OK.reg ?_))
   refine RK.c (S.assign .none rfl .cbool) ?_
   refine RK.nil (Ab.D.code ?_)
   refine OK.ret (Ret.r1 (.tmp rfl rfl (.c (.same rfl) rfl) rfl) ?_)
   have : i = a.length := by omega
   subst this
   rw [List.take_length, hl, List.take_length] at ht
   exact ret_T ht
end Go.Proofs.YtbnimikgjjjcaaaGreatDoor
namespace Go.Proofs.YtbnimikgjjjcaaaGreatDoor
open Go.Ab
structure Pass where
  part : Int
  frm : Int
  til : Int
  deriving DecidableEq
def Pass.cs (x : Pass) : List X := [.int .i64 x.part, .int .i64 x.frm, .int .i64 x.til]
structure Event where
  kind : Int
  part : Int
  deriving DecidableEq
def Event.cs (x : Event) : List X := [.int .i64 x.kind, .int .i64 x.part]
structure Row where
  known : Bool
  values : List Int
  deriving DecidableEq
def Row.cs (x : Row) : List X := [.bool x.known, .sl (x.values.map fun n => [.int .i64 n])]
structure Record where
  rows : List Row
  deriving DecidableEq
def Record.cs (x : Record) : List X := [.sl (x.rows.map Row.cs)]
structure Range where
  lo : Int
  hi : Int
  deriving DecidableEq
def Range.cs (x : Range) : List X := [.int .i64 x.lo, .int .i64 x.hi]
structure Frame where
  tick : Int
  values : List Int
  deriving DecidableEq
def Frame.cs (x : Frame) : List X := [.int .i64 x.tick, .sl (x.values.map fun n => [.int .i64 n])]
structure Plan where
  channels : List (List UInt8)
  ticks : Int
  deriving DecidableEq
def Plan.cs (x : Plan) : List X := [.sl (x.channels.map fun s => [.str s]), .int .i64 x.ticks]
structure Envelope where
  parts : Int
  trim : Int
  rows : List (List Range)
  deriving DecidableEq
def Envelope.cs (x : Envelope) : List X := [.int .i64 x.parts, .int .i64 x.trim, .sl (x.rows.map fun l => [.sl (l.map Range.cs)])]
structure Deviation where
  tick : Int
  channel : Int
  by_ : Int
  deriving DecidableEq
def Deviation.cs (x : Deviation) : List X := [.int .i64 x.tick, .int .i64 x.channel, .int .i64 x.by_]
structure Rule where
  target : Int
  slack : Int
  limit : Int
  deriving DecidableEq
def Rule.cs (x : Rule) : List X := [.int .i64 x.target, .int .i64 x.slack, .int .i64 x.limit]
structure Counts where
  inside : Int
  good : Int
  bad : Int
  deriving DecidableEq
def Counts.cs (x : Counts) : List X := [.int .i64 x.inside, .int .i64 x.good, .int .i64 x.bad]
structure Frac where
  num : Int
  den : Int
  deriving DecidableEq
def Frac.cs (x : Frac) : List X := [.int .i64 x.num, .int .i64 x.den]
def idxGo {α : Type} (g : α → Bool) : Nat → List α → Int
  | _, [] => -1
  | i, x :: l => if g x then i else idxGo g (i + 1) l
theorem idxGo_drop {α : Type} (g : α → Bool) {l : List α} {i : Nat} (h : i < l.length) : idxGo g i (l.drop i) = if g l[i] then (i : Int) else idxGo g (i + 1) (l.drop (i + 1)) := by
  rw [List.drop_eq_getElem_cons h, idxGo]
theorem idxGo_any {α : Type} (g : α → Bool) : ∀ (l : List α) (i : Nat), decide (0 ≤ idxGo g i l) = l.any g
  | [], i => by simp [idxGo]
  | x :: l, i => by
    rw [idxGo, List.any_cons, ← idxGo_any g l (i + 1)]
    cases g x <;> simp
def eachGo {α : Type} (g : Nat → α → Int) : Nat → List α → Int × Int
  | _, [] => (0, 0)
  | i, x :: l => if g i x ≠ 0 then (i, g i x) else eachGo g (i + 1) l
theorem eachGo_drop {α : Type} (g : Nat → α → Int) {l : List α} {i : Nat} (h : i < l.length) : eachGo g i (l.drop i) = if g i l[i] ≠ 0 then ((i : Int), g i l[i]) else eachGo g (i + 1) (l.drop (i + 1)) := by
  rw [List.drop_eq_getElem_cons h, eachGo]
def pair (p : Int × Int) : X := .tup [.int .i64 p.1, .int .i64 p.2]
abbrev CallOk (f : Nat) : Prop := ∀ args w, (callFunc f args).run Tryz.prog w = .ok (.enter f args) w
abbrev Clean (caps : List X) : Prop := caps.all (okP []) = true ∧ caps.all (fun u => !notCell u) = true
theorem ret_p {a b : Int} {p : Int × Int} (h : (a, b) = p) : X.tup [.int .i64 a, .int .i64 b] = pair p := by subst h; rfl
theorem indexFunc_int {l : List Int} {fid : Nat} {caps : List X} {g : Int → Bool} (hf : ∀ x, x ∈ l → Ct Tryz.prog fid ([.int .i64 x] ++ caps) (.bool (g x))) (hcall : CallOk fid) (hc : Clean caps) : Ct Tryz.prog 82 [.sl (l.map (fun n => [.int .i64 n])), .fn fid caps] (.int .i64 (idxGo g 0 l)) := by
 refine Ct.intro (rs := [.tmp 4]) Tryz.func82 rfl Tryz.ntmps82 Tryz.results82 rfl rfl rfl fun w h => ?_
 refine OK.slLen (rows := l.map (fun n => [.int .i64 n])) (t := 0) rfl rfl fun hlen => ?_
 rw [List.length_map] at hlen
 unfold maxLen at hlen
 refine OK.seq (OK.reg ?_)
 refine RK.c (S.assign .none rfl (.cint rfl)) ?_
 refine RK.nil (Ab.D.code (OK.seq (OK.seq (OK.reg ?_))))
 refine RK.c (S.move .none rfl (.tmp rfl rfl)) ?_
 refine RK.c (S.lenM si26 .none rfl (.tmp rfl rfl)) ?_
 refine RK.c (S.move .none rfl (.cint rfl)) ?_
 refine RK.nil (Ab.D.code ?_)
 refine OK.block ?_
 refine OK.loop (G := Nat) [] (fun i => [(0, .sl (l.map (fun n => [.int .i64 n]))), (1, .fn fid caps), (6, .sl (l.map (fun n => [.int .i64 n]))), (7, .int .i64 l.length), (8, .int .i64 i)]) (fun i => i ≤ l.length ∧ idxGo g 0 l = idxGo g i (l.drop i)) (fun i => l.length - i) 0 ⟨Nat.zero_le _, rfl⟩ ⟨rfl, rfl, rfl, rfl, rfl, trivial⟩ (fun _ => by simp [okKey, okT, okV, okC, okP, hc.1]) ?_
 rintro i ⟨hi, hg⟩
 refine OK.seq (OK.reg ?_)
 refine RK.c (S.lss .none rfl (.tmp rfl rfl) (.tmp rfl rfl)) ?_
 refine RK.nil (Ab.D.code ?_)
 refine OK.seq ?_
 refine OK.condD rfl rfl (fun c9 => ?_) (fun c9 => ?_)
 ·
  refine OK.skip ?_
  refine Ab.D.code ?_
  refine OK.seq ?_
  refine OK.block ?_
  refine OK.seq (OK.reg ?_)
  refine RK.c (S.move .none rfl (.tmp rfl rfl)) ?_
  refine RK.c (S.assign .none rfl (.tmp rfl rfl)) ?_
  refine RK.nil (Ab.D.code (OK.seq (OK.reg ?_)))
  refine RK.c (S.move .none rfl (.tmp rfl rfl)) ?_
  refine RK.c (S.move .none rfl (.tmp rfl rfl)) ?_
  refine RK.c (S.move .none rfl (.tmp rfl rfl)) ?_
  refine RK.c (S.indexM si26 .none rfl (.tmp rfl rfl) (.tmp rfl rfl) rfl (by omega) rfl) ?_
  refine RK.c (S.load1 ti3 .none rfl (.tmp rfl rfl) rfl) ?_
  refine RK.c (S.callv (hf _ (List.getElem_mem _)) hcall .none rfl (.tmp rfl rfl) (.cons (.tmp rfl rfl) .nil) rfl hc.1 hc.2) ?_
  refine RK.nil (Ab.D.code ?_)
  refine OK.cond rfl rfl (fun c16 => ?_) (fun c16 => ?_)
  ·
   refine OK.seq (OK.reg ?_)
   refine RK.c (S.move .none rfl (.tmp rfl rfl)) ?_
   refine RK.c (S.assign .none rfl (.tmp rfl rfl)) ?_
   refine RK.nil (Ab.D.code ?_)
   refine OK.ret (Ret.r1 (.tmp rfl rfl (.c (.same rfl) rfl) rfl) ?_)
   rw [hg, idxGo_drop _ (by omega)]
   simp_all
  ·
   refine OK.skip ?_
   refine Ab.D.blk ?_
   refine Ab.D.code (OK.reg ?_)
   refine RK.c (S.add .none rfl (.tmp rfl rfl) (.cint rfl) (IntWalk.i64_in _ (by omega)) (IntWalk.i64_in _ (by omega))) ?_
   refine RK.c (S.move .none rfl (.tmp rfl rfl)) ?_
   refine RK.nil ?_
   refine Ab.D.lp ⟨i + 1, ⟨by omega, ?_⟩, (by omega), rfl, rfl, rfl, rfl, rfl, trivial⟩
   rw [hg, idxGo_drop _ (by omega)]
   simp_all
 ·
  refine OK.exit rfl ?_
  refine Ab.D.code (OK.seq (OK.reg ?_))
  refine RK.c (S.assign .none rfl (.cint rfl)) ?_
  refine RK.nil (Ab.D.code ?_)
  refine OK.ret (Ret.r1 (.tmp rfl rfl (.c (.same rfl) rfl) rfl) ?_)
  have : i = l.length := by omega
  subst this
  rw [hg, List.drop_length]
  rfl
theorem containsFunc_int {l : List Int} {fid : Nat} {caps : List X} {g : Int → Bool} (hf : ∀ x, x ∈ l → Ct Tryz.prog fid ([.int .i64 x] ++ caps) (.bool (g x))) (hcall : CallOk fid) (hc : Clean caps) : Ct Tryz.prog 85 [.sl (l.map (fun n => [.int .i64 n])), .fn fid caps] (.bool (l.any g)) := by
 refine Ct.intro (rs := [.tmp 4]) Tryz.func85 rfl Tryz.ntmps85 Tryz.results85 rfl rfl rfl fun w h => ?_
 refine OK.seq (OK.reg ?_)
 refine RK.c (S.assign .none rfl .cbool) ?_
 refine RK.nil (Ab.D.code (OK.seq (OK.reg ?_)))
 refine RK.c (S.move .none rfl (.tmp rfl rfl)) ?_
 refine RK.c (S.move .none rfl (.tmp rfl rfl)) ?_
 refine RK.c (S.call (indexFunc_int hf hcall hc) Tryz.call82 .none rfl (.cons (.tmp rfl rfl) (.cons (.tmp rfl rfl) .nil)) (by simp [okArg, okV, okC, okP, isTup, hc.1])) ?_
 refine RK.c (S.geq .none rfl (.tmp rfl rfl) (.cint rfl)) ?_
 refine RK.c (S.assign .none rfl (.tmp rfl rfl)) ?_
 refine RK.nil (Ab.D.code ?_)
 refine OK.ret (Ret.r1 (.tmp rfl rfl (.c (.same rfl) rfl) rfl) ?_)
 exact ret_b (by rw [← idxGo_any g l 0])
end Go.Proofs.YtbnimikgjjjcaaaGreatDoor
namespace Go.Proofs.YtbnimikgjjjcaaaGreatDoor
open Go.Ab
def allGo {α : Type} (g : Nat → α → Bool) : Nat → List α → Bool
  | _, [] => true
  | i, x :: l => g i x && allGo g (i + 1) l
theorem allGo_drop {α : Type} (g : Nat → α → Bool) {l : List α} {i : Nat} (h : i < l.length) : allGo g i (l.drop i) = (g i l[i] && allGo g (i + 1) (l.drop (i + 1))) := by
  rw [List.drop_eq_getElem_cons h, allGo]
def nameC (i : Nat) (c : UInt8) : Bool :=
  decide (97 ≤ (c.toNat : Int) ∧ (c.toNat : Int) ≤ 122) || decide (65 ≤ (c.toNat : Int) ∧ (c.toNat : Int) ≤ 90) || (decide ((i : Int) ≠ 0) && (decide ((c.toNat : Int) = 45) || decide (48 ≤ (c.toNat : Int) ∧ (c.toNat : Int) ≤ 57)))
def nameOk (s : List UInt8) : Bool := allGo nameC 0 s && decide (1 ≤ (s.length : Int) ∧ (s.length : Int) ≤ 12)
theorem u8_i64 (b : UInt8) : -9223372036854775808 ≤ (b.toNat : Int) ∧ (b.toNat : Int) ≤ 9223372036854775807 := by
  have := UInt8.toNat_lt b
  omega
theorem nameT {s : List UInt8} {i : Nat} (h : i < s.length) (hg : allGo nameC 0 s = allGo nameC i (s.drop i)) (hc : nameC i s[i] = true) : allGo nameC 0 s = allGo nameC (i + 1) (s.drop (i + 1)) := by
  rw [hg, allGo_drop _ h, hc, Bool.true_and]
theorem nameF {s : List UInt8} {i : Nat} (h : i < s.length) (hg : allGo nameC 0 s = allGo nameC i (s.drop i)) (hc : nameC i s[i] = false) : X.bool false = X.bool (nameOk s) := by
  rw [nameOk, hg, allGo_drop _ h, hc, Bool.false_and, Bool.false_and]
def hasText (l : List (List UInt8)) (s : List UInt8) : Bool := l.any fun x => decide (s = x)
theorem any_drop {α : Type} (g : α → Bool) {l : List α} {i : Nat} (h : i < l.length) : (l.drop i).any g = (g l[i] || (l.drop (i + 1)).any g) := by
  rw [List.drop_eq_getElem_cons h, List.any_cons]
theorem base_IsName {s : List UInt8} : Ct Tryz.prog 93 [.str s] (.bool (nameOk s)) := by
 refine Ct.intro (rs := [.tmp 2]) Tryz.func93 rfl Tryz.ntmps93 Tryz.results93 rfl rfl rfl fun w h => ?_
 refine OK.strLen (t := 0) (z := s) rfl rfl fun hlen => ?_
 unfold maxLen at hlen
 refine OK.seq (OK.reg ?_)
 refine RK.c (S.assign .none rfl .cbool) ?_
 refine RK.nil (Ab.D.code (OK.seq (OK.seq (OK.reg ?_))))
 refine RK.c (S.move .none rfl (.tmp rfl rfl)) ?_
 refine RK.c (S.slen Tryz.underlying9 .none rfl (.tmp rfl rfl)) ?_
 refine RK.c (S.lss .none rfl (.tmp rfl rfl) (.cint rfl)) ?_
 refine RK.c (S.move .none rfl (.tmp rfl rfl)) ?_
 refine RK.splitD (t := 9) rfl (fun g9 => ?_) (fun g9 => ?_)
 ·
  refine RK.c (S.skip rfl rfl rfl rfl rfl) ?_
  refine RK.c (S.skip rfl rfl rfl rfl rfl) ?_
  refine RK.c (S.skip rfl rfl rfl rfl rfl) ?_
  refine RK.c (S.pickT .none rfl (.tmp rfl rfl) .cbool rfl) ?_
  refine RK.nil (Ab.D.code ?_)
  refine OK.condT rfl rfl rfl ?_
  refine OK.seq (OK.reg ?_)
  refine RK.c (S.assign .none rfl .cbool) ?_
  refine RK.nil (Ab.D.code ?_)
  refine OK.ret (Ret.r1 (.tmp rfl rfl (.c (.same rfl) rfl) rfl) ?_)
  first | (exact nameF (by omega) hg (by simp only [nameC, Bool.or_eq_false_iff, Bool.and_eq_false_iff, decide_eq_false_iff_not]; omega)) | (refine ret_b ?_; rw [nameOk]; rw [decide_eq_false (by omega), Bool.and_false])
 ·
  refine RK.c (S.move (.yes rfl rfl rfl rfl) rfl (.tmp rfl rfl)) ?_
  refine RK.c (S.slen Tryz.underlying9 (.yes rfl rfl rfl rfl) rfl (.tmp rfl rfl)) ?_
  refine RK.c (S.gtr (.yes rfl rfl rfl rfl) rfl (.tmp rfl rfl) (.cint rfl)) ?_
  refine RK.c (S.pickF .none rfl (.tmp rfl rfl) (.tmp rfl rfl) rfl) ?_
  refine RK.nil (Ab.D.code ?_)
  refine OK.condD rfl rfl (fun c13 => ?_) (fun c13 => ?_)
  ·
   refine OK.seq (OK.reg ?_)
   refine RK.c (S.assign .none rfl .cbool) ?_
   refine RK.nil (Ab.D.code ?_)
   refine OK.ret (Ret.r1 (.tmp rfl rfl (.c (.same rfl) rfl) rfl) ?_)
   first | (exact nameF (by omega) hg (by simp only [nameC, Bool.or_eq_false_iff, Bool.and_eq_false_iff, decide_eq_false_iff_not]; omega)) | (refine ret_b ?_; rw [nameOk]; rw [decide_eq_false (by omega), Bool.and_false])
  ·
   refine OK.skip ?_
   refine Ab.D.code (OK.seq (OK.seq (OK.reg ?_)))
   refine RK.c (S.assign .none rfl (.cint rfl)) ?_
   refine RK.nil (Ab.D.code ?_)
   refine OK.block ?_
   refine OK.loop (G := Nat) [] (fun i => [(0, .str s), (3, .int .i64 i)]) (fun i => i ≤ s.length ∧ allGo nameC 0 s = allGo nameC i (s.drop i)) (fun i => s.length - i) 0 ⟨Nat.zero_le _, rfl⟩ ⟨rfl, rfl, trivial⟩ (fun _ => rfl) ?_
   rintro i ⟨hi, hg⟩
   refine OK.seq (OK.seq (OK.reg ?_))
   refine RK.c (S.move .none rfl (.tmp rfl rfl)) ?_
   refine RK.c (S.move .none rfl (.tmp rfl rfl)) ?_
   refine RK.c (S.slen Tryz.underlying9 .none rfl (.tmp rfl rfl)) ?_
   refine RK.c (S.lss .none rfl (.tmp rfl rfl) (.tmp rfl rfl)) ?_
   refine RK.nil (Ab.D.code ?_)
   refine OK.condD rfl rfl (fun c17 => ?_) (fun c17 => ?_)
   ·
    have hil : i < s.length := by omega
    refine OK.skip ?_
    refine Ab.D.code ?_
    refine OK.seq ?_
    refine OK.block ?_
    refine OK.seq (OK.reg ?_)
    refine RK.c (S.move .none rfl (.tmp rfl rfl)) ?_
    refine RK.c (S.move .none rfl (.tmp rfl rfl)) ?_
    refine RK.c (S.stridx str9 .none rfl (.tmp rfl rfl) (.tmp rfl rfl) rfl (by omega)) ?_
    refine RK.c (S.assign .none rfl (.tmp rfl rfl)) ?_
    refine RK.nil (Ab.D.code ?_)
    refine OK.join (G := Bool) [] (fun b => [(0, .str s), (3, .int .i64 i), (4, .int .u8 (s[i].toNat : Int)), (5, .bool b)]) (fun b => (b = true) = ((97 ≤ (s[i].toNat : Int) ∧ (s[i].toNat : Int) ≤ 122) ∨ (65 ≤ (s[i].toNat : Int) ∧ (s[i].toNat : Int) ≤ 90))) (fun _ => rfl) ?_ ?_
    ·
     refine OK.reg ?_
     refine RK.c (S.move .none rfl (.tmp rfl rfl)) ?_
     refine RK.c (S.geq .none rfl (.tmp rfl rfl) (.cint rfl)) ?_
     refine RK.c (S.move .none rfl (.tmp rfl rfl)) ?_
     refine RK.splitD (t := 25) rfl (fun g25 => ?_) (fun g25 => ?_)
     ·
      refine RK.c (S.move (.yes rfl rfl rfl rfl) rfl (.tmp rfl rfl)) ?_
      refine RK.c (S.leq (.yes rfl rfl rfl rfl) rfl (.tmp rfl rfl) (.cint rfl)) ?_
      refine RK.c (S.pickT .none rfl (.tmp rfl rfl) (.tmp rfl rfl) rfl) ?_
      refine RK.c (S.move .none rfl (.tmp rfl rfl)) ?_
      refine RK.splitD (t := 29) rfl (fun g29 => ?_) (fun g29 => ?_)
      ·
       refine RK.c (S.skip rfl rfl rfl rfl rfl) ?_
       refine RK.c (S.skip rfl rfl rfl rfl rfl) ?_
       refine RK.c (S.skip rfl rfl rfl rfl rfl) ?_
       refine RK.c (S.skipU rfl rfl rfl rfl) ?_
       refine RK.c (S.skipU rfl rfl rfl rfl) ?_
       refine RK.c (S.skip rfl rfl rfl rfl rfl) ?_
       refine RK.c (S.pickT .none rfl (.tmp rfl rfl) .cbool rfl) ?_
       refine RK.c (S.assign .none rfl (.tmp rfl rfl)) ?_
       refine RK.nil ?_
       refine Ab.D.lp ⟨_, ?_, rfl, rfl, rfl, rfl, trivial⟩
       first | (refine propext ⟨fun _ => ?_, fun _ => rfl⟩; omega; done) | (rw [decide_eq_true_eq]; exact propext ⟨fun h => by omega, fun h => by omega⟩) | (refine propext ⟨fun h => (by cases h), fun h => ?_⟩; exfalso; omega; done)
      ·
       refine RK.c (S.move (.yes rfl rfl rfl rfl) rfl (.tmp rfl rfl)) ?_
       refine RK.c (S.geq (.yes rfl rfl rfl rfl) rfl (.tmp rfl rfl) (.cint rfl)) ?_
       refine RK.c (S.move (.yes rfl rfl rfl rfl) rfl (.tmp rfl rfl)) ?_
       refine RK.splitD (t := 32) rfl (fun g32 => ?_) (fun g32 => ?_)
       ·
        refine RK.c (S.move (.yes rfl rfl rfl rfl) rfl (.tmp rfl rfl)) ?_
        refine RK.c (S.leq (.yes rfl rfl rfl rfl) rfl (.tmp rfl rfl) (.cint rfl)) ?_
        refine RK.c (S.pickT (.yes rfl rfl rfl rfl) rfl (.tmp rfl rfl) (.tmp rfl rfl) rfl) ?_
        refine RK.c (S.pickF .none rfl (.tmp rfl rfl) (.tmp rfl rfl) rfl) ?_
        refine RK.c (S.assign .none rfl (.tmp rfl rfl)) ?_
        refine RK.nil ?_
        refine Ab.D.lp ⟨_, ?_, rfl, rfl, rfl, rfl, trivial⟩
        first | (refine propext ⟨fun _ => ?_, fun _ => rfl⟩; omega; done) | (rw [decide_eq_true_eq]; exact propext ⟨fun h => by omega, fun h => by omega⟩) | (refine propext ⟨fun h => (by cases h), fun h => ?_⟩; exfalso; omega; done)
       ·
        refine RK.c (S.skip rfl rfl rfl rfl rfl) ?_
        refine RK.c (S.skip rfl rfl rfl rfl rfl) ?_
        refine RK.c (S.pickF (.yes rfl rfl rfl rfl) rfl (.tmp rfl rfl) .cbool rfl) ?_
        refine RK.c (S.pickF .none rfl (.tmp rfl rfl) (.tmp rfl rfl) rfl) ?_
        refine RK.c (S.assign .none rfl (.tmp rfl rfl)) ?_
        refine RK.nil ?_
        refine Ab.D.lp ⟨_, ?_, rfl, rfl, rfl, rfl, trivial⟩
        first | (refine propext ⟨fun _ => ?_, fun _ => rfl⟩; omega; done) | (rw [decide_eq_true_eq]; exact propext ⟨fun h => by omega, fun h => by omega⟩) | (refine propext ⟨fun h => (by cases h), fun h => ?_⟩; exfalso; omega; done)
     ·
      refine RK.c (S.skip rfl rfl rfl rfl rfl) ?_
      refine RK.c (S.skip rfl rfl rfl rfl rfl) ?_
      refine RK.c (S.pickF .none rfl (.tmp rfl rfl) .cbool rfl) ?_
      refine RK.c (S.move .none rfl (.tmp rfl rfl)) ?_
      refine RK.c (S.move (.yes rfl rfl rfl rfl) rfl (.tmp rfl rfl)) ?_
      refine RK.c (S.geq (.yes rfl rfl rfl rfl) rfl (.tmp rfl rfl) (.cint rfl)) ?_
      refine RK.c (S.move (.yes rfl rfl rfl rfl) rfl (.tmp rfl rfl)) ?_
      refine RK.splitD (t := 32) rfl (fun g32 => ?_) (fun g32 => ?_)
      ·
       refine RK.c (S.move (.yes rfl rfl rfl rfl) rfl (.tmp rfl rfl)) ?_
       refine RK.c (S.leq (.yes rfl rfl rfl rfl) rfl (.tmp rfl rfl) (.cint rfl)) ?_
       refine RK.c (S.pickT (.yes rfl rfl rfl rfl) rfl (.tmp rfl rfl) (.tmp rfl rfl) rfl) ?_
       refine RK.c (S.pickF .none rfl (.tmp rfl rfl) (.tmp rfl rfl) rfl) ?_
       refine RK.c (S.assign .none rfl (.tmp rfl rfl)) ?_
       refine RK.nil ?_
       refine Ab.D.lp ⟨_, ?_, rfl, rfl, rfl, rfl, trivial⟩
       first | (refine propext ⟨fun _ => ?_, fun _ => rfl⟩; omega; done) | (rw [decide_eq_true_eq]; exact propext ⟨fun h => by omega, fun h => by omega⟩) | (refine propext ⟨fun h => (by cases h), fun h => ?_⟩; exfalso; omega; done)
      ·
       refine RK.c (S.skip rfl rfl rfl rfl rfl) ?_
       refine RK.c (S.skip rfl rfl rfl rfl rfl) ?_
       refine RK.c (S.pickF (.yes rfl rfl rfl rfl) rfl (.tmp rfl rfl) .cbool rfl) ?_
       refine RK.c (S.pickF .none rfl (.tmp rfl rfl) (.tmp rfl rfl) rfl) ?_
       refine RK.c (S.assign .none rfl (.tmp rfl rfl)) ?_
       refine RK.nil ?_
       refine Ab.D.lp ⟨_, ?_, rfl, rfl, rfl, rfl, trivial⟩
       first | (refine propext ⟨fun _ => ?_, fun _ => rfl⟩; omega; done) | (rw [decide_eq_true_eq]; exact propext ⟨fun h => by omega, fun h => by omega⟩) | (refine propext ⟨fun h => (by cases h), fun h => ?_⟩; exfalso; omega; done)
    ·
     rintro b hb
     refine OK.seq (OK.reg ?_)
     refine RK.c (S.move .none rfl (.tmp rfl rfl)) ?_
     refine RK.c (S.not .none rfl (.tmp rfl rfl)) ?_
     refine RK.c (S.move .none rfl (.tmp rfl rfl)) ?_
     refine RK.split (t := 39) rfl (fun g39 => ?_) (fun g39 => ?_)
     ·
      have hnb : ¬ ((97 ≤ (s[i].toNat : Int) ∧ (s[i].toNat : Int) ≤ 122) ∨ (65 ≤ (s[i].toNat : Int) ∧ (s[i].toNat : Int) ≤ 90)) := by
       rw [← hb]; simpa using g39
      refine RK.c (S.move (.yes rfl rfl rfl rfl) rfl (.tmp rfl rfl)) ?_
      refine RK.c (S.eql (.yes rfl rfl rfl rfl) rfl (.tmp rfl rfl) (.cint rfl)) ?_
      refine RK.c (S.move (.yes rfl rfl rfl rfl) rfl (.tmp rfl rfl)) ?_
      refine RK.splitD (t := 42) rfl (fun g42 => ?_) (fun g42 => ?_)
      ·
       refine RK.c (S.skip rfl rfl rfl rfl rfl) ?_
       refine RK.c (S.skip rfl rfl rfl rfl rfl) ?_
       refine RK.c (S.skip rfl rfl rfl rfl rfl) ?_
       refine RK.c (S.skipU rfl rfl rfl rfl) ?_
       refine RK.c (S.skipU rfl rfl rfl rfl) ?_
       refine RK.c (S.skipU rfl rfl rfl rfl) ?_
       refine RK.c (S.skipU rfl rfl rfl rfl) ?_
       refine RK.c (S.skipU rfl rfl rfl rfl) ?_
       refine RK.c (S.skipU rfl rfl rfl rfl) ?_
       refine RK.c (S.skip rfl rfl rfl rfl rfl) ?_
       refine RK.c (S.pickT (.yes rfl rfl rfl rfl) rfl (.tmp rfl rfl) .cbool rfl) ?_
       refine RK.c (S.pickT .none rfl (.tmp rfl rfl) (.tmp rfl rfl) rfl) ?_
       refine RK.nil (Ab.D.code ?_)
       refine OK.condT rfl rfl rfl ?_
       refine OK.seq (OK.reg ?_)
       refine RK.c (S.assign .none rfl .cbool) ?_
       refine RK.nil (Ab.D.code ?_)
       refine OK.ret (Ret.r1 (.tmp rfl rfl (.c (.same rfl) rfl) rfl) ?_)
       first | (exact nameF (by omega) hg (by simp only [nameC, Bool.or_eq_false_iff, Bool.and_eq_false_iff, decide_eq_false_iff_not]; omega)) | (refine ret_b ?_; rw [nameOk]; rw [decide_eq_false (by omega), Bool.and_false])
      ·
       refine RK.c (S.move (.yes rfl rfl rfl rfl) rfl (.tmp rfl rfl)) ?_
       refine RK.c (S.neq (.yes rfl rfl rfl rfl) rfl (.tmp rfl rfl) (.cint rfl)) ?_
       refine RK.c (S.move (.yes rfl rfl rfl rfl) rfl (.tmp rfl rfl)) ?_
       refine RK.splitD (t := 45) rfl (fun g45 => ?_) (fun g45 => ?_)
       ·
        refine RK.c (S.move (.yes rfl rfl rfl rfl) rfl (.tmp rfl rfl)) ?_
        refine RK.c (S.lss (.yes rfl rfl rfl rfl) rfl (.tmp rfl rfl) (.cint rfl)) ?_
        refine RK.c (S.move (.yes rfl rfl rfl rfl) rfl (.tmp rfl rfl)) ?_
        refine RK.splitD (t := 48) rfl (fun g48 => ?_) (fun g48 => ?_)
        ·
         refine RK.c (S.skip rfl rfl rfl rfl rfl) ?_
         refine RK.c (S.skip rfl rfl rfl rfl rfl) ?_
         refine RK.c (S.pickT (.yes rfl rfl rfl rfl) rfl (.tmp rfl rfl) .cbool rfl) ?_
         refine RK.c (S.pickT (.yes rfl rfl rfl rfl) rfl (.tmp rfl rfl) (.tmp rfl rfl) rfl) ?_
         refine RK.c (S.pickF (.yes rfl rfl rfl rfl) rfl (.tmp rfl rfl) (.tmp rfl rfl) rfl) ?_
         refine RK.c (S.pickT .none rfl (.tmp rfl rfl) (.tmp rfl rfl) rfl) ?_
         refine RK.nil (Ab.D.code ?_)
         refine OK.condT rfl rfl rfl ?_
         refine OK.seq (OK.reg ?_)
         refine RK.c (S.assign .none rfl .cbool) ?_
         refine RK.nil (Ab.D.code ?_)
         refine OK.ret (Ret.r1 (.tmp rfl rfl (.c (.same rfl) rfl) rfl) ?_)
         first | (exact nameF (by omega) hg (by simp only [nameC, Bool.or_eq_false_iff, Bool.and_eq_false_iff, decide_eq_false_iff_not]; omega)) | (refine ret_b ?_; rw [nameOk]; rw [decide_eq_false (by omega), Bool.and_false])
        ·
         refine RK.c (S.move (.yes rfl rfl rfl rfl) rfl (.tmp rfl rfl)) ?_
         refine RK.c (S.gtr (.yes rfl rfl rfl rfl) rfl (.tmp rfl rfl) (.cint rfl)) ?_
         refine RK.c (S.pickF (.yes rfl rfl rfl rfl) rfl (.tmp rfl rfl) (.tmp rfl rfl) rfl) ?_
         refine RK.c (S.pickT (.yes rfl rfl rfl rfl) rfl (.tmp rfl rfl) (.tmp rfl rfl) rfl) ?_
         refine RK.c (S.pickF (.yes rfl rfl rfl rfl) rfl (.tmp rfl rfl) (.tmp rfl rfl) rfl) ?_
         refine RK.c (S.pickT .none rfl (.tmp rfl rfl) (.tmp rfl rfl) rfl) ?_
         refine RK.nil (Ab.D.code ?_)
         refine OK.condD rfl rfl (fun c54 => ?_) (fun c54 => ?_)
         ·
          refine OK.seq (OK.reg ?_)
          refine RK.c (S.assign .none rfl .cbool) ?_
          refine RK.nil (Ab.D.code ?_)
          refine OK.ret (Ret.r1 (.tmp rfl rfl (.c (.same rfl) rfl) rfl) ?_)
          first | (exact nameF (by omega) hg (by simp only [nameC, Bool.or_eq_false_iff, Bool.and_eq_false_iff, decide_eq_false_iff_not]; omega)) | (refine ret_b ?_; rw [nameOk]; rw [decide_eq_false (by omega), Bool.and_false])
         ·
          refine OK.skip ?_
          refine Ab.D.blk ?_
          refine Ab.D.code (OK.reg ?_)
          refine RK.c (S.move .none rfl (.tmp rfl rfl)) ?_
          refine RK.c (S.add .none rfl (.tmp rfl rfl) (.cint rfl) (IntWalk.i64_in _ (by omega)) (IntWalk.i64_in _ (by omega))) ?_
          refine RK.c (S.assign .none rfl (.tmp rfl rfl)) ?_
          refine RK.nil ?_
          refine Ab.D.lp ⟨i + 1, ⟨by omega, ?_⟩, (by omega), rfl, rfl, trivial⟩
          exact nameT (by omega) hg (by simp only [nameC, Bool.or_eq_true, Bool.and_eq_true, decide_eq_true_iff]; omega)
       ·
        refine RK.c (S.skip rfl rfl rfl rfl rfl) ?_
        refine RK.c (S.skip rfl rfl rfl rfl rfl) ?_
        refine RK.c (S.skip rfl rfl rfl rfl rfl) ?_
        refine RK.c (S.skipU rfl rfl rfl rfl) ?_
        refine RK.c (S.skipU rfl rfl rfl rfl) ?_
        refine RK.c (S.skip rfl rfl rfl rfl rfl) ?_
        refine RK.c (S.pickF (.yes rfl rfl rfl rfl) rfl (.tmp rfl rfl) .cbool rfl) ?_
        refine RK.c (S.pickF (.yes rfl rfl rfl rfl) rfl (.tmp rfl rfl) (.tmp rfl rfl) rfl) ?_
        refine RK.c (S.pickT .none rfl (.tmp rfl rfl) (.tmp rfl rfl) rfl) ?_
        refine RK.nil (Ab.D.code ?_)
        refine OK.condF rfl rfl rfl ?_
        refine OK.skip ?_
        refine Ab.D.blk ?_
        refine Ab.D.code (OK.reg ?_)
        refine RK.c (S.move .none rfl (.tmp rfl rfl)) ?_
        refine RK.c (S.add .none rfl (.tmp rfl rfl) (.cint rfl) (IntWalk.i64_in _ (by omega)) (IntWalk.i64_in _ (by omega))) ?_
        refine RK.c (S.assign .none rfl (.tmp rfl rfl)) ?_
        refine RK.nil ?_
        refine Ab.D.lp ⟨i + 1, ⟨by omega, ?_⟩, (by omega), rfl, rfl, trivial⟩
        exact nameT (by omega) hg (by simp only [nameC, Bool.or_eq_true, Bool.and_eq_true, decide_eq_true_iff]; omega)
     ·
      have hnb : (97 ≤ (s[i].toNat : Int) ∧ (s[i].toNat : Int) ≤ 122) ∨ (65 ≤ (s[i].toNat : Int) ∧ (s[i].toNat : Int) ≤ 90) := by
       rw [← hb]; simpa using g39
      refine RK.c (S.skip rfl rfl rfl rfl rfl) ?_
      refine RK.c (S.skip rfl rfl rfl rfl rfl) ?_
      refine RK.c (S.skip rfl rfl rfl rfl rfl) ?_
      refine RK.c (S.skipU rfl rfl rfl rfl) ?_
      refine RK.c (S.skipU rfl rfl rfl rfl) ?_
      refine RK.c (S.skipU rfl rfl rfl rfl) ?_
      refine RK.c (S.skipU rfl rfl rfl rfl) ?_
      refine RK.c (S.skipU rfl rfl rfl rfl) ?_
      refine RK.c (S.skipU rfl rfl rfl rfl) ?_
      refine RK.c (S.skipU rfl rfl rfl rfl) ?_
      refine RK.c (S.skipU rfl rfl rfl rfl) ?_
      refine RK.c (S.skipU rfl rfl rfl rfl) ?_
      refine RK.c (S.skipU rfl rfl rfl rfl) ?_
      refine RK.c (S.skip rfl rfl rfl rfl rfl) ?_
      refine RK.c (S.pickF .none rfl (.tmp rfl rfl) .cbool rfl) ?_
      refine RK.nil (Ab.D.code ?_)
      refine OK.condF rfl rfl rfl ?_
      refine OK.skip ?_
      refine Ab.D.blk ?_
      refine Ab.D.code (OK.reg ?_)
      refine RK.c (S.move .none rfl (.tmp rfl rfl)) ?_
      refine RK.c (S.add .none rfl (.tmp rfl rfl) (.cint rfl) (IntWalk.i64_in _ (by omega)) (IntWalk.i64_in _ (by omega))) ?_
      refine RK.c (S.assign .none rfl (.tmp rfl rfl)) ?_
      refine RK.nil ?_
      refine Ab.D.lp ⟨i + 1, ⟨by omega, ?_⟩, (by omega), rfl, rfl, trivial⟩
      exact nameT (by omega) hg (by simp only [nameC, Bool.or_eq_true, Bool.and_eq_true, decide_eq_true_iff]; omega)
   ·
    refine OK.exit rfl ?_
    refine Ab.D.code (OK.seq (OK.reg ?_))
    refine RK.c (S.assign .none rfl .cbool) ?_
    refine RK.nil (Ab.D.code ?_)
    refine OK.ret (Ret.r1 (.tmp rfl rfl (.c (.same rfl) rfl) rfl) ?_)
    have : i = s.length := by omega
    subst this
    rw [List.drop_length, allGo] at hg
    refine ret_b ?_
    rw [nameOk, hg, Bool.true_and, decide_eq_true (by omega)]
theorem base_HasText {l : List (List UInt8)} {s : List UInt8} : Ct Tryz.prog 94 [texts l, .str s] (.bool (hasText l s)) := by
 refine Ct.intro (rs := [.tmp 4]) Tryz.func94 rfl Tryz.ntmps94 Tryz.results94 rfl rfl rfl fun w h => ?_
 refine OK.slLen (rows := l.map (fun s => [.str s])) (t := 0) rfl rfl fun hlen => ?_
 rw [List.length_map] at hlen
 unfold maxLen at hlen
 refine OK.seq (OK.reg ?_)
 refine RK.c (S.assign .none rfl .cbool) ?_
 refine RK.nil (Ab.D.code (OK.seq (OK.seq (OK.reg ?_))))
 refine RK.c (S.assign .none rfl (.cint rfl)) ?_
 refine RK.nil (Ab.D.code ?_)
 refine OK.block ?_
 refine OK.loop (G := Nat) [] (fun i => [(0, texts l), (1, .str s), (5, .int .i64 i)]) (fun i => i ≤ l.length ∧ hasText l s = hasText (l.drop i) s) (fun i => l.length - i) 0 ⟨Nat.zero_le _, rfl⟩ ⟨rfl, rfl, rfl, trivial⟩ (fun _ => rfl) ?_
 rintro i ⟨hi, hg⟩
 refine OK.seq (OK.seq (OK.reg ?_))
 refine RK.c (S.move .none rfl (.tmp rfl rfl)) ?_
 refine RK.c (S.move .none rfl (.tmp rfl rfl)) ?_
 refine RK.c (S.lenM si121 .none rfl (.tmp rfl rfl)) ?_
 refine RK.c (S.lss .none rfl (.tmp rfl rfl) (.tmp rfl rfl)) ?_
 refine RK.nil (Ab.D.code ?_)
 refine OK.condD rfl rfl (fun c9 => ?_) (fun c9 => ?_)
 ·
  refine OK.skip ?_
  refine Ab.D.code ?_
  refine OK.seq ?_
  refine OK.block ?_
  refine OK.seq (OK.reg ?_)
  refine RK.c (S.move .none rfl (.tmp rfl rfl)) ?_
  refine RK.c (S.move .none rfl (.tmp rfl rfl)) ?_
  refine RK.c (S.indexM si121 .none rfl (.tmp rfl rfl) (.tmp rfl rfl) rfl (by omega) rfl) ?_
  refine RK.c (S.load1 ti9 .none rfl (.tmp rfl rfl) rfl) ?_
  refine RK.c (S.move .none rfl (.tmp rfl rfl)) ?_
  refine RK.c (S.seql .none rfl (.tmp rfl rfl) (.tmp rfl rfl)) ?_
  refine RK.nil (Ab.D.code ?_)
  refine OK.condD rfl rfl (fun c17 => ?_) (fun c17 => ?_)
  ·
   refine OK.seq (OK.reg ?_)
   refine RK.c (S.assign .none rfl .cbool) ?_
   refine RK.nil (Ab.D.code ?_)
   refine OK.ret (Ret.r1 (.tmp rfl rfl (.c (.same rfl) rfl) rfl) ?_)
   refine ret_b ?_
   rw [hg, hasText, any_drop _ (by omega), decide_eq_true c17.symm, Bool.true_or]
  ·
   refine OK.skip ?_
   refine Ab.D.blk ?_
   refine Ab.D.code (OK.reg ?_)
   refine RK.c (S.move .none rfl (.tmp rfl rfl)) ?_
   refine RK.c (S.add .none rfl (.tmp rfl rfl) (.cint rfl) (IntWalk.i64_in _ (by omega)) (IntWalk.i64_in _ (by omega))) ?_
   refine RK.c (S.assign .none rfl (.tmp rfl rfl)) ?_
   refine RK.nil ?_
   refine Ab.D.lp ⟨i + 1, ⟨by omega, ?_⟩, (by omega), rfl, rfl, rfl, trivial⟩
   rw [hg, hasText, any_drop _ (by omega), decide_eq_false (fun e => c17 e.symm), Bool.false_or]
   rfl
 ·
  refine OK.exit rfl ?_
  refine Ab.D.code (OK.seq (OK.reg ?_))
  refine RK.c (S.assign .none rfl .cbool) ?_
  refine RK.nil (Ab.D.code ?_)
  refine OK.ret (Ret.r1 (.tmp rfl rfl (.c (.same rfl) rfl) rfl) ?_)
  have : i = l.length := by omega
  subst this
  rw [hg, List.drop_length]
  rfl
end Go.Proofs.YtbnimikgjjjcaaaGreatDoor
