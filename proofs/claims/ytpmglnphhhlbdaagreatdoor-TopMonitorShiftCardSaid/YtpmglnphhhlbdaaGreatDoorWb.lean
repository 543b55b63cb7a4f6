import Derived.Test.YtpmglnphhhlbdaaGreatDoorWa
namespace Go.Proofs.YtpmglnphhhlbdaaGreatDoor
open Go.Ab
structure Pass where
  part : Int
  frm : Int
  til : Int
  deriving DecidableEq
def Pass.cs (x : Pass) : List X := [.int .i64 x.part, .int .i64 x.frm, .int .i64 x.til]
structure Event where
  kind : Int
  part : Int
  deriving DecidableEq
def Event.cs (x : Event) : List X := [.int .i64 x.kind, .int .i64 x.part]
structure Row where
  known : Bool
  values : List Int
  deriving DecidableEq
def Row.cs (x : Row) : List X := [.bool x.known, .sl (x.values.map fun n => [.int .i64 n])]
structure Record where
  rows : List Row
  deriving DecidableEq
def Record.cs (x : Record) : List X := [.sl (x.rows.map Row.cs)]
structure Range where
  lo : Int
  hi : Int
  deriving DecidableEq
def Range.cs (x : Range) : List X := [.int .i64 x.lo, .int .i64 x.hi]
structure Frame where
  tick : Int
  values : List Int
  deriving DecidableEq
def Frame.cs (x : Frame) : List X := [.int .i64 x.tick, .sl (x.values.map fun n => [.int .i64 n])]
structure Plan where
  channels : List (List UInt8)
  ticks : Int
  deriving DecidableEq
def Plan.cs (x : Plan) : List X := [.sl (x.channels.map fun s => [.str s]), .int .i64 x.ticks]
structure Envelope where
  parts : Int
  trim : Int
  rows : List (List Range)
  deriving DecidableEq
def Envelope.cs (x : Envelope) : List X := [.int .i64 x.parts, .int .i64 x.trim, .sl (x.rows.map fun l => [.sl (l.map Range.cs)])]
structure Deviation where
  tick : Int
  channel : Int
  by_ : Int
  deriving DecidableEq
def Deviation.cs (x : Deviation) : List X := [.int .i64 x.tick, .int .i64 x.channel, .int .i64 x.by_]
structure Rule where
  target : Int
  slack : Int
  limit : Int
  deriving DecidableEq
def Rule.cs (x : Rule) : List X := [.int .i64 x.target, .int .i64 x.slack, .int .i64 x.limit]
structure Counts where
  inside : Int
  good : Int
  bad : Int
  deriving DecidableEq
def Counts.cs (x : Counts) : List X := [.int .i64 x.inside, .int .i64 x.good, .int .i64 x.bad]
structure Frac where
  num : Int
  den : Int
  deriving DecidableEq
def Frac.cs (x : Frac) : List X := [.int .i64 x.num, .int .i64 x.den]
def idxGo {α : Type} (g : α → Bool) : Nat → List α → Int
  | _, [] => -1
  | i, x :: l => if g x then i else idxGo g (i + 1) l
theorem idxGo_drop {α : Type} (g : α → Bool) {l : List α} {i : Nat} (h : i < l.length) : idxGo g i (l.drop i) = if g l[i] then (i : Int) else idxGo g (i + 1) (l.drop (i + 1)) := by
  rw [List.drop_eq_getElem_cons h, idxGo]
theorem idxGo_any {α : Type} (g : α → Bool) : ∀ (l : List α) (i : Nat), decide (0 ≤ idxGo g i l) = l.any g
  | [], i => by simp [idxGo]
  | x :: l, i => by
    rw [idxGo, List.any_cons, ← idxGo_any g l (i + 1)]
    cases g x <;> simp
def eachGo {α : Type} (g : Nat → α → Int) : Nat → List α → Int × Int
  | _, [] => (0, 0)
  | i, x :: l => if g i x ≠ 0 then (i, g i x) else eachGo g (i + 1) l
theorem eachGo_drop {α : Type} (g : Nat → α → Int) {l : List α} {i : Nat} (h : i < l.length) : eachGo g i (l.drop i) = if g i l[i] ≠ 0 then ((i : Int), g i l[i]) else eachGo g (i + 1) (l.drop (i + 1)) := by
  rw [List.drop_eq_getElem_cons h, eachGo]
def pair (p : Int × Int) : X := .tup [.int .i64 p.1, .int .i64 p.2]
abbrev CallOk (f : Nat) : Prop := ∀ args w, (callFunc f args).run Tryz.prog w = .ok (.enter f args) w
abbrev Clean (caps : List X) : Prop := caps.all (okP []) = true ∧ caps.all (fun u => !notCell u) = true
theorem ret_p {a b : Int} {p : Int × Int} (h : (a, b) = p) : X.tup [.int .i64 a, .int .i64 b] = pair p := by subst h; rfl
theorem indexFunc_int {l : List Int} {fid : Nat} {caps : List X} {g : Int → Bool} (hf : ∀ x, x ∈ l → Ct Tryz.prog fid ([.int .i64 x] ++ caps) (.bool (g x))) (hcall : CallOk fid) (hc : Clean caps) : Ct Tryz.prog 139 [.sl (l.map (fun n => [.int .i64 n])), .fn fid caps] (.int .i64 (idxGo g 0 l)) := by
 refine Ct.intro (rs := [.tmp 4]) Tryz.func139 rfl Tryz.ntmps139 Tryz.results139 rfl rfl rfl fun w h => ?_
 refine OK.slLen (rows := l.map (fun n => [.int .i64 n])) (t := 0) rfl rfl fun hlen => ?_
 rw [List.length_map] at hlen
 unfold maxLen at hlen
 refine OK.seq (OK.reg ?_)
 refine RK.c (S.assign .none rfl (.cint rfl)) ?_
 refine RK.nil (Ab.D.code (OK.seq (OK.seq (OK.reg ?_))))
 refine RK.c (S.move .none rfl (.tmp rfl rfl)) ?_
 refine RK.c (S.lenM si25 .none rfl (.tmp rfl rfl)) ?_
 refine RK.c (S.move .none rfl (.cint rfl)) ?_
 refine RK.nil (Ab.D.code ?_)
 refine OK.block ?_
 refine OK.loop (G := Nat) [] (fun i => [(0, .sl (l.map (fun n => [.int .i64 n]))), (1, .fn fid caps), (6, .sl (l.map (fun n => [.int .i64 n]))), (7, .int .i64 l.length), (8, .int .i64 i)]) (fun i => i ≤ l.length ∧ idxGo g 0 l = idxGo g i (l.drop i)) (fun i => l.length - i) 0 ⟨Nat.zero_le _, rfl⟩ ⟨rfl, rfl, rfl, rfl, rfl, trivial⟩ (fun _ => by simp [okKey, okT, okV, okC, okP, hc.1]) ?_
 rintro i ⟨hi, hg⟩
 refine OK.seq (OK.reg ?_)
 refine RK.c (S.lss .none rfl (.tmp rfl rfl) (.tmp rfl rfl)) ?_
 refine RK.nil (Ab.D.code ?_)
 refine OK.seq ?_
 refine OK.condD rfl rfl (fun c9 => ?_) (fun c9 => ?_)
 ·
  refine OK.skip ?_
  refine Ab.D.code ?_
  refine OK.seq ?_
  refine OK.block ?_
  refine OK.seq (OK.reg ?_)
  refine RK.c (S.move .none rfl (.tmp rfl rfl)) ?_
  refine RK.c (S.assign .none rfl (.tmp rfl rfl)) ?_
  refine RK.nil (Ab.D.code (OK.seq (OK.reg ?_)))
  refine RK.c (S.move .none rfl (.tmp rfl rfl)) ?_
  refine RK.c (S.move .none rfl (.tmp rfl rfl)) ?_
  refine RK.c (S.move .none rfl (.tmp rfl rfl)) ?_
  refine RK.c (S.indexM si25 .none rfl (.tmp rfl rfl) (.tmp rfl rfl) rfl (by omega) rfl) ?_
  refine RK.c (S.load1 ti3 .none rfl (.tmp rfl rfl) rfl) ?_
  refine RK.c (S.callv (hf _ (List.getElem_mem _)) hcall .none rfl (.tmp rfl rfl) (.cons (.tmp rfl rfl) .nil) rfl hc.1 hc.2) ?_
  refine RK.nil (Ab.D.code ?_)
  refine OK.cond rfl rfl (fun c16 => ?_) (fun c16 => ?_)
  ·
   refine OK.seq (OK.reg ?_)
   refine RK.c (S.move .none rfl (.tmp rfl rfl)) ?_
   refine RK.c (S.assign .none rfl (.tmp rfl rfl)) ?_
   refine RK.nil (Ab.D.code ?_)
   refine OK.ret (Ret.r1 (.tmp rfl rfl (.c (.same rfl) rfl) rfl) ?_)
   rw [hg, idxGo_drop _ (by omega)]
   simp_all
  ·
   refine OK.skip ?_
   refine Ab.D.blk ?_
   refine Ab.D.code (OK.reg ?_)
   refine RK.c (S.add .none rfl (.tmp rfl rfl) (.cint rfl) (IntWalk.i64_in _ (by omega)) (IntWalk.i64_in _ (by omega))) ?_
   refine RK.c (S.move .none rfl (.tmp rfl rfl)) ?_
   refine RK.nil ?_
   refine Ab.D.lp ⟨i + 1, ⟨by omega, ?_⟩, (by omega), rfl, rfl, rfl, rfl, rfl, trivial⟩
   rw [hg, idxGo_drop _ (by omega)]
   simp_all
 ·
  refine OK.exit rfl ?_
  refine Ab.D.code (OK.seq (OK.reg ?_))
  refine RK.c (S.assign .none rfl (.cint rfl)) ?_
  refine RK.nil (Ab.D.code ?_)
  refine OK.ret (Ret.r1 (.tmp rfl rfl (.c (.same rfl) rfl) rfl) ?_)
  have : i = l.length := by omega
  subst this
  rw [hg, List.drop_length]
  rfl
theorem containsFunc_int {l : List Int} {fid : Nat} {caps : List X} {g : Int → Bool} (hf : ∀ x, x ∈ l → Ct Tryz.prog fid ([.int .i64 x] ++ caps) (.bool (g x))) (hcall : CallOk fid) (hc : Clean caps) : Ct Tryz.prog 102 [.sl (l.map (fun n => [.int .i64 n])), .fn fid caps] (.bool (l.any g)) := by
 refine Ct.intro (rs := [.tmp 4]) Tryz.func102 rfl Tryz.ntmps102 Tryz.results102 rfl rfl rfl fun w h => ?_
 refine OK.seq (OK.reg ?_)
 refine RK.c (S.assign .none rfl .cbool) ?_
 refine RK.nil (Ab.D.code (OK.seq (OK.reg ?_)))
 refine RK.c (S.move .none rfl (.tmp rfl rfl)) ?_
 refine RK.c (S.move .none rfl (.tmp rfl rfl)) ?_
 refine RK.c (S.call (indexFunc_int hf hcall hc) Tryz.call139 .none rfl (.cons (.tmp rfl rfl) (.cons (.tmp rfl rfl) .nil)) (by simp [okArg, okV, okC, okP, isTup, hc.1])) ?_
 refine RK.c (S.geq .none rfl (.tmp rfl rfl) (.cint rfl)) ?_
 refine RK.c (S.assign .none rfl (.tmp rfl rfl)) ?_
 refine RK.nil (Ab.D.code ?_)
 refine OK.ret (Ret.r1 (.tmp rfl rfl (.c (.same rfl) rfl) rfl) ?_)
 exact ret_b (by rw [← idxGo_any g l 0])
theorem index_str {l : List (List UInt8)} {v : (List UInt8)} : Ct Tryz.prog 118 [.sl (l.map (fun s => [.str s])), .str v] (.int .i64 (idxGo (fun x => decide (v = x)) 0 l)) := by
 refine Ct.intro (rs := [.tmp 4]) Tryz.func118 rfl Tryz.ntmps118 Tryz.results118 rfl rfl rfl fun w h => ?_
 refine OK.slLen (rows := l.map (fun s => [.str s])) (t := 0) rfl rfl fun hlen => ?_
 rw [List.length_map] at hlen
 unfold maxLen at hlen
 refine OK.seq (OK.reg ?_)
 refine RK.c (S.assign .none rfl (.cint rfl)) ?_
 refine RK.nil (Ab.D.code (OK.seq (OK.seq (OK.reg ?_))))
 refine RK.c (S.move .none rfl (.tmp rfl rfl)) ?_
 refine RK.c (S.lenM si22 .none rfl (.tmp rfl rfl)) ?_
 refine RK.c (S.move .none rfl (.cint rfl)) ?_
 refine RK.nil (Ab.D.code ?_)
 refine OK.block ?_
 refine OK.loop (G := Nat) [] (fun i => [(0, .sl (l.map (fun s => [.str s]))), (1, .str v), (6, .sl (l.map (fun s => [.str s]))), (7, .int .i64 l.length), (8, .int .i64 i)]) (fun i => i ≤ l.length ∧ idxGo (fun x => decide (v = x)) 0 l = idxGo (fun x => decide (v = x)) i (l.drop i)) (fun i => l.length - i) 0 ⟨Nat.zero_le _, rfl⟩ ⟨rfl, rfl, rfl, rfl, rfl, trivial⟩ (fun _ => rfl) ?_
 rintro i ⟨hi, hg⟩
 refine OK.seq (OK.reg ?_)
 refine RK.c (S.lss .none rfl (.tmp rfl rfl) (.tmp rfl rfl)) ?_
 refine RK.nil (Ab.D.code ?_)
 refine OK.seq ?_
 refine OK.condD rfl rfl (fun c9 => ?_) (fun c9 => ?_)
 ·
  refine OK.skip ?_
  refine Ab.D.code ?_
  refine OK.seq ?_
  refine OK.block ?_
  refine OK.seq (OK.reg ?_)
  refine RK.c (S.move .none rfl (.tmp rfl rfl)) ?_
  refine RK.c (S.assign .none rfl (.tmp rfl rfl)) ?_
  refine RK.nil (Ab.D.code (OK.seq (OK.reg ?_)))
  refine RK.c (S.move .none rfl (.tmp rfl rfl)) ?_
  refine RK.c (S.move .none rfl (.tmp rfl rfl)) ?_
  refine RK.c (S.move .none rfl (.tmp rfl rfl)) ?_
  refine RK.c (S.indexM si22 .none rfl (.tmp rfl rfl) (.tmp rfl rfl) rfl (by omega) rfl) ?_
  refine RK.c (S.load1 ti9 .none rfl (.tmp rfl rfl) rfl) ?_
  refine RK.c (S.seql .none rfl (.tmp rfl rfl) (.tmp rfl rfl)) ?_
  refine RK.nil (Ab.D.code ?_)
  refine OK.condD rfl rfl (fun c16 => ?_) (fun c16 => ?_)
  ·
   refine OK.seq (OK.reg ?_)
   refine RK.c (S.move .none rfl (.tmp rfl rfl)) ?_
   refine RK.c (S.assign .none rfl (.tmp rfl rfl)) ?_
   refine RK.nil (Ab.D.code ?_)
   refine OK.ret (Ret.r1 (.tmp rfl rfl (.c (.same rfl) rfl) rfl) ?_)
   rw [hg, idxGo_drop _ (by omega)]
   simp_all
  ·
   refine OK.skip ?_
   refine Ab.D.blk ?_
   refine Ab.D.code (OK.reg ?_)
   refine RK.c (S.add .none rfl (.tmp rfl rfl) (.cint rfl) (IntWalk.i64_in _ (by omega)) (IntWalk.i64_in _ (by omega))) ?_
   refine RK.c (S.move .none rfl (.tmp rfl rfl)) ?_
   refine RK.nil ?_
   refine Ab.D.lp ⟨i + 1, ⟨by omega, ?_⟩, (by omega), rfl, rfl, rfl, rfl, rfl, trivial⟩
   rw [hg, idxGo_drop _ (by omega)]
   simp_all
 ·
  refine OK.exit rfl ?_
  refine Ab.D.code (OK.seq (OK.reg ?_))
  refine RK.c (S.assign .none rfl (.cint rfl)) ?_
  refine RK.nil (Ab.D.code ?_)
  refine OK.ret (Ret.r1 (.tmp rfl rfl (.c (.same rfl) rfl) rfl) ?_)
  have : i = l.length := by omega
  subst this
  rw [hg, List.drop_length]
  rfl
theorem contains_str {l : List (List UInt8)} {v : List UInt8} : Ct Tryz.prog 62 [texts l, .str v] (.bool (l.any (fun x => decide (v = x)))) := by
 refine Ct.intro (rs := [.tmp 4]) Tryz.func62 rfl Tryz.ntmps62 Tryz.results62 rfl rfl rfl fun w h => ?_
 refine OK.seq (OK.reg ?_)
 refine RK.c (S.assign .none rfl .cbool) ?_
 refine RK.nil (Ab.D.code (OK.seq (OK.reg ?_)))
 refine RK.c (S.move .none rfl (.tmp rfl rfl)) ?_
 refine RK.c (S.move .none rfl (.tmp rfl rfl)) ?_
 refine RK.c (S.call (index_str) Tryz.call118 .none rfl (.cons (.tmp rfl rfl) (.cons (.tmp rfl rfl) .nil)) rfl) ?_
 refine RK.c (S.geq .none rfl (.tmp rfl rfl) (.cint rfl)) ?_
 refine RK.c (S.assign .none rfl (.tmp rfl rfl)) ?_
 refine RK.nil (Ab.D.code ?_)
 refine OK.ret (Ret.r1 (.tmp rfl rfl (.c (.same rfl) rfl) rfl) ?_)
 exact ret_b (by rw [← idxGo_any _ l 0])
theorem each_List_UInt8 {l : List (List UInt8)} {fid : Nat} {caps : List X} {g : Nat → (List UInt8) → Int} (hf : ∀ i x, l[i]? = some x → Ct Tryz.prog fid ([.int .i64 i, .str x] ++ caps) (.int .i64 (g i x))) (hcall : CallOk fid) (hc : Clean caps) : Ct Tryz.prog 119 [.sl (l.map (fun s => [.str s])), .fn fid caps] (pair (eachGo g 0 l)) := by
 refine Ct.intro (rs := [.tmp 4, .tmp 5]) Tryz.func119 rfl Tryz.ntmps119 Tryz.results119 rfl rfl rfl fun w h => ?_
 refine OK.slLen (rows := l.map (fun s => [.str s])) (t := 0) rfl rfl fun hlen => ?_
 rw [List.length_map] at hlen
 unfold maxLen at hlen
 refine OK.seq (OK.reg ?_)
 refine RK.c (S.assign .none rfl (.cint rfl)) ?_
 refine RK.c (S.assign .none rfl (.cint rfl)) ?_
 refine RK.nil (Ab.D.code (OK.seq (OK.seq (OK.reg ?_))))
 refine RK.c (S.move .none rfl (.tmp rfl rfl)) ?_
 refine RK.c (S.lenM si22 .none rfl (.tmp rfl rfl)) ?_
 refine RK.c (S.move .none rfl (.cint rfl)) ?_
 refine RK.nil (Ab.D.code ?_)
 refine OK.block ?_
 refine OK.loop (G := Nat) [] (fun i => [(1, .fn fid caps), (9, .sl (l.map (fun s => [.str s]))), (10, .int .i64 l.length), (11, .int .i64 i)]) (fun i => i ≤ l.length ∧ eachGo g 0 l = eachGo g i (l.drop i)) (fun i => l.length - i) 0 ⟨Nat.zero_le _, rfl⟩ ⟨rfl, rfl, rfl, rfl, trivial⟩ (fun _ => by simp [okKey, okT, okV, okC, okP, hc.1]) ?_
 rintro i ⟨hi, hg⟩
 refine OK.seq (OK.reg ?_)
 refine RK.c (S.lss .none rfl (.tmp rfl rfl) (.tmp rfl rfl)) ?_
 refine RK.nil (Ab.D.code ?_)
 refine OK.seq ?_
 refine OK.condD rfl rfl (fun c12 => ?_) (fun c12 => ?_)
 ·
  refine OK.skip ?_
  refine Ab.D.code ?_
  refine OK.seq ?_
  refine OK.block ?_
  refine OK.seq (OK.reg ?_)
  refine RK.c (S.move .none rfl (.tmp rfl rfl)) ?_
  refine RK.c (S.indexM si22 .none rfl (.tmp rfl rfl) (.tmp rfl rfl) rfl (by omega) rfl) ?_
  refine RK.c (S.load1 ti9 .none rfl (.tmp rfl rfl) rfl) ?_
  refine RK.c (S.assign .none rfl (.tmp rfl rfl)) ?_
  refine RK.c (S.assign .none rfl (.tmp rfl rfl)) ?_
  refine RK.nil (Ab.D.code (OK.seq (OK.reg ?_)))
  refine RK.c (S.move .none rfl (.tmp rfl rfl)) ?_
  refine RK.c (S.move .none rfl (.tmp rfl rfl)) ?_
  refine RK.c (S.move .none rfl (.tmp rfl rfl)) ?_
  refine RK.c (S.callv (hf i _ (List.getElem?_eq_getElem (by omega))) hcall .none rfl (.tmp rfl rfl) (.cons (.tmp rfl rfl) (.cons (.tmp rfl rfl) .nil)) rfl hc.1 hc.2) ?_
  refine RK.c (S.assign .none rfl (.tmp rfl rfl)) ?_
  refine RK.nil (Ab.D.code (OK.seq (OK.reg ?_)))
  refine RK.c (S.move .none rfl (.tmp rfl rfl)) ?_
  refine RK.c (S.neq .none rfl (.tmp rfl rfl) (.cint rfl)) ?_
  refine RK.nil (Ab.D.code ?_)
  refine OK.condD rfl rfl (fun c21 => ?_) (fun c21 => ?_)
  ·
   refine OK.seq (OK.reg ?_)
   refine RK.c (S.move .none rfl (.tmp rfl rfl)) ?_
   refine RK.c (S.move .none rfl (.tmp rfl rfl)) ?_
   refine RK.c (S.assign .none rfl (.tmp rfl rfl)) ?_
   refine RK.c (S.assign .none rfl (.tmp rfl rfl)) ?_
   refine RK.nil (Ab.D.code ?_)
   refine OK.ret (Ret.r2 (.tmp rfl rfl (.c (.same rfl) rfl) rfl) (.tmp rfl rfl (.c (.same rfl) rfl) rfl) ?_)
   refine ret_p ?_
   rw [hg, eachGo_drop _ (by omega)]
   simp_all
  ·
   refine OK.skip ?_
   refine Ab.D.blk ?_
   refine Ab.D.code (OK.reg ?_)
   refine RK.c (S.add .none rfl (.tmp rfl rfl) (.cint rfl) (IntWalk.i64_in _ (by omega)) (IntWalk.i64_in _ (by omega))) ?_
   refine RK.c (S.move .none rfl (.tmp rfl rfl)) ?_
   refine RK.nil ?_
   refine Ab.D.lp ⟨i + 1, ⟨by omega, ?_⟩, (by omega), rfl, rfl, rfl, rfl, trivial⟩
   rw [hg, eachGo_drop _ (by omega)]
   simp_all
 ·
  refine OK.exit rfl ?_
  refine Ab.D.code (OK.seq (OK.reg ?_))
  refine RK.c (S.assign .none rfl (.cint rfl)) ?_
  refine RK.c (S.assign .none rfl (.cint rfl)) ?_
  refine RK.nil (Ab.D.code ?_)
  refine OK.ret (Ret.r2 (.tmp rfl rfl (.c (.same rfl) rfl) rfl) (.tmp rfl rfl (.c (.same rfl) rfl) rfl) ?_)
  refine ret_p ?_
  have : i = l.length := by omega
  subst this
  rw [hg, List.drop_length]
  rfl
theorem each_Row {l : List Row} {fid : Nat} {caps : List X} {g : Nat → Row → Int} (hf : ∀ i x, l[i]? = some x → Ct Tryz.prog fid ([.int .i64 i, .agg x.cs] ++ caps) (.int .i64 (g i x))) (hcall : CallOk fid) (hc : Clean caps) : Ct Tryz.prog 155 [.sl (l.map Row.cs), .fn fid caps] (pair (eachGo g 0 l)) := by
 refine Ct.intro (rs := [.tmp 4, .tmp 5]) Tryz.func155 rfl Tryz.ntmps155 Tryz.results155 rfl rfl rfl fun w h => ?_
 refine OK.slLen (rows := l.map Row.cs) (t := 0) rfl rfl fun hlen => ?_
 rw [List.length_map] at hlen
 unfold maxLen at hlen
 refine OK.seq (OK.reg ?_)
 refine RK.c (S.assign .none rfl (.cint rfl)) ?_
 refine RK.c (S.assign .none rfl (.cint rfl)) ?_
 refine RK.nil (Ab.D.code (OK.seq (OK.seq (OK.reg ?_))))
 refine RK.c (S.move .none rfl (.tmp rfl rfl)) ?_
 refine RK.c (S.lenM si73 .none rfl (.tmp rfl rfl)) ?_
 refine RK.c (S.move .none rfl (.cint rfl)) ?_
 refine RK.nil (Ab.D.code ?_)
 refine OK.block ?_
 refine OK.loop (G := Nat) [] (fun i => [(1, .fn fid caps), (9, .sl (l.map Row.cs)), (10, .int .i64 l.length), (11, .int .i64 i)]) (fun i => i ≤ l.length ∧ eachGo g 0 l = eachGo g i (l.drop i)) (fun i => l.length - i) 0 ⟨Nat.zero_le _, rfl⟩ ⟨rfl, rfl, rfl, rfl, trivial⟩ (fun _ => by simp [okKey, okT, okV, okC, okP, hc.1]) ?_
 rintro i ⟨hi, hg⟩
 refine OK.seq (OK.reg ?_)
 refine RK.c (S.lss .none rfl (.tmp rfl rfl) (.tmp rfl rfl)) ?_
 refine RK.nil (Ab.D.code ?_)
 refine OK.seq ?_
 refine OK.condD rfl rfl (fun c12 => ?_) (fun c12 => ?_)
 ·
  refine OK.skip ?_
  refine Ab.D.code ?_
  refine OK.seq ?_
  refine OK.block ?_
  refine OK.seq (OK.reg ?_)
  refine RK.c (S.move .none rfl (.tmp rfl rfl)) ?_
  refine RK.c (S.indexM si73 .none rfl (.tmp rfl rfl) (.tmp rfl rfl) rfl (by omega) rfl) ?_
  refine RK.c (S.loadN ti162 .none rfl (.tmp rfl rfl) rfl rfl) ?_
  refine RK.c (S.alloc (k := 7) ze162 rfl .none rfl) ?_
  refine RK.c (S.assign .none rfl (.tmp rfl rfl)) ?_
  refine RK.c (S.store ti162 .none (.tmp rfl rfl) (.tmp rfl rfl) rfl rfl rfl rfl rfl rfl) ?_
  refine RK.nil (Ab.D.code (OK.seq (OK.reg ?_)))
  refine RK.c (S.move .none rfl (.tmp rfl rfl)) ?_
  refine RK.c (S.move .none rfl (.tmp rfl rfl)) ?_
  refine RK.c (S.bloadN ti162 .none rfl (.tmp rfl rfl) rfl rfl rfl rfl) ?_
  refine RK.c (S.callv (hf i _ (List.getElem?_eq_getElem (by omega))) hcall .none rfl (.tmp rfl rfl) (.cons (.tmp rfl rfl) (.cons (.tmp rfl rfl) .nil)) rfl hc.1 hc.2) ?_
  refine RK.c (S.assign .none rfl (.tmp rfl rfl)) ?_
  refine RK.nil (Ab.D.code (OK.seq (OK.reg ?_)))
  refine RK.c (S.move .none rfl (.tmp rfl rfl)) ?_
  refine RK.c (S.neq .none rfl (.tmp rfl rfl) (.cint rfl)) ?_
  refine RK.nil (Ab.D.code ?_)
  refine OK.condD rfl rfl (fun c21 => ?_) (fun c21 => ?_)
  ·
   refine OK.seq (OK.reg ?_)
   refine RK.c (S.move .none rfl (.tmp rfl rfl)) ?_
   refine RK.c (S.move .none rfl (.tmp rfl rfl)) ?_
   refine RK.c (S.assign .none rfl (.tmp rfl rfl)) ?_
   refine RK.c (S.assign .none rfl (.tmp rfl rfl)) ?_
   refine RK.nil (Ab.D.code ?_)
   refine OK.ret (Ret.r2 (.tmp rfl rfl (.c (.same rfl) rfl) rfl) (.tmp rfl rfl (.c (.same rfl) rfl) rfl) ?_)
   refine ret_p ?_
   rw [hg, eachGo_drop _ (by omega)]
   simp_all
  ·
   refine OK.skip ?_
   refine Ab.D.blk ?_
   refine Ab.D.code (OK.reg ?_)
   refine RK.c (S.add .none rfl (.tmp rfl rfl) (.cint rfl) (IntWalk.i64_in _ (by omega)) (IntWalk.i64_in _ (by omega))) ?_
   refine RK.c (S.move .none rfl (.tmp rfl rfl)) ?_
   refine RK.nil ?_
   refine Ab.D.lp ⟨i + 1, ⟨by omega, ?_⟩, (by omega), rfl, rfl, rfl, rfl, trivial⟩
   rw [hg, eachGo_drop _ (by omega)]
   simp_all
 ·
  refine OK.exit rfl ?_
  refine Ab.D.code (OK.seq (OK.reg ?_))
  refine RK.c (S.assign .none rfl (.cint rfl)) ?_
  refine RK.c (S.assign .none rfl (.cint rfl)) ?_
  refine RK.nil (Ab.D.code ?_)
  refine OK.ret (Ret.r2 (.tmp rfl rfl (.c (.same rfl) rfl) rfl) (.tmp rfl rfl (.c (.same rfl) rfl) rfl) ?_)
  refine ret_p ?_
  have : i = l.length := by omega
  subst this
  rw [hg, List.drop_length]
  rfl
theorem each_Record {l : List Record} {fid : Nat} {caps : List X} {g : Nat → Record → Int} (hf : ∀ i x, l[i]? = some x → Ct Tryz.prog fid ([.int .i64 i, .agg x.cs] ++ caps) (.int .i64 (g i x))) (hcall : CallOk fid) (hc : Clean caps) : Ct Tryz.prog 128 [.sl (l.map Record.cs), .fn fid caps] (pair (eachGo g 0 l)) := by
 refine Ct.intro (rs := [.tmp 4, .tmp 5]) Tryz.func128 rfl Tryz.ntmps128 Tryz.results128 rfl rfl rfl fun w h => ?_
 refine OK.slLen (rows := l.map Record.cs) (t := 0) rfl rfl fun hlen => ?_
 rw [List.length_map] at hlen
 unfold maxLen at hlen
 refine OK.seq (OK.reg ?_)
 refine RK.c (S.assign .none rfl (.cint rfl)) ?_
 refine RK.c (S.assign .none rfl (.cint rfl)) ?_
 refine RK.nil (Ab.D.code (OK.seq (OK.seq (OK.reg ?_))))
 refine RK.c (S.move .none rfl (.tmp rfl rfl)) ?_
 refine RK.c (S.lenM si63 .none rfl (.tmp rfl rfl)) ?_
 refine RK.c (S.move .none rfl (.cint rfl)) ?_
 refine RK.nil (Ab.D.code ?_)
 refine OK.block ?_
 refine OK.loop (G := Nat) [] (fun i => [(1, .fn fid caps), (9, .sl (l.map Record.cs)), (10, .int .i64 l.length), (11, .int .i64 i)]) (fun i => i ≤ l.length ∧ eachGo g 0 l = eachGo g i (l.drop i)) (fun i => l.length - i) 0 ⟨Nat.zero_le _, rfl⟩ ⟨rfl, rfl, rfl, rfl, trivial⟩ (fun _ => by simp [okKey, okT, okV, okC, okP, hc.1]) ?_
 rintro i ⟨hi, hg⟩
 refine OK.seq (OK.reg ?_)
 refine RK.c (S.lss .none rfl (.tmp rfl rfl) (.tmp rfl rfl)) ?_
 refine RK.nil (Ab.D.code ?_)
 refine OK.seq ?_
 refine OK.condD rfl rfl (fun c12 => ?_) (fun c12 => ?_)
 ·
  refine OK.skip ?_
  refine Ab.D.code ?_
  refine OK.seq ?_
  refine OK.block ?_
  refine OK.seq (OK.reg ?_)
  refine RK.c (S.move .none rfl (.tmp rfl rfl)) ?_
  refine RK.c (S.indexM si63 .none rfl (.tmp rfl rfl) (.tmp rfl rfl) rfl (by omega) rfl) ?_
  refine RK.c (S.loadN ti75 .none rfl (.tmp rfl rfl) rfl rfl) ?_
  refine RK.c (S.alloc (k := 7) ze75 rfl .none rfl) ?_
  refine RK.c (S.assign .none rfl (.tmp rfl rfl)) ?_
  refine RK.c (S.store ti75 .none (.tmp rfl rfl) (.tmp rfl rfl) rfl rfl rfl rfl rfl rfl) ?_
  refine RK.nil (Ab.D.code (OK.seq (OK.reg ?_)))
  refine RK.c (S.move .none rfl (.tmp rfl rfl)) ?_
  refine RK.c (S.move .none rfl (.tmp rfl rfl)) ?_
  refine RK.c (S.bloadN ti75 .none rfl (.tmp rfl rfl) rfl rfl rfl rfl) ?_
  refine RK.c (S.callv (hf i _ (List.getElem?_eq_getElem (by omega))) hcall .none rfl (.tmp rfl rfl) (.cons (.tmp rfl rfl) (.cons (.tmp rfl rfl) .nil)) rfl hc.1 hc.2) ?_
  refine RK.c (S.assign .none rfl (.tmp rfl rfl)) ?_
  refine RK.nil (Ab.D.code (OK.seq (OK.reg ?_)))
  refine RK.c (S.move .none rfl (.tmp rfl rfl)) ?_
  refine RK.c (S.neq .none rfl (.tmp rfl rfl) (.cint rfl)) ?_
  refine RK.nil (Ab.D.code ?_)
  refine OK.condD rfl rfl (fun c21 => ?_) (fun c21 => ?_)
  ·
   refine OK.seq (OK.reg ?_)
   refine RK.c (S.move .none rfl (.tmp rfl rfl)) ?_
   refine RK.c (S.move .none rfl (.tmp rfl rfl)) ?_
   refine RK.c (S.assign .none rfl (.tmp rfl rfl)) ?_
   refine RK.c (S.assign .none rfl (.tmp rfl rfl)) ?_
   refine RK.nil (Ab.D.code ?_)
   refine OK.ret (Ret.r2 (.tmp rfl rfl (.c (.same rfl) rfl) rfl) (.tmp rfl rfl (.c (.same rfl) rfl) rfl) ?_)
   refine ret_p ?_
   rw [hg, eachGo_drop _ (by omega)]
   simp_all
  ·
   refine OK.skip ?_
   refine Ab.D.blk ?_
   refine Ab.D.code (OK.reg ?_)
   refine RK.c (S.add .none rfl (.tmp rfl rfl) (.cint rfl) (IntWalk.i64_in _ (by omega)) (IntWalk.i64_in _ (by omega))) ?_
   refine RK.c (S.move .none rfl (.tmp rfl rfl)) ?_
   refine RK.nil ?_
   refine Ab.D.lp ⟨i + 1, ⟨by omega, ?_⟩, (by omega), rfl, rfl, rfl, rfl, trivial⟩
   rw [hg, eachGo_drop _ (by omega)]
   simp_all
 ·
  refine OK.exit rfl ?_
  refine Ab.D.code (OK.seq (OK.reg ?_))
  refine RK.c (S.assign .none rfl (.cint rfl)) ?_
  refine RK.c (S.assign .none rfl (.cint rfl)) ?_
  refine RK.nil (Ab.D.code ?_)
  refine OK.ret (Ret.r2 (.tmp rfl rfl (.c (.same rfl) rfl) rfl) (.tmp rfl rfl (.c (.same rfl) rfl) rfl) ?_)
  refine ret_p ?_
  have : i = l.length := by omega
  subst this
  rw [hg, List.drop_length]
  rfl
theorem each_Range {l : List Range} {fid : Nat} {caps : List X} {g : Nat → Range → Int} (hf : ∀ i x, l[i]? = some x → Ct Tryz.prog fid ([.int .i64 i, .agg x.cs] ++ caps) (.int .i64 (g i x))) (hcall : CallOk fid) (hc : Clean caps) : Ct Tryz.prog 160 [.sl (l.map Range.cs), .fn fid caps] (pair (eachGo g 0 l)) := by
 refine Ct.intro (rs := [.tmp 4, .tmp 5]) Tryz.func160 rfl Tryz.ntmps160 Tryz.results160 rfl rfl rfl fun w h => ?_
 refine OK.slLen (rows := l.map Range.cs) (t := 0) rfl rfl fun hlen => ?_
 rw [List.length_map] at hlen
 unfold maxLen at hlen
 refine OK.seq (OK.reg ?_)
 refine RK.c (S.assign .none rfl (.cint rfl)) ?_
 refine RK.c (S.assign .none rfl (.cint rfl)) ?_
 refine RK.nil (Ab.D.code (OK.seq (OK.seq (OK.reg ?_))))
 refine RK.c (S.move .none rfl (.tmp rfl rfl)) ?_
 refine RK.c (S.lenM si114 .none rfl (.tmp rfl rfl)) ?_
 refine RK.c (S.move .none rfl (.cint rfl)) ?_
 refine RK.nil (Ab.D.code ?_)
 refine OK.block ?_
 refine OK.loop (G := Nat) [] (fun i => [(1, .fn fid caps), (9, .sl (l.map Range.cs)), (10, .int .i64 l.length), (11, .int .i64 i)]) (fun i => i ≤ l.length ∧ eachGo g 0 l = eachGo g i (l.drop i)) (fun i => l.length - i) 0 ⟨Nat.zero_le _, rfl⟩ ⟨rfl, rfl, rfl, rfl, trivial⟩ (fun _ => by simp [okKey, okT, okV, okC, okP, hc.1]) ?_
 rintro i ⟨hi, hg⟩
 refine OK.seq (OK.reg ?_)
 refine RK.c (S.lss .none rfl (.tmp rfl rfl) (.tmp rfl rfl)) ?_
 refine RK.nil (Ab.D.code ?_)
 refine OK.seq ?_
 refine OK.condD rfl rfl (fun c12 => ?_) (fun c12 => ?_)
 ·
  refine OK.skip ?_
  refine Ab.D.code ?_
  refine OK.seq ?_
  refine OK.block ?_
  refine OK.seq (OK.reg ?_)
  refine RK.c (S.move .none rfl (.tmp rfl rfl)) ?_
  refine RK.c (S.indexM si114 .none rfl (.tmp rfl rfl) (.tmp rfl rfl) rfl (by omega) rfl) ?_
  refine RK.c (S.loadN ti113 .none rfl (.tmp rfl rfl) rfl rfl) ?_
  refine RK.c (S.alloc (k := 7) ze113 rfl .none rfl) ?_
  refine RK.c (S.assign .none rfl (.tmp rfl rfl)) ?_
  refine RK.c (S.store ti113 .none (.tmp rfl rfl) (.tmp rfl rfl) rfl rfl rfl rfl rfl rfl) ?_
  refine RK.nil (Ab.D.code (OK.seq (OK.reg ?_)))
  refine RK.c (S.move .none rfl (.tmp rfl rfl)) ?_
  refine RK.c (S.move .none rfl (.tmp rfl rfl)) ?_
  refine RK.c (S.bloadN ti113 .none rfl (.tmp rfl rfl) rfl rfl rfl rfl) ?_
  refine RK.c (S.callv (hf i _ (List.getElem?_eq_getElem (by omega))) hcall .none rfl (.tmp rfl rfl) (.cons (.tmp rfl rfl) (.cons (.tmp rfl rfl) .nil)) rfl hc.1 hc.2) ?_
  refine RK.c (S.assign .none rfl (.tmp rfl rfl)) ?_
  refine RK.nil (Ab.D.code (OK.seq (OK.reg ?_)))
  refine RK.c (S.move .none rfl (.tmp rfl rfl)) ?_
  refine RK.c (S.neq .none rfl (.tmp rfl rfl) (.cint rfl)) ?_
  refine RK.nil (Ab.D.code ?_)
  refine OK.condD rfl rfl (fun c21 => ?_) (fun c21 => ?_)
  ·
   refine OK.seq (OK.reg ?_)
   refine RK.c (S.move .none rfl (.tmp rfl rfl)) ?_
   refine RK.c (S.move .none rfl (.tmp rfl rfl)) ?_
   refine RK.c (S.assign .none rfl (.tmp rfl rfl)) ?_
   refine RK.c (S.assign .none rfl (.tmp rfl rfl)) ?_
   refine RK.nil (Ab.D.code ?_)
   refine OK.ret (Ret.r2 (.tmp rfl rfl (.c (.same rfl) rfl) rfl) (.tmp rfl rfl (.c (.same rfl) rfl) rfl) ?_)
   refine ret_p ?_
   rw [hg, eachGo_drop _ (by omega)]
   simp_all
  ·
   refine OK.skip ?_
   refine Ab.D.blk ?_
   refine Ab.D.code (OK.reg ?_)
   refine RK.c (S.add .none rfl (.tmp rfl rfl) (.cint rfl) (IntWalk.i64_in _ (by omega)) (IntWalk.i64_in _ (by omega))) ?_
   refine RK.c (S.move .none rfl (.tmp rfl rfl)) ?_
   refine RK.nil ?_
   refine Ab.D.lp ⟨i + 1, ⟨by omega, ?_⟩, (by omega), rfl, rfl, rfl, rfl, trivial⟩
   rw [hg, eachGo_drop _ (by omega)]
   simp_all
 ·
  refine OK.exit rfl ?_
  refine Ab.D.code (OK.seq (OK.reg ?_))
  refine RK.c (S.assign .none rfl (.cint rfl)) ?_
  refine RK.c (S.assign .none rfl (.cint rfl)) ?_
  refine RK.nil (Ab.D.code ?_)
  refine OK.ret (Ret.r2 (.tmp rfl rfl (.c (.same rfl) rfl) rfl) (.tmp rfl rfl (.c (.same rfl) rfl) rfl) ?_)
  refine ret_p ?_
  have : i = l.length := by omega
  subst this
  rw [hg, List.drop_length]
  rfl
theorem each_List_Range {l : List (List Range)} {fid : Nat} {caps : List X} {g : Nat → (List Range) → Int} (hf : ∀ i x, l[i]? = some x → Ct Tryz.prog fid ([.int .i64 i, .sl (x.map Range.cs)] ++ caps) (.int .i64 (g i x))) (hcall : CallOk fid) (hc : Clean caps) : Ct Tryz.prog 158 [.sl (l.map (fun l => [.sl (l.map Range.cs)])), .fn fid caps] (pair (eachGo g 0 l)) := by
 refine Ct.intro (rs := [.tmp 4, .tmp 5]) Tryz.func158 rfl Tryz.ntmps158 Tryz.results158 rfl rfl rfl fun w h => ?_
 refine OK.slLen (rows := l.map (fun l => [.sl (l.map Range.cs)])) (t := 0) rfl rfl fun hlen => ?_
 rw [List.length_map] at hlen
 unfold maxLen at hlen
 refine OK.seq (OK.reg ?_)
 refine RK.c (S.assign .none rfl (.cint rfl)) ?_
 refine RK.c (S.assign .none rfl (.cint rfl)) ?_
 refine RK.nil (Ab.D.code (OK.seq (OK.seq (OK.reg ?_))))
 refine RK.c (S.move .none rfl (.tmp rfl rfl)) ?_
 refine RK.c (S.lenM si28 .none rfl (.tmp rfl rfl)) ?_
 refine RK.c (S.move .none rfl (.cint rfl)) ?_
 refine RK.nil (Ab.D.code ?_)
 refine OK.block ?_
 refine OK.loop (G := Nat) [] (fun i => [(1, .fn fid caps), (9, .sl (l.map (fun l => [.sl (l.map Range.cs)]))), (10, .int .i64 l.length), (11, .int .i64 i)]) (fun i => i ≤ l.length ∧ eachGo g 0 l = eachGo g i (l.drop i)) (fun i => l.length - i) 0 ⟨Nat.zero_le _, rfl⟩ ⟨rfl, rfl, rfl, rfl, trivial⟩ (fun _ => by simp [okKey, okT, okV, okC, okP, hc.1]) ?_
 rintro i ⟨hi, hg⟩
 refine OK.seq (OK.reg ?_)
 refine RK.c (S.lss .none rfl (.tmp rfl rfl) (.tmp rfl rfl)) ?_
 refine RK.nil (Ab.D.code ?_)
 refine OK.seq ?_
 refine OK.condD rfl rfl (fun c12 => ?_) (fun c12 => ?_)
 ·
  refine OK.skip ?_
  refine Ab.D.code ?_
  refine OK.seq ?_
  refine OK.block ?_
  refine OK.seq (OK.reg ?_)
  refine RK.c (S.move .none rfl (.tmp rfl rfl)) ?_
  refine RK.c (S.indexM si28 .none rfl (.tmp rfl rfl) (.tmp rfl rfl) rfl (by omega) rfl) ?_
  refine RK.c (S.load1 ti114 .none rfl (.tmp rfl rfl) rfl) ?_
  refine RK.c (S.assign .none rfl (.tmp rfl rfl)) ?_
  refine RK.c (S.assign .none rfl (.tmp rfl rfl)) ?_
  refine RK.nil (Ab.D.code (OK.seq (OK.reg ?_)))
  refine RK.c (S.move .none rfl (.tmp rfl rfl)) ?_
  refine RK.c (S.move .none rfl (.tmp rfl rfl)) ?_
  refine RK.c (S.move .none rfl (.tmp rfl rfl)) ?_
  refine RK.c (S.callv (hf i _ (List.getElem?_eq_getElem (by omega))) hcall .none rfl (.tmp rfl rfl) (.cons (.tmp rfl rfl) (.cons (.tmp rfl rfl) .nil)) rfl hc.1 hc.2) ?_
  refine RK.c (S.assign .none rfl (.tmp rfl rfl)) ?_
  refine RK.nil (Ab.D.code (OK.seq (OK.reg ?_)))
  refine RK.c (S.move .none rfl (.tmp rfl rfl)) ?_
  refine RK.c (S.neq .none rfl (.tmp rfl rfl) (.cint rfl)) ?_
  refine RK.nil (Ab.D.code ?_)
  refine OK.condD rfl rfl (fun c21 => ?_) (fun c21 => ?_)
  ·
   refine OK.seq (OK.reg ?_)
   refine RK.c (S.move .none rfl (.tmp rfl rfl)) ?_
   refine RK.c (S.move .none rfl (.tmp rfl rfl)) ?_
   refine RK.c (S.assign .none rfl (.tmp rfl rfl)) ?_
   refine RK.c (S.assign .none rfl (.tmp rfl rfl)) ?_
   refine RK.nil (Ab.D.code ?_)
   refine OK.ret (Ret.r2 (.tmp rfl rfl (.c (.same rfl) rfl) rfl) (.tmp rfl rfl (.c (.same rfl) rfl) rfl) ?_)
   refine ret_p ?_
   rw [hg, eachGo_drop _ (by omega)]
   simp_all
  ·
   refine OK.skip ?_
   refine Ab.D.blk ?_
   refine Ab.D.code (OK.reg ?_)
   refine RK.c (S.add .none rfl (.tmp rfl rfl) (.cint rfl) (IntWalk.i64_in _ (by omega)) (IntWalk.i64_in _ (by omega))) ?_
   refine RK.c (S.move .none rfl (.tmp rfl rfl)) ?_
   refine RK.nil ?_
   refine Ab.D.lp ⟨i + 1, ⟨by omega, ?_⟩, (by omega), rfl, rfl, rfl, rfl, trivial⟩
   rw [hg, eachGo_drop _ (by omega)]
   simp_all
 ·
  refine OK.exit rfl ?_
  refine Ab.D.code (OK.seq (OK.reg ?_))
  refine RK.c (S.assign .none rfl (.cint rfl)) ?_
  refine RK.c (S.assign .none rfl (.cint rfl)) ?_
  refine RK.nil (Ab.D.code ?_)
  refine OK.ret (Ret.r2 (.tmp rfl rfl (.c (.same rfl) rfl) rfl) (.tmp rfl rfl (.c (.same rfl) rfl) rfl) ?_)
  refine ret_p ?_
  have : i = l.length := by omega
  subst this
  rw [hg, List.drop_length]
  rfl
end Go.Proofs.YtpmglnphhhlbdaaGreatDoor
