import Derived.Test.YtpmglnphhhlbdaaGreatDoorFy
import Derived.Test.YtpmglnphhhlbdaaGreatDoorMq
import Derived.Test.YtpmglnphhhlbdaaGreatDoorSh
import Derived.Test.YtpmglnphhhlbdaaGreatDoorWf
namespace Go.Proofs.YtpmglnphhhlbdaaGreatDoor
open Go.Ab
theorem on_T {m : Mach} {x : Event} (h : firstE [unlessE (decide (0 ≤ x.kind ∧ x.kind ≤ 4)) 15, unlessE (decide (0 ≤ x.part ∧ x.part ≤ 1000000)) 2] ≠ 0) : onErr m x = firstE [unlessE (decide (0 ≤ x.kind ∧ x.kind ≤ 4)) 15, unlessE (decide (0 ≤ x.part ∧ x.part ≤ 1000000)) 2] := by
  rw [onHead] at h ⊢
  unfold onErr
  by_cases h1 : ¬ (0 ≤ x.kind ∧ x.kind ≤ 4)
  · rw [if_pos h1, if_pos h1]
  · rw [if_neg h1] at h ⊢
    rw [if_neg h1]
    by_cases h2 : ¬ (0 ≤ x.part ∧ x.part ≤ 1000000)
    · rw [if_pos h2, if_pos h2]
    · rw [if_neg h2] at h; exact absurd rfl h
theorem on_F {x : Event} (h : ¬ firstE [unlessE (decide (0 ≤ x.kind ∧ x.kind ≤ 4)) 15, unlessE (decide (0 ≤ x.part ∧ x.part ≤ 1000000)) 2] ≠ 0) : (0 ≤ x.kind ∧ x.kind ≤ 4) ∧ (0 ≤ x.part ∧ x.part ≤ 1000000) := by
  rw [onHead] at h
  by_cases h1 : ¬ (0 ≤ x.kind ∧ x.kind ≤ 4)
  · rw [if_pos h1] at h; exact absurd (by decide) h
  · rw [if_neg h1] at h
    by_cases h2 : ¬ (0 ≤ x.part ∧ x.part ≤ 1000000)
    · rw [if_pos h2] at h; exact absurd (by decide) h
    · exact ⟨Decidable.not_not.1 h1, Decidable.not_not.1 h2⟩
theorem on_body {m : Mach} {x : Event} (h1 : 0 ≤ x.kind ∧ x.kind ≤ 4) (h2 : 0 ≤ x.part ∧ x.part ≤ 1000000) : onErr m x =
  if x.kind = 0 then (if x.part ∈ m.keys then 5 else 0) else
  if ¬ x.part ∈ m.keys ∨ (m.lf x.part).left = true then 6 else
  if x.kind = 1 then (if (m.lf x.part).passed = true ∨ (m.lf x.part).marked = true then 20 else 0) else
  if x.kind = 2 then (if (m.lf x.part).marked = true then 20 else 0) else
  if x.kind = 3 then (if (m.lf x.part).may = true then 0 else 24) else 0 := by
  rw [onErr, if_neg (not_not_intro h1), if_neg (not_not_intro h2)]
theorem bools3 {c : Ctx} {vs : Array Value} (h : All2 (RepC c) [.bool false, .bool false, .bool false] vs.toList) : vs = #[.bool false, .bool false, .bool false] := by
  obtain ⟨l⟩ := vs
  match l, h with
  | [a, b, d], ⟨h1, h2, h3, _⟩ => cases h1; cases h2; cases h3; rfl
  | [], h => exact h.elim
  | [_], h => exact h.2.elim
  | [_, _], h => exact h.2.2.elim
  | _ :: _ :: _ :: _ :: _, h => exact h.2.2.2.elim
theorem mach3 {c : Ctx} {rb : Nat} {vs : Array Value} (h : All2 (RepC c) [.raw (.map (some rb)), .int .i64 (0), .int .i64 (0)] vs.toList) : vs = #[.map (some rb), .int .i64 0, .int .i64 0] := by
  obtain ⟨l⟩ := vs
  match l, h with
  | [a, b, d], ⟨h1, h2, h3, _⟩ =>
    have e : a = .map (some rb) := h1
    subst e
    cases h2; cases h3; rfl
  | [], h => exact h.elim
  | [_], h => exact h.2.elim
  | [_, _], h => exact h.2.2.elim
  | _ :: _ :: _ :: _ :: _, h => exact h.2.2.2.elim
section
variable {bm rb : Nat} {bs : Int → Nat} {m : Mach} {h : Mem} {Y : Nat → Prop} {w : World}
theorem st_life (hm : MachIn bm rb bs m h Y w) {n : Int} (hn : n ∈ m.keys) {i : Nat} {v0 : Value} {L : Life} (hi : i < 3) (he : ((m.lf n).vs.toList.take i ++ [v0] ++ (m.lf n).vs.toList.drop (i + 1)).toArray = L.vs) :
    Y (bs n) ∧ (∀ o', h ⟨bs n, o', none⟩ = none) ∧ ∃ vs T', w.heap[bs n]? = some (.cells vs T' (0, 0)) ∧ i < vs.size ∧ MachIn bm rb bs (setLife m n L) h Y (w.setRow (bs n) (vs.toList.take i ++ [v0] ++ vs.toList.drop (i + 1)).toArray) := by
  obtain ⟨q1, q2⟩ := hm.own (bs n) (.inr (.inr ⟨n, hn, rfl⟩))
  obtain ⟨T, h1⟩ := hm.life n hn
  refine ⟨q1, q2, _, T, h1, hi, ?_⟩
  rw [he]
  exact mach_setLife hm hn L
theorem st_count (hm : MachIn bm rb bs m h Y w) {i : Nat} {v0 : Value} {g b : Nat} (hi : i < 3) (he : ((#[Value.map (some rb), .int .i64 m.good, .int .i64 m.bad] : Array Value).toList.take i ++ [v0] ++ (#[Value.map (some rb), .int .i64 m.good, .int .i64 m.bad] : Array Value).toList.drop (i + 1)).toArray = #[.map (some rb), .int .i64 g, .int .i64 b]) :
    Y bm ∧ (∀ o', h ⟨bm, o', none⟩ = none) ∧ ∃ vs T', w.heap[bm]? = some (.cells vs T' (0, 0)) ∧ i < vs.size ∧ MachIn bm rb bs (setCounts m g b) h Y (w.setRow bm (vs.toList.take i ++ [v0] ++ vs.toList.drop (i + 1)).toArray) := by
  obtain ⟨q1, q2⟩ := hm.own bm (.inl rfl)
  obtain ⟨T, h1⟩ := hm.mach
  refine ⟨q1, q2, _, T, h1, hi, ?_⟩
  rw [he]
  exact mach_setCounts hm g b
theorem life_all (hm : MachIn bm rb bs m h Y w) {n : Int} (hn : n ∈ m.keys) : ∃ vs : List Value, vs.length = 3 ∧ (∀ (i : Nat) (v : Value), vs[i]? = some v → w.cell? ⟨bs n, 0 + i, none⟩ = some v) ∧ All2 (RepC (pureC h)) (m.lf n).cs vs := by
  refine ⟨[.bool (m.lf n).passed, .bool (m.lf n).marked, .bool (m.lf n).left], rfl, fun i v hv => ?_, ⟨RepD.toC (c := pureC h) (.bool _), RepD.toC (c := pureC h) (.bool _), RepD.toC (c := pureC h) (.bool _), trivial⟩⟩
  rw [Nat.zero_add]
  exact life_cell hm hn (by rw [← Array.getElem?_toList]; exact hv)
end
theorem JM.mono {bm rb : Nat} {m : Mach} {h : Mem} {Y Y' : Nat → Prop} {w : World} (hj : JM bm rb m h Y w) (hY : ∀ b, Y b → Y' b) : JM bm rb m h Y' w := by
  obtain ⟨bs, hm⟩ := hj
  exact ⟨bs, hm.mono hY⟩
def machAt (l : List Event) (i : Nat) : Mach := (l.take i).foldl onStep Mach.init
theorem machAt_succ {l : List Event} {i : Nat} (h : i < l.length) : machAt l (i + 1) = onStep (machAt l i) l[i] := by
  unfold machAt
  rw [← take_snoc h, List.foldl_append]
  rfl
theorem onStep_bd (m : Mach) (x : Event) : (onStep m x).keys.length ≤ m.keys.length + 1 ∧ (onStep m x).good ≤ m.good + 1 ∧ (onStep m x).bad ≤ m.bad + 1 := by
  unfold onStep
  split
  · omega
  · split
    · simp [addKey]
    · split
      · simp [setLife]
      · split
        · simp [setLife]
        · split <;> simp [setLife, setCounts]
theorem machAt_bd (l : List Event) : ∀ i, i ≤ l.length → (machAt l i).keys.length ≤ i ∧ (machAt l i).good ≤ i ∧ (machAt l i).bad ≤ i
  | 0, _ => ⟨Nat.zero_le _, Nat.zero_le _, Nat.zero_le _⟩
  | i + 1, h => by
    have h1 := machAt_bd l i (by omega)
    have h2 := onStep_bd (machAt l i) l[i]
    rw [machAt_succ (by omega)]
    omega
def gRun (l : List Event) (i : Nat) (x : Event) : Int := onErr (machAt l i) x
def runT (l : List Event) : Int × Int := if 60 < l.length then (0, 8) else eachGo (gRun l) 0 l
def eachM {α : Type} (g : Nat → α → Int) : Nat → List α → Nat
  | i, [] => i
  | i, x :: l => if g i x ≠ 0 then i + 1 else eachM g (i + 1) l
theorem eachM_drop {α : Type} (g : Nat → α → Int) {l : List α} {i : Nat} (h : i < l.length) : eachM g i (l.drop i) = if g i l[i] ≠ 0 then i + 1 else eachM g (i + 1) (l.drop (i + 1)) := by
  rw [List.drop_eq_getElem_cons h, eachM]
theorem eachM_le {α : Type} (g : Nat → α → Int) : ∀ (l : List α) (i : Nat), eachM g i l ≤ i + l.length
  | [], i => Nat.le_refl _
  | x :: l, i => by
    rw [eachM, List.length_cons]
    split
    · omega
    · have := eachM_le g l (i + 1); omega
def runM (l : List Event) : Mach := if 60 < l.length then Mach.init else machAt l (eachM (gRun l) 0 l)
theorem runM_bd (l : List Event) : (runM l).keys.length ≤ 60 ∧ (runM l).good ≤ 60 ∧ (runM l).bad ≤ 60 := by
  unfold runM
  split
  · exact ⟨Nat.zero_le _, Nat.zero_le _, Nat.zero_le _⟩
  · have h1 := eachM_le (gRun l) l 0
    have h2 := machAt_bd l (eachM (gRun l) 0 l) (by omega)
    omega
def cntOf (l : List Event) : Counts := if (runT l).2 = 0 then ⟨(runM l).keys.length - (runM l).good - (runM l).bad, (runM l).good, (runM l).bad⟩ else ⟨0, 0, 0⟩
def idxOf (l : List Event) : Int := if (runT l).2 = 0 then 0 else (runT l).1
def leaveE (l : List Event) (part : Int) : Int := if (runT l).2 ≠ 0 then (runT l).2 else if 0 ≤ part ∧ part ≤ 1000000 then 0 else 2
def leaveB (l : List Event) (part : Int) : Bool := decide (leaveE l part = 0) && (decide (part ∈ (runM l).keys) && ((runM l).lf part).may)
theorem leaveHead (l : List Event) (part : Int) : firstE [(runT l).2, unlessE (decide (0 ≤ part ∧ part ≤ 1000000)) 2] = leaveE l part := by
  rw [firstE2, leaveE]
  by_cases h1 : (runT l).2 ≠ 0
  · rw [if_pos h1, if_pos h1]
  · rw [if_neg h1, if_neg h1]
    unfold unlessE
    by_cases h2 : 0 ≤ part ∧ part ≤ 1000000
    · rw [if_pos h2, decide_eq_true h2]; rfl
    · rw [if_neg h2, decide_eq_false h2]; rfl
theorem mon_may {x : Life} : Ct Tryz.prog 98 [.agg x.cs] (.bool x.may) := by
 refine Ct.intro (rs := [.tmp 2]) Tryz.func98 rfl Tryz.ntmps98 Tryz.results98 rfl rfl rfl fun w h => ?_
 refine OK.seq (OK.reg ?_)
 refine RK.c (S.box (k := 1) rfl .none rfl (.tmp rfl rfl) rfl) ?_
 refine RK.c (S.assign .none rfl .cbool) ?_
 refine RK.nil (Ab.D.code (OK.seq (OK.reg ?_)))
 refine RK.c (S.bfield fi218_0 .none rfl (.tmp rfl rfl)) ?_
 refine RK.c (S.bload1 ti4 .none rfl (.tmp rfl rfl) rfl rfl rfl rfl) ?_
 refine RK.c (S.move .none rfl (.tmp rfl rfl)) ?_
 refine RK.split (t := 5) rfl (fun g5 => ?_) (fun g5 => ?_)
 ·
  refine RK.c (S.bfield fi218_1 (.yes rfl rfl rfl rfl) rfl (.tmp rfl rfl)) ?_
  refine RK.c (S.bload1 ti4 (.yes rfl rfl rfl rfl) rfl (.tmp rfl rfl) rfl rfl rfl rfl) ?_
  refine RK.c (S.not (.yes rfl rfl rfl rfl) rfl (.tmp rfl rfl)) ?_
  refine RK.c (S.pickT .none rfl (.tmp rfl rfl) (.tmp rfl rfl) rfl) ?_
  refine RK.c (S.move .none rfl (.tmp rfl rfl)) ?_
  refine RK.split (t := 10) rfl (fun g10 => ?_) (fun g10 => ?_)
  ·
   refine RK.c (S.bfield fi218_2 (.yes rfl rfl rfl rfl) rfl (.tmp rfl rfl)) ?_
   refine RK.c (S.bload1 ti4 (.yes rfl rfl rfl rfl) rfl (.tmp rfl rfl) rfl rfl rfl rfl) ?_
   refine RK.c (S.not (.yes rfl rfl rfl rfl) rfl (.tmp rfl rfl)) ?_
   refine RK.c (S.pickT .none rfl (.tmp rfl rfl) (.tmp rfl rfl) rfl) ?_
   refine RK.c (S.assign .none rfl (.tmp rfl rfl)) ?_
   refine RK.nil (Ab.D.code ?_)
   refine OK.ret (Ret.r1 (.tmp rfl rfl (.c (.same rfl) rfl) rfl) ?_)
   refine ret_b ?_
   simp_all [Life.may]
  ·
   refine RK.c (S.skip rfl rfl rfl rfl rfl) ?_
   refine RK.c (S.skip rfl rfl rfl rfl rfl) ?_
   refine RK.c (S.skip rfl rfl rfl rfl rfl) ?_
   refine RK.c (S.pickF .none rfl (.tmp rfl rfl) .cbool rfl) ?_
   refine RK.c (S.assign .none rfl (.tmp rfl rfl)) ?_
   refine RK.nil (Ab.D.code ?_)
   refine OK.ret (Ret.r1 (.tmp rfl rfl (.c (.same rfl) rfl) rfl) ?_)
   refine ret_b ?_
   simp_all [Life.may]
 ·
  refine RK.c (S.skip rfl rfl rfl rfl rfl) ?_
  refine RK.c (S.skip rfl rfl rfl rfl rfl) ?_
  refine RK.c (S.skip rfl rfl rfl rfl rfl) ?_
  refine RK.c (S.pickF .none rfl (.tmp rfl rfl) .cbool rfl) ?_
  refine RK.c (S.move .none rfl (.tmp rfl rfl)) ?_
  refine RK.c (S.skip rfl rfl rfl rfl rfl) ?_
  refine RK.c (S.skip rfl rfl rfl rfl rfl) ?_
  refine RK.c (S.skip rfl rfl rfl rfl rfl) ?_
  refine RK.c (S.pickF .none rfl (.tmp rfl rfl) .cbool rfl) ?_
  refine RK.c (S.assign .none rfl (.tmp rfl rfl)) ?_
  refine RK.nil (Ab.D.code ?_)
  refine OK.ret (Ret.r1 (.tmp rfl rfl (.c (.same rfl) rfl) rfl) ?_)
  refine ret_b ?_
  simp_all [Life.may]
set_option maxHeartbeats 1000000 in
theorem mon_on {bm rb : Nat} {m : Mach} {i : Int} {x : Event} (hg : m.good ≤ 1000) (hb : m.bad ≤ 1000) : CtG Tryz.prog 136 [] [.raw (.pointer (some ⟨bm, 0, none⟩)), .int .i64 i, .agg x.cs] [(3000, .res (JM bm rb m))] [(3000, .res (JM bm rb (onStep m x)))] (.int .i64 (onErr m x)) := by
 refine CtG.intro (rs := [.tmp 6]) Tryz.func136 rfl Tryz.ntmps136 Tryz.results136 rfl rfl rfl rfl fun w h => ?_
 refine OK.resEx (J := fun bs => MachIn bm rb bs m) rfl (fun bs => MachAt.stable _ _ _ _ _) fun bs => ?_
 refine OK.seq (OK.reg ?_)
 refine RK.c (S.box (k := 5) rfl .none rfl (.tmp rfl rfl) rfl) ?_
 refine RK.c (S.assign .none rfl (.cint rfl)) ?_
 refine RK.nil (Ab.D.code ?_)
 refine OK.seq ?_
 refine OK.seq ?_
 refine OK.regionDraw follows (.c (S.bfield fi89_0 .none rfl (.tmp rfl rfl))
  (.c (S.bload1 ti3 .none rfl (.tmp rfl rfl) rfl rfl rfl rfl)
  (.c (S.call (mon_within) Tryz.call99 .none rfl (.cons (.tmp rfl rfl) (.cons (.cint rfl) (.cons (.cint rfl) .nil))) rfl)
  (.c (S.call (monitor_unless) Tryz.call84 .none rfl (.cons (.tmp rfl rfl) (.cons (.cint rfl) .nil)) rfl)
  (.c (S.bfield fi89_1 .none rfl (.tmp rfl rfl))
  (.c (S.bload1 ti3 .none rfl (.tmp rfl rfl) rfl rfl rfl rfl)
  (.c (S.call (mon_isNumber) Tryz.call97 .none rfl (.cons (.tmp rfl rfl) .nil) rfl)
  (.c (S.call (monitor_unless) Tryz.call84 .none rfl (.cons (.tmp rfl rfl) (.cons (.cint rfl) .nil)) rfl)
  (.c (S.mkSlice (k := 18) (rows := [[_], [_]]) ai209 .none rfl (.cons (.tmp rfl rfl) (.cons (.tmp rfl rfl) .nil)) rfl rfl rfl rfl rfl rfl rfl)
  (.c (S.callL (monitor_first (l := [_, _])) Tryz.call83 .none rfl (.cons (.tmp rfl rfl) .nil) (.cons (.p (.own rfl rfl) rfl) .nil) rfl)
  (.c (S.assign .none rfl (.tmp rfl rfl))
  .nil))))))))))) (by kernel_rfl) ?_
 refine Ab.D.code (OK.seq (OK.reg ?_))
 refine RK.c (S.move .none rfl (.tmp rfl rfl)) ?_
 refine RK.c (S.neq .none rfl (.tmp rfl rfl) (.cint rfl)) ?_
 refine RK.nil (Ab.D.code ?_)
 refine OK.condD rfl rfl (fun c21 => ?_) (fun c21 => ?_)
 ·
  have he := on_T (m := m) c21
  refine OK.seq (OK.reg ?_)
  refine RK.c (S.move .none rfl (.tmp rfl rfl)) ?_
  refine RK.c (S.assign .none rfl (.tmp rfl rfl)) ?_
  refine RK.nil (Ab.D.code ?_)
  refine OK.resTo (J' := JM bm rb (onStep m x)) rfl (JM.stable _ _ _) (fun _ _ _ q => ⟨bs, by rw [onStep, if_pos (by rw [he]; exact c21)]; exact q⟩) ?_
  refine OK.ret ⟨Ret.r1 (.tmp rfl rfl (.c (.same rfl) rfl) rfl) ?_, rfl, trivial⟩
  exact ret_i he.symm
 ·
  obtain ⟨hk, hp⟩ := on_F c21
  have ho := on_body (m := m) hk hp
  refine OK.skip ?_
  refine Ab.D.code ?_
  refine OK.seq ?_
  refine OK.regionDraw follows (.c (S.move .none rfl (.tmp rfl rfl))
   (.c (S.rnil .none rfl (.tmp rfl rfl) rfl)
   (.c (S.rfield fi178_0 .none rfl (.tmp rfl rfl))
   (.c (S.rload1 (u := .raw (.map (some rb))) ti176 .none rfl (.tmp rfl rfl) rfl (fun _ _ _ q => ⟨_, mach_cell q (i := 0) rfl, rfl⟩))
   (.c (S.bfield fi89_1 .none rfl (.tmp rfl rfl))
   (.c (S.bload1 ti3 .none rfl (.tmp rfl rfl) rfl rfl rfl rfl)
   (.c (S.lookup (vp := (if x.part ∈ m.keys then Value.pointer (some ⟨bs x.part, 0, none⟩) else .pointer none)) (ok := (decide (x.part ∈ m.keys))) Tryz.underlying176 Tryz.underlying3 Tryz.zeroValue174 .none rfl (.tmp rfl rfl) (.tmp rfl rfl) rfl (fun _ _ _ q => mach_look q x.part))
   (.c (S.move .none rfl (.tmp rfl rfl))
   (.c (S.extract .none rfl (.tmp rfl rfl) rfl rfl)
   (.c (S.extract .none rfl (.tmp rfl rfl) rfl rfl)
   (.c (S.assign .none rfl (.tmp rfl rfl))
   (.c (S.assign .none rfl (.tmp rfl rfl))
   .nil)))))))))))) (by kernel_rfl) ?_
  refine Ab.D.code (OK.seq (OK.seq (OK.reg ?_)))
  refine RK.c (S.bfield fi89_0 .none rfl (.tmp rfl rfl)) ?_
  refine RK.c (S.bload1 ti3 .none rfl (.tmp rfl rfl) rfl rfl rfl rfl) ?_
  refine RK.c (S.eql .none rfl (.tmp rfl rfl) (.cint rfl)) ?_
  refine RK.nil (Ab.D.code ?_)
  refine OK.condD rfl rfl (fun c35 => ?_) (fun c35 => ?_)
  ·
   refine OK.seq (OK.seq (OK.reg ?_))
   refine RK.c (S.move .none rfl (.tmp rfl rfl)) ?_
   refine RK.nil (Ab.D.code ?_)
   refine OK.condD rfl rfl (fun c36 => ?_) (fun c36 => ?_)
   ·
    have he : onErr m x = 5 := by rw [ho, if_pos c35, if_pos c36]
    refine OK.seq (OK.reg ?_)
    refine RK.c (S.assign .none rfl (.cint rfl)) ?_
    refine RK.nil (Ab.D.code ?_)
    refine OK.resTo (J' := JM bm rb (onStep m x)) rfl (JM.stable _ _ _) (fun _ _ _ q => ⟨bs, by rw [onStep, if_pos (by rw [he]; decide)]; exact q⟩) ?_
    refine OK.ret ⟨Ret.r1 (.tmp rfl rfl (.c (.same rfl) rfl) rfl) ?_, rfl, trivial⟩
    exact ret_i he.symm
   ·
    have he : onErr m x = 0 := by rw [ho, if_pos c35, if_neg c36]
    have hst : onStep m x = addKey m x.part := by rw [onStep, if_neg (by omega), if_pos c35]
    refine OK.skip ?_
    refine Ab.D.code ?_
    refine OK.seq ?_
    refine OK.regionDraw follows (.c (S.move .none rfl (.tmp rfl rfl))
     (.c (S.rnil .none rfl (.tmp rfl rfl) rfl)
     (.c (S.rfield fi178_0 .none rfl (.tmp rfl rfl))
     (.c (S.rload1 (u := .raw (.map (some rb))) ti176 .none rfl (.tmp rfl rfl) rfl (fun _ _ _ q => ⟨_, mach_cell q (i := 0) rfl, rfl⟩))
     (.c (S.bfield fi89_1 .none rfl (.tmp rfl rfl))
     (.c (S.bload1 ti3 .none rfl (.tmp rfl rfl) rfl rfl rfl rfl)
     (.c (S.build bu218 rfl .none rfl .nil rfl rfl)
     (.c (S.box (k := 44) rfl .none rfl (.tmp rfl rfl) rfl)
     (.c (S.mapIns (Jb := (fun b => MachAt bm rb bs m (ents bs m.keys ++ [(.int .i64 x.part, .pointer (some ⟨b, 0, none⟩))]))) Tryz.underlying176 Tryz.underlying3 .none (.tmp rfl rfl) (.tmp rfl rfl) (.tmp rfl rfl) rfl (fun _ _ _ b q => mach_mid q c36 b) (fun b => MachAt.stable _ _ _ _ _))
     .nil))))))))) (by kernel_rfl) ?_
    refine Ab.D.code ?_
    refine OK.seq ?_
    refine OK.giveB (J := JM bm rb (addKey m x.part)) [] [] 44 rfl rfl rfl rfl rfl rfl rfl trivial rfl rfl (JM.stable _ _ _) (fun b h Y T vs w q1 q2 q3 q4 q5 => by obtain ⟨c0, _, q3⟩ := q3; rw [bools3 q3] at q2; exact mach_ins q1 c36 q2 q4 q5) fun b => ?_
    refine OK.reg ?_
    refine RK.c (S.assign .none rfl (.cint rfl)) ?_
    refine RK.nil (Ab.D.code ?_)
    refine OK.resTo (J' := JM bm rb (onStep m x)) rfl (JM.stable _ _ _) (fun _ _ _ q => by rw [hst]; exact q) ?_
    refine OK.ret ⟨Ret.r1 (.tmp rfl rfl (.c (.same rfl) rfl) rfl) ?_, rfl, trivial⟩
    exact ret_i he.symm
  ·
   refine OK.skip ?_
   refine Ab.D.code (OK.seq (OK.seq (OK.reg ?_)))
   refine RK.c (S.move .none rfl (.tmp rfl rfl)) ?_
   refine RK.c (S.notD .none rfl (.tmp rfl rfl)) ?_
   refine RK.c (S.move .none rfl (.tmp rfl rfl)) ?_
   refine RK.splitD (t := 47) rfl (fun g47 => ?_) (fun g47 => ?_)
   ·
    have he : onErr m x = 6 := by rw [ho, if_neg c35, if_pos (.inl g47)]
    refine RK.c (S.skip rfl rfl rfl rfl rfl) ?_
    refine RK.c (S.skip rfl rfl rfl rfl rfl) ?_
    refine RK.c (S.skip rfl rfl rfl rfl rfl) ?_
    refine RK.c (S.skip rfl rfl rfl rfl rfl) ?_
    refine RK.c (S.pickT .none rfl (.tmp rfl rfl) .cbool rfl) ?_
    refine RK.nil (Ab.D.code ?_)
    refine OK.condT rfl rfl rfl ?_
    refine OK.seq (OK.reg ?_)
    refine RK.c (S.assign .none rfl (.cint rfl)) ?_
    refine RK.nil (Ab.D.code ?_)
    refine OK.resTo (J' := JM bm rb (onStep m x)) rfl (JM.stable _ _ _) (fun _ _ _ q => ⟨bs, by rw [onStep, if_pos (by rw [he]; decide)]; exact q⟩) ?_
    refine OK.ret ⟨Ret.r1 (.tmp rfl rfl (.c (.same rfl) rfl) rfl) ?_, rfl, trivial⟩
    exact ret_i he.symm
   ·
    have hin : x.part ∈ m.keys := Decidable.not_not.1 g47
    refine RK.c (S.move (.yes rfl rfl rfl rfl) rfl (.tmp rfl rfl)) ?_
    refine RK.c (S.rnil (.yes rfl rfl rfl rfl) rfl (.tmp rfl rfl) (if_pos hin)) ?_
    refine RK.c (S.rfield fi218_2 (.yes rfl rfl rfl rfl) rfl (.tmp rfl rfl)) ?_
    refine RK.c (S.rload1 (u := .bool (m.lf x.part).left) ti4 (.yes rfl rfl rfl rfl) rfl (.tmp rfl rfl) rfl (fun _ _ _ q => ⟨_, life_cell q hin (i := 2) rfl, RepD.toT (.bool _)⟩)) ?_
    refine RK.c (S.pickF .none rfl (.tmp rfl rfl) (.tmp rfl rfl) rfl) ?_
    refine RK.nil (Ab.D.code ?_)
    refine OK.cond rfl rfl (fun c52 => ?_) (fun c52 => ?_)
    ·
     have he : onErr m x = 6 := by rw [ho, if_neg c35, if_pos (.inr c52)]
     refine OK.seq (OK.reg ?_)
     refine RK.c (S.assign .none rfl (.cint rfl)) ?_
     refine RK.nil (Ab.D.code ?_)
     refine OK.resTo (J' := JM bm rb (onStep m x)) rfl (JM.stable _ _ _) (fun _ _ _ q => ⟨bs, by rw [onStep, if_pos (by rw [he]; decide)]; exact q⟩) ?_
     refine OK.ret ⟨Ret.r1 (.tmp rfl rfl (.c (.same rfl) rfl) rfl) ?_, rfl, trivial⟩
     exact ret_i he.symm
    ·
     have ho2 := ho
     rw [if_neg c35, if_neg (by simp [hin, c52])] at ho2
     refine OK.skip ?_
     refine Ab.D.code (OK.seq (OK.seq (OK.reg ?_)))
     refine RK.c (S.bfield fi89_0 .none rfl (.tmp rfl rfl)) ?_
     refine RK.c (S.bload1 ti3 .none rfl (.tmp rfl rfl) rfl rfl rfl rfl) ?_
     refine RK.nil (Ab.D.code ?_)
     refine OK.block ?_
     refine OK.seq (OK.reg ?_)
     refine RK.c (S.eql .none rfl (.tmp rfl rfl) (.cint rfl)) ?_
     refine RK.c (S.assign .none rfl (.tmp rfl rfl)) ?_
     refine RK.nil (Ab.D.code ?_)
     refine OK.condD rfl rfl (fun c55 => ?_) (fun c55 => ?_)
     ·
      refine OK.seq (OK.seq (OK.reg ?_))
      refine RK.c (S.move .none rfl (.tmp rfl rfl)) ?_
      refine RK.c (S.rnil .none rfl (.tmp rfl rfl) (if_pos hin)) ?_
      refine RK.c (S.rfield fi218_0 .none rfl (.tmp rfl rfl)) ?_
      refine RK.c (S.rload1 (u := .bool (m.lf x.part).passed) ti4 .none rfl (.tmp rfl rfl) rfl (fun _ _ _ q => ⟨_, life_cell q hin (i := 0) rfl, RepD.toT (.bool _)⟩)) ?_
      refine RK.c (S.move .none rfl (.tmp rfl rfl)) ?_
      refine RK.split (t := 61) rfl (fun g61 => ?_) (fun g61 => ?_)
      ·
       have he : onErr m x = 20 := by rw [ho2, if_pos c55, if_pos (.inl g61)]
       refine RK.c (S.skip rfl rfl rfl rfl rfl) ?_
       refine RK.c (S.skip rfl rfl rfl rfl rfl) ?_
       refine RK.c (S.skip rfl rfl rfl rfl rfl) ?_
       refine RK.c (S.skip rfl rfl rfl rfl rfl) ?_
       refine RK.c (S.pickT .none rfl (.tmp rfl rfl) .cbool rfl) ?_
       refine RK.nil (Ab.D.code ?_)
       refine OK.condT rfl rfl rfl ?_
       refine OK.seq (OK.reg ?_)
       refine RK.c (S.assign .none rfl (.cint rfl)) ?_
       refine RK.nil (Ab.D.code ?_)
       refine OK.resTo (J' := JM bm rb (onStep m x)) rfl (JM.stable _ _ _) (fun _ _ _ q => ⟨bs, by rw [onStep, if_pos (by rw [he]; decide)]; exact q⟩) ?_
       refine OK.ret ⟨Ret.r1 (.tmp rfl rfl (.c (.same rfl) rfl) rfl) ?_, rfl, trivial⟩
       exact ret_i he.symm
      ·
       refine RK.c (S.move (.yes rfl rfl rfl rfl) rfl (.tmp rfl rfl)) ?_
       refine RK.c (S.rnil (.yes rfl rfl rfl rfl) rfl (.tmp rfl rfl) (if_pos hin)) ?_
       refine RK.c (S.rfield fi218_1 (.yes rfl rfl rfl rfl) rfl (.tmp rfl rfl)) ?_
       refine RK.c (S.rload1 (u := .bool (m.lf x.part).marked) ti4 (.yes rfl rfl rfl rfl) rfl (.tmp rfl rfl) rfl (fun _ _ _ q => ⟨_, life_cell q hin (i := 1) rfl, RepD.toT (.bool _)⟩)) ?_
       refine RK.c (S.pickF .none rfl (.tmp rfl rfl) (.tmp rfl rfl) rfl) ?_
       refine RK.nil (Ab.D.code ?_)
       refine OK.cond rfl rfl (fun c66 => ?_) (fun c66 => ?_)
       ·
        have he : onErr m x = 20 := by rw [ho2, if_pos c55, if_pos (.inr c66)]
        refine OK.seq (OK.reg ?_)
        refine RK.c (S.assign .none rfl (.cint rfl)) ?_
        refine RK.nil (Ab.D.code ?_)
        refine OK.resTo (J' := JM bm rb (onStep m x)) rfl (JM.stable _ _ _) (fun _ _ _ q => ⟨bs, by rw [onStep, if_pos (by rw [he]; decide)]; exact q⟩) ?_
        refine OK.ret ⟨Ret.r1 (.tmp rfl rfl (.c (.same rfl) rfl) rfl) ?_, rfl, trivial⟩
        exact ret_i he.symm
       ·
        have he : onErr m x = 0 := by rw [ho2, if_pos c55, if_neg (by simp [g61, c66])]
        have hst : onStep m x = setLife m x.part ⟨true, (m.lf x.part).marked, (m.lf x.part).left⟩ := by rw [onStep, if_neg (by omega), if_neg c35, if_pos c55]
        refine OK.skip ?_
        refine Ab.D.code (OK.reg ?_)
        refine RK.c (S.move .none rfl (.tmp rfl rfl)) ?_
        refine RK.c (S.rnil .none rfl (.tmp rfl rfl) (if_pos hin)) ?_
        refine RK.c (S.rfield fi218_0 .none rfl (.tmp rfl rfl)) ?_
        refine RK.c (S.rstore1 (v0 := (.bool true)) (J' := (MachIn bm rb bs (setLife m x.part ⟨true, (m.lf x.part).marked, (m.lf x.part).left⟩))) ti4 rfl .none (.tmp rfl rfl) .cbool rfl (fun _ _ q => by cases q; rfl) rfl rfl (fun _ _ _ q => st_life q hin (by decide) rfl) (MachAt.stable _ _ _ _ _)) ?_
        refine RK.nil ?_
        refine Ab.D.blk ?_
        refine Ab.D.code (OK.seq (OK.reg ?_))
        refine RK.c (S.assign .none rfl (.cint rfl)) ?_
        refine RK.nil (Ab.D.code ?_)
        refine OK.resTo (J' := JM bm rb (onStep m x)) rfl (JM.stable _ _ _) (fun _ _ _ q => ⟨bs, by rw [hst]; exact q⟩) ?_
        refine OK.ret ⟨Ret.r1 (.tmp rfl rfl (.c (.same rfl) rfl) rfl) ?_, rfl, trivial⟩
        exact ret_i he.symm
     ·
      refine OK.seq (OK.reg ?_)
      refine RK.c (S.eql .none rfl (.tmp rfl rfl) (.cint rfl)) ?_
      refine RK.c (S.assign .none rfl (.tmp rfl rfl)) ?_
      refine RK.nil (Ab.D.code ?_)
      refine OK.condD rfl rfl (fun c70 => ?_) (fun c70 => ?_)
      ·
       refine OK.seq (OK.seq (OK.reg ?_))
       refine RK.c (S.move .none rfl (.tmp rfl rfl)) ?_
       refine RK.c (S.rnil .none rfl (.tmp rfl rfl) (if_pos hin)) ?_
       refine RK.c (S.rfield fi218_1 .none rfl (.tmp rfl rfl)) ?_
       refine RK.c (S.rload1 (u := .bool (m.lf x.part).marked) ti4 .none rfl (.tmp rfl rfl) rfl (fun _ _ _ q => ⟨_, life_cell q hin (i := 1) rfl, RepD.toT (.bool _)⟩)) ?_
       refine RK.nil (Ab.D.code ?_)
       refine OK.cond rfl rfl (fun c75 => ?_) (fun c75 => ?_)
       ·
        have he : onErr m x = 20 := by rw [ho2, if_neg c55, if_pos c70, if_pos c75]
        refine OK.seq (OK.reg ?_)
        refine RK.c (S.assign .none rfl (.cint rfl)) ?_
        refine RK.nil (Ab.D.code ?_)
        refine OK.resTo (J' := JM bm rb (onStep m x)) rfl (JM.stable _ _ _) (fun _ _ _ q => ⟨bs, by rw [onStep, if_pos (by rw [he]; decide)]; exact q⟩) ?_
        refine OK.ret ⟨Ret.r1 (.tmp rfl rfl (.c (.same rfl) rfl) rfl) ?_, rfl, trivial⟩
        exact ret_i he.symm
       ·
        have he : onErr m x = 0 := by rw [ho2, if_neg c55, if_pos c70, if_neg (by simp [c75])]
        have hst : onStep m x = setLife m x.part ⟨(m.lf x.part).passed, true, (m.lf x.part).left⟩ := by rw [onStep, if_neg (by omega), if_neg c35, if_neg c55, if_pos c70]
        refine OK.skip ?_
        refine Ab.D.code (OK.reg ?_)
        refine RK.c (S.move .none rfl (.tmp rfl rfl)) ?_
        refine RK.c (S.rnil .none rfl (.tmp rfl rfl) (if_pos hin)) ?_
        refine RK.c (S.rfield fi218_1 .none rfl (.tmp rfl rfl)) ?_
        refine RK.c (S.rstore1 (v0 := (.bool true)) (J' := (MachIn bm rb bs (setLife m x.part ⟨(m.lf x.part).passed, true, (m.lf x.part).left⟩))) ti4 rfl .none (.tmp rfl rfl) .cbool rfl (fun _ _ q => by cases q; rfl) rfl rfl (fun _ _ _ q => st_life q hin (by decide) rfl) (MachAt.stable _ _ _ _ _)) ?_
        refine RK.nil ?_
        refine Ab.D.blk ?_
        refine Ab.D.code (OK.seq (OK.reg ?_))
        refine RK.c (S.assign .none rfl (.cint rfl)) ?_
        refine RK.nil (Ab.D.code ?_)
        refine OK.resTo (J' := JM bm rb (onStep m x)) rfl (JM.stable _ _ _) (fun _ _ _ q => ⟨bs, by rw [hst]; exact q⟩) ?_
        refine OK.ret ⟨Ret.r1 (.tmp rfl rfl (.c (.same rfl) rfl) rfl) ?_, rfl, trivial⟩
        exact ret_i he.symm
      ·
       refine OK.seq (OK.reg ?_)
       refine RK.c (S.eql .none rfl (.tmp rfl rfl) (.cint rfl)) ?_
       refine RK.c (S.assign .none rfl (.tmp rfl rfl)) ?_
       refine RK.nil (Ab.D.code ?_)
       refine OK.condD rfl rfl (fun c79 => ?_) (fun c79 => ?_)
       ·
        refine OK.seq (OK.seq (OK.reg ?_))
        refine RK.c (S.move .none rfl (.tmp rfl rfl)) ?_
        refine RK.c (S.rnil .none rfl (.tmp rfl rfl) (if_pos hin)) ?_
        refine RK.c (S.rloadN (us := (m.lf x.part).cs) ti218 .none rfl (.tmp rfl rfl) rfl (fun _ _ _ q => life_all q hin)) ?_
        refine RK.c (S.call (mon_may (x := m.lf x.part)) Tryz.call98 .none rfl (.cons (.tmp rfl rfl) .nil) rfl) ?_
        refine RK.c (S.not .none rfl (.tmp rfl rfl)) ?_
        refine RK.nil (Ab.D.code ?_)
        refine OK.cond rfl rfl (fun c85 => ?_) (fun c85 => ?_)
        ·
         have he : onErr m x = 24 := by rw [ho2, if_neg c55, if_neg c70, if_pos c79, if_neg (by simpa using c85)]
         refine OK.seq (OK.reg ?_)
         refine RK.c (S.assign .none rfl (.cint rfl)) ?_
         refine RK.nil (Ab.D.code ?_)
         refine OK.resTo (J' := JM bm rb (onStep m x)) rfl (JM.stable _ _ _) (fun _ _ _ q => ⟨bs, by rw [onStep, if_pos (by rw [he]; decide)]; exact q⟩) ?_
         refine OK.ret ⟨Ret.r1 (.tmp rfl rfl (.c (.same rfl) rfl) rfl) ?_, rfl, trivial⟩
         exact ret_i he.symm
        ·
         have he : onErr m x = 0 := by rw [ho2, if_neg c55, if_neg c70, if_pos c79, if_pos (by simpa using c85)]
         have hst : onStep m x = setCounts (setLife m x.part ⟨(m.lf x.part).passed, (m.lf x.part).marked, true⟩) (m.good + 1) m.bad := by rw [onStep, if_neg (by omega), if_neg c35, if_neg c55, if_neg c70, if_pos c79]
         refine OK.skip ?_
         refine Ab.D.code (OK.seq (OK.reg ?_))
         refine RK.c (S.move .none rfl (.tmp rfl rfl)) ?_
         refine RK.c (S.rnil .none rfl (.tmp rfl rfl) (if_pos hin)) ?_
         refine RK.c (S.rfield fi218_2 .none rfl (.tmp rfl rfl)) ?_
         refine RK.c (S.rstore1 (v0 := (.bool true)) (J' := (MachIn bm rb bs (setLife m x.part ⟨(m.lf x.part).passed, (m.lf x.part).marked, true⟩))) ti4 rfl .none (.tmp rfl rfl) .cbool rfl (fun _ _ q => by cases q; rfl) rfl rfl (fun _ _ _ q => st_life q hin (by decide) rfl) (MachAt.stable _ _ _ _ _)) ?_
         refine RK.nil (Ab.D.code (OK.reg ?_))
         refine RK.c (S.move .none rfl (.tmp rfl rfl)) ?_
         refine RK.c (S.rnil .none rfl (.tmp rfl rfl) rfl) ?_
         refine RK.c (S.rfield fi178_1 .none rfl (.tmp rfl rfl)) ?_
         refine RK.c (S.rload1 (u := .int .i64 m.good) ti3 .none rfl (.tmp rfl rfl) rfl (fun _ _ _ q => ⟨_, mach_cell q (i := 1) rfl, RepD.toT (.int (IntWalk.i64_in _ (by omega)))⟩)) ?_
         refine RK.c (S.add .none rfl (.tmp rfl rfl) (.cint rfl) (IntWalk.i64_in _ (by omega)) (IntWalk.i64_in _ (by omega))) ?_
         refine RK.c (S.rnil .none rfl (.tmp rfl rfl) rfl) ?_
         refine RK.c (S.rfield fi178_1 .none rfl (.tmp rfl rfl)) ?_
         refine RK.c (S.rstore1 (v0 := (.int .i64 ((m.good : Int) + 1))) (J' := (MachIn bm rb bs (setCounts (setLife m x.part ⟨(m.lf x.part).passed, (m.lf x.part).marked, true⟩) (m.good + 1) m.bad))) ti3 rfl .none (.tmp rfl rfl) (.tmp rfl rfl) rfl (fun _ _ q => by cases q; rfl) rfl rfl (fun _ _ _ q => st_count q (by decide) rfl) (MachAt.stable _ _ _ _ _)) ?_
         refine RK.nil ?_
         refine Ab.D.blk ?_
         refine Ab.D.code (OK.seq (OK.reg ?_))
         refine RK.c (S.assign .none rfl (.cint rfl)) ?_
         refine RK.nil (Ab.D.code ?_)
         refine OK.resTo (J' := JM bm rb (onStep m x)) rfl (JM.stable _ _ _) (fun _ _ _ q => ⟨bs, by rw [hst]; exact q⟩) ?_
         refine OK.ret ⟨Ret.r1 (.tmp rfl rfl (.c (.same rfl) rfl) rfl) ?_, rfl, trivial⟩
         exact ret_i he.symm
       ·
        refine OK.seq (OK.reg ?_)
        refine RK.c (S.eql .none rfl (.tmp rfl rfl) (.cint rfl)) ?_
        refine RK.c (S.assign .none rfl (.tmp rfl rfl)) ?_
        refine RK.nil (Ab.D.code ?_)
        refine OK.condD rfl rfl (fun c96 => ?_) (fun c96 => ?_)
        ·
         have he : onErr m x = 0 := by rw [ho2, if_neg c55, if_neg c70, if_neg c79]
         have hst : onStep m x = setCounts (setLife m x.part ⟨(m.lf x.part).passed, (m.lf x.part).marked, true⟩) m.good (m.bad + 1) := by rw [onStep, if_neg (by omega), if_neg c35, if_neg c55, if_neg c70, if_neg c79]
         refine OK.seq (OK.reg ?_)
         refine RK.c (S.move .none rfl (.tmp rfl rfl)) ?_
         refine RK.c (S.rnil .none rfl (.tmp rfl rfl) (if_pos hin)) ?_
         refine RK.c (S.rfield fi218_2 .none rfl (.tmp rfl rfl)) ?_
         refine RK.c (S.rstore1 (v0 := (.bool true)) (J' := (MachIn bm rb bs (setLife m x.part ⟨(m.lf x.part).passed, (m.lf x.part).marked, true⟩))) ti4 rfl .none (.tmp rfl rfl) .cbool rfl (fun _ _ q => by cases q; rfl) rfl rfl (fun _ _ _ q => st_life q hin (by decide) rfl) (MachAt.stable _ _ _ _ _)) ?_
         refine RK.nil (Ab.D.code (OK.reg ?_))
         refine RK.c (S.move .none rfl (.tmp rfl rfl)) ?_
         refine RK.c (S.rnil .none rfl (.tmp rfl rfl) rfl) ?_
         refine RK.c (S.rfield fi178_2 .none rfl (.tmp rfl rfl)) ?_
         refine RK.c (S.rload1 (u := .int .i64 m.bad) ti3 .none rfl (.tmp rfl rfl) rfl (fun _ _ _ q => ⟨_, mach_cell q (i := 2) rfl, RepD.toT (.int (IntWalk.i64_in _ (by omega)))⟩)) ?_
         refine RK.c (S.add .none rfl (.tmp rfl rfl) (.cint rfl) (IntWalk.i64_in _ (by omega)) (IntWalk.i64_in _ (by omega))) ?_
         refine RK.c (S.rnil .none rfl (.tmp rfl rfl) rfl) ?_
         refine RK.c (S.rfield fi178_2 .none rfl (.tmp rfl rfl)) ?_
         refine RK.c (S.rstore1 (v0 := (.int .i64 ((m.bad : Int) + 1))) (J' := (MachIn bm rb bs (setCounts (setLife m x.part ⟨(m.lf x.part).passed, (m.lf x.part).marked, true⟩) m.good (m.bad + 1)))) ti3 rfl .none (.tmp rfl rfl) (.tmp rfl rfl) rfl (fun _ _ q => by cases q; rfl) rfl rfl (fun _ _ _ q => st_count q (by decide) rfl) (MachAt.stable _ _ _ _ _)) ?_
         refine RK.nil ?_
         refine Ab.D.blk ?_
         refine Ab.D.code (OK.seq (OK.reg ?_))
         refine RK.c (S.assign .none rfl (.cint rfl)) ?_
         refine RK.nil (Ab.D.code ?_)
         refine OK.resTo (J' := JM bm rb (onStep m x)) rfl (JM.stable _ _ _) (fun _ _ _ q => ⟨bs, by rw [hst]; exact q⟩) ?_
         refine OK.ret ⟨Ret.r1 (.tmp rfl rfl (.c (.same rfl) rfl) rfl) ?_, rfl, trivial⟩
         exact ret_i he.symm
        ·
         exfalso
         omega
theorem eachCb_Event {l : List Event} {g : Nat → Event → Int} {Φ : Value → Prop} {J : Nat → Mem → (Nat → Prop) → World → Prop} (hΦ : ∀ (i : Nat) (h : i < l.length) (v : Value), Φ v → CbOk Tryz.prog v [.int .i64 i, .agg l[i].cs] (.int .i64 (g i l[i])) (J i) (J (i + 1))) (hJ : ∀ i, Stable (J i)) : CtG Tryz.prog 135 [] [.sl (l.map Event.cs), .cb Φ] [(3000, .res (J 0))] [(3000, .res (J (eachM g 0 l)))] (pair (eachGo g 0 l)) := by
  refine CtG.intro (rs := [.tmp 4, .tmp 5]) Tryz.func135 rfl Tryz.ntmps135 Tryz.results135 rfl rfl rfl rfl fun w h => ?_
  refine OK.slLen (rows := l.map Event.cs) (t := 0) rfl rfl fun hlen => ?_
  rw [List.length_map] at hlen
  unfold maxLen at hlen
  refine OK.seq (OK.reg ?_)
  refine RK.c (S.assign .none rfl (.cint rfl)) ?_
  refine RK.c (S.assign .none rfl (.cint rfl)) ?_
  refine RK.nil (Ab.D.code (OK.seq (OK.seq (OK.reg ?_))))
  refine RK.c (S.move .none rfl (.tmp rfl rfl)) ?_
  refine RK.c (S.lenM si70 .none rfl (.tmp rfl rfl)) ?_
  refine RK.c (S.move .none rfl (.cint rfl)) ?_
  refine RK.nil (Ab.D.code ?_)
  refine OK.block ?_
  refine OK.loop (G := Nat) [] (fun i => [(1, .cb Φ), (9, .sl (l.map Event.cs)), (10, .int .i64 l.length), (11, .int .i64 i), (3000, .res (J i))]) (fun i => i ≤ l.length ∧ eachGo g 0 l = eachGo g i (l.drop i) ∧ eachM g 0 l = eachM g i (l.drop i)) (fun i => l.length - i) 0 ⟨Nat.zero_le _, rfl, rfl⟩ ⟨rfl, rfl, rfl, rfl, rfl, trivial⟩ (fun _ => rfl) ?_
  rintro i ⟨hi, hg, hN⟩
  refine OK.seq (OK.reg ?_)
  refine RK.c (S.lss .none rfl (.tmp rfl rfl) (.tmp rfl rfl)) ?_
  refine RK.nil (Ab.D.code ?_)
  refine OK.seq ?_
  refine OK.condD rfl rfl (fun c12 => ?_) (fun c12 => ?_)
  ·
    refine OK.skip ?_
    refine Ab.D.code ?_
    refine OK.seq ?_
    refine OK.block ?_
    refine OK.seq (OK.reg ?_)
    refine RK.c (S.move .none rfl (.tmp rfl rfl)) ?_
    refine RK.c (S.indexM si70 .none rfl (.tmp rfl rfl) (.tmp rfl rfl) rfl (by omega) rfl) ?_
    refine RK.c (S.loadN ti89 .none rfl (.tmp rfl rfl) rfl rfl) ?_
    refine RK.c (S.alloc (k := 7) ze89 rfl .none rfl) ?_
    refine RK.c (S.assign .none rfl (.tmp rfl rfl)) ?_
    refine RK.c (S.store ti89 .none (.tmp rfl rfl) (.tmp rfl rfl) rfl rfl rfl rfl rfl rfl) ?_
    refine RK.nil (Ab.D.code (OK.seq (OK.reg ?_)))
    refine RK.c (S.move .none rfl (.tmp rfl rfl)) ?_
    refine RK.c (S.move .none rfl (.tmp rfl rfl)) ?_
    refine RK.c (S.bloadN ti89 .none rfl (.tmp rfl rfl) rfl rfl rfl rfl) ?_
    refine RK.c (S.callcb (J1 := J (i + 1)) (hΦ i (by omega)) (hJ _) .none rfl (.tmp rfl rfl) (.cons (.tmp rfl rfl) (.cons (.tmp rfl rfl) .nil)) rfl rfl) ?_
    refine RK.c (S.assign .none rfl (.tmp rfl rfl)) ?_
    refine RK.nil (Ab.D.code (OK.seq (OK.reg ?_)))
    refine RK.c (S.move .none rfl (.tmp rfl rfl)) ?_
    refine RK.c (S.neq .none rfl (.tmp rfl rfl) (.cint rfl)) ?_
    refine RK.nil (Ab.D.code ?_)
    refine OK.condD rfl rfl (fun c21 => ?_) (fun c21 => ?_)
    ·
      refine OK.seq (OK.reg ?_)
      refine RK.c (S.move .none rfl (.tmp rfl rfl)) ?_
      refine RK.c (S.move .none rfl (.tmp rfl rfl)) ?_
      refine RK.c (S.assign .none rfl (.tmp rfl rfl)) ?_
      refine RK.c (S.assign .none rfl (.tmp rfl rfl)) ?_
      refine RK.nil (Ab.D.code ?_)
      refine OK.ret ⟨Ret.r2 (.tmp rfl rfl (.c (.same rfl) rfl) rfl) (.tmp rfl rfl (.c (.same rfl) rfl) rfl) ?_, (lk_res (by rw [hN, eachM_drop _ (by omega), if_pos c21])), trivial⟩
      refine ret_p ?_
      rw [hg, eachGo_drop _ (by omega), if_pos c21]
    ·
      refine OK.skip ?_
      refine Ab.D.blk ?_
      refine Ab.D.code (OK.reg ?_)
      refine RK.c (S.add .none rfl (.tmp rfl rfl) (.cint rfl) (IntWalk.i64_in _ (by omega)) (IntWalk.i64_in _ (by omega))) ?_
      refine RK.c (S.move .none rfl (.tmp rfl rfl)) ?_
      refine RK.nil ?_
      refine Ab.D.lp ⟨i + 1, ⟨by omega, ?_, ?_⟩, (by omega), rfl, rfl, rfl, rfl, rfl, trivial⟩
      · rw [hg, eachGo_drop _ (by omega), if_neg c21]
      · rw [hN, eachM_drop _ (by omega), if_neg c21]
  ·
    refine OK.exit rfl ?_
    refine Ab.D.code (OK.seq (OK.reg ?_))
    refine RK.c (S.assign .none rfl (.cint rfl)) ?_
    refine RK.c (S.assign .none rfl (.cint rfl)) ?_
    refine RK.nil (Ab.D.code ?_)
    refine OK.ret ⟨Ret.r2 (.tmp rfl rfl (.c (.same rfl) rfl) rfl) (.tmp rfl rfl (.c (.same rfl) rfl) rfl) ?_, (lk_res (by rw [hN, show i = l.length by omega, List.drop_length]; rfl)), trivial⟩
    refine ret_p ?_
    rw [hg, show i = l.length by omega, List.drop_length]
    rfl
theorem mon_run {l : List Event} : CtX Tryz.prog 96 [.sl (l.map Event.cs)] (fun q : Nat × Nat => .tup [.raw (.pointer (some ⟨q.1, 0, none⟩)), .int .i64 (runT l).1, .int .i64 (runT l).2]) (fun q : Nat × Nat => JM q.1 q.2 (runM l)) := by
 refine CtX.intro (rs := [.tmp 2, .tmp 3, .tmp 4]) Tryz.func96 rfl Tryz.ntmps96 Tryz.results96 rfl rfl rfl fun w h => ?_
 refine OK.seq (OK.reg ?_)
 refine RK.c (S.assign .none rfl .craw) ?_
 refine RK.c (S.assign .none rfl (.cint rfl)) ?_
 refine RK.c (S.assign .none rfl (.cint rfl)) ?_
 refine RK.nil (Ab.D.code (OK.seq (OK.reg ?_)))
 refine RK.makeMap rfl fun rb => ?_
 refine RK.c (S.build bu178 rfl .none rfl (.cons (.tmp rfl rfl) .nil) rfl rfl) ?_
 refine RK.c (S.box (k := 10) rfl .none rfl (.tmp rfl rfl) rfl) ?_
 refine RK.c (S.assign .none rfl (.tmp rfl rfl)) ?_
 refine RK.nil (Ab.D.code ?_)
 refine OK.seq ?_
 refine OK.seq ?_
 refine OK.giveR (J := fun b => JM b rb Mach.init) [] [(0, .sl (l.map Event.cs))] 5 rfl rfl rfl rfl rfl rfl rfl ⟨rfl, trivial⟩ rfl rfl (fun b => JM.stable _ _ _) (fun b h Y T vs w q1 q2 q3 q4 q5 => by obtain ⟨c0, _, q3⟩ := q3; rw [mach3 q3] at q2; exact mach_new q1.1 q1.2.1 q1.2.2 q2 q4) fun bm => ?_
 refine OK.reg ?_
 refine RK.c (S.move .none rfl (.tmp rfl rfl)) ?_
 refine RK.c (S.lenM si70 .none rfl (.tmp rfl rfl)) ?_
 refine RK.c (S.gtr .none rfl (.tmp rfl rfl) (.cint rfl)) ?_
 refine RK.nil (Ab.D.code ?_)
 refine OK.condD rfl rfl (fun c13 => ?_) (fun c13 => ?_)
 ·
  refine OK.seq (OK.reg ?_)
  refine RK.c (S.move .none rfl (.tmp rfl rfl)) ?_
  refine RK.c (S.assign .none rfl (.tmp rfl rfl)) ?_
  refine RK.c (S.assign .none rfl (.cint rfl)) ?_
  refine RK.c (S.assign .none rfl (.cint rfl)) ?_
  refine RK.nil (Ab.D.code ?_)
  refine OK.ret ⟨(bm, rb), Ret.r3 (.tmp rfl rfl (.c (.same rfl) rfl) rfl) (.tmp rfl rfl (.c (.same rfl) rfl) rfl) (.tmp rfl rfl (.c (.same rfl) rfl) rfl) ?_, (lk_res (by rw [runM, if_pos (by omega)]))⟩
  show X.tup [.raw (.pointer (some ⟨bm, 0, none⟩)), .int .i64 0, .int .i64 8] = X.tup [.raw (.pointer (some ⟨bm, 0, none⟩)), .int .i64 (runT l).1, .int .i64 (runT l).2]
  rw [runT, if_pos (by omega)]
 ·
  have kS : ∀ (i : Nat) (h : i < l.length), CbOk Tryz.prog (.func (.func 136) #[.pointer (some ⟨bm, 0, none⟩)] #[]) [.int .i64 i, .agg l[i].cs] (.int .i64 (gRun l i l[i])) (JM bm rb (machAt l i)) (JM bm rb (machAt l (i + 1))) := fun i h => by
   have hbd := machAt_bd l i (by omega)
   rw [machAt_succ h]
   exact cb_of_first (mon_on (m := machAt l i) (x := l[i]) (by omega) (by omega)) Tryz.call136 rfl (JM.stable _ _ _)
  have kF : CtG Tryz.prog 135 [] ([.sl (l.map Event.cs)] ++ [.cb fun v => v = .func (.func 136) #[.pointer (some ⟨bm, 0, none⟩)] #[]]) [(3000, .res (JM bm rb Mach.init))] [(3000, .res (JM bm rb (machAt l (eachM (gRun l) 0 l))))] (pair (eachGo (gRun l) 0 l)) := eachCb_Event (l := l) (g := gRun l) (Φ := fun v => v = .func (.func 136) #[.pointer (some ⟨bm, 0, none⟩)] #[]) (J := fun i => JM bm rb (machAt l i)) (fun i h v e => by subst e; exact kS i h) (fun i => JM.stable _ _ _)
  refine OK.skip ?_
  refine Ab.D.code (OK.seq (OK.reg ?_))
  refine RK.c (S.move .none rfl (.tmp rfl rfl)) ?_
  refine RK.c (S.move .none rfl (.tmp rfl rfl)) ?_
  refine RK.c (S.makeFuncF .none rfl (.tmp rfl rfl)) ?_
  refine RK.c (S.callF (kF) (JM.stable _ _ _) Tryz.call135 .none rfl (.cons (.tmp rfl rfl) (.cons (.tmp rfl rfl) .nil)) rfl rfl rfl rfl) ?_
  refine RK.c (S.move .none rfl (.tmp rfl rfl)) ?_
  refine RK.c (S.extract .none rfl (.tmp rfl rfl) rfl rfl) ?_
  refine RK.c (S.extract .none rfl (.tmp rfl rfl) rfl rfl) ?_
  refine RK.c (S.assign .none rfl (.tmp rfl rfl)) ?_
  refine RK.c (S.assign .none rfl (.tmp rfl rfl)) ?_
  refine RK.nil (Ab.D.code (OK.seq (OK.reg ?_)))
  refine RK.c (S.move .none rfl (.tmp rfl rfl)) ?_
  refine RK.c (S.move .none rfl (.tmp rfl rfl)) ?_
  refine RK.c (S.move .none rfl (.tmp rfl rfl)) ?_
  refine RK.c (S.assign .none rfl (.tmp rfl rfl)) ?_
  refine RK.c (S.assign .none rfl (.tmp rfl rfl)) ?_
  refine RK.c (S.assign .none rfl (.tmp rfl rfl)) ?_
  refine RK.nil (Ab.D.code ?_)
  refine OK.ret ⟨(bm, rb), Ret.r3 (.tmp rfl rfl (.c (.same rfl) rfl) rfl) (.tmp rfl rfl (.c (.same rfl) rfl) rfl) (.tmp rfl rfl (.c (.same rfl) rfl) rfl) ?_, (lk_res (by rw [runM, if_neg (by omega)]))⟩
  show X.tup [.raw (.pointer (some ⟨bm, 0, none⟩)), .int .i64 (eachGo (gRun l) 0 l).1, .int .i64 (eachGo (gRun l) 0 l).2] = X.tup [.raw (.pointer (some ⟨bm, 0, none⟩)), .int .i64 (runT l).1, .int .i64 (runT l).2]
  rw [runT, if_neg (by omega)]
theorem mon_RunOf {l : List Event} : Ct Tryz.prog 44 [.sl (l.map Event.cs)] (.tup [.agg (cntOf l).cs, .int .i64 (idxOf l), .int .i64 (runT l).2]) := by
 refine Ct.intro (rs := [.cell 2 94, .tmp 3, .tmp 4]) Tryz.func44 rfl Tryz.ntmps44 Tryz.results44 rfl rfl rfl fun w h => ?_
 have hbd := runM_bd l
 refine OK.seq (OK.reg ?_)
 refine RK.c (S.alloc (k := 2) ze94 rfl .none rfl) ?_
 refine RK.c (S.assign .none rfl (.cint rfl)) ?_
 refine RK.c (S.assign .none rfl (.cint rfl)) ?_
 refine RK.nil (Ab.D.code (OK.seq (OK.reg ?_)))
 refine RK.c (S.move .none rfl (.tmp rfl rfl)) ?_
 refine RK.callX (mon_run (l := l)) (fun q => JM.stable _ _ _) (fun q h Y Y' w => JM.mono) Tryz.call96 rfl (.cons (.tmp rfl rfl) .nil) rfl fun q => ?_
 refine RK.c (S.move .none rfl (.tmp rfl rfl)) ?_
 refine RK.c (S.extract .none rfl (.tmp rfl rfl) rfl rfl) ?_
 refine RK.c (S.extract .none rfl (.tmp rfl rfl) rfl rfl) ?_
 refine RK.c (S.extract .none rfl (.tmp rfl rfl) rfl rfl) ?_
 refine RK.c (S.assign .none rfl (.tmp rfl rfl)) ?_
 refine RK.c (S.assign .none rfl (.tmp rfl rfl)) ?_
 refine RK.c (S.assign .none rfl (.tmp rfl rfl)) ?_
 refine RK.nil (Ab.D.code (OK.seq (OK.seq (OK.reg ?_))))
 refine RK.c (S.move .none rfl (.tmp rfl rfl)) ?_
 refine RK.c (S.neq .none rfl (.tmp rfl rfl) (.cint rfl)) ?_
 refine RK.nil (Ab.D.code ?_)
 refine OK.condD rfl rfl (fun c15 => ?_) (fun c15 => ?_)
 ·
  refine OK.seq (OK.reg ?_)
  refine RK.c (S.build bu94 rfl .none rfl .nil rfl rfl) ?_
  refine RK.c (S.move .none rfl (.tmp rfl rfl)) ?_
  refine RK.c (S.move .none rfl (.tmp rfl rfl)) ?_
  refine RK.c (S.store ti94 .none (.tmp rfl rfl) (.tmp rfl rfl) rfl rfl rfl rfl rfl rfl) ?_
  refine RK.c (S.assign .none rfl (.tmp rfl rfl)) ?_
  refine RK.c (S.assign .none rfl (.tmp rfl rfl)) ?_
  refine RK.nil (Ab.D.code ?_)
  refine OK.ret (Ret.r3 (.cellN rfl rfl rfl rfl ti94 rfl (.k (.same rfl) (.k (.same rfl) (.k (.same rfl) .z)))) (.tmp rfl rfl (.c (.same rfl) rfl) rfl) (.tmp rfl rfl (.c (.same rfl) rfl) rfl) ?_)
  rw [cntOf, if_neg c15, idxOf, if_neg c15]
  rfl
 ·
  refine OK.skip ?_
  refine Ab.D.code ?_
  refine OK.seq ?_
  refine OK.regionDraw follows (.c (S.move .none rfl (.tmp rfl rfl))
   (.c (S.rnil .none rfl (.tmp rfl rfl) rfl)
   (.c (S.rfield fi178_0 .none rfl (.tmp rfl rfl))
   (.c (S.rload1 (u := .raw (.map (some q.2))) ti176 .none rfl (.tmp rfl rfl) rfl (fun _ _ _ z => by obtain ⟨_, z⟩ := z; exact ⟨_, mach_cell z (i := 0) rfl, rfl⟩))
   (.c (S.rlen (n := (runM l).keys.length) Tryz.underlying176 .none rfl (.tmp rfl rfl) rfl (fun _ _ _ z => by obtain ⟨_, z⟩ := z; exact mach_len z) (Nat.le_trans hbd.1 (by decide)))
   (.c (S.move .none rfl (.tmp rfl rfl))
   (.c (S.rnil .none rfl (.tmp rfl rfl) rfl)
   (.c (S.rfield fi178_1 .none rfl (.tmp rfl rfl))
   (.c (S.rload1 (u := .int .i64 (runM l).good) ti3 .none rfl (.tmp rfl rfl) rfl (fun _ _ _ z => by obtain ⟨_, z⟩ := z; exact ⟨_, mach_cell z (i := 1) rfl, RepD.toT (.int (IntWalk.i64_in _ (by omega)))⟩))
   (.c (S.sub .none rfl (.tmp rfl rfl) (.tmp rfl rfl) (IntWalk.i64_in _ (by omega)) (IntWalk.i64_in _ (by omega)))
   (.c (S.move .none rfl (.tmp rfl rfl))
   (.c (S.rnil .none rfl (.tmp rfl rfl) rfl)
   (.c (S.rfield fi178_2 .none rfl (.tmp rfl rfl))
   (.c (S.rload1 (u := .int .i64 (runM l).bad) ti3 .none rfl (.tmp rfl rfl) rfl (fun _ _ _ z => by obtain ⟨_, z⟩ := z; exact ⟨_, mach_cell z (i := 2) rfl, RepD.toT (.int (IntWalk.i64_in _ (by omega)))⟩))
   (.c (S.sub .none rfl (.tmp rfl rfl) (.tmp rfl rfl) (IntWalk.i64_in _ (by omega)) (IntWalk.i64_in _ (by omega)))
   (.c (S.move .none rfl (.tmp rfl rfl))
   (.c (S.rnil .none rfl (.tmp rfl rfl) rfl)
   (.c (S.rfield fi178_1 .none rfl (.tmp rfl rfl))
   (.c (S.rload1 (u := .int .i64 (runM l).good) ti3 .none rfl (.tmp rfl rfl) rfl (fun _ _ _ z => by obtain ⟨_, z⟩ := z; exact ⟨_, mach_cell z (i := 1) rfl, RepD.toT (.int (IntWalk.i64_in _ (by omega)))⟩))
   (.c (S.move .none rfl (.tmp rfl rfl))
   (.c (S.rnil .none rfl (.tmp rfl rfl) rfl)
   (.c (S.rfield fi178_2 .none rfl (.tmp rfl rfl))
   (.c (S.rload1 (u := .int .i64 (runM l).bad) ti3 .none rfl (.tmp rfl rfl) rfl (fun _ _ _ z => by obtain ⟨_, z⟩ := z; exact ⟨_, mach_cell z (i := 2) rfl, RepD.toT (.int (IntWalk.i64_in _ (by omega)))⟩))
   (.c (S.build bu94 rfl .none rfl (.cons (.tmp rfl rfl) (.cons (.tmp rfl rfl) (.cons (.tmp rfl rfl) .nil))) rfl rfl)
   (.c (S.store ti94 .none (.tmp rfl rfl) (.tmp rfl rfl) rfl rfl rfl rfl rfl rfl)
   (.c (S.assign .none rfl (.cint rfl))
   (.c (S.assign .none rfl (.cint rfl))
   .nil))))))))))))))))))))))))))) (by kernel_rfl) ?_
  refine Ab.D.code ?_
  refine OK.ret (Ret.r3 (.cellN rfl rfl rfl rfl ti94 rfl (.k (.same rfl) (.k (.same rfl) (.k (.same rfl) .z)))) (.tmp rfl rfl (.c (.same rfl) rfl) rfl) (.tmp rfl rfl (.c (.same rfl) rfl) rfl) ?_)
  have he : (runT l).2 = 0 := Decidable.not_not.1 c15
  rw [cntOf, if_pos he, idxOf, if_pos he, he]
  rfl
theorem mon_MayLeave {l : List Event} {part : Int} : Ct Tryz.prog 42 [.sl (l.map Event.cs), .int .i64 part] (.tup [.bool (leaveB l part), .int .i64 (leaveE l part)]) := by
 refine Ct.intro (rs := [.tmp 4, .tmp 5]) Tryz.func42 rfl Tryz.ntmps42 Tryz.results42 rfl rfl rfl fun w h => ?_
 have hh := leaveHead l part
 refine OK.seq (OK.reg ?_)
 refine RK.c (S.assign .none rfl .cbool) ?_
 refine RK.c (S.assign .none rfl (.cint rfl)) ?_
 refine RK.nil (Ab.D.code (OK.seq (OK.reg ?_)))
 refine RK.c (S.move .none rfl (.tmp rfl rfl)) ?_
 refine RK.callX (mon_run (l := l)) (fun q => JM.stable _ _ _) (fun q h Y Y' w => JM.mono) Tryz.call96 rfl (.cons (.tmp rfl rfl) .nil) rfl fun q => ?_
 refine RK.c (S.move .none rfl (.tmp rfl rfl)) ?_
 refine RK.c (S.extract .none rfl (.tmp rfl rfl) rfl rfl) ?_
 refine RK.c (S.extract .none rfl (.tmp rfl rfl) rfl rfl) ?_
 refine RK.c (S.extract .none rfl (.tmp rfl rfl) rfl rfl) ?_
 refine RK.c (S.assign .none rfl (.tmp rfl rfl)) ?_
 refine RK.c (S.assign .none rfl (.tmp rfl rfl)) ?_
 refine RK.c (S.assign .none rfl (.tmp rfl rfl)) ?_
 refine RK.nil (Ab.D.code (OK.seq (OK.seq (OK.reg ?_))))
 refine RK.c (S.move .none rfl (.tmp rfl rfl)) ?_
 refine RK.c (S.move .none rfl (.tmp rfl rfl)) ?_
 refine RK.c (S.call (mon_isNumber) Tryz.call97 .none rfl (.cons (.tmp rfl rfl) .nil) rfl) ?_
 refine RK.c (S.call (monitor_unless) Tryz.call84 .none rfl (.cons (.tmp rfl rfl) (.cons (.cint rfl) .nil)) rfl) ?_
 refine RK.c (S.mkSlice (k := 21) (rows := [[_], [_]]) ai209 .none rfl (.cons (.tmp rfl rfl) (.cons (.tmp rfl rfl) .nil)) rfl rfl rfl rfl rfl rfl rfl) ?_
 refine RK.c (S.callL (monitor_first (l := [_, _])) Tryz.call83 .none rfl (.cons (.tmp rfl rfl) .nil) (.cons (.p (.own rfl rfl) rfl) .nil) rfl) ?_
 refine RK.c (S.assign .none rfl (.tmp rfl rfl)) ?_
 refine RK.nil (Ab.D.code (OK.seq (OK.reg ?_)))
 refine RK.c (S.move .none rfl (.tmp rfl rfl)) ?_
 refine RK.c (S.neq .none rfl (.tmp rfl rfl) (.cint rfl)) ?_
 refine RK.nil (Ab.D.code ?_)
 refine OK.condD rfl rfl (fun c24 => ?_) (fun c24 => ?_)
 ·
  have he : ¬ leaveE l part = 0 := by rw [← hh]; exact c24
  refine OK.seq (OK.reg ?_)
  refine RK.c (S.move .none rfl (.tmp rfl rfl)) ?_
  refine RK.c (S.assign .none rfl .cbool) ?_
  refine RK.c (S.assign .none rfl (.tmp rfl rfl)) ?_
  refine RK.nil (Ab.D.code ?_)
  refine OK.ret (Ret.r2 (.tmp rfl rfl (.c (.same rfl) rfl) rfl) (.tmp rfl rfl (.c (.same rfl) rfl) rfl) ?_)
  rw [leaveB, decide_eq_false he, Bool.false_and, ← hh]
 ·
  have he : leaveE l part = 0 := by rw [← hh]; exact Decidable.not_not.1 c24
  refine OK.skip ?_
  refine Ab.D.code ?_
  refine OK.seq ?_
  refine OK.resEx (J := fun bs => MachIn q.1 q.2 bs (runM l)) rfl (fun bs => MachAt.stable _ _ _ _ _) fun bs => ?_
  refine OK.reg ?_
  refine RK.c (S.move .none rfl (.tmp rfl rfl)) ?_
  refine RK.c (S.rnil .none rfl (.tmp rfl rfl) rfl) ?_
  refine RK.c (S.rfield fi178_0 .none rfl (.tmp rfl rfl)) ?_
  refine RK.c (S.rload1 (u := .raw (.map (some q.2))) ti176 .none rfl (.tmp rfl rfl) rfl (fun _ _ _ z => ⟨_, mach_cell z (i := 0) rfl, rfl⟩)) ?_
  refine RK.c (S.move .none rfl (.tmp rfl rfl)) ?_
  refine RK.c (S.lookup (vp := (if part ∈ (runM l).keys then Value.pointer (some ⟨bs part, 0, none⟩) else .pointer none)) (ok := (decide (part ∈ (runM l).keys))) Tryz.underlying176 Tryz.underlying3 Tryz.zeroValue174 .none rfl (.tmp rfl rfl) (.tmp rfl rfl) rfl (fun _ _ _ z => mach_look z part)) ?_
  refine RK.c (S.move .none rfl (.tmp rfl rfl)) ?_
  refine RK.c (S.extract .none rfl (.tmp rfl rfl) rfl rfl) ?_
  refine RK.c (S.extract .none rfl (.tmp rfl rfl) rfl rfl) ?_
  refine RK.c (S.assign .none rfl (.tmp rfl rfl)) ?_
  refine RK.c (S.assign .none rfl (.tmp rfl rfl)) ?_
  refine RK.nil (Ab.D.code (OK.seq (OK.reg ?_)))
  refine RK.c (S.move .none rfl (.tmp rfl rfl)) ?_
  refine RK.c (S.move .none rfl (.tmp rfl rfl)) ?_
  refine RK.splitD (t := 36) rfl (fun g36 => ?_) (fun g36 => ?_)
  ·
   refine RK.c (S.move (.yes rfl rfl rfl rfl) rfl (.tmp rfl rfl)) ?_
   refine RK.c (S.rnil (.yes rfl rfl rfl rfl) rfl (.tmp rfl rfl) (if_pos g36)) ?_
   refine RK.c (S.rloadN (us := ((runM l).lf part).cs) ti218 (.yes rfl rfl rfl rfl) rfl (.tmp rfl rfl) rfl (fun _ _ _ z => life_all z g36)) ?_
   refine RK.c (S.call (mon_may (x := (runM l).lf part)) Tryz.call98 (.yes rfl rfl rfl rfl) rfl (.cons (.tmp rfl rfl) .nil) rfl) ?_
   refine RK.c (S.pickT .none rfl (.tmp rfl rfl) (.tmp rfl rfl) rfl) ?_
   refine RK.c (S.assign .none rfl (.tmp rfl rfl)) ?_
   refine RK.c (S.assign .none rfl (.cint rfl)) ?_
   refine RK.nil (Ab.D.code ?_)
   refine OK.ret (Ret.r2 (.tmp rfl rfl (.c (.same rfl) rfl) rfl) (.tmp rfl rfl (.c (.same rfl) rfl) rfl) ?_)
   rw [leaveB, decide_eq_true he, he, decide_eq_true g36, Bool.true_and, Bool.true_and]
  ·
   refine RK.c (S.skip rfl rfl rfl rfl rfl) ?_
   refine RK.c (S.skip rfl rfl rfl rfl rfl) ?_
   refine RK.c (S.skip rfl rfl rfl rfl rfl) ?_
   refine RK.c (S.skip rfl rfl rfl rfl rfl) ?_
   refine RK.c (S.pickF .none rfl (.tmp rfl rfl) .cbool rfl) ?_
   refine RK.c (S.assign .none rfl (.tmp rfl rfl)) ?_
   refine RK.c (S.assign .none rfl (.cint rfl)) ?_
   refine RK.nil (Ab.D.code ?_)
   refine OK.ret (Ret.r2 (.tmp rfl rfl (.c (.same rfl) rfl) rfl) (.tmp rfl rfl (.c (.same rfl) rfl) rfl) ?_)
   rw [leaveB, he, decide_eq_false g36, Bool.false_and, Bool.and_false]
end Go.Proofs.YtpmglnphhhlbdaaGreatDoor
