import Derived.Test.YtpmglnphhhlbdaaGreatDoorGs
import Derived.Test.YtpmglnphhhlbdaaGreatDoorWb
namespace Go.Proofs.YtpmglnphhhlbdaaGreatDoor
open Go.Ab
def allGo {α : Type} (g : Nat → α → Bool) : Nat → List α → Bool
  | _, [] => true
  | i, x :: l => g i x && allGo g (i + 1) l
theorem allGo_drop {α : Type} (g : Nat → α → Bool) {l : List α} {i : Nat} (h : i < l.length) : allGo g i (l.drop i) = (g i l[i] && allGo g (i + 1) (l.drop (i + 1))) := by
  rw [List.drop_eq_getElem_cons h, allGo]
def nameC (i : Nat) (c : UInt8) : Bool :=
  decide (97 ≤ (c.toNat : Int) ∧ (c.toNat : Int) ≤ 122) || decide (65 ≤ (c.toNat : Int) ∧ (c.toNat : Int) ≤ 90) || (decide ((i : Int) ≠ 0) && (decide ((c.toNat : Int) = 45) || decide (48 ≤ (c.toNat : Int) ∧ (c.toNat : Int) ≤ 57)))
def nameOk (s : List UInt8) : Bool := allGo nameC 0 s && decide (1 ≤ (s.length : Int) ∧ (s.length : Int) ≤ 12)
theorem u8_i64 (b : UInt8) : -9223372036854775808 ≤ (b.toNat : Int) ∧ (b.toNat : Int) ≤ 9223372036854775807 := by
  have := UInt8.toNat_lt b
  omega
theorem nameT {s : List UInt8} {i : Nat} (h : i < s.length) (hg : allGo nameC 0 s = allGo nameC i (s.drop i)) (hc : nameC i s[i] = true) : allGo nameC 0 s = allGo nameC (i + 1) (s.drop (i + 1)) := by
  rw [hg, allGo_drop _ h, hc, Bool.true_and]
theorem nameF {s : List UInt8} {i : Nat} (h : i < s.length) (hg : allGo nameC 0 s = allGo nameC i (s.drop i)) (hc : nameC i s[i] = false) : X.bool false = X.bool (nameOk s) := by
  rw [nameOk, hg, allGo_drop _ h, hc, Bool.false_and, Bool.false_and]
def hasText (l : List (List UInt8)) (s : List UInt8) : Bool := l.any fun x => decide (s = x)
def chanErr (l : List (List UInt8)) (i : Nat) (s : List UInt8) : Int := if nameOk s = false then 4 else if hasText (l.take i) s = true then 5 else 0
def planChk (p : Plan) : Int × Int :=
  if p.channels.length = 0 then (0, 10) else if 4 < p.channels.length then (0, 8) else
  if (eachGo (chanErr p.channels) 0 p.channels).2 ≠ 0 then eachGo (chanErr p.channels) 0 p.channels else (0, if 1 ≤ p.ticks ∧ p.ticks ≤ 12 then 0 else 2)
def isVal (n : Int) : Bool := decide (-1000000 ≤ n ∧ n ≤ 1000000)
def valuesErr (p : Plan) (l : List Int) : Int := if l.length ≠ p.channels.length then 10 else if l.all isVal = true then 0 else 2
def rowErr (p : Plan) (r : Row) : Int := if r.known = true then valuesErr p r.values else if r.values.length = 0 then 0 else 3
def recChk (p : Plan) (r : Record) : Int × Int := if (r.rows.length : Int) ≠ p.ticks then (0, 10) else eachGo (fun _ x => rowErr p x) 0 r.rows
theorem any_drop {α : Type} (g : α → Bool) {l : List α} {i : Nat} (h : i < l.length) : (l.drop i).any g = (g l[i] || (l.drop (i + 1)).any g) := by
  rw [List.drop_eq_getElem_cons h, List.any_cons]
theorem mon_isName {s : List UInt8} : Ct Tryz.prog 121 [.str s] (.bool (nameOk s)) := by
 refine Ct.intro (rs := [.tmp 2]) Tryz.func121 rfl Tryz.ntmps121 Tryz.results121 rfl rfl rfl fun w h => ?_
 refine OK.strLen (t := 0) (z := s) rfl rfl fun hlen => ?_
 unfold maxLen at hlen
 refine OK.seq (OK.reg ?_)
 refine RK.c (S.assign .none rfl .cbool) ?_
 refine RK.nil (Ab.D.code (OK.seq (OK.seq (OK.reg ?_))))
 refine RK.c (S.move .none rfl (.tmp rfl rfl)) ?_
 refine RK.c (S.bytes Tryz.underlying9 Tryz.underlying188 Tryz.underlying5 .none rfl (.tmp rfl rfl)) ?_
 refine RK.c (S.lenM si188 .none rfl (.tmp rfl rfl)) ?_
 refine RK.c (S.move .none rfl (.cint rfl)) ?_
 refine RK.nil (Ab.D.code ?_)
 refine OK.block ?_
 refine OK.loop (G := Nat) [] (fun i => [(0, .str s), (7, .sl (s.map fun b => [.int .u8 b.toNat])), (8, .int .i64 s.length), (9, .int .i64 i)]) (fun i => i ≤ s.length ∧ allGo nameC 0 s = allGo nameC i (s.drop i)) (fun i => s.length - i) 0 ⟨Nat.zero_le _, rfl⟩ ⟨rfl, rfl, rfl, rfl, trivial⟩ (fun _ => rfl) ?_
 rintro i ⟨hi, hg⟩
 refine OK.seq (OK.reg ?_)
 refine RK.c (S.lss .none rfl (.tmp rfl rfl) (.tmp rfl rfl)) ?_
 refine RK.nil (Ab.D.code ?_)
 refine OK.seq ?_
 refine OK.condD rfl rfl (fun c10 => ?_) (fun c10 => ?_)
 ·
  refine OK.skip ?_
  refine Ab.D.code ?_
  refine OK.seq ?_
  refine OK.block ?_
  refine OK.seq (OK.reg ?_)
  refine RK.c (S.move .none rfl (.tmp rfl rfl)) ?_
  refine RK.c (S.indexM si188 .none rfl (.tmp rfl rfl) (.tmp rfl rfl) rfl (by omega) rfl) ?_
  refine RK.c (S.load1 ti5 .none rfl (.tmp rfl rfl) rfl) ?_
  refine RK.c (S.assign .none rfl (.tmp rfl rfl)) ?_
  refine RK.c (S.assign .none rfl (.tmp rfl rfl)) ?_
  refine RK.nil (Ab.D.code (OK.seq (OK.reg ?_)))
  refine RK.c (S.move .none rfl (.tmp rfl rfl)) ?_
  refine RK.c (S.conv .none rfl (.tmp rfl rfl) Tryz.underlying5 Tryz.underlying3 (IntWalk.i64_in _ (u8_i64 _)) (IntWalk.i64_in _ (u8_i64 _))) ?_
  refine RK.c (S.call (mon_within) Tryz.call99 .none rfl (.cons (.tmp rfl rfl) (.cons (.cint rfl) (.cons (.cint rfl) .nil))) rfl) ?_
  refine RK.c (S.move .none rfl (.tmp rfl rfl)) ?_
  refine RK.splitD (t := 17) rfl (fun g17 => ?_) (fun g17 => ?_)
  ·
   refine RK.c (S.skip rfl rfl rfl rfl rfl) ?_
   refine RK.c (S.skip rfl rfl rfl rfl rfl) ?_
   refine RK.c (S.skip rfl rfl rfl rfl rfl) ?_
   refine RK.c (S.pickT .none rfl (.tmp rfl rfl) .cbool rfl) ?_
   refine RK.c (S.assign .none rfl (.tmp rfl rfl)) ?_
   refine RK.nil (Ab.D.code (OK.seq (OK.reg ?_)))
   refine RK.c (S.move .none rfl (.tmp rfl rfl)) ?_
   refine RK.c (S.not .none rfl (.tmp rfl rfl)) ?_
   refine RK.c (S.move .none rfl (.tmp rfl rfl)) ?_
   refine RK.c (S.skip rfl rfl rfl rfl rfl) ?_
   refine RK.c (S.skip rfl rfl rfl rfl rfl) ?_
   refine RK.c (S.skip rfl rfl rfl rfl rfl) ?_
   refine RK.c (S.skipU rfl rfl rfl rfl) ?_
   refine RK.c (S.skipU rfl rfl rfl rfl) ?_
   refine RK.c (S.skipU rfl rfl rfl rfl) ?_
   refine RK.c (S.skipU rfl rfl rfl rfl) ?_
   refine RK.c (S.skipU rfl rfl rfl rfl) ?_
   refine RK.c (S.skipU rfl rfl rfl rfl) ?_
   refine RK.c (S.skipU rfl rfl rfl rfl) ?_
   refine RK.c (S.skipU rfl rfl rfl rfl) ?_
   refine RK.c (S.skip rfl rfl rfl rfl rfl) ?_
   refine RK.c (S.pickF .none rfl (.tmp rfl rfl) .cbool rfl) ?_
   refine RK.nil (Ab.D.code ?_)
   refine OK.condF rfl rfl rfl ?_
   refine OK.skip ?_
   refine Ab.D.blk ?_
   refine Ab.D.code (OK.reg ?_)
   refine RK.c (S.add .none rfl (.tmp rfl rfl) (.cint rfl) (IntWalk.i64_in _ (by omega)) (IntWalk.i64_in _ (by omega))) ?_
   refine RK.c (S.move .none rfl (.tmp rfl rfl)) ?_
   refine RK.nil ?_
   refine Ab.D.lp ⟨i + 1, ⟨by omega, ?_⟩, (by omega), rfl, rfl, rfl, rfl, trivial⟩
   exact nameT (by omega) hg (by simp only [nameC, Bool.or_eq_true, Bool.and_eq_true, decide_eq_true_iff]; omega)
  ·
   refine RK.c (S.move (.yes rfl rfl rfl rfl) rfl (.tmp rfl rfl)) ?_
   refine RK.c (S.conv (.yes rfl rfl rfl rfl) rfl (.tmp rfl rfl) Tryz.underlying5 Tryz.underlying3 (IntWalk.i64_in _ (u8_i64 _)) (IntWalk.i64_in _ (u8_i64 _))) ?_
   refine RK.c (S.call (mon_within) Tryz.call99 (.yes rfl rfl rfl rfl) rfl (.cons (.tmp rfl rfl) (.cons (.cint rfl) (.cons (.cint rfl) .nil))) rfl) ?_
   refine RK.c (S.pickF .none rfl (.tmp rfl rfl) (.tmp rfl rfl) rfl) ?_
   refine RK.c (S.assign .none rfl (.tmp rfl rfl)) ?_
   refine RK.nil (Ab.D.code (OK.seq (OK.reg ?_)))
   refine RK.c (S.move .none rfl (.tmp rfl rfl)) ?_
   refine RK.c (S.notD .none rfl (.tmp rfl rfl)) ?_
   refine RK.c (S.move .none rfl (.tmp rfl rfl)) ?_
   refine RK.splitD (t := 24) rfl (fun g24 => ?_) (fun g24 => ?_)
   ·
    refine RK.c (S.move (.yes rfl rfl rfl rfl) rfl (.tmp rfl rfl)) ?_
    refine RK.c (S.eql (.yes rfl rfl rfl rfl) rfl (.tmp rfl rfl) (.cint rfl)) ?_
    refine RK.c (S.move (.yes rfl rfl rfl rfl) rfl (.tmp rfl rfl)) ?_
    refine RK.splitD (t := 27) rfl (fun g27 => ?_) (fun g27 => ?_)
    ·
     refine RK.c (S.skip rfl rfl rfl rfl rfl) ?_
     refine RK.c (S.skip rfl rfl rfl rfl rfl) ?_
     refine RK.c (S.skip rfl rfl rfl rfl rfl) ?_
     refine RK.c (S.skipU rfl rfl rfl rfl) ?_
     refine RK.c (S.skipU rfl rfl rfl rfl) ?_
     refine RK.c (S.skipU rfl rfl rfl rfl) ?_
     refine RK.c (S.skipU rfl rfl rfl rfl) ?_
     refine RK.c (S.skip rfl rfl rfl rfl rfl) ?_
     refine RK.c (S.pickT (.yes rfl rfl rfl rfl) rfl (.tmp rfl rfl) .cbool rfl) ?_
     refine RK.c (S.pickT .none rfl (.tmp rfl rfl) (.tmp rfl rfl) rfl) ?_
     refine RK.nil (Ab.D.code ?_)
     refine OK.condT rfl rfl rfl ?_
     refine OK.seq (OK.reg ?_)
     refine RK.c (S.assign .none rfl .cbool) ?_
     refine RK.nil (Ab.D.code ?_)
     refine OK.ret (Ret.r1 (.tmp rfl rfl (.c (.same rfl) rfl) rfl) ?_)
     exact nameF (by omega) hg (by simp only [nameC, Bool.or_eq_false_iff, Bool.and_eq_false_iff, decide_eq_false_iff_not]; omega)
    ·
     refine RK.c (S.move (.yes rfl rfl rfl rfl) rfl (.tmp rfl rfl)) ?_
     refine RK.c (S.neq (.yes rfl rfl rfl rfl) rfl (.tmp rfl rfl) (.cint rfl)) ?_
     refine RK.c (S.move (.yes rfl rfl rfl rfl) rfl (.tmp rfl rfl)) ?_
     refine RK.splitD (t := 30) rfl (fun g30 => ?_) (fun g30 => ?_)
     ·
      refine RK.c (S.move (.yes rfl rfl rfl rfl) rfl (.tmp rfl rfl)) ?_
      refine RK.c (S.conv (.yes rfl rfl rfl rfl) rfl (.tmp rfl rfl) Tryz.underlying5 Tryz.underlying3 (IntWalk.i64_in _ (u8_i64 _)) (IntWalk.i64_in _ (u8_i64 _))) ?_
      refine RK.c (S.call (mon_within) Tryz.call99 (.yes rfl rfl rfl rfl) rfl (.cons (.tmp rfl rfl) (.cons (.cint rfl) (.cons (.cint rfl) .nil))) rfl) ?_
      refine RK.c (S.notD (.yes rfl rfl rfl rfl) rfl (.tmp rfl rfl)) ?_
      refine RK.c (S.pickT (.yes rfl rfl rfl rfl) rfl (.tmp rfl rfl) (.tmp rfl rfl) rfl) ?_
      refine RK.c (S.pickF (.yes rfl rfl rfl rfl) rfl (.tmp rfl rfl) (.tmp rfl rfl) rfl) ?_
      refine RK.c (S.pickT .none rfl (.tmp rfl rfl) (.tmp rfl rfl) rfl) ?_
      refine RK.nil (Ab.D.code ?_)
      refine OK.condD rfl rfl (fun c37 => ?_) (fun c37 => ?_)
      ·
       refine OK.seq (OK.reg ?_)
       refine RK.c (S.assign .none rfl .cbool) ?_
       refine RK.nil (Ab.D.code ?_)
       refine OK.ret (Ret.r1 (.tmp rfl rfl (.c (.same rfl) rfl) rfl) ?_)
       exact nameF (by omega) hg (by simp only [nameC, Bool.or_eq_false_iff, Bool.and_eq_false_iff, decide_eq_false_iff_not]; omega)
      ·
       refine OK.skip ?_
       refine Ab.D.blk ?_
       refine Ab.D.code (OK.reg ?_)
       refine RK.c (S.add .none rfl (.tmp rfl rfl) (.cint rfl) (IntWalk.i64_in _ (by omega)) (IntWalk.i64_in _ (by omega))) ?_
       refine RK.c (S.move .none rfl (.tmp rfl rfl)) ?_
       refine RK.nil ?_
       refine Ab.D.lp ⟨i + 1, ⟨by omega, ?_⟩, (by omega), rfl, rfl, rfl, rfl, trivial⟩
       exact nameT (by omega) hg (by simp only [nameC, Bool.or_eq_true, Bool.and_eq_true, decide_eq_true_iff]; omega)
     ·
      refine RK.c (S.skip rfl rfl rfl rfl rfl) ?_
      refine RK.c (S.skip rfl rfl rfl rfl rfl) ?_
      refine RK.c (S.skip rfl rfl rfl rfl rfl) ?_
      refine RK.c (S.skip rfl rfl rfl rfl rfl) ?_
      refine RK.c (S.pickF (.yes rfl rfl rfl rfl) rfl (.tmp rfl rfl) .cbool rfl) ?_
      refine RK.c (S.pickF (.yes rfl rfl rfl rfl) rfl (.tmp rfl rfl) (.tmp rfl rfl) rfl) ?_
      refine RK.c (S.pickT .none rfl (.tmp rfl rfl) (.tmp rfl rfl) rfl) ?_
      refine RK.nil (Ab.D.code ?_)
      refine OK.condF rfl rfl rfl ?_
      refine OK.skip ?_
      refine Ab.D.blk ?_
      refine Ab.D.code (OK.reg ?_)
      refine RK.c (S.add .none rfl (.tmp rfl rfl) (.cint rfl) (IntWalk.i64_in _ (by omega)) (IntWalk.i64_in _ (by omega))) ?_
      refine RK.c (S.move .none rfl (.tmp rfl rfl)) ?_
      refine RK.nil ?_
      refine Ab.D.lp ⟨i + 1, ⟨by omega, ?_⟩, (by omega), rfl, rfl, rfl, rfl, trivial⟩
      exact nameT (by omega) hg (by simp only [nameC, Bool.or_eq_true, Bool.and_eq_true, decide_eq_true_iff]; omega)
   ·
    refine RK.c (S.skip rfl rfl rfl rfl rfl) ?_
    refine RK.c (S.skip rfl rfl rfl rfl rfl) ?_
    refine RK.c (S.skip rfl rfl rfl rfl rfl) ?_
    refine RK.c (S.skipU rfl rfl rfl rfl) ?_
    refine RK.c (S.skipU rfl rfl rfl rfl) ?_
    refine RK.c (S.skipU rfl rfl rfl rfl) ?_
    refine RK.c (S.skipU rfl rfl rfl rfl) ?_
    refine RK.c (S.skipU rfl rfl rfl rfl) ?_
    refine RK.c (S.skipU rfl rfl rfl rfl) ?_
    refine RK.c (S.skipU rfl rfl rfl rfl) ?_
    refine RK.c (S.skipU rfl rfl rfl rfl) ?_
    refine RK.c (S.skip rfl rfl rfl rfl rfl) ?_
    refine RK.c (S.pickF .none rfl (.tmp rfl rfl) .cbool rfl) ?_
    refine RK.nil (Ab.D.code ?_)
    refine OK.condF rfl rfl rfl ?_
    refine OK.skip ?_
    refine Ab.D.blk ?_
    refine Ab.D.code (OK.reg ?_)
    refine RK.c (S.add .none rfl (.tmp rfl rfl) (.cint rfl) (IntWalk.i64_in _ (by omega)) (IntWalk.i64_in _ (by omega))) ?_
    refine RK.c (S.move .none rfl (.tmp rfl rfl)) ?_
    refine RK.nil ?_
    refine Ab.D.lp ⟨i + 1, ⟨by omega, ?_⟩, (by omega), rfl, rfl, rfl, rfl, trivial⟩
    exact nameT (by omega) hg (by simp only [nameC, Bool.or_eq_true, Bool.and_eq_true, decide_eq_true_iff]; omega)
 ·
  refine OK.exit rfl ?_
  refine Ab.D.code (OK.seq (OK.reg ?_))
  refine RK.c (S.move .none rfl (.tmp rfl rfl)) ?_
  refine RK.c (S.slen Tryz.underlying9 .none rfl (.tmp rfl rfl)) ?_
  refine RK.c (S.call (mon_within) Tryz.call99 .none rfl (.cons (.tmp rfl rfl) (.cons (.cint rfl) (.cons (.cint rfl) .nil))) rfl) ?_
  refine RK.c (S.assign .none rfl (.tmp rfl rfl)) ?_
  refine RK.nil (Ab.D.code ?_)
  refine OK.ret (Ret.r1 (.tmp rfl rfl (.c (.same rfl) rfl) rfl) ?_)
  have : i = s.length := by omega
  subst this
  rw [List.drop_length, allGo] at hg
  rw [nameOk, hg, Bool.true_and]
theorem base_IsName {s : List UInt8} : Ct Tryz.prog 125 [.str s] (.bool (nameOk s)) := by
 refine Ct.intro (rs := [.tmp 2]) Tryz.func125 rfl Tryz.ntmps125 Tryz.results125 rfl rfl rfl fun w h => ?_
 refine OK.strLen (t := 0) (z := s) rfl rfl fun hlen => ?_
 unfold maxLen at hlen
 refine OK.seq (OK.reg ?_)
 refine RK.c (S.assign .none rfl .cbool) ?_
 refine RK.nil (Ab.D.code (OK.seq (OK.seq (OK.reg ?_))))
 refine RK.c (S.move .none rfl (.tmp rfl rfl)) ?_
 refine RK.c (S.slen Tryz.underlying9 .none rfl (.tmp rfl rfl)) ?_
 refine RK.c (S.lss .none rfl (.tmp rfl rfl) (.cint rfl)) ?_
 refine RK.c (S.move .none rfl (.tmp rfl rfl)) ?_
 refine RK.splitD (t := 9) rfl (fun g9 => ?_) (fun g9 => ?_)
 ·
  refine RK.c (S.skip rfl rfl rfl rfl rfl) ?_
  refine RK.c (S.skip rfl rfl rfl rfl rfl) ?_
  refine RK.c (S.skip rfl rfl rfl rfl rfl) ?_
  refine RK.c (S.pickT .none rfl (.tmp rfl rfl) .cbool rfl) ?_
  refine RK.nil (Ab.D.code ?_)
  refine OK.condT rfl rfl rfl ?_
  refine OK.seq (OK.reg ?_)
  refine RK.c (S.assign .none rfl .cbool) ?_
  refine RK.nil (Ab.D.code ?_)
  refine OK.ret (Ret.r1 (.tmp rfl rfl (.c (.same rfl) rfl) rfl) ?_)
  first | (exact nameF (by omega) hg (by simp only [nameC, Bool.or_eq_false_iff, Bool.and_eq_false_iff, decide_eq_false_iff_not]; omega)) | (refine ret_b ?_; rw [nameOk]; rw [decide_eq_false (by omega), Bool.and_false])
 ·
  refine RK.c (S.move (.yes rfl rfl rfl rfl) rfl (.tmp rfl rfl)) ?_
  refine RK.c (S.slen Tryz.underlying9 (.yes rfl rfl rfl rfl) rfl (.tmp rfl rfl)) ?_
  refine RK.c (S.gtr (.yes rfl rfl rfl rfl) rfl (.tmp rfl rfl) (.cint rfl)) ?_
  refine RK.c (S.pickF .none rfl (.tmp rfl rfl) (.tmp rfl rfl) rfl) ?_
  refine RK.nil (Ab.D.code ?_)
  refine OK.condD rfl rfl (fun c13 => ?_) (fun c13 => ?_)
  ·
   refine OK.seq (OK.reg ?_)
   refine RK.c (S.assign .none rfl .cbool) ?_
   refine RK.nil (Ab.D.code ?_)
   refine OK.ret (Ret.r1 (.tmp rfl rfl (.c (.same rfl) rfl) rfl) ?_)
   first | (exact nameF (by omega) hg (by simp only [nameC, Bool.or_eq_false_iff, Bool.and_eq_false_iff, decide_eq_false_iff_not]; omega)) | (refine ret_b ?_; rw [nameOk]; rw [decide_eq_false (by omega), Bool.and_false])
  ·
   refine OK.skip ?_
   refine Ab.D.code (OK.seq (OK.seq (OK.reg ?_)))
   refine RK.c (S.assign .none rfl (.cint rfl)) ?_
   refine RK.nil (Ab.D.code ?_)
   refine OK.block ?_
   refine OK.loop (G := Nat) [] (fun i => [(0, .str s), (3, .int .i64 i)]) (fun i => i ≤ s.length ∧ allGo nameC 0 s = allGo nameC i (s.drop i)) (fun i => s.length - i) 0 ⟨Nat.zero_le _, rfl⟩ ⟨rfl, rfl, trivial⟩ (fun _ => rfl) ?_
   rintro i ⟨hi, hg⟩
   refine OK.seq (OK.seq (OK.reg ?_))
   refine RK.c (S.move .none rfl (.tmp rfl rfl)) ?_
   refine RK.c (S.move .none rfl (.tmp rfl rfl)) ?_
   refine RK.c (S.slen Tryz.underlying9 .none rfl (.tmp rfl rfl)) ?_
   refine RK.c (S.lss .none rfl (.tmp rfl rfl) (.tmp rfl rfl)) ?_
   refine RK.nil (Ab.D.code ?_)
   refine OK.condD rfl rfl (fun c17 => ?_) (fun c17 => ?_)
   ·
    have hil : i < s.length := by omega
    refine OK.skip ?_
    refine Ab.D.code ?_
    refine OK.seq ?_
    refine OK.block ?_
    refine OK.seq (OK.reg ?_)
    refine RK.c (S.move .none rfl (.tmp rfl rfl)) ?_
    refine RK.c (S.move .none rfl (.tmp rfl rfl)) ?_
    refine RK.c (S.stridx str9 .none rfl (.tmp rfl rfl) (.tmp rfl rfl) rfl (by omega)) ?_
    refine RK.c (S.assign .none rfl (.tmp rfl rfl)) ?_
    refine RK.nil (Ab.D.code ?_)
    refine OK.join (G := Bool) [] (fun b => [(0, .str s), (3, .int .i64 i), (4, .int .u8 (s[i].toNat : Int)), (5, .bool b)]) (fun b => (b = true) = ((97 ≤ (s[i].toNat : Int) ∧ (s[i].toNat : Int) ≤ 122) ∨ (65 ≤ (s[i].toNat : Int) ∧ (s[i].toNat : Int) ≤ 90))) (fun _ => rfl) ?_ ?_
    ·
     refine OK.reg ?_
     refine RK.c (S.move .none rfl (.tmp rfl rfl)) ?_
     refine RK.c (S.geq .none rfl (.tmp rfl rfl) (.cint rfl)) ?_
     refine RK.c (S.move .none rfl (.tmp rfl rfl)) ?_
     refine RK.splitD (t := 25) rfl (fun g25 => ?_) (fun g25 => ?_)
     ·
      refine RK.c (S.move (.yes rfl rfl rfl rfl) rfl (.tmp rfl rfl)) ?_
      refine RK.c (S.leq (.yes rfl rfl rfl rfl) rfl (.tmp rfl rfl) (.cint rfl)) ?_
      refine RK.c (S.pickT .none rfl (.tmp rfl rfl) (.tmp rfl rfl) rfl) ?_
      refine RK.c (S.move .none rfl (.tmp rfl rfl)) ?_
      refine RK.splitD (t := 29) rfl (fun g29 => ?_) (fun g29 => ?_)
      ·
       refine RK.c (S.skip rfl rfl rfl rfl rfl) ?_
       refine RK.c (S.skip rfl rfl rfl rfl rfl) ?_
       refine RK.c (S.skip rfl rfl rfl rfl rfl) ?_
       refine RK.c (S.skipU rfl rfl rfl rfl) ?_
       refine RK.c (S.skipU rfl rfl rfl rfl) ?_
       refine RK.c (S.skip rfl rfl rfl rfl rfl) ?_
       refine RK.c (S.pickT .none rfl (.tmp rfl rfl) .cbool rfl) ?_
       refine RK.c (S.assign .none rfl (.tmp rfl rfl)) ?_
       refine RK.nil ?_
       refine Ab.D.lp ⟨_, ?_, rfl, rfl, rfl, rfl, trivial⟩
       first | (refine propext ⟨fun _ => ?_, fun _ => rfl⟩; omega; done) | (rw [decide_eq_true_eq]; exact propext ⟨fun h => by omega, fun h => by omega⟩) | (refine propext ⟨fun h => (by cases h), fun h => ?_⟩; exfalso; omega; done)
      ·
       refine RK.c (S.move (.yes rfl rfl rfl rfl) rfl (.tmp rfl rfl)) ?_
       refine RK.c (S.geq (.yes rfl rfl rfl rfl) rfl (.tmp rfl rfl) (.cint rfl)) ?_
       refine RK.c (S.move (.yes rfl rfl rfl rfl) rfl (.tmp rfl rfl)) ?_
       refine RK.splitD (t := 32) rfl (fun g32 => ?_) (fun g32 => ?_)
       ·
        refine RK.c (S.move (.yes rfl rfl rfl rfl) rfl (.tmp rfl rfl)) ?_
        refine RK.c (S.leq (.yes rfl rfl rfl rfl) rfl (.tmp rfl rfl) (.cint rfl)) ?_
        refine RK.c (S.pickT (.yes rfl rfl rfl rfl) rfl (.tmp rfl rfl) (.tmp rfl rfl) rfl) ?_
        refine RK.c (S.pickF .none rfl (.tmp rfl rfl) (.tmp rfl rfl) rfl) ?_
        refine RK.c (S.assign .none rfl (.tmp rfl rfl)) ?_
        refine RK.nil ?_
        refine Ab.D.lp ⟨_, ?_, rfl, rfl, rfl, rfl, trivial⟩
        first | (refine propext ⟨fun _ => ?_, fun _ => rfl⟩; omega; done) | (rw [decide_eq_true_eq]; exact propext ⟨fun h => by omega, fun h => by omega⟩) | (refine propext ⟨fun h => (by cases h), fun h => ?_⟩; exfalso; omega; done)
       ·
        refine RK.c (S.skip rfl rfl rfl rfl rfl) ?_
        refine RK.c (S.skip rfl rfl rfl rfl rfl) ?_
        refine RK.c (S.pickF (.yes rfl rfl rfl rfl) rfl (.tmp rfl rfl) .cbool rfl) ?_
        refine RK.c (S.pickF .none rfl (.tmp rfl rfl) (.tmp rfl rfl) rfl) ?_
        refine RK.c (S.assign .none rfl (.tmp rfl rfl)) ?_
        refine RK.nil ?_
        refine Ab.D.lp ⟨_, ?_, rfl, rfl, rfl, rfl, trivial⟩
        first | (refine propext ⟨fun _ => ?_, fun _ => rfl⟩; omega; done) | (rw [decide_eq_true_eq]; exact propext ⟨fun h => by omega, fun h => by omega⟩) | (refine propext ⟨fun h => (by cases h), fun h => ?_⟩; exfalso; omega; done)
     ·
      refine RK.c (S.skip rfl rfl rfl rfl rfl) ?_
      refine RK.c (S.skip rfl rfl rfl rfl rfl) ?_
      refine RK.c (S.pickF .none rfl (.tmp rfl rfl) .cbool rfl) ?_
      refine RK.c (S.move .none rfl (.tmp rfl rfl)) ?_
      refine RK.c (S.move (.yes rfl rfl rfl rfl) rfl (.tmp rfl rfl)) ?_
      refine RK.c (S.geq (.yes rfl rfl rfl rfl) rfl (.tmp rfl rfl) (.cint rfl)) ?_
      refine RK.c (S.move (.yes rfl rfl rfl rfl) rfl (.tmp rfl rfl)) ?_
      refine RK.splitD (t := 32) rfl (fun g32 => ?_) (fun g32 => ?_)
      ·
       refine RK.c (S.move (.yes rfl rfl rfl rfl) rfl (.tmp rfl rfl)) ?_
       refine RK.c (S.leq (.yes rfl rfl rfl rfl) rfl (.tmp rfl rfl) (.cint rfl)) ?_
       refine RK.c (S.pickT (.yes rfl rfl rfl rfl) rfl (.tmp rfl rfl) (.tmp rfl rfl) rfl) ?_
       refine RK.c (S.pickF .none rfl (.tmp rfl rfl) (.tmp rfl rfl) rfl) ?_
       refine RK.c (S.assign .none rfl (.tmp rfl rfl)) ?_
       refine RK.nil ?_
       refine Ab.D.lp ⟨_, ?_, rfl, rfl, rfl, rfl, trivial⟩
       first | (refine propext ⟨fun _ => ?_, fun _ => rfl⟩; omega; done) | (rw [decide_eq_true_eq]; exact propext ⟨fun h => by omega, fun h => by omega⟩) | (refine propext ⟨fun h => (by cases h), fun h => ?_⟩; exfalso; omega; done)
      ·
       refine RK.c (S.skip rfl rfl rfl rfl rfl) ?_
       refine RK.c (S.skip rfl rfl rfl rfl rfl) ?_
       refine RK.c (S.pickF (.yes rfl rfl rfl rfl) rfl (.tmp rfl rfl) .cbool rfl) ?_
       refine RK.c (S.pickF .none rfl (.tmp rfl rfl) (.tmp rfl rfl) rfl) ?_
       refine RK.c (S.assign .none rfl (.tmp rfl rfl)) ?_
       refine RK.nil ?_
       refine Ab.D.lp ⟨_, ?_, rfl, rfl, rfl, rfl, trivial⟩
       first | (refine propext ⟨fun _ => ?_, fun _ => rfl⟩; omega; done) | (rw [decide_eq_true_eq]; exact propext ⟨fun h => by omega, fun h => by omega⟩) | (refine propext ⟨fun h => (by cases h), fun h => ?_⟩; exfalso; omega; done)
    ·
     rintro b hb
     refine OK.seq (OK.reg ?_)
     refine RK.c (S.move .none rfl (.tmp rfl rfl)) ?_
     refine RK.c (S.not .none rfl (.tmp rfl rfl)) ?_
     refine RK.c (S.move .none rfl (.tmp rfl rfl)) ?_
     refine RK.split (t := 39) rfl (fun g39 => ?_) (fun g39 => ?_)
     ·
      have hnb : ¬ ((97 ≤ (s[i].toNat : Int) ∧ (s[i].toNat : Int) ≤ 122) ∨ (65 ≤ (s[i].toNat : Int) ∧ (s[i].toNat : Int) ≤ 90)) := by
       rw [← hb]; simpa using g39
      refine RK.c (S.move (.yes rfl rfl rfl rfl) rfl (.tmp rfl rfl)) ?_
      refine RK.c (S.eql (.yes rfl rfl rfl rfl) rfl (.tmp rfl rfl) (.cint rfl)) ?_
      refine RK.c (S.move (.yes rfl rfl rfl rfl) rfl (.tmp rfl rfl)) ?_
      refine RK.splitD (t := 42) rfl (fun g42 => ?_) (fun g42 => ?_)
      ·
       refine RK.c (S.skip rfl rfl rfl rfl rfl) ?_
       refine RK.c (S.skip rfl rfl rfl rfl rfl) ?_
       refine RK.c (S.skip rfl rfl rfl rfl rfl) ?_
       refine RK.c (S.skipU rfl rfl rfl rfl) ?_
       refine RK.c (S.skipU rfl rfl rfl rfl) ?_
       refine RK.c (S.skipU rfl rfl rfl rfl) ?_
       refine RK.c (S.skipU rfl rfl rfl rfl) ?_
       refine RK.c (S.skipU rfl rfl rfl rfl) ?_
       refine RK.c (S.skipU rfl rfl rfl rfl) ?_
       refine RK.c (S.skip rfl rfl rfl rfl rfl) ?_
       refine RK.c (S.pickT (.yes rfl rfl rfl rfl) rfl (.tmp rfl rfl) .cbool rfl) ?_
       refine RK.c (S.pickT .none rfl (.tmp rfl rfl) (.tmp rfl rfl) rfl) ?_
       refine RK.nil (Ab.D.code ?_)
       refine OK.condT rfl rfl rfl ?_
       refine OK.seq (OK.reg ?_)
       refine RK.c (S.assign .none rfl .cbool) ?_
       refine RK.nil (Ab.D.code ?_)
       refine OK.ret (Ret.r1 (.tmp rfl rfl (.c (.same rfl) rfl) rfl) ?_)
       first | (exact nameF (by omega) hg (by simp only [nameC, Bool.or_eq_false_iff, Bool.and_eq_false_iff, decide_eq_false_iff_not]; omega)) | (refine ret_b ?_; rw [nameOk]; rw [decide_eq_false (by omega), Bool.and_false])
      ·
       refine RK.c (S.move (.yes rfl rfl rfl rfl) rfl (.tmp rfl rfl)) ?_
       refine RK.c (S.neq (.yes rfl rfl rfl rfl) rfl (.tmp rfl rfl) (.cint rfl)) ?_
       refine RK.c (S.move (.yes rfl rfl rfl rfl) rfl (.tmp rfl rfl)) ?_
       refine RK.splitD (t := 45) rfl (fun g45 => ?_) (fun g45 => ?_)
       ·
        refine RK.c (S.move (.yes rfl rfl rfl rfl) rfl (.tmp rfl rfl)) ?_
        refine RK.c (S.lss (.yes rfl rfl rfl rfl) rfl (.tmp rfl rfl) (.cint rfl)) ?_
        refine RK.c (S.move (.yes rfl rfl rfl rfl) rfl (.tmp rfl rfl)) ?_
        refine RK.splitD (t := 48) rfl (fun g48 => ?_) (fun g48 => ?_)
        ·
         refine RK.c (S.skip rfl rfl rfl rfl rfl) ?_
         refine RK.c (S.skip rfl rfl rfl rfl rfl) ?_
         refine RK.c (S.pickT (.yes rfl rfl rfl rfl) rfl (.tmp rfl rfl) .cbool rfl) ?_
         refine RK.c (S.pickT (.yes rfl rfl rfl rfl) rfl (.tmp rfl rfl) (.tmp rfl rfl) rfl) ?_
         refine RK.c (S.pickF (.yes rfl rfl rfl rfl) rfl (.tmp rfl rfl) (.tmp rfl rfl) rfl) ?_
         refine RK.c (S.pickT .none rfl (.tmp rfl rfl) (.tmp rfl rfl) rfl) ?_
         refine RK.nil (Ab.D.code ?_)
         refine OK.condT rfl rfl rfl ?_
         refine OK.seq (OK.reg ?_)
         refine RK.c (S.assign .none rfl .cbool) ?_
         refine RK.nil (Ab.D.code ?_)
         refine OK.ret (Ret.r1 (.tmp rfl rfl (.c (.same rfl) rfl) rfl) ?_)
         first | (exact nameF (by omega) hg (by simp only [nameC, Bool.or_eq_false_iff, Bool.and_eq_false_iff, decide_eq_false_iff_not]; omega)) | (refine ret_b ?_; rw [nameOk]; rw [decide_eq_false (by omega), Bool.and_false])
        ·
         refine RK.c (S.move (.yes rfl rfl rfl rfl) rfl (.tmp rfl rfl)) ?_
         refine RK.c (S.gtr (.yes rfl rfl rfl rfl) rfl (.tmp rfl rfl) (.cint rfl)) ?_
         refine RK.c (S.pickF (.yes rfl rfl rfl rfl) rfl (.tmp rfl rfl) (.tmp rfl rfl) rfl) ?_
         refine RK.c (S.pickT (.yes rfl rfl rfl rfl) rfl (.tmp rfl rfl) (.tmp rfl rfl) rfl) ?_
         refine RK.c (S.pickF (.yes rfl rfl rfl rfl) rfl (.tmp rfl rfl) (.tmp rfl rfl) rfl) ?_
         refine RK.c (S.pickT .none rfl (.tmp rfl rfl) (.tmp rfl rfl) rfl) ?_
         refine RK.nil (Ab.D.code ?_)
         refine OK.condD rfl rfl (fun c54 => ?_) (fun c54 => ?_)
         ·
          refine OK.seq (OK.reg ?_)
          refine RK.c (S.assign .none rfl .cbool) ?_
          refine RK.nil (Ab.D.code ?_)
          refine OK.ret (Ret.r1 (.tmp rfl rfl (.c (.same rfl) rfl) rfl) ?_)
          first | (exact nameF (by omega) hg (by simp only [nameC, Bool.or_eq_false_iff, Bool.and_eq_false_iff, decide_eq_false_iff_not]; omega)) | (refine ret_b ?_; rw [nameOk]; rw [decide_eq_false (by omega), Bool.and_false])
         ·
          refine OK.skip ?_
          refine Ab.D.blk ?_
          refine Ab.D.code (OK.reg ?_)
          refine RK.c (S.move .none rfl (.tmp rfl rfl)) ?_
          refine RK.c (S.add .none rfl (.tmp rfl rfl) (.cint rfl) (IntWalk.i64_in _ (by omega)) (IntWalk.i64_in _ (by omega))) ?_
          refine RK.c (S.assign .none rfl (.tmp rfl rfl)) ?_
          refine RK.nil ?_
          refine Ab.D.lp ⟨i + 1, ⟨by omega, ?_⟩, (by omega), rfl, rfl, trivial⟩
          exact nameT (by omega) hg (by simp only [nameC, Bool.or_eq_true, Bool.and_eq_true, decide_eq_true_iff]; omega)
       ·
        refine RK.c (S.skip rfl rfl rfl rfl rfl) ?_
        refine RK.c (S.skip rfl rfl rfl rfl rfl) ?_
        refine RK.c (S.skip rfl rfl rfl rfl rfl) ?_
        refine RK.c (S.skipU rfl rfl rfl rfl) ?_
        refine RK.c (S.skipU rfl rfl rfl rfl) ?_
        refine RK.c (S.skip rfl rfl rfl rfl rfl) ?_
        refine RK.c (S.pickF (.yes rfl rfl rfl rfl) rfl (.tmp rfl rfl) .cbool rfl) ?_
        refine RK.c (S.pickF (.yes rfl rfl rfl rfl) rfl (.tmp rfl rfl) (.tmp rfl rfl) rfl) ?_
        refine RK.c (S.pickT .none rfl (.tmp rfl rfl) (.tmp rfl rfl) rfl) ?_
        refine RK.nil (Ab.D.code ?_)
        refine OK.condF rfl rfl rfl ?_
        refine OK.skip ?_
        refine Ab.D.blk ?_
        refine Ab.D.code (OK.reg ?_)
        refine RK.c (S.move .none rfl (.tmp rfl rfl)) ?_
        refine RK.c (S.add .none rfl (.tmp rfl rfl) (.cint rfl) (IntWalk.i64_in _ (by omega)) (IntWalk.i64_in _ (by omega))) ?_
        refine RK.c (S.assign .none rfl (.tmp rfl rfl)) ?_
        refine RK.nil ?_
        refine Ab.D.lp ⟨i + 1, ⟨by omega, ?_⟩, (by omega), rfl, rfl, trivial⟩
        exact nameT (by omega) hg (by simp only [nameC, Bool.or_eq_true, Bool.and_eq_true, decide_eq_true_iff]; omega)
     ·
      have hnb : (97 ≤ (s[i].toNat : Int) ∧ (s[i].toNat : Int) ≤ 122) ∨ (65 ≤ (s[i].toNat : Int) ∧ (s[i].toNat : Int) ≤ 90) := by
       rw [← hb]; simpa using g39
      refine RK.c (S.skip rfl rfl rfl rfl rfl) ?_
      refine RK.c (S.skip rfl rfl rfl rfl rfl) ?_
      refine RK.c (S.skip rfl rfl rfl rfl rfl) ?_
      refine RK.c (S.skipU rfl rfl rfl rfl) ?_
      refine RK.c (S.skipU rfl rfl rfl rfl) ?_
      refine RK.c (S.skipU rfl rfl rfl rfl) ?_
      refine RK.c (S.skipU rfl rfl rfl rfl) ?_
      refine RK.c (S.skipU rfl rfl rfl rfl) ?_
      refine RK.c (S.skipU rfl rfl rfl rfl) ?_
      refine RK.c (S.skipU rfl rfl rfl rfl) ?_
      refine RK.c (S.skipU rfl rfl rfl rfl) ?_
      refine RK.c (S.skipU rfl rfl rfl rfl) ?_
      refine RK.c (S.skipU rfl rfl rfl rfl) ?_
      refine RK.c (S.skip rfl rfl rfl rfl rfl) ?_
      refine RK.c (S.pickF .none rfl (.tmp rfl rfl) .cbool rfl) ?_
      refine RK.nil (Ab.D.code ?_)
      refine OK.condF rfl rfl rfl ?_
      refine OK.skip ?_
      refine Ab.D.blk ?_
      refine Ab.D.code (OK.reg ?_)
      refine RK.c (S.move .none rfl (.tmp rfl rfl)) ?_
      refine RK.c (S.add .none rfl (.tmp rfl rfl) (.cint rfl) (IntWalk.i64_in _ (by omega)) (IntWalk.i64_in _ (by omega))) ?_
      refine RK.c (S.assign .none rfl (.tmp rfl rfl)) ?_
      refine RK.nil ?_
      refine Ab.D.lp ⟨i + 1, ⟨by omega, ?_⟩, (by omega), rfl, rfl, trivial⟩
      exact nameT (by omega) hg (by simp only [nameC, Bool.or_eq_true, Bool.and_eq_true, decide_eq_true_iff]; omega)
   ·
    refine OK.exit rfl ?_
    refine Ab.D.code (OK.seq (OK.reg ?_))
    refine RK.c (S.assign .none rfl .cbool) ?_
    refine RK.nil (Ab.D.code ?_)
    refine OK.ret (Ret.r1 (.tmp rfl rfl (.c (.same rfl) rfl) rfl) ?_)
    have : i = s.length := by omega
    subst this
    rw [List.drop_length, allGo] at hg
    refine ret_b ?_
    rw [nameOk, hg, Bool.true_and, decide_eq_true (by omega)]
theorem base_HasText {l : List (List UInt8)} {s : List UInt8} : Ct Tryz.prog 70 [texts l, .str s] (.bool (hasText l s)) := by
 refine Ct.intro (rs := [.tmp 4]) Tryz.func70 rfl Tryz.ntmps70 Tryz.results70 rfl rfl rfl fun w h => ?_
 refine OK.slLen (rows := l.map (fun s => [.str s])) (t := 0) rfl rfl fun hlen => ?_
 rw [List.length_map] at hlen
 unfold maxLen at hlen
 refine OK.seq (OK.reg ?_)
 refine RK.c (S.assign .none rfl .cbool) ?_
 refine RK.nil (Ab.D.code (OK.seq (OK.seq (OK.reg ?_))))
 refine RK.c (S.assign .none rfl (.cint rfl)) ?_
 refine RK.nil (Ab.D.code ?_)
 refine OK.block ?_
 refine OK.loop (G := Nat) [] (fun i => [(0, texts l), (1, .str s), (5, .int .i64 i)]) (fun i => i ≤ l.length ∧ hasText l s = hasText (l.drop i) s) (fun i => l.length - i) 0 ⟨Nat.zero_le _, rfl⟩ ⟨rfl, rfl, rfl, trivial⟩ (fun _ => rfl) ?_
 rintro i ⟨hi, hg⟩
 refine OK.seq (OK.seq (OK.reg ?_))
 refine RK.c (S.move .none rfl (.tmp rfl rfl)) ?_
 refine RK.c (S.move .none rfl (.tmp rfl rfl)) ?_
 refine RK.c (S.lenM si22 .none rfl (.tmp rfl rfl)) ?_
 refine RK.c (S.lss .none rfl (.tmp rfl rfl) (.tmp rfl rfl)) ?_
 refine RK.nil (Ab.D.code ?_)
 refine OK.condD rfl rfl (fun c9 => ?_) (fun c9 => ?_)
 ·
  refine OK.skip ?_
  refine Ab.D.code ?_
  refine OK.seq ?_
  refine OK.block ?_
  refine OK.seq (OK.reg ?_)
  refine RK.c (S.move .none rfl (.tmp rfl rfl)) ?_
  refine RK.c (S.move .none rfl (.tmp rfl rfl)) ?_
  refine RK.c (S.indexM si22 .none rfl (.tmp rfl rfl) (.tmp rfl rfl) rfl (by omega) rfl) ?_
  refine RK.c (S.load1 ti9 .none rfl (.tmp rfl rfl) rfl) ?_
  refine RK.c (S.move .none rfl (.tmp rfl rfl)) ?_
  refine RK.c (S.seql .none rfl (.tmp rfl rfl) (.tmp rfl rfl)) ?_
  refine RK.nil (Ab.D.code ?_)
  refine OK.condD rfl rfl (fun c17 => ?_) (fun c17 => ?_)
  ·
   refine OK.seq (OK.reg ?_)
   refine RK.c (S.assign .none rfl .cbool) ?_
   refine RK.nil (Ab.D.code ?_)
   refine OK.ret (Ret.r1 (.tmp rfl rfl (.c (.same rfl) rfl) rfl) ?_)
   refine ret_b ?_
   rw [hg, hasText, any_drop _ (by omega), decide_eq_true c17.symm, Bool.true_or]
  ·
   refine OK.skip ?_
   refine Ab.D.blk ?_
   refine Ab.D.code (OK.reg ?_)
   refine RK.c (S.move .none rfl (.tmp rfl rfl)) ?_
   refine RK.c (S.add .none rfl (.tmp rfl rfl) (.cint rfl) (IntWalk.i64_in _ (by omega)) (IntWalk.i64_in _ (by omega))) ?_
   refine RK.c (S.assign .none rfl (.tmp rfl rfl)) ?_
   refine RK.nil ?_
   refine Ab.D.lp ⟨i + 1, ⟨by omega, ?_⟩, (by omega), rfl, rfl, rfl, trivial⟩
   rw [hg, hasText, any_drop _ (by omega), decide_eq_false (fun e => c17 e.symm), Bool.false_or]
   rfl
 ·
  refine OK.exit rfl ?_
  refine Ab.D.code (OK.seq (OK.reg ?_))
  refine RK.c (S.assign .none rfl .cbool) ?_
  refine RK.nil (Ab.D.code ?_)
  refine OK.ret (Ret.r1 (.tmp rfl rfl (.c (.same rfl) rfl) rfl) ?_)
  have : i = l.length := by omega
  subst this
  rw [hg, List.drop_length]
  rfl
theorem mon_chan {p : Plan} {i : Nat} {s : List UInt8} (hi : i ≤ p.channels.length) : Ct Tryz.prog 120 [.int .i64 i, .str s, .eptr p.cs] (.int .i64 (chanErr p.channels i s)) := by
 refine Ct.intro (rs := [.tmp 5]) Tryz.func120 rfl Tryz.ntmps120 Tryz.results120 rfl rfl rfl fun w h => ?_
 refine OK.seq (OK.reg ?_)
 refine RK.c (S.assign .none rfl (.cint rfl)) ?_
 refine RK.nil (Ab.D.code ?_)
 refine OK.seq ?_
 refine OK.regionDraw follows (.c (S.move .none rfl (.tmp rfl rfl))
  (.c (S.call (mon_isName) Tryz.call121 .none rfl (.cons (.tmp rfl rfl) .nil) rfl)
  (.c (S.call (monitor_unless) Tryz.call84 .none rfl (.cons (.tmp rfl rfl) (.cons (.cint rfl) .nil)) rfl)
  (.c (S.field fi24_0 .none rfl (.tmp rfl rfl) rfl)
  (.c (S.load1 ti22 .none rfl (.tmp rfl rfl) rfl)
  (.c (S.move .none rfl (.tmp rfl rfl))
  (.c (S.slice (hi := i) (l' := p.channels.take i) si22 (fun _ => rfl) .none rfl (.tmp rfl rfl) (.inl ⟨rfl, rfl, rfl⟩) (.inr ⟨_, _, rfl, (.tmp rfl rfl), rfl⟩) (Nat.zero_le _) hi rfl)
  (.c (S.move .none rfl (.tmp rfl rfl))
  (.c (S.call (contains_str) Tryz.call62 .none rfl (.cons (.tmp rfl rfl) (.cons (.tmp rfl rfl) .nil)) rfl)
  (.c (S.not .none rfl (.tmp rfl rfl))
  (.c (S.call (monitor_unless) Tryz.call84 .none rfl (.cons (.tmp rfl rfl) (.cons (.cint rfl) .nil)) rfl)
  (.c (S.mkSlice (k := 17) (rows := [[_], [_]]) ai209 .none rfl (.cons (.tmp rfl rfl) (.cons (.tmp rfl rfl) .nil)) rfl rfl rfl rfl rfl rfl rfl)
  (.c (S.callL (monitor_first (l := [_, _])) Tryz.call83 .none rfl (.cons (.tmp rfl rfl) .nil) (.cons (.p (.own rfl rfl) rfl) .nil) rfl)
  (.c (S.assign .none rfl (.tmp rfl rfl))
  .nil)))))))))))))) (by kernel_rfl) ?_
 refine Ab.D.code ?_
 refine OK.ret (Ret.r1 (.tmp rfl rfl (.c (.same rfl) rfl) rfl) ?_)
 refine ret_i ?_
 unfold chanErr hasText
 cases nameOk s <;> cases ((p.channels.take i).any fun x => decide (s = x)) <;> rfl
end Go.Proofs.YtpmglnphhhlbdaaGreatDoor
namespace Go.Proofs.YtpmglnphhhlbdaaGreatDoor
open Go.Ab
theorem firstE2 (a b : Int) : firstE [a, b] = if a ≠ 0 then a else b := by
  simp only [firstE]
  split
  · rfl
  · split
    · rfl
    · omega
theorem firstE3 (a b c : Int) : firstE [a, b, c] = if a ≠ 0 then a else if b ≠ 0 then b else c := by
  simp only [firstE]
  split
  · rfl
  · split
    · rfl
    · split
      · rfl
      · omega
theorem unlessE_of {p : Prop} [Decidable p] {e : Int} (h : p) : unlessE (decide p) e = 0 := by simp [unlessE, h]
theorem unlessE_not {p : Prop} [Decidable p] {e : Int} (h : ¬ p) : unlessE (decide p) e = e := by simp [unlessE, h]
theorem planChk_0 {p : Plan} (h : p.channels.length = 0) : planChk p = (0, 10) := by simp [planChk, h]
theorem planChk_4 {p : Plan} (h : 4 < p.channels.length) : planChk p = (0, 8) := by
  rw [planChk, if_neg (by omega), if_pos h]
theorem planChk_r {p : Plan} (h : ¬ p.channels.length = 0) (h4 : ¬ 4 < p.channels.length) :
    planChk p = if (eachGo (chanErr p.channels) 0 p.channels).2 ≠ 0 then eachGo (chanErr p.channels) 0 p.channels else (0, if 1 ≤ p.ticks ∧ p.ticks ≤ 12 then 0 else 2) := by
  rw [planChk, if_neg h, if_neg h4]
theorem planHead (p : Plan) : firstE [unlessE (decide ((p.channels.length : Int) > 0)) 10, unlessE (decide ((p.channels.length : Int) ≤ 4)) 8] = if p.channels.length = 0 then 10 else if 4 < p.channels.length then 8 else 0 := by
  rw [firstE2]
  by_cases h : p.channels.length = 0
  · rw [unlessE_not (by omega), if_pos h]; rfl
  · by_cases h4 : 4 < p.channels.length
    · rw [unlessE_of (by omega), unlessE_not (by omega), if_neg h, if_pos h4]; rfl
    · rw [unlessE_of (by omega), unlessE_of (by omega), if_neg h, if_neg h4]; rfl
theorem planHead_ne {p : Plan} (c : firstE [unlessE (decide ((p.channels.length : Int) > 0)) 10, unlessE (decide ((p.channels.length : Int) ≤ 4)) 8] ≠ 0) :
    (0, firstE [unlessE (decide ((p.channels.length : Int) > 0)) 10, unlessE (decide ((p.channels.length : Int) ≤ 4)) 8]) = planChk p := by
  rw [planHead] at c ⊢
  by_cases h : p.channels.length = 0
  · rw [if_pos h, planChk_0 h]
  · rw [if_neg h] at c ⊢
    by_cases h4 : 4 < p.channels.length
    · rw [if_pos h4, planChk_4 h4]
    · rw [if_neg h4] at c; exact absurd rfl c
theorem planHead_eq {p : Plan} (c : ¬ firstE [unlessE (decide ((p.channels.length : Int) > 0)) 10, unlessE (decide ((p.channels.length : Int) ≤ 4)) 8] ≠ 0) : ¬ p.channels.length = 0 ∧ ¬ 4 < p.channels.length := by
  rw [planHead] at c
  refine ⟨fun h => c (by rw [if_pos h]; decide), fun h => c (by rw [if_neg (by omega), if_pos h]; decide)⟩
theorem lt_of_get {α : Type} {l : List α} {i : Nat} {x : α} (h : l[i]? = some x) : i ≤ l.length := Nat.le_of_lt (List.getElem?_eq_some_iff.1 h).1
theorem ite_unless {p : Prop} [Decidable p] {e : Int} : unlessE (decide p) e = if p then 0 else e := by simp only [unlessE, decide_eq_true_eq]
def planErr (p : Plan) : Int := (planChk p).2
theorem mon_CheckPlan {p : Plan} : Ct Tryz.prog 64 [.agg p.cs] (pair (planChk p)) := by
 refine Ct.intro (rs := [.tmp 2, .tmp 3]) Tryz.func64 rfl Tryz.ntmps64 Tryz.results64 rfl rfl rfl fun w h => ?_
 refine OK.seq (OK.reg ?_)
 refine RK.c (S.box (k := 1) rfl .none rfl (.tmp rfl rfl) rfl) ?_
 refine RK.c (S.assign .none rfl (.cint rfl)) ?_
 refine RK.c (S.assign .none rfl (.cint rfl)) ?_
 refine RK.nil (Ab.D.code ?_)
 refine OK.seq ?_
 refine OK.seq ?_
 refine OK.regionDraw follows (.c (S.bfield fi24_0 .none rfl (.tmp rfl rfl))
  (.c (S.bload1 ti22 .none rfl (.tmp rfl rfl) rfl rfl rfl rfl)
  (.c (S.lenM si22 .none rfl (.tmp rfl rfl))
  (.c (S.gtr .none rfl (.tmp rfl rfl) (.cint rfl))
  (.c (S.call (monitor_unless) Tryz.call84 .none rfl (.cons (.tmp rfl rfl) (.cons (.cint rfl) .nil)) rfl)
  (.c (S.bfield fi24_0 .none rfl (.tmp rfl rfl))
  (.c (S.bload1 ti22 .none rfl (.tmp rfl rfl) rfl rfl rfl rfl)
  (.c (S.lenM si22 .none rfl (.tmp rfl rfl))
  (.c (S.leq .none rfl (.tmp rfl rfl) (.cint rfl))
  (.c (S.call (monitor_unless) Tryz.call84 .none rfl (.cons (.tmp rfl rfl) (.cons (.cint rfl) .nil)) rfl)
  (.c (S.mkSlice (k := 17) (rows := [[_], [_]]) ai209 .none rfl (.cons (.tmp rfl rfl) (.cons (.tmp rfl rfl) .nil)) rfl rfl rfl rfl rfl rfl rfl)
  (.c (S.callL (monitor_first (l := [_, _])) Tryz.call83 .none rfl (.cons (.tmp rfl rfl) .nil) (.cons (.p (.own rfl rfl) rfl) .nil) rfl)
  (.c (S.assign .none rfl (.tmp rfl rfl))
  .nil))))))))))))) (by kernel_rfl) ?_
 refine Ab.D.code (OK.seq (OK.reg ?_))
 refine RK.c (S.move .none rfl (.tmp rfl rfl)) ?_
 refine RK.c (S.neq .none rfl (.tmp rfl rfl) (.cint rfl)) ?_
 refine RK.nil (Ab.D.code ?_)
 refine OK.condD rfl rfl (fun c20 => ?_) (fun c20 => ?_)
 ·
  refine OK.seq (OK.reg ?_)
  refine RK.c (S.move .none rfl (.tmp rfl rfl)) ?_
  refine RK.c (S.assign .none rfl (.cint rfl)) ?_
  refine RK.c (S.assign .none rfl (.tmp rfl rfl)) ?_
  refine RK.nil (Ab.D.code ?_)
  refine OK.ret (Ret.r2 (.tmp rfl rfl (.c (.same rfl) rfl) rfl) (.tmp rfl rfl (.c (.same rfl) rfl) rfl) ?_)
  exact ret_p (planHead_ne c20)
 ·
  refine OK.skip ?_
  refine Ab.D.code (OK.seq (OK.reg ?_))
  refine RK.c (S.bfield fi24_0 .none rfl (.tmp rfl rfl)) ?_
  refine RK.c (S.bload1 ti22 .none rfl (.tmp rfl rfl) rfl rfl rfl rfl) ?_
  refine RK.c (S.makeFunc1 .none rfl (.tmp rfl rfl) rfl) ?_
  refine RK.c (S.callL (each_List_UInt8 (l := p.channels) (g := chanErr p.channels) (caps := [.eptr p.cs]) (fun i x hx => mon_chan (lt_of_get hx)) Tryz.call120 ⟨rfl, rfl⟩) Tryz.call119 .none rfl (.cons (.tmp rfl rfl) (.cons (.tmp rfl rfl) .nil)) (.cons (.same rfl) (.cons (.fn (.cons (.ptr rfl rfl rfl rfl) .nil)) .nil)) rfl) ?_
  refine RK.c (S.move .none rfl (.tmp rfl rfl)) ?_
  refine RK.c (S.extract .none rfl (.tmp rfl rfl) rfl rfl) ?_
  refine RK.c (S.extract .none rfl (.tmp rfl rfl) rfl rfl) ?_
  refine RK.c (S.assign .none rfl (.tmp rfl rfl)) ?_
  refine RK.c (S.assign .none rfl (.tmp rfl rfl)) ?_
  refine RK.nil (Ab.D.code (OK.seq (OK.seq (OK.reg ?_))))
  refine RK.c (S.move .none rfl (.tmp rfl rfl)) ?_
  refine RK.c (S.neq .none rfl (.tmp rfl rfl) (.cint rfl)) ?_
  refine RK.nil (Ab.D.code ?_)
  refine OK.condD rfl rfl (fun c30 => ?_) (fun c30 => ?_)
  ·
   refine OK.seq (OK.reg ?_)
   refine RK.c (S.move .none rfl (.tmp rfl rfl)) ?_
   refine RK.c (S.move .none rfl (.tmp rfl rfl)) ?_
   refine RK.c (S.assign .none rfl (.tmp rfl rfl)) ?_
   refine RK.c (S.assign .none rfl (.tmp rfl rfl)) ?_
   refine RK.nil (Ab.D.code ?_)
   refine OK.ret (Ret.r2 (.tmp rfl rfl (.c (.same rfl) rfl) rfl) (.tmp rfl rfl (.c (.same rfl) rfl) rfl) ?_)
   obtain ⟨h1, h2⟩ := planHead_eq c20
   refine ret_p ?_
   rw [planChk_r h1 h2, if_pos c30]
  ·
   refine OK.skip ?_
   refine Ab.D.code (OK.seq (OK.reg ?_))
   refine RK.c (S.bfield fi24_1 .none rfl (.tmp rfl rfl)) ?_
   refine RK.c (S.bload1 ti3 .none rfl (.tmp rfl rfl) rfl rfl rfl rfl) ?_
   refine RK.c (S.call (mon_within) Tryz.call99 .none rfl (.cons (.tmp rfl rfl) (.cons (.cint rfl) (.cons (.cint rfl) .nil))) rfl) ?_
   refine RK.c (S.call (monitor_unless) Tryz.call84 .none rfl (.cons (.tmp rfl rfl) (.cons (.cint rfl) .nil)) rfl) ?_
   refine RK.c (S.assign .none rfl (.cint rfl)) ?_
   refine RK.c (S.assign .none rfl (.tmp rfl rfl)) ?_
   refine RK.nil (Ab.D.code ?_)
   refine OK.ret (Ret.r2 (.tmp rfl rfl (.c (.same rfl) rfl) rfl) (.tmp rfl rfl (.c (.same rfl) rfl) rfl) ?_)
   obtain ⟨h1, h2⟩ := planHead_eq c20
   refine ret_p ?_
   rw [planChk_r h1 h2, if_neg c30, ite_unless]
end Go.Proofs.YtpmglnphhhlbdaaGreatDoor
