import Derived.Test.YtpfepjgnojfppaaGreatDoorGs
import Derived.Test.YtpfepjgnojfppaaGreatDoorWb
namespace Go.Proofs.YtpfepjgnojfppaaGreatDoor
open Go.Ab
def allGo {α : Type} (g : Nat → α → Bool) : Nat → List α → Bool
  | _, [] => true
  | i, x :: l => g i x && allGo g (i + 1) l
theorem allGo_drop {α : Type} (g : Nat → α → Bool) {l : List α} {i : Nat} (h : i < l.length) : allGo g i (l.drop i) = (g i l[i] && allGo g (i + 1) (l.drop (i + 1))) := by
  rw [List.drop_eq_getElem_cons h, allGo]
def nameC (i : Nat) (c : UInt8) : Bool :=
  decide (97 ≤ (c.toNat : Int) ∧ (c.toNat : Int) ≤ 122) || decide (65 ≤ (c.toNat : Int) ∧ (c.toNat : Int) ≤ 90) || (decide ((i : Int) ≠ 0) && (decide ((c.toNat : Int) = 45) || decide (48 ≤ (c.toNat : Int) ∧ (c.toNat : Int) ≤ 57)))
def nameOk (s : List UInt8) : Bool := allGo nameC 0 s && decide (1 ≤ (s.length : Int) ∧ (s.length : Int) ≤ 12)
theorem u8_i64 (b : UInt8) : -9223372036854775808 ≤ (b.toNat : Int) ∧ (b.toNat : Int) ≤ 9223372036854775807 := by
  have := UInt8.toNat_lt b
  omega
theorem nameT {s : List UInt8} {i : Nat} (h : i < s.length) (hg : allGo nameC 0 s = allGo nameC i (s.drop i)) (hc : nameC i s[i] = true) : allGo nameC 0 s = allGo nameC (i + 1) (s.drop (i + 1)) := by
  rw [hg, allGo_drop _ h, hc, Bool.true_and]
theorem nameF {s : List UInt8} {i : Nat} (h : i < s.length) (hg : allGo nameC 0 s = allGo nameC i (s.drop i)) (hc : nameC i s[i] = false) : X.bool false = X.bool (nameOk s) := by
  rw [nameOk, hg, allGo_drop _ h, hc, Bool.false_and, Bool.false_and]
def hasText (l : List (List UInt8)) (s : List UInt8) : Bool := l.any fun x => decide (s = x)
def isVal (n : Int) : Bool := decide (-1000000 ≤ n ∧ n ≤ 1000000)
def valuesErr (p : Plan) (l : List Int) : Int := if l.length ≠ p.channels.length then 10 else if l.all isVal = true then 0 else 2
def rowErr (p : Plan) (r : Row) : Int := if r.known = true then valuesErr p r.values else if r.values.length = 0 then 0 else 3
theorem any_drop {α : Type} (g : α → Bool) {l : List α} {i : Nat} (h : i < l.length) : (l.drop i).any g = (g l[i] || (l.drop (i + 1)).any g) := by
  rw [List.drop_eq_getElem_cons h, List.any_cons]
theorem base_IsName {s : List UInt8} : Ct Tryz.prog 67 [.str s] (.bool (nameOk s)) := by
 refine Ct.intro (rs := [.tmp 2]) Tryz.func67 rfl Tryz.ntmps67 Tryz.results67 rfl rfl rfl fun w h => ?_
 refine OK.strLen (t := 0) (z := s) rfl rfl fun hlen => ?_
 unfold maxLen at hlen
 refine OK.seq (OK.reg ?_)
 refine RK.c (S.assign .none rfl .cbool) ?_
 refine RK.nil (Ab.D.code (OK.seq (OK.seq (OK.reg ?_))))
 refine RK.c (S.move .none rfl (.tmp rfl rfl)) ?_
 refine RK.c (S.slen Tryz.underlying9 .none rfl (.tmp rfl rfl)) ?_
 refine RK.c (S.lss .none rfl (.tmp rfl rfl) (.cint rfl)) ?_
 refine RK.c (S.move .none rfl (.tmp rfl rfl)) ?_
 refine RK.splitD (t := 9) rfl (fun g9 => ?_) (fun g9 => ?_)
 ·
  refine RK.c (S.skip rfl rfl rfl rfl rfl) ?_
  refine RK.c (S.skip rfl rfl rfl rfl rfl) ?_
  refine RK.c (S.skip rfl rfl rfl rfl rfl) ?_
  refine RK.c (S.pickT .none rfl (.tmp rfl rfl) .cbool rfl) ?_
  refine RK.nil (Ab.D.code ?_)
  refine OK.condT rfl rfl rfl ?_
  refine OK.seq (OK.reg ?_)
  refine RK.c (S.assign .none rfl .cbool) ?_
  refine RK.nil (Ab.D.code ?_)
  refine OK.ret (Ret.r1 (.tmp rfl rfl (.c (.same rfl) rfl) rfl) ?_)
  first | (exact nameF (by omega) hg (by simp only [nameC, Bool.or_eq_false_iff, Bool.and_eq_false_iff, decide_eq_false_iff_not]; omega)) | (refine ret_b ?_; rw [nameOk]; rw [decide_eq_false (by omega), Bool.and_false])
 ·
  refine RK.c (S.move (.yes rfl rfl rfl rfl) rfl (.tmp rfl rfl)) ?_
  refine RK.c (S.slen Tryz.underlying9 (.yes rfl rfl rfl rfl) rfl (.tmp rfl rfl)) ?_
  refine RK.c (S.gtr (.yes rfl rfl rfl rfl) rfl (.tmp rfl rfl) (.cint rfl)) ?_
  refine RK.c (S.pickF .none rfl (.tmp rfl rfl) (.tmp rfl rfl) rfl) ?_
  refine RK.nil (Ab.D.code ?_)
  refine OK.condD rfl rfl (fun c13 => ?_) (fun c13 => ?_)
  ·
   refine OK.seq (OK.reg ?_)
   refine RK.c (S.assign .none rfl .cbool) ?_
   refine RK.nil (Ab.D.code ?_)
   refine OK.ret (Ret.r1 (.tmp rfl rfl (.c (.same rfl) rfl) rfl) ?_)
   first | (exact nameF (by omega) hg (by simp only [nameC, Bool.or_eq_false_iff, Bool.and_eq_false_iff, decide_eq_false_iff_not]; omega)) | (refine ret_b ?_; rw [nameOk]; rw [decide_eq_false (by omega), Bool.and_false])
  ·
   refine OK.skip ?_
   refine Ab.D.code (OK.seq (OK.seq (OK.reg ?_)))
   refine RK.c (S.assign .none rfl (.cint rfl)) ?_
   refine RK.nil (Ab.D.code ?_)
   refine OK.block ?_
   refine OK.loop (G := Nat) [] (fun i => [(0, .str s), (3, .int .i64 i)]) (fun i => i ≤ s.length ∧ allGo nameC 0 s = allGo nameC i (s.drop i)) (fun i => s.length - i) 0 ⟨Nat.zero_le _, rfl⟩ ⟨rfl, rfl, trivial⟩ (fun _ => rfl) ?_
   rintro i ⟨hi, hg⟩
   refine OK.seq (OK.seq (OK.reg ?_))
   refine RK.c (S.move .none rfl (.tmp rfl rfl)) ?_
   refine RK.c (S.move .none rfl (.tmp rfl rfl)) ?_
   refine RK.c (S.slen Tryz.underlying9 .none rfl (.tmp rfl rfl)) ?_
   refine RK.c (S.lss .none rfl (.tmp rfl rfl) (.tmp rfl rfl)) ?_
   refine RK.nil (Ab.D.code ?_)
   refine OK.condD rfl rfl (fun c17 => ?_) (fun c17 => ?_)
   ·
    have hil : i < s.length := by omega
    refine OK.skip ?_
    refine Ab.D.code ?_
    refine OK.seq ?_
    refine OK.block ?_
    refine OK.seq (OK.reg ?_)
    refine RK.c (S.move .none rfl (.tmp rfl rfl)) ?_
    refine RK.c (S.move .none rfl (.tmp rfl rfl)) ?_
    refine RK.c (S.stridx str9 .none rfl (.tmp rfl rfl) (.tmp rfl rfl) rfl (by omega)) ?_
    refine RK.c (S.assign .none rfl (.tmp rfl rfl)) ?_
    refine RK.nil (Ab.D.code ?_)
    refine OK.join (G := Bool) [] (fun b => [(0, .str s), (3, .int .i64 i), (4, .int .u8 (s[i].toNat : Int)), (5, .bool b)]) (fun b => (b = true) = ((97 ≤ (s[i].toNat : Int) ∧ (s[i].toNat : Int) ≤ 122) ∨ (65 ≤ (s[i].toNat : Int) ∧ (s[i].toNat : Int) ≤ 90))) (fun _ => rfl) ?_ ?_
    ·
     refine OK.reg ?_
     refine RK.c (S.move .none rfl (.tmp rfl rfl)) ?_
     refine RK.c (S.geq .none rfl (.tmp rfl rfl) (.cint rfl)) ?_
     refine RK.c (S.move .none rfl (.tmp rfl rfl)) ?_
     refine RK.splitD (t := 25) rfl (fun g25 => ?_) (fun g25 => ?_)
     ·
      refine RK.c (S.move (.yes rfl rfl rfl rfl) rfl (.tmp rfl rfl)) ?_
      refine RK.c (S.leq (.yes rfl rfl rfl rfl) rfl (.tmp rfl rfl) (.cint rfl)) ?_
      refine RK.c (S.pickT .none rfl (.tmp rfl rfl) (.tmp rfl rfl) rfl) ?_
      refine RK.c (S.move .none rfl (.tmp rfl rfl)) ?_
      refine RK.splitD (t := 29) rfl (fun g29 => ?_) (fun g29 => ?_)
      ·
       refine RK.c (S.skip rfl rfl rfl rfl rfl) ?_
       refine RK.c (S.skip rfl rfl rfl rfl rfl) ?_
       refine RK.c (S.skip rfl rfl rfl rfl rfl) ?_
       refine RK.c (S.skipU rfl rfl rfl rfl) ?_
       refine RK.c (S.skipU rfl rfl rfl rfl) ?_
       refine RK.c (S.skip rfl rfl rfl rfl rfl) ?_
       refine RK.c (S.pickT .none rfl (.tmp rfl rfl) .cbool rfl) ?_
       refine RK.c (S.assign .none rfl (.tmp rfl rfl)) ?_
       refine RK.nil ?_
       refine Ab.D.lp ⟨_, ?_, rfl, rfl, rfl, rfl, trivial⟩
       first | (refine propext ⟨fun _ => ?_, fun _ => rfl⟩; omega; done) | (rw [decide_eq_true_eq]; exact propext ⟨fun h => by omega, fun h => by omega⟩) | (refine propext ⟨fun h => (by cases h), fun h => ?_⟩; exfalso; omega; done)
      ·
       refine RK.c (S.move (.yes rfl rfl rfl rfl) rfl (.tmp rfl rfl)) ?_
       refine RK.c (S.geq (.yes rfl rfl rfl rfl) rfl (.tmp rfl rfl) (.cint rfl)) ?_
       refine RK.c (S.move (.yes rfl rfl rfl rfl) rfl (.tmp rfl rfl)) ?_
       refine RK.splitD (t := 32) rfl (fun g32 => ?_) (fun g32 => ?_)
       ·
        refine RK.c (S.move (.yes rfl rfl rfl rfl) rfl (.tmp rfl rfl)) ?_
        refine RK.c (S.leq (.yes rfl rfl rfl rfl) rfl (.tmp rfl rfl) (.cint rfl)) ?_
        refine RK.c (S.pickT (.yes rfl rfl rfl rfl) rfl (.tmp rfl rfl) (.tmp rfl rfl) rfl) ?_
        refine RK.c (S.pickF .none rfl (.tmp rfl rfl) (.tmp rfl rfl) rfl) ?_
        refine RK.c (S.assign .none rfl (.tmp rfl rfl)) ?_
        refine RK.nil ?_
        refine Ab.D.lp ⟨_, ?_, rfl, rfl, rfl, rfl, trivial⟩
        first | (refine propext ⟨fun _ => ?_, fun _ => rfl⟩; omega; done) | (rw [decide_eq_true_eq]; exact propext ⟨fun h => by omega, fun h => by omega⟩) | (refine propext ⟨fun h => (by cases h), fun h => ?_⟩; exfalso; omega; done)
       ·
        refine RK.c (S.skip rfl rfl rfl rfl rfl) ?_
        refine RK.c (S.skip rfl rfl rfl rfl rfl) ?_
        refine RK.c (S.pickF (.yes rfl rfl rfl rfl) rfl (.tmp rfl rfl) .cbool rfl) ?_
        refine RK.c (S.pickF .none rfl (.tmp rfl rfl) (.tmp rfl rfl) rfl) ?_
        refine RK.c (S.assign .none rfl (.tmp rfl rfl)) ?_
        refine RK.nil ?_
        refine Ab.D.lp ⟨_, ?_, rfl, rfl, rfl, rfl, trivial⟩
        first | (refine propext ⟨fun _ => ?_, fun _ => rfl⟩; omega; done) | (rw [decide_eq_true_eq]; exact propext ⟨fun h => by omega, fun h => by omega⟩) | (refine propext ⟨fun h => (by cases h), fun h => ?_⟩; exfalso; omega; done)
     ·
      refine RK.c (S.skip rfl rfl rfl rfl rfl) ?_
      refine RK.c (S.skip rfl rfl rfl rfl rfl) ?_
      refine RK.c (S.pickF .none rfl (.tmp rfl rfl) .cbool rfl) ?_
      refine RK.c (S.move .none rfl (.tmp rfl rfl)) ?_
      refine RK.c (S.move (.yes rfl rfl rfl rfl) rfl (.tmp rfl rfl)) ?_
      refine RK.c (S.geq (.yes rfl rfl rfl rfl) rfl (.tmp rfl rfl) (.cint rfl)) ?_
      refine RK.c (S.move (.yes rfl rfl rfl rfl) rfl (.tmp rfl rfl)) ?_
      refine RK.splitD (t := 32) rfl (fun g32 => ?_) (fun g32 => ?_)
      ·
       refine RK.c (S.move (.yes rfl rfl rfl rfl) rfl (.tmp rfl rfl)) ?_
       refine RK.c (S.leq (.yes rfl rfl rfl rfl) rfl (.tmp rfl rfl) (.cint rfl)) ?_
       refine RK.c (S.pickT (.yes rfl rfl rfl rfl) rfl (.tmp rfl rfl) (.tmp rfl rfl) rfl) ?_
       refine RK.c (S.pickF .none rfl (.tmp rfl rfl) (.tmp rfl rfl) rfl) ?_
       refine RK.c (S.assign .none rfl (.tmp rfl rfl)) ?_
       refine RK.nil ?_
       refine Ab.D.lp ⟨_, ?_, rfl, rfl, rfl, rfl, trivial⟩
       first | (refine propext ⟨fun _ => ?_, fun _ => rfl⟩; omega; done) | (rw [decide_eq_true_eq]; exact propext ⟨fun h => by omega, fun h => by omega⟩) | (refine propext ⟨fun h => (by cases h), fun h => ?_⟩; exfalso; omega; done)
      ·
       refine RK.c (S.skip rfl rfl rfl rfl rfl) ?_
       refine RK.c (S.skip rfl rfl rfl rfl rfl) ?_
       refine RK.c (S.pickF (.yes rfl rfl rfl rfl) rfl (.tmp rfl rfl) .cbool rfl) ?_
       refine RK.c (S.pickF .none rfl (.tmp rfl rfl) (.tmp rfl rfl) rfl) ?_
       refine RK.c (S.assign .none rfl (.tmp rfl rfl)) ?_
       refine RK.nil ?_
       refine Ab.D.lp ⟨_, ?_, rfl, rfl, rfl, rfl, trivial⟩
       first | (refine propext ⟨fun _ => ?_, fun _ => rfl⟩; omega; done) | (rw [decide_eq_true_eq]; exact propext ⟨fun h => by omega, fun h => by omega⟩) | (refine propext ⟨fun h => (by cases h), fun h => ?_⟩; exfalso; omega; done)
    ·
     rintro b hb
     refine OK.seq (OK.reg ?_)
     refine RK.c (S.move .none rfl (.tmp rfl rfl)) ?_
     refine RK.c (S.not .none rfl (.tmp rfl rfl)) ?_
     refine RK.c (S.move .none rfl (.tmp rfl rfl)) ?_
     refine RK.split (t := 39) rfl (fun g39 => ?_) (fun g39 => ?_)
     ·
      have hnb : ¬ ((97 ≤ (s[i].toNat : Int) ∧ (s[i].toNat : Int) ≤ 122) ∨ (65 ≤ (s[i].toNat : Int) ∧ (s[i].toNat : Int) ≤ 90)) := by
       rw [← hb]; simpa using g39
      refine RK.c (S.move (.yes rfl rfl rfl rfl) rfl (.tmp rfl rfl)) ?_
      refine RK.c (S.eql (.yes rfl rfl rfl rfl) rfl (.tmp rfl rfl) (.cint rfl)) ?_
      refine RK.c (S.move (.yes rfl rfl rfl rfl) rfl (.tmp rfl rfl)) ?_
      refine RK.splitD (t := 42) rfl (fun g42 => ?_) (fun g42 => ?_)
      ·
       refine RK.c (S.skip rfl rfl rfl rfl rfl) ?_
       refine RK.c (S.skip rfl rfl rfl rfl rfl) ?_
       refine RK.c (S.skip rfl rfl rfl rfl rfl) ?_
       refine RK.c (S.skipU rfl rfl rfl rfl) ?_
       refine RK.c (S.skipU rfl rfl rfl rfl) ?_
       refine RK.c (S.skipU rfl rfl rfl rfl) ?_
       refine RK.c (S.skipU rfl rfl rfl rfl) ?_
       refine RK.c (S.skipU rfl rfl rfl rfl) ?_
       refine RK.c (S.skipU rfl rfl rfl rfl) ?_
       refine RK.c (S.skip rfl rfl rfl rfl rfl) ?_
       refine RK.c (S.pickT (.yes rfl rfl rfl rfl) rfl (.tmp rfl rfl) .cbool rfl) ?_
       refine RK.c (S.pickT .none rfl (.tmp rfl rfl) (.tmp rfl rfl) rfl) ?_
       refine RK.nil (Ab.D.code ?_)
       refine OK.condT rfl rfl rfl ?_
       refine OK.seq (OK.reg ?_)
       refine RK.c (S.assign .none rfl .cbool) ?_
       refine RK.nil (Ab.D.code ?_)
       refine OK.ret (Ret.r1 (.tmp rfl rfl (.c (.same rfl) rfl) rfl) ?_)
       first | (exact nameF (by omega) hg (by simp only [nameC, Bool.or_eq_false_iff, Bool.and_eq_false_iff, decide_eq_false_iff_not]; omega)) | (refine ret_b ?_; rw [nameOk]; rw [decide_eq_false (by omega), Bool.and_false])
      ·
       refine RK.c (S.move (.yes rfl rfl rfl rfl) rfl (.tmp rfl rfl)) ?_
       refine RK.c (S.neq (.yes rfl rfl rfl rfl) rfl (.tmp rfl rfl) (.cint rfl)) ?_
       refine RK.c (S.move (.yes rfl rfl rfl rfl) rfl (.tmp rfl rfl)) ?_
       refine RK.splitD (t := 45) rfl (fun g45 => ?_) (fun g45 => ?_)
       ·
        refine RK.c (S.move (.yes rfl rfl rfl rfl) rfl (.tmp rfl rfl)) ?_
        refine RK.c (S.lss (.yes rfl rfl rfl rfl) rfl (.tmp rfl rfl) (.cint rfl)) ?_
        refine RK.c (S.move (.yes rfl rfl rfl rfl) rfl (.tmp rfl rfl)) ?_
        refine RK.splitD (t := 48) rfl (fun g48 => ?_) (fun g48 => ?_)
        ·
         refine RK.c (S.skip rfl rfl rfl rfl rfl) ?_
         refine RK.c (S.skip rfl rfl rfl rfl rfl) ?_
         refine RK.c (S.pickT (.yes rfl rfl rfl rfl) rfl (.tmp rfl rfl) .cbool rfl) ?_
         refine RK.c (S.pickT (.yes rfl rfl rfl rfl) rfl (.tmp rfl rfl) (.tmp rfl rfl) rfl) ?_
         refine RK.c (S.pickF (.yes rfl rfl rfl rfl) rfl (.tmp rfl rfl) (.tmp rfl rfl) rfl) ?_
         refine RK.c (S.pickT .none rfl (.tmp rfl rfl) (.tmp rfl rfl) rfl) ?_
         refine RK.nil (Ab.D.code ?_)
         refine OK.condT rfl rfl rfl ?_
         refine OK.seq (OK.reg ?_)
         refine RK.c (S.assign .none rfl .cbool) ?_
         refine RK.nil (Ab.D.code ?_)
         refine OK.ret (Ret.r1 (.tmp rfl rfl (.c (.same rfl) rfl) rfl) ?_)
         first | (exact nameF (by omega) hg (by simp only [nameC, Bool.or_eq_false_iff, Bool.and_eq_false_iff, decide_eq_false_iff_not]; omega)) | (refine ret_b ?_; rw [nameOk]; rw [decide_eq_false (by omega), Bool.and_false])
        ·
         refine RK.c (S.move (.yes rfl rfl rfl rfl) rfl (.tmp rfl rfl)) ?_
         refine RK.c (S.gtr (.yes rfl rfl rfl rfl) rfl (.tmp rfl rfl) (.cint rfl)) ?_
         refine RK.c (S.pickF (.yes rfl rfl rfl rfl) rfl (.tmp rfl rfl) (.tmp rfl rfl) rfl) ?_
         refine RK.c (S.pickT (.yes rfl rfl rfl rfl) rfl (.tmp rfl rfl) (.tmp rfl rfl) rfl) ?_
         refine RK.c (S.pickF (.yes rfl rfl rfl rfl) rfl (.tmp rfl rfl) (.tmp rfl rfl) rfl) ?_
         refine RK.c (S.pickT .none rfl (.tmp rfl rfl) (.tmp rfl rfl) rfl) ?_
         refine RK.nil (Ab.D.code ?_)
         refine OK.condD rfl rfl (fun c54 => ?_) (fun c54 => ?_)
         ·
          refine OK.seq (OK.reg ?_)
          refine RK.c (S.assign .none rfl .cbool) ?_
          refine RK.nil (Ab.D.code ?_)
          refine OK.ret (Ret.r1 (.tmp rfl rfl (.c (.same rfl) rfl) rfl) ?_)
          first | (exact nameF (by omega) hg (by simp only [nameC, Bool.or_eq_false_iff, Bool.and_eq_false_iff, decide_eq_false_iff_not]; omega)) | (refine ret_b ?_; rw [nameOk]; rw [decide_eq_false (by omega), Bool.and_false])
         ·
          refine OK.skip ?_
          refine Ab.D.blk ?_
          refine Ab.D.code (OK.reg ?_)
          refine RK.c (S.move .none rfl (.tmp rfl rfl)) ?_
          refine RK.c (S.add .none rfl (.tmp rfl rfl) (.cint rfl) (IntWalk.i64_in _ (by omega)) (IntWalk.i64_in _ (by omega))) ?_
          refine RK.c (S.assign .none rfl (.tmp rfl rfl)) ?_
          refine RK.nil ?_
          refine Ab.D.lp ⟨i + 1, ⟨by omega, ?_⟩, (by omega), rfl, rfl, trivial⟩
          exact nameT (by omega) hg (by simp only [nameC, Bool.or_eq_true, Bool.and_eq_true, decide_eq_true_iff]; omega)
       ·
        refine RK.c (S.skip rfl rfl rfl rfl rfl) ?_
        refine RK.c (S.skip rfl rfl rfl rfl rfl) ?_
        refine RK.c (S.skip rfl rfl rfl rfl rfl) ?_
        refine RK.c (S.skipU rfl rfl rfl rfl) ?_
        refine RK.c (S.skipU rfl rfl rfl rfl) ?_
        refine RK.c (S.skip rfl rfl rfl rfl rfl) ?_
        refine RK.c (S.pickF (.yes rfl rfl rfl rfl) rfl (.tmp rfl rfl) .cbool rfl) ?_
        refine RK.c (S.pickF (.yes rfl rfl rfl rfl) rfl (.tmp rfl rfl) (.tmp rfl rfl) rfl) ?_
        refine RK.c (S.pickT .none rfl (.tmp rfl rfl) (.tmp rfl rfl) rfl) ?_
        refine RK.nil (Ab.D.code ?_)
        refine OK.condF rfl rfl rfl ?_
        refine OK.skip ?_
        refine Ab.D.blk ?_
        refine Ab.D.code (OK.reg ?_)
        refine RK.c (S.move .none rfl (.tmp rfl rfl)) ?_
        refine RK.c (S.add .none rfl (.tmp rfl rfl) (.cint rfl) (IntWalk.i64_in _ (by omega)) (IntWalk.i64_in _ (by omega))) ?_
        refine RK.c (S.assign .none rfl (.tmp rfl rfl)) ?_
        refine RK.nil ?_
        refine Ab.D.lp ⟨i + 1, ⟨by omega, ?_⟩, (by omega), rfl, rfl, trivial⟩
        exact nameT (by omega) hg (by simp only [nameC, Bool.or_eq_true, Bool.and_eq_true, decide_eq_true_iff]; omega)
     ·
      have hnb : (97 ≤ (s[i].toNat : Int) ∧ (s[i].toNat : Int) ≤ 122) ∨ (65 ≤ (s[i].toNat : Int) ∧ (s[i].toNat : Int) ≤ 90) := by
       rw [← hb]; simpa using g39
      refine RK.c (S.skip rfl rfl rfl rfl rfl) ?_
      refine RK.c (S.skip rfl rfl rfl rfl rfl) ?_
      refine RK.c (S.skip rfl rfl rfl rfl rfl) ?_
      refine RK.c (S.skipU rfl rfl rfl rfl) ?_
      refine RK.c (S.skipU rfl rfl rfl rfl) ?_
      refine RK.c (S.skipU rfl rfl rfl rfl) ?_
      refine RK.c (S.skipU rfl rfl rfl rfl) ?_
      refine RK.c (S.skipU rfl rfl rfl rfl) ?_
      refine RK.c (S.skipU rfl rfl rfl rfl) ?_
      refine RK.c (S.skipU rfl rfl rfl rfl) ?_
      refine RK.c (S.skipU rfl rfl rfl rfl) ?_
      refine RK.c (S.skipU rfl rfl rfl rfl) ?_
      refine RK.c (S.skipU rfl rfl rfl rfl) ?_
      refine RK.c (S.skip rfl rfl rfl rfl rfl) ?_
      refine RK.c (S.pickF .none rfl (.tmp rfl rfl) .cbool rfl) ?_
      refine RK.nil (Ab.D.code ?_)
      refine OK.condF rfl rfl rfl ?_
      refine OK.skip ?_
      refine Ab.D.blk ?_
      refine Ab.D.code (OK.reg ?_)
      refine RK.c (S.move .none rfl (.tmp rfl rfl)) ?_
      refine RK.c (S.add .none rfl (.tmp rfl rfl) (.cint rfl) (IntWalk.i64_in _ (by omega)) (IntWalk.i64_in _ (by omega))) ?_
      refine RK.c (S.assign .none rfl (.tmp rfl rfl)) ?_
      refine RK.nil ?_
      refine Ab.D.lp ⟨i + 1, ⟨by omega, ?_⟩, (by omega), rfl, rfl, trivial⟩
      exact nameT (by omega) hg (by simp only [nameC, Bool.or_eq_true, Bool.and_eq_true, decide_eq_true_iff]; omega)
   ·
    refine OK.exit rfl ?_
    refine Ab.D.code (OK.seq (OK.reg ?_))
    refine RK.c (S.assign .none rfl .cbool) ?_
    refine RK.nil (Ab.D.code ?_)
    refine OK.ret (Ret.r1 (.tmp rfl rfl (.c (.same rfl) rfl) rfl) ?_)
    have : i = s.length := by omega
    subst this
    rw [List.drop_length, allGo] at hg
    refine ret_b ?_
    rw [nameOk, hg, Bool.true_and, decide_eq_true (by omega)]
theorem base_HasText {l : List (List UInt8)} {s : List UInt8} : Ct Tryz.prog 40 [texts l, .str s] (.bool (hasText l s)) := by
 refine Ct.intro (rs := [.tmp 4]) Tryz.func40 rfl Tryz.ntmps40 Tryz.results40 rfl rfl rfl fun w h => ?_
 refine OK.slLen (rows := l.map (fun s => [.str s])) (t := 0) rfl rfl fun hlen => ?_
 rw [List.length_map] at hlen
 unfold maxLen at hlen
 refine OK.seq (OK.reg ?_)
 refine RK.c (S.assign .none rfl .cbool) ?_
 refine RK.nil (Ab.D.code (OK.seq (OK.seq (OK.reg ?_))))
 refine RK.c (S.assign .none rfl (.cint rfl)) ?_
 refine RK.nil (Ab.D.code ?_)
 refine OK.block ?_
 refine OK.loop (G := Nat) [] (fun i => [(0, texts l), (1, .str s), (5, .int .i64 i)]) (fun i => i ≤ l.length ∧ hasText l s = hasText (l.drop i) s) (fun i => l.length - i) 0 ⟨Nat.zero_le _, rfl⟩ ⟨rfl, rfl, rfl, trivial⟩ (fun _ => rfl) ?_
 rintro i ⟨hi, hg⟩
 refine OK.seq (OK.seq (OK.reg ?_))
 refine RK.c (S.move .none rfl (.tmp rfl rfl)) ?_
 refine RK.c (S.move .none rfl (.tmp rfl rfl)) ?_
 refine RK.c (S.lenM si64 .none rfl (.tmp rfl rfl)) ?_
 refine RK.c (S.lss .none rfl (.tmp rfl rfl) (.tmp rfl rfl)) ?_
 refine RK.nil (Ab.D.code ?_)
 refine OK.condD rfl rfl (fun c9 => ?_) (fun c9 => ?_)
 ·
  refine OK.skip ?_
  refine Ab.D.code ?_
  refine OK.seq ?_
  refine OK.block ?_
  refine OK.seq (OK.reg ?_)
  refine RK.c (S.move .none rfl (.tmp rfl rfl)) ?_
  refine RK.c (S.move .none rfl (.tmp rfl rfl)) ?_
  refine RK.c (S.indexM si64 .none rfl (.tmp rfl rfl) (.tmp rfl rfl) rfl (by omega) rfl) ?_
  refine RK.c (S.load1 ti9 .none rfl (.tmp rfl rfl) rfl) ?_
  refine RK.c (S.move .none rfl (.tmp rfl rfl)) ?_
  refine RK.c (S.seql .none rfl (.tmp rfl rfl) (.tmp rfl rfl)) ?_
  refine RK.nil (Ab.D.code ?_)
  refine OK.condD rfl rfl (fun c17 => ?_) (fun c17 => ?_)
  ·
   refine OK.seq (OK.reg ?_)
   refine RK.c (S.assign .none rfl .cbool) ?_
   refine RK.nil (Ab.D.code ?_)
   refine OK.ret (Ret.r1 (.tmp rfl rfl (.c (.same rfl) rfl) rfl) ?_)
   refine ret_b ?_
   rw [hg, hasText, any_drop _ (by omega), decide_eq_true c17.symm, Bool.true_or]
  ·
   refine OK.skip ?_
   refine Ab.D.blk ?_
   refine Ab.D.code (OK.reg ?_)
   refine RK.c (S.move .none rfl (.tmp rfl rfl)) ?_
   refine RK.c (S.add .none rfl (.tmp rfl rfl) (.cint rfl) (IntWalk.i64_in _ (by omega)) (IntWalk.i64_in _ (by omega))) ?_
   refine RK.c (S.assign .none rfl (.tmp rfl rfl)) ?_
   refine RK.nil ?_
   refine Ab.D.lp ⟨i + 1, ⟨by omega, ?_⟩, (by omega), rfl, rfl, rfl, trivial⟩
   rw [hg, hasText, any_drop _ (by omega), decide_eq_false (fun e => c17 e.symm), Bool.false_or]
   rfl
 ·
  refine OK.exit rfl ?_
  refine Ab.D.code (OK.seq (OK.reg ?_))
  refine RK.c (S.assign .none rfl .cbool) ?_
  refine RK.nil (Ab.D.code ?_)
  refine OK.ret (Ret.r1 (.tmp rfl rfl (.c (.same rfl) rfl) rfl) ?_)
  have : i = l.length := by omega
  subst this
  rw [hg, List.drop_length]
  rfl
end Go.Proofs.YtpfepjgnojfppaaGreatDoor
