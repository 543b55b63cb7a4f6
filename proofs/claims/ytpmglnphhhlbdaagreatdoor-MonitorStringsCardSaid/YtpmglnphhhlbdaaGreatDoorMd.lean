import Derived.Test.YtpmglnphhhlbdaaGreatDoorGs
import Derived.Test.YtpmglnphhhlbdaaGreatDoorTy
import Derived.Test.YtpmglnphhhlbdaaGreatDoorWw
namespace Go.Proofs.YtpmglnphhhlbdaaGreatDoor
open Go.Ab
theorem split_cnt {c : UInt8} {l : List UInt8} : (splitC c l).length ≤ l.length + 1 := by
  rw [split_len]
  have : Lib.countByte l c ≤ l.length := List.count_le_length
  omega
theorem split_0 (c : UInt8) (l : List UInt8) : 0 < (splitC c l).length := List.length_pos_iff.2 (split_ne c l)
def natI (w : List UInt8) : Bool := sgnC w 7 && decide (0 ≤ sgnV w)
theorem numM_F {w : List UInt8} : numM w false 7 = natI w := num_nb (by decide)
theorem natI_v {w : List UInt8} (h : natI w = true) : sgnC w 7 = true ∧ 0 ≤ sgnV w ∧ atoiV w = sgnV w := by
  unfold natI at h
  rw [Bool.and_eq_true, decide_eq_true_eq] at h
  exact ⟨h.1, h.2, numM_v h.1⟩
def parseF (l : List UInt8) : Frame × Int := if natI ((splitC 32 l).getD 0 []) = true then match gath num1 ((splitC 32 l).drop 1) with
  | some vs => (⟨sgnV ((splitC 32 l).getD 0 []), vs⟩, 0)
  | none => (⟨0, []⟩, 7)
  else (⟨0, []⟩, 7)
theorem getD_0 {l : List (List UInt8)} (h : 0 < l.length) : l.getD 0 [] = l[0] := getD_lt h
theorem parseF_F {l : List UInt8} (h : natI ((splitC 32 l)[0]'(split_0 32 l)) = false) : parseF l = (⟨0, []⟩, 7) := by
  unfold parseF
  rw [getD_0 (split_0 32 l), if_neg (by rw [h]; decide)]
theorem parseF_N {l : List UInt8} (h : gath num1 ((splitC 32 l).drop 1) = none) : parseF l = (⟨0, []⟩, 7) := by
  unfold parseF
  rw [h]
  split <;> rfl
theorem parseF_S {l : List UInt8} {vs : List Int} (h : natI ((splitC 32 l)[0]'(split_0 32 l)) = true) (h2 : gath num1 ((splitC 32 l).drop 1) = some vs) : parseF l = (⟨sgnV ((splitC 32 l)[0]'(split_0 32 l)), vs⟩, 0) := by
  unfold parseF
  rw [getD_0 (split_0 32 l), if_pos h, h2]
set_option maxHeartbeats 1000000 in
theorem mon_ParseFrame {l : List UInt8} (hl : l.length ≤ 100000 - 1) : CtT Tryz.prog 19 [.str l] (.tup [.agg (parseF l).1.cs, .int .i64 (parseF l).2]) := by
 refine CtT.intro (rs := [.cell 2 27, .tmp 3]) Tryz.func19 rfl Tryz.ntmps19 Tryz.results19 rfl rfl rfl fun w h hT => ?_
 have hw0 := split_0 32 l
 have hcn := split_cnt (c := 32) (l := l)
 have hwl : ∀ w ∈ splitC 32 l, w.length ≤ 100000 := fun w hw => by have := split_sub w hw; omega
 refine OK.seq (OK.reg ?_)
 refine RK.c (S.alloc (k := 2) ze27 rfl .none rfl) ?_
 refine RK.c (S.assign .none rfl (.cint rfl)) ?_
 refine RK.nil (Ab.D.code (OK.seq (OK.reg ?_)))
 refine RK.c (S.move .none rfl (.tmp rfl rfl)) ?_
 refine RK.c (S.call (str_Split (l := l) (c := 32) (by omega)) Tryz.call60 .none rfl (.cons (.tmp rfl rfl) (.cons (.cstr (l := [32]) rfl (by decide)) .nil)) rfl) ?_
 refine RK.c (S.assign .none rfl (.tmp rfl rfl)) ?_
 refine RK.nil (Ab.D.code (OK.seq (OK.reg ?_)))
 refine RK.c (S.move .none rfl (.tmp rfl rfl)) ?_
 refine RK.c (S.indexM (n := 0) si22 .none rfl (.tmp rfl rfl) (.cint rfl) rfl hw0 rfl) ?_
 refine RK.c (S.load1 ti9 .none rfl (.tmp rfl rfl) rfl) ?_
 refine RK.c (S.callT (mon_number (l := (splitC 32 l)[0]) (b := false) (hwl _ (List.getElem_mem hw0))) hT Tryz.call61 .none rfl (.cons (.tmp rfl rfl) (.cons .cbool .nil)) rfl) ?_
 refine RK.c (S.move .none rfl (.tmp rfl rfl)) ?_
 refine RK.c (S.extract .none rfl (.tmp rfl rfl) rfl rfl) ?_
 refine RK.c (S.extract .none rfl (.tmp rfl rfl) rfl rfl) ?_
 refine RK.c (S.assign .none rfl (.tmp rfl rfl)) ?_
 refine RK.c (S.assign .none rfl (.tmp rfl rfl)) ?_
 refine RK.nil (Ab.D.code (OK.seq (OK.reg ?_)))
 refine RK.c (S.move .none rfl (.tmp rfl rfl)) ?_
 refine RK.c (S.slice (lo := 1) (l' := (splitC 32 l).drop 1) si22 (fun _ => rfl) .none rfl (.tmp rfl rfl) (.inr ⟨_, _, rfl, (.cint rfl), rfl⟩) (.inl ⟨rfl, rfl, rfl⟩) (by omega) (by omega) (by rw [List.take_length])) ?_
 refine RK.c (S.callT (mon_numbers (l := (splitC 32 l).drop 1) (by rw [List.length_drop]; omega) (fun w hw => hwl w (List.mem_of_mem_drop hw))) hT Tryz.call65 .none rfl (.cons (.tmp rfl rfl) .nil) rfl) ?_
 refine RK.c (S.move .none rfl (.tmp rfl rfl)) ?_
 refine RK.c (S.extract .none rfl (.tmp rfl rfl) rfl rfl) ?_
 refine RK.c (S.extract .none rfl (.tmp rfl rfl) rfl rfl) ?_
 refine RK.c (S.assign .none rfl (.tmp rfl rfl)) ?_
 refine RK.c (S.assign .none rfl (.tmp rfl rfl)) ?_
 refine RK.nil (Ab.D.code (OK.seq (OK.seq (OK.reg ?_))))
 refine RK.c (S.move .none rfl (.tmp rfl rfl)) ?_
 refine RK.c (S.not .none rfl (.tmp rfl rfl)) ?_
 refine RK.c (S.move .none rfl (.tmp rfl rfl)) ?_
 refine RK.split (t := 26) rfl (fun g26 => ?_) (fun g26 => ?_)
 ·
  have hn0 : natI (splitC 32 l)[0] = false := by rw [← numM_F]; simpa using g26
  have hpf := parseF_F hn0
  refine RK.c (S.skip rfl rfl rfl rfl rfl) ?_
  refine RK.c (S.skip rfl rfl rfl rfl rfl) ?_
  refine RK.c (S.pickT .none rfl (.tmp rfl rfl) .cbool rfl) ?_
  refine RK.nil (Ab.D.code ?_)
  refine OK.condT rfl rfl rfl ?_
  refine OK.seq (OK.reg ?_)
  refine RK.c (S.build bu27 rfl .none rfl .nil rfl rfl) ?_
  refine RK.c (S.store ti27 .none (.tmp rfl rfl) (.tmp rfl rfl) rfl rfl rfl rfl rfl rfl) ?_
  refine RK.c (S.assign .none rfl (.cint rfl)) ?_
  refine RK.nil (Ab.D.code ?_)
  refine OK.ret (Ret.r2 (.cellN rfl rfl rfl rfl ti27 rfl (.k (.same rfl) (.k .nils .z))) (.tmp rfl rfl (.c (.same rfl) rfl) rfl) ?_)
  rw [hpf]
  all_goals rfl
 ·
  have hn0 : natI (splitC 32 l)[0] = true := by rw [← numM_F]; simpa using g26
  obtain ⟨hv1, hv2, hv3⟩ := natI_v hn0
  refine RK.c (S.move (.yes rfl rfl rfl rfl) rfl (.tmp rfl rfl)) ?_
  refine RK.c (S.not (.yes rfl rfl rfl rfl) rfl (.tmp rfl rfl)) ?_
  refine RK.c (S.pickF .none rfl (.tmp rfl rfl) (.tmp rfl rfl) rfl) ?_
  refine RK.nil (Ab.D.code ?_)
  refine OK.cond rfl rfl (fun c29 => ?_) (fun c29 => ?_)
  ·
   have hgn : gath num1 ((splitC 32 l).drop 1) = none := by simpa using c29
   have hpf := parseF_N hgn
   refine OK.seq (OK.reg ?_)
   refine RK.c (S.build bu27 rfl .none rfl .nil rfl rfl) ?_
   refine RK.c (S.store ti27 .none (.tmp rfl rfl) (.tmp rfl rfl) rfl rfl rfl rfl rfl rfl) ?_
   refine RK.c (S.assign .none rfl (.cint rfl)) ?_
   refine RK.nil (Ab.D.code ?_)
   refine OK.ret (Ret.r2 (.cellN rfl rfl rfl rfl ti27 rfl (.k (.same rfl) (.k .nils .z))) (.tmp rfl rfl (.c (.same rfl) rfl) rfl) ?_)
   rw [hpf]
   all_goals rfl
  ·
   obtain ⟨vs, hgs⟩ : ∃ vs, gath num1 ((splitC 32 l).drop 1) = some vs := Option.isSome_iff_exists.1 (by simpa using c29)
   have hpf := parseF_S hn0 hgs
   rw [hgs, hv3]
   refine OK.skip ?_
   refine Ab.D.code (OK.seq (OK.reg ?_))
   refine RK.c (S.move .none rfl (.tmp rfl rfl)) ?_
   refine RK.c (S.move .none rfl (.tmp rfl rfl)) ?_
   refine RK.c (S.build bu27 rfl .none rfl (.cons (.tmp rfl rfl) (.cons (.tmp rfl rfl) .nil)) rfl rfl) ?_
   refine RK.c (S.store ti27 .none (.tmp rfl rfl) (.tmp rfl rfl) rfl rfl rfl rfl rfl rfl) ?_
   refine RK.c (S.assign .none rfl (.cint rfl)) ?_
   refine RK.nil (Ab.D.code ?_)
   refine OK.ret (Ret.r2 (.cellN rfl rfl rfl rfl ti27 rfl (.k (.same rfl) (.k (.same rfl) .z))) (.tmp rfl rfl (.c (.same rfl) rfl) rfl) ?_)
   rw [hpf]
   all_goals rfl
end Go.Proofs.YtpmglnphhhlbdaaGreatDoor
namespace Go.Proofs.YtpmglnphhhlbdaaGreatDoor
open Go.Ab
theorem ref_num {l : List UInt8} (h : l.length ≤ 100000) : Ct Tryz.prog 124 [.str l, .int .i64 7] (.tup [.int .i64 (if sgnC l 7 = true then sgnV l else 0), .bool (sgnC l 7)]) := by
  have h1 := base_Number (l := l) (d := 7) h (by decide)
  rw [numB_sgn] at h1
  cases hs : sgnC l 7 with
  | true => rw [hs] at h1; exact h1
  | false => rw [hs] at h1; exact h1
def gathI (k : Nat) : Nat → List (List UInt8) → Option (List Int)
  | _, [] => some []
  | i, w :: l => if sgnC w 7 = true ∧ (0 ≤ sgnV w ∨ k ≤ i) then (gathI k (i + 1) l).map (sgnV w :: ·) else none
theorem gathI_on {k : Nat} {L : List (List UInt8)} {i : Nat} {out : List Int} (hg : gathI k 0 L = (gathI k i (L.drop i)).map (out ++ ·)) (hi : i < L.length) (hf : sgnC L[i] 7 = true ∧ (0 ≤ sgnV L[i] ∨ k ≤ i)) : gathI k 0 L = (gathI k (i + 1) (L.drop (i + 1))).map ((out ++ [sgnV L[i]]) ++ ·) := by
  rw [hg, List.drop_eq_getElem_cons hi, gathI, if_pos hf]
  cases gathI k (i + 1) (L.drop (i + 1)) <;> simp
theorem gathI_no {k : Nat} {L : List (List UInt8)} {i : Nat} {out : List Int} (hg : gathI k 0 L = (gathI k i (L.drop i)).map (out ++ ·)) (hi : i < L.length) (hf : ¬ (sgnC L[i] 7 = true ∧ (0 ≤ sgnV L[i] ∨ k ≤ i))) : gathI k 0 L = none := by
  rw [hg, List.drop_eq_getElem_cons hi, gathI, if_neg hf]
  rfl
theorem gathI_end {k : Nat} {L : List (List UInt8)} {i : Nat} {out : List Int} (hg : gathI k 0 L = (gathI k i (L.drop i)).map (out ++ ·)) (hi : i = L.length) : gathI k 0 L = some out := by
  rw [hg, hi, List.drop_length]
  simp [gathI]
theorem gathI_far {k : Nat} : ∀ (l : List (List UInt8)) (i : Nat), k ≤ i → gathI k i l = gath num1 l
  | [], _, _ => rfl
  | w :: l, i, h => by
    rw [gathI, gath]
    cases hs : sgnC w 7 with
    | true => rw [if_pos ⟨rfl, .inr h⟩, num1_T hs, gathI_far l (i + 1) (by omega)]
    | false => rw [if_neg (by simp), num1_F hs]
theorem gathI_1 {l : List (List UInt8)} (h : 0 < l.length) : gathI 1 0 l = if natI l[0] = true then (gath num1 (l.drop 1)).map (sgnV l[0] :: ·) else none := by
  cases l with
  | nil => cases h
  | cons w l =>
    show (if sgnC w 7 = true ∧ (0 ≤ sgnV w ∨ 1 ≤ 0) then (gathI 1 (0 + 1) l).map (sgnV w :: ·) else none) = if natI w = true then (gath num1 l).map (sgnV w :: ·) else none
    rw [gathI_far l 1 (Nat.le_refl _)]
    unfold natI
    by_cases h1 : sgnC w 7 = true ∧ 0 ≤ sgnV w
    · rw [if_pos ⟨h1.1, .inl h1.2⟩, if_pos (by rw [h1.1, decide_eq_true h1.2]; rfl)]
    · rw [if_neg (by rintro ⟨a, b | b⟩; exact h1 ⟨a, b⟩; omega), if_neg (by rw [Bool.and_eq_true, decide_eq_true_eq]; exact h1)]
set_option maxHeartbeats 1000000 in
theorem ref_numbers {l : List (List UInt8)} {k : Nat} (hl : l.length ≤ 100000) (hk : k ≤ 100) (hw : ∀ w ∈ l, w.length ≤ 100000) : Ct Tryz.prog 69 [.sl (l.map fun s => [.str s]), .int .i64 (k : Int)] (.tup [ints ((gathI k 0 l).getD []), .bool (gathI k 0 l).isSome]) := by
 refine Ct.intro (rs := [.tmp 4, .tmp 5]) Tryz.func69 rfl Tryz.ntmps69 Tryz.results69 rfl rfl rfl fun w h => ?_
 refine OK.seq (OK.reg ?_)
 refine RK.c (S.assign .none rfl .cnil) ?_
 refine RK.c (S.assign .none rfl .cbool) ?_
 refine RK.nil (Ab.D.code (OK.seq (OK.reg ?_)))
 refine RK.c (S.nilOwn (k := 6) (sz := 1) .none rfl) ?_
 refine RK.nil (Ab.D.code (OK.seq (OK.seq (OK.reg ?_))))
 refine RK.c (S.assign .none rfl (.cint rfl)) ?_
 refine RK.nil (Ab.D.code ?_)
 refine OK.block ?_
 refine OK.loop2 [6] (fun (i : Nat) (out : List Int) => [(0, .sl (l.map fun s => [.str s])), (1, .int .i64 (k : Int)), (6, .own 6 out.length), (2006, .arr 1 (out.map (fun n => [.int .i64 n]))), (7, .int .i64 i)]) (fun i out => i ≤ l.length ∧ gathI k 0 l = (gathI k i (l.drop i)).map (out ++ ·) ∧ out.length ≤ i) (fun i out => l.length - i) (0) ([]) ⟨Nat.zero_le _, by rw [List.drop_zero]; cases gathI k 0 l <;> simp, Nat.le_refl _⟩ ⟨rfl, rfl, (lk_own (by first | rfl | (simp; done) | (simp; omega))), (lk_arr (by first | rfl | (simp; done) | (simp; omega))), rfl, trivial⟩ (fun _ _ => rfl) ?_
 rintro i out ⟨hi, hg, hol⟩
 refine OK.seq (OK.seq (OK.reg ?_))
 refine RK.c (S.move .none rfl (.tmp rfl rfl)) ?_
 refine RK.c (S.move .none rfl (.tmp rfl rfl)) ?_
 refine RK.c (S.lenM si22 .none rfl (.tmp rfl rfl)) ?_
 refine RK.c (S.lss .none rfl (.tmp rfl rfl) (.tmp rfl rfl)) ?_
 refine RK.nil (Ab.D.code ?_)
 refine OK.condD rfl rfl (fun c13 => ?_) (fun c13 => ?_)
 ·
  have hil : i < l.length := by omega
  have hwl := hw _ (List.getElem_mem hil)
  refine OK.skip ?_
  refine Ab.D.code ?_
  refine OK.seq ?_
  refine OK.block ?_
  refine OK.seq (OK.reg ?_)
  refine RK.c (S.move .none rfl (.tmp rfl rfl)) ?_
  refine RK.c (S.move .none rfl (.tmp rfl rfl)) ?_
  refine RK.c (S.indexM (n := i) si22 .none rfl (.tmp rfl rfl) (.tmp rfl rfl) rfl (by omega) rfl) ?_
  refine RK.c (S.load1 ti9 .none rfl (.tmp rfl rfl) rfl) ?_
  refine RK.c (S.call (ref_num hwl) Tryz.call124 .none rfl (.cons (.tmp rfl rfl) (.cons (.cint rfl) .nil)) rfl) ?_
  refine RK.c (S.move .none rfl (.tmp rfl rfl)) ?_
  refine RK.c (S.extract .none rfl (.tmp rfl rfl) rfl rfl) ?_
  refine RK.c (S.extract .none rfl (.tmp rfl rfl) rfl rfl) ?_
  refine RK.c (S.assign .none rfl (.tmp rfl rfl)) ?_
  refine RK.c (S.assign .none rfl (.tmp rfl rfl)) ?_
  refine RK.nil (Ab.D.code (OK.seq (OK.seq (OK.reg ?_))))
  refine RK.c (S.move .none rfl (.tmp rfl rfl)) ?_
  refine RK.c (S.not .none rfl (.tmp rfl rfl)) ?_
  refine RK.c (S.move .none rfl (.tmp rfl rfl)) ?_
  refine RK.split (t := 26) rfl (fun g26 => ?_) (fun g26 => ?_)
  ·
   have hs0 : sgnC l[i] 7 = false := by simpa using g26
   have hge := gathI_no hg hil (by rw [hs0]; simp)
   refine RK.c (S.skip rfl rfl rfl rfl rfl) ?_
   refine RK.c (S.skip rfl rfl rfl rfl rfl) ?_
   refine RK.c (S.skip rfl rfl rfl rfl rfl) ?_
   refine RK.c (S.skipU rfl rfl rfl rfl) ?_
   refine RK.c (S.skipU rfl rfl rfl rfl) ?_
   refine RK.c (S.skipU rfl rfl rfl rfl) ?_
   refine RK.c (S.skip rfl rfl rfl rfl rfl) ?_
   refine RK.c (S.pickT .none rfl (.tmp rfl rfl) .cbool rfl) ?_
   refine RK.nil (Ab.D.code ?_)
   refine OK.condT rfl rfl rfl ?_
   refine OK.seq (OK.reg ?_)
   refine RK.c (S.assign .none rfl .cnil) ?_
   refine RK.c (S.assign .none rfl .cbool) ?_
   refine RK.nil (Ab.D.code ?_)
   refine OK.ret (Ret.r2 (.tmp rfl rfl (.c (.same rfl) rfl) rfl) (.tmp rfl rfl (.c (.same rfl) rfl) rfl) ?_)
   rw [hge]
   all_goals rfl
  ·
   have hs : sgnC l[i] 7 = true := by simpa using g26
   have hvv : (if sgnC l[i] 7 = true then sgnV l[i] else 0) = sgnV l[i] := if_pos hs
   refine RK.c (S.move (.yes rfl rfl rfl rfl) rfl (.tmp rfl rfl)) ?_
   refine RK.c (S.lss (.yes rfl rfl rfl rfl) rfl (.tmp rfl rfl) (.cint rfl)) ?_
   refine RK.c (S.move (.yes rfl rfl rfl rfl) rfl (.tmp rfl rfl)) ?_
   refine RK.splitD (t := 29) rfl (fun g29 => ?_) (fun g29 => ?_)
   ·
    refine RK.c (S.move (.yes rfl rfl rfl rfl) rfl (.tmp rfl rfl)) ?_
    refine RK.c (S.move (.yes rfl rfl rfl rfl) rfl (.tmp rfl rfl)) ?_
    refine RK.c (S.lss (.yes rfl rfl rfl rfl) rfl (.tmp rfl rfl) (.tmp rfl rfl)) ?_
    refine RK.c (S.pickT (.yes rfl rfl rfl rfl) rfl (.tmp rfl rfl) (.tmp rfl rfl) rfl) ?_
    refine RK.c (S.pickF .none rfl (.tmp rfl rfl) (.tmp rfl rfl) rfl) ?_
    refine RK.nil (Ab.D.code ?_)
    refine OK.condD rfl rfl (fun c34 => ?_) (fun c34 => ?_)
    ·
     have hge := gathI_no hg hil (by rintro ⟨_, b | b⟩ <;> omega)
     refine OK.seq (OK.reg ?_)
     refine RK.c (S.assign .none rfl .cnil) ?_
     refine RK.c (S.assign .none rfl .cbool) ?_
     refine RK.nil (Ab.D.code ?_)
     refine OK.ret (Ret.r2 (.tmp rfl rfl (.c (.same rfl) rfl) rfl) (.tmp rfl rfl (.c (.same rfl) rfl) rfl) ?_)
     rw [hge]
     all_goals rfl
    ·
     have hgo : sgnC l[i] 7 = true ∧ (0 ≤ sgnV l[i] ∨ k ≤ i) := ⟨hs, .inr (by omega)⟩
     refine OK.skip ?_
     refine Ab.D.code (OK.reg ?_)
     refine RK.c (S.move .none rfl (.tmp rfl rfl)) ?_
     refine RK.c (S.move .none rfl (.tmp rfl rfl)) ?_
     refine RK.c (S.mkSlice (k := 37) (rows := [[_]]) ai25 .none rfl (.cons (.tmp rfl rfl) .nil) rfl rfl rfl rfl rfl rfl rfl) ?_
     refine RK.c (S.append ai25 .none rfl (.tmp rfl rfl) rfl (by simp) (.tmp rfl rfl) rfl (by first | rfl | (simp; done) | (simp; omega)) (by omega) (by simp only [maxLen]; omega)) ?_
     refine RK.c (S.assign .none rfl (.tmp rfl rfl)) ?_
     refine RK.nil ?_
     refine Ab.D.blk ?_
     refine Ab.D.code (OK.reg ?_)
     refine RK.c (S.move .none rfl (.tmp rfl rfl)) ?_
     refine RK.c (S.add .none rfl (.tmp rfl rfl) (.cint rfl) (IntWalk.i64_in _ (by omega)) (IntWalk.i64_in _ (by omega))) ?_
     refine RK.c (S.assign .none rfl (.tmp rfl rfl)) ?_
     refine RK.nil ?_
     refine Ab.D.lp ⟨i + 1, out ++ [sgnV l[i]], ⟨by omega, gathI_on hg hil hgo, by simp; omega⟩, (by omega), rfl, rfl, (lk_own (by simp)), (lk_arr (by rw [if_pos hs]; simp)), rfl, trivial⟩
   ·
    have hgo : sgnC l[i] 7 = true ∧ (0 ≤ sgnV l[i] ∨ k ≤ i) := ⟨hs, .inl (by omega)⟩
    refine RK.c (S.skip rfl rfl rfl rfl rfl) ?_
    refine RK.c (S.skip rfl rfl rfl rfl rfl) ?_
    refine RK.c (S.skip rfl rfl rfl rfl rfl) ?_
    refine RK.c (S.pickF (.yes rfl rfl rfl rfl) rfl (.tmp rfl rfl) .cbool rfl) ?_
    refine RK.c (S.pickF .none rfl (.tmp rfl rfl) (.tmp rfl rfl) rfl) ?_
    refine RK.nil (Ab.D.code ?_)
    refine OK.condF rfl rfl rfl ?_
    refine OK.skip ?_
    refine Ab.D.code (OK.reg ?_)
    refine RK.c (S.move .none rfl (.tmp rfl rfl)) ?_
    refine RK.c (S.move .none rfl (.tmp rfl rfl)) ?_
    refine RK.c (S.mkSlice (k := 37) (rows := [[_]]) ai25 .none rfl (.cons (.tmp rfl rfl) .nil) rfl rfl rfl rfl rfl rfl rfl) ?_
    refine RK.c (S.append ai25 .none rfl (.tmp rfl rfl) rfl (by simp) (.tmp rfl rfl) rfl (by first | rfl | (simp; done) | (simp; omega)) (by omega) (by simp only [maxLen]; omega)) ?_
    refine RK.c (S.assign .none rfl (.tmp rfl rfl)) ?_
    refine RK.nil ?_
    refine Ab.D.blk ?_
    refine Ab.D.code (OK.reg ?_)
    refine RK.c (S.move .none rfl (.tmp rfl rfl)) ?_
    refine RK.c (S.add .none rfl (.tmp rfl rfl) (.cint rfl) (IntWalk.i64_in _ (by omega)) (IntWalk.i64_in _ (by omega))) ?_
    refine RK.c (S.assign .none rfl (.tmp rfl rfl)) ?_
    refine RK.nil ?_
    refine Ab.D.lp ⟨i + 1, out ++ [sgnV l[i]], ⟨by omega, gathI_on hg hil hgo, by simp; omega⟩, (by omega), rfl, rfl, (lk_own (by simp)), (lk_arr (by rw [if_pos hs]; simp)), rfl, trivial⟩
 ·
  have hge := gathI_end hg (show i = l.length by omega)
  refine OK.exit rfl ?_
  refine Ab.D.code (OK.seq (OK.reg ?_))
  refine RK.c (S.move .none rfl (.tmp rfl rfl)) ?_
  refine RK.c (S.assign .none rfl (.tmp rfl rfl)) ?_
  refine RK.c (S.assign .none rfl .cbool) ?_
  refine RK.nil (Ab.D.code ?_)
  refine OK.ret (Ret.r2 (.tmp rfl rfl (.c (.own rfl rfl (by first | rfl | (simp; done) | (simp; omega))) rfl) rfl) (.tmp rfl rfl (.c (.same rfl) rfl) rfl) ?_)
  rw [hge]
  all_goals rfl
end Go.Proofs.YtpmglnphhhlbdaaGreatDoor
namespace Go.Proofs.YtpmglnphhhlbdaaGreatDoor
open Go.Ab
theorem parseF_I0 {l : List UInt8} (h : gathI 1 0 (splitC 32 l) = none) : parseF l = (⟨0, []⟩, 7) := by
  rw [gathI_1 (split_0 32 l)] at h
  split at h
  · exact parseF_N (by simpa using h)
  · rename_i h2
    exact parseF_F (by simpa using h2)
theorem parseF_I1 {l : List UInt8} {r : List Int} (h : gathI 1 0 (splitC 32 l) = some r) : ∃ v vs, r = v :: vs ∧ parseF l = (⟨v, vs⟩, 0) := by
  rw [gathI_1 (split_0 32 l)] at h
  split at h
  · rename_i h2
    rw [Option.map_eq_some_iff] at h
    obtain ⟨vs, h3, rfl⟩ := h
    exact ⟨_, vs, rfl, parseF_S h2 h3⟩
  · cases h
theorem ref_ParseFrame {l : List UInt8} (hl : l.length ≤ 100000 - 1) : Ct Tryz.prog 22 [.str l] (.tup [.agg (parseF l).1.cs, .int .i64 (parseF l).2]) := by
 refine Ct.intro (rs := [.cell 2 27, .tmp 3]) Tryz.func22 rfl Tryz.ntmps22 Tryz.results22 rfl rfl rfl fun w h => ?_
 have hw0 := split_0 32 l
 have hcn := split_cnt (c := 32) (l := l)
 have hwl : ∀ w ∈ splitC 32 l, w.length ≤ 100000 := fun w hw => by have := split_sub w hw; omega
 refine OK.seq (OK.reg ?_)
 refine RK.c (S.alloc (k := 2) ze27 rfl .none rfl) ?_
 refine RK.c (S.assign .none rfl (.cint rfl)) ?_
 refine RK.nil (Ab.D.code (OK.seq (OK.reg ?_)))
 refine RK.c (S.move .none rfl (.tmp rfl rfl)) ?_
 refine RK.c (S.call (base_Cut (l := l) (c := 32) (by omega)) Tryz.call68 .none rfl (.cons (.tmp rfl rfl) (.cons (.cint rfl) .nil)) rfl) ?_
 refine RK.c (S.call (ref_numbers (l := splitC 32 l) (k := 1) (by omega) (by decide) hwl) Tryz.call69 .none rfl (.cons (.tmp rfl rfl) (.cons (.cint rfl) .nil)) rfl) ?_
 refine RK.c (S.move .none rfl (.tmp rfl rfl)) ?_
 refine RK.c (S.extract .none rfl (.tmp rfl rfl) rfl rfl) ?_
 refine RK.c (S.extract .none rfl (.tmp rfl rfl) rfl rfl) ?_
 refine RK.c (S.assign .none rfl (.tmp rfl rfl)) ?_
 refine RK.c (S.assign .none rfl (.tmp rfl rfl)) ?_
 refine RK.nil (Ab.D.code (OK.seq (OK.seq (OK.reg ?_))))
 refine RK.c (S.move .none rfl (.tmp rfl rfl)) ?_
 refine RK.c (S.not .none rfl (.tmp rfl rfl)) ?_
 refine RK.nil (Ab.D.code ?_)
 refine OK.cond rfl rfl (fun c13 => ?_) (fun c13 => ?_)
 ·
  have hgn : gathI 1 0 (splitC 32 l) = none := by simpa using c13
  have hpf := parseF_I0 hgn
  refine OK.seq (OK.reg ?_)
  refine RK.c (S.build bu27 rfl .none rfl .nil rfl rfl) ?_
  refine RK.c (S.store ti27 .none (.tmp rfl rfl) (.tmp rfl rfl) rfl rfl rfl rfl rfl rfl) ?_
  refine RK.c (S.assign .none rfl (.cint rfl)) ?_
  refine RK.nil (Ab.D.code ?_)
  refine OK.ret (Ret.r2 (.cellN rfl rfl rfl rfl ti27 rfl (.k (.same rfl) (.k .nils .z))) (.tmp rfl rfl (.c (.same rfl) rfl) rfl) ?_)
  rw [hpf]
  all_goals rfl
 ·
  obtain ⟨r, hgs⟩ : ∃ r, gathI 1 0 (splitC 32 l) = some r := Option.isSome_iff_exists.1 (by simpa using c13)
  obtain ⟨v, vs, rfl, hpf⟩ := parseF_I1 hgs
  rw [hgs]
  refine OK.skip ?_
  refine Ab.D.code ?_
  refine OK.seq ?_
  refine OK.regionDraw follows (.c (S.move .none rfl (.tmp rfl rfl))
   (.c (S.indexM (n := 0) si25 .none rfl (.tmp rfl rfl) (.cint rfl) rfl (by simp) rfl)
   (.c (S.load1 ti3 .none rfl (.tmp rfl rfl) rfl)
   (.c (S.move .none rfl (.tmp rfl rfl))
   (.c (S.slice (lo := 1) (l' := vs) si25 (fun _ => rfl) .none rfl (.tmp rfl rfl) (.inr ⟨_, _, rfl, (.cint rfl), rfl⟩) (.inl ⟨rfl, rfl, rfl⟩) (by simp) (by omega) (by simp))
   (.c (S.build bu27 rfl .none rfl (.cons (.tmp rfl rfl) (.cons (.tmp rfl rfl) .nil)) rfl rfl)
   (.c (S.store ti27 .none (.tmp rfl rfl) (.tmp rfl rfl) rfl rfl rfl rfl rfl rfl)
   (.c (S.assign .none rfl (.cint rfl))
   .nil)))))))) (by kernel_rfl) ?_
  refine Ab.D.code ?_
  refine OK.ret (Ret.r2 (.cellN rfl rfl rfl rfl ti27 rfl (.k (.same rfl) (.k (.same rfl) .z))) (.tmp rfl rfl (.c (.same rfl) rfl) rfl) ?_)
  rw [hpf]
  all_goals rfl
theorem clone_str {l : List (List UInt8)} (hl : l.length ≤ 100000) : Ct Tryz.prog 63 [.sl (l.map fun s => [.str s])] (.sl (l.map fun s => [.str s])) := by
 refine Ct.intro (rs := [.tmp 2]) Tryz.func63 rfl Tryz.ntmps63 Tryz.results63 rfl rfl rfl fun w h => ?_
 refine OK.seq (OK.reg ?_)
 refine RK.c (S.assign .none rfl .cnil) ?_
 refine RK.nil (Ab.D.code (OK.seq (OK.seq (OK.reg ?_))))
 refine RK.c (S.move .none rfl (.tmp rfl rfl)) ?_
 refine RK.slSplit (t := 3) rfl rfl fun bN4 hN4 => ?_
 refine RK.c (S.eqnilB Tryz.underlying22 .none rfl (.tmp rfl rfl)) ?_
 refine RK.nil (Ab.D.code ?_)
 refine OK.cond rfl rfl (fun c4 => ?_) (fun c4 => ?_)
 ·
  refine OK.seq (OK.reg ?_)
  refine RK.c (S.assign .none rfl .cnil) ?_
  refine RK.nil (Ab.D.code ?_)
  refine OK.ret (Ret.r1 (.tmp rfl rfl (.c (.same rfl) rfl) rfl) ?_)
  rw [List.map_eq_nil_iff.1 (hN4 c4)]
  rfl
 ·
  refine OK.skip ?_
  refine Ab.D.code (OK.seq (OK.reg ?_))
  refine RK.c (S.mkSlice (k := 5) (rows := []) ai22 .none rfl .nil rfl rfl rfl rfl rfl rfl rfl) ?_
  refine RK.c (S.move .none rfl (.tmp rfl rfl)) ?_
  refine RK.c (S.appendSl ai22 .none rfl (.tmp rfl rfl) rfl (by first | rfl | (simp; done) | (simp; omega)) (.tmp rfl rfl) (by intro q hq; obtain ⟨x, _, rfl⟩ := List.mem_map.1 hq; rfl) (List.length_map ..) (by omega) (by simp only [maxLen]; omega)) ?_
  refine RK.c (S.assign .none rfl (.tmp rfl rfl)) ?_
  refine RK.nil (Ab.D.code ?_)
  refine OK.ret (Ret.r1 (.tmp rfl rfl (.c (.own rfl rfl (by first | rfl | (simp; done) | (simp; omega))) rfl) rfl) ?_)
  rfl
end Go.Proofs.YtpmglnphhhlbdaaGreatDoor
namespace Go.Proofs.YtpmglnphhhlbdaaGreatDoor
open Go.Ab
def noneP : Plan := ⟨[], 0⟩
def parseP (l : List UInt8) : Plan × Int := if natI ((splitC 32 l).getD 0 []) = true ∧ ((splitC 32 l).any fun w => decide ([] = w)) = false then
    if planErr ⟨(splitC 32 l).drop 1, sgnV ((splitC 32 l).getD 0 [])⟩ ≠ 0 then (noneP, planErr ⟨(splitC 32 l).drop 1, sgnV ((splitC 32 l).getD 0 [])⟩) else (⟨(splitC 32 l).drop 1, sgnV ((splitC 32 l).getD 0 [])⟩, 0)
  else (noneP, 7)
theorem parseP_F {l : List UInt8} (h : natI ((splitC 32 l)[0]'(split_0 32 l)) = false ∨ ((splitC 32 l).any fun w => decide ([] = w)) = true) : parseP l = (noneP, 7) := by
  unfold parseP
  rw [getD_0 (split_0 32 l), if_neg]
  rintro ⟨a, b⟩
  rcases h with h | h
  · rw [a] at h; cases h
  · rw [b] at h; cases h
theorem parseP_T {l : List UInt8} {p : Plan} (hp : p = ⟨(splitC 32 l).drop 1, sgnV ((splitC 32 l)[0]'(split_0 32 l))⟩) (h : natI ((splitC 32 l)[0]'(split_0 32 l)) = true) (h2 : ((splitC 32 l).any fun w => decide ([] = w)) = false) : parseP l = if planErr p ≠ 0 then (noneP, planErr p) else (p, 0) := by
  subst hp
  unfold parseP
  rw [getD_0 (split_0 32 l), if_pos ⟨h, h2⟩]
set_option maxHeartbeats 1000000 in
theorem mon_ParsePlan {l : List UInt8} (hl : l.length ≤ 100000 - 1) : CtT Tryz.prog 18 [.str l] (.tup [.agg (parseP l).1.cs, .int .i64 (parseP l).2]) := by
 refine CtT.intro (rs := [.cell 2 24, .tmp 3]) Tryz.func18 rfl Tryz.ntmps18 Tryz.results18 rfl rfl rfl fun w h hT => ?_
 have hw0 := split_0 32 l
 have hcn := split_cnt (c := 32) (l := l)
 have hwl : ∀ w ∈ splitC 32 l, w.length ≤ 100000 := fun w hw => by have := split_sub w hw; omega
 refine OK.seq (OK.reg ?_)
 refine RK.c (S.alloc (k := 2) ze24 rfl .none rfl) ?_
 refine RK.c (S.assign .none rfl (.cint rfl)) ?_
 refine RK.nil (Ab.D.code (OK.seq (OK.reg ?_)))
 refine RK.c (S.move .none rfl (.tmp rfl rfl)) ?_
 refine RK.c (S.call (str_Split (l := l) (c := 32) (by omega)) Tryz.call60 .none rfl (.cons (.tmp rfl rfl) (.cons (.cstr (l := [32]) rfl (by decide)) .nil)) rfl) ?_
 refine RK.c (S.assign .none rfl (.tmp rfl rfl)) ?_
 refine RK.nil (Ab.D.code (OK.seq (OK.reg ?_)))
 refine RK.c (S.move .none rfl (.tmp rfl rfl)) ?_
 refine RK.c (S.indexM (n := 0) si22 .none rfl (.tmp rfl rfl) (.cint rfl) rfl hw0 rfl) ?_
 refine RK.c (S.load1 ti9 .none rfl (.tmp rfl rfl) rfl) ?_
 refine RK.c (S.callT (mon_number (l := (splitC 32 l)[0]) (b := false) (hwl _ (List.getElem_mem hw0))) hT Tryz.call61 .none rfl (.cons (.tmp rfl rfl) (.cons .cbool .nil)) rfl) ?_
 refine RK.c (S.move .none rfl (.tmp rfl rfl)) ?_
 refine RK.c (S.extract .none rfl (.tmp rfl rfl) rfl rfl) ?_
 refine RK.c (S.extract .none rfl (.tmp rfl rfl) rfl rfl) ?_
 refine RK.c (S.assign .none rfl (.tmp rfl rfl)) ?_
 refine RK.c (S.assign .none rfl (.tmp rfl rfl)) ?_
 refine RK.nil (Ab.D.code (OK.seq (OK.seq (OK.reg ?_))))
 refine RK.c (S.move .none rfl (.tmp rfl rfl)) ?_
 refine RK.c (S.not .none rfl (.tmp rfl rfl)) ?_
 refine RK.c (S.move .none rfl (.tmp rfl rfl)) ?_
 refine RK.split (t := 21) rfl (fun g21 => ?_) (fun g21 => ?_)
 ·
  have hn0 : natI (splitC 32 l)[0] = false := by rw [← numM_F]; simpa using g21
  have hpf := parseP_F (.inl hn0)
  refine RK.c (S.skip rfl rfl rfl rfl rfl) ?_
  refine RK.c (S.skip rfl rfl rfl rfl rfl) ?_
  refine RK.c (S.pickT .none rfl (.tmp rfl rfl) .cbool rfl) ?_
  refine RK.nil (Ab.D.code ?_)
  refine OK.condT rfl rfl rfl ?_
  refine OK.seq (OK.reg ?_)
  refine RK.c (S.build bu24 rfl .none rfl .nil rfl rfl) ?_
  refine RK.c (S.store ti24 .none (.tmp rfl rfl) (.tmp rfl rfl) rfl rfl rfl rfl rfl rfl) ?_
  refine RK.c (S.assign .none rfl (.cint rfl)) ?_
  refine RK.nil (Ab.D.code ?_)
  refine OK.ret (Ret.r2 (.cellN rfl rfl rfl rfl ti24 rfl (.k .nils (.k (.same rfl) .z))) (.tmp rfl rfl (.c (.same rfl) rfl) rfl) ?_)
  rw [hpf]
  all_goals rfl
 ·
  have hn0 : natI (splitC 32 l)[0] = true := by rw [← numM_F]; simpa using g21
  obtain ⟨hv1, hv2, hv3⟩ := natI_v hn0
  refine RK.c (S.move (.yes rfl rfl rfl rfl) rfl (.tmp rfl rfl)) ?_
  refine RK.c (S.call (contains_str (l := splitC 32 l) (v := [])) Tryz.call62 (.yes rfl rfl rfl rfl) rfl (.cons (.tmp rfl rfl) (.cons (.cstr (l := []) rfl (by decide)) .nil)) rfl) ?_
  refine RK.c (S.pickF .none rfl (.tmp rfl rfl) (.tmp rfl rfl) rfl) ?_
  refine RK.nil (Ab.D.code ?_)
  refine OK.cond rfl rfl (fun c24 => ?_) (fun c24 => ?_)
  ·
   have hpf := parseP_F (.inr c24)
   refine OK.seq (OK.reg ?_)
   refine RK.c (S.build bu24 rfl .none rfl .nil rfl rfl) ?_
   refine RK.c (S.store ti24 .none (.tmp rfl rfl) (.tmp rfl rfl) rfl rfl rfl rfl rfl rfl) ?_
   refine RK.c (S.assign .none rfl (.cint rfl)) ?_
   refine RK.nil (Ab.D.code ?_)
   refine OK.ret (Ret.r2 (.cellN rfl rfl rfl rfl ti24 rfl (.k .nils (.k (.same rfl) .z))) (.tmp rfl rfl (.c (.same rfl) rfl) rfl) ?_)
   rw [hpf]
   all_goals rfl
  ·
   have hpt := parseP_T rfl hn0 c24
   rw [hv3]
   refine OK.skip ?_
   refine Ab.D.code (OK.seq (OK.reg ?_))
   refine RK.c (S.move .none rfl (.tmp rfl rfl)) ?_
   refine RK.c (S.slice (lo := 1) (l' := (splitC 32 l).drop 1) si22 (fun _ => rfl) .none rfl (.tmp rfl rfl) (.inr ⟨_, _, rfl, (.cint rfl), rfl⟩) (.inl ⟨rfl, rfl, rfl⟩) (by omega) (by omega) (by rw [List.take_length])) ?_
   refine RK.c (S.call (clone_str (l := (splitC 32 l).drop 1) (by rw [List.length_drop]; omega)) Tryz.call63 .none rfl (.cons (.tmp rfl rfl) .nil) rfl) ?_
   refine RK.c (S.move .none rfl (.tmp rfl rfl)) ?_
   refine RK.c (S.build bu24 rfl .none rfl (.cons (.tmp rfl rfl) (.cons (.tmp rfl rfl) .nil)) rfl rfl) ?_
   refine RK.c (S.alloc (k := 7) ze24 rfl .none rfl) ?_
   refine RK.c (S.store ti24 .none (.tmp rfl rfl) (.tmp rfl rfl) rfl rfl rfl rfl rfl rfl) ?_
   refine RK.nil (Ab.D.code (OK.seq (OK.seq (OK.reg ?_))))
   refine RK.c (S.bloadN ti24 .none rfl (.tmp rfl rfl) rfl rfl rfl rfl) ?_
   refine RK.c (S.call (mon_CheckPlan (p := (⟨(splitC 32 l).drop 1, sgnV (splitC 32 l)[0]⟩ : Plan))) Tryz.call64 .none rfl (.cons (.tmp rfl rfl) .nil) rfl) ?_
   refine RK.c (S.move .none rfl (.tmp rfl rfl)) ?_
   refine RK.c (S.extract .none rfl (.tmp rfl rfl) rfl rfl) ?_
   refine RK.c (S.extract .none rfl (.tmp rfl rfl) rfl rfl) ?_
   refine RK.c (S.assign .none rfl (.tmp rfl rfl)) ?_
   refine RK.c (S.assign .none rfl (.tmp rfl rfl)) ?_
   refine RK.nil (Ab.D.code (OK.seq (OK.reg ?_)))
   refine RK.c (S.move .none rfl (.tmp rfl rfl)) ?_
   refine RK.c (S.neq .none rfl (.tmp rfl rfl) (.cint rfl)) ?_
   refine RK.nil (Ab.D.code ?_)
   refine OK.condD rfl rfl (fun c37 => ?_) (fun c37 => ?_)
   ·
    have hpf : parseP l = (noneP, planErr (⟨(splitC 32 l).drop 1, sgnV (splitC 32 l)[0]⟩ : Plan)) := by rw [hpt]; exact if_pos c37
    refine OK.seq (OK.reg ?_)
    refine RK.c (S.build bu24 rfl .none rfl .nil rfl rfl) ?_
    refine RK.c (S.move .none rfl (.tmp rfl rfl)) ?_
    refine RK.c (S.store ti24 .none (.tmp rfl rfl) (.tmp rfl rfl) rfl rfl rfl rfl rfl rfl) ?_
    refine RK.c (S.assign .none rfl (.tmp rfl rfl)) ?_
    refine RK.nil (Ab.D.code ?_)
    refine OK.ret (Ret.r2 (.cellN rfl rfl rfl rfl ti24 rfl (.k .nils (.k (.same rfl) .z))) (.tmp rfl rfl (.c (.same rfl) rfl) rfl) ?_)
    rw [hpf]
    all_goals rfl
   ·
    have hpf : parseP l = ((⟨(splitC 32 l).drop 1, sgnV (splitC 32 l)[0]⟩ : Plan), 0) := by rw [hpt]; exact if_neg c37
    refine OK.skip ?_
    refine Ab.D.code (OK.seq (OK.reg ?_))
    refine RK.c (S.bloadN ti24 .none rfl (.tmp rfl rfl) rfl rfl rfl rfl) ?_
    refine RK.c (S.store ti24 .none (.tmp rfl rfl) (.tmp rfl rfl) rfl rfl rfl rfl rfl rfl) ?_
    refine RK.c (S.assign .none rfl (.cint rfl)) ?_
    refine RK.nil (Ab.D.code ?_)
    refine OK.ret (Ret.r2 (.cellN rfl rfl rfl rfl ti24 rfl (.k (.same rfl) (.k (.same rfl) .z))) (.tmp rfl rfl (.c (.same rfl) rfl) rfl) ?_)
    rw [hpf]
    all_goals rfl
end Go.Proofs.YtpmglnphhhlbdaaGreatDoor
namespace Go.Proofs.YtpmglnphhhlbdaaGreatDoor
open Go.Ab
theorem gathI_w {w : List UInt8} : gathI 1 0 [w] = if natI w = true then some [sgnV w] else none := by
  have h := gathI_1 (l := [w]) (by simp)
  rw [h]
  rfl
theorem take_1 {l : List (List UInt8)} (h : 0 < l.length) : l.take 1 = [l[0]] := by
  cases l with
  | nil => cases h
  | cons x r => rfl
set_option maxHeartbeats 1000000 in
theorem ref_ParsePlan {l : List UInt8} (hl : l.length ≤ 100000 - 1) : Ct Tryz.prog 21 [.str l] (.tup [.agg (parseP l).1.cs, .int .i64 (parseP l).2]) := by
 refine Ct.intro (rs := [.cell 2 24, .tmp 3]) Tryz.func21 rfl Tryz.ntmps21 Tryz.results21 rfl rfl rfl fun w h => ?_
 have hw0 := split_0 32 l
 have hcn := split_cnt (c := 32) (l := l)
 have hwl : ∀ w ∈ splitC 32 l, w.length ≤ 100000 := fun w hw => by have := split_sub w hw; omega
 have hgw := gathI_w (w := (splitC 32 l)[0])
 have hdl : ((splitC 32 l).drop 1).length ≤ 100000 := by rw [List.length_drop]; omega
 refine OK.seq (OK.reg ?_)
 refine RK.c (S.alloc (k := 2) ze24 rfl .none rfl) ?_
 refine RK.c (S.assign .none rfl (.cint rfl)) ?_
 refine RK.nil (Ab.D.code (OK.seq (OK.reg ?_)))
 refine RK.c (S.build bu24 rfl .none rfl .nil rfl rfl) ?_
 refine RK.c (S.alloc (k := 4) ze24 rfl .none rfl) ?_
 refine RK.c (S.store ti24 .none (.tmp rfl rfl) (.tmp rfl rfl) rfl rfl rfl rfl rfl rfl) ?_
 refine RK.nil (Ab.D.code (OK.seq (OK.reg ?_)))
 refine RK.c (S.move .none rfl (.tmp rfl rfl)) ?_
 refine RK.c (S.call (base_Cut (l := l) (c := 32) (by omega)) Tryz.call68 .none rfl (.cons (.tmp rfl rfl) (.cons (.cint rfl) .nil)) rfl) ?_
 refine RK.c (S.assign .none rfl (.tmp rfl rfl)) ?_
 refine RK.nil (Ab.D.code (OK.seq (OK.reg ?_)))
 refine RK.c (S.move .none rfl (.tmp rfl rfl)) ?_
 refine RK.c (S.slice (hi := 1) (l' := [(splitC 32 l)[0]]) si22 (fun _ => rfl) .none rfl (.tmp rfl rfl) (.inl ⟨rfl, rfl, rfl⟩) (.inr ⟨_, _, rfl, (.cint rfl), rfl⟩) (by omega) (by omega) (by rw [List.drop_zero, take_1 hw0])) ?_
 refine RK.c (S.call (ref_numbers (l := [(splitC 32 l)[0]]) (k := 1) (by simp) (by decide) (fun w hw => by rw [List.mem_singleton.1 hw]; exact hwl _ (List.getElem_mem hw0))) Tryz.call69 .none rfl (.cons (.tmp rfl rfl) (.cons (.cint rfl) .nil)) rfl) ?_
 refine RK.c (S.move .none rfl (.tmp rfl rfl)) ?_
 refine RK.c (S.extract .none rfl (.tmp rfl rfl) rfl rfl) ?_
 refine RK.c (S.extract .none rfl (.tmp rfl rfl) rfl rfl) ?_
 refine RK.c (S.assign .none rfl (.tmp rfl rfl)) ?_
 refine RK.c (S.assign .none rfl (.tmp rfl rfl)) ?_
 refine RK.nil (Ab.D.code (OK.seq (OK.seq (OK.reg ?_))))
 refine RK.c (S.move .none rfl (.tmp rfl rfl)) ?_
 refine RK.c (S.not .none rfl (.tmp rfl rfl)) ?_
 refine RK.c (S.move .none rfl (.tmp rfl rfl)) ?_
 refine RK.split (t := 21) rfl (fun g21 => ?_) (fun g21 => ?_)
 ·
  have hn0 : natI (splitC 32 l)[0] = false := by
   cases hb : natI (splitC 32 l)[0] with
   | false => rfl
   | true => rw [hgw, if_pos hb] at g21; cases g21
  have hpf := parseP_F (.inl hn0)
  refine RK.c (S.skip rfl rfl rfl rfl rfl) ?_
  refine RK.c (S.skip rfl rfl rfl rfl rfl) ?_
  refine RK.c (S.pickT .none rfl (.tmp rfl rfl) .cbool rfl) ?_
  refine RK.nil (Ab.D.code ?_)
  refine OK.condT rfl rfl rfl ?_
  refine OK.seq (OK.reg ?_)
  refine RK.c (S.bloadN ti24 .none rfl (.tmp rfl rfl) rfl rfl rfl rfl) ?_
  refine RK.c (S.store ti24 .none (.tmp rfl rfl) (.tmp rfl rfl) rfl rfl rfl rfl rfl rfl) ?_
  refine RK.c (S.assign .none rfl (.cint rfl)) ?_
  refine RK.nil (Ab.D.code ?_)
  refine OK.ret (Ret.r2 (.cellN rfl rfl rfl rfl ti24 rfl (.k .nils (.k (.same rfl) .z))) (.tmp rfl rfl (.c (.same rfl) rfl) rfl) ?_)
  rw [hpf]
  all_goals rfl
 ·
  have hn0 : natI (splitC 32 l)[0] = true := by
   cases hb : natI (splitC 32 l)[0] with
   | true => rfl
   | false => rw [hgw, hb] at g21; cases g21
  rw [if_pos hn0] at hgw
  refine RK.c (S.move (.yes rfl rfl rfl rfl) rfl (.tmp rfl rfl)) ?_
  refine RK.c (S.call (base_HasText (l := splitC 32 l) (s := [])) Tryz.call70 (.yes rfl rfl rfl rfl) rfl (.cons (.tmp rfl rfl) (.cons (.cstr (l := []) rfl (by decide)) .nil)) rfl) ?_
  refine RK.c (S.pickF .none rfl (.tmp rfl rfl) (.tmp rfl rfl) rfl) ?_
  refine RK.nil (Ab.D.code ?_)
  refine OK.cond rfl rfl (fun c24 => ?_) (fun c24 => ?_)
  ·
   have hpf := parseP_F (.inr c24)
   refine OK.seq (OK.reg ?_)
   refine RK.c (S.bloadN ti24 .none rfl (.tmp rfl rfl) rfl rfl rfl rfl) ?_
   refine RK.c (S.store ti24 .none (.tmp rfl rfl) (.tmp rfl rfl) rfl rfl rfl rfl rfl rfl) ?_
   refine RK.c (S.assign .none rfl (.cint rfl)) ?_
   refine RK.nil (Ab.D.code ?_)
   refine OK.ret (Ret.r2 (.cellN rfl rfl rfl rfl ti24 rfl (.k .nils (.k (.same rfl) .z))) (.tmp rfl rfl (.c (.same rfl) rfl) rfl) ?_)
   rw [hpf]
   all_goals rfl
  ·
   have hpt := parseP_T rfl hn0 c24
   rw [hgw]
   refine OK.skip ?_
   refine Ab.D.code ?_
   refine OK.seq ?_
   refine OK.regionDraw follows (.c (S.move .none rfl (.tmp rfl rfl))
    (.c (S.indexM (n := 0) si25 .none rfl (.tmp rfl rfl) (.cint rfl) rfl (by simp) rfl)
    (.c (S.load1 ti3 .none rfl (.tmp rfl rfl) rfl)
    (.c (S.mkSlice (k := 29) (rows := []) ai22 .none rfl .nil rfl rfl rfl rfl rfl rfl rfl)
    (.c (S.move .none rfl (.tmp rfl rfl))
    (.c (S.slice (lo := 1) (l' := (splitC 32 l).drop 1) si22 (fun _ => rfl) .none rfl (.tmp rfl rfl) (.inr ⟨_, _, rfl, (.cint rfl), rfl⟩) (.inl ⟨rfl, rfl, rfl⟩) (by omega) (by omega) (by rw [List.take_length]))
    (.c (S.frz (rows' := ((splitC 32 l).drop 1).map (fun s => [.str s])) (S.appendSl ai22 .none rfl (.tmp rfl rfl) rfl (by first | rfl | (simp; done) | (simp; omega)) (.tmp rfl rfl) (by intro q hq; obtain ⟨x, _, rfl⟩ := List.mem_map.1 hq; rfl) (List.length_map ..) (by omega) (by simp only [maxLen]; omega)) (by simp) (by simp) rfl rfl)
    (.c (S.build bu24 rfl .none rfl (.cons (.tmp rfl rfl) (.cons (.tmp rfl rfl) .nil)) rfl rfl)
    (.c (S.alloc (k := 8) ze24 rfl .none rfl)
    (.c (S.store ti24 .none (.tmp rfl rfl) (.tmp rfl rfl) rfl rfl rfl rfl rfl rfl)
    .nil)))))))))) (by kernel_rfl) ?_
   refine Ab.D.code (OK.seq (OK.seq (OK.reg ?_)))
   refine RK.c (S.bloadN ti24 .none rfl (.tmp rfl rfl) rfl rfl rfl rfl) ?_
   refine RK.c (S.call (ref_PlanErr (p := (⟨(splitC 32 l).drop 1, sgnV (splitC 32 l)[0]⟩ : Plan))) Tryz.call27 .none rfl (.cons (.tmp rfl rfl) .nil) rfl) ?_
   refine RK.c (S.assign .none rfl (.tmp rfl rfl)) ?_
   refine RK.nil (Ab.D.code (OK.seq (OK.reg ?_)))
   refine RK.c (S.move .none rfl (.tmp rfl rfl)) ?_
   refine RK.c (S.neq .none rfl (.tmp rfl rfl) (.cint rfl)) ?_
   refine RK.nil (Ab.D.code ?_)
   refine OK.condD rfl rfl (fun c37 => ?_) (fun c37 => ?_)
   ·
    have hpf : parseP l = (noneP, planErr (⟨(splitC 32 l).drop 1, sgnV (splitC 32 l)[0]⟩ : Plan)) := by rw [hpt]; exact if_pos c37
    refine OK.seq (OK.reg ?_)
    refine RK.c (S.bloadN ti24 .none rfl (.tmp rfl rfl) rfl rfl rfl rfl) ?_
    refine RK.c (S.move .none rfl (.tmp rfl rfl)) ?_
    refine RK.c (S.store ti24 .none (.tmp rfl rfl) (.tmp rfl rfl) rfl rfl rfl rfl rfl rfl) ?_
    refine RK.c (S.assign .none rfl (.tmp rfl rfl)) ?_
    refine RK.nil (Ab.D.code ?_)
    refine OK.ret (Ret.r2 (.cellN rfl rfl rfl rfl ti24 rfl (.k .nils (.k (.same rfl) .z))) (.tmp rfl rfl (.c (.same rfl) rfl) rfl) ?_)
    rw [hpf]
    all_goals rfl
   ·
    have hpf : parseP l = ((⟨(splitC 32 l).drop 1, sgnV (splitC 32 l)[0]⟩ : Plan), 0) := by rw [hpt]; exact if_neg c37
    refine OK.skip ?_
    refine Ab.D.code (OK.seq (OK.reg ?_))
    refine RK.c (S.bloadN ti24 .none rfl (.tmp rfl rfl) rfl rfl rfl rfl) ?_
    refine RK.c (S.store ti24 .none (.tmp rfl rfl) (.tmp rfl rfl) rfl rfl rfl rfl rfl rfl) ?_
    refine RK.c (S.assign .none rfl (.cint rfl)) ?_
    refine RK.nil (Ab.D.code ?_)
    refine OK.ret (Ret.r2 (.cellN rfl rfl rfl rfl ti24 rfl (.k (.same rfl) (.k (.same rfl) .z))) (.tmp rfl rfl (.c (.same rfl) rfl) rfl) ?_)
    rw [hpf]
    all_goals rfl
end Go.Proofs.YtpmglnphhhlbdaaGreatDoor
