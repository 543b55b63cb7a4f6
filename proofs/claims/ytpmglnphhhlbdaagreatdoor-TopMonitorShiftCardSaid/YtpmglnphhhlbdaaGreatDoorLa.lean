import Derived.Test.YtpmglnphhhlbdaaGreatDoorGs
import Derived.Test.YtpmglnphhhlbdaaGreatDoorTz
import Derived.Test.YtpmglnphhhlbdaaGreatDoorWm
namespace Go.Proofs.YtpmglnphhhlbdaaGreatDoor
open Go.Ab
def splitC (c : UInt8) : List UInt8 → List (List UInt8)
  | [] => [[]]
  | b :: l => if b = c then [] :: splitC c l else match splitC c l with
    | [] => [[b]]
    | p :: ps => (b :: p) :: ps
theorem split_ne (c : UInt8) : ∀ l, splitC c l ≠ []
  | [] => by simp [splitC]
  | b :: l => by
    unfold splitC
    split
    · simp
    · split <;> simp
theorem split_cons {b c : UInt8} {l : List UInt8} (h : b ≠ c) {p : List UInt8} {ps : List (List UInt8)} (hs : splitC c l = p :: ps) : splitC c (b :: l) = (b :: p) :: ps := by
  rw [splitC, if_neg h, hs]
theorem idx_cons {b c : UInt8} {l : List UInt8} : Lib.indexByte (b :: l) c = if b = c then 0 else if Lib.indexByte l c < 0 then -1 else Lib.indexByte l c + 1 := by
  have hg := Lib.indexByte_ge l c
  show (if (b == c) = true then 0 else if (Lib.indexByte l c == -1) = true then -1 else Lib.indexByte l c + 1) = _
  by_cases h : b = c
  · rw [if_pos (by simpa using h), if_pos h]
  · rw [if_neg (by simpa using h), if_neg h]
    by_cases h2 : Lib.indexByte l c < 0
    · rw [if_pos h2, if_pos (by have : Lib.indexByte l c = -1 := by omega
                                rw [this]; rfl)]
    · rw [if_neg h2, if_neg (by have : ¬ Lib.indexByte l c = -1 := by omega
                                simpa using this)]
theorem split_neg {c : UInt8} : ∀ {l : List UInt8}, Lib.indexByte l c < 0 → splitC c l = [l]
  | [], _ => rfl
  | b :: l, h => by
    rw [idx_cons] at h
    split at h
    · omega
    · rename_i h1
      split at h
      · rename_i h2
        exact split_cons h1 (split_neg h2)
      · omega
theorem split_pos {c : UInt8} : ∀ {l : List UInt8}, ¬ Lib.indexByte l c < 0 → (Lib.indexByte l c).toNat < l.length ∧ splitC c l = l.take (Lib.indexByte l c).toNat :: splitC c (l.drop ((Lib.indexByte l c).toNat + 1))
  | [], h => by simp [Lib.indexByte] at h
  | b :: l, h => by
    rw [idx_cons] at h ⊢
    by_cases h1 : b = c
    · rw [if_pos h1]
      refine ⟨by simp, ?_⟩
      rw [splitC, if_pos h1]
      rfl
    · rw [if_neg h1] at h ⊢
      by_cases h2 : Lib.indexByte l c < 0
      · rw [if_pos h2] at h; omega
      · rw [if_neg h2] at h ⊢
        obtain ⟨g1, g2⟩ := split_pos h2
        have e : (Lib.indexByte l c + 1).toNat = (Lib.indexByte l c).toNat + 1 := by omega
        rw [e]
        refine ⟨by simp; omega, ?_⟩
        rw [split_cons h1 g2]
        rfl
theorem split_len (c : UInt8) : ∀ l, (splitC c l).length = Lib.countByte l c + 1
  | [] => rfl
  | b :: l => by
    have ih := split_len c l
    unfold Lib.countByte at ih ⊢
    rw [splitC, List.count_cons]
    by_cases h : b = c
    · rw [if_pos h, if_pos (by simpa using h), List.length_cons, ih]
    · rw [if_neg h, if_neg (by simpa using h)]
      cases hs : splitC c l with
      | nil => exact absurd hs (split_ne c l)
      | cons p ps => rw [hs] at ih; simpa using ih
theorem split_sub {c : UInt8} : ∀ {l : List UInt8}, ∀ p ∈ splitC c l, p.length ≤ l.length
  | [], p, hp => by simp [splitC] at hp; subst hp; simp
  | b :: l, p, hp => by
    rw [splitC] at hp
    split at hp
    · rcases List.mem_cons.1 hp with rfl | hp
      · simp
      · have := split_sub p hp; simp only [List.length_cons]; omega
    · split at hp
      · rw [List.mem_singleton] at hp; subst hp; simp
      · rename_i q ps hs
        rcases List.mem_cons.1 hp with rfl | hp
        · have := split_sub q (by rw [hs]; exact List.mem_cons_self)
          simp only [List.length_cons]; omega
        · have := split_sub p (by rw [hs]; exact List.mem_cons_of_mem _ hp)
          simp only [List.length_cons]; omega
theorem idx_bd (l : List UInt8) (c : UInt8) : -1 ≤ Lib.indexByte l c ∧ Lib.indexByte l c ≤ l.length := by
  refine ⟨Lib.indexByte_ge l c, ?_⟩
  by_cases h : Lib.indexByte l c < 0
  · omega
  · have := (split_pos h).1; omega
theorem getD_lt {α : Type} {l : List α} {k : Nat} {d : α} (h : k < l.length) : l.getD k d = l[k] := by rw [List.getD_eq_getElem?_getD, List.getElem?_eq_getElem h]; rfl
theorem u8_back (c : UInt8) : ((c.toNat : Int)).toNat.toUInt8 = c := by simp
theorem split_set {c : UInt8} {l : List UInt8} {i : Nat} (hi : i < (splitC c l).length) {p : List UInt8} (hp : (splitC c l)[i] = p) :
    (((splitC c l).take i ++ List.replicate ((splitC c l).length - i) []).map fun s => [X.str s]).set i [X.str p] = (((splitC c l).take (i + 1) ++ List.replicate ((splitC c l).length - (i + 1)) []).map fun s => [X.str s]) := by
  rw [show (splitC c l).length - i = ((splitC c l).length - (i + 1)) + 1 by omega, List.replicate_succ, List.take_succ_eq_append_getElem hi, hp, List.map_append, List.map_append, List.map_append]
  rw [List.set_append_right _ _ (by simp; omega)]
  simp [Nat.min_eq_left (Nat.le_of_lt hi)]
theorem extIdx : ExtSB Tryz.prog 206 Lib.indexByte := fun s c w => by
  rw [run_callFunc_extern Tryz.func206 (by kernel_rfl) (by kernel_rfl) (by kernel_rfl) (e := Extern.BytealgIndexByte.indexByte) (by kernel_rfl), Lib.run_indexByteString]
  rfl
theorem extCnt : ExtSB Tryz.prog 181 (fun l c => (Lib.countByte l c : Int)) := fun s c w => by
  rw [run_callFunc_extern Tryz.func181 (by kernel_rfl) (by kernel_rfl) (by kernel_rfl) (e := Extern.BytealgCount.count) (by kernel_rfl), Lib.run_countString]
  rfl
theorem sl_IndexByte {l : List UInt8} {c : UInt8} (hl : l.length ≤ 100000) : Ct Tryz.prog 188 [.str l, .int .u8 (c.toNat : Int)] (.int .i64 (Lib.indexByte l c)) := by
 refine Ct.intro (rs := [.tmp 4]) Tryz.func188 rfl Tryz.ntmps188 Tryz.results188 rfl rfl rfl fun w h => ?_
 have hib := idx_bd l c
 refine OK.seq (OK.reg ?_)
 refine RK.c (S.assign .none rfl (.cint rfl)) ?_
 refine RK.nil (Ab.D.code (OK.seq (OK.reg ?_)))
 refine RK.c (S.move .none rfl (.tmp rfl rfl)) ?_
 refine RK.c (S.move .none rfl (.tmp rfl rfl)) ?_
 refine RK.c (S.extSB (n := Lib.indexByte l c) extIdx .none rfl (.tmp rfl rfl) (.tmp rfl rfl) (by rw [u8_back]) (IntWalk.i64_in _ (by omega))) ?_
 refine RK.c (S.assign .none rfl (.tmp rfl rfl)) ?_
 refine RK.nil (Ab.D.code ?_)
 refine OK.ret (Ret.r1 (.tmp rfl rfl (.c (.same rfl) rfl) rfl) ?_)
 rfl
theorem sl_Index {l : List UInt8} {c : UInt8} (hl : l.length ≤ 100000) : Ct Tryz.prog 153 [.str l, .str [c]] (.int .i64 (Lib.indexByte l c)) := by
 refine Ct.intro (rs := [.tmp 4]) Tryz.func153 rfl Tryz.ntmps153 Tryz.results153 rfl rfl rfl fun w h => ?_
 refine OK.seq (OK.reg ?_)
 refine RK.c (S.assign .none rfl (.cint rfl)) ?_
 refine RK.nil (Ab.D.code (OK.seq (OK.reg ?_)))
 refine RK.c (S.move .none rfl (.tmp rfl rfl)) ?_
 refine RK.c (S.slen Tryz.underlying9 .none rfl (.tmp rfl rfl)) ?_
 refine RK.c (S.assign .none rfl (.tmp rfl rfl)) ?_
 refine RK.nil (Ab.D.code ?_)
 refine OK.seq ?_
 refine OK.block ?_
 refine OK.seq (OK.reg ?_)
 refine RK.c (S.move .none rfl (.tmp rfl rfl)) ?_
 refine RK.c (S.eql .none rfl (.tmp rfl rfl) (.cint rfl)) ?_
 refine RK.c (S.move .none rfl (.tmp rfl rfl)) ?_
 refine RK.splitD (t := 19) rfl (fun g19 => ?_) (fun g19 => ?_)
 ·
  exfalso
  simp at g19
 ·
  refine RK.c (S.move (.yes rfl rfl rfl rfl) rfl (.tmp rfl rfl)) ?_
  refine RK.c (S.move (.yes rfl rfl rfl rfl) rfl (.tmp rfl rfl)) ?_
  refine RK.c (S.seql (.yes rfl rfl rfl rfl) rfl (.tmp rfl rfl) (.tmp rfl rfl)) ?_
  refine RK.c (S.pickF .none rfl (.tmp rfl rfl) (.tmp rfl rfl) rfl) ?_
  refine RK.c (S.assign .none rfl (.tmp rfl rfl)) ?_
  refine RK.nil (Ab.D.code ?_)
  refine OK.condD rfl rfl (fun c16 => ?_) (fun c16 => ?_)
  ·
   have hlc : [c] = l := by simpa using c16
   refine OK.seq (OK.reg ?_)
   refine RK.c (S.assign .none rfl (.cint rfl)) ?_
   refine RK.nil (Ab.D.code ?_)
   refine OK.ret (Ret.r1 (.tmp rfl rfl (.c (.same rfl) rfl) rfl) ?_)
   refine ret_i ?_
   rw [← hlc, idx_cons, if_pos rfl]
  ·
   refine OK.seq (OK.reg ?_)
   refine RK.c (S.move .none rfl (.tmp rfl rfl)) ?_
   refine RK.c (S.eql .none rfl (.tmp rfl rfl) (.cint rfl)) ?_
   refine RK.c (S.assign .none rfl (.tmp rfl rfl)) ?_
   refine RK.nil (Ab.D.code ?_)
   refine OK.condD rfl rfl (fun c24 => ?_) (fun c24 => ?_)
   ·
    refine OK.seq (OK.reg ?_)
    refine RK.c (S.move .none rfl (.tmp rfl rfl)) ?_
    refine RK.c (S.move .none rfl (.tmp rfl rfl)) ?_
    refine RK.c (S.stridx (n := 0) str9 .none rfl (.tmp rfl rfl) (.cint rfl) rfl (by omega)) ?_
    refine RK.c (S.call (sl_IndexByte (l := l) (c := c) hl) Tryz.call188 .none rfl (.cons (.tmp rfl rfl) (.cons (.tmp rfl rfl) .nil)) rfl) ?_
    refine RK.c (S.assign .none rfl (.tmp rfl rfl)) ?_
    refine RK.nil (Ab.D.code ?_)
    refine OK.ret (Ret.r1 (.tmp rfl rfl (.c (.same rfl) rfl) rfl) ?_)
    rfl
   ·
    exact absurd (show ((([c] : List UInt8).length : Nat) : Int) = 1 from rfl) c24
theorem str_Index {l : List UInt8} {c : UInt8} (hl : l.length ≤ 100000) : Ct Tryz.prog 149 [.str l, .str [c]] (.int .i64 (Lib.indexByte l c)) := by
 refine Ct.intro (rs := [.tmp 4]) Tryz.func149 rfl Tryz.ntmps149 Tryz.results149 rfl rfl rfl fun w h => ?_
 refine OK.seq (OK.reg ?_)
 refine RK.c (S.assign .none rfl (.cint rfl)) ?_
 refine RK.nil (Ab.D.code (OK.seq (OK.reg ?_)))
 refine RK.c (S.move .none rfl (.tmp rfl rfl)) ?_
 refine RK.c (S.move .none rfl (.tmp rfl rfl)) ?_
 refine RK.c (S.call (sl_Index (by omega)) Tryz.call153 .none rfl (.cons (.tmp rfl rfl) (.cons (.tmp rfl rfl) .nil)) rfl) ?_
 refine RK.c (S.assign .none rfl (.tmp rfl rfl)) ?_
 refine RK.nil (Ab.D.code ?_)
 refine OK.ret (Ret.r1 (.tmp rfl rfl (.c (.same rfl) rfl) rfl) ?_)
 rfl
theorem str_Count {l : List UInt8} {c : UInt8} (hl : l.length ≤ 100000) : Ct Tryz.prog 148 [.str l, .str [c]] (.int .i64 (Lib.countByte l c : Int)) := by
 refine Ct.intro (rs := [.tmp 4]) Tryz.func148 rfl Tryz.ntmps148 Tryz.results148 rfl rfl rfl fun w h => ?_
 have hcn : Lib.countByte l c ≤ l.length := List.count_le_length
 refine OK.seq (OK.reg ?_)
 refine RK.c (S.assign .none rfl (.cint rfl)) ?_
 refine RK.nil (Ab.D.code (OK.seq (OK.seq (OK.reg ?_))))
 refine RK.c (S.move .none rfl (.tmp rfl rfl)) ?_
 refine RK.c (S.slen Tryz.underlying9 .none rfl (.tmp rfl rfl)) ?_
 refine RK.c (S.eql .none rfl (.tmp rfl rfl) (.cint rfl)) ?_
 refine RK.nil (Ab.D.code ?_)
 refine OK.condD rfl rfl (fun c9 => ?_) (fun c9 => ?_)
 ·
  exfalso
  simp at c9
 ·
  refine OK.skip ?_
  refine Ab.D.code (OK.seq (OK.seq (OK.reg ?_)))
  refine RK.c (S.move .none rfl (.tmp rfl rfl)) ?_
  refine RK.c (S.slen Tryz.underlying9 .none rfl (.tmp rfl rfl)) ?_
  refine RK.c (S.eql .none rfl (.tmp rfl rfl) (.cint rfl)) ?_
  refine RK.nil (Ab.D.code ?_)
  refine OK.condD rfl rfl (fun c15 => ?_) (fun c15 => ?_)
  ·
   refine OK.seq (OK.reg ?_)
   refine RK.c (S.move .none rfl (.tmp rfl rfl)) ?_
   refine RK.c (S.move .none rfl (.tmp rfl rfl)) ?_
   refine RK.c (S.stridx (n := 0) str9 .none rfl (.tmp rfl rfl) (.cint rfl) rfl (by omega)) ?_
   refine RK.c (S.extSB (n := (Lib.countByte l c : Int)) extCnt .none rfl (.tmp rfl rfl) (.tmp rfl rfl) (by simp) (IntWalk.i64_in _ (by omega))) ?_
   refine RK.c (S.assign .none rfl (.tmp rfl rfl)) ?_
   refine RK.nil (Ab.D.code ?_)
   refine OK.ret (Ret.r1 (.tmp rfl rfl (.c (.same rfl) rfl) rfl) ?_)
   rfl
  ·
   exact absurd (show ((([c] : List UInt8).length : Nat) : Int) = 1 from rfl) c15
set_option maxHeartbeats 1000000 in
theorem str_genSplit {l : List UInt8} {c : UInt8} (hl : l.length ≤ 100000) : Ct Tryz.prog 115 [.str l, .str [c], .int .i64 0, .int .i64 (-1)] (.sl ((splitC c l).map fun s => [.str s])) := by
  refine Ct.intro (rs := [.tmp 8]) Tryz.func115 rfl Tryz.ntmps115 Tryz.results115 rfl rfl rfl fun w h => ?_
  have hcn : Lib.countByte l c ≤ l.length := List.count_le_length
  have hsl := split_len c l
  refine OK.seq (OK.reg ?_)
  refine RK.c (S.assign .none rfl .cnil) ?_
  refine RK.nil (Ab.D.code (OK.seq (OK.seq (OK.reg ?_))))
  refine RK.c (S.move .none rfl (.tmp rfl rfl)) ?_
  refine RK.c (S.eql .none rfl (.tmp rfl rfl) (.cint rfl)) ?_
  refine RK.nil (Ab.D.code ?_)
  refine OK.condD rfl rfl (fun c13 => ?_) (fun c13 => ?_)
  ·
    exact absurd c13 (by decide)
  ·
    refine OK.skip ?_
    refine Ab.D.code (OK.seq (OK.seq (OK.reg ?_)))
    refine RK.c (S.move .none rfl (.tmp rfl rfl)) ?_
    refine RK.c (S.seql .none rfl (.tmp rfl rfl) (.cstr (l := []) rfl (by decide))) ?_
    refine RK.nil (Ab.D.code ?_)
    refine OK.condD rfl rfl (fun c15 => ?_) (fun c15 => ?_)
    ·
      exact absurd c15 (by simp)
    ·
      refine OK.skip ?_
      refine Ab.D.code (OK.seq (OK.seq (OK.reg ?_)))
      refine RK.c (S.move .none rfl (.tmp rfl rfl)) ?_
      refine RK.c (S.lss .none rfl (.tmp rfl rfl) (.cint rfl)) ?_
      refine RK.nil (Ab.D.code ?_)
      refine OK.condD rfl rfl (fun c20 => ?_) (fun c20 => ?_)
      ·
        refine OK.reg ?_
        refine RK.c (S.move .none rfl (.tmp rfl rfl)) ?_
        refine RK.c (S.move .none rfl (.tmp rfl rfl)) ?_
        refine RK.c (S.call (str_Count (l := l) (c := c) hl) Tryz.call148 .none rfl (.cons (.tmp rfl rfl) (.cons (.tmp rfl rfl) .nil)) rfl) ?_
        refine RK.c (S.add .none rfl (.tmp rfl rfl) (.cint rfl) (IntWalk.i64_in _ (by omega)) (IntWalk.i64_in _ (by omega))) ?_
        refine RK.c (S.assign .none rfl (.tmp rfl rfl)) ?_
        refine RK.nil (Ab.D.code (OK.seq (OK.reg ?_)))
        refine RK.c (S.move .none rfl (.tmp rfl rfl)) ?_
        refine RK.c (S.move .none rfl (.tmp rfl rfl)) ?_
        refine RK.c (S.slen Tryz.underlying9 .none rfl (.tmp rfl rfl)) ?_
        refine RK.c (S.add .none rfl (.tmp rfl rfl) (.cint rfl) (IntWalk.i64_in _ (by omega)) (IntWalk.i64_in _ (by omega))) ?_
        refine RK.c (S.min2 .none rfl (.tmp rfl rfl) (.tmp rfl rfl)) ?_
        refine RK.c (S.assign .none rfl (.tmp rfl rfl)) ?_
        refine RK.nil (Ab.D.code (OK.seq (OK.reg ?_)))
        refine RK.c (S.move .none rfl (.tmp rfl rfl)) ?_
        refine RK.c (S.make (k := 31) (n := (splitC c l).length) ai22 (⟨⟨Tryz.t9, _, by kernel_rfl, rfl, fun h => ⟨.str _ (by decide), trivial⟩⟩⟩ : MkI Tryz.prog 9 [.str []]) .none rfl (.tmp rfl rfl) (.tmp rfl rfl) (by omega) (by omega) (by unfold maxLen; omega)) ?_
        refine RK.c (S.assign .none rfl (.tmp rfl rfl)) ?_
        refine RK.nil (Ab.D.code (OK.seq (OK.reg ?_)))
        refine RK.c (S.move .none rfl (.tmp rfl rfl)) ?_
        refine RK.c (S.sub .none rfl (.tmp rfl rfl) (.cint rfl) (IntWalk.i64_in _ (by omega)) (IntWalk.i64_in _ (by omega))) ?_
        refine RK.c (S.assign .none rfl (.tmp rfl rfl)) ?_
        refine RK.nil (Ab.D.code (OK.seq (OK.reg ?_)))
        refine RK.c (S.assign .none rfl (.cint rfl)) ?_
        refine RK.nil (Ab.D.code ?_)
        refine OK.seq ?_
        refine OK.block ?_
        refine OK.loop2 [31] (fun (i : Nat) (rest : List UInt8) => [(0, .str rest), (1, .str [c]), (2, .int .i64 0), (3, .int .i64 (((splitC c l).length : Int) - 1)), (9, .own 31 (splitC c l).length), (2031, .arr 1 (((splitC c l).take i ++ List.replicate ((splitC c l).length - i) []).map fun s => [.str s])), (10, .int .i64 i)]) (fun i rest => i < (splitC c l).length ∧ (splitC c l).drop i = splitC c rest ∧ rest.length ≤ l.length) (fun i rest => (splitC c l).length - i) (0) (l) ⟨by omega, by rw [List.drop_zero], Nat.le_refl _⟩ ⟨rfl, rfl, rfl, (lkI (by omega)), (lk_own (by omega)), (lk_arr (by first | (simp; done) | (simp; omega))), rfl, trivial⟩ (fun _ _ => rfl) ?_
        rintro i rest ⟨hi, hdr, hrl⟩
        refine OK.seq (OK.seq (OK.reg ?_))
        refine RK.c (S.move .none rfl (.tmp rfl rfl)) ?_
        refine RK.c (S.move .none rfl (.tmp rfl rfl)) ?_
        refine RK.c (S.lss .none rfl (.tmp rfl rfl) (.tmp rfl rfl)) ?_
        refine RK.nil (Ab.D.code ?_)
        refine OK.condD rfl rfl (fun c36 => ?_) (fun c36 => ?_)
        ·
          have hrb : rest.length ≤ 100000 := by omega
          have hib := idx_bd rest c
          refine OK.skip ?_
          refine Ab.D.code ?_
          refine OK.block ?_
          refine OK.seq (OK.reg ?_)
          refine RK.c (S.move .none rfl (.tmp rfl rfl)) ?_
          refine RK.c (S.move .none rfl (.tmp rfl rfl)) ?_
          refine RK.c (S.call (str_Index (l := rest) (c := c) hrb) Tryz.call149 .none rfl (.cons (.tmp rfl rfl) (.cons (.tmp rfl rfl) .nil)) rfl) ?_
          refine RK.c (S.assign .none rfl (.tmp rfl rfl)) ?_
          refine RK.nil (Ab.D.code (OK.seq (OK.seq (OK.reg ?_))))
          refine RK.c (S.move .none rfl (.tmp rfl rfl)) ?_
          refine RK.c (S.lss .none rfl (.tmp rfl rfl) (.cint rfl)) ?_
          refine RK.nil (Ab.D.code ?_)
          refine OK.condD rfl rfl (fun c41 => ?_) (fun c41 => ?_)
          ·
            exfalso
            rw [split_neg c41] at hdr
            have := congrArg List.length hdr
            rw [List.length_drop, List.length_singleton] at this
            omega
          ·
            obtain ⟨hs1, hs2⟩ := split_pos (c := c) (l := rest) (by omega)
            have hdi := List.drop_eq_getElem_cons hi
            rw [hdr, hs2] at hdi
            obtain ⟨hgi, hdr2⟩ : (splitC c l)[i] = rest.take (Lib.indexByte rest c).toNat ∧ (splitC c l).drop (i + 1) = splitC c (rest.drop ((Lib.indexByte rest c).toNat + 1)) := by
              rw [List.cons.injEq] at hdi; exact ⟨hdi.1.symm, hdi.2.symm⟩
            refine OK.skip ?_
            refine Ab.D.code (OK.seq (OK.reg ?_))
            refine RK.c (S.move .none rfl (.tmp rfl rfl)) ?_
            refine RK.c (S.move .none rfl (.tmp rfl rfl)) ?_
            refine RK.c (S.move .none rfl (.tmp rfl rfl)) ?_
            refine RK.c (S.move .none rfl (.tmp rfl rfl)) ?_
            refine RK.c (S.move .none rfl (.tmp rfl rfl)) ?_
            refine RK.c (S.add .none rfl (.tmp rfl rfl) (.tmp rfl rfl) (IntWalk.i64_in _ (by omega)) (IntWalk.i64_in _ (by omega))) ?_
            refine RK.c (S.strsl (hi := (Lib.indexByte rest c).toNat) (l' := rest.take (Lib.indexByte rest c).toNat) str9 .none rfl (.tmp rfl rfl) (.inl ⟨rfl, rfl, rfl⟩) (.inr ⟨_, _, rfl, (.tmp rfl rfl), (by omega)⟩) (by omega) (by omega) rfl) ?_
            refine RK.c (S.oindex (i := i) si22 .none rfl (.tmp rfl rfl) rfl (by simp; omega) (.tmp rfl rfl) rfl hi) ?_
            refine RK.c (S.ostore1 (i := i) ti9 rfl .none (.tmp rfl rfl) (.tmp rfl rfl) rfl (by simp; omega) rfl hi rfl rfl (show _ = ((splitC c l).take (i + 1) ++ List.replicate ((splitC c l).length - (i + 1)) []).map (fun s => [X.str s]) from split_set hi hgi)) ?_
            refine RK.nil (Ab.D.code (OK.seq (OK.reg ?_)))
            refine RK.c (S.move .none rfl (.tmp rfl rfl)) ?_
            refine RK.c (S.move .none rfl (.tmp rfl rfl)) ?_
            refine RK.c (S.move .none rfl (.tmp rfl rfl)) ?_
            refine RK.c (S.slen Tryz.underlying9 .none rfl (.tmp rfl rfl)) ?_
            refine RK.c (S.add .none rfl (.tmp rfl rfl) (.tmp rfl rfl) (IntWalk.i64_in _ (by simp; omega)) (IntWalk.i64_in _ (by simp; omega))) ?_
            refine RK.c (S.strsl (lo := (Lib.indexByte rest c).toNat + 1) (l' := rest.drop ((Lib.indexByte rest c).toNat + 1)) str9 .none rfl (.tmp rfl rfl) (.inr ⟨_, _, rfl, (.tmp rfl rfl), (by simp; omega)⟩) (.inl ⟨rfl, rfl, rfl⟩) (by omega) (by omega) (by rw [List.take_length])) ?_
            refine RK.c (S.assign .none rfl (.tmp rfl rfl)) ?_
            refine RK.nil (Ab.D.code (OK.reg ?_))
            refine RK.c (S.move .none rfl (.tmp rfl rfl)) ?_
            refine RK.c (S.add .none rfl (.tmp rfl rfl) (.cint rfl) (IntWalk.i64_in _ (by omega)) (IntWalk.i64_in _ (by omega))) ?_
            refine RK.c (S.assign .none rfl (.tmp rfl rfl)) ?_
            refine RK.nil ?_
            refine Ab.D.blk ?_
            refine Ab.D.lp ⟨i + 1, rest.drop ((Lib.indexByte rest c).toNat + 1), ⟨by omega, hdr2, by rw [List.length_drop]; omega⟩, (by omega), rfl, rfl, rfl, rfl, rfl, rfl, rfl, trivial⟩
        ·
          have hie : i + 1 = (splitC c l).length := by omega
          have hdi := List.drop_eq_getElem_cons hi
          have hd0 : (splitC c l).drop (i + 1) = [] := List.drop_of_length_le (by omega)
          rw [hd0, hdr] at hdi
          have hone : splitC c rest = [rest] := by
            by_cases hx : Lib.indexByte rest c < 0
            · exact split_neg hx
            · exfalso; rw [(split_pos hx).2] at hdi; exact split_ne _ _ (List.cons.inj hdi).2
          rw [hone, List.cons.injEq] at hdi
          have hgi : (splitC c l)[i] = rest := hdi.1.symm
          refine OK.exit rfl ?_
          refine Ab.D.code (OK.seq (OK.reg ?_))
          refine RK.c (S.move .none rfl (.tmp rfl rfl)) ?_
          refine RK.c (S.move .none rfl (.tmp rfl rfl)) ?_
          refine RK.c (S.move .none rfl (.tmp rfl rfl)) ?_
          refine RK.c (S.oindex (i := i) si22 .none rfl (.tmp rfl rfl) rfl (by simp; omega) (.tmp rfl rfl) rfl hi) ?_
          refine RK.c (S.ostore1 (i := i) ti9 rfl .none (.tmp rfl rfl) (.tmp rfl rfl) rfl (by simp; omega) rfl hi rfl rfl (show _ = (splitC c l).map (fun s => [X.str s]) by rw [split_set hi hgi, hie, List.take_length, Nat.sub_self, List.replicate_zero, List.append_nil])) ?_
          refine RK.nil (Ab.D.code ?_)
          refine OK.seq ?_
          refine OK.freeze 9 rfl rfl rfl (by simp) ?_
          refine OK.reg ?_
          refine RK.c (S.move .none rfl (.tmp rfl rfl)) ?_
          refine RK.c (S.move .none rfl (.tmp rfl rfl)) ?_
          refine RK.c (S.add .none rfl (.tmp rfl rfl) (.cint rfl) (IntWalk.i64_in _ (by omega)) (IntWalk.i64_in _ (by omega))) ?_
          refine RK.c (S.slice (hi := i + 1) (l' := splitC c l) si22 (fun _ => rfl) .none rfl (.tmp rfl rfl) (.inl ⟨rfl, rfl, rfl⟩) (.inr ⟨_, _, rfl, (.tmp rfl rfl), (by omega)⟩) (by omega) (by omega) (by rw [hie, List.take_length, List.drop_zero])) ?_
          refine RK.c (S.assign .none rfl (.tmp rfl rfl)) ?_
          refine RK.nil (Ab.D.code ?_)
          refine OK.ret (Ret.r1 (.tmp rfl rfl (.c (.same rfl) rfl) rfl) ?_)
          rfl
      ·
        exact absurd (by decide) c20
theorem str_Split {l : List UInt8} {c : UInt8} (hl : l.length ≤ 100000) : Ct Tryz.prog 60 [.str l, .str [c]] (.sl ((splitC c l).map fun s => [.str s])) := by
 refine Ct.intro (rs := [.tmp 4]) Tryz.func60 rfl Tryz.ntmps60 Tryz.results60 rfl rfl rfl fun w h => ?_
 refine OK.seq (OK.reg ?_)
 refine RK.c (S.assign .none rfl .cnil) ?_
 refine RK.nil (Ab.D.code (OK.seq (OK.reg ?_)))
 refine RK.c (S.move .none rfl (.tmp rfl rfl)) ?_
 refine RK.c (S.move .none rfl (.tmp rfl rfl)) ?_
 refine RK.c (S.call (str_genSplit (by omega)) Tryz.call115 .none rfl (.cons (.tmp rfl rfl) (.cons (.tmp rfl rfl) (.cons (.cint rfl) (.cons (.cint rfl) .nil)))) rfl) ?_
 refine RK.c (S.assign .none rfl (.tmp rfl rfl)) ?_
 refine RK.nil (Ab.D.code ?_)
 refine OK.ret (Ret.r1 (.tmp rfl rfl (.c (.same rfl) rfl) rfl) ?_)
 rfl
end Go.Proofs.YtpmglnphhhlbdaaGreatDoor
