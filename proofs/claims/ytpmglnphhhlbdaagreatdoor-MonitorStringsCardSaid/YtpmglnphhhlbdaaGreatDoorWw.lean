import Derived.Test.YtpmglnphhhlbdaaGreatDoorFs
import Derived.Test.YtpmglnphhhlbdaaGreatDoorGh
import Derived.Test.YtpmglnphhhlbdaaGreatDoorGs
import Derived.Test.YtpmglnphhhlbdaaGreatDoorMa
import Derived.Test.YtpmglnphhhlbdaaGreatDoorSh
import Derived.Test.YtpmglnphhhlbdaaGreatDoorTy
import Derived.Test.YtpmglnphhhlbdaaGreatDoorYc
namespace Go.Proofs.YtpmglnphhhlbdaaGreatDoor
open Go.Ab
theorem ref_EnvelopeErr {p : Plan} {x : Envelope} : Ct Tryz.prog 29 [.agg p.cs, .agg x.cs] (.int .i64 (envChk p x).2) := by
 refine Ct.intro (rs := [.tmp 4]) Tryz.func29 rfl Tryz.ntmps29 Tryz.results29 rfl rfl rfl fun w h => ?_
 refine OK.seq (OK.reg ?_)
 refine RK.c (S.box (k := 2) rfl .none rfl (.tmp rfl rfl) rfl) ?_
 refine RK.c (S.box (k := 3) rfl .none rfl (.tmp rfl rfl) rfl) ?_
 refine RK.c (S.assign .none rfl (.cint rfl)) ?_
 refine RK.nil (Ab.D.code (OK.seq (OK.reg ?_)))
 refine RK.c (S.bloadN ti24 .none rfl (.tmp rfl rfl) rfl rfl rfl rfl) ?_
 refine RK.c (S.bloadN ti30 .none rfl (.tmp rfl rfl) rfl rfl rfl rfl) ?_
 refine RK.c (S.call (ref_CheckEnvelope) Tryz.call76 .none rfl (.cons (.tmp rfl rfl) (.cons (.tmp rfl rfl) .nil)) rfl) ?_
 refine RK.c (S.move .none rfl (.tmp rfl rfl)) ?_
 refine RK.c (S.extract .none rfl (.tmp rfl rfl) rfl rfl) ?_
 refine RK.c (S.extract .none rfl (.tmp rfl rfl) rfl rfl) ?_
 refine RK.c (S.assign .none rfl (.tmp rfl rfl)) ?_
 refine RK.c (S.assign .none rfl (.tmp rfl rfl)) ?_
 refine RK.nil (Ab.D.code (OK.seq (OK.reg ?_)))
 refine RK.c (S.move .none rfl (.tmp rfl rfl)) ?_
 refine RK.c (S.assign .none rfl (.tmp rfl rfl)) ?_
 refine RK.nil (Ab.D.code ?_)
 refine OK.ret (Ret.r1 (.tmp rfl rfl (.c (.same rfl) rfl) rfl) ?_)
 rfl
end Go.Proofs.YtpmglnphhhlbdaaGreatDoor
namespace Go.Proofs.YtpmglnphhhlbdaaGreatDoor
open Go.Ab
theorem joinI : JoinI Tryz.prog 53 := ⟨fun a c sep w => Tryz.strings_Join_none a c sep w, fun bk o c xs sep w h1 h2 h3 h4 h5 => Tryz.strings_Join bk o c xs sep w h1 h2 h3 h4 h5⟩
def num1 (w : List UInt8) : Option Int := if sgnC w 7 = true then some (sgnV w) else none
theorem num1_T {w : List UInt8} (h : sgnC w 7 = true) : num1 w = some (sgnV w) := if_pos h
theorem num1_F {w : List UInt8} (h : sgnC w 7 = false) : num1 w = none := if_neg (by rw [h]; decide)
theorem numM_T {w : List UInt8} : numM w true 7 = sgnC w 7 := (num_sgn (by decide)).1
theorem numM_v {w : List UInt8} (h : sgnC w 7 = true) : atoiV w = sgnV w := (num_sgn (d := 7) (by decide)).2 h
def numsI (l : List Int) : List UInt8 := Lib.join (l.map Lib.itoa) [32]
theorem ints_rep {l : List Int} (h : IsRep (ints l)) : ∀ n ∈ l, IntKind.i64.wrap n = n := fun n hn => (h.mem (List.mem_flatten.2 ⟨[.int .i64 n], List.mem_map.2 ⟨n, hn, rfl⟩, List.mem_cons_self⟩)).int
theorem join_bd {l : List (List UInt8)} {sep : List UInt8} {B N : Nat} (h : ∀ w ∈ l, w.length ≤ B) (hN : l.length ≤ N) (hs : sep.length = 1) : (Lib.join l sep).length ≤ N * (B + 1) := by
  have h1 := join_len (sep := sep) h
  rw [hs] at h1
  exact Nat.le_trans h1 (Nat.mul_le_mul_right _ hN)
theorem numsI_len {l : List Int} (h : ∀ n ∈ l, IntKind.i64.wrap n = n) {N : Nat} (hN : l.length ≤ N) : (numsI l).length ≤ N * 22 := join_bd (B := 21) (fun w hw => by obtain ⟨j, hj, rfl⟩ := List.mem_map.1 hw; exact itoa_len (h j hj)) (by rw [List.length_map]; exact hN) rfl
theorem sl_HasPrefix {l : List UInt8} {c : UInt8} (hl : l.length ≤ 100000) : Ct Tryz.prog 187 [.str l, .str [c]] (.bool (decide (l.head? = some c))) := by
 refine Ct.intro (rs := [.tmp 4]) Tryz.func187 rfl Tryz.ntmps187 Tryz.results187 rfl rfl rfl fun w h => ?_
 refine OK.seq (OK.reg ?_)
 refine RK.c (S.assign .none rfl .cbool) ?_
 refine RK.nil (Ab.D.code (OK.seq (OK.reg ?_)))
 refine RK.c (S.move .none rfl (.tmp rfl rfl)) ?_
 refine RK.c (S.slen Tryz.underlying9 .none rfl (.tmp rfl rfl)) ?_
 refine RK.c (S.move .none rfl (.tmp rfl rfl)) ?_
 refine RK.c (S.slen Tryz.underlying9 .none rfl (.tmp rfl rfl)) ?_
 refine RK.c (S.geq .none rfl (.tmp rfl rfl) (.tmp rfl rfl)) ?_
 refine RK.c (S.move .none rfl (.tmp rfl rfl)) ?_
 refine RK.splitD (t := 10) rfl (fun g10 => ?_) (fun g10 => ?_)
 ·
  refine RK.c (S.move (.yes rfl rfl rfl rfl) rfl (.tmp rfl rfl)) ?_
  refine RK.c (S.move (.yes rfl rfl rfl rfl) rfl (.tmp rfl rfl)) ?_
  refine RK.c (S.slen Tryz.underlying9 (.yes rfl rfl rfl rfl) rfl (.tmp rfl rfl)) ?_
  refine RK.c (S.strsl str9 (.yes rfl rfl rfl rfl) rfl (.tmp rfl rfl) (.inl ⟨rfl, rfl, rfl⟩) (.inr ⟨_, _, rfl, (.tmp rfl rfl), rfl⟩) (by omega) (by omega) rfl) ?_
  refine RK.c (S.move (.yes rfl rfl rfl rfl) rfl (.tmp rfl rfl)) ?_
  refine RK.c (S.seql (.yes rfl rfl rfl rfl) rfl (.tmp rfl rfl) (.tmp rfl rfl)) ?_
  refine RK.c (S.pickT .none rfl (.tmp rfl rfl) (.tmp rfl rfl) rfl) ?_
  refine RK.c (S.assign .none rfl (.tmp rfl rfl)) ?_
  refine RK.nil (Ab.D.code ?_)
  refine OK.ret (Ret.r1 (.tmp rfl rfl (.c (.same rfl) rfl) rfl) ?_)
  refine ret_b (decide_eq_decide.2 ?_)
  cases l with
  | nil => simp at g10
  | cons x r => simp
 ·
  refine RK.c (S.skip rfl rfl rfl rfl rfl) ?_
  refine RK.c (S.skip rfl rfl rfl rfl rfl) ?_
  refine RK.c (S.skip rfl rfl rfl rfl rfl) ?_
  refine RK.c (S.skip rfl rfl rfl rfl rfl) ?_
  refine RK.c (S.skip rfl rfl rfl rfl rfl) ?_
  refine RK.c (S.skip rfl rfl rfl rfl rfl) ?_
  refine RK.c (S.pickF .none rfl (.tmp rfl rfl) .cbool rfl) ?_
  refine RK.c (S.assign .none rfl (.tmp rfl rfl)) ?_
  refine RK.nil (Ab.D.code ?_)
  refine OK.ret (Ret.r1 (.tmp rfl rfl (.c (.same rfl) rfl) rfl) ?_)
  refine ret_b (decide_eq_false ?_).symm
  rw [List.length_eq_zero_iff.1 (show l.length = 0 by simp at g10; omega)]
  simp
theorem sl_TrimPrefix {l : List UInt8} (hl : l.length ≤ 100000) : Ct Tryz.prog 152 [.str l, .str [45]] (.str (trimC l)) := by
 refine Ct.intro (rs := [.tmp 4]) Tryz.func152 rfl Tryz.ntmps152 Tryz.results152 rfl rfl rfl fun w h => ?_
 refine OK.seq (OK.reg ?_)
 refine RK.c (S.assign .none rfl (.cstr (l := []) rfl (by decide))) ?_
 refine RK.nil (Ab.D.code (OK.seq (OK.seq (OK.reg ?_))))
 refine RK.c (S.move .none rfl (.tmp rfl rfl)) ?_
 refine RK.c (S.move .none rfl (.tmp rfl rfl)) ?_
 refine RK.c (S.call (sl_HasPrefix (l := l) (c := 45) hl) Tryz.call187 .none rfl (.cons (.tmp rfl rfl) (.cons (.tmp rfl rfl) .nil)) rfl) ?_
 refine RK.nil (Ab.D.code ?_)
 refine OK.condD rfl rfl (fun c7 => ?_) (fun c7 => ?_)
 ·
  refine OK.seq (OK.reg ?_)
  refine RK.c (S.move .none rfl (.tmp rfl rfl)) ?_
  refine RK.c (S.move .none rfl (.tmp rfl rfl)) ?_
  refine RK.c (S.slen Tryz.underlying9 .none rfl (.tmp rfl rfl)) ?_
  refine RK.c (S.strsl (lo := 1) (l' := l.drop 1) str9 .none rfl (.tmp rfl rfl) (.inr ⟨_, _, rfl, (.tmp rfl rfl), rfl⟩) (.inl ⟨rfl, rfl, rfl⟩) (by have := c7; cases l with | nil => cases this | cons _ _ => simp) (by omega) (by rw [List.take_length])) ?_
  refine RK.c (S.assign .none rfl (.tmp rfl rfl)) ?_
  refine RK.nil (Ab.D.code ?_)
  refine OK.ret (Ret.r1 (.tmp rfl rfl (.c (.same rfl) rfl) rfl) ?_)
  rw [show trimC l = l.drop 1 from if_pos c7]
 ·
  refine OK.skip ?_
  refine Ab.D.code (OK.seq (OK.reg ?_))
  refine RK.c (S.move .none rfl (.tmp rfl rfl)) ?_
  refine RK.c (S.assign .none rfl (.tmp rfl rfl)) ?_
  refine RK.nil (Ab.D.code ?_)
  refine OK.ret (Ret.r1 (.tmp rfl rfl (.c (.same rfl) rfl) rfl) ?_)
  rw [show trimC l = l from if_neg c7]
theorem str_TrimPrefix {l : List UInt8} (hl : l.length ≤ 100000) : Ct Tryz.prog 117 [.str l, .str [45]] (.str (trimC l)) := by
 refine Ct.intro (rs := [.tmp 4]) Tryz.func117 rfl Tryz.ntmps117 Tryz.results117 rfl rfl rfl fun w h => ?_
 refine OK.seq (OK.reg ?_)
 refine RK.c (S.assign .none rfl (.cstr (l := []) rfl (by decide))) ?_
 refine RK.nil (Ab.D.code (OK.seq (OK.reg ?_)))
 refine RK.c (S.move .none rfl (.tmp rfl rfl)) ?_
 refine RK.c (S.move .none rfl (.tmp rfl rfl)) ?_
 refine RK.c (S.call (sl_TrimPrefix (by omega)) Tryz.call152 .none rfl (.cons (.tmp rfl rfl) (.cons (.tmp rfl rfl) .nil)) rfl) ?_
 refine RK.c (S.assign .none rfl (.tmp rfl rfl)) ?_
 refine RK.nil (Ab.D.code ?_)
 refine OK.ret (Ret.r1 (.tmp rfl rfl (.c (.same rfl) rfl) rfl) ?_)
 rfl
theorem mon_number {l : List UInt8} {b : Bool} (hl : l.length ≤ 100000) : CtT Tryz.prog 61 [.str l, .bool b] (.tup [.int .i64 (atoiV l), .bool (numM l b 7)]) := by
 refine CtT.intro (rs := [.tmp 4, .tmp 5]) Tryz.func61 rfl Tryz.ntmps61 Tryz.results61 rfl rfl rfl fun w h hT => ?_
 refine OK.seq (OK.reg ?_)
 refine RK.c (S.assign .none rfl (.cint rfl)) ?_
 refine RK.c (S.assign .none rfl .cbool) ?_
 refine RK.nil (Ab.D.code (OK.seq (OK.reg ?_)))
 refine RK.c (S.move .none rfl (.tmp rfl rfl)) ?_
 refine RK.c (S.callT (atoi_ct hl) hT Tryz.call116 .none rfl (.cons (.tmp rfl rfl) .nil) rfl) ?_
 refine RK.c (S.move .none rfl (.tmp rfl rfl)) ?_
 refine RK.c (S.extract .none rfl (.tmp rfl rfl) rfl rfl) ?_
 refine RK.c (S.extract .none rfl (.tmp rfl rfl) rfl rfl) ?_
 refine RK.c (S.assign .none rfl (.tmp rfl rfl)) ?_
 refine RK.c (S.assign .none rfl (.tmp rfl rfl)) ?_
 refine RK.nil (Ab.D.code (OK.seq (OK.reg ?_)))
 refine RK.c (S.move .none rfl (.tmp rfl rfl)) ?_
 refine RK.c (S.move .none rfl (.tmp rfl rfl)) ?_
 refine RK.c (S.eqerr Tryz.underlying193 .none rfl (.tmp rfl rfl)) ?_
 refine RK.c (S.move .none rfl (.tmp rfl rfl)) ?_
 refine RK.split (t := 16) rfl (fun g16 => ?_) (fun g16 => ?_)
 ·
  refine RK.c (S.move (.yes rfl rfl rfl rfl) rfl (.tmp rfl rfl)) ?_
  refine RK.c (S.callT (itoa_ct (atoi_rng l)) hT Tryz.call54 (.yes rfl rfl rfl rfl) rfl (.cons (.tmp rfl rfl) .nil) rfl) ?_
  refine RK.c (S.move (.yes rfl rfl rfl rfl) rfl (.tmp rfl rfl)) ?_
  refine RK.c (S.seql (.yes rfl rfl rfl rfl) rfl (.tmp rfl rfl) (.tmp rfl rfl)) ?_
  refine RK.c (S.pickT .none rfl (.tmp rfl rfl) (.tmp rfl rfl) rfl) ?_
  refine RK.c (S.move .none rfl (.tmp rfl rfl)) ?_
  refine RK.splitD (t := 22) rfl (fun g22 => ?_) (fun g22 => ?_)
  ·
   refine RK.c (S.move (.yes rfl rfl rfl rfl) rfl (.tmp rfl rfl)) ?_
   refine RK.c (S.move (.yes rfl rfl rfl rfl) rfl (.tmp rfl rfl)) ?_
   refine RK.split (t := 24) rfl (fun g24 => ?_) (fun g24 => ?_)
   ·
    refine RK.c (S.skip rfl rfl rfl rfl rfl) ?_
    refine RK.c (S.skip rfl rfl rfl rfl rfl) ?_
    refine RK.c (S.pickT (.yes rfl rfl rfl rfl) rfl (.tmp rfl rfl) .cbool rfl) ?_
    refine RK.c (S.pickT .none rfl (.tmp rfl rfl) (.tmp rfl rfl) rfl) ?_
    refine RK.c (S.move .none rfl (.tmp rfl rfl)) ?_
    refine RK.c (S.move (.yes rfl rfl rfl rfl) rfl (.tmp rfl rfl)) ?_
    refine RK.c (S.call (str_TrimPrefix (l := l) hl) Tryz.call117 (.yes rfl rfl rfl rfl) rfl (.cons (.tmp rfl rfl) (.cons (.cstr (l := [45]) rfl (by decide)) .nil)) rfl) ?_
    refine RK.c (S.slen Tryz.underlying9 (.yes rfl rfl rfl rfl) rfl (.tmp rfl rfl)) ?_
    refine RK.c (S.leq (.yes rfl rfl rfl rfl) rfl (.tmp rfl rfl) (.cint rfl)) ?_
    refine RK.c (S.pickT .none rfl (.tmp rfl rfl) (.tmp rfl rfl) rfl) ?_
    refine RK.c (S.assign .none rfl (.tmp rfl rfl)) ?_
    refine RK.c (S.assign .none rfl (.tmp rfl rfl)) ?_
    refine RK.nil (Ab.D.code ?_)
    refine OK.ret (Ret.r2 (.tmp rfl rfl (.c (.same rfl) rfl) rfl) (.tmp rfl rfl (.c (.same rfl) rfl) rfl) ?_)
    exact congrArg (fun z => X.tup [X.int .i64 (atoiV l), X.bool z]) (by unfold numM; simp_all <;> (intros; omega))
   ·
    refine RK.c (S.move (.yes rfl rfl rfl rfl) rfl (.tmp rfl rfl)) ?_
    refine RK.c (S.geq (.yes rfl rfl rfl rfl) rfl (.tmp rfl rfl) (.cint rfl)) ?_
    refine RK.c (S.pickF (.yes rfl rfl rfl rfl) rfl (.tmp rfl rfl) (.tmp rfl rfl) rfl) ?_
    refine RK.c (S.pickT .none rfl (.tmp rfl rfl) (.tmp rfl rfl) rfl) ?_
    refine RK.c (S.move .none rfl (.tmp rfl rfl)) ?_
    refine RK.splitD (t := 29) rfl (fun g29 => ?_) (fun g29 => ?_)
    ·
     refine RK.c (S.move (.yes rfl rfl rfl rfl) rfl (.tmp rfl rfl)) ?_
     refine RK.c (S.call (str_TrimPrefix (l := l) hl) Tryz.call117 (.yes rfl rfl rfl rfl) rfl (.cons (.tmp rfl rfl) (.cons (.cstr (l := [45]) rfl (by decide)) .nil)) rfl) ?_
     refine RK.c (S.slen Tryz.underlying9 (.yes rfl rfl rfl rfl) rfl (.tmp rfl rfl)) ?_
     refine RK.c (S.leq (.yes rfl rfl rfl rfl) rfl (.tmp rfl rfl) (.cint rfl)) ?_
     refine RK.c (S.pickT .none rfl (.tmp rfl rfl) (.tmp rfl rfl) rfl) ?_
     refine RK.c (S.assign .none rfl (.tmp rfl rfl)) ?_
     refine RK.c (S.assign .none rfl (.tmp rfl rfl)) ?_
     refine RK.nil (Ab.D.code ?_)
     refine OK.ret (Ret.r2 (.tmp rfl rfl (.c (.same rfl) rfl) rfl) (.tmp rfl rfl (.c (.same rfl) rfl) rfl) ?_)
     exact congrArg (fun z => X.tup [X.int .i64 (atoiV l), X.bool z]) (by unfold numM; simp_all <;> (intros; omega))
    ·
     refine RK.c (S.skip rfl rfl rfl rfl rfl) ?_
     refine RK.c (S.skip rfl rfl rfl rfl rfl) ?_
     refine RK.c (S.skip rfl rfl rfl rfl rfl) ?_
     refine RK.c (S.skip rfl rfl rfl rfl rfl) ?_
     refine RK.c (S.pickF .none rfl (.tmp rfl rfl) .cbool rfl) ?_
     refine RK.c (S.assign .none rfl (.tmp rfl rfl)) ?_
     refine RK.c (S.assign .none rfl (.tmp rfl rfl)) ?_
     refine RK.nil (Ab.D.code ?_)
     refine OK.ret (Ret.r2 (.tmp rfl rfl (.c (.same rfl) rfl) rfl) (.tmp rfl rfl (.c (.same rfl) rfl) rfl) ?_)
     exact congrArg (fun z => X.tup [X.int .i64 (atoiV l), X.bool z]) (by unfold numM; simp_all <;> (intros; omega))
  ·
   refine RK.c (S.skip rfl rfl rfl rfl rfl) ?_
   refine RK.c (S.skip rfl rfl rfl rfl rfl) ?_
   refine RK.c (S.skipU rfl rfl rfl rfl) ?_
   refine RK.c (S.skipU rfl rfl rfl rfl) ?_
   refine RK.c (S.skip rfl rfl rfl rfl rfl) ?_
   refine RK.c (S.pickF .none rfl (.tmp rfl rfl) .cbool rfl) ?_
   refine RK.c (S.move .none rfl (.tmp rfl rfl)) ?_
   refine RK.c (S.skip rfl rfl rfl rfl rfl) ?_
   refine RK.c (S.skip rfl rfl rfl rfl rfl) ?_
   refine RK.c (S.skip rfl rfl rfl rfl rfl) ?_
   refine RK.c (S.skip rfl rfl rfl rfl rfl) ?_
   refine RK.c (S.pickF .none rfl (.tmp rfl rfl) .cbool rfl) ?_
   refine RK.c (S.assign .none rfl (.tmp rfl rfl)) ?_
   refine RK.c (S.assign .none rfl (.tmp rfl rfl)) ?_
   refine RK.nil (Ab.D.code ?_)
   refine OK.ret (Ret.r2 (.tmp rfl rfl (.c (.same rfl) rfl) rfl) (.tmp rfl rfl (.c (.same rfl) rfl) rfl) ?_)
   exact congrArg (fun z => X.tup [X.int .i64 (atoiV l), X.bool z]) (by unfold numM; simp_all <;> (intros; omega))
 ·
  refine RK.c (S.skip rfl rfl rfl rfl rfl) ?_
  refine RK.c (S.skip rfl rfl rfl rfl rfl) ?_
  refine RK.c (S.skip rfl rfl rfl rfl rfl) ?_
  refine RK.c (S.skip rfl rfl rfl rfl rfl) ?_
  refine RK.c (S.pickF .none rfl (.tmp rfl rfl) .cbool rfl) ?_
  refine RK.c (S.move .none rfl (.tmp rfl rfl)) ?_
  refine RK.c (S.skip rfl rfl rfl rfl rfl) ?_
  refine RK.c (S.skip rfl rfl rfl rfl rfl) ?_
  refine RK.c (S.skipU rfl rfl rfl rfl) ?_
  refine RK.c (S.skipU rfl rfl rfl rfl) ?_
  refine RK.c (S.skip rfl rfl rfl rfl rfl) ?_
  refine RK.c (S.pickF .none rfl (.tmp rfl rfl) .cbool rfl) ?_
  refine RK.c (S.move .none rfl (.tmp rfl rfl)) ?_
  refine RK.c (S.skip rfl rfl rfl rfl rfl) ?_
  refine RK.c (S.skip rfl rfl rfl rfl rfl) ?_
  refine RK.c (S.skip rfl rfl rfl rfl rfl) ?_
  refine RK.c (S.skip rfl rfl rfl rfl rfl) ?_
  refine RK.c (S.pickF .none rfl (.tmp rfl rfl) .cbool rfl) ?_
  refine RK.c (S.assign .none rfl (.tmp rfl rfl)) ?_
  refine RK.c (S.assign .none rfl (.tmp rfl rfl)) ?_
  refine RK.nil (Ab.D.code ?_)
  refine OK.ret (Ret.r2 (.tmp rfl rfl (.c (.same rfl) rfl) rfl) (.tmp rfl rfl (.c (.same rfl) rfl) rfl) ?_)
  exact congrArg (fun z => X.tup [X.int .i64 (atoiV l), X.bool z]) (by unfold numM; simp_all <;> (intros; omega))
set_option maxHeartbeats 1000000 in
theorem mon_numbers {l : List (List UInt8)} (hl : l.length ≤ 100000) (hw : ∀ w ∈ l, w.length ≤ 100000) : CtT Tryz.prog 65 [.sl (l.map fun s => [.str s])] (.tup [ints ((gath num1 l).getD []), .bool (gath num1 l).isSome]) := by
 refine CtT.intro (rs := [.tmp 2, .tmp 3]) Tryz.func65 rfl Tryz.ntmps65 Tryz.results65 rfl rfl rfl fun w h hT => ?_
 refine OK.seq (OK.reg ?_)
 refine RK.c (S.assign .none rfl .cnil) ?_
 refine RK.c (S.assign .none rfl .cbool) ?_
 refine RK.nil (Ab.D.code (OK.seq (OK.reg ?_)))
 refine RK.c (S.nilOwn (k := 4) (sz := 1) .none rfl) ?_
 refine RK.nil (Ab.D.code (OK.seq (OK.seq (OK.reg ?_))))
 refine RK.c (S.move .none rfl (.tmp rfl rfl)) ?_
 refine RK.c (S.lenM si22 .none rfl (.tmp rfl rfl)) ?_
 refine RK.c (S.move .none rfl (.cint rfl)) ?_
 refine RK.nil (Ab.D.code ?_)
 refine OK.block ?_
 refine OK.loop2 [4] (fun (i : Nat) (out : List Int) => [(4, .own 4 out.length), (2004, .arr 1 (out.map (fun n => [.int .i64 n]))), (9, .sl (l.map fun s => [.str s])), (10, .int .i64 l.length), (11, .int .i64 i)]) (fun i out => i ≤ l.length ∧ gath num1 l = (gath num1 (l.drop i)).map (out ++ ·) ∧ out.length ≤ i) (fun i out => l.length - i) (0) ([]) ⟨Nat.zero_le _, by rw [List.drop_zero]; cases gath num1 l <;> simp, Nat.le_refl _⟩ ⟨(lk_own (by first | rfl | (simp; done) | (simp; omega))), (lk_arr (by first | rfl | (simp; done) | (simp; omega))), rfl, rfl, rfl, trivial⟩ (fun _ _ => rfl) ?_
 rintro i out ⟨hi, hg, hol⟩
 refine OK.seq (OK.reg ?_)
 refine RK.c (S.lss .none rfl (.tmp rfl rfl) (.tmp rfl rfl)) ?_
 refine RK.nil (Ab.D.code ?_)
 refine OK.seq ?_
 refine OK.condD rfl rfl (fun c12 => ?_) (fun c12 => ?_)
 ·
  have hil : i < l.length := by omega
  have hwl := hw _ (List.getElem_mem hil)
  refine OK.skip ?_
  refine Ab.D.code ?_
  refine OK.seq ?_
  refine OK.block ?_
  refine OK.seq (OK.reg ?_)
  refine RK.c (S.indexM (n := i) si22 .none rfl (.tmp rfl rfl) (.tmp rfl rfl) rfl (by omega) rfl) ?_
  refine RK.c (S.load1 ti9 .none rfl (.tmp rfl rfl) rfl) ?_
  refine RK.c (S.assign .none rfl (.tmp rfl rfl)) ?_
  refine RK.nil (Ab.D.code (OK.seq (OK.reg ?_)))
  refine RK.c (S.move .none rfl (.tmp rfl rfl)) ?_
  refine RK.c (S.callT (mon_number (l := l[i]) (b := true) hwl) hT Tryz.call61 .none rfl (.cons (.tmp rfl rfl) (.cons .cbool .nil)) rfl) ?_
  refine RK.c (S.move .none rfl (.tmp rfl rfl)) ?_
  refine RK.c (S.extract .none rfl (.tmp rfl rfl) rfl rfl) ?_
  refine RK.c (S.extract .none rfl (.tmp rfl rfl) rfl rfl) ?_
  refine RK.c (S.assign .none rfl (.tmp rfl rfl)) ?_
  refine RK.c (S.assign .none rfl (.tmp rfl rfl)) ?_
  refine RK.nil (Ab.D.code (OK.seq (OK.seq (OK.reg ?_))))
  refine RK.c (S.move .none rfl (.tmp rfl rfl)) ?_
  refine RK.c (S.not .none rfl (.tmp rfl rfl)) ?_
  refine RK.nil (Ab.D.code ?_)
  refine OK.cond rfl rfl (fun c21 => ?_) (fun c21 => ?_)
  ·
   have hs : sgnC l[i] 7 = false := by rw [← numM_T]; simpa using c21
   have hge := gath_no hg hil (num1_F hs)
   refine OK.seq (OK.reg ?_)
   refine RK.c (S.assign .none rfl .cnil) ?_
   refine RK.c (S.assign .none rfl .cbool) ?_
   refine RK.nil (Ab.D.code ?_)
   refine OK.ret (Ret.r2 (.tmp rfl rfl (.c (.same rfl) rfl) rfl) (.tmp rfl rfl (.c (.same rfl) rfl) rfl) ?_)
   rw [hge]
   all_goals rfl
  ·
   have hs : sgnC l[i] 7 = true := by rw [← numM_T]; simpa using c21
   refine OK.skip ?_
   refine Ab.D.code (OK.reg ?_)
   refine RK.c (S.move .none rfl (.tmp rfl rfl)) ?_
   refine RK.c (S.move .none rfl (.tmp rfl rfl)) ?_
   refine RK.c (S.mkSlice (k := 24) (rows := [[_]]) ai25 .none rfl (.cons (.tmp rfl rfl) .nil) rfl rfl rfl rfl rfl rfl rfl) ?_
   refine RK.c (S.append ai25 .none rfl (.tmp rfl rfl) rfl (by simp) (.tmp rfl rfl) rfl (by first | rfl | (simp; done) | (simp; omega)) (by omega) (by simp only [maxLen]; omega)) ?_
   refine RK.c (S.assign .none rfl (.tmp rfl rfl)) ?_
   refine RK.nil ?_
   refine Ab.D.blk ?_
   refine Ab.D.code (OK.reg ?_)
   refine RK.c (S.add .none rfl (.tmp rfl rfl) (.cint rfl) (IntWalk.i64_in _ (by omega)) (IntWalk.i64_in _ (by omega))) ?_
   refine RK.c (S.move .none rfl (.tmp rfl rfl)) ?_
   refine RK.nil ?_
   refine Ab.D.lp ⟨i + 1, out ++ [atoiV l[i]], ⟨by omega, gath_on hg hil (by rw [num1_T hs, numM_v hs]), by simp; omega⟩, (by omega), (lk_own (by simp)), (lk_arr (by simp)), rfl, rfl, rfl, trivial⟩
 ·
  have hge := gath_end hg (show i = l.length by omega)
  refine OK.exit rfl ?_
  refine Ab.D.code (OK.seq (OK.reg ?_))
  refine RK.c (S.move .none rfl (.tmp rfl rfl)) ?_
  refine RK.c (S.assign .none rfl (.tmp rfl rfl)) ?_
  refine RK.c (S.assign .none rfl .cbool) ?_
  refine RK.nil (Ab.D.code ?_)
  refine OK.ret (Ret.r2 (.tmp rfl rfl (.c (.own rfl rfl (by first | rfl | (simp; done) | (simp; omega))) rfl) rfl) (.tmp rfl rfl (.c (.same rfl) rfl) rfl) ?_)
  rw [hge]
  all_goals rfl
theorem mon_joined {l : List Int} (hl : l.length ≤ 100000) : CtT Tryz.prog 55 [ints l] (.str (numsI l)) := by
 refine CtT.intro (rs := [.tmp 2]) Tryz.func55 rfl Tryz.ntmps55 Tryz.results55 rfl rfl rfl fun w h hT => ?_
 refine OK.slRep (t := 0) rfl rfl fun hR => ?_
 have hW := ints_rep hR
 clear hR
 refine OK.seq (OK.reg ?_)
 refine RK.c (S.assign .none rfl (.cstr (l := []) rfl (by decide))) ?_
 refine RK.nil (Ab.D.code (OK.seq (OK.reg ?_)))
 refine RK.c (S.nilOwn (k := 3) (sz := 1) .none rfl) ?_
 refine RK.nil (Ab.D.code (OK.seq (OK.seq (OK.reg ?_))))
 refine RK.c (S.move .none rfl (.tmp rfl rfl)) ?_
 refine RK.c (S.lenM si25 .none rfl (.tmp rfl rfl)) ?_
 refine RK.c (S.move .none rfl (.cint rfl)) ?_
 refine RK.nil (Ab.D.code ?_)
 refine OK.block ?_
 refine OK.loop (G := Nat) [3] (fun i => [(3, .own 3 i), (2003, .arr 1 (((l.take i).map Lib.itoa).map fun s => [.str s])), (6, ints l), (7, .int .i64 l.length), (8, .int .i64 i)]) (fun i => i ≤ l.length) (fun i => l.length - i) 0 (Nat.zero_le _) ⟨(lk_own (by first | rfl | (simp; done) | (simp; omega))), (lk_arr (by first | rfl | (simp; done) | (simp; omega))), rfl, rfl, rfl, trivial⟩ (fun _ => rfl) ?_
 rintro i hi
 refine OK.seq (OK.reg ?_)
 refine RK.c (S.lss .none rfl (.tmp rfl rfl) (.tmp rfl rfl)) ?_
 refine RK.nil (Ab.D.code ?_)
 refine OK.seq ?_
 refine OK.condD rfl rfl (fun c9 => ?_) (fun c9 => ?_)
 ·
  have hwi := hW _ (List.getElem_mem (show i < l.length by omega))
  refine OK.skip ?_
  refine Ab.D.code ?_
  refine OK.seq ?_
  refine OK.block ?_
  refine OK.seq (OK.reg ?_)
  refine RK.c (S.indexM (n := i) si25 .none rfl (.tmp rfl rfl) (.tmp rfl rfl) rfl (by omega) rfl) ?_
  refine RK.c (S.load1 ti3 .none rfl (.tmp rfl rfl) rfl) ?_
  refine RK.c (S.assign .none rfl (.tmp rfl rfl)) ?_
  refine RK.nil (Ab.D.code (OK.reg ?_))
  refine RK.c (S.move .none rfl (.tmp rfl rfl)) ?_
  refine RK.c (S.move .none rfl (.tmp rfl rfl)) ?_
  refine RK.c (S.callT (itoa_ct hwi) hT Tryz.call54 .none rfl (.cons (.tmp rfl rfl) .nil) rfl) ?_
  refine RK.c (S.mkSlice (k := 15) (rows := [[_]]) ai22 .none rfl (.cons (.tmp rfl rfl) .nil) rfl rfl rfl rfl rfl rfl rfl) ?_
  refine RK.c (S.append ai22 .none rfl (.tmp rfl rfl) rfl (by simp; omega) (.tmp rfl rfl) rfl (by first | rfl | (simp; done) | (simp; omega)) (by omega) (by simp only [maxLen]; omega)) ?_
  refine RK.c (S.assign .none rfl (.tmp rfl rfl)) ?_
  refine RK.nil ?_
  refine Ab.D.blk ?_
  refine Ab.D.code (OK.reg ?_)
  refine RK.c (S.add .none rfl (.tmp rfl rfl) (.cint rfl) (IntWalk.i64_in _ (by omega)) (IntWalk.i64_in _ (by omega))) ?_
  refine RK.c (S.move .none rfl (.tmp rfl rfl)) ?_
  refine RK.nil ?_
  refine Ab.D.lp ⟨i + 1, (by omega), (by omega), (lk_own (by omega)), (lk_arr (by rw [List.take_succ_eq_append_getElem (by omega), List.map_append, List.map_append]; rfl)), rfl, rfl, rfl, trivial⟩
 ·
  refine OK.exit rfl ?_
  refine Ab.D.code ?_
  refine OK.seq ?_
  rw [show i = l.length by omega, List.take_length]
  refine OK.reg ?_
  refine RK.c (S.move .none rfl (.tmp rfl rfl)) ?_
  refine RK.c (S.callL (joinI.ct (l := l.map Lib.itoa) (sep := [32]) (by rw [List.length_map]; omega) (by have := numsI_len hW hl; show (numsI l).length ≤ _; omega)) Tryz.call53 .none rfl (.cons (.tmp rfl rfl) (.cons (.cstr (l := [32]) rfl (by decide)) .nil)) (.cons (.p (.own rfl (by simp)) rfl) (.cons (.same rfl) .nil)) rfl) ?_
  refine RK.c (S.assign .none rfl (.tmp rfl rfl)) ?_
  refine RK.nil (Ab.D.code ?_)
  refine OK.ret (Ret.r1 (.tmp rfl rfl (.c (.same rfl) rfl) rfl) ?_)
  rfl
end Go.Proofs.YtpmglnphhhlbdaaGreatDoor
namespace Go.Proofs.YtpmglnphhhlbdaaGreatDoor
open Go.Ab
def fmtPlan (p : Plan) : List UInt8 := Lib.join (Lib.itoa p.ticks :: p.channels) [32]
def fmtFrame (f : Frame) : List UInt8 := numsI (f.tick :: f.values)
theorem join_take {x : List UInt8} {r : List (List UInt8)} {sep : List UInt8} {k : Nat} (h : k < r.length) : Lib.join (x :: r.take (k + 1)) sep = Lib.join (x :: r.take k) sep ++ (sep ++ r[k]) := by
  rw [Lib.join_cons, Lib.join_cons, Lib.joinTail_take_succ sep r k r[k] (List.getElem?_eq_getElem h)]
  simp only [List.append_assoc]
theorem join_bd2 {x : List UInt8} {r : List (List UInt8)} {B N : Nat} (hx : x.length ≤ B) (h : ∀ w ∈ r, w.length ≤ B) (hN : r.length + 1 ≤ N) : (Lib.join (x :: r) [32]).length ≤ N * (B + 1) := join_bd (B := B) (fun w hw => by rcases List.mem_cons.1 hw with rfl | hw; exact hx; exact h w hw) (by rw [List.length_cons]; exact hN) rfl
theorem lkS {a b : List UInt8} (h : a = b) : some (X.str a) = some (X.str b) := by rw [h]
theorem numsI_on {l : List Int} {i : Nat} (h : i < l.length) : numsI (l.take (i + 1)) = (if i = 0 then [] else numsI (l.take i) ++ [32]) ++ Lib.itoa l[i] := by
  unfold numsI
  rw [List.take_succ_eq_append_getElem h, List.map_append, List.map_cons, List.map_nil, join_snoc]
  by_cases h0 : i = 0
  · rw [if_pos h0, if_pos (by rw [h0]; rfl), List.nil_append]
  · rw [if_neg h0, if_neg (fun e => by have := congrArg List.length e; rw [List.length_map, List.length_take, List.length_nil] at this; omega), List.append_assoc]
theorem numsI_T {l : List Int} {i : Nat} (h : i < l.length) (h0 : ¬ i = 0) : numsI (l.take (i + 1)) = (numsI (l.take i) ++ [32]) ++ Lib.itoa l[i] := by rw [numsI_on h, if_neg h0]
theorem numsI_F {l : List Int} {i : Nat} (h : i < l.length) (h0 : i = 0) : numsI (l.take (i + 1)) = numsI (l.take i) ++ Lib.itoa l[i] := by
  have e : numsI (l.take i) = [] := by rw [h0]; rfl
  rw [numsI_on h, if_pos h0, e]
theorem mon_FormatFrame {f : Frame} (hv : f.values.length ≤ 1000) : CtT Tryz.prog 11 [.agg f.cs] (.str (fmtFrame f)) := by
 refine CtT.intro (rs := [.tmp 2]) Tryz.func11 rfl Tryz.ntmps11 Tryz.results11 rfl rfl rfl fun w h hT => ?_
 refine OK.seq (OK.reg ?_)
 refine RK.c (S.box (k := 1) rfl .none rfl (.tmp rfl rfl) rfl) ?_
 refine RK.c (S.assign .none rfl (.cstr (l := []) rfl (by decide))) ?_
 refine RK.nil (Ab.D.code (OK.seq (OK.reg ?_)))
 refine RK.c (S.bfield fi27_0 .none rfl (.tmp rfl rfl)) ?_
 refine RK.c (S.bload1 ti3 .none rfl (.tmp rfl rfl) rfl rfl rfl rfl) ?_
 refine RK.c (S.mkSlice (k := 5) (rows := [[_]]) ai25 .none rfl (.cons (.tmp rfl rfl) .nil) rfl rfl rfl rfl rfl rfl rfl) ?_
 refine RK.c (S.bfield fi27_1 .none rfl (.tmp rfl rfl)) ?_
 refine RK.c (S.bload1 ti25 .none rfl (.tmp rfl rfl) rfl rfl rfl rfl) ?_
 refine RK.c (S.appendSl ai25 .none rfl (.tmp rfl rfl) rfl (by first | rfl | (simp; done) | (simp; omega)) (.tmp rfl rfl) (by intro q hq; obtain ⟨x, _, rfl⟩ := List.mem_map.1 hq; rfl) (List.length_map ..) (by omega) (by simp only [maxLen]; omega)) ?_
 refine RK.c (S.callLT (mon_joined (l := f.tick :: f.values) (by rw [List.length_cons]; omega)) hT Tryz.call55 .none rfl (.cons (.tmp rfl rfl) .nil) (.cons (.p (.own rfl (by simp; omega)) rfl) .nil) rfl) ?_
 refine RK.c (S.assign .none rfl (.tmp rfl rfl)) ?_
 refine RK.nil (Ab.D.code ?_)
 refine OK.ret (Ret.r1 (.tmp rfl rfl (.c (.same rfl) rfl) rfl) ?_)
 rfl
theorem mon_FormatPlan {p : Plan} (hn : p.channels.length ≤ 100) (hc : ∀ s ∈ p.channels, s.length ≤ 1000) : CtT Tryz.prog 9 [.agg p.cs] (.str (fmtPlan p)) := by
 refine CtT.intro (rs := [.tmp 2]) Tryz.func9 rfl Tryz.ntmps9 Tryz.results9 rfl rfl rfl fun w h hT => ?_
 refine OK.aggInt 0 1 rfl rfl rfl fun ht => ?_
 have htw := IntWalk.i64_in _ ht
 have hil := itoa_len htw
 refine OK.seq (OK.reg ?_)
 refine RK.c (S.box (k := 1) rfl .none rfl (.tmp rfl rfl) rfl) ?_
 refine RK.c (S.assign .none rfl (.cstr (l := []) rfl (by decide))) ?_
 refine RK.nil (Ab.D.code ?_)
 refine OK.seq ?_
 refine OK.regionDraw follows (.c (S.bfield fi24_1 .none rfl (.tmp rfl rfl))
  (.c (S.bload1 ti3 .none rfl (.tmp rfl rfl) rfl rfl rfl rfl)
  (.c (S.callT (itoa_ct htw) hT Tryz.call54 .none rfl (.cons (.tmp rfl rfl) .nil) rfl)
  (.c (S.mkSlice (k := 6) (rows := [[_]]) ai22 .none rfl (.cons (.tmp rfl rfl) .nil) rfl rfl rfl rfl rfl rfl rfl)
  (.c (S.bfield fi24_0 .none rfl (.tmp rfl rfl))
  (.c (S.bload1 ti22 .none rfl (.tmp rfl rfl) rfl rfl rfl rfl)
  (.c (S.appendSl ai22 .none rfl (.tmp rfl rfl) rfl (by first | rfl | (simp; done) | (simp; omega)) (.tmp rfl rfl) (by intro q hq; obtain ⟨x, _, rfl⟩ := List.mem_map.1 hq; rfl) (List.length_map ..) (by omega) (by simp only [maxLen]; omega))
  (.c (S.callL (joinI.ct (l := Lib.itoa p.ticks :: p.channels) (sep := [32]) (by rw [List.length_cons]; omega) (by have := join_bd2 (N := 101) (show (Lib.itoa p.ticks).length ≤ 1000 by omega) hc (by omega); omega)) Tryz.call53 .none rfl (.cons (.tmp rfl rfl) (.cons (.cstr (l := [32]) rfl (by decide)) .nil)) (.cons (.p (.own rfl (by simp; omega)) rfl) (.cons (.same rfl) .nil)) rfl)
  (.c (S.assign .none rfl (.tmp rfl rfl))
  .nil))))))))) (by kernel_rfl) ?_
 refine Ab.D.code ?_
 refine OK.ret (Ret.r1 (.tmp rfl rfl (.c (.same rfl) rfl) rfl) ?_)
 rfl
theorem ref_text {l : List Int} (hl : l.length ≤ 2000) : Ct Tryz.prog 59 [ints l] (.str (numsI l)) := by
 refine Ct.intro (rs := [.tmp 2]) Tryz.func59 rfl Tryz.ntmps59 Tryz.results59 rfl rfl rfl fun w h => ?_
 refine OK.slRep (t := 0) rfl rfl fun hR => ?_
 have hW := ints_rep hR
 clear hR
 refine OK.seq (OK.reg ?_)
 refine RK.c (S.assign .none rfl (.cstr (l := []) rfl (by decide))) ?_
 refine RK.nil (Ab.D.code (OK.seq (OK.reg ?_)))
 refine RK.c (S.assign .none rfl (.cstr (l := []) rfl (by decide))) ?_
 refine RK.nil (Ab.D.code (OK.seq (OK.seq (OK.reg ?_))))
 refine RK.c (S.assign .none rfl (.cint rfl)) ?_
 refine RK.nil (Ab.D.code ?_)
 refine OK.block ?_
 refine OK.loop (G := Nat) [] (fun i => [(0, ints l), (3, .str (numsI (l.take i))), (4, .int .i64 i)]) (fun i => i ≤ l.length) (fun i => l.length - i) 0 (Nat.zero_le _) ⟨rfl, rfl, rfl, trivial⟩ (fun _ => rfl) ?_
 rintro i hi
 refine OK.seq (OK.seq (OK.reg ?_))
 refine RK.c (S.move .none rfl (.tmp rfl rfl)) ?_
 refine RK.c (S.move .none rfl (.tmp rfl rfl)) ?_
 refine RK.c (S.lenM si25 .none rfl (.tmp rfl rfl)) ?_
 refine RK.c (S.lss .none rfl (.tmp rfl rfl) (.tmp rfl rfl)) ?_
 refine RK.nil (Ab.D.code ?_)
 refine OK.condD rfl rfl (fun c8 => ?_) (fun c8 => ?_)
 ·
  have hil : i < l.length := by omega
  have e1 := itoa_len (hW _ (List.getElem_mem hil))
  have e2 := numsI_len (l := l.take i) (N := 2000) (fun n hn => hW n (List.mem_of_mem_take hn)) (by rw [List.length_take]; omega)
  refine OK.skip ?_
  refine Ab.D.code ?_
  refine OK.seq ?_
  refine OK.block ?_
  refine OK.seq (OK.seq (OK.reg ?_))
  refine RK.c (S.move .none rfl (.tmp rfl rfl)) ?_
  refine RK.c (S.gtr .none rfl (.tmp rfl rfl) (.cint rfl)) ?_
  refine RK.nil (Ab.D.code ?_)
  refine OK.condD rfl rfl (fun c12 => ?_) (fun c12 => ?_)
  ·
   have hft := numsI_T hil (by omega)
   refine OK.reg ?_
   refine RK.c (S.move .none rfl (.tmp rfl rfl)) ?_
   refine RK.c (S.sadd .none rfl (.tmp rfl rfl) (.cstr (l := [32]) rfl (by decide)) (by simp only [List.length_append, List.length_cons, List.length_nil]; omega)) ?_
   refine RK.c (S.assign .none rfl (.tmp rfl rfl)) ?_
   refine RK.nil (Ab.D.code (OK.reg ?_))
   refine RK.c (S.move .none rfl (.tmp rfl rfl)) ?_
   refine RK.c (S.move .none rfl (.tmp rfl rfl)) ?_
   refine RK.c (S.move .none rfl (.tmp rfl rfl)) ?_
   refine RK.c (S.indexM (n := i) si25 .none rfl (.tmp rfl rfl) (.tmp rfl rfl) rfl (by omega) rfl) ?_
   refine RK.c (S.load1 ti3 .none rfl (.tmp rfl rfl) rfl) ?_
   refine RK.c (S.call (base_Decimal) Tryz.call58 .none rfl (.cons (.tmp rfl rfl) .nil) rfl) ?_
   refine RK.c (S.sadd .none rfl (.tmp rfl rfl) (.tmp rfl rfl) (by first | omega | (simp only [List.length_append, List.length_cons, List.length_nil]; omega))) ?_
   refine RK.c (S.assign .none rfl (.tmp rfl rfl)) ?_
   refine RK.nil ?_
   refine Ab.D.blk ?_
   refine Ab.D.code (OK.reg ?_)
   refine RK.c (S.move .none rfl (.tmp rfl rfl)) ?_
   refine RK.c (S.add .none rfl (.tmp rfl rfl) (.cint rfl) (IntWalk.i64_in _ (by omega)) (IntWalk.i64_in _ (by omega))) ?_
   refine RK.c (S.assign .none rfl (.tmp rfl rfl)) ?_
   refine RK.nil ?_
   refine Ab.D.lp ⟨i + 1, (by omega), (by omega), rfl, (lkS hft.symm), rfl, trivial⟩
  ·
   have hft := numsI_F hil (by omega)
   refine OK.skip ?_
   refine Ab.D.code (OK.reg ?_)
   refine RK.c (S.move .none rfl (.tmp rfl rfl)) ?_
   refine RK.c (S.move .none rfl (.tmp rfl rfl)) ?_
   refine RK.c (S.move .none rfl (.tmp rfl rfl)) ?_
   refine RK.c (S.indexM (n := i) si25 .none rfl (.tmp rfl rfl) (.tmp rfl rfl) rfl (by omega) rfl) ?_
   refine RK.c (S.load1 ti3 .none rfl (.tmp rfl rfl) rfl) ?_
   refine RK.c (S.call (base_Decimal) Tryz.call58 .none rfl (.cons (.tmp rfl rfl) .nil) rfl) ?_
   refine RK.c (S.sadd .none rfl (.tmp rfl rfl) (.tmp rfl rfl) (by first | omega | (simp only [List.length_append, List.length_cons, List.length_nil]; omega))) ?_
   refine RK.c (S.assign .none rfl (.tmp rfl rfl)) ?_
   refine RK.nil ?_
   refine Ab.D.blk ?_
   refine Ab.D.code (OK.reg ?_)
   refine RK.c (S.move .none rfl (.tmp rfl rfl)) ?_
   refine RK.c (S.add .none rfl (.tmp rfl rfl) (.cint rfl) (IntWalk.i64_in _ (by omega)) (IntWalk.i64_in _ (by omega))) ?_
   refine RK.c (S.assign .none rfl (.tmp rfl rfl)) ?_
   refine RK.nil ?_
   refine Ab.D.lp ⟨i + 1, (by omega), (by omega), rfl, (lkS hft.symm), rfl, trivial⟩
 ·
  refine OK.exit rfl ?_
  refine Ab.D.code (OK.seq (OK.reg ?_))
  refine RK.c (S.move .none rfl (.tmp rfl rfl)) ?_
  refine RK.c (S.assign .none rfl (.tmp rfl rfl)) ?_
  refine RK.nil (Ab.D.code ?_)
  refine OK.ret (Ret.r1 (.tmp rfl rfl (.c (.same rfl) rfl) rfl) ?_)
  rw [show i = l.length by omega, List.take_length]
theorem ref_FormatFrame {f : Frame} (hv : f.values.length ≤ 1000) : Ct Tryz.prog 16 [.agg f.cs] (.str (fmtFrame f)) := by
 refine Ct.intro (rs := [.tmp 2]) Tryz.func16 rfl Tryz.ntmps16 Tryz.results16 rfl rfl rfl fun w h => ?_
 refine OK.seq (OK.reg ?_)
 refine RK.c (S.box (k := 1) rfl .none rfl (.tmp rfl rfl) rfl) ?_
 refine RK.c (S.assign .none rfl (.cstr (l := []) rfl (by decide))) ?_
 refine RK.nil (Ab.D.code (OK.seq (OK.reg ?_)))
 refine RK.c (S.bfield fi27_0 .none rfl (.tmp rfl rfl)) ?_
 refine RK.c (S.bload1 ti3 .none rfl (.tmp rfl rfl) rfl rfl rfl rfl) ?_
 refine RK.c (S.mkSlice (k := 5) (rows := [[_]]) ai25 .none rfl (.cons (.tmp rfl rfl) .nil) rfl rfl rfl rfl rfl rfl rfl) ?_
 refine RK.c (S.bfield fi27_1 .none rfl (.tmp rfl rfl)) ?_
 refine RK.c (S.bload1 ti25 .none rfl (.tmp rfl rfl) rfl rfl rfl rfl) ?_
 refine RK.c (S.appendSl ai25 .none rfl (.tmp rfl rfl) rfl (by first | rfl | (simp; done) | (simp; omega)) (.tmp rfl rfl) (by intro q hq; obtain ⟨x, _, rfl⟩ := List.mem_map.1 hq; rfl) (List.length_map ..) (by omega) (by simp only [maxLen]; omega)) ?_
 refine RK.c (S.callL (ref_text (l := f.tick :: f.values) (by rw [List.length_cons]; omega)) Tryz.call59 .none rfl (.cons (.tmp rfl rfl) .nil) (.cons (.p (.own rfl (by simp; omega)) rfl) .nil) rfl) ?_
 refine RK.c (S.assign .none rfl (.tmp rfl rfl)) ?_
 refine RK.nil (Ab.D.code ?_)
 refine OK.ret (Ret.r1 (.tmp rfl rfl (.c (.same rfl) rfl) rfl) ?_)
 rfl
theorem ref_FormatPlan {p : Plan} (hn : p.channels.length ≤ 100) (hc : ∀ s ∈ p.channels, s.length ≤ 1000) : Ct Tryz.prog 15 [.agg p.cs] (.str (fmtPlan p)) := by
 refine Ct.intro (rs := [.tmp 2]) Tryz.func15 rfl Tryz.ntmps15 Tryz.results15 rfl rfl rfl fun w h => ?_
 refine OK.aggInt 0 1 rfl rfl rfl fun ht => ?_
 have htw := IntWalk.i64_in _ ht
 have hil := itoa_len htw
 refine OK.seq (OK.reg ?_)
 refine RK.c (S.box (k := 1) rfl .none rfl (.tmp rfl rfl) rfl) ?_
 refine RK.c (S.assign .none rfl (.cstr (l := []) rfl (by decide))) ?_
 refine RK.nil (Ab.D.code (OK.seq (OK.reg ?_)))
 refine RK.c (S.bfield fi24_1 .none rfl (.tmp rfl rfl)) ?_
 refine RK.c (S.bload1 ti3 .none rfl (.tmp rfl rfl) rfl rfl rfl rfl) ?_
 refine RK.c (S.call (base_Decimal) Tryz.call58 .none rfl (.cons (.tmp rfl rfl) .nil) rfl) ?_
 refine RK.c (S.assign .none rfl (.tmp rfl rfl)) ?_
 refine RK.nil (Ab.D.code (OK.seq (OK.seq (OK.reg ?_))))
 refine RK.c (S.assign .none rfl (.cint rfl)) ?_
 refine RK.nil (Ab.D.code ?_)
 refine OK.block ?_
 refine OK.loop (G := Nat) [1] (fun i => [(1, .ptr 1 0), (1001, .box p.cs), (3, .str (Lib.join (Lib.itoa p.ticks :: p.channels.take i) [32])), (4, .int .i64 i)]) (fun i => i ≤ p.channels.length) (fun i => p.channels.length - i) 0 (Nat.zero_le _) ⟨rfl, rfl, (lkS (by rw [List.take_zero, Lib.join_one])), rfl, trivial⟩ (fun _ => rfl) ?_
 rintro i hi
 refine OK.seq (OK.seq (OK.reg ?_))
 refine RK.c (S.move .none rfl (.tmp rfl rfl)) ?_
 refine RK.c (S.bfield fi24_0 .none rfl (.tmp rfl rfl)) ?_
 refine RK.c (S.bload1 ti22 .none rfl (.tmp rfl rfl) rfl rfl rfl rfl) ?_
 refine RK.c (S.lenM si22 .none rfl (.tmp rfl rfl)) ?_
 refine RK.c (S.lss .none rfl (.tmp rfl rfl) (.tmp rfl rfl)) ?_
 refine RK.nil (Ab.D.code ?_)
 refine OK.condD rfl rfl (fun c12 => ?_) (fun c12 => ?_)
 ·
  have hpl : i < p.channels.length := by omega
  have e1 := hc _ (List.getElem_mem hpl)
  have e2 := join_bd2 (x := Lib.itoa p.ticks) (r := p.channels.take i) (B := 1000) (N := 101) (by omega) (fun w hw => hc w (List.mem_of_mem_take hw)) (by rw [List.length_take]; omega)
  refine OK.skip ?_
  refine Ab.D.code ?_
  refine OK.seq ?_
  refine OK.block ?_
  refine OK.reg ?_
  refine RK.c (S.move .none rfl (.tmp rfl rfl)) ?_
  refine RK.c (S.sadd .none rfl (.tmp rfl rfl) (.cstr (l := [32]) rfl (by decide)) (by simp only [List.length_append, List.length_cons, List.length_nil]; omega)) ?_
  refine RK.c (S.bfield fi24_0 .none rfl (.tmp rfl rfl)) ?_
  refine RK.c (S.bload1 ti22 .none rfl (.tmp rfl rfl) rfl rfl rfl rfl) ?_
  refine RK.c (S.move .none rfl (.tmp rfl rfl)) ?_
  refine RK.c (S.indexM (n := i) si22 .none rfl (.tmp rfl rfl) (.tmp rfl rfl) rfl (by omega) rfl) ?_
  refine RK.c (S.load1 ti9 .none rfl (.tmp rfl rfl) rfl) ?_
  refine RK.c (S.sadd .none rfl (.tmp rfl rfl) (.tmp rfl rfl) (by first | omega | (simp only [List.length_append, List.length_cons, List.length_nil]; omega))) ?_
  refine RK.c (S.assign .none rfl (.tmp rfl rfl)) ?_
  refine RK.nil ?_
  refine Ab.D.blk ?_
  refine Ab.D.code (OK.reg ?_)
  refine RK.c (S.move .none rfl (.tmp rfl rfl)) ?_
  refine RK.c (S.add .none rfl (.tmp rfl rfl) (.cint rfl) (IntWalk.i64_in _ (by omega)) (IntWalk.i64_in _ (by omega))) ?_
  refine RK.c (S.assign .none rfl (.tmp rfl rfl)) ?_
  refine RK.nil ?_
  refine Ab.D.lp ⟨i + 1, (by omega), (by omega), rfl, rfl, (lkS (by rw [join_take hpl]; simp only [List.append_assoc])), rfl, trivial⟩
 ·
  refine OK.exit rfl ?_
  refine Ab.D.code (OK.seq (OK.reg ?_))
  refine RK.c (S.move .none rfl (.tmp rfl rfl)) ?_
  refine RK.c (S.assign .none rfl (.tmp rfl rfl)) ?_
  refine RK.nil (Ab.D.code ?_)
  refine OK.ret (Ret.r1 (.tmp rfl rfl (.c (.same rfl) rfl) rfl) ?_)
  rw [show i = p.channels.length by omega, List.take_length]
  rfl
end Go.Proofs.YtpmglnphhhlbdaaGreatDoor
