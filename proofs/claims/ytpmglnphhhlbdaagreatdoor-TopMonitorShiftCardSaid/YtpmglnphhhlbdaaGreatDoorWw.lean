import Derived.Test.YtpmglnphhhlbdaaGreatDoorFs
import Derived.Test.YtpmglnphhhlbdaaGreatDoorGh
import Derived.Test.YtpmglnphhhlbdaaGreatDoorGs
import Derived.Test.YtpmglnphhhlbdaaGreatDoorLb
import Derived.Test.YtpmglnphhhlbdaaGreatDoorSh
import Derived.Test.YtpmglnphhhlbdaaGreatDoorTz
import Derived.Test.YtpmglnphhhlbdaaGreatDoorWt
import Derived.Test.YtpmglnphhhlbdaaGreatDoorYc
namespace Go.Proofs.YtpmglnphhhlbdaaGreatDoor
open Go.Ab
theorem W_len {p : Plan} {l : List Record} {trim : Int} {W : List (List Range)} (hp : 1 ≤ p.ticks) (hW : W = (envT p l trim).rows) : (W.length : Int) = p.ticks ∧ ∀ (t : Nat) (h : t < W.length), W[t].length = p.channels.length := by
  subst hW
  refine ⟨by rw [env_len]; omega, fun t h => ?_⟩
  rw [env_get, row_len]
theorem ref_EnvelopeErr {p : Plan} {x : Envelope} : Ct Tryz.prog 29 [.agg p.cs, .agg x.cs] (.int .i64 (envChk p x).2) := by
 refine Ct.intro (rs := [.tmp 4]) Tryz.func29 rfl Tryz.ntmps29 Tryz.results29 rfl rfl rfl fun w h => ?_
 refine OK.seq (OK.reg ?_)
 refine RK.c (S.box (k := 2) rfl .none rfl (.tmp rfl rfl) rfl) ?_
 refine RK.c (S.box (k := 3) rfl .none rfl (.tmp rfl rfl) rfl) ?_
 refine RK.c (S.assign .none rfl (.cint rfl)) ?_
 refine RK.nil (Ab.D.code (OK.seq (OK.reg ?_)))
 refine RK.c (S.bloadN ti24 .none rfl (.tmp rfl rfl) rfl rfl rfl rfl) ?_
 refine RK.c (S.bloadN ti30 .none rfl (.tmp rfl rfl) rfl rfl rfl rfl) ?_
 refine RK.c (S.call (ref_CheckEnvelope) Tryz.call76 .none rfl (.cons (.tmp rfl rfl) (.cons (.tmp rfl rfl) .nil)) rfl) ?_
 refine RK.c (S.move .none rfl (.tmp rfl rfl)) ?_
 refine RK.c (S.extract .none rfl (.tmp rfl rfl) rfl rfl) ?_
 refine RK.c (S.extract .none rfl (.tmp rfl rfl) rfl rfl) ?_
 refine RK.c (S.assign .none rfl (.tmp rfl rfl)) ?_
 refine RK.c (S.assign .none rfl (.tmp rfl rfl)) ?_
 refine RK.nil (Ab.D.code (OK.seq (OK.reg ?_)))
 refine RK.c (S.move .none rfl (.tmp rfl rfl)) ?_
 refine RK.c (S.assign .none rfl (.tmp rfl rfl)) ?_
 refine RK.nil (Ab.D.code ?_)
 refine OK.ret (Ret.r1 (.tmp rfl rfl (.c (.same rfl) rfl) rfl) ?_)
 rfl
end Go.Proofs.YtpmglnphhhlbdaaGreatDoor
namespace Go.Proofs.YtpmglnphhhlbdaaGreatDoor
open Go.Ab
theorem joinI : JoinI Tryz.prog 53 := ⟨fun a c sep w => Tryz.strings_Join_none a c sep w, fun bk o c xs sep w h1 h2 h3 h4 h5 => Tryz.strings_Join bk o c xs sep w h1 h2 h3 h4 h5⟩
def num1 (w : List UInt8) : Option Int := if sgnC w 7 = true then some (sgnV w) else none
theorem num1_T {w : List UInt8} (h : sgnC w 7 = true) : num1 w = some (sgnV w) := if_pos h
theorem num1_F {w : List UInt8} (h : sgnC w 7 = false) : num1 w = none := if_neg (by rw [h]; decide)
theorem numM_T {w : List UInt8} : numM w true 7 = sgnC w 7 := (num_sgn (by decide)).1
theorem numM_v {w : List UInt8} (h : sgnC w 7 = true) : atoiV w = sgnV w := (num_sgn (d := 7) (by decide)).2 h
def numsI (l : List Int) : List UInt8 := Lib.join (l.map Lib.itoa) [32]
theorem ints_rep {l : List Int} (h : IsRep (ints l)) : ∀ n ∈ l, IntKind.i64.wrap n = n := fun n hn => (h.mem (List.mem_flatten.2 ⟨[.int .i64 n], List.mem_map.2 ⟨n, hn, rfl⟩, List.mem_cons_self⟩)).int
theorem join_bd {l : List (List UInt8)} {sep : List UInt8} {B N : Nat} (h : ∀ w ∈ l, w.length ≤ B) (hN : l.length ≤ N) (hs : sep.length = 1) : (Lib.join l sep).length ≤ N * (B + 1) := by
  have h1 := join_len (sep := sep) h
  rw [hs] at h1
  exact Nat.le_trans h1 (Nat.mul_le_mul_right _ hN)
theorem numsI_len {l : List Int} (h : ∀ n ∈ l, IntKind.i64.wrap n = n) {N : Nat} (hN : l.length ≤ N) : (numsI l).length ≤ N * 22 := join_bd (B := 21) (fun w hw => by obtain ⟨j, hj, rfl⟩ := List.mem_map.1 hw; exact itoa_len (h j hj)) (by rw [List.length_map]; exact hN) rfl
theorem sl_HasPrefix {l : List UInt8} {c : UInt8} (hl : l.length ≤ 100000) : Ct Tryz.prog 187 [.str l, .str [c]] (.bool (decide (l.head? = some c))) := by
 refine Ct.intro (rs := [.tmp 4]) Tryz.func187 rfl Tryz.ntmps187 Tryz.results187 rfl rfl rfl fun w h => ?_
 refine OK.seq (OK.reg ?_)
 refine RK.c (S.assign .none rfl .cbool) ?_
 refine RK.nil (Ab.D.code (OK.seq (OK.reg ?_)))
 refine RK.c (S.move .none rfl (.tmp rfl rfl)) ?_
 refine RK.c (S.slen Tryz.underlying9 .none rfl (.tmp rfl rfl)) ?_
 refine RK.c (S.move .none rfl (.tmp rfl rfl)) ?_
 refine RK.c (S.slen Tryz.underlying9 .none rfl (.tmp rfl rfl)) ?_
 refine RK.c (S.geq .none rfl (.tmp rfl rfl) (.tmp rfl rfl)) ?_
 refine RK.c (S.move .none rfl (.tmp rfl rfl)) ?_
 refine RK.splitD (t := 10) rfl (fun g10 => ?_) (fun g10 => ?_)
 ·
  refine RK.c (S.move (.yes rfl rfl rfl rfl) rfl (.tmp rfl rfl)) ?_
  refine RK.c (S.move (.yes rfl rfl rfl rfl) rfl (.tmp rfl rfl)) ?_
  refine RK.c (S.slen Tryz.underlying9 (.yes rfl rfl rfl rfl) rfl (.tmp rfl rfl)) ?_
  refine RK.c (S.strsl str9 (.yes rfl rfl rfl rfl) rfl (.tmp rfl rfl) (.inl ⟨rfl, rfl, rfl⟩) (.inr ⟨_, _, rfl, (.tmp rfl rfl), rfl⟩) (by omega) (by omega) rfl) ?_
  refine RK.c (S.move (.yes rfl rfl rfl rfl) rfl (.tmp rfl rfl)) ?_
  refine RK.c (S.seql (.yes rfl rfl rfl rfl) rfl (.tmp rfl rfl) (.tmp rfl rfl)) ?_
  refine RK.c (S.pickT .none rfl (.tmp rfl rfl) (.tmp rfl rfl) rfl) ?_
  refine RK.c (S.assign .none rfl (.tmp rfl rfl)) ?_
  refine RK.nil (Ab.D.code ?_)
  refine OK.ret (Ret.r1 (.tmp rfl rfl (.c (.same rfl) rfl) rfl) ?_)
  refine ret_b (decide_eq_decide.2 ?_)
  cases l with
  | nil => simp at g10
  | cons x r => simp
 ·
  refine RK.c (S.skip rfl rfl rfl rfl rfl) ?_
  refine RK.c (S.skip rfl rfl rfl rfl rfl) ?_
  refine RK.c (S.skip rfl rfl rfl rfl rfl) ?_
  refine RK.c (S.skip rfl rfl rfl rfl rfl) ?_
  refine RK.c (S.skip rfl rfl rfl rfl rfl) ?_
  refine RK.c (S.skip rfl rfl rfl rfl rfl) ?_
  refine RK.c (S.pickF .none rfl (.tmp rfl rfl) .cbool rfl) ?_
  refine RK.c (S.assign .none rfl (.tmp rfl rfl)) ?_
  refine RK.nil (Ab.D.code ?_)
  refine OK.ret (Ret.r1 (.tmp rfl rfl (.c (.same rfl) rfl) rfl) ?_)
  refine ret_b (decide_eq_false ?_).symm
  rw [List.length_eq_zero_iff.1 (show l.length = 0 by simp at g10; omega)]
  simp
theorem sl_TrimPrefix {l : List UInt8} (hl : l.length ≤ 100000) : Ct Tryz.prog 152 [.str l, .str [45]] (.str (trimC l)) := by
 refine Ct.intro (rs := [.tmp 4]) Tryz.func152 rfl Tryz.ntmps152 Tryz.results152 rfl rfl rfl fun w h => ?_
 refine OK.seq (OK.reg ?_)
 refine RK.c (S.assign .none rfl (.cstr (l := []) rfl (by decide))) ?_
 refine RK.nil (Ab.D.code (OK.seq (OK.seq (OK.reg ?_))))
 refine RK.c (S.move .none rfl (.tmp rfl rfl)) ?_
 refine RK.c (S.move .none rfl (.tmp rfl rfl)) ?_
 refine RK.c (S.call (sl_HasPrefix (l := l) (c := 45) hl) Tryz.call187 .none rfl (.cons (.tmp rfl rfl) (.cons (.tmp rfl rfl) .nil)) rfl) ?_
 refine RK.nil (Ab.D.code ?_)
 refine OK.condD rfl rfl (fun c7 => ?_) (fun c7 => ?_)
 ·
  refine OK.seq (OK.reg ?_)
  refine RK.c (S.move .none rfl (.tmp rfl rfl)) ?_
  refine RK.c (S.move .none rfl (.tmp rfl rfl)) ?_
  refine RK.c (S.slen Tryz.underlying9 .none rfl (.tmp rfl rfl)) ?_
  refine RK.c (S.strsl (lo := 1) (l' := l.drop 1) str9 .none rfl (.tmp rfl rfl) (.inr ⟨_, _, rfl, (.tmp rfl rfl), rfl⟩) (.inl ⟨rfl, rfl, rfl⟩) (by have := c7; cases l with | nil => cases this | cons _ _ => simp) (by omega) (by rw [List.take_length])) ?_
  refine RK.c (S.assign .none rfl (.tmp rfl rfl)) ?_
  refine RK.nil (Ab.D.code ?_)
  refine OK.ret (Ret.r1 (.tmp rfl rfl (.c (.same rfl) rfl) rfl) ?_)
  rw [show trimC l = l.drop 1 from if_pos c7]
 ·
  refine OK.skip ?_
  refine Ab.D.code (OK.seq (OK.reg ?_))
  refine RK.c (S.move .none rfl (.tmp rfl rfl)) ?_
  refine RK.c (S.assign .none rfl (.tmp rfl rfl)) ?_
  refine RK.nil (Ab.D.code ?_)
  refine OK.ret (Ret.r1 (.tmp rfl rfl (.c (.same rfl) rfl) rfl) ?_)
  rw [show trimC l = l from if_neg c7]
theorem str_TrimPrefix {l : List UInt8} (hl : l.length ≤ 100000) : Ct Tryz.prog 117 [.str l, .str [45]] (.str (trimC l)) := by
 refine Ct.intro (rs := [.tmp 4]) Tryz.func117 rfl Tryz.ntmps117 Tryz.results117 rfl rfl rfl fun w h => ?_
 refine OK.seq (OK.reg ?_)
 refine RK.c (S.assign .none rfl (.cstr (l := []) rfl (by decide))) ?_
 refine RK.nil (Ab.D.code (OK.seq (OK.reg ?_)))
 refine RK.c (S.move .none rfl (.tmp rfl rfl)) ?_
 refine RK.c (S.move .none rfl (.tmp rfl rfl)) ?_
 refine RK.c (S.call (sl_TrimPrefix (by omega)) Tryz.call152 .none rfl (.cons (.tmp rfl rfl) (.cons (.tmp rfl rfl) .nil)) rfl) ?_
 refine RK.c (S.assign .none rfl (.tmp rfl rfl)) ?_
 refine RK.nil (Ab.D.code ?_)
 refine OK.ret (Ret.r1 (.tmp rfl rfl (.c (.same rfl) rfl) rfl) ?_)
 rfl
theorem mon_number {l : List UInt8} {b : Bool} (hl : l.length ≤ 100000) : CtT Tryz.prog 61 [.str l, .bool b] (.tup [.int .i64 (atoiV l), .bool (numM l b 7)]) := by
 refine CtT.intro (rs := [.tmp 4, .tmp 5]) Tryz.func61 rfl Tryz.ntmps61 Tryz.results61 rfl rfl rfl fun w h hT => ?_
 refine OK.seq (OK.reg ?_)
 refine RK.c (S.assign .none rfl (.cint rfl)) ?_
 refine RK.c (S.assign .none rfl .cbool) ?_
 refine RK.nil (Ab.D.code (OK.seq (OK.reg ?_)))
 refine RK.c (S.move .none rfl (.tmp rfl rfl)) ?_
 refine RK.c (S.callT (atoi_ct hl) hT Tryz.call116 .none rfl (.cons (.tmp rfl rfl) .nil) rfl) ?_
 refine RK.c (S.move .none rfl (.tmp rfl rfl)) ?_
 refine RK.c (S.extract .none rfl (.tmp rfl rfl) rfl rfl) ?_
 refine RK.c (S.extract .none rfl (.tmp rfl rfl) rfl rfl) ?_
 refine RK.c (S.assign .none rfl (.tmp rfl rfl)) ?_
 refine RK.c (S.assign .none rfl (.tmp rfl rfl)) ?_
 refine RK.nil (Ab.D.code (OK.seq (OK.reg ?_)))
 refine RK.c (S.move .none rfl (.tmp rfl rfl)) ?_
 refine RK.c (S.move .none rfl (.tmp rfl rfl)) ?_
 refine RK.c (S.eqerr Tryz.underlying193 .none rfl (.tmp rfl rfl)) ?_
 refine RK.c (S.move .none rfl (.tmp rfl rfl)) ?_
 refine RK.split (t := 16) rfl (fun g16 => ?_) (fun g16 => ?_)
 ·
  refine RK.c (S.move (.yes rfl rfl rfl rfl) rfl (.tmp rfl rfl)) ?_
  refine RK.c (S.callT (itoa_ct (atoi_rng l)) hT Tryz.call54 (.yes rfl rfl rfl rfl) rfl (.cons (.tmp rfl rfl) .nil) rfl) ?_
  refine RK.c (S.move (.yes rfl rfl rfl rfl) rfl (.tmp rfl rfl)) ?_
  refine RK.c (S.seql (.yes rfl rfl rfl rfl) rfl (.tmp rfl rfl) (.tmp rfl rfl)) ?_
  refine RK.c (S.pickT .none rfl (.tmp rfl rfl) (.tmp rfl rfl) rfl) ?_
  refine RK.c (S.move .none rfl (.tmp rfl rfl)) ?_
  refine RK.splitD (t := 22) rfl (fun g22 => ?_) (fun g22 => ?_)
  ·
   refine RK.c (S.move (.yes rfl rfl rfl rfl) rfl (.tmp rfl rfl)) ?_
   refine RK.c (S.move (.yes rfl rfl rfl rfl) rfl (.tmp rfl rfl)) ?_
   refine RK.split (t := 24) rfl (fun g24 => ?_) (fun g24 => ?_)
   ·
    refine RK.c (S.skip rfl rfl rfl rfl rfl) ?_
    refine RK.c (S.skip rfl rfl rfl rfl rfl) ?_
    refine RK.c (S.pickT (.yes rfl rfl rfl rfl) rfl (.tmp rfl rfl) .cbool rfl) ?_
    refine RK.c (S.pickT .none rfl (.tmp rfl rfl) (.tmp rfl rfl) rfl) ?_
    refine RK.c (S.move .none rfl (.tmp rfl rfl)) ?_
    refine RK.c (S.move (.yes rfl rfl rfl rfl) rfl (.tmp rfl rfl)) ?_
    refine RK.c (S.call (str_TrimPrefix (l := l) hl) Tryz.call117 (.yes rfl rfl rfl rfl) rfl (.cons (.tmp rfl rfl) (.cons (.cstr (l := [45]) rfl (by decide)) .nil)) rfl) ?_
    refine RK.c (S.slen Tryz.underlying9 (.yes rfl rfl rfl rfl) rfl (.tmp rfl rfl)) ?_
    refine RK.c (S.leq (.yes rfl rfl rfl rfl) rfl (.tmp rfl rfl) (.cint rfl)) ?_
    refine RK.c (S.pickT .none rfl (.tmp rfl rfl) (.tmp rfl rfl) rfl) ?_
    refine RK.c (S.assign .none rfl (.tmp rfl rfl)) ?_
    refine RK.c (S.assign .none rfl (.tmp rfl rfl)) ?_
    refine RK.nil (Ab.D.code ?_)
    refine OK.ret (Ret.r2 (.tmp rfl rfl (.c (.same rfl) rfl) rfl) (.tmp rfl rfl (.c (.same rfl) rfl) rfl) ?_)
    exact congrArg (fun z => X.tup [X.int .i64 (atoiV l), X.bool z]) (by unfold numM; simp_all <;> (intros; omega))
   ·
    refine RK.c (S.move (.yes rfl rfl rfl rfl) rfl (.tmp rfl rfl)) ?_
    refine RK.c (S.geq (.yes rfl rfl rfl rfl) rfl (.tmp rfl rfl) (.cint rfl)) ?_
    refine RK.c (S.pickF (.yes rfl rfl rfl rfl) rfl (.tmp rfl rfl) (.tmp rfl rfl) rfl) ?_
    refine RK.c (S.pickT .none rfl (.tmp rfl rfl) (.tmp rfl rfl) rfl) ?_
    refine RK.c (S.move .none rfl (.tmp rfl rfl)) ?_
    refine RK.splitD (t := 29) rfl (fun g29 => ?_) (fun g29 => ?_)
    ·
     refine RK.c (S.move (.yes rfl rfl rfl rfl) rfl (.tmp rfl rfl)) ?_
     refine RK.c (S.call (str_TrimPrefix (l := l) hl) Tryz.call117 (.yes rfl rfl rfl rfl) rfl (.cons (.tmp rfl rfl) (.cons (.cstr (l := [45]) rfl (by decide)) .nil)) rfl) ?_
     refine RK.c (S.slen Tryz.underlying9 (.yes rfl rfl rfl rfl) rfl (.tmp rfl rfl)) ?_
     refine RK.c (S.leq (.yes rfl rfl rfl rfl) rfl (.tmp rfl rfl) (.cint rfl)) ?_
     refine RK.c (S.pickT .none rfl (.tmp rfl rfl) (.tmp rfl rfl) rfl) ?_
     refine RK.c (S.assign .none rfl (.tmp rfl rfl)) ?_
     refine RK.c (S.assign .none rfl (.tmp rfl rfl)) ?_
     refine RK.nil (Ab.D.code ?_)
     refine OK.ret (Ret.r2 (.tmp rfl rfl (.c (.same rfl) rfl) rfl) (.tmp rfl rfl (.c (.same rfl) rfl) rfl) ?_)
     exact congrArg (fun z => X.tup [X.int .i64 (atoiV l), X.bool z]) (by unfold numM; simp_all <;> (intros; omega))
    ·
     refine RK.c (S.skip rfl rfl rfl rfl rfl) ?_
     refine RK.c (S.skip rfl rfl rfl rfl rfl) ?_
     refine RK.c (S.skip rfl rfl rfl rfl rfl) ?_
     refine RK.c (S.skip rfl rfl rfl rfl rfl) ?_
     refine RK.c (S.pickF .none rfl (.tmp rfl rfl) .cbool rfl) ?_
     refine RK.c (S.assign .none rfl (.tmp rfl rfl)) ?_
     refine RK.c (S.assign .none rfl (.tmp rfl rfl)) ?_
     refine RK.nil (Ab.D.code ?_)
     refine OK.ret (Ret.r2 (.tmp rfl rfl (.c (.same rfl) rfl) rfl) (.tmp rfl rfl (.c (.same rfl) rfl) rfl) ?_)
     exact congrArg (fun z => X.tup [X.int .i64 (atoiV l), X.bool z]) (by unfold numM; simp_all <;> (intros; omega))
  ·
   refine RK.c (S.skip rfl rfl rfl rfl rfl) ?_
   refine RK.c (S.skip rfl rfl rfl rfl rfl) ?_
   refine RK.c (S.skipU rfl rfl rfl rfl) ?_
   refine RK.c (S.skipU rfl rfl rfl rfl) ?_
   refine RK.c (S.skip rfl rfl rfl rfl rfl) ?_
   refine RK.c (S.pickF .none rfl (.tmp rfl rfl) .cbool rfl) ?_
   refine RK.c (S.move .none rfl (.tmp rfl rfl)) ?_
   refine RK.c (S.skip rfl rfl rfl rfl rfl) ?_
   refine RK.c (S.skip rfl rfl rfl rfl rfl) ?_
   refine RK.c (S.skip rfl rfl rfl rfl rfl) ?_
   refine RK.c (S.skip rfl rfl rfl rfl rfl) ?_
   refine RK.c (S.pickF .none rfl (.tmp rfl rfl) .cbool rfl) ?_
   refine RK.c (S.assign .none rfl (.tmp rfl rfl)) ?_
   refine RK.c (S.assign .none rfl (.tmp rfl rfl)) ?_
   refine RK.nil (Ab.D.code ?_)
   refine OK.ret (Ret.r2 (.tmp rfl rfl (.c (.same rfl) rfl) rfl) (.tmp rfl rfl (.c (.same rfl) rfl) rfl) ?_)
   exact congrArg (fun z => X.tup [X.int .i64 (atoiV l), X.bool z]) (by unfold numM; simp_all <;> (intros; omega))
 ·
  refine RK.c (S.skip rfl rfl rfl rfl rfl) ?_
  refine RK.c (S.skip rfl rfl rfl rfl rfl) ?_
  refine RK.c (S.skip rfl rfl rfl rfl rfl) ?_
  refine RK.c (S.skip rfl rfl rfl rfl rfl) ?_
  refine RK.c (S.pickF .none rfl (.tmp rfl rfl) .cbool rfl) ?_
  refine RK.c (S.move .none rfl (.tmp rfl rfl)) ?_
  refine RK.c (S.skip rfl rfl rfl rfl rfl) ?_
  refine RK.c (S.skip rfl rfl rfl rfl rfl) ?_
  refine RK.c (S.skipU rfl rfl rfl rfl) ?_
  refine RK.c (S.skipU rfl rfl rfl rfl) ?_
  refine RK.c (S.skip rfl rfl rfl rfl rfl) ?_
  refine RK.c (S.pickF .none rfl (.tmp rfl rfl) .cbool rfl) ?_
  refine RK.c (S.move .none rfl (.tmp rfl rfl)) ?_
  refine RK.c (S.skip rfl rfl rfl rfl rfl) ?_
  refine RK.c (S.skip rfl rfl rfl rfl rfl) ?_
  refine RK.c (S.skip rfl rfl rfl rfl rfl) ?_
  refine RK.c (S.skip rfl rfl rfl rfl rfl) ?_
  refine RK.c (S.pickF .none rfl (.tmp rfl rfl) .cbool rfl) ?_
  refine RK.c (S.assign .none rfl (.tmp rfl rfl)) ?_
  refine RK.c (S.assign .none rfl (.tmp rfl rfl)) ?_
  refine RK.nil (Ab.D.code ?_)
  refine OK.ret (Ret.r2 (.tmp rfl rfl (.c (.same rfl) rfl) rfl) (.tmp rfl rfl (.c (.same rfl) rfl) rfl) ?_)
  exact congrArg (fun z => X.tup [X.int .i64 (atoiV l), X.bool z]) (by unfold numM; simp_all <;> (intros; omega))
set_option maxHeartbeats 1000000 in
theorem mon_numbers {l : List (List UInt8)} (hl : l.length ≤ 100000) (hw : ∀ w ∈ l, w.length ≤ 100000) : CtT Tryz.prog 65 [.sl (l.map fun s => [.str s])] (.tup [ints ((gath num1 l).getD []), .bool (gath num1 l).isSome]) := by
 refine CtT.intro (rs := [.tmp 2, .tmp 3]) Tryz.func65 rfl Tryz.ntmps65 Tryz.results65 rfl rfl rfl fun w h hT => ?_
 refine OK.seq (OK.reg ?_)
 refine RK.c (S.assign .none rfl .cnil) ?_
 refine RK.c (S.assign .none rfl .cbool) ?_
 refine RK.nil (Ab.D.code (OK.seq (OK.reg ?_)))
 refine RK.c (S.nilOwn (k := 4) (sz := 1) .none rfl) ?_
 refine RK.nil (Ab.D.code (OK.seq (OK.seq (OK.reg ?_))))
 refine RK.c (S.move .none rfl (.tmp rfl rfl)) ?_
 refine RK.c (S.lenM si22 .none rfl (.tmp rfl rfl)) ?_
 refine RK.c (S.move .none rfl (.cint rfl)) ?_
 refine RK.nil (Ab.D.code ?_)
 refine OK.block ?_
 refine OK.loop2 [4] (fun (i : Nat) (out : List Int) => [(4, .own 4 out.length), (2004, .arr 1 (out.map (fun n => [.int .i64 n]))), (9, .sl (l.map fun s => [.str s])), (10, .int .i64 l.length), (11, .int .i64 i)]) (fun i out => i ≤ l.length ∧ gath num1 l = (gath num1 (l.drop i)).map (out ++ ·) ∧ out.length ≤ i) (fun i out => l.length - i) (0) ([]) ⟨Nat.zero_le _, by rw [List.drop_zero]; cases gath num1 l <;> simp, Nat.le_refl _⟩ ⟨(lk_own (by first | rfl | (simp; done) | (simp; omega))), (lk_arr (by first | rfl | (simp; done) | (simp; omega))), rfl, rfl, rfl, trivial⟩ (fun _ _ => rfl) ?_
 rintro i out ⟨hi, hg, hol⟩
 refine OK.seq (OK.reg ?_)
 refine RK.c (S.lss .none rfl (.tmp rfl rfl) (.tmp rfl rfl)) ?_
 refine RK.nil (Ab.D.code ?_)
 refine OK.seq ?_
 refine OK.condD rfl rfl (fun c12 => ?_) (fun c12 => ?_)
 ·
  have hil : i < l.length := by omega
  have hwl := hw _ (List.getElem_mem hil)
  refine OK.skip ?_
  refine Ab.D.code ?_
  refine OK.seq ?_
  refine OK.block ?_
  refine OK.seq (OK.reg ?_)
  refine RK.c (S.indexM (n := i) si22 .none rfl (.tmp rfl rfl) (.tmp rfl rfl) rfl (by omega) rfl) ?_
  refine RK.c (S.load1 ti9 .none rfl (.tmp rfl rfl) rfl) ?_
  refine RK.c (S.assign .none rfl (.tmp rfl rfl)) ?_
  refine RK.nil (Ab.D.code (OK.seq (OK.reg ?_)))
  refine RK.c (S.move .none rfl (.tmp rfl rfl)) ?_
  refine RK.c (S.callT (mon_number (l := l[i]) (b := true) hwl) hT Tryz.call61 .none rfl (.cons (.tmp rfl rfl) (.cons .cbool .nil)) rfl) ?_
  refine RK.c (S.move .none rfl (.tmp rfl rfl)) ?_
  refine RK.c (S.extract .none rfl (.tmp rfl rfl) rfl rfl) ?_
  refine RK.c (S.extract .none rfl (.tmp rfl rfl) rfl rfl) ?_
  refine RK.c (S.assign .none rfl (.tmp rfl rfl)) ?_
  refine RK.c (S.assign .none rfl (.tmp rfl rfl)) ?_
  refine RK.nil (Ab.D.code (OK.seq (OK.seq (OK.reg ?_))))
  refine RK.c (S.move .none rfl (.tmp rfl rfl)) ?_
  refine RK.c (S.not .none rfl (.tmp rfl rfl)) ?_
  refine RK.nil (Ab.D.code ?_)
  refine OK.cond rfl rfl (fun c21 => ?_) (fun c21 => ?_)
  ·
   have hs : sgnC l[i] 7 = false := by rw [← numM_T]; simpa using c21
   have hge := gath_no hg hil (num1_F hs)
   refine OK.seq (OK.reg ?_)
   refine RK.c (S.assign .none rfl .cnil) ?_
   refine RK.c (S.assign .none rfl .cbool) ?_
   refine RK.nil (Ab.D.code ?_)
   refine OK.ret (Ret.r2 (.tmp rfl rfl (.c (.same rfl) rfl) rfl) (.tmp rfl rfl (.c (.same rfl) rfl) rfl) ?_)
   rw [hge]
   all_goals rfl
  ·
   have hs : sgnC l[i] 7 = true := by rw [← numM_T]; simpa using c21
   refine OK.skip ?_
   refine Ab.D.code (OK.reg ?_)
   refine RK.c (S.move .none rfl (.tmp rfl rfl)) ?_
   refine RK.c (S.move .none rfl (.tmp rfl rfl)) ?_
   refine RK.c (S.mkSlice (k := 24) (rows := [[_]]) ai25 .none rfl (.cons (.tmp rfl rfl) .nil) rfl rfl rfl rfl rfl rfl rfl) ?_
   refine RK.c (S.append ai25 .none rfl (.tmp rfl rfl) rfl (by simp) (.tmp rfl rfl) rfl (by first | rfl | (simp; done) | (simp; omega)) (by omega) (by simp only [maxLen]; omega)) ?_
   refine RK.c (S.assign .none rfl (.tmp rfl rfl)) ?_
   refine RK.nil ?_
   refine Ab.D.blk ?_
   refine Ab.D.code (OK.reg ?_)
   refine RK.c (S.add .none rfl (.tmp rfl rfl) (.cint rfl) (IntWalk.i64_in _ (by omega)) (IntWalk.i64_in _ (by omega))) ?_
   refine RK.c (S.move .none rfl (.tmp rfl rfl)) ?_
   refine RK.nil ?_
   refine Ab.D.lp ⟨i + 1, out ++ [atoiV l[i]], ⟨by omega, gath_on hg hil (by rw [num1_T hs, numM_v hs]), by simp; omega⟩, (by omega), (lk_own (by simp)), (lk_arr (by simp)), rfl, rfl, rfl, trivial⟩
 ·
  have hge := gath_end hg (show i = l.length by omega)
  refine OK.exit rfl ?_
  refine Ab.D.code (OK.seq (OK.reg ?_))
  refine RK.c (S.move .none rfl (.tmp rfl rfl)) ?_
  refine RK.c (S.assign .none rfl (.tmp rfl rfl)) ?_
  refine RK.c (S.assign .none rfl .cbool) ?_
  refine RK.nil (Ab.D.code ?_)
  refine OK.ret (Ret.r2 (.tmp rfl rfl (.c (.own rfl rfl (by first | rfl | (simp; done) | (simp; omega))) rfl) rfl) (.tmp rfl rfl (.c (.same rfl) rfl) rfl) ?_)
  rw [hge]
  all_goals rfl
theorem mon_joined {l : List Int} (hl : l.length ≤ 100000) : CtT Tryz.prog 55 [ints l] (.str (numsI l)) := by
 refine CtT.intro (rs := [.tmp 2]) Tryz.func55 rfl Tryz.ntmps55 Tryz.results55 rfl rfl rfl fun w h hT => ?_
 refine OK.slRep (t := 0) rfl rfl fun hR => ?_
 have hW := ints_rep hR
 clear hR
 refine OK.seq (OK.reg ?_)
 refine RK.c (S.assign .none rfl (.cstr (l := []) rfl (by decide))) ?_
 refine RK.nil (Ab.D.code (OK.seq (OK.reg ?_)))
 refine RK.c (S.nilOwn (k := 3) (sz := 1) .none rfl) ?_
 refine RK.nil (Ab.D.code (OK.seq (OK.seq (OK.reg ?_))))
 refine RK.c (S.move .none rfl (.tmp rfl rfl)) ?_
 refine RK.c (S.lenM si25 .none rfl (.tmp rfl rfl)) ?_
 refine RK.c (S.move .none rfl (.cint rfl)) ?_
 refine RK.nil (Ab.D.code ?_)
 refine OK.block ?_
 refine OK.loop (G := Nat) [3] (fun i => [(3, .own 3 i), (2003, .arr 1 (((l.take i).map Lib.itoa).map fun s => [.str s])), (6, ints l), (7, .int .i64 l.length), (8, .int .i64 i)]) (fun i => i ≤ l.length) (fun i => l.length - i) 0 (Nat.zero_le _) ⟨(lk_own (by first | rfl | (simp; done) | (simp; omega))), (lk_arr (by first | rfl | (simp; done) | (simp; omega))), rfl, rfl, rfl, trivial⟩ (fun _ => rfl) ?_
 rintro i hi
 refine OK.seq (OK.reg ?_)
 refine RK.c (S.lss .none rfl (.tmp rfl rfl) (.tmp rfl rfl)) ?_
 refine RK.nil (Ab.D.code ?_)
 refine OK.seq ?_
 refine OK.condD rfl rfl (fun c9 => ?_) (fun c9 => ?_)
 ·
  have hwi := hW _ (List.getElem_mem (show i < l.length by omega))
  refine OK.skip ?_
  refine Ab.D.code ?_
  refine OK.seq ?_
  refine OK.block ?_
  refine OK.seq (OK.reg ?_)
  refine RK.c (S.indexM (n := i) si25 .none rfl (.tmp rfl rfl) (.tmp rfl rfl) rfl (by omega) rfl) ?_
  refine RK.c (S.load1 ti3 .none rfl (.tmp rfl rfl) rfl) ?_
  refine RK.c (S.assign .none rfl (.tmp rfl rfl)) ?_
  refine RK.nil (Ab.D.code (OK.reg ?_))
  refine RK.c (S.move .none rfl (.tmp rfl rfl)) ?_
  refine RK.c (S.move .none rfl (.tmp rfl rfl)) ?_
  refine RK.c (S.callT (itoa_ct hwi) hT Tryz.call54 .none rfl (.cons (.tmp rfl rfl) .nil) rfl) ?_
  refine RK.c (S.mkSlice (k := 15) (rows := [[_]]) ai22 .none rfl (.cons (.tmp rfl rfl) .nil) rfl rfl rfl rfl rfl rfl rfl) ?_
  refine RK.c (S.append ai22 .none rfl (.tmp rfl rfl) rfl (by simp; omega) (.tmp rfl rfl) rfl (by first | rfl | (simp; done) | (simp; omega)) (by omega) (by simp only [maxLen]; omega)) ?_
  refine RK.c (S.assign .none rfl (.tmp rfl rfl)) ?_
  refine RK.nil ?_
  refine Ab.D.blk ?_
  refine Ab.D.code (OK.reg ?_)
  refine RK.c (S.add .none rfl (.tmp rfl rfl) (.cint rfl) (IntWalk.i64_in _ (by omega)) (IntWalk.i64_in _ (by omega))) ?_
  refine RK.c (S.move .none rfl (.tmp rfl rfl)) ?_
  refine RK.nil ?_
  refine Ab.D.lp ⟨i + 1, (by omega), (by omega), (lk_own (by omega)), (lk_arr (by rw [List.take_succ_eq_append_getElem (by omega), List.map_append, List.map_append]; rfl)), rfl, rfl, rfl, trivial⟩
 ·
  refine OK.exit rfl ?_
  refine Ab.D.code ?_
  refine OK.seq ?_
  rw [show i = l.length by omega, List.take_length]
  refine OK.reg ?_
  refine RK.c (S.move .none rfl (.tmp rfl rfl)) ?_
  refine RK.c (S.callL (joinI.ct (l := l.map Lib.itoa) (sep := [32]) (by rw [List.length_map]; omega) (by have := numsI_len hW hl; show (numsI l).length ≤ _; omega)) Tryz.call53 .none rfl (.cons (.tmp rfl rfl) (.cons (.cstr (l := [32]) rfl (by decide)) .nil)) (.cons (.p (.own rfl (by simp)) rfl) (.cons (.same rfl) .nil)) rfl) ?_
  refine RK.c (S.assign .none rfl (.tmp rfl rfl)) ?_
  refine RK.nil (Ab.D.code ?_)
  refine OK.ret (Ret.r1 (.tmp rfl rfl (.c (.same rfl) rfl) rfl) ?_)
  rfl
end Go.Proofs.YtpmglnphhhlbdaaGreatDoor
namespace Go.Proofs.YtpmglnphhhlbdaaGreatDoor
open Go.Ab
def fmtFrame (f : Frame) : List UInt8 := numsI (f.tick :: f.values)
theorem mon_FormatFrame {f : Frame} (hv : f.values.length ≤ 1000) : CtT Tryz.prog 11 [.agg f.cs] (.str (fmtFrame f)) := by
 refine CtT.intro (rs := [.tmp 2]) Tryz.func11 rfl Tryz.ntmps11 Tryz.results11 rfl rfl rfl fun w h hT => ?_
 refine OK.seq (OK.reg ?_)
 refine RK.c (S.box (k := 1) rfl .none rfl (.tmp rfl rfl) rfl) ?_
 refine RK.c (S.assign .none rfl (.cstr (l := []) rfl (by decide))) ?_
 refine RK.nil (Ab.D.code (OK.seq (OK.reg ?_)))
 refine RK.c (S.bfield fi27_0 .none rfl (.tmp rfl rfl)) ?_
 refine RK.c (S.bload1 ti3 .none rfl (.tmp rfl rfl) rfl rfl rfl rfl) ?_
 refine RK.c (S.mkSlice (k := 5) (rows := [[_]]) ai25 .none rfl (.cons (.tmp rfl rfl) .nil) rfl rfl rfl rfl rfl rfl rfl) ?_
 refine RK.c (S.bfield fi27_1 .none rfl (.tmp rfl rfl)) ?_
 refine RK.c (S.bload1 ti25 .none rfl (.tmp rfl rfl) rfl rfl rfl rfl) ?_
 refine RK.c (S.appendSl ai25 .none rfl (.tmp rfl rfl) rfl (by first | rfl | (simp; done) | (simp; omega)) (.tmp rfl rfl) (by intro q hq; obtain ⟨x, _, rfl⟩ := List.mem_map.1 hq; rfl) (List.length_map ..) (by omega) (by simp only [maxLen]; omega)) ?_
 refine RK.c (S.callLT (mon_joined (l := f.tick :: f.values) (by rw [List.length_cons]; omega)) hT Tryz.call55 .none rfl (.cons (.tmp rfl rfl) .nil) (.cons (.p (.own rfl (by simp; omega)) rfl) .nil) rfl) ?_
 refine RK.c (S.assign .none rfl (.tmp rfl rfl)) ?_
 refine RK.nil (Ab.D.code ?_)
 refine OK.ret (Ret.r1 (.tmp rfl rfl (.c (.same rfl) rfl) rfl) ?_)
 rfl
end Go.Proofs.YtpmglnphhhlbdaaGreatDoor
namespace Go.Proofs.YtpmglnphhhlbdaaGreatDoor
open Go.Ab
theorem split_cnt {c : UInt8} {l : List UInt8} : (splitC c l).length ≤ l.length + 1 := by
  rw [split_len]
  have : Lib.countByte l c ≤ l.length := List.count_le_length
  omega
theorem split_0 (c : UInt8) (l : List UInt8) : 0 < (splitC c l).length := List.length_pos_iff.2 (split_ne c l)
def natI (w : List UInt8) : Bool := sgnC w 7 && decide (0 ≤ sgnV w)
theorem numM_F {w : List UInt8} : numM w false 7 = natI w := num_nb (by decide)
theorem natI_v {w : List UInt8} (h : natI w = true) : sgnC w 7 = true ∧ 0 ≤ sgnV w ∧ atoiV w = sgnV w := by
  unfold natI at h
  rw [Bool.and_eq_true, decide_eq_true_eq] at h
  exact ⟨h.1, h.2, numM_v h.1⟩
def parseF (l : List UInt8) : Frame × Int := if natI ((splitC 32 l).getD 0 []) = true then match gath num1 ((splitC 32 l).drop 1) with
  | some vs => (⟨sgnV ((splitC 32 l).getD 0 []), vs⟩, 0)
  | none => (⟨0, []⟩, 7)
  else (⟨0, []⟩, 7)
theorem getD_0 {l : List (List UInt8)} (h : 0 < l.length) : l.getD 0 [] = l[0] := getD_lt h
theorem parseF_F {l : List UInt8} (h : natI ((splitC 32 l)[0]'(split_0 32 l)) = false) : parseF l = (⟨0, []⟩, 7) := by
  unfold parseF
  rw [getD_0 (split_0 32 l), if_neg (by rw [h]; decide)]
theorem parseF_N {l : List UInt8} (h : gath num1 ((splitC 32 l).drop 1) = none) : parseF l = (⟨0, []⟩, 7) := by
  unfold parseF
  rw [h]
  split <;> rfl
theorem parseF_S {l : List UInt8} {vs : List Int} (h : natI ((splitC 32 l)[0]'(split_0 32 l)) = true) (h2 : gath num1 ((splitC 32 l).drop 1) = some vs) : parseF l = (⟨sgnV ((splitC 32 l)[0]'(split_0 32 l)), vs⟩, 0) := by
  unfold parseF
  rw [getD_0 (split_0 32 l), if_pos h, h2]
set_option maxHeartbeats 1000000 in
theorem mon_ParseFrame {l : List UInt8} (hl : l.length ≤ 100000 - 1) : CtT Tryz.prog 19 [.str l] (.tup [.agg (parseF l).1.cs, .int .i64 (parseF l).2]) := by
 refine CtT.intro (rs := [.cell 2 27, .tmp 3]) Tryz.func19 rfl Tryz.ntmps19 Tryz.results19 rfl rfl rfl fun w h hT => ?_
 have hw0 := split_0 32 l
 have hcn := split_cnt (c := 32) (l := l)
 have hwl : ∀ w ∈ splitC 32 l, w.length ≤ 100000 := fun w hw => by have := split_sub w hw; omega
 refine OK.seq (OK.reg ?_)
 refine RK.c (S.alloc (k := 2) ze27 rfl .none rfl) ?_
 refine RK.c (S.assign .none rfl (.cint rfl)) ?_
 refine RK.nil (Ab.D.code (OK.seq (OK.reg ?_)))
 refine RK.c (S.move .none rfl (.tmp rfl rfl)) ?_
 refine RK.c (S.call (str_Split (l := l) (c := 32) (by omega)) Tryz.call60 .none rfl (.cons (.tmp rfl rfl) (.cons (.cstr (l := [32]) rfl (by decide)) .nil)) rfl) ?_
 refine RK.c (S.assign .none rfl (.tmp rfl rfl)) ?_
 refine RK.nil (Ab.D.code (OK.seq (OK.reg ?_)))
 refine RK.c (S.move .none rfl (.tmp rfl rfl)) ?_
 refine RK.c (S.indexM (n := 0) si22 .none rfl (.tmp rfl rfl) (.cint rfl) rfl hw0 rfl) ?_
 refine RK.c (S.load1 ti9 .none rfl (.tmp rfl rfl) rfl) ?_
 refine RK.c (S.callT (mon_number (l := (splitC 32 l)[0]) (b := false) (hwl _ (List.getElem_mem hw0))) hT Tryz.call61 .none rfl (.cons (.tmp rfl rfl) (.cons .cbool .nil)) rfl) ?_
 refine RK.c (S.move .none rfl (.tmp rfl rfl)) ?_
 refine RK.c (S.extract .none rfl (.tmp rfl rfl) rfl rfl) ?_
 refine RK.c (S.extract .none rfl (.tmp rfl rfl) rfl rfl) ?_
 refine RK.c (S.assign .none rfl (.tmp rfl rfl)) ?_
 refine RK.c (S.assign .none rfl (.tmp rfl rfl)) ?_
 refine RK.nil (Ab.D.code (OK.seq (OK.reg ?_)))
 refine RK.c (S.move .none rfl (.tmp rfl rfl)) ?_
 refine RK.c (S.slice (lo := 1) (l' := (splitC 32 l).drop 1) si22 (fun _ => rfl) .none rfl (.tmp rfl rfl) (.inr ⟨_, _, rfl, (.cint rfl), rfl⟩) (.inl ⟨rfl, rfl, rfl⟩) (by omega) (by omega) (by rw [List.take_length])) ?_
 refine RK.c (S.callT (mon_numbers (l := (splitC 32 l).drop 1) (by rw [List.length_drop]; omega) (fun w hw => hwl w (List.mem_of_mem_drop hw))) hT Tryz.call65 .none rfl (.cons (.tmp rfl rfl) .nil) rfl) ?_
 refine RK.c (S.move .none rfl (.tmp rfl rfl)) ?_
 refine RK.c (S.extract .none rfl (.tmp rfl rfl) rfl rfl) ?_
 refine RK.c (S.extract .none rfl (.tmp rfl rfl) rfl rfl) ?_
 refine RK.c (S.assign .none rfl (.tmp rfl rfl)) ?_
 refine RK.c (S.assign .none rfl (.tmp rfl rfl)) ?_
 refine RK.nil (Ab.D.code (OK.seq (OK.seq (OK.reg ?_))))
 refine RK.c (S.move .none rfl (.tmp rfl rfl)) ?_
 refine RK.c (S.not .none rfl (.tmp rfl rfl)) ?_
 refine RK.c (S.move .none rfl (.tmp rfl rfl)) ?_
 refine RK.split (t := 26) rfl (fun g26 => ?_) (fun g26 => ?_)
 ·
  have hn0 : natI (splitC 32 l)[0] = false := by rw [← numM_F]; simpa using g26
  have hpf := parseF_F hn0
  refine RK.c (S.skip rfl rfl rfl rfl rfl) ?_
  refine RK.c (S.skip rfl rfl rfl rfl rfl) ?_
  refine RK.c (S.pickT .none rfl (.tmp rfl rfl) .cbool rfl) ?_
  refine RK.nil (Ab.D.code ?_)
  refine OK.condT rfl rfl rfl ?_
  refine OK.seq (OK.reg ?_)
  refine RK.c (S.build bu27 rfl .none rfl .nil rfl rfl) ?_
  refine RK.c (S.store ti27 .none (.tmp rfl rfl) (.tmp rfl rfl) rfl rfl rfl rfl rfl rfl) ?_
  refine RK.c (S.assign .none rfl (.cint rfl)) ?_
  refine RK.nil (Ab.D.code ?_)
  refine OK.ret (Ret.r2 (.cellN rfl rfl rfl rfl ti27 rfl (.k (.same rfl) (.k .nils .z))) (.tmp rfl rfl (.c (.same rfl) rfl) rfl) ?_)
  rw [hpf]
  all_goals rfl
 ·
  have hn0 : natI (splitC 32 l)[0] = true := by rw [← numM_F]; simpa using g26
  obtain ⟨hv1, hv2, hv3⟩ := natI_v hn0
  refine RK.c (S.move (.yes rfl rfl rfl rfl) rfl (.tmp rfl rfl)) ?_
  refine RK.c (S.not (.yes rfl rfl rfl rfl) rfl (.tmp rfl rfl)) ?_
  refine RK.c (S.pickF .none rfl (.tmp rfl rfl) (.tmp rfl rfl) rfl) ?_
  refine RK.nil (Ab.D.code ?_)
  refine OK.cond rfl rfl (fun c29 => ?_) (fun c29 => ?_)
  ·
   have hgn : gath num1 ((splitC 32 l).drop 1) = none := by simpa using c29
   have hpf := parseF_N hgn
   refine OK.seq (OK.reg ?_)
   refine RK.c (S.build bu27 rfl .none rfl .nil rfl rfl) ?_
   refine RK.c (S.store ti27 .none (.tmp rfl rfl) (.tmp rfl rfl) rfl rfl rfl rfl rfl rfl) ?_
   refine RK.c (S.assign .none rfl (.cint rfl)) ?_
   refine RK.nil (Ab.D.code ?_)
   refine OK.ret (Ret.r2 (.cellN rfl rfl rfl rfl ti27 rfl (.k (.same rfl) (.k .nils .z))) (.tmp rfl rfl (.c (.same rfl) rfl) rfl) ?_)
   rw [hpf]
   all_goals rfl
  ·
   obtain ⟨vs, hgs⟩ : ∃ vs, gath num1 ((splitC 32 l).drop 1) = some vs := Option.isSome_iff_exists.1 (by simpa using c29)
   have hpf := parseF_S hn0 hgs
   rw [hgs, hv3]
   refine OK.skip ?_
   refine Ab.D.code (OK.seq (OK.reg ?_))
   refine RK.c (S.move .none rfl (.tmp rfl rfl)) ?_
   refine RK.c (S.move .none rfl (.tmp rfl rfl)) ?_
   refine RK.c (S.build bu27 rfl .none rfl (.cons (.tmp rfl rfl) (.cons (.tmp rfl rfl) .nil)) rfl rfl) ?_
   refine RK.c (S.store ti27 .none (.tmp rfl rfl) (.tmp rfl rfl) rfl rfl rfl rfl rfl rfl) ?_
   refine RK.c (S.assign .none rfl (.cint rfl)) ?_
   refine RK.nil (Ab.D.code ?_)
   refine OK.ret (Ret.r2 (.cellN rfl rfl rfl rfl ti27 rfl (.k (.same rfl) (.k (.same rfl) .z))) (.tmp rfl rfl (.c (.same rfl) rfl) rfl) ?_)
   rw [hpf]
   all_goals rfl
end Go.Proofs.YtpmglnphhhlbdaaGreatDoor
