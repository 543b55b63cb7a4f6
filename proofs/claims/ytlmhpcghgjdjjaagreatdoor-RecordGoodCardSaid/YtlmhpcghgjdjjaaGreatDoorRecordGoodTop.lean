import Derived.Handy
import Derived.Lay
import Derived.SevenTiedAt
import Derived.Test.YtlmhpcghgjdjjaaGreatDoorCards
import Derived.Test.YtlmhpcghgjdjjaaGreatDoorRows
import Derived.Test.YtlmhpcghgjdjjaaGreatDoorTie
import Derived.Test.YtlmhpcghgjdjjaaGreatDoorRecordGoodTopA
import Derived.Test.YtlmhpcghgjdjjaaGreatDoorRecordGoodTopB
import Derived.Test.YtlmhpcghgjdjjaaGreatDoorVjG
/-
 RecordGood:for every input the law returns true,and each argument reads behind the call as it read before;the row lists tables of the library's,and the card ties them to the program's text. No other condition.
-/
namespace Go.Proofs.YtlmhpcghgjdjjaaGreatDoor.recordGood
open Go.Proofs.Z_
open Go.Ab Go.ChangeShapes Go.WideShapes Go.ChangeAt Go.RowKit
theorem own:ownKnob Tryz.prog.godebug=none:=by kernel_rfl
theorem laidOut:laidOutB Tryz.prog=true:=by kernel_rfl
def tys:List Ty:=[(.st (.cons (.sl (.st (.cons .str (.cons (.int .i64) .nil)))) (.cons .str (.cons (.int .i64) (.cons (.st (.cons (.int .i64) (.cons (.int .i64) .nil))) .nil))))),(.sl (.st (.cons (.int .i64) (.cons .str (.cons .str .nil)))))]
theorem tysAre:Hq Tryz.prog tys Tryz.f6.params.toList:=by
 rw[Tryz.params6];exact⟨rfl,⟨_,Tryz.underlying26,by kernel_rfl,⟨rfl,by kernel_rfl,⟨_,Tryz.underlying22,by kernel_rfl,by decide,⟨_,Tryz.underlying127,by kernel_rfl,⟨rfl,by kernel_rfl,Tryz.underlying9,⟨rfl,by kernel_rfl,Tryz.underlying3,rfl⟩⟩⟩⟩,⟨rfl,by kernel_rfl,Tryz.underlying9,⟨rfl,by kernel_rfl,Tryz.underlying3,⟨rfl,by kernel_rfl,⟨_,Tryz.underlying24,by kernel_rfl,⟨rfl,by kernel_rfl,Tryz.underlying3,⟨rfl,by kernel_rfl,Tryz.underlying3,rfl⟩⟩⟩,rfl⟩⟩⟩⟩⟩,by kernel_rfl,of_decide_eq_true (by kernel_rfl),⟨rfl,⟨_,Tryz.underlying27,by kernel_rfl,by decide,⟨_,Tryz.underlying95,by kernel_rfl,⟨rfl,by kernel_rfl,Tryz.underlying3,⟨rfl,by kernel_rfl,Tryz.underlying9,⟨rfl,by kernel_rfl,Tryz.underlying9,rfl⟩⟩⟩⟩⟩,by kernel_rfl,of_decide_eq_true (by kernel_rfl),trivial⟩⟩
theorem starErr : "*" ++ "errors.errorString" = "*errors.errorString" := by decide
theorem UJ (u : TypeId) (h : Tryz.prog.typeName? 3 u = some "*errors.errorString") : u = 479 :=
 typeName_ptr_named (nm := "errors.errorString") (by rw [starErr]; kernel_rfl) (by kernel_rfl) (by decide) u (by rw [starErr]; exact h)
theorem powLaid:(Rows.laid_internal_strconv_uint64pow10:DataW Unit)=Lib.tabData .u64 Lib.pow10Tab:=by kernel_rfl
theorem namLaid:(Rows.laid_martensite_recipe_names:DataW Unit)=strData XC:=by kernel_rfl
theorem tabs {W : World} (h0 : laidMetH Tryz.prog [("math/bits.deBruijn32tab", Rows.laid_math_bits_deBruijn32tab), ("math/bits.deBruijn64tab", Rows.laid_math_bits_deBruijn64tab), ("internal/strconv.uint64pow10", Rows.laid_internal_strconv_uint64pow10), ("unicode/utf8.acceptRanges", Rows.laid_unicode_utf8_acceptRanges), ("strconv.ErrRange", Rows.laid_strconv_ErrRange), ("strconv.ErrSyntax", Rows.laid_strconv_ErrSyntax), ("martensite/recipe.names", Rows.laid_martensite_recipe_names), ("unicode/utf8.first", Rows.laid_unicode_utf8_first)] W) : OJ Tryz.prog W := by
 rw[MakeChecks.laidMetH_plain _ _ _ (by kernel_rfl)]at h0;have h:=h0;have d:=h.tail.tail;rw[powLaid]at d;have c:=h.tail.tail.tail.tail.tail.tail;rw[namLaid]at c;refine OJ.of_laidN (Lib.tabIs_of_head (g:=3) (t:=476) (e:=252) (n:=20) (by kernel_rfl) (by kernel_rfl) Tryz.underlying476 Tryz.underlying252 (by kernel_rfl) (by kernel_rfl) d) ?_ ?_ (fun _ _=>strs_of_head (g:=4) (t:=473) (e:=9) (n:=6) (by kernel_rfl) (by kernel_rfl) Tryz.underlying473 Tryz.underlying9 (by kernel_rfl) (by kernel_rfl) c)
 ·obtain⟨a,s,b,_⟩:=laid_sentinel (g:=2) (h.tail.tail.tail.tail) (by kernel_rfl) (by kernel_rfl) Tryz.underlying270 UJ Tryz.underlying479 Tryz.underlying481 rfl rfl Tryz.underlying9 (by kernel_rfl) (by kernel_rfl);exact⟨_,_,b⟩
 ·obtain⟨a,s,b,_⟩:=laid_sentinel (g:=1) (h.tail.tail.tail.tail.tail) (by kernel_rfl) (by kernel_rfl) Tryz.underlying270 UJ Tryz.underlying479 Tryz.underlying481 rfl rfl Tryz.underlying9 (by kernel_rfl) (by kernel_rfl);exact⟨_,_,b⟩
theorem contract:∀xs,C9 tys xs→Q7 Tryz.prog 6 xs (.bool true):=by
 intro xs h
 match xs,h with
 |[x0,x1],h=>
  obtain⟨⟨b,rfl,h0⟩,a,_⟩:=h;obtain⟨d,rfl⟩:=cW h0;obtain⟨c,rfl⟩:=AB a;exact law_RecordGood
 |[],h=>exact h.elim
 |[_],h=>exact h.2.elim
 |_::_::_::_,h=>exact h.2.2.elim
set_option maxRecDepth 100000 in
theorem lifted(os:Os)(started:os.Started)(H:Type)(enc:TypeId×Value→H):
  ReturnsInHanded {} Tryz.checked os 6 .any (fun w args => (Rows.recordGoodSpec.pre enc Tryz.prog Tryz.f6 [] false w args ∧ laidMetH Tryz.prog [("math/bits.deBruijn32tab", Rows.laid_math_bits_deBruijn32tab), ("math/bits.deBruijn64tab", Rows.laid_math_bits_deBruijn64tab), ("internal/strconv.uint64pow10", Rows.laid_internal_strconv_uint64pow10), ("unicode/utf8.acceptRanges", Rows.laid_unicode_utf8_acceptRanges), ("strconv.ErrRange", Rows.laid_strconv_ErrRange), ("strconv.ErrSyntax", Rows.laid_strconv_ErrSyntax), ("martensite/recipe.names", Rows.laid_martensite_recipe_names), ("unicode/utf8.first", Rows.laid_unicode_utf8_first)] w) ∧ sizedMet enc Tryz.prog Tryz.f6 (OpenSpec.ofChange Rows.recordGoodSpec) false w args)
   (Rows.recordGoodSpec.post enc Tryz.prog Tryz.f6 false true false false):=by
 refine returnsInHanded_of_change_and (C := Tryz.checked) (X := fun w _ => laidMetH Tryz.prog [("math/bits.deBruijn32tab", Rows.laid_math_bits_deBruijn32tab), ("math/bits.deBruijn64tab", Rows.laid_math_bits_deBruijn64tab), ("internal/strconv.uint64pow10", Rows.laid_internal_strconv_uint64pow10), ("unicode/utf8.acceptRanges", Rows.laid_unicode_utf8_acceptRanges), ("strconv.ErrRange", Rows.laid_strconv_ErrRange), ("strconv.ErrSyntax", Rows.laid_strconv_ErrSyntax), ("martensite/recipe.names", Rows.laid_martensite_recipe_names), ("unicode/utf8.first", Rows.laid_unicode_utf8_first)] w) (fun _ _ _ hh h => h.of_heap hh) own started (by kernel_rfl) Tryz.func6
  (ChangeSpec.witness_shaped (enc := enc) (C := Tryz.checked) (os := os) (X := fun w _ => laidMetH Tryz.prog [("math/bits.deBruijn32tab", Rows.laid_math_bits_deBruijn32tab), ("math/bits.deBruijn64tab", Rows.laid_math_bits_deBruijn64tab), ("internal/strconv.uint64pow10", Rows.laid_internal_strconv_uint64pow10), ("unicode/utf8.acceptRanges", Rows.laid_unicode_utf8_acceptRanges), ("strconv.ErrRange", Rows.laid_strconv_ErrRange), ("strconv.ErrSyntax", Rows.laid_strconv_ErrSyntax), ("martensite/recipe.names", Rows.laid_martensite_recipe_names), ("unicode/utf8.first", Rows.laid_unicode_utf8_first)] w) false (World.laidAll Tryz.prog os [("math/bits.deBruijn32tab", Rows.laid_math_bits_deBruijn32tab), ("math/bits.deBruijn64tab", Rows.laid_math_bits_deBruijn64tab), ("internal/strconv.uint64pow10", Rows.laid_internal_strconv_uint64pow10), ("unicode/utf8.acceptRanges", Rows.laid_unicode_utf8_acceptRanges), ("strconv.ErrRange", Rows.laid_strconv_ErrRange), ("strconv.ErrSyntax", Rows.laid_strconv_ErrSyntax), ("martensite/recipe.names", Rows.laid_martensite_recipe_names), ("unicode/utf8.first", Rows.laid_unicode_utf8_first)]) #[.agg #[.slice none 0 0, .string ⟨#[]⟩, .int .i64 (0), .int .i64 (0), .int .i64 (0)], .slice none 0 0] 8 (World.laidAll_os _ _ _)
   (World.shaped_of_ZipB (by kernel_rfl) (by kernel_rfl)) (by kernel_rfl) (by kernel_rfl) (by kernel_rfl)
   (by rw[MakeChecks.laidMetH_plain _ _ _ (by kernel_rfl)];exact laidMet_laidAll _ (by kernel_rfl) (by kernel_rfl))) ?_
 intro W d args e k before a g c _ i _;have b:∀(j:Nat) t v,Tryz.f6.params[j]?=some t→args[j]?=some v→Value.okWide Tryz.prog W .any d t v:=a;clear c a;exact law_callsT (P:=Tryz.prog) (f:=6) (fn:=Tryz.f6) (s:=Rows.recordGoodSpec) (Ts:=tys) (tb:=4) (apart:=false) (fresh:=true) (handsOn:=false) contract (tabs i) laidOut tysAre rfl (by kernel_rfl) Tryz.underlying4
  (fun e h=>by
   rw[Tryz.params6]at h
   match e,h with
   |[_,_],_=>rfl) b g
end Go.Proofs.YtlmhpcghgjdjjaaGreatDoor.recordGood
namespace Go.Proofs.YtlmhpcghgjdjjaaGreatDoor
open Go.Proofs.Z_
open Go.ChangeAt
theorem andT{a b:Bool}(d:a=true)(c:b=true):(a&&b)=true:=by simp_all
theorem recordGood_k1:(laidOutB Tryz.prog)=true:=recordGood.laidOut
set_option maxRecDepth 100000 in
theorem recordGood_closed:joinedFacts Tryz.prog 6 Tryz.f6 Rows.recordGoodSpec Rows.recordGoodRow=true:=by
 unfold joinedFacts;exact(andT (andT (andT (andT (andT (andT (andT (andT (andT (andT (andT (andT (andT (andT (andT (andT (andT (andT (andT (andT (andT (andT (andT (andT (andT (andT (andT (andT (andT (andT (andT recordGood_k0 recordGood_k1) recordGood_k2) recordGood_k3) recordGood_k4) recordGood_k5) recordGood_k6) recordGood_k7) recordGood_k8) recordGood_k9) recordGood_k10) recordGood_k11) recordGood_k12) recordGood_k13) recordGood_k14) recordGood_k15) recordGood_k16) recordGood_k17) recordGood_k18) recordGood_k19) recordGood_k20) recordGood_k21) recordGood_k22) recordGood_k23) recordGood_k24) recordGood_k25) recordGood_k26) recordGood_k27) recordGood_k28) recordGood_k29) recordGood_k30) recordGood_k31)
theorem recordGood_named:Tryz.prog.funcNamed Rows.recordGoodRow.func=some 6:=by kernel_rfl
theorem recordGood_inst:Tryz.f6.isInstance Tryz.prog Rows.recordGoodRow.origin Rows.recordGoodRow.targs:=of_decide_eq_true (by kernel_rfl)
theorem recordGood_wrap:Tryz.f6.isWrapper Tryz.prog Rows.recordGoodRow.wrapper Rows.recordGoodRow.mainSum:=by unfold Func.isWrapper;first|(rw[if_pos (by decide+kernel)];kernel_rfl)|(rw[if_neg (by decide+kernel)];exact⟨rfl,rfl⟩)
theorem recordGood_row:Rows.RecordGoodSaid:=
 OpenClaim.holds_of_wide (p:=Tryz.pinned) 6 Tryz.f6 rfl rfl rfl rfl rfl rfl rfl ⟨rfl,rfl,rfl,rfl,rfl⟩ rfl rfl rfl rfl rfl recordGood_named Tryz.func6 recordGood_closed
  recordGood_inst recordGood_wrap
  (fun os started H a _=>recordGood.lifted os started H a)
theorem recordGood_wf:Rows.recordGoodRow.wfByText (OpenSpec.ofChange Rows.recordGoodSpec)=true:=by kernel_rfl
theorem recordGood_main : Tryz.prog.mainIs = some ((true, "4ad1bbcb3c530d9207308623131e9eecf577eb894104c70bab65d7a734a47619").1, (true, "4ad1bbcb3c530d9207308623131e9eecf577eb894104c70bab65d7a734a47619").2.toList) := by kernel_rfl
theorem recordGood_nm : Tryz.prog.funcNamed "martensite/martensitelaw10.RecordGood" = some 6 := by kernel_rfl
theorem recordGood_looks:true=Tryz.prog.looks []:=by kernel_rfl
theorem recordGood_all:([26,27].all fun u=>!Tryz.prog.wantsStandIn u)=true:=by kernel_rfl
theorem recordGood_goes:false=Rows.recordGoodRow.goesBy Tryz.prog:=by kernel_rfl
theorem recordGood_holds:Rows.RecordGoodCardSaid:=
 Claim7.holds_tied_plain_at .later [] [.data, .data, .data, .data, .sentinel, .sentinel, .data, .pinned] true (true, "4ad1bbcb3c530d9207308623131e9eecf577eb894104c70bab65d7a734a47619") true recordGood_row (fun _ h => by cases h) recordGood_wf (fun _ h => by cases h) recordGood_row_tie rfl ⟨rfl, rfl⟩ recordGood_main rfl
  (fun f fn e b=>by
   obtain rfl:f=6:=Option.some.inj (recordGood_nm.symm.trans e)|>.symm
   obtain rfl:fn=Tryz.f6:=(Option.some.inj (Tryz.func6.symm.trans b)).symm;exact⟨recordGood_looks,fun j t c=>by
    rw[Tryz.params6]at c;have d:t∈[26,27]:=by simpa using Array.mem_of_getElem? c
    have a:=recordGood_all;exact(show Tryz.prog.wantsStandIn t=false by simpa using List.all_eq_true.1 a t d)⟩)
  recordGood_goes
end Go.Proofs.YtlmhpcghgjdjjaaGreatDoor
