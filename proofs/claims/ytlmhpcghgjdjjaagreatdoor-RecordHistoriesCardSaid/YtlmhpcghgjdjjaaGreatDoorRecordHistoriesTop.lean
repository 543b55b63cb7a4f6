import Derived.Handy
import Derived.Lay
import Derived.SevenTiedAt
import Derived.Test.YtlmhpcghgjdjjaaGreatDoorCards
import Derived.Test.YtlmhpcghgjdjjaaGreatDoorRows
import Derived.Test.YtlmhpcghgjdjjaaGreatDoorTie
import Derived.Test.YtlmhpcghgjdjjaaGreatDoorRecordHistoriesTopA
import Derived.Test.YtlmhpcghgjdjjaaGreatDoorRecordHistoriesTopB
import Derived.Test.YtlmhpcghgjdjjaaGreatDoorVdH
/-
 RecordHistories:for every input the law returns true,and each argument reads behind the call as it read before;the row lists tables of the library's,and the card ties them to the program's text. No other condition.
-/
namespace Go.Proofs.YtlmhpcghgjdjjaaGreatDoor.recordHistories
open Go.Proofs.Z_
open Go.Ab Go.ChangeShapes Go.WideShapes Go.ChangeAt Go.RowKit
theorem own:ownKnob Tryz.prog.godebug=none:=by kernel_rfl
theorem laidOut:laidOutB Tryz.prog=true:=by kernel_rfl
def tys:List Ty:=[(.st (.cons (.sl (.st (.cons .str (.cons (.int .i64) .nil)))) (.cons .str (.cons (.int .i64) (.cons (.st (.cons (.int .i64) (.cons (.int .i64) .nil))) .nil))))),(.sl (.st (.cons (.int .i64) (.cons .str (.cons .str .nil))))),(.int .i64)]
theorem tysAre:Hq Tryz.prog tys Tryz.f4.params.toList:=by
 rw[Tryz.params4];exact⟨rfl,⟨_,Tryz.underlying26,by kernel_rfl,⟨rfl,by kernel_rfl,⟨_,Tryz.underlying22,by kernel_rfl,by decide,⟨_,Tryz.underlying127,by kernel_rfl,⟨rfl,by kernel_rfl,Tryz.underlying9,⟨rfl,by kernel_rfl,Tryz.underlying3,rfl⟩⟩⟩⟩,⟨rfl,by kernel_rfl,Tryz.underlying9,⟨rfl,by kernel_rfl,Tryz.underlying3,⟨rfl,by kernel_rfl,⟨_,Tryz.underlying24,by kernel_rfl,⟨rfl,by kernel_rfl,Tryz.underlying3,⟨rfl,by kernel_rfl,Tryz.underlying3,rfl⟩⟩⟩,rfl⟩⟩⟩⟩⟩,by kernel_rfl,of_decide_eq_true (by kernel_rfl),⟨rfl,⟨_,Tryz.underlying27,by kernel_rfl,by decide,⟨_,Tryz.underlying95,by kernel_rfl,⟨rfl,by kernel_rfl,Tryz.underlying3,⟨rfl,by kernel_rfl,Tryz.underlying9,⟨rfl,by kernel_rfl,Tryz.underlying9,rfl⟩⟩⟩⟩⟩,by kernel_rfl,of_decide_eq_true (by kernel_rfl),⟨rfl,Tryz.underlying3,by kernel_rfl,of_decide_eq_true (by kernel_rfl),trivial⟩⟩⟩
theorem starErr : "*" ++ "errors.errorString" = "*errors.errorString" := by decide
theorem UJ (u : TypeId) (h : Tryz.prog.typeName? 3 u = some "*errors.errorString") : u = 479 :=
 typeName_ptr_named (nm := "errors.errorString") (by rw [starErr]; kernel_rfl) (by kernel_rfl) (by decide) u (by rw [starErr]; exact h)
theorem powLaid:(Rows.laid_internal_strconv_uint64pow10:DataW Unit)=Lib.tabData .u64 Lib.pow10Tab:=by kernel_rfl
theorem namLaid:(Rows.laid_martensite_recipe_names:DataW Unit)=strData XC:=by kernel_rfl
theorem tabs {W : World} (h0 : laidMetH Tryz.prog [("math/bits.deBruijn32tab", Rows.laid_math_bits_deBruijn32tab), ("math/bits.deBruijn64tab", Rows.laid_math_bits_deBruijn64tab), ("internal/strconv.uint64pow10", Rows.laid_internal_strconv_uint64pow10), ("unicode/utf8.acceptRanges", Rows.laid_unicode_utf8_acceptRanges), ("strconv.ErrRange", Rows.laid_strconv_ErrRange), ("strconv.ErrSyntax", Rows.laid_strconv_ErrSyntax), ("martensite/recipe.names", Rows.laid_martensite_recipe_names), ("unicode/utf8.first", Rows.laid_unicode_utf8_first)] W) : OJ Tryz.prog W := by
 rw[MakeChecks.laidMetH_plain _ _ _ (by kernel_rfl)]at h0;have h:=h0;have d:=h.tail.tail;rw[powLaid]at d;have c:=h.tail.tail.tail.tail.tail.tail;rw[namLaid]at c;refine OJ.of_laidN (Lib.tabIs_of_head (g:=3) (t:=476) (e:=252) (n:=20) (by kernel_rfl) (by kernel_rfl) Tryz.underlying476 Tryz.underlying252 (by kernel_rfl) (by kernel_rfl) d) ?_ ?_ (fun _ _=>strs_of_head (g:=4) (t:=473) (e:=9) (n:=6) (by kernel_rfl) (by kernel_rfl) Tryz.underlying473 Tryz.underlying9 (by kernel_rfl) (by kernel_rfl) c)
 ·obtain⟨a,s,b,_⟩:=laid_sentinel (g:=2) (h.tail.tail.tail.tail) (by kernel_rfl) (by kernel_rfl) Tryz.underlying270 UJ Tryz.underlying479 Tryz.underlying481 rfl rfl Tryz.underlying9 (by kernel_rfl) (by kernel_rfl);exact⟨_,_,b⟩
 ·obtain⟨a,s,b,_⟩:=laid_sentinel (g:=1) (h.tail.tail.tail.tail.tail) (by kernel_rfl) (by kernel_rfl) Tryz.underlying270 UJ Tryz.underlying479 Tryz.underlying481 rfl rfl Tryz.underlying9 (by kernel_rfl) (by kernel_rfl);exact⟨_,_,b⟩
theorem contract:∀xs,C9 tys xs→Q7 Tryz.prog 4 xs (.bool true):=by
 intro xs h
 match xs,h with
 |[x0,x1,x2],h=>
  obtain⟨⟨c,rfl,h0⟩,b,a,_⟩:=h;obtain⟨f,rfl⟩:=cW h0;obtain⟨e,rfl⟩:=AB b;obtain⟨d,rfl⟩:=sh_int a;exact law_RecordHistories
 |[],h=>exact h.elim
 |[_],h=>exact h.2.elim
 |[_,_],h=>exact h.2.2.elim
 |_::_::_::_::_,h=>exact h.2.2.2.elim
set_option maxRecDepth 100000 in
theorem lifted(os:Os)(started:os.Started)(H:Type)(enc:TypeId×Value→H):
  ReturnsInHanded {} Tryz.checked os 4 .any (fun w args => (Rows.recordHistoriesSpec.pre enc Tryz.prog Tryz.f4 [] false w args ∧ laidMetH Tryz.prog [("math/bits.deBruijn32tab", Rows.laid_math_bits_deBruijn32tab), ("math/bits.deBruijn64tab", Rows.laid_math_bits_deBruijn64tab), ("internal/strconv.uint64pow10", Rows.laid_internal_strconv_uint64pow10), ("unicode/utf8.acceptRanges", Rows.laid_unicode_utf8_acceptRanges), ("strconv.ErrRange", Rows.laid_strconv_ErrRange), ("strconv.ErrSyntax", Rows.laid_strconv_ErrSyntax), ("martensite/recipe.names", Rows.laid_martensite_recipe_names), ("unicode/utf8.first", Rows.laid_unicode_utf8_first)] w) ∧ sizedMet enc Tryz.prog Tryz.f4 (OpenSpec.ofChange Rows.recordHistoriesSpec) false w args)
   (Rows.recordHistoriesSpec.post enc Tryz.prog Tryz.f4 false true false false):=by
 refine returnsInHanded_of_change_and (C := Tryz.checked) (X := fun w _ => laidMetH Tryz.prog [("math/bits.deBruijn32tab", Rows.laid_math_bits_deBruijn32tab), ("math/bits.deBruijn64tab", Rows.laid_math_bits_deBruijn64tab), ("internal/strconv.uint64pow10", Rows.laid_internal_strconv_uint64pow10), ("unicode/utf8.acceptRanges", Rows.laid_unicode_utf8_acceptRanges), ("strconv.ErrRange", Rows.laid_strconv_ErrRange), ("strconv.ErrSyntax", Rows.laid_strconv_ErrSyntax), ("martensite/recipe.names", Rows.laid_martensite_recipe_names), ("unicode/utf8.first", Rows.laid_unicode_utf8_first)] w) (fun _ _ _ hh h => h.of_heap hh) own started (by kernel_rfl) Tryz.func4
  (ChangeSpec.witness_shaped (enc := enc) (C := Tryz.checked) (os := os) (X := fun w _ => laidMetH Tryz.prog [("math/bits.deBruijn32tab", Rows.laid_math_bits_deBruijn32tab), ("math/bits.deBruijn64tab", Rows.laid_math_bits_deBruijn64tab), ("internal/strconv.uint64pow10", Rows.laid_internal_strconv_uint64pow10), ("unicode/utf8.acceptRanges", Rows.laid_unicode_utf8_acceptRanges), ("strconv.ErrRange", Rows.laid_strconv_ErrRange), ("strconv.ErrSyntax", Rows.laid_strconv_ErrSyntax), ("martensite/recipe.names", Rows.laid_martensite_recipe_names), ("unicode/utf8.first", Rows.laid_unicode_utf8_first)] w) false (World.laidAll Tryz.prog os [("math/bits.deBruijn32tab", Rows.laid_math_bits_deBruijn32tab), ("math/bits.deBruijn64tab", Rows.laid_math_bits_deBruijn64tab), ("internal/strconv.uint64pow10", Rows.laid_internal_strconv_uint64pow10), ("unicode/utf8.acceptRanges", Rows.laid_unicode_utf8_acceptRanges), ("strconv.ErrRange", Rows.laid_strconv_ErrRange), ("strconv.ErrSyntax", Rows.laid_strconv_ErrSyntax), ("martensite/recipe.names", Rows.laid_martensite_recipe_names), ("unicode/utf8.first", Rows.laid_unicode_utf8_first)]) #[.agg #[.slice none 0 0, .string ⟨#[]⟩, .int .i64 (0), .int .i64 (0), .int .i64 (0)], .slice none 0 0, .int .i64 (0)] 8 (World.laidAll_os _ _ _)
   (World.shaped_of_ZipB (by kernel_rfl) (by kernel_rfl)) (by kernel_rfl) (by kernel_rfl) (by kernel_rfl)
   (by rw[MakeChecks.laidMetH_plain _ _ _ (by kernel_rfl)];exact laidMet_laidAll _ (by kernel_rfl) (by kernel_rfl))) ?_
 intro W d args e k before a g c _ i _;have b:∀(j:Nat) t v,Tryz.f4.params[j]?=some t→args[j]?=some v→Value.okWide Tryz.prog W .any d t v:=a;clear c a;exact law_callsT (P:=Tryz.prog) (f:=4) (fn:=Tryz.f4) (s:=Rows.recordHistoriesSpec) (Ts:=tys) (tb:=4) (apart:=false) (fresh:=true) (handsOn:=false) contract (tabs i) laidOut tysAre rfl (by kernel_rfl) Tryz.underlying4
  (fun e h=>by
   rw[Tryz.params4]at h
   match e,h with
   |[_,_,_],_=>rfl) b g
end Go.Proofs.YtlmhpcghgjdjjaaGreatDoor.recordHistories
namespace Go.Proofs.YtlmhpcghgjdjjaaGreatDoor
open Go.Proofs.Z_
open Go.ChangeAt
theorem andT{a b:Bool}(d:a=true)(c:b=true):(a&&b)=true:=by simp_all
theorem recordHistories_k1:(laidOutB Tryz.prog)=true:=recordHistories.laidOut
set_option maxRecDepth 100000 in
theorem recordHistories_closed:joinedFacts Tryz.prog 4 Tryz.f4 Rows.recordHistoriesSpec Rows.recordHistoriesRow=true:=by
 unfold joinedFacts;exact(andT (andT (andT (andT (andT (andT (andT (andT (andT (andT (andT (andT (andT (andT (andT (andT (andT (andT (andT (andT (andT (andT (andT (andT (andT (andT (andT (andT (andT (andT (andT recordHistories_k0 recordHistories_k1) recordHistories_k2) recordHistories_k3) recordHistories_k4) recordHistories_k5) recordHistories_k6) recordHistories_k7) recordHistories_k8) recordHistories_k9) recordHistories_k10) recordHistories_k11) recordHistories_k12) recordHistories_k13) recordHistories_k14) recordHistories_k15) recordHistories_k16) recordHistories_k17) recordHistories_k18) recordHistories_k19) recordHistories_k20) recordHistories_k21) recordHistories_k22) recordHistories_k23) recordHistories_k24) recordHistories_k25) recordHistories_k26) recordHistories_k27) recordHistories_k28) recordHistories_k29) recordHistories_k30) recordHistories_k31)
theorem recordHistories_named:Tryz.prog.funcNamed Rows.recordHistoriesRow.func=some 4:=by kernel_rfl
theorem recordHistories_inst:Tryz.f4.isInstance Tryz.prog Rows.recordHistoriesRow.origin Rows.recordHistoriesRow.targs:=of_decide_eq_true (by kernel_rfl)
theorem recordHistories_wrap:Tryz.f4.isWrapper Tryz.prog Rows.recordHistoriesRow.wrapper Rows.recordHistoriesRow.mainSum:=by unfold Func.isWrapper;first|(rw[if_pos (by decide+kernel)];kernel_rfl)|(rw[if_neg (by decide+kernel)];exact⟨rfl,rfl⟩)
theorem recordHistories_row:Rows.RecordHistoriesSaid:=
 OpenClaim.holds_of_wide (p:=Tryz.pinned) 4 Tryz.f4 rfl rfl rfl rfl rfl rfl rfl ⟨rfl,rfl,rfl,rfl,rfl⟩ rfl rfl rfl rfl rfl recordHistories_named Tryz.func4 recordHistories_closed
  recordHistories_inst recordHistories_wrap
  (fun os started H a _=>recordHistories.lifted os started H a)
theorem recordHistories_wf:Rows.recordHistoriesRow.wfByText (OpenSpec.ofChange Rows.recordHistoriesSpec)=true:=by kernel_rfl
theorem recordHistories_main : Tryz.prog.mainIs = some ((true, "4ad1bbcb3c530d9207308623131e9eecf577eb894104c70bab65d7a734a47619").1, (true, "4ad1bbcb3c530d9207308623131e9eecf577eb894104c70bab65d7a734a47619").2.toList) := by kernel_rfl
theorem recordHistories_nm : Tryz.prog.funcNamed "martensite/martensitelaw10.RecordHistories" = some 4 := by kernel_rfl
theorem recordHistories_looks:true=Tryz.prog.looks []:=by kernel_rfl
theorem recordHistories_all:([26,27,3].all fun u=>!Tryz.prog.wantsStandIn u)=true:=by kernel_rfl
theorem recordHistories_goes:false=Rows.recordHistoriesRow.goesBy Tryz.prog:=by kernel_rfl
theorem recordHistories_holds:Rows.RecordHistoriesCardSaid:=
 Claim7.holds_tied_plain_at .later [] [.data, .data, .data, .data, .sentinel, .sentinel, .data, .pinned] true (true, "4ad1bbcb3c530d9207308623131e9eecf577eb894104c70bab65d7a734a47619") true recordHistories_row (fun _ h => by cases h) recordHistories_wf (fun _ h => by cases h) recordHistories_row_tie rfl ⟨rfl, rfl⟩ recordHistories_main rfl
  (fun f fn e b=>by
   obtain rfl:f=4:=Option.some.inj (recordHistories_nm.symm.trans e)|>.symm
   obtain rfl:fn=Tryz.f4:=(Option.some.inj (Tryz.func4.symm.trans b)).symm;exact⟨recordHistories_looks,fun j t c=>by
    rw[Tryz.params4]at c;have d:t∈[26,27,3]:=by simpa using Array.mem_of_getElem? c
    have a:=recordHistories_all;exact(show Tryz.prog.wantsStandIn t=false by simpa using List.all_eq_true.1 a t d)⟩)
  recordHistories_goes
end Go.Proofs.YtlmhpcghgjdjjaaGreatDoor
