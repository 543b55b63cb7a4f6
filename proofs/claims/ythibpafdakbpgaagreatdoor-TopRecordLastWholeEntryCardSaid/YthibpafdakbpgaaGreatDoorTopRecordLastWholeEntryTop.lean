import Derived.Handy
import Derived.Lay
import Derived.SevenTiedAt
import Derived.Test.YthibpafdakbpgaaGreatDoorCards
import Derived.Test.YthibpafdakbpgaaGreatDoorRows
import Derived.Test.YthibpafdakbpgaaGreatDoorTie
import Derived.Test.YthibpafdakbpgaaGreatDoorTopRecordLastWholeEntryTopA
import Derived.Test.YthibpafdakbpgaaGreatDoorTopRecordLastWholeEntryTopB
import Derived.Test.YthibpafdakbpgaaGreatDoorVb
/-
 TopRecordLastWholeEntry:for every input the law returns true,and each argument reads behind the call as it read before;the row lists tables of the library's,and the card ties them to the program's text. No other condition.
-/
namespace Go.Proofs.YthibpafdakbpgaaGreatDoor.topRecordLastWholeEntry
open Go.Ab Go.ChangeShapes Go.WideShapes Go.ChangeAt Go.RowKit
theorem own:ownKnob Tryz.prog.godebug=none:=by kernel_rfl
theorem laidOut:laidOutB Tryz.prog=true:=by kernel_rfl
def tys:List Ty:=[(.st (.cons (.sl (.st (.cons .str (.cons (.int .i64) .nil)))) (.cons .str (.cons (.int .i64) (.cons (.st (.cons (.int .i64) (.cons (.int .i64) .nil))) .nil))))),(.sl (.st (.cons (.int .i64) (.cons .str (.cons .str .nil))))),(.int .i64)]
theorem tysAre:Hq Tryz.prog tys Tryz.f6.params.toList:=by
 rw[Tryz.params6];exact⟨rfl,⟨_,Tryz.underlying26,by kernel_rfl,⟨rfl,by kernel_rfl,⟨_,Tryz.underlying22,by kernel_rfl,by decide,⟨_,Tryz.underlying101,by kernel_rfl,⟨rfl,by kernel_rfl,Tryz.underlying9,⟨rfl,by kernel_rfl,Tryz.underlying3,rfl⟩⟩⟩⟩,⟨rfl,by kernel_rfl,Tryz.underlying9,⟨rfl,by kernel_rfl,Tryz.underlying3,⟨rfl,by kernel_rfl,⟨_,Tryz.underlying24,by kernel_rfl,⟨rfl,by kernel_rfl,Tryz.underlying3,⟨rfl,by kernel_rfl,Tryz.underlying3,rfl⟩⟩⟩,rfl⟩⟩⟩⟩⟩,by kernel_rfl,of_decide_eq_true (by kernel_rfl),⟨rfl,⟨_,Tryz.underlying27,by kernel_rfl,by decide,⟨_,Tryz.underlying79,by kernel_rfl,⟨rfl,by kernel_rfl,Tryz.underlying3,⟨rfl,by kernel_rfl,Tryz.underlying9,⟨rfl,by kernel_rfl,Tryz.underlying9,rfl⟩⟩⟩⟩⟩,by kernel_rfl,of_decide_eq_true (by kernel_rfl),⟨rfl,Tryz.underlying3,by kernel_rfl,of_decide_eq_true (by kernel_rfl),trivial⟩⟩⟩
theorem starErr : "*" ++ "errors.errorString" = "*errors.errorString" := by decide
theorem UJ (u : TypeId) (h : Tryz.prog.typeName? 3 u = some "*errors.errorString") : u = 423 :=
 typeName_ptr_named (nm := "errors.errorString") (by rw [starErr]; kernel_rfl) (by kernel_rfl) (by decide) u (by rw [starErr]; exact h)
theorem powLaid:(Rows.laid_internal_strconv_uint64pow10:DataW Unit)=Lib.tabData .u64 Lib.pow10Tab:=by kernel_rfl
theorem namLaid:(Rows.laid_martensite_recipe_names:DataW Unit)=Gw XC:=by kernel_rfl
theorem tabs {W : World} (h0 : laidMetH Tryz.prog [("math/bits.deBruijn32tab", Rows.laid_math_bits_deBruijn32tab), ("math/bits.deBruijn64tab", Rows.laid_math_bits_deBruijn64tab), ("internal/strconv.uint64pow10", Rows.laid_internal_strconv_uint64pow10), ("unicode/utf8.acceptRanges", Rows.laid_unicode_utf8_acceptRanges), ("strconv.ErrRange", Rows.laid_strconv_ErrRange), ("strconv.ErrSyntax", Rows.laid_strconv_ErrSyntax), ("martensite/recipe.names", Rows.laid_martensite_recipe_names), ("unicode/utf8.first", Rows.laid_unicode_utf8_first)] W) : OJ Tryz.prog W := by
 rw[MakeChecks.laidMetH_plain _ _ _ (by kernel_rfl)]at h0;have h:=h0;have d:=h.tail.tail;rw[powLaid]at d;have c:=h.tail.tail.tail.tail.tail.tail;rw[namLaid]at c;refine OJ.mP (Lib.tabIs_of_head (g:=3) (t:=420) (e:=245) (n:=20) (by kernel_rfl) (by kernel_rfl) Tryz.underlying420 Tryz.underlying245 (by kernel_rfl) (by kernel_rfl) d) ?_ ?_ (fun _ _=>yc (g:=8) (t:=474) (e:=9) (n:=6) (by kernel_rfl) (by kernel_rfl) Tryz.underlying474 Tryz.underlying9 (by kernel_rfl) (by kernel_rfl) c)
 ·obtain⟨a,s,b,_⟩:=laid_sentinel (g:=2) (h.tail.tail.tail.tail) (by kernel_rfl) (by kernel_rfl) Tryz.underlying194 UJ Tryz.underlying423 Tryz.underlying425 rfl rfl Tryz.underlying9 (by kernel_rfl) (by kernel_rfl);exact⟨_,_,b⟩
 ·obtain⟨a,s,b,_⟩:=laid_sentinel (g:=1) (h.tail.tail.tail.tail.tail) (by kernel_rfl) (by kernel_rfl) Tryz.underlying194 UJ Tryz.underlying423 Tryz.underlying425 rfl rfl Tryz.underlying9 (by kernel_rfl) (by kernel_rfl);exact⟨_,_,b⟩
theorem contract:∀xs,C9 tys xs→Q7 Tryz.prog 6 xs (.bool true):=by
 intro xs h
 match xs,h with
 |[x0,x1,x2],h=>
  obtain⟨⟨c,rfl,h0⟩,b,a,_⟩:=h;obtain⟨f,rfl⟩:=cW h0;obtain⟨e,rfl⟩:=AB b;obtain⟨d,rfl⟩:=sh_int a;exact DD
 |[],h=>exact h.elim
 |[_],h=>exact h.2.elim
 |[_,_],h=>exact h.2.2.elim
 |_::_::_::_::_,h=>exact h.2.2.2.elim
set_option maxRecDepth 100000 in
theorem lifted(os:Os)(started:os.Started)(H:Type)(enc:TypeId×Value→H):
  ReturnsInHanded {} Tryz.checked os 6 .any (fun w args => (Rows.topRecordLastWholeEntrySpec.pre enc Tryz.prog Tryz.f6 [] false w args ∧ laidMetH Tryz.prog [("math/bits.deBruijn32tab", Rows.laid_math_bits_deBruijn32tab), ("math/bits.deBruijn64tab", Rows.laid_math_bits_deBruijn64tab), ("internal/strconv.uint64pow10", Rows.laid_internal_strconv_uint64pow10), ("unicode/utf8.acceptRanges", Rows.laid_unicode_utf8_acceptRanges), ("strconv.ErrRange", Rows.laid_strconv_ErrRange), ("strconv.ErrSyntax", Rows.laid_strconv_ErrSyntax), ("martensite/recipe.names", Rows.laid_martensite_recipe_names), ("unicode/utf8.first", Rows.laid_unicode_utf8_first)] w) ∧ sizedMet enc Tryz.prog Tryz.f6 (OpenSpec.ofChange Rows.topRecordLastWholeEntrySpec) false w args)
   (Rows.topRecordLastWholeEntrySpec.post enc Tryz.prog Tryz.f6 false true false false):=by
 refine returnsInHanded_of_change_and (C := Tryz.checked) (X := fun w _ => laidMetH Tryz.prog [("math/bits.deBruijn32tab", Rows.laid_math_bits_deBruijn32tab), ("math/bits.deBruijn64tab", Rows.laid_math_bits_deBruijn64tab), ("internal/strconv.uint64pow10", Rows.laid_internal_strconv_uint64pow10), ("unicode/utf8.acceptRanges", Rows.laid_unicode_utf8_acceptRanges), ("strconv.ErrRange", Rows.laid_strconv_ErrRange), ("strconv.ErrSyntax", Rows.laid_strconv_ErrSyntax), ("martensite/recipe.names", Rows.laid_martensite_recipe_names), ("unicode/utf8.first", Rows.laid_unicode_utf8_first)] w) (fun _ _ _ hh h => h.of_heap hh) own started (by kernel_rfl) Tryz.func6
  (ChangeSpec.witness_shaped (enc := enc) (C := Tryz.checked) (os := os) (X := fun w _ => laidMetH Tryz.prog [("math/bits.deBruijn32tab", Rows.laid_math_bits_deBruijn32tab), ("math/bits.deBruijn64tab", Rows.laid_math_bits_deBruijn64tab), ("internal/strconv.uint64pow10", Rows.laid_internal_strconv_uint64pow10), ("unicode/utf8.acceptRanges", Rows.laid_unicode_utf8_acceptRanges), ("strconv.ErrRange", Rows.laid_strconv_ErrRange), ("strconv.ErrSyntax", Rows.laid_strconv_ErrSyntax), ("martensite/recipe.names", Rows.laid_martensite_recipe_names), ("unicode/utf8.first", Rows.laid_unicode_utf8_first)] w) false (World.laidAll Tryz.prog os [("math/bits.deBruijn32tab", Rows.laid_math_bits_deBruijn32tab), ("math/bits.deBruijn64tab", Rows.laid_math_bits_deBruijn64tab), ("internal/strconv.uint64pow10", Rows.laid_internal_strconv_uint64pow10), ("unicode/utf8.acceptRanges", Rows.laid_unicode_utf8_acceptRanges), ("strconv.ErrRange", Rows.laid_strconv_ErrRange), ("strconv.ErrSyntax", Rows.laid_strconv_ErrSyntax), ("martensite/recipe.names", Rows.laid_martensite_recipe_names), ("unicode/utf8.first", Rows.laid_unicode_utf8_first)]) #[.agg #[.slice none 0 0, .string ⟨#[]⟩, .int .i64 (0), .int .i64 (0), .int .i64 (0)], .slice none 0 0, .int .i64 (0)] 8 (World.laidAll_os _ _ _)
   (World.shaped_of_ZipB (by kernel_rfl) (by kernel_rfl)) (by kernel_rfl) (by kernel_rfl) (by kernel_rfl)
   (by rw[MakeChecks.laidMetH_plain _ _ _ (by kernel_rfl)];exact laidMet_laidAll _ (by kernel_rfl) (by kernel_rfl))) ?_
 intro W d args e k before a g c _ i _;have b:∀(j:Nat) t v,Tryz.f6.params[j]?=some t→args[j]?=some v→Value.okWide Tryz.prog W .any d t v:=a;clear c a;exact kH (P:=Tryz.prog) (f:=6) (fn:=Tryz.f6) (s:=Rows.topRecordLastWholeEntrySpec) (Ts:=tys) (tb:=4) (apart:=false) (fresh:=true) (handsOn:=false) contract (tabs i) laidOut tysAre rfl (by kernel_rfl) Tryz.underlying4
  (fun e h=>by
   rw[Tryz.params6]at h
   match e,h with
   |[_,_,_],_=>rfl) b g
end Go.Proofs.YthibpafdakbpgaaGreatDoor.topRecordLastWholeEntry
namespace Go.Proofs.YthibpafdakbpgaaGreatDoor
open Go.ChangeAt
theorem andT{a b:Bool}(d:a=true)(c:b=true):(a&&b)=true:=by simp_all
theorem topRecordLastWholeEntry_k1:(laidOutB Tryz.prog)=true:=topRecordLastWholeEntry.laidOut
set_option maxRecDepth 100000 in
theorem topRecordLastWholeEntry_closed:joinedFacts Tryz.prog 6 Tryz.f6 Rows.topRecordLastWholeEntrySpec Rows.topRecordLastWholeEntryRow=true:=by
 unfold joinedFacts;exact(andT (andT (andT (andT (andT (andT (andT (andT (andT (andT (andT (andT (andT (andT (andT (andT (andT (andT (andT (andT (andT (andT (andT (andT (andT (andT (andT (andT (andT (andT (andT topRecordLastWholeEntry_k0 topRecordLastWholeEntry_k1) topRecordLastWholeEntry_k2) topRecordLastWholeEntry_k3) topRecordLastWholeEntry_k4) topRecordLastWholeEntry_k5) topRecordLastWholeEntry_k6) topRecordLastWholeEntry_k7) topRecordLastWholeEntry_k8) topRecordLastWholeEntry_k9) topRecordLastWholeEntry_k10) topRecordLastWholeEntry_k11) topRecordLastWholeEntry_k12) topRecordLastWholeEntry_k13) topRecordLastWholeEntry_k14) topRecordLastWholeEntry_k15) topRecordLastWholeEntry_k16) topRecordLastWholeEntry_k17) topRecordLastWholeEntry_k18) topRecordLastWholeEntry_k19) topRecordLastWholeEntry_k20) topRecordLastWholeEntry_k21) topRecordLastWholeEntry_k22) topRecordLastWholeEntry_k23) topRecordLastWholeEntry_k24) topRecordLastWholeEntry_k25) topRecordLastWholeEntry_k26) topRecordLastWholeEntry_k27) topRecordLastWholeEntry_k28) topRecordLastWholeEntry_k29) topRecordLastWholeEntry_k30) topRecordLastWholeEntry_k31)
theorem topRecordLastWholeEntry_named:Tryz.prog.funcNamed Rows.topRecordLastWholeEntryRow.func=some 6:=by kernel_rfl
theorem topRecordLastWholeEntry_inst:Tryz.f6.isInstance Tryz.prog Rows.topRecordLastWholeEntryRow.origin Rows.topRecordLastWholeEntryRow.targs:=of_decide_eq_true (by kernel_rfl)
theorem topRecordLastWholeEntry_wrap:Tryz.f6.isWrapper Tryz.prog Rows.topRecordLastWholeEntryRow.wrapper Rows.topRecordLastWholeEntryRow.mainSum:=by unfold Func.isWrapper;first|(rw[if_pos (by decide+kernel)];kernel_rfl)|(rw[if_neg (by decide+kernel)];exact⟨rfl,rfl⟩)
theorem topRecordLastWholeEntry_row:Rows.TopRecordLastWholeEntrySaid:=
 OpenClaim.holds_of_wide (p:=Tryz.pinned) 6 Tryz.f6 rfl rfl rfl rfl rfl rfl rfl ⟨rfl,rfl,rfl,rfl,rfl⟩ rfl rfl rfl rfl rfl topRecordLastWholeEntry_named Tryz.func6 topRecordLastWholeEntry_closed
  topRecordLastWholeEntry_inst topRecordLastWholeEntry_wrap
  (fun os started H a _=>topRecordLastWholeEntry.lifted os started H a)
theorem topRecordLastWholeEntry_wf:Rows.topRecordLastWholeEntryRow.wfByText (OpenSpec.ofChange Rows.topRecordLastWholeEntrySpec)=true:=by kernel_rfl
theorem topRecordLastWholeEntry_main : Tryz.prog.mainIs = some ((true, "7ec43d1cb15b67824a344bec68c96b87f3ec1ab1015bfa1f55148753cd76a2d2").1, (true, "7ec43d1cb15b67824a344bec68c96b87f3ec1ab1015bfa1f55148753cd76a2d2").2.toList) := by kernel_rfl
theorem topRecordLastWholeEntry_nm : Tryz.prog.funcNamed "martensite/martensitetop.TopRecordLastWholeEntry" = some 6 := by kernel_rfl
theorem topRecordLastWholeEntry_looks:true=Tryz.prog.looks []:=by kernel_rfl
theorem topRecordLastWholeEntry_all:([26,27,3].all fun u=>!Tryz.prog.wantsStandIn u)=true:=by kernel_rfl
theorem topRecordLastWholeEntry_goes:false=Rows.topRecordLastWholeEntryRow.goesBy Tryz.prog:=by kernel_rfl
theorem topRecordLastWholeEntry_holds:Rows.TopRecordLastWholeEntryCardSaid:=
 Claim7.holds_tied_plain_at .later [] [.data, .data, .data, .data, .sentinel, .sentinel, .data, .pinned] true (true, "7ec43d1cb15b67824a344bec68c96b87f3ec1ab1015bfa1f55148753cd76a2d2") true topRecordLastWholeEntry_row (fun _ h => by cases h) topRecordLastWholeEntry_wf (fun _ h => by cases h) topRecordLastWholeEntry_row_tie rfl ⟨rfl, rfl⟩ topRecordLastWholeEntry_main rfl
  (fun f fn e b=>by
   obtain rfl:f=6:=Option.some.inj (topRecordLastWholeEntry_nm.symm.trans e)|>.symm
   obtain rfl:fn=Tryz.f6:=(Option.some.inj (Tryz.func6.symm.trans b)).symm;exact⟨topRecordLastWholeEntry_looks,fun j t c=>by
    rw[Tryz.params6]at c;have d:t∈[26,27,3]:=by simpa using Array.mem_of_getElem? c
    have a:=topRecordLastWholeEntry_all;exact(show Tryz.prog.wantsStandIn t=false by simpa using List.all_eq_true.1 a t d)⟩)
  topRecordLastWholeEntry_goes
end Go.Proofs.YthibpafdakbpgaaGreatDoor
