import Derived.Handy
import Derived.Lay
import Derived.SevenTiedAt
import Derived.Test.YtkkbjdenehfpaaaGreatDoorCards
import Derived.Test.YtkkbjdenehfpaaaGreatDoorRows
import Derived.Test.YtkkbjdenehfpaaaGreatDoorTie
import Derived.Test.YtkkbjdenehfpaaaGreatDoorTopRecordBackTopA
import Derived.Test.YtkkbjdenehfpaaaGreatDoorTopRecordBackTopB
import Derived.Test.YtkkbjdenehfpaaaGreatDoorVb
/-
 TopRecordBack:for every input the law returns true,and each argument reads behind the call as it read before;the row lists tables of the library's,and the card ties them to the program's text. No other condition.
-/
namespace Go.Proofs.YtkkbjdenehfpaaaGreatDoor.topRecordBack
open Go.Proofs.Z_
open Go.Ab Go.ChangeShapes Go.WideShapes Go.ChangeAt Go.RowKit
theorem own:ownKnob Tryz.prog.godebug=none:=by kernel_rfl
theorem laidOut:laidOutB Tryz.prog=true:=by kernel_rfl
def tys:List Ty:=[(.st (.cons (.sl (.st (.cons .str (.cons (.int .i64) .nil)))) (.cons .str (.cons (.int .i64) (.cons (.st (.cons (.int .i64) (.cons (.int .i64) .nil))) .nil))))),(.sl (.st (.cons (.int .i64) (.cons .str (.cons .str .nil))))),(.int .i64)]
theorem tysAre:Hq Tryz.prog tys Tryz.f3.params.toList:=by
 rw[Tryz.params3];exact⟨rfl,⟨_,Tryz.underlying26,by kernel_rfl,⟨rfl,by kernel_rfl,⟨_,Tryz.underlying22,by kernel_rfl,by decide,⟨_,Tryz.underlying96,by kernel_rfl,⟨rfl,by kernel_rfl,Tryz.underlying9,⟨rfl,by kernel_rfl,Tryz.underlying3,rfl⟩⟩⟩⟩,⟨rfl,by kernel_rfl,Tryz.underlying9,⟨rfl,by kernel_rfl,Tryz.underlying3,⟨rfl,by kernel_rfl,⟨_,Tryz.underlying24,by kernel_rfl,⟨rfl,by kernel_rfl,Tryz.underlying3,⟨rfl,by kernel_rfl,Tryz.underlying3,rfl⟩⟩⟩,rfl⟩⟩⟩⟩⟩,by kernel_rfl,of_decide_eq_true (by kernel_rfl),⟨rfl,⟨_,Tryz.underlying27,by kernel_rfl,by decide,⟨_,Tryz.underlying34,by kernel_rfl,⟨rfl,by kernel_rfl,Tryz.underlying3,⟨rfl,by kernel_rfl,Tryz.underlying9,⟨rfl,by kernel_rfl,Tryz.underlying9,rfl⟩⟩⟩⟩⟩,by kernel_rfl,of_decide_eq_true (by kernel_rfl),⟨rfl,Tryz.underlying3,by kernel_rfl,of_decide_eq_true (by kernel_rfl),trivial⟩⟩⟩
theorem starErr : "*" ++ "errors.errorString" = "*errors.errorString" := by decide
theorem UJ (u : TypeId) (h : Tryz.prog.typeName? 3 u = some "*errors.errorString") : u = 422 :=
 typeName_ptr_named (nm := "errors.errorString") (by rw [starErr]; kernel_rfl) (by kernel_rfl) (by decide) u (by rw [starErr]; exact h)
theorem powLaid:(Rows.laid_internal_strconv_uint64pow10:DataW Unit)=Lib.tabData .u64 Lib.pow10Tab:=by kernel_rfl
theorem namLaid:(Rows.laid_martensite_recipe_names:DataW Unit)=Gw XC:=by kernel_rfl
theorem tabs {W : World} (h0 : laidMetH Tryz.prog [("math/bits.deBruijn32tab", Rows.laid_math_bits_deBruijn32tab), ("math/bits.deBruijn64tab", Rows.laid_math_bits_deBruijn64tab), ("internal/strconv.uint64pow10", Rows.laid_internal_strconv_uint64pow10), ("unicode/utf8.acceptRanges", Rows.laid_unicode_utf8_acceptRanges), ("strconv.ErrRange", Rows.laid_strconv_ErrRange), ("strconv.ErrSyntax", Rows.laid_strconv_ErrSyntax), ("martensite/recipe.names", Rows.laid_martensite_recipe_names), ("unicode/utf8.first", Rows.laid_unicode_utf8_first)] W) : OJ Tryz.prog W := by
 rw[MakeChecks.laidMetH_plain _ _ _ (by kernel_rfl)]at h0;have h:=h0;have d:=h.tail.tail;rw[powLaid]at d;have c:=h.tail.tail.tail.tail.tail.tail;rw[namLaid]at c;refine OJ.mP (Lib.tabIs_of_head (g:=1) (t:=386) (e:=241) (n:=20) (by kernel_rfl) (by kernel_rfl) Tryz.underlying386 Tryz.underlying241 (by kernel_rfl) (by kernel_rfl) d) ?_ ?_ (fun _ _=>yc (g:=8) (t:=425) (e:=9) (n:=6) (by kernel_rfl) (by kernel_rfl) Tryz.underlying425 Tryz.underlying9 (by kernel_rfl) (by kernel_rfl) c)
 ·obtain⟨a,s,b,_⟩:=laid_sentinel (g:=3) (h.tail.tail.tail.tail) (by kernel_rfl) (by kernel_rfl) Tryz.underlying187 UJ Tryz.underlying422 Tryz.underlying424 rfl rfl Tryz.underlying9 (by kernel_rfl) (by kernel_rfl);exact⟨_,_,b⟩
 ·obtain⟨a,s,b,_⟩:=laid_sentinel (g:=2) (h.tail.tail.tail.tail.tail) (by kernel_rfl) (by kernel_rfl) Tryz.underlying187 UJ Tryz.underlying422 Tryz.underlying424 rfl rfl Tryz.underlying9 (by kernel_rfl) (by kernel_rfl);exact⟨_,_,b⟩
theorem contract:∀xs,C9 tys xs→Q7 Tryz.prog 3 xs (.bool true):=by
 intro xs h
 match xs,h with
 |[x0,x1,x2],h=>
  obtain⟨⟨c,rfl,h0⟩,b,a,_⟩:=h;obtain⟨f,rfl⟩:=cW h0;obtain⟨e,rfl⟩:=AB b;obtain⟨d,rfl⟩:=sh_int a;exact JD
 |[],h=>exact h.elim
 |[_],h=>exact h.2.elim
 |[_,_],h=>exact h.2.2.elim
 |_::_::_::_::_,h=>exact h.2.2.2.elim
set_option maxRecDepth 100000 in
theorem lifted(os:Os)(started:os.Started)(H:Type)(enc:TypeId×Value→H):
  ReturnsInHanded {} Tryz.checked os 3 .any (fun w args => (Rows.topRecordBackSpec.pre enc Tryz.prog Tryz.f3 [] false w args ∧ laidMetH Tryz.prog [("math/bits.deBruijn32tab", Rows.laid_math_bits_deBruijn32tab), ("math/bits.deBruijn64tab", Rows.laid_math_bits_deBruijn64tab), ("internal/strconv.uint64pow10", Rows.laid_internal_strconv_uint64pow10), ("unicode/utf8.acceptRanges", Rows.laid_unicode_utf8_acceptRanges), ("strconv.ErrRange", Rows.laid_strconv_ErrRange), ("strconv.ErrSyntax", Rows.laid_strconv_ErrSyntax), ("martensite/recipe.names", Rows.laid_martensite_recipe_names), ("unicode/utf8.first", Rows.laid_unicode_utf8_first)] w) ∧ sizedMet enc Tryz.prog Tryz.f3 (OpenSpec.ofChange Rows.topRecordBackSpec) false w args)
   (Rows.topRecordBackSpec.post enc Tryz.prog Tryz.f3 false true false false):=by
 refine returnsInHanded_of_change_and (C := Tryz.checked) (X := fun w _ => laidMetH Tryz.prog [("math/bits.deBruijn32tab", Rows.laid_math_bits_deBruijn32tab), ("math/bits.deBruijn64tab", Rows.laid_math_bits_deBruijn64tab), ("internal/strconv.uint64pow10", Rows.laid_internal_strconv_uint64pow10), ("unicode/utf8.acceptRanges", Rows.laid_unicode_utf8_acceptRanges), ("strconv.ErrRange", Rows.laid_strconv_ErrRange), ("strconv.ErrSyntax", Rows.laid_strconv_ErrSyntax), ("martensite/recipe.names", Rows.laid_martensite_recipe_names), ("unicode/utf8.first", Rows.laid_unicode_utf8_first)] w) (fun _ _ _ hh h => h.of_heap hh) own started (by kernel_rfl) Tryz.func3
  (ChangeSpec.witness_shaped (enc := enc) (C := Tryz.checked) (os := os) (X := fun w _ => laidMetH Tryz.prog [("math/bits.deBruijn32tab", Rows.laid_math_bits_deBruijn32tab), ("math/bits.deBruijn64tab", Rows.laid_math_bits_deBruijn64tab), ("internal/strconv.uint64pow10", Rows.laid_internal_strconv_uint64pow10), ("unicode/utf8.acceptRanges", Rows.laid_unicode_utf8_acceptRanges), ("strconv.ErrRange", Rows.laid_strconv_ErrRange), ("strconv.ErrSyntax", Rows.laid_strconv_ErrSyntax), ("martensite/recipe.names", Rows.laid_martensite_recipe_names), ("unicode/utf8.first", Rows.laid_unicode_utf8_first)] w) false (World.laidAll Tryz.prog os [("math/bits.deBruijn32tab", Rows.laid_math_bits_deBruijn32tab), ("math/bits.deBruijn64tab", Rows.laid_math_bits_deBruijn64tab), ("internal/strconv.uint64pow10", Rows.laid_internal_strconv_uint64pow10), ("unicode/utf8.acceptRanges", Rows.laid_unicode_utf8_acceptRanges), ("strconv.ErrRange", Rows.laid_strconv_ErrRange), ("strconv.ErrSyntax", Rows.laid_strconv_ErrSyntax), ("martensite/recipe.names", Rows.laid_martensite_recipe_names), ("unicode/utf8.first", Rows.laid_unicode_utf8_first)]) #[.agg #[.slice none 0 0, .string ⟨#[]⟩, .int .i64 (0), .int .i64 (0), .int .i64 (0)], .slice none 0 0, .int .i64 (0)] 8 (World.laidAll_os _ _ _)
   (World.shaped_of_ZipB (by kernel_rfl) (by kernel_rfl)) (by kernel_rfl) (by kernel_rfl) (by kernel_rfl)
   (by rw[MakeChecks.laidMetH_plain _ _ _ (by kernel_rfl)];exact laidMet_laidAll _ (by kernel_rfl) (by kernel_rfl))) ?_
 intro W d args e k before a g c _ i _;have b:∀(j:Nat) t v,Tryz.f3.params[j]?=some t→args[j]?=some v→Value.okWide Tryz.prog W .any d t v:=a;clear c a;exact kH (P:=Tryz.prog) (f:=3) (fn:=Tryz.f3) (s:=Rows.topRecordBackSpec) (Ts:=tys) (tb:=4) (apart:=false) (fresh:=true) (handsOn:=false) contract (tabs i) laidOut tysAre rfl (by kernel_rfl) Tryz.underlying4
  (fun e h=>by
   rw[Tryz.params3]at h
   match e,h with
   |[_,_,_],_=>rfl) b g
end Go.Proofs.YtkkbjdenehfpaaaGreatDoor.topRecordBack
namespace Go.Proofs.YtkkbjdenehfpaaaGreatDoor
open Go.Proofs.Z_
open Go.ChangeAt
theorem andT{a b:Bool}(d:a=true)(c:b=true):(a&&b)=true:=by simp_all
theorem topRecordBack_k1:(laidOutB Tryz.prog)=true:=topRecordBack.laidOut
set_option maxRecDepth 100000 in
theorem topRecordBack_closed:joinedFacts Tryz.prog 3 Tryz.f3 Rows.topRecordBackSpec Rows.topRecordBackRow=true:=by
 unfold joinedFacts;exact(andT (andT (andT (andT (andT (andT (andT (andT (andT (andT (andT (andT (andT (andT (andT (andT (andT (andT (andT (andT (andT (andT (andT (andT (andT (andT (andT (andT (andT (andT (andT topRecordBack_k0 topRecordBack_k1) topRecordBack_k2) topRecordBack_k3) topRecordBack_k4) topRecordBack_k5) topRecordBack_k6) topRecordBack_k7) topRecordBack_k8) topRecordBack_k9) topRecordBack_k10) topRecordBack_k11) topRecordBack_k12) topRecordBack_k13) topRecordBack_k14) topRecordBack_k15) topRecordBack_k16) topRecordBack_k17) topRecordBack_k18) topRecordBack_k19) topRecordBack_k20) topRecordBack_k21) topRecordBack_k22) topRecordBack_k23) topRecordBack_k24) topRecordBack_k25) topRecordBack_k26) topRecordBack_k27) topRecordBack_k28) topRecordBack_k29) topRecordBack_k30) topRecordBack_k31)
theorem topRecordBack_named:Tryz.prog.funcNamed Rows.topRecordBackRow.func=some 3:=by kernel_rfl
theorem topRecordBack_inst:Tryz.f3.isInstance Tryz.prog Rows.topRecordBackRow.origin Rows.topRecordBackRow.targs:=of_decide_eq_true (by kernel_rfl)
theorem topRecordBack_wrap:Tryz.f3.isWrapper Tryz.prog Rows.topRecordBackRow.wrapper Rows.topRecordBackRow.mainSum:=by unfold Func.isWrapper;first|(rw[if_pos (by decide+kernel)];kernel_rfl)|(rw[if_neg (by decide+kernel)];exact⟨rfl,rfl⟩)
theorem topRecordBack_row:Rows.TopRecordBackSaid:=
 OpenClaim.holds_of_wide (p:=Tryz.pinned) 3 Tryz.f3 rfl rfl rfl rfl rfl rfl rfl ⟨rfl,rfl,rfl,rfl,rfl⟩ rfl rfl rfl rfl rfl topRecordBack_named Tryz.func3 topRecordBack_closed
  topRecordBack_inst topRecordBack_wrap
  (fun os started H a _=>topRecordBack.lifted os started H a)
theorem topRecordBack_wf:Rows.topRecordBackRow.wfByText (OpenSpec.ofChange Rows.topRecordBackSpec)=true:=by kernel_rfl
theorem topRecordBack_main : Tryz.prog.mainIs = some ((true, "ba1d4abd634ed466601f6a53ef2f236b1d73bd6d567fd21cb0a21ae87d876aa4").1, (true, "ba1d4abd634ed466601f6a53ef2f236b1d73bd6d567fd21cb0a21ae87d876aa4").2.toList) := by kernel_rfl
theorem topRecordBack_nm : Tryz.prog.funcNamed "martensite/martensitetop.TopRecordBack" = some 3 := by kernel_rfl
theorem topRecordBack_looks:true=Tryz.prog.looks []:=by kernel_rfl
theorem topRecordBack_all:([26,27,3].all fun u=>!Tryz.prog.wantsStandIn u)=true:=by kernel_rfl
theorem topRecordBack_goes:false=Rows.topRecordBackRow.goesBy Tryz.prog:=by kernel_rfl
theorem topRecordBack_holds:Rows.TopRecordBackCardSaid:=
 Claim7.holds_tied_plain_at .later [] [.data, .data, .data, .data, .sentinel, .sentinel, .data, .pinned] true (true, "ba1d4abd634ed466601f6a53ef2f236b1d73bd6d567fd21cb0a21ae87d876aa4") true topRecordBack_row (fun _ h => by cases h) topRecordBack_wf (fun _ h => by cases h) topRecordBack_row_tie rfl ⟨rfl, rfl⟩ topRecordBack_main rfl
  (fun f fn e b=>by
   obtain rfl:f=3:=Option.some.inj (topRecordBack_nm.symm.trans e)|>.symm
   obtain rfl:fn=Tryz.f3:=(Option.some.inj (Tryz.func3.symm.trans b)).symm;exact⟨topRecordBack_looks,fun j t c=>by
    rw[Tryz.params3]at c;have d:t∈[26,27,3]:=by simpa using Array.mem_of_getElem? c
    have a:=topRecordBack_all;exact(show Tryz.prog.wantsStandIn t=false by simpa using List.all_eq_true.1 a t d)⟩)
  topRecordBack_goes
end Go.Proofs.YtkkbjdenehfpaaaGreatDoor
