import Derived.Handy
import Derived.Lay
import Derived.SevenTiedAt
import Derived.Test.YtkkbjdenehfpaaaGreatDoorCards
import Derived.Test.YtkkbjdenehfpaaaGreatDoorRows
import Derived.Test.YtkkbjdenehfpaaaGreatDoorTie
import Derived.Test.YtkkbjdenehfpaaaGreatDoorTopRecordEnvelopeTopA
import Derived.Test.YtkkbjdenehfpaaaGreatDoorTopRecordEnvelopeTopB
import Derived.Test.YtkkbjdenehfpaaaGreatDoorUtN
/-
 TopRecordEnvelope:for every input the law returns true,and each argument reads behind the call as it read before;the row lists tables of the library's,and the card ties them to the program's text. No other condition.
-/
namespace Go.Proofs.YtkkbjdenehfpaaaGreatDoor.topRecordEnvelope
open Go.Proofs.Z_
open Go.Ab Go.ChangeShapes Go.WideShapes Go.ChangeAt Go.RowKit
theorem own:ownKnob Tryz.prog.godebug=none:=by kernel_rfl
theorem laidOut:laidOutB Tryz.prog=true:=by kernel_rfl
def tys:List Ty:=[(.st (.cons (.sl (.st (.cons .str (.cons (.int .i64) .nil)))) (.cons .str (.cons (.int .i64) (.cons (.st (.cons (.int .i64) (.cons (.int .i64) .nil))) .nil))))),(.sl (.st (.cons (.int .i64) (.cons .str (.cons .str .nil)))))]
theorem tysAre:Hq Tryz.prog tys Tryz.f4.params.toList:=by
 rw[Tryz.params4];exact⟨rfl,⟨_,Tryz.underlying26,by kernel_rfl,⟨rfl,by kernel_rfl,⟨_,Tryz.underlying22,by kernel_rfl,by decide,⟨_,Tryz.underlying96,by kernel_rfl,⟨rfl,by kernel_rfl,Tryz.underlying9,⟨rfl,by kernel_rfl,Tryz.underlying3,rfl⟩⟩⟩⟩,⟨rfl,by kernel_rfl,Tryz.underlying9,⟨rfl,by kernel_rfl,Tryz.underlying3,⟨rfl,by kernel_rfl,⟨_,Tryz.underlying24,by kernel_rfl,⟨rfl,by kernel_rfl,Tryz.underlying3,⟨rfl,by kernel_rfl,Tryz.underlying3,rfl⟩⟩⟩,rfl⟩⟩⟩⟩⟩,by kernel_rfl,of_decide_eq_true (by kernel_rfl),⟨rfl,⟨_,Tryz.underlying27,by kernel_rfl,by decide,⟨_,Tryz.underlying34,by kernel_rfl,⟨rfl,by kernel_rfl,Tryz.underlying3,⟨rfl,by kernel_rfl,Tryz.underlying9,⟨rfl,by kernel_rfl,Tryz.underlying9,rfl⟩⟩⟩⟩⟩,by kernel_rfl,of_decide_eq_true (by kernel_rfl),trivial⟩⟩
theorem starErr : "*" ++ "errors.errorString" = "*errors.errorString" := by decide
theorem UJ (u : TypeId) (h : Tryz.prog.typeName? 3 u = some "*errors.errorString") : u = 422 :=
 typeName_ptr_named (nm := "errors.errorString") (by rw [starErr]; kernel_rfl) (by kernel_rfl) (by decide) u (by rw [starErr]; exact h)
theorem powLaid:(Rows.laid_internal_strconv_uint64pow10:DataW Unit)=Lib.tabData .u64 Lib.pow10Tab:=by kernel_rfl
theorem namLaid:(Rows.laid_martensite_recipe_names:DataW Unit)=Gw XC:=by kernel_rfl
theorem tabs {W : World} (h0 : laidMetH Tryz.prog [("math/bits.deBruijn32tab", Rows.laid_math_bits_deBruijn32tab), ("math/bits.deBruijn64tab", Rows.laid_math_bits_deBruijn64tab), ("internal/strconv.uint64pow10", Rows.laid_internal_strconv_uint64pow10), ("unicode/utf8.acceptRanges", Rows.laid_unicode_utf8_acceptRanges), ("strconv.ErrRange", Rows.laid_strconv_ErrRange), ("strconv.ErrSyntax", Rows.laid_strconv_ErrSyntax), ("martensite/recipe.names", Rows.laid_martensite_recipe_names), ("unicode/utf8.first", Rows.laid_unicode_utf8_first)] W) : OJ Tryz.prog W := by
 rw[MakeChecks.laidMetH_plain _ _ _ (by kernel_rfl)]at h0;have h:=h0;have d:=h.tail.tail;rw[powLaid]at d;have c:=h.tail.tail.tail.tail.tail.tail;rw[namLaid]at c;refine OJ.mP (Lib.tabIs_of_head (g:=1) (t:=386) (e:=241) (n:=20) (by kernel_rfl) (by kernel_rfl) Tryz.underlying386 Tryz.underlying241 (by kernel_rfl) (by kernel_rfl) d) ?_ ?_ (fun _ _=>yc (g:=8) (t:=425) (e:=9) (n:=6) (by kernel_rfl) (by kernel_rfl) Tryz.underlying425 Tryz.underlying9 (by kernel_rfl) (by kernel_rfl) c)
 ·obtain⟨a,s,b,_⟩:=laid_sentinel (g:=3) (h.tail.tail.tail.tail) (by kernel_rfl) (by kernel_rfl) Tryz.underlying187 UJ Tryz.underlying422 Tryz.underlying424 rfl rfl Tryz.underlying9 (by kernel_rfl) (by kernel_rfl);exact⟨_,_,b⟩
 ·obtain⟨a,s,b,_⟩:=laid_sentinel (g:=2) (h.tail.tail.tail.tail.tail) (by kernel_rfl) (by kernel_rfl) Tryz.underlying187 UJ Tryz.underlying422 Tryz.underlying424 rfl rfl Tryz.underlying9 (by kernel_rfl) (by kernel_rfl);exact⟨_,_,b⟩
theorem contract:∀xs,C9 tys xs→Q7 Tryz.prog 4 xs (.bool true):=by
 intro xs h
 match xs,h with
 |[x0,x1],h=>
  obtain⟨⟨b,rfl,h0⟩,a,_⟩:=h;obtain⟨d,rfl⟩:=cW h0;obtain⟨c,rfl⟩:=AB a;exact OQ
 |[],h=>exact h.elim
 |[_],h=>exact h.2.elim
 |_::_::_::_,h=>exact h.2.2.elim
set_option maxRecDepth 100000 in
theorem lifted(os:Os)(started:os.Started)(H:Type)(enc:TypeId×Value→H):
  ReturnsInHanded {} Tryz.checked os 4 .any (fun w args => (Rows.topRecordEnvelopeSpec.pre enc Tryz.prog Tryz.f4 [] false w args ∧ laidMetH Tryz.prog [("math/bits.deBruijn32tab", Rows.laid_math_bits_deBruijn32tab), ("math/bits.deBruijn64tab", Rows.laid_math_bits_deBruijn64tab), ("internal/strconv.uint64pow10", Rows.laid_internal_strconv_uint64pow10), ("unicode/utf8.acceptRanges", Rows.laid_unicode_utf8_acceptRanges), ("strconv.ErrRange", Rows.laid_strconv_ErrRange), ("strconv.ErrSyntax", Rows.laid_strconv_ErrSyntax), ("martensite/recipe.names", Rows.laid_martensite_recipe_names), ("unicode/utf8.first", Rows.laid_unicode_utf8_first)] w) ∧ sizedMet enc Tryz.prog Tryz.f4 (OpenSpec.ofChange Rows.topRecordEnvelopeSpec) false w args)
   (Rows.topRecordEnvelopeSpec.post enc Tryz.prog Tryz.f4 false true false false):=by
 refine returnsInHanded_of_change_and (C := Tryz.checked) (X := fun w _ => laidMetH Tryz.prog [("math/bits.deBruijn32tab", Rows.laid_math_bits_deBruijn32tab), ("math/bits.deBruijn64tab", Rows.laid_math_bits_deBruijn64tab), ("internal/strconv.uint64pow10", Rows.laid_internal_strconv_uint64pow10), ("unicode/utf8.acceptRanges", Rows.laid_unicode_utf8_acceptRanges), ("strconv.ErrRange", Rows.laid_strconv_ErrRange), ("strconv.ErrSyntax", Rows.laid_strconv_ErrSyntax), ("martensite/recipe.names", Rows.laid_martensite_recipe_names), ("unicode/utf8.first", Rows.laid_unicode_utf8_first)] w) (fun _ _ _ hh h => h.of_heap hh) own started (by kernel_rfl) Tryz.func4
  (ChangeSpec.witness_shaped (enc := enc) (C := Tryz.checked) (os := os) (X := fun w _ => laidMetH Tryz.prog [("math/bits.deBruijn32tab", Rows.laid_math_bits_deBruijn32tab), ("math/bits.deBruijn64tab", Rows.laid_math_bits_deBruijn64tab), ("internal/strconv.uint64pow10", Rows.laid_internal_strconv_uint64pow10), ("unicode/utf8.acceptRanges", Rows.laid_unicode_utf8_acceptRanges), ("strconv.ErrRange", Rows.laid_strconv_ErrRange), ("strconv.ErrSyntax", Rows.laid_strconv_ErrSyntax), ("martensite/recipe.names", Rows.laid_martensite_recipe_names), ("unicode/utf8.first", Rows.laid_unicode_utf8_first)] w) false (World.laidAll Tryz.prog os [("math/bits.deBruijn32tab", Rows.laid_math_bits_deBruijn32tab), ("math/bits.deBruijn64tab", Rows.laid_math_bits_deBruijn64tab), ("internal/strconv.uint64pow10", Rows.laid_internal_strconv_uint64pow10), ("unicode/utf8.acceptRanges", Rows.laid_unicode_utf8_acceptRanges), ("strconv.ErrRange", Rows.laid_strconv_ErrRange), ("strconv.ErrSyntax", Rows.laid_strconv_ErrSyntax), ("martensite/recipe.names", Rows.laid_martensite_recipe_names), ("unicode/utf8.first", Rows.laid_unicode_utf8_first)]) #[.agg #[.slice none 0 0, .string ⟨#[]⟩, .int .i64 (0), .int .i64 (0), .int .i64 (0)], .slice none 0 0] 8 (World.laidAll_os _ _ _)
   (World.shaped_of_ZipB (by kernel_rfl) (by kernel_rfl)) (by kernel_rfl) (by kernel_rfl) (by kernel_rfl)
   (by rw[MakeChecks.laidMetH_plain _ _ _ (by kernel_rfl)];exact laidMet_laidAll _ (by kernel_rfl) (by kernel_rfl))) ?_
 intro W d args e k before a g c _ i _;have b:∀(j:Nat) t v,Tryz.f4.params[j]?=some t→args[j]?=some v→Value.okWide Tryz.prog W .any d t v:=a;clear c a;exact kH (P:=Tryz.prog) (f:=4) (fn:=Tryz.f4) (s:=Rows.topRecordEnvelopeSpec) (Ts:=tys) (tb:=4) (apart:=false) (fresh:=true) (handsOn:=false) contract (tabs i) laidOut tysAre rfl (by kernel_rfl) Tryz.underlying4
  (fun e h=>by
   rw[Tryz.params4]at h
   match e,h with
   |[_,_],_=>rfl) b g
end Go.Proofs.YtkkbjdenehfpaaaGreatDoor.topRecordEnvelope
namespace Go.Proofs.YtkkbjdenehfpaaaGreatDoor
open Go.Proofs.Z_
open Go.ChangeAt
theorem andT{a b:Bool}(d:a=true)(c:b=true):(a&&b)=true:=by simp_all
theorem topRecordEnvelope_k1:(laidOutB Tryz.prog)=true:=topRecordEnvelope.laidOut
set_option maxRecDepth 100000 in
theorem topRecordEnvelope_closed:joinedFacts Tryz.prog 4 Tryz.f4 Rows.topRecordEnvelopeSpec Rows.topRecordEnvelopeRow=true:=by
 unfold joinedFacts;exact(andT (andT (andT (andT (andT (andT (andT (andT (andT (andT (andT (andT (andT (andT (andT (andT (andT (andT (andT (andT (andT (andT (andT (andT (andT (andT (andT (andT (andT (andT (andT topRecordEnvelope_k0 topRecordEnvelope_k1) topRecordEnvelope_k2) topRecordEnvelope_k3) topRecordEnvelope_k4) topRecordEnvelope_k5) topRecordEnvelope_k6) topRecordEnvelope_k7) topRecordEnvelope_k8) topRecordEnvelope_k9) topRecordEnvelope_k10) topRecordEnvelope_k11) topRecordEnvelope_k12) topRecordEnvelope_k13) topRecordEnvelope_k14) topRecordEnvelope_k15) topRecordEnvelope_k16) topRecordEnvelope_k17) topRecordEnvelope_k18) topRecordEnvelope_k19) topRecordEnvelope_k20) topRecordEnvelope_k21) topRecordEnvelope_k22) topRecordEnvelope_k23) topRecordEnvelope_k24) topRecordEnvelope_k25) topRecordEnvelope_k26) topRecordEnvelope_k27) topRecordEnvelope_k28) topRecordEnvelope_k29) topRecordEnvelope_k30) topRecordEnvelope_k31)
theorem topRecordEnvelope_named:Tryz.prog.funcNamed Rows.topRecordEnvelopeRow.func=some 4:=by kernel_rfl
theorem topRecordEnvelope_inst:Tryz.f4.isInstance Tryz.prog Rows.topRecordEnvelopeRow.origin Rows.topRecordEnvelopeRow.targs:=of_decide_eq_true (by kernel_rfl)
theorem topRecordEnvelope_wrap:Tryz.f4.isWrapper Tryz.prog Rows.topRecordEnvelopeRow.wrapper Rows.topRecordEnvelopeRow.mainSum:=by unfold Func.isWrapper;first|(rw[if_pos (by decide+kernel)];kernel_rfl)|(rw[if_neg (by decide+kernel)];exact⟨rfl,rfl⟩)
theorem topRecordEnvelope_row:Rows.TopRecordEnvelopeSaid:=
 OpenClaim.holds_of_wide (p:=Tryz.pinned) 4 Tryz.f4 rfl rfl rfl rfl rfl rfl rfl ⟨rfl,rfl,rfl,rfl,rfl⟩ rfl rfl rfl rfl rfl topRecordEnvelope_named Tryz.func4 topRecordEnvelope_closed
  topRecordEnvelope_inst topRecordEnvelope_wrap
  (fun os started H a _=>topRecordEnvelope.lifted os started H a)
theorem topRecordEnvelope_wf:Rows.topRecordEnvelopeRow.wfByText (OpenSpec.ofChange Rows.topRecordEnvelopeSpec)=true:=by kernel_rfl
theorem topRecordEnvelope_main : Tryz.prog.mainIs = some ((true, "ba1d4abd634ed466601f6a53ef2f236b1d73bd6d567fd21cb0a21ae87d876aa4").1, (true, "ba1d4abd634ed466601f6a53ef2f236b1d73bd6d567fd21cb0a21ae87d876aa4").2.toList) := by kernel_rfl
theorem topRecordEnvelope_nm : Tryz.prog.funcNamed "martensite/martensitetop.TopRecordEnvelope" = some 4 := by kernel_rfl
theorem topRecordEnvelope_looks:true=Tryz.prog.looks []:=by kernel_rfl
theorem topRecordEnvelope_all:([26,27].all fun u=>!Tryz.prog.wantsStandIn u)=true:=by kernel_rfl
theorem topRecordEnvelope_goes:false=Rows.topRecordEnvelopeRow.goesBy Tryz.prog:=by kernel_rfl
theorem topRecordEnvelope_holds:Rows.TopRecordEnvelopeCardSaid:=
 Claim7.holds_tied_plain_at .later [] [.data, .data, .data, .data, .sentinel, .sentinel, .data, .pinned] true (true, "ba1d4abd634ed466601f6a53ef2f236b1d73bd6d567fd21cb0a21ae87d876aa4") true topRecordEnvelope_row (fun _ h => by cases h) topRecordEnvelope_wf (fun _ h => by cases h) topRecordEnvelope_row_tie rfl ⟨rfl, rfl⟩ topRecordEnvelope_main rfl
  (fun f fn e b=>by
   obtain rfl:f=4:=Option.some.inj (topRecordEnvelope_nm.symm.trans e)|>.symm
   obtain rfl:fn=Tryz.f4:=(Option.some.inj (Tryz.func4.symm.trans b)).symm;exact⟨topRecordEnvelope_looks,fun j t c=>by
    rw[Tryz.params4]at c;have d:t∈[26,27]:=by simpa using Array.mem_of_getElem? c
    have a:=topRecordEnvelope_all;exact(show Tryz.prog.wantsStandIn t=false by simpa using List.all_eq_true.1 a t d)⟩)
  topRecordEnvelope_goes
end Go.Proofs.YtkkbjdenehfpaaaGreatDoor
