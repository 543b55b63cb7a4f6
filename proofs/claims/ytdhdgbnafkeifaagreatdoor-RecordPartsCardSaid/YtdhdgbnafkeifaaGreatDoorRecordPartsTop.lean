import Derived.Handy
import Derived.Lay
import Derived.SevenTiedAt
import Derived.Test.YtdhdgbnafkeifaaGreatDoorCards
import Derived.Test.YtdhdgbnafkeifaaGreatDoorRows
import Derived.Test.YtdhdgbnafkeifaaGreatDoorTie
import Derived.Test.YtdhdgbnafkeifaaGreatDoorUo
/-
 RecordParts:for every input the law returns true,and each argument reads behind the call as it read before;the row lists tables of the library's,and the card ties them to the program's text. No other condition.
-/
namespace Go.Proofs.YtdhdgbnafkeifaaGreatDoor.recordParts
open Go.Ab Go.ChangeShapes Go.WideShapes Go.ChangeAt Go.RowKit
theorem own:ownKnob Tryz.prog.godebug=none:=by kernel_rfl
theorem laidOut:laidOutB Tryz.prog=true:=by kernel_rfl
def tys:List Ty:=[(.st (.cons (.sl (.st (.cons .str (.cons (.int .i64) .nil)))) (.cons .str (.cons (.int .i64) (.cons (.st (.cons (.int .i64) (.cons (.int .i64) .nil))) .nil))))),(.sl (.st (.cons (.int .i64) (.cons .str (.cons .str .nil))))),(.st (.cons (.int .i64) (.cons (.st (.cons .str (.cons (.int .i64) .nil))) .nil)))]
theorem tysAre:qi Tryz.prog tys Tryz.f3.params.toList:=by
 rw[Tryz.params3];exact⟨rfl,⟨_,Tryz.underlying26,by kernel_rfl,⟨rfl,by kernel_rfl,⟨_,Tryz.underlying22,by kernel_rfl,by decide,⟨_,Tryz.underlying113,by kernel_rfl,⟨rfl,by kernel_rfl,Tryz.underlying9,⟨rfl,by kernel_rfl,Tryz.underlying3,rfl⟩⟩⟩⟩,⟨rfl,by kernel_rfl,Tryz.underlying9,⟨rfl,by kernel_rfl,Tryz.underlying3,⟨rfl,by kernel_rfl,⟨_,Tryz.underlying24,by kernel_rfl,⟨rfl,by kernel_rfl,Tryz.underlying3,⟨rfl,by kernel_rfl,Tryz.underlying3,rfl⟩⟩⟩,rfl⟩⟩⟩⟩⟩,by kernel_rfl,of_decide_eq_true (by kernel_rfl),⟨rfl,⟨_,Tryz.underlying27,by kernel_rfl,by decide,⟨_,Tryz.underlying78,by kernel_rfl,⟨rfl,by kernel_rfl,Tryz.underlying3,⟨rfl,by kernel_rfl,Tryz.underlying9,⟨rfl,by kernel_rfl,Tryz.underlying9,rfl⟩⟩⟩⟩⟩,by kernel_rfl,of_decide_eq_true (by kernel_rfl),⟨rfl,⟨_,Tryz.underlying31,by kernel_rfl,⟨rfl,by kernel_rfl,Tryz.underlying3,⟨rfl,by kernel_rfl,⟨_,Tryz.underlying29,by kernel_rfl,⟨rfl,by kernel_rfl,Tryz.underlying9,⟨rfl,by kernel_rfl,Tryz.underlying3,rfl⟩⟩⟩,rfl⟩⟩⟩,by kernel_rfl,of_decide_eq_true (by kernel_rfl),trivial⟩⟩⟩
theorem starErr : "*" ++ "errors.errorString" = "*errors.errorString" := by decide
theorem rowErr (u : TypeId) (h : Tryz.prog.typeName? 3 u = some "*errors.errorString") : u = 455 :=
 typeName_ptr_named (nm := "errors.errorString") (by rw [starErr]; kernel_rfl) (by kernel_rfl) (by decide) u (by rw [starErr]; exact h)
theorem powLaid:(Rows.laid_internal_strconv_uint64pow10:DataW Unit)=Lib.tabData .u64 Lib.pow10Tab:=by kernel_rfl
theorem namLaid:(Rows.laid_martensite_recipe_names:DataW Unit)=pM b7:=by kernel_rfl
theorem tabs {W : World} (h0 : laidMetH Tryz.prog [("math/bits.deBruijn32tab", Rows.laid_math_bits_deBruijn32tab), ("math/bits.deBruijn64tab", Rows.laid_math_bits_deBruijn64tab), ("internal/strconv.uint64pow10", Rows.laid_internal_strconv_uint64pow10), ("unicode/utf8.acceptRanges", Rows.laid_unicode_utf8_acceptRanges), ("strconv.ErrRange", Rows.laid_strconv_ErrRange), ("strconv.ErrSyntax", Rows.laid_strconv_ErrSyntax), ("martensite/recipe.names", Rows.laid_martensite_recipe_names), ("unicode/utf8.first", Rows.laid_unicode_utf8_first)] W) : jv Tryz.prog W := by
 rw[MakeChecks.laidMetH_plain _ _ _ (by kernel_rfl)]at h0;have h:=h0;have d:=h.tail.tail;rw[powLaid]at d;have c:=h.tail.tail.tail.tail.tail.tail;rw[namLaid]at c;refine jv.BU (Lib.tabIs_of_head (g:=3) (t:=452) (e:=250) (n:=20) (by kernel_rfl) (by kernel_rfl) Tryz.underlying452 Tryz.underlying250 (by kernel_rfl) (by kernel_rfl) d) ?_ ?_ (fun _ _=>tT (g:=6) (t:=476) (e:=9) (n:=6) (by kernel_rfl) (by kernel_rfl) Tryz.underlying476 Tryz.underlying9 (by kernel_rfl) (by kernel_rfl) c)
 ·obtain⟨a,s,b,_⟩:=laid_sentinel (g:=2) (h.tail.tail.tail.tail) (by kernel_rfl) (by kernel_rfl) Tryz.underlying228 rowErr Tryz.underlying455 Tryz.underlying457 rfl rfl Tryz.underlying9 (by kernel_rfl) (by kernel_rfl);exact⟨_,_,b⟩
 ·obtain⟨a,s,b,_⟩:=laid_sentinel (g:=1) (h.tail.tail.tail.tail.tail) (by kernel_rfl) (by kernel_rfl) Tryz.underlying228 rowErr Tryz.underlying455 Tryz.underlying457 rfl rfl Tryz.underlying9 (by kernel_rfl) (by kernel_rfl);exact⟨_,_,b⟩
theorem contract:∀xs,tR tys xs→gz Tryz.prog 3 xs (.bool true):=by
 intro xs h
 match xs,h with
 |[x0,x1,x2],h=>
  obtain⟨⟨d,rfl,h0⟩,b,⟨c,rfl,a⟩,_⟩:=h;obtain⟨g,rfl⟩:=Gg h0;obtain⟨f,rfl⟩:=RE b;obtain⟨e,rfl⟩:=sh_quest a;exact law_RecordParts
 |[],h=>exact h.elim
 |[_],h=>exact h.2.elim
 |[_,_],h=>exact h.2.2.elim
 |_::_::_::_::_,h=>exact h.2.2.2.elim
set_option maxRecDepth 100000 in
theorem lifted(os:Os)(started:os.Started)(H:Type)(b:TypeId×Value→H):
  ReturnsInHanded {} Tryz.checked os 3 .any (fun w args => (Rows.recordPartsSpec.pre b Tryz.prog Tryz.f3 [] false w args ∧ laidMetH Tryz.prog [("math/bits.deBruijn32tab", Rows.laid_math_bits_deBruijn32tab), ("math/bits.deBruijn64tab", Rows.laid_math_bits_deBruijn64tab), ("internal/strconv.uint64pow10", Rows.laid_internal_strconv_uint64pow10), ("unicode/utf8.acceptRanges", Rows.laid_unicode_utf8_acceptRanges), ("strconv.ErrRange", Rows.laid_strconv_ErrRange), ("strconv.ErrSyntax", Rows.laid_strconv_ErrSyntax), ("martensite/recipe.names", Rows.laid_martensite_recipe_names), ("unicode/utf8.first", Rows.laid_unicode_utf8_first)] w) ∧ sizedMet b Tryz.prog Tryz.f3 (OpenSpec.ofChange Rows.recordPartsSpec) false w args)
   (Rows.recordPartsSpec.post b Tryz.prog Tryz.f3 false true false false):=by
 refine returnsInHanded_of_change_and (C := Tryz.checked) (X := fun w _ => laidMetH Tryz.prog [("math/bits.deBruijn32tab", Rows.laid_math_bits_deBruijn32tab), ("math/bits.deBruijn64tab", Rows.laid_math_bits_deBruijn64tab), ("internal/strconv.uint64pow10", Rows.laid_internal_strconv_uint64pow10), ("unicode/utf8.acceptRanges", Rows.laid_unicode_utf8_acceptRanges), ("strconv.ErrRange", Rows.laid_strconv_ErrRange), ("strconv.ErrSyntax", Rows.laid_strconv_ErrSyntax), ("martensite/recipe.names", Rows.laid_martensite_recipe_names), ("unicode/utf8.first", Rows.laid_unicode_utf8_first)] w) (fun _ _ _ hh h => h.of_heap hh) own started (by kernel_rfl) Tryz.func3
  (ChangeSpec.witness_shaped (enc := b) (C := Tryz.checked) (os := os) (X := fun w _ => laidMetH Tryz.prog [("math/bits.deBruijn32tab", Rows.laid_math_bits_deBruijn32tab), ("math/bits.deBruijn64tab", Rows.laid_math_bits_deBruijn64tab), ("internal/strconv.uint64pow10", Rows.laid_internal_strconv_uint64pow10), ("unicode/utf8.acceptRanges", Rows.laid_unicode_utf8_acceptRanges), ("strconv.ErrRange", Rows.laid_strconv_ErrRange), ("strconv.ErrSyntax", Rows.laid_strconv_ErrSyntax), ("martensite/recipe.names", Rows.laid_martensite_recipe_names), ("unicode/utf8.first", Rows.laid_unicode_utf8_first)] w) false (World.laidAll Tryz.prog os [("math/bits.deBruijn32tab", Rows.laid_math_bits_deBruijn32tab), ("math/bits.deBruijn64tab", Rows.laid_math_bits_deBruijn64tab), ("internal/strconv.uint64pow10", Rows.laid_internal_strconv_uint64pow10), ("unicode/utf8.acceptRanges", Rows.laid_unicode_utf8_acceptRanges), ("strconv.ErrRange", Rows.laid_strconv_ErrRange), ("strconv.ErrSyntax", Rows.laid_strconv_ErrSyntax), ("martensite/recipe.names", Rows.laid_martensite_recipe_names), ("unicode/utf8.first", Rows.laid_unicode_utf8_first)]) #[.agg #[.slice none 0 0, .string ⟨#[]⟩, .int .i64 (0), .int .i64 (0), .int .i64 (0)], .slice none 0 0, .agg #[.int .i64 (0), .string ⟨#[]⟩, .int .i64 (0)]] 8 (World.laidAll_os _ _ _)
   (World.shaped_of_ZipB (by kernel_rfl) (by kernel_rfl)) (by kernel_rfl) (by kernel_rfl) (by kernel_rfl)
   (by rw[MakeChecks.laidMetH_plain _ _ _ (by kernel_rfl)];exact laidMet_laidAll _ (by kernel_rfl) (by kernel_rfl))) ?_
 intro W e args g l before a i d _ k _;have c:∀(j:Nat) t v,Tryz.f3.params[j]?=some t→args[j]?=some v→Value.okWide Tryz.prog W .any e t v:=a;clear d a;exact xH (P:=Tryz.prog) (f:=3) (fn:=Tryz.f3) (s:=Rows.recordPartsSpec) (Ts:=tys) (tb:=4) (apart:=false) (fresh:=true) (handsOn:=false) contract (tabs k) laidOut tysAre rfl (by kernel_rfl) Tryz.underlying4
  (fun g h=>by
   rw[Tryz.params3]at h
   match g,h with
   |[_,_,_],_=>rfl) c i
end Go.Proofs.YtdhdgbnafkeifaaGreatDoor.recordParts
namespace Go.Proofs.YtdhdgbnafkeifaaGreatDoor
open Go.ChangeAt
theorem andT{a b:Bool}(d:a=true)(c:b=true):(a&&b)=true:=by simp_all
theorem recordParts_k0:(Rows.recordPartsRow.wf (OpenSpec.ofChange Rows.recordPartsSpec))=true:=by kernel_rfl
theorem recordParts_k1:(laidOutB Tryz.prog)=true:=by kernel_rfl
theorem recordParts_k2:(mapsRowed Tryz.prog)=true:=by kernel_rfl
theorem recordParts_k3:(Tryz.f3.params.all (Tryz.prog.readableRec ·))=true:=by kernel_rfl
theorem recordParts_k4:(namedTie Tryz.prog Rows.recordPartsRow.named Rows.recordPartsSpec.vars)=true:=by kernel_rfl
theorem recordParts_k5:((Rows.recordPartsRow.stops==[]))=true:=by kernel_rfl
theorem recordParts_k6:((Tryz.prog.stops==[]))=true:=by kernel_rfl
theorem recordParts_k7:((Rows.recordPartsRow.knobs==[]))=true:=by kernel_rfl
theorem recordParts_k8:((Tryz.prog.stopKnobs==[]))=true:=by kernel_rfl
theorem recordParts_k9:((Rows.recordPartsRow.inPlace==Tryz.prog.inPlace 3))=true:=by kernel_rfl
theorem recordParts_k10:((Rows.recordPartsRow.unfollowed==Tryz.prog.unfollowed 3))=true:=by kernel_rfl
theorem recordParts_k11:((Rows.recordPartsRow.recurses==Tryz.prog.recurses 3))=true:=by kernel_rfl
theorem recordParts_k12:((Rows.recordPartsRow.named==Tryz.prog.varsNamed 3))=true:=by kernel_rfl
theorem recordParts_k13:((Rows.recordPartsRow.maps==(Tryz.f3.params.toList++Rows.recordPartsSpec.plain.varTypes Tryz.prog).any (Tryz.prog.mapsRec ·)))=true:=by kernel_rfl
theorem recordParts_k14:((Rows.recordPartsRow.ifaces==(Tryz.f3.params.toList++Rows.recordPartsSpec.plain.varTypes Tryz.prog).any (Tryz.prog.ifacesRec ·)))=true:=by kernel_rfl
theorem recordParts_k15:((Rows.recordPartsRow.mapsOut==Tryz.prog.mapsAmong Tryz.f3.resultTypes.toList))=true:=by kernel_rfl
theorem recordParts_k16:((Rows.recordPartsRow.loops==(Tryz.f3.params.toList++Rows.recordPartsSpec.plain.varTypes Tryz.prog).any (Tryz.prog.loopsFrom ·)))=true:=by kernel_rfl
theorem recordParts_k17:((Rows.recordPartsRow.wideKeys==(Tryz.f3.params.toList++Rows.recordPartsSpec.plain.varTypes Tryz.prog++Tryz.f3.resultTypes.toList).any (Tryz.prog.wideKeysFrom ·)))=true:=by kernel_rfl
theorem recordParts_k18:(Rows.recordPartsSpec.vars.all (Tryz.prog.varReadable ·))=true:=by kernel_rfl
theorem recordParts_k19:(Tryz.f3.resultTypes.all (fun t=>Tryz.prog.readableRec t&&decide (t<Tryz.prog.types.size)))=true:=by kernel_rfl
theorem recordParts_k20:((Rows.recordPartsRow.ifacesOut==Tryz.f3.resultTypes.toList.any (Tryz.prog.ifacesRec ·)))=true:=by kernel_rfl
theorem recordParts_k21:((Rows.recordPartsRow.loopsOut==Tryz.f3.resultTypes.toList.any (Tryz.prog.loopsFrom ·)))=true:=by kernel_rfl
theorem recordParts_k22:((Rows.recordPartsRow.plainKeys==Tryz.prog.plainKeys))=true:=by kernel_rfl
theorem recordParts_k23:(Rows.recordPartsRow.shortTexts.isNone)=true:=by kernel_rfl
theorem recordParts_k24:(Tryz.prog.stopsHeard)=true:=by kernel_rfl
theorem recordParts_k25:(Tryz.prog.mayEnter)=true:=by kernel_rfl
theorem recordParts_k26:((Rows.recordPartsRow.lifted==Tryz.prog.liftsFinal))=true:=by kernel_rfl
theorem recordParts_k27:((Tryz.prog.make==some Rows.recordPartsRow.make))=true:=by kernel_rfl
theorem recordParts_k28:((Rows.recordPartsRow.kinds==(if Rows.recordPartsRow.domain.isEmpty then []else Tryz.f3.params.toList.map fun t=>match Tryz.prog.underlying t with|some (.int k)=>some k|_=>none)))=true:=by kernel_rfl
theorem recordParts_k29:((Rows.recordPartsRow.pinned==Rows.recordPartsRow.pinnedBy))=true:=by kernel_rfl
theorem recordParts_k30:((Rows.recordPartsRow.veiled==(Tryz.f3.params.toList++Rows.recordPartsSpec.plain.varTypes Tryz.prog++Tryz.f3.resultTypes.toList).any (Tryz.prog.veiledRec ·)))=true:=by kernel_rfl
theorem recordParts_k31:(Rows.recordPartsRow.veiledFits Tryz.prog Tryz.f3.params.toList (Tryz.f3.params.toList++Rows.recordPartsSpec.plain.varTypes Tryz.prog++Tryz.f3.resultTypes.toList))=true:=by kernel_rfl
set_option maxRecDepth 100000 in
theorem recordParts_closed:joinedFacts Tryz.prog 3 Tryz.f3 Rows.recordPartsSpec Rows.recordPartsRow=true:=by
 unfold joinedFacts;exact(andT (andT (andT (andT (andT (andT (andT (andT (andT (andT (andT (andT (andT (andT (andT (andT (andT (andT (andT (andT (andT (andT (andT (andT (andT (andT (andT (andT (andT (andT (andT recordParts_k0 recordParts_k1) recordParts_k2) recordParts_k3) recordParts_k4) recordParts_k5) recordParts_k6) recordParts_k7) recordParts_k8) recordParts_k9) recordParts_k10) recordParts_k11) recordParts_k12) recordParts_k13) recordParts_k14) recordParts_k15) recordParts_k16) recordParts_k17) recordParts_k18) recordParts_k19) recordParts_k20) recordParts_k21) recordParts_k22) recordParts_k23) recordParts_k24) recordParts_k25) recordParts_k26) recordParts_k27) recordParts_k28) recordParts_k29) recordParts_k30) recordParts_k31)
theorem recordParts_named:Tryz.prog.funcNamed Rows.recordPartsRow.func=some 3:=by kernel_rfl
theorem recordParts_inst:Tryz.f3.isInstance Tryz.prog Rows.recordPartsRow.origin Rows.recordPartsRow.targs:=of_decide_eq_true (by kernel_rfl)
theorem recordParts_wrap:Tryz.f3.isWrapper Tryz.prog Rows.recordPartsRow.wrapper Rows.recordPartsRow.mainSum:=by unfold Func.isWrapper;first|(rw[if_pos (by decide+kernel)];kernel_rfl)|(rw[if_neg (by decide+kernel)];exact⟨rfl,rfl⟩)
theorem recordParts_row:Rows.RecordPartsSaid:=
 OpenClaim.holds_of_wide (p:=Tryz.pinned) 3 Tryz.f3 rfl rfl rfl rfl rfl rfl rfl ⟨rfl,rfl,rfl,rfl,rfl⟩ rfl rfl rfl rfl rfl recordParts_named Tryz.func3 recordParts_closed
  recordParts_inst recordParts_wrap
  (fun os started H a _=>recordParts.lifted os started H a)
theorem recordParts_wf:Rows.recordPartsRow.wfByText (OpenSpec.ofChange Rows.recordPartsSpec)=true:=by kernel_rfl
theorem recordParts_main : Tryz.prog.mainIs = some ((true, "57c161f027b0343d6fdb22f8a4c4e5bb33949660d9cc4a3b15940da41203e3db").1, (true, "57c161f027b0343d6fdb22f8a4c4e5bb33949660d9cc4a3b15940da41203e3db").2.toList) := by kernel_rfl
theorem recordParts_nm : Tryz.prog.funcNamed "martensite/martensitelaw10.RecordParts" = some 3 := by kernel_rfl
theorem recordParts_looks:true=Tryz.prog.looks []:=by kernel_rfl
theorem recordParts_all:([26,27,31].all fun u=>!Tryz.prog.wantsStandIn u)=true:=by kernel_rfl
theorem recordParts_goes:false=Rows.recordPartsRow.goesBy Tryz.prog:=by kernel_rfl
theorem recordParts_holds:Rows.RecordPartsCardSaid:=
 Claim7.holds_tied_plain_at .later [] [.data, .data, .data, .data, .sentinel, .sentinel, .data, .pinned] true (true, "57c161f027b0343d6fdb22f8a4c4e5bb33949660d9cc4a3b15940da41203e3db") true recordParts_row (fun _ h => by cases h) recordParts_wf (fun _ h => by cases h) recordParts_row_tie rfl ⟨rfl, rfl⟩ recordParts_main rfl
  (fun f fn e b=>by
   obtain rfl:f=3:=Option.some.inj (recordParts_nm.symm.trans e)|>.symm
   obtain rfl:fn=Tryz.f3:=(Option.some.inj (Tryz.func3.symm.trans b)).symm;exact⟨recordParts_looks,fun j t c=>by
    rw[Tryz.params3]at c;have d:t∈[26,27,31]:=by simpa using Array.mem_of_getElem? c
    have a:=recordParts_all;exact(show Tryz.prog.wantsStandIn t=false by simpa using List.all_eq_true.1 a t d)⟩)
  recordParts_goes
end Go.Proofs.YtdhdgbnafkeifaaGreatDoor
