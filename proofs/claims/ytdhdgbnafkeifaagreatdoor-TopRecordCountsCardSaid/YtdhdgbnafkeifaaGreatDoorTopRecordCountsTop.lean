import Derived.Handy
import Derived.Lay
import Derived.SevenTiedAt
import Derived.Test.YtdhdgbnafkeifaaGreatDoorCards
import Derived.Test.YtdhdgbnafkeifaaGreatDoorRows
import Derived.Test.YtdhdgbnafkeifaaGreatDoorTie
import Derived.Test.YtdhdgbnafkeifaaGreatDoorUo
/-
 TopRecordCounts:for every input the law returns true,and each argument reads behind the call as it read before;the row lists tables of the library's,and the card ties them to the program's text. No other condition.
-/
namespace Go.Proofs.YtdhdgbnafkeifaaGreatDoor.topRecordCounts
open Go.Ab Go.ChangeShapes Go.WideShapes Go.ChangeAt Go.RowKit
theorem own:ownKnob Tryz.prog.godebug=none:=by kernel_rfl
theorem laidOut:laidOutB Tryz.prog=true:=by kernel_rfl
def tys:List Ty:=[(.st (.cons (.sl (.st (.cons .str (.cons (.int .i64) .nil)))) (.cons .str (.cons (.int .i64) (.cons (.st (.cons (.int .i64) (.cons (.int .i64) .nil))) .nil))))),(.sl (.st (.cons (.int .i64) (.cons .str (.cons .str .nil)))))]
theorem tysAre:qi Tryz.prog tys Tryz.f8.params.toList:=by
 rw[Tryz.params8];exact⟨rfl,⟨_,Tryz.underlying26,by kernel_rfl,⟨rfl,by kernel_rfl,⟨_,Tryz.underlying22,by kernel_rfl,by decide,⟨_,Tryz.underlying113,by kernel_rfl,⟨rfl,by kernel_rfl,Tryz.underlying9,⟨rfl,by kernel_rfl,Tryz.underlying3,rfl⟩⟩⟩⟩,⟨rfl,by kernel_rfl,Tryz.underlying9,⟨rfl,by kernel_rfl,Tryz.underlying3,⟨rfl,by kernel_rfl,⟨_,Tryz.underlying24,by kernel_rfl,⟨rfl,by kernel_rfl,Tryz.underlying3,⟨rfl,by kernel_rfl,Tryz.underlying3,rfl⟩⟩⟩,rfl⟩⟩⟩⟩⟩,by kernel_rfl,of_decide_eq_true (by kernel_rfl),⟨rfl,⟨_,Tryz.underlying27,by kernel_rfl,by decide,⟨_,Tryz.underlying78,by kernel_rfl,⟨rfl,by kernel_rfl,Tryz.underlying3,⟨rfl,by kernel_rfl,Tryz.underlying9,⟨rfl,by kernel_rfl,Tryz.underlying9,rfl⟩⟩⟩⟩⟩,by kernel_rfl,of_decide_eq_true (by kernel_rfl),trivial⟩⟩
theorem starErr : "*" ++ "errors.errorString" = "*errors.errorString" := by decide
theorem rowErr (u : TypeId) (h : Tryz.prog.typeName? 3 u = some "*errors.errorString") : u = 455 :=
 typeName_ptr_named (nm := "errors.errorString") (by rw [starErr]; kernel_rfl) (by kernel_rfl) (by decide) u (by rw [starErr]; exact h)
theorem powLaid:(Rows.laid_internal_strconv_uint64pow10:DataW Unit)=Lib.tabData .u64 Lib.pow10Tab:=by kernel_rfl
theorem namLaid:(Rows.laid_martensite_recipe_names:DataW Unit)=pM b7:=by kernel_rfl
theorem tabs {W : World} (h0 : laidMetH Tryz.prog [("math/bits.deBruijn32tab", Rows.laid_math_bits_deBruijn32tab), ("math/bits.deBruijn64tab", Rows.laid_math_bits_deBruijn64tab), ("internal/strconv.uint64pow10", Rows.laid_internal_strconv_uint64pow10), ("unicode/utf8.acceptRanges", Rows.laid_unicode_utf8_acceptRanges), ("strconv.ErrRange", Rows.laid_strconv_ErrRange), ("strconv.ErrSyntax", Rows.laid_strconv_ErrSyntax), ("martensite/recipe.names", Rows.laid_martensite_recipe_names), ("unicode/utf8.first", Rows.laid_unicode_utf8_first)] W) : jv Tryz.prog W := by
 rw[MakeChecks.laidMetH_plain _ _ _ (by kernel_rfl)]at h0;have h:=h0;have d:=h.tail.tail;rw[powLaid]at d;have c:=h.tail.tail.tail.tail.tail.tail;rw[namLaid]at c;refine jv.BU (Lib.tabIs_of_head (g:=3) (t:=452) (e:=250) (n:=20) (by kernel_rfl) (by kernel_rfl) Tryz.underlying452 Tryz.underlying250 (by kernel_rfl) (by kernel_rfl) d) ?_ ?_ (fun _ _=>tT (g:=6) (t:=476) (e:=9) (n:=6) (by kernel_rfl) (by kernel_rfl) Tryz.underlying476 Tryz.underlying9 (by kernel_rfl) (by kernel_rfl) c)
 ·obtain⟨a,s,b,_⟩:=laid_sentinel (g:=2) (h.tail.tail.tail.tail) (by kernel_rfl) (by kernel_rfl) Tryz.underlying228 rowErr Tryz.underlying455 Tryz.underlying457 rfl rfl Tryz.underlying9 (by kernel_rfl) (by kernel_rfl);exact⟨_,_,b⟩
 ·obtain⟨a,s,b,_⟩:=laid_sentinel (g:=1) (h.tail.tail.tail.tail.tail) (by kernel_rfl) (by kernel_rfl) Tryz.underlying228 rowErr Tryz.underlying455 Tryz.underlying457 rfl rfl Tryz.underlying9 (by kernel_rfl) (by kernel_rfl);exact⟨_,_,b⟩
theorem contract:∀xs,tR tys xs→gz Tryz.prog 8 xs (.bool true):=by
 intro xs h
 match xs,h with
 |[x0,x1],h=>
  obtain⟨⟨b,rfl,h0⟩,a,_⟩:=h;obtain⟨d,rfl⟩:=Gg h0;obtain⟨c,rfl⟩:=RE a;exact law_TopRecordCounts
 |[],h=>exact h.elim
 |[_],h=>exact h.2.elim
 |_::_::_::_,h=>exact h.2.2.elim
set_option maxRecDepth 100000 in
theorem lifted(os:Os)(started:os.Started)(H:Type)(enc:TypeId×Value→H):
  ReturnsInHanded {} Tryz.checked os 8 .any (fun w args => (Rows.topRecordCountsSpec.pre enc Tryz.prog Tryz.f8 [] false w args ∧ laidMetH Tryz.prog [("math/bits.deBruijn32tab", Rows.laid_math_bits_deBruijn32tab), ("math/bits.deBruijn64tab", Rows.laid_math_bits_deBruijn64tab), ("internal/strconv.uint64pow10", Rows.laid_internal_strconv_uint64pow10), ("unicode/utf8.acceptRanges", Rows.laid_unicode_utf8_acceptRanges), ("strconv.ErrRange", Rows.laid_strconv_ErrRange), ("strconv.ErrSyntax", Rows.laid_strconv_ErrSyntax), ("martensite/recipe.names", Rows.laid_martensite_recipe_names), ("unicode/utf8.first", Rows.laid_unicode_utf8_first)] w) ∧ sizedMet enc Tryz.prog Tryz.f8 (OpenSpec.ofChange Rows.topRecordCountsSpec) false w args)
   (Rows.topRecordCountsSpec.post enc Tryz.prog Tryz.f8 false true false false):=by
 refine returnsInHanded_of_change_and (C := Tryz.checked) (X := fun w _ => laidMetH Tryz.prog [("math/bits.deBruijn32tab", Rows.laid_math_bits_deBruijn32tab), ("math/bits.deBruijn64tab", Rows.laid_math_bits_deBruijn64tab), ("internal/strconv.uint64pow10", Rows.laid_internal_strconv_uint64pow10), ("unicode/utf8.acceptRanges", Rows.laid_unicode_utf8_acceptRanges), ("strconv.ErrRange", Rows.laid_strconv_ErrRange), ("strconv.ErrSyntax", Rows.laid_strconv_ErrSyntax), ("martensite/recipe.names", Rows.laid_martensite_recipe_names), ("unicode/utf8.first", Rows.laid_unicode_utf8_first)] w) (fun _ _ _ hh h => h.of_heap hh) own started (by kernel_rfl) Tryz.func8
  (ChangeSpec.witness_shaped (enc := enc) (C := Tryz.checked) (os := os) (X := fun w _ => laidMetH Tryz.prog [("math/bits.deBruijn32tab", Rows.laid_math_bits_deBruijn32tab), ("math/bits.deBruijn64tab", Rows.laid_math_bits_deBruijn64tab), ("internal/strconv.uint64pow10", Rows.laid_internal_strconv_uint64pow10), ("unicode/utf8.acceptRanges", Rows.laid_unicode_utf8_acceptRanges), ("strconv.ErrRange", Rows.laid_strconv_ErrRange), ("strconv.ErrSyntax", Rows.laid_strconv_ErrSyntax), ("martensite/recipe.names", Rows.laid_martensite_recipe_names), ("unicode/utf8.first", Rows.laid_unicode_utf8_first)] w) false (World.laidAll Tryz.prog os [("math/bits.deBruijn32tab", Rows.laid_math_bits_deBruijn32tab), ("math/bits.deBruijn64tab", Rows.laid_math_bits_deBruijn64tab), ("internal/strconv.uint64pow10", Rows.laid_internal_strconv_uint64pow10), ("unicode/utf8.acceptRanges", Rows.laid_unicode_utf8_acceptRanges), ("strconv.ErrRange", Rows.laid_strconv_ErrRange), ("strconv.ErrSyntax", Rows.laid_strconv_ErrSyntax), ("martensite/recipe.names", Rows.laid_martensite_recipe_names), ("unicode/utf8.first", Rows.laid_unicode_utf8_first)]) #[.agg #[.slice none 0 0, .string ⟨#[]⟩, .int .i64 (0), .int .i64 (0), .int .i64 (0)], .slice none 0 0] 8 (World.laidAll_os _ _ _)
   (World.shaped_of_ZipB (by kernel_rfl) (by kernel_rfl)) (by kernel_rfl) (by kernel_rfl) (by kernel_rfl)
   (by rw[MakeChecks.laidMetH_plain _ _ _ (by kernel_rfl)];exact laidMet_laidAll _ (by kernel_rfl) (by kernel_rfl))) ?_
 intro W d args e k before a g c _ i _;have b:∀(j:Nat) t v,Tryz.f8.params[j]?=some t→args[j]?=some v→Value.okWide Tryz.prog W .any d t v:=a;clear c a;exact xH (P:=Tryz.prog) (f:=8) (fn:=Tryz.f8) (s:=Rows.topRecordCountsSpec) (Ts:=tys) (tb:=4) (apart:=false) (fresh:=true) (handsOn:=false) contract (tabs i) laidOut tysAre rfl (by kernel_rfl) Tryz.underlying4
  (fun e h=>by
   rw[Tryz.params8]at h
   match e,h with
   |[_,_],_=>rfl) b g
end Go.Proofs.YtdhdgbnafkeifaaGreatDoor.topRecordCounts
namespace Go.Proofs.YtdhdgbnafkeifaaGreatDoor
open Go.ChangeAt
theorem andT{a b:Bool}(d:a=true)(c:b=true):(a&&b)=true:=by simp_all
theorem topRecordCounts_k0:(Rows.topRecordCountsRow.wf (OpenSpec.ofChange Rows.topRecordCountsSpec))=true:=by kernel_rfl
theorem topRecordCounts_k1:(laidOutB Tryz.prog)=true:=by kernel_rfl
theorem topRecordCounts_k2:(mapsRowed Tryz.prog)=true:=by kernel_rfl
theorem topRecordCounts_k3:(Tryz.f8.params.all (Tryz.prog.readableRec ·))=true:=by kernel_rfl
theorem topRecordCounts_k4:(namedTie Tryz.prog Rows.topRecordCountsRow.named Rows.topRecordCountsSpec.vars)=true:=by kernel_rfl
theorem topRecordCounts_k5:((Rows.topRecordCountsRow.stops==[]))=true:=by kernel_rfl
theorem topRecordCounts_k6:((Tryz.prog.stops==[]))=true:=by kernel_rfl
theorem topRecordCounts_k7:((Rows.topRecordCountsRow.knobs==[]))=true:=by kernel_rfl
theorem topRecordCounts_k8:((Tryz.prog.stopKnobs==[]))=true:=by kernel_rfl
theorem topRecordCounts_k9:((Rows.topRecordCountsRow.inPlace==Tryz.prog.inPlace 8))=true:=by kernel_rfl
theorem topRecordCounts_k10:((Rows.topRecordCountsRow.unfollowed==Tryz.prog.unfollowed 8))=true:=by kernel_rfl
theorem topRecordCounts_k11:((Rows.topRecordCountsRow.recurses==Tryz.prog.recurses 8))=true:=by kernel_rfl
theorem topRecordCounts_k12:((Rows.topRecordCountsRow.named==Tryz.prog.varsNamed 8))=true:=by kernel_rfl
theorem topRecordCounts_k13:((Rows.topRecordCountsRow.maps==(Tryz.f8.params.toList++Rows.topRecordCountsSpec.plain.varTypes Tryz.prog).any (Tryz.prog.mapsRec ·)))=true:=by kernel_rfl
theorem topRecordCounts_k14:((Rows.topRecordCountsRow.ifaces==(Tryz.f8.params.toList++Rows.topRecordCountsSpec.plain.varTypes Tryz.prog).any (Tryz.prog.ifacesRec ·)))=true:=by kernel_rfl
theorem topRecordCounts_k15:((Rows.topRecordCountsRow.mapsOut==Tryz.prog.mapsAmong Tryz.f8.resultTypes.toList))=true:=by kernel_rfl
theorem topRecordCounts_k16:((Rows.topRecordCountsRow.loops==(Tryz.f8.params.toList++Rows.topRecordCountsSpec.plain.varTypes Tryz.prog).any (Tryz.prog.loopsFrom ·)))=true:=by kernel_rfl
theorem topRecordCounts_k17:((Rows.topRecordCountsRow.wideKeys==(Tryz.f8.params.toList++Rows.topRecordCountsSpec.plain.varTypes Tryz.prog++Tryz.f8.resultTypes.toList).any (Tryz.prog.wideKeysFrom ·)))=true:=by kernel_rfl
theorem topRecordCounts_k18:(Rows.topRecordCountsSpec.vars.all (Tryz.prog.varReadable ·))=true:=by kernel_rfl
theorem topRecordCounts_k19:(Tryz.f8.resultTypes.all (fun t=>Tryz.prog.readableRec t&&decide (t<Tryz.prog.types.size)))=true:=by kernel_rfl
theorem topRecordCounts_k20:((Rows.topRecordCountsRow.ifacesOut==Tryz.f8.resultTypes.toList.any (Tryz.prog.ifacesRec ·)))=true:=by kernel_rfl
theorem topRecordCounts_k21:((Rows.topRecordCountsRow.loopsOut==Tryz.f8.resultTypes.toList.any (Tryz.prog.loopsFrom ·)))=true:=by kernel_rfl
theorem topRecordCounts_k22:((Rows.topRecordCountsRow.plainKeys==Tryz.prog.plainKeys))=true:=by kernel_rfl
theorem topRecordCounts_k23:(Rows.topRecordCountsRow.shortTexts.isNone)=true:=by kernel_rfl
theorem topRecordCounts_k24:(Tryz.prog.stopsHeard)=true:=by kernel_rfl
theorem topRecordCounts_k25:(Tryz.prog.mayEnter)=true:=by kernel_rfl
theorem topRecordCounts_k26:((Rows.topRecordCountsRow.lifted==Tryz.prog.liftsFinal))=true:=by kernel_rfl
theorem topRecordCounts_k27:((Tryz.prog.make==some Rows.topRecordCountsRow.make))=true:=by kernel_rfl
theorem topRecordCounts_k28:((Rows.topRecordCountsRow.kinds==(if Rows.topRecordCountsRow.domain.isEmpty then []else Tryz.f8.params.toList.map fun t=>match Tryz.prog.underlying t with|some (.int k)=>some k|_=>none)))=true:=by kernel_rfl
theorem topRecordCounts_k29:((Rows.topRecordCountsRow.pinned==Rows.topRecordCountsRow.pinnedBy))=true:=by kernel_rfl
theorem topRecordCounts_k30:((Rows.topRecordCountsRow.veiled==(Tryz.f8.params.toList++Rows.topRecordCountsSpec.plain.varTypes Tryz.prog++Tryz.f8.resultTypes.toList).any (Tryz.prog.veiledRec ·)))=true:=by kernel_rfl
theorem topRecordCounts_k31:(Rows.topRecordCountsRow.veiledFits Tryz.prog Tryz.f8.params.toList (Tryz.f8.params.toList++Rows.topRecordCountsSpec.plain.varTypes Tryz.prog++Tryz.f8.resultTypes.toList))=true:=by kernel_rfl
set_option maxRecDepth 100000 in
theorem topRecordCounts_closed:joinedFacts Tryz.prog 8 Tryz.f8 Rows.topRecordCountsSpec Rows.topRecordCountsRow=true:=by
 unfold joinedFacts;exact(andT (andT (andT (andT (andT (andT (andT (andT (andT (andT (andT (andT (andT (andT (andT (andT (andT (andT (andT (andT (andT (andT (andT (andT (andT (andT (andT (andT (andT (andT (andT topRecordCounts_k0 topRecordCounts_k1) topRecordCounts_k2) topRecordCounts_k3) topRecordCounts_k4) topRecordCounts_k5) topRecordCounts_k6) topRecordCounts_k7) topRecordCounts_k8) topRecordCounts_k9) topRecordCounts_k10) topRecordCounts_k11) topRecordCounts_k12) topRecordCounts_k13) topRecordCounts_k14) topRecordCounts_k15) topRecordCounts_k16) topRecordCounts_k17) topRecordCounts_k18) topRecordCounts_k19) topRecordCounts_k20) topRecordCounts_k21) topRecordCounts_k22) topRecordCounts_k23) topRecordCounts_k24) topRecordCounts_k25) topRecordCounts_k26) topRecordCounts_k27) topRecordCounts_k28) topRecordCounts_k29) topRecordCounts_k30) topRecordCounts_k31)
theorem topRecordCounts_named:Tryz.prog.funcNamed Rows.topRecordCountsRow.func=some 8:=by kernel_rfl
theorem topRecordCounts_inst:Tryz.f8.isInstance Tryz.prog Rows.topRecordCountsRow.origin Rows.topRecordCountsRow.targs:=of_decide_eq_true (by kernel_rfl)
theorem topRecordCounts_wrap:Tryz.f8.isWrapper Tryz.prog Rows.topRecordCountsRow.wrapper Rows.topRecordCountsRow.mainSum:=by unfold Func.isWrapper;first|(rw[if_pos (by decide+kernel)];kernel_rfl)|(rw[if_neg (by decide+kernel)];exact⟨rfl,rfl⟩)
theorem topRecordCounts_row:Rows.TopRecordCountsSaid:=
 OpenClaim.holds_of_wide (p:=Tryz.pinned) 8 Tryz.f8 rfl rfl rfl rfl rfl rfl rfl ⟨rfl,rfl,rfl,rfl,rfl⟩ rfl rfl rfl rfl rfl topRecordCounts_named Tryz.func8 topRecordCounts_closed
  topRecordCounts_inst topRecordCounts_wrap
  (fun os started H a _=>topRecordCounts.lifted os started H a)
theorem topRecordCounts_wf:Rows.topRecordCountsRow.wfByText (OpenSpec.ofChange Rows.topRecordCountsSpec)=true:=by kernel_rfl
theorem topRecordCounts_main : Tryz.prog.mainIs = some ((true, "57c161f027b0343d6fdb22f8a4c4e5bb33949660d9cc4a3b15940da41203e3db").1, (true, "57c161f027b0343d6fdb22f8a4c4e5bb33949660d9cc4a3b15940da41203e3db").2.toList) := by kernel_rfl
theorem topRecordCounts_nm : Tryz.prog.funcNamed "martensite/martensitetop.TopRecordCounts" = some 8 := by kernel_rfl
theorem topRecordCounts_looks:true=Tryz.prog.looks []:=by kernel_rfl
theorem topRecordCounts_all:([26,27].all fun u=>!Tryz.prog.wantsStandIn u)=true:=by kernel_rfl
theorem topRecordCounts_goes:false=Rows.topRecordCountsRow.goesBy Tryz.prog:=by kernel_rfl
theorem topRecordCounts_holds:Rows.TopRecordCountsCardSaid:=
 Claim7.holds_tied_plain_at .later [] [.data, .data, .data, .data, .sentinel, .sentinel, .data, .pinned] true (true, "57c161f027b0343d6fdb22f8a4c4e5bb33949660d9cc4a3b15940da41203e3db") true topRecordCounts_row (fun _ h => by cases h) topRecordCounts_wf (fun _ h => by cases h) topRecordCounts_row_tie rfl ⟨rfl, rfl⟩ topRecordCounts_main rfl
  (fun f fn e b=>by
   obtain rfl:f=8:=Option.some.inj (topRecordCounts_nm.symm.trans e)|>.symm
   obtain rfl:fn=Tryz.f8:=(Option.some.inj (Tryz.func8.symm.trans b)).symm;exact⟨topRecordCounts_looks,fun j t c=>by
    rw[Tryz.params8]at c;have d:t∈[26,27]:=by simpa using Array.mem_of_getElem? c
    have a:=topRecordCounts_all;exact(show Tryz.prog.wantsStandIn t=false by simpa using List.all_eq_true.1 a t d)⟩)
  topRecordCounts_goes
end Go.Proofs.YtdhdgbnafkeifaaGreatDoor
