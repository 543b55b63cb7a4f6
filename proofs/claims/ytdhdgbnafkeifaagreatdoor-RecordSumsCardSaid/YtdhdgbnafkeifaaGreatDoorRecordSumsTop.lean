import Derived.Handy
import Derived.Lay
import Derived.SevenTiedAt
import Derived.Test.YtdhdgbnafkeifaaGreatDoorCards
import Derived.Test.YtdhdgbnafkeifaaGreatDoorRows
import Derived.Test.YtdhdgbnafkeifaaGreatDoorTie
import Derived.Test.YtdhdgbnafkeifaaGreatDoorUm
/-
 RecordSums:for every input the law returns true,and each argument reads behind the call as it read before;the row lists tables of the library's,and the card ties them to the program's text. No other condition.
-/
namespace Go.Proofs.YtdhdgbnafkeifaaGreatDoor.recordSums
open Go.Ab Go.ChangeShapes Go.WideShapes Go.ChangeAt Go.RowKit
theorem own:ownKnob Tryz.prog.godebug=none:=by kernel_rfl
theorem laidOut:laidOutB Tryz.prog=true:=by kernel_rfl
def tys:List Ty:=[(.st (.cons (.sl (.st (.cons .str (.cons (.int .i64) .nil)))) (.cons .str (.cons (.int .i64) (.cons (.st (.cons (.int .i64) (.cons (.int .i64) .nil))) .nil))))),(.sl (.st (.cons (.int .i64) (.cons .str (.cons .str .nil))))),(.st (.cons .str (.cons (.int .i64) (.cons (.int .i64) .nil))))]
theorem tysAre:qi Tryz.prog tys Tryz.f5.params.toList:=by
 rw[Tryz.params5];exact⟨rfl,⟨_,Tryz.underlying26,by kernel_rfl,⟨rfl,by kernel_rfl,⟨_,Tryz.underlying22,by kernel_rfl,by decide,⟨_,Tryz.underlying113,by kernel_rfl,⟨rfl,by kernel_rfl,Tryz.underlying9,⟨rfl,by kernel_rfl,Tryz.underlying3,rfl⟩⟩⟩⟩,⟨rfl,by kernel_rfl,Tryz.underlying9,⟨rfl,by kernel_rfl,Tryz.underlying3,⟨rfl,by kernel_rfl,⟨_,Tryz.underlying24,by kernel_rfl,⟨rfl,by kernel_rfl,Tryz.underlying3,⟨rfl,by kernel_rfl,Tryz.underlying3,rfl⟩⟩⟩,rfl⟩⟩⟩⟩⟩,by kernel_rfl,of_decide_eq_true (by kernel_rfl),⟨rfl,⟨_,Tryz.underlying27,by kernel_rfl,by decide,⟨_,Tryz.underlying78,by kernel_rfl,⟨rfl,by kernel_rfl,Tryz.underlying3,⟨rfl,by kernel_rfl,Tryz.underlying9,⟨rfl,by kernel_rfl,Tryz.underlying9,rfl⟩⟩⟩⟩⟩,by kernel_rfl,of_decide_eq_true (by kernel_rfl),⟨rfl,⟨_,Tryz.underlying87,by kernel_rfl,⟨rfl,by kernel_rfl,Tryz.underlying9,⟨rfl,by kernel_rfl,Tryz.underlying3,⟨rfl,by kernel_rfl,Tryz.underlying3,rfl⟩⟩⟩⟩,by kernel_rfl,of_decide_eq_true (by kernel_rfl),trivial⟩⟩⟩
theorem starErr : "*" ++ "errors.errorString" = "*errors.errorString" := by decide
theorem rowErr (u : TypeId) (h : Tryz.prog.typeName? 3 u = some "*errors.errorString") : u = 455 :=
 typeName_ptr_named (nm := "errors.errorString") (by rw [starErr]; kernel_rfl) (by kernel_rfl) (by decide) u (by rw [starErr]; exact h)
theorem powLaid:(Rows.laid_internal_strconv_uint64pow10:DataW Unit)=Lib.tabData .u64 Lib.pow10Tab:=by kernel_rfl
theorem namLaid:(Rows.laid_martensite_recipe_names:DataW Unit)=pM b7:=by kernel_rfl
theorem tabs {W : World} (h0 : laidMetH Tryz.prog [("math/bits.deBruijn32tab", Rows.laid_math_bits_deBruijn32tab), ("math/bits.deBruijn64tab", Rows.laid_math_bits_deBruijn64tab), ("internal/strconv.uint64pow10", Rows.laid_internal_strconv_uint64pow10), ("unicode/utf8.acceptRanges", Rows.laid_unicode_utf8_acceptRanges), ("strconv.ErrRange", Rows.laid_strconv_ErrRange), ("strconv.ErrSyntax", Rows.laid_strconv_ErrSyntax), ("martensite/recipe.names", Rows.laid_martensite_recipe_names), ("unicode/utf8.first", Rows.laid_unicode_utf8_first)] W) : jv Tryz.prog W := by
 rw[MakeChecks.laidMetH_plain _ _ _ (by kernel_rfl)]at h0;have h:=h0;have d:=h.tail.tail;rw[powLaid]at d;have c:=h.tail.tail.tail.tail.tail.tail;rw[namLaid]at c;refine jv.BU (Lib.tabIs_of_head (g:=3) (t:=452) (e:=250) (n:=20) (by kernel_rfl) (by kernel_rfl) Tryz.underlying452 Tryz.underlying250 (by kernel_rfl) (by kernel_rfl) d) ?_ ?_ (fun _ _=>tT (g:=6) (t:=476) (e:=9) (n:=6) (by kernel_rfl) (by kernel_rfl) Tryz.underlying476 Tryz.underlying9 (by kernel_rfl) (by kernel_rfl) c)
 ·obtain⟨a,s,b,_⟩:=laid_sentinel (g:=2) (h.tail.tail.tail.tail) (by kernel_rfl) (by kernel_rfl) Tryz.underlying228 rowErr Tryz.underlying455 Tryz.underlying457 rfl rfl Tryz.underlying9 (by kernel_rfl) (by kernel_rfl);exact⟨_,_,b⟩
 ·obtain⟨a,s,b,_⟩:=laid_sentinel (g:=1) (h.tail.tail.tail.tail.tail) (by kernel_rfl) (by kernel_rfl) Tryz.underlying228 rowErr Tryz.underlying455 Tryz.underlying457 rfl rfl Tryz.underlying9 (by kernel_rfl) (by kernel_rfl);exact⟨_,_,b⟩
theorem contract:∀xs,tR tys xs→gz Tryz.prog 5 xs (.bool true):=by
 intro xs h
 match xs,h with
 |[x0,x1,x2],h=>
  obtain⟨⟨d,rfl,h0⟩,b,⟨c,rfl,a⟩,_⟩:=h;obtain⟨g,rfl⟩:=Gg h0;obtain⟨f,rfl⟩:=RE b;obtain⟨e,rfl⟩:=sh_text a;exact law_RecordSums
 |[],h=>exact h.elim
 |[_],h=>exact h.2.elim
 |[_,_],h=>exact h.2.2.elim
 |_::_::_::_::_,h=>exact h.2.2.2.elim
set_option maxRecDepth 100000 in
theorem lifted(os:Os)(started:os.Started)(H:Type)(b:TypeId×Value→H):
  ReturnsInHanded {} Tryz.checked os 5 .any (fun w args => (Rows.recordSumsSpec.pre b Tryz.prog Tryz.f5 [] false w args ∧ laidMetH Tryz.prog [("math/bits.deBruijn32tab", Rows.laid_math_bits_deBruijn32tab), ("math/bits.deBruijn64tab", Rows.laid_math_bits_deBruijn64tab), ("internal/strconv.uint64pow10", Rows.laid_internal_strconv_uint64pow10), ("unicode/utf8.acceptRanges", Rows.laid_unicode_utf8_acceptRanges), ("strconv.ErrRange", Rows.laid_strconv_ErrRange), ("strconv.ErrSyntax", Rows.laid_strconv_ErrSyntax), ("martensite/recipe.names", Rows.laid_martensite_recipe_names), ("unicode/utf8.first", Rows.laid_unicode_utf8_first)] w) ∧ sizedMet b Tryz.prog Tryz.f5 (OpenSpec.ofChange Rows.recordSumsSpec) false w args)
   (Rows.recordSumsSpec.post b Tryz.prog Tryz.f5 false true false false):=by
 refine returnsInHanded_of_change_and (C := Tryz.checked) (X := fun w _ => laidMetH Tryz.prog [("math/bits.deBruijn32tab", Rows.laid_math_bits_deBruijn32tab), ("math/bits.deBruijn64tab", Rows.laid_math_bits_deBruijn64tab), ("internal/strconv.uint64pow10", Rows.laid_internal_strconv_uint64pow10), ("unicode/utf8.acceptRanges", Rows.laid_unicode_utf8_acceptRanges), ("strconv.ErrRange", Rows.laid_strconv_ErrRange), ("strconv.ErrSyntax", Rows.laid_strconv_ErrSyntax), ("martensite/recipe.names", Rows.laid_martensite_recipe_names), ("unicode/utf8.first", Rows.laid_unicode_utf8_first)] w) (fun _ _ _ hh h => h.of_heap hh) own started (by kernel_rfl) Tryz.func5
  (ChangeSpec.witness_shaped (enc := b) (C := Tryz.checked) (os := os) (X := fun w _ => laidMetH Tryz.prog [("math/bits.deBruijn32tab", Rows.laid_math_bits_deBruijn32tab), ("math/bits.deBruijn64tab", Rows.laid_math_bits_deBruijn64tab), ("internal/strconv.uint64pow10", Rows.laid_internal_strconv_uint64pow10), ("unicode/utf8.acceptRanges", Rows.laid_unicode_utf8_acceptRanges), ("strconv.ErrRange", Rows.laid_strconv_ErrRange), ("strconv.ErrSyntax", Rows.laid_strconv_ErrSyntax), ("martensite/recipe.names", Rows.laid_martensite_recipe_names), ("unicode/utf8.first", Rows.laid_unicode_utf8_first)] w) false (World.laidAll Tryz.prog os [("math/bits.deBruijn32tab", Rows.laid_math_bits_deBruijn32tab), ("math/bits.deBruijn64tab", Rows.laid_math_bits_deBruijn64tab), ("internal/strconv.uint64pow10", Rows.laid_internal_strconv_uint64pow10), ("unicode/utf8.acceptRanges", Rows.laid_unicode_utf8_acceptRanges), ("strconv.ErrRange", Rows.laid_strconv_ErrRange), ("strconv.ErrSyntax", Rows.laid_strconv_ErrSyntax), ("martensite/recipe.names", Rows.laid_martensite_recipe_names), ("unicode/utf8.first", Rows.laid_unicode_utf8_first)]) #[.agg #[.slice none 0 0, .string ⟨#[]⟩, .int .i64 (0), .int .i64 (0), .int .i64 (0)], .slice none 0 0, .agg #[.string ⟨#[]⟩, .int .i64 (0), .int .i64 (0)]] 8 (World.laidAll_os _ _ _)
   (World.shaped_of_ZipB (by kernel_rfl) (by kernel_rfl)) (by kernel_rfl) (by kernel_rfl) (by kernel_rfl)
   (by rw[MakeChecks.laidMetH_plain _ _ _ (by kernel_rfl)];exact laidMet_laidAll _ (by kernel_rfl) (by kernel_rfl))) ?_
 intro W e args g l before a i d _ k _;have c:∀(j:Nat) t v,Tryz.f5.params[j]?=some t→args[j]?=some v→Value.okWide Tryz.prog W .any e t v:=a;clear d a;exact xH (P:=Tryz.prog) (f:=5) (fn:=Tryz.f5) (s:=Rows.recordSumsSpec) (Ts:=tys) (tb:=4) (apart:=false) (fresh:=true) (handsOn:=false) contract (tabs k) laidOut tysAre rfl (by kernel_rfl) Tryz.underlying4
  (fun g h=>by
   rw[Tryz.params5]at h
   match g,h with
   |[_,_,_],_=>rfl) c i
end Go.Proofs.YtdhdgbnafkeifaaGreatDoor.recordSums
namespace Go.Proofs.YtdhdgbnafkeifaaGreatDoor
open Go.ChangeAt
theorem andT{a b:Bool}(d:a=true)(c:b=true):(a&&b)=true:=by simp_all
theorem recordSums_k0:(Rows.recordSumsRow.wf (OpenSpec.ofChange Rows.recordSumsSpec))=true:=by kernel_rfl
theorem recordSums_k1:(laidOutB Tryz.prog)=true:=by kernel_rfl
theorem recordSums_k2:(mapsRowed Tryz.prog)=true:=by kernel_rfl
theorem recordSums_k3:(Tryz.f5.params.all (Tryz.prog.readableRec ·))=true:=by kernel_rfl
theorem recordSums_k4:(namedTie Tryz.prog Rows.recordSumsRow.named Rows.recordSumsSpec.vars)=true:=by kernel_rfl
theorem recordSums_k5:((Rows.recordSumsRow.stops==[]))=true:=by kernel_rfl
theorem recordSums_k6:((Tryz.prog.stops==[]))=true:=by kernel_rfl
theorem recordSums_k7:((Rows.recordSumsRow.knobs==[]))=true:=by kernel_rfl
theorem recordSums_k8:((Tryz.prog.stopKnobs==[]))=true:=by kernel_rfl
theorem recordSums_k9:((Rows.recordSumsRow.inPlace==Tryz.prog.inPlace 5))=true:=by kernel_rfl
theorem recordSums_k10:((Rows.recordSumsRow.unfollowed==Tryz.prog.unfollowed 5))=true:=by kernel_rfl
theorem recordSums_k11:((Rows.recordSumsRow.recurses==Tryz.prog.recurses 5))=true:=by kernel_rfl
theorem recordSums_k12:((Rows.recordSumsRow.named==Tryz.prog.varsNamed 5))=true:=by kernel_rfl
theorem recordSums_k13:((Rows.recordSumsRow.maps==(Tryz.f5.params.toList++Rows.recordSumsSpec.plain.varTypes Tryz.prog).any (Tryz.prog.mapsRec ·)))=true:=by kernel_rfl
theorem recordSums_k14:((Rows.recordSumsRow.ifaces==(Tryz.f5.params.toList++Rows.recordSumsSpec.plain.varTypes Tryz.prog).any (Tryz.prog.ifacesRec ·)))=true:=by kernel_rfl
theorem recordSums_k15:((Rows.recordSumsRow.mapsOut==Tryz.prog.mapsAmong Tryz.f5.resultTypes.toList))=true:=by kernel_rfl
theorem recordSums_k16:((Rows.recordSumsRow.loops==(Tryz.f5.params.toList++Rows.recordSumsSpec.plain.varTypes Tryz.prog).any (Tryz.prog.loopsFrom ·)))=true:=by kernel_rfl
theorem recordSums_k17:((Rows.recordSumsRow.wideKeys==(Tryz.f5.params.toList++Rows.recordSumsSpec.plain.varTypes Tryz.prog++Tryz.f5.resultTypes.toList).any (Tryz.prog.wideKeysFrom ·)))=true:=by kernel_rfl
theorem recordSums_k18:(Rows.recordSumsSpec.vars.all (Tryz.prog.varReadable ·))=true:=by kernel_rfl
theorem recordSums_k19:(Tryz.f5.resultTypes.all (fun t=>Tryz.prog.readableRec t&&decide (t<Tryz.prog.types.size)))=true:=by kernel_rfl
theorem recordSums_k20:((Rows.recordSumsRow.ifacesOut==Tryz.f5.resultTypes.toList.any (Tryz.prog.ifacesRec ·)))=true:=by kernel_rfl
theorem recordSums_k21:((Rows.recordSumsRow.loopsOut==Tryz.f5.resultTypes.toList.any (Tryz.prog.loopsFrom ·)))=true:=by kernel_rfl
theorem recordSums_k22:((Rows.recordSumsRow.plainKeys==Tryz.prog.plainKeys))=true:=by kernel_rfl
theorem recordSums_k23:(Rows.recordSumsRow.shortTexts.isNone)=true:=by kernel_rfl
theorem recordSums_k24:(Tryz.prog.stopsHeard)=true:=by kernel_rfl
theorem recordSums_k25:(Tryz.prog.mayEnter)=true:=by kernel_rfl
theorem recordSums_k26:((Rows.recordSumsRow.lifted==Tryz.prog.liftsFinal))=true:=by kernel_rfl
theorem recordSums_k27:((Tryz.prog.make==some Rows.recordSumsRow.make))=true:=by kernel_rfl
theorem recordSums_k28:((Rows.recordSumsRow.kinds==(if Rows.recordSumsRow.domain.isEmpty then []else Tryz.f5.params.toList.map fun t=>match Tryz.prog.underlying t with|some (.int k)=>some k|_=>none)))=true:=by kernel_rfl
theorem recordSums_k29:((Rows.recordSumsRow.pinned==Rows.recordSumsRow.pinnedBy))=true:=by kernel_rfl
theorem recordSums_k30:((Rows.recordSumsRow.veiled==(Tryz.f5.params.toList++Rows.recordSumsSpec.plain.varTypes Tryz.prog++Tryz.f5.resultTypes.toList).any (Tryz.prog.veiledRec ·)))=true:=by kernel_rfl
theorem recordSums_k31:(Rows.recordSumsRow.veiledFits Tryz.prog Tryz.f5.params.toList (Tryz.f5.params.toList++Rows.recordSumsSpec.plain.varTypes Tryz.prog++Tryz.f5.resultTypes.toList))=true:=by kernel_rfl
set_option maxRecDepth 100000 in
theorem recordSums_closed:joinedFacts Tryz.prog 5 Tryz.f5 Rows.recordSumsSpec Rows.recordSumsRow=true:=by
 unfold joinedFacts;exact(andT (andT (andT (andT (andT (andT (andT (andT (andT (andT (andT (andT (andT (andT (andT (andT (andT (andT (andT (andT (andT (andT (andT (andT (andT (andT (andT (andT (andT (andT (andT recordSums_k0 recordSums_k1) recordSums_k2) recordSums_k3) recordSums_k4) recordSums_k5) recordSums_k6) recordSums_k7) recordSums_k8) recordSums_k9) recordSums_k10) recordSums_k11) recordSums_k12) recordSums_k13) recordSums_k14) recordSums_k15) recordSums_k16) recordSums_k17) recordSums_k18) recordSums_k19) recordSums_k20) recordSums_k21) recordSums_k22) recordSums_k23) recordSums_k24) recordSums_k25) recordSums_k26) recordSums_k27) recordSums_k28) recordSums_k29) recordSums_k30) recordSums_k31)
theorem recordSums_named:Tryz.prog.funcNamed Rows.recordSumsRow.func=some 5:=by kernel_rfl
theorem recordSums_inst:Tryz.f5.isInstance Tryz.prog Rows.recordSumsRow.origin Rows.recordSumsRow.targs:=of_decide_eq_true (by kernel_rfl)
theorem recordSums_wrap:Tryz.f5.isWrapper Tryz.prog Rows.recordSumsRow.wrapper Rows.recordSumsRow.mainSum:=by unfold Func.isWrapper;first|(rw[if_pos (by decide+kernel)];kernel_rfl)|(rw[if_neg (by decide+kernel)];exact⟨rfl,rfl⟩)
theorem recordSums_row:Rows.RecordSumsSaid:=
 OpenClaim.holds_of_wide (p:=Tryz.pinned) 5 Tryz.f5 rfl rfl rfl rfl rfl rfl rfl ⟨rfl,rfl,rfl,rfl,rfl⟩ rfl rfl rfl rfl rfl recordSums_named Tryz.func5 recordSums_closed
  recordSums_inst recordSums_wrap
  (fun os started H a _=>recordSums.lifted os started H a)
theorem recordSums_wf:Rows.recordSumsRow.wfByText (OpenSpec.ofChange Rows.recordSumsSpec)=true:=by kernel_rfl
theorem recordSums_main : Tryz.prog.mainIs = some ((true, "57c161f027b0343d6fdb22f8a4c4e5bb33949660d9cc4a3b15940da41203e3db").1, (true, "57c161f027b0343d6fdb22f8a4c4e5bb33949660d9cc4a3b15940da41203e3db").2.toList) := by kernel_rfl
theorem recordSums_nm : Tryz.prog.funcNamed "martensite/martensitelaw10.RecordSums" = some 5 := by kernel_rfl
theorem recordSums_looks:true=Tryz.prog.looks []:=by kernel_rfl
theorem recordSums_all:([26,27,87].all fun u=>!Tryz.prog.wantsStandIn u)=true:=by kernel_rfl
theorem recordSums_goes:false=Rows.recordSumsRow.goesBy Tryz.prog:=by kernel_rfl
theorem recordSums_holds:Rows.RecordSumsCardSaid:=
 Claim7.holds_tied_plain_at .later [] [.data, .data, .data, .data, .sentinel, .sentinel, .data, .pinned] true (true, "57c161f027b0343d6fdb22f8a4c4e5bb33949660d9cc4a3b15940da41203e3db") true recordSums_row (fun _ h => by cases h) recordSums_wf (fun _ h => by cases h) recordSums_row_tie rfl ⟨rfl, rfl⟩ recordSums_main rfl
  (fun f fn e b=>by
   obtain rfl:f=5:=Option.some.inj (recordSums_nm.symm.trans e)|>.symm
   obtain rfl:fn=Tryz.f5:=(Option.some.inj (Tryz.func5.symm.trans b)).symm;exact⟨recordSums_looks,fun j t c=>by
    rw[Tryz.params5]at c;have d:t∈[26,27,87]:=by simpa using Array.mem_of_getElem? c
    have a:=recordSums_all;exact(show Tryz.prog.wantsStandIn t=false by simpa using List.all_eq_true.1 a t d)⟩)
  recordSums_goes
end Go.Proofs.YtdhdgbnafkeifaaGreatDoor
