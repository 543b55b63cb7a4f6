/-
 RecordNets:for every input the law returns true,and each argument reads behind the call as it read before;the row lists tables of the library's,and the card ties them to the program's text. No other condition.
-/
import Derived.Handy
import Derived.Lay
import Derived.ProofKit
import Derived.SevenTiedAt
import Derived.Test.YtpbalelbenmmbaaGreatDoorCards
import Derived.Test.YtpbalelbenmmbaaGreatDoorRows
import Derived.Test.YtpbalelbenmmbaaGreatDoorTie
import Derived.WalkKit
import Derived.Test.YtpbalelbenmmbaaGreatDoorFs
import Derived.Test.YtpbalelbenmmbaaGreatDoorGu
import Derived.Test.YtpbalelbenmmbaaGreatDoorTi
namespace Go.Proofs.YtpbalelbenmmbaaGreatDoor.recordNets
open Go.Ab Go.ChangeShapes Go.WideShapes Go.ChangeAt Go.RowKit
theorem own:ownKnob Tryz.prog.godebug=none:=by kernel_rfl
theorem laidOut:laidOutB Tryz.prog=true:=by kernel_rfl
def tys:List Ty:=[(.st (.cons (.sl (.st (.cons .str (.cons (.int .i64) .nil)))) (.cons .str (.cons (.int .i64) (.cons (.st (.cons (.int .i64) (.cons (.int .i64) .nil))) .nil)))))]
theorem tysAre:TysAre Tryz.prog tys Tryz.f3.params.toList:=by
 rw[Tryz.params3]
 exact⟨rfl,⟨_,Tryz.underlying26,by kernel_rfl,⟨rfl,by kernel_rfl,⟨_,Tryz.underlying22,by kernel_rfl,by decide,⟨_,Tryz.underlying102,by kernel_rfl,⟨rfl,by kernel_rfl,Tryz.underlying9,⟨rfl,by kernel_rfl,Tryz.underlying3,rfl⟩⟩⟩⟩,⟨rfl,by kernel_rfl,Tryz.underlying9,⟨rfl,by kernel_rfl,Tryz.underlying3,⟨rfl,by kernel_rfl,⟨_,Tryz.underlying24,by kernel_rfl,⟨rfl,by kernel_rfl,Tryz.underlying3,⟨rfl,by kernel_rfl,Tryz.underlying3,rfl⟩⟩⟩,rfl⟩⟩⟩⟩⟩,by kernel_rfl,of_decide_eq_true (by kernel_rfl),trivial⟩
theorem starErr : "*" ++ "errors.errorString" = "*errors.errorString" := by decide
theorem rowErr (u : TypeId) (h : Tryz.prog.typeName? 3 u = some "*errors.errorString") : u = 455 :=
 typeName_ptr_named (nm := "errors.errorString") (by rw [starErr]; kernel_rfl) (by kernel_rfl) (by decide) u (by rw [starErr]; exact h)
theorem powLaid:(Rows.laid_internal_strconv_uint64pow10:DataW Unit)=Lib.tabData .u64 Lib.pow10Tab:=by kernel_rfl
theorem namLaid:(Rows.laid_martensite_recipe_names:DataW Unit)=strData nameTab:=by kernel_rfl
theorem tabs {W : World} (h0 : laidMetH Tryz.prog [("math/bits.deBruijn32tab", Rows.laid_math_bits_deBruijn32tab), ("math/bits.deBruijn64tab", Rows.laid_math_bits_deBruijn64tab), ("internal/strconv.uint64pow10", Rows.laid_internal_strconv_uint64pow10), ("unicode/utf8.acceptRanges", Rows.laid_unicode_utf8_acceptRanges), ("strconv.ErrRange", Rows.laid_strconv_ErrRange), ("strconv.ErrSyntax", Rows.laid_strconv_ErrSyntax), ("martensite/recipe.names", Rows.laid_martensite_recipe_names), ("unicode/utf8.first", Rows.laid_unicode_utf8_first)] W) : Tabs Tryz.prog W := by
 rw[MakeChecks.laidMetH_plain _ _ _ (by kernel_rfl)]at h0
 have h:=h0
 have h1:=h.tail.tail
 rw[powLaid]at h1
 have h2:=h.tail.tail.tail.tail.tail.tail
 rw[namLaid]at h2
 refine Tabs.of_laidN (Lib.tabIs_of_head (g:=3) (t:=452) (e:=242) (n:=20) (by kernel_rfl) (by kernel_rfl) Tryz.underlying452 Tryz.underlying242 (by kernel_rfl) (by kernel_rfl) h1) ?_ ?_ (fun _ _=>strs_of_head (g:=6) (t:=449) (e:=9) (n:=6) (by kernel_rfl) (by kernel_rfl) Tryz.underlying449 Tryz.underlying9 (by kernel_rfl) (by kernel_rfl) h2)
 ·obtain⟨a,s,hv,_⟩:=laid_sentinel (g:=2) (h.tail.tail.tail.tail) (by kernel_rfl) (by kernel_rfl) Tryz.underlying244 rowErr Tryz.underlying455 Tryz.underlying457 rfl rfl Tryz.underlying9 (by kernel_rfl) (by kernel_rfl)
  exact⟨_,_,hv⟩
 ·obtain⟨a,s,hv,_⟩:=laid_sentinel (g:=1) (h.tail.tail.tail.tail.tail) (by kernel_rfl) (by kernel_rfl) Tryz.underlying244 rowErr Tryz.underlying455 Tryz.underlying457 rfl rfl Tryz.underlying9 (by kernel_rfl) (by kernel_rfl)
  exact⟨_,_,hv⟩
theorem contract:∀xs,ArgsIs tys xs→CtT Tryz.prog 3 xs (.bool true):=by
 intro xs h
 match xs,h with
 |[x0],h=>
  obtain⟨⟨y0,rfl,h0⟩,_⟩:=h
  obtain⟨a0,rfl⟩:=sh_net h0
  exact law_RecordNets
 |[],h=>exact h.elim
 |_::_::_,h=>exact h.2.elim
set_option maxRecDepth 100000 in
theorem lifted(os:Os)(started:os.Started)(H:Type)(enc:TypeId×Value→H):
  ReturnsInHanded {} Tryz.checked os 3 .any (fun w args => (Rows.recordNetsSpec.pre enc Tryz.prog Tryz.f3 [] false w args ∧ laidMetH Tryz.prog [("math/bits.deBruijn32tab", Rows.laid_math_bits_deBruijn32tab), ("math/bits.deBruijn64tab", Rows.laid_math_bits_deBruijn64tab), ("internal/strconv.uint64pow10", Rows.laid_internal_strconv_uint64pow10), ("unicode/utf8.acceptRanges", Rows.laid_unicode_utf8_acceptRanges), ("strconv.ErrRange", Rows.laid_strconv_ErrRange), ("strconv.ErrSyntax", Rows.laid_strconv_ErrSyntax), ("martensite/recipe.names", Rows.laid_martensite_recipe_names), ("unicode/utf8.first", Rows.laid_unicode_utf8_first)] w) ∧ sizedMet enc Tryz.prog Tryz.f3 (OpenSpec.ofChange Rows.recordNetsSpec) false w args)
   (Rows.recordNetsSpec.post enc Tryz.prog Tryz.f3 false true false false):=by
 refine returnsInHanded_of_change_and (C := Tryz.checked) (X := fun w _ => laidMetH Tryz.prog [("math/bits.deBruijn32tab", Rows.laid_math_bits_deBruijn32tab), ("math/bits.deBruijn64tab", Rows.laid_math_bits_deBruijn64tab), ("internal/strconv.uint64pow10", Rows.laid_internal_strconv_uint64pow10), ("unicode/utf8.acceptRanges", Rows.laid_unicode_utf8_acceptRanges), ("strconv.ErrRange", Rows.laid_strconv_ErrRange), ("strconv.ErrSyntax", Rows.laid_strconv_ErrSyntax), ("martensite/recipe.names", Rows.laid_martensite_recipe_names), ("unicode/utf8.first", Rows.laid_unicode_utf8_first)] w) (fun _ _ _ hh h => h.of_heap hh) own started (by kernel_rfl) Tryz.func3
  (ChangeSpec.witness_shaped (enc := enc) (C := Tryz.checked) (os := os) (X := fun w _ => laidMetH Tryz.prog [("math/bits.deBruijn32tab", Rows.laid_math_bits_deBruijn32tab), ("math/bits.deBruijn64tab", Rows.laid_math_bits_deBruijn64tab), ("internal/strconv.uint64pow10", Rows.laid_internal_strconv_uint64pow10), ("unicode/utf8.acceptRanges", Rows.laid_unicode_utf8_acceptRanges), ("strconv.ErrRange", Rows.laid_strconv_ErrRange), ("strconv.ErrSyntax", Rows.laid_strconv_ErrSyntax), ("martensite/recipe.names", Rows.laid_martensite_recipe_names), ("unicode/utf8.first", Rows.laid_unicode_utf8_first)] w) false (World.laidAll Tryz.prog os [("math/bits.deBruijn32tab", Rows.laid_math_bits_deBruijn32tab), ("math/bits.deBruijn64tab", Rows.laid_math_bits_deBruijn64tab), ("internal/strconv.uint64pow10", Rows.laid_internal_strconv_uint64pow10), ("unicode/utf8.acceptRanges", Rows.laid_unicode_utf8_acceptRanges), ("strconv.ErrRange", Rows.laid_strconv_ErrRange), ("strconv.ErrSyntax", Rows.laid_strconv_ErrSyntax), ("martensite/recipe.names", Rows.laid_martensite_recipe_names), ("unicode/utf8.first", Rows.laid_unicode_utf8_first)]) #[.agg #[.slice none 0 0, .string ⟨#[]⟩, .int .i64 (0), .int .i64 (0), .int .i64 (0)]] 8 (World.laidAll_os _ _ _)
   (World.shaped_of_ZipB (by kernel_rfl) (by kernel_rfl)) (by kernel_rfl) (by kernel_rfl) (by kernel_rfl)
   (by rw[MakeChecks.laidMetH_plain _ _ _ (by kernel_rfl)];exact laidMet_laidAll _ (by kernel_rfl) (by kernel_rfl))) ?_
 intro W base args ds gs before hval0 hW hcnd _ hL _
 have hval:∀(j:Nat) t v,Tryz.f3.params[j]?=some t→args[j]?=some v→Value.okWide Tryz.prog W .any base t v:=hval0
 clear hcnd hval0
 exact law_callsT (P:=Tryz.prog) (f:=3) (fn:=Tryz.f3) (s:=Rows.recordNetsSpec) (Ts:=tys) (tb:=4) (apart:=false) (fresh:=true) (handsOn:=false) contract (tabs hL) laidOut tysAre rfl (by kernel_rfl) Tryz.underlying4
  (fun ds h=>by
   rw[Tryz.params3]at h
   match ds,h with
   |[_],_=>rfl) hval hW
end Go.Proofs.YtpbalelbenmmbaaGreatDoor.recordNets
namespace Go.Proofs.YtpbalelbenmmbaaGreatDoor
open Go.ChangeAt
theorem andT{a b:Bool}(h1:a=true)(h2:b=true):(a&&b)=true:=by rw[h1,h2];rfl
theorem recordNets_k0:(Rows.recordNetsRow.wf (OpenSpec.ofChange Rows.recordNetsSpec))=true:=by kernel_rfl
theorem recordNets_k1:(laidOutB Tryz.prog)=true:=by kernel_rfl
theorem recordNets_k2:(mapsRowed Tryz.prog)=true:=by kernel_rfl
theorem recordNets_k3:(Tryz.f3.params.all (Tryz.prog.readableRec ·))=true:=by kernel_rfl
theorem recordNets_k4:(namedTie Tryz.prog Rows.recordNetsRow.named Rows.recordNetsSpec.vars)=true:=by kernel_rfl
theorem recordNets_k5:((Rows.recordNetsRow.stops==[]))=true:=by kernel_rfl
theorem recordNets_k6:((Tryz.prog.stops==[]))=true:=by kernel_rfl
theorem recordNets_k7:((Rows.recordNetsRow.knobs==[]))=true:=by kernel_rfl
theorem recordNets_k8:((Tryz.prog.stopKnobs==[]))=true:=by kernel_rfl
theorem recordNets_k9:((Rows.recordNetsRow.inPlace==Tryz.prog.inPlace 3))=true:=by kernel_rfl
theorem recordNets_k10:((Rows.recordNetsRow.unfollowed==Tryz.prog.unfollowed 3))=true:=by kernel_rfl
theorem recordNets_k11:((Rows.recordNetsRow.recurses==Tryz.prog.recurses 3))=true:=by kernel_rfl
theorem recordNets_k12:((Rows.recordNetsRow.named==Tryz.prog.varsNamed 3))=true:=by kernel_rfl
theorem recordNets_k13:((Rows.recordNetsRow.maps==(Tryz.f3.params.toList++Rows.recordNetsSpec.plain.varTypes Tryz.prog).any (Tryz.prog.mapsRec ·)))=true:=by kernel_rfl
theorem recordNets_k14:((Rows.recordNetsRow.ifaces==(Tryz.f3.params.toList++Rows.recordNetsSpec.plain.varTypes Tryz.prog).any (Tryz.prog.ifacesRec ·)))=true:=by kernel_rfl
theorem recordNets_k15:((Rows.recordNetsRow.mapsOut==Tryz.prog.mapsAmong Tryz.f3.resultTypes.toList))=true:=by kernel_rfl
theorem recordNets_k16:((Rows.recordNetsRow.loops==(Tryz.f3.params.toList++Rows.recordNetsSpec.plain.varTypes Tryz.prog).any (Tryz.prog.loopsFrom ·)))=true:=by kernel_rfl
theorem recordNets_k17:((Rows.recordNetsRow.wideKeys==(Tryz.f3.params.toList++Rows.recordNetsSpec.plain.varTypes Tryz.prog++Tryz.f3.resultTypes.toList).any (Tryz.prog.wideKeysFrom ·)))=true:=by kernel_rfl
theorem recordNets_k18:(Rows.recordNetsSpec.vars.all (Tryz.prog.varReadable ·))=true:=by kernel_rfl
theorem recordNets_k19:(Tryz.f3.resultTypes.all (fun t=>Tryz.prog.readableRec t&&decide (t<Tryz.prog.types.size)))=true:=by kernel_rfl
theorem recordNets_k20:((Rows.recordNetsRow.ifacesOut==Tryz.f3.resultTypes.toList.any (Tryz.prog.ifacesRec ·)))=true:=by kernel_rfl
theorem recordNets_k21:((Rows.recordNetsRow.loopsOut==Tryz.f3.resultTypes.toList.any (Tryz.prog.loopsFrom ·)))=true:=by kernel_rfl
theorem recordNets_k22:((Rows.recordNetsRow.plainKeys==Tryz.prog.plainKeys))=true:=by kernel_rfl
theorem recordNets_k23:(Rows.recordNetsRow.shortTexts.isNone)=true:=by kernel_rfl
theorem recordNets_k24:(Tryz.prog.stopsHeard)=true:=by kernel_rfl
theorem recordNets_k25:(Tryz.prog.mayEnter)=true:=by kernel_rfl
theorem recordNets_k26:((Rows.recordNetsRow.lifted==Tryz.prog.liftsFinal))=true:=by kernel_rfl
theorem recordNets_k27:((Tryz.prog.make==some Rows.recordNetsRow.make))=true:=by kernel_rfl
theorem recordNets_k28:((Rows.recordNetsRow.kinds==(if Rows.recordNetsRow.domain.isEmpty then []else Tryz.f3.params.toList.map fun t=>match Tryz.prog.underlying t with|some (.int k)=>some k|_=>none)))=true:=by kernel_rfl
theorem recordNets_k29:((Rows.recordNetsRow.pinned==Rows.recordNetsRow.pinnedBy))=true:=by kernel_rfl
theorem recordNets_k30:((Rows.recordNetsRow.veiled==(Tryz.f3.params.toList++Rows.recordNetsSpec.plain.varTypes Tryz.prog++Tryz.f3.resultTypes.toList).any (Tryz.prog.veiledRec ·)))=true:=by kernel_rfl
theorem recordNets_k31:(Rows.recordNetsRow.veiledFits Tryz.prog Tryz.f3.params.toList (Tryz.f3.params.toList++Rows.recordNetsSpec.plain.varTypes Tryz.prog++Tryz.f3.resultTypes.toList))=true:=by kernel_rfl
set_option maxRecDepth 100000 in
theorem recordNets_closed:joinedFacts Tryz.prog 3 Tryz.f3 Rows.recordNetsSpec Rows.recordNetsRow=true:=by
 unfold joinedFacts
 exact(andT (andT (andT (andT (andT (andT (andT (andT (andT (andT (andT (andT (andT (andT (andT (andT (andT (andT (andT (andT (andT (andT (andT (andT (andT (andT (andT (andT (andT (andT (andT recordNets_k0 recordNets_k1) recordNets_k2) recordNets_k3) recordNets_k4) recordNets_k5) recordNets_k6) recordNets_k7) recordNets_k8) recordNets_k9) recordNets_k10) recordNets_k11) recordNets_k12) recordNets_k13) recordNets_k14) recordNets_k15) recordNets_k16) recordNets_k17) recordNets_k18) recordNets_k19) recordNets_k20) recordNets_k21) recordNets_k22) recordNets_k23) recordNets_k24) recordNets_k25) recordNets_k26) recordNets_k27) recordNets_k28) recordNets_k29) recordNets_k30) recordNets_k31)
theorem recordNets_named:Tryz.prog.funcNamed Rows.recordNetsRow.func=some 3:=by kernel_rfl
theorem recordNets_inst:Tryz.f3.isInstance Tryz.prog Rows.recordNetsRow.origin Rows.recordNetsRow.targs:=of_decide_eq_true (by kernel_rfl)
theorem recordNets_wrap:Tryz.f3.isWrapper Tryz.prog Rows.recordNetsRow.wrapper Rows.recordNetsRow.mainSum:=by unfold Func.isWrapper;first|(rw[if_pos (by decide+kernel)];kernel_rfl)|(rw[if_neg (by decide+kernel)];exact⟨rfl,rfl⟩)
theorem recordNets_row:Rows.RecordNetsSaid:=
 OpenClaim.holds_of_wide (p:=Tryz.pinned) 3 Tryz.f3 rfl rfl rfl rfl rfl rfl rfl ⟨rfl,rfl,rfl,rfl,rfl⟩ rfl rfl rfl rfl rfl recordNets_named Tryz.func3 recordNets_closed
  recordNets_inst recordNets_wrap
  (fun os started H enc _=>recordNets.lifted os started H enc)
theorem recordNets_wf:Rows.recordNetsRow.wfByText (OpenSpec.ofChange Rows.recordNetsSpec)=true:=by kernel_rfl
theorem recordNets_main : Tryz.prog.mainIs = some ((true, "525319bd9db69a3656c68db021004ba88a8b911125d0e1e66ed405f0105655c0").1, (true, "525319bd9db69a3656c68db021004ba88a8b911125d0e1e66ed405f0105655c0").2.toList) := by kernel_rfl
theorem recordNets_nm : Tryz.prog.funcNamed "martensite/martensitelaw10.RecordNets" = some 3 := by kernel_rfl
theorem recordNets_looks:true=Tryz.prog.looks []:=by kernel_rfl
theorem recordNets_all:([26].all fun u=>!Tryz.prog.wantsStandIn u)=true:=by kernel_rfl
theorem recordNets_goes:false=Rows.recordNetsRow.goesBy Tryz.prog:=by kernel_rfl
theorem recordNets_holds:Rows.RecordNetsCardSaid:=
 Claim7.holds_tied_plain_at .later [] [.data, .data, .data, .data, .sentinel, .sentinel, .data, .pinned] true (true, "525319bd9db69a3656c68db021004ba88a8b911125d0e1e66ed405f0105655c0") true recordNets_row (fun _ h => by cases h) recordNets_wf (fun _ h => by cases h) recordNets_row_tie rfl ⟨rfl, rfl⟩ recordNets_main rfl
  (fun f fn hf hfn=>by
   obtain rfl:f=3:=Option.some.inj (recordNets_nm.symm.trans hf)|>.symm
   obtain rfl:fn=Tryz.f3:=(Option.some.inj (Tryz.func3.symm.trans hfn)).symm
   exact⟨recordNets_looks,fun j t ht=>by
    rw[Tryz.params3]at ht
    have hm:t∈[26]:=by simpa using Array.mem_of_getElem? ht
    have hall:=recordNets_all
    exact(show Tryz.prog.wantsStandIn t=false by simpa using List.all_eq_true.1 hall t hm)⟩)
  recordNets_goes
end Go.Proofs.YtpbalelbenmmbaaGreatDoor
