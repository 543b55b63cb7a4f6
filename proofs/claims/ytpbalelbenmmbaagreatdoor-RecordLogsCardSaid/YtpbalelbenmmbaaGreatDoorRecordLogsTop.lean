import Derived.Handy
import Derived.Lay
import Derived.SevenTiedAt
import Derived.Test.YtpbalelbenmmbaaGreatDoorCards
import Derived.Test.YtpbalelbenmmbaaGreatDoorRows
import Derived.Test.YtpbalelbenmmbaaGreatDoorTie
import Derived.Test.YtpbalelbenmmbaaGreatDoorUj
/-
 RecordLogs:for every input the law returns true,and each argument reads behind the call as it read before;the row lists tables of the library's,and the card ties them to the program's text. No other condition.
-/
namespace Go.Proofs.YtpbalelbenmmbaaGreatDoor.recordLogs
open Go.Ab Go.ChangeShapes Go.WideShapes Go.ChangeAt Go.RowKit
theorem own:ownKnob Tryz.prog.godebug=none:=by kernel_rfl
theorem laidOut:laidOutB Tryz.prog=true:=by kernel_rfl
def tys:List Ty:=[(.st (.cons (.sl (.st (.cons .str (.cons (.int .i64) .nil)))) (.cons .str (.cons (.int .i64) (.cons (.st (.cons (.int .i64) (.cons (.int .i64) .nil))) .nil))))),(.sl (.st (.cons (.int .i64) (.cons .str (.cons .str .nil))))),(.st (.cons (.int .i64) (.cons .str (.cons .str .nil))))]
theorem tysAre:qi Tryz.prog tys Tryz.f4.params.toList:=by
 rw[Tryz.params4];exact⟨rfl,⟨_,Tryz.underlying26,by kernel_rfl,⟨rfl,by kernel_rfl,⟨_,Tryz.underlying22,by kernel_rfl,by decide,⟨_,Tryz.underlying102,by kernel_rfl,⟨rfl,by kernel_rfl,Tryz.underlying9,⟨rfl,by kernel_rfl,Tryz.underlying3,rfl⟩⟩⟩⟩,⟨rfl,by kernel_rfl,Tryz.underlying9,⟨rfl,by kernel_rfl,Tryz.underlying3,⟨rfl,by kernel_rfl,⟨_,Tryz.underlying24,by kernel_rfl,⟨rfl,by kernel_rfl,Tryz.underlying3,⟨rfl,by kernel_rfl,Tryz.underlying3,rfl⟩⟩⟩,rfl⟩⟩⟩⟩⟩,by kernel_rfl,of_decide_eq_true (by kernel_rfl),⟨rfl,⟨_,Tryz.underlying35,by kernel_rfl,by decide,⟨_,Tryz.underlying37,by kernel_rfl,⟨rfl,by kernel_rfl,Tryz.underlying3,⟨rfl,by kernel_rfl,Tryz.underlying9,⟨rfl,by kernel_rfl,Tryz.underlying9,rfl⟩⟩⟩⟩⟩,by kernel_rfl,of_decide_eq_true (by kernel_rfl),⟨rfl,⟨_,Tryz.underlying37,by kernel_rfl,⟨rfl,by kernel_rfl,Tryz.underlying3,⟨rfl,by kernel_rfl,Tryz.underlying9,⟨rfl,by kernel_rfl,Tryz.underlying9,rfl⟩⟩⟩⟩,by kernel_rfl,of_decide_eq_true (by kernel_rfl),trivial⟩⟩⟩
theorem starErr : "*" ++ "errors.errorString" = "*errors.errorString" := by decide
theorem rowErr (u : TypeId) (h : Tryz.prog.typeName? 3 u = some "*errors.errorString") : u = 455 :=
 typeName_ptr_named (nm := "errors.errorString") (by rw [starErr]; kernel_rfl) (by kernel_rfl) (by decide) u (by rw [starErr]; exact h)
theorem powLaid:(Rows.laid_internal_strconv_uint64pow10:DataW Unit)=Lib.tabData .u64 Lib.pow10Tab:=by kernel_rfl
theorem namLaid:(Rows.laid_martensite_recipe_names:DataW Unit)=pM b7:=by kernel_rfl
theorem tabs {W : World} (h0 : laidMetH Tryz.prog [("math/bits.deBruijn32tab", Rows.laid_math_bits_deBruijn32tab), ("math/bits.deBruijn64tab", Rows.laid_math_bits_deBruijn64tab), ("internal/strconv.uint64pow10", Rows.laid_internal_strconv_uint64pow10), ("unicode/utf8.acceptRanges", Rows.laid_unicode_utf8_acceptRanges), ("strconv.ErrRange", Rows.laid_strconv_ErrRange), ("strconv.ErrSyntax", Rows.laid_strconv_ErrSyntax), ("martensite/recipe.names", Rows.laid_martensite_recipe_names), ("unicode/utf8.first", Rows.laid_unicode_utf8_first)] W) : jv Tryz.prog W := by
 rw[MakeChecks.laidMetH_plain _ _ _ (by kernel_rfl)]at h0;have h:=h0;have h1:=h.tail.tail;rw[powLaid]at h1;have h2:=h.tail.tail.tail.tail.tail.tail;rw[namLaid]at h2;refine jv.BU (Lib.tabIs_of_head (g:=3) (t:=452) (e:=242) (n:=20) (by kernel_rfl) (by kernel_rfl) Tryz.underlying452 Tryz.underlying242 (by kernel_rfl) (by kernel_rfl) h1) ?_ ?_ (fun _ _=>tT (g:=6) (t:=449) (e:=9) (n:=6) (by kernel_rfl) (by kernel_rfl) Tryz.underlying449 Tryz.underlying9 (by kernel_rfl) (by kernel_rfl) h2)
 ·obtain⟨a,s,hv,_⟩:=laid_sentinel (g:=2) (h.tail.tail.tail.tail) (by kernel_rfl) (by kernel_rfl) Tryz.underlying244 rowErr Tryz.underlying455 Tryz.underlying457 rfl rfl Tryz.underlying9 (by kernel_rfl) (by kernel_rfl);simp_all
 ·obtain⟨a,s,hv,_⟩:=laid_sentinel (g:=1) (h.tail.tail.tail.tail.tail) (by kernel_rfl) (by kernel_rfl) Tryz.underlying244 rowErr Tryz.underlying455 Tryz.underlying457 rfl rfl Tryz.underlying9 (by kernel_rfl) (by kernel_rfl);simp_all
theorem contract:∀xs,tR tys xs→gz Tryz.prog 4 xs (.bool true):=by
 intro xs h
 match xs,h with
 |[x0,x1,x2],h=>
  obtain⟨⟨y0,rfl,h0⟩,h1,⟨y2,rfl,h2⟩,_⟩:=h;obtain⟨a0,rfl⟩:=Gg h0;obtain⟨a1,rfl⟩:=RE h1;obtain⟨a2,rfl⟩:=SD h2;exact U5
 |[],h=>exact h.elim
 |[_],h=>exact h.2.elim
 |[_,_],h=>exact h.2.2.elim
 |_::_::_::_::_,h=>exact h.2.2.2.elim
set_option maxRecDepth 100000 in
theorem lifted(os:Os)(started:os.Started)(H:Type)(enc:TypeId×Value→H):
  ReturnsInHanded {} Tryz.checked os 4 .any (fun w args => (Rows.recordLogsSpec.pre enc Tryz.prog Tryz.f4 [] false w args ∧ laidMetH Tryz.prog [("math/bits.deBruijn32tab", Rows.laid_math_bits_deBruijn32tab), ("math/bits.deBruijn64tab", Rows.laid_math_bits_deBruijn64tab), ("internal/strconv.uint64pow10", Rows.laid_internal_strconv_uint64pow10), ("unicode/utf8.acceptRanges", Rows.laid_unicode_utf8_acceptRanges), ("strconv.ErrRange", Rows.laid_strconv_ErrRange), ("strconv.ErrSyntax", Rows.laid_strconv_ErrSyntax), ("martensite/recipe.names", Rows.laid_martensite_recipe_names), ("unicode/utf8.first", Rows.laid_unicode_utf8_first)] w) ∧ sizedMet enc Tryz.prog Tryz.f4 (OpenSpec.ofChange Rows.recordLogsSpec) false w args)
   (Rows.recordLogsSpec.post enc Tryz.prog Tryz.f4 false true false false):=by
 refine returnsInHanded_of_change_and (C := Tryz.checked) (X := fun w _ => laidMetH Tryz.prog [("math/bits.deBruijn32tab", Rows.laid_math_bits_deBruijn32tab), ("math/bits.deBruijn64tab", Rows.laid_math_bits_deBruijn64tab), ("internal/strconv.uint64pow10", Rows.laid_internal_strconv_uint64pow10), ("unicode/utf8.acceptRanges", Rows.laid_unicode_utf8_acceptRanges), ("strconv.ErrRange", Rows.laid_strconv_ErrRange), ("strconv.ErrSyntax", Rows.laid_strconv_ErrSyntax), ("martensite/recipe.names", Rows.laid_martensite_recipe_names), ("unicode/utf8.first", Rows.laid_unicode_utf8_first)] w) (fun _ _ _ hh h => h.of_heap hh) own started (by kernel_rfl) Tryz.func4
  (ChangeSpec.witness_shaped (enc := enc) (C := Tryz.checked) (os := os) (X := fun w _ => laidMetH Tryz.prog [("math/bits.deBruijn32tab", Rows.laid_math_bits_deBruijn32tab), ("math/bits.deBruijn64tab", Rows.laid_math_bits_deBruijn64tab), ("internal/strconv.uint64pow10", Rows.laid_internal_strconv_uint64pow10), ("unicode/utf8.acceptRanges", Rows.laid_unicode_utf8_acceptRanges), ("strconv.ErrRange", Rows.laid_strconv_ErrRange), ("strconv.ErrSyntax", Rows.laid_strconv_ErrSyntax), ("martensite/recipe.names", Rows.laid_martensite_recipe_names), ("unicode/utf8.first", Rows.laid_unicode_utf8_first)] w) false (World.laidAll Tryz.prog os [("math/bits.deBruijn32tab", Rows.laid_math_bits_deBruijn32tab), ("math/bits.deBruijn64tab", Rows.laid_math_bits_deBruijn64tab), ("internal/strconv.uint64pow10", Rows.laid_internal_strconv_uint64pow10), ("unicode/utf8.acceptRanges", Rows.laid_unicode_utf8_acceptRanges), ("strconv.ErrRange", Rows.laid_strconv_ErrRange), ("strconv.ErrSyntax", Rows.laid_strconv_ErrSyntax), ("martensite/recipe.names", Rows.laid_martensite_recipe_names), ("unicode/utf8.first", Rows.laid_unicode_utf8_first)]) #[.agg #[.slice none 0 0, .string ⟨#[]⟩, .int .i64 (0), .int .i64 (0), .int .i64 (0)], .slice none 0 0, .agg #[.int .i64 (0), .string ⟨#[]⟩, .string ⟨#[]⟩]] 8 (World.laidAll_os _ _ _)
   (World.shaped_of_ZipB (by kernel_rfl) (by kernel_rfl)) (by kernel_rfl) (by kernel_rfl) (by kernel_rfl)
   (by rw[MakeChecks.laidMetH_plain _ _ _ (by kernel_rfl)];exact laidMet_laidAll _ (by kernel_rfl) (by kernel_rfl))) ?_
 intro W base args ds gs before hval0 hW hcnd _ hL _;have hval:∀(j:Nat) t v,Tryz.f4.params[j]?=some t→args[j]?=some v→Value.okWide Tryz.prog W .any base t v:=hval0;clear hcnd hval0;exact xH (P:=Tryz.prog) (f:=4) (fn:=Tryz.f4) (s:=Rows.recordLogsSpec) (Ts:=tys) (tb:=4) (apart:=false) (fresh:=true) (handsOn:=false) contract (tabs hL) laidOut tysAre rfl (by kernel_rfl) Tryz.underlying4
  (fun ds h=>by
   rw[Tryz.params4]at h
   match ds,h with
   |[_,_,_],_=>rfl) hval hW
end Go.Proofs.YtpbalelbenmmbaaGreatDoor.recordLogs
namespace Go.Proofs.YtpbalelbenmmbaaGreatDoor
open Go.ChangeAt
theorem andT{a b:Bool}(h1:a=true)(h2:b=true):(a&&b)=true:=by simp_all
theorem recordLogs_k0:(Rows.recordLogsRow.wf (OpenSpec.ofChange Rows.recordLogsSpec))=true:=by kernel_rfl
theorem recordLogs_k1:(laidOutB Tryz.prog)=true:=by kernel_rfl
theorem recordLogs_k2:(mapsRowed Tryz.prog)=true:=by kernel_rfl
theorem recordLogs_k3:(Tryz.f4.params.all (Tryz.prog.readableRec ·))=true:=by kernel_rfl
theorem recordLogs_k4:(namedTie Tryz.prog Rows.recordLogsRow.named Rows.recordLogsSpec.vars)=true:=by kernel_rfl
theorem recordLogs_k5:((Rows.recordLogsRow.stops==[]))=true:=by kernel_rfl
theorem recordLogs_k6:((Tryz.prog.stops==[]))=true:=by kernel_rfl
theorem recordLogs_k7:((Rows.recordLogsRow.knobs==[]))=true:=by kernel_rfl
theorem recordLogs_k8:((Tryz.prog.stopKnobs==[]))=true:=by kernel_rfl
theorem recordLogs_k9:((Rows.recordLogsRow.inPlace==Tryz.prog.inPlace 4))=true:=by kernel_rfl
theorem recordLogs_k10:((Rows.recordLogsRow.unfollowed==Tryz.prog.unfollowed 4))=true:=by kernel_rfl
theorem recordLogs_k11:((Rows.recordLogsRow.recurses==Tryz.prog.recurses 4))=true:=by kernel_rfl
theorem recordLogs_k12:((Rows.recordLogsRow.named==Tryz.prog.varsNamed 4))=true:=by kernel_rfl
theorem recordLogs_k13:((Rows.recordLogsRow.maps==(Tryz.f4.params.toList++Rows.recordLogsSpec.plain.varTypes Tryz.prog).any (Tryz.prog.mapsRec ·)))=true:=by kernel_rfl
theorem recordLogs_k14:((Rows.recordLogsRow.ifaces==(Tryz.f4.params.toList++Rows.recordLogsSpec.plain.varTypes Tryz.prog).any (Tryz.prog.ifacesRec ·)))=true:=by kernel_rfl
theorem recordLogs_k15:((Rows.recordLogsRow.mapsOut==Tryz.prog.mapsAmong Tryz.f4.resultTypes.toList))=true:=by kernel_rfl
theorem recordLogs_k16:((Rows.recordLogsRow.loops==(Tryz.f4.params.toList++Rows.recordLogsSpec.plain.varTypes Tryz.prog).any (Tryz.prog.loopsFrom ·)))=true:=by kernel_rfl
theorem recordLogs_k17:((Rows.recordLogsRow.wideKeys==(Tryz.f4.params.toList++Rows.recordLogsSpec.plain.varTypes Tryz.prog++Tryz.f4.resultTypes.toList).any (Tryz.prog.wideKeysFrom ·)))=true:=by kernel_rfl
theorem recordLogs_k18:(Rows.recordLogsSpec.vars.all (Tryz.prog.varReadable ·))=true:=by kernel_rfl
theorem recordLogs_k19:(Tryz.f4.resultTypes.all (fun t=>Tryz.prog.readableRec t&&decide (t<Tryz.prog.types.size)))=true:=by kernel_rfl
theorem recordLogs_k20:((Rows.recordLogsRow.ifacesOut==Tryz.f4.resultTypes.toList.any (Tryz.prog.ifacesRec ·)))=true:=by kernel_rfl
theorem recordLogs_k21:((Rows.recordLogsRow.loopsOut==Tryz.f4.resultTypes.toList.any (Tryz.prog.loopsFrom ·)))=true:=by kernel_rfl
theorem recordLogs_k22:((Rows.recordLogsRow.plainKeys==Tryz.prog.plainKeys))=true:=by kernel_rfl
theorem recordLogs_k23:(Rows.recordLogsRow.shortTexts.isNone)=true:=by kernel_rfl
theorem recordLogs_k24:(Tryz.prog.stopsHeard)=true:=by kernel_rfl
theorem recordLogs_k25:(Tryz.prog.mayEnter)=true:=by kernel_rfl
theorem recordLogs_k26:((Rows.recordLogsRow.lifted==Tryz.prog.liftsFinal))=true:=by kernel_rfl
theorem recordLogs_k27:((Tryz.prog.make==some Rows.recordLogsRow.make))=true:=by kernel_rfl
theorem recordLogs_k28:((Rows.recordLogsRow.kinds==(if Rows.recordLogsRow.domain.isEmpty then []else Tryz.f4.params.toList.map fun t=>match Tryz.prog.underlying t with|some (.int k)=>some k|_=>none)))=true:=by kernel_rfl
theorem recordLogs_k29:((Rows.recordLogsRow.pinned==Rows.recordLogsRow.pinnedBy))=true:=by kernel_rfl
theorem recordLogs_k30:((Rows.recordLogsRow.veiled==(Tryz.f4.params.toList++Rows.recordLogsSpec.plain.varTypes Tryz.prog++Tryz.f4.resultTypes.toList).any (Tryz.prog.veiledRec ·)))=true:=by kernel_rfl
theorem recordLogs_k31:(Rows.recordLogsRow.veiledFits Tryz.prog Tryz.f4.params.toList (Tryz.f4.params.toList++Rows.recordLogsSpec.plain.varTypes Tryz.prog++Tryz.f4.resultTypes.toList))=true:=by kernel_rfl
set_option maxRecDepth 100000 in
theorem recordLogs_closed:joinedFacts Tryz.prog 4 Tryz.f4 Rows.recordLogsSpec Rows.recordLogsRow=true:=by
 unfold joinedFacts;exact(andT (andT (andT (andT (andT (andT (andT (andT (andT (andT (andT (andT (andT (andT (andT (andT (andT (andT (andT (andT (andT (andT (andT (andT (andT (andT (andT (andT (andT (andT (andT recordLogs_k0 recordLogs_k1) recordLogs_k2) recordLogs_k3) recordLogs_k4) recordLogs_k5) recordLogs_k6) recordLogs_k7) recordLogs_k8) recordLogs_k9) recordLogs_k10) recordLogs_k11) recordLogs_k12) recordLogs_k13) recordLogs_k14) recordLogs_k15) recordLogs_k16) recordLogs_k17) recordLogs_k18) recordLogs_k19) recordLogs_k20) recordLogs_k21) recordLogs_k22) recordLogs_k23) recordLogs_k24) recordLogs_k25) recordLogs_k26) recordLogs_k27) recordLogs_k28) recordLogs_k29) recordLogs_k30) recordLogs_k31)
theorem recordLogs_named:Tryz.prog.funcNamed Rows.recordLogsRow.func=some 4:=by kernel_rfl
theorem recordLogs_inst:Tryz.f4.isInstance Tryz.prog Rows.recordLogsRow.origin Rows.recordLogsRow.targs:=of_decide_eq_true (by kernel_rfl)
theorem recordLogs_wrap:Tryz.f4.isWrapper Tryz.prog Rows.recordLogsRow.wrapper Rows.recordLogsRow.mainSum:=by unfold Func.isWrapper;first|(rw[if_pos (by decide+kernel)];kernel_rfl)|(rw[if_neg (by decide+kernel)];exact⟨rfl,rfl⟩)
theorem recordLogs_row:Rows.RecordLogsSaid:=
 OpenClaim.holds_of_wide (p:=Tryz.pinned) 4 Tryz.f4 rfl rfl rfl rfl rfl rfl rfl ⟨rfl,rfl,rfl,rfl,rfl⟩ rfl rfl rfl rfl rfl recordLogs_named Tryz.func4 recordLogs_closed
  recordLogs_inst recordLogs_wrap
  (fun os started H enc _=>recordLogs.lifted os started H enc)
theorem recordLogs_wf:Rows.recordLogsRow.wfByText (OpenSpec.ofChange Rows.recordLogsSpec)=true:=by kernel_rfl
theorem recordLogs_main : Tryz.prog.mainIs = some ((true, "525319bd9db69a3656c68db021004ba88a8b911125d0e1e66ed405f0105655c0").1, (true, "525319bd9db69a3656c68db021004ba88a8b911125d0e1e66ed405f0105655c0").2.toList) := by kernel_rfl
theorem recordLogs_nm : Tryz.prog.funcNamed "martensite/martensitelaw10.RecordLogs" = some 4 := by kernel_rfl
theorem recordLogs_looks:true=Tryz.prog.looks []:=by kernel_rfl
theorem recordLogs_all:([26,35,37].all fun u=>!Tryz.prog.wantsStandIn u)=true:=by kernel_rfl
theorem recordLogs_goes:false=Rows.recordLogsRow.goesBy Tryz.prog:=by kernel_rfl
theorem recordLogs_holds:Rows.RecordLogsCardSaid:=
 Claim7.holds_tied_plain_at .later [] [.data, .data, .data, .data, .sentinel, .sentinel, .data, .pinned] true (true, "525319bd9db69a3656c68db021004ba88a8b911125d0e1e66ed405f0105655c0") true recordLogs_row (fun _ h => by cases h) recordLogs_wf (fun _ h => by cases h) recordLogs_row_tie rfl ⟨rfl, rfl⟩ recordLogs_main rfl
  (fun f fn hf hfn=>by
   obtain rfl:f=4:=Option.some.inj (recordLogs_nm.symm.trans hf)|>.symm
   obtain rfl:fn=Tryz.f4:=(Option.some.inj (Tryz.func4.symm.trans hfn)).symm;exact⟨recordLogs_looks,fun j t ht=>by
    rw[Tryz.params4]at ht;have hm:t∈[26,35,37]:=by simpa using Array.mem_of_getElem? ht
    have hall:=recordLogs_all;exact(show Tryz.prog.wantsStandIn t=false by simpa using List.all_eq_true.1 hall t hm)⟩)
  recordLogs_goes
end Go.Proofs.YtpbalelbenmmbaaGreatDoor
