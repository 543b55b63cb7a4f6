import Derived.Handy
import Derived.Lay
import Derived.SevenTiedAt
import Derived.Test.YtdhdgbnafkeifaaGreatDoorCards
import Derived.Test.YtdhdgbnafkeifaaGreatDoorRows
import Derived.Test.YtdhdgbnafkeifaaGreatDoorTie
import Derived.Test.YtdhdgbnafkeifaaGreatDoorRecordStatesTopA
import Derived.Test.YtdhdgbnafkeifaaGreatDoorRecordStatesTopB
import Derived.Test.YtdhdgbnafkeifaaGreatDoorUo
/-
 RecordStates:for every input the law returns true,and each argument reads behind the call as it read before;the row lists tables of the library's,and the card ties them to the program's text. No other condition.
-/
namespace Go.Proofs.YtdhdgbnafkeifaaGreatDoor.recordStates
open Go.Ab Go.ChangeShapes Go.WideShapes Go.ChangeAt Go.RowKit
theorem own:ownKnob Tryz.prog.godebug=none:=by kernel_rfl
theorem laidOut:laidOutB Tryz.prog=true:=by kernel_rfl
def tys:List Ty:=[(.st (.cons (.sl (.st (.cons .str (.cons (.int .i64) .nil)))) (.cons .str (.cons (.int .i64) (.cons (.st (.cons (.int .i64) (.cons (.int .i64) .nil))) .nil))))),(.sl (.st (.cons (.int .i64) (.cons .str (.cons .str .nil))))),(.int .i64)]
theorem tysAre:qi Tryz.prog tys Tryz.f6.params.toList:=by
 rw[Tryz.params6];exact⟨rfl,⟨_,Tryz.underlying26,by kernel_rfl,⟨rfl,by kernel_rfl,⟨_,Tryz.underlying22,by kernel_rfl,by decide,⟨_,Tryz.underlying113,by kernel_rfl,⟨rfl,by kernel_rfl,Tryz.underlying9,⟨rfl,by kernel_rfl,Tryz.underlying3,rfl⟩⟩⟩⟩,⟨rfl,by kernel_rfl,Tryz.underlying9,⟨rfl,by kernel_rfl,Tryz.underlying3,⟨rfl,by kernel_rfl,⟨_,Tryz.underlying24,by kernel_rfl,⟨rfl,by kernel_rfl,Tryz.underlying3,⟨rfl,by kernel_rfl,Tryz.underlying3,rfl⟩⟩⟩,rfl⟩⟩⟩⟩⟩,by kernel_rfl,of_decide_eq_true (by kernel_rfl),⟨rfl,⟨_,Tryz.underlying27,by kernel_rfl,by decide,⟨_,Tryz.underlying78,by kernel_rfl,⟨rfl,by kernel_rfl,Tryz.underlying3,⟨rfl,by kernel_rfl,Tryz.underlying9,⟨rfl,by kernel_rfl,Tryz.underlying9,rfl⟩⟩⟩⟩⟩,by kernel_rfl,of_decide_eq_true (by kernel_rfl),⟨rfl,Tryz.underlying3,by kernel_rfl,of_decide_eq_true (by kernel_rfl),trivial⟩⟩⟩
theorem starErr : "*" ++ "errors.errorString" = "*errors.errorString" := by decide
theorem rowErr (u : TypeId) (h : Tryz.prog.typeName? 3 u = some "*errors.errorString") : u = 455 :=
 typeName_ptr_named (nm := "errors.errorString") (by rw [starErr]; kernel_rfl) (by kernel_rfl) (by decide) u (by rw [starErr]; exact h)
theorem powLaid:(Rows.laid_internal_strconv_uint64pow10:DataW Unit)=Lib.tabData .u64 Lib.pow10Tab:=by kernel_rfl
theorem namLaid:(Rows.laid_martensite_recipe_names:DataW Unit)=pM b7:=by kernel_rfl
theorem tabs {W : World} (h0 : laidMetH Tryz.prog [("math/bits.deBruijn32tab", Rows.laid_math_bits_deBruijn32tab), ("math/bits.deBruijn64tab", Rows.laid_math_bits_deBruijn64tab), ("internal/strconv.uint64pow10", Rows.laid_internal_strconv_uint64pow10), ("unicode/utf8.acceptRanges", Rows.laid_unicode_utf8_acceptRanges), ("strconv.ErrRange", Rows.laid_strconv_ErrRange), ("strconv.ErrSyntax", Rows.laid_strconv_ErrSyntax), ("martensite/recipe.names", Rows.laid_martensite_recipe_names), ("unicode/utf8.first", Rows.laid_unicode_utf8_first)] W) : jv Tryz.prog W := by
 rw[MakeChecks.laidMetH_plain _ _ _ (by kernel_rfl)]at h0;have h:=h0;have d:=h.tail.tail;rw[powLaid]at d;have c:=h.tail.tail.tail.tail.tail.tail;rw[namLaid]at c;refine jv.BU (Lib.tabIs_of_head (g:=3) (t:=452) (e:=250) (n:=20) (by kernel_rfl) (by kernel_rfl) Tryz.underlying452 Tryz.underlying250 (by kernel_rfl) (by kernel_rfl) d) ?_ ?_ (fun _ _=>tT (g:=6) (t:=476) (e:=9) (n:=6) (by kernel_rfl) (by kernel_rfl) Tryz.underlying476 Tryz.underlying9 (by kernel_rfl) (by kernel_rfl) c)
 ·obtain⟨a,s,b,_⟩:=laid_sentinel (g:=2) (h.tail.tail.tail.tail) (by kernel_rfl) (by kernel_rfl) Tryz.underlying228 rowErr Tryz.underlying455 Tryz.underlying457 rfl rfl Tryz.underlying9 (by kernel_rfl) (by kernel_rfl);exact⟨_,_,b⟩
 ·obtain⟨a,s,b,_⟩:=laid_sentinel (g:=1) (h.tail.tail.tail.tail.tail) (by kernel_rfl) (by kernel_rfl) Tryz.underlying228 rowErr Tryz.underlying455 Tryz.underlying457 rfl rfl Tryz.underlying9 (by kernel_rfl) (by kernel_rfl);exact⟨_,_,b⟩
theorem sh_int{x:X}(h:Shape (.int .i64) [x]):∃n:Int,x=.int .i64 n:=by
 obtain⟨n,h⟩:=h;cases h;exact⟨n,rfl⟩
theorem contract:∀xs,tR tys xs→gz Tryz.prog 6 xs (.bool true):=by
 intro xs h
 match xs,h with
 |[x0,x1,x2],h=>
  obtain⟨⟨c,rfl,h0⟩,b,a,_⟩:=h;obtain⟨f,rfl⟩:=Gg h0;obtain⟨e,rfl⟩:=RE b;obtain⟨d,rfl⟩:=sh_int a;exact Vg
 |[],h=>exact h.elim
 |[_],h=>exact h.2.elim
 |[_,_],h=>exact h.2.2.elim
 |_::_::_::_::_,h=>exact h.2.2.2.elim
set_option maxRecDepth 100000 in
theorem lifted(os:Os)(started:os.Started)(H:Type)(enc:TypeId×Value→H):
  ReturnsInHanded {} Tryz.checked os 6 .any (fun w args => (Rows.recordStatesSpec.pre enc Tryz.prog Tryz.f6 [] false w args ∧ laidMetH Tryz.prog [("math/bits.deBruijn32tab", Rows.laid_math_bits_deBruijn32tab), ("math/bits.deBruijn64tab", Rows.laid_math_bits_deBruijn64tab), ("internal/strconv.uint64pow10", Rows.laid_internal_strconv_uint64pow10), ("unicode/utf8.acceptRanges", Rows.laid_unicode_utf8_acceptRanges), ("strconv.ErrRange", Rows.laid_strconv_ErrRange), ("strconv.ErrSyntax", Rows.laid_strconv_ErrSyntax), ("martensite/recipe.names", Rows.laid_martensite_recipe_names), ("unicode/utf8.first", Rows.laid_unicode_utf8_first)] w) ∧ sizedMet enc Tryz.prog Tryz.f6 (OpenSpec.ofChange Rows.recordStatesSpec) false w args)
   (Rows.recordStatesSpec.post enc Tryz.prog Tryz.f6 false true false false):=by
 refine returnsInHanded_of_change_and (C := Tryz.checked) (X := fun w _ => laidMetH Tryz.prog [("math/bits.deBruijn32tab", Rows.laid_math_bits_deBruijn32tab), ("math/bits.deBruijn64tab", Rows.laid_math_bits_deBruijn64tab), ("internal/strconv.uint64pow10", Rows.laid_internal_strconv_uint64pow10), ("unicode/utf8.acceptRanges", Rows.laid_unicode_utf8_acceptRanges), ("strconv.ErrRange", Rows.laid_strconv_ErrRange), ("strconv.ErrSyntax", Rows.laid_strconv_ErrSyntax), ("martensite/recipe.names", Rows.laid_martensite_recipe_names), ("unicode/utf8.first", Rows.laid_unicode_utf8_first)] w) (fun _ _ _ hh h => h.of_heap hh) own started (by kernel_rfl) Tryz.func6
  (ChangeSpec.witness_shaped (enc := enc) (C := Tryz.checked) (os := os) (X := fun w _ => laidMetH Tryz.prog [("math/bits.deBruijn32tab", Rows.laid_math_bits_deBruijn32tab), ("math/bits.deBruijn64tab", Rows.laid_math_bits_deBruijn64tab), ("internal/strconv.uint64pow10", Rows.laid_internal_strconv_uint64pow10), ("unicode/utf8.acceptRanges", Rows.laid_unicode_utf8_acceptRanges), ("strconv.ErrRange", Rows.laid_strconv_ErrRange), ("strconv.ErrSyntax", Rows.laid_strconv_ErrSyntax), ("martensite/recipe.names", Rows.laid_martensite_recipe_names), ("unicode/utf8.first", Rows.laid_unicode_utf8_first)] w) false (World.laidAll Tryz.prog os [("math/bits.deBruijn32tab", Rows.laid_math_bits_deBruijn32tab), ("math/bits.deBruijn64tab", Rows.laid_math_bits_deBruijn64tab), ("internal/strconv.uint64pow10", Rows.laid_internal_strconv_uint64pow10), ("unicode/utf8.acceptRanges", Rows.laid_unicode_utf8_acceptRanges), ("strconv.ErrRange", Rows.laid_strconv_ErrRange), ("strconv.ErrSyntax", Rows.laid_strconv_ErrSyntax), ("martensite/recipe.names", Rows.laid_martensite_recipe_names), ("unicode/utf8.first", Rows.laid_unicode_utf8_first)]) #[.agg #[.slice none 0 0, .string ⟨#[]⟩, .int .i64 (0), .int .i64 (0), .int .i64 (0)], .slice none 0 0, .int .i64 (0)] 8 (World.laidAll_os _ _ _)
   (World.shaped_of_ZipB (by kernel_rfl) (by kernel_rfl)) (by kernel_rfl) (by kernel_rfl) (by kernel_rfl)
   (by rw[MakeChecks.laidMetH_plain _ _ _ (by kernel_rfl)];exact laidMet_laidAll _ (by kernel_rfl) (by kernel_rfl))) ?_
 intro W d args e k before a g c _ i _;have b:∀(j:Nat) t v,Tryz.f6.params[j]?=some t→args[j]?=some v→Value.okWide Tryz.prog W .any d t v:=a;clear c a;exact xH (P:=Tryz.prog) (f:=6) (fn:=Tryz.f6) (s:=Rows.recordStatesSpec) (Ts:=tys) (tb:=4) (apart:=false) (fresh:=true) (handsOn:=false) contract (tabs i) laidOut tysAre rfl (by kernel_rfl) Tryz.underlying4
  (fun e h=>by
   rw[Tryz.params6]at h
   match e,h with
   |[_,_,_],_=>rfl) b g
end Go.Proofs.YtdhdgbnafkeifaaGreatDoor.recordStates
namespace Go.Proofs.YtdhdgbnafkeifaaGreatDoor
open Go.ChangeAt
theorem andT{a b:Bool}(d:a=true)(c:b=true):(a&&b)=true:=by simp_all
theorem recordStates_k1:(laidOutB Tryz.prog)=true:=recordStates.laidOut
set_option maxRecDepth 100000 in
theorem recordStates_closed:joinedFacts Tryz.prog 6 Tryz.f6 Rows.recordStatesSpec Rows.recordStatesRow=true:=by
 unfold joinedFacts;exact(andT (andT (andT (andT (andT (andT (andT (andT (andT (andT (andT (andT (andT (andT (andT (andT (andT (andT (andT (andT (andT (andT (andT (andT (andT (andT (andT (andT (andT (andT (andT recordStates_k0 recordStates_k1) recordStates_k2) recordStates_k3) recordStates_k4) recordStates_k5) recordStates_k6) recordStates_k7) recordStates_k8) recordStates_k9) recordStates_k10) recordStates_k11) recordStates_k12) recordStates_k13) recordStates_k14) recordStates_k15) recordStates_k16) recordStates_k17) recordStates_k18) recordStates_k19) recordStates_k20) recordStates_k21) recordStates_k22) recordStates_k23) recordStates_k24) recordStates_k25) recordStates_k26) recordStates_k27) recordStates_k28) recordStates_k29) recordStates_k30) recordStates_k31)
theorem recordStates_named:Tryz.prog.funcNamed Rows.recordStatesRow.func=some 6:=by kernel_rfl
theorem recordStates_inst:Tryz.f6.isInstance Tryz.prog Rows.recordStatesRow.origin Rows.recordStatesRow.targs:=of_decide_eq_true (by kernel_rfl)
theorem recordStates_wrap:Tryz.f6.isWrapper Tryz.prog Rows.recordStatesRow.wrapper Rows.recordStatesRow.mainSum:=by unfold Func.isWrapper;first|(rw[if_pos (by decide+kernel)];kernel_rfl)|(rw[if_neg (by decide+kernel)];exact⟨rfl,rfl⟩)
theorem recordStates_row:Rows.RecordStatesSaid:=
 OpenClaim.holds_of_wide (p:=Tryz.pinned) 6 Tryz.f6 rfl rfl rfl rfl rfl rfl rfl ⟨rfl,rfl,rfl,rfl,rfl⟩ rfl rfl rfl rfl rfl recordStates_named Tryz.func6 recordStates_closed
  recordStates_inst recordStates_wrap
  (fun os started H a _=>recordStates.lifted os started H a)
theorem recordStates_wf:Rows.recordStatesRow.wfByText (OpenSpec.ofChange Rows.recordStatesSpec)=true:=by kernel_rfl
theorem recordStates_main : Tryz.prog.mainIs = some ((true, "57c161f027b0343d6fdb22f8a4c4e5bb33949660d9cc4a3b15940da41203e3db").1, (true, "57c161f027b0343d6fdb22f8a4c4e5bb33949660d9cc4a3b15940da41203e3db").2.toList) := by kernel_rfl
theorem recordStates_nm : Tryz.prog.funcNamed "martensite/martensitelaw10.RecordStates" = some 6 := by kernel_rfl
theorem recordStates_looks:true=Tryz.prog.looks []:=by kernel_rfl
theorem recordStates_all:([26,27,3].all fun u=>!Tryz.prog.wantsStandIn u)=true:=by kernel_rfl
theorem recordStates_goes:false=Rows.recordStatesRow.goesBy Tryz.prog:=by kernel_rfl
theorem recordStates_holds:Rows.RecordStatesCardSaid:=
 Claim7.holds_tied_plain_at .later [] [.data, .data, .data, .data, .sentinel, .sentinel, .data, .pinned] true (true, "57c161f027b0343d6fdb22f8a4c4e5bb33949660d9cc4a3b15940da41203e3db") true recordStates_row (fun _ h => by cases h) recordStates_wf (fun _ h => by cases h) recordStates_row_tie rfl ⟨rfl, rfl⟩ recordStates_main rfl
  (fun f fn e b=>by
   obtain rfl:f=6:=Option.some.inj (recordStates_nm.symm.trans e)|>.symm
   obtain rfl:fn=Tryz.f6:=(Option.some.inj (Tryz.func6.symm.trans b)).symm;exact⟨recordStates_looks,fun j t c=>by
    rw[Tryz.params6]at c;have d:t∈[26,27,3]:=by simpa using Array.mem_of_getElem? c
    have a:=recordStates_all;exact(show Tryz.prog.wantsStandIn t=false by simpa using List.all_eq_true.1 a t d)⟩)
  recordStates_goes
end Go.Proofs.YtdhdgbnafkeifaaGreatDoor
