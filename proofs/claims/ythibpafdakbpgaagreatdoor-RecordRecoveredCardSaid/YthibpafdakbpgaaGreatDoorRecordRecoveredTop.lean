import Derived.Handy
import Derived.Lay
import Derived.SevenTiedAt
import Derived.Test.YthibpafdakbpgaaGreatDoorCards
import Derived.Test.YthibpafdakbpgaaGreatDoorRows
import Derived.Test.YthibpafdakbpgaaGreatDoorTie
import Derived.Test.YthibpafdakbpgaaGreatDoorRecordRecoveredTopA
import Derived.Test.YthibpafdakbpgaaGreatDoorRecordRecoveredTopB
import Derived.Test.YthibpafdakbpgaaGreatDoorVi
/-
 RecordRecovered:for every input the law returns true,and each argument reads behind the call as it read before;the row lists tables of the library's,and the card ties them to the program's text. No other condition.
-/
namespace Go.Proofs.YthibpafdakbpgaaGreatDoor.recordRecovered
open Go.Ab Go.ChangeShapes Go.WideShapes Go.ChangeAt Go.RowKit
theorem own:ownKnob Tryz.prog.godebug=none:=by kernel_rfl
theorem laidOut:laidOutB Tryz.prog=true:=by kernel_rfl
def tys:List Ty:=[(.st (.cons (.sl (.st (.cons .str (.cons (.int .i64) .nil)))) (.cons .str (.cons (.int .i64) (.cons (.st (.cons (.int .i64) (.cons (.int .i64) .nil))) .nil))))),.str]
theorem tysAre:Hq Tryz.prog tys Tryz.f4.params.toList:=by
 rw[Tryz.params4];exact⟨rfl,⟨_,Tryz.underlying26,by kernel_rfl,⟨rfl,by kernel_rfl,⟨_,Tryz.underlying22,by kernel_rfl,by decide,⟨_,Tryz.underlying101,by kernel_rfl,⟨rfl,by kernel_rfl,Tryz.underlying9,⟨rfl,by kernel_rfl,Tryz.underlying3,rfl⟩⟩⟩⟩,⟨rfl,by kernel_rfl,Tryz.underlying9,⟨rfl,by kernel_rfl,Tryz.underlying3,⟨rfl,by kernel_rfl,⟨_,Tryz.underlying24,by kernel_rfl,⟨rfl,by kernel_rfl,Tryz.underlying3,⟨rfl,by kernel_rfl,Tryz.underlying3,rfl⟩⟩⟩,rfl⟩⟩⟩⟩⟩,by kernel_rfl,of_decide_eq_true (by kernel_rfl),⟨rfl,Tryz.underlying9,by kernel_rfl,of_decide_eq_true (by kernel_rfl),trivial⟩⟩
theorem starErr : "*" ++ "errors.errorString" = "*errors.errorString" := by decide
theorem UJ (u : TypeId) (h : Tryz.prog.typeName? 3 u = some "*errors.errorString") : u = 423 :=
 typeName_ptr_named (nm := "errors.errorString") (by rw [starErr]; kernel_rfl) (by kernel_rfl) (by decide) u (by rw [starErr]; exact h)
theorem powLaid:(Rows.laid_internal_strconv_uint64pow10:DataW Unit)=Lib.tabData .u64 Lib.pow10Tab:=by kernel_rfl
theorem namLaid:(Rows.laid_martensite_recipe_names:DataW Unit)=Gw XC:=by kernel_rfl
theorem tabs {W : World} (h0 : laidMetH Tryz.prog [("math/bits.deBruijn32tab", Rows.laid_math_bits_deBruijn32tab), ("math/bits.deBruijn64tab", Rows.laid_math_bits_deBruijn64tab), ("internal/strconv.uint64pow10", Rows.laid_internal_strconv_uint64pow10), ("unicode/utf8.acceptRanges", Rows.laid_unicode_utf8_acceptRanges), ("strconv.ErrRange", Rows.laid_strconv_ErrRange), ("strconv.ErrSyntax", Rows.laid_strconv_ErrSyntax), ("martensite/recipe.names", Rows.laid_martensite_recipe_names), ("unicode/utf8.first", Rows.laid_unicode_utf8_first)] W) : OJ Tryz.prog W := by
 rw[MakeChecks.laidMetH_plain _ _ _ (by kernel_rfl)]at h0;have h:=h0;have d:=h.tail.tail;rw[powLaid]at d;have c:=h.tail.tail.tail.tail.tail.tail;rw[namLaid]at c;refine OJ.mP (Lib.tabIs_of_head (g:=3) (t:=420) (e:=245) (n:=20) (by kernel_rfl) (by kernel_rfl) Tryz.underlying420 Tryz.underlying245 (by kernel_rfl) (by kernel_rfl) d) ?_ ?_ (fun _ _=>yc (g:=8) (t:=474) (e:=9) (n:=6) (by kernel_rfl) (by kernel_rfl) Tryz.underlying474 Tryz.underlying9 (by kernel_rfl) (by kernel_rfl) c)
 ·obtain⟨a,s,b,_⟩:=laid_sentinel (g:=2) (h.tail.tail.tail.tail) (by kernel_rfl) (by kernel_rfl) Tryz.underlying194 UJ Tryz.underlying423 Tryz.underlying425 rfl rfl Tryz.underlying9 (by kernel_rfl) (by kernel_rfl);exact⟨_,_,b⟩
 ·obtain⟨a,s,b,_⟩:=laid_sentinel (g:=1) (h.tail.tail.tail.tail.tail) (by kernel_rfl) (by kernel_rfl) Tryz.underlying194 UJ Tryz.underlying423 Tryz.underlying425 rfl rfl Tryz.underlying9 (by kernel_rfl) (by kernel_rfl);exact⟨_,_,b⟩
theorem contract:∀xs,C9 tys xs→Q7 Tryz.prog 4 xs (.bool true):=by
 intro xs h
 match xs,h with
 |[x0,x1],h=>
  obtain⟨⟨b,rfl,h0⟩,a,_⟩:=h;obtain⟨d,rfl⟩:=cW h0;obtain⟨c,rfl⟩:=sh_str a;exact vp
 |[],h=>exact h.elim
 |[_],h=>exact h.2.elim
 |_::_::_::_,h=>exact h.2.2.elim
set_option maxRecDepth 100000 in
theorem lifted(os:Os)(started:os.Started)(H:Type)(enc:TypeId×Value→H):
  ReturnsInHanded {} Tryz.checked os 4 .any (fun w args => (Rows.recordRecoveredSpec.pre enc Tryz.prog Tryz.f4 [] false w args ∧ laidMetH Tryz.prog [("math/bits.deBruijn32tab", Rows.laid_math_bits_deBruijn32tab), ("math/bits.deBruijn64tab", Rows.laid_math_bits_deBruijn64tab), ("internal/strconv.uint64pow10", Rows.laid_internal_strconv_uint64pow10), ("unicode/utf8.acceptRanges", Rows.laid_unicode_utf8_acceptRanges), ("strconv.ErrRange", Rows.laid_strconv_ErrRange), ("strconv.ErrSyntax", Rows.laid_strconv_ErrSyntax), ("martensite/recipe.names", Rows.laid_martensite_recipe_names), ("unicode/utf8.first", Rows.laid_unicode_utf8_first)] w) ∧ sizedMet enc Tryz.prog Tryz.f4 (OpenSpec.ofChange Rows.recordRecoveredSpec) false w args)
   (Rows.recordRecoveredSpec.post enc Tryz.prog Tryz.f4 false true false false):=by
 refine returnsInHanded_of_change_and (C := Tryz.checked) (X := fun w _ => laidMetH Tryz.prog [("math/bits.deBruijn32tab", Rows.laid_math_bits_deBruijn32tab), ("math/bits.deBruijn64tab", Rows.laid_math_bits_deBruijn64tab), ("internal/strconv.uint64pow10", Rows.laid_internal_strconv_uint64pow10), ("unicode/utf8.acceptRanges", Rows.laid_unicode_utf8_acceptRanges), ("strconv.ErrRange", Rows.laid_strconv_ErrRange), ("strconv.ErrSyntax", Rows.laid_strconv_ErrSyntax), ("martensite/recipe.names", Rows.laid_martensite_recipe_names), ("unicode/utf8.first", Rows.laid_unicode_utf8_first)] w) (fun _ _ _ hh h => h.of_heap hh) own started (by kernel_rfl) Tryz.func4
  (ChangeSpec.witness_shaped (enc := enc) (C := Tryz.checked) (os := os) (X := fun w _ => laidMetH Tryz.prog [("math/bits.deBruijn32tab", Rows.laid_math_bits_deBruijn32tab), ("math/bits.deBruijn64tab", Rows.laid_math_bits_deBruijn64tab), ("internal/strconv.uint64pow10", Rows.laid_internal_strconv_uint64pow10), ("unicode/utf8.acceptRanges", Rows.laid_unicode_utf8_acceptRanges), ("strconv.ErrRange", Rows.laid_strconv_ErrRange), ("strconv.ErrSyntax", Rows.laid_strconv_ErrSyntax), ("martensite/recipe.names", Rows.laid_martensite_recipe_names), ("unicode/utf8.first", Rows.laid_unicode_utf8_first)] w) false (World.laidAll Tryz.prog os [("math/bits.deBruijn32tab", Rows.laid_math_bits_deBruijn32tab), ("math/bits.deBruijn64tab", Rows.laid_math_bits_deBruijn64tab), ("internal/strconv.uint64pow10", Rows.laid_internal_strconv_uint64pow10), ("unicode/utf8.acceptRanges", Rows.laid_unicode_utf8_acceptRanges), ("strconv.ErrRange", Rows.laid_strconv_ErrRange), ("strconv.ErrSyntax", Rows.laid_strconv_ErrSyntax), ("martensite/recipe.names", Rows.laid_martensite_recipe_names), ("unicode/utf8.first", Rows.laid_unicode_utf8_first)]) #[.agg #[.slice none 0 0, .string ⟨#[]⟩, .int .i64 (0), .int .i64 (0), .int .i64 (0)], .string ⟨#[]⟩] 8 (World.laidAll_os _ _ _)
   (World.shaped_of_ZipB (by kernel_rfl) (by kernel_rfl)) (by kernel_rfl) (by kernel_rfl) (by kernel_rfl)
   (by rw[MakeChecks.laidMetH_plain _ _ _ (by kernel_rfl)];exact laidMet_laidAll _ (by kernel_rfl) (by kernel_rfl))) ?_
 intro W d args e k before a g c _ i _;have b:∀(j:Nat) t v,Tryz.f4.params[j]?=some t→args[j]?=some v→Value.okWide Tryz.prog W .any d t v:=a;clear c a;exact kH (P:=Tryz.prog) (f:=4) (fn:=Tryz.f4) (s:=Rows.recordRecoveredSpec) (Ts:=tys) (tb:=4) (apart:=false) (fresh:=true) (handsOn:=false) contract (tabs i) laidOut tysAre rfl (by kernel_rfl) Tryz.underlying4
  (fun e h=>by
   rw[Tryz.params4]at h
   match e,h with
   |[_,_],_=>rfl) b g
end Go.Proofs.YthibpafdakbpgaaGreatDoor.recordRecovered
namespace Go.Proofs.YthibpafdakbpgaaGreatDoor
open Go.ChangeAt
theorem andT{a b:Bool}(d:a=true)(c:b=true):(a&&b)=true:=by simp_all
theorem recordRecovered_k1:(laidOutB Tryz.prog)=true:=recordRecovered.laidOut
set_option maxRecDepth 100000 in
theorem recordRecovered_closed:joinedFacts Tryz.prog 4 Tryz.f4 Rows.recordRecoveredSpec Rows.recordRecoveredRow=true:=by
 unfold joinedFacts;exact(andT (andT (andT (andT (andT (andT (andT (andT (andT (andT (andT (andT (andT (andT (andT (andT (andT (andT (andT (andT (andT (andT (andT (andT (andT (andT (andT (andT (andT (andT (andT recordRecovered_k0 recordRecovered_k1) recordRecovered_k2) recordRecovered_k3) recordRecovered_k4) recordRecovered_k5) recordRecovered_k6) recordRecovered_k7) recordRecovered_k8) recordRecovered_k9) recordRecovered_k10) recordRecovered_k11) recordRecovered_k12) recordRecovered_k13) recordRecovered_k14) recordRecovered_k15) recordRecovered_k16) recordRecovered_k17) recordRecovered_k18) recordRecovered_k19) recordRecovered_k20) recordRecovered_k21) recordRecovered_k22) recordRecovered_k23) recordRecovered_k24) recordRecovered_k25) recordRecovered_k26) recordRecovered_k27) recordRecovered_k28) recordRecovered_k29) recordRecovered_k30) recordRecovered_k31)
theorem recordRecovered_named:Tryz.prog.funcNamed Rows.recordRecoveredRow.func=some 4:=by kernel_rfl
theorem recordRecovered_inst:Tryz.f4.isInstance Tryz.prog Rows.recordRecoveredRow.origin Rows.recordRecoveredRow.targs:=of_decide_eq_true (by kernel_rfl)
theorem recordRecovered_wrap:Tryz.f4.isWrapper Tryz.prog Rows.recordRecoveredRow.wrapper Rows.recordRecoveredRow.mainSum:=by unfold Func.isWrapper;first|(rw[if_pos (by decide+kernel)];kernel_rfl)|(rw[if_neg (by decide+kernel)];exact⟨rfl,rfl⟩)
theorem recordRecovered_row:Rows.RecordRecoveredSaid:=
 OpenClaim.holds_of_wide (p:=Tryz.pinned) 4 Tryz.f4 rfl rfl rfl rfl rfl rfl rfl ⟨rfl,rfl,rfl,rfl,rfl⟩ rfl rfl rfl rfl rfl recordRecovered_named Tryz.func4 recordRecovered_closed
  recordRecovered_inst recordRecovered_wrap
  (fun os started H a _=>recordRecovered.lifted os started H a)
theorem recordRecovered_wf:Rows.recordRecoveredRow.wfByText (OpenSpec.ofChange Rows.recordRecoveredSpec)=true:=by kernel_rfl
theorem recordRecovered_main : Tryz.prog.mainIs = some ((true, "7ec43d1cb15b67824a344bec68c96b87f3ec1ab1015bfa1f55148753cd76a2d2").1, (true, "7ec43d1cb15b67824a344bec68c96b87f3ec1ab1015bfa1f55148753cd76a2d2").2.toList) := by kernel_rfl
theorem recordRecovered_nm : Tryz.prog.funcNamed "martensite/martensitelaw10.RecordRecovered" = some 4 := by kernel_rfl
theorem recordRecovered_looks:true=Tryz.prog.looks []:=by kernel_rfl
theorem recordRecovered_all:([26,9].all fun u=>!Tryz.prog.wantsStandIn u)=true:=by kernel_rfl
theorem recordRecovered_goes:false=Rows.recordRecoveredRow.goesBy Tryz.prog:=by kernel_rfl
theorem recordRecovered_holds:Rows.RecordRecoveredCardSaid:=
 Claim7.holds_tied_plain_at .later [] [.data, .data, .data, .data, .sentinel, .sentinel, .data, .pinned] true (true, "7ec43d1cb15b67824a344bec68c96b87f3ec1ab1015bfa1f55148753cd76a2d2") true recordRecovered_row (fun _ h => by cases h) recordRecovered_wf (fun _ h => by cases h) recordRecovered_row_tie rfl ⟨rfl, rfl⟩ recordRecovered_main rfl
  (fun f fn e b=>by
   obtain rfl:f=4:=Option.some.inj (recordRecovered_nm.symm.trans e)|>.symm
   obtain rfl:fn=Tryz.f4:=(Option.some.inj (Tryz.func4.symm.trans b)).symm;exact⟨recordRecovered_looks,fun j t c=>by
    rw[Tryz.params4]at c;have d:t∈[26,9]:=by simpa using Array.mem_of_getElem? c
    have a:=recordRecovered_all;exact(show Tryz.prog.wantsStandIn t=false by simpa using List.all_eq_true.1 a t d)⟩)
  recordRecovered_goes
end Go.Proofs.YthibpafdakbpgaaGreatDoor
