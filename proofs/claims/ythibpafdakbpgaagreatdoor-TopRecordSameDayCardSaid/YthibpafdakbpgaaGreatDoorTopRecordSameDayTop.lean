import Derived.Handy
import Derived.Lay
import Derived.SevenTiedAt
import Derived.Test.YthibpafdakbpgaaGreatDoorCards
import Derived.Test.YthibpafdakbpgaaGreatDoorRows
import Derived.Test.YthibpafdakbpgaaGreatDoorTie
import Derived.Test.YthibpafdakbpgaaGreatDoorTopRecordSameDayTopA
import Derived.Test.YthibpafdakbpgaaGreatDoorTopRecordSameDayTopB
import Derived.Test.YthibpafdakbpgaaGreatDoorVfD
/-
 TopRecordSameDay:for every input the law returns true,and each argument reads behind the call as it read before;the row lists tables of the library's,and the card ties them to the program's text. No other condition.
-/
namespace Go.Proofs.YthibpafdakbpgaaGreatDoor.topRecordSameDay
open Go.Ab Go.ChangeShapes Go.WideShapes Go.ChangeAt Go.RowKit
theorem own:ownKnob Tryz.prog.godebug=none:=by kernel_rfl
theorem laidOut:laidOutB Tryz.prog=true:=by kernel_rfl
def tys:List Ty:=[(.st (.cons (.sl (.st (.cons .str (.cons (.int .i64) .nil)))) (.cons .str (.cons (.int .i64) (.cons (.st (.cons (.int .i64) (.cons (.int .i64) .nil))) .nil))))),(.sl (.st (.cons (.int .i64) (.cons .str (.cons .str .nil))))),.str]
theorem tysAre:Hq Tryz.prog tys Tryz.f7.params.toList:=by
 rw[Tryz.params7];exact⟨rfl,⟨_,Tryz.underlying26,by kernel_rfl,⟨rfl,by kernel_rfl,⟨_,Tryz.underlying22,by kernel_rfl,by decide,⟨_,Tryz.underlying101,by kernel_rfl,⟨rfl,by kernel_rfl,Tryz.underlying9,⟨rfl,by kernel_rfl,Tryz.underlying3,rfl⟩⟩⟩⟩,⟨rfl,by kernel_rfl,Tryz.underlying9,⟨rfl,by kernel_rfl,Tryz.underlying3,⟨rfl,by kernel_rfl,⟨_,Tryz.underlying24,by kernel_rfl,⟨rfl,by kernel_rfl,Tryz.underlying3,⟨rfl,by kernel_rfl,Tryz.underlying3,rfl⟩⟩⟩,rfl⟩⟩⟩⟩⟩,by kernel_rfl,of_decide_eq_true (by kernel_rfl),⟨rfl,⟨_,Tryz.underlying27,by kernel_rfl,by decide,⟨_,Tryz.underlying79,by kernel_rfl,⟨rfl,by kernel_rfl,Tryz.underlying3,⟨rfl,by kernel_rfl,Tryz.underlying9,⟨rfl,by kernel_rfl,Tryz.underlying9,rfl⟩⟩⟩⟩⟩,by kernel_rfl,of_decide_eq_true (by kernel_rfl),⟨rfl,Tryz.underlying9,by kernel_rfl,of_decide_eq_true (by kernel_rfl),trivial⟩⟩⟩
theorem starErr : "*" ++ "errors.errorString" = "*errors.errorString" := by decide
theorem UJ (u : TypeId) (h : Tryz.prog.typeName? 3 u = some "*errors.errorString") : u = 423 :=
 typeName_ptr_named (nm := "errors.errorString") (by rw [starErr]; kernel_rfl) (by kernel_rfl) (by decide) u (by rw [starErr]; exact h)
theorem powLaid:(Rows.laid_internal_strconv_uint64pow10:DataW Unit)=Lib.tabData .u64 Lib.pow10Tab:=by kernel_rfl
theorem namLaid:(Rows.laid_martensite_recipe_names:DataW Unit)=Gw XC:=by kernel_rfl
theorem tabs {W : World} (h0 : laidMetH Tryz.prog [("math/bits.deBruijn32tab", Rows.laid_math_bits_deBruijn32tab), ("math/bits.deBruijn64tab", Rows.laid_math_bits_deBruijn64tab), ("internal/strconv.uint64pow10", Rows.laid_internal_strconv_uint64pow10), ("unicode/utf8.acceptRanges", Rows.laid_unicode_utf8_acceptRanges), ("strconv.ErrRange", Rows.laid_strconv_ErrRange), ("strconv.ErrSyntax", Rows.laid_strconv_ErrSyntax), ("martensite/recipe.names", Rows.laid_martensite_recipe_names), ("unicode/utf8.first", Rows.laid_unicode_utf8_first)] W) : OJ Tryz.prog W := by
 rw[MakeChecks.laidMetH_plain _ _ _ (by kernel_rfl)]at h0;have h:=h0;have d:=h.tail.tail;rw[powLaid]at d;have c:=h.tail.tail.tail.tail.tail.tail;rw[namLaid]at c;refine OJ.mP (Lib.tabIs_of_head (g:=3) (t:=420) (e:=245) (n:=20) (by kernel_rfl) (by kernel_rfl) Tryz.underlying420 Tryz.underlying245 (by kernel_rfl) (by kernel_rfl) d) ?_ ?_ (fun _ _=>yc (g:=8) (t:=474) (e:=9) (n:=6) (by kernel_rfl) (by kernel_rfl) Tryz.underlying474 Tryz.underlying9 (by kernel_rfl) (by kernel_rfl) c)
 ·obtain⟨a,s,b,_⟩:=laid_sentinel (g:=2) (h.tail.tail.tail.tail) (by kernel_rfl) (by kernel_rfl) Tryz.underlying194 UJ Tryz.underlying423 Tryz.underlying425 rfl rfl Tryz.underlying9 (by kernel_rfl) (by kernel_rfl);exact⟨_,_,b⟩
 ·obtain⟨a,s,b,_⟩:=laid_sentinel (g:=1) (h.tail.tail.tail.tail.tail) (by kernel_rfl) (by kernel_rfl) Tryz.underlying194 UJ Tryz.underlying423 Tryz.underlying425 rfl rfl Tryz.underlying9 (by kernel_rfl) (by kernel_rfl);exact⟨_,_,b⟩
theorem contract:∀xs,C9 tys xs→Q7 Tryz.prog 7 xs (.bool true):=by
 intro xs h
 match xs,h with
 |[x0,x1,x2],h=>
  obtain⟨⟨c,rfl,h0⟩,b,a,_⟩:=h;obtain⟨f,rfl⟩:=cW h0;obtain⟨e,rfl⟩:=AB b;obtain⟨d,rfl⟩:=sh_str a;exact law_TopRecordSameDay
 |[],h=>exact h.elim
 |[_],h=>exact h.2.elim
 |[_,_],h=>exact h.2.2.elim
 |_::_::_::_::_,h=>exact h.2.2.2.elim
set_option maxRecDepth 100000 in
theorem lifted(os:Os)(started:os.Started)(H:Type)(enc:TypeId×Value→H):
  ReturnsInHanded {} Tryz.checked os 7 .any (fun w args => (Rows.topRecordSameDaySpec.pre enc Tryz.prog Tryz.f7 [] false w args ∧ laidMetH Tryz.prog [("math/bits.deBruijn32tab", Rows.laid_math_bits_deBruijn32tab), ("math/bits.deBruijn64tab", Rows.laid_math_bits_deBruijn64tab), ("internal/strconv.uint64pow10", Rows.laid_internal_strconv_uint64pow10), ("unicode/utf8.acceptRanges", Rows.laid_unicode_utf8_acceptRanges), ("strconv.ErrRange", Rows.laid_strconv_ErrRange), ("strconv.ErrSyntax", Rows.laid_strconv_ErrSyntax), ("martensite/recipe.names", Rows.laid_martensite_recipe_names), ("unicode/utf8.first", Rows.laid_unicode_utf8_first)] w) ∧ sizedMet enc Tryz.prog Tryz.f7 (OpenSpec.ofChange Rows.topRecordSameDaySpec) false w args)
   (Rows.topRecordSameDaySpec.post enc Tryz.prog Tryz.f7 false true false false):=by
 refine returnsInHanded_of_change_and (C := Tryz.checked) (X := fun w _ => laidMetH Tryz.prog [("math/bits.deBruijn32tab", Rows.laid_math_bits_deBruijn32tab), ("math/bits.deBruijn64tab", Rows.laid_math_bits_deBruijn64tab), ("internal/strconv.uint64pow10", Rows.laid_internal_strconv_uint64pow10), ("unicode/utf8.acceptRanges", Rows.laid_unicode_utf8_acceptRanges), ("strconv.ErrRange", Rows.laid_strconv_ErrRange), ("strconv.ErrSyntax", Rows.laid_strconv_ErrSyntax), ("martensite/recipe.names", Rows.laid_martensite_recipe_names), ("unicode/utf8.first", Rows.laid_unicode_utf8_first)] w) (fun _ _ _ hh h => h.of_heap hh) own started (by kernel_rfl) Tryz.func7
  (ChangeSpec.witness_shaped (enc := enc) (C := Tryz.checked) (os := os) (X := fun w _ => laidMetH Tryz.prog [("math/bits.deBruijn32tab", Rows.laid_math_bits_deBruijn32tab), ("math/bits.deBruijn64tab", Rows.laid_math_bits_deBruijn64tab), ("internal/strconv.uint64pow10", Rows.laid_internal_strconv_uint64pow10), ("unicode/utf8.acceptRanges", Rows.laid_unicode_utf8_acceptRanges), ("strconv.ErrRange", Rows.laid_strconv_ErrRange), ("strconv.ErrSyntax", Rows.laid_strconv_ErrSyntax), ("martensite/recipe.names", Rows.laid_martensite_recipe_names), ("unicode/utf8.first", Rows.laid_unicode_utf8_first)] w) false (World.laidAll Tryz.prog os [("math/bits.deBruijn32tab", Rows.laid_math_bits_deBruijn32tab), ("math/bits.deBruijn64tab", Rows.laid_math_bits_deBruijn64tab), ("internal/strconv.uint64pow10", Rows.laid_internal_strconv_uint64pow10), ("unicode/utf8.acceptRanges", Rows.laid_unicode_utf8_acceptRanges), ("strconv.ErrRange", Rows.laid_strconv_ErrRange), ("strconv.ErrSyntax", Rows.laid_strconv_ErrSyntax), ("martensite/recipe.names", Rows.laid_martensite_recipe_names), ("unicode/utf8.first", Rows.laid_unicode_utf8_first)]) #[.agg #[.slice none 0 0, .string ⟨#[]⟩, .int .i64 (0), .int .i64 (0), .int .i64 (0)], .slice none 0 0, .string ⟨#[]⟩] 8 (World.laidAll_os _ _ _)
   (World.shaped_of_ZipB (by kernel_rfl) (by kernel_rfl)) (by kernel_rfl) (by kernel_rfl) (by kernel_rfl)
   (by rw[MakeChecks.laidMetH_plain _ _ _ (by kernel_rfl)];exact laidMet_laidAll _ (by kernel_rfl) (by kernel_rfl))) ?_
 intro W d args e k before a g c _ i _;have b:∀(j:Nat) t v,Tryz.f7.params[j]?=some t→args[j]?=some v→Value.okWide Tryz.prog W .any d t v:=a;clear c a;exact kH (P:=Tryz.prog) (f:=7) (fn:=Tryz.f7) (s:=Rows.topRecordSameDaySpec) (Ts:=tys) (tb:=4) (apart:=false) (fresh:=true) (handsOn:=false) contract (tabs i) laidOut tysAre rfl (by kernel_rfl) Tryz.underlying4
  (fun e h=>by
   rw[Tryz.params7]at h
   match e,h with
   |[_,_,_],_=>rfl) b g
end Go.Proofs.YthibpafdakbpgaaGreatDoor.topRecordSameDay
namespace Go.Proofs.YthibpafdakbpgaaGreatDoor
open Go.ChangeAt
theorem andT{a b:Bool}(d:a=true)(c:b=true):(a&&b)=true:=by simp_all
theorem topRecordSameDay_k1:(laidOutB Tryz.prog)=true:=topRecordSameDay.laidOut
set_option maxRecDepth 100000 in
theorem topRecordSameDay_closed:joinedFacts Tryz.prog 7 Tryz.f7 Rows.topRecordSameDaySpec Rows.topRecordSameDayRow=true:=by
 unfold joinedFacts;exact(andT (andT (andT (andT (andT (andT (andT (andT (andT (andT (andT (andT (andT (andT (andT (andT (andT (andT (andT (andT (andT (andT (andT (andT (andT (andT (andT (andT (andT (andT (andT topRecordSameDay_k0 topRecordSameDay_k1) topRecordSameDay_k2) topRecordSameDay_k3) topRecordSameDay_k4) topRecordSameDay_k5) topRecordSameDay_k6) topRecordSameDay_k7) topRecordSameDay_k8) topRecordSameDay_k9) topRecordSameDay_k10) topRecordSameDay_k11) topRecordSameDay_k12) topRecordSameDay_k13) topRecordSameDay_k14) topRecordSameDay_k15) topRecordSameDay_k16) topRecordSameDay_k17) topRecordSameDay_k18) topRecordSameDay_k19) topRecordSameDay_k20) topRecordSameDay_k21) topRecordSameDay_k22) topRecordSameDay_k23) topRecordSameDay_k24) topRecordSameDay_k25) topRecordSameDay_k26) topRecordSameDay_k27) topRecordSameDay_k28) topRecordSameDay_k29) topRecordSameDay_k30) topRecordSameDay_k31)
theorem topRecordSameDay_named:Tryz.prog.funcNamed Rows.topRecordSameDayRow.func=some 7:=by kernel_rfl
theorem topRecordSameDay_inst:Tryz.f7.isInstance Tryz.prog Rows.topRecordSameDayRow.origin Rows.topRecordSameDayRow.targs:=of_decide_eq_true (by kernel_rfl)
theorem topRecordSameDay_wrap:Tryz.f7.isWrapper Tryz.prog Rows.topRecordSameDayRow.wrapper Rows.topRecordSameDayRow.mainSum:=by unfold Func.isWrapper;first|(rw[if_pos (by decide+kernel)];kernel_rfl)|(rw[if_neg (by decide+kernel)];exact⟨rfl,rfl⟩)
theorem topRecordSameDay_row:Rows.TopRecordSameDaySaid:=
 OpenClaim.holds_of_wide (p:=Tryz.pinned) 7 Tryz.f7 rfl rfl rfl rfl rfl rfl rfl ⟨rfl,rfl,rfl,rfl,rfl⟩ rfl rfl rfl rfl rfl topRecordSameDay_named Tryz.func7 topRecordSameDay_closed
  topRecordSameDay_inst topRecordSameDay_wrap
  (fun os started H a _=>topRecordSameDay.lifted os started H a)
theorem topRecordSameDay_wf:Rows.topRecordSameDayRow.wfByText (OpenSpec.ofChange Rows.topRecordSameDaySpec)=true:=by kernel_rfl
theorem topRecordSameDay_main : Tryz.prog.mainIs = some ((true, "7ec43d1cb15b67824a344bec68c96b87f3ec1ab1015bfa1f55148753cd76a2d2").1, (true, "7ec43d1cb15b67824a344bec68c96b87f3ec1ab1015bfa1f55148753cd76a2d2").2.toList) := by kernel_rfl
theorem topRecordSameDay_nm : Tryz.prog.funcNamed "martensite/martensitetop.TopRecordSameDay" = some 7 := by kernel_rfl
theorem topRecordSameDay_looks:true=Tryz.prog.looks []:=by kernel_rfl
theorem topRecordSameDay_all:([26,27,9].all fun u=>!Tryz.prog.wantsStandIn u)=true:=by kernel_rfl
theorem topRecordSameDay_goes:false=Rows.topRecordSameDayRow.goesBy Tryz.prog:=by kernel_rfl
theorem topRecordSameDay_holds:Rows.TopRecordSameDayCardSaid:=
 Claim7.holds_tied_plain_at .later [] [.data, .data, .data, .data, .sentinel, .sentinel, .data, .pinned] true (true, "7ec43d1cb15b67824a344bec68c96b87f3ec1ab1015bfa1f55148753cd76a2d2") true topRecordSameDay_row (fun _ h => by cases h) topRecordSameDay_wf (fun _ h => by cases h) topRecordSameDay_row_tie rfl ⟨rfl, rfl⟩ topRecordSameDay_main rfl
  (fun f fn e b=>by
   obtain rfl:f=7:=Option.some.inj (topRecordSameDay_nm.symm.trans e)|>.symm
   obtain rfl:fn=Tryz.f7:=(Option.some.inj (Tryz.func7.symm.trans b)).symm;exact⟨topRecordSameDay_looks,fun j t c=>by
    rw[Tryz.params7]at c;have d:t∈[26,27,9]:=by simpa using Array.mem_of_getElem? c
    have a:=topRecordSameDay_all;exact(show Tryz.prog.wantsStandIn t=false by simpa using List.all_eq_true.1 a t d)⟩)
  topRecordSameDay_goes
end Go.Proofs.YthibpafdakbpgaaGreatDoor
