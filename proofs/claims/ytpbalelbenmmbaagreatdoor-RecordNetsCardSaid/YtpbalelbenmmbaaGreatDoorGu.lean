import Derived.Lib.LaidTab
import Derived.Stop.LaidErr
import Derived.Test.YtpbalelbenmmbaaGreatDoorFs
import Derived.Test.YtpbalelbenmmbaaGreatDoorGs
namespace Go.Ab
open Go.RowKit Go.ChangeShapes Go.WideShapes Go.ChangeAt
theorem var_cells{P:Program}{w:World}{n:String}{g:Nat}{cs:Array Value}(hg:P.globalNamed n=some g)(h:w.var? P n=some cs):∃T d,w.heap[g]?=some (.cells cs T d):=by
 unfold World.var? at h
 rw[hg]at h
 simp only[Option.bind_some]at h
 split at h
 ·rename_i T d e
  cases h
  exact⟨T,d,e⟩
 ·cases h
def strData{H:Type}(ls:List (List UInt8)):DataW H:=.agg (ls.map fun l=>.lit (.string l))
theorem cells_of_strs{H:Type}{enc:TypeId×Value→H}{P:Program}{w:World}{base:Nat}{sp:Nat→Bool}{held:Bool}{fuel:Nat}{t e:TypeId}{n:Nat}{cs:List Value}{ls:List (List UInt8)}{p:List MemPlace}
  (ht:P.underlying t=some (.array n e)) (he:P.underlying e=some .string) (hce:P.cellsOf e=1) (hct:P.cellsOf t=n)
  (h:DataW.trod enc P w base sp held fuel t cs=some (strData ls,p)):cs=ls.map fun l=>Value.string ⟨l.toArray⟩:=by
 cases fuel with
 |zero=>simp[DataW.trod]at h
 |succ fuel=>
  simp only[DataW.trod,ht,hce,hct,Nat.mul_one]at h
  split at h
  ·rename_i hl
   obtain⟨xs,hm,hx⟩:=Option.map_eq_some_iff.1 h
   have hxs:xs.map (·.1)=ls.map fun l=>(DataW.lit (.string l):DataW H):=by
    have:=congrArg Prod.fst hx
    simpa[strData]using this
   have hxl:xs.length=n:=by simpa using Lib.mapM_length hm
   have hzl:ls.length=n:=by
    have:=congrArg List.length hxs
    simp at this
    omega
   apply List.ext_getElem?
   intro i
   by_cases hi:i<n
   ·obtain⟨b,hb,hf⟩:=Lib.mapM_at hm i i (by simp[hi])
    obtain⟨z,hc,rfl,_⟩:=DataW.trod_string he hf
    have h1:cs[i]?=some (.string z):=by
     have:=congrArg (·[0]?) hc
     simpa[List.getElem?_take,List.getElem?_drop]using this
    have h2:(xs.map (·.1))[i]?=some (DataW.lit (.string z.data.toList):DataW H):=by simp[hb]
    rw[hxs]at h2
    simp only[List.getElem?_map,Option.map_eq_some_iff,DataW.lit.injEq,Lit.string.injEq]at h2
    obtain⟨z',hz',rfl⟩:=h2
    simp[h1,hz']
   ·rw[List.getElem?_eq_none (by omega),List.getElem?_eq_none (by simp;omega)]
  ·cases h
theorem strs_of_head{P:Program}{W:World}{name:String}{ls:List (List UInt8)}{rest:List (String×DataW Unit)}{g:Nat}{t e:TypeId}{n:Nat}
  (hg:P.globalNamed name=some g) (hty:(P.globals[g]?).map (·.type)=some t) (ht:P.underlying t=some (.array n e)) (he:P.underlying e=some .string) (hce:P.cellsOf e=1) (hct:P.cellsOf t=n)
  (h:laidMet P ((name,strData ls)::rest) W):W.var? P name=some (ls.map fun l=>Value.string ⟨l.toArray⟩).toArray:=by
 obtain⟨ps,⟨g',t',cs,fuel,p,q,hg',ht',hvar,hd,_,_⟩,_⟩:=h
 obtain rfl:=Option.some.inj (hg.symm.trans hg')
 obtain rfl:=Option.some.inj (hty.symm.trans ht')
 rw[hvar,←cells_of_strs ht he hce hct hd]
theorem Tabs.of_laidN {P : Program} {W : World} (hp : Lib.TabIs P W "internal/strconv.uint64pow10" .u64 Lib.pow10Tab) (he : ∃ t p, W.var? P "strconv.ErrRange" = some #[.iface t p]) (hs : ∃ t p, W.var? P "strconv.ErrSyntax" = some #[.iface t p]) (hnm : ∀ g, P.globalNamed "martensite/recipe.names" = some g → W.var? P "martensite/recipe.names" = some (nameTab.map fun l => Value.string ⟨l.toArray⟩).toArray) : Tabs P W := by
 have hv : ∀ n, (n = "strconv.ErrRange" ∨ n = "strconv.ErrSyntax") → ∃ t p, W.var? P n = some #[.iface t p] := by
  rintro n (rfl|rfl)
  ·exact he
  ·exact hs
 refine⟨fun g hg=>var_cells hg hp,fun n hn g hg=>?_,fun g hg=>var_cells hg (hnm g hg),fun n hn g hg=>?_⟩
 ·obtain⟨t,p,h⟩:=hv n hn
  have h0:=World.var?_cell hg h 0
  exact⟨.iface t p,by simpa using h0,.inr ⟨t,p,rfl⟩⟩
 ·have lt:∀{cs:Array Value},W.var? P n=some cs→g<W.heap.size:=by
   intro cs h
   obtain⟨T,d,e⟩:=var_cells hg h
   exact(Array.getElem?_eq_some_iff.1 e).1
  rcases hn with rfl|rfl|rfl|rfl
  ·exact lt hp
  ·obtain⟨t,p,h⟩:=he;exact lt h
  ·obtain⟨t,p,h⟩:=hs;exact lt h
  ·exact lt (hnm g hg)
section
variable{H:Type}{enc:TypeId×Value→H}{P:Program}{w:World}{spare:Nat→Bool}
theorem law_callsT{f:Nat}{fn:Func}{s:ChangeSpec}{Ts:List Ty}{tb:TypeId}{args:Array Value}{ds gs:List (DataW H)}{before:List MemPlace}{base:Nat}{apart fresh handsOn:Bool}(hlaw:∀xs,ArgsIs Ts xs→CtT P f xs (.bool true))(hT:Tabs P w)
  (hl:laidOutB P=true) (hTs:TysAre P Ts fn.params.toList) (hvars:s.vars=[]) (hres:fn.resultTypes= #[tb]) (htb:P.underlying tb=some .bool) (hs:∀ds:List (DataW H),ds.length=fn.params.toList.length→s.fn H ds={results:=[.lit (.bool true)],args:=ds})
  (hok:∀(j:Nat) t v,fn.params[j]?=some t→args[j]?=some v→Value.okWide P w .any base t v) (hW:DataW.Whole enc P fn.params.toList s.vars apart w args.toList ds gs before):
  Calls P f args w fun e w'=>∃v,e=.returned v∧s.post enc P fn apart fresh handsOn false w args v w':=by
 have hW':=hW
 obtain⟨p,q,hA,hV,hb,hfz,hnd⟩:=hW
 rw[hvars]at hV
 obtain⟨hg,hq⟩:=trodVars_none hV
 subst hg
 subst hq
 rw[List.append_nil]at hb
 subst hb
 obtain⟨xs,h1,h2⟩:=args_rep hTs (fun j t v ht hv=>hok j t v (by simpa using ht) (by simpa using hv)) hA
 have hc:=hlaw xs h2 (lendM w) w args.toList hT (fun _ _ h=>h) h1
 have ha:args.toList.toArray=args:=by simp
 rw[ha]at hc
 refine hc.mono ?_
 rintro e w' ⟨v,h',rfl,hB,_,_,_,hr⟩
 have hv:v=.bool true:=bool_of hr
 subst hv
 have hlen:=trodAll_len hA
 refine⟨_,rfl,ds,[],before,[],before,[],hW',?_,?_,?_,?_,(fun h=>by cases h)⟩
 ·rw[List.append_nil,hs ds hlen,hres]
  exact⟨[],[],shut_bool htb true,rfl,rfl⟩
 ·rw[List.append_nil,hs ds hlen]
  exact args_stay hl hB hTs (fun x hx=>hW'.lt x hx) hA
 ·rw[List.append_nil,hs ds hlen,hvars]
  exact rfl
 ·exact World.keptBut_mono (fun p hp=>⟨hp,.inr (.inl hp)⟩) (hB.frame (· ∈before))
end
end Go.Ab
