import Derived.Test.YtpbalelbenmmbaaGreatDoorHz
import Derived.Test.YtpbalelbenmmbaaGreatDoorGh
import Derived.Test.YtpbalelbenmmbaaGreatDoorGs
import Derived.Test.YtpbalelbenmmbaaGreatDoorHj
import Derived.Test.YtpbalelbenmmbaaGreatDoorHo
import Derived.Test.YtpbalelbenmmbaaGreatDoorLb
import Derived.Test.YtpbalelbenmmbaaGreatDoorRl
import Derived.Test.YtpbalelbenmmbaaGreatDoorRs
import Derived.Test.YtpbalelbenmmbaaGreatDoorSh
import Derived.Test.YtpbalelbenmmbaaGreatDoorTy
namespace Go.Proofs.YtpbalelbenmmbaaGreatDoor
open Go.Ab
theorem pre_eq:∀(p s:List UInt8),p.isPrefixOf s=(decide (p.length≤s.length)&&decide (s.take p.length=p))
 |[],s=>by simp
 |a::p,[]=>by simp
 |a::p,b::s=>by
  rw[List.isPrefixOf,pre_eq p s]
  by_cases h:a=b
  ·subst h;simp
  ·have h2:¬(b::s).take (a::p).length=a::p:=fun e=>h (by simp at e;exact e.1.symm)
   rw[decide_eq_false h2]
   simp[h]
theorem hasR_T{p s:List UInt8}(h:p.isPrefixOf s=true):hasR p s=(true,s.drop p.length):=if_pos h
theorem hasR_F{p s:List UInt8}(h:¬p.isPrefixOf s=true):hasR p s=(false,s):=if_neg h
theorem lkBs{a b:List UInt8}(h:a=b):some (X.box [X.str a])=some (X.box [X.str b]):=by rw[h]
def anyIx(s:List UInt8):Int:=idxGo isSign 0 s
theorem any_bd:∀(s:List UInt8)(k:Nat),idxGo isSign k s= -1∨((k:Int)≤idxGo isSign k s∧idxGo isSign k s<(k:Int)+s.length)
 |[],_=>.inl rfl
 |b::s,k=>by
  rw[idxGo]
  split
  ·refine .inr ⟨Int.le_refl _,?_⟩
   rw[List.length_cons];omega
  ·rcases any_bd s (k+1)with h|h
   ·exact .inl h
   ·refine .inr ?_
    rw[List.length_cons];omega
theorem word_T:∀(s:List UInt8)(k:Nat),0≤idxGo isSign k s→s.takeWhile (fun b=>!isSign b)=s.take (idxGo isSign k s - k).toNat∧s.dropWhile (fun b=>!isSign b)=s.drop (idxGo isSign k s - k).toNat
 |[],_,h=>by simp[idxGo]at h
 |b::s,k,h=>by
  rw[idxGo]at h⊢
  cases hb:isSign b with
  |true=>simp[hb]
  |false=>
   rw[hb]at h
   simp only[Bool.false_eq_true,if_false]at h⊢
   obtain⟨h1,h2⟩:=word_T s (k+1) h
   have hbd:=any_bd s (k+1)
   rw[show(idxGo isSign (k+1) s - (k:Int)).toNat=(idxGo isSign (k+1) s - ((k+1:Nat):Int)).toNat+1 by omega]
   rw[List.takeWhile_cons,List.dropWhile_cons]
   simp[hb,h1,h2]
theorem word_F:∀(s:List UInt8)(k:Nat),idxGo isSign k s<0→s.takeWhile (fun b=>!isSign b)=s∧s.dropWhile (fun b=>!isSign b)=[]
 |[],_,_=>⟨rfl,rfl⟩
 |b::s,k,h=>by
  rw[idxGo]at h
  cases hb:isSign b with
  |true=>rw[hb]at h;simp at h;omega
  |false=>
   rw[hb]at h
   simp only[Bool.false_eq_true,if_false]at h
   obtain⟨h1,h2⟩:=word_F s (k+1) h
   rw[List.takeWhile_cons,List.dropWhile_cons]
   simp[hb,h1,h2]
theorem wordR_T{s:List UInt8}(h:¬anyIx s<0):wordR s=(s.take (anyIx s).toNat,s.drop (anyIx s).toNat):=by
 have:=word_T s 0 (by unfold anyIx at h;omega)
 unfold wordR anyIx
 rw[this.1,this.2]
 simp
theorem wordR_F{s:List UInt8}(h:anyIx s<0):wordR s=(s,[]):=by
 have:=word_F s 0 h
 unfold wordR
 rw[this.1,this.2]
theorem wordR_le(s:List UInt8):(wordR s).1.length≤s.length∧(wordR s).2.length≤s.length:=by
 by_cases h:anyIx s<0
 ·rw[wordR_F h];simp
 ·rw[wordR_T h];simp only[List.length_take,List.length_drop];omega
theorem hasR_le(p s:List UInt8):(hasR p s).2.length≤s.length:=by
 unfold hasR
 split
 ·simp only[List.length_drop];omega
 ·exact Nat.le_refl _
def kindN(s:List UInt8):Int:=((kindR s).1.getD 0:Nat)
theorem rcp_HasPrefix{s p:List UInt8}(hl:s.length≤100000)(hp:p.length≤100):Ct Tryz.prog 273 [.str s,.str p] (.bool (p.isPrefixOf s)):=by
 refine Ct.intro (rs:=[.tmp 4]) Tryz.func273 rfl Tryz.ntmps273 Tryz.results273 rfl rfl rfl fun w h=>?_
 refine kr (kc (zb rfl) (kq (kc (zm rfl) (kc (S.slen Tryz.underlying9 .none rfl (zt rfl)) (kc (zm rfl) (kc (S.slen Tryz.underlying9 .none rfl (zt rfl)) (kc (S.geq .none rfl (zt rfl) (zt rfl)) (kc (zm rfl) (RK.splitD (t:=10) rfl (fun g10=>?_) (fun g10=>?_))))))))))
 ·
  refine kc (S.move (zg rfl rfl) rfl (zt rfl)) (kc (S.move (zg rfl rfl) rfl (zt rfl)) (kc (S.slen Tryz.underlying9 (zg rfl rfl) rfl (zt rfl)) (kc (S.strsl (hi:=p.length) (l':=s.take p.length) str9 (zg rfl rfl) rfl (zt rfl) (.inl ⟨rfl,rfl,rfl⟩) (.inr ⟨_,_,rfl,(zt rfl),rfl⟩) (by omega) (by omega) rfl) (kc (S.move (zg rfl rfl) rfl (zt rfl)) (kc (S.seql (zg rfl rfl) rfl (zt rfl) (zt rfl)) (kc (S.pickT .none rfl (zt rfl) (zt rfl) rfl) (kc (za rfl) (kD (OK.ret (Ret.r1 (zo rfl rfl) ?_))))))))))
  refine ret_b ?_
  rw[pre_eq]
  simp_all
  all_goals (intro hh;omega)
 ·
  refine kc (zQ rfl rfl) (kc (zQ rfl rfl) (kc (zQ rfl rfl) (kc (zQ rfl rfl) (kc (zQ rfl rfl) (kc (zQ rfl rfl) (kc (S.pickF .none rfl (zt rfl) .cbool rfl) (kc (za rfl) (kD (OK.ret (Ret.r1 (zo rfl rfl) ?_))))))))))
  refine ret_b ?_
  rw[pre_eq]
  simp_all
  all_goals (intro hh;omega)
theorem rcp_slCutPrefix{s p:List UInt8}(hl:s.length≤100000)(hp:p.length≤100):Ct Tryz.prog 353 [.str s,.str p] (.tup [.str (hasR p s).2,.bool (hasR p s).1]):=by
 refine Ct.intro (rs:=[.tmp 4,.tmp 5]) Tryz.func353 rfl Tryz.ntmps353 Tryz.results353 rfl rfl rfl fun w h=>?_
 refine kr (kc (S.assign .none rfl (.cstr (l:=[]) rfl (by decide))) (kc (zb rfl) (kD (kO (kr ?_)))))
 refine kc (zm rfl) (kc (zm rfl) (kc (S.call (rcp_HasPrefix hl hp) Tryz.call273 .none rfl (zc rfl (zc rfl .nil)) rfl) (kc (S.not .none rfl (zt rfl)) (kD (OK.cond rfl rfl (fun c9=>?_) (fun c9=>?_))))))
 ·
  have hh:=hasR_F (p:=p) (s:=s) (fun e=>absurd c9 (by rw[e];decide))
  refine kr (kc (zm rfl) (kc (za rfl) (kc (zb rfl) (kD (OK.ret (Ret.r2 (zo rfl rfl) (zo rfl rfl) ?_))))))
  rw[hh]
 ·
  have hpp:p.isPrefixOf s=true:=by simpa using c9
  have hh:=hasR_T hpp
  have hle:p.length≤s.length:=by rw[pre_eq,Bool.and_eq_true]at hpp;exact of_decide_eq_true hpp.1
  refine OK.skip (kp (kc (zm rfl) (kc (zm rfl) (kc (S.slen Tryz.underlying9 .none rfl (zt rfl)) (kc (S.strsl (lo:=p.length) (l':=s.drop p.length) str9 .none rfl (zt rfl) (.inr ⟨_,_,rfl,(zt rfl),rfl⟩) (.inl ⟨rfl,rfl,rfl⟩) (by omega) (by omega) (by rw[List.take_length])) ?_)))))
  refine kc (za rfl) (kc (zb rfl) (kD (OK.ret (Ret.r2 (zo rfl rfl) (zo rfl rfl) ?_))))
  rw[hh]
theorem rcp_CutPrefix{s p:List UInt8}(hl:s.length≤100000)(hp:p.length≤100):Ct Tryz.prog 336 [.str s,.str p] (.tup [.str (hasR p s).2,.bool (hasR p s).1]):=by
 refine Ct.intro (rs:=[.tmp 4,.tmp 5]) Tryz.func336 rfl Tryz.ntmps336 Tryz.results336 rfl rfl rfl fun w h=>?_
 refine kr (kc (S.assign .none rfl (.cstr (l:=[]) rfl (by decide))) (kc (zb rfl) (kq (kc (zm rfl) (kc (zm rfl) (kc (S.call (rcp_slCutPrefix hl hp) Tryz.call353 .none rfl (zc rfl (zc rfl .nil)) rfl) (kc (zX rfl rfl rfl) (kc (zX rfl rfl rfl) (kc (za rfl) (kc (za rfl) (kD ?_)))))))))))
 refine OK.ret (Ret.r2 (zo rfl rfl) (zo rfl rfl) ?_)
 rfl
theorem rcp_has{s p:List UInt8}(hl:s.length≤100000)(hp:p.length≤100):CtG Tryz.prog 292 [4] [.ptr 4 0,.str p] [(1004,.box [.str s])] [(1004,.box [.str (hasR p s).2])] (.bool (hasR p s).1):=by
 refine CtG.intro (rs:=[.tmp 4]) Tryz.func292 rfl Tryz.ntmps292 Tryz.results292 rfl rfl rfl rfl fun w h=>?_
 refine kr (kc (zb rfl) (kq (kc (zm rfl) (kc (S.nilCheckB .none rfl (zt rfl)) (kc (zf fi345_0 rfl) (kc (zl ti9 rfl rfl rfl rfl) (kc (zm rfl) (kc (S.call (rcp_CutPrefix hl hp) Tryz.call336 .none rfl (zc rfl (zc rfl .nil)) rfl) (kc (zm rfl) (kc (zX rfl rfl rfl) (kc (zX rfl rfl rfl) ?_)))))))))))
 refine kc (za rfl) (kc (za rfl) (kD (kO (kr ?_))))
 refine kc (zm rfl) (kD (OK.cond rfl rfl (fun c16=>?_) (fun c16=>?_)))
 ·
  refine OK.reg (kc (zm rfl) (kc (zm rfl) (kc (S.nilCheckB .none rfl (zt rfl)) (kc (zf fi345_0 rfl) (kc (zS ti9 rfl rfl rfl rfl rfl rfl) (kq (kc (zm rfl) (kc (za rfl) (kD (OK.ret ⟨Ret.r1 (zo rfl rfl) ?_,rfl,trivial⟩))))))))))
  rfl
 ·
  have hf:(hasR p s).2=s:=by
   by_cases h:p.isPrefixOf s=true
   ·rw[hasR_T h]at c16;cases c16
   ·rw[hasR_F h]
  refine OK.skip (kp (kc (zm rfl) (kc (za rfl) (kD (OK.ret ⟨Ret.r1 (zo rfl rfl) ?_,lkBs hf.symm,trivial⟩)))))
  rfl
theorem rcp_natural{l:List UInt8}(hl:l.length≤100000):CtT Tryz.prog 352 [.str l] (.tup [.int .i64 (atoiV l),.bool (numOk l 5)]):=by
 refine CtT.intro (rs:=[.tmp 2,.tmp 3]) Tryz.func352 rfl Tryz.ntmps352 Tryz.results352 rfl rfl rfl fun w h hT=>?_
 refine kr (kc (zi rfl rfl) (kc (zb rfl) (kq (kc (zm rfl) (kc (S.callT (atoi_ct hl) hT Tryz.call155 .none rfl (zc rfl .nil) rfl) (kc (zm rfl) (kc (zX rfl rfl rfl) (kc (zX rfl rfl rfl) (kc (za rfl) (kc (za rfl) (kq ?_)))))))))))
 refine kc (zm rfl) (kc (zm rfl) (kc (S.eqerr Tryz.underlying244 .none rfl (zt rfl)) (kc (zm rfl) (RK.split (t:=14) rfl (fun g14=>?_) (fun g14=>?_)))))
 ·
  refine kc (S.move (zg rfl rfl) rfl (zt rfl)) (kc (S.geq (zg rfl rfl) rfl (zt rfl) (.cint rfl)) (kc (S.pickT .none rfl (zt rfl) (zt rfl) rfl) (kc (zm rfl) (RK.splitD (t:=18) rfl (fun g18=>?_) (fun g18=>?_)))))
  ·
   refine kc (S.move (zg rfl rfl) rfl (zt rfl)) (kc (S.callT (itoa_ct (atoi_rng l)) hT Tryz.call142 (zg rfl rfl) rfl (zc rfl .nil) rfl) (kc (S.move (zg rfl rfl) rfl (zt rfl)) (kc (S.seql (zg rfl rfl) rfl (zt rfl) (zt rfl)) (kc (S.pickT .none rfl (zt rfl) (zt rfl) rfl) (kc (zm rfl) (RK.splitD (t:=24) rfl (fun g24=>?_) (fun g24=>?_)))))))
   ·
    refine kc (S.move (zg rfl rfl) rfl (zt rfl)) (kc (S.slen Tryz.underlying9 (zg rfl rfl) rfl (zt rfl)) (kc (S.leq (zg rfl rfl) rfl (zt rfl) (.cint rfl)) (kc (S.pickT .none rfl (zt rfl) (zt rfl) rfl) (kc (za rfl) (kc (za rfl) (kD (OK.ret (Ret.r2 (zo rfl rfl) (zo rfl rfl) ?_))))))))
    rw[show numOk l 5=decide (l.length≤5)by unfold numOk;rw[g14,decide_eq_true (show 0≤atoiV l by omega),decide_eq_true g24];rfl]
    exact congrArg (fun b=>X.tup [X.int .i64 (atoiV l),X.bool b]) (decide_eq_decide.2 (by omega))
   ·
    refine kc (zQ rfl rfl) (kc (zQ rfl rfl) (kc (zQ rfl rfl) (kc (S.pickF .none rfl (zt rfl) .cbool rfl) (kc (za rfl) (kc (za rfl) (kD (OK.ret (Ret.r2 (zo rfl rfl) (zo rfl rfl) ?_))))))))
    rw[show numOk l 5=false by unfold numOk;rw[g14,decide_eq_true (show 0≤atoiV l by omega),decide_eq_false g24];rfl]
  ·
   refine kc (zQ rfl rfl) (kc (zQ rfl rfl) (kc (zQ rfl rfl) (kc (zQ rfl rfl) (kc (S.pickF .none rfl (zt rfl) .cbool rfl) (kc (zm rfl) (kc (zQ rfl rfl) (kc (zQ rfl rfl) (kc (zQ rfl rfl) (kc (S.pickF .none rfl (zt rfl) .cbool rfl) (kc (za rfl) (kc (za rfl) ?_)))))))))))
   refine kD (OK.ret (Ret.r2 (zo rfl rfl) (zo rfl rfl) ?_))
   rw[show numOk l 5=false by unfold numOk;rw[g14,decide_eq_false (show¬0≤atoiV l by omega)];rfl]
 ·
  refine kc (zQ rfl rfl) (kc (zQ rfl rfl) (kc (S.pickF .none rfl (zt rfl) .cbool rfl) (kc (zm rfl) (kc (zQ rfl rfl) (kc (zQ rfl rfl) (kc (zQ rfl rfl) (kc (zQ rfl rfl) (kc (S.pickF .none rfl (zt rfl) .cbool rfl) (kc (zm rfl) (kc (zQ rfl rfl) (kc (zQ rfl rfl) ?_)))))))))))
  refine kc (zQ rfl rfl) (kc (S.pickF .none rfl (zt rfl) .cbool rfl) (kc (za rfl) (kc (za rfl) (kD (OK.ret (Ret.r2 (zo rfl rfl) (zo rfl rfl) ?_))))))
  rw[show numOk l 5=false by unfold numOk;rw[g14];rfl]
end Go.Proofs.YtpbalelbenmmbaaGreatDoor
namespace Go.Proofs.YtpbalelbenmmbaaGreatDoor
open Go.Ab
def Asc(s:List UInt8):Prop:=∀b∈s,b.toNat<128
theorem Asc.drop{s:List UInt8}(h:Asc s)(n:Nat):Asc (s.drop n):=fun b hb=>h b (List.mem_of_mem_drop hb)
theorem Asc.has{s:List UInt8}(h:Asc s)(p:List UInt8):Asc (hasR p s).2:=by
 unfold hasR
 split
 ·exact h.drop _
 ·exact h
theorem any_sign(b:UInt8):[32,59,40,41].contains b=isSign b:=by
 unfold isSign
 simp only[List.contains_cons,List.contains_nil,Bool.or_false]
 simp only[Bool.or_assoc]
theorem any_eq:∀(s:List UInt8)(k:Nat),idxGo isSign k s=if Lib.indexAny s [32,59,40,41]= -1 then -1 else Lib.indexAny s [32,59,40,41]+k
 |[],_=>rfl
 |b::s,k=>by
  have hge:=Lib.indexAny_ge [32,59,40,41] s
  rw[idxGo,Lib.indexAny,any_sign,any_eq s (k+1)]
  cases hb:isSign b with
  |true=>simp
  |false=>
   simp only[Bool.false_eq_true,if_false]
   by_cases h:Lib.indexAny s [32,59,40,41]= -1
   ·simp[h]
   ·have h2:¬Lib.indexAny s [32,59,40,41]+1= -1:=by omega
    simp[h,h2]
    omega
theorem anyIx_eq(s:List UInt8):Lib.indexAny s [32,59,40,41]=anyIx s:=by
 unfold anyIx
 rw[any_eq s 0]
 split
 ·rename_i h;exact h
 ·simp
theorem any_ct{s:List UInt8}(hl:s.length≤100000)(ha:Asc s):Ct Tryz.prog 359 [.str s,.str [32,59,40,41]] (.int .i64 (anyIx s)):=by
 intro m w vs hw h
 obtain⟨v1,vs1,rfl,h1,h2⟩:=h.cons_left
 obtain⟨v2,vs2,rfl,h3,h4⟩:=h2.cons_left
 have:=h4.nil_left
 subst this
 have h1':RepD m (.str s) v1:=h1
 have h3':RepD m (.str [32,59,40,41]) v2:=h3
 cases h1'
 cases h3'
 have hbd:=any_bd s 0
 have hbd2:anyIx s= -1∨(((0:Nat):Int)≤anyIx s∧anyIx s<((0:Nat):Int)+s.length):=hbd
 have hget:∀{l:List UInt8}{P:UInt8→Prop},(∀b∈l,P b)→∀(j:Nat)(b:UInt8),l[j]?=some b→P b:=fun h j b hj=>h b (List.mem_of_getElem? hj)
 refine(Tryz.strings_IndexAny_laid ⟨s.toArray⟩ ⟨[32,59,40,41].toArray⟩ w (by show s.length<_;omega) (by decide) (hget ha) (hget (by decide))).mono ?_
 rintro e w' ⟨rfl,hB⟩
 refine⟨_,m,rfl,hB,Mem.le_refl m,fun _ _ h=>.inl h,fun p v hp=>by rw[hB.cell (block_lt_of_cell (hw p v hp))];exact hw p v hp,?_⟩
 show RepD m (.int .i64 (anyIx s)) (.int .i64 (Lib.indexAny s [32,59,40,41]))
 rw[anyIx_eq]
 exact .int (IntWalk.i64_in _ (by omega))
def wIx(s:List UInt8):Nat:=if anyIx s<0 then s.length else(anyIx s).toNat
theorem wIx_T{s:List UInt8}(h:anyIx s<0):wIx s=s.length:=if_pos h
theorem wIx_F{s:List UInt8}(h:¬anyIx s<0):anyIx s=((wIx s:Nat):Int):=by unfold wIx;rw[if_neg h];omega
theorem wIx_le(s:List UInt8):wIx s≤s.length:=by
 have hbd:=any_bd s 0
 have hbd2:anyIx s= -1∨(((0:Nat):Int)≤anyIx s∧anyIx s<((0:Nat):Int)+s.length):=hbd
 unfold wIx
 split<;>omega
theorem wordR_ix(s:List UInt8):wordR s=(s.take (wIx s),s.drop (wIx s)):=by
 by_cases h:anyIx s<0
 ·rw[wIx_T h,wordR_F h,List.take_length,List.drop_length]
 ·rw[wordR_T h];unfold wIx;rw[if_neg h]
theorem Asc.word{s:List UInt8}(h:Asc s):Asc (wordR s).2:=by rw[wordR_ix];exact h.drop _
theorem names_at{i:Nat}(h:i<6):(nameTab.map X.str)[i]?=some (.str (nameTab[i]'h)):=by rw[List.getElem?_map,List.getElem?_eq_getElem h];rfl
theorem kind_T{s:List UInt8}{i:Nat}(h:idxGo (fun n=>decide ((wordR s).1=n)) 0 nameTab=(i:Int)):(kindR s).1=some i:=by
 rw[idx_ix]at h
 show ix (fun n=>decide ((wordR s).1=n)) nameTab=some i
 cases e:ix (fun n=>decide ((wordR s).1=n)) nameTab with
 |none=>rw[e]at h;simp at h
 |some j=>rw[e]at h;simp at h;congr 1;omega
theorem kind_F{s:List UInt8}(h:idxGo (fun n=>decide ((wordR s).1=n)) 0 nameTab= -1):(kindR s).1=none:=by
 rw[idx_ix]at h
 show ix (fun n=>decide ((wordR s).1=n)) nameTab=none
 cases e:ix (fun n=>decide ((wordR s).1=n)) nameTab with
 |none=>rfl
 |some j=>rw[e]at h;simp at h
theorem numR_T{s:List UInt8}(h:(hasR [32] s).1=true):numR s=((atoiV (wordR (hasR [32] s).2).1,numOk (wordR (hasR [32] s).2).1 5),(wordR (hasR [32] s).2).2):=if_pos h
theorem numR_F{s:List UInt8}(h:(hasR [32] s).1=false):numR s=((0,false),(hasR [32] s).2):=by unfold numR;rw[if_neg (by rw[h];decide)]
theorem rcp_word{s:List UInt8}(hl:s.length≤100000)(ha:Asc s):CtG Tryz.prog 351 [4] [.ptr 4 0] [(1004,.box [.str s])] [(1004,.box [.str (wordR s).2])] (.str (wordR s).1):=by
 refine CtG.intro (rs:=[.tmp 2]) Tryz.func351 rfl Tryz.ntmps351 Tryz.results351 rfl rfl rfl rfl fun w h=>?_
 have hbd:=any_bd s 0
 have hbd2:anyIx s= -1∨(((0:Nat):Int)≤anyIx s∧anyIx s<((0:Nat):Int)+s.length):=hbd
 refine kr (kc (S.assign .none rfl (.cstr (l:=[]) rfl (by decide))) (kq (kc (zm rfl) (kc (S.nilCheckB .none rfl (zt rfl)) (kc (zf fi345_0 rfl) (kc (zl ti9 rfl rfl rfl rfl) (kc (S.call (any_ct hl ha) Tryz.call359 .none rfl (zc rfl (.cons (.cstr (l:=[32,59,40,41]) rfl (by decide)) .nil)) rfl) (kc (za rfl) (kD (kO (kr ?_)))))))))))
 refine kc (zm rfl) (kc (S.lss .none rfl (zt rfl) (.cint rfl)) (kD (kB rfl (fun c11=>?_) (fun c11=>?_))))
 ·
  have hwi:(s.length:Int)=((wIx s:Nat):Int):=by rw[wIx_T c11]
  have hwr:wordR s=(s.take (wIx s),s.drop (wIx s)):=wordR_ix s
  have hle:=wIx_le s
  refine OK.reg (kc (zm rfl) (kc (S.nilCheckB .none rfl (zt rfl)) (kc (zf fi345_0 rfl) (kc (zl ti9 rfl rfl rfl rfl) (kc (S.slen Tryz.underlying9 .none rfl (zt rfl)) (kc (za rfl) (kq (kc (zm rfl) (kc (S.nilCheckB .none rfl (zt rfl)) (kc (zf fi345_0 rfl) (kc (zl ti9 rfl rfl rfl rfl) ?_)))))))))))
  refine kc (zm rfl) (kc (S.strsl (hi:=(wIx s)) (l':=s.take (wIx s)) str9 .none rfl (zt rfl) (.inl ⟨rfl,rfl,rfl⟩) (.inr ⟨_,_,rfl,(zt rfl),hwi⟩) (by omega) (by omega) rfl) (kc (za rfl) (kq (kc (zm rfl) (kc (zm rfl) (kc (S.nilCheckB .none rfl (zt rfl)) (kc (zf fi345_0 rfl) (kc (zl ti9 rfl rfl rfl rfl) (kc (zm rfl) (kc (S.strsl (lo:=(wIx s)) (l':=s.drop (wIx s)) str9 .none rfl (zt rfl) (.inr ⟨_,_,rfl,(zt rfl),hwi⟩) (.inl ⟨rfl,rfl,rfl⟩) (by omega) (by omega) (by rw[List.take_length])) ?_))))))))))
  refine kc (S.nilCheckB .none rfl (zt rfl)) (kc (zf fi345_0 rfl) (kc (zS ti9 rfl rfl rfl rfl rfl rfl) (kq (kc (zm rfl) (kc (za rfl) (kD (OK.ret ⟨Ret.r1 (zo rfl rfl) ?_,lkBs (by rw[hwr]),trivial⟩)))))))
  rw[hwr]
 ·
  have hwi:anyIx s=((wIx s:Nat):Int):=wIx_F c11
  have hwr:wordR s=(s.take (wIx s),s.drop (wIx s)):=wordR_ix s
  have hle:=wIx_le s
  refine OK.skip (kp (kc (zm rfl) (kc (S.nilCheckB .none rfl (zt rfl)) (kc (zf fi345_0 rfl) (kc (zl ti9 rfl rfl rfl rfl) (kc (zm rfl) (kc (S.strsl (hi:=(wIx s)) (l':=s.take (wIx s)) str9 .none rfl (zt rfl) (.inl ⟨rfl,rfl,rfl⟩) (.inr ⟨_,_,rfl,(zt rfl),hwi⟩) (by omega) (by omega) rfl) (kc (za rfl) (kq (kc (zm rfl) (kc (zm rfl) ?_)))))))))))
  refine kc (S.nilCheckB .none rfl (zt rfl)) (kc (zf fi345_0 rfl) (kc (zl ti9 rfl rfl rfl rfl) (kc (zm rfl) (kc (S.strsl (lo:=(wIx s)) (l':=s.drop (wIx s)) str9 .none rfl (zt rfl) (.inr ⟨_,_,rfl,(zt rfl),hwi⟩) (.inl ⟨rfl,rfl,rfl⟩) (by omega) (by omega) (by rw[List.take_length])) ?_))))
  refine kc (S.nilCheckB .none rfl (zt rfl)) (kc (zf fi345_0 rfl) (kc (zS ti9 rfl rfl rfl rfl rfl rfl) (kq (kc (zm rfl) (kc (za rfl) (kD (OK.ret ⟨Ret.r1 (zo rfl rfl) ?_,lkBs (by rw[hwr]),trivial⟩)))))))
  rw[hwr]
theorem rcp_kind{s:List UInt8}(hl:s.length≤100000)(ha:Asc s):CtGT Tryz.prog 334 [4] [.ptr 4 0] [(1004,.box [.str s])] [(1004,.box [.str (kindR s).2])] (.tup [.int .i64 (kindN s),.bool (kindR s).1.isSome]):=by
 refine CtGT.intro (rs:=[.tmp 2,.tmp 3]) Tryz.func334 rfl Tryz.ntmps334 Tryz.results334 rfl rfl rfl rfl fun w h hT=>?_
 refine kr (kc (zi rfl rfl) (kc (zb rfl) (kq (kc (zm rfl) (RK.c (S.callGF (fs:=[4]) (t:=[(1004,.box [.str s])]) (t':=[(1004,.box [.str (wordR s).2])]) (rcp_word hl ha) Tryz.call351 .none rfl (zc rfl .nil) (by kernel_rfl) ⟨rfl,trivial⟩ (by kernel_rfl) (by kernel_rfl) (by kernel_rfl) (by kernel_rfl) rfl (by kernel_rfl)) ?_)))))
 refine kc (za rfl) (kD (kO (kr ?_)))
 refine kc (S.loadNames hT (show _=some _ by kernel_rfl) ti449 .none rfl) ?_
 refine kc (S.move .none rfl (.cint rfl)) (kD (OK.block (OK.loop (G:=Nat) [4] (fun i=>[(0,.ptr 4 0),(1004,.box [.str (wordR s).2]),(4,.str (wordR s).1),(9,.agg (nameTab.map X.str)),(10,.int .i64 i)]) (fun i=>i≤6∧idxGo (fun n=>decide ((wordR s).1=n)) 0 nameTab=idxGo (fun n=>decide ((wordR s).1=n)) i (nameTab.drop i)) (fun i=>6 - i) 0 ⟨Nat.zero_le _,rfl⟩ ⟨rfl,rfl,rfl,rfl,rfl,trivial⟩ (fun _=>rfl) ?_)))
 rintro i ⟨hi,hg⟩
 refine kr (kc (S.lss .none rfl (zt rfl) (.cint rfl)) (kD (kO (kB rfl (fun c11=>?_) (fun c11=>?_)))))
 ·
  have hil:i<6:=by omega
  have hil2:i<nameTab.length:=hil
  refine OK.skip (Ab.D.code (kO (OK.block (kr (kc (zm rfl) (kc (S.aggidx (i:=i) Tryz.underlying449 ti9 .none rfl (zt rfl) (zt rfl) rfl (by omega) (names_at hil) rfl) (kc (za rfl) (kc (za rfl) (kq (kc (zm rfl) (kc (zm rfl) ?_)))))))))))
  refine kc (S.seql .none rfl (zt rfl) (zt rfl)) (kD (kB rfl (fun c16=>?_) (fun c16=>?_)))
  ·
   have hk:(kindR s).1=some i:=kind_T (by rw[hg,idxGo_drop _ hil2,if_pos (show decide ((wordR s).1=nameTab[i])=true from decide_eq_true c16)])
   refine kr (kc (zm rfl) (kc (za rfl) (kc (zb rfl) (kD (OK.ret ⟨Ret.r2 (zo rfl rfl) (zo rfl rfl) ?_,rfl,trivial⟩)))))
   unfold kindN
   rw[hk]
   rfl
  ·
   refine OK.skip (Ab.D.blk (Ab.D.code (OK.reg ?_)))
   refine kc (zp rfl rfl (by omega)) (kc (zm rfl) (RK.nil (Ab.D.lp ⟨i+1,⟨by omega,by rw[hg,idxGo_drop _ hil2,if_neg (show¬decide ((wordR s).1=nameTab[i])=true from fun e=>c16 (of_decide_eq_true e))]⟩,(by omega),rfl,rfl,rfl,rfl,rfl,trivial⟩)))
 ·
  have hk:(kindR s).1=none:=kind_F (by rw[hg,show i=6 by omega];rfl)
  refine OK.exit rfl (kp (kc (zi rfl rfl) (kc (zb rfl) (kD (OK.ret ⟨Ret.r2 (zo rfl rfl) (zo rfl rfl) ?_,rfl,trivial⟩)))))
  unfold kindN
  rw[hk]
  rfl
theorem rcp_number{s:List UInt8}(hl:s.length≤100000)(ha:Asc s):CtGT Tryz.prog 335 [4] [.ptr 4 0] [(1004,.box [.str s])] [(1004,.box [.str (numR s).2])] (.tup [.int .i64 (numR s).1.1,.bool (numR s).1.2]):=by
 refine CtGT.intro (rs:=[.tmp 2,.tmp 3]) Tryz.func335 rfl Tryz.ntmps335 Tryz.results335 rfl rfl rfl rfl fun w h hT=>?_
 have hhl:=hasR_le [32] s
 have hwl:=wordR_le (hasR [32] s).2
 have hha:=ha.has [32]
 refine kr (kc (zi rfl rfl) (kc (zb rfl) (kD (kO (kr ?_)))))
 refine kc (zm rfl) (RK.c (S.callGF (fs:=[4]) (t:=[(1004,.box [.str s])]) (t':=[(1004,.box [.str (hasR [32] s).2])]) (rcp_has (p:=[32]) hl (by decide)) Tryz.call292 .none rfl (zc rfl (.cons (.cstr (l:=[32]) rfl (by decide)) .nil)) (by kernel_rfl) ⟨rfl,trivial⟩ (by kernel_rfl) (by kernel_rfl) (by kernel_rfl) (by kernel_rfl) rfl (by kernel_rfl)) ?_)
 refine kc (S.not .none rfl (zt rfl)) (kD (OK.cond rfl rfl (fun c6=>?_) (fun c6=>?_)))
 ·
  have hn:numR s=((0,false),(hasR [32] s).2):=numR_F (by simpa using c6)
  refine kr (kc (zi rfl rfl) (kc (zb rfl) (kD (OK.ret ⟨Ret.r2 (zo rfl rfl) (zo rfl rfl) ?_,lkBs (by rw[hn]),trivial⟩))))
  rw[hn]
 ·
  have hn:numR s=((atoiV (wordR (hasR [32] s).2).1,numOk (wordR (hasR [32] s).2).1 5),(wordR (hasR [32] s).2).2):=numR_T (by simpa using c6)
  refine OK.skip (kp (kc (zm rfl) (RK.c (S.callGF (fs:=[4]) (t:=[(1004,.box [.str (hasR [32] s).2])]) (t':=[(1004,.box [.str (wordR (hasR [32] s).2).2])]) (rcp_word (by omega) hha) Tryz.call351 .none rfl (zc rfl .nil) (by kernel_rfl) ⟨rfl,trivial⟩ (by kernel_rfl) (by kernel_rfl) (by kernel_rfl) (by kernel_rfl) rfl (by kernel_rfl)) ?_)))
  refine kc (S.callT (rcp_natural (l:=(wordR (hasR [32] s).2).1) (by omega)) hT Tryz.call352 .none rfl (zc rfl .nil) rfl) (kc (zX rfl rfl rfl) (kc (zX rfl rfl rfl) (kc (za rfl) (kc (za rfl) (kD (OK.ret ⟨Ret.r2 (zo rfl rfl) (zo rfl rfl) ?_,lkBs (by rw[hn]),trivial⟩))))))
  rw[hn]
end Go.Proofs.YtpbalelbenmmbaaGreatDoor
namespace Go.Proofs.YtpbalelbenmmbaaGreatDoor
open Go.Ab
def Ph.cx(p:Ph):List X:=[.int .i64 p.kind,.int .i64 p.power,.int .i64 p.law,.int .i64 p.ticks,.int .i64 p.kelvin,.sl (p.body.map Ph.cs)]
theorem Ph.cx_eq(p:Ph):p.cx=p.cs:=by
 cases p
 rw[Ph.cs]
 rfl
abbrev lsT(s:List UInt8):(List Ph×Bool)×List UInt8:=lsG (s.length+1) [] s
abbrev phT(s:List UInt8):(Ph×Bool)×List UInt8:=phOr lsT s
theorem numR_le(s:List UInt8):(numR s).2.length≤s.length:=by
 have h1:=hasR_le [32] s
 have h2:=wordR_le (hasR [32] s).2
 unfold numR
 split<;>dsimp only<;>omega
theorem Asc.num{s:List UInt8}(h:Asc s):Asc (numR s).2:=by
 unfold numR
 split
 ·exact(h.has [32]).word
 ·exact h.has [32]
theorem kindR_le(s:List UInt8):(kindR s).2.length≤s.length:=(wordR_le s).2
theorem Asc.kind{s:List UInt8}(h:Asc s):Asc (kindR s).2:=h.word
theorem numsR_le:∀(fs:List Nat)(p:Ph)(s:List UInt8),(numsR fs p s).2.length≤s.length
 |[],_,_=>Nat.le_refl _
 |f::fs,p,s=>by
  have h1:=numR_le s
  rw[numsR]
  split
  ·exact Nat.le_trans (numsR_le fs _ _) h1
  ·exact h1
theorem has_lt{p s:List UInt8}(h:(hasR p s).1=true)(hp:0<p.length):(hasR p s).2.length<s.length:=by
 unfold hasR at h⊢
 split
 ·rename_i h2
  rw[pre_eq,Bool.and_eq_true]at h2
  have:=of_decide_eq_true h2.1
  rw[List.length_drop]
  omega
 ·rename_i h2
  rw[if_neg h2]at h
  cases h
theorem phOr_cong{ls ls':List UInt8→(List Ph×Bool)×List UInt8}{s:List UInt8}(h:∀s',s'.length<s.length→ls s'=ls' s'):phOr ls s=phOr ls' s:=by
 unfold phOr
 split
 ·rfl
 ·rename_i k _
  split
  ·rfl
  ·rename_i p _
   dsimp only
   split
   ·rfl
   ·split
    ·rfl
    ·rename_i h1 h2
     have h3:(hasR [32,40] (numsR (fieldsR k) (.mk k 0 0 0 0 []) (kindR s).2).2).1=true:=by simpa using h2
     have h4:=has_lt h3 (by decide)
     have h5:=numsR_le (fieldsR k) (.mk k 0 0 0 0 []) (kindR s).2
     have h6:=kindR_le s
     rw[h _ (by omega)]
theorem phOr_le{ls:List UInt8→(List Ph×Bool)×List UInt8}{s:List UInt8}(h:∀s',s'.length<s.length→(ls s').2.length≤s'.length):(phOr ls s).2.length≤s.length:=by
 have h6:=kindR_le s
 unfold phOr
 split
 ·exact h6
 ·rename_i k _
  have h5:=numsR_le (fieldsR k) (.mk k 0 0 0 0 []) (kindR s).2
  split
  ·dsimp only;omega
  ·rename_i p _
   dsimp only
   have h7:=hasR_le [32,40] (numsR (fieldsR k) (.mk k 0 0 0 0 []) (kindR s).2).2
   split
   ·dsimp only;omega
   ·split
    ·dsimp only;omega
    ·rename_i h1 h2
     have h3:(hasR [32,40] (numsR (fieldsR k) (.mk k 0 0 0 0 []) (kindR s).2).2).1=true:=by simpa using h2
     have h4:=has_lt h3 (by decide)
     have h8:=h _ (show(hasR [32,40] (numsR (fieldsR k) (.mk k 0 0 0 0 []) (kindR s).2).2).2.length<s.length by omega)
     have h9:=hasR_le [41] (ls (hasR [32,40] (numsR (fieldsR k) (.mk k 0 0 0 0 []) (kindR s).2).2).2).2
     split<;>dsimp only<;>omega
theorem lsG_le:∀(n:Nat)(acc:List Ph)(s:List UInt8),(lsG n acc s).2.length≤s.length
 |0,_,_=>Nat.le_refl _
 |n+1,acc,s=>by
  have h1:=phOr_le (ls:=lsG n []) (s:=s) fun s' _=>lsG_le n [] s'
  have h2:=hasR_le [59] (phOr (lsG n []) s).2
  rw[lsG]
  split
  ·exact h1
  ·split
   ·exact Nat.le_trans (lsG_le n _ _) (by omega)
   ·dsimp only;omega
theorem lsG_fuel:∀(n m:Nat)(acc:List Ph)(s:List UInt8),s.length<n→s.length<m→lsG n acc s=lsG m acc s
 |0,_,_,_,h,_=>by omega
 |_+1,0,_,_,_,h=>by omega
 |n+1,m+1,acc,s,h1,h2=>by
  have hp:phOr (lsG n []) s=phOr (lsG m []) s:=phOr_cong fun s' hs=>lsG_fuel n m [] s' (by omega) (by omega)
  rw[lsG,lsG,hp]
  split
  ·rfl
  ·split
   ·rename_i h3 h4
    have h5:=has_lt h4 (by decide)
    have h6:=phOr_le (ls:=lsG m []) (s:=s) fun s' _=>lsG_le m [] s'
    exact lsG_fuel n m _ _ (by omega) (by omega)
   ·rfl
theorem phOr_ls{n:Nat}{s:List UInt8}(h:s.length≤n):phOr (lsG n []) s=phT s:=phOr_cong fun s' hs=>lsG_fuel _ _ _ _ (by omega) (by omega)
theorem lsT_step(n:Nat)(acc:List Ph)(s:List UInt8)(hn:s.length<n):lsG n acc s=if(phT s).1.2=false then(([],false),(phT s).2)else if(hasR [59] (phT s).2).1=true then lsG ((hasR [59] (phT s).2).2.length+1) (acc++[(phT s).1.1]) (hasR [59] (phT s).2).2 else((acc++[(phT s).1.1],true),(hasR [59] (phT s).2).2):=by
 cases n with
 |zero=>omega
 |succ n=>
  rw[lsG,phOr_ls (by omega)]
  split
  ·rfl
  ·split
   ·rename_i h3 h4
    have h5:=has_lt h4 (by decide)
    have h6:(phT s).2.length≤s.length:=phOr_le (ls:=lsT) (s:=s) fun s' _=>lsG_le _ [] s'
    exact lsG_fuel _ _ _ _ (by omega) (by omega)
   ·rfl
abbrev Q4:=Int×Int×Int×Int
def Q4.set(q:Q4)(f:Nat)(n:Int):Q4:=match f with
 |1=>(n,q.2.1,q.2.2.1,q.2.2.2)
 |2=>(q.1,n,q.2.2.1,q.2.2.2)
 |3=>(q.1,q.2.1,n,q.2.2.2)
 |4=>(q.1,q.2.1,q.2.2.1,n)
 |_=>q
def qPh(k:Nat)(q:Q4)(b:List Ph):Ph:=.mk k q.1 q.2.1 q.2.2.1 q.2.2.2 b
def qCs(k:Nat)(q:Q4):List X:=[.int .i64 (k:Int),.int .i64 q.1,.int .i64 q.2.1,.int .i64 q.2.2.1,.int .i64 q.2.2.2,.sl []]
theorem qPh_set{k:Nat}{q:Q4}{f:Nat}(h:1≤f∧f≤4)(n:Int):(qPh k q []).setF f n=qPh k (q.set f n) []:=by
 rcases(show f=1∨f=2∨f=3∨f=4 by omega)with rfl|rfl|rfl|rfl<;>rfl
theorem qCs_set{k:Nat}{q:Q4}{f:Nat}(h:1≤f∧f≤4)(n:Int):(qCs k q).take (0+f)++((cellsX (.int .i64 n)).map toH++(qCs k q).drop (0+f+1))=qCs k (q.set f n):=by
 rcases(show f=1∨f=2∨f=3∨f=4 by omega)with rfl|rfl|rfl|rfl<;>rfl
theorem fields_at{k i:Nat}(h:i<(fieldsR k).length):1≤(fieldsR k)[i]∧(fieldsR k)[i]≤4:=by
 have key:∀f∈fieldsR k,1≤f∧f≤4:=by
  unfold fieldsR
  split<;>decide
 exact key _ (List.getElem_mem h)
abbrev ptrsOf(b k:Nat):List (List X):=(fieldsR k).map fun f=>[X.raw (.pointer (some ⟨b,0+f,none⟩))]
def mapF(b:Nat):List (Int×X):=[(0,.sl (ptrsOf b 0)),(1,.sl (ptrsOf b 1)),(2,.sl (ptrsOf b 2)),(3,.sl (ptrsOf b 3)),(4,.sl (ptrsOf b 4)),(5,.sl (ptrsOf b 5))]
theorem mapF_at{b k:Nat}(h:k<6):lookI (mapF b) (k:Int)=some (.sl (ptrsOf b k)):=by
 match k,h with
 |0,_=>rfl
 |1,_=>rfl
 |2,_=>rfl
 |3,_=>rfl
 |4,_=>rfl
 |5,_=>rfl
abbrev phM(b k:Nat)(q:Q4):HM Unit:=fun _=>some (b,.box (qCs k q))
theorem phM_set(M:HM Unit)(b k:Nat)(q:Q4):M.set () (some (b,.box (qCs k q)))=phM b k q:=funext fun _=>if_pos rfl
theorem numsR_step{k i:Nat}(h:i<(fieldsR k).length)(q:Q4)(r:List UInt8):numsR ((fieldsR k).drop i) (qPh k q []) r=if(numR r).1.2=true then numsR ((fieldsR k).drop (i+1)) (qPh k (q.set (fieldsR k)[i] (numR r).1.1) []) (numR r).2 else(none,(numR r).2):=by
 rw[List.drop_eq_getElem_cons h,numsR,qPh_set (fields_at h)]
theorem qCs_fit{k:Nat}{q:Q4}{f:Nat}(h:1≤f∧f≤4):Nat.ble (0+f+1) (qCs k q).length=true:=by
 rcases(show f=1∨f=2∨f=3∨f=4 by omega)with rfl|rfl|rfl|rfl<;>rfl
def qCsB(k:Nat)(q:Q4)(b:List Ph):List X:=[.int .i64 (k:Int),.int .i64 q.1,.int .i64 q.2.1,.int .i64 q.2.2.1,.int .i64 q.2.2.2,.sl (b.map Ph.cs)]
theorem phT_0{s:List UInt8}(h:(kindR s).1=none):phT s=((Ph.zero,false),(kindR s).2):=by unfold phT phOr;rw[h]
theorem phT_1{s r:List UInt8}{k:Nat}(h:(kindR s).1=some k)(hN:numsR (fieldsR k) (qPh k (0,0,0,0) []) (kindR s).2=(none,r)):phT s=((Ph.zero,false),r):=by
 unfold phT phOr
 have hN':numsR (fieldsR k) (.mk k 0 0 0 0 []) (kindR s).2=(none,r):=hN
 rw[h]
 dsimp only
 rw[hN']
theorem phT_2{s r:List UInt8}{k:Nat}{q:Q4}(h:(kindR s).1=some k)(hN:numsR (fieldsR k) (qPh k (0,0,0,0) []) (kindR s).2=(some (qPh k q []),r)):phT s=if k≠5 then((qPh k q [],true),r)else if(hasR [32,40] r).1=false then((Ph.zero,false),(hasR [32,40] r).2)else
  if(lsT (hasR [32,40] r).2).1.2=true then((qPh k q (lsT (hasR [32,40] r).2).1.1,(hasR [41] (lsT (hasR [32,40] r).2).2).1),(hasR [41] (lsT (hasR [32,40] r).2).2).2)else((qPh k q (lsT (hasR [32,40] r).2).1.1,false),(lsT (hasR [32,40] r).2).2):=by
 unfold phT phOr
 have hN':numsR (fieldsR k) (.mk k 0 0 0 0 []) (kindR s).2=(some (qPh k q []),r):=hN
 rw[h]
 dsimp only
 rw[hN']
 rfl
theorem fields_len(k:Nat):(fieldsR k).length≤3:=by
 unfold fieldsR
 split<;>decide
theorem lsT_le(s:List UInt8):(lsT s).2.length≤s.length:=lsG_le _ [] s
theorem phT_le(s:List UInt8):(phT s).2.length≤s.length:=phOr_le (ls:=lsT) (s:=s) fun s' _=>lsG_le _ [] s'
theorem numsR_asc:∀(fs:List Nat)(p:Ph){s:List UInt8},Asc s→Asc (numsR fs p s).2
 |[],_,_,h=>h
 |f::fs,p,s,h=>by
  rw[numsR]
  split
  ·exact numsR_asc fs _ h.num
  ·exact h.num
theorem phOr_asc{ls:List UInt8→(List Ph×Bool)×List UInt8}{s:List UInt8}(h:∀s',Asc s'→Asc (ls s').2)(ha:Asc s):Asc (phOr ls s).2:=by
 have h6:=ha.kind
 unfold phOr
 split
 ·exact h6
 ·rename_i k _
  have h5:=numsR_asc (fieldsR k) (.mk k 0 0 0 0 []) h6
  split
  ·exact h5
  ·rename_i p _
   dsimp only
   split
   ·exact h5
   ·split
    ·exact h5.has _
    ·split
     ·exact(h _ (h5.has _)).has _
     ·exact h _ (h5.has _)
theorem lsG_asc:∀(n:Nat)(acc:List Ph){s:List UInt8},Asc s→Asc (lsG n acc s).2
 |0,_,_,h=>h
 |n+1,acc,s,h=>by
  have h1:=phOr_asc (ls:=lsG n []) (fun s' hs=>lsG_asc n [] hs) h
  rw[lsG]
  split
  ·exact h1
  ·split
   ·exact lsG_asc n _ (h1.has _)
   ·exact h1.has _
theorem phT_asc{s:List UInt8}(h:Asc s):Asc (phT s).2:=phOr_asc (ls:=lsT) (fun s' hs=>lsG_asc _ [] hs) h
end Go.Proofs.YtpbalelbenmmbaaGreatDoor
