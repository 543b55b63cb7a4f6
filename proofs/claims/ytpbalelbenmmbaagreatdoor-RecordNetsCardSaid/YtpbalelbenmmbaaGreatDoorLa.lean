import Derived.Test.YtpbalelbenmmbaaGreatDoorHz
import Derived.Test.YtpbalelbenmmbaaGreatDoorGh
import Derived.Test.YtpbalelbenmmbaaGreatDoorGs
import Derived.Test.YtpbalelbenmmbaaGreatDoorSh
import Derived.Test.YtpbalelbenmmbaaGreatDoorTy
import Derived.Test.YtpbalelbenmmbaaGreatDoorWm
namespace Go.Proofs.YtpbalelbenmmbaaGreatDoor
open Go.Ab
def splitC(c:UInt8):List UInt8→List (List UInt8)
 |[]=>[[]]
 |b::l=>if b=c then []::splitC c l else match splitC c l with
  |[]=>[[b]]
  |p::ps=>(b::p)::ps
theorem split_ne(c:UInt8):∀l,splitC c l≠[]
 |[]=>by simp[splitC]
 |b::l=>by
  unfold splitC
  split
  ·simp
  ·split<;>simp
theorem split_cons{b c:UInt8}{l:List UInt8}(h:b≠c){p:List UInt8}{ps:List (List UInt8)}(hs:splitC c l=p::ps):splitC c (b::l)=(b::p)::ps:=by
 rw[splitC,if_neg h,hs]
theorem idx_cons{b c:UInt8}{l:List UInt8}:Lib.indexByte (b::l) c=if b=c then 0 else if Lib.indexByte l c<0 then -1 else Lib.indexByte l c+1:=by
 have hg:=Lib.indexByte_ge l c
 show(if(b==c)=true then 0 else if(Lib.indexByte l c== -1)=true then -1 else Lib.indexByte l c+1)=_
 by_cases h:b=c
 ·rw[if_pos (by simpa using h),if_pos h]
 ·rw[if_neg (by simpa using h),if_neg h]
  by_cases h2:Lib.indexByte l c<0
  ·rw[if_pos h2,if_pos (by have:Lib.indexByte l c= -1:=by omega
                           rw[this];rfl)]
  ·rw[if_neg h2,if_neg (by have:¬Lib.indexByte l c= -1:=by omega
                           simpa using this)]
theorem split_neg{c:UInt8}:∀{l:List UInt8},Lib.indexByte l c<0→splitC c l=[l]
 |[],_=>rfl
 |b::l,h=>by
  rw[idx_cons]at h
  split at h
  ·omega
  ·rename_i h1
   split at h
   ·rename_i h2
    exact split_cons h1 (split_neg h2)
   ·omega
theorem split_pos{c:UInt8}:∀{l:List UInt8},¬Lib.indexByte l c<0→(Lib.indexByte l c).toNat<l.length∧splitC c l=l.take (Lib.indexByte l c).toNat::splitC c (l.drop ((Lib.indexByte l c).toNat+1))
 |[],h=>by simp[Lib.indexByte]at h
 |b::l,h=>by
  rw[idx_cons]at h⊢
  by_cases h1:b=c
  ·rw[if_pos h1]
   refine⟨by simp,?_⟩
   rw[splitC,if_pos h1]
   rfl
  ·rw[if_neg h1]at h⊢
   by_cases h2:Lib.indexByte l c<0
   ·rw[if_pos h2]at h;omega
   ·rw[if_neg h2]at h⊢
    obtain⟨g1,g2⟩:=split_pos h2
    have e:(Lib.indexByte l c+1).toNat=(Lib.indexByte l c).toNat+1:=by omega
    rw[e]
    refine⟨by simp;omega,?_⟩
    rw[split_cons h1 g2]
    rfl
theorem split_len(c:UInt8):∀l,(splitC c l).length=Lib.countByte l c+1
 |[]=>rfl
 |b::l=>by
  have ih:=split_len c l
  unfold Lib.countByte at ih⊢
  rw[splitC,List.count_cons]
  by_cases h:b=c
  ·rw[if_pos h,if_pos (by simpa using h),List.length_cons,ih]
  ·rw[if_neg h,if_neg (by simpa using h)]
   cases hs:splitC c l with
   |nil=>exact absurd hs (split_ne c l)
   |cons p ps=>rw[hs]at ih;simpa using ih
theorem split_sub{c:UInt8}:∀{l:List UInt8},∀p∈splitC c l,p.length≤l.length
 |[],p,hp=>by simp[splitC]at hp;subst hp;simp
 |b::l,p,hp=>by
  rw[splitC]at hp
  split at hp
  ·rcases List.mem_cons.1 hp with rfl|hp
   ·simp
   ·have:=split_sub p hp;simp only[List.length_cons];omega
  ·split at hp
   ·rw[List.mem_singleton]at hp;subst hp;simp
   ·rename_i q ps hs
    rcases List.mem_cons.1 hp with rfl|hp
    ·have:=split_sub q (by rw[hs];exact List.mem_cons_self)
     simp only[List.length_cons];omega
    ·have:=split_sub p (by rw[hs];exact List.mem_cons_of_mem _ hp)
     simp only[List.length_cons];omega
theorem idx_bd(l:List UInt8)(c:UInt8): -1≤Lib.indexByte l c∧Lib.indexByte l c≤l.length:=by
 refine⟨Lib.indexByte_ge l c,?_⟩
 by_cases h:Lib.indexByte l c<0
 ·omega
 ·have:=(split_pos h).1;omega
def cutC(c:UInt8)(l:List UInt8):List UInt8×List UInt8×Bool:=if 0≤Lib.indexByte l c then(l.take (Lib.indexByte l c).toNat,l.drop ((Lib.indexByte l c).toNat+1),true)else(l,[],false)
theorem cut_T{c:UInt8}{l:List UInt8}(h:0≤Lib.indexByte l c):cutC c l=(l.take (Lib.indexByte l c).toNat,l.drop ((Lib.indexByte l c).toNat+1),true):=if_pos h
theorem cut_F{c:UInt8}{l:List UInt8}(h:¬0≤Lib.indexByte l c):cutC c l=(l,[],false):=if_neg h
theorem cut_split(c:UInt8)(l:List UInt8):splitC c l=if(cutC c l).2.2=true then(cutC c l).1::splitC c (cutC c l).2.1 else [l]:=by
 by_cases h:0≤Lib.indexByte l c
 ·rw[cut_T h,if_pos rfl];exact(split_pos (by omega)).2
 ·rw[cut_F h,if_neg (fun e=>by cases e)];exact split_neg (by omega)
theorem getD_lt{α:Type}{l:List α}{k:Nat}{d:α}(h:k<l.length):l.getD k d=l[k]:=by rw[List.getD_eq_getElem?_getD,List.getElem?_eq_getElem h];rfl
theorem u8_eq{a b:UInt8}:((a.toNat:Int)=(b.toNat:Int))↔a=b:=by
 constructor
 ·intro h;exact UInt8.toNat_inj.1 (by omega)
 ·intro h;rw[h]
theorem u8_back(c:UInt8):((c.toNat:Int)).toNat.toUInt8=c:=by simp
theorem split_set{c:UInt8}{l:List UInt8}{i:Nat}(hi:i<(splitC c l).length){p:List UInt8}(hp:(splitC c l)[i]=p):
  (((splitC c l).take i++List.replicate ((splitC c l).length - i) []).map fun s=>[X.str s]).set i [X.str p]=(((splitC c l).take (i+1)++List.replicate ((splitC c l).length - (i+1)) []).map fun s=>[X.str s]):=by
 rw[show(splitC c l).length - i=((splitC c l).length - (i+1))+1 by omega,List.replicate_succ,List.take_succ_eq_append_getElem hi,hp,List.map_append,List.map_append,List.map_append]
 rw[List.set_append_right _ _ (by simp;omega)]
 simp[Nat.min_eq_left (Nat.le_of_lt hi)]
def att(p0:List UInt8):List (List UInt8)→List (List UInt8)
 |[]=>[p0]
 |p::ps=>(p0++p)::ps
theorem att_nil{L:List (List UInt8)}(h:L≠[]):att [] L=L:=by cases L with|nil=>exact absurd rfl h|cons p ps=>rfl
theorem att_c{c:UInt8}{p0 r:List UInt8}{b:UInt8}(h:b=c):att p0 (splitC c (b::r))=p0::att [] (splitC c r):=by
 rw[splitC,if_pos h,att_nil (split_ne c r)]
 simp[att]
theorem att_n{c:UInt8}{p0 r:List UInt8}{b:UInt8}(h:¬b=c):att p0 (splitC c (b::r))=att (p0++[b]) (splitC c r):=by
 cases hs:splitC c r with
 |nil=>exact absurd hs (split_ne c r)
 |cons p ps=>rw[split_cons h hs];simp[att]
theorem it_stop{σ α:Type}{g:σ→α→σ×Bool}{s0:σ}{d:α}{rest:List α}:∀{pre:List α},(iterG g s0 pre).2=true→(g (iterG g s0 pre).1 d).2=false→iterG g s0 (pre++d::rest)=((g (iterG g s0 pre).1 d).1,false):=by
 intro pre
 induction pre generalizing s0 with
 |nil=>
  intro _ h2
  simp only[iterG]at h2⊢
  rw[List.nil_append,iterG,if_neg (by rw[h2];decide)]
 |cons x pre ih=>
  intro h1 h2
  simp only[iterG]at h1 h2
  rw[List.cons_append,iterG]
  by_cases hx:(g s0 x).2=true
  ·rw[if_pos hx]at h1 h2⊢
   rw[ih h1 h2]
   simp only[iterG]
   rw[if_pos hx]
  ·rw[if_neg hx]at h1;cases h1
theorem it_go{σ α:Type}{g:σ→α→σ×Bool}{s0:σ}{d:α}{pre:List α}(h1:(iterG g s0 pre).2=true)(h2:(g (iterG g s0 pre).1 d).2=true):iterG g s0 (pre++[d])=((g (iterG g s0 pre).1 d).1,true):=by
 rw[iterG_snoc,if_pos h1]
 exact Prod.ext rfl h2
theorem lkR{J J':Mem→(Nat→Prop)→World→Prop}(h:J=J'):some (X.res J)=some (X.res J'):=by rw[h]
theorem extIdx:ExtSB Tryz.prog 274 Lib.indexByte:=fun s c w=>by
 rw[run_callFunc_extern Tryz.func274 (by kernel_rfl) (by kernel_rfl) (by kernel_rfl) (e:=Extern.BytealgIndexByte.indexByte) (by kernel_rfl),Lib.run_indexByteString]
 rfl
theorem extCnt:ExtSB Tryz.prog 272 (fun l c=>(Lib.countByte l c:Int)):=fun s c w=>by
 rw[run_callFunc_extern Tryz.func272 (by kernel_rfl) (by kernel_rfl) (by kernel_rfl) (e:=Extern.BytealgCount.count) (by kernel_rfl),Lib.run_countString]
 rfl
theorem sl_IndexByte{l:List UInt8}{c:UInt8}(hl:l.length≤100000):Ct Tryz.prog 223 [.str l,.int .u8 (c.toNat:Int)] (.int .i64 (Lib.indexByte l c)):=by
 refine Ct.intro (rs:=[.tmp 4]) Tryz.func223 rfl Tryz.ntmps223 Tryz.results223 rfl rfl rfl fun w h=>?_
 have hib:=idx_bd l c
 refine kr (kc (zi rfl rfl) (kq (kc (zm rfl) (kc (zm rfl) (kc (S.extSB (n:=Lib.indexByte l c) extIdx .none rfl (zt rfl) (zt rfl) (by rw[u8_back]) (IntWalk.i64_in _ (by omega))) ?_)))))
 refine kc (za rfl) (kD (OK.ret (Ret.r1 (zo rfl rfl) ?_)))
 rfl
theorem sl_Index{l:List UInt8}{c:UInt8}(hl:l.length≤100000):Ct Tryz.prog 169 [.str l,.str [c]] (.int .i64 (Lib.indexByte l c)):=by
 refine Ct.intro (rs:=[.tmp 4]) Tryz.func169 rfl Tryz.ntmps169 Tryz.results169 rfl rfl rfl fun w h=>?_
 refine kr (kc (zi rfl rfl) (kq (kc (zm rfl) (kc (S.slen Tryz.underlying9 .none rfl (zt rfl)) (kc (za rfl) (kD (kO (OK.block (kr (kc (zm rfl) (kc (zE rfl rfl) ?_)))))))))))
 refine kc (zm rfl) (RK.splitD (t:=19) rfl (fun g19=>?_) (fun g19=>?_))
 ·
  exfalso
  simp at g19
 ·
  refine kc (S.move (zg rfl rfl) rfl (zt rfl)) (kc (S.move (zg rfl rfl) rfl (zt rfl)) (kc (S.seql (zg rfl rfl) rfl (zt rfl) (zt rfl)) (kc (S.pickF .none rfl (zt rfl) (zt rfl) rfl) (kc (za rfl) (kD (kB rfl (fun c16=>?_) (fun c16=>?_)))))))
  ·
   have hlc:[c]=l:=by simpa using c16
   refine kr (kc (zi rfl rfl) (kD (OK.ret (Ret.r1 (zo rfl rfl) ?_))))
   refine ret_i ?_
   rw[←hlc,idx_cons,if_pos rfl]
  ·
   refine kr (kc (zm rfl) (kc (zE rfl rfl) (kc (za rfl) (kD (kB rfl (fun c24=>?_) (fun c24=>?_))))))
   ·
    refine kr (kc (zm rfl) (kc (zm rfl) (kc (S.stridx (n:=0) str9 .none rfl (zt rfl) (.cint rfl) rfl (by omega)) (kc (S.call (sl_IndexByte (l:=l) (c:=c) hl) Tryz.call223 .none rfl (zc rfl (zc rfl .nil)) rfl) (kc (za rfl) (kD (OK.ret (Ret.r1 (zo rfl rfl) ?_))))))))
    rfl
   ·
    exact absurd (show((([c]:List UInt8).length:Nat):Int)=1 from rfl) c24
theorem str_Index{l:List UInt8}{c:UInt8}(hl:l.length≤100000):Ct Tryz.prog 221 [.str l,.str [c]] (.int .i64 (Lib.indexByte l c)):=by
 refine Ct.intro (rs:=[.tmp 4]) Tryz.func221 rfl Tryz.ntmps221 Tryz.results221 rfl rfl rfl fun w h=>?_
 refine kr (kc (zi rfl rfl) (kq (kc (zm rfl) (kc (zm rfl) (kc (S.call (sl_Index (by omega)) Tryz.call169 .none rfl (zc rfl (zc rfl .nil)) rfl) (kc (za rfl) (kD (OK.ret (Ret.r1 (zo rfl rfl) ?_)))))))))
 rfl
theorem sl_Cut{l:List UInt8}{c:UInt8}(hl:l.length≤100000):Ct Tryz.prog 110 [.str l,.str [c]] (.tup [.str (cutC c l).1,.str (cutC c l).2.1,.bool (cutC c l).2.2]):=by
 refine Ct.intro (rs:=[.tmp 4,.tmp 5,.tmp 6]) Tryz.func110 rfl Tryz.ntmps110 Tryz.results110 rfl rfl rfl fun w h=>?_
 have hib:=idx_bd l c
 refine kr (kc (S.assign .none rfl (.cstr (l:=[]) rfl (by decide))) (kc (S.assign .none rfl (.cstr (l:=[]) rfl (by decide))) (kc (zb rfl) (kD (kO (kr ?_))))))
 refine kc (zm rfl) (kc (zm rfl) (kc (S.call (sl_Index (by omega)) Tryz.call169 .none rfl (zc rfl (zc rfl .nil)) rfl) (kc (za rfl) (kq (kc (zm rfl) (kc (S.geq .none rfl (zt rfl) (.cint rfl)) (kD (kB rfl (fun c12=>?_) (fun c12=>?_)))))))))
 ·
  have hsp:=split_pos (c:=c) (l:=l) (by omega)
  refine kO ?_
  refine OK.regionDraw follows (.c (zm rfl) (.c (zm rfl) (.c (S.strsl (hi:=(Lib.indexByte l c).toNat) (l':=l.take (Lib.indexByte l c).toNat) str9 .none rfl (zt rfl) (.inl ⟨rfl,rfl,rfl⟩) (.inr ⟨_,_,rfl,(zt rfl),(by omega)⟩) (by omega) (by omega) rfl) (.c (zm rfl) (.c (zm rfl) (.c (zm rfl) (.c (S.slen Tryz.underlying9 .none rfl (zt rfl)) (.c (S.add .none rfl (zt rfl) (zt rfl) (IntWalk.i64_in _ (by simp;omega)) (IntWalk.i64_in _ (by simp;omega))) (.c (S.strsl (lo:=(Lib.indexByte l c).toNat+1) (l':=l.drop ((Lib.indexByte l c).toNat+1)) str9 .none rfl (zt rfl) (.inr ⟨_,_,rfl,(zt rfl),(by simp;omega)⟩) (.inl ⟨rfl,rfl,rfl⟩) (by omega) (by omega) (by rw[List.take_length])) (.c (za rfl) (.c (za rfl) (.c (zb rfl) .nil)))))))))))) (by kernel_rfl) ?_
  refine Ab.D.code (OK.ret (Ret.r3 (zo rfl rfl) (zo rfl rfl) (zo rfl rfl) ?_))
  rw[cut_T (by omega)]
  all_goals rfl
 ·
  refine OK.skip (kp (kc (zm rfl) (kc (za rfl) (kc (S.assign .none rfl (.cstr (l:=[]) rfl (by decide))) (kc (zb rfl) (kD (OK.ret (Ret.r3 (zo rfl rfl) (zo rfl rfl) (zo rfl rfl) ?_))))))))
  rw[cut_F (by omega)]
theorem str_Cut{l:List UInt8}{c:UInt8}(hl:l.length≤100000):Ct Tryz.prog 75 [.str l,.str [c]] (.tup [.str (cutC c l).1,.str (cutC c l).2.1,.bool (cutC c l).2.2]):=by
 refine Ct.intro (rs:=[.tmp 4,.tmp 5,.tmp 6]) Tryz.func75 rfl Tryz.ntmps75 Tryz.results75 rfl rfl rfl fun w h=>?_
 refine kr (kc (S.assign .none rfl (.cstr (l:=[]) rfl (by decide))) (kc (S.assign .none rfl (.cstr (l:=[]) rfl (by decide))) (kc (zb rfl) (kq (kc (zm rfl) (kc (zm rfl) (kc (S.call (sl_Cut (by omega)) Tryz.call110 .none rfl (zc rfl (zc rfl .nil)) rfl) (kc (zX rfl rfl rfl) (kc (zX rfl rfl rfl) (kc (zX rfl rfl rfl) (kc (za rfl) ?_)))))))))))
 refine kc (za rfl) (kc (za rfl) (kD (OK.ret (Ret.r3 (zo rfl rfl) (zo rfl rfl) (zo rfl rfl) ?_))))
 rfl
theorem str_Count{l:List UInt8}{c:UInt8}(hl:l.length≤100000):Ct Tryz.prog 220 [.str l,.str [c]] (.int .i64 (Lib.countByte l c:Int)):=by
 refine Ct.intro (rs:=[.tmp 4]) Tryz.func220 rfl Tryz.ntmps220 Tryz.results220 rfl rfl rfl fun w h=>?_
 have hcn:Lib.countByte l c≤l.length:=List.count_le_length
 refine kr (kc (zi rfl rfl) (kD (kO (kr ?_))))
 refine kc (zm rfl) (kc (S.slen Tryz.underlying9 .none rfl (zt rfl)) (kc (zE rfl rfl) (kD (kB rfl (fun c9=>?_) (fun c9=>?_)))))
 ·
  exfalso
  simp at c9
 ·
  refine OK.skip (Ab.D.code (kO (kr ?_)))
  refine kc (zm rfl) (kc (S.slen Tryz.underlying9 .none rfl (zt rfl)) (kc (zE rfl rfl) (kD (kB rfl (fun c15=>?_) (fun c15=>?_)))))
  ·
   refine kr (kc (zm rfl) (kc (zm rfl) (kc (S.stridx (n:=0) str9 .none rfl (zt rfl) (.cint rfl) rfl (by omega)) (kc (S.extSB (n:=(Lib.countByte l c:Int)) extCnt .none rfl (zt rfl) (zt rfl) (by simp) (IntWalk.i64_in _ (by omega))) ?_))))
   refine kc (za rfl) (kD (OK.ret (Ret.r1 (zo rfl rfl) ?_)))
   rfl
  ·
   exact absurd (show((([c]:List UInt8).length:Nat):Int)=1 from rfl) c15
set_option maxHeartbeats 1000000 in
theorem str_genSplit{l:List UInt8}{c:UInt8}(hl:l.length≤100000):Ct Tryz.prog 160 [.str l,.str [c],.int .i64 0,.int .i64 (-1)] (.sl ((splitC c l).map fun s=>[.str s])):=by
 refine Ct.intro (rs:=[.tmp 8]) Tryz.func160 rfl Tryz.ntmps160 Tryz.results160 rfl rfl rfl fun w h=>?_
 have hcn:Lib.countByte l c≤l.length:=List.count_le_length
 have hsl:=split_len c l
 refine kr (kc (S.assign .none rfl .cnil) (kD (kO (kr ?_))))
 refine kc (zm rfl) (kc (zE rfl rfl) (kD (kB rfl (fun c13=>?_) (fun c13=>?_))))
 ·
  exact absurd c13 (by decide)
 ·
  refine OK.skip (Ab.D.code (kO (kr ?_)))
  refine kc (zm rfl) (kc (S.seql .none rfl (zt rfl) (.cstr (l:=[]) rfl (by decide))) (kD (kB rfl (fun c15=>?_) (fun c15=>?_))))
  ·
   exact absurd c15 (by simp)
  ·
   refine OK.skip (Ab.D.code (kO (kr ?_)))
   refine kc (zm rfl) (kc (S.lss .none rfl (zt rfl) (.cint rfl)) (kD (kB rfl (fun c20=>?_) (fun c20=>?_))))
   ·
    refine OK.reg (kc (zm rfl) (kc (zm rfl) (kc (S.call (str_Count (l:=l) (c:=c) hl) Tryz.call220 .none rfl (zc rfl (zc rfl .nil)) rfl) (kc (zp rfl rfl (by omega)) (kc (za rfl) (kq (kc (zm rfl) (kc (zm rfl) (kc (S.slen Tryz.underlying9 .none rfl (zt rfl)) (kc (zp rfl rfl (by omega)) (kc (S.min2 .none rfl (zt rfl) (zt rfl)) ?_)))))))))))
    refine kc (za rfl) (kq (kc (zm rfl) ?_))
    refine RK.c (S.make (k:=31) (n:=(splitC c l).length) ai103 (⟨⟨Tryz.t9,_,by kernel_rfl,rfl,fun h=>⟨.str _ (by decide),trivial⟩⟩⟩:MkI Tryz.prog 9 [.str []]) .none rfl (zt rfl) (zt rfl) (by omega) (by omega) (by unfold maxLen;omega)) ?_
    refine kc (za rfl) (kq (kc (zm rfl) (kc (S.sub .none rfl (zt rfl) (.cint rfl) (IntWalk.i64_in _ (by omega)) (IntWalk.i64_in _ (by omega))) (kc (za rfl) (kq (kc (zi rfl rfl) (kD (kO (OK.block ?_)))))))))
    refine OK.loop2 [31] (fun(i:Nat)(rest:List UInt8)=>[(0,.str rest),(1,.str [c]),(2,.int .i64 0),(3,.int .i64 (((splitC c l).length:Int) - 1)),(9,.own 31 (splitC c l).length),(2031,.arr 1 (((splitC c l).take i++List.replicate ((splitC c l).length - i) []).map fun s=>[.str s])),(10,.int .i64 i)]) (fun i rest=>i<(splitC c l).length∧(splitC c l).drop i=splitC c rest∧rest.length≤l.length) (fun i rest=>(splitC c l).length - i) (0) (l) ⟨by omega,by rw[List.drop_zero],Nat.le_refl _⟩ ⟨rfl,rfl,rfl,(lkI (by omega)),(lk_own (by omega)),(lk_arr (by first|(simp;done)|(simp;omega))),rfl,trivial⟩ (fun _ _=>rfl) ?_
    rintro i rest ⟨hi,hdr,hrl⟩
    refine OK.seq (kr ?_)
    refine kc (zm rfl) (kc (zm rfl) (kc (S.lss .none rfl (zt rfl) (zt rfl)) (kD (kB rfl (fun c36=>?_) (fun c36=>?_)))))
    ·
     have hrb:rest.length≤100000:=by omega
     have hib:=idx_bd rest c
     refine OK.skip (Ab.D.code (OK.block (kr (kc (zm rfl) (kc (zm rfl) (kc (S.call (str_Index (l:=rest) (c:=c) hrb) Tryz.call221 .none rfl (zc rfl (zc rfl .nil)) rfl) (kc (za rfl) (kD (kO (kr ?_))))))))))
     refine kc (zm rfl) (kc (S.lss .none rfl (zt rfl) (.cint rfl)) (kD (kB rfl (fun c41=>?_) (fun c41=>?_))))
     ·
      exfalso
      rw[split_neg c41]at hdr
      have:=congrArg List.length hdr
      rw[List.length_drop,List.length_singleton]at this
      omega
     ·
      obtain⟨hs1,hs2⟩:=split_pos (c:=c) (l:=rest) (by omega)
      have hdi:=List.drop_eq_getElem_cons hi
      rw[hdr,hs2]at hdi
      obtain⟨hgi,hdr2⟩:(splitC c l)[i]=rest.take (Lib.indexByte rest c).toNat∧(splitC c l).drop (i+1)=splitC c (rest.drop ((Lib.indexByte rest c).toNat+1)):=by
       rw[List.cons.injEq]at hdi;exact⟨hdi.1.symm,hdi.2.symm⟩
      refine OK.skip (kp (kc (zm rfl) (kc (zm rfl) (kc (zm rfl) (kc (zm rfl) (kc (zm rfl) (kc (S.add .none rfl (zt rfl) (zt rfl) (IntWalk.i64_in _ (by omega)) (IntWalk.i64_in _ (by omega))) (kc (S.strsl (hi:=(Lib.indexByte rest c).toNat) (l':=rest.take (Lib.indexByte rest c).toNat) str9 .none rfl (zt rfl) (.inl ⟨rfl,rfl,rfl⟩) (.inr ⟨_,_,rfl,(zt rfl),(by omega)⟩) (by omega) (by omega) rfl) ?_))))))))
      refine kc (S.oindex (i:=i) si103 .none rfl (zt rfl) rfl (by simp;omega) (zt rfl) rfl hi) ?_
      refine RK.c (S.ostore1 (i:=i) ti9 rfl .none (zt rfl) (zt rfl) rfl (by simp;omega) rfl hi rfl rfl (show _=((splitC c l).take (i+1)++List.replicate ((splitC c l).length - (i+1)) []).map (fun s=>[X.str s])from split_set hi hgi)) ?_
      refine kq (kc (zm rfl) (kc (zm rfl) (kc (zm rfl) (kc (S.slen Tryz.underlying9 .none rfl (zt rfl)) ?_))))
      refine kc (S.add .none rfl (zt rfl) (zt rfl) (IntWalk.i64_in _ (by simp;omega)) (IntWalk.i64_in _ (by simp;omega))) ?_
      refine kc (S.strsl (lo:=(Lib.indexByte rest c).toNat+1) (l':=rest.drop ((Lib.indexByte rest c).toNat+1)) str9 .none rfl (zt rfl) (.inr ⟨_,_,rfl,(zt rfl),(by simp;omega)⟩) (.inl ⟨rfl,rfl,rfl⟩) (by omega) (by omega) (by rw[List.take_length])) ?_
      refine kc (za rfl) (RK.nil (Ab.D.code (OK.reg ?_)))
      refine kc (zm rfl) (kc (zp rfl rfl (by omega)) (kc (za rfl) (RK.nil (Ab.D.blk ?_))))
      refine Ab.D.lp ⟨i+1,rest.drop ((Lib.indexByte rest c).toNat+1),⟨by omega,hdr2,by rw[List.length_drop];omega⟩,(by omega),rfl,rfl,rfl,rfl,rfl,rfl,rfl,trivial⟩
    ·
     have hie:i+1=(splitC c l).length:=by omega
     have hdi:=List.drop_eq_getElem_cons hi
     have hd0:(splitC c l).drop (i+1)=[]:=List.drop_of_length_le (by omega)
     rw[hd0,hdr]at hdi
     have hone:splitC c rest=[rest]:=by
      by_cases hx:Lib.indexByte rest c<0
      ·exact split_neg hx
      ·exfalso;rw[(split_pos hx).2]at hdi;exact split_ne _ _ (List.cons.inj hdi).2
     rw[hone,List.cons.injEq]at hdi
     have hgi:(splitC c l)[i]=rest:=hdi.1.symm
     refine OK.exit rfl (kp (kc (zm rfl) (kc (zm rfl) (kc (zm rfl) ?_))))
     refine kc (S.oindex (i:=i) si103 .none rfl (zt rfl) rfl (by simp;omega) (zt rfl) rfl hi) ?_
     refine RK.c (S.ostore1 (i:=i) ti9 rfl .none (zt rfl) (zt rfl) rfl (by simp;omega) rfl hi rfl rfl (show _=(splitC c l).map (fun s=>[X.str s])by rw[split_set hi hgi,hie,List.take_length,Nat.sub_self,List.replicate_zero,List.append_nil])) ?_
     refine kD (kO (OK.freeze 9 rfl rfl rfl (by simp) ?_))
     refine OK.reg (kc (zm rfl) (kc (zm rfl) (kc (zp rfl rfl (by omega)) (kc (S.slice (hi:=i+1) (l':=splitC c l) si103 (fun _=>rfl) .none rfl (zt rfl) (.inl ⟨rfl,rfl,rfl⟩) (.inr ⟨_,_,rfl,(zt rfl),(by omega)⟩) (by omega) (by omega) (by rw[hie,List.take_length,List.drop_zero])) ?_))))
     refine kc (za rfl) (kD (OK.ret (Ret.r1 (zo rfl rfl) ?_)))
     rfl
   ·
    exact absurd (by decide) c20
theorem str_Split{l:List UInt8}{c:UInt8}(hl:l.length≤100000):Ct Tryz.prog 103 [.str l,.str [c]] (.sl ((splitC c l).map fun s=>[.str s])):=by
 refine Ct.intro (rs:=[.tmp 4]) Tryz.func103 rfl Tryz.ntmps103 Tryz.results103 rfl rfl rfl fun w h=>?_
 refine kr (kc (S.assign .none rfl .cnil) (kq (kc (zm rfl) (kc (zm rfl) (kc (S.call (str_genSplit (by omega)) Tryz.call160 .none rfl (zc rfl (zc rfl (.cons (.cint rfl) (.cons (.cint rfl) .nil)))) rfl) (kc (za rfl) (kD (OK.ret (Ret.r1 (zo rfl rfl) ?_)))))))))
 rfl
end Go.Proofs.YtpbalelbenmmbaaGreatDoor
