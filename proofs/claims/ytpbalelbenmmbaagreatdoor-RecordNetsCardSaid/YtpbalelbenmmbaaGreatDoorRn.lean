import Derived.Test.YtpbalelbenmmbaaGreatDoorHz
import Derived.Test.YtpbalelbenmmbaaGreatDoorGh
import Derived.Test.YtpbalelbenmmbaaGreatDoorHj
import Derived.Test.YtpbalelbenmmbaaGreatDoorLb
import Derived.Test.YtpbalelbenmmbaaGreatDoorRe
import Derived.Test.YtpbalelbenmmbaaGreatDoorRm
import Derived.Test.YtpbalelbenmmbaaGreatDoorTy
namespace Go.Proofs.YtpbalelbenmmbaaGreatDoor
open Go.Ab
theorem cut_le{c:UInt8}{l:List UInt8}:(cutC c l).1.length≤l.length∧(cutC c l).2.1.length≤l.length:=by
 by_cases h:0≤Lib.indexByte l c
 ·rw[cut_T h]
  simp only[List.length_take,List.length_drop]
  omega
 ·rw[cut_F h]
  simp
theorem prod_eta{α β:Type}(p:α×β):p=(p.1,p.2):=rfl
def House.recs(H:House):List Record:=H.models.map fun i=>recOf H.plan (H.p i).frames
def learnT(H:House)(n:Int):HE:=if envErr H.plan H.recs n=0 then({H with env:=envOf H.plan H.recs n,learned:=true},0)else(H,envErr H.plan H.recs n)
abbrev itM(b:Nat)(l:List UInt8)(p:Nat):HM Unit:=fun _=>some (b,.iter l p)
theorem itM_set(M:HM Unit)(b:Nat)(l:List UInt8)(p:Nat):M.set () (some (b,.iter l p))=itM b l p:=funext fun _=>if_pos rfl
theorem lkM{K:Type}{M M':HM K}(h:M=M'):some (X.res (HeapJ M))=some (X.res (HeapJ M')):=by rw[h]
theorem it_cases(l:List UInt8)(p:Nat):(∃hp:p<l.length,l[p].toNat<128)∨(∃hp:p<l.length,128≤l[p].toNat)∨l.length≤p:=by
 by_cases hp:p<l.length
 ·by_cases h:l[p].toNat<128
  ·exact .inl ⟨hp,h⟩
  ·exact .inr (.inl ⟨hp,by omega⟩)
 ·exact .inr (.inr (by omega))
def isPrint(b:UInt8):Bool:=decide (32≤(b.toNat:Int)∧(b.toNat:Int)≤126)
theorem u8_lit{b c:UInt8}(h:((b.toNat:Nat):Int)=(c.toNat:Int)):b=c:=UInt8.toNat_inj.1 (by omega)
theorem pg_cons{ks:List UInt8}{p:Nat}(hp:p<ks.length)(rest:List UInt8)(more:Bool)(w:Words):parseGo (ks.drop p) rest more w=parseGo (ks[p]::ks.drop (p+1)) rest more w:=by rw[List.drop_eq_getElem_cons hp]
theorem odd_all:∀(l:List UInt8),decide (0≤idxGo (fun b=>!isPrint b) 0 l)=!(l.all isPrint):=by
 have key:∀(l:List UInt8)(k:Nat),decide (0≤idxGo (fun b=>!isPrint b) k l)=!(l.all isPrint):=by
  intro l
  induction l with
  |nil=>intro k;rfl
  |cons x l ih=>
   intro k
   rw[idxGo,List.all_cons]
   cases h:isPrint x with
   |true=>simpa[h]using ih (k+1)
   |false=>simp
 exact fun l=>key l 0
def fnOf(k:Nat):Nat:=[111,112,113,114,115,116,117,118,119,120,121,122,123].getD k 0
def cmdX(o:Option Nat):List X:=match o with
 |some k=>[.int .i64 (roles.getD k 0),.str (kinds.getD k []),.fn (fnOf k) []]
 |none=>[.int .i64 0,.str [],.raw .nilFunc]
def recsTo(A:HA)(k:Nat):List Record:=(A.models.take k).map fun i=>recOf A.plan (A.plain.p i).frames
theorem recsTo_len(A:HA)(k:Nat)(h:k≤A.models.length):(recsTo A k).length=k:=by unfold recsTo;rw[List.length_map,List.length_take];omega
theorem recsTo_succ{A:HA}{k:Nat}(h:k<A.models.length){v:PartA}(hv:A.parts[A.models[k]]?=some v):recsTo A (k+1)=recsTo A k++[recOf A.plan v.p.frames]:=by
 unfold recsTo
 rw[List.take_succ_eq_append_getElem h,List.map_append,List.map_singleton,HA.p_at hv]
theorem recsTo_all(A:HA):recsTo A A.models.length=A.plain.recs:=by unfold recsTo;rw[List.take_length];rfl
theorem OK.resNil{E:Env}{U:List Nat}{s:St}{code:Code}{Q:Exit→List Nat→St→Prop}(K:Type)(h:OK E code Q U ((3000,.res (HeapJ (fun _:K=>none)))::s)):OK E code Q U s:=fun a w hg=>by
 obtain⟨c,hb,hh⟩:=hg
 refine h a w ⟨c,hb,fun key x hx=>?_⟩
 simp only[Ab.look]at hx
 split at hx
 ·rename_i e
  have:=Nat.eq_of_beq_eq_true e
  cases hx
  subst this
  exact Holds.mkRes (HeapJ.stable _) HeapJ.nil
 ·exact hh key x hx
theorem lkBo2{a b c d:Nat}{k1 k2:Nat}(h:a=b)(h2:c=d):some (X.box [X.own k1 a,X.own k2 c])=some (X.box [X.own k1 b,X.own k2 d]):=by rw[h,h2]
set_option maxHeartbeats 1000000 in
theorem rec_learn{A:HA}{m:Int}(hok:A.Ok m)(hm:m+2≤1000){n:Int}:CtG Tryz.prog 123 [] [.raw (pV A.b),.agg (Words.mk [n] []).cs] [(3000,.res (HeapJ A.mem))] [(3000,.res (JX A.b (learnT A.plain n).1 (m+2)))] (.int .i64 (learnT A.plain n).2):=by
 refine CtG.intro (rs:=[.tmp 4]) Tryz.func123 rfl Tryz.ntmps123 Tryz.results123 rfl rfl rfl rfl fun w h=>?_
 have hlm:=hok.lm
 have hm0:=hok.m0
 refine kr (RK.c (zB (c:=3) rfl rfl) (kc (zi rfl rfl) (kq (RK.c (S.nilOwn (k:=5) (sz:=1) .none rfl) (kD (kO (kr ?_)))))))
 refine kc (zm rfl) (kc (zn rfl rfl) (kc (zr fi130_4 rfl) (kc (S.rload1 (u:=.sl (A.models.map fun i=>[X.raw (pV (A.pb i))])) ti128 .none rfl (zt rfl) rfl (HeapJ.ld1 (k:=.house) rfl rfl (.sl hok.ms))) ?_)))
 refine kc (zk si128 rfl) (kc (S.move .none rfl (.cint rfl)) (kD (OK.block ?_)))
 refine OK.loop (G:=Nat) [3,5] (fun k=>[(0,.raw (pV A.b)),(3,.ptr 3 0),(1003,.box (Words.mk [n] []).cs),(5,.own 5 k),(2005,.arr 1 ((recsTo A k).map Record.cs)),(13,.sl (A.models.map fun i=>[X.raw (pV (A.pb i))])),(14,.int .i64 A.models.length),(15,.int .i64 k),(3000,.res (HeapJ A.mem))]) (fun k=>k≤A.models.length) (fun k=>A.models.length - k) 0 (Nat.zero_le _) ⟨rfl,rfl,rfl,(lk_own (by first|rfl|(simp;done)|(simp;omega))),(lk_arr (by first|rfl|(simp;done)|(simp;omega))),rfl,rfl,rfl,rfl,trivial⟩ (fun _=>rfl) ?_
 rintro k hi
 refine kr (kc (S.lss .none rfl (zt rfl) (zt rfl)) (kD (kO (kB rfl (fun c16=>?_) (fun c16=>?_)))))
 ·
  have hil:k<A.models.length:=by omega
  have hmk:=hok.mi _ (List.getElem_mem hil)
  obtain⟨v,hv⟩:=at_of_lt hmk
  have hrl:=recsTo_len A k hi
  refine OK.skip (Ab.D.code (kO (OK.block (kr (kc (S.indexM (n:=k) si128 .none rfl (zt rfl) (zt rfl) rfl (by omega) rfl) (kc (zV ti119 rfl rfl) (kc (za rfl) (kD ?_))))))))
  rw[HA.pb? hv]
  refine OK.reg (kc (zm rfl) (kc (zm rfl) (kc (zm rfl) (kc (S.callR ((fun J hS hJ=>(rec_record hok hv hS hJ).atJ hS)) Tryz.call177 .none rfl (zc rfl (zc rfl .nil)) rfl rfl) ?_))))
  refine RK.c (S.mkSlice (k:=23) (rows:=[[_]]) ai226 .none rfl (zc rfl .nil) rfl rfl rfl rfl rfl rfl rfl) ?_
  refine RK.c (S.append ai226 .none rfl (zt rfl) rfl (by rw[List.length_map];exact hrl) (zt rfl) rfl (by first|rfl|(simp;done)|(simp;omega)) (by omega) (by simp only[maxLen];omega)) ?_
  refine kc (za rfl) (RK.nil (Ab.D.blk (Ab.D.code (OK.reg ?_))))
  refine kc (zp rfl rfl (by omega)) (kc (zm rfl) (RK.nil ?_))
  refine Ab.D.lp ⟨k+1,(by omega),(by omega),rfl,rfl,rfl,(lk_own (by omega)),(lk_arr (by rw[recsTo_succ hil hv,List.map_append];rfl)),rfl,rfl,rfl,rfl,trivial⟩
 ·
  refine OK.exit rfl (Ab.D.code (kO ?_))
  have hke:k=A.models.length:=by omega
  rw[hke,recsTo_all]
  have hrl:A.plain.recs.length=A.models.length:=by unfold House.recs;rw[List.length_map];rfl
  refine OK.freeze 5 rfl rfl rfl (by rw[List.length_map,hrl]) ?_
  refine OK.regionDraw follows (.c (zm rfl) (.c (zn rfl rfl) (.c (zr fi130_0 rfl) (.c (zr fi107_1 rfl) (.c (S.rloadN (us:=A.plan.cs) ti105 .none rfl (zt rfl) rfl (HeapJ.ldN (k:=.house) (xs:=A.cs) rfl ⟨.same _,.same _,trivial⟩ rfl)) (.c (zm rfl) (.c (zf fi170_0 rfl) (.c (zl ti47 rfl rfl rfl rfl) (.c (S.indexM (n:=0) si47 .none rfl (zt rfl) (.cint rfl) rfl (by exact Nat.succ_pos _) rfl) (.c (zV ti3 rfl rfl) (.c (S.call (mon_EnvelopeOf (l:=A.plain.recs)) Tryz.call191 .none rfl (zc rfl (zc rfl (zc rfl .nil))) rfl) (.c (zm rfl) (.c (zX rfl rfl rfl) (.c (zX rfl rfl rfl) (.c (zA (c:=8) ze50 rfl) (.c (zS ti50 rfl rfl rfl rfl rfl rfl) (.c (za rfl) .nil))))))))))))))))) (by kernel_rfl) ?_
  refine Ab.D.code (kO (kr ?_))
  refine kc (zm rfl) (kc (zE rfl rfl) (kD (kB rfl (fun c41=>?_) (fun c41=>?_))))
  ·
   have hT:learnT A.plain n=({A.plain with env:=envOf A.plan A.plain.recs n,learned:=true},0):=by unfold learnT;rw[if_pos (show envErr A.plain.plan A.plain.recs n=0 from c41)];rfl
   refine OK.reg (kc (zm rfl) (kc (zm rfl) (kc (zL ti50 rfl rfl rfl rfl) (kc (zn rfl rfl) (kc (zr fi130_5 rfl) (kc (S.hstore (xs':=({A with env:=envOf A.plan A.plain.recs n}:HA).cs) (.house) ti50 .none (zt rfl) (zt rfl) rfl rfl rfl rfl rfl rfl rfl) (kc (zn rfl rfl) (kc (zr fi130_6 rfl) (kc (S.hstore (xs':=({A with env:=envOf A.plan A.plain.recs n,learned:=true}:HA).cs) (.house) ti4 .none (zt rfl) .cbool rfl (HM.set_same _ _ _) rfl rfl rfl rfl rfl) (kD (kO ?_)))))))))))
   rw[HM.set_set]
   refine OK.house1 (A1:={A with env:=envOf A.plan A.plain.recs n,learned:=true}) hok rfl rfl ⟨rfl,rfl⟩ ⟨rfl,rfl⟩ ⟨rfl,rfl⟩ ⟨rfl,rfl⟩ hok.en fun hok1=>?_
   refine OK.reg (kc (zm rfl) (kc (za rfl) (kD ?_)))
   refine OK.resTo (J':=JX A.b (learnT A.plain n).1 (m+2)) rfl (JX.stable _ _ _) (fun h Y w hj=>jx_of hok1 (by omega) hm rfl (by rw[hT];rfl) hj) ?_
   refine OK.ret ⟨Ret.r1 (zo rfl rfl) ?_,rfl,trivial⟩
   rw[hT,c41]
  ·
   have hT:learnT A.plain n=(A.plain,envErr A.plan A.plain.recs n):=by unfold learnT;rw[if_neg (show¬envErr A.plain.plan A.plain.recs n=0 from c41)];rfl
   refine OK.skip (kp (kc (zm rfl) (kc (za rfl) (kD (OK.resTo (J':=JX A.b (learnT A.plain n).1 (m+2)) rfl (JX.stable _ _ _) (fun h Y w hj=>HA.jx hok (by omega) hm (by rw[hT]) hj) ?_)))))
   refine OK.ret ⟨Ret.r1 (zo rfl rfl) ?_,rfl,trivial⟩
   rw[hT]
   rfl
set_option maxRecDepth 4000 in
theorem rec_commandOf{t:List UInt8}:Ct Tryz.prog 76 [.str t] (.tup [.agg (cmdX (verbIx t)),.bool (verbIx t).isSome]):=by
 refine Ct.intro (rs:=[.cell 2 165,.tmp 3]) Tryz.func76 rfl Tryz.ntmps76 Tryz.results76 rfl rfl rfl fun w h=>?_
 refine kr (RK.c (zA (c:=2) ze165 rfl) (kc (zb rfl) (kD (kO (kr ?_)))))
 refine kc (zm rfl) (kD (OK.block (kr (kc (S.seql .none rfl (zt rfl) (.cstr (l:=[110,111,116,101]) rfl (by decide))) (kc (za rfl) (kD (kB rfl (fun c5=>?_) (fun c5=>?_))))))))
 ·
  refine kr (kc (S.build bu165 rfl .none rfl (.cons (.cint rfl) (.cons (.cstr (l:=[114]) rfl (by decide)) (.cons .cfn .nil))) rfl rfl) (kc (zS ti165 rfl rfl rfl rfl rfl rfl) (kc (zb rfl) (kD (OK.ret (Ret.r2 (.cellN rfl rfl rfl rfl ti165 rfl (.k (.same rfl) (.k (.same rfl) (.k (.same rfl) .z)))) (zo rfl rfl) ?_))))))
  subst c5
  rfl
 ·
  refine kr (kc (S.seql .none rfl (zt rfl) (.cstr (l:=[115,116,97,114,116]) rfl (by decide))) (kc (za rfl) (kD (kB rfl (fun c8=>?_) (fun c8=>?_)))))
  ·
   refine kr (kc (S.build bu165 rfl .none rfl (.cons (.cint rfl) (.cons (.cstr (l:=[110,119,119]) rfl (by decide)) (.cons .cfn .nil))) rfl rfl) (kc (zS ti165 rfl rfl rfl rfl rfl rfl) (kc (zb rfl) (kD (OK.ret (Ret.r2 (.cellN rfl rfl rfl rfl ti165 rfl (.k (.same rfl) (.k (.same rfl) (.k (.same rfl) .z)))) (zo rfl rfl) ?_))))))
   subst c8
   rfl
  ·
   refine kr (kc (S.seql .none rfl (zt rfl) (.cstr (l:=[102,114,97,109,101]) rfl (by decide))) (kc (za rfl) (kD (kB rfl (fun c11=>?_) (fun c11=>?_)))))
   ·
    refine kr (kc (S.build bu165 rfl .none rfl (.cons (.cint rfl) (.cons (.cstr (l:=[114]) rfl (by decide)) (.cons .cfn .nil))) rfl rfl) (kc (zS ti165 rfl rfl rfl rfl rfl rfl) (kc (zb rfl) (kD (OK.ret (Ret.r2 (.cellN rfl rfl rfl rfl ti165 rfl (.k (.same rfl) (.k (.same rfl) (.k (.same rfl) .z)))) (zo rfl rfl) ?_))))))
    subst c11
    rfl
   ·
    refine kr (kc (S.seql .none rfl (zt rfl) (.cstr (l:=[101,110,100]) rfl (by decide))) (kc (za rfl) (kD (kB rfl (fun c14=>?_) (fun c14=>?_)))))
    ·
     refine kr (kc (S.build bu165 rfl .none rfl (.cons (.cint rfl) (.cons (.cstr (l:=[]) rfl (by decide)) (.cons .cfn .nil))) rfl rfl) (kc (zS ti165 rfl rfl rfl rfl rfl rfl) (kc (zb rfl) (kD (OK.ret (Ret.r2 (.cellN rfl rfl rfl rfl ti165 rfl (.k (.same rfl) (.k (.same rfl) (.k (.same rfl) .z)))) (zo rfl rfl) ?_))))))
     subst c14
     rfl
    ·
     refine kr (kc (S.seql .none rfl (zt rfl) (.cstr (l:=[103,111,111,100]) rfl (by decide))) (kc (za rfl) (kD (kB rfl (fun c17=>?_) (fun c17=>?_)))))
     ·
      refine kr (kc (S.build bu165 rfl .none rfl (.cons (.cint rfl) (.cons (.cstr (l:=[110]) rfl (by decide)) (.cons .cfn .nil))) rfl rfl) (kc (zS ti165 rfl rfl rfl rfl rfl rfl) (kc (zb rfl) (kD (OK.ret (Ret.r2 (.cellN rfl rfl rfl rfl ti165 rfl (.k (.same rfl) (.k (.same rfl) (.k (.same rfl) .z)))) (zo rfl rfl) ?_))))))
      subst c17
      rfl
     ·
      refine kr (kc (S.seql .none rfl (zt rfl) (.cstr (l:=[98,97,100]) rfl (by decide))) (kc (za rfl) (kD (kB rfl (fun c20=>?_) (fun c20=>?_)))))
      ·
       refine kr (kc (S.build bu165 rfl .none rfl (.cons (.cint rfl) (.cons (.cstr (l:=[110]) rfl (by decide)) (.cons .cfn .nil))) rfl rfl) (kc (zS ti165 rfl rfl rfl rfl rfl rfl) (kc (zb rfl) (kD (OK.ret (Ret.r2 (.cellN rfl rfl rfl rfl ti165 rfl (.k (.same rfl) (.k (.same rfl) (.k (.same rfl) .z)))) (zo rfl rfl) ?_))))))
       subst c20
       rfl
      ·
       refine kr (kc (S.seql .none rfl (zt rfl) (.cstr (l:=[99,111,105,108]) rfl (by decide))) (kc (za rfl) (kD (kB rfl (fun c23=>?_) (fun c23=>?_)))))
       ·
        refine kr (kc (S.build bu165 rfl .none rfl (.cons (.cint rfl) (.cons (.cstr (l:=[119,110]) rfl (by decide)) (.cons .cfn .nil))) rfl rfl) (kc (zS ti165 rfl rfl rfl rfl rfl rfl) (kc (zb rfl) (kD (OK.ret (Ret.r2 (.cellN rfl rfl rfl rfl ti165 rfl (.k (.same rfl) (.k (.same rfl) (.k (.same rfl) .z)))) (zo rfl rfl) ?_))))))
        subst c23
        rfl
       ·
        refine kr (kc (S.seql .none rfl (zt rfl) (.cstr (l:=[114,101,112,97,105,114]) rfl (by decide))) (kc (za rfl) (kD (kB rfl (fun c26=>?_) (fun c26=>?_)))))
        ·
         refine kr (kc (S.build bu165 rfl .none rfl (.cons (.cint rfl) (.cons (.cstr (l:=[119]) rfl (by decide)) (.cons .cfn .nil))) rfl rfl) (kc (zS ti165 rfl rfl rfl rfl rfl rfl) (kc (zb rfl) (kD (OK.ret (Ret.r2 (.cellN rfl rfl rfl rfl ti165 rfl (.k (.same rfl) (.k (.same rfl) (.k (.same rfl) .z)))) (zo rfl rfl) ?_))))))
         subst c26
         rfl
        ·
         refine kr (kc (S.seql .none rfl (zt rfl) (.cstr (l:=[109,97,114,107]) rfl (by decide))) (kc (za rfl) (kD (kB rfl (fun c29=>?_) (fun c29=>?_)))))
         ·
          refine kr (kc (S.build bu165 rfl .none rfl (.cons (.cint rfl) (.cons (.cstr (l:=[110]) rfl (by decide)) (.cons .cfn .nil))) rfl rfl) (kc (zS ti165 rfl rfl rfl rfl rfl rfl) (kc (zb rfl) (kD (OK.ret (Ret.r2 (.cellN rfl rfl rfl rfl ti165 rfl (.k (.same rfl) (.k (.same rfl) (.k (.same rfl) .z)))) (zo rfl rfl) ?_))))))
          subst c29
          rfl
         ·
          refine kr (kc (S.seql .none rfl (zt rfl) (.cstr (l:=[115,101,99,116,105,111,110]) rfl (by decide))) (kc (za rfl) (kD (kB rfl (fun c32=>?_) (fun c32=>?_)))))
          ·
           refine kr (kc (S.build bu165 rfl .none rfl (.cons (.cint rfl) (.cons (.cstr (l:=[110,114]) rfl (by decide)) (.cons .cfn .nil))) rfl rfl) (kc (zS ti165 rfl rfl rfl rfl rfl rfl) (kc (zb rfl) (kD (OK.ret (Ret.r2 (.cellN rfl rfl rfl rfl ti165 rfl (.k (.same rfl) (.k (.same rfl) (.k (.same rfl) .z)))) (zo rfl rfl) ?_))))))
           subst c32
           rfl
          ·
           refine kr (kc (S.seql .none rfl (zt rfl) (.cstr (l:=[114,101,99,105,112,101]) rfl (by decide))) (kc (za rfl) (kD (kB rfl (fun c35=>?_) (fun c35=>?_)))))
           ·
            refine kr (kc (S.build bu165 rfl .none rfl (.cons (.cint rfl) (.cons (.cstr (l:=[119,114]) rfl (by decide)) (.cons .cfn .nil))) rfl rfl) (kc (zS ti165 rfl rfl rfl rfl rfl rfl) (kc (zb rfl) (kD (OK.ret (Ret.r2 (.cellN rfl rfl rfl rfl ti165 rfl (.k (.same rfl) (.k (.same rfl) (.k (.same rfl) .z)))) (zo rfl rfl) ?_))))))
            subst c35
            rfl
           ·
            refine kr (kc (S.seql .none rfl (zt rfl) (.cstr (l:=[109,111,100,101,108]) rfl (by decide))) (kc (za rfl) (kD (kB rfl (fun c38=>?_) (fun c38=>?_)))))
            ·
             refine kr (kc (S.build bu165 rfl .none rfl (.cons (.cint rfl) (.cons (.cstr (l:=[110]) rfl (by decide)) (.cons .cfn .nil))) rfl rfl) (kc (zS ti165 rfl rfl rfl rfl rfl rfl) (kc (zb rfl) (kD (OK.ret (Ret.r2 (.cellN rfl rfl rfl rfl ti165 rfl (.k (.same rfl) (.k (.same rfl) (.k (.same rfl) .z)))) (zo rfl rfl) ?_))))))
             subst c38
             rfl
            ·
             refine kr (kc (S.seql .none rfl (zt rfl) (.cstr (l:=[108,101,97,114,110]) rfl (by decide))) (kc (za rfl) (kD (kB rfl (fun c41=>?_) (fun c41=>?_)))))
             ·
              refine kr (kc (S.build bu165 rfl .none rfl (.cons (.cint rfl) (.cons (.cstr (l:=[110]) rfl (by decide)) (.cons .cfn .nil))) rfl rfl) (kc (zS ti165 rfl rfl rfl rfl rfl rfl) (kc (zb rfl) (kD (OK.ret (Ret.r2 (.cellN rfl rfl rfl rfl ti165 rfl (.k (.same rfl) (.k (.same rfl) (.k (.same rfl) .z)))) (zo rfl rfl) ?_))))))
              subst c41
              rfl
             ·
              refine OK.skip (Ab.D.blk (kp (kc (S.build bu165 rfl .none rfl .nil rfl rfl) (kc (zS ti165 rfl rfl rfl rfl rfl rfl) (kc (zb rfl) (kD (OK.ret (Ret.r2 (.cellN rfl rfl rfl rfl ti165 rfl (.k (.same rfl) (.k (.same rfl) (.k (.same rfl) .z)))) (zo rfl rfl) ?_))))))))
              rw[show verbIx t=none by simp[verbIx,ix,ixGo,verbs,c5,c8,c11,c14,c17,c20,c23,c26,c29,c32,c35,c38,c41]]
              rfl
theorem rec_cmdN{w:List UInt8}(h:verbIx w=none):Ct Tryz.prog 76 [.str w] (.tup [.agg [.int .i64 0,.str [],.raw .nilFunc],.bool false]):=by have:=rec_commandOf (t:=w);rw[h]at this;exact this
theorem rec_cmdS{w:List UInt8}{k:Nat}(h:verbIx w=some k):Ct Tryz.prog 76 [.str w] (.tup [.agg [.int .i64 (roles.getD k 0),.str (kinds.getD k []),.fn (fnOf k) []],.bool true]):=by have:=rec_commandOf (t:=w);rw[h]at this;exact this
theorem rec_natural{l:List UInt8}(hl:l.length≤100000):CtT Tryz.prog 95 [.str l] (.tup [.int .i64 (atoiV l),.bool (numOk l 7)]):=by
 refine CtT.intro (rs:=[.tmp 2,.tmp 3]) Tryz.func95 rfl Tryz.ntmps95 Tryz.results95 rfl rfl rfl fun w h hT=>?_
 refine kr (kc (zi rfl rfl) (kc (zb rfl) (kq (kc (zm rfl) (kc (S.callT (atoi_ct hl) hT Tryz.call155 .none rfl (zc rfl .nil) rfl) (kc (zm rfl) (kc (zX rfl rfl rfl) (kc (zX rfl rfl rfl) (kc (za rfl) (kc (za rfl) (kq ?_)))))))))))
 refine kc (zm rfl) (kc (zm rfl) (kc (S.eqerr Tryz.underlying244 .none rfl (zt rfl)) (kc (zm rfl) (RK.split (t:=14) rfl (fun g14=>?_) (fun g14=>?_)))))
 ·
  refine kc (S.move (zg rfl rfl) rfl (zt rfl)) (kc (S.geq (zg rfl rfl) rfl (zt rfl) (.cint rfl)) (kc (S.pickT .none rfl (zt rfl) (zt rfl) rfl) (kc (zm rfl) (RK.splitD (t:=18) rfl (fun g18=>?_) (fun g18=>?_)))))
  ·
   refine kc (S.move (zg rfl rfl) rfl (zt rfl)) (kc (S.callT (itoa_ct (atoi_rng l)) hT Tryz.call142 (zg rfl rfl) rfl (zc rfl .nil) rfl) (kc (S.move (zg rfl rfl) rfl (zt rfl)) (kc (S.seql (zg rfl rfl) rfl (zt rfl) (zt rfl)) (kc (S.pickT .none rfl (zt rfl) (zt rfl) rfl) (kc (zm rfl) (RK.splitD (t:=24) rfl (fun g24=>?_) (fun g24=>?_)))))))
   ·
    refine kc (S.move (zg rfl rfl) rfl (zt rfl)) (kc (S.slen Tryz.underlying9 (zg rfl rfl) rfl (zt rfl)) (kc (S.leq (zg rfl rfl) rfl (zt rfl) (.cint rfl)) (kc (S.pickT .none rfl (zt rfl) (zt rfl) rfl) (kc (za rfl) (kc (za rfl) (kD (OK.ret (Ret.r2 (zo rfl rfl) (zo rfl rfl) ?_))))))))
    rw[show numOk l 7=decide (l.length≤7)by unfold numOk;rw[g14,decide_eq_true (show 0≤atoiV l by omega),decide_eq_true g24];rfl]
    exact congrArg (fun b=>X.tup [X.int .i64 (atoiV l),X.bool b]) (decide_eq_decide.2 (by omega))
   ·
    refine kc (zQ rfl rfl) (kc (zQ rfl rfl) (kc (zQ rfl rfl) (kc (S.pickF .none rfl (zt rfl) .cbool rfl) (kc (za rfl) (kc (za rfl) (kD (OK.ret (Ret.r2 (zo rfl rfl) (zo rfl rfl) ?_))))))))
    rw[show numOk l 7=false by unfold numOk;rw[g14,decide_eq_true (show 0≤atoiV l by omega),decide_eq_false g24];rfl]
  ·
   refine kc (zQ rfl rfl) (kc (zQ rfl rfl) (kc (zQ rfl rfl) (kc (zQ rfl rfl) (kc (S.pickF .none rfl (zt rfl) .cbool rfl) (kc (zm rfl) (kc (zQ rfl rfl) (kc (zQ rfl rfl) (kc (zQ rfl rfl) (kc (S.pickF .none rfl (zt rfl) .cbool rfl) (kc (za rfl) (kc (za rfl) ?_)))))))))))
   refine kD (OK.ret (Ret.r2 (zo rfl rfl) (zo rfl rfl) ?_))
   rw[show numOk l 7=false by unfold numOk;rw[g14,decide_eq_false (show¬0≤atoiV l by omega)];rfl]
 ·
  refine kc (zQ rfl rfl) (kc (zQ rfl rfl) (kc (S.pickF .none rfl (zt rfl) .cbool rfl) (kc (zm rfl) (kc (zQ rfl rfl) (kc (zQ rfl rfl) (kc (zQ rfl rfl) (kc (zQ rfl rfl) (kc (S.pickF .none rfl (zt rfl) .cbool rfl) (kc (zm rfl) (kc (zQ rfl rfl) (kc (zQ rfl rfl) ?_)))))))))))
  refine kc (zQ rfl rfl) (kc (S.pickF .none rfl (zt rfl) .cbool rfl) (kc (za rfl) (kc (za rfl) (kD (OK.ret (Ret.r2 (zo rfl rfl) (zo rfl rfl) ?_))))))
  rw[show numOk l 7=false by unfold numOk;rw[g14];rfl]
theorem rec_odd{c:Int}(hc:0≤c∧c<2147483648):Ct Tryz.prog 74 [.int .i32 c] (.bool (!decide (32≤c∧c≤126))):=by
 refine Ct.intro (rs:=[.tmp 2]) Tryz.func74 rfl Tryz.ntmps74 Tryz.results74 rfl rfl rfl fun w h=>?_
 refine kr (kc (zb rfl) (kq (kc (zm rfl) (kc (S.conv .none rfl (zt rfl) Tryz.underlying21 Tryz.underlying3 (IntWalk.i64_in _ (by omega)) (IntWalk.i64_in _ (by omega))) (kc (S.call (rec_within) Tryz.call55 .none rfl (zc rfl (.cons (.cint rfl) (.cons (.cint rfl) .nil))) rfl) (kc (S.notD .none rfl (zt rfl)) (kc (za rfl) (kD (OK.ret (Ret.r1 (zo rfl rfl) ?_))))))))))
 exact ret_b decide_not
set_option maxHeartbeats 1000000 in
theorem rec_indexFunc{l:List UInt8}(hl:l.length≤100000):Ct Tryz.prog 192 [.str l,.fn 74 [],.bool true] (.int .i64 (idxGo (fun b=>!isPrint b) 0 l)):=by
 refine Ct.intro (rs:=[.tmp 6]) Tryz.func192 rfl Tryz.ntmps192 Tryz.results192 rfl rfl rfl fun w h=>?_
 refine OK.resNil Unit (kr (kc (zi rfl rfl) (kD (kO (kr ?_)))))
 refine kc (zm rfl) (RK.xs (S.srange () Tryz.underlying9 rfl (zt rfl) rfl) (fun q=>?_))
 refine kD (OK.block (OK.loop (G:=Nat) [] (fun p=>[(1,.fn 74 []),(2,.bool true),(10,.raw (pV q)),(3000,.res (HeapJ (itM q l p)))]) (fun p=>p≤l.length∧idxGo (fun b=>!isPrint b) 0 l=idxGo (fun b=>!isPrint b) p (l.drop p)) (fun p=>l.length - p) 0 ⟨Nat.zero_le _,rfl⟩ ⟨rfl,rfl,rfl,(lkM (itM_set _ _ _ _)),trivial⟩ (fun _=>rfl) ?_))
 rintro p ⟨hi,hg⟩
 refine kO ?_
 rcases it_cases l p with⟨hp,hlo⟩|⟨hp,hhi⟩|hp
 ·
  refine OK.reg ?_
  refine RK.xs (S.snextT () rfl (zt rfl) rfl rfl hp (by unfold maxLen;omega) (dec_lo (List.getElem?_eq_getElem hp) hlo) (by omega)) (fun _=>?_)
  refine kc (zX rfl rfl rfl) (kD (kO (OK.condT rfl rfl rfl (OK.skip (Ab.D.code (OK.block (kr (kc (zX rfl rfl rfl) (kc (zX rfl rfl rfl) (kc (za rfl) (kc (za rfl) ?_)))))))))))
  refine kq (kc (zm rfl) (kc (zm rfl) (kc (S.callv (rec_odd (c:=(l[p].toNat:Int)) (by omega)) Tryz.call74 .none rfl (zt rfl) (zc rfl .nil) rfl rfl rfl) (kc (zm rfl) (kc (S.beql Tryz.underlying4 .none rfl (zt rfl) (zt rfl)) (kD (kB rfl (fun c19=>?_) (fun c19=>?_))))))))
  ·
   refine kr (kc (zm rfl) (kc (za rfl) (kD (OK.ret (Ret.r1 (zo rfl rfl) ?_)))))
   refine ret_i ?_
   rw[hg,idxGo_drop _ hp,if_pos (by unfold isPrint;simpa using c19)]
  ·
   refine OK.skip (Ab.D.blk (Ab.D.lp ⟨p+1,⟨by omega,?_⟩,(by omega),rfl,rfl,rfl,(lkM (itM_set _ _ _ _)),trivial⟩))
   rw[hg,idxGo_drop _ hp,if_neg (by unfold isPrint;simpa using c19)]
 ·
  obtain⟨hd1,hd2⟩:=dec_hi (List.getElem?_eq_getElem hp) hhi
  refine OK.reg ?_
  refine RK.xs (S.snextT () rfl (zt rfl) rfl rfl hp (by unfold maxLen;omega) (prod_eta (Utf8.decode ⟨l.toArray⟩ p)) hd2) (fun _=>?_)
  refine kc (zX rfl rfl rfl) (kD (kO (OK.condT rfl rfl rfl (OK.skip (Ab.D.code (OK.block (kr (kc (zX rfl rfl rfl) (kc (zX rfl rfl rfl) (kc (za rfl) (kc (za rfl) ?_)))))))))))
  refine kq (kc (zm rfl) (kc (zm rfl) (kc (S.callv (rec_odd (c:=((Utf8.decode ⟨l.toArray⟩ p).1:Int)) (by omega)) Tryz.call74 .none rfl (zt rfl) (zc rfl .nil) rfl rfl rfl) (kc (zm rfl) (kc (S.beql Tryz.underlying4 .none rfl (zt rfl) (zt rfl)) (kD (kB rfl (fun c19=>?_) (fun c19=>?_))))))))
  ·
   refine kr (kc (zm rfl) (kc (za rfl) (kD (OK.ret (Ret.r1 (zo rfl rfl) ?_)))))
   refine ret_i ?_
   have hx:isPrint l[p]=false:=decide_eq_false (by omega)
   rw[hg,idxGo_drop _ hp,if_pos (by rw[hx];rfl)]
  ·
   exfalso
   have hq:decide (32≤((Utf8.decode ⟨l.toArray⟩ p).1:Int)∧((Utf8.decode ⟨l.toArray⟩ p).1:Int)≤126)=false:=decide_eq_false (by omega)
   rw[hq]at c19
   exact c19 rfl
 ·
  refine OK.reg (kc (S.snextF () .none rfl (zt rfl) rfl rfl hp) (kc (zX rfl rfl rfl) (kD (kO (OK.condF rfl rfl rfl (OK.exit rfl (kp (kc (zi rfl rfl) (kD (OK.ret (Ret.r1 (zo rfl rfl) ?_)))))))))))
  refine ret_i ?_
  have:p=l.length:=by omega
  subst this
  rw[hg,List.drop_length]
  rfl
theorem rec_IndexFunc{l:List UInt8}(hl:l.length≤100000):Ct Tryz.prog 124 [.str l,.fn 74 []] (.int .i64 (idxGo (fun b=>!isPrint b) 0 l)):=by
 refine Ct.intro (rs:=[.tmp 4]) Tryz.func124 rfl Tryz.ntmps124 Tryz.results124 rfl rfl rfl fun w h=>?_
 refine kr (kc (zi rfl rfl) (kq (kc (zm rfl) (kc (zm rfl) (kc (S.call (rec_indexFunc hl) Tryz.call192 .none rfl (zc rfl (zc rfl (.cons .cbool .nil))) rfl) (kc (za rfl) (kD (OK.ret (Ret.r1 (zo rfl rfl) ?_)))))))))
 rfl
theorem rec_ContainsFunc{l:List UInt8}(hl:l.length≤100000):Ct Tryz.prog 77 [.str l,.fn 74 []] (.bool (!(l.all isPrint))):=by
 refine Ct.intro (rs:=[.tmp 4]) Tryz.func77 rfl Tryz.ntmps77 Tryz.results77 rfl rfl rfl fun w h=>?_
 refine kr (kc (zb rfl) (kq (kc (zm rfl) (kc (zm rfl) (kc (S.call (rec_IndexFunc hl) Tryz.call124 .none rfl (zc rfl (zc rfl .nil)) rfl) (kc (S.geq .none rfl (zt rfl) (.cint rfl)) (kc (za rfl) (kD (OK.ret (Ret.r1 (zo rfl rfl) ?_))))))))))
 exact ret_b (odd_all l)
set_option maxHeartbeats 2000000 in
theorem rec_parse{text ks:List UInt8}(hl:text.length≤100000)(hk:ks.length≤3∧∀b∈ks,b.toNat<128):CtT Tryz.prog 78 [.str text,.str ks] (.tup [.agg (parseT text ks).1.cs,.bool (parseT text ks).2]):=by
 refine CtT.intro (rs:=[.cell 4 170,.tmp 5]) Tryz.func78 rfl Tryz.ntmps78 Tryz.results78 rfl rfl rfl fun w h hT=>?_
 refine OK.resNil Unit ?_
 have hcl:=cut_le (c:=32) (l:=text)
 refine kr (RK.c (zA (c:=4) ze170 rfl) (kc (zb rfl) (kq (kc (zm rfl) (kc (S.call (str_Cut (l:=text) (c:=32) hl) Tryz.call75 .none rfl (zc rfl (.cons (.cstr (l:=[32]) rfl (by decide)) .nil)) rfl) (kc (zm rfl) (kc (zX rfl rfl rfl) (kc (zX rfl rfl rfl) (kc (zX rfl rfl rfl) (kc (za rfl) (kc (za rfl) ?_)))))))))))
 refine kc (za rfl) (kq (RK.c (zA (c:=9) ze170 rfl) (kD (kO (kr ?_)))))
 refine kc (zm rfl) (RK.xs (S.srange () Tryz.underlying9 rfl (zt rfl) rfl) (fun q=>?_))
 refine kD (OK.block (OK.boxOwn 9 0 890 1 rfl rfl rfl rfl rfl (OK.boxOwn 9 1 891 1 rfl rfl rfl rfl rfl ?_)))
 refine OK.loop4 [4,9,890,891] (fun(p:Nat)(rest:List UInt8)(more:Bool)(w:Words)=>[(4,.ptr 4 0),(1004,.box [.nils,.nils]),(9,.ptr 9 0),(1009,.box [.own 890 w.numbers.length,.own 891 w.texts.length]),(2890,.arr 1 (w.numbers.map fun n=>[.int .i64 n])),(2891,.arr 1 (w.texts.map fun s=>[.str s])),(7,.str rest),(8,.bool more),(24,.raw (pV q)),(3000,.res (HeapJ (itM q ks p)))]) (fun p rest more w=>p≤ks.length∧rest.length≤100000∧parseT text ks=parseGo (ks.drop p) rest more w∧w.numbers.length≤p∧w.texts.length≤p) (fun p rest more w=>ks.length - p) (0) ((cutC 32 text).2.1) ((cutC 32 text).2.2) ((Words.mk [] [])) ⟨Nat.zero_le _,by omega,rfl,Nat.le_refl _,Nat.le_refl _⟩ ⟨rfl,rfl,rfl,rfl,(lk_arr (by first|rfl|(simp;done)|(simp;omega))),(lk_arr (by first|rfl|(simp;done)|(simp;omega))),rfl,rfl,rfl,(lkM (itM_set _ _ _ _)),trivial⟩ (fun _ _ _ _=>rfl) ?_
 rintro p rest more w ⟨hi,hrl,hg,hnl,htl⟩
 have hrc:=cut_le (c:=32) (l:=rest)
 refine kO ?_
 rcases it_cases ks p with⟨hp,hlo⟩|⟨hp,hhi⟩|hp
 ·
  have hpc:=pg_cons hp rest more w
  refine OK.reg ?_
  refine RK.xs (S.snextT () rfl (zt rfl) rfl rfl hp (by unfold maxLen;omega) (dec_lo (List.getElem?_eq_getElem hp) hlo) (by omega)) (fun _=>?_)
  refine kc (zX rfl rfl rfl) (kD (kO (OK.condT rfl rfl rfl (OK.skip (Ab.D.code (OK.block (kr (kc (zX rfl rfl rfl) (kc (za rfl) (kD (kO (kr ?_))))))))))))
  refine kc (zm rfl) (kc (S.not .none rfl (zt rfl)) (kD (OK.cond rfl rfl (fun c29=>?_) (fun c29=>?_))))
  ·
   have hmo:more=false:=by simpa using c29
   have hst:parseGo (ks.drop p) rest more w=(⟨[],[]⟩,false):=by rw[hpc,hmo,parseGo,if_pos rfl]
   refine kr (kc (S.build bu170 rfl .none rfl .nil rfl rfl) (kc (zS ti170 rfl rfl rfl rfl rfl rfl) (kc (zb rfl) (kD (OK.ret (Ret.r2 (.cellN rfl rfl rfl rfl ti170 rfl (.k .nils (.k .nils .z))) (zo rfl rfl) ?_))))))
   rw[hg,hst]
   all_goals first|rfl|simp[Words.cs]
  ·
   have hmo:more=true:=by simpa using c29
   refine OK.skip (Ab.D.code (kO (kr ?_)))
   refine kc (zm rfl) (kc (zE rfl rfl) (kD (kB rfl (fun c32=>?_) (fun c32=>?_))))
   ·
    have hkp:ks[p]=114:=u8_lit c32
    have hst:parseGo (ks.drop p) rest more w=({w with texts:=w.texts++[rest]},true):=by rw[hpc,hkp,hmo,parseGo,if_neg (by decide),if_pos rfl]
    refine kr (kc (zf fi170_1 rfl) (kc (zl ti103 rfl rfl rfl rfl) (kc (zm rfl) (RK.c (S.mkSlice (k:=36) (rows:=[[_]]) ai103 .none rfl (zc rfl .nil) rfl rfl rfl rfl rfl rfl rfl) ?_))))
    refine RK.c (S.append ai103 .none rfl (zt rfl) rfl (by simp) (zt rfl) rfl (by first|rfl|(simp;done)|(simp;omega)) (by omega) (by simp only[maxLen];omega)) ?_
    refine kc (zf fi170_1 rfl) (kc (zS ti103 rfl rfl rfl rfl rfl rfl) (kq (kc (zL ti170 rfl rfl rfl rfl) (kc (zS ti170 rfl rfl rfl rfl rfl rfl) (kc (zb rfl) (kD ?_))))))
    refine OK.ret (Ret.r2 (.cellN rfl rfl rfl rfl ti170 rfl (.k (.own rfl rfl (by first|rfl|(simp;done)|(simp;omega))) (.k (.own rfl rfl (by first|rfl|(simp;done)|(simp;omega))) .z))) (zo rfl rfl) ?_)
    rw[hg,hst]
    all_goals first|rfl|simp[Words.cs]
   ·
    have hk1:¬ks[p]=114:=fun e=>c32 (by rw[e];rfl)
    refine OK.skip (kp (kc (zm rfl) (kc (S.call (str_Cut (l:=rest) (c:=32) hrl) Tryz.call75 .none rfl (zc rfl (.cons (.cstr (l:=[32]) rfl (by decide)) .nil)) rfl) (kc (zm rfl) (kc (zX rfl rfl rfl) (kc (zX rfl rfl rfl) (kc (zX rfl rfl rfl) (kc (za rfl) (kc (za rfl) (kc (za rfl) (kq ?_)))))))))))
    refine kc (zm rfl) (kc (zm rfl) (kc (za rfl) (kc (za rfl) (kD (kO (kr ?_))))))
    refine kc (zm rfl) (kc (zE rfl rfl) (kD (kB rfl (fun c49=>?_) (fun c49=>?_))))
    ·
     have hkp:ks[p]=119:=u8_lit c49
     refine OK.seq (kr ?_)
     refine kc (zm rfl) (kc (S.seql .none rfl (zt rfl) (.cstr (l:=[]) rfl (by decide))) (kD (kB rfl (fun c51=>?_) (fun c51=>?_))))
     ·
      have hst:parseGo (ks.drop p) rest more w=(⟨[],[]⟩,false):=by rw[hpc,hkp,hmo,parseGo,if_neg (by decide),if_neg (by decide),if_pos rfl,if_pos c51]
      refine kr (kc (S.build bu170 rfl .none rfl .nil rfl rfl) (kc (zS ti170 rfl rfl rfl rfl rfl rfl) (kc (zb rfl) (kD (OK.ret (Ret.r2 (.cellN rfl rfl rfl rfl ti170 rfl (.k .nils (.k .nils .z))) (zo rfl rfl) ?_))))))
      rw[hg,hst]
      all_goals first|rfl|simp[Words.cs]
     ·
      have hst:parseGo (ks.drop p) rest more w=parseGo (ks.drop (p+1)) (cutC 32 rest).2.1 (cutC 32 rest).2.2 {w with texts:=w.texts++[(cutC 32 rest).1]}:=by rw[hpc,hkp,hmo,parseGo,if_neg (by decide),if_neg (by decide),if_pos rfl,if_neg c51]
      refine OK.skip (kp (kc (zf fi170_1 rfl) (kc (zl ti103 rfl rfl rfl rfl) (kc (zm rfl) (RK.c (S.mkSlice (k:=56) (rows:=[[_]]) ai103 .none rfl (zc rfl .nil) rfl rfl rfl rfl rfl rfl rfl) ?_)))))
      refine RK.c (S.append ai103 .none rfl (zt rfl) rfl (by simp) (zt rfl) rfl (by first|rfl|(simp;done)|(simp;omega)) (by omega) (by simp only[maxLen];omega)) ?_
      refine kc (zf fi170_1 rfl) (kc (zS ti103 rfl rfl rfl rfl rfl rfl) (kD (OK.exit rfl ?_)))
      refine Ab.D.lp ⟨p+1,(cutC 32 rest).2.1,(cutC 32 rest).2.2,{w with texts:=w.texts++[(cutC 32 rest).1]},⟨by omega,by omega,by rw[hg,hst],by simp;omega,by simp;omega⟩,(by omega),rfl,rfl,rfl,(lkBo2 (by simp) (by simp)),(lk_arr (by simp)),(lk_arr (by simp)),rfl,rfl,rfl,(lkM (itM_set _ _ _ _)),trivial⟩
    ·
     have hk2:¬ks[p]=119:=fun e=>c49 (by rw[e];rfl)
     refine OK.skip (kp (kc (zm rfl) (kc (S.callT (rec_natural (l:=(cutC 32 rest).1) (by omega)) hT Tryz.call95 .none rfl (zc rfl .nil) rfl) (kc (zm rfl) (kc (zX rfl rfl rfl) (kc (zX rfl rfl rfl) (kc (za rfl) (kc (za rfl) (kD (kO (kr ?_)))))))))))
     refine kc (zm rfl) (kc (S.not .none rfl (zt rfl)) (kD (OK.cond rfl rfl (fun c65=>?_) (fun c65=>?_))))
     ·
      have hst:parseGo (ks.drop p) rest more w=(⟨[],[]⟩,false):=by rw[hpc,hmo,parseGo,if_neg (by decide),if_neg hk1,if_neg hk2,if_neg (by simpa using c65)]
      refine kr (kc (S.build bu170 rfl .none rfl .nil rfl rfl) (kc (zS ti170 rfl rfl rfl rfl rfl rfl) (kc (zb rfl) (kD (OK.ret (Ret.r2 (.cellN rfl rfl rfl rfl ti170 rfl (.k .nils (.k .nils .z))) (zo rfl rfl) ?_))))))
      rw[hg,hst]
      all_goals first|rfl|simp[Words.cs]
     ·
      have hst:parseGo (ks.drop p) rest more w=parseGo (ks.drop (p+1)) (cutC 32 rest).2.1 (cutC 32 rest).2.2 {w with numbers:=w.numbers++[atoiV (cutC 32 rest).1]}:=by rw[hpc,hmo,parseGo,if_neg (by decide),if_neg hk1,if_neg hk2,if_pos (by simpa using c65)]
      refine OK.skip (Ab.D.code (OK.reg ?_))
      refine kc (zf fi170_0 rfl) (kc (zl ti47 rfl rfl rfl rfl) (kc (zm rfl) (RK.c (S.mkSlice (k:=70) (rows:=[[_]]) ai47 .none rfl (zc rfl .nil) rfl rfl rfl rfl rfl rfl rfl) ?_)))
      refine RK.c (S.append ai47 .none rfl (zt rfl) rfl (by simp) (zt rfl) rfl (by first|rfl|(simp;done)|(simp;omega)) (by omega) (by simp only[maxLen];omega)) ?_
      refine kc (zf fi170_0 rfl) (kc (zS ti47 rfl rfl rfl rfl rfl rfl) (RK.nil (Ab.D.blk ?_)))
      refine Ab.D.lp ⟨p+1,(cutC 32 rest).2.1,(cutC 32 rest).2.2,{w with numbers:=w.numbers++[atoiV (cutC 32 rest).1]},⟨by omega,by omega,by rw[hg,hst],by simp;omega,by simp;omega⟩,(by omega),rfl,rfl,rfl,(lkBo2 (by simp) (by simp)),(lk_arr (by simp)),(lk_arr (by simp)),rfl,rfl,rfl,(lkM (itM_set _ _ _ _)),trivial⟩
 ·
  exfalso
  have:=hk.2 _ (List.getElem_mem hp)
  omega
 ·
  refine OK.reg (kc (S.snextF () .none rfl (zt rfl) rfl rfl hp) (kc (zX rfl rfl rfl) (kD (kO (OK.condF rfl rfl rfl (OK.exit rfl (Ab.D.code (kO ?_))))))))
  have hpe:p=ks.length:=by omega
  subst hpe
  have hst:parseGo (ks.drop ks.length) rest more w=(w,!more):=by rw[List.drop_length,parseGo]
  refine OK.reg (kc (zL ti170 rfl rfl rfl rfl) (kc (zm rfl) (kc (S.not .none rfl (zt rfl)) (kc (zS ti170 rfl rfl rfl rfl rfl rfl) (kc (za rfl) (kD ?_))))))
  refine OK.ret (Ret.r2 (.cellN rfl rfl rfl rfl ti170 rfl (.k (.own rfl rfl (by first|rfl|(simp;done)|(simp;omega))) (.k (.own rfl rfl (by first|rfl|(simp;done)|(simp;omega))) .z))) (zo rfl rfl) ?_)
  rw[hg,hst]
  all_goals first|rfl|simp[Words.cs]
end Go.Proofs.YtpbalelbenmmbaaGreatDoor
