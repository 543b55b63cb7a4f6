import Derived.Test.YtpbalelbenmmbaaGreatDoorTp
set_option linter.all false
set_option maxHeartbeats 4000000
namespace Go.Proofs.YtpbalelbenmmbaaGreatDoor
open Go.Ab Tryz
set_option maxRecDepth 9999
def Pw{l:ba}(h:dO 1 0 (aj 32 l)=none):aY l=(⟨0,[]⟩,7):=by
 rw[Ez (eH 32 l)]at h;split at h
 all_goals simp_all[C3,C2]
def Px{l:ba}{r:bd}(h:dO 1 0 (aj 32 l)=some r):∃v vs,r=v::vs/\aY l=(⟨v,vs⟩,0):=by
 rw[Ez (eH 32 l)]at h;split at h
 ·rename_i h2;rw[mn]at h;obtain⟨vs,h3,rfl⟩:=h;exact⟨_,vs,rfl,C4 h2 h3⟩
 cases h
def Vn{l:ba}(hl:l.length<=100000 - 1):Ct prog 197 [.str l] (.cf [.agg (aY l).1.cs,bv (aY l).2]):=by
 refine cI func197 O fun{_ _}=>?_
 have hw0:=eH 32 l;have hcn:=n9 (c:=32) (l:=l);have hwl:∀w∈aj 32 l,w.length<=100000:=fun w hw=>by have:=gH w hw;omega
 refine ro 9 O (kc (zK (C0 (l:=l) (c:=32) I) call68 O) ?_);refine kc (zK (vX (l:=aj 32 l) (k:=1) I C hwl) call69 O) ?_;refine rr 11 O (kc (S.not .none O (zt O)) (kD (OK.cond O O (fun c13=>?_) (fun c13=>?_))))
 ·have hgn:dO 1 0 (aj 32 l)=none:=by simpa using c13
  have hpf:=Pw hgn;refine kr (kc (zU T7 O O) (rr 4 O (OK.ret (aA.r2 (.bG O O O O Ye O (.k (.same O) (.k .bO .z))) (zo O O) ?_))));rw[hpf];rfl
 obtain⟨r,hgs⟩:∃r,dO 1 0 (aj 32 l)=some r:=fj.1 (by grind);obtain⟨v,vs,rfl,hpf⟩:=Px hgs;rw[hgs];refine ro 3 O ?_;refine kV (.c (zm O) (.c (S.aP (n:=0) Z4 .none O (zt O) (.af O) O F O) (.c (zV Z8 O O) (.c (zm O) (.c (S.slice (lo:=1) (l':=vs) Z4 (fun _=>O) .none O (zt O) (.inr ⟨_,_,O,(.af O),O⟩) (.inl ⟨O,O,O⟩) F I F) (.c (zU T7 O O) (.c (zS Ye O O O O O O) (.c (zi O O) .nil)))))))) ?_;refine Ab.D.code (kT O O Ye O O O ?_);rw[hpf];rfl
def Ao{l:List ba}(hl:l.length<=100000):Ct prog 106 [.sl (l.map fun s=>[.str s])] (.sl (l.map fun s=>[.str s])):=by
 refine cI func106 O (kr (kc (S.assign .none O .fW) (rr 6 O (RK.EA (t:=3) O O fun bN4 hN4=>?_))));refine kc (S.F8 underlying103 .none O (zt O)) (kD (OK.cond O O (fun c4=>?_) (fun c4=>?_)))
 ·refine kr (kc (S.assign .none O .fW) (kD (kR O O ?_)));simp_all
 refine ro 4 O (RK.c (zM [] ZF O O O O) (jm O ?_));refine RK.c (S.mQ ZF .none O (zt O) O (by rfl) (zt O) F (Zx ..) I (by grind [maxLen])) ?_;refine rr 3 O ?_;refine OK.ret (aA.r1 (.tmp O O (.c (.own O O F) O) O) ?_);rfl
end Go.Proofs.YtpbalelbenmmbaaGreatDoor
namespace Go.Proofs.YtpbalelbenmmbaaGreatDoor
open Go.Ab Tryz
def sX:bC:=⟨[],0⟩
def bP(l:List UInt8):bC×Int:=if iH ((aj 32 l).getD 0 [])=true∧((aj 32 l).any fun w=>decide ([]=w))=false then
    if bA ⟨(aj 32 l).drop 1,de ((aj 32 l).getD 0 [])⟩≠0 then(sX,bA ⟨(aj 32 l).drop 1,de ((aj 32 l).getD 0 [])⟩)else(⟨(aj 32 l).drop 1,de ((aj 32 l).getD 0 [])⟩,0)
 else(sX,7)
def mR{l:ba}(h:iH ((aj 32 l)[0]'(eH 32 l))=false\/((aj 32 l).any fun w=>decide ([]=w))=true):bP l=(sX,7):=by
 unfold bP;grind
def vY{l:ba}{p:bC}(hp:p=⟨(aj 32 l).drop 1,de ((aj 32 l)[0]'(eH 32 l))⟩)(h:iH ((aj 32 l)[0]'(eH 32 l))=true)(h2:((aj 32 l).any fun w=>decide ([]=w))=false):bP l=if bA p≠0 then(sX,bA p)else(p,0):=by
 simp_all[bP,eH]
def rX{l:ba}(hl:l.length<=100000 - 1):gz prog 66 [.str l] (.cf [.agg (bP l).1.cs,bv (bP l).2]):=by
 refine cT func66 O fun hT=>?_
 have hw0:=eH 32 l;have hcn:=n9 (c:=32) (l:=l);have hwl:∀w∈aj 32 l,w.length<=100000:=fun w hw=>by have:=gH w hw;omega
 refine ro 9 O (kc (zK (sY (l:=l) (c:=32) I) call103 O) ?_);refine rr 6 O (kc (S.aP (n:=0) Z9 .none O (zt O) (.af O) O hw0 O) (kc (zV Y9 O O) ?_));refine kc (S.dB (l7 (l:=(aj 32 l)[0]) (b:=false) (hwl _ (Zt hw0))) hT call104 .none O (zc O (.cons .aJ .nil)) O) ?_;refine rr 11 O (kc (S.not .none O (zt O)) (jm O (RK.split (t:=21) O (fun g21=>?_) (fun g21=>?_))))
 ·have hn0:iH (aj 32 l)[0]=false:=by simp_all[uj]
  have hpf:=mR (.inl hn0);refine rr 8 O (kc (zU T6 O O) (rr 4 O (OK.ret (aA.r2 (.bG O O O O Za O (.k .bO (.k (.same O) .z))) (zo O O) ?_))));rw[hpf];rfl
 have hn0:iH (aj 32 l)[0]=true:=by simp_all[uj]
 obtain⟨hv1,hv2,hv3⟩:=Ce hn0;refine kc (S.move (zg O O) O (zt O)) (kc (S.call (mS (l:=aj 32 l) (v:=[])) call105 (zg O O) O (zc O (.cons (.bj (l:=[]) O C) .nil)) O) ?_);refine rr 3 O (OK.cond O O (fun c24=>?_) (fun c24=>?_))
 ·have hpf:=mR (.inr c24);refine kr (kc (zU T6 O O) (rr 4 O (OK.ret (aA.r2 (.bG O O O O Za O (.k .bO (.k (.same O) .z))) (zo O O) ?_))));rw[hpf];rfl
 have hpt:=vY rfl hn0 c24;rw[hv3];refine ro 5 O ?_;refine kc (S.slice (lo:=1) (l':=(aj 32 l).drop 1) Z9 (fun _=>O) .none O (zt O) (.inr ⟨_,_,O,(.af O),O⟩) (.inl ⟨O,O,O⟩) I I F) ?_;refine kc (zK (Ao (l:=(aj 32 l).drop 1) (by grind)) call106 O) ?_;refine jm O (kc (zU T6 O O) (rr 8 O (kc (zK (lH (p:=(⟨(aj 32 l).drop 1,de (aj 32 l)[0]⟩:bC))) call107 O) (rr 13 O (kB O (fun c37=>?_) (fun c37=>?_))))))
 ·have hpf:bP l=(sX,bA (⟨(aj 32 l).drop 1,de (aj 32 l)[0]⟩:bC)):=by rw[hpt];exact Zn c37
  refine kr (kc (zU T6 O O) (rr 5 O (OK.ret (aA.r2 (.bG O O O O Za O (.k .bO (.k (.same O) .z))) (zo O O) ?_))));rw[hpf];rfl
 have hpf:bP l=((⟨(aj 32 l).drop 1,de (aj 32 l)[0]⟩:bC),0):=by rw[hpt];exact Zm c37
 refine ro 9 O (kT O O Za O O O ?_);rw[hpf];rfl
end Go.Proofs.YtpbalelbenmmbaaGreatDoor
namespace Go.Proofs.YtpbalelbenmmbaaGreatDoor
open Go.Ab Tryz
def E5{w:ba}:dO 1 0 [w]=if iH w=true then some [de w]else none:=by
 have h:=Ez (l:=[w]) F;rw[h];rfl
def GS{l:List ba}(h:0<l.length):l.take 1=[l[0]]:=by
 cases l<;>grind
def sn{l:ba}(hl:l.length<=100000 - 1):Ct prog 44 [.str l] (.cf [.agg (bP l).1.cs,bv (bP l).2]):=by
 refine cI func44 O fun{_ _}=>?_
 have hw0:=eH 32 l;have hcn:=n9 (c:=32) (l:=l);have hwl:∀w∈aj 32 l,w.length<=100000:=fun w hw=>by have:=gH w hw;omega
 have hgw:=E5 (w:=(aj 32 l)[0]);have hdl:((aj 32 l).drop 1).length<=100000:=by grind
 refine ro 8 O (kc (zU T6 O O) (rr 7 O (kc (zK (C0 (l:=l) (c:=32) I) call68 O) ?_)));refine rr 6 O ?_;refine kc (S.slice (hi:=1) (l':=[(aj 32 l)[0]]) Z9 (fun _=>O) .none O (zt O) (.inl ⟨O,O,O⟩) (.inr ⟨_,_,O,(.af O),O⟩) I I (by rw[GT,GS hw0])) ?_;refine kc (zK (vX (l:=[(aj 32 l)[0]]) (k:=1) F C (fun w hw=>by simp_all)) call69 O) ?_;refine rr 11 O (kc (S.not .none O (zt O)) (jm O (RK.split (t:=21) O (fun g21=>?_) (fun g21=>?_))))
 ·have hn0:iH (aj 32 l)[0]=false:=by
   simp_all
  have hpf:=mR (.inl hn0);refine rr 13 O (OK.ret (aA.r2 (.bG O O O O Za O (.k .bO (.k (.same O) .z))) (zo O O) ?_));rw[hpf];rfl
 have hn0:iH (aj 32 l)[0]=true:=by
  simp_all
 rw[Zn hn0]at hgw;refine kc (S.move (zg O O) O (zt O)) (kc (S.call (ny (l:=aj 32 l) (s:=[])) call70 (zg O O) O (zc O (.cons (.bj (l:=[]) O C) .nil)) O) ?_);refine rr 3 O (OK.cond O O (fun c24=>?_) (fun c24=>?_))
 ·have hpf:=mR (.inr c24);refine ro 7 O (OK.ret (aA.r2 (.bG O O O O Za O (.k .bO (.k (.same O) .z))) (zo O O) ?_));rw[hpf];rfl
 have hpt:=vY rfl hn0 c24;rw[hgw];refine ro 3 O ?_;refine kV (.c (zm O) (.c (S.aP (n:=0) Z4 .none O (zt O) (.af O) O F O) (.c (zV Z8 O O) (.c (zM [] ZF O O O O) (.c (zm O) (.c (S.slice (lo:=1) (l':=(aj 32 l).drop 1) Z9 (fun _=>O) .none O (zt O) (.inr ⟨_,_,O,(.af O),O⟩) (.inl ⟨O,O,O⟩) I I F) (.c (S.Jj (rows':=((aj 32 l).drop 1).map (fun s=>[.str s])) (S.mQ ZF .none O (zt O) O (by rfl) (zt O) (by grind) (Zx ..) I (by grind [maxLen])) F F O O) (.c (zU T6 O O) (.c (zA (c:=8) Lv O) (.c (zS Za O O O O O O) .nil)))))))))) ?_;refine rd 5 O (kc (zK (w6 (p:=(⟨(aj 32 l).drop 1,de (aj 32 l)[0]⟩:bC))) call71 O) (rr 9 O (kB O (fun c37=>?_) (fun c37=>?_))))
 ·have hpf:bP l=(sX,bA (⟨(aj 32 l).drop 1,de (aj 32 l)[0]⟩:bC)):=by simp_all
  refine ro 8 O (OK.ret (aA.r2 (.bG O O O O Za O (.k .bO (.k (.same O) .z))) (zo O O) ?_));rw[hpf];rfl
 have hpf:bP l=((⟨(aj 32 l).drop 1,de (aj 32 l)[0]⟩:bC),0):=by simp_all
 refine ro 9 O (kT O O Za O O O ?_);rw[hpf];rfl
end Go.Proofs.YtpbalelbenmmbaaGreatDoor
namespace Go.Proofs.YtpbalelbenmmbaaGreatDoor
open Go.Ab Tryz
def Wq(v:Int):Prop:=0<=v/\(Lib.itoa v).length<=5
def N7{w:ba}(h:numOk w 5=true):Wq (bp w)/\w=Lib.itoa (bp w):=by
 unfold numOk at h;simp only[Zw,jn]at h;obtain⟨_,h2,h3,h4⟩:=h;exact⟨⟨h2,by simp_all⟩,h3.symm⟩
theorem Rq{v:Int}(h:Wq v):numOk (Lib.itoa v) 5=true/\bp (Lib.itoa v)=v:=by
 have e:=uI h.1;have hc:iF (Lib.itoa v) 5=true:=cN.2 ⟨by grind [tq],h.2⟩;refine⟨by simp_all[tW],?_⟩;have h0:=h.1;rw[yN I hc,e,Qa];omega
theorem NF{v:Int}(h:Wq v):∀b∈Lib.itoa v,dw b=true:=by
 rw[uI h.1];exact dj.1 (uH _)
theorem Nh{b:UInt8}(h:dw b=true):cU b=false:=by
 have h1:48<=b.toNat/\b.toNat<=57:=dC h;have e:∀c:UInt8,c.toNat<48\/57<c.toNat->(b==c)=false:=fun c hc=>by
  grind
 simp_all[cU]
theorem Wz{v:Int}(h:Wq v):∀b∈Lib.itoa v,cU b=false:=by grind [Nh,NF]
def Stop(r:ba):Prop:=r=[]\/∃b t,r=b::t/\cU b=true
theorem SW{w r:ba}(hw:∀b∈w,cU b=false)(hr:Stop r):b9 (w++r)=(w,r):=by
 have h1:r.takeWhile (fun b=>!cU b)=[]/\r.dropWhile (fun b=>!cU b)=r:=by
  rcases hr with rfl|⟨b,t,rfl,hb⟩
  all_goals simp_all
 simp_all[b9]
def SX(s:ba):s=(b9 s).1++(b9 s).2/\Stop (b9 s).2:=by
 refine⟨(List.takeWhile_append_dropWhile ..).symm,?_⟩;show Stop (s.dropWhile fun b=>!cU b)
 induction s with
 |nil=>exact .inl rfl
 |cons b s ih=>
  rw[List.dropWhile_cons];cases hb:cU b with
  |true=>exact .inr ⟨b,s,rfl,hb⟩
  |false=>exact ih
def W8(p s:ba):bL p (p++s)=(true,s):=by
 simp[DV]
theorem VR{p s:ba}(h:(bL p s).1=true):s=p++(bL p s).2:=by
 unfold bL at h⊢;split
 ·rename_i h1;rw[rG,Zw]at h1;have:=dC h1.2;grind [List.take_append_drop]
 simp_all
def Nz{c:UInt8}{s:ba}(h:s=[]\/∃b t,s=b::t/\b≠c):bL [c] s=(false,s):=by
 refine DW ?_;grind
def N5{v:Int}{r:ba}(h:Wq v)(hr:Stop r):fY (32::(Lib.itoa v++r))=((v,true),r):=by
 have e:=W8 [32] (Lib.itoa v++r);have e1:(bL [32] (32::(Lib.itoa v++r))).1=true:=eQ Prod.fst e;have e2:(bL [32] (32::(Lib.itoa v++r))).2=Lib.itoa v++r:=eQ Prod.snd e;grind [G4,SW,Wz,Rq]
def N6{s:ba}(h:(fY s).1.2=true):∃v,Wq v/\Stop (fY s).2/\s=32::(Lib.itoa v++(fY s).2)/\(fY s).1.1=v:=by
 cases h1:(bL [32] s).1 with
 |false=>simp_all[G5]
 |true=>
  rw[G4 h1]at h⊢;obtain⟨q1,q2⟩:=N7 h;obtain⟨w1,w2⟩:=SX (bL [32] s).2;refine⟨_,q1,w2,?_,rfl⟩;grind [VR]
def Y1:bd->ba
 |[]=>[]
 |v::vs=>32::(Lib.itoa v++Y1 vs)
def Yc:bc->bd->Ph->Ph
 |f::fs,v::vs,p=>Yc fs vs (p.Ir f v)
 |_,_,p=>p
def Up(vs:bd){r:ba}(hr:Stop r):Stop (Y1 vs++r):=by
 cases vs with
 |nil=>exact hr
 |cons v vs=>exact .inr ⟨32,_,rfl,by decide⟩
def Um:∀(fs:bc)(vs:bd)(p:Ph){r:ba},vs.length=fs.length->(∀v∈vs,Wq v)->Stop r->eO fs p (Y1 vs++r)=(some (Yc fs vs p),r)
 |[],[],p,r,_,_,_=>rfl
 |f::fs,v::vs,p,r,hl,hv,hr=>by
  have e:Y1 (v::vs)++r=32::(Lib.itoa v++(Y1 vs++r)):=by simp[Y1]
  have h1:=N5 (hv v dp) (Up vs hr);rw[e,eO,h1,Zn rfl,Um fs vs (p.Ir f v) (by grind) (fun x hx=>hv x (dg _ hx)) hr];rfl
def Un:∀(fs:bc)(p q:Ph){s:ba},(eO fs p s).1=some q->∃vs,vs.length=fs.length/\(∀v∈vs,Wq v)/\s=Y1 vs++(eO fs p s).2/\q=Yc fs vs p/\(fs≠[]->Stop (eO fs p s).2)
 |[],p,q,s,h=>⟨[],rfl,(fun v hv=>by cases hv),rfl,(by cases h;rfl),fun h=>absurd rfl h⟩
 |f::fs,p,q,s,h=>by
  rw[eO]at h⊢;cases h1:(fY s).1.2 with
  |false=>simp_all
  |true=>
   rw[h1,Zn rfl]at h;rw[Zn rfl];obtain⟨v,q1,q2,q3,q4⟩:=N6 h1;obtain⟨vs,w1,w2,w3,w4,w5⟩:=Un fs _ q h;refine⟨v::vs,by simp[w1],fun x hx=>?_,?_,?_,fun _=>?_⟩
   ·grind
   ·grind [Y1]
   ·rw[w4,q4];rfl
   cases fs with
   |nil=>exact q2
   |cons g gs=>grind
def Pe(k:Nat):bB k≠[]:=by unfold bB;grind
def SY(k:Nat):ba:=DG.getD k []
def U8{k:Nat}(h:k<6):∀b∈SY k,cU b=false:=by
 match k,h with
 |0,_=>decide
 |1,_=>decide
 |2,_=>decide
 |3,_=>decide
 |4,_=>decide
 |5,_=>decide
def N2{k:Nat}(h:k<6):ix (fun n=>decide (SY k=n)) DG=some k:=by
 match k,h with
 |0,_=>rfl
 |1,_=>rfl
 |2,_=>rfl
 |3,_=>rfl
 |4,_=>rfl
 |5,_=>rfl
def R5{w:ba}{k:Nat}(h:ix (fun n=>decide (w=n)) DG=some k):k<6/\w=SY k:=by
 obtain⟨h1,h2⟩:=eE h;have h3:w=DG[k]:=dC h2;refine⟨h1,?_⟩;rw[h3];exact(tX h1).symm
def Pm{k:Nat}(h:k<6){r:ba}(hr:Stop r):cu (SY k++r)=(some k,r):=by
 unfold cu;rw[SW (U8 h) hr];simp_all[N2]
def Pn{s:ba}{k:Nat}(h:(cu s).1=some k):k<6/\s=SY k++(cu s).2/\Stop (cu s).2:=by
 obtain⟨h1,h2⟩:=R5 h;obtain⟨w1,w2⟩:=SX s;refine⟨h1,?_,w2⟩;rw[←h2];exact w1
structure XC(k:Nat)(vs:bd):Prop where
 k6:k<6
 len:vs.length=(bB k).length
 num:∀v∈vs,Wq v
def Z5(k:Nat)(vs:bd):ba:=SY k++Y1 vs
def ZJ(k:Nat)(vs:bd):Ph:=Yc (bB k) vs (.mk k 0 0 0 0 [])
def WC{ls:ba->(List Ph×Bool)×ba}{k:Nat}{vs:bd}(h:XC k vs){r:ba}(hr:Stop r):lz ls (Z5 k vs++r)=if k≠5 then((ZJ k vs,true),r)else if(bL [32,40] r).1=false then((Ph.zero,false),(bL [32,40] r).2)else
  if(ls (bL [32,40] r).2).1.2=true then(((ZJ k vs).setBody (ls (bL [32,40] r).2).1.1,(bL [41] (ls (bL [32,40] r).2).2).1),(bL [41] (ls (bL [32,40] r).2).2).2)else(((ZJ k vs).setBody (ls (bL [32,40] r).2).1.1,false),(ls (bL [32,40] r).2).2):=by
 have e:Z5 k vs++r=SY k++(Y1 vs++r):=by unfold Z5;simp
 have h1:=Pm h.k6 (Up vs hr);have h2:=Um (bB k) vs (.mk k 0 0 0 0 []) h.len h.num hr;unfold lz;rw[e,h1];dsimp only;rw[h2];rfl
def Oc{ls:ba->(List Ph×Bool)×ba}{vs:bd}(h:XC 5 vs){t r:ba}{b:List Ph}(hb:ls t=((b,true),41::r)):lz ls (Z5 5 vs++(32::40::t))=(((ZJ 5 vs).setBody b,true),r):=by
 have e:=W8 [32,40] t;have e1:bL [32,40] (32::40::t)=(true,t):=e;have e2:bL [41] (41::r)=(true,r):=W8 [41] r;rw[WC h (.inr ⟨32,_,rfl,by decide⟩),Zm C,e1];simp_all
def Ob{ls:ba->(List Ph×Bool)×ba}{s:ba}(h:(lz ls s).1.2=true):∃k vs,XC k vs/\((k≠5/\∃r,Stop r/\s=Z5 k vs++r/\lz ls s=((ZJ k vs,true),r))\/(k=5/\∃t b r,s=Z5 k vs++(32::40::t)/\ls t=((b,true),41::r)/\lz ls s=(((ZJ k vs).setBody b,true),r))):=by
 cases hk:(cu s).1 with
 |none=>simp_all[lz]
 |some k=>
  obtain⟨k6,s1,_⟩:=Pn hk;cases hn:(eO (bB k) (.mk k 0 0 0 0 []) (cu s).2).1 with
  |none=>
   grind [lz]
  |some p=>
   obtain⟨vs,w1,w2,w3,w4,w5⟩:=Un _ _ _ hn;have hr:=w5 (Pe k);generalize (eO (bB k) (.mk k 0 0 0 0 []) (cu s).2).2=r at w3 hr;have hv:XC k vs:=⟨k6,w1,w2⟩;have es:s=Z5 k vs++r:=by grind [Z5]
   have e:=WC (ls:=ls) hv hr;rw[←es]at e;by_cases h5:k=5
   ·rw[Zm (Zp h5)]at e;cases hh:(bL [32,40] r).1 with
    |false=>grind
    |true=>
     rw[hh,Zm C]at e;have er:=VR hh;generalize (bL [32,40] r).2=t at e er;cases hb:(ls t).1.2 with
     |false=>grind
     |true=>
      rw[hb,Zn rfl]at e;rw[e]at h;have h41:(bL [41] (ls t).2).1=true:=h;have e41:=VR h41;grind
   grind
def Y2:ba->Nat->ba->List ba->List ba×Bool
 |[],d,cur,out=>(out++[cur],decide (d=0))
 |b::r,d,cur,out=>
  if b=40 then Y2 r (d+1) (cur++[b]) out
  else if b=41 then(if d=0 then([],false)else Y2 r (d - 1) (cur++[b]) out)
  else if b=59/\d=0 then Y2 r d [] (out++[cur])
  else Y2 r d (cur++[b]) out
abbrev Z6(s:ba):List ba×Bool:=Y2 s 0 [] []
def Xd(w:ba):Option Int:=if numOk w 5=true then some (bp w)else none
def Li(h:ba)(b:List Ph):Option Ph:=match ix (fun n=>decide ((aj 32 h).getD 0 []=n)) DG with
 |none=>none
 |some k=>if decide (k=5)≠decide (0<b.length)then none else if(aj 32 h).length≠(bB k).length+1 then none else match fy Xd ((aj 32 h).drop 1)with
  |none=>none
  |some vs=>some ((ZJ k vs).setBody b)
def ZS(ls:ba->Option (List Ph))(s:ba):Option Ph:=match ix (fun b=>b==40) s with
 |none=>Li s []
 |some i=>if i=0\/s.getD (i - 1) 0≠32\/s.getD (s.length - 1) 0≠41 then none else match ls ((s.take (s.length - 1)).drop (i+1))with
  |none=>none
  |some b=>Li (s.take (i - 1)) b
def Vr:Nat->ba->Option (List Ph)
 |0,_=>none
 |n+1,s=>if(Z6 s).2=true then fy (ZS (Vr n)) (Z6 s).1 else none
abbrev YF(s:ba):Option (List Ph):=Vr (s.length+1) s
def Qu(p:ba)(ps:List ba):ba:=p++(ps.map fun q=>32::q).flatten
def QL:∀(l:ba){p:ba}{ps:List ba},aj 32 l=p::ps->Qu p ps=l
 |[],p,ps,h=>by
  simp only[aj,na]at h;obtain⟨rfl,rfl⟩:=h;rfl
 |b::l,p,ps,h=>by
  obtain⟨q,qs,hq⟩:∃q qs,aj 32 l=q::qs:=by
   cases hs:aj 32 l with
   |nil=>exact absurd hs (gr 32 l)
   |cons q qs=>simp
  have ih:=QL l hq;by_cases hb:b=32
  ·subst hb;rw[aj,Zn rfl,hq]at h;simp only[na]at h;obtain⟨rfl,rfl⟩:=h;simp_all[Qu]
  rw[l8 hb hq]at h;simp only[na]at h;obtain⟨rfl,rfl⟩:=h;simp_all[Qu]
theorem Uo:∀vs:bd,((vs.map Lib.itoa).map fun q=>(32:UInt8)::q).flatten=Y1 vs
 |[]=>rfl
 |v::vs=>by
  simp only[fw,mr,Uo vs,Y1,md]
def Uf:∀{L:List ba}{vs:bd},fy Xd L=some vs->L=vs.map Lib.itoa/\∀v∈vs,Wq v
 |[],vs,h=>by simp only[fy,ra]at h;simp_all
 |w::L,vs,h=>by
  rw[fy]at h;unfold Xd at h;by_cases hn:numOk w 5=true
  ·rw[Zn hn]at h;dsimp only at h;rw[mn]at h;obtain⟨r,h1,rfl⟩:=h;obtain⟨e,hv⟩:=Uf (show fy Xd L=some r from h1);obtain⟨q1,q2⟩:=N7 hn;grind
  simp_all
def W6:∀{vs:bd},(∀v∈vs,Wq v)->fy Xd (vs.map Lib.itoa)=some vs
 |[],_=>rfl
 |v::vs,h=>by
  obtain⟨q1,q2⟩:=Rq (h v dp);rw[fw,fy,Xd,Zn q1,q2];dsimp only;rw[W6 fun x hx=>h x (dg _ hx)];rfl
def Vz:∀(w:ba)(vs:bd),32∉w->(∀v∈vs,Wq v)->aj 32 (w++Y1 vs)=w::vs.map Lib.itoa
 |w,[],hw,_=>by rw[Y1,lw];exact VA hw
 |w,v::vs,hw,hv=>by
  have h32:(32:UInt8)∉Lib.itoa v:=fun hm=>by
   have:=Wz (hv v dp) 32 hm;exact absurd this C
  rw[Y1,Uz _ hw,Vz (Lib.itoa v) vs h32 fun x hx=>hv x (dg _ hx)];rfl
def nm_32{k:Nat}(h:k<6):(32:UInt8)∉SY k:=fun hm=>absurd (U8 h 32 hm) C
theorem OB{k:Nat}{vs:bd}(h:XC k vs){b:List Ph}(hb:k=5↔0<b.length):Li (Z5 k vs) b=some ((ZJ k vs).setBody b):=by
 have hs:aj 32 (Z5 k vs)=SY k::vs.map Lib.itoa:=Vz (SY k) vs (nm_32 h.k6) h.num;unfold Li;rw[hs];show(match ix (fun n=>decide (SY k=n)) DG with|none=>_|some k=>_)=_;rw[N2 h.k6];dsimp only;rw[Zm (Zp (decide_eq_decide.2 hb)),Zm (by simp[h.len])];show(match fy Xd (vs.map Lib.itoa)with|none=>_|some vs=>_)=_;rw[W6 h.num]
theorem QA{h:ba}{b:List Ph}{p:Ph}(e:Li h b=some p):∃k vs,XC k vs/\h=Z5 k vs/\(k=5↔0<b.length)/\p=(ZJ k vs).setBody b:=by
 unfold Li at e;obtain⟨w,ws,hs⟩:∃w ws,aj 32 h=w::ws:=by
  cases hs:aj 32 h<;>grind
 rw[hs]at e;have hu:=QL h hs;split at e
 ·cases e
 rename_i k hk;obtain⟨k6,hw⟩:=R5 hk;have hw:w=SY k:=hw;by_cases h1:decide (k=5)≠decide (0<b.length)
 ·simp_all
 rw[Zm h1]at e;have h1:decide (k=5)=decide (0<b.length):=Zu.1 h1;by_cases h2:(w::ws).length≠(bB k).length+1
 ·simp_all
 rw[Zm h2]at e;have e:(match fy Xd ws with|none=>none|some vs=>some ((ZJ k vs).setBody b))=some p:=e;cases hg:fy Xd ws with
 |none=>simp_all
 |some vs=>
  rw[hg]at e;obtain⟨g1,g2⟩:=Uf hg;have hl:vs.length=(bB k).length:=by
   simp_all
  refine⟨k,vs,⟨k6,hl,g2⟩,?_,decide_eq_decide.1 h1,?_⟩
  all_goals grind [Qu,Z5,Uo]
theorem ix_40{a t:ba}(ha:∀b∈a,b≠40):ix (fun b=>b==40) (a++40::t)=some a.length:=by
 have key:∀(a:ba)(k:Nat),(∀b∈a,b≠40)->iR (fun b=>b==40) k (a++40::t)=some (k+a.length):=by
  intro a
  induction a with
  |nil=>simp[iR]
  |cons b a ih=>
   intro k h;have hb:(b==40)=false:=by simp_all
   rw[md,iR,hb,Zm C,ih (k+1) fun x hx=>h x (dg _ hx),ge];grind
 simp_all
theorem Md{a:ba}(ha:∀b∈a,b≠40):ix (fun b=>b==40) a=none:=by simp_all[YO]
def U_:∀{vs:bd},(∀v∈vs,Wq v)->∀b∈Y1 vs,b≠40/\b≠41/\b≠59
 |[],_,b,hb=>by cases hb
 |v::vs,h,b,hb=>by
  rw[Y1,ed,List.mem_append]at hb;rcases hb with rfl|hb|hb
  ·decide
  ·have hs:=Wz (h v dp) b hb;refine⟨fun e=>?_,fun e=>?_,fun e=>?_⟩<;>subst e<;>exact absurd hs C
  exact U_ (fun x hx=>h x (dg _ hx)) b hb
theorem Yi{k:Nat}{vs:bd}(h:XC k vs):∀b∈Z5 k vs,b≠40/\b≠41/\b≠59:=by
 intro b hb;rcases List.mem_append.1 hb with hb|hb
 ·have hs:=U8 h.k6 b hb;refine⟨fun e=>?_,fun e=>?_,fun e=>?_⟩<;>subst e<;>exact absurd hs C
 exact U_ h.num b hb
def PN(p:Ph)(f:Nat)(n:Int):(p.Ir f n).body=p.body:=by
 cases p with
 |mk k w l t e b=>
  match f with
  |0=>rfl
  |1=>rfl
  |2=>rfl
  |3=>rfl
  |4=>rfl
  |f+5=>rfl
theorem Wk{k:Nat}{vs:bd}:(ZJ k vs).setBody []=ZJ k vs:=by
 have key:∀(fs:bc)(vs:bd)(p:Ph),p.body=[]->(Yc fs vs p).body=[]:=by
  intro fs
  induction fs with
  |nil=>simp[Yc]
  |cons f fs ih=>
   intro vs p h;cases vs with
   |nil=>grind [Yc]
   |cons v vs=>
    simp_all[Yc,PN]
 have h:=key (bB k) vs (.mk k 0 0 0 0 []) rfl;show(ZJ k vs).setBody []=ZJ k vs;have h:(ZJ k vs).body=[]:=h;revert h;generalize ZJ k vs=p;cases p;intro h;have h:_=[]:=h;simp only[Ph.body]at h;subst h;rfl
theorem PL{ls:ba->Option (List Ph)}{k:Nat}{vs:bd}(h:XC k vs)(h5:k≠5):ZS ls (Z5 k vs)=some (ZJ k vs):=by
 grind [ZS,Md,Yi,OB,Wk]
def MB{ls:ba->Option (List Ph)}{vs:bd}(h:XC 5 vs){u:ba}{b:List Ph}(hb:ls u=some b)(h0:0<b.length):ZS ls (Z5 5 vs++(32::40::(u++[41])))=some ((ZJ 5 vs).setBody b):=by
 have e:Z5 5 vs++(32::40::(u++[41]))=(Z5 5 vs++[32])++40::(u++[41]):=by simp
 have hi:ix (fun b=>b==40) (Z5 5 vs++(32::40::(u++[41])))=some ((Z5 5 vs).length+1):=by
  grind [ix_40,Yi]
 have hlen:(Z5 5 vs++(32::40::(u++[41]))).length=(Z5 5 vs).length+u.length+3:=by simp;omega
 unfold ZS;rw[hi];dsimp only;rw[Zm]
 ·have eb:((Z5 5 vs++(32::40::(u++[41]))).take ((Z5 5 vs++(32::40::(u++[41]))).length - 1)).drop ((Z5 5 vs).length+1+1)=u:=by
   rw[hlen,show Z5 5 vs++(32::40::(u++[41]))=(Z5 5 vs++(32::40::u))++[41]by simp,np (by simp;omega),eK (by simp;omega),
    show Z5 5 vs++(32::40::u)=(Z5 5 vs++[32,40])++u by simp,List.drop_append_of_le_length F,nb F]
   rfl
  rw[eb,hb];dsimp only;rw[show(Z5 5 vs).length+1 - 1=(Z5 5 vs).length by omega,np (Zq _),fp];exact OB h ⟨fun _=>h0,fun _=>rfl⟩
 simp
def MA{ls:ba->Option (List Ph)}(hls:∀s b,ls s=some b->0<b.length){s:ba}{p:Ph}(e:ZS ls s=some p):∃k vs,XC k vs/\((k≠5/\s=Z5 k vs/\p=ZJ k vs)\/(k=5/\∃u b,s=Z5 k vs++(32::40::(u++[41]))/\ls u=some b/\p=(ZJ k vs).setBody b)):=by
 unfold ZS at e;split at e
 ·grind [QA,Wk]
 rename_i i hi;by_cases hc:i=0\/s.getD (i - 1) 0≠32\/s.getD (s.length - 1) 0≠41
 ·simp_all
 rw[Zm hc]at e;simp only[FS,Zu]at hc;obtain⟨hi0,h32,h41⟩:=hc;obtain⟨hil,h40⟩:=eE hi;have h40:s[i]=40:=by grind
 split at e
 ·cases e
 rename_i b hb;obtain⟨k,vs,h1,h2,h3,h4⟩:=QA e;have h5:k=5:=h3.2 (hls _ _ hb);refine⟨k,vs,h1,.inr ⟨h5,_,b,?_,hb,h4⟩⟩;have hlt:i+1<s.length:=by
  grind
 rw[←h2];refine mv fun j=>?_
 rcases Nat.lt_trichotomy j (i - 1)with hj|hj|hj
 ·grind
 ·grind
 rw[qk (by grind),gn,show min (i - 1) s.length=i - 1 by omega];grind
def Lf(s:ba):∀(d:Nat)(cur:ba)(out:List ba),(Y2 s d cur out).2=true->(Y2 s d cur out).1≠[]:=by
 induction s with
 |nil=>simp[Y2]
 |cons b r ih=>
  intro d cur out h;rw[Y2]at h⊢;grind
def KL(s:ba):∀(d:Nat)(cur:ba)(out:List ba),∀p∈(Y2 s d cur out).1,p∈out\/p.length<=cur.length+s.length:=by
 induction s with
 |nil=>
  intro d cur out p hp;rw[Y2]at hp;grind
 |cons b r ih=>
  grind [Y2]
def XV{s p:ba}(h:p∈(Z6 s).1):p.length<=s.length:=by
 rcases KL s 0 [] [] p h with h|h
 all_goals simp_all
def Sz{ls ls':ba->Option (List Ph)}{s:ba}(h:∀s',s'.length<s.length->ls s'=ls' s'):ZS ls s=ZS ls' s:=by
 grind [ZS]
def Wy{α β:Type}{f g:α->Option β}:∀{l:List α},(∀x∈l,f x=g x)->fy f l=fy g l
 |[],_=>rfl
 |a::l,h=>by rw[fy,fy,h a dp,Wy fun x hx=>h x (dg _ hx)]
theorem Sw:∀(n m:Nat)(s:ba),s.length<n->s.length<m->Vr n s=Vr m s
 |0,_,_,h,_=>by omega
 |_+1,0,_,_,h=>by omega
 |n+1,m+1,s,h1,h2=>by
  rw[Vr,Vr];have e:fy (ZS (Vr n)) (Z6 s).1=fy (ZS (Vr m)) (Z6 s).1:=Wy fun p hp=>Sz fun s' hs=>by
   have:=XV hp;exact Sw n m s' I I
  rw[e]
def X5(s:ba):YF s=if(Z6 s).2=true then fy (ZS YF) (Z6 s).1 else none:=by
 show Vr (s.length+1) s=_;rw[Vr];have e:fy (ZS (Vr s.length)) (Z6 s).1=fy (ZS YF) (Z6 s).1:=Wy fun p hp=>Sz fun s' hs=>by
  have:=XV hp;grind [Sw]
 rw[e]
def QB{s:ba}{l:List Ph}(h:YF s=some l):0<l.length:=by
 rw[X5]at h;split at h
 ·rename_i h1;rw[Y0 h];simp_all[nz,Lf]
 cases h
def ZR:List ba->ba
 |[]=>[]
 |[p]=>p
 |p::q::ps=>p++59::ZR (q::ps)
theorem ZN{p:ba}{ps:List ba}(h:ps≠[]):ZR (p::ps)=p++59::ZR ps:=by
 cases ps with
 |nil=>simp_all
 |cons q ps=>rfl
def U1:∀(out:List ba)(a b:ba),ZR (out++[a++b])=ZR (out++[a])++b
 |[],a,b=>rfl
 |p::out,a,b=>by
  rw[md,md,ZN F,ZN F,U1 out a b];simp
theorem Ul:∀(out:List ba)(a:ba),ZR ((out++[a])++[[]])=ZR (out++[a])++[59]
 |[],a=>by rfl
 |p::out,a=>by
  have:=Ul out a;simp_all[ZN]
def Mq(s:ba):∀(d:Nat)(cur:ba)(out:List ba),(Y2 s d cur out).2=true->ZR (Y2 s d cur out).1=ZR (out++[cur])++s:=by
 induction s with
 |nil=>simp[Y2]
 |cons b r ih=>
  intro d cur out h;have key:∀d',(Y2 r d' (cur++[b]) out).2=true->ZR (Y2 r d' (cur++[b]) out).1=ZR (out++[cur])++b::r:=fun d' h=>by
   simp_all[U1]
  rw[Y2]at h⊢;split
  ·grind
  rename_i h1;rw[Zm h1]at h;split
  ·grind
  rename_i h2;rw[Zm h2]at h;split
  ·rename_i h3;rw[Zn h3]at h;grind [Ul]
  grind
def XY(p:ba):Prop:=∀(d:Nat)(cur:ba)(out:List ba)(r:ba),Y2 (p++r) d cur out=Y2 r d (cur++p) out
def S0(u:ba):Prop:=∀(d:Nat)(cur:ba)(out:List ba)(r:ba),Y2 (u++r) (d+1) cur out=Y2 r (d+1) (cur++u) out
theorem YE:∀{w:ba},(∀b∈w,b≠40/\b≠41/\b≠59)->XY w
 |[],_=>fun d cur out r=>by simp
 |b::w,h=>fun d cur out r=>by
  obtain⟨h1,h2,h3⟩:=h b dp;rw[md,Y2,Zm h1,Zm h2,Zm (fun e=>h3 e.1),YE (fun x hx=>h x (dg _ hx))];simp
def XY.one{p:ba}(h:XY p):S0 p:=fun d cur out r=>h (d+1) cur out r
def UD{a b:ba}(ha:XY a)(hb:XY b):XY (a++b):=fun d cur out r=>by
 rw[lO,ha,hb,lO]
def OY{u:ba}(h:S0 u):XY (40::(u++[41])):=fun d cur out r=>by
 rw[md,Y2,Zn rfl,lO,h,no,Y2,Zm C,Zn rfl,Zm I,Nat.add_sub_cancel];simp
def Wp:∀{L:List ba},(∀p∈L,XY p)->S0 (ZR L)
 |[],_=>fun d cur out r=>by show Y2 r _ cur out=Y2 r _ (cur++[]) out;simp
 |[p],h=>(h p dp).one
 |p::q::ps,h=>fun d cur out r=>by
  have hp:=h p dp;have ih:=Wp (L:=q::ps) fun x hx=>h x (dg _ hx)
  rw[ZN F,lO,hp,md,Y2,Zm C,Zm C,Zm I,ih];simp
def Vb:∀(L:List ba)(p cur:ba)(out:List ba),(∀q∈p::L,XY q)->Y2 (ZR (p::L)) 0 cur out=(out++(cur++p)::L,true)
 |[],p,cur,out,h=>by
  have hp:=h p dp 0 cur out [];rw[lw]at hp;show Y2 p 0 cur out=_;grind [Y2]
 |q::L,p,cur,out,h=>by
  rw[ZN F,h p dp,Y2,Zm C,Zm C,Zn ⟨rfl,rfl⟩,Vb L q [] _ fun x hx=>h x (dg _ hx)];simp
def Ends(t:ba):Prop:=t=[]\/∃b r,t=b::r/\(b=41\/b=59)
def Ends.stop{t:ba}(h:Ends t):Stop t:=by
 rcases h with rfl|⟨b,r,rfl,rfl|rfl⟩
 ·exact .inl rfl
 ·exact .inr ⟨41,r,rfl,by decide⟩
 exact .inr ⟨59,r,rfl,by decide⟩
def Close(t:ba):Prop:=t=[]\/∃r,t=41::r
def Oy(n:Nat):∀s:ba,s.length<=n->∀(l:List Ph)(t:ba),YF s=some l->Close t->iL (s++t)=((l,true),t):=by
 induction n using Nat.strongRecOn with
 |ind n IH=>
  intro s hs l t hl ht;rw[X5]at hl;split at hl
  ·rename_i hok;have hj:=Mq s 0 [] [] hok;have hne:=Lf s 0 [] [] hok;have hlen:=fun p hp=>XV (s:=s) (p:=p) hp
   have hj:ZR (Z6 s).1=s:=hj;have ph:∀p:ba,p.length<=n->∀(x:Ph)(r:ba),ZS YF p=some x->Ends r->jS (p++r)=((x,true),r):=by
    intro p hp x r hx hr;obtain⟨k,vs,hv,h⟩:=MA (fun s b hb=>QB hb) hx;rcases h with⟨h5,rfl,rfl⟩|⟨h5,u,b,rfl,hu,rfl⟩
    ·show lz iL _=_;rw[WC hv hr.stop,Zn h5]
    subst h5;have hul:u.length<n:=by grind
    have h1:=IH u.length hul u (Zq _) b (41::r) hu (.inr ⟨r,rfl⟩);show lz iL _=_;rw[show Z5 5 vs++(32::40::(u++[41]))++r=Z5 5 vs++(32::40::(u++41::r))by simp];exact Oc hv h1
   have key:∀(L:List ba)(l acc:List Ph)(m:Nat),L≠[]->(∀p∈L,p.length<=n)->fy (ZS YF) L=some l->(ZR L++t).length<m->qW m acc (ZR L++t)=((acc++l,true),t):=by
    intro L
    induction L with
    |nil=>simp
    |cons p L ihL=>
     intro l acc m _ hL hg hm;rw[fy]at hg;cases hx:ZS YF p with
     |none=>simp_all
     |some x=>
      rw[hx]at hg;dsimp only at hg;rw[mn]at hg;obtain⟨l2,h2,rfl⟩:=hg;cases L with
      |nil=>
       simp only[fy,ra]at h2;subst h2;have he:Ends t:=by
        rcases ht with rfl|⟨r,rfl⟩
        ·exact .inl rfl
        exact .inr ⟨41,r,rfl,.inl rfl⟩
       have h1:=ph p (hL p dp) x t hx he;have h59:bL [59] t=(false,t):=Nz (by
        rcases ht with rfl|⟨r,rfl⟩
        all_goals simp)
       have hm:(p++t).length<m:=hm;show qW m acc (p++t)=_;rw[CQ m acc _ hm,h1];simp_all
      |cons q L=>
       have h1:=ph p (hL p dp) x (59::(ZR (q::L)++t)) hx (.inr ⟨59,_,rfl,.inr rfl⟩);have e:ZR (p::q::L)++t=p++59::(ZR (q::L)++t):=by simp[ZN]
       have h59:bL [59] (59::(ZR (q::L)++t))=(true,ZR (q::L)++t):=W8 [59] _;rw[e]at hm⊢;rw[CQ m acc _ hm,h1];simp_all
   have h:=key (Z6 s).1 l [] ((s++t).length+1) hne (fun p hp=>gc (hlen p hp) hs) hl (by simp_all);grind
  cases hl
def Oh(n:Nat):∀s:ba,s.length<=n->∀(l:List Ph)(t:ba),iL s=((l,true),t)->∃u,s=u++t/\YF u=some l/\S0 u:=by
 induction n using Nat.strongRecOn with
 |ind n IH=>
  intro s hs l t hl;have ph:∀s:ba,s.length<=n->(jS s).1.2=true->∃p,s=p++(jS s).2/\ZS YF p=some (jS s).1.1/\XY p:=by
   intro s hs h;obtain⟨k,vs,hv,h⟩:=Ob (ls:=iL) h;rcases h with⟨h5,r,hr,hsr,he⟩|⟨h5,t,b,r,hst,hb,he⟩
   ·have he:jS s=((ZJ k vs,true),r):=he;grind [PL,YE,Yi]
   subst h5;have he:jS s=(((ZJ 5 vs).setBody b,true),r):=he;have htl:t.length<n:=by grind
   obtain⟨u,e1,e2,e3⟩:=IH t.length htl t (Zq _) b (41::r) hb;rw[he];refine⟨Z5 5 vs++(32::40::(u++[41])),?_,MB hv e2 (QB e2),?_⟩
   ·simp_all
   refine UD (YE (Yi hv)) (UD (a:=[32]) (YE (fun b hb=>?_)) (OY e3));simp_all
  have key:∀(m:Nat)(s:ba)(acc l:List Ph)(t:ba),s.length<=m->m<=n->qW (s.length+1) acc s=((l,true),t)->∃L l',l=acc++l'/\L≠[]/\s=ZR L++t/\fy (ZS YF) L=some l'/\∀p∈L,XY p:=by
   intro m
   induction m with
   |zero=>
    intro s acc l t h0 _ h;have:s=[]:=ft I;subst this;rw[CQ _ acc _ F]at h;have e:(jS []).1.2=false:=rfl;simp_all
   |succ m ihm=>
    intro s acc l t h0 hmn h;rw[CQ _ acc s (AC _)]at h;cases hp:(jS s).1.2 with
    |false=>simp_all
    |true=>
     rw[hp,Zm C]at h;obtain⟨p,e1,e2,e3⟩:=ph s I hp;cases hm:(bL [59] (jS s).2).1 with
     |false=>
      rw[hm,Zm C]at h;have hx:bL [59] (jS s).2=(false,(jS s).2):=by
       unfold bL at hm⊢;grind
      rw[hx]at h;simp only[qD,and_true]at h;obtain⟨rfl,rfl⟩:=h;refine⟨[p],[(jS s).1.1],rfl,by simp,e1,?_,fun q hq=>by grind⟩;grind [fy]
     |true=>
      rw[hm,Zn rfl]at h;have e59:=VR hm;have hlt:=mg hm C;have hle:=Gv s;obtain⟨L,l',w1,w2,w3,w4,w5⟩:=ihm _ _ _ _ I I h;refine⟨p::L,(jS s).1.1::l',by grind,by simp,?_,?_,fun q hq=>?_⟩
      ·grind [ZN]
      ·grind [fy]
      grind
  obtain⟨L,l',w1,w2,w3,w4,w5⟩:=key n s [] l t hs (Zq _) hl;rw[pt]at w1;subst w1;refine⟨ZR L,w3,?_,Wp w5⟩;cases L with
  |nil=>simp_all
  |cons p L=>
   have hpj:Z6 (ZR (p::L))=(p::L,true):=by
    simp_all[Vb]
   rw[X5,hpj,Zn rfl];exact w4
def OC(s:ba):YF s=if(iL s).1.2=true/\(iL s).2=[]then some (iL s).1.1 else none:=by
 by_cases h:(iL s).1.2=true/\(iL s).2=[]
 ·rw[Zn h];obtain⟨u,e1,e2,_⟩:=Oh s.length s (Zq _) (iL s).1.1 [] (by grind);simp_all
 rw[Zm h];cases hr:YF s with
 |none=>rfl
 |some l=>
  have h1:=Oy s.length s (Zq _) l [] hr (.inl rfl);simp_all
end Go.Proofs.YtpbalelbenmmbaaGreatDoor
namespace Go.Proofs.YtpbalelbenmmbaaGreatDoor
open Go.Ab Tryz
def pt_40{b:UInt8}{r cur:ba}{d:Nat}{out:List ba}(h:b=40):Y2 (b::r) d cur out=Y2 r (d+1) (cur++[b]) out:=Zn h
theorem KJ{b:UInt8}{r cur:ba}{d:Nat}{out:List ba}(h:b=41)(h0:d=0):Y2 (b::r) d cur out=([],false):=by subst h;exact Zn h0
theorem KI{b:UInt8}{r cur:ba}{d:Nat}{out:List ba}(h:b=41)(h0:¬d=0):Y2 (b::r) d cur out=Y2 r (d - 1) (cur++[b]) out:=by subst h;exact Zm h0
def pt_59{b:UInt8}{r cur:ba}{d:Nat}{out:List ba}(h:b=59)(h0:d=0):Y2 (b::r) d cur out=Y2 r d [] (out++[cur]):=by subst h;rw[Y2,Zm C,Zm C,Zn ⟨rfl,h0⟩]
theorem pt_o{b:UInt8}{r cur:ba}{d:Nat}{out:List ba}(h:¬b=40)(h1:¬b=41)(h2:¬(b=59/\d=0)):Y2 (b::r) d cur out=Y2 r d (cur++[b]) out:=by simp_all[Y2]
def Ya:bc->List ba->Ph->Ph×Bool
 |f::fs,w::ws,p=>if numOk w 5=true then Ya fs ws (p.Ir f (bp w))else(p,false)
 |_,_,p=>(p,true)
def Pk(w:ba)(n:Nat):Int:=match ix (fun m=>decide (w=m)) DG with
 |some k=>if k<n then(k:Int)else -1
 |none=> -1
def RU(h:ba)(b:List Ph):Ph×Bool:=match ix (fun n=>decide ((aj 32 h).getD 0 []=n)) DG with
 |none=>(.mk (-1) 0 0 0 0 b,false)
 |some k=>if decide (k=5)≠decide (0<b.length)then(.mk k 0 0 0 0 b,false)else if(aj 32 h).length≠(bB k).length+1 then(.mk k 0 0 0 0 b,false)else Ya (bB k) ((aj 32 h).drop 1) (.mk k 0 0 0 0 b)
def Ld(ls:ba->Option (List Ph))(s:ba):Ph×Bool:=match ix (fun b=>b==40) s with
 |none=>RU s []
 |some i=>if i=0\/s.getD (i - 1) 0≠32\/s.getD (s.length - 1) 0≠41 then(Ph.zero,false)else match ls ((s.take (s.length - 1)).drop (i+1))with
  |none=>(Ph.zero,false)
  |some b=>RU (s.take (i - 1)) b
def N9{α:Type}(q:α×Bool):Option α:=if q.2=true then some q.1 else none
def TP(p:Ph)(f:Nat)(n:Int)(b:List Ph):(p.Ir f n).setBody b=(p.setBody b).Ir f n:=by
 cases p;rcases(show f=1\/f=2\/f=3\/f=4\/(f≠1/\f≠2/\f≠3/\f≠4)by omega)with rfl|rfl|rfl|rfl|⟨h1,h2,h3,h4⟩
 ·rfl
 ·rfl
 ·rfl
 ·rfl
 match f,h1,h2,h3,h4 with
 |0,_,_,_,_=>rfl
 |n+5,_,_,_,_=>rfl
def XI:∀(fs:bc)(vs:bd)(p:Ph)(b:List Ph),(Yc fs vs p).setBody b=Yc fs vs (p.setBody b)
 |f::fs,v::vs,p,b=>by rw[Yc,XI fs vs,TP];rfl
 |[],_,p,b=>rfl
 |_::_,[],p,b=>rfl
def R8:∀(fs:bc)(ws:List ba)(p:Ph),ws.length=fs.length->N9 (Ya fs ws p)=(fy Xd ws).map fun vs=>Yc fs vs p
 |[],[],p,_=>rfl
 |f::fs,w::ws,p,h=>by
  by_cases hw:numOk w 5=true
  ·rw[Ya,Zn hw,R8 fs ws _ (by grind)];have h5:Xd w=some (bp w):=Zn hw;simp only[fy,h5];cases fy Xd ws<;>rfl
  have h5:Xd w=none:=Zm hw;rw[Ya,Zm hw];simp only[fy,h5];rfl
 |[],_::_,_,h=>by simp at h
 |_::_,[],_,h=>by simp at h
def NA(h:ba)(b:List Ph):Li h b=N9 (RU h b):=by
 unfold Li RU;cases ix (fun n=>decide ((aj 32 h).getD 0 []=n)) DG with
 |none=>rfl
 |some k=>
  dsimp only;split
  ·rfl
  split
  ·rfl
  rename_i h1 h2;rw[R8 _ _ _ (by simp_all)];cases fy Xd ((aj 32 h).drop 1)with
  |none=>rfl
  |some vs=>exact eQ some (XI _ _ _ _)
def Od(ls:ba->Option (List Ph))(s:ba):ZS ls s=N9 (Ld ls s):=by
 unfold ZS Ld;cases ix (fun b=>b==40) s with
 |none=>exact NA _ _
 |some i=>
  dsimp only;split
  ·rfl
  cases ls ((s.take (s.length - 1)).drop (i+1))with
  |none=>rfl
  |some b=>exact NA _ _
def Kv{α:Type}{q:α×Bool}(h:q.2=true):N9 q=some q.1:=Zn h
def Ku{α:Type}{q:α×Bool}(h:q.2=false):N9 q=none:=Zm (by grind)
abbrev V3(s:ba):Ph×Bool:=Ld YF s
def Wd(s:ba):List Ph×Bool:=match YF s with
 |some l=>(l,true)
 |none=>([],false)
def Ri{s:ba}(h:YF s=none):Wd s=([],false):=by unfold Wd;rw[h]
def Rj{s:ba}{l:List Ph}(h:YF s=some l):Wd s=(l,true):=by unfold Wd;rw[h]
def lsO_b{s:ba}(h:(Z6 s).2=false):Wd s=([],false):=by simp_all[Ri,X5]
def lsO_g{s:ba}(h:(Z6 s).2=true):YF s=fy (ZS YF) (Z6 s).1:=by rw[X5,Zn h]
def KK(s:ba):∀(d:Nat)(cur:ba)(out:List ba),(Y2 s d cur out).1.length<=out.length+s.length+1:=by
 induction s with
 |nil=>intro d cur out;show(out++[cur]).length<=_;simp
 |cons b r ih=>
  intro d cur out;have h1:=ih (d+1) (cur++[b]) out;have h2:=ih (d - 1) (cur++[b]) out;have h3:=ih d [] (out++[cur]);have h4:=ih d (cur++[b]) out;rw[Zs,pu]at h3;rw[ge,Y2];grind
def Mr{s:ba}(h:¬2000<s.length)(h2:(Wd s).2=false):iM s=([],7):=by
 refine Di h ?_;have e:=OC s;by_cases hc:(iL s).1.2=true/\(iL s).2=[]
 ·simp_all[Rj]
 grind
def Ms{s:ba}(h2:(Wd s).2=true):(iL s).1.2=true/\(iL s).2=[]/\(Wd s).1=(iL s).1.1:=by
 have e:=OC s;by_cases hc:(iL s).1.2=true/\(iL s).2=[]
 all_goals simp_all[Rj,Ri]
def Kr{k:Nat}(hk:k<6):([.str [104,101,97,116],.str [100,119,101,108,108],.str [113,117,101,110,99,104],.str [117,110,116,105,108],.str [99,111,111,108],.str [114,101,112,101,97,116]]:bi)[k]?=some (.str (SY k)):=match k,hk with
 |0,_=>rfl
 |1,_=>rfl
 |2,_=>rfl
 |3,_=>rfl
 |4,_=>rfl
 |5,_=>rfl
def RB{s:ba}(hl:s.length<=100000):Ct prog 258 [.str s] (.cf [.sl ((Z6 s).1.map fun p=>[.str p]),.bool (Z6 s).2]):=by
 refine cI func258 O (kr (kc (S.assign .none O .fW) (rr 5 O (RK.c (S.iI (k:=4) (sz:=1) .none O) (rr 15 O ?_)))));refine OK.Io [4] (fun(i:Nat)(f:Nat)(d:Nat)(out:List ba)=>[(0,.str s),(4,.own 4 out.length),(2004,.arr 1 (out.map fun p=>[.str p])),(5,bv d),(6,bv f),(7,bv i)]) (fun i f d out=>((f<=i/\i<=s.length)/\d<=i/\out.length<=i)/\Z6 s=Y2 (s.drop i) d ((s.take i).drop f) out) (fun i f d out=>s.length - i) (0) (0) (0) ([]) ⟨⟨⟨Zq _,Zr _⟩,Zq _,Zq _⟩,O⟩ ⟨O,(cw (by rfl)),(bH (by rfl)),O,O,O,Zo⟩ (fun _ _ _ _=>O) ?_;rintro i f d out ⟨⟨hi,hd,hol⟩,hD⟩;refine ro 9 O (kB O (fun c11=>?_) (fun c11=>?_))
 ·have hil:i<s.length:=by omega
  have hde:=ci hil;have htk:=wP (a:=f) hi.1 hil;refine ro 9 O (kc (S.fJ (n:=i) fR .none O (zt O) (zt O) O hil) (rr 9 O (kB O (fun c17=>?_) (fun c17=>?_))))
  ·have hb:s[i]=40:=Dt c17;have hD2:Z6 s=Y2 (s.drop (i+1)) (d+1) ((s.take (i+1)).drop f) out:=by simp_all[pt_40]
   refine Ro 13 O I (kB O (fun c39=>?_) (fun c39=>?_))
   ·omega
   refine Ro 8 O I ?_;refine Ab.D.lp ⟨i+1,f,d+1,out,⟨⟨by omega,by omega,by omega⟩,hD2⟩,I,O,(cw F),(bH F),(yL I),(yL I),O,Zo⟩
  have hb:¬s[i]=40:=fun e=>c17 (by rw[e];rfl)
  refine ro 6 O (kB O (fun c21=>?_) (fun c21=>?_))
  ·have hb1:s[i]=41:=Dt c21;refine Ro 13 O I (kB O (fun c39=>?_) (fun c39=>?_))
   ·have hT:Z6 s=([],false):=by grind [KJ]
    refine kr (kc (S.assign .none O .fW) (rr 3 O (kS O O O O ?_)));grind
   have hD2:Z6 s=Y2 (s.drop (i+1)) (d - 1) ((s.take (i+1)).drop f) out:=by grind [KI]
   refine Ro 8 O I ?_;refine Ab.D.lp ⟨i+1,f,d - 1,out,⟨⟨by omega,by omega,by omega⟩,hD2⟩,I,O,(cw F),(bH F),(yL I),(yL I),O,Zo⟩
  have hb1:¬s[i]=41:=fun e=>c21 (by rw[e];rfl)
  refine ro 6 O (kB O (fun c25=>?_) (fun c25=>?_))
  ·have hb2:s[i]=59:=Dt c25;refine ro 6 O (kB O (fun c28=>?_) (fun c28=>?_))
   ·have hD2:Z6 s=Y2 (s.drop (i+1)) d ((s.take (i+1)).drop (i+1)) (out++[((s.take i).drop f)]):=by simp_all[pt_59]
    refine ro 5 O ?_;refine kc (S.ir (lo:=f) (hi:=i) (l':=((s.take i).drop f)) fR .none O (zt O) (.inr ⟨_,_,O,(zt O),O⟩) (.inr ⟨_,_,O,(zt O),O⟩) I I O) (RK.c (zM [[_]] ZF O O O O) (kc (zP ZF O O F (by rfl) I (by grind [maxLen])) ?_));refine Rr 13 O I (kB O (fun c39=>?_) (fun c39=>?_))
    ·omega
    refine Ro 8 O I ?_;refine Ab.D.lp ⟨i+1,i+1,d,out++[((s.take i).drop f)],⟨⟨by omega,by omega,by simp_all⟩,hD2⟩,I,O,(cw F),(bH F),(yL I),(yL I),O,Zo⟩
   have hD2:Z6 s=Y2 (s.drop (i+1)) d ((s.take (i+1)).drop f) out:=by simp_all[pt_o]
   refine ro 9 O (kB O (fun c39=>?_) (fun c39=>?_))
   ·omega
   refine Ro 8 O I ?_;refine Ab.D.lp ⟨i+1,f,d,out,⟨⟨by omega,by omega,by omega⟩,hD2⟩,I,O,(cw F),(bH F),(yL I),(yL I),O,Zo⟩
  have hb2:¬s[i]=59:=fun e=>c25 (by rw[e];rfl)
  have hD2:Z6 s=Y2 (s.drop (i+1)) d ((s.take (i+1)).drop f) out:=by grind [pt_o]
  refine ro 9 O (kB O (fun c39=>?_) (fun c39=>?_))
  ·omega
  refine Ro 8 O I ?_;refine Ab.D.lp ⟨i+1,f,d,out,⟨⟨by omega,by omega,by omega⟩,hD2⟩,I,O,(cw F),(bH F),(yL I),(yL I),O,Zo⟩
 have hT:Z6 s=(out++[s.drop f],decide ((d:Int)=0)):=by rw[hD,nb (l:=s) (i:=i) I,eK I,show decide ((d:Int)=0)=decide (d=0)from decide_eq_decide.2 I];rfl
 refine ro 7 O ?_;refine kc (S.ir (lo:=f) (l':=s.drop f) fR .none O (zt O) (.inr ⟨_,_,O,(zt O),O⟩) (.inl ⟨O,O,O⟩) I I F) ?_;refine RK.c (zM [[_]] ZF O O O O) (kc (zP ZF O O F (by rfl) I (by grind [maxLen])) ?_);refine rr 6 O ?_;refine OK.ret (aA.r2 (.tmp O O (.c (.own O O F) O) O) (zo O O) ?_);grind
theorem V6{s:ba}(hl:s.length<=100000)(hp:∀q:ba,q.length<=s.length->Ct prog 259 [.str q] (.cf [.agg (V3 q).1.cx,.bool (V3 q).2])):Ct prog 203 [.str s] (.cf [.sl ((Wd s).1.map Ph.cs),.bool (Wd s).2]):=by
 refine cI func203 O fun{_ _}=>?_
 have hpc:(Z6 s).1.length<=s.length+1:=by have:=KK s 0 [] [];simp_all
 have hpl:=@XV s;refine kr (kc (S.assign .none O .fW) (rr 6 O (kc (zK (RB I) call258 O) ?_)));refine rr 11 O (kc (S.not .none O (zt O)) (kD (OK.cond O O (fun c16=>?_) (fun c16=>?_))))
 ·have hT:=lsO_b (s:=s) (by grind);refine kr (kc (S.assign .none O .fW) (rr 3 O (kS O O O O ?_)));grind
 have hpb:(Z6 s).2=true:=by grind
 have hgs:=lsO_g hpb;refine ro 4 O (RK.c (S.iI (k:=6) (sz:=6) .none O) (rr 9 O ?_));refine OK.mP [6] (fun(i:Nat)(out:List Ph)=>[(4,.sl ((Z6 s).1.map fun p=>[.str p])),(6,.own 6 out.length),(2006,.arr 6 (out.map Ph.cx)),(7,bv i)]) (fun i out=>(i<=(Z6 s).1.length/\out.length<=i)/\fy (ZS YF) (Z6 s).1=(fy (ZS YF) ((Z6 s).1.drop i)).map (out++ ·)) (fun i out=>(Z6 s).1.length - i) (0) ([]) ⟨⟨Zr _,Zq _⟩,by simp⟩ ⟨O,(cw (by rfl)),(bH (by rfl)),O,Zo⟩ (fun _ _=>O) ?_;rintro i out ⟨⟨hi,hol⟩,hg⟩;refine ro 5 O (kc (zk Z9 O) (rr 3 O (kB O (fun c20=>?_) (fun c20=>?_))))
 ·have hil:i<(Z6 s).1.length:=by omega
  refine ro 8 O (kc (zI Z9 O I O) (kc (zV Y9 O O) ?_));refine kc (zK (hp _ (hpl (Zt hil))) call259 O) ?_;refine rr 12 O (kc (S.not .none O (zt O)) (kD (OK.cond O O (fun c32=>?_) (fun c32=>?_))))
  ·have hT:Wd s=([],false):=Ri (hgs.trans (EN hg hil (by simp_all[Od,Ku])));refine kr (kc (S.assign .none O .fW) (rr 3 O (kS O O O O ?_)));grind
  have hok:(V3 (Z6 s).1[i]).2=true:=by grind
  refine ro 5 O ?_;refine RK.c (zM [[_,_,_,_,_,_]] X0 O O O O) (kc (zP X0 O O F (by rfl) I (by grind [maxLen])) ?_);refine Rr 9 O I ?_;refine Ab.D.lp ⟨i+1,out++[(V3 (Z6 s).1[i]).1],⟨⟨by omega,by simp_all⟩,EM hg hil (by rw[Od];exact Kv hok)⟩,I,O,(cw F),(bH (by rw[dE];rfl)),O,Zo⟩
 have hT:Wd s=(out,true):=Rj (hgs.trans (CM hg I));refine ro 9 O ?_;refine OK.ret (aA.r2 (.tmp O O (.c (.own O O F) O) O) (zo O O) ?_);simp_all[QY]
def PF{k:Nat}(hk:k<6):Ct prog 304 [bv k] (.str (SY k)):=by
 refine cI func304 O (ro 9 O (kc (zK gx call35 O) (kc (S.jP .none O (zt O)) (kD (kB O (fun c5=>?_) (fun c5=>?_))))))
 ·omega
 refine ro 4 O (kc (zU bu449 O O) (jm O (kc (S.GI (i:=k) underlying449 Y9 .none O (zt O) (zt O) O I (Kr hk) O) ?_)));refine rr 3 O (kR O O ?_);rfl
end Go.Proofs.YtpbalelbenmmbaaGreatDoor
namespace Go.Proofs.YtpbalelbenmmbaaGreatDoor
open Go.Ab Tryz
def ZI{α:Type}{l:List α}{i:Nat}{d:α}(h:i<l.length):l.getD i d=l[i]:=by simp_all
abbrev Lc(b:Nat)(p:Ph):HM Unit:=fun _=>some (b,.box p.cx)
theorem Yk(M:HM Unit)(b:Nat)(p:Ph):M.set () (some (b,.box p.cx))=Lc b p:=by rfl
def kUp_0(w:ba):Pk w 0= -1:=by grind [Pk]
theorem K7{w:ba}{k:Nat}(hk:k<6)(h:w=SY k):Pk w (k+1)=k:=by simp_all[Pk,N2]
def K6{w:ba}{k:Nat}(h:¬w=SY k):Pk w (k+1)=Pk w k:=by
 unfold Pk;cases e:ix (fun m=>decide (w=m)) DG with
 |none=>rfl
 |some j=>
  have hj:j≠k:=fun ej=>h (ej▸(R5 e).2)
  grind
def kUp_n{w:ba}(h:ix (fun m=>decide (w=m)) DG=none):Pk w 6= -1:=by unfold Pk;rw[h]
def kUp_s{w:ba}{k:Nat}(h:ix (fun m=>decide (w=m)) DG=some k):Pk w 6=k:=by unfold Pk;rw[h];exact Zn (R5 h).1
section
variable{h s:ba}{b:List Ph}{k i:Nat}
def hdX_k(e:ix (fun n=>decide ((aj 32 h).getD 0 []=n)) DG=none):RU h b=(.mk (-1) 0 0 0 0 b,false):=by unfold RU;rw[e]
def hdX_m(e:ix (fun n=>decide ((aj 32 h).getD 0 []=n)) DG=some k)(h1:decide (k=5)≠decide (0<b.length)):RU h b=(.mk k 0 0 0 0 b,false):=by simp_all[RU]
def hdX_l(e:ix (fun n=>decide ((aj 32 h).getD 0 []=n)) DG=some k)(h1:¬decide (k=5)≠decide (0<b.length))(h2:(aj 32 h).length≠(bB k).length+1):RU h b=(.mk k 0 0 0 0 b,false):=by simp_all[RU]
def hdX_n(e:ix (fun n=>decide ((aj 32 h).getD 0 []=n)) DG=some k)(h1:¬decide (k=5)≠decide (0<b.length))(h2:¬(aj 32 h).length≠(bB k).length+1):RU h b=Ya (bB k) ((aj 32 h).drop 1) (.mk k 0 0 0 0 b):=by simp_all[RU]
def Oe(e:ix (fun b=>b==40) s=none):V3 s=RU s []:=by unfold V3 Ld;rw[e]
def KF(e:ix (fun b=>b==40) s=some i)(h:i=0):V3 s=(Ph.zero,false):=by simp_all[Ld]
def KG(e:ix (fun b=>b==40) s=some i)(hi:i - 1<s.length)(h:¬s[i - 1]=32):V3 s=(Ph.zero,false):=by simp_all[Ld]
def KH(e:ix (fun b=>b==40) s=some i)(hi:s.length - 1<s.length)(h:¬s[s.length - 1]=41):V3 s=(Ph.zero,false):=by simp_all[Ld]
abbrev MR(s:ba)(i:Nat):ba:=(s.take (s.length - 1)).drop (i+1)
def phX_c(e:ix (fun b=>b==40) s=some i)(h0:¬i=0)(hi:i - 1<s.length)(h:s[i - 1]=32)(hl:s.length - 1<s.length)(h2:s[s.length - 1]=41):V3 s=if(Wd (MR s i)).2=true then RU (s.take (i - 1)) (Wd (MR s i)).1 else(Ph.zero,false):=by
 unfold V3 Ld;rw[e];refine(Zm ?_).trans ?_
 ·simp_all
 unfold Wd;grind
end
def uP(k:Nat):Bool:=decide (k=0\/k=3)
def uL(k:Nat):Bool:=decide (k=2\/k=4)
def uK(k:Nat):Bool:=decide (k=3\/k=4)
def uB(k:Nat):Bool:=decide (k=5)
def fK(k:Nat):bc:=if uK k=true then [4]else []
def fP(k:Nat):bc:=fK k++if uP k=true then [1]else []
def fL(k:Nat):bc:=fP k++if uL k=true then [2]else []
def fL_3{k:Nat}(h:k<6):bB k=fL k++[3]:=match k,h with
 |0,_=>rfl
 |1,_=>rfl
 |2,_=>rfl
 |3,_=>rfl
 |4,_=>rfl
 |5,_=>rfl
def fK_T{k:Nat}(h:uK k=true):fK k=[4]:=Zn h
def fK_F{k:Nat}(h:uK k=false):fK k=[]:=Zm (by grind)
def fP_T{k:Nat}(h:uP k=true):fP k=fK k++[1]:=by unfold fP;grind
def fP_F{k:Nat}(h:uP k=false):fP k=fK k:=by simp_all[fP]
def fL_T{k:Nat}(h:uL k=true):fL k=fP k++[2]:=by unfold fL;grind
def fL_F{k:Nat}(h:uL k=false):fL k=fP k:=by simp_all[fL]
def JS(k:Nat):(fK k).length<=1/\(fP k).length<=2/\(fL k).length<=3:=by
 grind [fL,fP,fK]
abbrev pR(b:Nat)(fs:bc):List bi:=fs.map fun f=>[X.raw (.pointer (some ⟨b,0+f,none⟩))]
theorem N8{k i:Nat}{ws:List ba}{p:Ph}(hi:i<(bB k).length)(hw:i+1<ws.length)(h:numOk ws[i+1] 5=true):Ya ((bB k).drop i) (ws.drop (i+1)) p=Ya ((bB k).drop (i+1)) (ws.drop (i+2)) (p.Ir (bB k)[i] (bp ws[i+1])):=by
 rw[ci hi,ci hw,Ya,Zn h]
def R9{k i:Nat}{ws:List ba}{p:Ph}(hi:i<(bB k).length)(hw:i+1<ws.length)(h:numOk ws[i+1] 5=false):Ya ((bB k).drop i) (ws.drop (i+1)) p=(p,false):=by
 rw[ci hi,ci hw,Ya,Zm (by grind)]
def LJ{p:Ph}{f:Nat}(h:1<=f/\f<=4)(n:Int):p.cx.take (0+f)++((cg (bv n)).map Fv++p.cx.drop (0+f+1))=(p.Ir f n).cx:=by
 cases p;rcases(show f=1\/f=2\/f=3\/f=4 by omega)with rfl|rfl|rfl|rfl<;>rfl
def JJ{p:Ph}{f:Nat}(h:1<=f/\f<=4):Nat.ble (0+f+1) p.cx.length=true:=by
 rcases(show f=1\/f=2\/f=3\/f=4 by omega)with rfl|rfl|rfl|rfl<;>rfl
def Mm{w:ba}(h:(iE w 5).2=true)(h0:0<=(iE w 5).1):numOk w 5=true/\(iE w 5).1=bp w:=by
 have hn:=@B4 w 5;have h1:iF w 5=true:=by simp_all
 exact⟨by simp_all[tW],by rw[hn.2 h1,yN C h1]⟩
def Qy{w:ba}(h:(iE w 5).2=false\/(iE w 5).1<0):numOk w 5=false:=by
 rw[tW w C,←(@B4 w 5).1];grind
def m5{k n:Nat}(h:decide ((k:Int)=5)=decide (0<n)):¬decide (k=5)≠decide (0<n):=by
 grind
def m5n{k n:Nat}(h:¬decide ((k:Int)=5)=decide (0<n)):decide (k=5)≠decide (0<n):=by grind
def PE{k:Nat}(h:k<6):Ct prog 305 [bv k] (.agg [.bool (uP k),.bool (uL k),.bool (uK k),.bool (uB k)]):=match k,h with
 |0,_=>ZE (k:=0)
 |1,_=>ZE (k:=1)
 |2,_=>ZE (k:=2)
 |3,_=>ZE (k:=3)
 |4,_=>ZE (k:=4)
 |5,_=>ZE (k:=5)
theorem WG{s:ba}(hl:s.length<=100000)(hls:∀q:ba,q.length<s.length->Ct prog 203 [.str q] (.cf [.sl ((Wd q).1.map Ph.cs),.bool (Wd q).2])):Ct prog 259 [.str s] (.cf [.agg (V3 s).1.cx,.bool (V3 s).2]):=by
 refine cI func259 O (OK.ug Unit (ro 16 O ?_));refine OK.join (G:=(Nat×ba×List Ph)) [2] (fun g=>[(0,.str g.2.1),(2,.ptr 2 0),(1002,.box [bv 0,bv 0,bv 0,bv 0,bv 0,.bO]),(4,.raw (pV g.1)),(3000,.res (aa (Lc g.1 (Ph.mk 0 0 0 0 0 g.2.2))))]) (fun g=>V3 s=RU g.2.1 g.2.2/\g.2.1.length<=s.length) (fun _=>O) ?_ ?_
 ·refine kO (OK.HR (cells':=Ph.zero.cx) [2] [(0,.str s),(2,.ptr 2 0),(1002,.box [bv 0,bv 0,bv 0,bv 0,bv 0,.bO])] 4 () O O O O O O ⟨O,O,O,Zo⟩ O O ⟨.inl ⟨O,O⟩,.inl ⟨O,O⟩,.inl ⟨O,O⟩,.inl ⟨O,O⟩,.inl ⟨O,O⟩,.inr ⟨O,O⟩,Zo⟩ fun b=>?_);refine ro 5 O ?_;refine OK.loop (G:=Nat) [2] (fun i=>[(0,.str s),(2,.ptr 2 0),(1002,.box [bv 0,bv 0,bv 0,bv 0,bv 0,.bO]),(4,.raw (pV b)),(6,bv i),(3000,.res (aa (Lc b (Ph.mk 0 0 0 0 0 []))))]) (fun i=>i<=s.length/\ix (fun b=>b==40) s=iR (fun b=>b==40) i (s.drop i)) (fun i=>s.length - i) 0 ⟨Zr _,O⟩ ⟨O,O,O,O,O,(Gt (Yk _ _ (Ph.mk 0 0 0 0 0 []))),Zo⟩ (fun _=>O) ?_;rintro i ⟨hi,hg⟩;refine ro 9 O (kB O (fun c19=>?_) (fun c19=>?_))
  ·have hil:i<s.length:=by omega
   refine ro 8 O (kc (S.fJ (n:=i) fR .none O (zt O) (zt O) O hil) (rr 3 O (kB O (fun c25=>?_) (fun c25=>?_))))
   ·have hb:s[i]=40:=Dt c25;have he:ix (fun b=>b==40) s=some i:=by simp_all[gL]
    refine ro 6 O (RK.bh (t:=28) O (fun g28=>?_) (fun g28=>?_))
    ·have hT:V3 s=(Ph.zero,false):=KF he I;refine rr 19 O ?_;refine kc (zJ (us:=Ph.zero.cx) Z3 O (aa.Ej (k:=()) (xs:=Ph.zero.cx) O ⟨.same _,.same _,.same _,.same _,.same _,.same _,Zo⟩ O)) ?_;refine rr 4 O (kT O O Z3 O O O ?_);rw[hT];try rfl
    have hi0:¬i=0:=by omega
    have hi1:i - 1<s.length:=by omega
    have hi2:s.length - 1<s.length:=by omega
    refine Rr 3 O I (kc (S.fJ (n:=(i - 1)) fR (zg O O) O (zt O) (zt O) I I) ?_);refine rr 3 O (RK.bh (t:=35) O (fun g35=>?_) (fun g35=>?_))
    ·have hT:V3 s=(Ph.zero,false):=KG he hi1 fun e=>g35 (by rw[e];rfl)
     refine rr 12 O ?_;refine kc (zJ (us:=Ph.zero.cx) Z3 O (aa.Ej (k:=()) (xs:=Ph.zero.cx) O ⟨.same _,.same _,.same _,.same _,.same _,.same _,Zo⟩ O)) ?_;refine rr 4 O (kT O O Z3 O O O ?_);rw[hT];try rfl
    have hb32:s[i - 1]=32:=Dt (Zu.1 g35);refine Rr 4 O I (kc (S.fJ (n:=(s.length - 1)) fR (zg O O) O (zt O) (zt O) I I) ?_);refine rr 4 O (kB O (fun c42=>?_) (fun c42=>?_))
    ·have hT:V3 s=(Ph.zero,false):=KH he hi2 fun e=>c42 (by rw[e];rfl)
     refine kr (kc (zJ (us:=Ph.zero.cx) Z3 O (aa.Ej (k:=()) (xs:=Ph.zero.cx) O ⟨.same _,.same _,.same _,.same _,.same _,.same _,Zo⟩ O)) ?_);refine rr 4 O (kT O O Z3 O O O ?_);rw[hT];try rfl
    have hb41:s[s.length - 1]=41:=Dt (Zu.1 c42);have hpc:=phX_c he hi0 hi1 hb32 hi2 hb41;have hi3:i≠s.length - 1:=fun e=>absurd (by simp_all) (show¬(41:UInt8)=40 by decide)
    have hlt:(MR s i).length<s.length:=by grind
    refine ro 3 O ?_;refine kV (.c (zm O) (.c (zm O) (.c (S.sub .none O (zt O) (.af O) (ca _ I) (ca _ I)) (.c (S.ir (hi:=(i - 1)) (l':=s.take (i - 1)) fR .none O (zt O) (.inl ⟨O,O,O⟩) (.inr ⟨_,_,O,(zt O),I⟩) (Zr _) I O) (.c (zm O) (.c (zm O) (.c (zp O O I) (.c (zm O) (.c (S.dP underlying9 .none O (zt O)) (.c (S.sub .none O (zt O) (.af O) (ca _ I) (ca _ I)) (.c (S.ir (lo:=(i+1)) (hi:=(s.length - 1)) (l':=MR s i) fR .none O (zt O) (.inr ⟨_,_,O,(zt O),O⟩) (.inr ⟨_,_,O,(zt O),I⟩) I I O) (.c (za O) (.c (za O) .nil))))))))))))) ?_;refine rd 4 O ?_;refine kc (zK (hls _ hlt) call203 O) ?_;refine rr 11 O (kc (S.not .none O (zt O)) (kD (OK.cond O O (fun c61=>?_) (fun c61=>?_))))
    ·have hT:V3 s=(Ph.zero,false):=hpc.trans (Zm (by grind));refine kr (kc (zJ (us:=Ph.zero.cx) Z3 O (aa.Ej (k:=()) (xs:=Ph.zero.cx) O ⟨.same _,.same _,.same _,.same _,.same _,.same _,Zo⟩ O)) ?_);refine rr 4 O (kT O O Z3 O O O ?_);rw[hT];try rfl
    have hT:V3 s=RU (s.take (i - 1)) (Wd (MR s i)).1:=hpc.trans (Zn (by grind));refine ro 6 O (kc (S.dc (xs:=Ph.zero.cx) (xs':=(Ph.mk 0 0 0 0 0 (Wd (MR s i)).1).cx) (()) Wn .none (zt O) (zt O) O O O O O O O) (rr 3 O ?_));refine Ab.D.lp ⟨(b,s.take (i - 1),(Wd (MR s i)).1),⟨hT,by grind⟩,O,O,O,O,(Gt (by rfl)),Zo⟩
   have hb:¬s[i]=40:=fun e=>c25 (by rw[e];rfl)
   refine Ro 8 O I (Ab.D.lp ⟨i+1,⟨by omega,by simp_all[gL]⟩,I,O,O,O,O,O,O,Zo⟩)
  have hT:V3 s=RU s []:=Oe (by rw[hg,nb I];rfl);refine OK.exit O (Ab.D.lp ⟨(b,s,[]),⟨hT,by simp⟩,O,O,O,O,(Gt (by rfl)),Zo⟩)
 rintro g ⟨hph,hgl⟩;obtain⟨b,gs,gb⟩:=g;dsimp only at hph hgl⊢;have h0:0<(aj 32 gs).length:=nz.2 (gr 32 gs);have hW:((aj 32 gs).getD 0 [])=(aj 32 gs)[0]:=ZI h0;refine ro 3 O (kc (zK (C0 (l:=gs) (c:=32) I) call68 O) ?_);refine rr 6 O (kc (S.dc (xs:=(Ph.mk 0 0 0 0 0 gb).cx) (xs':=(Ph.mk (-1) 0 0 0 0 gb).cx) (()) Z8 .none (zt O) (.af O) O O O O O O O) (rr 9 O ?_));refine OK.loop (G:=Nat) [2] (fun n=>[(2,.ptr 2 0),(1002,.box [bv 0,bv 0,bv 0,bv 0,bv 0,.bO]),(4,.raw (pV b)),(9,.sl ((aj 32 gs).map fun p=>[.str p])),(10,bv n),(3000,.res (aa (Lc b (Ph.mk (Pk ((aj 32 gs).getD 0 []) n) 0 0 0 0 gb))))]) (fun n=>n<=6) (fun n=>6 - n) 0 (Zr _) ⟨O,O,O,O,O,(Gt (by simp[kUp_0,Yk])),Zo⟩ (fun _=>O) ?_;rintro n hn;refine ro 7 O (kB O (fun c69=>?_) (fun c69=>?_))
 ·refine ro 5 O (kV (.c (zm O) (.c (S.aP (n:=0) Z9 .none O (zt O) (.af O) O h0 O) (.c (zV Y9 O O) (.c (zm O) (.c (zK (PF (k:=n) I) call304 O) (.c (S.eN .none O (zt O) (zt O)) .nil)))))) (Ab.D.code (kB O (fun c77=>?_) (fun c77=>?_))))
  ·have hw:((aj 32 gs).getD 0 [])=SY n:=hW.trans c77;refine ro 3 O (kc (S.dc (xs:=(Ph.mk (Pk ((aj 32 gs).getD 0 []) n) 0 0 0 0 gb).cx) (xs':=(Ph.mk n 0 0 0 0 gb).cx) (()) Z8 .none (zt O) (zt O) O O O O O O O) (Rr 8 O I ?_));refine Ab.D.lp ⟨n+1,I,I,O,O,O,O,O,(Gt (by grind [K7,Yk])),Zo⟩
  have hw:¬((aj 32 gs).getD 0 [])=SY n:=fun e=>c77 (hW.symm.trans e)
  refine Ro 8 O I ?_;refine Ab.D.lp ⟨n+1,I,I,O,O,O,O,O,(Gt (by simp_all[K6])),Zo⟩
 refine ro 4 O ?_;rcases hek:ix (fun m=>decide (((aj 32 gs).getD 0 [])=m)) DG with _|k
 ·rw[show n=6 by omega,kUp_n hek];have hT:=hph.trans (hdX_k hek);refine ro 2 O ?_;refine kc (zH Z8 O (aa.dQ (k:=()) O O (.same _))) ?_;refine rr 2 O (RK.bh (t:=83) O (fun g83=>?_) (fun g83=>?_))
  ·refine rr 14 O ?_;refine kc (zJ (us:=(Ph.mk (-1) 0 0 0 0 gb).cx) Z3 O (aa.Ej (k:=()) (xs:=(Ph.mk (-1) 0 0 0 0 gb).cx) O ⟨.same _,.same _,.same _,.same _,.same _,.same _,Zo⟩ O)) ?_;refine rr 4 O (kT O O Z3 O O O ?_);rw[hT];try rfl
  exact absurd (show(-1:Int)<0 by decide) g83
 rw[show n=6 by omega,kUp_s hek];have hk6:=(R5 hek).1;refine ro 2 O ?_;refine kc (zH Z8 O (aa.dQ (k:=()) O O (.same _))) ?_;refine rr 2 O (RK.bh (t:=83) O (fun g83=>?_) (fun g83=>?_))
 ·exact absurd (show((k:Nat):Int)<0 from g83) I
 refine kc (S.jC Tn (zg O O) O (zt O)) (kc (S.aG Z8 (zg O O) O (zt O) O (aa.dQ (k:=()) O O (.same _))) ?_);refine rr 2 O ?_;refine kc (S.aG Wn (zg O O) O (zt O) O (aa.dQ (k:=()) O O (.same _))) (kc (S.Hp Z2 (zg O O) O (zt O)) (kc (S.gtr (zg O O) O (zt O) (.af O)) (kc (S.bneq underlying4 (zg O O) O (zt O) (zt O)) ?_)));refine rr 3 O (kB O (fun c92=>?_) (fun c92=>?_))
 ·simp[Ph.kind,Ph.body]at c92;have hT:=hph.trans (hdX_m hek (b:=gb) (m5n c92));refine kr (kc (zJ (us:=(Ph.mk k 0 0 0 0 gb).cx) Z3 O (aa.Ej (k:=()) (xs:=(Ph.mk k 0 0 0 0 gb).cx) O ⟨.same _,.same _,.same _,.same _,.same _,.same _,Zo⟩ O)) ?_);refine rr 4 O (kT O O Z3 O O O ?_);rw[hT];try rfl
 simp[Ph.kind,Ph.body]at c92;have hm:¬decide (k=5)≠decide (0<gb.length):=m5 c92;have hfl:=JS k;refine ro 5 O ?_;refine kc (zH Z8 O (aa.dQ (k:=()) O O (.same _))) (kc (zK (PE hk6) call305 O) ?_);refine rr 6 O (RK.c (S.iI (k:=12) (sz:=1) .none O) (kD ?_));refine OK.join (G:=Unit) [12,11,2] (fun _=>[(2,.ptr 2 0),(1002,.box [bv 0,bv 0,bv 0,bv 0,bv 0,.bO]),(4,.raw (pV b)),(9,.sl ((aj 32 gs).map fun p=>[.str p])),(11,.ptr 11 0),(1011,.box [.bool (uP k),.bool (uL k),.bool (uK k),.bool (uB k)]),(12,.own 12 (fK k).length),(2012,.arr 1 (pR b (fK k))),(3000,.res (aa (Lc b (Ph.mk k 0 0 0 0 gb))))]) (fun _=>True) (fun _=>O) ?_ ?_
 ·refine ro 6 O (OK.cond O O (fun c98=>?_) (fun c98=>?_))
  ·have hFk:=fK_T c98;refine ro 3 O ?_;refine RK.c (zM [[_]] Yv O O O O) (kc (zP Yv O O F (by rfl) I (by simp[maxLen])) ?_);refine ja O (RK.nil (Ab.D.lp ⟨(),Zo,O,O,O,O,O,O,(cw (by simp[hFk])),(bH (by simp[hFk])),O,Zo⟩))
  have hFk:=fK_F c98;refine OK.skip (Ab.D.lp ⟨(),Zo,O,O,O,O,O,O,(cw (by simp[hFk])),(bH (by simp[hFk])),O,Zo⟩)
 rintro _ _;refine OK.join (G:=Unit) [12,11,2] (fun _=>[(2,.ptr 2 0),(1002,.box [bv 0,bv 0,bv 0,bv 0,bv 0,.bO]),(4,.raw (pV b)),(9,.sl ((aj 32 gs).map fun p=>[.str p])),(11,.ptr 11 0),(1011,.box [.bool (uP k),.bool (uL k),.bool (uK k),.bool (uB k)]),(12,.own 12 (fP k).length),(2012,.arr 1 (pR b (fP k))),(3000,.res (aa (Lc b (Ph.mk k 0 0 0 0 gb))))]) (fun _=>True) (fun _=>O) ?_ ?_
 ·refine ro 6 O (OK.cond O O (fun c104=>?_) (fun c104=>?_))
  ·have hFk:=fP_T c104;refine ro 3 O ?_;refine RK.c (zM [[_]] Yv O O O O) (kc (zP Yv O O F (by rfl) I (by grind [maxLen])) ?_);refine ja O (RK.nil (Ab.D.lp ⟨(),Zo,O,O,O,O,O,O,(cw (by simp[hFk])),(bH (by simp[hFk])),O,Zo⟩))
  have hFk:=fP_F c104;refine OK.skip (Ab.D.lp ⟨(),Zo,O,O,O,O,O,O,(cw (by simp[hFk])),(bH (by simp[hFk])),O,Zo⟩)
 rintro _ _;refine OK.join (G:=Unit) [12,11,2] (fun _=>[(2,.ptr 2 0),(1002,.box [bv 0,bv 0,bv 0,bv 0,bv 0,.bO]),(4,.raw (pV b)),(9,.sl ((aj 32 gs).map fun p=>[.str p])),(11,.ptr 11 0),(1011,.box [.bool (uP k),.bool (uL k),.bool (uK k),.bool (uB k)]),(12,.own 12 (fL k).length),(2012,.arr 1 (pR b (fL k))),(3000,.res (aa (Lc b (Ph.mk k 0 0 0 0 gb))))]) (fun _=>True) (fun _=>O) ?_ ?_
 ·refine ro 6 O (OK.cond O O (fun c110=>?_) (fun c110=>?_))
  ·have hFk:=fL_T c110;refine ro 3 O ?_;refine RK.c (zM [[_]] Yv O O O O) (kc (zP Yv O O F (by rfl) I (by grind [maxLen])) ?_);refine ja O (RK.nil (Ab.D.lp ⟨(),Zo,O,O,O,O,O,O,(cw (by simp[hFk])),(bH (by simp[hFk])),O,Zo⟩))
  have hFk:=fL_F c110;refine OK.skip (Ab.D.lp ⟨(),Zo,O,O,O,O,O,O,(cw (by simp[hFk])),(bH (by simp[hFk])),O,Zo⟩)
 rintro _ _;refine ro 4 O ?_;refine RK.c (zM [[_]] Yv O O O O) (kc (zP Yv O O F (by rfl) I (by grind [maxLen])) ?_);refine rr 5 O ?_;have hf3:=fL_3 hk6;have hfr:pR b (fL k)++[[X.raw (.pointer (some ⟨b,0+3,none⟩))]]=pR b (bB k):=by simp_all
 have hfn:(bB k).length=(fL k).length+1:=by simp_all
 refine OK.freeze 12 O O O F ?_;rw[hfr];refine OK.bN (jm O (kc (zk Z9 O) (jm O (kc (zk SH O) (Rr 4 O I (kB O (fun c124=>?_) (fun c124=>?_)))))))
 ·have hT:=hph.trans (hdX_l hek hm I);refine kr (kc (zJ (us:=(Ph.mk k 0 0 0 0 gb).cx) Z3 O (aa.Ej (k:=()) (xs:=(Ph.mk k 0 0 0 0 gb).cx) O ⟨.same _,.same _,.same _,.same _,.same _,.same _,Zo⟩ O)) ?_);refine rr 4 O (kT O O Z3 O O O ?_);rw[hT];try rfl
 have hln:(aj 32 gs).length=(bB k).length+1:=by omega
 have hpn:=hph.trans (hdX_n hek hm (Zp hln));refine ro 9 O ?_;refine OK.mP [2] (fun(i:Nat)(p:Ph)=>[(2,.ptr 2 0),(1002,.box [bv 0,bv 0,bv 0,bv 0,bv 0,.bO]),(4,.raw (pV b)),(9,.sl ((aj 32 gs).map fun p=>[.str p])),(12,.sl (pR b (bB k))),(13,bv i),(3000,.res (aa (Lc b p)))]) (fun i p=>i<=(bB k).length/\V3 s=Ya ((bB k).drop i) ((aj 32 gs).drop (i+1)) p) (fun i p=>(bB k).length - i) (0) ((Ph.mk k 0 0 0 0 gb)) ⟨Zr _,hpn⟩ ⟨O,O,O,O,O,O,O,Zo⟩ (fun _ _=>O) ?_;rintro i p ⟨hi,hg⟩;refine ro 5 O (kc (zk SH O) (rr 3 O (kB O (fun c129=>?_) (fun c129=>?_))))
 ·have hil:i<(bB k).length:=by omega
  have hiw:i+1<(aj 32 gs).length:=by omega
  refine Ro 9 O I (kc (S.aP (n:=(i+1)) Z9 .none O (zt O) (zt O) O hiw O) (kc (zV Y9 O O) ?_));refine kc (zK (vU (d:=5) (by have:=gH (c:=32) _ (Zt hiw);omega) C) call108 O) ?_;refine rr 11 O (kc (S.not .none O (zt O)) (jm O (RK.split (t:=143) O (fun g143=>?_) (fun g143=>?_))))
  ·have hT:=hg.trans (R9 hil hiw (Qy (.inl (by simp_all))));refine rr 8 O ?_;refine kc (zJ (us:=p.cx) Z3 O (aa.Ej (k:=()) (xs:=p.cx) O ⟨.same _,.same _,.same _,.same _,.same _,.same _,Zo⟩ O)) ?_;refine rr 4 O (kT O O Z3 O O O ?_);rw[hT];try rfl
  refine rr 5 O (kB O (fun c146=>?_) (fun c146=>?_))
  ·have hT:=hg.trans (R9 hil hiw (Qy (.inr c146)));refine kr (kc (zJ (us:=p.cx) Z3 O (aa.Ej (k:=()) (xs:=p.cx) O ⟨.same _,.same _,.same _,.same _,.same _,.same _,Zo⟩ O)) ?_);refine rr 4 O (kT O O Z3 O O O ?_);rw[hT];try rfl
  have hok:=Mm (w:=(aj 32 gs)[i+1]) (by simp_all) I;rw[hok.2];refine ro 5 O (kc (zI SH O hil O) (rr 3 O ?_));refine kc (S.dc (xs:=p.cx) (xs':=(p.Ir (bB k)[i] (bp (aj 32 gs)[i+1])).cx) (()) Z8 .none (zt O) (zt O) O O O O O (JJ (oq hil)) (LJ (oq hil) _)) ?_;refine Rr 8 O I ?_;refine Ab.D.lp ⟨i+1,(p.Ir (bB k)[i] (bp (aj 32 gs)[i+1])),⟨by omega,by grind [N8]⟩,I,O,O,O,O,O,O,(Gt (Yk _ _ _)),Zo⟩
 have hT:V3 s=(p,true):=by rw[hg,nb (l:=bB k) I];rfl
 refine ro 4 O ?_;refine kc (zJ (us:=p.cx) Z3 O (aa.Ej (k:=()) (xs:=p.cx) O ⟨.same _,.same _,.same _,.same _,.same _,.same _,Zo⟩ O)) ?_;refine rr 4 O (kT O O Z3 O O O ?_);rw[hT];try rfl
end Go.Proofs.YtpbalelbenmmbaaGreatDoor
namespace Go.Proofs.YtpbalelbenmmbaaGreatDoor
open Go.Ab Tryz
def Vk{s:ba}(hl:s.length<=100000):Ct prog 203 [.str s] (.cf [.sl ((Wd s).1.map Ph.cs),.bool (Wd s).2]):=by
 have key:∀(n:Nat)(s:ba),s.length<n->s.length<=100000->Ct prog 203 [.str s] (.cf [.sl ((Wd s).1.map Ph.cs),.bool (Wd s).2]):=by
  intro n
  induction n with
  |zero=>omega
  |succ n ih=>grind [V6,WG]
 exact key _ s (AC _) hl
def WE{s:ba}(hl:s.length<=100000):Ct prog 134 [.str s] (.cf [.sl ((iM s).1.map Ph.cs),bv (iM s).2]):=by
 refine cI func134 O (kr (kc (S.assign .none O .fW) (rr 11 O (kB O (fun c9=>?_) (fun c9=>?_)))))
 ·have hT:=GM (s:=s) I;refine kr (kc (S.assign .none O .fW) (rr 3 O (kS O O O O ?_)));simp_all
 have hn:¬2000<s.length:=by omega
 refine ro 5 O (kc (zK (Vk (s:=s) hl) call203 O) (rr 11 O (kc (S.not .none O (zt O)) (kD (OK.cond O O (fun c16=>?_) (fun c16=>?_))))))
 ·have hT:=Mr hn (by grind);refine kr (kc (S.assign .none O .fW) (rr 3 O (kS O O O O ?_)));simp_all
 obtain⟨h1,h2,h3⟩:=Ms (s:=s) (by grind);rw[h3];refine ro 6 O (kc (zK (Vi (l:=(iL s).1.1)) call204 O) (rr 9 O (kB O (fun c20=>?_) (fun c20=>?_))))
 ·have hT:=GN hn h1 h2 c20;refine ro 3 O (kc (S.assign .none O .fW) (rr 3 O (kS O O O O ?_)));simp_all
 have hT:=GO hn h1 h2 (Zu.1 c20);refine ro 9 O (kS O O O O ?_);simp_all
end Go.Proofs.YtpbalelbenmmbaaGreatDoor
namespace Go.Proofs.YtpbalelbenmmbaaGreatDoor
open Go.Ab Tryz
def X9{α:Type}(g:α->Bool)(l:List α):Int:=((l.filter g).length:Int)
def RN{α:Type}(g:α->Bool){l:List α}{i:Nat}(h:i<l.length):X9 g (l.take (i+1))=if g l[i]=true then X9 g (l.take i)+1 else X9 g (l.take i):=by
 grind [X9,List.take_succ_eq_append_getElem]
def Nf{α:Type}(g:α->Bool)(l:List α):X9 g l<=l.length:=by
 simp[X9,vd]
def T5{α:Type}(g:α->Bool){l:List α}{i:Nat}(h:i<l.length):(l.drop i).all g=(g l[i]&&(l.drop (i+1)).all g):=by
 rw[ci h,ee]
def Vf{s:State}{n:Int}:Ct prog 29 [.agg s.cs,bv n] (bv (bq (fun p:Part=>decide (p.num=n)) 0 s.parts)):=by
 refine cI func29 O (OK.Xq 0 2 (s.parts.map Part.cs) O O O fun hlen=>?_);rw[Zx]at hlen;unfold maxLen at hlen;refine ro 13 O ?_;refine OK.loop (G:=Nat) [2] (fun i=>[(2,.ptr 2 0),(1002,.box s.cs),(5,bv i),(1,bv n)]) (fun i=>i<=s.parts.length/\bq (fun p:Part=>decide (p.num=n)) 0 s.parts=bq (fun p:Part=>decide (p.num=n)) i (s.parts.drop i)) (fun i=>s.parts.length - i) 0 ⟨Zr _,O⟩ ⟨O,O,O,O,Zo⟩ (fun _=>O) ?_;rintro i ⟨hi,hg⟩;refine ro 6 O (kc (zk ZH O) (rr 3 O (kB O (fun c10=>?_) (fun c10=>?_))))
 ·have hil:i<s.parts.length:=by omega
  refine ro 9 O (kc (zI ZH O I O) ?_);refine rr 6 O (kB O (fun c20=>?_) (fun c20=>?_))
  ·refine ro 6 O (kR O O ?_);simp_all[bT]
  refine Ro 8 O I (Ab.D.lp ⟨i+1,⟨by omega,?_⟩,I,O,O,O,O,Zo⟩);simp_all[bT]
 refine ro 7 O (kR O O ?_);refine cy ?_;have:i=s.parts.length:=by omega
 subst this;rw[hg,co];rfl
def Xu{s:State}{n:ba}:Ct prog 130 [.agg s.cs,.str n] (bv (bq (fun p:o6=>decide (p.name=n)) 0 s.aC)):=by
 refine cI func130 O (OK.Xq 0 1 (s.aC.map o6.cs) O O O fun hlen=>?_);rw[Zx]at hlen;unfold maxLen at hlen;refine ro 13 O ?_;refine OK.loop (G:=Nat) [2] (fun i=>[(2,.ptr 2 0),(1002,.box s.cs),(5,bv i),(1,.str n)]) (fun i=>i<=s.aC.length/\bq (fun p:o6=>decide (p.name=n)) 0 s.aC=bq (fun p:o6=>decide (p.name=n)) i (s.aC.drop i)) (fun i=>s.aC.length - i) 0 ⟨Zr _,O⟩ ⟨O,O,O,O,Zo⟩ (fun _=>O) ?_;rintro i ⟨hi,hg⟩;refine ro 6 O (kc (zk TQ O) (rr 3 O (kB O (fun c10=>?_) (fun c10=>?_))))
 ·have hil:i<s.aC.length:=by omega
  refine ro 9 O (kc (zI TQ O I O) ?_);refine rr 6 O (kB O (fun c20=>?_) (fun c20=>?_))
  ·refine ro 6 O (kR O O ?_);simp_all[bT]
  refine Ro 8 O I (Ab.D.lp ⟨i+1,⟨by omega,?_⟩,I,O,O,O,O,Zo⟩);simp_all[bT]
 refine ro 7 O (kR O O ?_);refine cy ?_;have:i=s.aC.length:=by omega
 subst this;rw[hg,co];rfl
def YA{s:State}:Ct prog 131 [.agg s.cs] (bv (bq (fun p:Part=>decide (p.place=0)) 0 s.parts)):=by
 refine cI func131 O (OK.Xq 0 2 (s.parts.map Part.cs) O O O fun hlen=>?_);rw[Zx]at hlen;unfold maxLen at hlen;refine ro 13 O ?_;refine OK.loop (G:=Nat) [1] (fun i=>[(1,.ptr 1 0),(1001,.box s.cs),(3,bv i)]) (fun i=>i<=s.parts.length/\bq (fun p:Part=>decide (p.place=0)) 0 s.parts=bq (fun p:Part=>decide (p.place=0)) i (s.parts.drop i)) (fun i=>s.parts.length - i) 0 ⟨Zr _,O⟩ ⟨O,O,O,Zo⟩ (fun _=>O) ?_;rintro i ⟨hi,hg⟩;refine ro 6 O (kc (zk ZH O) (rr 3 O (kB O (fun c8=>?_) (fun c8=>?_))))
 ·have hil:i<s.parts.length:=by omega
  refine ro 9 O (kc (zI ZH O I O) ?_);refine rr 5 O (kB O (fun c17=>?_) (fun c17=>?_))
  ·refine ro 6 O (kR O O ?_);simp_all[bT]
  refine Ro 8 O I (Ab.D.lp ⟨i+1,⟨by omega,?_⟩,I,O,O,O,Zo⟩);simp_all[bT]
 refine ro 7 O (kR O O ?_);refine cy ?_;have:i=s.parts.length:=by omega
 subst this;rw[hg,co];rfl
def TI{s:Net}{n:ba}:Ct prog 79 [.agg s.cs,.str n] (bv (bq (fun p:bf=>decide (p.name=n)) 0 s.av)):=by
 refine cI func79 O (OK.Xq 0 0 (s.av.map bf.cs) O O O fun hlen=>?_);rw[Zx]at hlen;unfold maxLen at hlen;refine ro 13 O ?_;refine OK.loop (G:=Nat) [2] (fun i=>[(2,.ptr 2 0),(1002,.box s.cs),(5,bv i),(1,.str n)]) (fun i=>i<=s.av.length/\bq (fun p:bf=>decide (p.name=n)) 0 s.av=bq (fun p:bf=>decide (p.name=n)) i (s.av.drop i)) (fun i=>s.av.length - i) 0 ⟨Zr _,O⟩ ⟨O,O,O,O,Zo⟩ (fun _=>O) ?_;rintro i ⟨hi,hg⟩;refine ro 6 O (kc (zk Ys O) (rr 3 O (kB O (fun c10=>?_) (fun c10=>?_))))
 ·have hil:i<s.av.length:=by omega
  refine ro 9 O (kc (zI Ys O I O) ?_);refine rr 6 O (kB O (fun c20=>?_) (fun c20=>?_))
  ·refine ro 6 O (kR O O ?_);simp_all[bT]
  refine Ro 8 O I (Ab.D.lp ⟨i+1,⟨by omega,?_⟩,I,O,O,O,O,Zo⟩);simp_all[bT]
 refine ro 7 O (kR O O ?_);refine cy ?_;have:i=s.av.length:=by omega
 subst this;rw[hg,co];rfl
def XF{s:State}{n:ba}:Ct prog 135 [.agg s.cs,.str n] (bv (X9 (fun r:Rec=>decide (r.name=n)) s.yB)):=by
 refine cI func135 O (OK.Xq 0 0 (s.yB.map Rec.cs) O O O fun hlen=>?_);rw[Zx]at hlen;unfold maxLen at hlen;refine ro 18 O ?_;refine OK.loop (G:=Nat) [2] (fun i=>[(2,.ptr 2 0),(1002,.box s.cs),(1,.str n),(5,bv (X9 (fun r:Rec=>decide (r.name=n)) (s.yB.take i))),(6,bv i)]) (fun i=>i<=s.yB.length) (fun i=>s.yB.length - i) 0 (Zr _) ⟨O,O,O,O,O,Zo⟩ (fun _=>O) ?_;rintro i hi;refine ro 6 O (kc (zk PO O) (rr 3 O (kB O (fun c11=>?_) (fun c11=>?_))))
 ·have hil:i<s.yB.length:=by omega
  have hcl:=Nf (fun r:Rec=>decide (r.name=n)) (s.yB.take i);rw[gn]at hcl;have hcn:0<=X9 (fun r:Rec=>decide (r.name=n)) (s.yB.take i):=Int.natCast_nonneg _;refine ro 9 O (kc (zI PO O I O) ?_);refine rr 7 O (kB O (fun c22=>?_) (fun c22=>?_))
  ·refine Ro 12 O I ?_;refine Ab.D.lp ⟨i+1,I,I,O,O,O,(yL (by simp_all[RN])),O,Zo⟩
  refine Ro 8 O I ?_;refine Ab.D.lp ⟨i+1,I,I,O,O,O,(yL (by simp_all[RN])),O,Zo⟩
 refine ro 8 O (kR O O ?_);grind
def Wg{r:aX}:Ct prog 136 [.agg r.cs] (.bool (r.rows.all fun x=>x.known)):=by
 refine cI func136 O (OK.Xq 0 0 (r.rows.map Row.cs) O O O fun hlen=>?_);rw[Zx]at hlen;unfold maxLen at hlen;refine ro 13 O ?_;refine OK.loop (G:=Nat) [1] (fun i=>[(1,.ptr 1 0),(1001,.box r.cs),(3,bv i)]) (fun i=>i<=r.rows.length/\(r.rows.all fun x=>x.known)=((r.rows.drop i).all fun x=>x.known)) (fun i=>r.rows.length - i) 0 ⟨Zr _,O⟩ ⟨O,O,O,Zo⟩ (fun _=>O) ?_;rintro i ⟨hi,hg⟩;refine ro 6 O (kc (zk Zj O) (rr 3 O (kB O (fun c8=>?_) (fun c8=>?_))))
 ·have hil:i<r.rows.length:=by omega
  refine ro 9 O (kc (zI Zj O I O) ?_);refine rr 2 O (kc (S.not .none O (zt O)) (kD (OK.cond O O (fun c17=>?_) (fun c17=>?_))))
  ·refine ro 5 O (kR O O ?_);grind
  refine Ro 8 O I (Ab.D.lp ⟨i+1,⟨by omega,?_⟩,I,O,O,O,Zo⟩);simp_all[T5]
 refine ro 7 O (kR O O ?_);grind
def PC{p:Part}:Ct prog 30 [.agg p.cs] (.bool (Ac p)):=by
 refine cI func30 O (ro 12 O (RK.bh (t:=6) O (fun g6=>?_) (fun g6=>?_)))
 ·refine rr 4 O (RK.split (t:=10) O (fun g10=>?_) (fun g10=>?_))
  ·refine rr 5 O (RK.bh (t:=15) O (fun g15=>?_) (fun g15=>?_))
   ·refine rr 2 O (kc (S.not (zg O O) O (zt O)) (rr 4 O (kR O O ?_)));simp[Ac, *]
   refine rr 7 O (kR O O ?_);simp[Ac, *]
  refine rr 12 O (kR O O ?_);simp[Ac, *]
 refine rr 16 O (kR O O ?_);simp[Ac, *]
def Xi{p:Part}:Ct prog 132 [.agg p.cs] (.bool (gE p)):=by
 refine cI func132 O (ro 12 O (RK.bh (t:=6) O (fun g6=>?_) (fun g6=>?_)))
 ·refine rr 7 O (kR O O ?_);simp[gE, *]
 refine rr 7 O (kR O O ?_);simp[gE, *]
