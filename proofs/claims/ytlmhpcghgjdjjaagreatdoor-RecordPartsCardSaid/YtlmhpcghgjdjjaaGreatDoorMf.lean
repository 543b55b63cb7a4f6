import Derived.Test.YtlmhpcghgjdjjaaGreatDoorTp
set_option linter.all false
set_option maxHeartbeats 4000000
open List renaming length->R
namespace Go.Proofs.Z9
open Go.Ab Tryz
set_option maxRecDepth 9999
def Pw{l:ba}(h:dO 1 0 (aj 32 l)=none):aY l=(⟨0,[]⟩,7):=by
 rw[Ez (eH 32 l)]at h;split at h
 all_goals simp_all[C3,C2]
def Px{l:ba}{r:bd}(h:dO 1 0 (aj 32 l)=some r):∃v vs,r=v::vs/\aY l=(⟨v,vs⟩,0):=by
 rw[Ez (eH 32 l)]at h;split at h
 ·rename_i c;rw[M2]at h;obtain⟨vs,a,rfl⟩:=h;exact⟨_,vs,rfl,C4 c a⟩
 cases h
def Vn{l:ba}(o:R l<=100000 - 1):Ct prog 225 [.str l] (.cf [.agg (aY l).1.cs,bv (aY l).2]):=by
 refine cI func225 O fun{_ _}=>?_
 have j:=eH 32 l;have m:=n9 (c:=32) (l:=l);have f:∀w∈aj 32 l,R w<=100000:=fun w hw=>by have:=gH w hw;omega
 refine ro 9 O (kc (zK (C0 (l:=l) (c:=32) I) call82 O) ?_);refine kc (zK (vX (l:=aj 32 l) (k:=1) I C f) call83 O) ?_;refine rr 11 O (kc (S.not .none O (zt O)) (kD (OK.cond O O (fun d=>?_) (fun d=>?_))))
 ·have g:dO 1 0 (aj 32 l)=none:=by simpa using d
  have a:=Pw g;refine kr (kc (zU M4 O O) (rr 4 O (OK.ret (aA.r2 (.bG O O O O UN O (.k (.same O) (.k .bO .z))) (zo O O) ?_))));rw[a]
  all_goals rfl
 obtain⟨r,e⟩:∃r,dO 1 0 (aj 32 l)=some r:=sk.1 (by simpa using d);obtain⟨v,vs,rfl,a⟩:=Px e;rw[e];refine ro 3 O ?_;refine kV (.c (zm O) (.c (S.aP (n:=0) Z4 .none O (zt O) (.af O) O F O) (.c (zV Z8 O O) (.c (zm O) (.c (S.slice (lo:=1) (l':=vs) Z4 (fun _=>O) .none O (zt O) (.inr ⟨_,_,O,(.af O),O⟩) (.inl ⟨O,O,O⟩) F I F) (.c (zU M4 O O) (.c (zS UN O O O O O O) (.c (zi O O) .nil)))))))) ?_;refine Ab.D.code (kT O O UN O O O ?_);rw[a]
 all_goals rfl
def Ao{l:List ba}(g:R l<=100000):Ct prog 189 [.sl (l.map fun s=>[.str s])] (.sl (l.map fun s=>[.str s])):=by
 refine cI func189 O (kr (kc (S.assign .none O .fW) (rr 6 O (RK.EA (t:=3) O O fun f a=>?_))));refine kc (S.F8 underlying83 .none O (zt O)) (kD (OK.cond O O (fun d=>?_) (fun d=>?_)))
 ·refine kr (kc (S.assign .none O .fW) (kD (kR O O ?_)));rw[bα.1 (a d)];rfl
 refine ro 4 O (RK.c (zM [] XP O O O O) (jm O ?_));refine RK.c (S.mQ XP .none O (zt O) O N (zt O) (by intro q e;obtain⟨x,_,rfl⟩:=rx.1 e;rfl) (Zx ..) I (by simp only[maxLen];omega)) ?_;refine rr 3 O ?_;refine OK.ret (aA.r1 (.tmp O O (.c (.own O O N) O) O) ?_);rfl
end Go.Proofs.Z9
namespace Go.Proofs.Z9
open Go.Ab Tryz
def sX:bC:=⟨[],0⟩
def bP(l:List UInt8):bC×Int:=if iH ((aj 32 l).getD 0 [])=true∧((aj 32 l).any fun w=>decide ([]=w))=false then
    if bA ⟨(aj 32 l).drop 1,de ((aj 32 l).getD 0 [])⟩≠0 then(sX,bA ⟨(aj 32 l).drop 1,de ((aj 32 l).getD 0 [])⟩)else(⟨(aj 32 l).drop 1,de ((aj 32 l).getD 0 [])⟩,0)
 else(sX,7)
def mR{l:ba}(h:iH ((aj 32 l)[0]'(eH 32 l))=false\/((aj 32 l).any fun w=>decide ([]=w))=true):bP l=(sX,7):=by
 unfold bP;grind
def vY{l:ba}{p:bC}(a:p=⟨(aj 32 l).drop 1,de ((aj 32 l)[0]'(eH 32 l))⟩)(h:iH ((aj 32 l)[0]'(eH 32 l))=true)(c:((aj 32 l).any fun w=>decide ([]=w))=false):bP l=if bA p≠0 then(sX,bA p)else(p,0):=by
 simp_all[bP,eH]
def rX{l:ba}(A:R l<=100000 - 1):gz prog 139 [.str l] (.cf [.agg (bP l).1.cs,bv (bP l).2]):=by
 refine cT func139 O fun y=>?_
 have j:=eH 32 l;have x:=n9 (c:=32) (l:=l);have o:∀w∈aj 32 l,R w<=100000:=fun w hw=>by have:=gH w hw;omega
 refine ro 9 O (kc (zK (sY (l:=l) (c:=32) I) call186 O) ?_);refine rr 6 O (kc (S.aP (n:=0) Z2 .none O (zt O) (.af O) O j O) (kc (zV Y9 O O) ?_));refine kc (S.dB (l7 (l:=(aj 32 l)[0]) (b:=false) (o _ (Zt j))) y call187 .none O (zc O (.cons .aJ .nil)) O) ?_;refine rr 11 O (kc (S.not .none O (zt O)) (jm O (RK.split (t:=21) O (fun e=>?_) (fun e=>?_))))
 ·have d:iH (aj 32 l)[0]=false:=by rw[←uj];simpa using e
  have a:=mR (.inl d);refine rr 8 O (kc (zU M3 O O) (rr 4 O (OK.ret (aA.r2 (.bG O O O O Xs O (.k .bO (.k (.same O) .z))) (zo O O) ?_))));rw[a]
  all_goals rfl
 have d:iH (aj 32 l)[0]=true:=by rw[←uj];simpa using e
 obtain⟨u,r,q⟩:=Ce d;refine kc (S.move (zg O O) O (zt O)) (kc (S.call (mS (l:=aj 32 l) (v:=[])) call188 (zg O O) O (zc O (.cons (.bj (l:=[]) O C) .nil)) O) ?_);refine rr 3 O (OK.cond O O (fun g=>?_) (fun g=>?_))
 ·have a:=mR (.inr g);refine kr (kc (zU M3 O O) (rr 4 O (OK.ret (aA.r2 (.bG O O O O Xs O (.k .bO (.k (.same O) .z))) (zo O O) ?_))));rw[a]
  all_goals rfl
 have m:=vY rfl d g;rw[q];refine ro 5 O ?_;refine kc (S.slice (lo:=1) (l':=(aj 32 l).drop 1) Z2 (fun _=>O) .none O (zt O) (.inr ⟨_,_,O,(.af O),O⟩) (.inl ⟨O,O,O⟩) I I (by rw[List.take_length])) ?_;refine kc (zK (Ao (l:=(aj 32 l).drop 1) (by rw[vd];omega)) call189 O) ?_;refine jm O (kc (zU M3 O O) (rr 8 O (kc (zK (lH (p:=(⟨(aj 32 l).drop 1,de (aj 32 l)[0]⟩:bC))) call190 O) (rr 13 O (kB O (fun f=>?_) (fun f=>?_))))))
 ·have a:bP l=(sX,bA (⟨(aj 32 l).drop 1,de (aj 32 l)[0]⟩:bC)):=by rw[m];exact Zn f
  refine kr (kc (zU M3 O O) (rr 5 O (OK.ret (aA.r2 (.bG O O O O Xs O (.k .bO (.k (.same O) .z))) (zo O O) ?_))));rw[a]
  all_goals rfl
 have a:bP l=((⟨(aj 32 l).drop 1,de (aj 32 l)[0]⟩:bC),0):=by rw[m];exact Zm f
 refine ro 9 O (kT O O Xs O O O ?_);rw[a]
 all_goals rfl
end Go.Proofs.Z9
namespace Go.Proofs.Z9
open Go.Ab Tryz
def E5{w:ba}:dO 1 0 [w]=if iH w=true then some [de w]else none:=by
 have h:=Ez (l:=[w]) F;rw[h];rfl
def GS{l:List ba}(h:0<R l):l.take 1=[l[0]]:=by
 cases l<;>grind
def sn{l:ba}(B:R l<=100000 - 1):Ct prog 36 [.str l] (.cf [.agg (bP l).1.cs,bv (bP l).2]):=by
 refine cI func36 O fun{_ _}=>?_
 have m:=eH 32 l;have A:=n9 (c:=32) (l:=l);have r:∀w∈aj 32 l,R w<=100000:=fun w hw=>by have:=gH w hw;omega
 have f:=E5 (w:=(aj 32 l)[0]);have y:R ((aj 32 l).drop 1)<=100000:=by rw[vd];omega
 refine ro 8 O (kc (zU M3 O O) (rr 7 O (kc (zK (C0 (l:=l) (c:=32) I) call82 O) ?_)));refine rr 6 O ?_;refine kc (S.slice (hi:=1) (l':=[(aj 32 l)[0]]) Z2 (fun _=>O) .none O (zt O) (.inl ⟨O,O,O⟩) (.inr ⟨_,_,O,(.af O),O⟩) I I (by rw[aα,GS m])) ?_;refine kc (zK (vX (l:=[(aj 32 l)[0]]) (k:=1) F C (fun w hw=>by rw[pi.1 hw];exact r _ (Zt m))) call83 O) ?_;refine rr 11 O (kc (S.not .none O (zt O)) (jm O (RK.split (t:=21) O (fun d=>?_) (fun d=>?_))))
 ·have e:iH (aj 32 l)[0]=false:=by
   cases u:iH (aj 32 l)[0]with
   |false=>rfl
   |true=>rw[f,Zn u]at d;cases d
  have a:=mR (.inl e);refine rr 13 O (OK.ret (aA.r2 (.bG O O O O Xs O (.k .bO (.k (.same O) .z))) (zo O O) ?_));rw[a]
  all_goals rfl
 have e:iH (aj 32 l)[0]=true:=by
  cases u:iH (aj 32 l)[0]with
  |true=>rfl
  |false=>rw[f,u]at d;cases d
 rw[Zn e]at f;refine kc (S.move (zg O O) O (zt O)) (kc (S.call (ny (l:=aj 32 l) (s:=[])) call84 (zg O O) O (zc O (.cons (.bj (l:=[]) O C) .nil)) O) ?_);refine rr 3 O (OK.cond O O (fun j=>?_) (fun j=>?_))
 ·have a:=mR (.inr j);refine ro 7 O (OK.ret (aA.r2 (.bG O O O O Xs O (.k .bO (.k (.same O) .z))) (zo O O) ?_));rw[a]
  all_goals rfl
 have o:=vY rfl e j;rw[f];refine ro 3 O ?_;refine kV (.c (zm O) (.c (S.aP (n:=0) Z4 .none O (zt O) (.af O) O F O) (.c (zV Z8 O O) (.c (zM [] XP O O O O) (.c (zm O) (.c (S.slice (lo:=1) (l':=(aj 32 l).drop 1) Z2 (fun _=>O) .none O (zt O) (.inr ⟨_,_,O,(.af O),O⟩) (.inl ⟨O,O,O⟩) I I (by rw[List.take_length])) (.c (S.Jj (rows':=((aj 32 l).drop 1).map (fun s=>[.str s])) (S.mQ XP .none O (zt O) O N (zt O) (by intro q v;obtain⟨x,_,rfl⟩:=rx.1 v;rfl) (Zx ..) I (by simp only[maxLen];omega)) F F O O) (.c (zU M3 O O) (.c (zA (c:=8) ze85 O) (.c (zS Xs O O O O O O) .nil)))))))))) ?_;refine rd 5 O (kc (zK (w6 (p:=(⟨(aj 32 l).drop 1,de (aj 32 l)[0]⟩:bC))) call85 O) (rr 9 O (kB O (fun g=>?_) (fun g=>?_))))
 ·have a:bP l=(sX,bA (⟨(aj 32 l).drop 1,de (aj 32 l)[0]⟩:bC)):=by rw[o];exact Zn g
  refine ro 8 O (OK.ret (aA.r2 (.bG O O O O Xs O (.k .bO (.k (.same O) .z))) (zo O O) ?_));rw[a]
  all_goals rfl
 have a:bP l=((⟨(aj 32 l).drop 1,de (aj 32 l)[0]⟩:bC),0):=by rw[o];exact Zm g
 refine ro 9 O (kT O O Xs O O O ?_);rw[a]
 all_goals rfl
end Go.Proofs.Z9
namespace Go.Proofs.Z9
open Go.Ab Tryz
def Wq(v:Int):Prop:=0<=v/\R (Lib.itoa v)<=5
def N7{w:ba}(h:numOk w 5=true):Wq (bp w)/\w=Lib.itoa (bp w):=by
 unfold numOk at h;simp only[Zw,tm]at h;obtain⟨_,c,a,d⟩:=h;exact⟨⟨c,by simp_all⟩,a.symm⟩
theorem Rq{v:Int}(h:Wq v):numOk (Lib.itoa v) 5=true/\bp (Lib.itoa v)=v:=by
 have e:=uI h.1;have a:iF (Lib.itoa v) 5=true:=cN.2 ⟨by grind [tq],h.2⟩;refine⟨by simp_all[tW],?_⟩;have h0:=h.1;rw[yN I a,e,Qa];omega
theorem NF{v:Int}(h:Wq v):∀b∈Lib.itoa v,dw b=true:=by
 rw[uI h.1];exact rm.1 (uH _)
theorem Nh{b:UInt8}(h:dw b=true):cU b=false:=by
 have d:48<=b.toNat/\b.toNat<=57:=pf h;have e:∀c:UInt8,c.toNat<48\/57<c.toNat->(b==c)=false:=fun c a=>by
  grind
 simp_all[cU]
theorem Wz{v:Int}(h:Wq v):∀b∈Lib.itoa v,cU b=false:=by grind [Nh,NF]
def Stop(r:ba):Prop:=r=[]\/∃b t,r=b::t/\cU b=true
theorem SW{w r:ba}(hw:∀b∈w,cU b=false)(a:Stop r):b9 (w++r)=(w,r):=by
 have d:r.takeWhile (fun b=>!cU b)=[]/\r.dropWhile (fun b=>!cU b)=r:=by
  rcases a with rfl|⟨b,t,rfl,c⟩
  all_goals simp_all
 simp_all[b9]
def SX(s:ba):s=(b9 s).1++(b9 s).2/\Stop (b9 s).2:=by
 refine⟨(List.takeWhile_append_dropWhile ..).symm,?_⟩;show Stop (s.dropWhile fun b=>!cU b)
 induction s with
 |nil=>exact .inl rfl
 |cons b s a=>
  rw[List.dropWhile_cons];cases c:cU b with
  |true=>exact .inr ⟨b,s,rfl,c⟩
  |false=>exact a
def W8(p s:ba):bL p (p++s)=(true,s):=by
 simp[DV]
theorem VR{p s:ba}(h:(bL p s).1=true):s=p++(bL p s).2:=by
 unfold bL at h⊢;split
 ·rename_i a;rw[rG,Zw]at a;have:=pf a.2;grind [List.take_append_drop]
 simp_all
def Nz{c:UInt8}{s:ba}(h:s=[]\/∃b t,s=b::t/\b≠c):bL [c] s=(false,s):=by
 refine DW ?_;grind
def N5{v:Int}{r:ba}(h:Wq v)(a:Stop r):fY (32::(Lib.itoa v++r))=((v,true),r):=by
 have e:=W8 [32] (Lib.itoa v++r);have d:(bL [32] (32::(Lib.itoa v++r))).1=true:=rn Prod.fst e;have c:(bL [32] (32::(Lib.itoa v++r))).2=Lib.itoa v++r:=rn Prod.snd e;grind [G4,SW,Wz,Rq]
def N6{s:ba}(h:(fY s).1.2=true):∃v,Wq v/\Stop (fY s).2/\s=32::(Lib.itoa v++(fY s).2)/\(fY s).1.1=v:=by
 cases d:(bL [32] s).1 with
 |false=>simp_all[G5]
 |true=>
  rw[G4 d]at h⊢;obtain⟨c,f⟩:=N7 h;obtain⟨e,a⟩:=SX (bL [32] s).2;refine⟨_,c,a,?_,rfl⟩;grind [VR]
def Y1:bd->ba
 |[]=>[]
 |v::vs=>32::(Lib.itoa v++Y1 vs)
def Yc:bc->bd->Ph->Ph
 |f::fs,v::vs,p=>Yc fs vs (p.Ir f v)
 |_,_,p=>p
def Up(vs:bd){r:ba}(a:Stop r):Stop (Y1 vs++r):=by
 cases vs with
 |nil=>exact a
 |cons v vs=>exact .inr ⟨32,_,rfl,C⟩
def Um:∀(fs:bc)(vs:bd)(p:Ph){r:ba},R vs=R fs->(∀v∈vs,Wq v)->Stop r->eO fs p (Y1 vs++r)=(some (Yc fs vs p),r)
 |[],[],p,r,_,_,_=>rfl
 |f::fs,v::vs,p,r,hl,hv,hr=>by
  have e:Y1 (v::vs)++r=32::(Lib.itoa v++(Y1 vs++r)):=by simp[Y1]
  have c:=N5 (hv v rv) (Up vs hr);rw[e,eO,c,Zn rfl,Um fs vs (p.Ir f v) (by grind) (fun x a=>hv x (rl _ a)) hr];rfl
def Un:∀(fs:bc)(p q:Ph){s:ba},(eO fs p s).1=some q->∃vs,R vs=R fs/\(∀v∈vs,Wq v)/\s=Y1 vs++(eO fs p s).2/\q=Yc fs vs p/\(fs≠[]->Stop (eO fs p s).2)
 |[],p,q,s,h=>⟨[],rfl,(fun v l=>by cases l),rfl,(by cases h;rfl),fun h=>absurd rfl h⟩
 |f::fs,p,q,s,h=>by
  rw[eO]at h⊢;cases a:(fY s).1.2 with
  |false=>simp_all
  |true=>
   rw[a,Zn rfl]at h;rw[Zn rfl];obtain⟨v,t,j,r,e⟩:=N6 a;obtain⟨vs,d,o,n,c,m⟩:=Un fs _ q h;refine⟨v::vs,by simp[d],fun x u=>?_,?_,?_,fun _=>?_⟩
   ·grind
   ·grind [Y1]
   ·rw[c,e];rfl
   cases fs with
   |nil=>exact j
   |cons g w=>grind
def Pe(k:Nat):bB k≠[]:=by unfold bB;grind
def SY(k:Nat):ba:=DG.getD k []
def U8{k:Nat}(h:k<6):∀b∈SY k,cU b=false:=by
 match k,h with
 |0,_=>decide
 |1,_=>decide
 |2,_=>decide
 |3,_=>decide
 |4,_=>decide
 |5,_=>decide
def N2{k:Nat}(h:k<6):ix (fun n=>decide (SY k=n)) DG=some k:=by
 match k,h with
 |0,_=>rfl
 |1,_=>rfl
 |2,_=>rfl
 |3,_=>rfl
 |4,_=>rfl
 |5,_=>rfl
def R5{w:ba}{k:Nat}(h:ix (fun n=>decide (w=n)) DG=some k):k<6/\w=SY k:=by
 obtain⟨a,d⟩:=eE h;have c:w=DG[k]:=pf d;refine⟨a,?_⟩;rw[c];exact(tX a).symm
def Pm{k:Nat}(h:k<6){r:ba}(a:Stop r):cu (SY k++r)=(some k,r):=by
 unfold cu;rw[SW (U8 h) a];simp_all[N2]
def Pn{s:ba}{k:Nat}(h:(cu s).1=some k):k<6/\s=SY k++(cu s).2/\Stop (cu s).2:=by
 obtain⟨e,d⟩:=R5 h;obtain⟨c,a⟩:=SX s;refine⟨e,?_,a⟩;rw[←d];exact c
structure XC(k:Nat)(vs:bd):Prop where
 k6:k<6
 len:vs.length=(bB k).length
 num:∀v∈vs,Wq v
def Z5(k:Nat)(vs:bd):ba:=SY k++Y1 vs
def ZJ(k:Nat)(vs:bd):Ph:=Yc (bB k) vs (.mk k 0 0 0 0 [])
def WC{ls:ba->(List Ph×Bool)×ba}{k:Nat}{vs:bd}(h:XC k vs){r:ba}(a:Stop r):lz ls (Z5 k vs++r)=if k≠5 then((ZJ k vs,true),r)else if(bL [32,40] r).1=false then((Ph.zero,false),(bL [32,40] r).2)else
  if(ls (bL [32,40] r).2).1.2=true then(((ZJ k vs).setBody (ls (bL [32,40] r).2).1.1,(bL [41] (ls (bL [32,40] r).2).2).1),(bL [41] (ls (bL [32,40] r).2).2).2)else(((ZJ k vs).setBody (ls (bL [32,40] r).2).1.1,false),(ls (bL [32,40] r).2).2):=by
 have e:Z5 k vs++r=SY k++(Y1 vs++r):=by unfold Z5;simp
 have d:=Pm h.k6 (Up vs a);have c:=Um (bB k) vs (.mk k 0 0 0 0 []) h.len h.num a;unfold lz;rw[e,d];dsimp only;rw[c];rfl
def Oc{ls:ba->(List Ph×Bool)×ba}{vs:bd}(h:XC 5 vs){t r:ba}{b:List Ph}(c:ls t=((b,true),41::r)):lz ls (Z5 5 vs++(32::40::t))=(((ZJ 5 vs).setBody b,true),r):=by
 have e:=W8 [32,40] t;have a:bL [32,40] (32::40::t)=(true,t):=e;have d:bL [41] (41::r)=(true,r):=W8 [41] r;rw[WC h (.inr ⟨32,_,rfl,C⟩),Zm C,a];simp_all
def Ob{ls:ba->(List Ph×Bool)×ba}{s:ba}(h:(lz ls s).1.2=true):∃k vs,XC k vs/\((k≠5/\∃r,Stop r/\s=Z5 k vs++r/\lz ls s=((ZJ k vs,true),r))\/(k=5/\∃t b r,s=Z5 k vs++(32::40::t)/\ls t=((b,true),41::r)/\lz ls s=(((ZJ k vs).setBody b,true),r))):=by
 cases n:(cu s).1 with
 |none=>simp_all[lz]
 |some k=>
  obtain⟨k6,x,_⟩:=Pn n;cases m:(eO (bB k) (.mk k 0 0 0 0 []) (cu s).2).1 with
  |none=>
   grind [lz]
  |some p=>
   obtain⟨vs,j,g,f,w,d⟩:=Un _ _ _ m;have c:=d (Pe k);generalize (eO (bB k) (.mk k 0 0 0 0 []) (cu s).2).2=r at f c;have l:XC k vs:=⟨k6,j,g⟩;have es:s=Z5 k vs++r:=by grind [Z5]
   have e:=WC (ls:=ls) l c;rw[←es]at e;by_cases q:k=5
   ·rw[Zm (Zp q)]at e;cases hh:(bL [32,40] r).1 with
    |false=>grind
    |true=>
     rw[hh,Zm C]at e;have u:=VR hh;generalize (bL [32,40] r).2=t at e u;cases o:(ls t).1.2 with
     |false=>grind
     |true=>
      rw[o,Zn rfl]at e;rw[e]at h;have a:(bL [41] (ls t).2).1=true:=h;have v:=VR a;grind
   grind
def Y2:ba->Nat->ba->List ba->List ba×Bool
 |[],d,cur,out=>(out++[cur],decide (d=0))
 |b::r,d,cur,out=>
  if b=40 then Y2 r (d+1) (cur++[b]) out
  else if b=41 then(if d=0 then([],false)else Y2 r (d - 1) (cur++[b]) out)
  else if b=59/\d=0 then Y2 r d [] (out++[cur])
  else Y2 r d (cur++[b]) out
abbrev Z6(s:ba):List ba×Bool:=Y2 s 0 [] []
def Xd(w:ba):Option Int:=if numOk w 5=true then some (bp w)else none
def Li(h:ba)(b:List Ph):Option Ph:=match ix (fun n=>decide ((aj 32 h).getD 0 []=n)) DG with
 |none=>none
 |some k=>if decide (k=5)≠decide (0<R b)then none else if(R (aj 32 h))≠R (bB k)+1 then none else match fy Xd ((aj 32 h).drop 1)with
  |none=>none
  |some vs=>some ((ZJ k vs).setBody b)
def ZS(ls:ba->Option (List Ph))(s:ba):Option Ph:=match ix (fun b=>b==40) s with
 |none=>Li s []
 |some i=>if i=0\/s.getD (i - 1) 0≠32\/s.getD (R s - 1) 0≠41 then none else match ls ((s.take (R s - 1)).drop (i+1))with
  |none=>none
  |some b=>Li (s.take (i - 1)) b
def Vr:Nat->ba->Option (List Ph)
 |0,_=>none
 |n+1,s=>if(Z6 s).2=true then fy (ZS (Vr n)) (Z6 s).1 else none
abbrev YF(s:ba):Option (List Ph):=Vr (s.length+1) s
def Qu(p:ba)(ps:List ba):ba:=p++(ps.map fun q=>32::q).flatten
def QL:∀(l:ba){p:ba}{ps:List ba},aj 32 l=p::ps->Qu p ps=l
 |[],p,ps,h=>by
  simp only[aj,v6]at h;obtain⟨rfl,rfl⟩:=h;rfl
 |b::l,p,ps,h=>by
  obtain⟨q,a,c⟩:∃q a,aj 32 l=q::a:=by
   cases e:aj 32 l with
   |nil=>exact absurd e (gr 32 l)
   |cons q a=>simp
  have f:=QL l c;by_cases d:b=32
  ·subst d;rw[aj,Zn rfl,c]at h;simp only[v6]at h;obtain⟨rfl,rfl⟩:=h;simp_all[Qu]
  rw[l8 d c]at h;simp only[v6]at h;obtain⟨rfl,rfl⟩:=h;simp_all[Qu]
theorem Uo:∀vs:bd,((vs.map Lib.itoa).map fun q=>(32:UInt8)::q).flatten=Y1 vs
 |[]=>rfl
 |v::vs=>by
  simp only[ta,P1,Uo vs,Y1,H5]
def Uf:∀{L:List ba}{vs:bd},fy Xd L=some vs->L=vs.map Lib.itoa/\∀v∈vs,Wq v
 |[],vs,h=>by simp only[fy,bθ]at h;simp_all
 |w::L,vs,h=>by
  rw[fy]at h;unfold Xd at h;by_cases a:numOk w 5=true
  ·rw[Zn a]at h;dsimp only at h;rw[M2]at h;obtain⟨r,c,rfl⟩:=h;obtain⟨e,g⟩:=Uf (show fy Xd L=some r from c);obtain⟨f,d⟩:=N7 a;grind
  simp_all
def W6:∀{vs:bd},(∀v∈vs,Wq v)->fy Xd (vs.map Lib.itoa)=some vs
 |[],_=>rfl
 |v::vs,h=>by
  obtain⟨c,a⟩:=Rq (h v rv);rw[ta,fy,Xd,Zn c,a];dsimp only;rw[W6 fun x d=>h x (rl _ d)];rfl
def Vz:∀(w:ba)(vs:bd),32∉w->(∀v∈vs,Wq v)->aj 32 (w++Y1 vs)=w::vs.map Lib.itoa
 |w,[],hw,_=>by rw[Y1,i8];exact VA hw
 |w,v::vs,hw,hv=>by
  have a:(32:UInt8)∉Lib.itoa v:=fun d=>by
   have:=Wz (hv v rv) 32 d;exact absurd this C
  rw[Y1,Uz _ hw,Vz (Lib.itoa v) vs a fun x c=>hv x (rl _ c)];rfl
def nm_32{k:Nat}(h:k<6):(32:UInt8)∉SY k:=fun a=>absurd (U8 h 32 a) C
theorem OB{k:Nat}{vs:bd}(h:XC k vs){b:List Ph}(c:k=5↔0<R b):Li (Z5 k vs) b=some ((ZJ k vs).setBody b):=by
 have a:aj 32 (Z5 k vs)=SY k::vs.map Lib.itoa:=Vz (SY k) vs (nm_32 h.k6) h.num;unfold Li;rw[a];show(match ix (fun n=>decide (SY k=n)) DG with|none=>_|some k=>_)=_;rw[N2 h.k6];dsimp only;rw[Zm (Zp (decide_eq_decide.2 c)),Zm (by simp[h.len])];show(match fy Xd (vs.map Lib.itoa)with|none=>_|some vs=>_)=_;rw[W6 h.num]
theorem QA{h:ba}{b:List Ph}{p:Ph}(e:Li h b=some p):∃k vs,XC k vs/\h=Z5 k vs/\(k=5↔0<R b)/\p=(ZJ k vs).setBody b:=by
 unfold Li at e;obtain⟨w,a,d⟩:∃w a,aj 32 h=w::a:=by
  cases d:aj 32 h<;>grind
 rw[d]at e;have m:=QL h d;split at e
 ·cases e
 rename_i k j;obtain⟨k6,hw⟩:=R5 j;have hw:w=SY k:=hw;by_cases c:decide (k=5)≠decide (0<R b)
 ·simp_all
 rw[Zm c]at e;have c:decide (k=5)=decide (0<R b):=Zu.1 c;by_cases l:R (w::a)≠R (bB k)+1
 ·simp_all
 rw[Zm l]at e;have e:(match fy Xd a with|none=>none|some vs=>some ((ZJ k vs).setBody b))=some p:=e;cases f:fy Xd a with
 |none=>simp_all
 |some vs=>
  rw[f]at e;obtain⟨g1,g2⟩:=Uf f;have g:R vs=R (bB k):=by
   simp_all
  refine⟨k,vs,⟨k6,g,g2⟩,?_,decide_eq_decide.1 c,?_⟩
  all_goals grind [Qu,Z5,Uo]
theorem ix_40{a t:ba}(f:∀b∈a,b≠40):ix (fun b=>b==40) (a++40::t)=some (R a):=by
 have key:∀(a:ba)(k:Nat),(∀b∈a,b≠40)->iR (fun b=>b==40) k (a++40::t)=some (k+R a):=by
  intro a
  induction a with
  |nil=>simp[iR]
  |cons b a c=>
   intro k h;have e:(b==40)=false:=by simp_all
   rw[H5,iR,e,Zm C,c (k+1) fun x d=>h x (rl _ d),tt];grind
 simp_all
theorem Md{a:ba}(c:∀b∈a,b≠40):ix (fun b=>b==40) a=none:=by simp_all[YO]
def U_:∀{vs:bd},(∀v∈vs,Wq v)->∀b∈Y1 vs,b≠40/\b≠41/\b≠59
 |[],_,b,a=>by cases a
 |v::vs,h,b,a=>by
  rw[Y1,sf,List.mem_append]at a;rcases a with rfl|a|a
  ·decide
  ·have d:=Wz (h v rv) b a;refine⟨fun e=>?_,fun e=>?_,fun e=>?_⟩<;>subst e<;>exact absurd d C
  exact U_ (fun x c=>h x (rl _ c)) b a
theorem Yi{k:Nat}{vs:bd}(h:XC k vs):∀b∈Z5 k vs,b≠40/\b≠41/\b≠59:=by
 intro b a;rcases List.mem_append.1 a with a|a
 ·have c:=U8 h.k6 b a;refine⟨fun e=>?_,fun e=>?_,fun e=>?_⟩<;>subst e<;>exact absurd c C
 exact U_ h.num b a
def PN(p:Ph)(f:Nat)(n:Int):(p.Ir f n).body=p.body:=by
 cases p with
 |mk k w l t e b=>
  match f with
  |0=>rfl
  |1=>rfl
  |2=>rfl
  |3=>rfl
  |4=>rfl
  |f+5=>rfl
theorem Wk{k:Nat}{vs:bd}:(ZJ k vs).setBody []=ZJ k vs:=by
 have key:∀(fs:bc)(vs:bd)(p:Ph),p.body=[]->(Yc fs vs p).body=[]:=by
  intro fs
  induction fs with
  |nil=>simp[Yc]
  |cons f fs a=>
   intro vs p h;cases vs with
   |nil=>grind [Yc]
   |cons v vs=>
    simp_all[Yc,PN]
 have h:=key (bB k) vs (.mk k 0 0 0 0 []) rfl;show(ZJ k vs).setBody []=ZJ k vs;have h:(ZJ k vs).body=[]:=h;revert h;generalize ZJ k vs=p;cases p;intro h;have h:_=[]:=h;simp only[Ph.body]at h;subst h;rfl
theorem PL{ls:ba->Option (List Ph)}{k:Nat}{vs:bd}(h:XC k vs)(a:k≠5):ZS ls (Z5 k vs)=some (ZJ k vs):=by
 grind [ZS,Md,Yi,OB,Wk]
def MB{ls:ba->Option (List Ph)}{vs:bd}(h:XC 5 vs){u:ba}{b:List Ph}(a:ls u=some b)(h0:0<R b):ZS ls (Z5 5 vs++(32::40::(u++[41])))=some ((ZJ 5 vs).setBody b):=by
 have e:Z5 5 vs++(32::40::(u++[41]))=(Z5 5 vs++[32])++40::(u++[41]):=F
 have hi:ix (fun b=>b==40) (Z5 5 vs++(32::40::(u++[41])))=some (R (Z5 5 vs)+1):=by
  grind [ix_40,Yi]
 have hlen:R (Z5 5 vs++(32::40::(u++[41])))=R (Z5 5 vs)+R u+3:=by simp;omega
 unfold ZS;rw[hi];dsimp only;rw[Zm]
 ·have c:((Z5 5 vs++(32::40::(u++[41]))).take (R (Z5 5 vs++(32::40::(u++[41]))) - 1)).drop (R (Z5 5 vs)+1+1)=u:=by
   rw[hlen,show Z5 5 vs++(32::40::(u++[41]))=(Z5 5 vs++(32::40::u))++[41]by simp,aε (by simp;omega),sg (by simp;omega),
    show Z5 5 vs++(32::40::u)=(Z5 5 vs++[32,40])++u by simp,List.drop_append_of_le_length F,ut F]
   rfl
  rw[c,a];dsimp only;rw[show(R (Z5 5 vs))+1 - 1=R (Z5 5 vs) by omega,aε (Zq _),List.take_length];exact OB h ⟨fun _=>h0,fun _=>rfl⟩
 simp
def MA{ls:ba->Option (List Ph)}(a:∀s b,ls s=some b->0<R b){s:ba}{p:Ph}(e:ZS ls s=some p):∃k vs,XC k vs/\((k≠5/\s=Z5 k vs/\p=ZJ k vs)\/(k=5/\∃u b,s=Z5 k vs++(32::40::(u++[41]))/\ls u=some b/\p=(ZJ k vs).setBody b)):=by
 unfold ZS at e;split at e
 ·grind [QA,Wk]
 rename_i i hi;by_cases c:i=0\/s.getD (i - 1) 0≠32\/s.getD (R s - 1) 0≠41
 ·simp_all
 rw[Zm c]at e;simp only[eη,Zu]at c;obtain⟨m,r,o⟩:=c;obtain⟨l,d⟩:=eE hi;have d:s[i]=40:=by grind
 split at e
 ·cases e
 rename_i b f;obtain⟨k,vs,w,v,t,q⟩:=QA e;have n:k=5:=t.2 (a _ _ f);refine⟨k,vs,w,.inr ⟨n,_,b,?_,f,q⟩⟩;have g:i+1<R s:=by
  grind
 rw[←v];refine P2 fun j=>?_
 rcases Nat.lt_trichotomy j (i - 1)with hj|hj|hj
 ·grind
 ·grind
 rw[aκ (by grind),sc,show min (i - 1) (R s)=i - 1 by omega];grind
def Lf(s:ba):∀(d:Nat)(a:ba)(out:List ba),(Y2 s d a out).2=true->(Y2 s d a out).1≠[]:=by
 induction s with
 |nil=>simp[Y2]
 |cons b r c=>
  intro d a out h;rw[Y2]at h⊢;grind
def KL(s:ba):∀(d:Nat)(a:ba)(out:List ba),∀p∈(Y2 s d a out).1,p∈out\/R p<=R a+R s:=by
 induction s with
 |nil=>
  intro d a out p c;rw[Y2]at c;grind
 |cons b r e=>
  grind [Y2]
def XV{s p:ba}(h:p∈(Z6 s).1):R p<=R s:=by
 rcases KL s 0 [] [] p h with h|h
 all_goals simp_all
def Sz{ls a:ba->Option (List Ph)}{s:ba}(h:∀c,R c<R s->ls c=a c):ZS ls s=ZS a s:=by
 grind [ZS]
def Wy{α β:Type}{f g:α->Option β}:∀{l:List α},(∀x∈l,f x=g x)->fy f l=fy g l
 |[],_=>rfl
 |a::l,h=>by rw[fy,fy,h a rv,Wy fun x c=>h x (rl _ c)]
theorem Sw:∀(n m:Nat)(s:ba),R s<n->R s<m->Vr n s=Vr m s
 |0,_,_,h,_=>by omega
 |_+1,0,_,_,h=>by omega
 |n+1,m+1,s,h1,h2=>by
  rw[Vr,Vr];have e:fy (ZS (Vr n)) (Z6 s).1=fy (ZS (Vr m)) (Z6 s).1:=Wy fun p c=>Sz fun a d=>by
   have:=XV c;exact Sw n m a I I
  rw[e]
def X5(s:ba):YF s=if(Z6 s).2=true then fy (ZS YF) (Z6 s).1 else none:=by
 show Vr (R s+1) s=_;rw[Vr];have e:fy (ZS (Vr (R s))) (Z6 s).1=fy (ZS YF) (Z6 s).1:=Wy fun p a=>Sz fun c d=>by
  have:=XV a;grind [Sw]
 rw[e]
def QB{s:ba}{l:List Ph}(h:YF s=some l):0<R l:=by
 rw[X5]at h;split at h
 ·rename_i a;rw[Y0 h];simp_all[aη,Lf]
 cases h
def ZR:List ba->ba
 |[]=>[]
 |[p]=>p
 |p::q::ps=>p++59::ZR (q::ps)
theorem ZN{p:ba}{ps:List ba}(h:ps≠[]):ZR (p::ps)=p++59::ZR ps:=by
 cases ps with
 |nil=>simp_all
 |cons q ps=>rfl
def U1:∀(out:List ba)(a b:ba),ZR (out++[a++b])=ZR (out++[a])++b
 |[],a,b=>rfl
 |p::out,a,b=>by
  rw[H5,H5,ZN F,ZN F,U1 out a b];simp
theorem Ul:∀(out:List ba)(a:ba),ZR ((out++[a])++[[]])=ZR (out++[a])++[59]
 |[],a=>by rfl
 |p::out,a=>by
  have:=Ul out a;simp_all[ZN]
def Mq(s:ba):∀(d:Nat)(a:ba)(out:List ba),(Y2 s d a out).2=true->ZR (Y2 s d a out).1=ZR (out++[a])++s:=by
 induction s with
 |nil=>simp[Y2]
 |cons b r j=>
  intro d a out h;have key:∀c,(Y2 r c (a++[b]) out).2=true->ZR (Y2 r c (a++[b]) out).1=ZR (out++[a])++b::r:=fun c h=>by
   simp_all[U1]
  rw[Y2]at h⊢;split
  ·grind
  rename_i g;rw[Zm g]at h;split
  ·grind
  rename_i f;rw[Zm f]at h;split
  ·rename_i e;rw[Zn e]at h;grind [Ul]
  grind
def XY(p:ba):Prop:=∀(d:Nat)(a:ba)(out:List ba)(r:ba),Y2 (p++r) d a out=Y2 r d (a++p) out
def S0(u:ba):Prop:=∀(d:Nat)(a:ba)(out:List ba)(r:ba),Y2 (u++r) (d+1) a out=Y2 r (d+1) (a++u) out
theorem YE:∀{w:ba},(∀b∈w,b≠40/\b≠41/\b≠59)->XY w
 |[],_=>fun d a out r=>by simp
 |b::w,h=>fun d a out r=>by
  obtain⟨j,g,f⟩:=h b rv;rw[H5,Y2,Zm j,Zm g,Zm (fun e=>f e.1),YE (fun x c=>h x (rl _ c))];simp
def XY.one{p:ba}(h:XY p):S0 p:=fun d a out r=>h (d+1) a out r
def UD{a b:ba}(e:XY a)(c:XY b):XY (a++b):=fun d f out r=>by
 rw[m7,e,c,m7]
def OY{u:ba}(h:S0 u):XY (40::(u++[41])):=fun d a out r=>by
 rw[H5,Y2,Zn rfl,m7,h,aδ,Y2,Zm C,Zn rfl,Zm I,Nat.add_sub_cancel];simp
def Wp:∀{L:List ba},(∀p∈L,XY p)->S0 (ZR L)
 |[],_=>fun d a out r=>by show Y2 r _ a out=Y2 r _ (a++[]) out;simp
 |[p],h=>(h p rv).one
 |p::q::ps,h=>fun d a out r=>by
  have f:=h p rv;have c:=Wp (L:=q::ps) fun x e=>h x (rl _ e)
  rw[ZN F,m7,f,H5,Y2,Zm C,Zm C,Zm I,c];simp
def Vb:∀(L:List ba)(p a:ba)(out:List ba),(∀q∈p::L,XY q)->Y2 (ZR (p::L)) 0 a out=(out++(a++p)::L,true)
 |[],p,a,out,h=>by
  have d:=h p rv 0 a out [];rw[i8]at d;show Y2 p 0 a out=_;grind [Y2]
 |q::L,p,a,out,h=>by
  rw[ZN F,h p rv,Y2,Zm C,Zm C,Zn ⟨rfl,rfl⟩,Vb L q [] _ fun x c=>h x (rl _ c)];simp
def Ends(t:ba):Prop:=t=[]\/∃b r,t=b::r/\(b=41\/b=59)
def Ends.stop{t:ba}(h:Ends t):Stop t:=by
 rcases h with rfl|⟨b,r,rfl,rfl|rfl⟩
 ·exact .inl rfl
 ·exact .inr ⟨41,r,rfl,C⟩
 exact .inr ⟨59,r,rfl,C⟩
def Close(t:ba):Prop:=t=[]\/∃r,t=41::r
def Oy(n:Nat):∀s:ba,R s<=n->∀(l:List Ph)(t:ba),YF s=some l->Close t->iL (s++t)=((l,true),t):=by
 induction n using Nat.strongRecOn with
 |ind n N=>
  intro s I l t v C;rw[X5]at v;split at v
  ·rename_i d;have D:=Mq s 0 [] [] d;have y:=Lf s 0 [] [] d;have hlen:=fun p o=>XV (s:=s) (p:=p) o
   have D:ZR (Z6 s).1=s:=D;have ph:∀p:ba,R p<=n->∀(x:Ph)(r:ba),ZS YF p=some x->Ends r->jS (p++r)=((x,true),r):=by
    intro p o x r c J;obtain⟨k,vs,B,h⟩:=MA (fun s b M=>QB M) c;rcases h with⟨A,rfl,rfl⟩|⟨A,u,b,rfl,H,rfl⟩
    ·show lz iL _=_;rw[WC B J.stop,Zn A]
    subst A;have w:R u<n:=by grind
    have j:=N (R u) w u (Zq _) b (41::r) H (.inr ⟨r,rfl⟩);show lz iL _=_;rw[show Z5 5 vs++(32::40::(u++[41]))++r=Z5 5 vs++(32::40::(u++41::r))by simp];exact Oc B j
   have key:∀(L:List ba)(l a:List Ph)(m:Nat),L≠[]->(∀p∈L,R p<=n)->fy (ZS YF) L=some l->R (ZR L++t)<m->qW m a (ZR L++t)=((a++l,true),t):=by
    intro L
    induction L with
    |nil=>simp
    |cons p L G=>
     intro l a m _ E g f;rw[fy]at g;cases c:ZS YF p with
     |none=>simp_all
     |some x=>
      rw[c]at g;dsimp only at g;rw[M2]at g;obtain⟨O,F,rfl⟩:=g;cases L with
      |nil=>
       simp only[fy,bθ]at F;subst F;have K:Ends t:=by
        rcases C with rfl|⟨r,rfl⟩
        ·exact .inl rfl
        exact .inr ⟨41,r,rfl,.inl rfl⟩
       have j:=ph p (E p rv) x t c K;have z:bL [59] t=(false,t):=Nz (by
        rcases C with rfl|⟨r,rfl⟩
        all_goals simp)
       have f:R (p++t)<m:=f;show qW m a (p++t)=_;rw[CQ m a _ f,j];simp_all
      |cons q L=>
       have j:=ph p (E p rv) x (59::(ZR (q::L)++t)) c (.inr ⟨59,_,rfl,.inr rfl⟩);have e:ZR (p::q::L)++t=p++59::(ZR (q::L)++t):=by simp[ZN]
       have z:bL [59] (59::(ZR (q::L)++t))=(true,ZR (q::L)++t):=W8 [59] _;rw[e]at f⊢;rw[CQ m a _ f,j];simp_all
   have h:=key (Z6 s).1 l [] (R (s++t)+1) y (fun p o=>ce (hlen p o) I) v (by simp_all);grind
  cases v
def Oh(n:Nat):∀s:ba,R s<=n->∀(l:List Ph)(t:ba),iL s=((l,true),t)->∃u,s=u++t/\YF u=some l/\S0 u:=by
 induction n using Nat.strongRecOn with
 |ind n W=>
  intro s D l t U;have ph:∀s:ba,R s<=n->(jS s).1.2=true->∃p,s=p++(jS s).2/\ZS YF p=some (jS s).1.1/\XY p:=by
   intro s D h;obtain⟨k,vs,B,h⟩:=Ob (ls:=iL) h;rcases h with⟨H,r,X,P,d⟩|⟨H,t,b,r,O,G,d⟩
   ·have d:jS s=((ZJ k vs,true),r):=d;grind [PL,YE,Yi]
   subst H;have d:jS s=(((ZJ 5 vs).setBody b,true),r):=d;have v:R t<n:=by grind
   obtain⟨u,K,x,J⟩:=W (R t) v t (Zq _) b (41::r) G;rw[d];refine⟨Z5 5 vs++(32::40::(u++[41])),?_,MB B x (QB x),?_⟩
   ·simp_all
   refine UD (YE (Yi B)) (UD (a:=[32]) (YE (fun b G=>?_)) (OY J));simp_all
  have key:∀(m:Nat)(s:ba)(c l:List Ph)(t:ba),R s<=m->m<=n->qW (R s+1) c s=((l,true),t)->∃L f,l=c++f/\L≠[]/\s=ZR L++t/\fy (ZS YF) L=some f/\∀p∈L,XY p:=by
   intro m
   induction m with
   |zero=>
    intro s c l t h0 _ h;have:s=[]:=tz I;subst this;rw[CQ _ c _ F]at h;have e:(jS []).1.2=false:=rfl;simp_all
   |succ m o=>
    intro s c l t h0 S h;rw[CQ _ c s (cπ _)]at h;cases E:(jS s).1.2 with
    |false=>simp_all
    |true=>
     rw[E,Zm C]at h;obtain⟨p,K,x,J⟩:=ph s I E;cases g:(bL [59] (jS s).2).1 with
     |false=>
      rw[g,Zm C]at h;have N:bL [59] (jS s).2=(false,(jS s).2):=by
       unfold bL at g⊢;grind
      rw[N]at h;simp only[aψ,and_true]at h;obtain⟨rfl,rfl⟩:=h;refine⟨[p],[(jS s).1.1],rfl,F,K,?_,fun q Q=>by grind⟩;grind [fy]
     |true=>
      rw[g,Zn rfl]at h;have V:=VR g;have T:=mg g C;have hle:=Gv s;obtain⟨L,f,j,M,A,z,y⟩:=o _ _ _ _ I I h;refine⟨p::L,(jS s).1.1::f,by grind,F,?_,?_,fun q Q=>?_⟩
      ·grind [ZN]
      ·grind [fy]
      grind
  obtain⟨L,f,j,M,A,z,y⟩:=key n s [] l t D (Zq _) U;rw[bε]at j;subst j;refine⟨ZR L,A,?_,Wp y⟩;cases L with
  |nil=>simp_all
  |cons p L=>
   have w:Z6 (ZR (p::L))=(p::L,true):=by
    simp_all[Vb]
   rw[X5,w,Zn rfl];exact z
def OC(s:ba):YF s=if(iL s).1.2=true/\(iL s).2=[]then some (iL s).1.1 else none:=by
 by_cases h:(iL s).1.2=true/\(iL s).2=[]
 ·rw[Zn h];obtain⟨u,e,d,_⟩:=Oh (R s) s (Zq _) (iL s).1.1 [] (by grind);simp_all
 rw[Zm h];cases a:YF s with
 |none=>rfl
 |some l=>
  have c:=Oy (R s) s (Zq _) l [] a (.inl rfl);simp_all
end Go.Proofs.Z9
namespace Go.Proofs.Z9
open Go.Ab Tryz
def pt_40{b:UInt8}{r cur:ba}{d:Nat}{out:List ba}(h:b=40):Y2 (b::r) d cur out=Y2 r (d+1) (cur++[b]) out:=Zn h
def KJ{b:UInt8}{r cur:ba}{d:Nat}{out:List ba}(h:b=41)(h0:d=0):Y2 (b::r) d cur out=([],false):=by subst h;exact Zn h0
def KI{b:UInt8}{r cur:ba}{d:Nat}{out:List ba}(h:b=41)(h0:¬d=0):Y2 (b::r) d cur out=Y2 r (d - 1) (cur++[b]) out:=by subst h;exact Zm h0
def pt_59{b:UInt8}{r cur:ba}{d:Nat}{out:List ba}(h:b=59)(h0:d=0):Y2 (b::r) d cur out=Y2 r d [] (out++[cur]):=by subst h;rw[Y2,Zm C,Zm C,Zn ⟨rfl,h0⟩]
def pt_o{b:UInt8}{r cur:ba}{d:Nat}{out:List ba}(h:¬b=40)(c:¬b=41)(a:¬(b=59/\d=0)):Y2 (b::r) d cur out=Y2 r d (cur++[b]) out:=by simp_all[Y2]
def Ya:bc->List ba->Ph->Ph×Bool
 |f::fs,w::ws,p=>if numOk w 5=true then Ya fs ws (p.Ir f (bp w))else(p,false)
 |_,_,p=>(p,true)
def Pk(w:ba)(n:Nat):Int:=match ix (fun m=>decide (w=m)) DG with
 |some k=>if k<n then(k:Int)else -1
 |none=> -1
def RU(h:ba)(b:List Ph):Ph×Bool:=match ix (fun n=>decide ((aj 32 h).getD 0 []=n)) DG with
 |none=>(.mk (-1) 0 0 0 0 b,false)
 |some k=>if decide (k=5)≠decide (0<R b)then(.mk k 0 0 0 0 b,false)else if(R (aj 32 h))≠R (bB k)+1 then(.mk k 0 0 0 0 b,false)else Ya (bB k) ((aj 32 h).drop 1) (.mk k 0 0 0 0 b)
def Ld(ls:ba->Option (List Ph))(s:ba):Ph×Bool:=match ix (fun b=>b==40) s with
 |none=>RU s []
 |some i=>if i=0\/s.getD (i - 1) 0≠32\/s.getD (R s - 1) 0≠41 then(Ph.zero,false)else match ls ((s.take (R s - 1)).drop (i+1))with
  |none=>(Ph.zero,false)
  |some b=>RU (s.take (i - 1)) b
def N9{α:Type}(q:α×Bool):Option α:=if q.2=true then some q.1 else none
def TP(p:Ph)(f:Nat)(n:Int)(b:List Ph):(p.Ir f n).setBody b=(p.setBody b).Ir f n:=by
 cases p;rcases(show f=1\/f=2\/f=3\/f=4\/(f≠1/\f≠2/\f≠3/\f≠4)by omega)with rfl|rfl|rfl|rfl|⟨h1,h2,h3,h4⟩
 ·rfl
 ·rfl
 ·rfl
 ·rfl
 match f,h1,h2,h3,h4 with
 |0,_,_,_,_=>rfl
 |n+5,_,_,_,_=>rfl
def XI:∀(fs:bc)(vs:bd)(p:Ph)(b:List Ph),(Yc fs vs p).setBody b=Yc fs vs (p.setBody b)
 |f::fs,v::vs,p,b=>by rw[Yc,XI fs vs,TP];rfl
 |[],_,p,b=>rfl
 |_::_,[],p,b=>rfl
def R8:∀(fs:bc)(a:List ba)(p:Ph),R a=R fs->N9 (Ya fs a p)=(fy Xd a).map fun vs=>Yc fs vs p
 |[],[],p,_=>rfl
 |f::fs,w::a,p,h=>by
  by_cases hw:numOk w 5=true
  ·rw[Ya,Zn hw,R8 fs a _ (by grind)];have c:Xd w=some (bp w):=Zn hw;simp only[fy,c];cases fy Xd a<;>rfl
  have c:Xd w=none:=Zm hw;rw[Ya,Zm hw];simp only[fy,c];rfl
 |[],_::_,_,h=>by simp at h
 |_::_,[],_,h=>by simp at h
def NA(h:ba)(b:List Ph):Li h b=N9 (RU h b):=by
 unfold Li RU;cases ix (fun n=>decide ((aj 32 h).getD 0 []=n)) DG with
 |none=>rfl
 |some k=>
  dsimp only;split
  ·rfl
  split
  ·rfl
  rename_i c a;rw[R8 _ _ _ (by simp_all)];cases fy Xd ((aj 32 h).drop 1)with
  |none=>rfl
  |some vs=>exact rn some (XI _ _ _ _)
def Od(ls:ba->Option (List Ph))(s:ba):ZS ls s=N9 (Ld ls s):=by
 unfold ZS Ld;cases ix (fun b=>b==40) s with
 |none=>exact NA _ _
 |some i=>
  dsimp only;split
  ·rfl
  cases ls ((s.take (R s - 1)).drop (i+1))with
  |none=>rfl
  |some b=>exact NA _ _
def Kv{α:Type}{q:α×Bool}(h:q.2=true):N9 q=some q.1:=Zn h
def Ku{α:Type}{q:α×Bool}(h:q.2=false):N9 q=none:=Zm (by grind)
abbrev V3(s:ba):Ph×Bool:=Ld YF s
def Wd(s:ba):List Ph×Bool:=match YF s with
 |some l=>(l,true)
 |none=>([],false)
def Ri{s:ba}(h:YF s=none):Wd s=([],false):=by unfold Wd;rw[h]
def Rj{s:ba}{l:List Ph}(h:YF s=some l):Wd s=(l,true):=by unfold Wd;rw[h]
def lsO_b{s:ba}(h:(Z6 s).2=false):Wd s=([],false):=by simp_all[Ri,X5]
def lsO_g{s:ba}(h:(Z6 s).2=true):YF s=fy (ZS YF) (Z6 s).1:=by rw[X5,Zn h]
def KK(s:ba):∀(d:Nat)(a:ba)(out:List ba),R (Y2 s d a out).1<=R out+R s+1:=by
 induction s with
 |nil=>intro d a out;show(R (out++[a]))<=_;simp
 |cons b r c=>
  intro d a out;have j:=c (d+1) (a++[b]) out;have g:=c (d - 1) (a++[b]) out;have e:=c d [] (out++[a]);have f:=c d (a++[b]) out;rw[Zs,R0]at e;rw[tt,Y2];grind
def Mr{s:ba}(h:¬2000<R s)(c:(Wd s).2=false):iM s=([],7):=by
 refine Di h ?_;have e:=OC s;by_cases a:(iL s).1.2=true/\(iL s).2=[]
 ·simp_all[Rj]
 grind
def Ms{s:ba}(c:(Wd s).2=true):(iL s).1.2=true/\(iL s).2=[]/\(Wd s).1=(iL s).1.1:=by
 have e:=OC s;by_cases a:(iL s).1.2=true/\(iL s).2=[]
 all_goals simp_all[Rj,Ri]
def Kr{k:Nat}(a:k<6):([.str [104,101,97,116],.str [100,119,101,108,108],.str [113,117,101,110,99,104],.str [117,110,116,105,108],.str [99,111,111,108],.str [114,101,112,101,97,116]]:bi)[k]?=some (.str (SY k)):=match k,a with
 |0,_=>rfl
 |1,_=>rfl
 |2,_=>rfl
 |3,_=>rfl
 |4,_=>rfl
 |5,_=>rfl
def RB{s:ba}(E:R s<=100000):Ct prog 282 [.str s] (.cf [.sl ((Z6 s).1.map fun p=>[.str p]),.bool (Z6 s).2]):=by
 refine cI func282 O (kr (kc (S.assign .none O .fW) (rr 5 O (RK.c (S.iI (k:=4) (sz:=1) .none O) (rr 15 O ?_)))));refine OK.Io [4] (fun(i:Nat)(f:Nat)(d:Nat)(out:List ba)=>[(0,.str s),(4,.own 4 (R out)),(2004,.arr 1 (out.map fun p=>[.str p])),(5,bv d),(6,bv f),(7,bv i)]) (fun i f d out=>((f<=i/\i<=R s)/\d<=i/\R out<=i)/\Z6 s=Y2 (s.drop i) d ((s.take i).drop f) out) (fun i f d out=>R s - i) (0) (0) (0) ([]) ⟨⟨⟨Zq _,Zr _⟩,Zq _,Zq _⟩,O⟩ ⟨O,(cw N),(bH N),O,O,O,Zo⟩ (fun _ _ _ _=>O) ?_;rintro i f d out ⟨⟨hi,G,C⟩,u⟩;refine ro 9 O (kB O (fun B=>?_) (fun B=>?_))
 ·have r:i<R s:=by omega
  have m:=np r;have q:=wP (a:=f) hi.1 r;refine ro 9 O (kc (S.fJ (n:=i) fR .none O (zt O) (zt O) O r) (rr 9 O (kB O (fun x=>?_) (fun x=>?_))))
  ·have y:s[i]=40:=Dt x;have g:Z6 s=Y2 (s.drop (i+1)) (d+1) ((s.take (i+1)).drop f) out:=by rw[u,m,pt_40 y,←q]
   refine Ro 13 O I (kB O (fun j=>?_) (fun j=>?_))
   ·exfalso;omega
   refine Ro 8 O I ?_;refine Ab.D.lp ⟨i+1,f,d+1,out,⟨⟨by omega,by omega,by first|omega|(simp;omega)⟩,g⟩,I,O,(cw F),(bH F),(yL I),(yL I),O,Zo⟩
  have y:¬s[i]=40:=fun e=>x (by rw[e];rfl)
  refine ro 6 O (kB O (fun w=>?_) (fun w=>?_))
  ·have o:s[i]=41:=Dt w;refine Ro 13 O I (kB O (fun j=>?_) (fun j=>?_))
   ·have z:Z6 s=([],false):=by rw[u,m,KJ o I]
    refine kr (kc (S.assign .none O .fW) (rr 3 O (kS O O O O ?_)));rw[z];rfl
   have g:Z6 s=Y2 (s.drop (i+1)) (d - 1) ((s.take (i+1)).drop f) out:=by rw[u,m,KI o I,←q]
   refine Ro 8 O I ?_;refine Ab.D.lp ⟨i+1,f,d - 1,out,⟨⟨by omega,by omega,by first|omega|(simp;omega)⟩,g⟩,I,O,(cw F),(bH F),(yL I),(yL I),O,Zo⟩
  have o:¬s[i]=41:=fun e=>w (by rw[e];rfl)
  refine ro 6 O (kB O (fun v=>?_) (fun v=>?_))
  ·have t:s[i]=59:=Dt v;refine ro 6 O (kB O (fun A=>?_) (fun A=>?_))
   ·have g:Z6 s=Y2 (s.drop (i+1)) d ((s.take (i+1)).drop (i+1)) (out++[((s.take i).drop f)]):=by rw[u,m,pt_59 t I,ut (l:=s.take (i+1)) (by rw[sc];omega)]
    refine ro 5 O ?_;refine kc (S.ir (lo:=f) (hi:=i) (l':=((s.take i).drop f)) fR .none O (zt O) (.inr ⟨_,_,O,(zt O),O⟩) (.inr ⟨_,_,O,(zt O),O⟩) I I O) (RK.c (zM [[_]] XP O O O O) ?_);refine kc (zP XP O O F N I (by simp only[maxLen];omega)) ?_;refine Rr 13 O I (kB O (fun j=>?_) (fun j=>?_))
    ·exfalso;omega
    refine Ro 8 O I ?_;refine Ab.D.lp ⟨i+1,i+1,d,out++[((s.take i).drop f)],⟨⟨by omega,by omega,by first|omega|(simp;omega)⟩,g⟩,I,O,(cw F),(bH F),(yL I),(yL I),O,Zo⟩
   have g:Z6 s=Y2 (s.drop (i+1)) d ((s.take (i+1)).drop f) out:=by rw[u,m,pt_o y o (fun h=>by omega),←q]
   refine ro 9 O (kB O (fun j=>?_) (fun j=>?_))
   ·exfalso;omega
   refine Ro 8 O I ?_;refine Ab.D.lp ⟨i+1,f,d,out,⟨⟨by omega,by omega,by first|omega|(simp;omega)⟩,g⟩,I,O,(cw F),(bH F),(yL I),(yL I),O,Zo⟩
  have t:¬s[i]=59:=fun e=>v (by rw[e];rfl)
  have g:Z6 s=Y2 (s.drop (i+1)) d ((s.take (i+1)).drop f) out:=by rw[u,m,pt_o y o (fun h=>t h.1),←q]
  refine ro 9 O (kB O (fun j=>?_) (fun j=>?_))
  ·exfalso;omega
  refine Ro 8 O I ?_;refine Ab.D.lp ⟨i+1,f,d,out,⟨⟨by omega,by omega,by first|omega|(simp;omega)⟩,g⟩,I,O,(cw F),(bH F),(yL I),(yL I),O,Zo⟩
 have z:Z6 s=(out++[s.drop f],decide ((d:Int)=0)):=by rw[u,ut (l:=s) (i:=i) I,sg I,show decide ((d:Int)=0)=decide (d=0)from decide_eq_decide.2 I];rfl
 refine ro 7 O ?_;refine kc (S.ir (lo:=f) (l':=s.drop f) fR .none O (zt O) (.inr ⟨_,_,O,(zt O),O⟩) (.inl ⟨O,O,O⟩) I I (by rw[List.take_length])) ?_;refine RK.c (zM [[_]] XP O O O O) ?_;refine kc (zP XP O O F N I (by simp only[maxLen];omega)) ?_;refine rr 6 O ?_;refine OK.ret (aA.r2 (.tmp O O (.c (.own O O N) O) O) (zo O O) ?_);rw[z,ne]
 all_goals rfl
def V6{s:ba}(v:R s<=100000)(t:∀q:ba,R q<=R s->Ct prog 283 [.str q] (.cf [.agg (V3 q).1.cx,.bool (V3 q).2])):Ct prog 229 [.str s] (.cf [.sl ((Wd s).1.map Ph.cs),.bool (Wd s).2]):=by
 refine cI func229 O fun{_ _}=>?_
 have r:R (Z6 s).1<=R s+1:=by have:=KK s 0 [] [];rwa [aυ,wc]at this
 have j:=@XV s;refine kr (kc (S.assign .none O .fW) (rr 6 O (kc (zK (RB I) call282 O) ?_)));refine rr 11 O (kc (S.not .none O (zt O)) (kD (OK.cond O O (fun e=>?_) (fun e=>?_))))
 ·have g:=lsO_b (s:=s) (by simpa using e);refine kr (kc (S.assign .none O .fW) (rr 3 O (kS O O O O ?_)));rw[g];rfl
 have l:(Z6 s).2=true:=by simpa using e
 have f:=lsO_g l;refine ro 4 O (RK.c (S.iI (k:=6) (sz:=6) .none O) (rr 9 O ?_));refine OK.mP [6] (fun(i:Nat)(out:List Ph)=>[(4,.sl ((Z6 s).1.map fun p=>[.str p])),(6,.own 6 (R out)),(2006,.arr 6 (out.map Ph.cx)),(7,bv i)]) (fun i out=>(i<=R (Z6 s).1/\R out<=i)/\fy (ZS YF) (Z6 s).1=(fy (ZS YF) ((Z6 s).1.drop i)).map (out++ ·)) (fun i out=>R (Z6 s).1 - i) (0) ([]) ⟨⟨Zr _,Zq _⟩,by simp⟩ ⟨O,(cw N),(bH N),O,Zo⟩ (fun _ _=>O) ?_;rintro i out ⟨⟨hi,u⟩,n⟩;refine ro 5 O (kc (zk Z2 O) (rr 3 O (kB O (fun o=>?_) (fun o=>?_))))
 ·have a:i<R (Z6 s).1:=by omega
  refine ro 8 O (kc (zI Z2 O I O) (kc (zV Y9 O O) ?_));refine kc (zK (t _ (j (Zt a))) call283 O) ?_;refine rr 12 O (kc (S.not .none O (zt O)) (kD (OK.cond O O (fun d=>?_) (fun d=>?_))))
  ·have g:Wd s=([],false):=Ri (f.trans (EN n a (by rw[Od];exact Ku (by simpa using d))));refine kr (kc (S.assign .none O .fW) (rr 3 O (kS O O O O ?_)));rw[g];rfl
  have m:(V3 (Z6 s).1[i]).2=true:=by simpa using d
  refine ro 5 O ?_;refine RK.c (zM [[_,_,_,_,_,_]] WZ O O O O) ?_;refine kc (zP WZ O O F N I (by simp only[maxLen];omega)) ?_;refine Rr 9 O I ?_;refine Ab.D.lp ⟨i+1,out++[(V3 (Z6 s).1[i]).1],⟨⟨by omega,by rw[Zs,R0];omega⟩,EM n a (by rw[Od];exact Kv m)⟩,I,O,(cw F),(bH (by rw[ne];rfl)),O,Zo⟩
 have g:Wd s=(out,true):=Rj (f.trans (CM n I));refine ro 9 O ?_;refine OK.ret (aA.r2 (.tmp O O (.c (.own O O N) O) O) (zo O O) ?_);rw[g,QY];try rfl
def PF{k:Nat}(a:k<6):Ct prog 326 [bv k] (.str (SY k)):=by
 refine cI func326 O (ro 9 O (kc (zK gx call33 O) (kc (S.jP .none O (zt O)) (kD (kB O (fun c=>?_) (fun c=>?_))))))
 ·exfalso;omega
 refine ro 4 O (kc (zU bu473 O O) (jm O (kc (S.GI (i:=k) underlying473 Y9 .none O (zt O) (zt O) O I (Kr a) O) ?_)));refine rr 3 O (kR O O ?_);rfl
end Go.Proofs.Z9
namespace Go.Proofs.Z9
open Go.Ab Tryz
def ZI{α:Type}{l:List α}{i:Nat}{d:α}(h:i<R l):l.getD i d=l[i]:=by simp_all
abbrev Lc(b:Nat)(p:Ph):HM Unit:=fun _=>some (b,.box p.cx)
def Yk(M:HM Unit)(b:Nat)(p:Ph):M.set () (some (b,.box p.cx))=Lc b p:=by rfl
def kUp_0(w:ba):Pk w 0= -1:=by grind [Pk]
def K7{w:ba}{k:Nat}(a:k<6)(h:w=SY k):Pk w (k+1)=k:=by simp_all[Pk,N2]
def K6{w:ba}{k:Nat}(h:¬w=SY k):Pk w (k+1)=Pk w k:=by
 unfold Pk;cases e:ix (fun m=>decide (w=m)) DG with
 |none=>rfl
 |some j=>
  have c:j≠k:=fun a=>h (a▸(R5 e).2)
  grind
def kUp_n{w:ba}(h:ix (fun m=>decide (w=m)) DG=none):Pk w 6= -1:=by unfold Pk;rw[h]
def kUp_s{w:ba}{k:Nat}(h:ix (fun m=>decide (w=m)) DG=some k):Pk w 6=k:=by unfold Pk;rw[h];exact Zn (R5 h).1
section
variable{h s:ba}{b:List Ph}{k i:Nat}
def hdX_k(e:ix (fun n=>decide ((aj 32 h).getD 0 []=n)) DG=none):RU h b=(.mk (-1) 0 0 0 0 b,false):=by unfold RU;rw[e]
def hdX_m(e:ix (fun n=>decide ((aj 32 h).getD 0 []=n)) DG=some k)(a:decide (k=5)≠decide (0<R b)):RU h b=(.mk k 0 0 0 0 b,false):=by simp_all[RU]
def hdX_l(e:ix (fun n=>decide ((aj 32 h).getD 0 []=n)) DG=some k)(c:¬decide (k=5)≠decide (0<R b))(a:R (aj 32 h)≠R (bB k)+1):RU h b=(.mk k 0 0 0 0 b,false):=by simp_all[RU]
def hdX_n(e:ix (fun n=>decide ((aj 32 h).getD 0 []=n)) DG=some k)(c:¬decide (k=5)≠decide (0<R b))(a:¬R (aj 32 h)≠R (bB k)+1):RU h b=Ya (bB k) ((aj 32 h).drop 1) (.mk k 0 0 0 0 b):=by simp_all[RU]
def Oe(e:ix (fun b=>b==40) s=none):V3 s=RU s []:=by unfold V3 Ld;rw[e]
def KF(e:ix (fun b=>b==40) s=some i)(h:i=0):V3 s=(Ph.zero,false):=by simp_all[Ld]
def KG(e:ix (fun b=>b==40) s=some i)(hi:i - 1<R s)(h:¬s[i - 1]=32):V3 s=(Ph.zero,false):=by simp_all[Ld]
def KH(e:ix (fun b=>b==40) s=some i)(hi:R s - 1<R s)(h:¬s[R s - 1]=41):V3 s=(Ph.zero,false):=by simp_all[Ld]
abbrev MR(s:ba)(i:Nat):ba:=(s.take (s.length - 1)).drop (i+1)
def phX_c(e:ix (fun b=>b==40) s=some i)(h0:¬i=0)(hi:i - 1<R s)(h:s[i - 1]=32)(a:R s - 1<R s)(c:s[R s - 1]=41):V3 s=if(Wd (MR s i)).2=true then RU (s.take (i - 1)) (Wd (MR s i)).1 else(Ph.zero,false):=by
 unfold V3 Ld;rw[e];refine(Zm ?_).trans ?_
 ·simp_all
 unfold Wd;grind
end
def uP(k:Nat):Bool:=decide (k=0\/k=3)
def uL(k:Nat):Bool:=decide (k=2\/k=4)
def uK(k:Nat):Bool:=decide (k=3\/k=4)
def uB(k:Nat):Bool:=decide (k=5)
def fK(k:Nat):bc:=if uK k=true then [4]else []
def fP(k:Nat):bc:=fK k++if uP k=true then [1]else []
def fL(k:Nat):bc:=fP k++if uL k=true then [2]else []
def fL_3{k:Nat}(h:k<6):bB k=fL k++[3]:=match k,h with
 |0,_=>rfl
 |1,_=>rfl
 |2,_=>rfl
 |3,_=>rfl
 |4,_=>rfl
 |5,_=>rfl
def fK_T{k:Nat}(h:uK k=true):fK k=[4]:=Zn h
def fK_F{k:Nat}(h:uK k=false):fK k=[]:=Zm (by grind)
def fP_T{k:Nat}(h:uP k=true):fP k=fK k++[1]:=by unfold fP;grind
def fP_F{k:Nat}(h:uP k=false):fP k=fK k:=by simp_all[fP]
def fL_T{k:Nat}(h:uL k=true):fL k=fP k++[2]:=by unfold fL;grind
def fL_F{k:Nat}(h:uL k=false):fL k=fP k:=by simp_all[fL]
def JS(k:Nat):R (fK k)<=1/\R (fP k)<=2/\R (fL k)<=3:=by
 grind [fL,fP,fK]
abbrev pR(b:Nat)(fs:bc):List bi:=fs.map fun f=>[X.raw (.pointer (some ⟨b,0+f,none⟩))]
def N8{k i:Nat}{a:List ba}{p:Ph}(hi:i<R (bB k))(hw:i+1<R a)(h:numOk a[i+1] 5=true):Ya ((bB k).drop i) (a.drop (i+1)) p=Ya ((bB k).drop (i+1)) (a.drop (i+2)) (p.Ir (bB k)[i] (bp a[i+1])):=by
 rw[np hi,np hw,Ya,Zn h]
def R9{k i:Nat}{a:List ba}{p:Ph}(hi:i<R (bB k))(hw:i+1<R a)(h:numOk a[i+1] 5=false):Ya ((bB k).drop i) (a.drop (i+1)) p=(p,false):=by
 rw[np hi,np hw,Ya,Zm (by grind)]
def LJ{p:Ph}{f:Nat}(h:1<=f/\f<=4)(n:Int):p.cx.take (0+f)++((cg (bv n)).map Fv++p.cx.drop (0+f+1))=(p.Ir f n).cx:=by
 cases p;rcases(show f=1\/f=2\/f=3\/f=4 by omega)with rfl|rfl|rfl|rfl<;>rfl
def JJ{p:Ph}{f:Nat}(h:1<=f/\f<=4):Nat.ble (0+f+1) (R p.cx)=true:=by
 rcases(show f=1\/f=2\/f=3\/f=4 by omega)with rfl|rfl|rfl|rfl<;>rfl
def Mm{w:ba}(h:(iE w 5).2=true)(h0:0<=(iE w 5).1):numOk w 5=true/\(iE w 5).1=bp w:=by
 have c:=@B4 w 5;have a:iF w 5=true:=by simp_all
 exact⟨by simp_all[tW],by rw[c.2 a,yN C a]⟩
def Qy{w:ba}(h:(iE w 5).2=false\/(iE w 5).1<0):numOk w 5=false:=by
 rw[tW w C,←(@B4 w 5).1];grind
def m5{k n:Nat}(h:decide ((k:Int)=5)=decide (0<n)):¬decide (k=5)≠decide (0<n):=by
 grind
def m5n{k n:Nat}(h:¬decide ((k:Int)=5)=decide (0<n)):decide (k=5)≠decide (0<n):=by grind
def PE{k:Nat}(h:k<6):Ct prog 327 [bv k] (.agg [.bool (uP k),.bool (uL k),.bool (uK k),.bool (uB k)]):=match k,h with
 |0,_=>ZE (k:=0)
 |1,_=>ZE (k:=1)
 |2,_=>ZE (k:=2)
 |3,_=>ZE (k:=3)
 |4,_=>ZE (k:=4)
 |5,_=>ZE (k:=5)
def WG{s:ba}(hl:R s<=100000)(hls:∀q:ba,R q<R s->Ct prog 229 [.str q] (.cf [.sl ((Wd q).1.map Ph.cs),.bool (Wd q).2])):Ct prog 283 [.str s] (.cf [.agg (V3 s).1.cx,.bool (V3 s).2]):=by
 refine cI func283 O (OK.ug Unit (ro 16 O ?_));refine OK.join (G:=(Nat×ba×List Ph)) [2] (fun g=>[(0,.str g.2.1),(2,.ptr 2 0),(1002,.box [bv 0,bv 0,bv 0,bv 0,bv 0,.bO]),(4,.raw (pV g.1)),(3000,.res (aa (Lc g.1 (Ph.mk 0 0 0 0 0 g.2.2))))]) (fun g=>V3 s=RU g.2.1 g.2.2/\R g.2.1<=R s) (fun _=>O) ?_ ?_
 ·refine kO (OK.HR (cells':=Ph.zero.cx) [2] [(0,.str s),(2,.ptr 2 0),(1002,.box [bv 0,bv 0,bv 0,bv 0,bv 0,.bO])] 4 () O O O O O O ⟨O,O,O,Zo⟩ O O ⟨.inl ⟨O,O⟩,.inl ⟨O,O⟩,.inl ⟨O,O⟩,.inl ⟨O,O⟩,.inl ⟨O,O⟩,.inr ⟨O,O⟩,Zo⟩ fun b=>?_);refine ro 5 O ?_;refine OK.loop (G:=Nat) [2] (fun i=>[(0,.str s),(2,.ptr 2 0),(1002,.box [bv 0,bv 0,bv 0,bv 0,bv 0,.bO]),(4,.raw (pV b)),(6,bv i),(3000,.res (aa (Lc b (Ph.mk 0 0 0 0 0 []))))]) (fun i=>i<=R s/\ix (fun b=>b==40) s=iR (fun b=>b==40) i (s.drop i)) (fun i=>R s - i) 0 ⟨Zr _,O⟩ ⟨O,O,O,O,O,(Gt (Yk _ _ (Ph.mk 0 0 0 0 0 []))),Zo⟩ (fun _=>O) ?_;rintro i ⟨hi,E⟩;refine ro 9 O (kB O (fun c19=>?_) (fun c19=>?_))
  ·have j:i<R s:=by omega
   refine ro 8 O (kc (S.fJ (n:=i) fR .none O (zt O) (zt O) O j) (rr 3 O (kB O (fun T=>?_) (fun T=>?_))))
   ·have hb:s[i]=40:=Dt T;have he:ix (fun b=>b==40) s=some i:=by rw[E,gL _ j,hb];rfl
    refine ro 6 O (RK.bh (t:=28) O (fun g28=>?_) (fun g28=>?_))
    ·have f:V3 s=(Ph.zero,false):=KF he I;refine rr 19 O ?_;refine kc (zJ (us:=Ph.zero.cx) ZF O (aa.Ej (k:=()) (xs:=Ph.zero.cx) O ⟨.same _,.same _,.same _,.same _,.same _,.same _,Zo⟩ O)) ?_;refine rr 4 O (kT O O ZF O O O ?_);rw[f];try rfl
    have hi0:¬i=0:=by omega
    have Z:i - 1<R s:=by omega
    have Y:R s - 1<R s:=by omega
    refine Rr 3 O I (kc (S.fJ (n:=(i - 1)) fR (zg O O) O (zt O) (zt O) I I) ?_);refine rr 3 O (RK.bh (t:=35) O (fun K=>?_) (fun K=>?_))
    ·have f:V3 s=(Ph.zero,false):=KG he Z fun e=>K (by rw[e];rfl)
     refine rr 12 O ?_;refine kc (zJ (us:=Ph.zero.cx) ZF O (aa.Ej (k:=()) (xs:=Ph.zero.cx) O ⟨.same _,.same _,.same _,.same _,.same _,.same _,Zo⟩ O)) ?_;refine rr 4 O (kT O O ZF O O O ?_);rw[f];try rfl
    have hb32:s[i - 1]=32:=Dt (Zu.1 K);refine Rr 4 O I (kc (S.fJ (n:=(R s - 1)) fR (zg O O) O (zt O) (zt O) I I) ?_);refine rr 4 O (kB O (fun Q=>?_) (fun Q=>?_))
    ·have f:V3 s=(Ph.zero,false):=KH he Y fun e=>Q (by rw[e];rfl)
     refine kr (kc (zJ (us:=Ph.zero.cx) ZF O (aa.Ej (k:=()) (xs:=Ph.zero.cx) O ⟨.same _,.same _,.same _,.same _,.same _,.same _,Zo⟩ O)) ?_);refine rr 4 O (kT O O ZF O O O ?_);rw[f];try rfl
    have H:s[R s - 1]=41:=Dt (Zu.1 Q);have U:=phX_c he hi0 Z hb32 Y H;have hi3:i≠R s - 1:=fun e=>absurd (by rw[←H];simp only[←e];exact hb) (show¬(41:UInt8)=40 by decide)
    have hlt:R (MR s i)<R s:=by rw[vd,sc];omega
    refine ro 3 O ?_;refine kV (.c (zm O) (.c (zm O) (.c (S.sub .none O (zt O) (.af O) (mn _ I) (mn _ I)) (.c (S.ir (hi:=(i - 1)) (l':=s.take (i - 1)) fR .none O (zt O) (.inl ⟨O,O,O⟩) (.inr ⟨_,_,O,(zt O),I⟩) (Zr _) I O) (.c (zm O) (.c (zm O) (.c (zp O O I) (.c (zm O) (.c (S.dP underlying9 .none O (zt O)) (.c (S.sub .none O (zt O) (.af O) (mn _ I) (mn _ I)) (.c (S.ir (lo:=(i+1)) (hi:=(R s - 1)) (l':=MR s i) fR .none O (zt O) (.inr ⟨_,_,O,(zt O),O⟩) (.inr ⟨_,_,O,(zt O),I⟩) I I O) (.c (za O) (.c (za O) .nil))))))))))))) ?_;refine rd 4 O ?_;refine kc (zK (hls _ hlt) call229 O) ?_;refine rr 11 O (kc (S.not .none O (zt O)) (kD (OK.cond O O (fun P=>?_) (fun P=>?_))))
    ·have f:V3 s=(Ph.zero,false):=U.trans (Zm (by simpa using P));refine kr (kc (zJ (us:=Ph.zero.cx) ZF O (aa.Ej (k:=()) (xs:=Ph.zero.cx) O ⟨.same _,.same _,.same _,.same _,.same _,.same _,Zo⟩ O)) ?_);refine rr 4 O (kT O O ZF O O O ?_);rw[f];try rfl
    have f:V3 s=RU (s.take (i - 1)) (Wd (MR s i)).1:=U.trans (Zn (by simpa using P));refine ro 6 O (kc (S.dc (xs:=Ph.zero.cx) (xs':=(Ph.mk 0 0 0 0 0 (Wd (MR s i)).1).cx) (()) Xm .none (zt O) (zt O) O O O O O O O) (rr 3 O ?_));refine Ab.D.lp ⟨(b,s.take (i - 1),(Wd (MR s i)).1),⟨f,by first|exact Zq _|(rw[sc];omega)⟩,O,O,O,O,(Gt (by first|exact Yk _ _ (Ph.mk 0 0 0 0 0 (Wd (MR s i)).1)|rfl)),Zo⟩
   have hb:¬s[i]=40:=fun e=>T (by rw[e];rfl)
   refine Ro 8 O I ?_;refine Ab.D.lp ⟨i+1,⟨by omega,by rw[E,gL _ j,Zm (by rw[beq_iff_eq];exact hb)]⟩,I,O,O,O,O,O,O,Zo⟩
  have f:V3 s=RU s []:=Oe (by rw[E,ut I];rfl);refine OK.exit O ?_;refine Ab.D.lp ⟨(b,s,[]),⟨f,by first|exact Zq _|(rw[sc];omega)⟩,O,O,O,O,(Gt (by first|exact Yk _ _ (Ph.mk 0 0 0 0 0 (Wd (MR s i)).1)|rfl)),Zo⟩
 rintro g ⟨u,hgl⟩;obtain⟨b,o,r⟩:=g;dsimp only at u hgl⊢;have h0:0<R (aj 32 o):=aη.2 (gr 32 o);have hW:((aj 32 o).getD 0 [])=(aj 32 o)[0]:=ZI h0;refine ro 3 O (kc (zK (C0 (l:=o) (c:=32) I) call82 O) ?_);refine rr 6 O (kc (S.dc (xs:=(Ph.mk 0 0 0 0 0 r).cx) (xs':=(Ph.mk (-1) 0 0 0 0 r).cx) (()) Z8 .none (zt O) (.af O) O O O O O O O) (rr 9 O ?_));refine OK.loop (G:=Nat) [2] (fun n=>[(2,.ptr 2 0),(1002,.box [bv 0,bv 0,bv 0,bv 0,bv 0,.bO]),(4,.raw (pV b)),(9,.sl ((aj 32 o).map fun p=>[.str p])),(10,bv n),(3000,.res (aa (Lc b (Ph.mk (Pk ((aj 32 o).getD 0 []) n) 0 0 0 0 r))))]) (fun n=>n<=6) (fun n=>6 - n) 0 (Zr _) ⟨O,O,O,O,O,(Gt (by rw[kUp_0];exact Yk _ _ (Ph.mk (-1) 0 0 0 0 r))),Zo⟩ (fun _=>O) ?_;rintro n hn;refine ro 7 O (kB O (fun c69=>?_) (fun c69=>?_))
 ·refine ro 5 O (kV (.c (zm O) (.c (S.aP (n:=0) Z2 .none O (zt O) (.af O) O h0 O) (.c (zV Y9 O O) (.c (zm O) (.c (zK (PF (k:=n) I) call326 O) (.c (S.eN .none O (zt O) (zt O)) .nil)))))) (Ab.D.code (kB O (fun M=>?_) (fun M=>?_))))
  ·have hw:((aj 32 o).getD 0 [])=SY n:=hW.trans M;refine ro 3 O (kc (S.dc (xs:=(Ph.mk (Pk ((aj 32 o).getD 0 []) n) 0 0 0 0 r).cx) (xs':=(Ph.mk n 0 0 0 0 r).cx) (()) Z8 .none (zt O) (zt O) O O O O O O O) (Rr 8 O I ?_));refine Ab.D.lp ⟨n+1,I,I,O,O,O,O,O,(Gt (by first|(rw[K7 I hw];exact Yk _ _ (Ph.mk n 0 0 0 0 r))|rw[K6 hw])),Zo⟩
  have hw:¬((aj 32 o).getD 0 [])=SY n:=fun e=>M (hW.symm.trans e)
  refine Ro 8 O I ?_;refine Ab.D.lp ⟨n+1,I,I,O,O,O,O,O,(Gt (by first|(rw[K7 I hw];exact Yk _ _ (Ph.mk n 0 0 0 0 r))|rw[K6 hw])),Zo⟩
 refine ro 4 O ?_;rcases hek:ix (fun m=>decide (((aj 32 o).getD 0 [])=m)) DG with _|k
 ·rw[show n=6 by omega,kUp_n hek];have f:=u.trans (hdX_k hek);refine ro 2 O ?_;refine kc (zH Z8 O (aa.dQ (k:=()) O O (.same _))) ?_;refine rr 2 O (RK.bh (t:=83) O (fun x=>?_) (fun x=>?_))
  ·refine rr 14 O ?_;refine kc (zJ (us:=(Ph.mk (-1) 0 0 0 0 r).cx) ZF O (aa.Ej (k:=()) (xs:=(Ph.mk (-1) 0 0 0 0 r).cx) O ⟨.same _,.same _,.same _,.same _,.same _,.same _,Zo⟩ O)) ?_;refine rr 4 O (kT O O ZF O O O ?_);rw[f];try rfl
  exact absurd (show(-1:Int)<0 by decide) x
 rw[show n=6 by omega,kUp_s hek];have W:=(R5 hek).1;refine ro 2 O ?_;refine kc (zH Z8 O (aa.dQ (k:=()) O O (.same _))) ?_;refine rr 2 O (RK.bh (t:=83) O (fun x=>?_) (fun x=>?_))
 ·exact absurd (show((k:Nat):Int)<0 from x) I
 refine kc (S.jC SM (zg O O) O (zt O)) (kc (S.aG Z8 (zg O O) O (zt O) O (aa.dQ (k:=()) O O (.same _))) ?_);refine rr 2 O ?_;refine kc (S.aG Xm (zg O O) O (zt O) O (aa.dQ (k:=()) O O (.same _))) (kc (S.Hp Zj (zg O O) O (zt O)) (kc (S.gtr (zg O O) O (zt O) (.af O)) (kc (S.u_ underlying4 (zg O O) O (zt O) (zt O)) ?_)));refine rr 3 O (kB O (fun z=>?_) (fun z=>?_))
 ·simp[Ph.kind,Ph.body]at z;have f:=u.trans (hdX_m hek (b:=r) (m5n z));refine kr (kc (zJ (us:=(Ph.mk k 0 0 0 0 r).cx) ZF O (aa.Ej (k:=()) (xs:=(Ph.mk k 0 0 0 0 r).cx) O ⟨.same _,.same _,.same _,.same _,.same _,.same _,Zo⟩ O)) ?_);refine rr 4 O (kT O O ZF O O O ?_);rw[f];try rfl
 simp[Ph.kind,Ph.body]at z;have hm:¬decide (k=5)≠decide (0<R r):=m5 z;have hfl:=JS k;refine ro 5 O ?_;refine kc (zH Z8 O (aa.dQ (k:=()) O O (.same _))) (kc (zK (PE W) call327 O) ?_);refine rr 6 O (RK.c (S.iI (k:=12) (sz:=1) .none O) (kD ?_));refine OK.join (G:=Unit) [12,11,2] (fun _=>[(2,.ptr 2 0),(1002,.box [bv 0,bv 0,bv 0,bv 0,bv 0,.bO]),(4,.raw (pV b)),(9,.sl ((aj 32 o).map fun p=>[.str p])),(11,.ptr 11 0),(1011,.box [.bool (uP k),.bool (uL k),.bool (uK k),.bool (uB k)]),(12,.own 12 (R (fK k))),(2012,.arr 1 (pR b (fK k))),(3000,.res (aa (Lc b (Ph.mk k 0 0 0 0 r))))]) (fun _=>True) (fun _=>O) ?_ ?_
 ·refine ro 6 O (OK.cond O O (fun L=>?_) (fun L=>?_))
  ·have a:=fK_T L;refine ro 3 O ?_;refine RK.c (zM [[_]] XN O O O O) ?_;refine kc (zP XN O O F N I (by simp only[maxLen];omega)) ?_;refine ja O (RK.nil (Ab.D.lp ⟨(),Zo,O,O,O,O,O,O,(cw (by simp[a])),(bH (by simp[a])),O,Zo⟩))
  have a:=fK_F L;refine OK.skip (Ab.D.lp ⟨(),Zo,O,O,O,O,O,O,(cw (by simp[a])),(bH (by simp[a])),O,Zo⟩)
 rintro _ _;refine OK.join (G:=Unit) [12,11,2] (fun _=>[(2,.ptr 2 0),(1002,.box [bv 0,bv 0,bv 0,bv 0,bv 0,.bO]),(4,.raw (pV b)),(9,.sl ((aj 32 o).map fun p=>[.str p])),(11,.ptr 11 0),(1011,.box [.bool (uP k),.bool (uL k),.bool (uK k),.bool (uB k)]),(12,.own 12 (R (fP k))),(2012,.arr 1 (pR b (fP k))),(3000,.res (aa (Lc b (Ph.mk k 0 0 0 0 r))))]) (fun _=>True) (fun _=>O) ?_ ?_
 ·refine ro 6 O (OK.cond O O (fun B=>?_) (fun B=>?_))
  ·have a:=fP_T B;refine ro 3 O ?_;refine RK.c (zM [[_]] XN O O O O) ?_;refine kc (zP XN O O F N I (by simp only[maxLen];omega)) ?_;refine ja O (RK.nil (Ab.D.lp ⟨(),Zo,O,O,O,O,O,O,(cw (by simp[a])),(bH (by simp[a])),O,Zo⟩))
  have a:=fP_F B;refine OK.skip (Ab.D.lp ⟨(),Zo,O,O,O,O,O,O,(cw (by simp[a])),(bH (by simp[a])),O,Zo⟩)
 rintro _ _;refine OK.join (G:=Unit) [12,11,2] (fun _=>[(2,.ptr 2 0),(1002,.box [bv 0,bv 0,bv 0,bv 0,bv 0,.bO]),(4,.raw (pV b)),(9,.sl ((aj 32 o).map fun p=>[.str p])),(11,.ptr 11 0),(1011,.box [.bool (uP k),.bool (uL k),.bool (uK k),.bool (uB k)]),(12,.own 12 (R (fL k))),(2012,.arr 1 (pR b (fL k))),(3000,.res (aa (Lc b (Ph.mk k 0 0 0 0 r))))]) (fun _=>True) (fun _=>O) ?_ ?_
 ·refine ro 6 O (OK.cond O O (fun A=>?_) (fun A=>?_))
  ·have a:=fL_T A;refine ro 3 O ?_;refine RK.c (zM [[_]] XN O O O O) ?_;refine kc (zP XN O O F N I (by simp only[maxLen];omega)) ?_;refine ja O (RK.nil (Ab.D.lp ⟨(),Zo,O,O,O,O,O,O,(cw (by simp[a])),(bH (by simp[a])),O,Zo⟩))
  have a:=fL_F A;refine OK.skip (Ab.D.lp ⟨(),Zo,O,O,O,O,O,O,(cw (by simp[a])),(bH (by simp[a])),O,Zo⟩)
 rintro _ _;refine ro 4 O ?_;refine RK.c (zM [[_]] XN O O O O) ?_;refine kc (zP XN O O F N I (by simp only[maxLen];omega)) ?_;refine rr 5 O ?_;have hf3:=fL_3 W;have hfr:pR b (fL k)++[[X.raw (.pointer (some ⟨b,0+3,none⟩))]]=pR b (bB k):=by rw[hf3];show _=List.map _ _;rw[ne];rfl
 have hfn:R (bB k)=R (fL k)+1:=by rw[hf3,Zs,R0]
 refine OK.freeze 12 O O O F ?_;rw[hfr];refine OK.bN (jm O (kc (zk Z2 O) (jm O (kc (zk QO O) (Rr 4 O I (kB O (fun c124=>?_) (fun c124=>?_)))))))
 ·have f:=u.trans (hdX_l hek hm I);refine kr (kc (zJ (us:=(Ph.mk k 0 0 0 0 r).cx) ZF O (aa.Ej (k:=()) (xs:=(Ph.mk k 0 0 0 0 r).cx) O ⟨.same _,.same _,.same _,.same _,.same _,.same _,Zo⟩ O)) ?_);refine rr 4 O (kT O O ZF O O O ?_);rw[f];try rfl
 have hln:R (aj 32 o)=R (bB k)+1:=by omega
 have hpn:=u.trans (hdX_n hek hm (Zp hln));refine ro 9 O ?_;refine OK.mP [2] (fun(i:Nat)(p:Ph)=>[(2,.ptr 2 0),(1002,.box [bv 0,bv 0,bv 0,bv 0,bv 0,.bO]),(4,.raw (pV b)),(9,.sl ((aj 32 o).map fun p=>[.str p])),(12,.sl (pR b (bB k))),(13,bv i),(3000,.res (aa (Lc b p)))]) (fun i p=>i<=R (bB k)/\V3 s=Ya ((bB k).drop i) ((aj 32 o).drop (i+1)) p) (fun i p=>R (bB k) - i) (0) ((Ph.mk k 0 0 0 0 r)) ⟨Zr _,hpn⟩ ⟨O,O,O,O,O,O,O,Zo⟩ (fun _ _=>O) ?_;rintro i p ⟨hi,E⟩;refine ro 5 O (kc (zk QO O) (rr 3 O (kB O (fun c129=>?_) (fun c129=>?_))))
 ·have j:i<R (bB k):=by omega
  have v:i+1<R (aj 32 o):=by omega
  refine Ro 9 O I (kc (S.aP (n:=(i+1)) Z2 .none O (zt O) (zt O) O v O) (kc (zV Y9 O O) ?_));refine kc (zK (vU (d:=5) (by have:=gH (c:=32) _ (Zt v);omega) C) call40 O) ?_;refine rr 11 O (kc (S.not .none O (zt O)) (jm O (RK.split (t:=143) O (fun y=>?_) (fun y=>?_))))
  ·have f:=E.trans (R9 j v (Qy (.inl (by simpa using y))));refine rr 8 O ?_;refine kc (zJ (us:=p.cx) ZF O (aa.Ej (k:=()) (xs:=p.cx) O ⟨.same _,.same _,.same _,.same _,.same _,.same _,Zo⟩ O)) ?_;refine rr 4 O (kT O O ZF O O O ?_);rw[f];try rfl
  refine rr 5 O (kB O (fun J=>?_) (fun J=>?_))
  ·have f:=E.trans (R9 j v (Qy (.inr J)));refine kr (kc (zJ (us:=p.cx) ZF O (aa.Ej (k:=()) (xs:=p.cx) O ⟨.same _,.same _,.same _,.same _,.same _,.same _,Zo⟩ O)) ?_);refine rr 4 O (kT O O ZF O O O ?_);rw[f];try rfl
  have V:=Mm (w:=(aj 32 o)[i+1]) (by simpa using y) I;rw[V.2];refine ro 5 O (kc (zI QO O j O) (rr 3 O ?_));refine kc (S.dc (xs:=p.cx) (xs':=(p.Ir (bB k)[i] (bp (aj 32 o)[i+1])).cx) (()) Z8 .none (zt O) (zt O) O O O O O (JJ (oq j)) (LJ (oq j) _)) ?_;refine Rr 8 O I ?_;refine Ab.D.lp ⟨i+1,(p.Ir (bB k)[i] (bp (aj 32 o)[i+1])),⟨by omega,by rw[E,N8 j v V.1]⟩,I,O,O,O,O,O,O,(Gt (Yk _ _ _)),Zo⟩
 have f:V3 s=(p,true):=by rw[E,ut (l:=bB k) I];rfl
 refine ro 4 O ?_;refine kc (zJ (us:=p.cx) ZF O (aa.Ej (k:=()) (xs:=p.cx) O ⟨.same _,.same _,.same _,.same _,.same _,.same _,Zo⟩ O)) ?_;refine rr 4 O (kT O O ZF O O O ?_);rw[f];try rfl
end Go.Proofs.Z9
namespace Go.Proofs.Z9
open Go.Ab Tryz
def Vk{s:ba}(a:R s<=100000):Ct prog 229 [.str s] (.cf [.sl ((Wd s).1.map Ph.cs),.bool (Wd s).2]):=by
 have key:∀(n:Nat)(s:ba),R s<n->R s<=100000->Ct prog 229 [.str s] (.cf [.sl ((Wd s).1.map Ph.cs),.bool (Wd s).2]):=by
  intro n
  induction n with
  |zero=>intro s h;omega
  |succ n c=>exact fun s h a=>V6 a fun q e=>WG I fun r d=>c r I I
 exact key _ s (cπ _) a
def WE{s:ba}(j:R s<=100000):Ct prog 174 [.str s] (.cf [.sl ((iM s).1.map Ph.cs),bv (iM s).2]):=by
 refine cI func174 O (kr (kc (S.assign .none O .fW) (rr 11 O (kB O (fun n=>?_) (fun n=>?_)))))
 ·have a:=GM (s:=s) I;refine kr (kc (S.assign .none O .fW) (rr 3 O (kS O O O O ?_)));rw[a];try rfl
 have e:¬2000<R s:=I
 refine ro 5 O (kc (zK (Vk (s:=s) j) call229 O) (rr 11 O (kc (S.not .none O (zt O)) (kD (OK.cond O O (fun d=>?_) (fun d=>?_))))))
 ·have a:=Mr e (by simpa using d);refine kr (kc (S.assign .none O .fW) (rr 3 O (kS O O O O ?_)));rw[a];try rfl
 obtain⟨g,f,m⟩:=Ms (s:=s) (by simpa using d);rw[m];refine ro 6 O (kc (zK (Vi (l:=(iL s).1.1)) call230 O) (rr 9 O (kB O (fun c=>?_) (fun c=>?_))))
 ·have a:=GN e g f c;refine ro 3 O (kc (S.assign .none O .fW) (rr 3 O (kS O O O O ?_)));rw[a];try rfl
 have a:=GO e g f (Zu.1 c);refine ro 9 O (kS O O O O ?_);rw[a];try rfl
