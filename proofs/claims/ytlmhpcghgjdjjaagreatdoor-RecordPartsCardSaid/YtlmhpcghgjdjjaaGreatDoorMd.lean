import Derived.Test.YtlmhpcghgjdjjaaGreatDoorMb
set_option linter.all false
open List renaming length->R
namespace Go.Proofs.Z9
open Go.Ab Tryz
set_option maxRecDepth 9999
theorem n9{c:UInt8}{l:ba}:R (aj c l)<=R l+1:=by
 simp[oa,Lib.countByte,dα]
def eH(c:UInt8)(l:ba):0<R (aj c l):=aη.2 (gr c l)
def iH(w:ba):Bool:=eY w 7&&decide (0<=de w)
def uj{w:ba}:me w false 7=iH w:=Gs C
def Ce{w:ba}(h:iH w=true):eY w 7=true/\0<=de w/\bp w=de w:=by
 simp_all[iH,C1]
def aY(l:ba):Frame×Int:=if iH ((aj 32 l).getD 0 [])=true then match fy l6 ((aj 32 l).drop 1)with
 |some vs=>(⟨de ((aj 32 l).getD 0 []),vs⟩,0)
 |none=>(⟨0,[]⟩,7)
 else(⟨0,[]⟩,7)
def uh{l:List ba}(h:0<R l):l.getD 0 []=l[0]:=tX h
def C2{l:ba}(h:iH ((aj 32 l)[0]'(eH 32 l))=false):aY l=(⟨0,[]⟩,7):=by
 simp_all[aY,eH]
def C3{l:ba}(h:fy l6 ((aj 32 l).drop 1)=none):aY l=(⟨0,[]⟩,7):=by
 simp_all[aY]
def C4{l:ba}{vs:bd}(h:iH ((aj 32 l)[0]'(eH 32 l))=true)(a:fy l6 ((aj 32 l).drop 1)=some vs):aY l=(⟨de ((aj 32 l)[0]'(eH 32 l)),vs⟩,0):=by
 simp_all[aY,eH]
set_option maxHeartbeats 1000000 in
def q8{l:ba}(v:R l<=100000 - 1):gz prog 199 [.str l] (.cf [.agg (aY l).1.cs,bv (aY l).2]):=by
 refine cT func199 O fun p=>?_
 have h:=eH 32 l;have u:=n9 (c:=32) (l:=l);have g:∀w∈aj 32 l,R w<=100000:=fun w hw=>by have:=gH w hw;omega
 refine ro 9 O (kc (zK (sY (l:=l) (c:=32) I) call186 O) ?_);refine rr 6 O (kc (S.aP (n:=0) Z2 .none O (zt O) (.af O) O h O) (kc (zV Y9 O O) ?_));refine kc (S.dB (l7 (l:=(aj 32 l)[0]) (b:=false) (g _ (Zt h))) p call187 .none O (zc O (.cons .aJ .nil)) O) ?_;refine rr 10 O ?_;refine kc (S.slice (lo:=1) (l':=(aj 32 l).drop 1) Z2 (fun _=>O) .none O (zt O) (.inr ⟨_,_,O,(.af O),O⟩) (.inl ⟨O,O,O⟩) I I (by rw[List.take_length])) ?_;refine kc (S.dB (wQ (l:=(aj 32 l).drop 1) (by rw[vd];omega) (fun w hw=>g w (dβ hw))) p call253 .none O (zc O .nil) O) ?_;refine rr 11 O (kc (S.not .none O (zt O)) (jm O (RK.split (t:=26) O (fun e=>?_) (fun e=>?_))))
 ·have d:iH (aj 32 l)[0]=false:=by rw[←uj];simpa using e
  have a:=C2 d;refine rr 8 O (kc (zU M4 O O) (rr 4 O (OK.ret (aA.r2 (.bG O O O O UN O (.k (.same O) (.k .bO .z))) (zo O O) ?_))));rw[a]
  all_goals rfl
 have d:iH (aj 32 l)[0]=true:=by rw[←uj];simpa using e
 obtain⟨r,q,j⟩:=Ce d;refine kc (S.move (zg O O) O (zt O)) (kc (S.not (zg O O) O (zt O)) (rr 3 O (OK.cond O O (fun f=>?_) (fun f=>?_))))
 ·have o:fy l6 ((aj 32 l).drop 1)=none:=by simpa using f
  have a:=C3 o;refine kr (kc (zU M4 O O) (rr 4 O (OK.ret (aA.r2 (.bG O O O O UN O (.k (.same O) (.k .bO .z))) (zo O O) ?_))));rw[a]
  all_goals rfl
 obtain⟨vs,i⟩:∃vs,fy l6 ((aj 32 l).drop 1)=some vs:=sk.1 (by simpa using f);have a:=C4 d i;rw[i,j];refine ro 6 O (kc (zU M4 O O) (rr 4 O (kT O O UN O O O ?_)));rw[a]
 all_goals rfl
end Go.Proofs.Z9
namespace Go.Proofs.Z9
open Go.Ab Tryz
def Ph.kind:Ph->Int|.mk k _ _ _ _ _=>k
def Ph.power:Ph->Int|.mk _ p _ _ _ _=>p
def Ph.law:Ph->Int|.mk _ _ l _ _ _=>l
def Ph.aR:Ph->Int|.mk _ _ _ t _ _=>t
def Ph.kelvin:Ph->Int|.mk _ _ _ _ k _=>k
def Ph.body:Ph->List Ph|.mk _ _ _ _ _ b=>b
def Ph.zero:Ph:=.mk 0 0 0 0 0 []
def DG:List ba:=[[104,101,97,116],[100,119,101,108,108],[113,117,101,110,99,104],[117,110,116,105,108],[99,111,111,108],[114,101,112,101,97,116]]
def cU(b:UInt8):Bool:=b==32||b==59||b==40||b==41
def b9(s:ba):ba×ba:=(s.takeWhile fun b=>!cU b,s.dropWhile fun b=>!cU b)
def bL(p s:ba):Bool×ba:=if p.isPrefixOf s then(true,s.drop (R p))else(false,s)
def cu(s:ba):Option Nat×ba:=(ix (fun n=>decide ((b9 s).1=n)) DG,(b9 s).2)
def fY(s:ba):(Int×Bool)×ba:=if(bL [32] s).1=true then((bp (b9 (bL [32] s).2).1,numOk (b9 (bL [32] s).2).1 5),(b9 (bL [32] s).2).2)else((0,false),(bL [32] s).2)
def bB:Nat->bc
 |0=>[1,3]
 |1=>[3]
 |2=>[2,3]
 |3=>[4,1,3]
 |4=>[4,2,3]
 |_=>[3]
def Ph.Ir(p:Ph)(f:Nat)(n:Int):Ph:=match p,f with
 |.mk k _ l t e b,1=>.mk k n l t e b
 |.mk k w _ t e b,2=>.mk k w n t e b
 |.mk k w l _ e b,3=>.mk k w l n e b
 |.mk k w l t _ b,4=>.mk k w l t n b
 |p,_=>p
def Ph.setBody(p:Ph)(b:List Ph):Ph:=match p with|.mk k w l t e _=>.mk k w l t e b
def eO:bc->Ph->ba->Option Ph×ba
 |[],p,s=>(some p,s)
 |f::fs,p,s=>if(fY s).1.2=true then eO fs (p.Ir f (fY s).1.1) (fY s).2 else(none,(fY s).2)
def lz(ls:ba->(List Ph×Bool)×ba)(s:ba):(Ph×Bool)×ba:=
 match(cu s).1 with
 |none=>((Ph.zero,false),(cu s).2)
 |some k=>match(eO (bB k) (.mk k 0 0 0 0 []) (cu s).2).1 with
  |none=>((Ph.zero,false),(eO (bB k) (.mk k 0 0 0 0 []) (cu s).2).2)
  |some p=>
   let r:=(eO (bB k) (.mk k 0 0 0 0 []) (cu s).2).2
   if k≠5 then((p,true),r)else if(bL [32,40] r).1=false then((Ph.zero,false),(bL [32,40] r).2)
   else
    let b:=ls (bL [32,40] r).2
    if b.1.2=true then((p.setBody b.1.1,(bL [41] b.2).1),(bL [41] b.2).2)else((p.setBody b.1.1,false),b.2)
def qW:Nat->List Ph->ba->(List Ph×Bool)×ba
 |0,_,s=>(([],false),s)
 |n+1,acc,s=>
  let p:=lz (qW n []) s
  if p.1.2=false then(([],false),p.2)
  else if(bL [59] p.2).1=true then qW n (acc++[p.1.1]) (bL [59] p.2).2 else((acc++[p.1.1],true),(bL [59] p.2).2)
def iD(p:Ph):Bool:=match p.kind.toNat with
 |0=>decide (1<=p.power/\p.power<=10000)&&decide (1<=p.aR/\p.aR<=200)
 |1=>decide (1<=p.aR/\p.aR<=200)
 |2=>decide (0<=p.law/\p.law<=3)&&decide (1<=p.aR/\p.aR<=200)
 |3=>decide (200<=p.kelvin/\p.kelvin<=3000)&&(decide (1<=p.power/\p.power<=10000)&&decide (1<=p.aR/\p.aR<=200))
 |4=>decide (200<=p.kelvin/\p.kelvin<=3000)&&(decide (0<=p.law/\p.law<=3)&&decide (1<=p.aR/\p.aR<=200))
 |_=>decide (1<=p.aR/\p.aR<=10)
def lW(p:Ph):Bool:=match p.kind.toNat with
 |0=>decide (p.law=0)&&decide (p.kelvin=0)&&decide (R p.body=0)
 |1=>decide (p.power=0)&&decide (p.law=0)&&decide (p.kelvin=0)&&decide (R p.body=0)
 |2=>decide (p.power=0)&&decide (p.kelvin=0)&&decide (R p.body=0)
 |3=>decide (p.law=0)&&decide (R p.body=0)
 |4=>decide (p.power=0)&&decide (R p.body=0)
 |_=>decide (p.power=0)&&decide (p.law=0)&&decide (p.kelvin=0)
def cQ(g:Ph->Int)(l:List Ph):Int×Int:=if R l=0 then(0,10)else if 12<R l then(0,8)else aK (fun _ p=>g p) 0 l
def bu:Nat->Ph->Int
 |d,p=>if¬(0<=p.kind/\p.kind<=5)then 15 else if aF [ae (lW p) 3,ae (iD p) 2]≠0 then aF [ae (lW p) 3,ae (iD p) 2]else if p.kind≠5 then 0 else match d with
  |0=>16
  |d+1=>(cQ (bu d) p.body).2
def cZ:Nat->List Ph->List Ph
 |0,l=>l
 |d+1,l=>l.flatMap fun p=>if p.kind=5 then(List.replicate p.aR.toNat (cZ d p.body)).flatten else [p]
def iy(l:List Ph):List Ph:=(cZ 4 l).take 61
def nw(k:Int):Bool:=decide (k=2)||decide (k=4)
def u5(l:List Ph):Int:=if(cQ (bu 3) l).2≠0 then(cQ (bu 3) l).2 else aF [ae (decide ((R (iy l):Int)<=60)) 8,ae (nw ((iy l).getLast?.map Ph.kind|>.getD 0)) 20]
def iM(s:ba):List Ph×Int:=if 2000<R s then([],8)else
 let r:=qW (R s+1) [] s
 if r.1.2=false\/r.2≠[]then([],7)else if u5 r.1.1≠0 then([],u5 r.1.1)else(r.1.1,0)
def eG(H:ax)(name rest:ba):HE:=
 if bS name=false then(H,4)else
 let e:=aF [(iM rest).2,ae (decide ((R H.aU:Int)<6)) 16]
 if e≠0 then(H,e)else
 let n:=match(H.Ec name).bind (H.aU[·]?)with|some q=>q.1.iN+1|none=>1
 ({H with aU:=H.aU++[(⟨name,n,(iM rest).1⟩,H.entries)]},0)
structure jI where
 depth:Int
 diag:Int
 lo:Int
 hi:Int
 deriving DecidableEq
def jI.cs(x:jI):bi:=[bv x.depth,bv x.diag,bv x.lo,bv x.hi]
def Ja(n:Nat)(p:ba):Option bd:=if((aj 32 p).all fun w=>numOk w 7)&&decide (R (aj 32 p)=n)then some ((aj 32 p).map bp)else none
def Is(n:Nat)(s:ba):List bd×Int:=if 60000<R s then([],8)else match fy (Ja n) (aj 59 s)with|some l=>(l,0)|none=>([],7)
def xj(l:bd):jI:=⟨l.getD 0 0,l.getD 1 0,l.getD 2 0,l.getD 3 0⟩
def ve(n:Int):Bool:=decide (0<=n/\n<=2000)
def xk(n:Int):Bool:=decide (1<=n/\n<=10000)
def Fe(i:Nat)(b x:jI):Int:=
 let e:=aF [ae (xk x.depth&&xk x.diag&&ve x.lo&&ve x.hi) 2,ae (decide (x.lo<=x.hi)) 9]
 if e≠0 then e else if i=0 then ae (decide (2 * x.depth>=5 * x.diag)) 17 else ae (decide (x.depth - b.depth>=3 * max x.diag b.diag)) 17
def FU(l:List jI):Int×Int:=if aF [ae (decide ((R l:Int)>=2)) 10,ae (decide ((R l:Int)<=20)) 8]≠0 then(0,aF [ae (decide ((R l:Int)>=2)) 10,ae (decide ((R l:Int)<=20)) 8])else aK (fun i x=>Fe i (l.getD (i - 1) x) x) 0 l
def DH(s:ba):List jI×Int:=
 let r:=Is 4 s
 let e:=if r.2=0 then(FU (r.1.map xj)).2 else r.2
 if e≠0 then([],e)else(r.1.map xj,0)
def zO(n d:Int):zZ:=⟨n.tdiv (HL n d),d.tdiv (HL n d)⟩
def yt(l:List (Int×Int))(limit:Int):zZ×Bool:=match ix (fun p:Int×Int=>decide (p.2<limit)) l with
 |none=>(⟨0,0⟩,false)
 |some 0=>(zO (l.getD 0 (0,0)).1 1,true)
 |some (i+1)=>
  let a:=l.getD (i+1) (0,0);let b:=l.getD i (0,0)
  (zO (a.1 * (b.2 - a.2)+(b.1 - a.1) * (limit - a.2)) (b.2 - a.2),true)
def GX(l:List jI):List (Int×Int):=l.map fun x=>(x.depth,x.lo)
def yu(l:List jI):List (Int×Int):=l.map fun x=>(x.depth,x.hi)
def It(l:List jI)(limit:Int):Span×Int:=
 let e:=aF [(FU l).2,ae (ve limit) 2]
 if e≠0 then(Span.zero,e)else if((yu l).getD 0 (0,0)).2<limit then(Span.zero,12)else if(yt (yu l) limit).2=false then(Span.zero,21)
 else(⟨(yt (GX l) limit).1,(yt (yu l) limit).1⟩,0)
def ax.outside(H:ax)(d:Span):Bool:=!(!decide (d.lo.num<H.jq.lo * d.lo.den)&&!decide (d.hi.num>H.jq.hi * d.hi.den))
def ax.Ff(H:ax)(i:Nat):ax:={H with parts:=H.parts.map fun q=>if decide (q.1.oF=(H.p i).oF)&&decide (q.1.iN=(H.p i).iN)&&gE q.1 then({q.1 with marked:=true},q.2++[H.entries])else q}
def yQ(rest:ba)(H:ax)(i:Nat):HE:=
 if(H.p i).place≠1 then(H,20)else if(DH rest).2≠0 then(H,(DH rest).2)else
 let c:=It (DH rest).1 H.jq.limit
 if c.2≠0 then(H,c.2)else
 let a:=H.eC i fun p=>{p with place:=4,depth:=c.1}
 (if H.outside c.1 then a.Ff i else a,0)
end Go.Proofs.Z9
namespace Go.Proofs.Z9
open Go.Ab Tryz
def rG:∀(p s:ba),p.isPrefixOf s=(decide (R p<=R s)&&decide (s.take (R p)=p))
 |[],s=>by simp
 |a::p,[]=>by simp
 |a::p,b::s=>by
  rw[List.isPrefixOf,rG p s];grind
def DV{p s:ba}(h:p.isPrefixOf s=true):bL p s=(true,s.drop (R p)):=Zn h
def DW{p s:ba}(h:¬p.isPrefixOf s=true):bL p s=(false,s):=Zm h
def om{a b:ba}(h:a=b):some (X.box [X.str a])=some (X.box [X.str b]):=by rw[h]
def dy(s:ba):Int:=bq cU 0 s
theorem rH:∀(s:ba)(k:Nat),bq cU k s= -1\/((k:Int)<=bq cU k s/\bq cU k s<(k:Int)+R s)
 |[],_=>.inl rfl
 |b::s,k=>by
  rw[bq];split
  ·grind
  rcases rH s (k+1)with h|h
  all_goals grind
def DX:∀(s:ba)(k:Nat),0<=bq cU k s->s.takeWhile (fun b=>!cU b)=s.take (bq cU k s - k).toNat/\s.dropWhile (fun b=>!cU b)=s.drop (bq cU k s - k).toNat
 |[],_,h=>by simp
 |b::s,k,h=>by
  rw[bq]at h⊢;cases a:cU b with
  |true=>simp[a]
  |false=>
   rw[a]at h;simp only[bξ,if_false]at h⊢;obtain⟨e,d⟩:=DX s (k+1) h;have c:=rH s (k+1);rw[show(bq cU (k+1) s - (k:Int)).toNat=(bq cU (k+1) s - ((k+1:Nat):Int)).toNat+1 by omega];simp_all
def DY:∀(s:ba)(k:Nat),bq cU k s<0->s.takeWhile (fun b=>!cU b)=s/\s.dropWhile (fun b=>!cU b)=[]
 |[],_,_=>⟨rfl,rfl⟩
 |b::s,k,h=>by
  rw[bq]at h;cases a:cU b with
  |true=>grind
  |false=>
   rw[a]at h;simp only[bξ,if_false]at h;obtain⟨d,c⟩:=DY s (k+1) h;simp_all
theorem wordR_T{s:ba}(h:¬dy s<0):b9 s=(s.take (dy s).toNat,s.drop (dy s).toNat):=by
 have:=DX s 0 (by simp_all[dy]);simp_all[b9,dy]
theorem zR{s:ba}(h:dy s<0):b9 s=(s,[]):=by
 have:=DY s 0 h;simp_all[b9]
theorem rI(s:ba):(b9 s).1.length<=R s/\(b9 s).2.length<=R s:=by
 grind [zR,wordR_T]
def nD(p s:ba):R (bL p s).2<=R s:=by
 unfold bL;grind
def wL(s:ba):Int:=((cu s).1.getD 0:Nat)
def sy{s p:ba}(c:R s<=100000)(b:R p<=100):Ct prog 342 [.str s,.str p] (.bool (p.isPrefixOf s)):=by
 refine cI func342 O (ro 13 O (RK.bh (t:=10) O (fun a=>?_) (fun a=>?_)))
 ·refine rr 3 O ?_;refine kc (S.ir (hi:=R p) (l':=s.take (R p)) fR (zg O O) O (zt O) (.inl ⟨O,O,O⟩) (.inr ⟨_,_,O,(zt O),O⟩) I I O) ?_;refine rr 6 O (kR O O ?_);refine ew ?_;rw[rG];simp_all
  all_goals (intro hh;omega)
 refine rr 10 O (kR O O ?_);refine ew ?_;rw[rG];simp_all
 all_goals (intro hh;omega)
def pH{s p:ba}(d:R s<=100000)(c:R p<=100):Ct prog 379 [.str s,.str p] (.cf [.str (bL p s).2,.bool (bL p s).1]):=by
 refine cI func379 O (ro 11 O (kc (zK (sy d c) call342 O) (kc (S.not .none O (zt O)) (kD (OK.cond O O (fun b=>?_) (fun b=>?_))))))
 ·have hh:=DW (p:=p) (s:=s) (fun e=>absurd b (by rw[e];decide));refine ro 7 O (kS O O O O ?_);rw[hh]
 have a:p.isPrefixOf s=true:=by simpa using b
 have hh:=DV a;have hle:R p<=R s:=by rw[rG,Zw]at a;exact pf a.1
 refine ro 7 O ?_;refine kc (S.ir (lo:=R p) (l':=s.drop (R p)) fR .none O (zt O) (.inr ⟨_,_,O,(zt O),O⟩) (.inl ⟨O,O,O⟩) I I (by rw[List.take_length])) ?_;refine rr 4 O (kS O O O O ?_);rw[hh]
def sA{s p:ba}(b:R s<=100000)(a:R p<=100):Ct prog 361 [.str s,.str p] (.cf [.str (bL p s).2,.bool (bL p s).1]):=by
 refine cI func361 O (ro 10 O (kc (zK (pH b a) call379 O) (rr 6 O (kS O O O O ?_))));rfl
def pY{s p:ba}(c:R s<=100000)(b:R p<=100):dF prog 315 [4] [.ptr 4 0,.str p] [(1004,.box [.str s])] [(1004,.box [.str (bL p s).2])] (.bool (bL p s).1):=by
 refine cG func315 O (ro 12 O (kc (zK (sA c b) call361 O) (rr 13 O (OK.cond O O (fun a=>?_) (fun a=>?_)))))
 ·refine ro 14 O (OK.ret ⟨aA.r1 (zo O O) ?_,O,Zo⟩);rfl
 have d:(bL p s).2=s:=by
  by_cases h:p.isPrefixOf s=true
  ·rw[DV h]at a;cases a
  rw[DW h]
 refine ro 8 O (OK.ret ⟨aA.r1 (zo O O) ?_,om d.symm,Zo⟩);rfl
def xp{l:ba}(f:R l<=100000):gz prog 378 [.str l] (.cf [bv (bp l),.bool (numOk l 5)]):=by
 refine cT func378 O fun e=>?_
 refine ro 9 O (kc (S.dB (uY f) e call180 .none O (zc O .nil) O) (rr 11 O (kc (S.Da underlying270 .none O (zt O)) (jm O (RK.split (t:=14) O (fun a=>?_) (fun a=>?_))))))
 ·refine rr 4 O (RK.bh (t:=18) O (fun d=>?_) (fun d=>?_))
  ·refine kc (S.move (zg O O) O (zt O)) (kc (S.dB (pS (nk l)) e call179 (zg O O) O (zc O .nil) O) (rr 4 O (RK.bh (t:=24) O (fun c=>?_) (fun c=>?_))))
   ·refine rr 8 O (kS O O O O ?_);rw[show numOk l 5=decide (R l<=5)by unfold numOk;rw[a,Zz (show 0<=bp l by omega),Zz c];rfl];exact rn (fun b=>X.cf [X.int .i64 (bp l),X.bool b]) (decide_eq_decide.2 I)
   refine rr 8 O (kS O O O O ?_);rw[show numOk l 5=false by unfold numOk;rw[a,Zz (show 0<=bp l by omega),Zy c];rfl]
  refine rr 14 O (kS O O O O ?_);rw[show numOk l 5=false by unfold numOk;rw[a,Zy (show¬0<=bp l by omega)];rfl]
 refine rr 18 O (kS O O O O ?_);rw[show numOk l 5=false by unfold numOk;rw[a];rfl]
end Go.Proofs.Z9
namespace Go.Proofs.Z9
open Go.Ab Tryz
def xy{α:Type}(g:α->Bool):∀(l:List α)(i:Nat),bq g i l=match iR g i l with|some j=>(j:Int)|none=> -1
 |[],_=>rfl
 |x::l,i=>by
  rw[bq,iR];split
  ·rfl
  exact xy g l (i+1)
def my{α:Type}(g:α->Bool)(l:List α):bq g 0 l=match ix g l with|some j=>(j:Int)|none=> -1:=xy g l 0
def YO{α:Type}(g:α->Bool):∀(l:List α)(i:Nat),iR g i l=none↔∀x∈l,g x=false
 |[],_=>by simp[iR]
 |x::l,i=>by
  rw[iR];cases a:g x with
  |true=>simp[a]
  |false=>simp[a,YO g l (i+1)]
def Xt{α:Type}(g:α->Bool):∀(l:List α)(i j:Nat),iR g i l=some j->∀k,k<j - i->∀x,l[k]?=some x->g x=false
 |[],_,_,h,_,_,_,_=>by cases h
 |y::l,i,j,h,k,hk,x,hx=>by
  rw[iR]at h;split at h
  ·grind
  rename_i a;cases k with
  |zero=>simp_all
  |succ k=>exact Xt g l (i+1) j h k I x (by grind)
def Tx{α:Type}{g:α->Bool}{l:List α}{j:Nat}(h:dG g l=some j):∀x∈l.drop (j+1),g x=false:=by
 unfold dG at h;cases hi:ix g l.reverse with
 |none=>simp_all
 |some i=>
  rw[hi]at h;have d:R l - 1 - i=j:=by grind
  obtain⟨c,_⟩:=eE hi;rw[List.length_reverse]at c;intro x a;obtain⟨k,b,rfl⟩:=i6 a;rw[vd]at b;refine Xt g l.reverse 0 i hi (R l - 1 - (j+1+k)) I _ ?_;grind
def Wb{α:Type}{g:α->Bool}{l:List α}(h:dG g l=none):∀x∈l,g x=false:=by
 simp_all[dG,YO]
def filter_none{α:Type}{g:α->Bool}{l:List α}(h:∀x∈l,g x=false):R (l.filter g)=0:=by
 simp_all
def TY(l:List (Rec×Int)):Prop:=∀(i:Nat)(q:Rec×Int),l[i]?=some q->q.1.iN=(R ((l.take (i+1)).filter fun r=>decide (r.1.name=q.1.name)):Int)
def VE{l:List (Rec×Int)}(c:TY l){n:ba}{j:Nat}(h:dG (fun q=>decide (q.1.name=n)) l=some j):∃q,l[j]?=some q/\q.1.name=n/\q.1.iN=(R (l.filter fun r=>decide (r.1.name=n)):Int):=by
 obtain⟨b,d⟩:=j5 h;have a:l[j].1.name=n:=by grind
 refine⟨l[j],Zv b,a,?_⟩;rw[c j l[j] (Zv b),a];have e:=a7 (j+1) l;have f:=filter_none (Tx h);grind
def TY.snoc{l:List (Rec×Int)}(c:TY l){q:Rec×Int}(d:q.1.iN=(R (l.filter fun r=>decide (r.1.name=q.1.name)):Int)+1):TY (l++[q]):=by
 intro i r a;rcases w7 i (R l) with b|b
 ·rw[m6 b]at a;rw[aε I];exact c i r a
 simp_all[sT,sg]
def ax.st(H:ax):State:=⟨H.aU.map (·.1),H.aC.map (·.1),H.parts.map (·.1),H.aI.map fun i=>(H.p i).num,H.env⟩
def YL{α β:Type}(f:α->β)(g:α->α)(h:β->β)(a:∀x,f (g x)=h (f x)):∀(l:List α)(i:Nat),(l.modify i g).map f=(l.map f).modify i h
 |[],i=>by simp
 |x::l,0=>by simp[a]
 |x::l,i+1=>by simp[YL f g h a l i]
end Go.Proofs.Z9
namespace Go.Proofs.Z9
open Go.Ab Tryz
def jr(s:ba):Prop:=∀b∈s,b.toNat<128
theorem jr.drop{s:ba}(h:jr s)(n:Nat):jr (s.drop n):=fun b a=>h b (dβ a)
def jr.has{s:ba}(h:jr s)(p:ba):jr (bL p s).2:=by
 unfold bL;split
 ·exact h.drop _
 exact h
def DZ(b:UInt8):[32,59,40,41].contains b=cU b:=by
 unfold cU;grind
def any_eq:∀(s:ba)(k:Nat),bq cU k s=if Lib.indexAny s [32,59,40,41]= -1 then -1 else Lib.indexAny s [32,59,40,41]+k
 |[],_=>rfl
 |b::s,k=>by
  have a:=Lib.indexAny_ge [32,59,40,41] s;rw[bq,Lib.indexAny,DZ,any_eq s (k+1)];grind
def D0(s:ba):Lib.indexAny s [32,59,40,41]=dy s:=by
 simp[dy,any_eq]
def G1{s:ba}(D:R s<=100000)(t:jr s):Ct prog 385 [.str s,.str [32,59,40,41]] (bv (dy s)):=by
 intro m w vs hw h;obtain⟨q,n,rfl,z,y⟩:=h.bD;obtain⟨o,k,rfl,x,u⟩:=y.bD;have:=u.bJ;subst this;have f:ay m (.str s) q:=z;have d:ay m (.str [32,59,40,41]) o:=x;cases f;cases d;have c:=rH s 0;have i:dy s= -1\/(((0:Nat):Int)<=dy s/\dy s<((0:Nat):Int)+R s):=c;have a:∀{l:ba}{P:UInt8->Prop},(∀b∈l,P b)->∀(j:Nat)(b:UInt8),l[j]?=some b->P b:=fun h j b r=>h b (mr r)
 refine(strings_IndexAny_laid ⟨s.toArray⟩ ⟨[32,59,40,41].toArray⟩ w (by show R s<_;omega) C (a t) (a C)).mono ?_;rintro e B ⟨rfl,hB⟩;refine⟨_,m,rfl,hB,Mem.le_refl m,fun _ _ h=>.inl h,fun p v g=>by rw[hB.cell (block_lt_of_cell (hw p v g))];exact hw p v g,?_⟩;show ay m (.int .i64 (dy s)) (.int .i64 (Lib.indexAny s [32,59,40,41]));rw[D0];exact .int (mn _ I)
def rR(s:ba):Nat:=if dy s<0 then R s else(dy s).toNat
def FV{s:ba}(h:dy s<0):rR s=R s:=Zn h
def Iv{s:ba}(h:¬dy s<0):dy s=((rR s:Nat):Int):=by unfold rR;grind
def D1(s:ba):rR s<=R s:=by
 grind [rH,dy,rR]
def rJ(s:ba):b9 s=(s.take (rR s),s.drop (rR s)):=by
 by_cases h:dy s<0
 all_goals simp_all[zR,wordR_T,rR,Zm]
def jr.word{s:ba}(h:jr s):jr (b9 s).2:=by rw[rJ];exact h.drop _
def D2{i:Nat}(h:i<6):(b7.map X.str)[i]?=some (.str (b7[i]'h)):=by rw[i7,Zv h];rfl
def G2{s:ba}{i:Nat}(h:bq (fun n=>decide ((b9 s).1=n)) 0 b7=(i:Int)):(cu s).1=some i:=by
 rw[my]at h;show ix (fun n=>decide ((b9 s).1=n)) b7=some i;grind
def G3{s:ba}(h:bq (fun n=>decide ((b9 s).1=n)) 0 b7= -1):(cu s).1=none:=by
 rw[my]at h;show ix (fun n=>decide ((b9 s).1=n)) b7=none;grind
theorem G4{s:ba}(h:(bL [32] s).1=true):fY s=((bp (b9 (bL [32] s).2).1,numOk (b9 (bL [32] s).2).1 5),(b9 (bL [32] s).2).2):=Zn h
def G5{s:ba}(h:(bL [32] s).1=false):fY s=((0,false),(bL [32] s).2):=by simp_all[fY]
def xq{s:ba}(f:R s<=100000)(g:jr s):dF prog 377 [4] [.ptr 4 0] [(1004,.box [.str s])] [(1004,.box [.str (b9 s).2])] (.str (b9 s).1):=by
 refine cG func377 O fun{_ _}=>?_
 have d:=rH s 0;have e:dy s= -1\/(((0:Nat):Int)<=dy s/\dy s<((0:Nat):Int)+R s):=d;refine ro 11 O (kc (zK (G1 f g) call385 O) (rr 10 O (kB O (fun c=>?_) (fun c=>?_))))
 ·have b:(R s:Int)=((rR s:Nat):Int):=by rw[FV c]
  have a:b9 s=(s.take (rR s),s.drop (rR s)):=rJ s;have hle:=D1 s;refine ro 16 O ?_;refine kc (S.ir (hi:=(rR s)) (l':=s.take (rR s)) fR .none O (zt O) (.inl ⟨O,O,O⟩) (.inr ⟨_,_,O,(zt O),b⟩) I I O) ?_;refine rr 11 O ?_;refine kc (S.ir (lo:=(rR s)) (l':=s.drop (rR s)) fR .none O (zt O) (.inr ⟨_,_,O,(zt O),b⟩) (.inl ⟨O,O,O⟩) I I (by rw[List.take_length])) ?_;refine rr 11 O ?_;refine OK.ret ⟨aA.r1 (zo O O) ?_,om (by rw[a]),Zo⟩;rw[a]
 have b:dy s=((rR s:Nat):Int):=Iv c;have a:b9 s=(s.take (rR s),s.drop (rR s)):=rJ s;have hle:=D1 s;refine ro 9 O ?_;refine kc (S.ir (hi:=(rR s)) (l':=s.take (rR s)) fR .none O (zt O) (.inl ⟨O,O,O⟩) (.inr ⟨_,_,O,(zt O),b⟩) I I O) ?_;refine rr 11 O ?_;refine kc (S.ir (lo:=(rR s)) (l':=s.drop (rR s)) fR .none O (zt O) (.inr ⟨_,_,O,(zt O),b⟩) (.inl ⟨O,O,O⟩) I I (by rw[List.take_length])) ?_;refine rr 11 O ?_;refine OK.ret ⟨aA.r1 (zo O O) ?_,om (by rw[a]),Zo⟩;rw[a]
def CN{s:ba}(j:R s<=100000)(k:jr s):dU prog 359 [4] [.ptr 4 0] [(1004,.box [.str s])] [(1004,.box [.str (cu s).2])] (.cf [bv (wL s),.bool (cu s).1.isSome]):=by
 refine cH func359 O fun l=>?_
 refine ro 9 O ?_;refine RK.c (S.ot (fs:=[4]) (t:=[(1004,.box [.str s])]) (t':=[(1004,.box [.str (b9 s).2])]) (xq j k) call377 .none O (zc O .nil) V ⟨O,Zo⟩ V V V V O V) ?_;refine rr 6 O ?_;refine kc (S.A7 l (show _=some _ by kernel_rfl) C_ .none O) ?_;refine rr 4 O ?_;refine OK.loop (G:=Nat) [4] (fun i=>[(0,.ptr 4 0),(1004,.box [.str (b9 s).2]),(4,.str (b9 s).1),(9,.agg (b7.map X.str)),(10,bv i)]) (fun i=>i<=6/\bq (fun n=>decide ((b9 s).1=n)) 0 b7=bq (fun n=>decide ((b9 s).1=n)) i (b7.drop i)) (fun i=>6 - i) 0 ⟨Zr _,O⟩ ⟨O,O,O,O,O,Zo⟩ (fun _=>O) ?_;rintro i ⟨hi,g⟩;refine ro 6 O (kB O (fun h=>?_) (fun h=>?_))
 ·have d:i<6:=I
  have a:i<b7.length:=d;refine ro 7 O (kc (S.GI (i:=i) underlying473 Y9 .none O (zt O) (zt O) O I (D2 d) O) ?_);refine rr 11 O (kB O (fun b=>?_) (fun b=>?_))
  ·have f:(cu s).1=some i:=G2 (by rw[g,bT _ a,Zn (show decide ((b9 s).1=b7[i])=true from Zz b)]);refine ro 7 O (OK.ret ⟨aA.r2 (zo O O) (zo O O) ?_,O,Zo⟩);unfold wL;rw[f];rfl
  refine Ro 7 O I ?_;refine Ab.D.lp ⟨i+1,⟨I,by rw[g,bT _ a,Zm (show¬decide ((b9 s).1=b7[i])=true from fun e=>b (pf e))]⟩,I,O,O,O,O,O,Zo⟩
 have f:(cu s).1=none:=G3 (by rw[g,show i=6 by omega];rfl);refine ro 8 O (OK.ret ⟨aA.r2 (zo O O) (zo O O) ?_,O,Zo⟩);unfold wL;rw[f];rfl
def x6{s:ba}(f:R s<=100000)(h:jr s):dU prog 360 [4] [.ptr 4 0] [(1004,.box [.str s])] [(1004,.box [.str (fY s).2])] (.cf [bv (fY s).1.1,.bool (fY s).1.2]):=by
 refine cH func360 O fun i=>?_
 have g:=nD [32] s;have e:=rI (bL [32] s).2;have b:=h.has [32];refine ro 10 O ?_;refine RK.c (S.ot (fs:=[4]) (t:=[(1004,.box [.str s])]) (t':=[(1004,.box [.str (bL [32] s).2])]) (pY (p:=[32]) f C) call315 .none O (zc O (.cons (.bj (l:=[32]) O C) .nil)) V ⟨O,Zo⟩ V V V V O V) ?_;refine kc (S.not .none O (zt O)) (kD (OK.cond O O (fun d=>?_) (fun d=>?_)))
 ·have a:fY s=((0,false),(bL [32] s).2):=G5 (by simpa using d);refine ro 6 O ?_;refine OK.ret ⟨aA.r2 (zo O O) (zo O O) ?_,om (by rw[a]),Zo⟩;rw[a]
 have a:fY s=((bp (b9 (bL [32] s).2).1,numOk (b9 (bL [32] s).2).1 5),(b9 (bL [32] s).2).2):=G4 (by simpa using d);refine ro 5 O ?_;refine RK.c (S.ot (fs:=[4]) (t:=[(1004,.box [.str (bL [32] s).2])]) (t':=[(1004,.box [.str (b9 (bL [32] s).2).2])]) (xq I b) call377 .none O (zc O .nil) V ⟨O,Zo⟩ V V V V O V) ?_;refine kc (S.dB (xp (l:=(b9 (bL [32] s).2).1) I) i call378 .none O (zc O .nil) O) ?_;refine rr 6 O ?_;refine OK.ret ⟨aA.r2 (zo O O) (zo O O) ?_,om (by rw[a]),Zo⟩;rw[a]
end Go.Proofs.Z9
namespace Go.Proofs.Z9
open Go.Ab Tryz
def Ph.cx(p:Ph):bi:=[bv p.kind,bv p.power,bv p.law,bv p.aR,bv p.kelvin,.sl (p.body.map Ph.cs)]
def Ph.CR(p:Ph):p.cx=p.cs:=by
 cases p;rw[Ph.cs];rfl
abbrev iL(s:ba):(List Ph×Bool)×ba:=qW (s.length+1) [] s
abbrev jS(s:ba):(Ph×Bool)×ba:=lz iL s
def y8(s:ba):R (fY s).2<=R s:=by
 grind [rI,bL,fY]
def jr.num{s:ba}(h:jr s):jr (fY s).2:=by
 unfold fY;split
 ·exact(h.has [32]).word
 exact h.has [32]
theorem qU(s:ba):R (cu s).2<=R s:=(rI s).2
def jr.kind{s:ba}(h:jr s):jr (cu s).2:=h.word
theorem rK:∀(fs:bc)(p:Ph)(s:ba),R (eO fs p s).2<=R s
 |[],_,_=>Zq _
 |f::fs,p,s=>by
  have a:=y8 s;rw[eO];split
  ·exact ce (rK fs _ _) a
  exact a
def mg{p s:ba}(h:(bL p s).1=true)(a:0<R p):R (bL p s).2<R s:=by
 unfold bL at h⊢;grind
theorem tI{ls a:ba->(List Ph×Bool)×ba}{s:ba}(h:∀b,R b<R s->ls b=a b):lz ls s=lz a s:=by
 unfold lz;split
 ·rfl
 rename_i k _;split
 all_goals grind [bL,rK,qU]
def phOr_le{ls:ba->(List Ph×Bool)×ba}{s:ba}(h:∀a,R a<R s->R (ls a).2<=R a):R (lz ls s).2<=R s:=by
 have b:=qU s;unfold lz;grind [rK,bL]
def oD:∀(n:Nat)(a:List Ph)(s:ba),R (qW n a s).2<=R s
 |0,_,_=>Zq _
 |n+1,a,s=>by
  have c:=phOr_le (ls:=qW n []) (s:=s) fun b _=>oD n [] b
  have d:=nD [59] (lz (qW n []) s).2;rw[qW];split
  ·exact c
  split
  ·exact ce (oD n _ _) I
  grind
theorem nE:∀(n m:Nat)(a:List Ph)(s:ba),R s<n->R s<m->qW n a s=qW m a s
 |0,_,_,_,h,_=>by omega
 |_+1,0,_,_,_,h=>by omega
 |n+1,m+1,a,s,h1,h2=>by
  have c:lz (qW n []) s=lz (qW m []) s:=tI fun b e=>nE n m [] b I I
  rw[qW,qW,c];split
  ·rfl
  split
  ·rename_i i d;have g:=mg d C;have f:=phOr_le (ls:=qW m []) (s:=s) fun b _=>oD m [] b
   exact nE n m _ _ I I
  rfl
def Fi{n:Nat}{s:ba}(h:R s<=n):lz (qW n []) s=jS s:=by grind [tI,nE]
def CQ(n:Nat)(a:List Ph)(s:ba)(d:R s<n):qW n a s=if(jS s).1.2=false then(([],false),(jS s).2)else if(bL [59] (jS s).2).1=true then qW (R (bL [59] (jS s).2).2+1) (a++[(jS s).1.1]) (bL [59] (jS s).2).2 else((a++[(jS s).1.1],true),(bL [59] (jS s).2).2):=by
 cases n with
 |zero=>omega
 |succ n=>
  rw[qW,Fi I];split
  ·rfl
  split
  ·rename_i g c;have f:=mg c C;have e:R (jS s).2<=R s:=phOr_le (ls:=iL) (s:=s) fun b _=>oD _ [] b
   grind [nE]
  rfl
abbrev Q4:=Int×Int×Int×Int
def Q4.set(q:Q4)(f:Nat)(n:Int):Q4:=match f with
 |1=>(n,q.2.1,q.2.2.1,q.2.2.2)
 |2=>(q.1,n,q.2.2.1,q.2.2.2)
 |3=>(q.1,q.2.1,n,q.2.2.2)
 |4=>(q.1,q.2.1,q.2.2.1,n)
 |_=>q
def AB(k:Nat)(q:Q4)(b:List Ph):Ph:=.mk k q.1 q.2.1 q.2.2.1 q.2.2.2 b
def Bu(k:Nat)(q:Q4):bi:=[bv (k:Int),bv q.1,bv q.2.1,bv q.2.2.1,bv q.2.2.2,.sl []]
def Fj{k:Nat}{q:Q4}{f:Nat}(h:1<=f/\f<=4)(n:Int):(AB k q []).Ir f n=AB k (q.set f n) []:=by
 rcases(show f=1\/f=2\/f=3\/f=4 by omega)with rfl|rfl|rfl|rfl<;>rfl
def ER{k:Nat}{q:Q4}{f:Nat}(h:1<=f/\f<=4)(n:Int):(Bu k q).take (0+f)++((cg (bv n)).map Fv++(Bu k q).drop (0+f+1))=Bu k (q.set f n):=by
 rcases(show f=1\/f=2\/f=3\/f=4 by omega)with rfl|rfl|rfl|rfl<;>rfl
def oq{k i:Nat}(h:i<R (bB k)):1<=(bB k)[i]/\(bB k)[i]<=4:=by
 have key:∀f∈bB k,1<=f/\f<=4:=by
  unfold bB;grind
 simp_all
abbrev kz(b k:Nat):List bi:=(bB k).map fun f=>[X.raw (.pointer (some ⟨b,0+f,none⟩))]
def nh(b:Nat):List (Int×X):=[(0,.sl (kz b 0)),(1,.sl (kz b 1)),(2,.sl (kz b 2)),(3,.sl (kz b 3)),(4,.sl (kz b 4)),(5,.sl (kz b 5))]
def EO{b k:Nat}(h:k<6):nx (nh b) (k:Int)=some (.sl (kz b k)):=by
 match k,h with
 |0,_=>rfl
 |1,_=>rfl
 |2,_=>rfl
 |3,_=>rfl
 |4,_=>rfl
 |5,_=>rfl
abbrev Je(b k:Nat)(q:Q4):HM Unit:=fun _=>some (b,.box (Bu k q))
def y7(M:HM Unit)(b k:Nat)(q:Q4):M.set () (some (b,.box (Bu k q)))=Je b k q:=by rfl
def qV{k i:Nat}(h:i<R (bB k))(q:Q4)(r:ba):eO ((bB k).drop i) (AB k q []) r=if(fY r).1.2=true then eO ((bB k).drop (i+1)) (AB k (q.set (bB k)[i] (fY r).1.1) []) (fY r).2 else(none,(fY r).2):=by
 rw[np h,eO,Fj (oq h)]
def EP{k:Nat}{q:Q4}{f:Nat}(h:1<=f/\f<=4):Nat.ble (0+f+1) (R (Bu k q))=true:=by
 rcases(show f=1\/f=2\/f=3\/f=4 by omega)with rfl|rfl|rfl|rfl<;>rfl
def CP(k:Nat)(q:Q4)(b:List Ph):bi:=[bv (k:Int),bv q.1,bv q.2.1,bv q.2.2.1,bv q.2.2.2,.sl (b.map Ph.cs)]
def HQ{s:ba}(h:(cu s).1=none):jS s=((Ph.zero,false),(cu s).2):=by unfold jS lz;rw[h]
def phT_1{s r:ba}{k:Nat}(h:(cu s).1=some k)(b:eO (bB k) (AB k (0,0,0,0) []) (cu s).2=(none,r)):jS s=((Ph.zero,false),r):=by
 unfold jS lz;have a:eO (bB k) (.mk k 0 0 0 0 []) (cu s).2=(none,r):=b;simp_all
def HT{s r:ba}{k:Nat}{q:Q4}(h:(cu s).1=some k)(b:eO (bB k) (AB k (0,0,0,0) []) (cu s).2=(some (AB k q []),r)):jS s=if k≠5 then((AB k q [],true),r)else if(bL [32,40] r).1=false then((Ph.zero,false),(bL [32,40] r).2)else
  if(iL (bL [32,40] r).2).1.2=true then((AB k q (iL (bL [32,40] r).2).1.1,(bL [41] (iL (bL [32,40] r).2).2).1),(bL [41] (iL (bL [32,40] r).2).2).2)else((AB k q (iL (bL [32,40] r).2).1.1,false),(iL (bL [32,40] r).2).2):=by
 unfold jS lz;have a:eO (bB k) (.mk k 0 0 0 0 []) (cu s).2=(some (AB k q []),r):=b;rw[h];dsimp only;rw[a];rfl
def x5(k:Nat):R (bB k)<=3:=by
 unfold bB;grind
def Gu(s:ba):R (iL s).2<=R s:=oD _ [] s
def Gv(s:ba):R (jS s).2<=R s:=by simp[phOr_le,oD]
def tJ:∀(fs:bc)(p:Ph){s:ba},jr s->jr (eO fs p s).2
 |[],_,_,h=>h
 |f::fs,p,s,h=>by
  rw[eO];split
  ·exact tJ fs _ h.num
  exact h.num
def xu{ls:ba->(List Ph×Bool)×ba}{s:ba}(h:∀b,jr b->jr (ls b).2)(d:jr s):jr (lz ls s).2:=by
 have c:=d.kind;unfold lz;split
 ·exact c
 rename_i k _;have a:=tJ (bB k) (.mk k 0 0 0 0 []) c;split
 ·exact a
 rename_i p _;dsimp only;split
 ·exact a
 split
 ·exact a.has _
 split
 ·exact(h _ (a.has _)).has _
 exact h _ (a.has _)
def lsG_asc:∀(n:Nat)(a:List Ph){s:ba},jr s->jr (qW n a s).2
 |0,_,_,h=>h
 |n+1,a,s,h=>by
  have b:=xu (ls:=qW n []) (fun d c=>lsG_asc n [] c) h;rw[qW];split
  ·exact b
  split
  ·exact lsG_asc n _ (b.has _)
  exact b.has _
def ES{s:ba}(h:jr s):jr (jS s).2:=by simp_all[xu,lsG_asc]
end Go.Proofs.Z9
namespace Go.Proofs.Z9
open Go.Ab Tryz
section
variable{E:Env}{U:bc}{s:St}{code:Code}{Q:bo}{A:HA}{m:Int}
def HA.jD{A:HA}{j:Nat}{v:fk}(h:A.aC[j]?=some v):A.plain.aC[j]?=some (v.c,v.entry):=by show(A.aC.map _)[j]?=_;simp_all
def HA.oe{A:HA}{j:Nat}{v:jT}(h:A.aU[j]?=some v):A.plain.aU[j]?=some (v.r,v.entry):=by show(A.aU.map _)[j]?=_;simp_all
structure HA.Iy(A A1:HA)(H:ax)(m:Int):Prop where
 ok:A1.Ok m
 b:A1.b=A.b
 plain:A1.plain=H
 aU:A1.aU=A.aU
 parts:A1.parts=A.parts
 entries:A1.entries=A.entries
def OK.Iq{j:Nat}{v:fk}(c':o6)(a:A.Ok m)(f:A.aC[j]?=some v)(n:Ab.look s 3000=some (.res (aa (A.mem.set (.c j) (some (v.b,.box ({v with c:=c'}:fk).cs))))))(p:0<=c'.shots/\c'.shots<=1000/\c'.nM<=1000)
  (h:∀k:HA,A.Iy k {A.plain with aC:=A.plain.aC.modify j fun q=>(c',q.2)} m->k.aC[j]?=some {v with c:=c'}->OK E code Q U ((3000,.res (aa k.mem))::s)) (l:c'.name=v.c.name:=by rfl):OK E code Q U s:=by
 have o:=gU f;have g:v.b=A.aC[j].b:=by simp_all
 refine OK.bU n (aa.az (A.Ee j {v with c:=c'}).mem) (fun h Y w i=>i.less (HA.Bz o g)) (h _ ⟨?_,O,?_,O,O,O⟩ (kA f))
 ·refine⟨a.vh,fun e=>?_,a.ph,a.mh,a.fh,a.eh,a.m0,a.en,a.lv,?_,a.lp,a.lm,a.lf,a.le,a.mi,fun x d=>?_,a.vb,a.pl,a.nl,a.vn,fun x d=>?_⟩
  ·show A.aC.set j _=[];rw[a.ch e];rfl
  ·show(R (A.aC.set j _):Int)<=m;rw[wi];exact a.lc
  ·rcases aξ d with d|rfl
   ·exact a.cl x d
   exact p
  rcases aξ d with d|rfl
  ·exact a.cn x d
  show R c'.name<=12;rw[l];exact a.cn v (mr f)
 rw[cR (HA.jD f)];show ax.mk _ _ _ ((A.aC.set j _).map _) _ _ _ _ _ _=ax.mk _ _ _ ((A.aC.map _).set j _) _ _ _ _ _ _;rw[bτ];rfl
def nH{α:Type}(l:List α)(x:α):(R (l++[x]):Int)=R l+1:=F
def eA{α:Type}{q:α->Prop}{l:List α}{x:α}(h:∀y∈l,q y)(b:q x):∀y∈l++[x],q y:=fun y a=>by
 rcases List.mem_append.1 a with a|a
 ·exact h y a
 rw[pi.1 a];exact b
def OK.tM{q:Nat×Nat×Nat}(c:o6)(d:A.Ok m)(i:m+1<=1000)(j:Ab.look s 3000=some (.res (aa (((A.mem.set (.c (R A.aC)) (some (q.1,.box (fk.mk q.1 c A.entries).cs))).set .cs (some (q.2.1,.gM 1 q.2.2 (A.aC.map cRow++[[.raw (pV q.1)]])))).set .bn (some (A.b,.box (A.tM ⟨q.1,c,A.entries⟩ q.2).cs))))))
  (k:0<=c.shots/\c.shots<=1000/\c.nM<=1000) (g:R c.name<=12) (h:∀e:HA,e.Ok (m+1)->e.b=A.b->e.plain={A.plain with aC:=A.plain.aC++[(c,A.entries)]}->OK E code Q U ((3000,.res (aa e.mem))::s)):OK E code Q U s:=by
 have a:=d.more (m':=m+1) I i;refine OK.bU j (aa.az (A.tM ⟨q.1,c,A.entries⟩ q.2).mem) (fun h Y w f=>f.less HA.BB) (h _ ?_ O ?_)
 ·exact⟨a.vh,Z,a.ph,a.mh,a.fh,a.eh,a.m0,a.en,a.lv,(by show(R (A.aC++[_]):Int)<=m+1;rw[nH];have:=d.lc;omega),a.lp,a.lm,a.lf,a.le,a.mi,eA (x:=fk.mk q.1 c A.entries) a.cl k,a.vb,a.pl,a.nl,a.vn,eA (x:=fk.mk q.1 c A.entries) a.cn g⟩
 show ax.mk _ _ _ ((A.aC++[_]).map _) _ _ _ _ _ _=ax.mk _ _ _ ((A.aC.map _)++[_]) _ _ _ _ _ _;rw[ne];rfl
def OK.tN{q:Nat×Nat×Nat}(r:Rec)(c:A.Ok m)(i:m+1<=1000)(j:Ab.look s 3000=some (.res (aa (((A.mem.set (.v (R A.aU)) (some (q.1,.box (jT.mk q.1 r A.entries).cs))).set .vs (some (q.2.1,.gM 1 q.2.2 (A.aU.map jU++[[.raw (pV q.1)]])))).set .bn (some (A.b,.box (A.tN ⟨q.1,r,A.entries⟩ q.2).cs))))))
  (f:0<=r.iN/\r.iN<=m+1) (g:R r.name<=12) (h:∀d:HA,d.Ok (m+1)->d.b=A.b->d.plain={A.plain with aU:=A.plain.aU++[(r,A.entries)]}->OK E code Q U ((3000,.res (aa d.mem))::s)):OK E code Q U s:=by
 have a:=c.more (m':=m+1) I i;refine OK.bU j (aa.az (A.tN ⟨q.1,r,A.entries⟩ q.2).mem) (fun h Y w e=>e.less HA.BC) (h _ ?_ O ?_)
 ·exact⟨Z,a.ch,a.ph,a.mh,a.fh,a.eh,a.m0,a.en,(by show(R (A.aU++[_]):Int)<=m+1;rw[nH];have:=c.lv;omega),a.lc,a.lp,a.lm,a.lf,a.le,a.mi,a.cl,eA (x:=jT.mk q.1 r A.entries) a.vb f,a.pl,a.nl,eA (x:=jT.mk q.1 r A.entries) a.vn g,a.cn⟩
 show ax.mk _ _ ((A.aU++[_]).map _) _ _ _ _ _ _ _=ax.mk _ _ ((A.aU.map _)++[_]) _ _ _ _ _ _ _;rw[ne];rfl
def OK.rS{q:Nat×Nat}{i:Nat}(hi:i<R A.parts)(d:A.Ok m)(f:m+1≤1000)(g:Ab.look s 3000=some (.res (aa ((A.mem.set .ms (some (q.1,.gM 1 q.2 ((A.aI.map fun i=>[.raw (pV (A.pb i))])++[[.raw (pV (A.pb i))]])))).set .bn (some (A.b,.box (A.rS i q).cs))))))
  (h:∀c:HA,c.Ok (m+1)->c.b=A.b->c.pb=A.pb->c.parts=A.parts->c.plain={A.plain with aI:=A.plain.aI++[i]}->OK E code Q U ((3000,.res (aa c.mem))::s)):OK E code Q U s:=by
 have a:=d.more (m':=m+1) I f;refine OK.bU g (aa.az (A.rS i q).mem) (fun h Y w e=>e.less HA.BD) (h _ ?_ O O O O);exact⟨a.vh,a.ch,a.ph,Z,a.fh,a.eh,a.m0,a.en,a.lv,a.lc,a.lp,(by show(R (A.aI++[_]):Int)<=m+1;rw[nH];have:=d.lm;omega),a.lf,a.le,eA a.mi hi,a.cl,a.vb,a.pl,a.nl,a.vn,a.cn⟩
def OK.rT{q:(Nat×Nat)×Nat×Nat×Nat}(p:Part)(es:bd)(c:A.Ok m)(k:m+1<=1000)(l:Ab.look s 3000=some (.res (aa ((((A.mem.set (.e (R A.parts)) (some (q.1.1,.row 1 q.1.2 (bM es)))).set (.p (R A.parts)) (some (q.2.1,.box (aB.mk q.2.1 none (some q.1) p es).cs))).set .ps (some (q.2.2.1,.gM 1 q.2.2.2 (A.parts.map iA++[[.raw (pV q.2.1)]])))).set .bn (some (A.b,.box (A.rT ⟨q.2.1,none,some q.1,p,es⟩ q.2.2).cs))))))
  (n:p.frames=[]) (o:R es=3) (f:0<=p.place/\p.place<=4) (g:R p.oF<=12/\R p.coil<=12) (h:∀d:HA,d.Ok (m+1)->d.b=A.b->d.plain={A.plain with parts:=A.plain.parts++[(p,es)]}->OK E code Q U ((3000,.res (aa d.mem))::s)):OK E code Q U s:=by
 have a:=c.more (m':=m+1) I k;have h0:=c.m0;refine OK.bU l (aa.az (A.rT ⟨q.2.1,none,some q.1,p,es⟩ q.2.2).mem) (fun h Y w j=>j.less (HA.BF c O O)) (h _ ?_ O ?_)
 ·exact⟨a.vh,a.ch,Z,a.mh,eA (x:=aB.mk q.2.1 none (some q.1) p es) a.fh (fun _=>n),eA (x:=aB.mk q.2.1 none (some q.1) p es) a.eh Z,a.m0,a.en,a.lv,a.lc,(by show(R (A.parts++[_]):Int)<=m+1;rw[nH];have:=c.lp;omega),a.lm,eA (x:=aB.mk q.2.1 none (some q.1) p es) a.lf (by grind),eA (x:=aB.mk q.2.1 none (some q.1) p es) a.le (by grind),
   (fun i hi=>by show i<R (A.parts++[_]);rw[Zs];have:=c.mi i hi;omega),a.cl,a.vb,eA (x:=aB.mk q.2.1 none (some q.1) p es) a.pl f,eA (x:=aB.mk q.2.1 none (some q.1) p es) a.nl g,a.vn,a.cn⟩
 show ax.mk _ _ _ _ ((A.parts++[_]).map _) _ _ _ _ _=ax.mk _ _ _ _ ((A.parts.map _)++[_]) _ _ _ _ _;rw[ne];rfl
def OK.Dv{A1:HA}(a:A.Ok m)(j:Ab.look s 3000=some (.res (aa (A.mem.set .bn (some (A.b,.box A1.cs))))))(k:A1.b=A.b)(i:A1.vh=A.vh/\A1.aU=A.aU)(g:A1.ch=A.ch/\A1.aC=A.aC)(f:A1.ph=A.ph/\A1.parts=A.parts)(e:A1.mh=A.mh/\A1.aI=A.aI)(d:0<=A1.entries/\A1.entries<=60)
  (h:A1.Ok m->OK E code Q U ((3000,.res (aa A1.mem))::s)):OK E code Q U s:=by
 refine OK.bU j (aa.az A1.mem) (fun h Y w c=>c.less (HA.z1 k i g f e)) (h ?_);obtain⟨b,jq,aS,vh,aU,ch,aC,ph,parts,mh,aI,env,bz,entries,time⟩:=A1;obtain⟨rfl,rfl⟩:=i;obtain⟨rfl,rfl⟩:=g;obtain⟨rfl,rfl⟩:=f;obtain⟨rfl,rfl⟩:=e;exact⟨a.vh,a.ch,a.ph,a.mh,a.fh,a.eh,a.m0,d,a.lv,a.lc,a.lp,a.lm,a.lf,a.le,a.mi,a.cl,a.vb,a.pl,a.nl,a.vn,a.cn⟩
end
def Fl(A:HA)(v:fk)(q:Nat×Nat):A.jq.cs++A.aS.cs++[.raw (A.vh.v (R A.aU)),.raw (.slice (some ⟨q.1,0,none⟩) (R (A.aC.map cRow)+1) q.2),.raw (A.ph.v (R A.parts)),.raw (A.mh.v (R A.aI)),bv A.env.parts,bv A.env.trim,.sl (A.env.rows.map fun l=>[.sl (l.map Range.cs)]),.bool A.bz,bv A.entries,bv A.time]=(A.tM v q).cs:=by
 simp[HA.cs,HA.tM,Hd.v]
def EU(A:HA)(v:jT)(q:Nat×Nat):A.jq.cs++A.aS.cs++[.raw (.slice (some ⟨q.1,0,none⟩) (R (A.aU.map jU)+1) q.2),.raw (A.ch.v (R A.aC)),.raw (A.ph.v (R A.parts)),.raw (A.mh.v (R A.aI)),bv A.env.parts,bv A.env.trim,.sl (A.env.rows.map fun l=>[.sl (l.map Range.cs)]),.bool A.bz,bv A.entries,bv A.time]=(A.tN v q).cs:=by
 simp[HA.cs,HA.tN,Hd.v]
def Fa(A:HA)(v:aB)(q:Nat×Nat):A.jq.cs++A.aS.cs++[.raw (A.vh.v (R A.aU)),.raw (A.ch.v (R A.aC)),.raw (.slice (some ⟨q.1,0,none⟩) (R (A.parts.map iA)+1) q.2),.raw (A.mh.v (R A.aI)),bv A.env.parts,bv A.env.trim,.sl (A.env.rows.map fun l=>[.sl (l.map Range.cs)]),.bool A.bz,bv A.entries,bv A.time]=(A.rT v q).cs:=by
 simp[HA.cs,HA.rT,Hd.v]
def Fc(A:HA)(i:Nat)(q:Nat×Nat):A.jq.cs++A.aS.cs++[.raw (A.vh.v (R A.aU)),.raw (A.ch.v (R A.aC)),.raw (A.ph.v (R A.parts)),.raw (.slice (some ⟨q.1,0,none⟩) (R (A.aI.map fun i=>[X.raw (pV (A.pb i))])+1) q.2),bv A.env.parts,bv A.env.trim,.sl (A.env.rows.map fun l=>[.sl (l.map Range.cs)]),.bool A.bz,bv A.entries,bv A.time]=(A.rS i q).cs:=by
 simp[HA.cs,HA.rS,Hd.v]
def rf{s:ba}(h:bS s=true):R s<=12:=by
 unfold bS at h;grind
def Bk{a b c d:Bool}{e:Int}(h:aF [ae a 4,ae b 5,ae c 2,ae d 16]=e)(f:e=0):a=true:=by
 rw[f]at h;cases a<;>cases b<;>cases c<;>cases d<;>first|rfl|exact absurd h C
def Bl{a b d:Bool}{n e:Int}(h:aF [ae a 4,ae b 5,ae (decide (1<=n/\n<=1000)) 2,ae d 16]=e)(c:e=0):1<=n/\n<=1000:=by
 grind [aF,ae]
def Ol{A:HA}{m:Int}(a:A.Ok m)(c:m+2<=1000){w:Words}:dF prog 154 [] [.raw (pV A.b),.agg w.cs] [(3000,.res (aa A.mem))] [(3000,.res (JX A.b A.plain (m+2)))] (bv 0):=by
 refine cG func154 O (ro 11 O ?_);refine OK.bU (J':=JX A.b A.plain (m+2)) O (JX.az _ _ _) (fun h Y w d=>HA.jx a I c O d) ?_;refine OK.ret ⟨aA.r1 (zo O O) ?_,O,Zo⟩;rfl
def tG{A:HA}{m:Int}(L:A.Ok m)(V:m+2<=1000){n:Int}{tx:List ba}{f:Nat}{caps:bi}(F:∀args w,(callFunc f args).run prog w=.ok (.enter f args) w)(X:caps.all (mE [])=true)(W:caps.all (fun u=>!bR u)=true){ac:ax->Nat->HE}(hf:∀i v,A.parts[i]?=some v->A.plain.vr n=some i->dU prog f [] (.raw (pV v.b)::caps) [(3000,.res (aa A.mem))] [(3000,.res (JP A (ac A.plain i).1 (m+1)))] (.int .i64 (ac A.plain i).2))(N:∀i,(ac A.plain i).1.entries=A.entries):dU prog 207 [] [.raw (pV A.b),.agg (Words.mk [n] tx).cs,.fn f caps] [(3000,.res (aa A.mem))] [(3000,.res (JX A.b (cK A.plain n ac).1 (m+2)))] (.int .i64 (cK A.plain n ac).2):=by
 refine cH func207 O fun g=>?_
 refine ro 11 O ?_;refine kc (S.aP (n:=0) Z4 .none O (zt O) (.af O) O (by exact aθ _) O) (kc (zV Z8 O O) (kc (S.fI ((fun J hS hJ=>(qY L (n:=n) hS hJ).jR hS)) call137 .none O (zc O (zc O .nil)) O O) ?_));refine rr 7 O (kc (S.uA underlying128 .none O (zt O)) (kD (OK.cond O O (fun G=>?_) (fun G=>?_))))
 ·have hN:ix (fun v=>decide (v.p.num=n)) A.parts=none:=ku G;refine ro 5 O ?_;have g:cK A.plain n ac=(A.plain,6):=by unfold cK;rw[HA.gG,hN]
  refine OK.bU (J':=JX A.b (cK A.plain n ac).1 (m+2)) O (JX.az _ _ _) (fun h Y w M=>HA.jx L I V (by rw[g]) M) ?_;refine OK.ret ⟨aA.r1 (zo O O) ?_,O,Zo⟩;rw[g]
 obtain⟨i,z⟩:∃i,ix (fun v=>decide (v.p.num=n)) A.parts=some i:=je G;obtain⟨v,P⟩:=at_of_lt (eE z).1;rw[gd z (HA.Bt P)];refine ro 3 O ?_;have y:A.plain.vr n=some i:=by rw[HA.gG];exact z
 refine ro 3 O ?_;refine RK.c (S.uy (((hf i v P y).jR g (aa.az _))) (JP.az _ _ _) F .none O (zt O) (zc O .nil) O O X W) ?_;refine rr 10 O (kB O (fun j=>?_) (fun j=>?_))
 ·refine OK.G9 O fun r a hb1 K B o=>?_
  obtain⟨t,d⟩:=at_of_lt (l:=r.parts) (i:=i) (by rw[B];exact gU P);have H:t.b=v.b:=by rw[←HA.Bt d,K,HA.Bt P]
  rw[←H,←hb1];have he1:r.entries=A.entries:=(rn ax.entries o).trans (N i);refine OK.Ye follows (ι:=(Nat×Nat)) (0,0) 10 O (S.happR (s:=[(26,.raw (t.eh.v t.es.length)),(31,.own 31 1),(2031,.arr 1 [[bv r.entries]]),(3000,.res (aa r.mem))]) (m:=1) (rows2:=[[bv r.entries]]) (.e i) ZM O (zt O) (a.IG d) (zt O) O O O C (by simp only[bM,Zx];have:=a.le _ (mr d);have:=a.m0;omega) (by simp only[bM,Zx,maxLen];have:=a.le _ (mr d);have:=a.m0;omega)).st (fun q=>(.cs (zm O) (.cs (zm O) (.cs (zn O O) (.cs (zr Q8 O) (.cs (zH Zd O (aa.dQ (k:=.p i) (HA.dm d) O (.same _))) (.cs (zm O) (.cs (zn O O) (.cs (zr Y4 O) (.cs (zH Z8 O (aa.dQ (k:=.bn) O O (.same _))) (.cs (zM [[_]] ZM O O O O)
   (.x ⟨O,O,O,O,Zo⟩ (.cn (zn O O) (.cn (zr Q8 O) (.cn (S.dc (xs:=t.cs) (xs':=({t with eh:=some q,es:=t.es++[r.entries]}:aB).cs) (.p i) Zd .none (zt O) (zt O) O ((HM.ai _ _ Z).trans (HA.dm d)) O O O O (ni t q _)) .nil))))))))))))))) (fun q=>?_)
  refine Ab.D.code (kO (OK.ze q _ a I d O O fun A2 hL=>?_));refine ro 5 O ?_;have g:cK A.plain n ac=((ac A.plain i).1.jO i,0):=by unfold cK;rw[y];dsimp only;rw[Zn j]
  refine OK.bU (J':=JX r.b (cK A.plain n ac).1 (m+2)) O (JX.az _ _ _) (fun h Y w M=>jM hL.ok I V hL.b (by rw[hL.plain,o,g]) M) ?_;refine OK.ret ⟨aA.r1 (zo O O) ?_,O,Zo⟩;rw[g,j]
 refine ro 8 O ?_;have g:cK A.plain n ac=ac A.plain i:=by unfold cK;rw[y];dsimp only;rw[Zm j]
 refine OK.bU (J':=JX A.b (cK A.plain n ac).1 (m+2)) O (JX.az _ _ _) (fun h Y w M=>M.elim fun r T=>jM T.1.1 I V T.1.2.1 (by rw[g];exact T.1.2.2.2.2) T.2) ?_;refine OK.ret ⟨aA.r1 (zo O O) ?_,O,Zo⟩;rw[g]
def Bm{A:HA}{m:Int}(c:A.Ok m)(n:m+2<=1000){i:Nat}{v:aB}(a:A.parts[i]?=some v):dF prog 208 [] [.raw (pV v.b)] [(3000,.res (aa A.mem))] [(3000,.res (JP A (gj A.plain i).1 (m+1)))] (bv (gj A.plain i).2):=by
 refine cG func208 O fun{_ _}=>?_
 have g:=HA.mb a;refine ro 9 O (kc (S.fI ((fun J j l=>(uS a j l).jR j)) call63 .none O (zc O .nil) O O) ?_);refine kc (S.not .none O (zt O)) (kD (OK.cond O O (fun f=>?_) (fun f=>?_)))
 ·refine ro 5 O ?_;have d:gj A.plain i=(A.plain,24):=by unfold gj;rw[g,Zm (by simpa using f)]
  refine OK.bU (J':=JP A (gj A.plain i).1 (m+1)) O (JP.az _ _ _) (fun h Y w e=>HA.jp c I I (by rw[d]) e) ?_;refine OK.ret ⟨aA.r1 (zo O O) ?_,O,Zo⟩;rw[d]
 refine ro 8 O (kc (S.dc (xs':=({v with p:={v.p with place:=2}}:aB).cs) (.p i) Z8 .none (zt O) (.af O) O (HA.dm a) O O O O O) (rr 3 O ?_));refine OK.y9 {v.p with place:=2} c a O O (by dsimp only;decide) fun o k=>?_
 refine ro 4 O ?_;have d:gj A.plain i=(A.plain.eC i fun p=>{p with place:=2},0):=by unfold gj;rw[g,Zn (by simpa using f)]
 refine OK.bU (J':=JP A (gj A.plain i).1 (m+1)) O (JP.az _ _ _) (fun h Y w e=>k.jp I I (by rw[d];exact ax.pZ (HA.dh a) fun p=>{p with place:=2}) e) ?_;refine OK.ret ⟨aA.r1 (zo O O) ?_,O,Zo⟩;rw[d]
def Oi{A:HA}{m:Int}(c:A.Ok m)(l:m+2<=1000){i:Nat}{v:aB}(a:A.parts[i]?=some v):dF prog 209 [] [.raw (pV v.b)] [(3000,.res (aa A.mem))] [(3000,.res (JP A (Ei A.plain i).1 (m+1)))] (bv (Ei A.plain i).2):=by
 refine cG func209 O fun{_ _}=>?_
 have g:=HA.mb a;refine ro 12 O ?_;refine kc (zH Z8 O (aa.dQ (k:=.p i) (HA.dm a) O (.same _))) ?_;refine rr 3 O (kB O (fun f=>?_) (fun f=>?_))
 ·refine ro 5 O ?_;have d:Ei A.plain i=(A.plain,20):=by unfold Ei;rw[g,Zm f]
  refine OK.bU (J':=JP A (Ei A.plain i).1 (m+1)) O (JP.az _ _ _) (fun h Y w e=>HA.jp c I I (by rw[d]) e) ?_;refine OK.ret ⟨aA.r1 (zo O O) ?_,O,Zo⟩;rw[d]
 refine ro 8 O (kc (S.dc (xs':=({v with p:={v.p with place:=3}}:aB).cs) (.p i) Z8 .none (zt O) (.af O) O (HA.dm a) O O O O O) (rr 3 O ?_));refine OK.y9 {v.p with place:=3} c a O O (by dsimp only;decide) fun n j=>?_
 refine ro 4 O ?_;have d:Ei A.plain i=(A.plain.eC i fun p=>{p with place:=3},0):=by unfold Ei;rw[g,Zn (by simpa using f)]
 refine OK.bU (J':=JP A (Ei A.plain i).1 (m+1)) O (JP.az _ _ _) (fun h Y w e=>j.jp I I (by rw[d];exact ax.pZ (HA.dh a) fun p=>{p with place:=3}) e) ?_;refine OK.ret ⟨aA.r1 (zo O O) ?_,O,Zo⟩;rw[d]
def PA{A:HA}{m:Int}(a:A.Ok m)(q:m+2<=1000){i:Nat}{v:aB}(d:A.parts[i]?=some v):dF prog 210 [] [.raw (pV v.b)] [(3000,.res (aa A.mem))] [(3000,.res (JP A (yE A.plain i).1 (m+1)))] (bv (yE A.plain i).2):=by
 refine cG func210 O fun{_ _}=>?_
 have f:=HA.mb d;refine ro 9 O (kc (S.fI ((fun J j n=>(xT d j n).jR j)) call129 .none O (zc O .nil) O O) ?_);refine kc (S.not .none O (zt O)) (jm O (RK.split (t:=6) O (fun o=>?_) (fun o=>?_)))
 ·refine rr 14 O ?_;have c:yE A.plain i=(A.plain,20):=by unfold yE;rw[f];simp_all
  refine OK.bU (J':=JP A (yE A.plain i).1 (m+1)) O (JP.az _ _ _) (fun h Y w e=>HA.jp a I I (by rw[c]) e) ?_;refine OK.ret ⟨aA.r1 (zo O O) ?_,O,Zo⟩;rw[c]
 refine rr 4 O ?_;refine kc (S.aG SP (zg O O) O (zt O) O (aa.dQ (k:=.p i) (HA.dm d) O (.same _))) ?_;refine rr 3 O (OK.cond O O (fun g=>?_) (fun g=>?_))
 ·refine ro 5 O ?_;have c:yE A.plain i=(A.plain,20):=by unfold yE;rw[f];simp_all
  refine OK.bU (J':=JP A (yE A.plain i).1 (m+1)) O (JP.az _ _ _) (fun h Y w e=>HA.jp a I I (by rw[c]) e) ?_;refine OK.ret ⟨aA.r1 (zo O O) ?_,O,Zo⟩;rw[c]
 refine ro 8 O (kc (S.dc (xs':=({v with p:={v.p with marked:=true}}:aB).cs) (.p i) SP .none (zt O) .aJ O (HA.dm d) O O O O O) (rr 3 O (OK.y9 {v.p with marked:=true} a d O O (a.pl v (mr d)) fun r l=>?_)));refine ro 4 O ?_;have c:yE A.plain i=(A.plain.eC i fun p=>{p with marked:=true},0):=by unfold yE;rw[f];simp_all
 refine OK.bU (J':=JP A (yE A.plain i).1 (m+1)) O (JP.az _ _ _) (fun h Y w e=>l.jp I I (by rw[c];exact ax.pZ (HA.dh d) fun p=>{p with marked:=true}) e) ?_;refine OK.ret ⟨aA.r1 (zo O O) ?_,O,Zo⟩;rw[c]
def Bn(A:HA)(i:Nat):(gj A.plain i).1.entries=A.entries:=by unfold gj;split<;>rfl
def M0(A:HA)(i:Nat):(Ei A.plain i).1.entries=A.entries:=by unfold Ei;split<;>rfl
def Pr(A:HA)(i:Nat):(yE A.plain i).1.entries=A.entries:=by unfold yE;split<;>rfl
def DN{A:HA}{m:Int}(a:A.Ok m)(d:m+2<=1000){n:Int}:dU prog 158 [] [.raw (pV A.b),.agg (Words.mk [n] []).cs] [(3000,.res (aa A.mem))] [(3000,.res (JX A.b (cK A.plain n gj).1 (m+2)))] (bv (cK A.plain n gj).2):=by
 refine cH func158 O fun g=>?_
 refine ro 10 O ?_;refine RK.c (S.ik (((tG a d (n:=n) (tx:=[]) (f:=208) (caps:=[]) call208 O O (ac:=gj) (fun i v e _=>(Bm a d e).ef) (fun i=>Bn A i)).jR g (aa.az _))) (JX.az _ _ _) call207 .none O (zc O (zc O (.cons .oL .nil))) O O) ?_;refine rr 3 O (OK.ret ⟨aA.r1 (zo O O) ?_,O,Zo⟩);rfl
def Mu{A:HA}{m:Int}(a:A.Ok m)(d:m+2<=1000){n:Int}:dU prog 159 [] [.raw (pV A.b),.agg (Words.mk [n] []).cs] [(3000,.res (aa A.mem))] [(3000,.res (JX A.b (cK A.plain n Ei).1 (m+2)))] (bv (cK A.plain n Ei).2):=by
 refine cH func159 O fun g=>?_
 refine ro 10 O ?_;refine RK.c (S.ik (((tG a d (n:=n) (tx:=[]) (f:=209) (caps:=[]) call209 O O (ac:=Ei) (fun i v e _=>(Oi a d e).ef) (fun i=>M0 A i)).jR g (aa.az _))) (JX.az _ _ _) call207 .none O (zc O (zc O (.cons .oL .nil))) O O) ?_;refine rr 3 O (OK.ret ⟨aA.r1 (zo O O) ?_,O,Zo⟩);rfl
def Oj{A:HA}{m:Int}(a:A.Ok m)(d:m+2<=1000){n:Int}:dU prog 162 [] [.raw (pV A.b),.agg (Words.mk [n] []).cs] [(3000,.res (aa A.mem))] [(3000,.res (JX A.b (cK A.plain n yE).1 (m+2)))] (bv (cK A.plain n yE).2):=by
 refine cH func162 O fun g=>?_
 refine ro 10 O ?_;refine RK.c (S.ik (((tG a d (n:=n) (tx:=[]) (f:=210) (caps:=[]) call210 O O (ac:=yE) (fun i v e _=>(PA a d e).ef) (fun i=>Pr A i)).jR g (aa.az _))) (JX.az _ _ _) call207 .none O (zc O (zc O (.cons .oL .nil))) O O) ?_;refine rr 3 O (OK.ret ⟨aA.r1 (zo O O) ?_,O,Zo⟩);rfl
def xl{A:HA}{m:Int}(a:A.Ok m)(C:m+2<=1000){n:Int}{t:ba}:dF prog 160 [] [.raw (pV A.b),.agg (Words.mk [n] [t]).cs] [(3000,.res (aa A.mem))] [(3000,.res (JX A.b (qj A.plain t n).1 (m+2)))] (bv (qj A.plain t n).2):=by
 refine cG func160 O fun{_ _}=>?_
 have K:=a.en;have H:=a.lc;have G:=a.m0;have y:=HA.nU A t;have o:(R A.plain.aC:Int)=R A.aC:=by show(R (A.aC.map _):Int)=_;rw[Zx]
 obtain⟨e,f⟩:∃e,aF [ae (bS t) 4,ae (A.plain.Bs t).isNone 5,ae (decide (1<=n/\n<=1000)) 2,ae (decide ((R A.plain.aC:Int)<4)) 16]=e:=⟨_,rfl⟩;have B:qj A.plain t n=if e=0 then({A.plain with aC:=A.plain.aC++[(⟨t,n,0⟩,A.entries)]},0)else(A.plain,e):=by unfold qj;dsimp only;rw[f];rfl
 rw[y,o]at f;rw[B];refine ro 7 O ?_;refine kV (.c (zf UC O) (.c (zl SO O O O O) (.c (S.aP (n:=0) Z2 .none O (zt O) (.af O) O (by exact aθ _) O) (.c (zV Y9 O O) (.c (zf SL O) (.c (zl Zd O O O O) (.c (S.aP (n:=0) Z4 .none O (zt O) (.af O) O (by exact aθ _) O) (.c (zV Z8 O O) (.c (za O) (.c (za O) .nil)))))))))) (Ab.D.code (kO (kV (.c (zm O) (.c (zK jA call138 O) (.c (zK ak call96 O) (.c (zm O) (.c (zm O) (.c (S.fI ((fun J F L=>(qJ a (n:=t) F L).jR F)) call134 .none O (zc O (zc O .nil)) O O) (.c (S.uA underlying222 .none O (zt O)) (.c (zK ak call96 O) (.c (zm O) (.c (zK cv call97 O) (.c (zK ak call96 O) (.c (zm O) (.c (zn O O) (.c (zr TZ O) (.c (zH (u:=.sl (A.aC.map cRow)) QS O (aa.dQ (k:=.bn) O O (.sl a.cs))) (.c (zk LP O) (.c (S.lss .none O (zt O) (.af O)) (.c (zK ak call96 O) (.c (zM [[_],[_],[_],[_]] Zc O O O O) (.c (S.callL (bF (l:=[_,_,_,_])) call76 .none O (zc O .nil) (.cons (.p (.own O O) O) .nil) O) (.c (za O) .nil))))))))))))))))))))) ?_)));refine rd 8 O (kB O (fun g=>?_) (fun g=>?_))
 ·have d:e=0:=by rw[←f];simpa only[r8,Kp]using g
  refine OK.Ye follows (ι:=(Nat×Nat×Nat)) (0,0,0) 15 O (S.FM (s:=[(42,.raw (A.ch.v (R A.aC))),(52,.own 52 1),(2052,.cM 1 [] [.di 51 1 0] []),(2051,.cM 4 [] [.str t,bv n,bv 0,bv A.entries] []),(3000,.res (aa A.mem))]) (cells':=[.str t,bv n,bv 0,bv A.entries]) .cs (.c (R A.aC)) l_ O (zt O) a.cs Z (zt O) O O O O O O (by simp only[Zx];omega) (by simp only[Zx,maxLen];omega)).st (fun q=>(.cs (zm O) (.cs (zm O) (.cs (zn O O) (.cs (zr TZ O) (.cs (zH QS O (aa.dQ (k:=.bn) O O (.same _))) (.cs (zm O) (.cs (zm O) (.cs (zU m_ O O) (.cs (zm O) (.cs (zn O O) (.cs (zr Y4 O) (.cs (zH Z8 O (aa.dQ (k:=.bn) O O (.same _))) (.cs (zU bu224 O O) (.cs (S.Ex (k:=51) O .none O (zt O) O) (.cs (S.q9 (k:=52) l_ .none O (zt O) O)
   (.x ⟨O,O,O,O,O,Zo⟩ (.cn (zn O O) (.cn (zr TZ O) (.cn (S.dc (xs:=A.cs) (xs':=(A.tM ⟨q.1,⟨t,n,0⟩,A.entries⟩ q.2).cs) (.bn) QS .none (zt O) (zt O) O ((HM.ai _ _ Z).trans ((HM.ai _ _ Z).trans A.ID)) O O O O (Fl A ⟨q.1,⟨t,n,0⟩,A.entries⟩ q.2)) .nil)))))))))))))))))))) (fun q=>?_)
  refine Ab.D.code (kO ?_);refine OK.tM ⟨t,n,0⟩ a I O (by have:=Bl f d;dsimp only;omega) (rf (Bk f d)) fun M j z i=>?_
  refine ro 5 O ?_;refine OK.bU (J':=JX A.b (if e=0 then({A.plain with aC:=A.plain.aC++[(⟨t,n,0⟩,A.entries)]},0)else(A.plain,e)).1 (m+2)) O (JX.az _ _ _) (fun h Y w r=>jM j I C z (by rw[Zn d];exact i) r) ?_;refine OK.ret ⟨aA.r1 (zo O O) ?_,O,Zo⟩;rw[Zn d];simp only[r8,Kp,f,d]
 have d:¬e=0:=by rw[←f];simpa only[r8,Kp]using g
 refine ro 8 O ?_;refine OK.bU (J':=JX A.b (if e=0 then({A.plain with aC:=A.plain.aC++[(⟨t,n,0⟩,A.entries)]},0)else(A.plain,e)).1 (m+2)) O (JX.az _ _ _) (fun h Y w r=>HA.jx a I C (by rw[Zm d]) r) ?_;refine OK.ret ⟨aA.r1 (zo O O) ?_,O,Zo⟩;rw[Zm d];simp only[r8,Kp,f]
end Go.Proofs.Z9
namespace Go.Proofs.Z9
open Go.Ab Tryz
def State.vr(s:State)(n:Int):Option Nat:=ix (fun p=>decide (p.num=n)) s.parts
def State.Bs(s:State)(n:ba):Option Nat:=ix (fun c=>decide (c.name=n)) s.aC
def State.xE(s:State):Option Nat:=ix (fun p=>decide (p.place=0)) s.parts
def State.iN(s:State)(n:ba):Int:=(R (s.yB.filter fun r=>decide (r.name=n)):Int)
def State.p(s:State)(i:Nat):Part:=(s.parts[i]?).getD ⟨0,[],0,[],[],0,false,0,false,Span.zero⟩
def State.eC(s:State)(i:Nat)(f:Part->Part):State:={s with parts:=s.parts.modify i f}
theorem RG(H:ax)(n:Int):H.st.vr n=H.vr n:=j4 (fun q:Part×bd=>q.1) _ _ _
def RF(H:ax)(n:ba):H.st.Bs n=H.Bs n:=j4 (fun q:o6×Int=>q.1) _ _ _
theorem TR(H:ax):H.st.xE=H.xE:=j4 (fun q:Part×bd=>q.1) _ _ _
theorem Zb(H:ax)(i:Nat):H.st.p i=H.p i:=by
 show((H.parts.map (·.1))[i]?).getD _=_;rw[i7];rfl
def OO{H:ax}(a:TY H.aU)(n:ba):(match H.Ec n with|some j=>(match H.aU[j]? with|some q=>q.1.iN|none=>0)|none=>0)=H.st.iN n:=by
 have e:H.st.iN n=(R (H.aU.filter fun r=>decide (r.1.name=n)):Int):=by
  show(R ((H.aU.map (·.1)).filter fun r=>decide (r.name=n)):Int)=_;rw[pA,Zx];rfl
 rw[e];cases h:H.Ec n with
 |none=>rw[filter_none (Wb h)];rfl
 |some j=>
  obtain⟨q,d,c,b⟩:=VE a h;simp_all
def KA(H:ax)(i j:Nat){f:Part->Part}(a:∀p,(f p).num=p.num):((H.eC i f).p j).num=(H.p j).num:=by
 grind [ax.p,ax.eC]
def Ym(H:ax)(i:Nat){f:Part->Part}(a:∀p,(f p).num=p.num):(H.eC i f).st=H.st.eC i f:=by
 show State.mk _ _ _ _ _=State.mk _ _ _ _ _;congr 1
 ·exact YL (fun q:Part×bd=>q.1) _ f (fun _=>rfl) _ _
 exact aβ fun j _=>KA H i j a
def N_(H:ax)(i j:Nat):(H.jO i).p j=H.p j:=by
 show((H.parts.modify i fun q=>(q.1,q.2++[H.entries]))[j]?.map (·.1)).getD _=(H.parts[j]?.map (·.1)).getD _;grind
theorem VX(H:ax)(i:Nat):(H.jO i).st=H.st:=by
 show State.mk _ _ _ _ _=State.mk _ _ _ _ _;congr 1
 ·refine(YL (fun q:Part×bd=>q.1) (fun q=>(q.1,q.2++[H.entries])) id (fun _=>rfl) H.parts i).trans ?_;simp
 exact aβ fun j _=>by rw[N_]
abbrev SE:=State×Int
def ZL(s:State)(n:Int)(f:State->Nat->SE):SE:=match s.vr n with
 |none=>(s,6)
 |some i=>f s i
def XZ{H:ax}{n:Int}{f:ax->Nat->HE}{ac:State->Nat->SE}(a:∀i,H.vr n=some i->((f H i).1.st,(f H i).2)=ac H.st i):((cK H n f).1.st,(cK H n f).2)=ZL H.st n ac:=by
 grind [cK,ZL,RG,VX]
def UX(s:State)(i:Nat):SE:=if Ac (s.p i)then(s.eC i fun p=>{p with place:=2},0)else(s,24)
def QT(s:State)(i:Nat):SE:=if(s.p i).place=1 then(s.eC i fun p=>{p with place:=3},0)else(s,20)
def U7(s:State)(i:Nat):SE:=if gE (s.p i)&&!(s.p i).marked then(s.eC i fun p=>{p with marked:=true},0)else(s,20)
def Mb(H:ax)(i:Nat):((gj H i).1.st,(gj H i).2)=UX H.st i:=by
 unfold gj UX;rw[Zb];split
 ·exact rn (fun q=>(q,(0:Int))) (Ym H i fun _=>rfl)
 rfl
def JA(H:ax)(i:Nat):((Ei H i).1.st,(Ei H i).2)=QT H.st i:=by
 unfold Ei QT;rw[Zb];split
 ·exact rn (fun q=>(q,(0:Int))) (Ym H i fun _=>rfl)
 rfl
def Mg(H:ax)(i:Nat):((yE H i).1.st,(yE H i).2)=U7 H.st i:=by
 unfold yE U7;rw[Zb];split
 ·exact rn (fun q=>(q,(0:Int))) (Ym H i fun _=>rfl)
 rfl
def Ng(s:State)(name:ba)(nM:Int):SE:=
 if bS name=false then(s,4)else if(s.Bs name).isSome then(s,5)else if¬(1<=nM/\nM<=1000)then(s,2)else if¬(R s.aC:Int)<4 then(s,16)
 else({s with aC:=s.aC++[⟨name,nM,0⟩]},0)
def LG(H:ax)(name:ba)(nM:Int):((qj H name nM).1.st,(qj H name nM).2)=Ng H.st name nM:=by
 unfold qj Ng;have e:(R H.st.aC:Int)=R H.aC:=by show(R (H.aC.map _):Int)=_;simp
 rw[RF,e];simp only[aF,ae];cases b:bS name
 ·simp
 cases a:H.Bs name
 all_goals grind [ax.st,ax.p]
def State.busy(s:State)(name:ba):Bool:=match s.xE with
 |some i=>decide ((s.p i).coil=name)
 |none=>false
def MJ(H:ax)(name:ba):H.st.busy name=H.busy name:=by
 grind [State.busy,ax.busy,TR,Zb]
def YQ(s:State)(name:ba):SE:=match s.Bs name with
 |none=>(s,6)
 |some j=>if s.busy name then(s,17)else({s with aC:=s.aC.modify j fun c=>{c with shots:=0}},0)
def PJ(H:ax)(name:ba):((tS H name).1.st,(tS H name).2)=YQ H.st name:=by
 unfold tS YQ;rw[RF,MJ];cases h:H.Bs name with
 |none=>rfl
 |some j=>
  dsimp only;cases H.busy name with
  |true=>rfl
  |false=>
   refine rn (fun q=>(q,(0:Int))) ?_;show State.mk _ _ _ _ _=State.mk _ _ _ _ _;congr 1;exact YL (fun q:o6×Int=>q.1) (fun q=>({q.1 with shots:=0},q.2)) (fun c=>{c with shots:=0}) (fun _=>rfl) H.aC j
structure MS(H:ax):Prop where
 iN:TY H.aU
 shots:∀q∈H.aC,0<=q.1.shots/\q.1.shots<=q.1.nM
 lp:H.parts.length<=12
 lc:H.aC.length<=4
 lv:H.aU.length<=6
 LL:0<=H.entries
 aI:∀i∈H.aI,i<H.parts.length
def XA(s:State)(n:Int)(r c:ba):SE:=
 if 1000000<n then(s,2)else if(s.vr n).isSome then(s,5)else match s.Bs c with
 |none=>(s,6)
 |some j=>if s.iN r=0 then(s,6)else if s.xE.isSome then(s,17)else match s.aC[j]? with
  |none=>(s,6)
  |some q=>if q.shots=q.nM then(s,22)else if R s.parts=12 then(s,16)
   else({s with aC:=s.aC.modify j fun c=>{c with shots:=c.shots+1},parts:=s.parts++[⟨n,r,s.iN r,c,[],0,false,0,false,Span.zero⟩]},0)
def OS{H:ax}(hi:MS H)(n:Int)(r c:ba):((fT H n r c).1.st,(fT H n r c).2)=XA H.st n r c:=by
 unfold fT XA;rw[RG,RF,TR,←OO hi.iN];simp only[aF,ae];by_cases b:n<=1000000
 case neg=>simp_all
 rw[Zm (show¬1000000<n by omega)];cases M:H.vr n with
 |some i=>simp[b]
 |none=>
  cases D:H.Bs c with
  |none=>simp[b]
  |some j=>
   obtain⟨h,y⟩:=eE D;have x:H.aC[j].1.name=c:=by grind
   have g:H.st.aC[j]?=some H.aC[j].1:=by show(H.aC.map _)[j]?=_;simp_all
   have f:R H.st.parts=R H.parts:=Zx ..;cases C:H.Ec r with
   |none=>simp[b]
   |some k=>
    obtain⟨v,a,o,d⟩:=VE hi.iN C;have e:v.1.iN≠0:=by
     rw[d];have:(0:Nat)<R (H.aU.filter fun l=>decide (l.1.name=r)):=List.length_pos_of_mem (List.mem_filter.2 ⟨mr a,by grind⟩);omega
    simp only[a,g,f];cases L:H.xE with
    |some u=>grind
    |none=>
     obtain⟨K,J⟩:=hi.shots _ (Zt h);have w:=hi.lp;by_cases B:H.aC[j].1.shots<H.aC[j].1.nM
     ·by_cases z:(R H.parts:Int)<12
      ·have F:R H.parts≠12:=I
       have G:H.aC[j].1.shots≠H.aC[j].1.nM:=I
       simp[b,e,B,z,G,F,a,Zv h];show State.mk _ _ _ _ _=State.mk _ _ _ _ _;congr 1
       ·exact YL (fun q:o6×Int=>q.1) (fun q=>({q.1 with shots:=q.1.shots+1},q.2)) (fun c=>{c with shots:=c.shots+1}) (fun _=>rfl) H.aC j
       ·show(H.parts++[_]).map _=H.parts.map _++[_];simp_all
       refine aβ fun m t=>?_
       unfold ax.p;dsimp only;rw[m6 (hi.aI m t)]
      grind
     grind
end Go.Proofs.Z9
namespace Go.Proofs.Z9
open Go.Ab Tryz
def mw(aS:bC)(p:Part):Bool:=(fM aS p.frames).rows.all fun r=>r.known
def fe(H:ax)(i:Nat):HE:=
 let e:=aF [ae (decide ((H.p i).place≠0)) 20,ae (mw H.aS (H.p i)) 14,ae (!H.aI.contains i) 23]
 if e=0 then({H with aI:=H.aI++[i]},0)else(H,e)
def Yj(aS:bC)(s:State)(i:Nat):SE:=
 if(s.p i).place=0 then(s,20)else if mw aS (s.p i)=false then(s,14)else if s.aI.contains (s.p i).num then(s,23)
 else({s with aI:=s.aI++[(s.p i).num]},0)
def MT(H:ax):Prop:=∀i j,i<R H.parts->j<R H.parts->(H.p i).num=(H.p j).num->i=j
def Rm{H:ax}(hi:MS H)(a:MT H){i:Nat}(h:i<R H.parts):H.st.aI.contains (H.p i).num=H.aI.contains i:=by
 show(H.aI.map fun j=>(H.p j).num).contains (H.p i).num=H.aI.contains i;rw[cδ,tl,tl];constructor
 ·intro d;obtain⟨j,c,b⟩:=rx.1 d;rwa [←a j i (hi.aI j c) h b]
 grind
def NV{H:ax}(hi:MS H)(b:MT H){i:Nat}(h:i<R H.parts):((fe H i).1.st,(fe H i).2)=Yj H.aS H.st i:=by
 unfold fe Yj;rw[Zb,Rm hi b h];simp only[aF,ae];by_cases a:(H.p i).place=0
 ·simp[a]
 cases d:mw H.aS (H.p i)
 ·simp[a]
 cases c:H.aI.contains i
 ·simp[a];show State.mk _ _ _ _ _=State.mk _ _ _ _ _;congr 1;show(H.aI++[i]).map _=_;rw[ne];rfl
 simp[a]
def rC(aS:bC)(env:Envelope)(bz:Bool)(p:Part):Part:={p with place:=1,lP:=bz,verdict:=if bz=true then(if dZ aS env (fM aS p.frames)=0 then oX env (fM aS p.frames)else 0)else if mw aS p=true then p.verdict else 1}
def n8(H:ax):HE:=match H.xE with
 |none=>(H,12)
 |some i=>((H.eC i (rC H.aS H.env H.bz)).jO i,0)
def S7(aS:bC)(bz:Bool)(s:State):SE:=match s.xE with
 |none=>(s,12)
 |some i=>(s.eC i (rC aS s.env bz),0)
def JQ(H:ax):((n8 H).1.st,(n8 H).2)=S7 H.aS H.bz H.st:=by
 unfold n8 S7;rw[TR];cases H.xE with
 |none=>rfl
 |some i=>
  refine rn (fun q=>(q,(0:Int))) ?_;exact(VX _ i).trans (Ym H i fun _=>rfl)
def frameT(H:ax)(f:Frame)(a:Int):HE:=match H.xE with
 |none=>(H,12)
 |some i=>if a≠0 then(H,a)else if dL H.aS f≠0 then(H,dL H.aS f)
  else match(H.p i).frames.find? (fun g=>decide (g.tick=f.tick))with
   |none=>((H.eC i fun p=>{p with frames:=p.frames++[f]}).jO i,0)
   |some g=>if g.values=f.values then(H.jO i,0)else(H,13)
def ZQ(aS:bC)(s:State)(f:Frame)(a:Int):SE:=match s.xE with
 |none=>(s,12)
 |some i=>if a≠0 then(s,a)else if dL aS f≠0 then(s,dL aS f)
  else match(s.p i).frames.find? (fun g=>decide (g.tick=f.tick))with
   |none=>(s.eC i fun p=>{p with frames:=p.frames++[f]},0)
   |some g=>if g.values=f.values then(s,0)else(s,13)
def Nw(H:ax)(f:Frame)(a:Int):((frameT H f a).1.st,(frameT H f a).2)=ZQ H.aS H.st f a:=by
 unfold frameT ZQ;rw[TR];cases H.xE with
 |none=>rfl
 |some i=>
  dsimp only;rw[Zb];by_cases h0:a≠0
  ·simp_all
  rw[Zm h0,Zm h0];by_cases b:dL H.aS f≠0
  ·simp_all
  rw[Zm b,Zm b];cases (H.p i).frames.find? (fun g=>decide (g.tick=f.tick))with
  |none=>
   refine rn (fun q=>(q,(0:Int))) ?_;exact(VX _ i).trans (Ym H i fun _=>rfl)
  |some g=>
   dsimp only;split
   all_goals simp[VX]
