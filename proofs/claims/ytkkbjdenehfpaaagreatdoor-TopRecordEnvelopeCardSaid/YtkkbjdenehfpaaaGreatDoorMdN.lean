import Derived.Test.YtkkbjdenehfpaaaGreatDoorMbN
set_option linter.all false
open List renaming length->R
namespace Go.Proofs.Z_
open Go.Ab Tryz
set_option maxRecDepth 9999
variable{l:ba}
theorem WJ{c:UInt8}:R (Z7 c l)<=R l+1:=by
 simp[L3,Lib.countByte,dα]
def Wv(c:UInt8)(l:ba):0<R (Z7 c l):=aη.2<|UN c l
def RX(w:ba):Bool:=UW w 7&&decide (0<=WR w)
def Ej{w:ba}:LO w false 7=RX w:=bR C
def ow{w:ba}(h:RX w=true):UW w 7=true/\0<=WR w/\YZ w=WR w:=by
 simp_all[RX,oR]
def ZI(l:ba):Frame×Int:=if RX ((Z7 32 l).getD 0 [])=true then match YT NO ((Z7 32 l).drop 1)with
 |some vs=>(⟨WR<|(Z7 32 l).getD 0 [],vs⟩,0)
 |none=>(⟨0,[]⟩,7)
 else(⟨0,[]⟩,7)
def getD_0{l:List ba}(h:0<R l):l.getD 0 []=l[0]:=TJ h
def BJ(h:RX ((Z7 32 l)[0]'(Wv 32 l))=false):ZI l=(⟨0,[]⟩,7):=by
 simp_all[ZI,Wv]
def BK(h:YT NO ((Z7 32 l).drop 1)=none):ZI l=(⟨0,[]⟩,7):=by
 simp_all[ZI]
def BL{vs:bd}(h:RX ((Z7 32 l)[0]'(Wv 32 l))=true)(a:YT NO ((Z7 32 l).drop 1)=some vs):ZI l=(⟨WR<|(Z7 32 l)[0]'(Wv 32 l),vs⟩,0):=by
 simp_all[ZI,Wv]
set_option maxHeartbeats 1000000 in
def Ij(v:R l<=100000 - 1):Q7 prog 212 [.str l]<|.Yy [.agg (ZI l).1.cs,bv (ZI l).2]:=by
 refine cT func212 O λp=>?_
 have h:=Wv 32 l;have u:=WJ (c:=32) (l:=l);have g:∀w∈Z7 32 l,R w<=100000:=λw hw=>by have:=Xs w hw;omega
 refine ro 9 O<|kc (zK (Gj (l:=l) (c:=32) I) call165 O) ?_;refine rr 6 O<|kc (S.Zi (n:=0) X1 .none O (zt O) (.Zg O) O h O)<|kc (zV T6 O O) ?_;refine kc (S.Xo (NN (l:=(Z7 32 l)[0]) (b:=false)<|g _<|Zt h) p call166 .none O (zc O<|.cons .Wx .nil) O) ?_;refine rr 10 O ?_;refine kc (S.slice (lo:=1) (l':=(Z7 32 l).drop 1) X1 (λ_=>O) .none O (zt O) (.inr ⟨_,_,O,(.Zg O),O⟩) (.inl ⟨O,O,O⟩) I I<|by rw[List.take_length]) ?_;refine kc (S.Xo (Bx (l:=(Z7 32 l).drop 1) (by rw[vd];omega) λw hw=>g w<|dβ hw) p call261 .none O (zc O .nil) O) ?_;refine rr 11 O<|kc (S.not .none O<|zt O)<|jm O<|RK.split (t:=26) O (λe=>?_) λe=>?_
 ·have d:RX (Z7 32 l)[0]=false:=by rw[←Ej];simpa using e
  have a:=BJ d;refine rr 8 O<|kc (zU xT O O)<|rr 4 O<|OK.ret<|Y3.r2 (.XU O O O O Ni O<|.k (.same O)<|.k .ZM .z) (zo O O) ?_;rw[a]
  all_goals rfl
 have d:RX (Z7 32 l)[0]=true:=by rw[←Ej];simpa using e
 obtain⟨r,q,j⟩:=ow d;refine kc (S.move (zg O O) O<|zt O)<|kc (S.not (zg O O) O<|zt O)<|rr 3 O<|OK.cond O O (λf=>?_) λf=>?_
 ·have o:YT NO ((Z7 32 l).drop 1)=none:=by simpa using f
  have a:=BK o;refine kr<|kc (zU xT O O)<|rr 4 O<|OK.ret<|Y3.r2 (.XU O O O O Ni O<|.k (.same O)<|.k .ZM .z) (zo O O) ?_;rw[a]
  all_goals rfl
 obtain⟨vs,i⟩:∃vs,YT NO ((Z7 32 l).drop 1)=some vs:=sk.1 (by simpa using f);have a:=BL d i;rw[i,j];refine ro 6 O<|kc (zU xT O O)<|rr 4 O<|kT O O Ni O O O ?_;rw[a]
 all_goals rfl
def Ph.kind:Ph->Int|.mk k _ _ _ _ _=>k
def Ph.power:Ph->Int|.mk _ p _ _ _ _=>p
def Ph.law:Ph->Int|.mk _ _ l _ _ _=>l
def Ph.ticks:Ph->Int|.mk _ _ _ t _ _=>t
def Ph.U8:Ph->Int|.mk _ _ _ _ k _=>k
def Ph.body:Ph->List Ph|.mk _ _ _ _ _ b=>b
def Ph.zero:Ph:=.mk 0 0 0 0 0 []
def XP:List ba:=[[104,101,97,116],[100,119,101,108,108],[113,117,101,110,99,104],[117,110,116,105,108],[99,111,111,108],[114,101,112,101,97,116]]
def X8(b:UInt8):Bool:=b==32||b==59||b==40||b==41
def X7(s:ba):ba×ba:=(s.takeWhile λb=>!X8 b,s.dropWhile λb=>!X8 b)
def YY(p s:ba):Bool×ba:=if p.isPrefixOf s then(true,s.drop<|R p)else(false,s)
def XV(s:ba):Option Nat×ba:=(ix (λn=>decide<|(X7 s).1=n) XP,(X7 s).2)
def Vu(s:ba):(Int×Bool)×ba:=if(YY [32] s).1=true then((YZ (X7 (YY [32] s).2).1,YB (X7 (YY [32] s).2).1 5),(X7 (YY [32] s).2).2)else((0,false),(YY [32] s).2)
def ZE:Nat->bc
 |0=>[1,3]
 |1=>[3]
 |2=>[2,3]
 |3=>[4,1,3]
 |4=>[4,2,3]
 |_=>[3]
def Ph.Kx(p:Ph)(f:Nat)(n:Int):Ph:=match p,f with
 |.mk k _ l t e b,1=>.mk k n l t e b
 |.mk k w _ t e b,2=>.mk k w n t e b
 |.mk k w l _ e b,3=>.mk k w l n e b
 |.mk k w l t _ b,4=>.mk k w l t n b
 |p,_=>p
def Ph.setBody(p:Ph)(b:List Ph):Ph:=match p with|.mk k w l t e _=>.mk k w l t e b
def Wk:bc->Ph->ba->Option Ph×ba
 |[],p,s=>(some p,s)
 |f::fs,p,s=>if(Vu s).1.2=true then Wk fs (p.Kx f (Vu s).1.1) (Vu s).2 else(none,(Vu s).2)
def TS(ls:ba->(List Ph×Bool)×ba)(s:ba):(Ph×Bool)×ba:=
 match(XV s).1 with
 |none=>((Ph.zero,false),(XV s).2)
 |some k=>match(Wk (ZE k) (.mk k 0 0 0 0 []) (XV s).2).1 with
  |none=>((Ph.zero,false),(Wk (ZE k) (.mk k 0 0 0 0 []) (XV s).2).2)
  |some p=>
   let r:=(Wk (ZE k) (.mk k 0 0 0 0 []) (XV s).2).2
   if k≠5 then((p,true),r)else if(YY [32,40] r).1=false then((Ph.zero,false),(YY [32,40] r).2)
   else
    let b:=ls (YY [32,40] r).2
    if b.1.2=true then((p.setBody b.1.1,(YY [41] b.2).1),(YY [41] b.2).2)else((p.setBody b.1.1,false),b.2)
def KN:Nat->List Ph->ba->(List Ph×Bool)×ba
 |0,_,s=>(([],false),s)
 |n+1,acc,s=>
  let p:=TS (KN n []) s
  if p.1.2=false then(([],false),p.2)
  else if(YY [59] p.2).1=true then KN n (acc++[p.1.1]) (YY [59] p.2).2 else((acc++[p.1.1],true),(YY [59] p.2).2)
def Ys(p:Ph):Bool:=match p.kind.toNat with
 |0=>decide (1<=p.power/\p.power<=10000)&&decide (1<=p.ticks/\p.ticks<=200)
 |1=>decide<|1<=p.ticks/\p.ticks<=200
 |2=>decide (0<=p.law/\p.law<=3)&&decide (1<=p.ticks/\p.ticks<=200)
 |3=>decide (200<=p.U8/\p.U8<=3000)&&(decide (1<=p.power/\p.power<=10000)&&decide (1<=p.ticks/\p.ticks<=200))
 |4=>decide (200<=p.U8/\p.U8<=3000)&&(decide (0<=p.law/\p.law<=3)&&decide (1<=p.ticks/\p.ticks<=200))
 |_=>decide<|1<=p.ticks/\p.ticks<=10
def YE(p:Ph):Bool:=match p.kind.toNat with
 |0=>decide (p.law=0)&&decide (p.U8=0)&&decide (R p.body=0)
 |1=>decide (p.power=0)&&decide (p.law=0)&&decide (p.U8=0)&&decide (R p.body=0)
 |2=>decide (p.power=0)&&decide (p.U8=0)&&decide (R p.body=0)
 |3=>decide (p.law=0)&&decide (R p.body=0)
 |4=>decide (p.power=0)&&decide (R p.body=0)
 |_=>decide (p.power=0)&&decide (p.law=0)&&decide (p.U8=0)
def YC(g:Ph->Int)(l:List Ph):Int×Int:=if R l=0 then(0,10)else if 12<R l then(0,8)else ZP (λ_ p=>g p) 0 l
def ZD:Nat->Ph->Int
 |d,p=>if¬(0<=p.kind/\p.kind<=5)then 15 else if ZW [Z8 (YE p) 3,Z8 (Ys p) 2]≠0 then ZW [Z8 (YE p) 3,Z8 (Ys p) 2]else if p.kind≠5 then 0 else match d with
  |0=>16
  |d+1=>(YC (ZD d) p.body).2
def YV:Nat->List Ph->List Ph
 |0,l=>l
 |d+1,l=>l.flatMap λp=>if p.kind=5 then(List.replicate p.ticks.toNat<|YV d p.body).flatten else [p]
def Tn(l:List Ph):List Ph:=(YV 4 l).take 61
def Tg(k:Int):Bool:=decide (k=2)||decide (k=4)
def Ln(l:List Ph):Int:=if(YC (ZD 3) l).2≠0 then(YC (ZD 3) l).2 else ZW [Z8 (decide ((R (Tn l):Int)<=60)) 8,Z8 (Tg<|(Tn l).getLast?.map Ph.kind|>.getD 0) 20]
def VJ(s:ba):List Ph×Int:=if 2000<R s then([],8)else
 let r:=KN (R s+1) [] s
 if r.1.2=false\/r.2≠[]then([],7)else if Ln r.1.1≠0 then([],Ln r.1.1)else(r.1.1,0)
def XX(H:Z6)(qe vk:ba):HE:=
 if YA qe=false then(H,4)else
 let e:=ZW [(VJ vk).2,Z8 (decide ((R H.ZF:Int)<6)) 16]
 if e≠0 then(H,e)else
 let n:=match(H.AI qe).bind (H.ZF[·]?)with|some q=>q.1.YD+1|none=>1
 ({H with ZF:=H.ZF++[(⟨qe,n,(VJ vk).1⟩,H.entries)]},0)
structure ZK where
 depth:Int
 diag:Int
 lo:Int
 hi:Int
 deriving DecidableEq
def ZK.cs(x:ZK):bi:=[bv x.depth,bv x.diag,bv x.lo,bv x.hi]
def Qk(n:Nat)(p:ba):Option bd:=if((Z7 32 p).all λw=>YB w 7)&&decide (R (Z7 32 p)=n)then some ((Z7 32 p).map YZ)else none
def Yq(n:Nat)(s:ba):List bd×Int:=if 60000<R s then([],8)else match YT (Qk n) (Z7 59 s)with|some l=>(l,0)|none=>([],7)
def Xy(l:bd):ZK:=⟨l.getD 0 0,l.getD 1 0,l.getD 2 0,l.getD 3 0⟩
def Y5(n:Int):Bool:=decide<|0<=n/\n<=2000
def YR(n:Int):Bool:=decide<|1<=n/\n<=10000
def VE(i:Nat)(b x:ZK):Int:=
 let e:=ZW [Z8 (YR x.depth&&YR x.diag&&Y5 x.lo&&Y5 x.hi) 2,Z8 (decide<|x.lo<=x.hi) 9]
 if e≠0 then e else if i=0 then Z8 (decide<|2 * x.depth>=5 * x.diag) 17 else Z8 (decide<|x.depth - b.depth>=3 * max x.diag b.diag) 17
def WS(l:List ZK):Int×Int:=if ZW [Z8 (decide ((R l:Int)>=2)) 10,Z8 (decide ((R l:Int)<=20)) 8]≠0 then(0,ZW [Z8 (decide ((R l:Int)>=2)) 10,Z8 (decide ((R l:Int)<=20)) 8])else ZP (λi x=>VE i (l.getD (i - 1) x) x) 0 l
def Y9(s:ba):List ZK×Int:=
 let r:=Yq 4 s
 let e:=if r.2=0 then(WS<|r.1.map Xy).2 else r.2
 if e≠0 then([],e)else(r.1.map Xy,0)
def TZ(n d:Int):GB:=⟨n.tdiv<|ON n d,d.tdiv<|ON n d⟩
def Xp(l:List<|Int×Int)(limit:Int):GB×Bool:=match ix (λp:Int×Int=>decide<|p.2<limit) l with
 |none=>(⟨0,0⟩,false)
 |some 0=>(TZ (l.getD 0 (0,0)).1 1,true)
 |some (i+1)=>
  let a:=l.getD (i+1) (0,0);let b:=l.getD i (0,0)
  (TZ (a.1 * (b.2 - a.2)+(b.1 - a.1) * (limit - a.2))<|b.2 - a.2,true)
def UF(l:List ZK):List<|Int×Int:=l.map λx=>(x.depth,x.lo)
def X5(l:List ZK):List<|Int×Int:=l.map λx=>(x.depth,x.hi)
def Y6(l:List ZK)(limit:Int):Span×Int:=
 let e:=ZW [(WS l).2,Z8 (Y5 limit) 2]
 if e≠0 then(Span.zero,e)else if((X5 l).getD 0 (0,0)).2<limit then(Span.zero,12)else if(Xp (X5 l) limit).2=false then(Span.zero,21)
 else(⟨(Xp (UF l) limit).1,(Xp (X5 l) limit).1⟩,0)
def Z6.outside(H:Z6)(d:Span):Bool:=!(!decide (d.lo.num<H.XR.lo * d.lo.den)&&!decide (d.hi.num>H.XR.hi * d.hi.den))
def Z6.Yz(H:Z6)(i:Nat):Z6:={H with parts:=H.parts.map λq=>if decide (q.1.Yr=(H.p i).Yr)&&decide (q.1.YD=(H.p i).YD)&&Yu q.1 then({q.1 with marked:=true},q.2++[H.entries])else q}
def Xz(vk:ba)(H:Z6)(i:Nat):HE:=
 if(H.p i).place≠1 then(H,20)else if(Y9 vk).2≠0 then(H,(Y9 vk).2)else
 let c:=Y6 (Y9 vk).1 H.XR.limit
 if c.2≠0 then(H,c.2)else
 let a:=H.Zh i λp=>{p with place:=4,depth:=c.1}
 (if H.outside c.1 then a.Yz i else a,0)
theorem pre_eq:∀(p s:ba),p.isPrefixOf s=(decide (R p<=R s)&&decide (s.take (R p)=p))
 |[],s=>by simp
 |a::p,[]=>by simp
 |a::p,b::s=>by
  rw[List.isPrefixOf,pre_eq p s];grind
variable{s:ba}
def yF{p:ba}(h:p.isPrefixOf s=true):YY p s=(true,s.drop<|R p):=Zn h
def yE{p:ba}(h:¬p.isPrefixOf s=true):YY p s=(false,s):=Zm h
def LH{a b:ba}(h:a=b):some (X.box [X.str a])=some (X.box [X.str b]):=by rw[h]
def V8(s:ba):Int:=ZC X8 0 s
theorem Hs:∀(s:ba)(k:Nat),ZC X8 k s= -1\/((k:Int)<=ZC X8 k s/\ZC X8 k s<(k:Int)+R s)
 |[],_=>.inl rfl
 |b::s,k=>by
  rw[ZC];split
  ·grind
  rcases Hs s (k+1)with h|h
  all_goals grind
def rL:∀(s:ba)(k:Nat),0<=ZC X8 k s->s.takeWhile (λb=>!X8 b)=s.take (ZC X8 k s - k).toNat/\s.dropWhile (λb=>!X8 b)=s.drop (ZC X8 k s - k).toNat
 |[],_,h=>by simp
 |b::s,k,h=>by
  rw[ZC]at h⊢;cases a:X8 b with
  |true=>simp[a]
  |false=>
   rw[a]at h;simp only[bξ,if_false]at h⊢;obtain⟨e,d⟩:=rL s (k+1) h;have c:=Hs s<|k+1;rw[show(ZC X8 (k+1) s - (k:Int)).toNat=(ZC X8 (k+1) s - ((k+1:Nat):Int)).toNat+1 by omega];simp_all
theorem rK:∀(s:ba)(k:Nat),ZC X8 k s<0->s.takeWhile (λb=>!X8 b)=s/\s.dropWhile (λb=>!X8 b)=[]
 |[],_,_=>⟨rfl,rfl⟩
 |b::s,k,h=>by
  rw[ZC]at h;cases a:X8 b with
  |true=>grind
  |false=>
   rw[a]at h;simp only[bξ,if_false]at h;obtain⟨d,c⟩:=rK s (k+1) h;simp_all
theorem xO(h:¬V8 s<0):X7 s=(s.take (V8 s).toNat,s.drop (V8 s).toNat):=by
 have:=rL s 0 (by simp_all[V8]);simp_all[X7,V8]
theorem xN(h:V8 s<0):X7 s=(s,[]):=by
 have:=rK s 0 h;simp_all[X7]
theorem Jj(s:ba):R (X7 s).1<=R s/\R (X7 s).2<=R s:=by
 grind [xN,xO]
theorem wI(p s:ba):R (YY p s).2<=R s:=by
 unfold YY;grind
def Bo(s:ba):Int:=((XV s).1.getD 0:Nat)
def GP{p:ba}(c:R s<=100000)(b:R p<=100):Ct prog 296 [.str s,.str p]<|.bool<|p.isPrefixOf s:=by
 refine cI func296 O<|ro 13 O<|RK.ZS (t:=10) O (λa=>?_) λa=>?_
 ·refine rr 3 O ?_;refine kc (S.VI (hi:=R p) (l':=s.take<|R p) W6 (zg O O) O (zt O) (.inl ⟨O,O,O⟩) (.inr ⟨_,_,O,(zt O),O⟩) I I O) ?_;refine rr 6 O<|kR O O ?_;refine Xj ?_;rw[pre_eq];simp_all
  all_goals (intro hh;omega)
 refine rr 10 O<|kR O O ?_;refine Xj ?_;rw[pre_eq];simp_all
 all_goals (intro hh;omega)
def Ks{p:ba}(d:R s<=100000)(c:R p<=100):Ct prog 337 [.str s,.str p]<|.Yy [.str (YY p s).2,.bool (YY p s).1]:=by
 refine cI func337 O<|ro 11 O<|kc (zK (GP d c) call296 O)<|kc (S.not .none O<|zt O)<|kD<|OK.cond O O (λb=>?_) λb=>?_
 ·have hh:=yE (p:=p) (s:=s) (λe=>absurd b<|by rw[e];decide);refine ro 7 O<|kS O O O O ?_;rw[hh]
 have a:p.isPrefixOf s=true:=by simpa using b
 have hh:=yF a;have xf:R p<=R s:=by rw[pre_eq,Zw]at a;exact pf a.1
 refine ro 7 O ?_;refine kc (S.VI (lo:=R p) (l':=s.drop<|R p) W6 .none O (zt O) (.inr ⟨_,_,O,(zt O),O⟩) (.inl ⟨O,O,O⟩) I I<|by rw[List.take_length]) ?_;refine rr 4 O<|kS O O O O ?_;rw[hh]
def GO{p:ba}(b:R s<=100000)(a:R p<=100):Ct prog 328 [.str s,.str p]<|.Yy [.str (YY p s).2,.bool (YY p s).1]:=by
 refine cI func328 O<|ro 10 O<|kc (zK (Ks b a) call337 O)<|rr 6 O<|kS O O O O ?_;rfl
def JV{p:ba}(c:R s<=100000)(b:R p<=100):Vi prog 306 [4] [.ptr 4 0,.str p] [(1004,.box [.str s])] [(1004,.box [.str (YY p s).2])]<|.bool (YY p s).1:=by
 refine cG func306 O<|ro 12 O<|kc (zK (GO c b) call328 O)<|rr 13 O<|OK.cond O O (λa=>?_) λa=>?_
 ·refine ro 14 O<|OK.ret ⟨Y3.r1 (zo O O) ?_,O,Zo⟩;rfl
 have d:(YY p s).2=s:=by
  by_cases h:p.isPrefixOf s=true
  ·rw[yF h]at a;cases a
  rw[yE h]
 refine ro 8 O<|OK.ret ⟨Y3.r1 (zo O O) ?_,LH d.symm,Zo⟩;rfl
def B4(f:R l<=100000):Q7 prog 336 [.str l]<|.Yy [bv<|YZ l,.bool<|YB l 5]:=by
 refine cT func336 O λe=>?_
 refine ro 9 O<|kc (S.Xo (Js f) e call146 .none O (zc O .nil) O)<|rr 11 O<|kc (S.mK underlying187 .none O<|zt O)<|jm O<|RK.split (t:=14) O (λa=>?_) λa=>?_
 ·refine rr 4 O<|RK.ZS (t:=18) O (λd=>?_) λd=>?_
  ·refine kc (S.move (zg O O) O<|zt O)<|kc (S.Xo (N9<|Px l) e call81 (zg O O) O (zc O .nil) O)<|rr 4 O<|RK.ZS (t:=24) O (λc=>?_) λc=>?_
   ·refine rr 8 O<|kS O O O O ?_;rw[show YB l 5=decide (R l<=5)by unfold YB;rw[a,Zz (show 0<=YZ l by omega),Zz c];rfl];exact rn (λb=>X.Yy [X.int .i64<|YZ l,X.bool b])<|decide_eq_decide.2 I
   refine rr 8 O<|kS O O O O ?_;rw[show YB l 5=false by unfold YB;rw[a,Zz (show 0<=YZ l by omega),Zy c];rfl]
  refine rr 14 O<|kS O O O O ?_;rw[show YB l 5=false by unfold YB;rw[a,Zy (show¬0<=YZ l by omega)];rfl]
 refine rr 18 O<|kS O O O O ?_;rw[show YB l 5=false by unfold YB;rw[a];rfl]
def Bi{α:Type}(g:α->Bool):∀(l:List α)(i:Nat),ZC g i l=match VF g i l with|some j=>(j:Int)|none=> -1
 |[],_=>rfl
 |x::l,i=>by
  rw[ZC,VF];split
  ·rfl
  exact Bi g l<|i+1
variable{α:Type}
def SO(g:α->Bool)(l:List α):ZC g 0 l=match ix g l with|some j=>(j:Int)|none=> -1:=Bi g l 0
def T9{α:Type}(g:α->Bool):∀(l:List α)(i:Nat),VF g i l=none↔∀x∈l,g x=false
 |[],_=>by simp[VF]
 |x::l,i=>by
  rw[VF];cases a:g x with
  |true=>simp[a]
  |false=>simp[a,T9 g l<|i+1]
theorem NM{α:Type}(g:α->Bool):∀(l:List α)(i j:Nat),VF g i l=some j->∀k,k<j - i->∀x,l[k]?=some x->g x=false
 |[],_,_,h,_,_,_,_=>by cases h
 |y::l,i,j,h,k,hk,x,hx=>by
  rw[VF]at h;split at h
  ·grind
  rename_i a;cases k with
  |zero=>simp_all
  |succ k=>exact NM g l (i+1) j h k I x (by grind)
variable{j:Nat}
theorem D2{g:α->Bool}{l:List α}(h:W9 g l=some j):∀x∈l.drop (j+1),g x=false:=by
 unfold W9 at h;cases hi:ix g l.reverse with
 |none=>simp_all
 |some i=>
  rw[hi]at h;have d:R l - 1 - i=j:=by grind
  obtain⟨c,_⟩:=Y8 hi;rw[eτ]at c;intro x a;obtain⟨k,b,rfl⟩:=dl a;rw[vd]at b;refine NM g l.reverse 0 i hi (R l - 1 - (j+1+k)) I _ ?_;grind
def KJ{g:α->Bool}{l:List α}(h:W9 g l=none):∀x∈l,g x=false:=by
 simp_all[W9,T9]
def filter_none{g:α->Bool}{l:List α}(h:∀x∈l,g x=false):R (l.filter g)=0:=by
 simp_all
def Hh(l:List<|Rec×Int):Prop:=∀(i:Nat)(q:Rec×Int),l[i]?=some q->q.1.YD=(R ((l.take<|i+1).filter λr=>decide<|r.1.name=q.1.name):Int)
theorem Jh{l:List<|Rec×Int}(c:Hh l){n:ba}(h:W9 (λq=>decide<|q.1.name=n) l=some j):∃q,l[j]?=some q/\q.1.name=n/\q.1.YD=(R (l.filter λr=>decide<|r.1.name=n):Int):=by
 obtain⟨b,d⟩:=VK h;have a:l[j].1.name=n:=by grind
 refine⟨l[j],Zv b,a,?_⟩;rw[c j l[j]<|Zv b,a];have e:=a7 (j+1) l;have f:=filter_none<|D2 h;grind
def Hh.snoc{l:List<|Rec×Int}(c:Hh l){q:Rec×Int}(d:q.1.YD=(R (l.filter λr=>decide<|r.1.name=q.1.name):Int)+1):Hh<|l++[q]:=by
 intro i r a;rcases w7 i (R l) with b|b
 ·rw[m6 b]at a;rw[aε I];exact c i r a
 simp_all[ae,sg]
def Z6.st(H:Z6):State:=⟨H.ZF.map (·.1),H.Z5.map (·.1),H.parts.map (·.1),H.Z3.map λi=>(H.p i).num,H.env⟩
def SW{α β:Type}(f:α->β)(g:α->α)(h:β->β)(a:∀x,f (g x)=h (f x)):∀(l:List α)(i:Nat),(l.modify i g).map f=(l.map f).modify i h
 |[],i=>by simp
 |x::l,0=>by simp[a]
 |x::l,i+1=>by simp[SW f g h a l i]
def Ra(s:ba):Prop:=∀b∈s,b.toNat<128
theorem Ra.drop{s:ba}(h:Ra s)(n:Nat):Ra<|s.drop n:=λb a=>h b<|dβ a
def Ra.has(h:Ra s)(p:ba):Ra (YY p s).2:=by
 unfold YY;split
 ·exact h.drop _
 exact h
theorem lC(b:UInt8):[32,59,40,41].contains b=X8 b:=by
 unfold X8;grind
theorem any_eq:∀(s:ba)(k:Nat),ZC X8 k s=if Lib.indexAny s [32,59,40,41]= -1 then -1 else Lib.indexAny s [32,59,40,41]+k
 |[],_=>rfl
 |b::s,k=>by
  have a:=Lib.indexAny_ge [32,59,40,41] s;rw[ZC,Lib.indexAny,lC,any_eq s<|k+1];grind
def lB(s:ba):Lib.indexAny s [32,59,40,41]=V8 s:=by
 simp[V8,any_eq]
def any_ct(D:R s<=100000)(t:Ra s):Ct prog 340 [.str s,.str [32,59,40,41]]<|bv<|V8 s:=by
 intro m w vs hw h;obtain⟨q,n,rfl,z,y⟩:=h.YU;obtain⟨o,k,rfl,x,u⟩:=y.YU;have:=u.YN;subst this;have f:ZR m (.str s) q:=z;have d:ZR m (.str [32,59,40,41]) o:=x;cases f;cases d;have c:=Hs s 0;have i:V8 s= -1\/(((0:Nat):Int)<=V8 s/\V8 s<((0:Nat):Int)+R s):=c;have a:∀{l:ba}{P:UInt8->Prop},(∀b∈l,P b)->∀(j:Nat)(b:UInt8),l[j]?=some b->P b:=λh j b r=>h b<|mr r
 refine(strings_IndexAny_laid ⟨s.toArray⟩ ⟨[32,59,40,41].toArray⟩ w (by show R s<_;omega) C (a t)<|a C).mono ?_;rintro e B ⟨rfl,hB⟩;refine⟨_,m,rfl,hB,Mem.le_refl m,λ_ _ h=>.inl h,λp v g=>by rw[hB.cell<|block_lt_of_cell<|hw p v g];exact hw p v g,?_⟩;show ZR m (.int .i64<|V8 s) (.int .i64<|Lib.indexAny s [32,59,40,41]);rw[lB];exact .int<|mn _ I
def Hg(s:ba):Nat:=if V8 s<0 then R s else(V8 s).toNat
def wIx_T(h:V8 s<0):Hg s=R s:=Zn h
theorem wIx_F(h:¬V8 s<0):V8 s=((Hg s:Nat):Int):=by unfold Hg;grind
theorem rJ(s:ba):Hg s<=R s:=by
 grind [Hs,V8,Hg]
def Ji(s:ba):X7 s=(s.take<|Hg s,s.drop<|Hg s):=by
 by_cases h:V8 s<0
 all_goals simp_all[xN,xO,Hg,Zm]
def Ra.word(h:Ra s):Ra (X7 s).2:=by rw[Ji];exact h.drop _
variable{i:Nat}
def ou(h:i<6):(XC.map X.str)[i]?=some (.str<|XC[i]'h):=by rw[dp,Zv h];rfl
theorem bt(h:ZC (λn=>decide<|(X7 s).1=n) 0 XC=(i:Int)):(XV s).1=some i:=by
 rw[SO]at h;show ix (λn=>decide<|(X7 s).1=n) XC=some i;grind
theorem br(h:ZC (λn=>decide<|(X7 s).1=n) 0 XC= -1):(XV s).1=none:=by
 rw[SO]at h;show ix (λn=>decide<|(X7 s).1=n) XC=none;grind
theorem yX(h:(YY [32] s).1=true):Vu s=((YZ (X7 (YY [32] s).2).1,YB (X7 (YY [32] s).2).1 5),(X7 (YY [32] s).2).2):=Zn h
def oS(h:(YY [32] s).1=false):Vu s=((0,false),(YY [32] s).2):=by simp_all[Vu]
def B5(f:R s<=100000)(g:Ra s):Vi prog 335 [4] [.ptr 4 0] [(1004,.box [.str s])] [(1004,.box [.str (X7 s).2])]<|.str (X7 s).1:=by
 refine cG func335 O λ{_ _}=>?_
 have d:=Hs s 0;have e:V8 s= -1\/(((0:Nat):Int)<=V8 s/\V8 s<((0:Nat):Int)+R s):=d;refine ro 11 O<|kc (zK (any_ct f g) call340 O)<|rr 10 O<|kB O (λc=>?_) λc=>?_
 ·have b:(R s:Int)=((Hg s:Nat):Int):=by rw[wIx_T c]
  have a:X7 s=(s.take<|Hg s,s.drop<|Hg s):=Ji s;have xf:=rJ s;refine ro 16 O ?_;refine kc (S.VI (hi:=(Hg s)) (l':=s.take<|Hg s) W6 .none O (zt O) (.inl ⟨O,O,O⟩) (.inr ⟨_,_,O,(zt O),b⟩) I I O) ?_;refine rr 11 O ?_;refine kc (S.VI (lo:=(Hg s)) (l':=s.drop<|Hg s) W6 .none O (zt O) (.inr ⟨_,_,O,(zt O),b⟩) (.inl ⟨O,O,O⟩) I I<|by rw[List.take_length]) ?_;refine rr 11 O ?_;refine OK.ret ⟨Y3.r1 (zo O O) ?_,LH (by rw[a]),Zo⟩;rw[a]
 have b:V8 s=((Hg s:Nat):Int):=wIx_F c;have a:X7 s=(s.take<|Hg s,s.drop<|Hg s):=Ji s;have xf:=rJ s;refine ro 9 O ?_;refine kc (S.VI (hi:=(Hg s)) (l':=s.take<|Hg s) W6 .none O (zt O) (.inl ⟨O,O,O⟩) (.inr ⟨_,_,O,(zt O),b⟩) I I O) ?_;refine rr 11 O ?_;refine kc (S.VI (lo:=(Hg s)) (l':=s.drop<|Hg s) W6 .none O (zt O) (.inr ⟨_,_,O,(zt O),b⟩) (.inl ⟨O,O,O⟩) I I<|by rw[List.take_length]) ?_;refine rr 11 O ?_;refine OK.ret ⟨Y3.r1 (zo O O) ?_,LH (by rw[a]),Zo⟩;rw[a]
def pW(j:R s<=100000)(k:Ra s):U_ prog 326 [4] [.ptr 4 0] [(1004,.box [.str s])] [(1004,.box [.str (XV s).2])]<|.Yy [bv<|Bo s,.bool (XV s).1.isSome]:=by
 refine cH func326 O λl=>?_
 refine ro 9 O ?_;refine RK.c (S.Ll (fs:=[4]) (t:=[(1004,.box [.str s])]) (t':=[(1004,.box [.str (X7 s).2])]) (B5 j k) call335 .none O (zc O .nil) V ⟨O,Zo⟩ V V V V O V) ?_;refine rr 6 O ?_;refine kc (S.tO l (show _=some _ by kernel_rfl) ti425 .none O) ?_;refine rr 4 O ?_;refine OK.loop (G:=Nat) [4] (λi=>[(0,.ptr 4 0),(1004,.box [.str (X7 s).2]),(4,.str (X7 s).1),(9,.agg<|XC.map X.str),(10,bv i)]) (λi=>i<=6/\ZC (λn=>decide<|(X7 s).1=n) 0 XC=ZC (λn=>decide<|(X7 s).1=n) i (XC.drop i)) (λi=>6 - i) 0 ⟨Zr _,O⟩ ⟨O,O,O,O,O,Zo⟩ (λ_=>O) ?_;rintro i ⟨hi,g⟩;refine ro 6 O<|kB O (λh=>?_) λh=>?_
 ·have d:i<6:=I
  have a:i<R XC:=d;refine ro 7 O<|kc (S.lg (i:=i) underlying425 T6 .none O (zt O) (zt O) O I (ou d) O) ?_;refine rr 11 O<|kB O (λb=>?_) λb=>?_
  ·have f:(XV s).1=some i:=bt (by rw[g,Y0 _ a,Zn (show decide ((X7 s).1=XC[i])=true from Zz b)]);refine ro 7 O<|OK.ret ⟨Y3.r2 (zo O O) (zo O O) ?_,O,Zo⟩;unfold Bo;rw[f];rfl
  refine Ro 7 O I ?_;refine Ab.D.lp ⟨i+1,⟨I,by rw[g,Y0 _ a,Zm (show¬decide ((X7 s).1=XC[i])=true fromλe=>b<|pf e)]⟩,I,O,O,O,O,O,Zo⟩
 have f:(XV s).1=none:=br (by rw[g,show i=6 by omega];rfl);refine ro 8 O<|OK.ret ⟨Y3.r2 (zo O O) (zo O O) ?_,O,Zo⟩;unfold Bo;rw[f];rfl
def y7(f:R s<=100000)(h:Ra s):U_ prog 327 [4] [.ptr 4 0] [(1004,.box [.str s])] [(1004,.box [.str (Vu s).2])]<|.Yy [bv (Vu s).1.1,.bool (Vu s).1.2]:=by
 refine cH func327 O λi=>?_
 have g:=wI [32] s;have e:=Jj (YY [32] s).2;have b:=h.has [32];refine ro 10 O ?_;refine RK.c (S.Ll (fs:=[4]) (t:=[(1004,.box [.str s])]) (t':=[(1004,.box [.str (YY [32] s).2])]) (JV (p:=[32]) f C) call306 .none O (zc O<|.cons (.Vh (l:=[32]) O C) .nil) V ⟨O,Zo⟩ V V V V O V) ?_;refine kc (S.not .none O<|zt O)<|kD<|OK.cond O O (λd=>?_) λd=>?_
 ·have a:Vu s=((0,false),(YY [32] s).2):=oS (by simpa using d);refine ro 6 O ?_;refine OK.ret ⟨Y3.r2 (zo O O) (zo O O) ?_,LH (by rw[a]),Zo⟩;rw[a]
 have a:Vu s=((YZ (X7 (YY [32] s).2).1,YB (X7 (YY [32] s).2).1 5),(X7 (YY [32] s).2).2):=yX (by simpa using d);refine ro 5 O ?_;refine RK.c (S.Ll (fs:=[4]) (t:=[(1004,.box [.str (YY [32] s).2])]) (t':=[(1004,.box [.str (X7 (YY [32] s).2).2])]) (B5 I b) call335 .none O (zc O .nil) V ⟨O,Zo⟩ V V V V O V) ?_;refine kc (S.Xo (B4 (l:=(X7 (YY [32] s).2).1) I) i call336 .none O (zc O .nil) O) ?_;refine rr 6 O ?_;refine OK.ret ⟨Y3.r2 (zo O O) (zo O O) ?_,LH (by rw[a]),Zo⟩;rw[a]
def Ph.cx(p:Ph):bi:=[bv p.kind,bv p.power,bv p.law,bv p.ticks,bv p.U8,.sl<|p.body.map Ph.cs]
def Ph.l_(p:Ph):p.cx=p.cs:=by
 cases p;rw[Ph.cs];rfl
abbrev US(s:ba):(List Ph×Bool)×ba:=KN (s.length+1) [] s
abbrev Th(s:ba):(Ph×Bool)×ba:=TS US s
theorem wV(s:ba):R (Vu s).2<=R s:=by
 grind [Jj,YY,Vu]
def Ra.num(h:Ra s):Ra (Vu s).2:=by
 unfold Vu;split
 ·exact(h.has [32]).word
 exact h.has [32]
theorem H6(s:ba):R (XV s).2<=R s:=(Jj s).2
def Ra.kind(h:Ra s):Ra (XV s).2:=h.word
theorem Ir:∀(fs:bc)(p:Ph)(s:ba),R (Wk fs p s).2<=R s
 |[],_,_=>Zq _
 |f::fs,p,s=>by
  have a:=wV s;rw[Wk];split
  ·exact di (Ir fs _ _) a
  exact a
theorem Lz{p:ba}(h:(YY p s).1=true)(a:0<R p):R (YY p s).2<R s:=by
 unfold YY at h⊢;grind
variable{ls:ba->(List Ph×Bool)×ba}
theorem FR{a:ba->(List Ph×Bool)×ba}(h:∀b,R b<R s->ls b=a b):TS ls s=TS a s:=by
 unfold TS;split
 ·rfl
 rename_i k _;split
 all_goals grind [YY,Ir,H6]
theorem JQ(h:∀a,R a<R s->R (ls a).2<=R a):R (TS ls s).2<=R s:=by
 have b:=H6 s;unfold TS;grind [Ir,YY]
theorem LI:∀(n:Nat)(a:List Ph)(s:ba),R (KN n a s).2<=R s
 |0,_,_=>Zq _
 |n+1,a,s=>by
  have c:=JQ (ls:=KN n []) (s:=s) λb _=>LI n [] b
  have d:=wI [59] (TS (KN n []) s).2;rw[KN];split
  ·exact c
  split
  ·exact di (LI n _ _) I
  grind
theorem MU:∀(n m:Nat)(a:List Ph)(s:ba),R s<n->R s<m->KN n a s=KN m a s
 |0,_,_,_,h,_=>by omega
 |_+1,0,_,_,_,h=>by omega
 |n+1,m+1,a,s,h1,h2=>by
  have c:TS (KN n []) s=TS (KN m []) s:=FR λb hs=>MU n m [] b I I
  rw[KN,KN,c];split
  ·rfl
  split
  ·rename_i g d;have f:=Lz d C;have e:=JQ (ls:=KN m []) (s:=s) λb _=>LI m [] b
   exact MU n m _ _ I I
  rfl
theorem jc{n:Nat}(h:R s<=n):TS (KN n []) s=Th s:=by grind [FR,MU]
theorem PI(n:Nat)(a:List Ph)(s:ba)(d:R s<n):KN n a s=if(Th s).1.2=false then(([],false),(Th s).2)else if(YY [59] (Th s).2).1=true then KN (R (YY [59] (Th s).2).2+1) (a++[(Th s).1.1]) (YY [59] (Th s).2).2 else((a++[(Th s).1.1],true),(YY [59] (Th s).2).2):=by
 cases n with
 |zero=>omega
 |succ n=>
  rw[KN,jc I];split
  ·rfl
  split
  ·rename_i g c;have f:=Lz c C;have e:R (Th s).2<=R s:=JQ (ls:=US) (s:=s) λb _=>LI _ [] b
   grind [MU]
  rfl
abbrev Q4:=Int×Int×Int×Int
def Q4.set(q:Q4)(f:Nat)(n:Int):Q4:=match f with
 |1=>(n,q.2.1,q.2.2.1,q.2.2.2)
 |2=>(q.1,n,q.2.2.1,q.2.2.2)
 |3=>(q.1,q.2.1,n,q.2.2.2)
 |4=>(q.1,q.2.1,q.2.2.1,n)
 |_=>q
def ug(k:Nat)(q:Q4)(b:List Ph):Ph:=.mk k q.1 q.2.1 q.2.2.1 q.2.2.2 b
def sr(k:Nat)(q:Q4):bi:=[bv (k:Int),bv q.1,bv q.2.1,bv q.2.2.1,bv q.2.2.2,.sl []]
variable{f k:Nat}{q:Q4}
def jj(h:1<=f/\f<=4)(n:Int):(ug k q []).Kx f n=ug k (q.set f n) []:=by
 rcases(show f=1\/f=2\/f=3\/f=4 by omega)with rfl|rfl|rfl|rfl<;>rfl
def jh(h:1<=f/\f<=4)(n:Int):(sr k q).take (0+f)++((Yv<|bv n).map xI++(sr k q).drop (0+f+1))=sr k (q.set f n):=by
 rcases(show f=1\/f=2\/f=3\/f=4 by omega)with rfl|rfl|rfl|rfl<;>rfl
theorem Rq(h:i<R (ZE k)):1<=(ZE k)[i]/\(ZE k)[i]<=4:=by
 have vy:∀f∈ZE k,1<=f/\f<=4:=by
  unfold ZE;grind
 simp_all
abbrev PS(b k:Nat):List bi:=(ZE k).map λf=>[X.raw<|.pointer<|some ⟨b,0+f,none⟩]
def MV(b:Nat):List<|Int×X:=[(0,.sl<|PS b 0),(1,.sl<|PS b 1),(2,.sl<|PS b 2),(3,.sl<|PS b 3),(4,.sl<|PS b 4),(5,.sl<|PS b 5)]
def iF{b:Nat}(h:k<6):MT (MV b) (k:Int)=some (.sl<|PS b k):=by
 match k,h with
 |0,_=>rfl
 |1,_=>rfl
 |2,_=>rfl
 |3,_=>rfl
 |4,_=>rfl
 |5,_=>rfl
abbrev phM(b k:Nat)(q:Q4):HM Unit:=λ_=>some (b,.box<|sr k q)
def wZ(M:HM Unit)(b k:Nat)(q:Q4):M.set () (some (b,.box<|sr k q))=phM b k q:=by rfl
def Is(h:i<R (ZE k))(q:Q4)(r:ba):Wk ((ZE k).drop i) (ug k q []) r=if(Vu r).1.2=true then Wk ((ZE k).drop<|i+1) (ug k (q.set (ZE k)[i] (Vu r).1.1) []) (Vu r).2 else(none,(Vu r).2):=by
 rw[np h,Wk,jj<|Rq h]
def jg(h:1<=f/\f<=4):Nat.ble (0+f+1) (R<|sr k q)=true:=by
 rcases(show f=1\/f=2\/f=3\/f=4 by omega)with rfl|rfl|rfl|rfl<;>rfl
def pP(k:Nat)(q:Q4)(b:List Ph):bi:=[bv (k:Int),bv q.1,bv q.2.1,bv q.2.2.1,bv q.2.2.2,.sl<|b.map Ph.cs]
def phT_0(h:(XV s).1=none):Th s=((Ph.zero,false),(XV s).2):=by unfold Th TS;rw[h]
def phT_1{r:ba}(h:(XV s).1=some k)(b:Wk (ZE k) (ug k (0,0,0,0) []) (XV s).2=(none,r)):Th s=((Ph.zero,false),r):=by
 unfold Th TS;have a:Wk (ZE k) (.mk k 0 0 0 0 []) (XV s).2=(none,r):=b;simp_all
def phT_2{r:ba}(h:(XV s).1=some k)(b:Wk (ZE k) (ug k (0,0,0,0) []) (XV s).2=(some<|ug k q [],r)):Th s=if k≠5 then((ug k q [],true),r)else if(YY [32,40] r).1=false then((Ph.zero,false),(YY [32,40] r).2)else
  if(US (YY [32,40] r).2).1.2=true then((ug k q (US (YY [32,40] r).2).1.1,(YY [41] (US (YY [32,40] r).2).2).1),(YY [41] (US (YY [32,40] r).2).2).2)else((ug k q (US (YY [32,40] r).2).1.1,false),(US (YY [32,40] r).2).2):=by
 unfold Th TS;have a:Wk (ZE k) (.mk k 0 0 0 0 []) (XV s).2=(some<|ug k q [],r):=b;rw[h];dsimp only;rw[a];rfl
theorem yC(k:Nat):R (ZE k)<=3:=by
 unfold ZE;grind
def bC(s:ba):R (US s).2<=R s:=LI _ [] s
def pH(s:ba):R (Th s).2<=R s:=by simp[JQ,LI]
def FM:∀(fs:bc)(p:Ph){s:ba},Ra s->Ra (Wk fs p s).2
 |[],_,_,h=>h
 |f::fs,p,s,h=>by
  rw[Wk];split
  ·exact FM fs _ h.num
  exact h.num
def BP(h:∀b,Ra b->Ra (ls b).2)(d:Ra s):Ra (TS ls s).2:=by
 have c:=d.kind;unfold TS;split
 ·exact c
 rename_i k _;have a:=FM (ZE k) (.mk k 0 0 0 0 []) c;split
 ·exact a
 rename_i p _;dsimp only;split
 ·exact a
 split
 ·exact a.has _
 split
 ·exact(h _<|a.has _).has _
 exact h _<|a.has _
def D6:∀(n:Nat)(a:List Ph){s:ba},Ra s->Ra (KN n a s).2
 |0,_,_,h=>h
 |n+1,a,s,h=>by
  have b:=BP (ls:=KN n []) (λc hs=>D6 n [] hs) h;rw[KN];split
  ·exact b
  split
  ·exact D6 n _<|b.has _
  exact b.has _
def jd(h:Ra s):Ra (Th s).2:=by simp_all[BP,D6]
variable{A:HA}
section
variable{E:Env}{U:bc}{s:St}{qf:Code}{Q:bo}{A:HA}{m:Int}
def HA.Ua{v:VP}(h:A.Z5[j]?=some v):A.plain.Z5[j]?=some (v.c,v.entry):=by show(A.Z5.map _)[j]?=_;simp_all
def HA.LU{v:Qc}(h:A.ZF[j]?=some v):A.plain.ZF[j]?=some (v.r,v.entry):=by show(A.ZF.map _)[j]?=_;simp_all
structure HA.LikeC(A A1:HA)(H:Z6)(m:Int):Prop where
 ok:A1.Ok m
 b:A1.b=A.b
 plain:A1.plain=H
 ZF:A1.ZF=A.ZF
 parts:A1.parts=A.parts
 entries:A1.entries=A.entries
def OK.l7{v:VP}(c':XA)(a:A.Ok m)(f:A.Z5[j]?=some v)(n:Ab.look s 3000=some (.res<|Z9<|A.mem.set (.c j)<|some (v.b,.box ({v with c:=c'}:VP).cs)))(p:0<=c'.ZA/\c'.ZA<=1000/\c'.Wb<=1000)
  (h:∀k:HA,A.LikeC k {A.plain with Z5:=A.plain.Z5.modify j λq=>(c',q.2)} m->k.Z5[j]?=some {v with c:=c'}->OK E qf Q U ((3000,.res<|Z9 k.mem)::s)) (l:c'.name=v.c.name:=by rfl):OK E qf Q U s:=by
 have o:=RA f;have g:v.b=A.Z5[j].b:=by simp_all
 refine OK.YS n (Z9.ZV (A.Qm j {v with c:=c'}).mem) (λh Y w i=>i.less<|HA.qQ o g)<|h _ ⟨?_,O,?_,O,O,O⟩<|N0 f
 ·refine⟨a.vh,λe=>?_,a.ph,a.mh,a.fh,a.eh,a.m0,a.en,a.lv,?_,a.lp,a.lm,a.lf,a.le,a.mi,λx d=>?_,a.vb,a.pl,a.nl,a.vn,λx d=>?_⟩
  ·show A.Z5.set j _=[];rw[a.ch e];rfl
  ·show(R (A.Z5.set j _):Int)<=m;rw[wi];exact a.lc
  ·rcases aξ d with d|rfl
   ·exact a.cl x d
   exact p
  rcases aξ d with d|rfl
  ·exact a.cn x d
  show R c'.name<=12;rw[l];exact a.cn v<|mr f
 rw[WH<|HA.Ua f];show Z6.mk _ _ _ ((A.Z5.set j _).map _) _ _ _ _ _ _=Z6.mk _ _ _ ((A.Z5.map _).set j _) _ _ _ _ _ _;rw[bτ];rfl
def MP(l:List α)(x:α):(R (l++[x]):Int)=R l+1:=F
def VR{q:α->Prop}{l:List α}{x:α}(h:∀y∈l,q y)(b:q x):∀y∈l++[x],q y:=λy a=>by
 rcases List.mem_append.1 a with a|a
 ·exact h y a
 rw[pi.1 a];exact b
def OK.Ec{q:Nat×Nat×Nat}(c:XA)(d:A.Ok m)(i:m+1<=1000)(j:Ab.look s 3000=some (.res<|Z9<|((A.mem.set (.c<|R A.Z5)<|some (q.1,.box (VP.mk q.1 c A.entries).cs)).set .cs<|some (q.2.1,.Te 1 q.2.2<|A.Z5.map Lg++[[.raw<|pV q.1]])).set .Y1<|some (A.b,.box (A.Ec ⟨q.1,c,A.entries⟩ q.2).cs)))
  (k:0<=c.ZA/\c.ZA<=1000/\c.Wb<=1000) (g:R c.name<=12) (h:∀e:HA,e.Ok (m+1)->e.b=A.b->e.plain={A.plain with Z5:=A.plain.Z5++[(c,A.entries)]}->OK E qf Q U ((3000,.res<|Z9 e.mem)::s)):OK E qf Q U s:=by
 have a:=d.more (m':=m+1) I i;refine OK.YS j (Z9.ZV (A.Ec ⟨q.1,c,A.entries⟩ q.2).mem) (λh Y w f=>f.less HA.oA)<|h _ ?_ O ?_
 ·exact⟨a.vh,Z,a.ph,a.mh,a.fh,a.eh,a.m0,a.en,a.lv,(by show(R (A.Z5++[_]):Int)<=m+1;rw[MP];have:=d.lc;omega),a.lp,a.lm,a.lf,a.le,a.mi,VR (x:=VP.mk q.1 c A.entries) a.cl k,a.vb,a.pl,a.nl,a.vn,VR (x:=VP.mk q.1 c A.entries) a.cn g⟩
 show Z6.mk _ _ _ ((A.Z5++[_]).map _) _ _ _ _ _ _=Z6.mk _ _ _ ((A.Z5.map _)++[_]) _ _ _ _ _ _;rw[ne];rfl
def OK.Ef{q:Nat×Nat×Nat}(r:Rec)(c:A.Ok m)(i:m+1<=1000)(j:Ab.look s 3000=some (.res<|Z9<|((A.mem.set (.v<|R A.ZF)<|some (q.1,.box (Qc.mk q.1 r A.entries).cs)).set .vs<|some (q.2.1,.Te 1 q.2.2<|A.ZF.map P6++[[.raw<|pV q.1]])).set .Y1<|some (A.b,.box (A.Ef ⟨q.1,r,A.entries⟩ q.2).cs)))
  (f:0<=r.YD/\r.YD<=m+1) (g:R r.name<=12) (h:∀d:HA,d.Ok (m+1)->d.b=A.b->d.plain={A.plain with ZF:=A.plain.ZF++[(r,A.entries)]}->OK E qf Q U ((3000,.res<|Z9 d.mem)::s)):OK E qf Q U s:=by
 have a:=c.more (m':=m+1) I i;refine OK.YS j (Z9.ZV (A.Ef ⟨q.1,r,A.entries⟩ q.2).mem) (λh Y w e=>e.less HA.oI)<|h _ ?_ O ?_
 ·exact⟨Z,a.ch,a.ph,a.mh,a.fh,a.eh,a.m0,a.en,(by show(R (A.ZF++[_]):Int)<=m+1;rw[MP];have:=c.lv;omega),a.lc,a.lp,a.lm,a.lf,a.le,a.mi,a.cl,VR (x:=Qc.mk q.1 r A.entries) a.vb f,a.pl,a.nl,VR (x:=Qc.mk q.1 r A.entries) a.vn g,a.cn⟩
 show Z6.mk _ _ ((A.ZF++[_]).map _) _ _ _ _ _ _ _=Z6.mk _ _ ((A.ZF.map _)++[_]) _ _ _ _ _ _ _;rw[ne];rfl
def OK.GJ{q:Nat×Nat}{i:Nat}(hi:i<R A.parts)(d:A.Ok m)(f:m+1≤1000)(g:Ab.look s 3000=some (.res<|Z9<|(A.mem.set .ms<|some (q.1,.Te 1 q.2 ((A.Z3.map λi=>[.raw<|pV<|A.pb i])++[[.raw<|pV<|A.pb i]]))).set .Y1<|some (A.b,.box (A.GJ i q).cs)))
  (h:∀c:HA,c.Ok (m+1)->c.b=A.b->c.pb=A.pb->c.parts=A.parts->c.plain={A.plain with Z3:=A.plain.Z3++[i]}->OK E qf Q U ((3000,.res<|Z9 c.mem)::s)):OK E qf Q U s:=by
 have a:=d.more (m':=m+1) I f;refine OK.YS g (Z9.ZV (A.GJ i q).mem) (λh Y w e=>e.less HA.oC)<|h _ ?_ O O O O;exact⟨a.vh,a.ch,a.ph,Z,a.fh,a.eh,a.m0,a.en,a.lv,a.lc,a.lp,(by show(R (A.Z3++[_]):Int)<=m+1;rw[MP];have:=d.lm;omega),a.lf,a.le,VR a.mi hi,a.cl,a.vb,a.pl,a.nl,a.vn,a.cn⟩
theorem OK.newP{q:(Nat×Nat)×Nat×Nat×Nat}(p:Part)(es:bd)(c:A.Ok m)(k:m+1<=1000)(l:Ab.look s 3000=some (.res<|Z9<|(((A.mem.set (.e<|R A.parts)<|some (q.1.1,.row 1 q.1.2<|Ye es)).set (.p<|R A.parts)<|some (q.2.1,.box (ZN.mk q.2.1 none (some q.1) p es).cs)).set .ps<|some (q.2.2.1,.Te 1 q.2.2.2<|A.parts.map Su++[[.raw<|pV q.2.1]])).set .Y1<|some (A.b,.box (A.newP ⟨q.2.1,none,some q.1,p,es⟩ q.2.2).cs)))
  (n:p.frames=[]) (o:R es=3) (f:0<=p.place/\p.place<=4) (g:R p.Yr<=12/\R p.Yb<=12) (h:∀d:HA,d.Ok (m+1)->d.b=A.b->d.plain={A.plain with parts:=A.plain.parts++[(p,es)]}->OK E qf Q U ((3000,.res<|Z9 d.mem)::s)):OK E qf Q U s:=by
 have a:=c.more (m':=m+1) I k;have h0:=c.m0;refine OK.YS l (Z9.ZV (A.newP ⟨q.2.1,none,some q.1,p,es⟩ q.2.2).mem) (λh Y w j=>j.less<|HA.oG c O O)<|h _ ?_ O ?_
 ·exact⟨a.vh,a.ch,Z,a.mh,VR (x:=ZN.mk q.2.1 none (some q.1) p es) a.fh λ_=>n,VR (x:=ZN.mk q.2.1 none (some q.1) p es) a.eh Z,a.m0,a.en,a.lv,a.lc,(by show(R (A.parts++[_]):Int)<=m+1;rw[MP];have:=c.lp;omega),a.lm,VR (x:=ZN.mk q.2.1 none (some q.1) p es) a.lf<|by grind,VR (x:=ZN.mk q.2.1 none (some q.1) p es) a.le<|by grind,
   (λi hi=>by show i<R (A.parts++[_]);rw[Zs];have:=c.mi i hi;omega),a.cl,a.vb,VR (x:=ZN.mk q.2.1 none (some q.1) p es) a.pl f,VR (x:=ZN.mk q.2.1 none (some q.1) p es) a.nl g,a.vn,a.cn⟩
 show Z6.mk _ _ _ _ ((A.parts++[_]).map _) _ _ _ _ _=Z6.mk _ _ _ _ ((A.parts.map _)++[_]) _ _ _ _ _;rw[ne];rfl
def OK.nD{A1:HA}(a:A.Ok m)(j:Ab.look s 3000=some (.res<|Z9<|A.mem.set .Y1<|some (A.b,.box A1.cs)))(k:A1.b=A.b)(i:A1.vh=A.vh/\A1.ZF=A.ZF)(g:A1.ch=A.ch/\A1.Z5=A.Z5)(f:A1.ph=A.ph/\A1.parts=A.parts)(e:A1.mh=A.mh/\A1.Z3=A.Z3)(d:0<=A1.entries/\A1.entries<=60)
  (h:A1.Ok m->OK E qf Q U ((3000,.res<|Z9 A1.mem)::s)):OK E qf Q U s:=by
 refine OK.YS j (Z9.ZV A1.mem) (λh Y w c=>c.less<|HA.tA k i g f e)<|h ?_;obtain⟨b,XR,plan,vh,ZF,ch,Z5,ph,parts,mh,Z3,env,YX,entries,time⟩:=A1;obtain⟨rfl,rfl⟩:=i;obtain⟨rfl,rfl⟩:=g;obtain⟨rfl,rfl⟩:=f;obtain⟨rfl,rfl⟩:=e;exact⟨a.vh,a.ch,a.ph,a.mh,a.fh,a.eh,a.m0,d,a.lv,a.lc,a.lp,a.lm,a.lf,a.le,a.mi,a.cl,a.vb,a.pl,a.nl,a.vn,a.cn⟩
end
def Ed(A:HA)(v:VP)(q:Nat×Nat):A.XR.cs++A.plan.cs++[.raw<|A.vh.v<|R A.ZF,.raw<|.slice (some ⟨q.1,0,none⟩) (R (A.Z5.map Lg)+1) q.2,.raw<|A.ph.v<|R A.parts,.raw<|A.mh.v<|R A.Z3,bv A.env.parts,bv A.env.trim,.sl<|A.env.rows.map λl=>[.sl<|l.map Range.cs],.bool A.YX,bv A.entries,bv A.time]=(A.Ec v q).cs:=by
 simp[HA.cs,HA.Ec,Hd.v]
def iS(A:HA)(v:Qc)(q:Nat×Nat):A.XR.cs++A.plan.cs++[.raw<|.slice (some ⟨q.1,0,none⟩) (R (A.ZF.map P6)+1) q.2,.raw<|A.ch.v<|R A.Z5,.raw<|A.ph.v<|R A.parts,.raw<|A.mh.v<|R A.Z3,bv A.env.parts,bv A.env.trim,.sl<|A.env.rows.map λl=>[.sl<|l.map Range.cs],.bool A.YX,bv A.entries,bv A.time]=(A.Ef v q).cs:=by
 simp[HA.cs,HA.Ef,Hd.v]
def iP(A:HA)(v:ZN)(q:Nat×Nat):A.XR.cs++A.plan.cs++[.raw<|A.vh.v<|R A.ZF,.raw<|A.ch.v<|R A.Z5,.raw<|.slice (some ⟨q.1,0,none⟩) (R (A.parts.map Su)+1) q.2,.raw<|A.mh.v<|R A.Z3,bv A.env.parts,bv A.env.trim,.sl<|A.env.rows.map λl=>[.sl<|l.map Range.cs],.bool A.YX,bv A.entries,bv A.time]=(A.newP v q).cs:=by
 simp[HA.cs,HA.newP,Hd.v]
def Ee(A:HA)(i:Nat)(q:Nat×Nat):A.XR.cs++A.plan.cs++[.raw<|A.vh.v<|R A.ZF,.raw<|A.ch.v<|R A.Z5,.raw<|A.ph.v<|R A.parts,.raw<|.slice (some ⟨q.1,0,none⟩) (R (A.Z3.map λi=>[X.raw<|pV<|A.pb i])+1) q.2,bv A.env.parts,bv A.env.trim,.sl<|A.env.rows.map λl=>[.sl<|l.map Range.cs],.bool A.YX,bv A.entries,bv A.time]=(A.GJ i q).cs:=by
 simp[HA.cs,HA.GJ,Hd.v]
theorem Ma(h:YA s=true):R s<=12:=by
 unfold YA at h;grind
def s_{a b c d:Bool}{e:Int}(h:ZW [Z8 a 4,Z8 b 5,Z8 c 2,Z8 d 16]=e)(f:e=0):a=true:=by
 rw[f]at h;cases a<;>cases b<;>cases c<;>cases d<;>first|rfl|exact absurd h C
variable{n:Int}
theorem Fe{a b d:Bool}{e:Int}(h:ZW [Z8 a 4,Z8 b 5,Z8 (decide<|1<=n/\n<=1000) 2,Z8 d 16]=e)(c:e=0):1<=n/\n<=1000:=by
 grind [ZW,Z8]
variable{m:Int}
def qa(a:A.Ok m)(c:m+2<=1000){w:Words}:Vi prog 168 [] [.raw<|pV A.b,.agg w.cs] [(3000,.res<|Z9 A.mem)] [(3000,.res<|JX A.b A.plain<|m+2)]<|bv 0:=by
 refine cG func168 O<|ro 11 O ?_;refine OK.YS (J':=JX A.b A.plain<|m+2) O (JX.ZV _ _ _) (λh Y w d=>HA.jx a I c O d) ?_;refine OK.ret ⟨Y3.r1 (zo O O) ?_,O,Zo⟩;rfl
def RF(L:A.Ok m)(V:m+2<=1000){tx:List ba}{vt:bi}(F:∀vj w,(callFunc f vj).run prog w=.ok (.enter f vj) w)(X:vt.all (Np [])=true)(W:vt.all (λu=>!Yx u)=true){ac:Z6->Nat->HE}(hf:∀i v,A.parts[i]?=some v->A.plain.U1 n=some i->U_ prog f [] (.raw (pV v.b)::vt) [(3000,.res<|Z9 A.mem)] [(3000,.res<|JP A (ac A.plain i).1<|m+1)] (.int .i64 (ac A.plain i).2))(N:∀i,(ac A.plain i).1.entries=A.entries):U_ prog 218 [] [.raw<|pV A.b,.agg (Words.mk [n] tx).cs,.fn f vt] [(3000,.res<|Z9 A.mem)] [(3000,.res<|JX A.b (YJ A.plain n ac).1<|m+2)]<|.int .i64 (YJ A.plain n ac).2:=by
 refine cH func218 O λg=>?_
 refine ro 11 O ?_;refine kc (S.Zi (n:=0) X9 .none O (zt O) (.Zg O) O (by exact aθ _) O)<|kc (zV YK O O)<|kc (S.Wc ((λJ hS hJ=>(II L (n:=n) hS hJ).Tq hS)) call116 .none O (zc O<|zc O .nil) O O) ?_;refine rr 7 O<|kc (S.Km underlying104 .none O<|zt O)<|kD<|OK.cond O O (λG=>?_) λG=>?_
 ·have hN:ix (λv=>decide<|v.p.num=n) A.parts=none:=RB G;refine ro 5 O ?_;have g:YJ A.plain n ac=(A.plain,6):=by unfold YJ;rw[HA.TR,hN]
  refine OK.YS (J':=JX A.b (YJ A.plain n ac).1<|m+2) O (JX.ZV _ _ _) (λh Y w M=>HA.jx L I V (by rw[g]) M) ?_;refine OK.ret ⟨Y3.r1 (zo O O) ?_,O,Zo⟩;rw[g]
 obtain⟨i,z⟩:∃i,ix (λv=>decide<|v.p.num=n) A.parts=some i:=Ta G;obtain⟨v,P⟩:=Yh (Y8 z).1;rw[Vx z<|HA.CS P];refine ro 3 O ?_;have y:A.plain.U1 n=some i:=by rw[HA.TR];exact z
 refine ro 3 O ?_;refine RK.c (S.Gs (((hf i v P y).Tq g<|Z9.ZV _)) (JP.ZV _ _ _) F .none O (zt O) (zc O .nil) O O X W) ?_;refine rr 10 O<|kB O (λj=>?_) λj=>?_
 ·refine OK.fc O λr a hb1 K B o=>?_
  obtain⟨t,d⟩:=Yh (l:=r.parts) (i:=i) (by rw[B];exact RA P);have H:t.b=v.b:=by rw[←HA.CS d,K,HA.CS P]
  rw[←H,←hb1];have he1:r.entries=A.entries:=(rn Z6.entries o).trans<|N i;refine OK.Sd follows (ι:=(Nat×Nat)) (0,0) 10 O (S.MH (s:=[(26,.raw<|t.eh.v t.es.length),(31,.own 31 1),(2031,.arr 1 [[bv r.entries]]),(3000,.res<|Z9 r.mem)]) (m:=1) (qr:=[[bv r.entries]]) (.e i) Xr O (zt O) (a.es? d) (zt O) O O O C (by simp only[Ye,Zx];have:=a.le _<|mr d;have:=a.m0;omega)<|by simp only[Ye,Zx,maxLen];have:=a.le _<|mr d;have:=a.m0;omega).st (λq=>(.cs (zm O) (.cs (zm O) (.cs (zn O O) (.cs (zr TW O) (.cs (zH Md O<|Z9.Xh (k:=.p i) (HA.XW d) O<|.same _) (.cs (zm O) (.cs (zn O O) (.cs (zr TY O) (.cs (zH YK O<|Z9.Xh (k:=.Y1) O O<|.same _) (.cs (zM [[_]] Xr O O O O)
   (.x ⟨O,O,O,O,Zo⟩<|.cn (zn O O)<|.cn (zr TW O)<|.cn (S.Yf (xs:=t.cs) (xs':=({t with eh:=some q,es:=t.es++[r.entries]}:ZN).cs) (.p i) Md .none (zt O) (zt O) O ((HM.Z0 _ _ Z).trans<|HA.XW d) O O O O<|PN t q _) .nil)))))))))))) λq=>?_
  refine Ab.D.code<|kO<|OK.wY q _ a I d O O λA2 hL=>?_;refine ro 5 O ?_;have g:YJ A.plain n ac=((ac A.plain i).1.WT i,0):=by unfold YJ;rw[y];dsimp only;rw[Zn j]
  refine OK.YS (J':=JX r.b (YJ A.plain n ac).1<|m+2) O (JX.ZV _ _ _) (λh Y w M=>Sg hL.ok I V hL.b (by rw[hL.plain,o,g]) M) ?_;refine OK.ret ⟨Y3.r1 (zo O O) ?_,O,Zo⟩;rw[g,j]
 refine ro 8 O ?_;have g:YJ A.plain n ac=ac A.plain i:=by unfold YJ;rw[y];dsimp only;rw[Zm j]
 refine OK.YS (J':=JX A.b (YJ A.plain n ac).1<|m+2) O (JX.ZV _ _ _) (λh Y w M=>M.elim λr T=>Sg T.1.1 I V T.1.2.1 (by rw[g];exact T.1.2.2.2.2) T.2) ?_;refine OK.ret ⟨Y3.r1 (zo O O) ?_,O,Zo⟩;rw[g]
variable{v:ZN}
def uy(c:A.Ok m)(n:m+2<=1000)(a:A.parts[i]?=some v):Vi prog 219 [] [.raw<|pV v.b] [(3000,.res<|Z9 A.mem)] [(3000,.res<|JP A (Wi A.plain i).1<|m+1)]<|bv (Wi A.plain i).2:=by
 refine cG func219 O λ{_ _}=>?_
 have g:=HA.RQ a;refine ro 9 O<|kc (S.Wc ((λJ j l=>(G8 a j l).Tq j)) call220 .none O (zc O .nil) O O) ?_;refine kc (S.not .none O<|zt O)<|kD<|OK.cond O O (λf=>?_) λf=>?_
 ·refine ro 5 O ?_;have d:Wi A.plain i=(A.plain,24):=by unfold Wi;rw[g,Zm<|by simpa using f]
  refine OK.YS (J':=JP A (Wi A.plain i).1<|m+1) O (JP.ZV _ _ _) (λh Y w e=>HA.jp c I I (by rw[d]) e) ?_;refine OK.ret ⟨Y3.r1 (zo O O) ?_,O,Zo⟩;rw[d]
 refine ro 8 O<|kc (S.Yf (xs':=({v with p:={v.p with place:=2}}:ZN).cs) (.p i) YK .none (zt O) (.Zg O) O (HA.XW a) O O O O O)<|rr 3 O ?_;refine OK.KV {v.p with place:=2} c a O O (by dsimp only;decide) λo k=>?_
 refine ro 4 O ?_;have d:Wi A.plain i=(A.plain.Zh i λp=>{p with place:=2},0):=by unfold Wi;rw[g,Zn<|by simpa using f]
 refine OK.YS (J':=JP A (Wi A.plain i).1<|m+1) O (JP.ZV _ _ _) (λh Y w e=>k.jp I I (by rw[d];exact Z6.T4 (HA.Yi a) λp=>{p with place:=2}) e) ?_;refine OK.ret ⟨Y3.r1 (zo O O) ?_,O,Zo⟩;rw[d]
def pZ(c:A.Ok m)(l:m+2<=1000)(a:A.parts[i]?=some v):Vi prog 221 [] [.raw<|pV v.b] [(3000,.res<|Z9 A.mem)] [(3000,.res<|JP A (Tu A.plain i).1<|m+1)]<|bv (Tu A.plain i).2:=by
 refine cG func221 O λ{_ _}=>?_
 have g:=HA.RQ a;refine ro 12 O ?_;refine kc (zH YK O<|Z9.Xh (k:=.p i) (HA.XW a) O<|.same _) ?_;refine rr 3 O<|kB O (λf=>?_) λf=>?_
 ·refine ro 5 O ?_;have d:Tu A.plain i=(A.plain,20):=by unfold Tu;rw[g,Zm f]
  refine OK.YS (J':=JP A (Tu A.plain i).1<|m+1) O (JP.ZV _ _ _) (λh Y w e=>HA.jp c I I (by rw[d]) e) ?_;refine OK.ret ⟨Y3.r1 (zo O O) ?_,O,Zo⟩;rw[d]
 refine ro 8 O<|kc (S.Yf (xs':=({v with p:={v.p with place:=3}}:ZN).cs) (.p i) YK .none (zt O) (.Zg O) O (HA.XW a) O O O O O)<|rr 3 O ?_;refine OK.KV {v.p with place:=3} c a O O (by dsimp only;decide) λn j=>?_
 refine ro 4 O ?_;have d:Tu A.plain i=(A.plain.Zh i λp=>{p with place:=3},0):=by unfold Tu;rw[g,Zn<|by simpa using f]
 refine OK.YS (J':=JP A (Tu A.plain i).1<|m+1) O (JP.ZV _ _ _) (λh Y w e=>j.jp I I (by rw[d];exact Z6.T4 (HA.Yi a) λp=>{p with place:=3}) e) ?_;refine OK.ret ⟨Y3.r1 (zo O O) ?_,O,Zo⟩;rw[d]
def uC(a:A.Ok m)(q:m+2<=1000)(d:A.parts[i]?=some v):Vi prog 222 [] [.raw<|pV v.b] [(3000,.res<|Z9 A.mem)] [(3000,.res<|JP A (WU A.plain i).1<|m+1)]<|bv (WU A.plain i).2:=by
 refine cG func222 O λ{_ _}=>?_
 have f:=HA.RQ d;refine ro 9 O<|kc (S.Wc ((λJ j n=>(NS d j n).Tq j)) call89 .none O (zc O .nil) O O) ?_;refine kc (S.not .none O<|zt O)<|jm O<|RK.split (t:=6) O (λo=>?_) λo=>?_
 ·refine rr 14 O ?_;have c:WU A.plain i=(A.plain,20):=by unfold WU;rw[f];simp_all
  refine OK.YS (J':=JP A (WU A.plain i).1<|m+1) O (JP.ZV _ _ _) (λh Y w e=>HA.jp a I I (by rw[c]) e) ?_;refine OK.ret ⟨Y3.r1 (zo O O) ?_,O,Zo⟩;rw[c]
 refine rr 4 O ?_;refine kc (S.Uc CI (zg O O) O (zt O) O<|Z9.Xh (k:=.p i) (HA.XW d) O<|.same _) ?_;refine rr 3 O<|OK.cond O O (λg=>?_) λg=>?_
 ·refine ro 5 O ?_;have c:WU A.plain i=(A.plain,20):=by unfold WU;rw[f];simp_all
  refine OK.YS (J':=JP A (WU A.plain i).1<|m+1) O (JP.ZV _ _ _) (λh Y w e=>HA.jp a I I (by rw[c]) e) ?_;refine OK.ret ⟨Y3.r1 (zo O O) ?_,O,Zo⟩;rw[c]
 refine ro 8 O<|kc (S.Yf (xs':=({v with p:={v.p with marked:=true}}:ZN).cs) (.p i) CI .none (zt O) .Wx O (HA.XW d) O O O O O)<|rr 3 O<|OK.KV {v.p with marked:=true} a d O O (a.pl v<|mr d) λr l=>?_;refine ro 4 O ?_;have c:WU A.plain i=(A.plain.Zh i λp=>{p with marked:=true},0):=by unfold WU;rw[f];simp_all
 refine OK.YS (J':=JP A (WU A.plain i).1<|m+1) O (JP.ZV _ _ _) (λh Y w e=>l.jp I I (by rw[c];exact Z6.T4 (HA.Yi d) λp=>{p with marked:=true}) e) ?_;refine OK.ret ⟨Y3.r1 (zo O O) ?_,O,Zo⟩;rw[c]
def tu(A:HA)(i:Nat):(Wi A.plain i).1.entries=A.entries:=by unfold Wi;split<;>rfl
def lJ(A:HA)(i:Nat):(Tu A.plain i).1.entries=A.entries:=by unfold Tu;split<;>rfl
def tS(A:HA)(i:Nat):(WU A.plain i).1.entries=A.entries:=by unfold WU;split<;>rfl
def p9(a:A.Ok m)(d:m+2<=1000):U_ prog 172 [] [.raw<|pV A.b,.agg (Words.mk [n] []).cs] [(3000,.res<|Z9 A.mem)] [(3000,.res<|JX A.b (YJ A.plain n Wi).1<|m+2)]<|bv (YJ A.plain n Wi).2:=by
 refine cH func172 O λg=>?_
 refine ro 10 O ?_;refine RK.c (S.VO (((RF a d (n:=n) (tx:=[]) (f:=219) (vt:=[]) call219 O O (ac:=Wi) (λi v e _=>(uy a d e).WB) λi=>tu A i).Tq g<|Z9.ZV _)) (JX.ZV _ _ _) call218 .none O (zc O<|zc O<|.cons .Nt .nil) O O) ?_;refine rr 3 O<|OK.ret ⟨Y3.r1 (zo O O) ?_,O,Zo⟩;rfl
def jv(a:A.Ok m)(d:m+2<=1000):U_ prog 173 [] [.raw<|pV A.b,.agg (Words.mk [n] []).cs] [(3000,.res<|Z9 A.mem)] [(3000,.res<|JX A.b (YJ A.plain n Tu).1<|m+2)]<|bv (YJ A.plain n Tu).2:=by
 refine cH func173 O λg=>?_
 refine ro 10 O ?_;refine RK.c (S.VO (((RF a d (n:=n) (tx:=[]) (f:=221) (vt:=[]) call221 O O (ac:=Tu) (λi v e _=>(pZ a d e).WB) λi=>lJ A i).Tq g<|Z9.ZV _)) (JX.ZV _ _ _) call218 .none O (zc O<|zc O<|.cons .Nt .nil) O O) ?_;refine rr 3 O<|OK.ret ⟨Y3.r1 (zo O O) ?_,O,Zo⟩;rfl
def p_(a:A.Ok m)(d:m+2<=1000):U_ prog 176 [] [.raw<|pV A.b,.agg (Words.mk [n] []).cs] [(3000,.res<|Z9 A.mem)] [(3000,.res<|JX A.b (YJ A.plain n WU).1<|m+2)]<|bv (YJ A.plain n WU).2:=by
 refine cH func176 O λg=>?_
 refine ro 10 O ?_;refine RK.c (S.VO (((RF a d (n:=n) (tx:=[]) (f:=222) (vt:=[]) call222 O O (ac:=WU) (λi v e _=>(uC a d e).WB) λi=>tS A i).Tq g<|Z9.ZV _)) (JX.ZV _ _ _) call218 .none O (zc O<|zc O<|.cons .Nt .nil) O O) ?_;refine rr 3 O<|OK.ret ⟨Y3.r1 (zo O O) ?_,O,Zo⟩;rfl
def Ca(a:A.Ok m)(C:m+2<=1000){t:ba}:Vi prog 174 [] [.raw<|pV A.b,.agg (Words.mk [n] [t]).cs] [(3000,.res<|Z9 A.mem)] [(3000,.res<|JX A.b (Tw A.plain t n).1<|m+2)]<|bv (Tw A.plain t n).2:=by
 refine cG func174 O λ{_ _}=>?_
 have K:=a.en;have H:=a.lc;have G:=a.m0;have y:=HA.OY A t;have o:(R A.plain.Z5:Int)=R A.Z5:=by show(R (A.Z5.map _):Int)=_;rw[Zx]
 obtain⟨e,f⟩:∃e,ZW [Z8 (YA t) 4,Z8 (A.plain.Ob t).isNone 5,Z8 (decide<|1<=n/\n<=1000) 2,Z8 (decide ((R A.plain.Z5:Int)<4)) 16]=e:=⟨_,rfl⟩;have B:Tw A.plain t n=if e=0 then({A.plain with Z5:=A.plain.Z5++[(⟨t,n,0⟩,A.entries)]},0)else(A.plain,e):=by unfold Tw;dsimp only;rw[f];rfl
 rw[y,o]at f;rw[B];refine ro 7 O ?_;refine kV (.c (zf DG O)<|.c (zl wQ O O O O)<|.c (S.Zi (n:=0) X1 .none O (zt O) (.Zg O) O (by exact aθ _) O)<|.c (zV T6 O O)<|.c (zf wk O)<|.c (zl Md O O O O)<|.c (S.Zi (n:=0) X9 .none O (zt O) (.Zg O) O (by exact aθ _) O)<|.c (zV YK O O)<|.c (za O)<|.c (za O) .nil)<|Ab.D.code<|kO<|kV (.c (zm O)<|.c (zK QX call106 O)<|.c (zK ZT call68 O)<|.c (zm O)<|.c (zm O)<|.c (S.Wc ((λJ F L=>(M8 a (n:=t) F L).Tq F)) call94 .none O (zc O<|zc O .nil) O O)<|.c (S.Km underlying163 .none O<|zt O)<|.c (zK ZT call68 O)<|.c (zm O)<|.c (zK XL call107 O)<|.c (zK ZT call68 O)<|.c (zm O)<|.c (zn O O)<|.c (zr DC O)<|.c (zH (u:=.sl<|A.Z5.map Lg) Al O<|Z9.Xh (k:=.Y1) O O<|.sl a.cs)<|.c (zk vo O)<|.c (S.lss .none O (zt O)<|.Zg O)<|.c (zK ZT call68 O)<|.c (zM [[_],[_],[_],[_]] V6 O O O O)<|.c (S.XY (YI (l:=[_,_,_,_])) call67 .none O (zc O .nil) (.cons (.p (.own O O) O) .nil) O)<|.c (za O) .nil) ?_;refine rd 8 O<|kB O (λg=>?_) λg=>?_
 ·have d:e=0:=by rw[←f];simpa only[GK,Kp]using g
  refine OK.Sd follows (ι:=(Nat×Nat×Nat)) (0,0,0) 15 O (S.ey (s:=[(42,.raw<|A.ch.v<|R A.Z5),(52,.own 52 1),(2052,.W8 1 [] [.Wt 51 1 0] []),(2051,.W8 4 [] [.str t,bv n,bv 0,bv A.entries] []),(3000,.res<|Z9 A.mem)]) (qs:=[.str t,bv n,bv 0,bv A.entries]) .cs (.c<|R A.Z5) ai152 O (zt O) a.cs Z (zt O) O O O O O O (by simp only[Zx];omega)<|by simp only[Zx,maxLen];omega).st (λq=>(.cs (zm O) (.cs (zm O) (.cs (zn O O) (.cs (zr DC O) (.cs (zH Al O<|Z9.Xh (k:=.Y1) O O<|.same _) (.cs (zm O) (.cs (zm O) (.cs (zU bu64 O O) (.cs (zm O) (.cs (zn O O) (.cs (zr TY O) (.cs (zH YK O<|Z9.Xh (k:=.Y1) O O<|.same _) (.cs (zU bu165 O O) (.cs (S.j8 (k:=51) O .none O (zt O) O) (.cs (S.Ig (k:=52) ai152 .none O (zt O) O)
   (.x ⟨O,O,O,O,O,Zo⟩<|.cn (zn O O)<|.cn (zr DC O)<|.cn (S.Yf (xs:=A.cs) (xs':=(A.Ec ⟨q.1,⟨t,n,0⟩,A.entries⟩ q.2).cs) (.Y1) Al .none (zt O) (zt O) O ((HM.Z0 _ _ Z).trans<|(HM.Z0 _ _ Z).trans A.atH) O O O O<|Ed A ⟨q.1,⟨t,n,0⟩,A.entries⟩ q.2) .nil))))))))))))))))) λq=>?_
  refine Ab.D.code<|kO ?_;refine OK.Ec ⟨t,n,0⟩ a I O (by have:=Fe f d;dsimp only;omega) (Ma<|s_ f d) λM j z i=>?_
  refine ro 5 O ?_;refine OK.YS (J':=JX A.b (if e=0 then({A.plain with Z5:=A.plain.Z5++[(⟨t,n,0⟩,A.entries)]},0)else(A.plain,e)).1<|m+2) O (JX.ZV _ _ _) (λh Y w r=>Sg j I C z (by rw[Zn d];exact i) r) ?_;refine OK.ret ⟨Y3.r1 (zo O O) ?_,O,Zo⟩;rw[Zn d];simp only[GK,Kp,f,d]
 have d:¬e=0:=by rw[←f];simpa only[GK,Kp]using g
 refine ro 8 O ?_;refine OK.YS (J':=JX A.b (if e=0 then({A.plain with Z5:=A.plain.Z5++[(⟨t,n,0⟩,A.entries)]},0)else(A.plain,e)).1<|m+2) O (JX.ZV _ _ _) (λh Y w r=>HA.jx a I C (by rw[Zm d]) r) ?_;refine OK.ret ⟨Y3.r1 (zo O O) ?_,O,Zo⟩;rw[Zm d];simp only[GK,Kp,f]
def State.U1(s:State)(n:Int):Option Nat:=ix (λp=>decide<|p.num=n) s.parts
def State.Ob(s:State)(n:ba):Option Nat:=ix (λc=>decide<|c.name=n) s.Z5
def State.Tk(s:State):Option Nat:=ix (λp=>decide<|p.place=0) s.parts
def State.YD(s:State)(n:ba):Int:=(R (s.ZJ.filter λr=>decide<|r.name=n):Int)
def State.p(s:State)(i:Nat):Part:=(s.parts[i]?).getD ⟨0,[],0,[],[],0,false,0,false,Span.zero⟩
def State.Zh(s:State)(i:Nat)(f:Part->Part):State:={s with parts:=s.parts.modify i f}
theorem C6(H:Z6)(n:Int):H.st.U1 n=H.U1 n:=Ui (λq:Part×bd=>q.1) _ _ _
def Ae(H:Z6)(n:ba):H.st.Ob n=H.Ob n:=Ui (λq:XA×Int=>q.1) _ _ _
theorem E3(H:Z6):H.st.Tk=H.Tk:=Ui (λq:Part×bd=>q.1) _ _ _
theorem Uq(H:Z6)(i:Nat):H.st.p i=H.p i:=by
 show((H.parts.map (·.1))[i]?).getD _=_;rw[dp];rfl
variable{H:Z6}
def vu(a:Hh H.ZF)(n:ba):(match H.AI n with|some j=>(match H.ZF[j]? with|some q=>q.1.YD|none=>0)|none=>0)=H.st.YD n:=by
 have e:H.st.YD n=(R (H.ZF.filter λr=>decide<|r.1.name=n):Int):=by
  show(R ((H.ZF.map (·.1)).filter λr=>decide<|r.name=n):Int)=_;rw[List.filter_map,Zx];rfl
 rw[e];cases h:H.AI n with
 |none=>rw[filter_none<|KJ h];rfl
 |some j=>
  obtain⟨q,d,c,b⟩:=Jh a h;simp_all
theorem bZ(H:Z6)(i j:Nat){f:Part->Part}(a:∀p,(f p).num=p.num):((H.Zh i f).p j).num=(H.p j).num:=by
 grind [Z6.p,Z6.Zh]
def Q1(H:Z6)(i:Nat){f:Part->Part}(a:∀p,(f p).num=p.num):(H.Zh i f).st=H.st.Zh i f:=by
 show State.mk _ _ _ _ _=State.mk _ _ _ _ _;congr 1
 ·exact SW (λq:Part×bd=>q.1) _ f (λ_=>rfl) _ _
 exact aβ λj _=>bZ H i j a
theorem Jl(H:Z6)(i j:Nat):(H.WT i).p j=H.p j:=by
 show((H.parts.modify i λq=>(q.1,q.2++[H.entries]))[j]?.map (·.1)).getD _=(H.parts[j]?.map (·.1)).getD _;grind
theorem J2(H:Z6)(i:Nat):(H.WT i).st=H.st:=by
 show State.mk _ _ _ _ _=State.mk _ _ _ _ _;congr 1
 ·refine(SW (λq:Part×bd=>q.1) (λq=>(q.1,q.2++[H.entries])) id (λ_=>rfl) H.parts i).trans ?_;simp
 exact aβ λj _=>by rw[Jl]
abbrev SE:=State×Int
def VQ(s:State)(n:Int)(f:State->Nat->SE):SE:=match s.U1 n with
 |none=>(s,6)
 |some i=>f s i
theorem Pu{f:Z6->Nat->HE}{ac:State->Nat->SE}(a:∀i,H.U1 n=some i->((f H i).1.st,(f H i).2)=ac H.st i):((YJ H n f).1.st,(YJ H n f).2)=VQ H.st n ac:=by
 grind [YJ,VQ,C6,J2]
def HR(s:State)(i:Nat):SE:=if Pm (s.p i)then(s.Zh i λp=>{p with place:=2},0)else(s,24)
def ya(s:State)(i:Nat):SE:=if(s.p i).place=1 then(s.Zh i λp=>{p with place:=3},0)else(s,20)
def Ie(s:State)(i:Nat):SE:=if Yu (s.p i)&&!(s.p i).marked then(s.Zh i λp=>{p with marked:=true},0)else(s,20)
def ia(H:Z6)(i:Nat):((Wi H i).1.st,(Wi H i).2)=HR H.st i:=by
 unfold Wi HR;rw[Uq];split
 ·exact rn (λq=>(q,(0:Int))) (Q1 H i λ_=>rfl)
 rfl
def bad_st(H:Z6)(i:Nat):((Tu H i).1.st,(Tu H i).2)=ya H.st i:=by
 unfold Tu ya;rw[Uq];split
 ·exact rn (λq=>(q,(0:Int))) (Q1 H i λ_=>rfl)
 rfl
def iI(H:Z6)(i:Nat):((WU H i).1.st,(WU H i).2)=Ie H.st i:=by
 unfold WU Ie;rw[Uq];split
 ·exact rn (λq=>(q,(0:Int))) (Q1 H i λ_=>rfl)
 rfl
def l8(s:State)(qe:ba)(Wb:Int):SE:=
 if YA qe=false then(s,4)else if(s.Ob qe).isSome then(s,5)else if¬(1<=Wb/\Wb<=1000)then(s,2)else if¬(R s.Z5:Int)<4 then(s,16)
 else({s with Z5:=s.Z5++[⟨qe,Wb,0⟩]},0)
theorem gr(H:Z6)(qe:ba)(Wb:Int):((Tw H qe Wb).1.st,(Tw H qe Wb).2)=l8 H.st qe Wb:=by
 unfold Tw l8;have e:(R H.st.Z5:Int)=R H.Z5:=by show(R (H.Z5.map _):Int)=_;simp
 rw[Ae,e];simp only[ZW,Z8];cases b:YA qe
 ·simp
 cases a:H.Ob qe
 all_goals grind [Z6.st,Z6.p]
def State.busy(s:State)(qe:ba):Bool:=match s.Tk with
 |some i=>decide<|(s.p i).Yb=qe
 |none=>false
theorem jO(H:Z6)(qe:ba):H.st.busy qe=H.busy qe:=by
 grind [State.busy,Z6.busy,E3,Uq]
def Ti(s:State)(qe:ba):SE:=match s.Ob qe with
 |none=>(s,6)
 |some j=>if s.busy qe then(s,17)else({s with Z5:=s.Z5.modify j λc=>{c with ZA:=0}},0)
def uT(H:Z6)(qe:ba):((XZ H qe).1.st,(XZ H qe).2)=Ti H.st qe:=by
 unfold XZ Ti;rw[Ae,jO];cases h:H.Ob qe with
 |none=>rfl
 |some j=>
  dsimp only;cases H.busy qe with
  |true=>rfl
  |false=>
   refine rn (λq=>(q,(0:Int))) ?_;show State.mk _ _ _ _ _=State.mk _ _ _ _ _;congr 1;exact SW (λq:XA×Int=>q.1) (λq=>({q.1 with ZA:=0},q.2)) (λc=>{c with ZA:=0}) (λ_=>rfl) H.Z5 j
structure rZ(H:Z6):Prop where
 YD:Hh H.ZF
 ZA:∀q∈H.Z5,0<=q.1.ZA/\q.1.ZA<=q.1.Wb
 lp:H.parts.length<=12
 lc:H.Z5.length<=4
 lv:H.ZF.length<=6
 sw:0<=H.entries
 Z3:∀i∈H.Z3,i<H.parts.length
def N3(s:State)(n:Int)(r c:ba):SE:=
 if 1000000<n then(s,2)else if(s.U1 n).isSome then(s,5)else match s.Ob c with
 |none=>(s,6)
 |some j=>if s.YD r=0 then(s,6)else if s.Tk.isSome then(s,17)else match s.Z5[j]? with
  |none=>(s,6)
  |some q=>if q.ZA=q.Wb then(s,22)else if R s.parts=12 then(s,16)
   else({s with Z5:=s.Z5.modify j λc=>{c with ZA:=c.ZA+1},parts:=s.parts++[⟨n,r,s.YD r,c,[],0,false,0,false,Span.zero⟩]},0)
theorem q_(hi:rZ H)(n:Int)(r c:ba):((W_ H n r c).1.st,(W_ H n r c).2)=N3 H.st n r c:=by
 unfold W_ N3;rw[C6,Ae,E3,←vu hi.YD];simp only[ZW,Z8];by_cases b:n<=1000000
 case neg=>simp_all
 rw[Zm (show¬1000000<n by omega)];cases M:H.U1 n with
 |some i=>simp[b]
 |none=>
  cases D:H.Ob c with
  |none=>simp[b]
  |some j=>
   obtain⟨h,y⟩:=Y8 D;have x:H.Z5[j].1.name=c:=by grind
   have g:H.st.Z5[j]?=some H.Z5[j].1:=by show(H.Z5.map _)[j]?=_;simp_all
   have f:R H.st.parts=R H.parts:=Zx ..;cases C:H.AI r with
   |none=>simp[b]
   |some k=>
    obtain⟨v,a,o,d⟩:=Jh hi.YD C;have e:v.1.YD≠0:=by
     rw[d];have:(0:Nat)<R (H.ZF.filter λl=>decide<|l.1.name=r):=List.length_pos_of_mem (List.mem_filter.2 ⟨mr a,by grind⟩);omega
    simp only[a,g,f];cases L:H.Tk with
    |some u=>grind
    |none=>
     obtain⟨K,J⟩:=hi.ZA _<|Zt h;have w:=hi.lp;by_cases B:H.Z5[j].1.ZA<H.Z5[j].1.Wb
     ·by_cases z:(R H.parts:Int)<12
      ·have F:R H.parts≠12:=I
       have G:H.Z5[j].1.ZA≠H.Z5[j].1.Wb:=I
       simp[b,e,B,z,G,F,a,Zv h];show State.mk _ _ _ _ _=State.mk _ _ _ _ _;congr 1
       ·exact SW (λq:XA×Int=>q.1) (λq=>({q.1 with ZA:=q.1.ZA+1},q.2)) (λc=>{c with ZA:=c.ZA+1}) (λ_=>rfl) H.Z5 j
       ·show(H.parts++[_]).map _=H.parts.map _++[_];simp_all
       refine aβ λm t=>?_
       unfold Z6.p;dsimp only;rw[m6<|hi.Z3 m t]
      grind
     grind
def WX(plan:Zf)(p:Part):Bool:=(WG plan p.frames).rows.all λr=>r.known
def Xe(H:Z6)(i:Nat):HE:=
 let e:=ZW [Z8 (decide<|(H.p i).place≠0) 20,Z8 (WX H.plan<|H.p i) 14,Z8 (!H.Z3.contains i) 23]
 if e=0 then({H with Z3:=H.Z3++[i]},0)else(H,e)
def QO(plan:Zf)(s:State)(i:Nat):SE:=
 if(s.p i).place=0 then(s,20)else if WX plan (s.p i)=false then(s,14)else if s.Z3.contains (s.p i).num then(s,23)
 else({s with Z3:=s.Z3++[(s.p i).num]},0)
def kY(H:Z6):Prop:=∀i j,i<R H.parts->j<R H.parts->(H.p i).num=(H.p j).num->i=j
theorem yT(hi:rZ H)(a:kY H)(h:i<R H.parts):H.st.Z3.contains (H.p i).num=H.Z3.contains i:=by
 show(H.Z3.map λj=>(H.p j).num).contains (H.p i).num=H.Z3.contains i;rw[cδ,tl,tl];constructor
 ·intro d;obtain⟨j,c,b⟩:=rx.1 d;rwa [←a j i (hi.Z3 j c) h b]
 grind
def og(hi:rZ H)(b:kY H)(h:i<R H.parts):((Xe H i).1.st,(Xe H i).2)=QO H.plan H.st i:=by
 unfold Xe QO;rw[Uq,yT hi b h];simp only[ZW,Z8];by_cases a:(H.p i).place=0
 ·simp[a]
 cases d:WX H.plan<|H.p i
 ·simp[a]
 cases c:H.Z3.contains i
 ·simp[a];show State.mk _ _ _ _ _=State.mk _ _ _ _ _;congr 1;show(H.Z3++[i]).map _=_;rw[ne];rfl
 simp[a]
def Sy(plan:Zf)(env:Envelope)(YX:Bool)(p:Part):Part:={p with place:=1,WD:=YX,verdict:=if YX=true then(if Xa plan env (WG plan p.frames)=0 then Us env (WG plan p.frames)else 0)else if WX plan p=true then p.verdict else 1}
def Sz(H:Z6):HE:=match H.Tk with
 |none=>(H,12)
 |some i=>((H.Zh i<|Sy H.plan H.env H.YX).WT i,0)
def Dv(plan:Zf)(YX:Bool)(s:State):SE:=match s.Tk with
 |none=>(s,12)
 |some i=>(s.Zh i<|Sy plan s.env YX,0)
def aG(H:Z6):((Sz H).1.st,(Sz H).2)=Dv H.plan H.YX H.st:=by
 unfold Sz Dv;rw[E3];cases H.Tk with
 |none=>rfl
 |some i=>
  refine rn (λq=>(q,(0:Int))) ?_;exact(J2 _ i).trans<|Q1 H i λ_=>rfl
def Yl(H:Z6)(f:Frame)(a:Int):HE:=match H.Tk with
 |none=>(H,12)
 |some i=>if a≠0 then(H,a)else if Yp H.plan f≠0 then(H,Yp H.plan f)
  else match(H.p i).frames.find? (λg=>decide<|g.tick=f.tick)with
   |none=>((H.Zh i λp=>{p with frames:=p.frames++[f]}).WT i,0)
   |some g=>if g.values=f.values then(H.WT i,0)else(H,13)
def Wd(plan:Zf)(s:State)(f:Frame)(a:Int):SE:=match s.Tk with
 |none=>(s,12)
 |some i=>if a≠0 then(s,a)else if Yp plan f≠0 then(s,Yp plan f)
  else match(s.p i).frames.find? (λg=>decide<|g.tick=f.tick)with
   |none=>(s.Zh i λp=>{p with frames:=p.frames++[f]},0)
   |some g=>if g.values=f.values then(s,0)else(s,13)
def nk(H:Z6)(f:Frame)(a:Int):((Yl H f a).1.st,(Yl H f a).2)=Wd H.plan H.st f a:=by
 unfold Yl Wd;rw[E3];cases H.Tk with
 |none=>rfl
 |some i=>
  dsimp only;rw[Uq];by_cases h0:a≠0
  ·simp_all
  rw[Zm h0,Zm h0];by_cases b:Yp H.plan f≠0
  ·simp_all
  rw[Zm b,Zm b];cases (H.p i).frames.find? (λg=>decide<|g.tick=f.tick)with
  |none=>
   refine rn (λq=>(q,(0:Int))) ?_;exact(J2 _ i).trans<|Q1 H i λ_=>rfl
  |some g=>
   dsimp only;split
   all_goals simp[J2]
