import Derived.Test.YtkkbjdenehfpaaaGreatDoorToN
set_option linter.all false
set_option maxHeartbeats 8000000
open List renaming length->R
namespace Go.Proofs.Z_
open Go.Ab Tryz
set_option maxRecDepth 9999
def Rm(a b:Int):Int:=if a<b then -1 else if a>b then 1 else 0
variable{a b:Int}
theorem Jw(h:a<b):Rm a b= -1:=Zn h
def Dn(h:b<a):Rm a b=1:=(Zm I).trans<|Zn h
def gq(h:a=b):Rm a b=0:=(Zm I).trans<|Zm I
def lY(a b c:Int):Rm (a+c) (b+c)=Rm a b:=by
 simp[Rm]
theorem tdm(e:0<=a)(d:0<b):a=a.tdiv b * b+a.tmod b/\0<=a.tmod b/\a.tmod b<b/\0<=a.tdiv b/\a.tdiv b<=a:=by
 have p:=Int.mul_tdiv_add_tmod a b;have l:=bη b e;have h:=bδ a d;have g:=Int.tdiv_nonneg e<|Int.le_of_lt d;refine⟨by grind,l,h,g,?_⟩;have o:a.tdiv b * 1<=a.tdiv b * b:=dε d g;grind
theorem lZ{c e p q r s:Int}(l:a=p * b+r)(g:c=q * e+s)(d:0<=r/\r<b)(hs:0<=s/\s<e)(h:p<q):a * e<c * b:=by
 subst l;subst g;rw[eγ,eγ];have u:r * e<b * e:=Int.mul_lt_mul_of_pos_right d.2 I;have t:0<=s * b:=cη hs.1 I;have o:(p+1) * (b * e)<=q * (b * e):=Int.mul_le_mul_of_nonneg_right I<|cη I I;grind
theorem cmp_eq{c e p r s:Int}(g:a=p * b+r)(d:c=p * e+s):Rm (a * e) (c * b)=Rm (r * e) (s * b):=by
 subst g;subst d;rw[eγ,eγ,show p * e * b=p * b * e by grind,Int.add_comm _<|r * e,Int.add_comm _<|s * b];exact lY ..
def KC(n:Net)(d:Span):Bool:=decide (d.lo.num<n.lo * d.lo.den)||decide (d.hi.num>n.hi * d.hi.den)
def State.Yz(s:State)(i:Nat):State:={s with parts:=s.parts.map λp=>if decide (p.Yr=(s.p i).Yr)&&decide (p.YD=(s.p i).YD)&&Yu p then {p with marked:=true}else p}
def Qx(n:Net)(vk:ba)(s:State)(i:Nat):SE:=
 if(s.p i).place≠1 then(s,20)else if(Y9 vk).2≠0 then(s,(Y9 vk).2)else
 let c:=Y6 (Y9 vk).1 n.limit
 if c.2≠0 then(s,c.2)else
 let a:=s.Zh i λp=>{p with place:=4,depth:=c.1}
 (if KC n c.1 then a.Yz i else a,0)
def eR(h:Rm (a * 1) b<0):decide (a<b)=true:=by
 rw[Int.mul_one]at h;refine Zz<|aν λd=>?_;unfold Rm at h;omega
theorem eO(h:¬Rm (a * 1) b<0):decide (a<b)=false:=by
 rw[Int.mul_one]at h;grind [Jw]
theorem eP:decide (a>b)=decide (Rm (a * 1) b>0):=by
 rw[Int.mul_one];unfold Rm;grind
def mF(r:ba)(n:Int)(p:Part):Part:=if decide (p.Yr=r)&&decide (p.YD=n)&&Yu p then {p with marked:=true}else p
theorem mF_fr(r:ba)(n:Int)(p:Part):(mF r n p).frames=p.frames/\(mF r n p).Yr=p.Yr/\(mF r n p).YD=p.YD:=by unfold mF;grind
def SA.eH(A:SA)(i k:Nat):SA:={A with parts:=A.parts.mapIdx λj v=>if j<k then(v.1,mF (A.st.p i).Yr (A.st.p i).YD v.2)else v}
structure W7(A1:SA)(i k:Nat)(A2:SA):Prop where
 ok:A2.Ok
 eq:A2=A1.eH i k
variable{i k:Nat}{v:Hd×Part}
section
variable{A1 A2:SA}{w:Hd×Part}
theorem bD(h:A1.parts[k]?=some v)(j:Nat):(A1.eH i j).parts[k]?=some (if k<j then(v.1,mF (A1.st.p i).Yr (A1.st.p i).YD v.2)else v):=by
 simp_all[SA.eH]
def W7.zero(h:A1.Ok):W7 A1 i 0 A1:=⟨h,by
 unfold SA.eH;have:A1.parts.mapIdx (λj v=>if j<0 then(v.1,mF (A1.st.p i).Yr (A1.st.p i).YD v.2)else v)=A1.parts:=P2 λj=>by
  simp
 rw[this]⟩
def W7.len(h:W7 A1 i k A2):R A2.parts=R A1.parts:=by rw[h.eq];exact List.length_mapIdx
def W7.ph(h:W7 A1 i k A2):A2.ph=A1.ph:=by rw[h.eq];rfl
def W7.cs(h:W7 A1 i k A2):A1.cs=A2.cs:=by
 unfold SA.cs;rw[h.len,h.eq];rfl
def W7.at_(h:W7 A1 i k A2)(b:A1.parts[i]?=some v):∃a,A2.parts[i]?=some a/\a.2.Yr=(A1.st.p i).Yr/\a.2.YD=(A1.st.p i).YD:=by
 rw[h.eq];refine⟨_,bD b k,?_⟩;rw[SA.Uq b];split
 ·simp[mF_fr]
 simp
theorem W7.step(h:W7 A1 i k A2)(hw:A2.parts[k]?=some w):A1.eH i (k+1)=A2.Zh k (w.1,mF (A1.st.p i).Yr (A1.st.p i).YD w.2):=by
 have h0:A1.parts[k]?=some w:=by
  have e:=hw;rw[h.eq]at e;simp_all[SA.eH]
 rw[h.eq];unfold SA.eH SA.Zh;dsimp only;congr 1;refine P2 λj=>?_
 grind
theorem W7.on(h:W7 A1 i k A2)(hw:A2.parts[k]?=some w)(a:(w.2.Yr=(A1.st.p i).Yr/\w.2.YD=(A1.st.p i).YD)/\Yu w.2=true):W7 A1 i (k+1)<|A2.Zh k (w.1,{w.2 with marked:=true}):=by
 refine⟨h.ok.Zh<|h.ok.fh w<|mr hw,?_⟩;rw[h.step hw,mF,Zn<|by simp_all]
theorem W7.off(h:W7 A1 i k A2)(hw:A2.parts[k]?=some w)(a:¬((w.2.Yr=(A1.st.p i).Yr/\w.2.YD=(A1.st.p i).YD)/\Yu w.2=true)):W7 A1 i (k+1) A2:=by
 refine⟨h.ok,?_⟩;rw[h.step hw,mF,Zm λe=>a<|by simp_all];unfold SA.Zh;rw[show A2.parts.set k (w.1,w.2)=A2.parts from P2 λj=>by
  grind]
theorem W7.all{n:Nat}(h:W7 A1 i n A2)(a:R A1.parts=n):A2.st=A1.st.Yz i:=by
 rw[h.eq];unfold SA.eH SA.st State.Yz;dsimp only;congr 1;refine P2 λj=>?_
 rw[dp,List.getElem?_mapIdx,dp,dp];cases e:A1.parts[j]? with
 |none=>rfl
 |some v=>
  show some (if j<n then _ else _:Hd×Part).2=_;rw[Zn<|by grind];rfl
end
def CO{a b:Part}:Nq [.s a.Yr,.i a.YD] [.s b.Yr,.i b.YD]=decide (a.Yr=b.Yr/\a.YD=b.YD):=by simp[Nq,Pl.eq]
variable{A:SA}{n:Net}
section
variable{r:ba}
theorem bn{m:Int}(h:ix (λp:Part=>decide<|p.num=m) A.st.parts=some i):∃v,A.parts[i]?=some v/\i<R A.parts:=by
 have a:i<R A.parts:=by rw[←SA.PX];exact(Y8 h).1
 simp_all
theorem qO(a:A.parts[i]?=some v)(h:v.2.place≠1):Qx n r A.st i=(A.st,20):=by simp_all[Qx,SA.Uq]
theorem cS(a:A.parts[i]?=some v)(h:¬v.2.place≠1):Qx n r A.st i=if(Y9 r).2≠0 then(A.st,(Y9 r).2)else if(Y6 (Y9 r).1 n.limit).2≠0 then(A.st,(Y6 (Y9 r).1 n.limit).2)else(if KC n (Y6 (Y9 r).1 n.limit).1 then(A.st.Zh i λp=>{p with place:=4,depth:=(Y6 (Y9 r).1 n.limit).1}).Yz i else A.st.Zh i λp=>{p with place:=4,depth:=(Y6 (Y9 r).1 n.limit).1},0):=by
 simp_all[Qx,SA.Uq]
theorem cV(a:Y5 n.limit=true)(h:¬(Y9 r).2≠0):¬ZW [(WS (Y9 r).1).2,Z8 (Y5 n.limit) 2]≠0:=by
 have h0:=Zu.1 h;have d:(WS (Y9 r).1).2=0:=by
  by_cases b:(if(Yq 4 r).2=0 then(WS<|(Yq 4 r).1.map Xy).2 else(Yq 4 r).2)≠0
  ·simp_all[Nd]
  rw[EO b];grind
 rw[ZW,d,a];decide
end
theorem Fv:∀(f:Nat)(a b:Int),0<=a->0<=b->b.toNat<f->MF f a b∣a/\MF f a b∣b
 |0,_,_,_,_,h=>absurd h<|bπ _
 |f+1,a,b,ha,hb,h=>by
  rw[MF];split
  ·simp_all
  rename_i e;obtain⟨x,t,u,_⟩:=tdm (b:=b) ha I;obtain⟨q,p⟩:=Fv f b (a.tmod b) hb t I;obtain⟨g,d⟩:=q;obtain⟨l,o⟩:=p;exact⟨⟨a.tdiv b * g+l,by grind⟩,⟨g,d⟩⟩
variable{n:Int}
theorem wP{d:Int}(e:0<=n)(hd:1<=d):1<=(TZ n d).den:=by
 obtain⟨_,k,o⟩:=Fv (d.toNat+1) n d e I I;have p:=MG (a:=n) (b:=d) e I;show 1<=d.tdiv (ON n d);have l:d=ON n d * k:=o;have g:1<=k:=aν λh=>by
  grind [Int.mul_nonpos_of_nonneg_of_nonpos]
 grind [Int.mul_tdiv_cancel_left]
variable{limit:Int}
def Fh{c:List<|Int×Int}(b:Hp c)(e:0<=limit/\limit<=2000)(d:(Xp c limit).2=true):1<=(Xp c limit).1.den:=by
 cases h:ix (Vt limit) c with
 |none=>simp_all[Mu]
 |some j=>
  have a:=(Y8 h).1;cases j with
  |zero=>
   rw[Mt h a];have:=b.at_ _<|Zt a;exact wP I C
  |succ k=>
   rw[Mw h a];obtain⟨g,d,_⟩:=JJ b e h a;exact wP d.1 g.1
def gF{c:List<|Int×Int}:(Xp c limit).2=(ix (Vt limit) c).isSome:=by
 cases h:ix (Vt limit) c with
 |none=>rw[Mu h];rfl
 |some j=>
  have a:=(Y8 h).1;cases j with
  |zero=>rw[Mt h a];rfl
  |succ k=>rw[Mw h a];rfl
def Bt{l:List ZK}(h:Lj l)(d:(Xp (X5 l) limit).2=true):(Xp (UF l) limit).2=true:=by
 rw[gF]at d⊢;cases e:ix (Vt limit) (UF l)with
 |some j=>rfl
 |none=>
  obtain⟨j,o⟩:=sk.1 d;obtain⟨q,g⟩:=Y8 o;obtain⟨x,b,a⟩:=rx.1<|Zt q;rw[←a]at g;have p:=(T9 _ _ 0).1 e (x.depth,x.lo)<|rx.2 ⟨x,b,rfl⟩;have y:x.hi<limit:=pf g;have u:¬x.lo<limit:=dg p;have t:=(h.ok x b).ord;omega
def r8{l:List ZK}(h:¬(Y6 l limit).2≠0):((0<=(Y6 l limit).1.lo.num/\(Y6 l limit).1.lo.num<=1000000000)/\1<=(Y6 l limit).1.lo.den/\(Y6 l limit).1.lo.den<=1000000000)/\(0<=(Y6 l limit).1.hi.num/\(Y6 l limit).1.hi.num<=1000000000)/\1<=(Y6 l limit).1.hi.den/\(Y6 l limit).1.hi.den<=1000000000:=by
 obtain⟨b,a⟩:=vW l limit;have h0:=Zu.1 h;have y:1<=(Y6 l limit).1.lo.den/\1<=(Y6 l limit).1.hi.den:=by
  by_cases o:ZW [(WS l).2,Z8 (Y5 limit) 2]≠0
  ·simp_all[yf]
  obtain⟨t,q⟩:=vY o;have d:=J5 t;have g:0<=limit/\limit<=2000:=pf q;by_cases p:((X5 l).getD 0 (0,0)).2<limit
  ·simp_all[Ju]
  cases e:(Xp (X5 l) limit).2 with
  |false=>simp_all[Jv]
  |true=>rw[Dm o p e];exact⟨Fh d.lower g<|Bt d e,Fh d.upper g e⟩
 have x:=b.num;have u:=a.num;have B:=b.den;have z:=a.den;omega
variable{s:State}
section
variable{n:Net}{c:Span}
theorem cQ(h:KC n c=true):((if KC n c then(s.Zh i λp=>{p with place:=4,depth:=c}).Yz i else s.Zh i λp=>{p with place:=4,depth:=c},0):SE)=((s.Zh i λp=>{p with place:=4,depth:=c}).Yz i,0):=by grind
def cP(h:KC n c=false):((if KC n c then(s.Zh i λp=>{p with place:=4,depth:=c}).Yz i else s.Zh i λp=>{p with place:=4,depth:=c},0):SE)=(s.Zh i λp=>{p with place:=4,depth:=c},0):=by rw[h];rfl
end
def KF(g:0<=n/\n<=1000000000)(h:1<=b):Ct prog 286 [bv n,bv b]<|bv<|n.tdiv b:=by
 refine cI func286 O λ{_ _}=>?_
 have e:=tdm g.1 (show 0<b by omega);have d:=cη e.2.2.2.1 (show 0<=b by omega);refine ro 9 O ?_;refine kc (S.quo .none O (zt O) (zt O) I (mn _ I)<|mn _ I) ?_;refine rr 8 O ?_;refine kc (S.rem .none O (zt O) (zt O) I O<|mn _ I) ?_;refine rr 3 O<|kB O (λa=>?_) λa=>?_
 ·exact absurd (show n.tmod b<0 from a) I
 refine ro 8 O<|kR O O ?_;rfl
def Mk{d m k:Int}(Z:(0<=n/\n<=1000000000)/\(1<=d/\d<=1000000000)/\(0<=m/\m<=1000000000)/\(1<=k/\k<=1000000000)):Ct prog 253 [bv n,bv d,bv m,bv k]<|bv<|Rm (n * k)<|m * d:=by
 refine cI func253 O<|ro 6 O ?_;refine OK.rU [] (λ(a:Int)(b:Int)(c:Int)(e:Int)=>[(0,bv a),(1,bv b),(2,bv c),(3,bv e),(8,bv 0)]) (λa b c e=>((0<=a/\a<=1000000000)/\(1<=b/\b<=1000000000)/\(0<=c/\c<=1000000000)/\(1<=e/\e<=1000000000))/\Rm (n * k) (m * d)=Rm (a * e) (c * b)) (λa b c e=>(b+e).toNat) n d m k ⟨Z,O⟩ ⟨O,O,O,O,O,Zo⟩ (λ_ _ _ _=>O) ?_;rintro a b c e ⟨⟨⟨B,N⟩,⟨M,Y⟩,⟨z,L⟩,⟨K,X⟩⟩,J⟩;obtain⟨Q,y,x,W,V⟩:=tdm B (show 0<b by omega);obtain⟨P,u,q,U,T⟩:=tdm z (show 0<e by omega);refine ro 5 O<|kc (zK (KF ⟨B,N⟩ M) call286 O)<|jm O<|jm O<|kc (zK (KF ⟨z,L⟩ K) call286 O)<|rr 12 O<|kB O (λG=>?_) λG=>?_
 ·have h:=J.trans<|Jw<|lZ Q P ⟨y,x⟩ ⟨u,q⟩ G;refine ro 5 O<|kR O O ?_;rw[h];try rfl
 refine ro 10 O<|kB O (λF=>?_) λF=>?_
 ·have h:=J.trans<|Dn<|lZ P Q ⟨u,q⟩ ⟨y,x⟩ F;refine ro 5 O<|kR O O ?_;rw[h];try rfl
 have H:c.tdiv e=a.tdiv b:=I
 have g:=J.trans<|cmp_eq Q<|H▸P;refine ro 7 O ?_;refine kc (S.mul .none O (zt O) (zt O) (mn _ I)<|mn _ I) ?_;refine Rr 4 O I ?_;refine kc (S.mul .none O (zt O) (zt O) (mn _ I)<|mn _ I) ?_;refine Rr 7 O I ?_;rw[show a - a.tdiv b * b=a.tmod b by omega,show c - c.tdiv e * e=c.tmod e by omega];refine ro 4 O<|RK.ZS (t:=35) O (λC=>?_) λC=>?_
 ·refine rr 5 O<|kB O (λE=>?_) λE=>?_
  ·have h0:a.tmod b=0:=C;have h:=g.trans (gq<|by rw[h0,show c.tmod e=0 from E,cζ,cζ]);refine ro 5 O<|kR O O ?_;rw[h];try rfl
  refine ro 9 O<|kB O (λo=>?_) λo=>?_
  ·have h0:a.tmod b=0:=o;have h:=g.trans (Jw<|by rw[h0,cζ];exact eδ I I);refine ro 5 O<|kR O O ?_;rw[h];try rfl
  refine ro 9 O<|kB O (λl=>?_) λl=>?_
  ·have h0:c.tmod e=0:=l;have h:=g.trans (Dn<|by rw[h0,cζ];exact eδ I I);refine ro 5 O<|kR O O ?_;rw[h];try rfl
  have p:Rm (n * k) (m * d)=Rm (e * a.tmod b) (b * c.tmod e):=by rw[g,cχ e,cχ b]
  refine ro 13 O<|Ab.D.lp ⟨e,(c.tmod e),b,(a.tmod b),⟨⟨I,I,I,I⟩,p⟩,I,O,O,O,O,O,Zo⟩
 refine rr 15 O<|kB O (λo=>?_) λo=>?_
 ·have h0:a.tmod b=0:=o;have h:=g.trans (Jw<|by rw[h0,cζ];exact eδ I I);refine ro 5 O<|kR O O ?_;rw[h];try rfl
 refine ro 9 O<|kB O (λl=>?_) λl=>?_
 ·have h0:c.tmod e=0:=l;have h:=g.trans (Dn<|by rw[h0,cζ];exact eδ I I);refine ro 5 O<|kR O O ?_;rw[h];try rfl
 have p:Rm (n * k) (m * d)=Rm (e * a.tmod b) (b * c.tmod e):=by rw[g,cχ e,cχ b]
 refine ro 13 O<|Ab.D.lp ⟨e,(c.tmod e),b,(a.tmod b),⟨⟨I,I,I,I⟩,p⟩,I,O,O,O,O,O,Zo⟩
def Ho{n:Net}{d:Span}(h:(0<=n.lo/\n.lo<=1000000000))(hh:(0<=n.hi/\n.hi<=1000000000))(e:(0<=d.lo.num/\d.lo.num<=1000000000)/\(1<=d.lo.den/\d.lo.den<=1000000000))(g:(0<=d.hi.num/\d.hi.num<=1000000000)/\(1<=d.hi.den/\d.hi.den<=1000000000)):Ct prog 204 [.agg n.cs,.agg d.cs]<|.bool<|KC n d:=by
 refine cI func204 O<|ro 18 O<|kc (zK (Mk (n:=d.lo.num) (d:=d.lo.den) (m:=n.lo) (k:=1) ⟨e.1,e.2,h,C⟩) call253 O) ?_;refine rr 2 O<|RK.ZS (t:=16) O (λb=>?_) λb=>?_
 ·refine rr 15 O<|kR O O ?_;refine Xj ?_;unfold KC
  first|(rw[eR b];rfl)|(rw[eO b,eP (a:=d.hi.num)];rfl)
 refine rr 9 O<|kc (S.call (Mk (n:=d.hi.num) (d:=d.hi.den) (m:=n.hi) (k:=1) ⟨g.1,g.2,hh,C⟩) call253 (zg O O) O (zc O<|zc O<|zc O<|zD O) O) ?_;refine rr 5 O<|kR O O ?_;refine Xj ?_;unfold KC
 first|(rw[eR b];rfl)|(rw[eO b,eP (a:=d.hi.num)];rfl)
def Ku{n:Net}(hn:(0<=n.lo/\n.lo<=1000000000)/\(0<=n.hi/\n.hi<=1000000000)/\Y5 n.limit=true){A:SA}(N:A.Ok)(hg:A.st.Good (ZO n.plan).1){L:Sv}(hl:R L.rest<=600):Vi prog 157 [] [.agg n.cs,.agg A.cs,.agg L.cs,bv<|ZC (λp:Part=>decide<|p.num=L.num) 0 A.st.parts] [(3000,.res<|Z9 A.mem)] [(3000,.res JT)]<|.Yy [.agg (VQ A.st L.num<|Qx n L.rest).1.cs,bv (VQ A.st L.num<|Qx n L.rest).2]:=by
 refine cG func157 O λ{_ _}=>?_
 have hlp:=hg.sm.lp;rw[SA.PX]at hlp;refine ro 16 O<|kB O (λU=>?_) λU=>?_
 ·have hN:A.st.U1 L.num=none:=P9 U;have z:VQ A.st L.num (Qx n L.rest)=(A.st,6):=by unfold VQ;rw[hN]
  refine kr<|RK.cF (zL Zk O O O O) N.fz O O<|rr 4 O<|OK.ret ⟨Y3.r2 (zy O O Zk O) (zo O O) ?_,O,Zo⟩;rw[z];try rfl
 obtain⟨i,hu⟩:=P_ U;have u:=Vs hu;obtain⟨v,E,y⟩:=bn hu;obtain⟨pq,e⟩:=Vb N.ph E;have e1:VQ A.st L.num (Qx n L.rest)=Qx n L.rest A.st i:=by unfold VQ;rw[show A.st.U1 L.num=some i from hu]
 have W:=N.fh v<|mr E;refine ro 6 O<|kc (S.YH Vg .none O (zt O) O O (SA.TC e) O)<|jm O<|kc (S.hidx (i:=i) VD .none O (zt O) (zt O) u y)<|kc (zr Qn O) ?_;refine kc (zH YK O<|Z9.Ki (k:=.p) (i:=i) (f:=5) (SA.Oh e) (Yo (f:=pC) E) O O<|.same _) ?_;refine rr 3 O<|kB O (λT=>?_) λT=>?_
 ·have z:=e1.trans<|qO E T;refine kr<|RK.cF (zL Zk O O O O) N.fz O O<|rr 4 O<|OK.ret ⟨Y3.r2 (zy O O Zk O) (zo O O) ?_,O,Zo⟩;rw[z];try rfl
 have e2:=e1.trans<|cS E T;refine ro 6 O<|kc (zK (NY (s:=L.rest) I) call202 O) ?_;refine rr 15 O<|kB O (λH=>?_) λH=>?_
 ·have z:=e2.trans<|Zn H;refine kr<|RK.cF (zL Zk O O O O) N.fz O O<|rr 5 O<|OK.ret ⟨Y3.r2 (zy O O Zk O) (zo O O) ?_,O,Zo⟩;rw[z];try rfl
 have e3:=e2.trans<|Zm H;have X:=cV hn.2.2 H;refine ro 7 O<|kc (zK (uR (l:=(Y9 L.rest).1) (limit:=n.limit) X) call203 O)<|rr 15 O<|kB O (λG=>?_) λG=>?_
 ·have z:=e3.trans<|Zn G;refine kr<|RK.cF (zL Zk O O O O) N.fz O O<|rr 5 O<|OK.ret ⟨Y3.r2 (zy O O Zk O) (zo O O) ?_,O,Zo⟩;rw[z];try rfl
 have e4:=e3.trans<|Zm G;have Y:=r8 G;refine ro 3 O ?_;refine kV (.c (zf Xk O)<|.c (S.YH Vg .none O (zt O) O O (SA.TC e) O)<|.c (zm O)<|.c (zf Xk O)<|.c (S.YH Vg .none O (zt O) O O (SA.TC e) O)<|.c (zm O)<|.c (zL G5 O O O O)<|.c (S.hidx (i:=i) VD .none O (zt O) (zt O) u y)<|.c (zr Qn O)<|.c (S.V9 (x2:=(A.parts.map pC).set i<|({v.2 with place:=4}:Part).cells<|.raw<|v.1.w<|R v.2.frames) (.p) YK .none (zt O) (.Zg O) O (SA.Oh e) (Yo (f:=pC) E) O O O O C O)<|.c (S.hidx (i:=i) VD .none O (zt O) (zt O) u y)<|.c (zr rO O)<|.c (S.V9 (x2:=(A.parts.map pC).set i<|({v.2 with place:=4,depth:=(Y6 (Y9 L.rest).1 n.limit).1}:Part).cells<|.raw<|v.1.w<|R v.2.frames) (.p) G5 .none (zt O) (zt O) O (HM.YW _ _ _) (xy<|Yo (f:=pC) E) O O O O C<|by rw[eυ];rfl) .nil) ?_;refine rd 3 O ?_;rw[HM.set_set,SA.S4 e E (p:={v.2 with place:=4,depth:=(Y6 (Y9 L.rest).1 n.limit).1}) rfl];obtain⟨A1,g⟩:∃A1,A1=A.Zh i (v.1,{v.2 with place:=4,depth:=(Y6 (Y9 L.rest).1 n.limit).1}):=⟨_,rfl⟩;rw[←g];have J:A1.st=A.st.Zh i λp=>{p with place:=4,depth:=(Y6 (Y9 L.rest).1 n.limit).1}:=by rw[g];exact SA.Sn E v.1 λp=>{p with place:=4,depth:=(Y6 (Y9 L.rest).1 n.limit).1}
 have M:A.cs=A1.cs:=by rw[g];exact(SA.T5 _ _).symm
 have K:R A1.parts=R A.parts:=by rw[g];exact wi
 refine ro 3 O<|kc (zK (Ho (n:=n) (d:=(Y6 (Y9 L.rest).1 n.limit).1) hn.1 hn.2.1 Y.1 Y.2) call204 O)<|kD<|OK.cond O O (λQ=>?_) λQ=>?_
 ·have z:=e4.trans<|cQ (i:=i) Q;refine ro 6 O ?_;refine OK.We [5,8] (λ(k:Nat)(A2:SA)=>[(5,.ptr 5 0),(1005,.box A.cs),(3,bv<|ZC (λp:Part=>decide<|p.num=L.num) 0 A.st.parts),(8,.ptr 8 0),(1008,.box [.ZM,.ZM,.ZM,.ZM,bv 0,bv 0,.ZM]),(13,bv k),(3000,.res<|Z9 A2.mem)]) (λk A2=>k<=R A.parts/\W7 A1 i k A2) (λk A2=>R A.parts - k) 0 A1 ⟨Zr _,W7.zero<|by rw[g];exact N.Zh W⟩ ⟨O,O,O,O,O,O,O,Zo⟩ (λ_ _=>O) ?_;rintro k A2 ⟨hk,F⟩;refine ro 6 O ?_;refine kc (S.hlen VD (by unfold maxLen;omega) .none O<|zt O) ?_;refine rr 3 O<|kB O (λc64=>?_) λc64=>?_
  ·have x:k<R A.parts:=I
   obtain⟨w,hw⟩:∃w,A2.parts[k]?=some w:=⟨_,Zv<|by rw[F.len,K];exact x⟩;have h:A2.ph=some pq:=by rw[F.ph,g];exact e
   obtain⟨o,V,t⟩:=F.at_ (i:=i) (by rw[g];exact SA.T4 E _);refine ro 5 O ?_;by_cases a:w.2.Yr=o.2.Yr/\w.2.YD=o.2.YD
   ·have Z:w.2.Yr=(A1.st.p i).Yr/\w.2.YD=(A1.st.p i).YD:=by rw[←t.1,←t.2];exact a
    refine kV (.c (zf Xk O)<|.c (S.YH Vg .none O (zt O) O O (SA.TC e) O)<|.c (zm O)<|.c (S.hidx (i:=k) VD .none O (zt O) (zt O) O x)<|.c (zr RT O)<|.c (zJ (us:=[.str w.2.Yr,bv w.2.YD]) Q3 O<|Z9.GF (k:=.p) (i:=k) (f:=1) (SA.Oh h) (Yo (f:=pC) hw) O ⟨.same _,.same _,Zo⟩ O)<|.c (zf Xk O)<|.c (S.YH Vg .none O (zt O) O O (SA.TC e) O)<|.c (zm O)<|.c (S.hidx (i:=i) VD .none O (zt O) (zt O) u y)<|.c (zr RT O)<|.c (zJ (us:=[.str o.2.Yr,bv o.2.YD]) Q3 O<|Z9.GF (k:=.p) (i:=i) (f:=1) (SA.Oh h) (Yo (f:=pC) V) O ⟨.same _,.same _,Zo⟩ O)<|.c (S.rY (b:=decide<|w.2.Yr=o.2.Yr/\w.2.YD=o.2.YD) [.s [],.i 0] [.s w.2.Yr,.i w.2.YD] [.s o.2.Yr,.i o.2.YD] sJ .none O (zt O) (zt O) O O O O CO)<|.c (zm O)<|.c (S.VN Xk (.yes O O O<|by first|rfl|exact Zz a|exact Zy a|(rw[Zz a];rfl)|(rw[Zy a];rfl)|simp[*]) O<|zt O)<|.c (S.YH Vg (.yes O O O<|by first|rfl|exact Zz a|exact Zy a|(rw[Zz a];rfl)|(rw[Zy a];rfl)|simp[*]) O (zt O) O O (SA.TC e) O)<|.c (S.move (.yes O O O<|by first|rfl|exact Zz a|exact Zy a|(rw[Zz a];rfl)|(rw[Zy a];rfl)|simp[*]) O<|zt O)<|.c (S.hidx (i:=k) VD (.yes O O O<|by first|rfl|exact Zz a|exact Zy a|(rw[Zz a];rfl)|(rw[Zy a];rfl)|simp[*]) O (zt O) (zt O) O x)<|.c (S.qD (us:=w.2.cs) K6 (.yes O O O<|by first|rfl|exact Zz a|exact Zy a|(rw[Zz a];rfl)|(rw[Zy a];rfl)|simp[*]) O (zt O) O<|Z9.GF (k:=.p) (i:=k) (f:=0) (SA.Oh h) (Yo (f:=pC) hw) O ⟨.same _,.same _,.same _,.same _,.sl<|F.ok.fs hw,.same _,.same _,.same _,.same _,.same _,.same _,.same _,.same _,Zo⟩ O)<|.c (S.call (Ny (p:=w.2)) call156 (.yes O O O<|by first|rfl|exact Zz a|exact Zy a|(rw[Zz a];rfl)|(rw[Zy a];rfl)|simp[*]) O (zc O .nil) O)<|.c (S.Tc .none O (zt O) (zt O)<|by first|rfl|exact Zz a|exact Zy a|(rw[Zz a];rfl)|(rw[Zy a];rfl)|simp[*]) .nil) ?_;refine Ab.D.code<|OK.cond O O (λP=>?_) λP=>?_
    ·have B:=F.on hw ⟨Z,P⟩;refine ro 2 O<|kc (S.YH Vg .none O (zt O) O O (SA.TC e) O)<|jm O<|kc (S.hidx (i:=k) VD .none O (zt O) (zt O) O x)<|kc (zr wu O) ?_;refine kc (S.V9 (x2:=(A2.parts.map pC).set k<|({w.2 with marked:=true}:Part).cells<|.raw<|w.1.w<|R w.2.frames) (.p) CI .none (zt O) .Wx O (SA.Oh h) (Yo (f:=pC) hw) O O O O C O) ?_;refine rr 3 O ?_;rw[SA.S4 h hw (p:={w.2 with marked:=true}) rfl];refine Ro 5 O I<|Ab.D.lp ⟨k+1,(A2.Zh k (w.1,{w.2 with marked:=true})),⟨I,B⟩,I,O,O,O,O,O,O,O,Zo⟩
    have B:=F.off hw λq=>absurd q.2 (by rw[P];decide)
    refine Ro 8 O I<|Ab.D.lp ⟨k+1,A2,⟨I,B⟩,I,O,O,O,O,O,O,O,Zo⟩
   have B:=F.off hw λq=>a (by rw[t.1,t.2];exact q.1)
   refine kV (.c (zf Xk O)<|.c (S.YH Vg .none O (zt O) O O (SA.TC e) O)<|.c (zm O)<|.c (S.hidx (i:=k) VD .none O (zt O) (zt O) O x)<|.c (zr RT O)<|.c (zJ (us:=[.str w.2.Yr,bv w.2.YD]) Q3 O<|Z9.GF (k:=.p) (i:=k) (f:=1) (SA.Oh h) (Yo (f:=pC) hw) O ⟨.same _,.same _,Zo⟩ O)<|.c (zf Xk O)<|.c (S.YH Vg .none O (zt O) O O (SA.TC e) O)<|.c (zm O)<|.c (S.hidx (i:=i) VD .none O (zt O) (zt O) u y)<|.c (zr RT O)<|.c (zJ (us:=[.str o.2.Yr,bv o.2.YD]) Q3 O<|Z9.GF (k:=.p) (i:=i) (f:=1) (SA.Oh h) (Yo (f:=pC) V) O ⟨.same _,.same _,Zo⟩ O)<|.c (S.rY (b:=decide<|w.2.Yr=o.2.Yr/\w.2.YD=o.2.YD) [.s [],.i 0] [.s w.2.Yr,.i w.2.YD] [.s o.2.Yr,.i o.2.YD] sJ .none O (zt O) (zt O) O O O O CO)<|.c (zm O)<|.c (zG O<|by first|rfl|exact Zz a|exact Zy a|(rw[Zz a];rfl)|(rw[Zy a];rfl)|simp[*])<|.c (zG O<|by first|rfl|exact Zz a|exact Zy a|(rw[Zz a];rfl)|(rw[Zy a];rfl)|simp[*])<|.c (zG O<|by first|rfl|exact Zz a|exact Zy a|(rw[Zz a];rfl)|(rw[Zy a];rfl)|simp[*])<|.c (zG O<|by first|rfl|exact Zz a|exact Zy a|(rw[Zz a];rfl)|(rw[Zy a];rfl)|simp[*])<|.c (zG O<|by first|rfl|exact Zz a|exact Zy a|(rw[Zz a];rfl)|(rw[Zy a];rfl)|simp[*])<|.c (zG O<|by first|rfl|exact Zz a|exact Zy a|(rw[Zz a];rfl)|(rw[Zy a];rfl)|simp[*])<|.c (S.Ug .none O (zt O) .Wx<|by first|rfl|exact Zz a|exact Zy a|(rw[Zz a];rfl)|(rw[Zy a];rfl)|simp[*]) .nil) ?_;refine Rd 10 O I<|Ab.D.lp ⟨k+1,A2,⟨I,B⟩,I,O,O,O,O,O,O,O,Zo⟩
  obtain rfl:k=R A.parts:=I
  have hF:CX A2.mem (.agg A.cs)<|.agg ((A.st.Zh i λp=>{p with place:=4,depth:=(Y6 (Y9 L.rest).1 n.limit).1}).Yz i).cs:=SA.To F.ok rfl (M.trans F.cs) (by rw[←J];exact F.all K);refine ro 4 O<|RK.cF (zL Zk O O O O) hF O O<|rr 4 O<|OK.ret ⟨Y3.r2 (zy O O Zk O) (zo O O) ?_,O,Zo⟩;rw[z];try rfl
 have z:=e4.trans<|cP (i:=i) Q;have hF:CX A1.mem (.agg A.cs)<|.agg (A.st.Zh i λp=>{p with place:=4,depth:=(Y6 (Y9 L.rest).1 n.limit).1}).cs:=SA.To (by rw[g];exact N.Zh W) rfl M J;refine ro 4 O<|RK.cF (zL Zk O O O O) hF O O<|rr 4 O<|OK.ret ⟨Y3.r2 (zy O O Zk O) (zo O O) ?_,O,Zo⟩;rw[z];try rfl
def vC:Y2 JT:=λ_ _ _ _ _ _ _ _ _ _ _=>trivial
def tv{M:HM SK}:∀h Y a w,Z9 M h Y w->(∀b,Y b->a b)->Z9 M h a w:=λ_ _ _ _ d e=>d.mono e
def Ex(s:State)(qe vk:ba):SE:=if YA qe=false then(s,4)else if(VJ vk).2≠0 then(s,(VJ vk).2)else if R s.ZJ=6 then(s,16)
 else({s with ZJ:=s.ZJ++[⟨qe,s.YD qe+1,(VJ vk).1⟩]},0)
def State.R1(s:State)(m:Int):Part:=s.p<|(s.U1 m).getD 0
def State.XE(pl:Zf)(s:State):List ZG:=s.Z3.map λm=>V1 pl (s.R1 m).frames
def yM(pl:Zf)(s:State)(t:Int):SE:=if(R<|s.XE pl)=0 then(s,10)else if 2 * t>=R (s.XE pl) then(s,2)else({s with env:=OM pl (s.XE pl) t},0)
def WY(n:Net)(s:State)(L:Sv):SE:=
 if L.verb=Z4[0]then(s,0)else if L.verb=Z4[1]then N3 s L.num L.Yr L.Yb else if L.verb=Z4[2]then Wd (ZO n.plan).1 s (ZI L.rest).1 (ZI L.rest).2
 else if L.verb=Z4[3]then Dv (ZO n.plan).1 (decide<|0<R s.env.rows) s else if L.verb=Z4[4]then VQ s L.num HR else if L.verb=Z4[5]then VQ s L.num ya
 else if L.verb=Z4[6]then l8 s L.Yb L.num else if L.verb=Z4[7]then Ti s L.Yb else if L.verb=Z4[8]then VQ s L.num Ie else if L.verb=Z4[9]then VQ s L.num (Qx n L.rest)
 else if L.verb=Z4[10]then Ex s L.Yr L.rest else if L.verb=Z4[11]then VQ s L.num (QO (ZO n.plan).1)else yM (ZO n.plan).1 s L.num
def State.j3(pl:Zf)(s:State):Prop:=∀m∈s.Z3,∃i,s.U1 m=some i/\WX pl (s.p i)=true
variable{c:ba}
variable{pl:Zf}
section
variable{n:Net}{j:Nat}{m:Int}{f:State->Nat->SE}
def Jp(h:s.U1 m=none):VQ s m f=(s,6):=by unfold VQ;rw[h]
def Jq(h:s.U1 m=some i):VQ s m f=f s i:=by unfold VQ;rw[h]
theorem aS(a:A.parts[i]?=some v)(h:Pm v.2=false):HR A.st i=(A.st,24):=by simp_all[HR,SA.Uq]
theorem aT(a:A.parts[i]?=some v)(h:Pm v.2=true):HR A.st i=(A.st.Zh i λp=>{p with place:=2},0):=by simp_all[HR,SA.Uq]
theorem bad_F(a:A.parts[i]?=some v)(h:v.2.place≠1):ya A.st i=(A.st,20):=by simp_all[ya,SA.Uq]
theorem bad_T(a:A.parts[i]?=some v)(h:¬v.2.place≠1):ya A.st i=(A.st.Zh i λp=>{p with place:=3},0):=by simp_all[ya,SA.Uq]
theorem n6(a:A.parts[i]?=some v)(h:(Yu v.2&&!v.2.marked)=false):Ie A.st i=(A.st,20):=by simp_all[Ie,SA.Uq]
theorem bE(a:A.parts[i]?=some v)(h:(Yu v.2&&!v.2.marked)=true):Ie A.st i=(A.st.Zh i λp=>{p with marked:=true},0):=by simp_all[Ie,SA.Uq]
theorem oc(a:A.parts[i]?=some v)(h:v.2.place=0):QO pl A.st i=(A.st,20):=by simp_all[QO,SA.Uq]
theorem oa(a:A.parts[i]?=some v)(h:¬v.2.place=0)(b:WX pl v.2=false):QO pl A.st i=(A.st,14):=by simp_all[QO,SA.Uq]
theorem iL(a:A.parts[i]?=some v)(b:v.2.num=m)(h:¬v.2.place=0)(d:¬WX pl v.2=false):QO pl A.st i=if A.st.Z3.contains m then(A.st,23)else({A.st with Z3:=A.st.Z3++[m]},0):=by simp_all[QO,SA.Uq]
theorem ak(a:s.Tk=some i)(h:(s.p i).Yb=c):s.busy c=true:=by simp_all[State.busy]
theorem ah(a:s.Tk=some i)(h:¬(s.p i).Yb=c):s.busy c=false:=by simp_all[State.busy]
theorem aj(a:s.Tk=none)(c:ba):s.busy c=false:=by grind [State.busy]
def qx(h:s.Ob c=none):Ti s c=(s,6):=by unfold Ti;rw[h]
theorem qw(h:s.Ob c=some j)(a:s.busy c=true):Ti s c=(s,17):=by simp_all[Ti]
theorem Cs(h:s.Ob c=some j)(a:s.busy c=false):Ti s c=({s with Z5:=s.Z5.modify j λc=>{c with ZA:=0}},0):=by simp_all[Ti]
theorem nL(b:ix (λp:Part=>decide<|p.num=m) A.st.parts=some i):∃v,A.parts[i]?=some v/\i<R A.parts/\v.2.num=m:=by
 obtain⟨g,e⟩:=Y8 b;have a:i<R A.parts:=by grind [SA.PX]
 refine⟨A.parts[i],Zv a,a,?_⟩;have d:A.st.parts[i]=A.parts[i].2:=bκ ..;simp_all
def SA.oH(q:Nat×Nat)(r:Rec):A.mem.set .r (some (q.1,.row 3 q.2<|A.ZJ.map Rec.cs++[r.cs]))=({A with rh:=some q,ZJ:=A.ZJ++[r]}:SA).mem:=funext λk=>by
 cases k with
 |r=>show some _=some _;rw[ne];rfl
 |_=>exact HM.Z0 _ _ Z
def SA.oz(q:Nat×Nat)(c:XA):A.mem.set .c (some (q.1,.row 3 q.2<|A.Z5.map XA.cs++[c.cs]))=({A with ch:=some q,Z5:=A.Z5++[c]}:SA).mem:=funext λk=>by
 cases k with
 |c=>show some _=some _;rw[ne];rfl
 |_=>exact HM.Z0 _ _ Z
def SA.oB(q:Nat×Nat)(m:Int):A.mem.set .m (some (q.1,.row 1 q.2<|A.Z3.map Kh++[Kh m]))=({A with mh:=some q,Z3:=A.Z3++[m]}:SA).mem:=funext λk=>by
 cases k with
 |m=>show some _=some _;rw[ne];rfl
 |_=>exact HM.Z0 _ _ Z
abbrev yg(r c p m:X)(e:Envelope):bi:=[r,c,p,m,bv e.parts,bv e.trim,.sl<|e.rows.map λl=>[.sl<|l.map Range.cs]]
def SA.iR(q:Nat×Nat)(r:Rec):yg (.raw<|.slice (some ⟨q.1,0,none⟩) (R (A.ZJ.map Rec.cs)+1) q.2) (.raw<|A.ch.w<|R A.Z5) (.raw<|A.ph.w<|R A.parts) (.raw<|A.mh.w<|R A.Z3) A.env=({A with rh:=some q,ZJ:=A.ZJ++[r]}:SA).cs:=by
 unfold SA.cs;dsimp only;rw[Zs,Zx];rfl
def SA.Ed(q:Nat×Nat)(c:XA):yg (.raw<|A.rh.w<|R A.ZJ) (.raw<|.slice (some ⟨q.1,0,none⟩) (R (A.Z5.map XA.cs)+1) q.2) (.raw<|A.ph.w<|R A.parts) (.raw<|A.mh.w<|R A.Z3) A.env=({A with ch:=some q,Z5:=A.Z5++[c]}:SA).cs:=by
 unfold SA.cs;dsimp only;rw[Zs,Zx];rfl
def SA.Ee(q:Nat×Nat)(m:Int):yg (.raw<|A.rh.w<|R A.ZJ) (.raw<|A.ch.w<|R A.Z5) (.raw<|A.ph.w<|R A.parts) (.raw<|.slice (some ⟨q.1,0,none⟩) (R (A.Z3.map Kh)+1) q.2) A.env=({A with mh:=some q,Z3:=A.Z3++[m]}:SA).cs:=by
 unfold SA.cs;dsimp only;rw[Zs,Zx];rfl
def SA.Ok.fzM(h:A.Ok):Fz A.mem (.raw<|A.mh.w<|R A.Z3)<|.sl<|A.Z3.map Kh:=Fz.ofRow h.ms (Rk λ_ x _=>⟨.same _ rfl,Zo⟩) F
end
def Ar(l:bd)(n:Int):Bool:=l.any λx=>decide<|x=n
theorem Bg(l:bd)(n:Int):Ar l n=l.contains n:=by
 unfold Ar;grind
theorem jz(b:k<R A.Z3)(a:ix (λp:Part=>decide<|p.num=A.Z3[k]) A.st.parts=some i)(e:A.parts[i]?=some v)(g:k<R (A.st.XE pl)):(A.st.XE pl)[k]=V1 pl v.2.frames:=by
 have d:(A.st.XE pl)[k]=V1 pl (A.st.R1 A.Z3[k]).frames:=bκ ..;rw[d];unfold State.R1;rw[show A.st.U1 A.Z3[k]=some i from a];simp_all[SA.Uq]
theorem zT(a:s.Good pl)(y:s.j3 pl):Lk pl<|s.XE pl:=by
 have vy:∀r∈s.XE pl,(R r.rows:Int)=pl.ticks/\∀(i:Nat)(h:i<R r.rows),R r.rows[i].values=R pl.ZY:=by
  intro r t;obtain⟨m,e,rfl⟩:=rx.1 t;obtain⟨j,D,q⟩:=y m e;have z:=(Y8 D).1;have x:s.R1 m=s.parts[j]:=by
   simp_all[State.R1,State.p]
  have d:s.p j=s.parts[j]:=by simp_all[State.p]
  obtain⟨o,g⟩:=a.fr _<|Zt z;have b:=NB<|Hj.rec a.pl o g;rw[x];unfold WX at q;rw[d,b]at q;have u:=X_ a.pl;obtain⟨G,F⟩:=Nr a.pl o.1;refine⟨by rw[IF];omega,λi h=>?_⟩;have E:=bj.1 q _<|Zt h;have C:∃f∈s.parts[j].frames,(V1 pl s.parts[j].frames).rows[i]=⟨true,f.values⟩:=by
   grind [V1,H8]
  obtain⟨f,l,B⟩:=C;rw[B];exact(VM<|o.1 f l).2
 exact⟨λk h=>(vy _<|Zt h).1,λk h=>(vy _<|Zt h).2⟩
def sG{l:bd}:Ct prog 15 [ints l,bv n]<|.bool<|Ar l n:=by
 refine cI func15 O<|OK.XF (vi:=l.map λn=>[bv n]) (t:=0) O O λqk=>?_;rw[Zx]at qk;unfold maxLen at qk;refine ro 12 O ?_;refine OK.loop (G:=Nat) [] (λi=>[(0,ints l),(1,bv n),(5,bv i)]) (λi=>i<=R l/\Ar l n=Ar (l.drop i) n) (λi=>R l - i) 0 ⟨Zr _,O⟩ ⟨O,O,O,Zo⟩ (λ_=>O) ?_;rintro i ⟨hi,b⟩;refine ro 5 O<|kc (zk X9 O)<|rr 3 O<|kB O (λd=>?_) λd=>?_
 ·refine ro 8 O<|kc (zI X9 O I O) ?_;refine rr 5 O<|kB O (λa=>?_) λa=>?_
  ·refine ro 5 O<|kR O O ?_;refine Xj ?_;rw[b,Ar,Mj _ I,Zz a,cυ]
  refine Ro 8 O I (Ab.D.lp ⟨i+1,⟨by omega,?_⟩,I,O,O,O,Zo⟩);rw[b,Ar,Mj _ I,Zy a,Bool.false_or];rfl
 refine ro 7 O<|kR O O ?_;refine Xj ?_;rw[b,show i=R l by omega,da];rfl
def zW{n:Net}(F:R n.plan<=1000)(hn:(0<=n.lo/\n.lo<=1000000000)/\(0<=n.hi/\n.hi<=1000000000)/\Y5 n.limit=true){s:State}(z:s.Good (ZO n.plan).1)(hmd:s.j3 (ZO n.plan).1){L:Sv}(hl:R L.rest<=600)(hln:0<=L.num/\L.num<=10000000):Ct prog 105 [.agg n.cs,.agg s.cs,.agg L.cs]<|.Yy [.agg (WY n s L).1.cs,bv (WY n s L).2]:=by
 refine cI func105 O<|ro 12 O ?_;refine RK.callX (Kt z.sm) (λ_=>Z9.ZV _) (λ_=>tv) call149 O (zc O .nil) O λq=>?_
 obtain⟨a,hst⟩:=q.2;generalize q.1=A at a hst⊢;subst hst;have hlp:=z.sm.lp;rw[SA.PX]at hlp;have hlc:=z.sm.lc;have hlr:=z.sm.lr;have hlm:=z.sm.lm;refine rr 9 O ?_;refine kc (S.Tx (Ns (s:=A.st) (n:=L.num)) O call18 .none O (zc O<|zc O .nil) (⟨a.fz,Fz.same _ O,Zo⟩) O) ?_;refine rr 22 O<|kB O (λc25=>?_) λc25=>?_
 ·have e0:WY n A.st L=_:=Zn c25;have b:=e0;refine kr<|RK.cF (zL Zk O O O O) a.fz O O<|rr 4 O<|kT O O Zk O O O ?_;rw[b];try rfl
 have e0:WY n A.st L=_:=Zm c25;refine ro 6 O<|kB O (λc28=>?_) λc28=>?_
 ·have e1:WY n A.st L=_:=e0.trans<|Zn c28;have b:=e1;refine ro 5 O ?_;refine RK.c (S.VO (((GW a z.sm).Tq<|Z9.ZV _)) vC call150 .none O (zc O<|zc O<|zc O .nil) O O) ?_;refine rr 6 O<|kT O O Zk O O O ?_;rw[b];try rfl
 have e1:WY n A.st L=_:=e0.trans<|Zm c28;refine ro 6 O<|kB O (λc36=>?_) λc36=>?_
 ·have e2:WY n A.st L=_:=e1.trans<|Zn c36;have b:=e2;refine ro 5 O ?_;refine RK.c (S.VO (((Ey F a z hl).Tq<|Z9.ZV _)) vC call151 .none O (zc O<|zc O<|zc O .nil) O O) ?_;refine rr 6 O<|kT O O Zk O O O ?_;rw[b];try rfl
 have e2:WY n A.st L=_:=e1.trans<|Zm c36;refine ro 6 O<|kB O (λc44=>?_) λc44=>?_
 ·have e3:WY n A.st L=_:=e2.trans<|Zn c44;have b:=e3;refine ro 4 O ?_;refine RK.c (S.VO (((Ch F a z).Tq<|Z9.ZV _)) vC call152 .none O (zc O<|zc O .nil) O O) ?_;refine rr 6 O<|kT O O Zk O O O ?_;rw[b];try rfl
 have e3:WY n A.st L=_:=e2.trans<|Zm c44;refine ro 6 O<|kB O (λc51=>?_) λc51=>?_
 ·have e4:WY n A.st L=_:=e3.trans<|Zn c51;refine ro 7 O<|kB O (λc54=>?_) λc54=>?_
  ·have b:=e4.trans<|Jp<|P9 c54;refine kr<|RK.cF (zL Zk O O O O) a.fz O O<|rr 5 O<|kT O O Zk O O O ?_;rw[b];try rfl
  obtain⟨i,y⟩:=P_ c54;have h:=Vs y;obtain⟨v,g,o,hvn⟩:=nL y;obtain⟨pq,d⟩:=Vb a.ph g;have u:=e4.trans<|Jq y;refine ro 6 O<|kc (S.YH Vg .none O (zt O) O O (SA.TC d) O)<|jm O<|kc (S.hidx (i:=i) VD .none O (zt O) (zt O) h o) ?_;refine kc (zJ (us:=v.2.cs) K6 O<|Z9.GF (k:=.p) (i:=i) (f:=0) (SA.Oh d) (Yo (f:=pC) g) O ⟨.same _,.same _,.same _,.same _,.sl<|a.fs g,.same _,.same _,.same _,.same _,.same _,.same _,.same _,.same _,Zo⟩ O)<|kc (zK (w_ (p:=v.2)) call153 O)<|kc (S.not .none O<|zt O)<|kD<|OK.cond O O (λc63=>?_) λc63=>?_
  ·have b:=u.trans (aS g<|by simpa using c63);refine kr<|RK.cF (zL Zk O O O O) a.fz O O<|rr 4 O<|kT O O Zk O O O ?_;rw[b];try rfl
  have b:=u.trans (aT g<|by simpa using c63);refine ro 5 O<|kc (S.YH Vg .none O (zt O) O O (SA.TC d) O)<|jm O<|kc (S.hidx (i:=i) VD .none O (zt O) (zt O) h o)<|kc (zr Qn O) ?_;refine kc (S.V9 (x2:=(A.parts.map pC).set i<|({v.2 with place:=2}:Part).cells<|.raw<|v.1.w<|R v.2.frames) (.p) YK .none (zt O) (.Zg O) O (SA.Oh d) (Yo (f:=pC) g) O O O O C O) ?_;refine rr 3 O ?_;rw[SA.S4 d g (p:={v.2 with place:=2}) rfl];refine OK.R3<|RK.cF (zL Zk O O O O) (SA.To (SA.Ok.Zh a (i:=i) (v:=(v.1,(λp:Part=>({p with place:=2}:Part)) v.2))<|a.fh v<|mr g) O (SA.T5 _ _).symm<|SA.Sn g v.1 λp=>{p with place:=2}) O O ?_;refine rr 4 O<|kT O O Zk O O O ?_;rw[b];try rfl
 have e4:WY n A.st L=_:=e3.trans<|Zm c51;refine ro 6 O<|kB O (λc71=>?_) λc71=>?_
 ·have e5:WY n A.st L=_:=e4.trans<|Zn c71;refine ro 7 O<|kB O (λc74=>?_) λc74=>?_
  ·have b:=e5.trans<|Jp<|P9 c74;refine kr<|RK.cF (zL Zk O O O O) a.fz O O<|rr 5 O<|kT O O Zk O O O ?_;rw[b];try rfl
  obtain⟨i,y⟩:=P_ c74;have h:=Vs y;obtain⟨v,g,o,hvn⟩:=nL y;obtain⟨pq,d⟩:=Vb a.ph g;have u:=e5.trans<|Jq y;refine ro 6 O<|kc (S.YH Vg .none O (zt O) O O (SA.TC d) O)<|jm O<|kc (S.hidx (i:=i) VD .none O (zt O) (zt O) h o)<|kc (zr Qn O) ?_;refine kc (zH YK O<|Z9.Ki (k:=.p) (i:=i) (f:=5) (SA.Oh d) (Yo (f:=pC) g) O O<|.same _) ?_;refine rr 3 O<|kB O (λc83=>?_) λc83=>?_
  ·have b:=u.trans<|bad_F g c83;refine kr<|RK.cF (zL Zk O O O O) a.fz O O<|rr 4 O<|kT O O Zk O O O ?_;rw[b];try rfl
  have b:=u.trans<|bad_T g c83;refine ro 5 O<|kc (S.YH Vg .none O (zt O) O O (SA.TC d) O)<|jm O<|kc (S.hidx (i:=i) VD .none O (zt O) (zt O) h o)<|kc (zr Qn O) ?_;refine kc (S.V9 (x2:=(A.parts.map pC).set i<|({v.2 with place:=3}:Part).cells<|.raw<|v.1.w<|R v.2.frames) (.p) YK .none (zt O) (.Zg O) O (SA.Oh d) (Yo (f:=pC) g) O O O O C O) ?_;refine rr 3 O ?_;rw[SA.S4 d g (p:={v.2 with place:=3}) rfl];refine OK.R3<|RK.cF (zL Zk O O O O) (SA.To (SA.Ok.Zh a (i:=i) (v:=(v.1,(λp:Part=>({p with place:=3}:Part)) v.2))<|a.fh v<|mr g) O (SA.T5 _ _).symm<|SA.Sn g v.1 λp=>{p with place:=3}) O O ?_;refine rr 4 O<|kT O O Zk O O O ?_;rw[b];try rfl
 have e5:WY n A.st L=_:=e4.trans<|Zm c71;refine ro 6 O<|kB O (λc91=>?_) λc91=>?_
 ·have e6:WY n A.st L=_:=e5.trans<|Zn c91;refine ro 5 O<|kc (zK R8 call97 O)<|kc (S.not .none O<|zt O)<|kD<|OK.cond O O (λc96=>?_) λc96=>?_
  ·have b:=e6.trans (Zn<|by simpa using c96);refine kr<|RK.cF (zL Zk O O O O) a.fz O O<|rr 4 O<|kT O O Zk O O O ?_;rw[b];try rfl
  have f1:=e6.trans (Zm<|by simpa using c96);refine ro 8 O ?_;refine kc (S.Tx (NV (s:=A.st) (n:=L.Yb)) O call154 .none O (zc O<|zc O .nil) (⟨a.fz,Fz.same _ O,Zo⟩) O) ?_;refine rr 3 O<|kB O (λc102=>?_) λc102=>?_
  ·have b:=f1.trans<|Zn<|isS c102;refine kr<|RK.cF (zL Zk O O O O) a.fz O O<|rr 4 O<|kT O O Zk O O O ?_;rw[b];try rfl
  have f2:=f1.trans<|Zm<|isN c102;refine ro 7 O<|kc (zK Y4 call98 O)<|kc (S.Xb .none O<|zt O)<|kD<|kB O (λc107=>?_) λc107=>?_
  ·have b:=f2.trans (Zn<|by simpa using c107);refine kr<|RK.cF (zL Zk O O O O) a.fz O O<|rr 4 O<|kT O O Zk O O O ?_;rw[b];try rfl
  have f3:=f2.trans (Zm<|by simpa using c107);refine ro 7 O ?_;refine kc (S.hlen rN (by show R A.Z5<=maxLen;have:R A.Z5<=4:=hlc;unfold maxLen;omega) .none O<|zt O) ?_;refine rr 3 O<|kB O (λc112=>?_) λc112=>?_
  ·have b:=f3.trans (Zn<|by show¬(R A.Z5:Int)<4;omega);refine kr<|RK.cF (zL Zk O O O O) a.fz O O<|rr 4 O<|kT O O Zk O O O ?_;rw[b];try rfl
  have b:=f3.trans (Zm (by show¬¬(R A.Z5:Int)<4;have:R A.Z5<=4:=hlc;omega));refine ro 10 O<|kc (zU bu64 O O) ?_;refine RK.c (zM [[_,_,_]] fW O O O O) ?_;refine RK.xs (S.MH (m:=1) (qr:=[(⟨L.Yb,L.num,0⟩:XA).cs]) .c fW O (zt O) a.cs (zt O) O O O C (by rw[Zx];have:R A.Z5<=4:=hlc;omega) (by rw[Zx];have:R A.Z5<=4:=hlc;unfold maxLen;omega)) λq=>?_;refine rr 5 O ?_;rw[SA.oz q (⟨L.Yb,L.num,0⟩:XA)];refine OK.R3 (RK.cF (zL Zk O O O O) (SA.To (A:={A with ch:=some q,Z5:=A.Z5++[(⟨L.Yb,L.num,0⟩:XA)]}) ⟨a.rh,λe=>(by cases e),a.ph,a.mh,a.fh⟩ O (SA.Ed q _) O) O O ?_);refine rr 4 O<|kT O O Zk O O O ?_;rw[b];try rfl
 have e6:WY n A.st L=_:=e5.trans<|Zm c91;refine ro 6 O<|kB O (λc125=>?_) λc125=>?_
 ·have e7:WY n A.st L=_:=e6.trans<|Zn c125;refine ro 5 O ?_;refine kc (S.Tx (NV (s:=A.st) (n:=L.Yb)) O call154 .none O (zc O<|zc O .nil) (⟨a.fz,Fz.same _ O,Zo⟩) O) ?_;refine rr 10 O<|kB O (λc132=>?_) λc132=>?_
  ·have b:=e7.trans<|qx<|P9 c132;refine kr<|RK.cF (zL Zk O O O O) a.fz O O<|rr 5 O<|kT O O Zk O O O ?_;rw[b];try rfl
  obtain⟨j,hj⟩:=P_ c132;have hcj:=Vs hj;have hjl:j<R A.Z5:=(Y8 hj).1;obtain⟨cc,H⟩:∃c,A.Z5[j]?=some c:=⟨_,Zv hjl⟩;obtain⟨ch,E⟩:=Vb a.ch H;refine ro 6 O<|kc (S.Tx (SB (s:=A.st)) O call155 .none O (zc O .nil) (⟨a.fz,Zo⟩) O)<|rr 4 O ?_;by_cases g139:ZC (λp:Part=>decide<|p.place=0) 0 A.st.parts>=0
  ·obtain⟨i,y⟩:=P_ (show¬ZC (λp:Part=>decide<|p.place=0) 0 A.st.parts<0 by omega);have h:=Vs y;obtain⟨v,g,o,_⟩:=D1 y;obtain⟨pq,d⟩:=Vb a.ph g;refine kV (.c (zm O)<|.c (S.geq .none O (zt O)<|.Zg O)<|.c (zm O)<|.c (S.VN Xk (.yes O O O W) O<|zt O)<|.c (S.YH Vg (.yes O O O W) O (zt O) O O (SA.TC d) O)<|.c (S.move (.yes O O O W) O<|zt O)<|.c (S.hidx (i:=i) VD (.yes O O O W) O (zt O) (zt O) h o)<|.c (S.Ub CD (.yes O O O W) O<|zt O)<|.c (S.Uc T6 (.yes O O O W) O (zt O) O<|Z9.Ki (k:=.p) (i:=i) (f:=3) (SA.Oh d) (Yo (f:=pC) g) O O<|.same _)<|.c (S.VN DF (.yes O O O W) O<|zt O)<|.c (S.YH T6 (.yes O O O W) O (zt O) O O O O)<|.c (S.vl (.yes O O O W) O (zt O)<|zt O)<|.c (S.Tc .none O (zt O) (zt O) W) .nil) ?_;refine Ab.D.code<|kB O (λc149=>?_) λc149=>?_
   ·have b:=e7.trans (qw hj<|ak y<|by rw[SA.Uq g];exact c149);refine kr<|RK.cF (zL Zk O O O O) a.fz O O<|rr 4 O<|kT O O Zk O O O ?_;rw[b];try rfl
   have hB:=ah y (c:=L.Yb) (by rw[SA.Uq g];exact c149);refine ro 3 O ?_;have b:=e7.trans<|Cs hj hB;refine ro 2 O<|kc (S.YH dJ .none O (zt O) O O (SA.uj E) O)<|jm O<|kc (S.hidx (i:=j) rN .none O (zt O) (zt O) hcj hjl)<|kc (zr Qo O) ?_;refine kc (S.V9 (x2:=(A.Z5.map XA.cs).set j ({cc with ZA:=0}:XA).cs) (.c) YK .none (zt O) (.Zg O) O (SA.dL E) (Yo H) O O O O C O) ?_;refine rr 3 O ?_;rw[SA.I0 E];refine OK.R3<|RK.cF (zL Zk O O O O) (SA.To (a.Qm j {cc with ZA:=0}) O (SA.xw _ _).symm<|SA.EG H λc=>{c with ZA:=0}) O O ?_;refine rr 4 O<|kT O O Zk O O O ?_;rw[b];try rfl
  have hB:=aj (P9 (show ZC (λp:Part=>decide<|p.place=0) 0 A.st.parts<0 by omega)) L.Yb;refine kV (.c (zm O)<|.c (S.geq .none O (zt O)<|.Zg O)<|.c (zm O)<|.c (zG O W)<|.c (zG O W)<|.c (zG O W)<|.c (zG O W)<|.c (zG O W)<|.c (zG O W)<|.c (zG O W)<|.c (zG O W)<|.c (zG O W)<|.c (S.Ug .none O (zt O) .Wx W) .nil) ?_;refine rd 5 O ?_;have b:=e7.trans<|Cs hj hB;refine ro 2 O<|kc (S.YH dJ .none O (zt O) O O (SA.uj E) O)<|jm O<|kc (S.hidx (i:=j) rN .none O (zt O) (zt O) hcj hjl)<|kc (zr Qo O) ?_;refine kc (S.V9 (x2:=(A.Z5.map XA.cs).set j ({cc with ZA:=0}:XA).cs) (.c) YK .none (zt O) (.Zg O) O (SA.dL E) (Yo H) O O O O C O) ?_;refine rr 3 O ?_;rw[SA.I0 E];refine OK.R3<|RK.cF (zL Zk O O O O) (SA.To (a.Qm j {cc with ZA:=0}) O (SA.xw _ _).symm<|SA.EG H λc=>{c with ZA:=0}) O O ?_;refine rr 4 O<|kT O O Zk O O O ?_;rw[b];try rfl
 have e7:WY n A.st L=_:=e6.trans<|Zm c125;refine ro 6 O<|kB O (λc157=>?_) λc157=>?_
 ·have e8:WY n A.st L=_:=e7.trans<|Zn c157;refine ro 7 O<|kB O (λc160=>?_) λc160=>?_
  ·have b:=e8.trans<|Jp<|P9 c160;refine kr<|RK.cF (zL Zk O O O O) a.fz O O<|rr 5 O<|kT O O Zk O O O ?_;rw[b];try rfl
  obtain⟨i,y⟩:=P_ c160;have h:=Vs y;obtain⟨v,g,o,hvn⟩:=nL y;obtain⟨pq,d⟩:=Vb a.ph g;have u:=e8.trans<|Jq y;refine ro 6 O<|kc (S.YH Vg .none O (zt O) O O (SA.TC d) O)<|jm O<|kc (S.hidx (i:=i) VD .none O (zt O) (zt O) h o) ?_;refine kc (zJ (us:=v.2.cs) K6 O<|Z9.GF (k:=.p) (i:=i) (f:=0) (SA.Oh d) (Yo (f:=pC) g) O ⟨.same _,.same _,.same _,.same _,.sl<|a.fs g,.same _,.same _,.same _,.same _,.same _,.same _,.same _,.same _,Zo⟩ O)<|kc (zK (Ny (p:=v.2)) call156 O)<|kc (S.not .none O<|zt O)<|jm O<|RK.split (t:=170) O (λJ=>?_) λJ=>?_
  ·have b:=u.trans (n6 g<|by rw[show Yu v.2=false by simpa using J];rfl);refine rr 12 O<|RK.cF (zL Zk O O O O) a.fz O O<|rr 4 O<|kT O O Zk O O O ?_;rw[b];try rfl
  refine kc (S.VN Xk (zg O O) O<|zt O)<|kc (S.YH Vg (zg O O) O (zt O) O O (SA.TC d) O)<|kc (S.move (zg O O) O<|zt O)<|kc (S.hidx (i:=i) VD (zg O O) O (zt O) (zt O) h o)<|kc (S.Ub wu (zg O O) O<|zt O)<|kc (S.Uc CI (zg O O) O (zt O) O<|Z9.Ki (k:=.p) (i:=i) (f:=8) (SA.Oh d) (Yo (f:=pC) g) O O<|.same _) ?_;refine rr 3 O<|OK.cond O O (λc177=>?_) λc177=>?_
  ·have b:=u.trans (n6 g<|by rw[show v.2.marked=true from c177,Bool.not_true,bυ]);refine kr<|RK.cF (zL Zk O O O O) a.fz O O<|rr 4 O<|kT O O Zk O O O ?_;rw[b];try rfl
  have b:=u.trans (bE g<|by rw[show v.2.marked=false from c177,show Yu v.2=true by simpa using J];rfl);refine ro 5 O<|kc (S.YH Vg .none O (zt O) O O (SA.TC d) O)<|jm O<|kc (S.hidx (i:=i) VD .none O (zt O) (zt O) h o)<|kc (zr wu O) ?_;refine kc (S.V9 (x2:=(A.parts.map pC).set i<|({v.2 with marked:=true}:Part).cells<|.raw<|v.1.w<|R v.2.frames) (.p) CI .none (zt O) .Wx O (SA.Oh d) (Yo (f:=pC) g) O O O O C O) ?_;refine rr 3 O ?_;rw[SA.S4 d g (p:={v.2 with marked:=true}) rfl];refine OK.R3<|RK.cF (zL Zk O O O O) (SA.To (SA.Ok.Zh a (i:=i) (v:=(v.1,(λp:Part=>({p with marked:=true}:Part)) v.2))<|a.fh v<|mr g) O (SA.T5 _ _).symm<|SA.Sn g v.1 λp=>{p with marked:=true}) O O ?_;refine rr 4 O<|kT O O Zk O O O ?_;rw[b];try rfl
 have e8:WY n A.st L=_:=e7.trans<|Zm c157;refine ro 6 O<|kB O (λZ=>?_) λZ=>?_
 ·have e9:WY n A.st L=_:=e8.trans<|Zn Z;have b:=e9;refine ro 6 O ?_;refine RK.c (S.VO (((Ku hn a z hl).Tq<|Z9.ZV _)) vC call157 .none O (zc O<|zc O<|zc O<|zc O .nil) O O) ?_;refine rr 6 O<|kT O O Zk O O O ?_;rw[b];try rfl
 have e9:WY n A.st L=_:=e8.trans<|Zm Z;refine ro 6 O<|kB O (λY=>?_) λY=>?_
 ·have M:WY n A.st L=_:=e9.trans<|Zn Y;refine ro 5 O<|kc (zK R8 call97 O)<|kc (S.not .none O<|zt O)<|kD<|OK.cond O O (λX=>?_) λX=>?_
  ·have b:=M.trans (Zn<|by simpa using X);refine kr<|RK.cF (zL Zk O O O O) a.fz O O<|rr 4 O<|kT O O Zk O O O ?_;rw[b];try rfl
  have f1:=M.trans (Zm<|by simpa using X);refine ro 6 O<|kc (zK (LW (s:=L.rest) I) call158 O) ?_;refine rr 14 O<|kB O (λV=>?_) λV=>?_
  ·have b:=f1.trans<|Zn V;refine kr<|RK.cF (zL Zk O O O O) a.fz O O<|rr 5 O<|kT O O Zk O O O ?_;rw[b];try rfl
  have f2:=f1.trans<|Zm V;refine ro 7 O ?_;refine kc (S.hlen Rh (by show R A.ZJ<=maxLen;have:R A.ZJ<=100:=hlr;unfold maxLen;omega) .none O<|zt O) ?_;refine rr 3 O<|kB O (λc214=>?_) λc214=>?_
  ·have b:=f2.trans (Zn<|by show R A.ZJ=6;omega);refine kr<|RK.cF (zL Zk O O O O) a.fz O O<|rr 4 O<|kT O O Zk O O O ?_;rw[b];try rfl
  have b:=f2.trans (Zm<|by show¬R A.ZJ=6;omega);have hcl:=l6 (λr:Rec=>decide<|r.name=L.Yr) A.ZJ;have hcn:0<=QA (λr:Rec=>decide<|r.name=L.Yr) A.ZJ:=Int.natCast_nonneg _;have hlr2:R A.ZJ<=100:=hlr;have hcv:QA (λr:Rec=>decide<|r.name=L.Yr) A.st.ZJ=QA (λr:Rec=>decide<|r.name=L.Yr) A.ZJ:=rfl;refine ro 3 O ?_;refine OK.Sd follows (ι:=(Nat×Nat)) (0,0) 13 O (S.MH (s:=[(217,.raw<|A.rh.w<|R A.ZJ),(228,.own 228 1),(2228,.arr 3 [(⟨L.Yr,A.st.YD L.Yr+1,(VJ L.rest).1⟩:Rec).cs]),(3000,.res<|Z9 A.mem)]) (m:=1) (qr:=[(⟨L.Yr,A.st.YD L.Yr+1,(VJ L.rest).1⟩:Rec).cs]) .r sL O (zt O) a.rs (zt O) O O O C (by rw[Zx];have:R A.ZJ<=100:=hlr;omega) (by rw[Zx];have:R A.ZJ<=100:=hlr;unfold maxLen;omega)).st (λq=>(.cs (zf Oy O) (.cs (zl Qq O O O O) (.cs (zf Jz O) (.cs (zl T6 O O O O) (.cs (zL Zk O O O O) (.cs (zf Jz O) (.cs (zl T6 O O O O) (.cs (S.Tx (OS (s:=A.st) (n:=L.Yr)) O call159 .none O (zc O<|zc O .nil) (⟨a.fz,Fz.same _ O,Zo⟩) O) (.cs (zp O O I) (.cs (zU bu50 O O) (.cs (zm O) (.cs (zU aK O O) (.cs (zM [[_,_,_]] sL O O O O)
   (.x ⟨O,O,O,O,Zo⟩<|.cn (zf Oy O)<|.cn (zS Qq O O O O O O) .nil))))))))))))))) λq=>?_
  refine Ab.D.code<|kO ?_;rw[SA.oH q (⟨L.Yr,A.st.YD L.Yr+1,(VJ L.rest).1⟩:Rec)];refine OK.R3 (RK.cF (zL Zk O O O O) (SA.To (A:={A with rh:=some q,ZJ:=A.ZJ++[(⟨L.Yr,A.st.YD L.Yr+1,(VJ L.rest).1⟩:Rec)]}) ⟨λe=>(by cases e),a.ch,a.ph,a.mh,a.fh⟩ O (SA.iR q _) O) O O ?_);refine rr 4 O<|kT O O Zk O O O ?_;rw[b];try rfl
 have M:WY n A.st L=_:=e9.trans<|Zm Y;refine ro 6 O<|kB O (λU=>?_) λU=>?_
 ·have K:WY n A.st L=_:=M.trans<|Zn U;refine ro 7 O<|kB O (λT=>?_) λT=>?_
  ·have b:=K.trans<|Jp<|P9 T;refine kr<|RK.cF (zL Zk O O O O) a.fz O O<|rr 5 O<|kT O O Zk O O O ?_;rw[b];try rfl
  obtain⟨i,y⟩:=P_ T;have h:=Vs y;obtain⟨v,g,o,hvn⟩:=nL y;obtain⟨pq,d⟩:=Vb a.ph g;have u:=K.trans<|Jq y;refine ro 6 O<|kc (S.YH Vg .none O (zt O) O O (SA.TC d) O)<|jm O<|kc (S.hidx (i:=i) VD .none O (zt O) (zt O) h o)<|kc (zr Qn O) ?_;refine kc (zH YK O<|Z9.Ki (k:=.p) (i:=i) (f:=5) (SA.Oh d) (Yo (f:=pC) g) O O<|.same _) ?_;refine rr 3 O<|kB O (λB=>?_) λB=>?_
  ·have b:=u.trans<|oc g B;refine kr<|RK.cF (zL Zk O O O O) a.fz O O<|rr 4 O<|kT O O Zk O O O ?_;rw[b];try rfl
  have hwp:WX (ZO n.plan).1 v.2=(V1 (ZO n.plan).1 v.2.frames).rows.all λx=>x.known:=by unfold WX;rw[(z.XE g).2]
  refine ro 4 O ?_;refine kV (.c (zL Pn O O O O)<|.c (zf Xk O)<|.c (S.YH Vg .none O (zt O) O O (SA.TC d) O)<|.c (zm O)<|.c (S.hidx (i:=i) VD .none O (zt O) (zt O) h o)<|.c (zJ (us:=v.2.cs) K6 O<|Z9.GF (k:=.p) (i:=i) (f:=0) (SA.Oh d) (Yo (f:=pC) g) O ⟨.same _,.same _,.same _,.same _,.sl<|a.fs g,.same _,.same _,.same _,.same _,.same _,.same _,.same _,.same _,Zo⟩ O)<|.c (zK (QZ F z.pl<|z.vals g) call161 O)<|.c (zK (KZ (r:=V1 (ZO n.plan).1 v.2.frames)) call160 O)<|.c (S.not .none O<|zt O) .nil)<|Ab.D.code<|OK.cond O O (λQ=>?_) λQ=>?_
  ·have b:=u.trans (oa g B<|by rw[hwp];simpa using Q);refine kr<|RK.cF (zL Zk O O O O) a.fz O O<|rr 4 O<|kT O O Zk O O O ?_;rw[b];try rfl
  have hmm:=u.trans (iL g hvn B<|by rw[hwp];simpa using Q);refine ro 9 O ?_;refine kc (S.Tx (sG (l:=A.Z3) (n:=L.num)) O call15 .none O (zc O<|zc O .nil) (⟨a.fzM,Fz.same _ O,Zo⟩) O)<|kD<|OK.cond O O (λP=>?_) λP=>?_
  ·have b:=hmm.trans (Zn<|by rw[←Bg];exact P);refine kr<|RK.cF (zL Zk O O O O) a.fz O O<|rr 4 O<|kT O O Zk O O O ?_;rw[b];try rfl
  have b:=hmm.trans (Zm<|by rw[←Bg];exact Bool.not_eq_true _▸P);refine ro 8 O ?_;refine RK.c (zM [[_]] Xr O O O O) ?_;refine RK.xs (S.MH (m:=1) (qr:=[Kh L.num]) .m Xr O (zt O) a.ms (zt O) O O O C (by rw[Zx];have:R A.Z3<=100:=hlm;omega) (by rw[Zx];have:R A.Z3<=100:=hlm;unfold maxLen;omega)) λq=>?_;refine rr 5 O ?_;rw[SA.oB q L.num];refine OK.R3 (RK.cF (zL Zk O O O O) (SA.To (A:={A with mh:=some q,Z3:=A.Z3++[L.num]}) ⟨a.rh,a.ch,a.ph,λe=>(by cases e),a.fh⟩ O (SA.Ee q _) O) O O ?_);refine rr 4 O<|kT O O Zk O O O ?_;rw[b];try rfl
 have K:WY n A.st L=_:=M.trans<|Zm U;refine ro 4 O ?_;have hlm2:R A.Z3<=100:=hlm;have hrl:R (A.st.XE (ZO n.plan).1)=R A.Z3:=Zx ..;refine OK.R3<|RK.c (S.XG (k:=15) (sz:=1) .none O)<|rr 9 O ?_;refine OK.loop (G:=Nat) [3,5,6,8,15] (λk=>[(3,.ptr 3 0),(1003,.box n.cs),(5,.ptr 5 0),(1005,.box L.cs),(6,.ptr 6 0),(1006,.box [.ZM,.ZM,.ZM,.ZM,bv 0,bv 0,.ZM]),(8,.ptr 8 0),(1008,.box A.cs),(15,.own 15 k),(2015,.arr 1<|((A.st.XE (ZO n.plan).1).take k).map ZG.cs),(16,bv k),(3000,.res<|Z9 A.mem)]) (λk=>k<=R A.Z3) (λk=>R A.Z3 - k) 0 (Zr _) ⟨O,O,O,O,O,O,O,O,(ZH N),(ZX N),O,O,Zo⟩ (λ_=>O) ?_;rintro k hk;refine ro 6 O ?_;refine kc (S.hlen X9 (by have:R A.Z3<=100:=hlm;unfold maxLen;omega) .none O<|zt O) ?_;refine rr 3 O<|kB O (λc274=>?_) λc274=>?_
 ·have hkm:k<R A.Z3:=I
  have hkr:k<R (A.st.XE (ZO n.plan).1):=I
  have hmk:A.Z3[k]?=some A.Z3[k]:=Zv hkm;obtain⟨i,y,hwi⟩:=hmd _<|Zt (l:=A.st.Z3) hkm;obtain⟨mq,hmh⟩:=Vb a.mh hmk;have h:=Vs y;obtain⟨v,g,o,_⟩:=nL y;obtain⟨pq,d⟩:=Vb a.ph g;have hrk:(A.st.XE (ZO n.plan).1)[k]=V1 (ZO n.plan).1 v.2.frames:=jz hkm y g hkr;refine ro 4 O ?_;refine kV (.c (zm O)<|.c (zL Pn O O O O)<|.c (zf Xk O)<|.c (S.YH Vg .none O (zt O) O O (SA.TC d) O)<|.c (zL Zk O O O O)<|.c (zf BQ O)<|.c (S.YH Md .none O (zt O) O O (SA.rawM hmh) O)<|.c (zm O)<|.c (S.hidx (i:=k) X9 .none O (zt O) (zt O) O hkm)<|.c (zH YK O<|Z9.Ki (k:=.m) (i:=k) (f:=0) (SA.atM hmh) (Yo (f:=Kh) hmk) O O<|.same _)<|.c (S.Tx (Ns (s:=A.st) (n:=A.Z3[k])) O call18 .none O (zc O<|zc O .nil) (⟨a.fz,Fz.same _ O,Zo⟩) O)<|.c (S.hidx (i:=i) VD .none O (zt O) (zt O) h o)<|.c (zJ (us:=v.2.cs) K6 O<|Z9.GF (k:=.p) (i:=i) (f:=0) (SA.Oh d) (Yo (f:=pC) g) O ⟨.same _,.same _,.same _,.same _,.sl<|a.fs g,.same _,.same _,.same _,.same _,.same _,.same _,.same _,.same _,Zo⟩ O)<|.c (zK (QZ F z.pl<|z.vals g) call161 O)<|.c (zM [[_]] vB O O O O)<|.c (zP vB O O (by rw[Zx,List.length_take_of_le<|by rw[hrl];exact hk]) N I<|by simp only[maxLen];omega)<|.c (za O) .nil) ?_;refine Rd 7 O I ?_;refine Ab.D.lp ⟨k+1,I,I,O,O,O,O,O,O,O,O,(ZH N),(ZX<|by rw[←Wh hkr,ne,hrk];rfl),O,O,Zo⟩
 obtain rfl:k=R A.Z3:=I
 have hkl:R (A.st.XE (ZO n.plan).1)<=R A.Z3:=Nat.le_of_eq hrl;refine ro 4 O ?_;refine OK.freeze 15 O O O (by simp[hrl]) ?_;rw[sg hkl];refine OK.R3<|jm O<|kc (zk Kz O)<|rr 3 O<|kB O (λc295=>?_) λc295=>?_
 ·have b:=K.trans<|Zn I;refine kr<|RK.cF (zL Zk O O O O) a.fz O O<|rr 4 O<|kT O O Zk O O O ?_;rw[b];try rfl
 have f1:=K.trans<|Zm I;refine ro 7 O ?_;refine kc (S.mul .none O (.Zg O) (zt O) (mn _ I)<|mn _ I)<|jm O<|kc (zk Kz O) ?_;refine rr 3 O<|kB O (λc302=>?_) λc302=>?_
 ·have b:=f1.trans<|Zn I;refine kr<|RK.cF (zL Zk O O O O) a.fz O O<|rr 4 O<|kT O O Zk O O O ?_;rw[b];try rfl
 have b:=f1.trans<|Zm I;have hW:=zT z hmd;refine ro 3 O<|kV (.c (zL Pn O O O O)<|.c (zK (NW F) call163 O)<|.c (zm O)<|.c (zf kG O)<|.c (zl YK O O O O)<|.c (zK (EB (p:=(ZO n.plan).1) (l:=A.st.XE (ZO n.plan).1) (x3:=L.num) z.pl ⟨I,I⟩ hW ⟨hln.1,I⟩) call162 O)<|.c (zf qK O)<|.c (zS L5 O O O O O O) .nil) ?_;refine rd 3 O<|RK.cF (zL Zk O O O O) (SA.To (A:={A with env:=OM (ZO n.plan).1 (A.st.XE (ZO n.plan).1) L.num}) ⟨a.rh,a.ch,a.ph,a.mh,a.fh⟩ O O O) O O<|rr 4 O<|kT O O Zk O O O ?_;rw[b];try rfl
