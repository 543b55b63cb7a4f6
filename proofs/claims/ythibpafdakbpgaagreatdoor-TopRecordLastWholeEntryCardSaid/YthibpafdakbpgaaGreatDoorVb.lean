import Derived.Test.YthibpafdakbpgaaGreatDoorVi
set_option linter.all false
set_option maxHeartbeats 4000000
open List renaming length->R
namespace Go.Proofs.YthibpafdakbpgaaGreatDoor
open Go.Ab Tryz
set_option maxRecDepth 9999
variable{a m:Int}
def gQ(b:0<m/\m<=1000000):Ct prog 27 [bv a,bv m]<|bv (if a.tmod m<0 then a.tmod m+m else a.tmod m):=by
 refine cI func27 O<|OK.intB (t:=0) O O λc=>?_;have f:=bδ a b.1;have e:=fv a b.1;refine ro 9 O ?_;refine kc (S.rem (q:=(a.tmod m)) .none O (zt O) (zt O) I O<|mn _ I) ?_;refine rr 10 O<|kB O (λd=>?_) λd=>?_
 ·refine Ro 13 O I<|kR O O ?_;simp[*]
 refine ro 8 O<|kR O O ?_;simp[*]
def itoa_13{v:Int}(h:0<=v/\v<=1000000000000):R (Lib.itoa v)<=13:=by
 rw[MO h.1];exact dec_le 12 _ I
variable{x:Entry}
def jrn_no(h:fR x):(10:UInt8)∉OQ x:=by
 have c:=(AH h.sw.at_).2;have b:=h.by10;have a:=h.tx10;simp[OQ,c,b,a]
variable{f:Int}
def fS(h:fR x)(c:0<=a/\a<=999960):(10:UInt8)∉Nx f x a:=by
 have b:=jrn_no h;have e:=P8 (OQ x) a c;have d:=(AH (n:=J8 (OQ x) a) I).2;unfold Nx;split
 ·simp[b,d]
 exact b
def jln_le(h:fR x)(b:0<=a/\a<=999960):R (Nx f x a)<=649:=by
 have j:=itoa_13 h.sw.at_;have c:=P8 (OQ x) a b;have i:=itoa_13 (v:=J8 (OQ x) a) I;have g:=h.by12;have e:=h.text;have d:R (OQ x)<=627:=by
  unfold OQ;simp only[Zs,tt,aυ];omega
 unfold Nx;split
 ·simp only[Zs,tt,aυ];omega
 omega
def lns_le(f:Int):∀(l:List Entry)(a:Int),(∀x∈l,fR x)->(0<=a/\a<=999960)->∀s∈Un f l a,R s<=649
 |[],_,_,_,s,b=>by cases b
 |x::l,a,h,ha,s,b=>by
  rcases sf.1 b with rfl|b
  ·exact jln_le (h x rv) ha
  exact lns_le f l _ (λy c=>h y<|rl _ c) (P8 _ _ ha) s b
def DF(f:Int)(x:Entry)(l:List Entry)(a:Int):Qf (Un f (x::l) a)=Nx f x a++10::Qf (Un f l<|J8 (OQ x) a):=by simp[Qf,Un]
def E0(l:List Entry)(f:Int):VD l f=(Lib.itoa f++[10])++Qf (Un f l 0):=by simp[VD,Qf]
def Ap(a:f=1\/f=2):R (Lib.itoa f++[10])=2:=by
 rcases a with rfl|rfl
 ·rw[kJ];rfl
 rw[wv];rfl
variable{l:List Entry}{n:Net}
def DJ(a:f=1\/f=2)(h:(Z2 n l).2.2=0):2<=R (VD l f)/\R (VD l f)<=60000:=by
 have c:=j7 (B:=649) (Un f l 0)<|lns_le f l 0 (K6 h) C;rw[Nc]at c;have b:=(Ur h).2.1;rw[E0,Zs,Ap a];have:R l * (649+1)<=60 * 650:=m8 _ b;omega
def gv{s r:ba}(c:f=1\/f=2)(e:(U4 n).2=0)(b:s=(Lib.itoa f++[10])++r)(i:R s<=60000):Qr n s=((Nb f (Ay n)<|Tv r).2.1,(Nb f (Ay n)<|Tv r).2.2.2.1,0):=by
 have a:fmtS s=f:=by
  rcases c with rfl|rfl
  ·rw[b];exact fmt_F (by rw[kJ,wv];simp)
  rw[b];exact fmt_T<|ed.2 ⟨r,rfl⟩
 have d:Gy s=true:=by
  unfold Gy;rw[a,b];exact ed.2 ⟨r,rfl⟩
 have g:s.drop 2=r:=by rw[b,←Ap c,lO]
 have h:xW n s=0:=by unfold xW;rw[e,Zz (show(R s:Int)<=60000 by omega),d];rfl
 rw[gd h,a,g]
def qK{n:Net}{f:Int}:∀(l:List Entry)(q:RS),Gt n q->(Z2 n<|q.2.1++l).2.2=0->∃b:RS,Gt n b/\b.2.1=q.2.1++l/\b.2.2.1=CJ l q.2.2.1/\b.2.2.2.1=q.2.2.2.1+(R (Qf<|Un f l q.2.2.1):Int)/\∀z,Nb f q (Tv<|Qf (Un f l q.2.2.1)++z)=Nb f b (Tv z)
 |[],q,hi,_=>⟨q,hi,(i8 _).symm,rfl,(lj _).symm,λ_=>rfl⟩
 |x::l,q,hi,h=>by
  have e:R q.2.1<R (q.2.1++x::l):=F
  have g:=(Aq h e).1;rw[ic,hi.h,ge<|Zq _]at g;simp only[dδ,Kp]at g;have i:=K6 h x<|ui _ rv;have j:=entP_jln (f:=f) i.sw hi.a;have c:iZ f q<|Nx f x q.2.2.1++[10]:=by
   unfold iZ;rw[vf,j];exact⟨rfl,g⟩
  have d:nxL f q (Nx f x q.2.2.1++[10])=((Za q.1 x).1,q.2.1++[x],J8 (OQ x) q.2.2.1,q.2.2.2.1+(R (Nx f x q.2.2.1++[10]):Nat),0):=by
   unfold nxL;rw[vf,j]
  have k:=hi.next c;rw[d]at k;obtain⟨b,s,r,p,o,m⟩:=qK (f:=f) l _ k (by dsimp only;rw[m7];exact h);dsimp only at r p o m;refine⟨b,s,by rw[r,m7];rfl,p,?_,λz=>?_⟩
  ·have u:R (Nx f x q.2.2.1++[10])=R (Nx f x q.2.2.1)+1:=F
   have t:R (Nx f x q.2.2.1++10::Qf (Un f l<|J8 (OQ x) q.2.2.1))=R (Nx f x q.2.2.1)+(R (Qf<|Un f l<|J8 (OQ x) q.2.2.1)+1):=F
   rw[o,DF,u,t];omega
  rw[DF,m7,H5,vB<|fS i hi.a,rec_T c,d];exact m z
def cD(f:Int):∀(l:List Entry)(a:Int)(c:Nat),(∀x∈l,fR x)->(0<=a/\a<=999960)->c<=R (Qf<|Un f l a)->∃(k:Nat)(z:ba),k<=R l/\(Qf<|Un f l a).take c=Qf (Un f (l.take k) a)++z/\(10:UInt8)∉z/\((k=R l/\z=[])\/∃m:k<R l,∃i,i<=R (Nx f l[k]<|CJ (l.take k) a)/\z=(Nx f l[k]<|CJ (l.take k) a).take i)
 |[],a,c,_,_,hc=>⟨0,[],Zq _,by simp[Qf,Un],H4,.inl ⟨rfl,rfl⟩⟩
 |x::l,a,c,h,ha,hc=>by
  have o:=h x rv;by_cases b:c<=R (Nx f x a)
  ·refine⟨0,(Nx f x a).take c,Zr _,?_,λe=>fS o ha<|eν e,.inr ⟨aθ _,c,b,rfl⟩⟩;rw[DF,aε b];rfl
  obtain⟨j,rfl⟩:∃j,c=R (Nx f x a)+(j+1):=⟨c - R (Nx f x a) - 1,I⟩;rw[DF]at hc;simp only[Zs,tt]at hc;obtain⟨k,z,s,r,q,g⟩:=cD f l (J8 (OQ x) a) j (λy n=>h y<|rl _ n) (P8 _ _ ha) I;refine⟨k+1,z,by simpa using s,?_,q,?_⟩
  ·rw[DF,io,ie,r,ie,DF,m7,H5]
  rcases g with⟨g,d⟩|⟨m,i,d,p⟩
  ·exact .inl ⟨by rw[g];rfl,d⟩
  exact .inr ⟨Nat.succ_lt_succ m,i,d,p⟩
def lM(l:ba)(b c:UInt8):Ni (l++[b]) c=if b=c then(R l:Int)else Ni l c:=by
 have d:∀k,k<=R l->QF (l++[b]) c k=QF l c k:=by
  intro k
  induction k with
  |zero=>intro _;rfl
  |succ k a=>
   intro h;rw[QF,QF,a I];rw[pv,pv,m6 I]
 unfold Ni;rw[Zs,R0,QF,d _<|Zq _,pv,aκ<|Zq _,dδ];rfl
def cat_cnt(f:Int):∀(l:List Entry)(a:Int),(∀x∈l,fR x)->(0<=a/\a<=999960)->(Qf<|Un f l a).count 10=R l
 |[],_,_,_=>rfl
 |x::l,a,h,ha=>by
  rw[DF,ib,List.count_cons_self,cat_cnt f l _ (λy b=>h y<|rl _ b)<|P8 _ _ ha,hK<|fS (h x rv) ha,wc];rfl
def cut_ends(g:f=1\/f=2){z:ba}(h:∀x∈l,fR x)(j:0<=a/\a<=999960)(c:(10:UInt8)∉z):(((Lib.itoa f++[10])++(Qf (Un f l a)++z)).count 10:Int) - 1=(R l:Int)/\Ni ((Lib.itoa f++[10])++(Qf (Un f l a)++z)) 10+1=2+(R (Qf<|Un f l a):Int):=by
 have h0:(Lib.itoa f++[10]).count 10=1:=by
  rcases g with rfl|rfl
  ·rw[kJ];rfl
  rw[wv];rfl
 refine⟨by rw[ib,h0,ib,cat_cnt f l a h j,hK c];omega,?_⟩;have hh:=Ap g;have vy:∃u:ba,(Lib.itoa f++[10])++Qf (Un f l a)=u++[10]:=by
  rcases lA l with e|⟨b,x,e⟩
  ·exact⟨Lib.itoa f,by rw[e];simp[Qf,Un]⟩
  exact⟨(Lib.itoa f++[10])++(Qf (Un f b a)++Nx f x (CJ b a)),by subst e;rw[lL,Jc,gR];simp⟩
 obtain⟨u,d⟩:=vy;have i:2+R (Qf<|Un f l a)=R u+1:=by
  have e:=rn List.length d;rw[Zs,hh,Zs]at e;exact e
 rw[←m7,d,m7,aδ,Dh c];omega
def cut_law(b:f=1\/f=2)(h:(Z2 n l).2.2=0){c:Nat}(y:2<=c)(o:c<=R (VD l f)):∃(k:Nat)(z:ba),k<=R l/\(VD l f).take c=(Lib.itoa f++[10])++(Qf (Un f (l.take k) 0)++z)/\(10:UInt8)∉z/\Qr n ((VD l f).take c)=(l.take k,2+(R (Qf<|Un f (l.take k) 0):Int),0)/\((k=R l/\z=[])\/∃x:k<R l,∃i,i<=R (Nx f l[k]<|CJ (l.take k) 0)/\z=(Nx f l[k]<|CJ (l.take k) 0).take i):=by
 have hh:=Ap b;obtain⟨a,rfl⟩:∃a,c=2+a:=⟨c - 2,I⟩;have m:=DJ b h;rw[E0]at o m⊢;rw[Zs,hh]at o m;obtain⟨k,z,v,u,p,t⟩:=cD f l 0 a (K6 h) C I;have g:((Lib.itoa f++[10])++Qf (Un f l 0)).take (2+a)=(Lib.itoa f++[10])++(Qf (Un f (l.take k) 0)++z):=by
  conv=>lhs;arg 1;rw[←hh]
  rw[io,u]
 have j:=(Ur h).1;refine⟨k,z,v,g,p,?_,t⟩;rw[gv b j g<|by rw[sc,Zs,hh];omega];obtain⟨e,g1,g2,_,w,d⟩:=qK (f:=f) (l.take k) (Ay n) (xS j)<|UP h k;have d:Nb f (Ay n) (Tv<|Qf (Un f (l.take k) 0)++z)=Nb f e (Tv z):=d z;obtain⟨s,r⟩:=e_ (f:=f) (q:=e) p;rw[d,s,r,g2,w];rfl
def whole_law(b:f=1\/f=2)(h:(Z2 n l).2.2=0):Qr n (VD l f)=(l,(R (VD l f):Int),0):=by
 have c:=(Ur h).1;rw[gv b c (E0 l f) (DJ b h).2];obtain⟨d,g1,g2,_,e,a⟩:=qK (f:=f) l (Ay n) (xS c) h;have a:Nb f (Ay n) (Tv<|Qf (Un f l 0)++[])=Nb f d (Tv []):=a [];rw[i8]at a;rw[a,E0,Zs,Ap b];refine ik g2<|ik (e.trans ?_) rfl;show(2:Int)+(R (Qf<|Un f l 0):Int)=((2+R (Qf<|Un f l 0):Nat):Int);omega
def lN:Q7 prog 5 [.agg n.cs,.sl<|l.map Entry.cs,bv a]<|.bool true:=by
 refine cT func5 O λM=>?_
 refine ro 9 O<|kc (S.Xo Bp M call8 .none O .nil O)<|kc (S.not .none O<|zt O)<|rr 9 O<|kc (zK (tK (n:=n)) call9 O)<|kc (S.not .none O<|zt O)<|jm O<|RK.split (t:=26) O (λX=>?_) λX=>?_
 ·refine rr 18 O (kR O O ?_)
  first|rfl|simp
 refine kc (S.move (zg O O) O<|zt O)<|kc (S.call (C2 (l:=l)) call10 (zg O O) O (zc O .nil) O)<|kc (S.not (zg O O) O<|zt O)<|rr 2 O<|RK.split (t:=31) O (λW=>?_) λW=>?_
 ·refine rr 13 O (kR O O ?_)
  first|rfl|simp
 have hfe:NK n=true:=by simpa using X
 have hsl:Xv l=true:=by simpa using W
 obtain⟨hl1,hl2⟩:=mN hfe;obtain⟨hll,hlt⟩:=dz hsl;have A:∀y∈l,R y.text<=100000:=λy Z=>by have:=hlt y Z;omega
 refine rr 2 O<|kc (S.call (G9 (n:=n) (l:=l) I A) call11 (zg O O) O (zc O<|zc O .nil) O) ?_;refine rr 4 O<|kB O (λY=>?_) λY=>?_
 ·refine ro 5 O (kR O O ?_)
  first|rfl|simp
 have h0:(Z2 n l).2.2=0:=Zu.1 Y;have j:∀x∈l,R x.OR<=1000/\R x.text<=1000:=λy Z=>by have:=K6 h0 y Z;have h1:=this.by12;have h2:=this.text;omega
 refine ro 9 O ?_;refine OK.loop (G:=Int) [3] (λf=>[(1,.sl<|l.map Entry.cs),(2,bv a),(3,.ptr 3 0),(1003,.box n.cs),(7,bv f)]) (λf=>1<=f/\f<=3) (λf=>(3 - f).toNat) 1 ⟨C,C⟩ ⟨O,O,O,O,O,Zo⟩ (λ_=>O) ?_;rintro f ⟨hf1,hf3⟩;refine ro 7 O<|kB O (λc38=>?_) λc38=>?_
 ·have J:f=1\/f=2:=I
  obtain⟨hj2,hj6⟩:=DJ J h0;have hJ:hU n l f=((VD l f),0):=Zm (Zp<|by rw[jrnE_v h0];exact Zn J);refine ro 7 O<|kc (zK (Tj (n:=n) I) call13 O)<|jm O<|kc (zK (S8 (l:=l) I) call14 O)<|jm O<|kc (S.Xo (CD (n:=n) (l:=l) (f:=f) I (An A) I j) M call26 .none O (zc O<|zc O<|zc O .nil) O) ?_;refine rr 9 O ?_;have P:(hU n l f).1=(VD l f):=rn Prod.fst hJ;have N:(hU n l f).2=0:=rn Prod.snd hJ;rw[P,N];refine ro 4 O<|RK.ZS (t:=52) O (λV=>?_) λV=>?_
  ·exact absurd rfl V
  refine rr 6 O<|kB O (λc56=>?_) λc56=>?_
  ·exfalso;omega
  refine Ro 8 O I<|kc (zK (gQ (a:=a) (m:=((R (VD l f):Int) - 1)) I) call27 O) ?_;refine kc (S.add .none O (.Zg O) (zt O) (mn _<|by have H:=bδ a (show(0:Int)<((R (VD l f):Int) - 1)by omega);have F:=fv a (show(0:Int)<((R (VD l f):Int) - 1)by omega);split<;>omega)<|mn _<|by have H:=bδ a (show(0:Int)<((R (VD l f):Int) - 1)by omega);have F:=fv a (show(0:Int)<((R (VD l f):Int) - 1)by omega);split<;>omega) ?_;refine rr 4 O ?_;have H:=bδ a (show(0:Int)<((R (VD l f):Int) - 1)by omega);have F:=fv a (show(0:Int)<((R (VD l f):Int) - 1)by omega);obtain⟨c,hc⟩:∃c:Nat,2+(if a.tmod ((R (VD l f):Int) - 1)<0 then a.tmod ((R (VD l f):Int) - 1)+((R (VD l f):Int) - 1)else a.tmod ((R (VD l f):Int) - 1))=(c:Int):=⟨(2+(if a.tmod ((R (VD l f):Int) - 1)<0 then a.tmod ((R (VD l f):Int) - 1)+((R (VD l f):Int) - 1)else a.tmod ((R (VD l f):Int) - 1))).toNat,by split<;>omega⟩;have K:2<=c/\c<=R (VD l f):=by split at hc<;>omega
  rw[hc];obtain⟨k,z,hk,hs,hz,hR,_⟩:=cut_law J h0 K.1 K.2;refine kV (.c (zL Pn O O O O)<|.c (zK (Tj (n:=n) I) call13 O)<|.c (zm O)<|.c (zm O)<|.c (S.VI (hi:=c) (l':=(VD l f).take c) W6 .none O (zt O) (.inl ⟨O,O,O⟩) (.inr ⟨_,_,O,(zt O),O⟩) I I<|by rw[aα])<|.c (S.Xo (My (n:=n) (s:=(VD l f).take c) I<|by rw[sc];omega) M call21 .none O (zc O<|zc O .nil) O)<|.c (zm O)<|.c (zX O O O)<|.c (zX O O O)<|.c (zX O O O)<|.c (za O)<|.c (za O)<|.c (za O) .nil) ?_;refine Ab.D.code<|kO ?_;have hR1:(Qr n<|(VD l f).take c).1=l.take k:=rn Prod.fst hR;have hR2:(Qr n<|(VD l f).take c).2.1=2+(R (Qf<|Un f (l.take k) 0):Int):=rn (λz=>z.2.1) hR;have hR3:(Qr n<|(VD l f).take c).2.2=0:=rn (λz=>z.2.2) hR;rw[hR1,hR2,hR3];refine ro 12 O ?_;refine OK.loop (G:=Nat) [3] (λi=>[(1,.sl<|l.map Entry.cs),(2,bv a),(3,.ptr 3 0),(1003,.box n.cs),(7,bv f),(8,.str<|VD l f),(10,bv (c:Int)),(11,.sl<|(l.take k).map Entry.cs),(12,bv<|2+(R (Qf<|Un f (l.take k) 0):Int)),(13,bv 0),(14,bv<|(((VD l f).take i).count 10:Nat) - 1),(15,bv<|Ni ((VD l f).take i) 10+1),(16,bv i)]) (λi=>i<=c) (λi=>c - i) 0 (Zr _) ⟨O,O,O,O,O,O,O,O,O,O,O,O,O,Zo⟩ (λ_=>O) ?_;rintro i hi;refine ro 8 O<|kB O (λc75=>?_) λc75=>?_
  ·have hiJ:i<R (VD l f):=I
   have h:=mv hiJ;have hli:R ((VD l f).take i)=i:=by rw[sc];omega
   refine ro 8 O<|kc (S.Xc (n:=i) W6 .none O (zt O) (zt O) O I) ?_;refine rr 3 O<|kB O (λE=>?_) λE=>?_
   ·have L:(VD l f)[i]=10:=fI.1 E;have B:List.count (10:UInt8) [(VD l f)[i]]=1:=by rw[L];rfl
    have g:(if(VD l f)[i]=10 then(R ((VD l f).take i):Int)else Ni ((VD l f).take i) 10)=(i:Int):=by rw[Zn L,hli]
    refine OK.R3<|jm O ?_;refine kc (S.add .none O (zt O) (.Zg O) (mn _<|by have:=dα (a:=(10:UInt8)) (l:=(VD l f).take i);rw[sc]at this;omega)<|mn _<|by have:=dα (a:=(10:UInt8)) (l:=(VD l f).take i);rw[sc]at this;omega) ?_;refine Rr 12 O I ?_;refine Ab.D.lp ⟨i+1,I,I,O,O,O,O,O,O,O,O,O,O,(CU<|by rw[h,ib,B];omega),(CU<|by rw[h,lM,g]),O,Zo⟩
   have L:¬(VD l f)[i]=10:=λe=>E (by rw[e];rfl)
   have B:List.count (10:UInt8) [(VD l f)[i]]=0:=hK λe=>L (pi.1 e).symm;have g:(if(VD l f)[i]=10 then(R ((VD l f).take i):Int)else Ni ((VD l f).take i) 10)=Ni ((VD l f).take i) 10:=Zm L;refine Ro 8 O I ?_;refine Ab.D.lp ⟨i+1,I,I,O,O,O,O,O,O,O,O,O,O,(CU<|by rw[h,ib,B];omega),(CU<|by rw[h,lM,g]),O,Zo⟩
  obtain rfl:i=c:=I
  obtain⟨o,d⟩:=cut_ends J (l:=l.take k) (a:=0) (z:=z) (λx hx=>K6 h0 x<|eν hx) C hz;rw[←hs,sc,gg hk]at o;rw[←hs]at d;rw[d];refine ro 8 O<|RK.ZS (t:=88) O (λU=>?_) λU=>?_
  ·exact absurd rfl U
  refine kc (S.move (zg O O) O<|zt O)<|kc (S.OF Vy (zg O O) O<|zt O)<|rr 4 O<|RK.ZS (t:=94) O (λT=>?_) λT=>?_
  ·exfalso;rw[sc]at T;omega
  refine rr 5 O<|RK.ZS (t:=99) O (λQ=>?_) λQ=>?_
  ·exact absurd rfl Q
  refine rr 4 O<|kc (S.OF Vy (zg O O) O<|zt O)<|kc (S.min2 (zg O O) O (zt O)<|zt O) ?_;refine kc (S.slice (hi:=k) (l':=l.take k) Vy (λ_=>O) (zg O O) O (zt O) (.inl ⟨O,O,O⟩) (.inr ⟨_,_,O,(zt O),(by rw[o];omega)⟩) I I<|by rw[aα]) ?_;refine kc (S.call (Mz (a:=l.take k) (b:=l.take k)) call25 (zg O O) O (zc O<|zc O .nil) O)<|kc (S.Xb (zg O O) O<|zt O)<|rr 3 O<|kB O (λw=>?_) λw=>?_
  ·exact absurd rfl w
  refine ro 5 O<|kc (zK (Tj (n:=n) I) call13 O)<|jm O<|kc (S.Xo (My (n:=n) (s:=(VD l f)) I I) M call21 .none O (zc O<|zc O .nil) O) ?_;refine rr 10 O ?_;have hW:=whole_law J h0;have hW1:(Qr n<|VD l f).1=l:=rn Prod.fst hW;have hW2:(Qr n<|VD l f).2.1=(R (VD l f):Int):=rn (λz=>z.2.1) hW;have hW3:(Qr n<|VD l f).2.2=0:=rn (λz=>z.2.2) hW;rw[hW1,hW2,hW3];refine ro 2 O<|kc (zK (Tj (n:=n) I) call13 O)<|jm O<|kc (zK (S8 (l:=l) I) call14 O)<|jm O<|kc (S.Xo (CD (n:=n) (l:=l) (f:=f) I (An A) I j) M call26 .none O (zc O<|zc O<|zc O .nil) O) ?_;refine rr 8 O ?_;rw[P,N];refine ro 4 O<|RK.ZS (t:=129) O (λu=>?_) λu=>?_
  ·exact absurd rfl u
  refine rr 6 O<|RK.ZS (t:=135) O (λr=>?_) λr=>?_
  ·exact absurd rfl r
  refine rr 2 O<|kc (S.call (Mz (a:=l) (b:=l)) call25 (zg O O) O (zc O<|zc O .nil) O)<|kc (S.Xb (zg O O) O<|zt O)<|rr 2 O<|RK.ZS (t:=141) O (λq=>?_) λq=>?_
  ·exact absurd rfl q
  refine rr 4 O<|RK.ZS (t:=145) O (λp=>?_) λp=>?_
  ·exact absurd rfl p
  refine rr 6 O<|kB O (λv=>?_) λv=>?_
  ·exact absurd rfl v
  refine Ro 8 O I<|Ab.D.lp ⟨f+1,⟨I,I⟩,I,O,O,O,O,O,Zo⟩
 refine ro 7 O (kR O O ?_)
 first|rfl|simp
def top_awake:Q7 prog 28 []<|.bool true:=by
 refine cT func28 O λa=>?_
 refine ro 7 O<|kc (zK LG call37 O)<|kc (zK LF call38 O)<|kc (S.Xo sQ a call17 .none O (zc O<|zc O<|zD O) O)<|rr 9 O<|kc (zK LG call37 O)<|kc (zK LF call38 O) ?_;refine kc (S.Xo lF a call35 .none O (zc O<|zc O<|.cons (.Vh (l:=[112,97,114,116,32,50]) O C) .nil) O) ?_;refine rr 13 O ?_;refine kc (S.mkData (vj:=[[_],[_],[_],[_],[_],[_],[_]]) sL (zg O O) O (zC O<|zC O<|zC O<|zC O<|zC O<|zC O<|zD O) O O O O O O O)<|kc (S.call sR call41 (zg O O) O (zc O<|zc O .nil) O) ?_;refine rr 12 O<|kR O O ?_;rfl
def S.convR{E:Env}{qc:Array Oper}{s r f:St}{d ty t t':Nat}{vi:String}{v9:Array Edge}{v4:Option<|Nat×Bool}{x:Operand}{k:IntKind}{b:UInt8}{e:TypeDesc}(i:Gd qc s v4 f)(hd:(Nat.blt d 1000&&Nat.blt d E.nt)=true)(g:YO s x (.int k m) r)
  (n:E.P.underlying t=some e) (l:E.P.underlying t'=some .string) (j:Utf8.encode m=⟨#[b]⟩):Zb E qc ⟨some d,.convert t t' x,ty,vi,v9,v4⟩ s (f++r) [(d,.str [b])] []:=
 Zb.val i hd rfl g.looks λc A w _ h=>⟨.string ⟨#[b]⟩,by
  simp only[execOp,(Xq<|g.rep (c:=c) (a:=A) (w:=w) h).1,convert,Sem.run_bind,run_underlying n,run_underlying l,Result.andThen_ok,Conv.intToString,j];rfl,ZR.WB<|.str [b]<|by unfold maxLen;simp⟩
def sum_ne:∀(l:ba){a b:Int},(0<=a/\a<=999960)->(0<=b/\b<=999960)->a≠b->J8 l a≠J8 l b
 |[],_,_,_,_,h=>h
 |x::l,a,b,ha,hb,h=>sum_ne l I I I
variable{o:UInt8}
def sum_set{u v:ba}{x:UInt8}(c:0<=a/\a<=999960)(h:x≠o):J8 (u++x::v) a≠J8 (u++o::v) a:=by
 have d:=P8 u a c;have i:(x.toNat:Int)≠(o.toNat:Int):=λe=>h<|fI.1 e
 have g:=eι x;have f:=eι o;rw[nT,nT];exact sum_ne v (a:=(J8 u a * 229+(x.toNat:Int)+1) % 999961) (b:=(J8 u a * 229+(o.toNat:Int)+1) % 999961) I I I
def spoil_at{P S b d:ba}{i:Nat}(hi:i<R (P++32::S))(s:(32:UInt8)∉S)(m:(32:UInt8)∉d)(n:o∉d)(k:o≠32)(h:(P++32::S).set i o=b++32::d):i<R P/\b=P.set i o/\d=S:=by
 have c:(b++32::d)[i]?=some o:=by rw[←h,js hi]
 have l:i<R b:=by
  rcases w7 i (R b) with q|q
  ·exact q
  exfalso;rw[aκ q]at c;rcases dθ (i - R b)with e|e
  ·rw[e,iv,bθ]at c;exact k c.symm
  obtain⟨j,r⟩:∃j,i - R b=j+1:=⟨i - R b - 1,I⟩;rw[r,jn]at c;exact n<|mr c
 have hw:P++32::S=(P++32::S).take (R b)++32::d:=by
  have e:=rn (List.drop<|R b) h;rw[List.drop_set_of_lt l,lO]at e
  conv=>lhs;rw[←a7 (R b) (P++32::S),e]
 have p:=Dh (a:=P) s;have f:=Dh (a:=(P++32::S).take<|R b) m;rw[←hw]at f;have qm:=rn List.length hw;simp only[Zs,tt,sc]at qm f;have g:R b=R P:=by
  have:=rn List.length h;simp only[wi,Zs,tt]at this;omega
 have ez:i<R P:=I
 rw[List.set_append_left _ _ ez]at h;obtain⟨u,t⟩:=List.append_inj h (by rw[wi,g]);exact⟨ez,u.symm,(li t).2.symm⟩
def itoa_inj{n:Int}(d:0<=m/\m<=999960)(c:0<=n/\n<=999960)(h:Lib.itoa m=Lib.itoa n):m=n:=by
 have b:=(CW (n:=m) I).2.2.1;have a:=(CW (n:=n) I).2.2.1;rw[←b,←a,h]
def spoil_no{q:RS}{i:Nat}(b:0<=q.2.2.1/\q.2.2.1<=999960)(hi:i<R (Nx 2 x q.2.2.1))(k:125<=o.toNat/\o.toNat<=126)(a:(Nx 2 x q.2.2.1)[i]≠o):¬iZ 2 q ((Nx 2 x q.2.2.1).set i o++[10]):=λe=>by
 obtain⟨_,c,_⟩:=qj (.inr rfl) b e;obtain⟨y,m⟩:∃y,y=DG ((Nx 2 x q.2.2.1).set i o) 2:=⟨_,rfl⟩;rw[←m]at c;have l:∀z:Entry,Nx 2 z q.2.2.1=OQ z++32::Lib.itoa (J8 (OQ z) q.2.2.1):=λz=>Zn rfl
 have f:=P8 (OQ x) q.2.2.1 b;have d:=P8 (OQ y) q.2.2.1 b;have g:o∉Lib.itoa (J8 (OQ y) q.2.2.1):=λp=>by
  have r:=(CW (n:=J8 (OQ y) q.2.2.1) I).2.2.2.2 o p;have:48<=o.toNat/\o.toNat<=57:=pf r;omega
 have h:o≠32:=λe=>by rw[e]at k;exact absurd k.1 C
 rw[l y]at c;simp only[l x]at c hi a;obtain⟨ez,t,s⟩:=spoil_at hi (AH I).1 (AH I).1 g h c.symm;have j:=itoa_inj d f s;rw[ip ez]at a;rw[t,ii,Zn ez]at j;refine sum_set b a ?_ (u:=(OQ x).take i) (v:=(OQ x).drop<|i+1);rw[j,←np ez,a7]
def lP(f:Int):∀(l m:List Entry)(a:Int),Un f (l++m) a=Un f l a++Un f m (CJ l a)
 |[],_,_=>rfl
 |x::l,m,a=>by rw[H5,Un,Un,CJ,lP f l];rfl
def cat_at{k:Nat}(a:k<R l):∃vt,Qf (Un f l 0)=Qf (Un f (l.take k) 0)++(Nx f l[k] (CJ (l.take k) 0)++10::vt):=by
 refine⟨Qf<|Un f (l.drop<|k+1)<|J8 (OQ l[k])<|CJ (l.take k) 0,?_⟩;rw[←DF,←np a]
 conv=>lhs;rw[←a7 k l,lP]
 exact cγ ..
def spoil_law(h:(Z2 n l).2.2=0){c k:Nat}{z:ba}(O:c<R (VD l 2))(M:(VD l 2)[c]≠10)(t:125<=o.toNat/\o.toNat<=126)(m:(VD l 2)[c]≠o)
  (j:(VD l 2).take c=(Lib.itoa 2++[10])++(Qf (Un 2 (l.take k) 0)++z)) (J:(k=R l/\z=[])\/∃v:k<R l,∃i,i<=R (Nx 2 l[k]<|CJ (l.take k) 0)/\z=(Nx 2 l[k]<|CJ (l.take k) 0).take i):
  Qr n (((VD l 2).take c++[o])++(VD l 2).drop (c+1))=(l.take k,2+(R (Qf<|Un 2 (l.take k) 0):Int),0):=by
 have qm:=rn List.length j;rw[sc,gg<|Nat.le_of_lt O]at qm;rcases J with⟨rfl,rfl⟩|⟨v,i,hi,rfl⟩
 ·rw[List.take_length,i8,←E0]at qm;omega
 obtain⟨vt,s⟩:=cat_at (f:=2) v;obtain⟨d,g1,g2,E,P,D⟩:=qK (f:=2) (l.take k) (Ay n) (xS (Ur h).1)<|UP h k;have E:d.2.2.1=CJ (l.take k) 0:=E;have K:=K6 h l[k]<|Zt v;have F:=g1.a;rw[←E]at hi j s qm;obtain⟨A,B⟩:∃A,A=(Lib.itoa 2++[10])++Qf (Un 2 (l.take k) 0):=⟨_,rfl⟩;obtain⟨w,hw⟩:∃w,w=Nx 2 l[k] d.2.2.1:=⟨_,rfl⟩;rw[←hw]at hi j s qm;have y:VD l 2=A++(w++10::vt):=by rw[E0,s,B];simp only[m7]
 rw[←m7,←B]at j qm;rw[Zs,sc,gg hi]at qm;have b:i<R w:=by
  rcases w7 i (R w) with q|q
  ·exact q
  exfalso;refine M ?_;have b:i=R w:=I
  subst b;simp only[y,qm];rw[ge I];simp
 have x:(VD l 2)[c]=w[i]:=by
  simp only[y,qm];rw[ge I];simp only[H3];exact ip b
 rw[x]at m;have N:(VD l 2).drop (c+1)=w.drop (i+1)++10::vt:=by
  rw[y,qm,lh,List.drop_length_add_append,fx I]
 have p:((VD l 2).take c++[o])++(VD l 2).drop (c+1)=(Lib.itoa 2++[10])++(Qf (Un 2 (l.take k) 0)++(w.set i o++10::vt)):=by
  rw[j,N,B,ii,Zn b];simp
 have r:R ((VD l 2).take c++[o]++(VD l 2).drop (c+1))<=60000:=by
  have:=(DJ (f:=2) (.inr rfl) h).2;simp only[Zs,sc,vd,tt,aυ];omega
 have g:(10:UInt8)∉w.set i o:=λe=>by
  rcases aξ e with e|e
  ·exact fS (f:=2) (a:=d.2.2.1) K F<|hw▸e
  rw[←e]at t;exact absurd t.1 C
 have u:¬iZ 2 d (w.set i o++[10]):=by
  subst hw;exact spoil_no F b t m
 rw[gv (.inr rfl) (Ur h).1 p r];have D:Nb 2 (Ay n) (Tv<|Qf (Un 2 (l.take k) 0)++(w.set i o++10::vt))=Nb 2 d (Tv<|w.set i o++10::vt):=D _;obtain⟨H,G⟩:=off_2 (L:=Tv vt) u;rw[D,vB g,H,G,g2,P];rfl
def DD:Q7 prog 6 [.agg n.cs,.sl<|l.map Entry.cs,bv a]<|.bool true:=by
 refine cT func6 O λN=>?_
 refine ro 9 O<|kc (S.Xo top_awake N call28 .none O .nil O)<|kc (S.not .none O<|zt O)<|rr 9 O<|kc (zK (tK (n:=n)) call9 O)<|kc (S.not .none O<|zt O)<|jm O<|RK.split (t:=32) O (λg32=>?_) λg32=>?_
 ·refine rr 18 O (kR O O ?_)
  first|rfl|simp
 refine kc (S.move (zg O O) O<|zt O)<|kc (S.call (C2 (l:=l)) call10 (zg O O) O (zc O .nil) O)<|kc (S.not (zg O O) O<|zt O)<|rr 2 O<|RK.split (t:=37) O (λg37=>?_) λg37=>?_
 ·refine rr 13 O (kR O O ?_)
  first|rfl|simp
 have hfe:NK n=true:=by simpa using g32
 have K:Xv l=true:=by simpa using g37
 obtain⟨hl1,hl2⟩:=mN hfe;obtain⟨hll,hlt⟩:=dz K;have d:∀y∈l,R y.text<=100000:=λy J=>by have:=hlt y J;omega
 refine rr 2 O<|kc (S.call (G9 (n:=n) (l:=l) I d) call11 (zg O O) O (zc O<|zc O .nil) O) ?_;refine rr 4 O<|kB O (λc42=>?_) λc42=>?_
 ·refine ro 5 O (kR O O ?_)
  first|rfl|simp
 have h0:(Z2 n l).2.2=0:=Zu.1 c42;have p:∀x∈l,R x.OR<=1000/\R x.text<=1000:=λy J=>by have:=K6 h0 y J;have h1:=this.by12;have h2:=this.text;omega
 obtain⟨hj2,hj6⟩:=DJ (f:=2) (.inr rfl) h0;have hJ:hU n l 2=((VD l 2),0):=Zm (Zp<|by rw[jrnE_v h0];rfl);have W:(hU n l 2).1=(VD l 2):=rn Prod.fst hJ;have V:(hU n l 2).2=0:=rn Prod.snd hJ;refine ro 5 O<|kc (zK (Tj (n:=n) I) call13 O)<|jm O<|kc (zK (S8 (l:=l) I) call14 O)<|kc (S.Xo (CD (n:=n) (l:=l) (f:=2) I (An d) I p) N call26 .none O (zc O<|zc O<|zD O) O) ?_;refine rr 9 O ?_;rw[W,V];refine ro 4 O<|RK.ZS (t:=53) O (λg53=>?_) λg53=>?_
 ·exact absurd rfl g53
 refine rr 6 O<|kB O (λc57=>?_) λc57=>?_
 ·exfalso;omega
 refine Ro 8 O I<|kc (zK (gQ (a:=a) (m:=((R (VD l 2):Int) - 1)) I) call27 O) ?_;refine kc (S.add .none O (.Zg O) (zt O) (mn _<|by have Q:=bδ a (show(0:Int)<((R (VD l 2):Int) - 1)by omega);have P:=fv a (show(0:Int)<((R (VD l 2):Int) - 1)by omega);split<;>omega)<|mn _<|by have Q:=bδ a (show(0:Int)<((R (VD l 2):Int) - 1)by omega);have P:=fv a (show(0:Int)<((R (VD l 2):Int) - 1)by omega);split<;>omega) ?_;refine rr 4 O ?_;have Q:=bδ a (show(0:Int)<((R (VD l 2):Int) - 1)by omega);have P:=fv a (show(0:Int)<((R (VD l 2):Int) - 1)by omega);obtain⟨c,hc⟩:∃c:Nat,2+(if a.tmod ((R (VD l 2):Int) - 1)<0 then a.tmod ((R (VD l 2):Int) - 1)+((R (VD l 2):Int) - 1)else a.tmod ((R (VD l 2):Int) - 1))=(c:Int):=⟨(2+(if a.tmod ((R (VD l 2):Int) - 1)<0 then a.tmod ((R (VD l 2):Int) - 1)+((R (VD l 2):Int) - 1)else a.tmod ((R (VD l 2):Int) - 1))).toNat,by split<;>omega⟩;have T:2<=c/\c<=R (VD l 2):=by split at hc<;>omega
 rw[hc];obtain⟨k,z,hk,hs,hz,hR,hcz⟩:=cut_law (.inr rfl) h0 T.1 T.2;have hR1:(Qr n<|(VD l 2).take c).1=l.take k:=rn Prod.fst hR;have hR2:(Qr n<|(VD l 2).take c).2.1=2+(R (Qf<|Un 2 (l.take k) 0):Int):=rn (λz=>z.2.1) hR;have hR3:(Qr n<|(VD l 2).take c).2.2=0:=rn (λz=>z.2.2) hR;have K:=rn List.length hs;rw[sc,Zs,Ap (f:=2)<|.inr rfl,Zs]at K;refine kV (.c (zL Pn O O O O)<|.c (zK (Tj (n:=n) I) call13 O)<|.c (zm O)<|.c (zm O)<|.c (S.VI (hi:=c) (l':=(VD l 2).take c) W6 .none O (zt O) (.inl ⟨O,O,O⟩) (.inr ⟨_,_,O,(zt O),O⟩) I I<|by rw[aα])<|.c (S.Xo (My (n:=n) (s:=(VD l 2).take c) I<|by rw[sc];omega) N call21 .none O (zc O<|zc O .nil) O)<|.c (zm O)<|.c (zX O O O)<|.c (zX O O O)<|.c (zX O O O)<|.c (za O)<|.c (za O)<|.c (za O) .nil) ?_;refine rd 3 O ?_;rw[hR1,hR2,hR3];refine ro 4 O<|RK.ZS (t:=76) O (λZ=>?_) λZ=>?_
 ·exact absurd rfl Z
 refine kc (S.move (zg O O) O<|zt O)<|kc (S.OF Vy (zg O O) O<|zt O)<|kc (S.move (zg O O) O<|zt O)<|kc (S.OF Vy (zg O O) O<|zt O)<|rr 3 O<|RK.ZS (t:=83) O (λY=>?_) λY=>?_
 ·exfalso;rw[sc]at Y;omega
 refine rr 5 O<|RK.ZS (t:=88) O (λg88=>?_) λg88=>?_
 ·exfalso;omega
 refine rr 3 O<|kc (S.OF Vy (zg O O) O<|zt O) ?_;refine kc (S.slice (hi:=k) (l':=l.take k) Vy (λ_=>O) (zg O O) O (zt O) (.inl ⟨O,O,O⟩) (.inr ⟨_,_,O,(zt O),(by rw[sc];omega)⟩) I I<|by rw[aα]) ?_;refine kc (S.call (Mz (a:=l.take k) (b:=l.take k)) call25 (zg O O) O (zc O<|zc O .nil) O)<|kc (S.Xb (zg O O) O<|zt O)<|rr 3 O<|kB O (λc96=>?_) λc96=>?_
 ·exact absurd rfl c96
 refine ro 5 O ?_;refine kc (zK (S8 (l:=l.take k)<|by rw[sc];omega) call14 O) ?_;refine rr 7 O<|kc (zk Vy O)<|rr 4 O ?_;refine OK.loop (G:=Nat) [3] (λi=>[(1,.sl<|l.map Entry.cs),(3,.ptr 3 0),(1003,.box n.cs),(7,.str<|VD l 2),(9,bv (c:Int)),(10,.sl<|(l.take k).map Entry.cs),(11,bv<|2+(R (Qf<|Un 2 (l.take k) 0):Int)),(13,.sl<|(l.take i).map Entry.cs),(14,bv i)]) (λi=>k<=i/\i<=R l) (λi=>R l - i) k ⟨Zq _,hk⟩ ⟨O,O,O,O,O,O,O,O,(OT<|by rw[sc];omega),Zo⟩ (λ_=>O) ?_;rintro i ⟨hki,hi⟩;refine ro 5 O<|kc (zk Vy O)<|rr 3 O<|kB O (λc104=>?_) λc104=>?_
 ·have L:i<R l:=by omega
  obtain⟨X,hE2⟩:=ent_on h0 L;have hA:=appT_2 X;rw[←mv L]at hA;refine ro 5 O ?_;refine kV (.c (zL Pn O O O O)<|.c (zK (Tj (n:=n) I) call13 O)<|.c (zm O)<|.c (zK (S8 (l:=l.take i)<|by rw[sc];omega) call14 O)<|.c (zm O)<|.c (zm O)<|.c (zI Vy O I O)<|.c (S.Vj CK .none O (zt O) O O)<|.c (S.Xo (f_ (n:=n) (l:=l.take i) (x:=l[i]) I (by rw[sc];omega) (λy J=>d y<|eν J)<|d _<|Zt L) N call29 .none O (zc O<|zc O<|zc O .nil) O)<|.c (zm O)<|.c (zX O O O)<|.c (zX O O O)<|.c (za O)<|.c (za O) .nil) ?_;refine rd 3 O ?_;rw[hA,X];refine ro 4 O<|RK.ZS (t:=121) O (λB=>?_) λB=>?_
  ·exact absurd rfl B
  refine kc (S.move (zg O O) O<|zt O)<|kc (S.OF Vy (zg O O) O<|zt O)<|kc (S.move (zg O O) O<|zt O)<|kc (S.OF Vy (zg O O) O<|zt O) ?_;refine kc (S.add (zg O O) O (zt O) (.Zg O) (mn _<|by rw[sc];omega)<|mn _<|by rw[sc];omega) ?_;refine rr 4 O<|kB O (λH=>?_) λH=>?_
  ·exfalso;rw[sc,sc]at H;omega
  refine ro 4 O ?_;refine kc (zK (S8 (l:=l.take<|i+1)<|by rw[sc];omega) call14 O) ?_;refine Rr 9 O I (Ab.D.lp ⟨i+1,⟨by omega,by omega⟩,I,O,O,O,O,O,O,O,O,O,Zo⟩)
 obtain rfl:i=R l:=by omega
 rw[List.take_length];refine ro 5 O<|kc (zK (Tj (n:=n) I) call13 O)<|jm O<|kc (zK (S8 (l:=l) I) call14 O)<|kc (S.Xo (CD (n:=n) (l:=l) (f:=2) I (An d) I p) N call26 .none O (zc O<|zc O<|zD O) O) ?_;refine rr 8 O ?_;rw[W,V];refine ro 2 O<|kc (zK (Tj (n:=n) I) call13 O)<|jm O ?_;refine kc (zK (S8 (l:=l.take k)<|by rw[sc];omega) call14 O) ?_;refine jm O<|kc (zK (S8 (l:=l) I) call14 O)<|kc (S.Xo (aa (n:=n) (a:=l.take k) (b:=l) I (λy J=>d y<|eν J) d) N call30 .none O (zc O<|zc O<|zc O .nil) O) ?_;refine rr 11 O ?_;obtain⟨q1,_⟩:=merge_half h0 hk;have ht0:=UP h0 k;have e1:dA n (l.take k) l=0:=(mgdE_2 ht0).trans h0;have f1:mgdT n (l.take k) l=(l,[]):=(Zm<|Zp e1).trans q1;have f11:(mgdT n (l.take k) l).1=l:=by rw[f1]
 have f12:(mgdT n (l.take k) l).2=[]:=by rw[f1]
 rw[f11,f12,e1];refine ro 4 O<|RK.ZS (t:=152) O (λA=>?_) λA=>?_
 ·exact absurd rfl A
 refine rr 5 O<|RK.ZS (t:=157) O (λw=>?_) λw=>?_
 ·exact absurd rfl w
 refine rr 4 O<|RK.ZS (t:=161) O (λv=>?_) λv=>?_
 ·exact absurd rfl v
 refine kc (S.move (zg O O) O<|zt O)<|kc (S.OF Rh (zg O O) O<|zt O)<|rr 3 O<|RK.ZS (t:=166) O (λu=>?_) λu=>?_
 ·exact absurd rfl u
 refine rr 2 O<|kc (S.call (Mz (a:=l) (b:=l)) call25 (zg O O) O (zc O<|zc O .nil) O)<|kc (S.Xb (zg O O) O<|zt O)<|rr 3 O<|kB O (λF=>?_) λF=>?_
 ·exact absurd rfl F
 refine ro 10 O<|RK.ZS (t:=176) O (λg176=>?_) λg176=>?_
 ·refine rr 13 O (kR O O ?_)
  first|rfl|simp
 have M:c<R (VD l 2):=by omega
 refine rr 2 O<|kc (S.Xc (n:=c) W6 (zg O O) O (zt O) (zt O) O M)<|rr 4 O<|kB O (λE=>?_) λE=>?_
 ·refine ro 5 O (kR O O ?_)
  first|rfl|simp
 have U:(VD l 2)[c]≠10:=λe=>E (by rw[e];rfl)
 refine ro 7 O ?_;refine OK.join (G:=UInt8) [3] (λo=>[(1,.sl<|l.map Entry.cs),(3,.ptr 3 0),(1003,.box n.cs),(7,.str<|VD l 2),(9,bv (c:Int)),(10,.sl<|(l.take k).map Entry.cs),(11,bv<|2+(R (Qf<|Un 2 (l.take k) 0):Int)),(22,.int .u8 (o.toNat:Int))]) (λo=>125<=o.toNat/\o.toNat<=126/\(VD l 2)[c]≠o) (λ_=>O) ?_ ?_
 ·refine ro 4 O<|kc (S.Xc (n:=c) W6 .none O (zt O) (zt O) O M)<|rr 4 O<|kB O (λg=>?_) λg=>?_
  ·have j:(VD l 2)[c]≠(125:UInt8):=λe=>by rw[e]at g;exact absurd g C
   refine ro 3 O (Ab.D.lp ⟨(125:UInt8),⟨C,C,by first|exact j|exact h⟩,O,O,O,O,O,O,O,O,Zo⟩)
  have h:(VD l 2)[c]≠(126:UInt8):=λe=>g (by rw[e];rfl)
  refine OK.skip (Ab.D.lp ⟨(126:UInt8),⟨C,C,by first|exact j|exact h⟩,O,O,O,O,O,O,O,O,Zo⟩)
 rintro o ⟨ho1,ho2,hco⟩;have he:Utf8.encode (o.toNat:Int)=⟨#[o]⟩:=by
  rcases(show o.toNat=125\/o.toNat=126 by omega)with e|e
  ·obtain rfl:o=125:=cω.1 e;decide+kernel
  obtain rfl:o=126:=cω.1 e;decide+kernel
 refine kO ?_;refine kV (.c (zm O)<|.c (zm O)<|.c (S.VI (hi:=c) (l':=(VD l 2).take c) W6 .none O (zt O) (.inl ⟨O,O,O⟩) (.inr ⟨_,_,O,(zt O),O⟩) I I<|by rw[aα])<|.c (zm O)<|.c (S.convR .none O (zt O) underlying5 underlying9 he)<|.c (S.sJ .none O (zt O) (zt O)<|by simp;omega)<|.c (zm O)<|.c (zm O)<|.c (zp O O I)<|.c (S.VI (lo:=c+1) (l':=(VD l 2).drop<|c+1) W6 .none O (zt O) (.inr ⟨_,_,O,(zt O),O⟩) (.inl ⟨O,O,O⟩) I I<|by rw[List.take_length])<|.c (S.sJ .none O (zt O) (zt O)<|by simp;omega)<|.c (za O) .nil) ?_;refine rd 4 O<|kc (zK (Tj (n:=n) I) call13 O)<|jm O ?_;refine kc (S.Xo (My (n:=n) (s:=(((VD l 2).take c++[o])++(VD l 2).drop (c+1))) I<|by simp;omega) N call21 .none O (zc O<|zc O .nil) O) ?_;refine rr 10 O ?_;have hS:=spoil_law h0 M U ⟨ho1,ho2⟩ hco hs hcz;have hS1:(Qr n (((VD l 2).take c++[o])++(VD l 2).drop (c+1))).1=l.take k:=rn Prod.fst hS;have hS2:(Qr n (((VD l 2).take c++[o])++(VD l 2).drop (c+1))).2.1=2+(R (Qf<|Un 2 (l.take k) 0):Int):=rn (λz=>z.2.1) hS;have hS3:(Qr n (((VD l 2).take c++[o])++(VD l 2).drop (c+1))).2.2=0:=rn (λz=>z.2.2) hS;rw[hS1,hS2,hS3];refine ro 4 O<|RK.ZS (t:=208) O (λr=>?_) λr=>?_
 ·refine kc (S.move (zg O O) O<|zt O)<|kc (S.OF Vy (zg O O) O<|zt O)<|kc (S.move (zg O O) O<|zt O)<|kc (S.OF Vy (zg O O) O<|zt O)<|rr 3 O<|RK.ZS (t:=215) O (λq=>?_) λq=>?_
  ·refine rr 7 O (kR O O ?_)
   first|rfl|simp
  exact absurd rfl q
 exact absurd rfl r
