import Derived.Test.YtlmhpcghgjdjjaaGreatDoorUdH
set_option linter.all false
set_option maxHeartbeats 2000000
open List renaming length->R
namespace Go.Proofs.Z_
open Go.Ab Tryz
set_option maxRecDepth 9999
def YF(l:List Ze)(i:Nat)(p:Ze):Int:=ZW [Z8 (YA p.name) 4,Z8 (decide<|¬(p.name∈(l.take i).map Ze.name)) 5,Z8 (decide<|0<=p.role/\p.role<=4) 15]
def UZ(n:Net):Int:=ZW [Z8 (decide ((R n.ZU:Int)>0)) 10,Z8 (decide ((R n.ZU:Int)<=8)) 8]
def UI(n:Net):Bool:=decide (0<=n.limit/\n.limit<=2000)&&(decide (0<=n.lo/\n.lo<=10000)&&decide (0<=n.hi/\n.hi<=10000))
def OL(n:Net):Int:=ZW [(ZO n.plan).2,Z8 (UI n) 2,Z8 (decide<|n.lo<=n.hi) 9]
variable{n:Net}
def size_le(h:UZ n=0):(R n.ZU:Int)<=8:=by
 unfold UZ at h;by_cases a:(R n.ZU:Int)<=8
 ·exact a
 exfalso;rw[Zy a]at h;cases b:decide ((R n.ZU:Int)>0)<;>rw[b]at h<;>exact absurd h C
def U4(n:Net):Int×Int:=if UZ n≠0 then(0,UZ n)else if(ZP (YF n.ZU) 0 n.ZU).2≠0 then ZP (YF n.ZU) 0 n.ZU else(0,OL n)
def Net.zero:Net:=⟨[],[],0,0,0⟩
def M9(n:Net):Net×Zf:=if UZ n≠0\/(ZP (YF n.ZU) 0 n.ZU).2≠0 then(Net.zero,⟨[],0⟩)else(n,(ZO n.plan).1)
theorem Im(h:UZ n≠0):U4 n=(0,UZ n)/\M9 n=(Net.zero,⟨[],0⟩):=by unfold U4 M9;simp_all
theorem D_(h:UZ n=0)(a:(ZP (YF n.ZU) 0 n.ZU).2≠0):U4 n=ZP (YF n.ZU) 0 n.ZU/\M9 n=(Net.zero,⟨[],0⟩):=by unfold U4 M9;simp_all
theorem Ea(h:UZ n=0)(a:(ZP (YF n.ZU) 0 n.ZU).2=0):U4 n=(0,OL n)/\M9 n=(n,(ZO n.plan).1):=by
 unfold U4 M9;simp_all
def J6(h:(U4 n).2=0):M9 n=(n,(ZO n.plan).1)/\(ZO n.plan).2=0:=by
 by_cases c:UZ n=0
 ·by_cases b:(ZP (YF n.ZU) 0 n.ZU).2=0
  ·obtain⟨e,d⟩:=Ea c b;rw[e]at h;refine⟨d,?_⟩;have a:OL n=0:=h;unfold OL at a;rw[ZW]at a;omega
  simp_all[D_]
 simp_all[Im]
theorem Bz(h:(U4 n).2=0):OL n=0:=by
 grind [Ea,D_,Im]
def fY(h:(U4 n).2=0):Ka n:=by
 have b:=Bz h;have c:=(J6 h).2;unfold OL at b;rw[c,ZW,Zm C]at b;cases a:UI n with
 |false=>simp_all[ZW,Z8]
 |true=>
  unfold UI at a;rw[Zw,Zw]at a;exact⟨pf a.2.1,pf a.2.2⟩
theorem Sx{l:ba}(h:(ZO l).2=0):Y_ (ZO l).1=0:=by
 unfold ZO at h⊢;grind
variable{i:Nat}
def Ag{l:List Ze}(h:i<R l):(l.take<|i+1).map Ze.name=(l.take i).map Ze.name++[l[i].name]:=by rw[mv h,ne];rfl
def Z6.init(n:Net)(p:Zf):Z6:=⟨n,p,[],[],[],[],⟨0,0,[]⟩,false,0,0⟩
def HA.init(b:Nat)(n:Net)(p:Zf):HA:=⟨b,n,p,none,[],none,[],none,[],none,[],⟨0,0,[]⟩,false,0,0⟩
def HA.nG(b:Nat)(n:Net)(p:Zf):(HM.set (λ_:Key=>none) .Y1<|some (b,.box (HA.init b n p).cs))=(HA.init b n p).mem:=by
 funext k;cases k with
 |Y1=>rfl
 |v i=>rfl
 |c i=>rfl
 |p i=>rfl
 |f i=>rfl
 |e i=>rfl
 |_=>rfl
def HA.iq(b:Nat)(n:Net)(p:Zf):(HA.init b n p).Ok 0:=
 ⟨λ_=>rfl,λ_=>rfl,λ_=>rfl,λ_=>rfl,(λv h=>by cases h),(λv h=>by cases h),C,(by show(0:Int)<=0/\(0:Int)<=60;decide),Int.le_refl _,Int.le_refl _,Int.le_refl _,Int.le_refl _,(λv h=>by cases h),(λv h=>by cases h),(λv h=>by cases h),(λv h=>by cases h),(λv h=>by cases h),(λv h=>by cases h),(λv h=>by cases h),(λv h=>by cases h),(λv h=>by cases h)⟩
def runT:Z6->Nat->List Entry->Z6×Int×Int
 |H,_,[]=>(H,0,0)
 |H,i,x::l=>if(Za H x).2≠0 then((Za H x).1,(i:Int),(Za H x).2)else runT (Za H x).1 (i+1) l
def L_(n:Net)(l:List Entry):Int:=ZW [(U4 n).2,Z8 (decide ((R l:Int)<=60)) 8]
def Z2(n:Net)(l:List Entry):Z6×Int×Int:=if L_ n l≠0 then(Z6.init n (ZO n.plan).1,0,L_ n l)else runT (Z6.init n (ZO n.plan).1) 0 l
variable{l:List Entry}
def bB(h:L_ n l=0):(U4 n).2=0/\(R l:Int)<=60:=by
 unfold L_ at h;rw[ZW]at h;by_cases b:(U4 n).2=0
 ·rw[Zm I,ZW]at h;refine⟨b,?_⟩;by_cases a:(R l:Int)<=60
  ·exact a
  rw[Zy a]at h;exact absurd h C
 omega
variable{H:Z6}
def F9(h:i<R l):runT H i (l.drop i)=if(Za H l[i]).2≠0 then((Za H l[i]).1,(i:Int),(Za H l[i]).2)else runT (Za H l[i]).1 (i+1) (l.drop<|i+1):=by
 rw[np h,runT]
theorem UY(H:Z6)(x:Entry):(Za H x).1.plan=H.plan/\(Za H x).1.XR=H.XR:=by
 have a:∀(n:Int)(f:Z6->Nat->HE),(∀i,(f H i).1.plan=H.plan/\(f H i).1.XR=H.XR)->(YJ H n f).1.plan=H.plan/\(YJ H n f).1.XR=H.XR:=λn f b=>by
  unfold YJ;split
  ·simp
  rename_i i _;split
  ·exact b i
  grind
 have c:∀k L,(WQ k H L).1.plan=H.plan/\(WQ k H L).1.XR=H.XR:=by
  intro k L;unfold WQ;split
  ·simp
  ·unfold W_;grind
  ·unfold Yl;repeat' split
   all_goals exact⟨rfl,rfl⟩
  ·unfold Sz;split<;>exact⟨rfl,rfl⟩
  ·exact a _ _ λi=>by unfold Wi;split<;>exact⟨rfl,rfl⟩
  ·exact a _ _ λi=>by unfold Tu;split<;>exact⟨rfl,rfl⟩
  ·unfold Tw;grind
  ·unfold XZ;grind
  ·exact a _ _ λi=>by unfold WU;split<;>exact⟨rfl,rfl⟩
  ·refine a _ _ λi=>?_
   unfold Xz;dsimp only
   repeat' split
   all_goals exact⟨rfl,rfl⟩
  ·unfold XX;grind
  ·exact a _ _ λi=>by unfold Xe;grind
  unfold Wo;grind
 unfold Za;grind
def cE(e:Int)(b:Nat):Value:=if e=0 then pV b else .pointer none
variable{e:Int}
def qA{b:Nat}(h:e≠0):cE e b=.pointer none:=Zm h
def Jm{b:Nat}(h:e=0):cE e b=pV b:=Zn h
def N6(l:List Entry):Prop:=∀x∈l,R x.text<=100000/\∀k,X2 (ZQ 32 x.text).1=some k->Tl k
def Mf(e:Int)(H:Z6)(A:HA):bm:=λh Y w=>e=0->(A.Ok 400/\A.plain=H)/\Z9 A.mem h Y w
def Mf.ZV(e:Int)(H:Z6)(A:HA):Y2<|Mf e H A:=λh o Y w m a l g f d c b=>⟨(a b).1,Z9.ZV A.mem _ _ _ _ _ (a b).2 l g f d c⟩
def Mf.mono{e:Int}{H:Z6}{A:HA}:∀h Y d w,Mf e H A h Y w->(∀b,Y b->d b)->Mf e H A h d w:=λ_ _ _ _ a f c=>⟨(a c).1,(a c).2.mono f⟩
def OK.Ld{E:Env}{U:bc}{s:St}{code:Code}{Q:bo}{A:HA}(d:e=0)(c:Ab.look s 3000=some (.res<|Mf e H A))(h:A.Ok 400->A.plain=H->OK E code Q U ((3000,.res<|Z9 A.mem)::s)):OK E code Q U s:=
 OK.EC (p:=A.Ok 400/\A.plain=H) c (λ_ _ _ a=>(a d).1) λb=>OK.YS c (Z9.ZV _) (λ_ _ _ a=>(a d).2)<|h b.1 b.2
variable{p:Ze}
theorem yZ{l:List Ze}(h:YF l i p=0):p.name∉(l.take i).map Ze.name:=by
 unfold YF at h;intro a;rw[Zy<|Zp a]at h;grind [ZW,Z8]
def lkMap{a b:List ba}(h:a=b):some (X.omap<|QN<|IZ a)=some (X.omap<|QN<|IZ b):=by rw[h]
def Cy(h:i<R l)(a:(Za H l[i]).2≠0):runT H i (l.drop i)=((Za H l[i]).1,(i:Int),(Za H l[i]).2):=by rw[F9 h,Zn a]
def xm(h:i<R l)(a:(Za H l[i]).2=0):runT H i (l.drop i)=runT (Za H l[i]).1 (i+1) (l.drop<|i+1):=by simp_all[F9]
def Wm(n:Net)(l:List Entry)(num:Int):Int:=if(Z2 n l).2.2≠0 then(Z2 n l).2.2 else J9 num ((Z2 n l).1.U1 num).isSome
def Mg(n:Net)(l:List Entry)(num:Int)(A:HA):Value:=if(Z2 n l).2.2=0 then Iw A.pb (ix (λv=>decide<|v.p.num=num) A.parts)else .pointer none
def F1{n:Int}:Ct prog 140 [bv n]<|.bool<|decide<|0<=n/\n<=10000:=by
 refine cI func140 O<|ro 8 O<|kc (zK XL call97 O)<|rr 3 O<|kR O O ?_;rfl
def sE(A:R n.plan<=1000):Q7 prog 101 [.agg n.cs]<|.Yy [.agg<|(M9 n).1.cs++(M9 n).2.cs,bv (U4 n).1,bv (U4 n).2]:=by
 refine cT func101 O λy=>?_
 refine ro 10 O ?_;refine kV (.c (zf NL O)<|.c (zl CG O O O O)<|.c (zk RL O)<|.c (S.gtr .none O (zt O)<|.Zg O)<|.c (zK ZT call96 O)<|.c (zf NL O)<|.c (zl CG O O O O)<|.c (zk RL O)<|.c (S.leq .none O (zt O)<|.Zg O)<|.c (zK ZT call96 O)<|.c (zM [[_],[_]] Xk O O O O)<|.c (S.XY (YI (l:=[_,_])) call76 .none O (zc O .nil) (.cons (.p (.own O O) O) .nil) O)<|.c (za O) .nil) ?_;refine rd 7 O<|kB O (λq=>?_) λq=>?_
 ·have r:UZ n≠0:=q;obtain⟨g,m⟩:=Im r;refine kr<|kc (zU AT O O)<|rr 6 O<|OK.ret<|Y3.r3 (.XU O O O O Nc O<|.k .ZM<|.k (.same O)<|.k (.same O)<|.k (.same O)<|.k (.same O)<|.k .ZM<|.k (.same O) .z) (zo O O) (zo O O) ?_;rw[g,m];rfl
 have r:UZ n=0:=Zu.1 q;have x:=size_le r;refine ro 4 O<|RK.c (S.Bu (k:=30) O .none O)<|rr 8 O<|kc (zk RL O)<|rr 4 O ?_;refine OK.loop (G:=Nat) [1,2,30] (λi=>[(1,.ptr 1 0),(1001,.box n.cs),(2,.ptr 2 0),(1002,.box [.ZM,.str [],bv 0,bv 0,bv 0,.ZM,bv 0]),(6,.QS 30),(1030,.omap<|QN<|IZ<|(n.ZU.take i).map Ze.name),(32,.sl<|n.ZU.map Ze.cs),(33,bv<|R n.ZU),(34,bv i)]) (λi=>i<=R n.ZU/\ZP (YF n.ZU) 0 n.ZU=ZP (YF n.ZU) i (n.ZU.drop i)) (λi=>R n.ZU - i) 0 ⟨Zr _,O⟩ ⟨O,O,O,O,O,O,O,O,O,Zo⟩ (λ_=>O) ?_;rintro i ⟨hi,v⟩;refine ro 6 O<|kB O (λw=>?_) λw=>?_
 ·have h:i<R n.ZU:=by omega
  refine ro 7 O<|kc (zI RL O I O) ?_;refine rr 7 O ?_;refine kV (.c (zf Mx O)<|.c (zl T6 O O O O)<|.c (zK QX call138 O)<|.c (zK ZT call96 O)<|.c (zm O)<|.c (zf Mx O)<|.c (zl T6 O O O O)<|.c (S.iD (ks:=(n.ZU.take i).map Ze.name) underlying238 underlying9 zeroValue4 O .none O (zt O) (zt O) O O)<|.c (S.Xb .none O<|zt O)<|.c (zK ZT call96 O)<|.c (zf Dz O)<|.c (zl YK O O O O)<|.c (zK XL call97 O)<|.c (zK ZT call96 O)<|.c (zM [[_],[_],[_]] Xk O O O O)<|.c (S.XY (YI (l:=[_,_,_])) call76 .none O (zc O .nil) (.cons (.p (.own O O) O) .nil) O)<|.c (za O) .nil) ?_;refine rd 8 O<|kB O (λo=>?_) λo=>?_
  ·have d:YF n.ZU i n.ZU[i]≠0:=o;have f:ZP (YF n.ZU) 0 n.ZU=((i:Int),YF n.ZU i n.ZU[i]):=by rw[v,Zd _ h,Zn d]
   obtain⟨g,m⟩:=D_ r (by rw[f];exact d);rw[f]at g;refine kr<|kc (zU AT O O)<|rr 7 O<|OK.ret<|Y3.r3 (.XU O O O O Nc O<|.k .ZM<|.k (.same O)<|.k (.same O)<|.k (.same O)<|.k (.same O)<|.k .ZM<|.k (.same O) .z) (zo O O) (zo O O) ?_;rw[g,m];rfl
  have d:YF n.ZU i n.ZU[i]=0:=Zu.1 o;have s:n.ZU[i].name∉(n.ZU.take i).map Ze.name:=yZ d;refine ro 6 O<|kc (S.jK (ks:=(n.ZU.take i).map Ze.name) underlying238 underlying9 .none (zt O) (zt O) .Wx O O s)<|Rr 7 O I ?_;refine Ab.D.lp ⟨i+1,⟨by omega,by rw[v,Zd _ h,Zm<|by rw[d];decide]⟩,I,O,O,O,O,O,(lkMap<|by rw[Ag h]),O,O,O,Zo⟩
 refine ro 3 O ?_;have u:i=R n.ZU:=by omega
 have f:(ZP (YF n.ZU) 0 n.ZU).2=0:=by rw[v,u,da];rfl
 obtain⟨g,m⟩:=Ea r f;refine ro 3 O<|kc (S.Xo (GH (l:=n.plan) I) y call139 .none O (zc O .nil) O) ?_;refine rr 10 O<|kc (S.assign .none O .Nt)<|rr 6 O<|kc (zK XL call97 O)<|jm O<|RK.ZS (t:=73) O (λa=>?_) λa=>?_
 ·refine rr 4 O<|kc (S.Tm F1 call140 (zg O O) O (zt O) (zc O .nil) O O O)<|rr 2 O<|RK.ZS (t:=80) O (λb=>?_) λb=>?_
  ·refine rr 4 O<|kc (S.Tm F1 call140 (zg O O) O (zt O) (zc O .nil) O O O)<|rr 5 O ?_;refine kV (.c (zL Pn O O O O)<|.c (zL Qo O O O O)<|.c (zU AT O O)<|.c (zm O)<|.c (zm O)<|.c (zK ZT call96 O)<|.c (zf SJ O)<|.c (zf UT O)<|.c (zl YK O O O O)<|.c (zf SJ O)<|.c (zf TI O)<|.c (zl YK O O O O)<|.c (S.leq .none O (zt O)<|zt O)<|.c (zK ZT call96 O)<|.c (zM [[_],[_],[_]] Xk O O O O)<|.c (S.XY (YI (l:=[_,_,_])) call76 .none O (zc O .nil) (.cons (.p (.own O O) O) .nil) O)<|.c (zS Nc O O O O O O)<|.c (zi O O)<|.c (za O) .nil)<|Ab.D.code<|OK.ret<|Y3.r3 (zy O O Nc O) (zo O O) (zo O O) ?_;rw[g,m];refine rn (λe=>X.Yy [.agg<|n.cs++(ZO n.plan).1.cs,bv 0,bv e]) ?_;unfold OL UI
   first|(rw[Zz a,Zz b,tn,tn];done)|(rw[Zz a,Zy b,tn,tp];done)|(rw[Zy a,tp];done)
  refine rr 10 O ?_;refine kV (.c (zL Pn O O O O)<|.c (zL Qo O O O O)<|.c (zU AT O O)<|.c (zm O)<|.c (zm O)<|.c (zK ZT call96 O)<|.c (zf SJ O)<|.c (zf UT O)<|.c (zl YK O O O O)<|.c (zf SJ O)<|.c (zf TI O)<|.c (zl YK O O O O)<|.c (S.leq .none O (zt O)<|zt O)<|.c (zK ZT call96 O)<|.c (zM [[_],[_],[_]] Xk O O O O)<|.c (S.XY (YI (l:=[_,_,_])) call76 .none O (zc O .nil) (.cons (.p (.own O O) O) .nil) O)<|.c (zS Nc O O O O O O)<|.c (zi O O)<|.c (za O) .nil)<|Ab.D.code<|OK.ret<|Y3.r3 (zy O O Nc O) (zo O O) (zo O O) ?_;rw[g,m];refine rn (λe=>X.Yy [.agg<|n.cs++(ZO n.plan).1.cs,bv 0,bv e]) ?_;unfold OL UI
  first|(rw[Zz a,Zz b,tn,tn];done)|(rw[Zz a,Zy b,tn,tp];done)|(rw[Zy a,tp];done)
 refine rr 17 O ?_;refine kV (.c (zL Pn O O O O)<|.c (zL Qo O O O O)<|.c (zU AT O O)<|.c (zm O)<|.c (zm O)<|.c (zK ZT call96 O)<|.c (zf SJ O)<|.c (zf UT O)<|.c (zl YK O O O O)<|.c (zf SJ O)<|.c (zf TI O)<|.c (zl YK O O O O)<|.c (S.leq .none O (zt O)<|zt O)<|.c (zK ZT call96 O)<|.c (zM [[_],[_],[_]] Xk O O O O)<|.c (S.XY (YI (l:=[_,_,_])) call76 .none O (zc O .nil) (.cons (.p (.own O O) O) .nil) O)<|.c (zS Nc O O O O O O)<|.c (zi O O)<|.c (za O) .nil)<|Ab.D.code<|OK.ret<|Y3.r3 (zy O O Nc O) (zo O O) (zo O O) ?_;rw[g,m];refine rn (λe=>X.Yy [.agg<|n.cs++(ZO n.plan).1.cs,bv 0,bv e]) ?_;unfold OL UI
 first|(rw[Zz a,Zz b,tn,tn];done)|(rw[Zz a,Zy b,tn,tp];done)|(rw[Zy a,tp];done)
def R2(V:R n.plan<=1000)(U:N6 l):C0 prog 64 [.agg n.cs,.sl<|l.map Entry.cs] (λA:HA=>.Yy [.raw<|cE (Z2 n l).2.2 A.b,bv (Z2 n l).2.1,bv (Z2 n l).2.2]) (λA:HA=>Mf (Z2 n l).2.2 (Z2 n l).1 A):=by
 refine C0.intro (rs:=[.tmp 4,.tmp 5,.tmp 6]) func64 rfl ntmps64 results64 rfl rfl rfl λw h a=>?_
 refine OK.OC Key<|OK.XF (rows:=l.map Entry.cs) (t:=1) O O λhlen=>?_;rw[Zx]at hlen;unfold maxLen at hlen;have K:L_ n l≠0->Z2 n l=(Z6.init n (ZO n.plan).1,0,L_ n l):=λh=>by unfold Z2;rw[Zn h]
 have J:L_ n l=0->Z2 n l=runT (Z6.init n (ZO n.plan).1) 0 l:=λh=>by unfold Z2;rw[Zm<|by rw[h];decide]
 refine ro 3 O<|kc (S.assign .none O .Re)<|rr 7 O<|kc (S.Xo (sE I) a call101 .none O (zc O .nil) O) ?_;refine rr 15 O<|kc (zk Vy O)<|kc (S.leq .none O (zt O)<|.Zg O)<|kc (zK ZT call96 O) ?_;refine RK.c (zM [[_],[_]] Xk O O O O)<|kc (S.XY (YI (l:=[_,_])) call76 .none O (zc O .nil) (.cons (.p (.own O O) O) .nil) O) ?_;refine rr 9 O<|kB O (λf=>?_) λf=>?_
 ·have g:L_ n l≠0:=f;have a:=K g;refine ro 3 O<|kc (S.assign .none O .Re)<|rr 4 O ?_;refine OK.YS (J':=Mf (Z2 n l).2.2 (Z2 n l).1<|HA.init 0 n (ZO n.plan).1) O (Mf.ZV _ _ _) (λh Y w r x=>absurd x<|by rw[a];exact g) ?_;refine OK.ret ⟨(HA.init 0 n (ZO n.plan).1),Y3.r3 (zo O O) (zo O O) (zo O O) ?_,O⟩;rw[a];dsimp only;rw[qA g]
  try rfl
 have g:L_ n l=0:=Zu.1 f;have T:=J g;obtain⟨u,v⟩:=bB g;obtain⟨Q,L⟩:=J6 u;rw[Q];refine ro 5 O<|kc (zU bu144 O O)<|RK.c (S.j8 (k:=32) O .none O (zt O) O)<|rr 5 O<|OK.hboxC 10 .Y1 (cells':=(HA.init 0 n (ZO n.plan).1).cs) O O O ⟨.inl ⟨O,O⟩,.inl ⟨O,O⟩,.inl ⟨O,O⟩,.inl ⟨O,O⟩,.inl ⟨O,O⟩,.inl ⟨O,O⟩,.inl ⟨O,O⟩,.inl ⟨O,O⟩,.inl ⟨O,O⟩,.inl ⟨O,O⟩,.inl ⟨O,O⟩,.inl ⟨O,O⟩,.inl ⟨O,O⟩,.inr ⟨O,O⟩,.inl ⟨O,O⟩,.inl ⟨O,O⟩,.inl ⟨O,O⟩,Zo⟩ O λb=>?_;refine OK.YS (J':=JX b (Z6.init n (ZO n.plan).1)<|2 * ((0:Nat):Int)) O (JX.ZV _ _ _) (λh Y w r=>⟨HA.init b n (ZO n.plan).1,⟨O,O,HA.iq _ _ _⟩,by rw[←HA.nG];exact r⟩) ?_;refine OK.R3<|jm O<|kc (zk Vy O)<|rr 4 O ?_;refine OK.We [] (λ(i:Nat)(H:Z6)=>[(10,.raw<|pV b),(33,.sl<|l.map Entry.cs),(34,bv<|R l),(35,bv i),(3000,.res<|JX b H<|2 * (i:Int))]) (λi H=>i<=R l/\Z2 n l=runT H i (l.drop i)/\Y_ H.plan=0/\Ka H.XR) (λi H=>R l - i) 0 ((Z6.init n (ZO n.plan).1)) ⟨Zr _,T,Sx L,fY u⟩ ⟨O,O,O,O,O,Zo⟩ (λ_ _=>O) ?_;rintro i H ⟨hi,E,o,s⟩;refine ro 6 O<|kB O (λM=>?_) λM=>?_
 ·have e:i<R l:=by omega
  obtain⟨z,y⟩:=U _<|Zt e;refine ro 7 O<|kc (zI Vy O I O) ?_;refine rr 7 O<|OK.rV O λA P B C=>?_;subst P;subst B;refine ro 3 O ?_;refine RK.c (S.VO (((Au C I o s z y).Tq a<|Z9.ZV _)) (JX.ZV _ _ _) call78 .none O (zc O<|zc O .nil) O O) ?_;refine rr 9 O<|kB O (λd=>?_) λd=>?_
  ·have a:=E.trans<|Cy e d;refine ro 4 O<|kc (S.assign .none O .Re)<|rr 4 O ?_;refine OK.YS (J':=Mf (Z2 n l).2.2 (Z2 n l).1<|HA.init 0 n (ZO n.plan).1) O (Mf.ZV _ _ _) (λh Y w r x=>absurd x<|by rw[a];exact d) ?_;refine OK.ret ⟨(HA.init 0 n (ZO n.plan).1),Y3.r3 (zo O O) (zo O O) (zo O O) ?_,O⟩;rw[a];dsimp only;rw[qA d]
   try rfl
  have F:=Zu.1 d;refine Ro 7 O I ?_;refine Ab.D.lp ⟨i+1,(Za A.plain l[i]).1,⟨by omega,by rw[E,xm e F],by rw[(UY _ _).1];exact o,by rw[(UY _ _).2];exact s⟩,I,O,O,O,O,(OB<|by rw[show 2 * ((i+1:Nat):Int)=2 * (i:Int)+2 by omega]),Zo⟩
 have a:Z2 n l=(H,0,0):=by rw[E,show i=R l by omega,da];rfl
 refine ro 10 O<|OK.rV O λN G m q=>?_;subst G;refine OK.YS (J':=Mf (Z2 n l).2.2 (Z2 n l).1 N) O (Mf.ZV _ _ _) (λh Y w r x=>⟨⟨q.more I I,by rw[a];exact m⟩,r⟩) ?_;refine OK.ret ⟨N,Y3.r3 (zo O O) (zo O O) (zo O O) ?_,O⟩;rw[a];dsimp only;rw[Jm rfl]
 try rfl
def CZ{num:Int}(g:R n.plan<=1000)(r:N6 l):C0 prog 62 [.agg n.cs,.sl<|l.map Entry.cs,bv num] (λA:HA=>.Yy [.raw<|Mg n l num A,bv<|Wm n l num]) (λA:HA=>Mf (Z2 n l).2.2 (Z2 n l).1 A):=by
 refine C0.intro (rs:=[.tmp 6,.tmp 7]) func62 rfl ntmps62 results62 rfl rfl rfl λw h o=>?_
 refine ro 3 O<|kc (S.assign .none O .Re)<|rr 7 O ?_;refine RK.Ng (((R2 g r).at o)) (λ_=>Mf.ZV _ _ _) (λ_=>Mf.mono) call64 O (zc O<|zc O .nil) O λA=>?_
 refine rr 16 O<|kB O (λb=>?_) λb=>?_
 ·refine ro 3 O<|kc (S.assign .none O .Re)<|rr 3 O<|OK.ret ⟨A,Y3.r2 (zo O O) (zo O O) ?_,O⟩;unfold Mg Wm;dsimp only;rw[Zm b,Zn b]
  try rfl
 have a:(Z2 n l).2.2=0:=Zu.1 b;refine ro 3 O<|OK.Ld a O λd c=>?_;rw[Jm a];have e:A.plain.U1 num=ix (λv=>decide<|v.p.num=num) A.parts:=HA.TR A num;refine ro 3 O<|kc (S.Wc ((λJ f q=>(B8 d f q).Tq f)) call100 .none O (zc O<|zc O .nil) O O) ?_;refine rr 6 O ?_;refine OK.YS (J':=Mf (Z2 n l).2.2 (Z2 n l).1 A) O (Mf.ZV _ _ _) (λh Y w m s=>⟨⟨d,c⟩,m⟩) ?_;refine OK.ret ⟨A,Y3.r2 (zo O O) (zo O O) ?_,O⟩;unfold Mg Wm;dsimp only;rw[Zn a,Zm (by rw[a];decide),←c,e]
 try rfl
theorem NA:∀(n:Nat)(l:bc),l.Nodup->(∀x∈l,x<n)->R l<=n
 |0,l,_,h=>by
  cases l with
  |nil=>simp
  |cons x l=>exact absurd (h x rv)<|bπ _
 |n+1,l,hn,h=>by
  have b:=NA n (l.erase n) (hn.erase n) λx a=>by
   grind
  grind
def EY{pl:Zf}{l:List Frame}(m:Y_ pl=0)(h:Hj pl l):R l<=12:=by
 have g:=X_ m;have q:=NA 12 (l.map λf=>f.tick.toNat) (by
  rw[List.nodup_iff_pairwise_ne,List.pairwise_map,aπ];intro i j hi c o e;have a:=(VM<|h.1 _<|Zt hi).1;have b:=(VM<|h.1 _<|Zt c).1;exact absurd (h.2 i j _ _ (Zv hi) (Zv c) I) I) λx d=>by
  obtain⟨f,p,rfl⟩:=rx.1 d;have a:=(VM<|h.1 f p).1;omega
 simp_all
theorem jV{t n:Int}(h:0<=t)(a:2 * t<n):XI t n=0:=Zn ⟨h,by
 grind⟩
def tP{r:ZG}(h:r.rows.all (λx=>x.known)=true):R (P7 r)=0:=by
 have key:∀(l:List Row)(k:Nat),(l.all λx=>x.known)=true->Vf k l=[]:=by
  intro l
  induction l with
  |nil=>intro k _;rfl
  |cons x l a=>
   simp_all[Vf]
 simp_all[P7]
def OD{l:bd}(h:e≠0):ZW (e::l)=e:=by rw[ZW,Zn h]
theorem N8(l:bd):ZW (0::l)=ZW l:=by rfl
def UB(e:Int)(l:bd):ZW (Z8 true e::l)=ZW l:=N8 l
theorem Rf(h:e≠0)(l:bd):ZW (Z8 false e::l)=e:=OD h
theorem tY(H:Z6)(i j:Nat):((H.Yz i).p j).num=(H.p j).num:=by
 grind [Z6.p,Z6.Yz]
theorem yP(H:Z6)(i:Nat):(H.Yz i).st=H.st.Yz i:=by
 show State.mk _ _ _ _ _=State.mk _ _ _ _ _;congr 1
 ·show(H.parts.map _).map _=(H.parts.map _).map _;rw[ae,ae];refine aβ λq _=>?_
  simp only[Function.comp,Uq];grind
 exact aβ λj _=>tY H i j
structure HS(H:Z6):Prop where
 inv:rZ H
 nd:H.Z3.Nodup
 EV:kY H
 pl:Y_ H.plan=0
 fr:∀q∈H.parts,Hj H.plan q.1.frames
 ju:∀q∈H.parts,q.1.place=0->q.1.WD=false
 wh:∀i∈H.Z3,(H.p i).place≠0/\WX H.plan (H.p i)=true
 lrn:H.YX=decide (0<H.env.rows.length)
 env:0<H.env.rows.length->(Ve H.plan H.env).2=0
 rc:∀q∈H.ZF,sj 6 q.1.phases
 lf:∀q∈H.Z5,q.1.Wb<=1000
section
variable{H:Z6}{i:Nat}
theorem Qp{q:Part×bd}(h:H.parts[i]?=some q):H.p i=q.1:=by simp_all[Z6.p]
theorem HS.good(h:HS H):H.st.Good H.plan:=by
 have m:=h.inv.lc;have l:=h.inv.lp;have g:=h.inv.lv;refine⟨⟨?_,?_,?_,?_,?_,λi hi=>?_,λp b=>?_,λr d=>?_,λc s=>?_⟩,λp b=>?_,λp b h0=>?_,h.env,h.pl⟩
 ·show(R<|H.ZF.map _)<=_;grind
 ·show(R<|H.Z5.map _)<=_;simp_all
 ·show(R<|H.parts.map _)<=_;grind
 ·show(R<|H.Z3.map _)<=_;rw[Zx];have:=NA _ _ h.nd h.inv.Z3;omega
 ·show R H.env.rows<=_;by_cases e:0<R H.env.rows
  ·have:=(Nk<|h.env e).2.2.1;have:=X_ h.pl;omega
  omega
 ·have hi:i<R H.env.rows:=hi;have:=((Nk<|h.env I).2.2.2 i hi).1;have:=X_ h.pl;show R H.env.rows[i]<=_;omega
 ·obtain⟨q,a,rfl⟩:=rx.1 b;refine⟨by have:=EY h.pl<|h.fr q a;omega,λf o=>?_⟩;have:=(VM<|(h.fr q a).1 f o).2;have:=X_ h.pl;omega
 ·obtain⟨q,a,rfl⟩:=rx.1 d;exact h.rc q a
 ·obtain⟨q,a,rfl⟩:=rx.1 s;have:=h.inv.ZA q a;have:=h.lf q a;omega
 ·obtain⟨q,a,rfl⟩:=rx.1 b;exact⟨h.fr q a,by have:=EY h.pl<|h.fr q a;omega⟩
 obtain⟨q,a,rfl⟩:=rx.1 b;exact h.ju q a h0
theorem HS.U1(h:HS H)(hi:i<R H.parts):H.st.U1 (H.p i).num=some i:=by
 rw[C6];cases e:H.U1 (H.p i).num with
 |none=>
  have:=(T9 _ _ 0).1 e _<|Zt hi;rw[Qp<|Zv hi]at this;simp_all
 |some j=>
  obtain⟨a,c⟩:=Y8 e;have b:(H.p j).num=(H.p i).num:=by rw[Qp<|Zv a];simp_all
  rw[h.EV j i a hi b]
def HS.mods(h:HS H):H.st.j3 H.plan:=λm a=>by
 obtain⟨i,hi,rfl⟩:=rx.1 a;exact⟨i,h.U1<|h.inv.Z3 i hi,by rw[Uq];exact(h.wh i hi).2⟩
theorem uM(hi:rZ H)(name rest:ba):((XX H name rest).1.st,(XX H name rest).2)=Ex H.st name rest:=by
 unfold XX Ex;dsimp only;have e:R H.st.ZJ=R H.ZF:=Zx ..;rw[e,←vu hi.YD];cases f:YA name
 ·simp
 simp only[Bool.true_eq_false,if_false];have a:=hi.lv;by_cases d:(VJ rest).2=0
 ·rw[d,N8,Zm (c:=(0:Int)≠0) λh=>h rfl];by_cases b:R H.ZF=6
  ·simp_all[Rf]
  rw[Zz I,UB,Zm (c:=ZW []≠0) λh=>h rfl,Zm b];refine rn (λq=>(q,(0:Int))) ?_;show State.mk ((H.ZF++[_]).map _) _ _ _ _=State.mk _ _ _ _ _;rw[ne];congr 1;congr 1;grind
 simp_all[OD]
def HS.XE(h:HS H):H.st.XE H.plan=H.XE:=by
 show(H.Z3.map λi=>(H.p i).num).map _=H.Z3.map _;rw[ae];refine aβ λi hi=>?_
 have h0:=h.inv.Z3 i hi;show V1 H.plan (H.st.R1 (H.p i).num).frames=WG H.plan (H.p i).frames;unfold State.R1;rw[h.U1 h0,Option.getD_some,Uq];have b:=Qp<|Zv h0;have a:=h.fr _<|Zt h0;rw[b];exact(NB<|Hj.rec h.pl a<|by have:=EY h.pl a;omega).symm
def HS.qb(h:HS H)(h0:R H.XE≠0):Wu H.plan H.XE=0:=by
 have g:R H.XE=R H.Z3:=Zx ..;have f:=NA _ _ h.nd h.inv.Z3;have d:=h.inv.lp;unfold Wu;rw[Zm h0,Zm I];refine Lt _ _ 0 λk l=>?_
 have a:k<R H.Z3:=I
 have e:H.XE[k]=WG H.plan (H.p H.Z3[k]).frames:=bκ ..;have hi:=h.inv.Z3 _<|Zt a;have c:=Qp<|Zv hi;have b:=h.fr _<|Zt hi;have hw:=(h.wh _<|Zt a).2;rw[e];unfold WX at hw;rw[c]at hw⊢;rw[NB<|Hj.rec h.pl b<|by have:=EY h.pl b;omega]at hw⊢;unfold TT;rw[Zm (by rw[(Nr h.pl b.1).1];decide),Zn<|tP hw]
theorem nP(h:HS H){n:Int}(f:0<=n):((Wo H n).1.st,(Wo H n).2)=yM H.plan H.st n:=by
 unfold Wo yM;rw[h.XE];have o:Wr H.plan H.XE n=if Wu H.plan H.XE≠0 then Wu H.plan H.XE else XI n (R H.XE):=by
  unfold Wr Vo;rw[Zm (c:=Y_ H.plan≠0) λe=>e h.pl]
 by_cases h0:R H.XE=0
 ·simp_all[Wu]
 rw[Zm h0];have m:=h.qb h0;have b:Wr H.plan H.XE n=XI n (R H.XE):=I
 by_cases a:XI n (R H.XE)=0
 ·have l:=Pk I a;rw[b,a,Zn rfl,Zm I];refine rn (λq=>(q,(0:Int))) ?_;show State.mk _ _ _ _ _=State.mk _ _ _ _ _;congr 1;exact Zn<|b.trans a
 have d:=xK a;rw[b,d,Zm C];by_cases g:2 * n>=R H.XE
 all_goals simp_all[jV]
theorem jJ(H:Z6)(e:H.XR=n)(rest:ba)(i:Nat):((Xz rest H i).1.st,(Xz rest H i).2)=Qx n rest H.st i:=by
 subst e;unfold Xz Qx;rw[Uq];by_cases c:(H.p i).place≠1
 ·simp_all
 rw[Zm c,Zm c];by_cases b:(Y9 rest).2≠0
 ·simp_all
 rw[Zm b,Zm b];dsimp only;by_cases a:(Y6 (Y9 rest).1 H.XR.limit).2≠0
 ·simp_all
 rw[Zm a,Zm a];refine rn (λq=>(q,(0:Int))) ?_;have d:H.outside (Y6 (Y9 rest).1 H.XR.limit).1=KC H.XR (Y6 (Y9 rest).1 H.XR.limit).1:=by
  simp[Z6.outside,KC]
 rw[d];split
 ·rw[yP];exact rn (λs:State=>s.Yz i)<|Q1 H i λ_=>rfl
 exact Q1 H i λ_=>rfl
end
def kZ(pl:Zf)(p a:Part):Prop:=a.num=p.num/\Hj pl a.frames/\(a.place=0->a.WD=false)/\(p.place≠0->a.place≠0/\a.frames=p.frames)
variable{j:Nat}
section
variable{H H':Z6}{i j:Nat}
def HS.keep(h:HS H)(a:j<R H.parts):kZ H.plan (H.p j)<|H.p j:=by
 have b:=Qp<|Zv a;rw[b];exact⟨rfl,h.fr _<|Zt a,h.ju _<|Zt a,λe=>⟨e,rfl⟩⟩
theorem HS.re(h:HS H)(u:H'.ZF=H.ZF)(t:H'.Z5=H.Z5)(s:H'.Z3=H.Z3)(v:H'.env=H.env)(x:H'.YX=H.YX)(r:H'.plan=H.plan)(w:0<=H'.entries)(o:R H'.parts=R H.parts)(d:∀j,j<R H.parts->kZ H.plan (H.p j) (H'.p j)):HS H':=by
 have f:∀q∈H'.parts,∃j,j<R H.parts/\H'.p j=q.1:=λq f=>by
  obtain⟨j,g,rfl⟩:=dl f;grind [Qp]
 refine⟨⟨?_,?_,?_,?_,?_,w,?_⟩,?_,λa b c m e=>?_,?_,λq l=>?_,λq l=>?_,λa c=>?_,?_,?_,?_,?_⟩
 ·rw[u];exact h.inv.YD
 ·rw[t];exact h.inv.ZA
 ·rw[o];exact h.inv.lp
 ·rw[t];exact h.inv.lc
 ·rw[u];exact h.inv.lv
 ·rw[s,o];exact h.inv.Z3
 ·rw[s];exact h.nd
 ·rw[o]at c m;exact h.EV a b c m (by rw[←(d a c).1,←(d b m).1,e])
 ·rw[r];exact h.pl
 ·obtain⟨j,g,e⟩:=f q l;rw[r,←e];exact(d j g).2.1
 ·obtain⟨j,g,e⟩:=f q l;rw[←e];exact(d j g).2.2.1
 ·rw[s]at c;obtain⟨y,B⟩:=h.wh a c;obtain⟨A,z⟩:=(d a<|h.inv.Z3 a c).2.2.2 y;simp_all[WX]
 ·rw[v,x];exact h.lrn
 ·rw[v,r];exact h.env
 ·rw[u];exact h.rc
 rw[t];exact h.lf
theorem xR(H:Z6)(i:Nat)(f:Part->Part)(a:j<R H.parts):(H.Zh i f).p j=if i=j then f (H.p j)else H.p j:=by
 grind [Z6.p,Z6.Zh]
theorem HS.Zh(h:HS H){f:Part->Part}(b:i<R H.parts->kZ H.plan (H.p i) (f<|H.p i)):HS<|H.Zh i f:=by
 refine h.re rfl rfl rfl rfl rfl rfl h.inv.sw (aμ ..) λj a=>?_
 rw[xR H i f a];split
 ·simp_all
 exact h.keep a
def HS.WT(h:HS H):HS<|H.WT i:=by
 refine h.re rfl rfl rfl rfl rfl rfl h.inv.sw (aμ ..) λj a=>?_
 rw[Jl];exact h.keep a
theorem HS.Yz(h:HS H):HS<|H.Yz i:=by
 refine h.re rfl rfl rfl rfl rfl rfl h.inv.sw (Zx ..) λj a=>?_
 have k:=h.keep a;have e:(H.Yz i).p j=H.p j\/(H.Yz i).p j={H.p j with marked:=true}:=by
  unfold Z6.p Z6.Yz;grind
 rcases e with e|e
 ·grind
 rw[e];exact⟨k.1,k.2.1,k.2.2.1,k.2.2.2⟩
def HS.tick(h:HS H)(t:Int):HS {H with time:=t,entries:=H.entries+1}:=
 h.re rfl rfl rfl rfl rfl rfl (by have:=h.inv.sw;show 0<=H.entries+1;omega) rfl λj a=>h.keep a
def HS.about(h:HS H){n:Int}{f:Z6->Nat->HE}(a:∀i,i<R H.parts->HS (f H i).1):HS (YJ H n f).1:=by
 unfold YJ;cases e:H.U1 n with
 |none=>exact h
 |some i=>
  have k:=a i (Y8 e).1;dsimp only;split
  ·exact k.WT
  exact k
def HS.good_(h:HS H)(hi:i<R H.parts):HS (Wi H i).1:=by
 unfold Wi;split
 ·exact h.Zh (f:=λp=>{p with place:=2}) λhi=>by have k:=h.keep hi;exact⟨rfl,k.2.1,Z,λe=>⟨Z,rfl⟩⟩
 exact h
def HS.bad_(h:HS H)(hi:i<R H.parts):HS (Tu H i).1:=by
 unfold Tu;split
 ·exact h.Zh (f:=λp=>{p with place:=3}) λhi=>by have k:=h.keep hi;exact⟨rfl,k.2.1,Z,λe=>⟨Z,rfl⟩⟩
 exact h
def HS.mark_(h:HS H)(hi:i<R H.parts):HS (WU H i).1:=by
 unfold WU;split
 ·exact h.Zh (f:=λp=>{p with marked:=true}) λhi=>by have k:=h.keep hi;exact⟨rfl,k.2.1,k.2.2.1,k.2.2.2⟩
 exact h
def HS.sect_(h:HS H)(rest:ba)(hi:i<R H.parts):HS (Xz rest H i).1:=by
 unfold Xz;dsimp only;split
 ·exact h
 split
 ·exact h
 split
 ·exact h
 have k:HS<|H.Zh i λp=>{p with place:=4,depth:=(Y6 (Y9 rest).1 H.XR.limit).1}:=h.Zh λhi=>by have k:=h.keep hi;exact⟨rfl,k.2.1,Z,λe=>⟨Z,rfl⟩⟩
 dsimp only;split
 ·exact k.Yz
 exact k
def HS.end_(h:HS H):HS (Sz H).1:=by
 unfold Sz;cases e:H.Tk with
 |none=>exact h
 |some i=>exact(h.Zh λhi=>by have k:=h.keep hi;exact⟨rfl,k.2.1,Z,λe=>⟨Z,rfl⟩⟩).WT
theorem HS.aQ(h:HS H)(f:Frame)(r:Int):HS (Yl H f r).1:=by
 unfold Yl;cases e:H.Tk with
 |none=>exact h
 |some i=>
  dsimp only;split
  ·exact h
  split
  ·exact h
  rename_i u;obtain⟨hi,c⟩:=Y8 e;have h0:(H.p i).place=0:=by rw[Qp<|Zv hi];simp_all
  cases t:(H.p i).frames.find? (λg=>decide<|g.tick=f.tick)with
  |none=>
   refine(h.Zh λhi=>?_).WT;have k:=h.keep hi;refine⟨rfl,⟨λg c=>?_,λa b x y l q e=>?_⟩,k.2.2.1,λe=>absurd h0 e⟩
   ·rcases List.mem_append.1 c with c|c
    ·exact k.2.1.1 g c
    simp_all
   have s:∀g∈(H.p i).frames,g.tick≠f.tick:=λg c=>by
    simp_all
   have d:∀{a:Nat}{x:Frame},((H.p i).frames++[f])[a]?=some x->(H.p i).frames[a]?=some x\/a=R (H.p i).frames/\x=f:=λ{a x} l=>by
    grind
   rcases d l with o|⟨o,w⟩<;>rcases d q with m|⟨m,v⟩
   ·exact k.2.1.2 a b x y o m e
   all_goals grind
  |some g=>
   dsimp only;split
   ·exact h.WT
   exact h
theorem HS.bG(h:HS H)(hi:i<R H.parts):HS (Xe H i).1:=by
 unfold Xe;dsimp only;split
 case isFalse=>exact h
 case isTrue h0=>
  have a:(H.p i).place≠0/\WX H.plan (H.p i)=true/\H.Z3.contains i=false:=by
   grind [ZW,Z8]
  refine⟨⟨h.inv.YD,h.inv.ZA,h.inv.lp,h.inv.lc,h.inv.lv,h.inv.sw,λm b=>?_⟩,?_,h.EV,h.pl,h.fr,h.ju,λm b=>?_,h.lrn,h.env,h.rc,h.lf⟩
  ·rcases List.mem_append.1 b with b|b
   ·exact h.inv.Z3 m b
   simp_all
  ·refine List.nodup_append.2 ⟨h.nd,F,λx d y c e=>?_⟩;simp_all
  rcases List.mem_append.1 b with b|b
  ·exact h.wh m b
  rw[pi.1 b];exact⟨a.1,a.2.1⟩
def HS.ym(h:HS H){l:List<|XA×Int}(b:R l<=4)(hs:∀q∈l,0<=q.1.ZA/\q.1.ZA<=q.1.Wb/\q.1.Wb<=1000):HS {H with Z5:=l}:=
 ⟨⟨h.inv.YD,λq a=>⟨(hs q a).1,(hs q a).2.1⟩,h.inv.lp,b,h.inv.lv,h.inv.sw,h.inv.Z3⟩,h.nd,h.EV,h.pl,h.fr,h.ju,h.wh,h.lrn,h.env,h.rc,λq a=>(hs q a).2.2⟩
def HS.cl(h:HS H):∀q∈H.Z5,0<=q.1.ZA/\q.1.ZA<=q.1.Wb/\q.1.Wb<=1000:=λq a=>⟨(h.inv.ZA q a).1,(h.inv.ZA q a).2,h.lf q a⟩
def Nj{α:Type}{P:α->Prop}{l:List α}{f:α->α}(h:∀x∈l,P x)(c:∀d:j<R l,P<|f l[j]):∀x∈l.modify j f,P x:=λx b=>by
 obtain⟨k,a,rfl⟩:=dl b;rw[List.getElem_modify];rw[aμ]at a;split
 ·rename_i e;subst e;exact c a
 exact h _<|Zt a
theorem HS.coil_(h:HS H)(name:ba)(Wb:Int):HS (Tw H name Wb).1:=by
 unfold Tw;dsimp only;split
 case isFalse=>exact h
 case isTrue h0=>
  have a:(1<=Wb/\Wb<=1000)/\(R H.Z5:Int)<4:=by
   refine⟨Fe h0 rfl,?_⟩;grind [ZW,Z8]
  refine h.ym (by grind) λq b=>?_
  rcases List.mem_append.1 b with b|b
  ·exact h.cl q b
  grind
theorem HS.jC(h:HS H)(name:ba):HS (XZ H name).1:=by
 unfold XZ;split
 ·exact h
 split
 ·exact h
 refine h.ym (by rw[aμ];exact h.inv.lc)<|Nj h.cl λa=>?_;have:=h.cl _<|Zt a;grind
theorem HS.dm(h:HS H)(n:Int)(r c:ba):HS (W_ H n r c).1:=by
 by_cases y:ZW [Z8 (decide<|n<=1000000) 2,Z8 (H.U1 n).isNone 5,Z8 ((H.AI r).isSome&&(H.Ob c).isSome) 6,Z8 H.Tk.isNone 17]=0
 case neg=>rw[OG rfl y];exact h
 obtain⟨_,B,A,_⟩:=G2 y;rw[Zw]at A;obtain⟨k,C⟩:=sk.1 A.1;obtain⟨j,t⟩:=sk.1 A.2;have w:=(VK C).1;have x:=(Y8 t).1;rw[Lf y C (Zv w) t<|Zv x];split
 ·exact h
 rename_i J;obtain⟨E,D⟩:=sA<|Zu.1 J;have E:=pf E;have D:=pf D;have z:HS {H with Z5:=H.Z5.modify j λq=>({q.1 with ZA:=q.1.ZA+1},q.2)}:=by
  refine h.ym (by rw[aμ];exact h.inv.lc)<|Nj h.cl λt=>?_;have:=h.cl _<|Zt t;grind
 have F:=dρ.1 B;have d:∀a,a<R H.parts->∀q:Part×bd,(Z6.p {H with parts:=H.parts++[q]} a)=H.p a:=λa u q=>by
  simp_all[Z6.p,m6]
 have hnew:∀q:Part×bd,Z6.p {H with parts:=H.parts++[q]} (R H.parts)=q.1:=λq=>by
  simp[Z6.p]
 have o:∀a,a<R H.parts->(H.p a).num≠n:=λa u e=>by
  have:=(T9 _ _ 0).1 F _<|Zt u;grind [Qp]
 refine⟨⟨h.inv.YD,z.inv.ZA,?_,z.inv.lc,h.inv.lv,h.inv.sw,λm s=>?_⟩,h.nd,λa b u G e=>?_,h.pl,λq f=>?_,λq f=>?_,λm s=>?_,h.lrn,h.env,h.rc,z.lf⟩
 ·grind
 ·have:=h.inv.Z3 m s;grind
 ·rw[Zs,R0]at u G;rcases w7 a (R H.parts) with l|l<;>rcases w7 b (R H.parts) with g|g
  ·exact h.EV a b l g<|(rn Part.num<|d a l _).symm.trans<|e.trans<|rn Part.num<|d b g _
  ·have K:b=R H.parts:=I
   subst K;exact absurd ((rn Part.num<|d a l _).symm.trans<|e.trans<|rn Part.num<|hnew _)<|o a l
  ·have L:a=R H.parts:=I
   subst L;exact absurd ((rn Part.num<|d b g _).symm.trans<|e.symm.trans<|rn Part.num<|hnew _)<|o b g
  omega
 ·rcases List.mem_append.1 f with f|f
  ·exact h.fr q f
  rw[pi.1 f];exact⟨(λ_ v=>by cases v),λ_ _ _ _ v=>by cases v⟩
 ·rcases List.mem_append.1 f with f|f
  ·exact h.ju q f
  simp_all
 have k:=h.wh m s;have e:=d m<|h.inv.Z3 m s;exact⟨λB=>k.1<|(rn Part.place<|e _).symm.trans B,(rn (WX H.plan)<|e _).trans k.2⟩
end
theorem sj.up:∀(d:Nat){l:List Ph},sj d l->sj (d+1) l
 |0,l,h=>by
  have h:l=[]:=h;subst h;exact⟨Zr _,λp a=>by cases a⟩
 |d+1,_,h=>⟨h.1,λp a=>sj.up d<|h.2 p a⟩
theorem w6:∀d,sj d []
 |0=>rfl
 |_+1=>⟨Zr _,λp a=>by cases a⟩
theorem cj:∀(m:Nat){l:List Ph},(YC (ZD m) l).2=0->sj (m+2) l:=by
 have key:∀(m:Nat){l:List Ph},(YC (ZD m) l).2=0->R l<=1000:=λm l h=>by
  grind [nQ]
 have body:∀{m:Nat}{p:Ph},ZD m p=0->p.kind≠5->p.body=[]:=λ{m p} h a=>by
  by_cases o:0<=p.kind/\p.kind<=5
  ·have c:RC p=0:=by
    grind [PO]
   have d:YE p=true:=by
    unfold RC at c;cases d:YE p
    ·rw[d]at c;cases c
    rfl
   simp_all[clean_eq]
  simp_all[LR]
 intro m
 induction m with
 |zero=>
  intro l h;refine⟨key 0 h,λp b=>?_⟩;by_cases a:p.kind=5
  ·obtain⟨_,f,e,_⟩:=SZ ((UE h).2 p b) a;omega
  grind [UE,w6]
 |succ m g=>
  intro l h;refine⟨key _ h,λp b=>?_⟩;by_cases a:p.kind=5
  ·obtain⟨_,f,e,q⟩:=SZ ((UE h).2 p b) a;simp_all
  grind [UE,w6]
theorem jr{s:ba}(h:(VJ s).2=0):sj 6 (VJ s).1:=by
 unfold VJ at h⊢;by_cases c:2000<R s
 ·simp_all
 rw[Zm c]at h⊢;dsimp only at h⊢;split at h
 ·cases h
 rename_i b;rw[Zm b];split at h
 ·omega
 rename_i a;rw[Zm a];grind [sj.up,cj,yh]
section
variable{H:Z6}{i j k:Nat}{n:Net}
theorem HS.jy(h:HS H)(name rest:ba):HS (XX H name rest).1:=by
 unfold XX;dsimp only;split
 ·exact h
 by_cases d:(VJ rest).2=0
 ·rw[d,N8];by_cases b:(R H.ZF:Int)<6
  ·rw[Zz b,UB,Zm (c:=ZW []≠0) λh=>h rfl];refine⟨⟨h.inv.YD.snoc ?_,h.inv.ZA,h.inv.lp,h.inv.lc,by grind,h.inv.sw,h.inv.Z3⟩,h.nd,h.EV,h.pl,h.fr,h.ju,h.wh,h.lrn,h.env,λq a=>?_,h.lf⟩
   ·dsimp only;cases e:H.AI name with
    |none=>rw[filter_none<|KJ e];rfl
    |some j=>
     obtain⟨q,g,_,f⟩:=Jh h.inv.YD e;simp_all
   rcases List.mem_append.1 a with a|a
   ·exact h.rc q a
   simp_all[jr]
  simp_all[Zy,Rf]
 simp_all[OD]
theorem HS.bw(h:HS H)(t:Int):HS (Wo H t).1:=by
 unfold Wo;split
 ·rename_i b;have e:PC H.plan H.XE t=OM H.plan H.XE t:=Zn b;have a:Wu H.plan H.XE=0/\XI t (R H.XE)=0:=by
   unfold Wr Vo at b;omega
  have c:=Bs (nO h.pl a.1) a.2;have d:=X_ h.pl;refine⟨⟨h.inv.YD,h.inv.ZA,h.inv.lp,h.inv.lc,h.inv.lv,h.inv.sw,h.inv.Z3⟩,h.nd,h.EV,h.pl,h.fr,h.ju,h.wh,?_,λ_=>?_,h.rc,h.lf⟩
  all_goals grind [Dx]
 exact h
def HS.rP(h:HS H)(k:Nat)(L:Sv):HS (WQ k H L).1:=by
 unfold WQ;split
 ·exact h
 ·exact h.dm ..
 ·exact h.aQ ..
 ·exact h.end_
 ·exact h.about λ_ hi=>h.good_ hi
 ·exact h.about λ_ hi=>h.bad_ hi
 ·exact h.coil_ ..
 ·exact h.jC ..
 ·exact h.about λ_ hi=>h.mark_ hi
 ·exact h.about λ_ hi=>h.sect_ _ hi
 ·exact h.jy ..
 ·exact h.about λ_ hi=>h.bG hi
 exact h.bw _
def HS.enter(h:HS H)(x:Entry):HS (Za H x).1:=by
 unfold Za;split
 ·exact h
 split
 ·split
  ·exact h
  dsimp only;split
  ·exact h.rP ..
  exact(h.rP ..).tick _
 exact h
def o9{m:Int}(h:H.U1 m=some i):i<R H.parts:=(Y8 h).1
def verb_ne{k:Nat}(b:k<13)(c:j<13)(h:k≠j):¬Z4.getD k []=Z4.getD j []:=λe=>h (by
 have a:=ve k b;rw[e,ve j c]at a;exact(aγ a).symm)
theorem As(t:ba):(Yn t).1.verb=(ZQ 32 t).1:=by
 grind [Yn]
def aD(h:HS H)(b:H.XR=n)(a:H.plan=(ZO n.plan).1)(d:k<13){L:Sv}(e:L.verb=Z4.getD k [])(h0:0<=L.num):((WQ k H L).1.st,(WQ k H L).2)=WY n H.st L:=by
 unfold WY;rw[e,←a]
 match k,d with
 |0,_=>rfl
 |1,_=>rw[Zm (c:=Z4.getD 1 []=Z4[0]) C,Zn (c:=Z4.getD 1 []=Z4[1]) rfl];exact q_ h.inv ..
 |2,_=>rw[Zm (c:=Z4.getD 2 []=Z4[0]) C,Zm (c:=Z4.getD 2 []=Z4[1]) C,Zn (c:=Z4.getD 2 []=Z4[2]) rfl];exact nk ..
 |3,_=>rw[Zm (c:=Z4.getD 3 []=Z4[0]) C,Zm (c:=Z4.getD 3 []=Z4[1]) C,Zm (c:=Z4.getD 3 []=Z4[2]) C,Zn (c:=Z4.getD 3 []=Z4[3]) rfl];exact(aG H).trans (by rw[h.lrn];rfl)
 |4,_=>rw[Zm (c:=Z4.getD 4 []=Z4[0]) C,Zm (c:=Z4.getD 4 []=Z4[1]) C,Zm (c:=Z4.getD 4 []=Z4[2]) C,Zm (c:=Z4.getD 4 []=Z4[3]) C,Zn (c:=Z4.getD 4 []=Z4[4]) rfl];exact Pu λi _=>ia H i
 |5,_=>rw[Zm (c:=Z4.getD 5 []=Z4[0]) C,Zm (c:=Z4.getD 5 []=Z4[1]) C,Zm (c:=Z4.getD 5 []=Z4[2]) C,Zm (c:=Z4.getD 5 []=Z4[3]) C,Zm (c:=Z4.getD 5 []=Z4[4]) C,Zn (c:=Z4.getD 5 []=Z4[5]) rfl];exact Pu λi _=>bad_st H i
 |6,_=>rw[Zm (c:=Z4.getD 6 []=Z4[0]) C,Zm (c:=Z4.getD 6 []=Z4[1]) C,Zm (c:=Z4.getD 6 []=Z4[2]) C,Zm (c:=Z4.getD 6 []=Z4[3]) C,Zm (c:=Z4.getD 6 []=Z4[4]) C,Zm (c:=Z4.getD 6 []=Z4[5]) C,Zn (c:=Z4.getD 6 []=Z4[6]) rfl];exact gr ..
 |7,_=>rw[Zm (c:=Z4.getD 7 []=Z4[0]) C,Zm (c:=Z4.getD 7 []=Z4[1]) C,Zm (c:=Z4.getD 7 []=Z4[2]) C,Zm (c:=Z4.getD 7 []=Z4[3]) C,Zm (c:=Z4.getD 7 []=Z4[4]) C,Zm (c:=Z4.getD 7 []=Z4[5]) C,Zm (c:=Z4.getD 7 []=Z4[6]) C,Zn (c:=Z4.getD 7 []=Z4[7]) rfl];exact uT ..
 |8,_=>rw[Zm (c:=Z4.getD 8 []=Z4[0]) C,Zm (c:=Z4.getD 8 []=Z4[1]) C,Zm (c:=Z4.getD 8 []=Z4[2]) C,Zm (c:=Z4.getD 8 []=Z4[3]) C,Zm (c:=Z4.getD 8 []=Z4[4]) C,Zm (c:=Z4.getD 8 []=Z4[5]) C,Zm (c:=Z4.getD 8 []=Z4[6]) C,Zm (c:=Z4.getD 8 []=Z4[7]) C,Zn (c:=Z4.getD 8 []=Z4[8]) rfl];exact Pu λi _=>iI H i
 |9,_=>rw[Zm (c:=Z4.getD 9 []=Z4[0]) C,Zm (c:=Z4.getD 9 []=Z4[1]) C,Zm (c:=Z4.getD 9 []=Z4[2]) C,Zm (c:=Z4.getD 9 []=Z4[3]) C,Zm (c:=Z4.getD 9 []=Z4[4]) C,Zm (c:=Z4.getD 9 []=Z4[5]) C,Zm (c:=Z4.getD 9 []=Z4[6]) C,Zm (c:=Z4.getD 9 []=Z4[7]) C,Zm (c:=Z4.getD 9 []=Z4[8]) C,Zn (c:=Z4.getD 9 []=Z4[9]) rfl];exact Pu λi _=>jJ H b L.rest i
 |10,_=>rw[Zm (c:=Z4.getD 10 []=Z4[0]) C,Zm (c:=Z4.getD 10 []=Z4[1]) C,Zm (c:=Z4.getD 10 []=Z4[2]) C,Zm (c:=Z4.getD 10 []=Z4[3]) C,Zm (c:=Z4.getD 10 []=Z4[4]) C,Zm (c:=Z4.getD 10 []=Z4[5]) C,Zm (c:=Z4.getD 10 []=Z4[6]) C,Zm (c:=Z4.getD 10 []=Z4[7]) C,Zm (c:=Z4.getD 10 []=Z4[8]) C,Zm (c:=Z4.getD 10 []=Z4[9]) C,Zn (c:=Z4.getD 10 []=Z4[10]) rfl];exact uM h.inv ..
 |11,_=>rw[Zm (c:=Z4.getD 11 []=Z4[0]) C,Zm (c:=Z4.getD 11 []=Z4[1]) C,Zm (c:=Z4.getD 11 []=Z4[2]) C,Zm (c:=Z4.getD 11 []=Z4[3]) C,Zm (c:=Z4.getD 11 []=Z4[4]) C,Zm (c:=Z4.getD 11 []=Z4[5]) C,Zm (c:=Z4.getD 11 []=Z4[6]) C,Zm (c:=Z4.getD 11 []=Z4[7]) C,Zm (c:=Z4.getD 11 []=Z4[8]) C,Zm (c:=Z4.getD 11 []=Z4[9]) C,Zm (c:=Z4.getD 11 []=Z4[10]) C,Zn (c:=Z4.getD 11 []=Z4[11]) rfl];exact Pu λi hi=>og h.inv h.EV<|o9 hi
 |12,_=>rw[Zm (c:=Z4.getD 12 []=Z4[0]) C,Zm (c:=Z4.getD 12 []=Z4[1]) C,Zm (c:=Z4.getD 12 []=Z4[2]) C,Zm (c:=Z4.getD 12 []=Z4[3]) C,Zm (c:=Z4.getD 12 []=Z4[4]) C,Zm (c:=Z4.getD 12 []=Z4[5]) C,Zm (c:=Z4.getD 12 []=Z4[6]) C,Zm (c:=Z4.getD 12 []=Z4[7]) C,Zm (c:=Z4.getD 12 []=Z4[8]) C,Zm (c:=Z4.getD 12 []=Z4[9]) C,Zm (c:=Z4.getD 12 []=Z4[10]) C,Zm (c:=Z4.getD 12 []=Z4[11]) C];exact nP h h0
theorem kj(h:HS H)(a:H.XR=n)(m:H.plan=(ZO n.plan).1)(x:Entry)(p:H.entries<60):((Za H x).1.st,(Za H x).2)=GA n H.st x H.time:=by
 unfold GA Za Z6.head;rw[Zz p,UB,a];cases v:Vp n x.OR with
 |none=>rfl
 |some i=>
  rw[Zm (c:=some i=none) Z,Option.isSome_some,UB];by_cases g:0<=x.at_/\x.at_<=1000000000000
  case neg=>simp_all[Zy,Rf]
  rw[Zz g,UB,Zm (c:=¬(0<=x.at_/\x.at_<=1000000000000))<|Zp g];by_cases t:x.at_<H.time
  case pos=>simp_all[Zy,Rf]
  rw[Zz (show x.at_>=H.time by omega),UB,Zm t];by_cases f:600<R x.text
  case pos=>rw[Zy (show¬(R x.text:Int)<=600 by omega),Rf C,Zn C,Zn f]
  rw[Zz (show(R x.text:Int)<=600 by omega),UB,Zm f];cases u:x.text.all X6 with
  |false=>rfl
  |true=>
   rw[UB,Zm (c:=true=false) Z];cases e:X2 (ZQ 32 x.text).1 with
   |none=>rfl
   |some k=>
    rw[Option.isSome_some,UB,Zm (c:=ZW []≠0) λh=>h rfl,Zm (c:=some k=none) Z];dsimp only;unfold Z6.tail;have l:Cw n x=(n.ZU[i]?.map Ze.role).getD 0:=by simp_all[Cw]
    rw[l,a,Option.getD_some,(text_eq e).1];by_cases s:(n.ZU[i]?.map Ze.role).getD 0<S2.getD k 0
    case pos=>simp_all[Zy,Rf]
    rw[Zz (show(n.ZU[i]?.map Ze.role).getD 0>=S2.getD k 0 by omega),UB,Zm s];cases r:(Yn x.text).2 with
    |false=>rfl
    |true=>
     rw[UB,Zm (c:=ZW []≠0) λh=>h rfl,Zm (c:=true=false) Z];obtain⟨o,b⟩:=Y8 e;have b:(ZQ 32 x.text).1=Z4.getD k []:=by simp_all
     have q:(Yn x.text).1.verb=(ZQ 32 x.text).1:=As x.text;rw[←aD h a m o (q.trans b) (G3 r).1];by_cases d:(WQ k H (Yn x.text).1).2=0
     ·rw[Zm<|Zp d,d];rfl
     simp_all
end
def HS.init{n:Net}{p:Zf}(h:Y_ p=0):HS<|Z6.init n p:=
 ⟨⟨(λi q a=>by cases a),(λq a=>by cases a),Zr _,Zr _,Zr _,Int.le_refl 0,λi hi=>by cases hi⟩,List.nodup_nil,(λi j hi=>by cases hi),h,(λq a=>by cases a),(λq a=>by cases a),(λi hi=>by cases hi),rfl,Z,(λq a=>by cases a),λq a=>by cases a⟩
def NK(n:Net):Bool:=decide (R n.ZU<=10)&&decide (R n.plan<=80)&&n.ZU.all λp=>decide<|R p.name<=20
def fewN_plan(h:NK n=true):R n.plan<=80:=by
 simp_all[NK]
def xC(h:R n.ZU=0):UZ n=10:=by unfold UZ;rw[h];rfl
def xD(h:8<R n.ZU):UZ n=8:=by
 unfold UZ;rw[Zz (show((R n.ZU:Nat):Int)>0 by omega),Zy (show¬((R n.ZU:Nat):Int)<=8 by omega)];rfl
def jM(h0:R n.ZU≠0)(h:¬8<R n.ZU):UZ n=0:=by
 unfold UZ;rw[Zz (show((R n.ZU:Nat):Int)>0 by omega),Zz (show((R n.ZU:Nat):Int)<=8 by omega)];rfl
def ud{l:List Ze}(h:YA p.name=false):YF l i p=4:=by unfold YF;rw[h];rfl
def ue{l:List Ze}(h:YA p.name=true)(a:p.name∈(l.take i).map Ze.name):YF l i p=5:=by unfold YF;rw[h,Zy<|Zp a];rfl
def yY{l:List Ze}(h:YA p.name=true)(b:¬p.name∈(l.take i).map Ze.name)(a:¬(0<=p.role/\p.role<=4)):YF l i p=15:=by unfold YF;rw[h,Zz b,Zy a];rfl
def uc{l:List Ze}(h:YA p.name=true)(b:¬p.name∈(l.take i).map Ze.name)(a:0<=p.role/\p.role<=4):YF l i p=0:=by unfold YF;rw[h,Zz b,Zz a];rfl
def Eb(a:UZ n=0)(hi:i<R n.ZU)(b:ZP (YF n.ZU) 0 n.ZU=ZP (YF n.ZU) i (n.ZU.drop i))(c:YF n.ZU i n.ZU[i]≠0):U4 n=((i:Int),YF n.ZU i n.ZU[i]):=by
 simp_all[Zd,D_]
def iO{l:List Ze}(hi:i<=R l)(a:j<i):(l[j]' I).name∈(l.take i).map Ze.name:=
 rx.2 ⟨l[j]' I,dγ.2 ⟨j,by rw[sc];omega,by rw[List.getElem_take]⟩,rfl⟩
theorem ot{l:List Ze}{s:ba}(hi:i<=R l)(h:∀j (c:j<i),(l[j]' I).name≠s):¬s∈(l.take i).map Ze.name:=by
 intro b;obtain⟨p,a,rfl⟩:=rx.1 b;obtain⟨j,c,rfl⟩:=dγ.1 a;grind
def IJ(P:R n.plan<=1000):Ct prog 92 [.agg n.cs]<|.Yy [bv (U4 n).1,bv (U4 n).2]:=by
 refine cI func92 O<|ro 12 O<|kc (zk RL O)<|rr 3 O<|kB O (λN=>?_) λN=>?_
 ·have g:U4 n=(0,10):=by rw[(Im (n:=n)<|by rw[xC I];decide).1,xC I]
  refine ro 6 O<|kS O O O O ?_;rw[g];try rfl
 refine ro 7 O<|kc (zk RL O)<|rr 3 O<|kB O (λM=>?_) λM=>?_
 ·have g:U4 n=(0,8):=by rw[(Im (n:=n)<|by rw[xD I];decide).1,xD I]
  refine ro 6 O<|kS O O O O ?_;rw[g];try rfl
 have y:UZ n=0:=jM I I;refine ro 9 O ?_;refine OK.loop (G:=Nat) [1] (λi=>[(1,.ptr 1 0),(1001,.box n.cs),(4,bv i)]) (λi=>i<=R n.ZU/\ZP (YF n.ZU) 0 n.ZU=ZP (YF n.ZU) i (n.ZU.drop i)) (λi=>R n.ZU - i) 0 ⟨Zr _,O⟩ ⟨O,O,O,Zo⟩ (λ_=>O) ?_;rintro i ⟨hi,x⟩;refine ro 6 O<|kc (zk RL O)<|rr 3 O<|kB O (λL=>?_) λL=>?_
 ·have p:i<R n.ZU:=by omega
  refine ro 10 O<|kc (zI RL O I O) ?_;refine rr 2 O<|kc (zK R8 call125 O)<|kc (S.not .none O<|zt O)<|kD<|OK.cond O O (λu=>?_) λu=>?_
  ·have h:YA n.ZU[i].name=false:=by simpa using u
   have d:YF n.ZU i n.ZU[i]=4:=ud h;have g:=Eb y p x (by rw[d];decide);rw[d]at g;refine ro 7 O<|kS O O O O ?_;rw[g];try rfl
  have h:YA n.ZU[i].name=true:=by simpa using u
  refine ro 9 O ?_;refine OK.loop (G:=Nat) [1] (λj=>[(1,.ptr 1 0),(1001,.box n.cs),(4,bv i),(5,bv j)]) (λj=>j<=i/\∀k (z:k<j),k<i->(n.ZU[k]?.map Ze.name)≠some n.ZU[i].name) (λj=>i - j) 0 ⟨Zr _,λk z=>by omega⟩ ⟨O,O,O,O,Zo⟩ (λ_=>O) ?_;rintro j ⟨Q,w⟩;refine ro 8 O<|kB O (λK=>?_) λK=>?_
  ·have C:j<i:=by omega
   have B:j<R n.ZU:=by omega
   refine ro 5 O<|kV (.c (zf NL O)<|.c (zl CG O O O O)<|.c (zm O)<|.c (zI RL O I O)<|.c (S.field Mx .none O (zt O) O)<|.c (zV T6 O O)<|.c (zf NL O)<|.c (zl CG O O O O)<|.c (zm O)<|.c (zI RL O I O)<|.c (S.field Mx .none O (zt O) O)<|.c (zV T6 O O)<|.c (S.vl .none O (zt O)<|zt O) .nil)<|Ab.D.code<|kB O (λs=>?_) λs=>?_
   ·have d:YF n.ZU i n.ZU[i]=5:=ue h (by rw[←show n.ZU[j].name=n.ZU[i].name from s];exact iO hi C);have g:=Eb y p x (by rw[d];decide);rw[d]at g;refine ro 7 O<|kS O O O O ?_;rw[g];try rfl
   refine Ro 8 O I ?_;refine Ab.D.lp ⟨j+1,⟨by omega,λk z A=>by by_cases e:k=j;subst e;rw[Zv B];exactλe=>s<|aγ e;exact w k I A⟩,I,O,O,O,O,Zo⟩
  have q:¬n.ZU[i].name∈(n.ZU.take i).map Ze.name:=ot hi λk z e=>w k I z (by rw[Zv (show k<R n.ZU by omega)];exact rn some e)
  refine ro 7 O<|kc (zI RL O I O) ?_;refine rr 2 O<|kc (zK Y4 call33 O)<|kc (S.Xb .none O<|zt O)<|kD<|kB O (λr=>?_) λr=>?_
  ·have d:YF n.ZU i n.ZU[i]=15:=yY h q (by simpa using r);have g:=Eb y p x (by rw[d];decide);rw[d]at g;refine ro 7 O<|kS O O O O ?_;rw[g];try rfl
  have d:YF n.ZU i n.ZU[i]=0:=uc h q (by simpa using r);refine Ro 8 O I ?_;refine Ab.D.lp ⟨i+1,⟨by omega,by rw[x,Zd _ p,Zm<|by rw[d];decide]⟩,I,O,O,O,Zo⟩
 have E:(ZP (YF n.ZU) 0 n.ZU).2=0:=by rw[x,show i=R n.ZU by omega,da];rfl
 have v:=(Ea y E).1;refine ro 7 O<|kc (zK (P4 (l:=n.plan) I) call36 O) ?_;refine rr 14 O<|kB O (λb=>?_) λb=>?_
 ·refine ro 7 O<|kS O O O O ?_;rw[v];unfold OL UI
  first|(rw[Zu.1 b,Zy a,tp];rfl)|(have o:decide (0<=n.lo/\n.lo<=10000)=false:=(by simpa using f);have m:decide (0<=n.limit/\n.limit<=2000)=true:=(by simpa using a);rw[Zu.1 b,m,o,tn,tp];rfl)|simp_all[ZW,Z8]
 refine ro 7 O<|kc (zK Y4 call33 O)<|kc (S.Xb .none O<|zt O)<|jm O<|RK.ZS (t:=73) O (λa=>?_) λa=>?_
 ·refine rr 22 O<|kS O O O O ?_;rw[v];unfold OL UI
  first|(rw[Zu.1 b,Zy a,tp];rfl)|(have o:decide (0<=n.lo/\n.lo<=10000)=false:=(by simpa using f);have m:decide (0<=n.limit/\n.limit<=2000)=true:=(by simpa using a);rw[Zu.1 b,m,o,tn,tp];rfl)|simp_all[ZW,Z8]
 refine rr 3 O<|kc (S.call Y4 call33 (zg O O) O (zc O<|zC O<|zD O) O)<|kc (S.Xb (zg O O) O<|zt O)<|rr 2 O<|RK.ZS (t:=80) O (λf=>?_) λf=>?_
 ·refine rr 15 O<|kS O O O O ?_;rw[v];unfold OL UI
  first|(rw[Zu.1 b,Zy a,tp];rfl)|(have o:decide (0<=n.lo/\n.lo<=10000)=false:=(by simpa using f);have m:decide (0<=n.limit/\n.limit<=2000)=true:=(by simpa using a);rw[Zu.1 b,m,o,tn,tp];rfl)|simp_all[ZW,Z8]
 refine rr 3 O<|kc (S.call Y4 call33 (zg O O) O (zc O<|zC O<|zD O) O)<|kc (S.Xb (zg O O) O<|zt O)<|rr 3 O<|kB O (λJ=>?_) λJ=>?_
 ·refine ro 6 O<|kS O O O O ?_;rw[v];unfold OL UI
  first|(rw[Zu.1 b,Zy a,tp];rfl)|(have o:decide (0<=n.lo/\n.lo<=10000)=false:=(by simpa using f);have m:decide (0<=n.limit/\n.limit<=2000)=true:=(by simpa using a);rw[Zu.1 b,m,o,tn,tp];rfl)|simp_all[ZW,Z8]
 refine ro 14 O<|kB O (λF=>?_) λF=>?_
 ·refine ro 6 O<|kS O O O O ?_;rw[v];unfold OL UI
  first|(rw[Zu.1 b,Zy a,tp];rfl)|(have o:decide (0<=n.lo/\n.lo<=10000)=false:=(by simpa using f);have m:decide (0<=n.limit/\n.limit<=2000)=true:=(by simpa using a);rw[Zu.1 b,m,o,tn,tp];rfl)|simp_all[ZW,Z8]
 refine ro 8 O<|kS O O O O ?_;rw[v];unfold OL UI
 first|(rw[Zu.1 b,Zy a,tp];rfl)|(have o:decide (0<=n.lo/\n.lo<=10000)=false:=(by simpa using f);have m:decide (0<=n.limit/\n.limit<=2000)=true:=(by simpa using a);rw[Zu.1 b,m,o,tn,tp];rfl)|simp_all[ZW,Z8]
def G_(a:R n.plan<=1000):Ct prog 49 [.agg n.cs]<|bv (U4 n).2:=by
 refine cI func49 O<|ro 9 O<|kc (zK (IJ a) call92 O)<|rr 13 O<|kR O O ?_;rfl
theorem ef(h:10<R n.ZU\/80<R n.plan):NK n=false:=by
 unfold NK;grind
def few_T(h:R n.ZU<=10)(a:R n.plan<=80):NK n=n.ZU.all λp=>decide (R p.name<=20):=by
 simp_all[NK]
def A8(h:i<R n.ZU):((n.ZU.drop i).all λp:Ze=>decide<|R p.name<=20)=(decide (R n.ZU[i].name<=20)&&(n.ZU.drop<|i+1).all λp:Ze=>decide<|R p.name<=20):=by
 rw[np h,so]
def tK:Ct prog 11 [.agg n.cs]<|.bool<|NK n:=by
 refine cI func11 O<|ro 11 O<|kc (zk RL O)<|rr 2 O<|RK.ZS (t:=8) O (λh=>?_) λh=>?_
 ·have a:NK n=false:=ef<|.inl I;refine rr 13 O<|kR O O ?_;rw[a];try rfl
 refine rr 7 O<|kB O (λg=>?_) λg=>?_
 ·have a:NK n=false:=ef<|.inr I;refine ro 5 O<|kR O O ?_;rw[a];try rfl
 have d:=few_T (n:=n) I I;refine ro 9 O ?_;refine OK.loop (G:=Nat) [1] (λi=>[(1,.ptr 1 0),(1001,.box n.cs),(3,bv i)]) (λi=>i<=R n.ZU/\NK n=((n.ZU.drop i).all λp:Ze=>decide<|R p.name<=20)) (λi=>R n.ZU - i) 0 ⟨Zr _,d⟩ ⟨O,O,O,Zo⟩ (λ_=>O) ?_;rintro i ⟨hi,c⟩;refine ro 6 O<|kc (zk RL O)<|rr 3 O<|kB O (λf=>?_) λf=>?_
 ·have b:i<R n.ZU:=by omega
  refine ro 9 O<|kc (zI RL O I O) ?_;refine rr 6 O<|kB O (λe=>?_) λe=>?_
  ·have a:NK n=false:=by rw[c,A8 b,Zy (show¬R n.ZU[i].name<=20 by omega),tp]
   refine ro 5 O<|kR O O ?_;rw[a];try rfl
  refine Ro 8 O I (Ab.D.lp ⟨i+1,⟨by omega,by rw[c,A8 b,Zz (show R n.ZU[i].name<=20 by omega),tn]⟩,I,O,O,O,Zo⟩)
 have a:NK n=true:=by rw[c,show i=R n.ZU by omega,da];rfl
 refine ro 7 O<|kR O O ?_;rw[a];try rfl
def Tj(b:R n.ZU<=100000):Ct prog 14 [.agg n.cs]<|.agg n.cs:=by
 refine cI func14 O<|ro 7 O ?_;refine kV (.c (zM [] fJ O O O O)<|.c (zf NL O)<|.c (zl CG O O O O)<|.c (S.V2 fJ .none O (zt O) O N (zt O) (by intro q a;obtain⟨p,_,rfl⟩:=rx.1 a;rfl) N (by simp only[Zx];omega)<|by simp only[Zx,maxLen];omega)<|.c (zf mO O)<|.c (zl T6 O O O O)<|.c (zf yx O)<|.c (zl YK O O O O)<|.c (zf SJ O)<|.c (zL kK O O O O)<|.c (zU bu26 O O)<|.c (zS Pn O O O O O O) .nil) ?_;refine Ab.D.code ?_;refine OK.ret<|Y3.r1 (.XU O O O O Pn O<|.k (.own O O N)<|zw O) ?_;rfl
def State.zero:State:=⟨[],[],[],[],⟨0,0,[]⟩⟩
def Xi(n:Net)(l:List Entry):State:=if(Z2 n l).2.2≠0 then State.zero else(Z2 n l).1.st
theorem bJ(h:(U4 n).2=0):UI n=true:=by
 have a:=Bz h;have b:=(J6 h).2;unfold OL at a;rw[b,ZW,Zm C]at a;grind [ZW,Z8]
def fZ(h:(U4 n).2=0):(0<=n.lo/\n.lo<=1000000000)/\(0<=n.hi/\n.hi<=1000000000)/\Y5 n.limit=true:=by
 have d:=bJ h;unfold UI at d;rw[Zw,Zw]at d;have a:=pf d.1;have b:=pf d.2.1;have c:=pf d.2.2;exact⟨I,I,Zz a⟩
theorem gC(H:Z6)(k:Nat)(L:Sv):(WQ k H L).1.entries=H.entries/\(WQ k H L).1.time=H.time:=by
 have a:∀(n:Int)(f:Z6->Nat->HE),(∀i,(f H i).1.entries=H.entries/\(f H i).1.time=H.time)->(YJ H n f).1.entries=H.entries/\(YJ H n f).1.time=H.time:=λn f b=>by
  unfold YJ;split
  ·simp
  rename_i i _;split
  ·exact b i
  grind
 unfold WQ;split
 ·simp
 ·unfold W_;grind
 ·unfold Yl;repeat' split
  all_goals exact⟨rfl,rfl⟩
 ·unfold Sz;split<;>exact⟨rfl,rfl⟩
 ·exact a _ _ λi=>by unfold Wi;split<;>exact⟨rfl,rfl⟩
 ·exact a _ _ λi=>by unfold Tu;split<;>exact⟨rfl,rfl⟩
 ·unfold Tw;grind
 ·unfold XZ;grind
 ·exact a _ _ λi=>by unfold WU;split<;>exact⟨rfl,rfl⟩
 ·refine a _ _ λi=>?_
  unfold Xz;dsimp only
  repeat' split
  all_goals exact⟨rfl,rfl⟩
 ·unfold XX;grind
 ·exact a _ _ λi=>by unfold Xe;grind
 unfold Wo;grind
def Dw{x:Entry}(h:(Za H x).2=0):(Za H x).1.entries=H.entries+1/\(Za H x).1.time=x.at_:=by
 unfold Za at h⊢;by_cases a:H.head x=0
 ·rw[Zm<|Zp a]at h⊢;obtain⟨i,hi⟩:=sk.1 (HV a).2.1;obtain⟨k,b⟩:=sk.1 (HV a).2.2.2.2.2.2;rw[hi,b]at h⊢;dsimp only at h⊢;by_cases d:H.tail x i k=0
  ·rw[Zm<|Zp d]at h⊢;by_cases c:(WQ k H (Yn x.text).1).2=0
   ·rw[Zm<|Zp c];exact⟨rn (· +1) (gC ..).1,rfl⟩
   simp_all
  simp_all
 simp_all
theorem C7(a:(U4 n).2=0)(h:60<R l):Z2 n l=(Z6.init n (ZO n.plan).1,0,8):=by
 grind [L_,N8,Rf,Z2]
theorem Jn(a:(U4 n).2=0)(h:¬60<R l):Z2 n l=runT (Z6.init n (ZO n.plan).1) 0 l:=by
 have e:L_ n l=0:=by unfold L_;rw[a,N8,Zz I];rfl
 simp_all[Z2]
def lI{i:Int}(h:Z2 n l=(H,i,e))(a:e≠0):Xi n l=State.zero:=by simp_all[Xi]
def back_0{i:Int}(h:Z2 n l=(H,i,0)):Xi n l=H.st:=by simp_all[Xi]
def Cg{x:Entry}(c:R n.plan<=1000)(d:(U4 n).2=0)(hs:HS H)(hh:H.XR=n)(a:H.plan=(ZO n.plan).1)(e:H.entries<60)(b:R x.text<=100000):Ct prog 79 [.agg n.cs,.agg H.st.cs,.agg x.cs,bv H.time]<|.Yy [.agg (Za H x).1.st.cs,bv (Za H x).2]:=by
 have k:=AA (n:=n) c (fZ d) (a▸hs.good) (a▸hs.mods) (x:=x) (last:=H.time) b;rw[←kj hs hh a x e]at k;exact k
def Jk(q:R n.plan<=1000)(f:(U4 n).2=0)(r:∀x∈l,R x.text<=100000):Ct prog 69 [.agg n.cs,.sl<|l.map Entry.cs]<|.Yy [.agg (Xi n l).cs,bv (Z2 n l).2.1,bv (Z2 n l).2.2]:=by
 refine cI func69 O<|OK.XF (rows:=l.map Entry.cs) (t:=1) O O λhlen=>?_;rw[Zx]at hlen;unfold maxLen at hlen;refine ro 17 O<|kc (zk Vy O)<|rr 3 O<|kB O (λo=>?_) λo=>?_
 ·have d:=C7 f (show 60<R l by omega);have hB:=lI d C;refine ro 8 O<|OK.ret<|Y3.r3 (.XU O O O O Zk O<|.k .ZM<|.k .ZM<|.k .ZM<|.k .ZM<|.k (.same O)<|.k (.same O)<|.k .ZM .z) (zo O O) (zo O O) ?_;rw[d,hB];try rfl
 refine ro 14 O<|OK.QC 7 0 O O O O<|OK.QC 7 1 O O O O<|OK.QC 7 2 O O O O<|OK.QC 7 3 O O O O<|OK.QC 7 6 O O O O ?_;refine OK.We [2,4,7] (λ(i:Nat)(H:Z6)=>[(1,.sl<|l.map Entry.cs),(2,.ptr 2 0),(1002,.box n.cs),(4,.ptr 4 0),(1004,.box [.ZM,.ZM,.ZM,.ZM,bv 0,bv 0,.ZM]),(7,.ptr 7 0),(1007,.box H.st.cs),(8,bv H.time),(9,bv i)]) (λi H=>i<=R l/\Z2 n l=runT H i (l.drop i)/\HS H/\H.XR=n/\H.plan=(ZO n.plan).1/\H.entries=i) (λi H=>R l - i) 0 ((Z6.init n (ZO n.plan).1)) ⟨Zr _,Jn f I,HS.init<|Sx (J6 f).2,O,O,O⟩ ⟨O,O,O,O,O,O,O,O,O,Zo⟩ (λ_ _=>O) ?_;rintro i H ⟨hi,g,hs,hh,p,h⟩;refine ro 5 O<|kc (zk Vy O)<|rr 3 O<|kB O (λm=>?_) λm=>?_
 ·have a:i<R l:=by omega
  refine ro 5 O ?_;refine kV (.c (zL Pn O O O O)<|.c (zL Zk O O O O)<|.c (zm O)<|.c (zm O)<|.c (zI Vy O a O)<|.c (S.Vj rT .none O (zt O) O O)<|.c (zm O)<|.c (zK (Cg q f hs hh p I<|r _<|Zt a) call79 O)<|.c (zm O)<|.c (zX O O O)<|.c (zX O O O)<|.c (zA (c:=10) ga O)<|.c (zS Zk O O O O O O)<|.c (za O) .nil) ?_;refine rd 8 O<|kB O (λb=>?_) λb=>?_
  ·have d:=g.trans<|Cy a b;have hB:=lI d b;refine kr<|kc (zU af O O)<|rr 7 O<|OK.ret<|Y3.r3 (.XU O O O O Zk O<|.k .ZM<|.k .ZM<|.k .ZM<|.k .ZM<|.k (.same O)<|.k (.same O)<|.k .ZM .z) (zo O O) (zo O O) ?_;rw[d,hB];try rfl
  have e:=Zu.1 b;refine OK.skip<|Ab.D.code<|kV (.c (zL Zk O O O O)<|.c (zm O)<|.c (zm O)<|.c (zI Vy O a O)<|.c (S.field Nu .none O (zt O) O)<|.c (zV YK O O)<|.c (zS Zk O O O O O O)<|.c (za O) .nil)<|Rd 7 O I ?_;refine Ab.D.lp ⟨i+1,(Za H l[i]).1,⟨by omega,by rw[g,xm a e],hs.enter _,by rw[(UY _ _).2];exact hh,by rw[(UY _ _).1];exact p,by rw[(Dw e).1,h];rfl⟩,I,O,O,O,O,O,O,O,(OT (Dw e).2.symm),O,Zo⟩
 have d:Z2 n l=(H,0,0):=by rw[g,show i=R l by omega,da];rfl
 have hB:=back_0 d;refine ro 10 O<|OK.ret<|Y3.r3 (zy O O Zk O) (zo O O) (zo O O) ?_;rw[d,hB];try rfl
def u_(H:Z6)(name:ba):Int:=match(H.AI name).bind (H.ZF[·]?)with|some q=>q.1.YD+1|none=>1
def B0(H:Z6)(rest:ba):Int:=ZW [(VJ rest).2,Z8 (decide ((R H.ZF:Int)<6)) 16]
variable{name rest:ba}
def uI(h:YA name=false):XX H name rest=(H,4):=Zn h
theorem uJ(h:YA name=true)(a:B0 H rest≠0):XX H name rest=(H,B0 H rest):=by
 unfold XX;rw[Zm<|by grind];exact Zn a
theorem uH(h:YA name=true)(a:B0 H rest=0):XX H name rest=({H with ZF:=H.ZF++[(⟨name,u_ H name,(VJ rest).1⟩,H.entries)]},0):=by
 unfold XX;rw[Zm<|by grind];exact Zm<|Zp a
def sP{l:ba}(h:l.all X6=true):Ra l:=λb a=>by
 have c:=rm.1 h b a;have d:=pf (show decide (32<=(b.toNat:Int)/\(b.toNat:Int)<=126)=true from c);omega
def GV{A:HA}{m:Int}(a:A.Ok m)(V:m+2<=1000)(hrl:R rest<=600)(P:Ra rest):U_ prog 164 [] [.raw<|pV A.b,.agg (Words.mk [] [name,rest]).cs] [(3000,.res<|Z9 A.mem)] [(3000,.res<|JX A.b (XX A.plain name rest).1<|m+2)]<|bv (XX A.plain name rest).2:=by
 refine cH func164 O λf=>?_
 have hen:=a.en;have hlv:=a.lv;have hm0:=a.m0;have K:=HA.L6 A name;have y:(R A.plain.ZF:Int)=R A.ZF:=by show(R (A.ZF.map _):Int)=_;rw[Zx]
 refine ro 10 O ?_;refine kc (S.Zi (n:=0) X9 .none O (zt O) (.Zg O) O (by exact aθ _) O) ?_;refine rr 8 O<|kc (zK QX call138 O)<|kc (S.not .none O<|zt O)<|kD<|OK.cond O O (λC=>?_) λC=>?_
 ·have e:YA name=false:=by simpa using C
  have f:=uI (H:=A.plain) (rest:=rest) e;refine ro 5 O ?_;refine OK.YS (J':=JX A.b (XX A.plain name rest).1<|m+2) O (JX.ZV _ _ _) (λh Y w M=>HA.jx a I V (by rw[f]) M) ?_;refine OK.ret ⟨Y3.r1 (zo O O) ?_,O,Zo⟩;rw[f]
 have e:YA name=true:=by simpa using C
 refine ro 6 O ?_;refine kc (S.Zi (n:=1) X9 .none O (zt O) (.Zg O) O (by exact Nat.one_lt_two) O)<|kc (zV T6 O O)<|kc (S.Xo (Kr (s:=rest) I P) f call216 .none O (zc O .nil) O) ?_;refine rr 14 O<|kc (zH (u:=.sl<|A.ZF.map P6) EU O<|Z9.Xh (k:=.Y1) O O<|.sl a.vs)<|kc (zk Ai O)<|kc (S.lss .none O (zt O)<|.Zg O)<|kc (zK ZT call96 O) ?_;refine RK.c (zM [[_],[_]] Xk O O O O)<|kc (S.XY (YI (l:=[_,_])) call76 .none O (zc O .nil) (.cons (.p (.own O O) O) .nil) O) ?_;refine rr 9 O<|kB O (λB=>?_) λB=>?_
 ·have z:B0 A.plain rest≠0:=by unfold B0;rw[y];exact B
  have f:=uJ e z;refine ro 6 O ?_;refine OK.YS (J':=JX A.b (XX A.plain name rest).1<|m+2) O (JX.ZV _ _ _) (λh Y w M=>HA.jx a I V (by rw[f]) M) ?_;refine OK.ret ⟨Y3.r1 (zo O O) ?_,O,Zo⟩;rw[f];refine YL ?_;unfold B0;rw[y]
 have z:B0 A.plain rest=0:=by unfold B0;rw[y];exact Zu.1 B
 have f:=uH e z;refine ro 7 O ?_;refine OK.join (G:=Int) [] (λd=>[(0,.raw<|pV A.b),(5,.str name),(6,.sl<|(VJ rest).1.map Ph.cs),(8,bv d),(3000,.res<|Z9 A.mem)]) (λd=>d=u_ A.plain name/\0<=d/\d<=m+1) (λ_=>O) ?_ ?_
 ·refine ro 4 O<|kc (S.Wc ((λJ hS hJ=>(NT a (n:=name) hS hJ).Tq hS)) call136 .none O (zc O<|zc O .nil) O O) ?_;refine rr 6 O<|kc (S.uf underlying138 .none O<|zt O)<|kD<|OK.cond O O (λo=>?_) λo=>?_
  ·obtain⟨k,X⟩:∃k,W9 (λv=>decide<|v.r.name=name) A.ZF=some k:=sk.1<|(En _ _).symm.trans o;obtain⟨W,_⟩:=VK X;obtain⟨N,g⟩:=Yh W;have hvb:=a.vb N<|mr g;rw[Vx X<|HA.vb? g];have t:u_ A.plain name=N.r.YD+1:=by unfold u_;rw[K,X];simp only[bφ,HA.LU g]
   refine ro 6 O ?_;refine kc (zH YK O<|Z9.Xh (k:=.v k) (HA.sv g) O<|.same _) ?_;refine Rr 3 O I<|Ab.D.lp ⟨(N.r.YD+1),⟨t.symm,I,I⟩,O,O,O,O,O,Zo⟩
  have hN:W9 (λv=>decide<|v.r.name=name) A.ZF=none:=by
   cases h:W9 (λv=>decide<|v.r.name=name) A.ZF with
   |none=>rfl
   |some k=>rw[h]at o;exact absurd o F
  have t:u_ A.plain name=1:=by unfold u_;rw[K,hN];rfl
  refine OK.skip (Ab.D.lp ⟨1,⟨t.symm,I,I⟩,O,O,O,O,O,Zo⟩)
 rintro d ⟨Q,U,T⟩;refine ro 4 O<|kc (zU aa O O)<|rr 5 O ?_;refine OK.Sd follows (ι:=(Nat×Nat×Nat)) (0,0,0) 15 O (S.ey (s:=[(58,.raw<|A.vh.v<|R A.ZF),(68,.own 68 1),(2068,.W8 1 [] [.Wt 67 1 0] []),(2067,.W8 4 [] [.str name,bv d,.sl<|(VJ rest).1.map Ph.cs,bv A.entries] []),(3000,.res<|Z9 A.mem)]) (cells':=[.str name,bv d,.sl<|(VJ rest).1.map Ph.cs,bv A.entries]) .vs (.v<|R A.ZF) dJ O (zt O) a.vs Z (zt O) O O O O O O (by simp only[Zx];omega)<|by simp only[Zx,maxLen];omega).st (λq=>(.cs (zm O) (.cs (zm O) (.cs (zn O O) (.cs (zr DA O) (.cs (zH EU O<|Z9.Xh (k:=.Y1) O O<|.same _) (.cs (zL Ni O O O O) (.cs (zm O) (.cs (zU lN O O) (.cs (zm O) (.cs (zn O O) (.cs (zr UA O) (.cs (zH YK O<|Z9.Xh (k:=.Y1) O O<|.same _) (.cs (zU bu149 O O) (.cs (S.j8 (k:=67) O .none O (zt O) O) (.cs (S.Ig (k:=68) dJ .none O (zt O) O)
  (.x ⟨O,O,O,O,O,Zo⟩<|.cn (zn O O)<|.cn (zr DA O)<|.cn (S.Yf (xs:=A.cs) (xs':=(A.Ef ⟨q.1,⟨name,d,(VJ rest).1⟩,A.entries⟩ q.2).cs) (.Y1) EU .none (zt O) (zt O) O ((HM.Z0 _ _ Z).trans<|(HM.Z0 _ _ Z).trans A.atH) O O O O<|iS A ⟨q.1,⟨name,d,(VJ rest).1⟩,A.entries⟩ q.2) .nil))))))))))))))))) λq=>?_
 refine Ab.D.code<|kO<|OK.Ef ⟨name,d,(VJ rest).1⟩ a I O ⟨U,T⟩ (Ma e) λA1 L hb1 E=>?_;refine ro 4 O ?_;refine OK.YS (J':=JX A.b (XX A.plain name rest).1<|m+2) O (JX.ZV _ _ _) (λh Y w M=>Sg L I V hb1 (by rw[f,E,Q];rfl) M) ?_;refine OK.ret ⟨Y3.r1 (zo O O) ?_,O,Zo⟩;rw[f]
def mB:Tl 10:=λa c _ _ _ b=>GV a c b.1<|sP b.2.2.2
def mN(h:NK n=true):R n.ZU<=10/\R n.plan<=80:=by
 simp_all[NK]
