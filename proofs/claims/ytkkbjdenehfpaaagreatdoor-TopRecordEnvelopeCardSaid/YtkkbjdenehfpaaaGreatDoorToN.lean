import Derived.Test.YtkkbjdenehfpaaaGreatDoorTuN
set_option linter.all false
set_option maxHeartbeats 2000000
open List renaming length->R
namespace Go.Proofs.Z_
open Go.Ab Tryz
set_option maxRecDepth 9999
def bO{w:ba}(h:(Wn w 7).2=true)(e:¬(Wn w 7).1<0):Tz w=some (Wn w 7).1:=by
 obtain⟨j,b⟩:=PM (l:=w) (d:=7);have a:TF w 7=true:=by simp_all
 rw[yW<|by simp_all[Tt],O8 I a,b a]
theorem oO{w:ba}(h:(Wn w 7).2=false\/(Wn w 7).1<0):Tz w=none:=by
 obtain⟨a,_⟩:=PM (l:=w) (d:=7);refine LN ?_;rw[Tt w I,←a];grind
variable{n:Nat}
def qI{p:ba}(h:YT Tz (Z7 32 p)=none):Qk n p=none:=by rw[L0,h]
theorem cJ{p:ba}{a:bd}(h:YT Tz (Z7 32 p)=some a)(b:¬R a=n):Qk n p=none:=by rw[L0,h];grind
theorem cK{p:ba}{a:bd}(h:YT Tz (Z7 32 p)=some a)(b:R a=n):Qk n p=some a:=by rw[L0,h];grind
variable{i:Nat}{b x:ZK}
def DY(h:(YR x.depth&&YR x.diag&&Y5 x.lo&&Y5 x.hi)=false):VE i b x=2:=by
 simp_all[DX,ZW,Z8]
def aZ(h:(YR x.depth&&YR x.diag&&Y5 x.lo&&Y5 x.hi)=true)(a:x.lo>x.hi):VE i b x=9:=by
 have e:decide (x.lo<=x.hi)=false:=Zy I;simp_all[DX,ZW,Z8]
theorem a_(h:(YR x.depth&&YR x.diag&&Y5 x.lo&&Y5 x.hi)=true)(d:¬x.lo>x.hi):VE i b x=if i=0 then Z8 (decide<|2 * x.depth>=5 * x.diag) 17 else Z8 (decide<|x.depth - b.depth>=3 * max x.diag b.diag) 17:=by
 have e:decide (x.lo<=x.hi)=true:=Zz I;have a:¬ZW [Z8 true 2,Z8 (decide<|x.lo<=x.hi) 9]≠0:=by rw[e];simp[ZW,Z8]
 grind [yG,yH]
theorem iE{n:Int}(h:0<=n):TZ n 1=⟨n,1⟩:=by
 grind [Rv,DP,TZ]
theorem line_eq(x y u v l:Int):y * (v - u)+(v - l) * (x - y)=x * (v - u)+(y - x) * (l - u):=by
 grind
variable{α:Type}
def bl{g:α->Bool}{l:List α}(b:ix g l=VF g i (l.drop i))(h:i<R l)(a:g l[i]=true):ix g l=some i:=by rw[b,Wf _ h,Zn a]
def iw{g:α->Bool}{l:List α}(b:ix g l=VF g i (l.drop i))(h:i<R l)(a:g l[i]=false):ix g l=VF g (i+1) (l.drop<|i+1):=by simp_all[Wf]
def bh{g:α->Bool}{l:List α}(a:ix g l=VF g i (l.drop i))(h:i=R l):ix g l=none:=by rw[a,h,da];rfl
def SI{g:Nat->α->Int}{l:List α}(b:ZP g 0 l=ZP g i (l.drop i))(h:i<R l){e:Int}(a:g i l[i]=e)(d:e≠0):ZP g 0 l=((i:Int),e):=by simp_all[Zd]
def we{g:Nat->α->Int}{l:List α}(b:ZP g 0 l=ZP g i (l.drop i))(h:i<R l)(a:g i l[i]=0):ZP g 0 l=ZP g (i+1) (l.drop<|i+1):=by simp_all[Zd]
variable{l:List ZK}
def PZ(h:¬UM l≠0){p:Int×Int}(a:ZP (su l) 0 l=p):WS l=p:=(EN h).trans a
def jN(h:(R l:Int)<2):WS l=(0,10):=by
 have e:UM l=10:=by unfold UM;rw[Zy (show¬(R l:Int)>=2 by omega)];rfl
 simp_all[J4]
def cY(h:¬(R l:Int)<2)(a:(R l:Int)>20):WS l=(0,8):=by
 have e:UM l=8:=by unfold UM;rw[Zz (show(R l:Int)>=2 by omega),Zy (show¬(R l:Int)<=20 by omega)];rfl
 simp_all[J4]
def cX(h:¬(R l:Int)<2)(a:¬(R l:Int)>20):¬UM l≠0:=by
 unfold UM;rw[Zz (show(R l:Int)>=2 by omega),Zz (show(R l:Int)<=20 by omega)];decide
def Co{s:ba}(P:R s<=100000):Ct prog 249 [.str s,bv (n:Int)]<|.Yy [.sl<|(Yq n s).1.map λr=>[ints r],bv (Yq n s).2]:=by
 refine cI func249 O λ{_ _}=>?_
 have M:=WJ (c:=59) (l:=s);refine kr<|kc (S.assign .none O .Ya)<|rr 11 O<|kB O (λG=>?_) λG=>?_
 ·refine kr<|kc (S.assign .none O .Ya)<|rr 3 O<|kS O O O O ?_;rw[xk I]
  all_goals rfl
 refine ro 5 O<|kc (zK (Rl (l:=s) (c:=59) I) call39 O) ?_;refine rr 5 O<|RK.c (S.XG (k:=7) (sz:=1) .none O)<|rr 9 O ?_;refine OK.We [7] (λ(k:Nat)(qm:List bd)=>[(1,bv (n:Int)),(6,.sl<|(Z7 59 s).map λw=>[.str w]),(7,.own 7<|R qm),(2007,.arr 1<|qm.map λr=>[ints r]),(8,bv (k:Int))]) (λk qm=>k<=R (Z7 59 s)/\YT (Qk n) (Z7 59 s)=(YT (Qk n)<|(Z7 59 s).drop k).map (qm++ ·)/\R qm<=k) (λk qm=>R (Z7 59 s) - k) 0 ([]) ⟨Zr _,by rw[aα];cases YT (Qk n) (Z7 59 s)<;>simp,Zq _⟩ ⟨O,O,(ZH N),(ZX N),O,Zo⟩ (λ_ _=>O) ?_;rintro k qm ⟨Q,x,K⟩;refine ro 5 O<|kc (zk X1 O)<|rr 3 O<|kB O (λE=>?_) λE=>?_
 ·have a:k<R (Z7 59 s):=by omega
  have J:=Xs _<|Zt a;have L:=WJ (c:=32) (l:=(Z7 59 s)[k]);refine ro 8 O<|kc (zI X1 O I O)<|kc (zV T6 O O)<|kc (zK (Rl (l:=(Z7 59 s)[k]) (c:=32) I) call39 O) ?_;refine rr 5 O<|RK.c (S.XG (k:=10) (sz:=1) .none O)<|rr 9 O ?_;refine OK.We [7,10] (λ(j:Nat)(u0:bd)=>[(1,bv (n:Int)),(6,.sl<|(Z7 59 s).map λw=>[.str w]),(7,.own 7<|R qm),(2007,.arr 1<|qm.map λr=>[ints r]),(8,bv (k:Int)),(9,.sl<|(Z7 32 (Z7 59 s)[k]).map λw=>[.str w]),(10,.own 10<|R u0),(2010,.arr 1<|u0.map λv=>[bv v]),(11,bv (j:Int))]) (λj u0=>j<=R (Z7 32 (Z7 59 s)[k])/\YT Tz (Z7 32 (Z7 59 s)[k])=(YT Tz<|(Z7 32 (Z7 59 s)[k]).drop j).map (u0++ ·)/\R u0<=j) (λj u0=>R (Z7 32 (Z7 59 s)[k]) - j) 0 ([]) ⟨Zr _,by rw[aα];cases YT Tz (Z7 32 (Z7 59 s)[k])<;>simp,Zq _⟩ ⟨O,O,(ZH N),(ZX N),O,O,(ZH N),(ZX N),O,Zo⟩ (λ_ _=>O) ?_;rintro j u0 ⟨T,h,H⟩;refine ro 5 O<|kc (zk X1 O)<|rr 3 O<|kB O (λC=>?_) λC=>?_
  ·have e:j<R (Z7 32 (Z7 59 s)[k]):=by omega
   have y:R (Z7 32 (Z7 59 s)[k])[j]<=100000:=by have:=Xs _<|Zt e;omega
   refine ro 8 O<|kc (zI X1 O I O)<|kc (zV T6 O O)<|kc (zK (Sw (l:=(Z7 32 (Z7 59 s)[k])[j]) (d:=7) y I) call73 O) ?_;refine rr 11 O<|kc (S.not .none O<|zt O)<|jm O<|RK.split (t:=46) O (λo=>?_) λo=>?_
   ·have b:Tz (Z7 32 (Z7 59 s)[k])[j]=none:=oO (.inl<|by simpa using o);refine rr 8 O<|kc (S.assign .none O .Ya)<|rr 3 O<|kS O O O O ?_;rw[JW I<|QH x a<|qI<|QH h e b]
    all_goals rfl
   refine rr 5 O<|kB O (λp=>?_) λp=>?_
   ·have b:Tz (Z7 32 (Z7 59 s)[k])[j]=none:=oO (.inr<|by simpa using p);refine kr<|kc (S.assign .none O .Ya)<|rr 3 O<|kS O O O O ?_;rw[JW I<|QH x a<|qI<|QH h e b]
    all_goals rfl
   have q:Tz (Z7 32 (Z7 59 s)[k])[j]=some (Wn (Z7 32 (Z7 59 s)[k])[j] 7).1:=bO (by simpa using o) (by simpa using p);refine ro 5 O ?_;refine RK.c (zM [[_]] Xr O O O O) ?_;refine kc (zP Xr O O F N I<|by simp only[maxLen];omega) ?_;refine Rr 9 O I ?_;refine Ab.D.lp ⟨j+1,u0++[(Wn (Z7 32 (Z7 59 s)[k])[j] 7).1],⟨by omega,JF h e q,by simp;omega⟩,I,O,O,(ZH N),(ZX N),O,O,(ZH N),(ZX N),O,Zo⟩
  refine ro 4 O ?_;have u:YT Tz (Z7 32 (Z7 59 s)[k])=some u0:=MC h I;refine OK.freeze 10 O O O F ?_;refine OK.R3<|jm O<|kc (zk X9 O)<|rr 4 O<|kB O (λB=>?_) λB=>?_
  ·have m:¬R u0=n:=by omega
   refine kr<|kc (S.assign .none O .Ya)<|rr 3 O<|kS O O O O ?_;rw[JW I<|QH x a<|cJ u m]
   all_goals rfl
  have m:R u0=n:=by omega
  refine ro 5 O ?_;refine RK.c (zM [[_]] gU O O O O) ?_;refine kc (zP gU O O F N I<|by simp only[maxLen];omega) ?_;refine Rr 9 O I ?_;refine Ab.D.lp ⟨k+1,qm++[u0],⟨by omega,JF x a<|cK u m,by simp;omega⟩,I,O,O,(ZH N),(ZX<|by rw[ne];rfl),O,Zo⟩
 refine ro 3 O ?_;have z:YT (Qk n) (Z7 59 s)=some qm:=MC x I;refine ro 6 O ?_;refine OK.ret<|Y3.r2 (.tmp O O (.c (.own O O N) O) O) (zo O O) ?_;rw[xj I z]
 all_goals rfl
def K0{n:Int}:Ct prog 316 [bv n]<|.bool<|Y5 n:=by
 refine cI func316 O<|ro 8 O<|kc (zK Y4 call98 O)<|rr 3 O<|kR O O ?_;rfl
def NX:Ct prog 283 [.agg [.sl<|l.map ZK.cs]]<|.Yy [bv (WS l).1,bv (WS l).2]:=by
 refine cI func283 O<|ro 12 O<|kc (zk S6 O)<|rr 3 O<|kB O (λV=>?_) λV=>?_
 ·have d:=jN (l:=l) I;refine ro 6 O<|kS O O O O ?_;rw[d];try rfl
 refine ro 7 O<|kc (zk S6 O)<|rr 3 O<|kB O (λQ=>?_) λQ=>?_
 ·have d:=cY (l:=l) I I;refine ro 6 O<|kS O O O O ?_;rw[d];try rfl
 have k:=cX (l:=l) I I;refine ro 9 O ?_;refine OK.loop (G:=Nat) [1] (λi=>[(1,.ptr 1 0),(1001,.box [.sl<|l.map ZK.cs]),(4,bv i)]) (λi=>i<=R l/\ZP (su l) 0 l=ZP (su l) i (l.drop i)/\x4 l i) (λi=>R l - i) 0 ⟨Zr _,O,λj y h=>absurd h<|bπ _⟩ ⟨O,O,O,Zo⟩ (λ_=>O) ?_;rintro i ⟨hi,o,p⟩;refine ro 6 O<|kc (zk S6 O)<|rr 3 O<|kB O (λP=>?_) λP=>?_
 ·have a:i<R l:=by omega
  have b:i - 1<R l:=by omega
  refine ro 9 O<|kc (zI S6 O I O) ?_;refine rr 10 O<|kc (zK Y4 call98 O)<|kc (S.Xb .none O<|zt O)<|jm O<|RK.ZS (t:=30) O (λL=>?_) λL=>?_
  ·have d:=PZ k (SI o a ((TE b _).trans<|DY<|by first|(simp_all[YR,Y5];done)|(simp_all[YR,Y5];intros;omega)) C);refine rr 29 O<|kS O O O O ?_;rw[d];try rfl
  refine rr 2 O<|kc (S.call Y4 call98 (zg O O) O (zc O<|zC O<|zD O) O)<|kc (S.Xb (zg O O) O<|zt O)<|rr 2 O<|RK.ZS (t:=36) O (λK=>?_) λK=>?_
  ·have d:=PZ k (SI o a ((TE b _).trans<|DY<|by first|(simp_all[YR,Y5];done)|(simp_all[YR,Y5];intros;omega)) C);refine rr 23 O<|kS O O O O ?_;rw[d];try rfl
  refine rr 3 O<|kc (S.call K0 call316 (zg O O) O (zc O .nil) O)<|kc (S.not (zg O O) O<|zt O)<|rr 2 O<|RK.split (t:=43) O (λJ=>?_) λJ=>?_
  ·have d:=PZ k (SI o a ((TE b _).trans<|DY<|by first|(simp_all[YR,Y5];done)|(simp_all[YR,Y5];intros;omega)) C);refine rr 16 O<|kS O O O O ?_;rw[d];try rfl
  refine rr 3 O<|kc (S.call K0 call316 (zg O O) O (zc O .nil) O)<|kc (S.not (zg O O) O<|zt O)<|rr 3 O<|OK.cond O O (λN=>?_) λN=>?_
  ·have d:=PZ k (SI o a ((TE b _).trans<|DY<|by first|(simp_all[YR,Y5];done)|(simp_all[YR,Y5];intros;omega)) C);refine ro 7 O<|kS O O O O ?_;rw[d];try rfl
  have x:(YR l[i].depth&&YR l[i].diag&&Y5 l[i].lo&&Y5 l[i].hi)=true:=by simp_all[YR,Y5]
  obtain⟨U,T⟩:(1<=l[i].depth/\l[i].depth<=10000)/\(1<=l[i].diag/\l[i].diag<=10000):=by
   simp only[Zw]at x;exact⟨pf x.1.1.1,pf x.1.1.2⟩
  refine ro 14 O<|kB O (λu=>?_) λu=>?_
  ·have d:=PZ k<|SI o a ((TE b _).trans<|aZ x u) C;refine ro 7 O<|kS O O O O ?_;rw[d];try rfl
  have z:=(TE b l[i]).trans<|a_ x u;refine ro 8 O<|RK.ZS (t:=61) O (λH=>?_) λH=>?_
  ·refine rr 2 O ?_;refine kc (S.mul (zg O O) O (.Zg O) (zt O) (mn _ I)<|mn _ I) ?_;refine rr 2 O ?_;refine kc (S.mul (zg O O) O (.Zg O) (zt O) (mn _ I)<|mn _ I) ?_;refine rr 4 O<|kB O (λM=>?_) λM=>?_
   ·have d:=PZ k (SI o a (z.trans<|by rw[Zn (show i=0 by omega),Zy (show¬2 * l[i].depth>=5 * l[i].diag by omega)];try rfl) (by decide:(17:Int)≠0));refine ro 7 O<|kS O O O O ?_;rw[d];try rfl
   refine ro 3 O ?_;by_cases F:(i:Int)>0
   ·have m:Pq l[i - 1]:=(p.prev a).resolve_left I;have E:=m.depth;have B:=m.diag;exfalso;omega
   refine kV (.c (zm O)<|.c (S.gtr .none O (zt O)<|.Zg O)<|.c (zm O)<|.c (zG O W)<|.c (zG O W)<|.c (zG O W)<|.c (zG O W)<|.c (zG O W)<|.c (zG O W)<|.c (zG O W)<|.c (zG O W)<|.c (zG O W)<|.c (zG O W)<|.c (zG O W)<|.c (zG O W)<|.c (zG O W)<|.c (zG O W)<|.c (zG O W)<|.c (zG O W)<|.c (zG O W)<|.c (zG O W)<|.c (zG O W)<|.c (zG O W)<|.c (zG O W)<|.c (zG O W)<|.c (S.Ug .none O (zt O) .Wx W) .nil) ?_;refine Rd 10 O I ?_;have w:su l i l[i]=0:=by
    rw[z];split
    ·rw[Zz (show 2 * l[i].depth>=5 * l[i].diag by omega)];rfl
    rw[Zz (show l[i].depth - l[i - 1].depth>=3 * max l[i].diag l[i - 1].diag by first|omega|(split at q<;>omega))];rfl
   refine Ab.D.lp ⟨i+1,⟨by omega,we o a w,p.succ a (JH λe=>e<|(TE b _).symm.trans w).1⟩,I,O,O,O,Zo⟩
  refine rr 14 O ?_;by_cases F:(i:Int)>0
  ·have m:Pq l[i - 1]:=(p.prev a).resolve_left I;have E:=m.depth;have B:=m.diag;refine kV (.c (zm O)<|.c (S.gtr .none O (zt O)<|.Zg O)<|.c (zm O)<|.c (S.VN fi354_0 (.yes O O O W) O<|zt O)<|.c (S.YH YK (.yes O O O W) O (zt O) O O O O)<|.c (S.VN Nu (.yes O O O W) O<|zt O)<|.c (S.YH DA (.yes O O O W) O (zt O) O O O O)<|.c (S.move (.yes O O O W) O<|zt O)<|.c (S.sub (.yes O O O W) O (zt O) (.Zg O) (mn _ I)<|mn _ I)<|.c (S.Zi (n:=(i - 1)) S6 (.yes O O O W) O (zt O) (zt O) I b O)<|.c (S.field fi354_0 (.yes O O O W) O (zt O) O)<|.c (S.Q_ YK (.yes O O O W) O (zt O) O)<|.c (S.sub (.yes O O O W) O (zt O) (zt O) (mn _ I)<|mn _ I)<|.c (S.VN wm (.yes O O O W) O<|zt O)<|.c (S.YH YK (.yes O O O W) O (zt O) O O O O)<|.c (S.VN Nu (.yes O O O W) O<|zt O)<|.c (S.YH DA (.yes O O O W) O (zt O) O O O O)<|.c (S.move (.yes O O O W) O<|zt O)<|.c (S.sub (.yes O O O W) O (zt O) (.Zg O) (mn _ I)<|mn _ I)<|.c (S.Zi (n:=(i - 1)) S6 (.yes O O O W) O (zt O) (zt O) I b O)<|.c (S.field wm (.yes O O O W) O (zt O) O)<|.c (S.Q_ YK (.yes O O O W) O (zt O) O)<|.c (S.max2 (.yes O O O W) O (zt O)<|zt O)<|.c (S.mul (.yes O O O W) O (.Zg O) (zt O) (mn _ I)<|mn _ I)<|.c (S.lss (.yes O O O W) O (zt O)<|zt O)<|.c (S.Tc .none O (zt O) (zt O) W) .nil) ?_;refine Ab.D.code<|kB O (λq=>?_) λq=>?_
   ·have d:=PZ k (SI o a (z.trans<|by rw[Zm (show¬i=0 by omega),Zy (show¬l[i].depth - l[i - 1].depth>=3 * max l[i].diag l[i - 1].diag by split at q<;>omega)];try rfl) (by decide:(17:Int)≠0));refine ro 7 O<|kS O O O O ?_;rw[d];try rfl
   refine Ro 8 O I ?_;have w:su l i l[i]=0:=by
    rw[z];split
    ·rw[Zz (show 2 * l[i].depth>=5 * l[i].diag by omega)];rfl
    rw[Zz (show l[i].depth - l[i - 1].depth>=3 * max l[i].diag l[i - 1].diag by first|omega|(split at q<;>omega))];rfl
   refine Ab.D.lp ⟨i+1,⟨by omega,we o a w,p.succ a (JH λe=>e<|(TE b _).symm.trans w).1⟩,I,O,O,O,Zo⟩
  exfalso;omega
 refine ro 3 O ?_;have d:=PZ k (o.trans<|by rw[show i=R l by omega,da];try rfl);refine ro 5 O<|kS O O O O ?_;rw[d];try rfl
def LY:Ct prog 250 [.agg [.sl<|l.map ZK.cs]]<|bv (WS l).2:=by
 refine cI func250 O<|ro 9 O<|kc (zK (NX (l:=l)) call283 O)<|rr 13 O<|kR O O ?_;rfl
def NY{s:ba}(p:R s<=100000):Ct prog 202 [.str s]<|.Yy [.agg [.sl<|(Y9 s).1.map ZK.cs],bv (Y9 s).2]:=by
 refine cI func202 O λ{_ _}=>?_
 have t:=F7 (n:=4) p;refine ro 9 O<|kc (zK (Co (n:=4) p) call249 O)<|rr 14 O<|kB O (λa=>?_) λa=>?_
 ·have b:=Nd (s:=s) (by rw[Zm a];exact a);rw[Zm a]at b;refine kr<|kc (zU j4 O O)<|rr 5 O<|OK.ret<|Y3.r2 (.XU O O O O E0 O<|.k .ZM .z) (zo O O) ?_;rw[b];try rfl
 have d:(Yq 4 s).2=0:=Zu.1 a;refine ro 14 O<|OK.VL 6 0 880 4 O O O O O ?_;refine OK.loop (G:=Nat) [2,6,880] (λk=>[(2,.ptr 2 0),(1002,.box [.ZM]),(4,.sl<|(Yq 4 s).1.map λr=>[ints r]),(6,.ptr 6 0),(1006,.box [.own 880 k]),(2880,.arr 4<|(((Yq 4 s).1.take k).map Xy).map ZK.cs),(7,bv k)]) (λk=>k<=R (Yq 4 s).1) (λk=>R (Yq 4 s).1 - k) 0 (Zr _) ⟨O,O,O,O,O,(ZX N),O,Zo⟩ (λ_=>O) ?_;rintro k u;refine ro 5 O<|kc (zk Dh O)<|rr 3 O<|kB O (λo=>?_) λo=>?_
 ·have h:k<R (Yq 4 s).1:=by omega
  have q:=F8<|Zt h;have m:(Xy (Yq 4 s).1[k]).cs=[bv<|(Yq 4 s).1[k][0],bv<|(Yq 4 s).1[k][1],bv<|(Yq 4 s).1[k][2],bv<|(Yq 4 s).1[k][3]]:=by unfold Xy ZK.cs;rw[TJ I,TJ I,TJ I,TJ I]
  refine ro 4 O ?_;refine kV (.c (zf Nu O)<|.c (zl DA O O O O)<|.c (zm O)<|.c (zm O)<|.c (zI Dh O I O)<|.c (zV Md O O)<|.c (S.Zi (n:=0) X9 .none O (zt O) (.Zg O) O I O)<|.c (zV YK O O)<|.c (zm O)<|.c (zm O)<|.c (zI Dh O I O)<|.c (zV Md O O)<|.c (S.Zi (n:=1) X9 .none O (zt O) (.Zg O) O I O)<|.c (zV YK O O)<|.c (zm O)<|.c (zm O)<|.c (zI Dh O I O)<|.c (zV Md O O)<|.c (S.Zi (n:=2) X9 .none O (zt O) (.Zg O) O I O)<|.c (zV YK O O)<|.c (zm O)<|.c (zm O)<|.c (zI Dh O I O)<|.c (zV Md O O)<|.c (S.Zi (n:=3) X9 .none O (zt O) (.Zg O) O I O)<|.c (zV YK O O)<|.c (zU lQ O O)<|.c (zU bu354 O O)<|.c (zM [[_,_,_,_]] gT O O O O)<|.c (zP gT O O (wJ _ I) N I<|by simp only[maxLen];omega)<|.c (zf Nu O)<|.c (zS DA O O O O O O) .nil) ?_;refine Rd 7 O I ?_;refine Ab.D.lp ⟨k+1,I,I,O,O,O,O,O,(ZX<|by rw[Bj h,m];try rfl),O,Zo⟩
 refine ro 4 O ?_;have j:k=R (Yq 4 s).1:=by omega
 subst j;rw[List.take_length];refine OK.TP 6 0 O O O O (by rw[Zx,Zx]) O ?_;refine ro 2 O<|kc (zK (LY (l:=(Yq 4 s).1.map Xy)) call250 O)<|rr 9 O<|kB O (λe=>?_) λe=>?_
 ·have b:=Nd (s:=s) (by rw[Zn d];exact e);rw[Zn d]at b;refine kr<|kc (zU j4 O O)<|rr 5 O<|OK.ret<|Y3.r2 (.XU O O O O E0 O<|.k .ZM .z) (zo O O) ?_;rw[b];try rfl
 have b:=EO (s:=s) (by rw[Zn d];exact e);refine ro 9 O<|kT O O E0 O O O ?_;rw[b];try rfl
def Cm(e:R l<=20):Ct prog 252 [.agg [.sl<|l.map ZK.cs],bv 0]<|.sl<|(UF l).map GN:=by
 refine cI func252 O<|ro 3 O<|kc (S.assign .none O .Ya)<|rr 4 O<|RK.c (S.XG (k:=5) (sz:=2) .none O)<|rr 9 O ?_;refine OK.loop (G:=Nat) [2,5] (λi=>[(1,bv 0),(2,.ptr 2 0),(1002,.box [.sl<|l.map ZK.cs]),(5,.own 5 i),(2005,.arr 2<|((UF l).take i).map GN),(6,bv i)]) (λi=>i<=R l) (λi=>R l - i) 0 (Zr _) ⟨O,O,O,(ZH N),(ZX N),O,Zo⟩ (λ_=>O) ?_;rintro i hi;refine ro 6 O<|kc (zk S6 O)<|rr 3 O<|kB O (λd=>?_) λd=>?_
 ·have b:i<R l:=by omega
  refine ro 9 O<|kc (zI S6 O I O) ?_;refine rr 5 O ?_;refine kV (.c (zm O)<|.c (zf fi354_0 O)<|.c (zl YK O O O O)<|.c (zf Sf O)<|.c (zf UT O)<|.c (zl YK O O O O)<|.c (zf Sf O)<|.c (zf TI O)<|.c (zl YK O O O O)<|.c (zM [[_],[_]] Xr O O O O)<|.c (zm O)<|.c (S.Mb (i:=0) X9 .none O (zt O) O O (zt O) O I)<|.c (S.EZ YK .none O (zt O) O O O)<|.c (zU bu398 O O)<|.c (zM [[_,_]] hU O O O O)<|.c (zP hU O O (JS (Ic l) hi) N I<|by simp only[maxLen];omega)<|.c (za O) .nil) ?_;refine Rd 7 O I ?_;refine Ab.D.lp ⟨i+1,I,I,O,O,O,O,(ZX<|by rw[nV b,ne];rfl),O,Zo⟩
 refine ro 3 O ?_;have a:i=R l:=by omega
 rw[Ep (Ic l) a];refine OK.freeze 5 O O O (by rw[Zx,Ic];exact a.symm) ?_;refine ro 5 O<|kR O O ?_;rfl
def Cn(e:R l<=20):Ct prog 252 [.agg [.sl<|l.map ZK.cs],bv 1]<|.sl<|(X5 l).map GN:=by
 refine cI func252 O<|ro 3 O<|kc (S.assign .none O .Ya)<|rr 4 O<|RK.c (S.XG (k:=5) (sz:=2) .none O)<|rr 9 O ?_;refine OK.loop (G:=Nat) [2,5] (λi=>[(1,bv 1),(2,.ptr 2 0),(1002,.box [.sl<|l.map ZK.cs]),(5,.own 5 i),(2005,.arr 2<|((X5 l).take i).map GN),(6,bv i)]) (λi=>i<=R l) (λi=>R l - i) 0 (Zr _) ⟨O,O,O,(ZH N),(ZX N),O,Zo⟩ (λ_=>O) ?_;rintro i hi;refine ro 6 O<|kc (zk S6 O)<|rr 3 O<|kB O (λd=>?_) λd=>?_
 ·have b:i<R l:=by omega
  refine ro 9 O<|kc (zI S6 O I O) ?_;refine rr 5 O ?_;refine kV (.c (zm O)<|.c (zf fi354_0 O)<|.c (zl YK O O O O)<|.c (zf Sf O)<|.c (zf UT O)<|.c (zl YK O O O O)<|.c (zf Sf O)<|.c (zf TI O)<|.c (zl YK O O O O)<|.c (zM [[_],[_]] Xr O O O O)<|.c (zm O)<|.c (S.Mb (i:=1) X9 .none O (zt O) O O (zt O) O I)<|.c (S.EZ YK .none O (zt O) O O O)<|.c (zU bu398 O O)<|.c (zM [[_,_]] hU O O O O)<|.c (zP hU O O (JS (Nf l) hi) N I<|by simp only[maxLen];omega)<|.c (za O) .nil) ?_;refine Rd 7 O I ?_;refine Ab.D.lp ⟨i+1,I,I,O,O,O,O,(ZX<|by rw[rG b,ne];rfl),O,Zo⟩
 refine ro 3 O ?_;have a:i=R l:=by omega
 rw[Ep (Nf l) a];refine OK.freeze 5 O O O (by rw[Zx,Nf];exact a.symm) ?_;refine ro 5 O<|kR O O ?_;rfl
def AR{n:Int}:Ct prog 284 [bv n]<|.agg (GB.mk n 1).cs:=by
 refine cI func284 O<|ro 8 O<|kc (zU b8 O O)<|rr 3 O<|OK.ret<|Y3.r1 (zy O O OH O) ?_;rfl
def sV{a b:Int}(m:0<=a/\a<=1000000000000)(k:0<=b/\b<=1000000000000):Ct prog 317 [bv a,bv b]<|bv<|ON a b:=by
 refine cI func317 O<|ro 7 O ?_;refine OK.We [] (λ(x:Int)(y:Int)=>[(0,bv x),(1,bv y)]) (λx y=>(0<=x/\x<=1000000000000)/\(0<=y/\y<=1000000000000)/\ON a b=ON x y) (λx y=>y.toNat) a b ⟨m,k,O⟩ ⟨O,O,Zo⟩ (λ_ _=>O) ?_;rintro x y ⟨h,e,j⟩;refine ro 7 O<|kB O (λd=>?_) λd=>?_
 ·have o:0<=x.tmod y:=bη y h.1;have p:x.tmod y<y:=bδ x I;refine ro 3 O ?_;refine kV (.c (zm O)<|.c (zm O)<|.c (zm O)<|.c (S.rem .none O (zt O) (zt O) d O<|mn _ I)<|.c (za O)<|.c (za O) .nil)<|Ab.D.blk<|Ab.D.lp ⟨y,x.tmod y,⟨e,⟨o,I⟩,?_⟩,I,O,O,Zo⟩;rw[j,Rv h.1 e.1 d]
 refine ro 5 O<|kc (zK (Dk (n:=x) I) call332 O) ?_;refine rr 3 O<|kR O O ?_;have:y=0:=I
 subst this;rw[j,DP];refine YL ?_;omega
def Di{a b:Int}(h:0<=a/\a<=1000000000000)(m:1<=b/\b<=1000000000000):Ct prog 285 [bv a,bv b]<|.agg (TZ a b).cs:=by
 refine cI func285 O λ{_ _}=>?_
 have d:=MG (a:=a) (b:=b) h.1 I;have k:=Gk h.1 d;have j:=Gk (a:=b) I d;refine ro 9 O<|kc (zK (sV ⟨I,I⟩ ⟨I,I⟩) call317 O) ?_;refine rr 10 O<|kB O (λe=>?_) λe=>?_
 ·exfalso;omega
 refine ro 3 O ?_;refine kV (.c (zm O)<|.c (zm O)<|.c (S.quo .none O (zt O) (zt O) I (mn _ I)<|mn _ I)<|.c (zm O)<|.c (zm O)<|.c (S.quo .none O (zt O) (zt O) I (mn _ I)<|mn _ I)<|.c (zU b8 O O)<|.c (zS OH O O O O O O) .nil)<|Ab.D.code<|OK.ret<|Y3.r1 (zy O O OH O) ?_;rfl
def IQ{c:List<|Int×Int}(j:Hp c){limit:Int}(z:0<=limit/\limit<=2000):Ct prog 251 [.sl<|c.map GN,bv limit]<|.Yy [.agg (Xp c limit).1.cs,.bool (Xp c limit).2]:=by
 refine cI func251 O<|OK.XF (vi:=c.map GN) (t:=0) O O λqk=>?_;rw[Zx]at qk;unfold maxLen at qk;refine kr<|RK.c (zA (c:=4) ze53 O)<|jb O<|kD<|kO<|kr ?_;refine ji O O<|kD<|OK.block<|OK.loop (G:=Nat) [4] (λi=>[(0,.sl<|c.map GN),(1,bv limit),(4,.ptr 4 0),(1004,.box [bv 0,bv 0]),(6,bv i)]) (λi=>i<=R c/\ix (Vt limit) c=VF (Vt limit) i (c.drop i)) (λi=>R c - i) 0 ⟨Zr _,O⟩ ⟨O,O,O,O,O,Zo⟩ (λ_=>O) ?_;rintro i ⟨hi,p⟩;refine OK.seq<|kr ?_;refine jm O<|jm O<|kc (zk vp O)<|kc (S.lss .none O (zt O)<|zt O)<|kD<|kB O (λw=>?_) λw=>?_
 ·have d:i<R c:=by omega
  refine OK.skip<|Ab.D.code<|kO<|OK.block<|OK.seq<|kr ?_;refine jm O<|jm O<|kc (zI vp O I O)<|kc (S.field Oa .none O (zt O) O)<|kc (zV YK O O)<|jm O<|kc (S.geq .none O (zt O)<|zt O)<|kD<|kB O (λu=>?_) λu=>?_
  ·refine OK.exit O<|Ab.D.code<|OK.R3 ?_;refine jm O (kc (zp O O I)<|ja O<|RK.nil<|Ab.D.lp ⟨i+1,⟨by omega,iw p d<|Zy I⟩,I,O,O,O,O,O,Zo⟩)
  have e:=bl p d<|Zz I;refine OK.skip<|Ab.D.code<|kO<|kr ?_;refine jm O<|kc (zE O O)<|kD<|kB O (λq=>?_) λq=>?_
  ·have o:i=0:=by omega
   subst o;have K:=j.at_ _<|Zt d;have h:=Mt e d;rw[iE I]at h;refine kr<|jm O<|kc (S.Zi (n:=0) vp .none O (zt O) (.Zg O) O d O)<|kc (S.field JA .none O (zt O) O)<|kc (zV YK O O)<|kc (zK AR call284 O)<|kc (zS OH O O O O O O)<|jb O<|kD<|kT O O OH O O O ?_;rw[h];try rfl
  obtain⟨k,rfl⟩:∃k,i=k+1:=⟨i - 1,by omega⟩;have h:=Mw e d;obtain⟨P,N,M,L⟩:=JJ j z e d;have m:k<R c:=by omega
  have xf:=line_eq c[k+1].1 c[k].1 c[k+1].2 c[k].2 limit;have J:=j.at_ _<|Zt d;have H:=j.at_ _<|Zt m;have F:=j.num _<|Zt d;have E:=j.num _<|Zt m;have y:=O7 (a:=c[k].1) (b:=c[k].2 - c[k+1].2) (A:=10000) (B:=2000) I I C;have x:=O7 (a:=c[k].2 - limit) (b:=c[k+1].1 - c[k].1) (A:=2000) (B:=10000) I I C;rw[←xf]at h;refine OK.skip<|Ab.D.code<|kO<|kV (.c (zm O)<|.c (zm O)<|.c (S.sub .none O (zt O) (.Zg O) (mn _ I)<|mn _ I)<|.c (S.Zi (n:=k) vp .none O (zt O) (zt O) I m O)<|.c (S.Vj vH .none O (zt O) O O)<|.c (zm O)<|.c (zm O)<|.c (S.Zi (n:=(k+1)) vp .none O (zt O) (zt O) O d O)<|.c (S.Vj vH .none O (zt O) O O)<|.c (zA (c:=7) fT O)<|.c (zA (c:=8) fT O)<|.c (zS vH O O O O O O)<|.c (zS vH O O O O O O) .nil)<|kp<|jf JA O<|kc (zl YK O O O O)<|jf Oa O<|kc (zl YK O O O O)<|jf Oa O<|kc (zl YK O O O O)<|kc (S.sub .none O (zt O) (zt O) (mn _ I)<|mn _ I) ?_;refine kc (S.mul .none O (zt O) (zt O) (mn _ I)<|mn _ I)<|jf Oa O<|kc (zl YK O O O O)<|jm O<|kc (S.sub .none O (zt O) (zt O) (mn _ I)<|mn _ I)<|jf JA O<|kc (zl YK O O O O)<|jf JA O<|kc (zl YK O O O O)<|kc (S.sub .none O (zt O) (zt O) (mn _ I)<|mn _ I)<|kc (S.mul .none O (zt O) (zt O) (mn _ I)<|mn _ I)<|kc (S.add .none O (zt O) (zt O) (mn _ I)<|mn _ I) ?_;refine jf Oa O<|kc (zl YK O O O O)<|jf Oa O<|kc (zl YK O O O O)<|kc (S.sub .none O (zt O) (zt O) (mn _ I)<|mn _ I)<|kc (zK (Di I I) call285 O)<|kc (zS OH O O O O O O)<|jb O<|kD<|kT O O OH O O O ?_;rw[h];try rfl
 refine OK.exit O<|Ab.D.code<|kO ?_;have h:=Mu<|bh p I;refine OK.R3<|kc (zU b8 O O)<|kc (zS OH O O O O O O)<|jb O<|kD<|kT O O OH O O O ?_;rw[h];try rfl
def uR{limit:Int}(m:¬ZW [(WS l).2,Z8 (Y5 limit) 2]≠0):Ct prog 203 [.agg [.sl<|l.map ZK.cs],bv limit]<|.Yy [.agg (Y6 l limit).1.cs,bv (Y6 l limit).2]:=by
 refine cI func203 O λ{_ _}=>?_
 obtain⟨t,q⟩:=vY m;have b:=J5 t;have j:0<=limit/\limit<=2000:=pf q;have h:=b.len;have p:0<R l:=I
 have o:0<R (X5 l):=by rw[Nf];omega
 have d:((X5 l).getD 0 (0,0)).2=l[0].hi:=by rw[TJ o];simp[X5]
 refine ro 12 O<|kc (S.Zi (n:=0) S6 .none O (zt O) (.Zg O) O p O)<|rr 7 O<|kB O (λa=>?_) λa=>?_
 ·have k:=Ju m (by rw[d];exact a);refine kr<|kc (zU lT O O)<|rr 4 O<|kT O O G5 O O O ?_;rw[k];try rfl
 refine ro 5 O<|kc (zK (Cn h.2) call252 O)<|jm O<|kc (zK (IQ b.upper j) call251 O)<|rr 12 O<|kc (S.not .none O<|zt O)<|kD<|OK.cond O O (λe=>?_) λe=>?_
 ·have k:=Jv m (by rw[d];exact a) (by simpa using e);refine kr<|kc (zU lT O O)<|rr 4 O<|kT O O G5 O O O ?_;rw[k];try rfl
 have k:=Dm m (by rw[d];exact a) (by simpa using e);refine ro 5 O<|kc (zK (Cm h.2) call252 O)<|jm O<|kc (zK (IQ b.lower j) call251 O)<|rr 12 O<|kc (zU lT O O)<|rr 4 O<|kT O O G5 O O O ?_;rw[k];try rfl
theorem Lt{α:Type}(g:Nat->α->Int):∀(l:List α)(k:Nat),(∀(i:Nat)(h:i<R l),g (k+i) l[i]=0)->(ZP g k l).2=0
 |[],_,_=>rfl
 |x::l,k,h=>by
  have h0:g k x=0:=h 0 F;rw[ZP,Zm<|by simp[h0]];exact Lt g l (k+1) λi hi=>by
   have:=h (i+1) (by grind);grind
def Hj(plan:Zf)(l:List Frame):Prop:=(∀f∈l,Yp plan f=0)/\∀(i j:Nat)(a b:Frame),l[i]?=some a->l[j]?=some b->a.tick=b.tick->i=j
theorem Hj.rec{plan:Zf}{l:List Frame}(o:Y_ plan=0)(h:Hj plan l)(t:R l<=40):Um plan l=0:=by
 have h0:=CV plan l;have vy:∀i,i<=R l->NH plan l i/\∀j (hj:j<i) (hjl:j<R l),RU plan l j l[j]=0:=by
  intro i
  induction i with
  |zero=>simp_all
  |succ i d=>
   intro hi;obtain⟨q,w⟩:=d I;have b:i<R l:=I
   have u:RU plan l i l[i]=0:=by
    rw[nq b q,vg,Zm (by simp[h.1 _<|Zt b]),Zm ?_];intro e;obtain⟨x,m,a⟩:=dτ.1 e;simp only[Zw,de]at a;obtain⟨k,p,rfl⟩:=dl m;rw[sc]at p;rw[dξ]at a;have:=h.2 k i l[k] l[i] (Zv I) (Zv b) a.1;omega
   grind [K3]
 unfold Um;rw[Zm (by simp[o]),Zm I];exact Lt _ l 0 λi hi=>by
  grind
variable{v:Hd×Part}{j:Nat}{q:Nat×Nat}{p:Part}
variable{A:SA}
def SA.uj(h:A.ch=some q):A.cs[1]?=some (.raw<|.slice (some ⟨q.1,0,none⟩) (R A.Z5) q.2):=by show some (X.raw<|A.ch.w _)=_;rw[h];rfl
def SA.TC(h:A.ph=some q):A.cs[2]?=some (.raw<|.slice (some ⟨q.1,0,none⟩) (R A.parts) q.2):=by show some (X.raw<|A.ph.w _)=_;rw[h];rfl
def SA.rawM(h:A.mh=some q):A.cs[3]?=some (.raw<|.slice (some ⟨q.1,0,none⟩) (R A.Z3) q.2):=by show some (X.raw<|A.mh.w _)=_;rw[h];rfl
def SA.dL(h:A.ch=some q):A.mem .c=some (q.1,.row 3 q.2<|A.Z5.map XA.cs):=by show A.ch.map _=_;rw[h];rfl
def SA.Oh(h:A.ph=some q):A.mem .p=some (q.1,.row 13 q.2<|A.parts.map pC):=by show A.ph.map _=_;rw[h];rfl
def SA.atM(h:A.mh=some q):A.mem .m=some (q.1,.row 1 q.2<|A.Z3.map Kh):=by show A.mh.map _=_;rw[h];rfl
theorem Vb{q:Hd}{l:List α}{x:α}(h:q=none->l=[])(a:l[i]?=some x):∃p,q=some p:=by
 cases q<;>grind
def Yo{β:Type}{f:α->β}{l:List α}{x:α}(h:l[i]?=some x):(l.map f)[i]?=some (f x):=by simp_all
def Vs{g:α->Bool}{l:List α}(h:ix g l=some i):ZC g 0 l=i:=by rw[SO,h]
def SA.Qm(A:SA)(j:Nat)(c:XA):SA:={A with Z5:=A.Z5.set j c}
def SA.Zh(A:SA)(i:Nat)(v:Hd×Part):SA:={A with parts:=A.parts.set i v}
def SA.I0(h:A.ch=some q)(j:Nat)(c:XA):A.mem.set .c (some (q.1,.row 3 q.2<|(A.Z5.map XA.cs).set j c.cs))=(A.Qm j c).mem:=funext λk=>by
 cases k with
 |c=>show some _=A.ch.map _;rw[h,←bτ];rfl
 |_=>exact HM.Z0 _ _ Z
def SA.xw(j:Nat)(c:XA):(A.Qm j c).cs=A.cs:=by simp[SA.Qm,SA.cs]
def SA.Ok.Qm(h:A.Ok)(j:Nat)(c:XA):(A.Qm j c).Ok:=⟨h.rh,λe=>by show A.Z5.set j c=[];rw[h.ch e];rfl,h.ph,h.mh,h.fh⟩
def set_eq{l:List α}{x:α}(h:l[i]?=some x)(f:α->α):l.set i (f x)=l.modify i f:=(WH h f).symm
def SA.EG{c:XA}(h:A.Z5[j]?=some c)(f:XA->XA):(A.Qm j<|f c).st={A.st with Z5:=A.st.Z5.modify j f}:=by simp_all[SA.Qm,SA.st,set_eq]
theorem SA.S4(h:A.ph=some q)(a:A.parts[i]?=some v)(b:p.frames=v.2.frames):A.mem.set .p (some (q.1,.row 13 q.2<|(A.parts.map pC).set i<|p.cells<|.raw<|v.1.w<|R v.2.frames))=(A.Zh i (v.1,p)).mem:=funext λk=>by
 cases k with
 |p=>show some _=A.ph.map _;rw[h];show _=some (_,HK.row 13 _<|(A.parts.set i (v.1,p)).map pC);rw[bτ];unfold pC;dsimp only;rw[b]
 |f j=>
  refine(HM.Z0 _ _ Z).trans ?_;show A.parts[j]?.bind _=(A.parts.set i (v.1,p))[j]?.bind _;rw[aχ];split
  ·rename_i e;subst e;rw[a,Zn (ae.1 a).1];show Option.map _ v.1=Option.map _ v.1;rw[b]
  rfl
 |_=>exact HM.Z0 _ _ Z
theorem SA.Gb(h:A.ph=some q){hd:Hd}{a:Part}(b:A.parts[i]?=some (hd,a))(n:Nat)(d:p.frames=a.frames)(e:n=a.frames.length):A.mem.set .p (some (q.1,.row 13 q.2<|(A.parts.map pC).set i<|p.cells<|.raw<|hd.w n))=(A.Zh i (hd,p)).mem:=by grind [SA.S4]
def SA.T5(i:Nat)(v:Hd×Part):(A.Zh i v).cs=A.cs:=by simp[SA.Zh,SA.cs]
def SA.Ok.Zh(h:A.Ok){i:Nat}{v:Hd×Part}(a:v.1=none->v.2.frames=[]):(A.Zh i v).Ok:=⟨h.rh,h.ch,λe=>by show A.parts.set i v=[];rw[h.ph e];rfl,h.mh,λw hw=>(aξ hw).elim (h.fh w) λe=>e▸a⟩
def SA.Sn(h:A.parts[i]?=some v)(q:Hd)(f:Part->Part):(A.Zh i (q,f v.2)).st=A.st.Zh i f:=by
 simp_all[SA.Zh,SA.st,State.Zh,set_eq]
theorem SA.Uq(h:A.parts[i]?=some v):A.st.p i=v.2:=by simp_all[State.p,SA.st]
def SA.To{M:HM SK}{xs:bi}{s:State}(h:A.Ok)(b:M=A.mem)(a:xs=A.cs)(hs:A.st=s):CX M (.agg xs)<|.agg s.cs:=by subst b;subst a;subst hs;exact h.fz
def SA.newP(A:SA)(q:Nat×Nat)(p:Part):SA:={A with ph:=some q,parts:=A.parts++[(none,p)]}
def SA.oF(q:Nat×Nat)(p:Part):A.mem.set .p (some (q.1,.row 13 q.2<|A.parts.map pC++[pC (none,p)]))=(A.newP q p).mem:=funext λk=>by
 cases k with
 |p=>show some _=some _;rw[←dι,←ne];rfl
 |f j=>
  refine(HM.Z0 _ _ Z).trans ?_;show A.parts[j]?.bind _=(A.parts++[(none,p)])[j]?.bind _;rcases w7 j (R A.parts) with h|h
  ·rw[m6 h]
  rw[aκ h,bζ h];cases j - R A.parts with
  |zero=>rfl
  |succ n=>rfl
 |_=>exact HM.Z0 _ _ Z
def SA.Ok.newP(h:A.Ok)(q:Nat×Nat){p:Part}(a:p.frames=[]):(A.newP q p).Ok:=⟨h.rh,h.ch,λe=>(by cases e),h.mh,λw hw=>(List.mem_append.1 hw).elim (h.fh w) λe=>by simp_all⟩
def SA.addF(A:SA)(i:Nat)(q:Nat×Nat)(p:Part)(f:Frame):SA:=A.Zh i (some q,{p with frames:=p.frames++[f]})
def SA.ld{c:Nat×Nat}(h:A.ph=some c)(a:A.parts[i]?=some v)(q:Nat×Nat)(f:Frame):(A.mem.set (.f i)<|some (q.1,.Te 2 q.2<|v.2.frames.map Frame.cs++[f.cs])).set .p (some (c.1,.row 13 c.2<|(A.parts.map pC).set i<|v.2.cells<|.raw<|.slice (some ⟨q.1,0,none⟩) (R (v.2.frames.map Frame.cs)+1) q.2))=(A.addF i q v.2 f).mem:=funext λk=>by
 cases k with
 |p=>
  show some _=A.ph.map _;rw[h];show _=some (_,HK.row 13 _<|(A.parts.set i _).map pC);rw[bτ,Zx];show _=some (_,HK.row 13 _<|List.set _ _<|pC (some q,{v.2 with frames:=v.2.frames++[f]}));unfold pC;dsimp only;rw[Zs];rfl
 |f j=>
  refine(HM.Z0 _ _ Z).trans ?_;show(if SK.f j=SK.f i then _ else A.parts[j]?.bind _)=(A.parts.set i _)[j]?.bind _;rw[aχ];by_cases e:i=j
  ·subst e;rw[Zn rfl,Zn rfl,Zn (ae.1 a).1];show _=some (_,HK.Te 2 _<|(v.2.frames++[f]).map Frame.cs);rw[ne];rfl
  rw[Zm (λh=>by cases h;exact e rfl),Zm e]
 |_=>exact(HM.Z0 _ _ Z).trans<|HM.Z0 _ _ Z
section
variable{α:Type}{g:α->Bool}{l:List α}
theorem nK:decide (ZC g 0 l>=0)=(ix g l).isSome:=by
 rw[SO];grind
theorem isS(h:ZC g 0 l>=0):(ix g l).isSome=true:=by grind [nK]
def isN(h:¬ZC g 0 l>=0):¬(ix g l).isSome=true:=by rw[←nK];simp_all
def P_(h:¬ZC g 0 l<0):∃j,ix g l=some j:=sk.1<|isS I
def P9(h:ZC g 0 l<0):ix g l=none:=by
 have:=isN (g:=g) (l:=l) I;simp_all
end
def qZ(s:State)(n:Int)(r c:ba)(j:Nat)(q:XA):SE:=if s.Tk.isSome then(s,17)else if q.ZA=q.Wb then(s,22)else if R s.parts=12 then(s,16)
 else({s with Z5:=s.Z5.modify j λc=>{c with ZA:=c.ZA+1},parts:=s.parts++[⟨n,r,s.YD r,c,[],0,false,0,false,Span.zero⟩]},0)
def N2(s:State)(n:Int)(r c:ba):SE:=match s.Ob c with
 |none=>(s,6)
 |some j=>if s.YD r=0 then(s,6)else if s.Tk.isSome then(s,17)else match s.Z5[j]? with
  |none=>(s,6)
  |some q=>if q.ZA=q.Wb then(s,22)else if R s.parts=12 then(s,16)
   else({s with Z5:=s.Z5.modify j λc=>{c with ZA:=c.ZA+1},parts:=s.parts++[⟨n,r,s.YD r,c,[],0,false,0,false,Span.zero⟩]},0)
variable{s:State}
section
variable{n:Int}{r c:ba}
def jP(h:¬n>1000000):N3 s n r c=if(s.U1 n).isSome then(s,5)else N2 s n r c:=Zm h
theorem q9(h:s.YD r=0):N2 s n r c=(s,6):=by
 unfold N2;grind
def q8(h:s.Ob c=none):N2 s n r c=(s,6):=by unfold N2;rw[h]
def jR{q:XA}(d:s.Ob c=some j)(b:s.Z5[j]?=some q)(a:¬s.YD r=0):N2 s n r c=qZ s n r c j q:=by
 simp_all[N2,qZ]
theorem SA.PX:R A.st.parts=R A.parts:=Zx ..
def SA.iQ(q:Nat×Nat)(p:Part):(A.newP q p).st={A.st with parts:=A.st.parts++[p]}:=by simp[SA.newP,SA.st]
def SA.oD(j:Nat)(d:XA)(q:Nat×Nat)(p:Part):([.raw<|A.rh.w<|R A.ZJ,.raw<|A.ch.w<|R A.Z5,.raw<|.slice (some ⟨q.1,0,none⟩) (R (A.parts.map pC)+1) q.2,.raw<|A.mh.w<|R A.Z3,bv A.env.parts,bv A.env.trim,.sl<|A.env.rows.map λl=>[.sl<|l.map Range.cs]]:bi)=((A.Qm j d).newP q p).cs:=by
 unfold SA.cs SA.newP SA.Qm;dsimp only;rw[wi,Zs,Zx];rfl
end
def IF(p:Zf)(l:List Frame):R (V1 p l).rows=p.ticks.toNat:=by unfold V1;simp
theorem Fl{l:List Frame}{t:Nat}:∀(m:List Frame)(r:Row),(∀f∈m,f∈l)->(r=⟨false,[]⟩\/∃f∈l,r=⟨true,f.values⟩)->
  (m.foldl (λr f=>if f.tick=(t:Int)then⟨true,f.values⟩else r) r=⟨false,[]⟩\/∃f∈l,m.foldl (λr f=>if f.tick=(t:Int)then⟨true,f.values⟩else r) r=⟨true,f.values⟩)
 |[],r,_,h=>h
 |f::m,r,hm,h=>by
  rw[aτ];refine Fl m _ (λg a=>hm g<|rl _ a) ?_;grind
theorem H8(l:List Frame)(t:Nat):V4 l t=⟨false,[]⟩\/∃f∈l,V4 l t=⟨true,f.values⟩:=Fl l _ (λ_ h=>h)<|.inl rfl
def Nr{p:Zf}{l:List Frame}(k:Y_ p=0)(j:∀f∈l,Yp p f=0):(Vv p<|V1 p l).2=0/\∀(i:Nat)(h:i<R (V1 p l).rows),R (V1 p l).rows[i].values<=R p.ZY:=by
 have m:=X_ k;have a:∀x∈(V1 p l).rows,UJ p x=0/\R x.values<=R p.ZY:=λx b=>by
  unfold V1 at b;obtain⟨t,_,rfl⟩:=rx.1 b;rcases H8 l t with e|⟨f,d,e⟩
  ·rw[e];exact⟨rfl,Zr _⟩
  rw[e];have g:=j f d;have g2:=(VM g).2;refine⟨?_,by simp_all⟩;unfold Yp at g;rw[Zm<|Zp (VM<|j f d).1]at g;unfold UJ;simp_all
 refine⟨?_,λi hi=>(a _<|Zt hi).2⟩;unfold Vv;rw[Zm (by rw[IF];omega),Se _ _ 0 λi hi=>(a _<|Zt hi).1]
section
variable{pl:Zf}
structure State.Good(pl:Zf)(s:State):Prop where
 sm:s.Sm
 fr:∀p∈s.parts,Hj pl p.frames/\p.frames.length<=40
 ju:∀p∈s.parts,p.place=0->p.WD=false
 env:0<s.env.rows.length->(Ve pl s.env).2=0
 pl:Y_ pl=0
def State.Good.XE(h:A.st.Good pl)(b:A.parts[i]?=some v):Um pl v.2.frames=0/\WG pl v.2.frames=V1 pl v.2.frames:=by
 have a:=h.fr v.2<|rx.2 ⟨v,mr b,rfl⟩;have d:=Hj.rec h.pl a.1 a.2;simp_all[NB]
def State.Good.vals(h:A.st.Good pl)(a:A.parts[i]?=some v):∀x∈v.2.frames,R x.values<=100000:=(h.sm.fr v.2<|rx.2 ⟨v,mr a,rfl⟩).2
theorem SA.T4(h:A.parts[i]?=some v)(w:Hd×Part):(A.Zh i w).parts[i]?=some w:=by
 show(A.parts.set i w)[i]?=_;grind
def SA.Gc(w w':Hd×Part):(A.Zh i w).Zh i w'=A.Zh i w':=by simp[SA.Zh]
def State.Good.both(h:A.st.Good pl)(a:A.parts[i]?=some v)(b:0<R A.env.rows):Xa pl A.env (V1 pl v.2.frames)=0:=by
 have d:=(h.fr v.2<|rx.2 ⟨v,mr a,rfl⟩).1.1;have e:(Ve pl A.env).2=0:=h.env b;unfold Xa;rw[Zm (by rw[h.pl];decide),Zm I];exact(Nr h.pl d).1
end
variable{pl:Zf}
def end_T(d:Xa pl A.env (V1 pl v.2.frames)=0)(a:WG pl v.2.frames=V1 pl v.2.frames)(b:0<R A.env.rows):Sy pl A.st.env (decide<|0<R A.st.env.rows) v.2={v.2 with place:=1,WD:=true,verdict:=Us A.env (V1 pl v.2.frames)}:=by
 show Sy pl A.env (decide<|0<R A.env.rows) v.2=_;unfold Sy;simp_all
def end_F(a:WG pl v.2.frames=V1 pl v.2.frames)(d:v.2.WD=false)(b:¬0<R A.env.rows):Sy pl A.st.env (decide<|0<R A.st.env.rows) v.2={v.2 with place:=1,verdict:=if(V1 pl v.2.frames).rows.all (λx=>x.known)=true then v.2.verdict else 1}:=by
 show Sy pl A.env (decide<|0<R A.env.rows) v.2=_;simp_all[Sy,WX]
theorem D1(h:ix (λp:Part=>decide<|p.place=0) A.st.parts=some i):∃v,A.parts[i]?=some v/\i<R A.parts/\v.2.place=0:=by
 obtain⟨e,d⟩:=Y8 h;have a:i<R A.parts:=by grind [SA.PX]
 refine⟨A.parts[i],Zv a,a,?_⟩;have b:A.st.parts[i]=A.parts[i].2:=bκ ..;simp_all
theorem xy{l:List α}{x y:α}(h:l[i]?=some x):(l.set i y)[i]?=some y:=by grind
section
variable{f:Frame}{e0:Int}
def mX(a:s.Tk=some i)(h0:e0≠0):Wd pl s f e0=(s,e0):=by simp_all[Wd]
def mY(a:s.Tk=some i)(h:Yp pl f≠0):Wd pl s f 0=(s,Yp pl f):=by simp_all[Wd]
def mZ(b:A.st.Tk=some i)(a:A.parts[i]?=some v)(h:¬Yp pl f≠0)(d:v.2.frames.find? (λg=>decide<|g.tick=f.tick)=none):Wd pl A.st f 0=(A.st.Zh i λp=>{p with frames:=p.frames++[f]},0):=by
 unfold Wd;rw[b];refine(Zm C).trans<|(Zm h).trans ?_;rw[SA.Uq a,d]
def m_{g:Frame}(b:A.st.Tk=some i)(a:A.parts[i]?=some v)(h:¬Yp pl f≠0)(d:v.2.frames.find? (λg=>decide<|g.tick=f.tick)=some g):Wd pl A.st f 0=if g.values=f.values then(A.st,0)else(A.st,13):=by
 simp_all[Wd,SA.Uq]
theorem Fi{g:α->Bool}{l:List α}(h:j<R l):(l.drop j).find? g=if g l[j]=true then some l[j]else(l.drop<|j+1).find? g:=by
 grind [List.drop_eq_getElem_cons]
end
variable{A:SA}
def GW(h:A.Ok)(P:A.st.Sm){L:Sv}:Vi prog 150 [] [.agg A.cs,.agg L.cs,bv<|ZC (λp:Part=>decide<|p.num=L.num) 0 A.st.parts] [(3000,.res<|Z9 A.mem)] [(3000,.res JT)]<|.Yy [.agg (N3 A.st L.num L.Yr L.Yb).1.cs,bv (N3 A.st L.num L.Yr L.Yb).2]:=by
 refine cG func150 O λ{_ _}=>?_
 have H:=P.lp;rw[SA.PX]at H;refine ro 16 O<|kB O (λF=>?_) λF=>?_
 ·have e:N3 A.st L.num L.Yr L.Yb=(A.st,2):=Zn F;refine kr<|RK.cF (zL Zk O O O O) h.fz O O<|rr 4 O<|OK.ret ⟨Y3.r2 (zy O O Zk O) (zo O O) ?_,O,Zo⟩;rw[e];try rfl
 have V:=jP (s:=A.st) (r:=L.Yr) (c:=L.Yb) F;refine ro 9 O<|kB O (λE=>?_) λE=>?_
 ·have e:=V.trans<|Zn<|isS E;refine kr<|RK.cF (zL Zk O O O O) h.fz O O<|rr 4 O<|OK.ret ⟨Y3.r2 (zy O O Zk O) (zo O O) ?_,O,Zo⟩;rw[e];try rfl
 have M:=V.trans<|Zm<|isN E;refine ro 3 O ?_;refine kV (.c (zL Zk O O O O)<|.c (zf Jz O)<|.c (zl T6 O O O O)<|.c (S.Tx (OS (s:=A.st) (n:=L.Yr)) O call159 .none O (zc O<|zc O .nil) (⟨h.fz,Fz.same _ O,Zo⟩) O)<|.c (zL Zk O O O O)<|.c (zf DF O)<|.c (zl T6 O O O O)<|.c (S.Tx (NV (s:=A.st) (n:=L.Yb)) O call154 .none O (zc O<|zc O .nil) (⟨h.fz,Fz.same _ O,Zo⟩) O)<|.c (za O)<|.c (za O) .nil) ?_;refine rd 7 O<|RK.ZS (t:=27) O (λw=>?_) λw=>?_
 ·have e:=M.trans<|q9 w;refine rr 8 O<|RK.cF (zL Zk O O O O) h.fz O O<|rr 4 O<|OK.ret ⟨Y3.r2 (zy O O Zk O) (zo O O) ?_,O,Zo⟩;rw[e];try rfl
 refine rr 5 O<|kB O (λB=>?_) λB=>?_
 ·have e:=M.trans<|q8<|P9 B;refine kr<|RK.cF (zL Zk O O O O) h.fz O O<|rr 4 O<|OK.ret ⟨Y3.r2 (zy O O Zk O) (zo O O) ?_,O,Zo⟩;rw[e];try rfl
 obtain⟨j,J⟩:=P_ B;have u:=Vs J;have o:j<R A.Z5:=(Y8 J).1;obtain⟨x,b⟩:∃c,A.Z5[j]?=some c:=⟨_,Zv o⟩;obtain⟨ch,a⟩:=Vb h.ch b;have W:=P.sh x<|mr b;have U:=M.trans<|jR (n:=L.num) (r:=L.Yr) J b w;refine ro 6 O<|kc (S.Tx (SB (s:=A.st)) O call155 .none O (zc O .nil) (⟨h.fz,Zo⟩) O)<|rr 3 O<|kB O (λz=>?_) λz=>?_
 ·have e:=U.trans<|Zn<|isS z;refine kr<|RK.cF (zL Zk O O O O) h.fz O O<|rr 4 O<|OK.ret ⟨Y3.r2 (zy O O Zk O) (zo O O) ?_,O,Zo⟩;rw[e];try rfl
 have T:=U.trans<|Zm<|isN z;refine ro 4 O ?_;refine kV (.c (zf TU O)<|.c (S.YH dJ .none O (zt O) O O (SA.uj a) O)<|.c (zm O)<|.c (S.hidx (i:=j) rN .none O (zt O) (zt O) u o)<|.c (zr Qo O)<|.c (zH YK O<|Z9.Ki (k:=.c) (i:=j) (f:=2) (SA.dL a) (Yo b) O O<|.same _)<|.c (zf TU O)<|.c (S.YH dJ .none O (zt O) O O (SA.uj a) O)<|.c (zm O)<|.c (S.hidx (i:=j) rN .none O (zt O) (zt O) u o)<|.c (zr rR O)<|.c (zH YK O<|Z9.Ki (k:=.c) (i:=j) (f:=1) (SA.dL a) (Yo b) O O<|.same _)<|.c (S.eql .none O (zt O)<|zt O) .nil)<|Ab.D.code<|kB O (λy=>?_) λy=>?_
 ·have e:=T.trans<|Zn y;refine kr<|RK.cF (zL Zk O O O O) h.fz O O<|rr 4 O<|OK.ret ⟨Y3.r2 (zy O O Zk O) (zo O O) ?_,O,Zo⟩;rw[e];try rfl
 have Q:=T.trans<|Zm y;refine ro 7 O ?_;refine kc (S.hlen VD (by show R A.parts<=maxLen;unfold maxLen;omega) .none O<|zt O) ?_;refine rr 3 O<|kB O (λN=>?_) λN=>?_
 ·have e:=Q.trans (Zn<|by rw[SA.PX];omega);refine kr<|RK.cF (zL Zk O O O O) h.fz O O<|rr 4 O<|OK.ret ⟨Y3.r2 (zy O O Zk O) (zo O O) ?_,O,Zo⟩;rw[e];try rfl
 have e:=Q.trans (Zm<|by rw[SA.PX];omega);refine ro 3 O ?_;refine kV (.c (zf TU O)<|.c (S.YH dJ .none O (zt O) O O (SA.uj a) O)<|.c (zm O)<|.c (zf TU O)<|.c (S.YH dJ .none O (zt O) O O (SA.uj a) O)<|.c (zm O)<|.c (S.hidx (i:=j) rN .none O (zt O) (zt O) u o)<|.c (zr Qo O)<|.c (zH YK O<|Z9.Ki (k:=.c) (i:=j) (f:=2) (SA.dL a) (Yo b) O O<|.same _)<|.c (zp O O I)<|.c (S.hidx (i:=j) rN .none O (zt O) (zt O) u o)<|.c (zr Qo O)<|.c (S.V9 (x2:=(A.Z5.map XA.cs).set j ({x with ZA:=x.ZA+1}:XA).cs) (.c) YK .none (zt O) (zt O) O (SA.dL a) (Yo b) O O O O C O) .nil)<|Ab.D.code<|kO ?_;rw[SA.I0 a];have G:=h.Qm j {x with ZA:=x.ZA+1};refine ro 8 O<|kc (zU bu50 O O)<|rr 2 O<|kc (zU bu57 O O)<|RK.nilH (d:=77) O O ?_;refine RK.c (zM [[_,_,_,_,_,_,_,_,_,_,_,_,_]] f_ O O O O) ?_;refine RK.xs (S.MH (m:=1) (qr:=[pC (none,(⟨L.num,L.Yr,A.st.YD L.Yr,L.Yb,[],0,false,0,false,Span.zero⟩:Part))]) .p f_ O (zt O) G.ps (zt O) O O O C (by rw[Zx];show(R A.parts+1) * _<=_;omega)<|by rw[Zx];show R A.parts+1<=_;unfold maxLen;omega) λq=>?_;refine rr 5 O ?_;have K:=G.newP q (p:=(⟨L.num,L.Yr,A.st.YD L.Yr,L.Yb,[],0,false,0,false,Span.zero⟩:Part)) rfl;have X:=(SA.iQ (A:=A.Qm j {x with ZA:=x.ZA+1}) q (⟨L.num,L.Yr,A.st.YD L.Yr,L.Yb,[],0,false,0,false,Span.zero⟩:Part)).trans (by rw[SA.EG b λc=>{c with ZA:=c.ZA+1}]);refine OK.R3<|RK.cF (zL Zk O O O O) (SA.To K (SA.oF _ _) (SA.oD j _ q _) X) O O ?_;refine rr 4 O<|OK.ret ⟨Y3.r2 (zy O O Zk O) (zo O O) ?_,O,Zo⟩;rw[e];try rfl
def NW{n:Net}(a:R n.plan<=1000):Ct prog 163 [.agg n.cs]<|.agg (ZO n.plan).1.cs:=by
 refine cI func163 O<|ro 10 O<|kc (zK (P4 (l:=n.plan) I) call17 O) ?_;refine rr 14 O<|OK.ret<|Y3.r1 (zy O O Nb O) ?_;rfl
def QZ{n:Net}(d:R n.plan<=1000)(a:Y_ (ZO n.plan).1=0)(b:∀x∈p.frames,R x.values<=100000):Ct prog 161 [.agg n.cs,.agg p.cs]<|.agg (V1 (ZO n.plan).1 p.frames).cs:=by
 refine cI func161 O<|ro 8 O ?_;refine kV (.c (zL Pn O O O O)<|.c (zK (NW d) call163 O)<|.c (zf Vr O)<|.c (zl P8 O O O O)<|.c (zK (z1 (p:=(ZO n.plan).1) (l:=p.frames) (by have:=X_ a;omega) b) call207 O)<|.c (zS AD O O O O O O) .nil) ?_;refine Ab.D.code<|OK.ret<|Y3.r1 (zy O O AD O) ?_;rfl
def Ch{n:Net}(Q:R n.plan<=1000)(y:A.Ok)(u:A.st.Good (ZO n.plan).1):Vi prog 152 [] [.agg n.cs,.agg A.cs] [(3000,.res<|Z9 A.mem)] [(3000,.res JT)]<|.Yy [.agg (Dv (ZO n.plan).1 (decide<|0<R A.st.env.rows) A.st).1.cs,bv (Dv (ZO n.plan).1 (decide<|0<R A.st.env.rows) A.st).2]:=by
 refine cG func152 O<|ro 11 O<|kc (S.Tx (SB (s:=A.st)) O call155 .none O (zc O .nil) (⟨y.fz,Zo⟩) O)<|rr 10 O<|kB O (λB=>?_) λB=>?_
 ·have D:A.st.Tk=none:=P9 B;have J:Dv (ZO n.plan).1 (decide<|0<R A.st.env.rows) A.st=(A.st,12):=by unfold Dv;rw[D]
  refine kr<|RK.cF (zL Zk O O O O) y.fz O O<|rr 4 O<|OK.ret ⟨Y3.r2 (zy O O Zk O) (zo O O) ?_,O,Zo⟩;rw[J];try rfl
 obtain⟨i,D⟩:=P_ B;have N:=Vs D;obtain⟨v,d,T,M⟩:=D1 D;obtain⟨V,m⟩:=Vb y.ph d;have J:Dv (ZO n.plan).1 (decide<|0<R A.st.env.rows) A.st=(A.st.Zh i<|Sy (ZO n.plan).1 A.st.env<|decide<|0<R A.st.env.rows,0):=by unfold Dv;rw[show A.st.Tk=some i from D]
 obtain⟨_,E⟩:=u.XE d;refine ro 5 O<|kc (S.YH Vg .none O (zt O) O O (SA.TC m) O)<|jm O<|kc (S.hidx (i:=i) VD .none O (zt O) (zt O) N T)<|rr 4 O ?_;refine kV (.c (zL Pn O O O O)<|.c (zm O)<|.c (zn O O)<|.c (zJ (us:=v.2.cs) K6 O<|Z9.GF (k:=.p) (i:=i) (f:=0) (SA.Oh m) (Yo (f:=pC) d) O ⟨.same _,.same _,.same _,.same _,.sl<|y.fs d,.same _,.same _,.same _,.same _,.same _,.same _,.same _,.same _,Zo⟩ O)<|.c (zK (QZ Q u.pl<|u.vals d) call161 O)<|.c (zA (c:=8) sB O)<|.c (zS AD O O O O O O) .nil) ?_;refine rd 6 O ?_;refine kc (S.V9 (x2:=(A.parts.map pC).set i<|({v.2 with place:=1}:Part).cells<|.raw<|v.1.w<|R v.2.frames) (.p) YK .none (zt O) (.Zg O) O (SA.Oh m) (Yo d) O O O O C O) ?_;refine rr 4 O ?_;rw[SA.S4 m d (p:={v.2 with place:=1}) rfl];obtain⟨b,a⟩:∃b,b=A.Zh i (v.1,{v.2 with place:=1}):=⟨_,rfl⟩;rw[←a];have e:b.ph=some V:=by rw[a];exact m
 have j:b.parts[i]?=some (v.1,{v.2 with place:=1}):=by rw[a];exact SA.T4 d _
 have o:=y.fh v<|mr d;refine ro 4 O<|kc (zk vq O)<|rr 3 O<|kB O (λU=>?_) λU=>?_
 ·have F:0<R A.env.rows:=I
  have G:=u.both d F;have H:=vN G;have W:=X_ u.pl;obtain⟨_,P⟩:=Nr u.pl (u.fr v.2<|rx.2 ⟨v,mr d,rfl⟩).1.1;refine ro 6 O ?_;refine kc (zK (Cq (x:=A.env) (r:=V1 (ZO n.plan).1 v.2.frames) H.fit (by rw[IF];omega) (λi h=>by have:=P i h;omega) (j9<|u.env F)<|lK H) call201 O) ?_;refine rr 2 O ?_;refine kc (S.V9 (x2:=(b.parts.map pC).set i<|({v.2 with place:=1,WD:=true}:Part).cells<|.raw<|v.1.w<|R v.2.frames) (.p) CI .none (zt O) .Wx O (SA.Oh e) (Yo j) O O O O C O) ?_;refine rr 2 O ?_;refine kc (S.V9 (x2:=(b.parts.map pC).set i<|({v.2 with place:=1,WD:=true,verdict:=Us A.env (V1 (ZO n.plan).1 v.2.frames)}:Part).cells<|.raw<|v.1.w<|R v.2.frames) (.p) YK .none (zt O) (zt O) O (HM.YW _ _ _) (xy<|Yo j) O O O O C<|by rw[eυ];rfl) ?_;refine rr 3 O ?_;rw[HM.set_set,SA.Gb e j (p:={v.2 with place:=1,WD:=true,verdict:=Us A.env (V1 (ZO n.plan).1 v.2.frames)}) (R v.2.frames) rfl rfl];have t:(b.Zh i (v.1,{v.2 with place:=1,WD:=true,verdict:=Us A.env (V1 (ZO n.plan).1 v.2.frames)})).Ok:=SA.Ok.Zh (by rw[a];exact y.Zh o) o;have q:A.cs=(b.Zh i (v.1,{v.2 with place:=1,WD:=true,verdict:=Us A.env (V1 (ZO n.plan).1 v.2.frames)})).cs:=((SA.T5 i _).trans<|by rw[a];exact SA.T5 _ _).symm;have K:(b.Zh i (v.1,{v.2 with place:=1,WD:=true,verdict:=Us A.env (V1 (ZO n.plan).1 v.2.frames)})).st=A.st.Zh i (Sy (ZO n.plan).1 A.st.env<|decide<|0<R A.st.env.rows):=by rw[a,SA.Gc,←(end_T G E F)];exact SA.Sn d v.1 _
  refine OK.R3<|RK.cF (zL Zk O O O O) (SA.To t O q K) O O<|rr 4 O<|OK.ret ⟨Y3.r2 (zy O O Zk O) (zo O O) ?_,O,Zo⟩;rw[J];try rfl
 have F:¬0<R A.env.rows:=I
 have L:=end_F (A:=A) E (u.ju v.2 (rx.2 ⟨v,mr d,rfl⟩) M) F;refine ro 3 O<|kc (zK (KZ (r:=V1 (ZO n.plan).1 v.2.frames)) call160 O)<|kc (S.not .none O<|zt O)<|kD<|OK.cond O O (λz=>?_) λz=>?_
 ·rw[Zm<|by simpa using z]at L;refine ro 4 O ?_;refine kc (S.V9 (x2:=(b.parts.map pC).set i<|({v.2 with place:=1,verdict:=1}:Part).cells<|.raw<|v.1.w<|R v.2.frames) (.p) YK .none (zt O) (.Zg O) O (SA.Oh e) (Yo j) O O O O C O) ?_;refine rr 3 O ?_;rw[SA.Gb e j (p:={v.2 with place:=1,verdict:=1}) (R v.2.frames) rfl rfl];have t:(b.Zh i (v.1,{v.2 with place:=1,verdict:=1})).Ok:=SA.Ok.Zh (by rw[a];exact y.Zh o) o;have q:A.cs=(b.Zh i (v.1,{v.2 with place:=1,verdict:=1})).cs:=((SA.T5 i _).trans<|by rw[a];exact SA.T5 _ _).symm;have K:(b.Zh i (v.1,{v.2 with place:=1,verdict:=1})).st=A.st.Zh i (Sy (ZO n.plan).1 A.st.env<|decide<|0<R A.st.env.rows):=by rw[a,SA.Gc,←L];exact SA.Sn d v.1 _
  refine OK.R3<|RK.cF (zL Zk O O O O) (SA.To t O q K) O O<|rr 4 O<|OK.ret ⟨Y3.r2 (zy O O Zk O) (zo O O) ?_,O,Zo⟩;rw[J];try rfl
 rw[Zn<|by simpa using z]at L;refine ro 3 O ?_;have t:b.Ok:=by rw[a];exact y.Zh o
 have q:A.cs=b.cs:=by rw[a];exact(SA.T5 _ _).symm
 have K:b.st=A.st.Zh i (Sy (ZO n.plan).1 A.st.env<|decide<|0<R A.st.env.rows):=by rw[a,←SA.Sn d v.1,L]
 refine OK.R3<|RK.cF (zL Zk O O O O) (SA.To t O q K) O O<|rr 4 O<|OK.ret ⟨Y3.r2 (zy O O Zk O) (zo O O) ?_,O,Zo⟩;rw[J];try rfl
def Ey{n:Net}(P:R n.plan<=1000)(y:A.Ok)(U:A.st.Good (ZO n.plan).1){L:Sv}(Y:R L.rest<=600):Vi prog 151 [] [.agg n.cs,.agg A.cs,.agg L.cs] [(3000,.res<|Z9 A.mem)] [(3000,.res JT)]<|.Yy [.agg (Wd (ZO n.plan).1 A.st (ZI L.rest).1 (ZI L.rest).2).1.cs,bv (Wd (ZO n.plan).1 A.st (ZI L.rest).1 (ZI L.rest).2).2]:=by
 refine cG func151 O<|ro 12 O<|kc (S.Tx (SB (s:=A.st)) O call155 .none O (zc O .nil) (⟨y.fz,Zo⟩) O)<|rr 10 O<|kB O (λM=>?_) λM=>?_
 ·have F:A.st.Tk=none:=P9 M;have t:Wd (ZO n.plan).1 A.st (ZI L.rest).1 (ZI L.rest).2=(A.st,12):=by unfold Wd;rw[F]
  refine kr<|RK.cF (zL Zk O O O O) y.fz O O<|rr 4 O<|OK.ret ⟨Y3.r2 (zy O O Zk O) (zo O O) ?_,O,Zo⟩;rw[t];try rfl
 obtain⟨i,F⟩:=P_ M;have B:=Vs F;obtain⟨v,o,E,V⟩:=D1 F;obtain⟨X,d⟩:=Vb y.ph o;have W:=(U.fr v.2<|rx.2 ⟨v,mr o,rfl⟩).2;refine ro 6 O<|kc (zK (IT (l:=L.rest) I) call199 O) ?_;refine rr 15 O<|kB O (λz=>?_) λz=>?_
 ·refine kV (.c (zL Pn O O O O)<|.c (zK (NW P) call163 O)<|.c (zL Ni O O O O)<|.c (zK (Gv (p:=(ZO n.plan).1) (f:=(ZI L.rest).1)<|by have:=X_ U.pl;omega) call200 O)<|.c (za O) .nil) ?_;refine rd 8 O<|kB O (λe=>?_) λe=>?_
  ·have t:=(rn (Wd (ZO n.plan).1 A.st (ZI L.rest).1) z).trans<|mY (i:=i) F e;refine kr<|RK.cF (zL Zk O O O O) y.fz O O<|rr 5 O<|OK.ret ⟨Y3.r2 (zy O O Zk O) (zo O O) ?_,O,Zo⟩;rw[t];try rfl
  have N:=e;refine ro 9 O ?_;refine OK.loop (G:=Nat) [4,6,9] (λj=>[(4,.ptr 4 0),(1004,.box A.cs),(6,.ptr 6 0),(1006,.box [.ZM,.ZM,.ZM,.ZM,bv 0,bv 0,.ZM]),(8,bv<|ZC (λp:Part=>decide<|p.place=0) 0 A.st.parts),(9,.ptr 9 0),(1009,.box (ZI L.rest).1.cs),(11,bv j),(3000,.res<|Z9 A.mem)]) (λj=>j<=R v.2.frames/\v.2.frames.find? (λg:Frame=>decide<|g.tick=(ZI L.rest).1.tick)=(v.2.frames.drop j).find? (λg:Frame=>decide<|g.tick=(ZI L.rest).1.tick)) (λj=>R v.2.frames - j) 0 ⟨Zr _,O⟩ ⟨O,O,O,O,O,O,O,O,O,Zo⟩ (λ_=>O) ?_;rintro j ⟨hj,Q⟩;refine ro 5 O<|kc (S.YH Vg .none O (zt O) O O (SA.TC d) O)<|jm O<|kc (S.hidx (i:=i) VD .none O (zt O) (zt O) B E)<|kc (zr Vr O)<|kc (zH (u:=.sl<|v.2.frames.map Frame.cs) P8 O<|Z9.Ki (k:=.p) (i:=i) (f:=4) (SA.Oh d) (Yo (f:=pC) o) O O<|.sl<|y.fs o)<|kc (zk Qr O)<|rr 3 O<|kB O (λT=>?_) λT=>?_
  ·have H:j<R v.2.frames:=I
   refine ro 7 O<|kc (S.YH Vg .none O (zt O) O O (SA.TC d) O)<|jm O<|kc (S.hidx (i:=i) VD .none O (zt O) (zt O) B E)<|kc (zr Vr O)<|kc (zH (u:=.sl<|v.2.frames.map Frame.cs) P8 O<|Z9.Ki (k:=.p) (i:=i) (f:=4) (SA.Oh d) (Yo (f:=pC) o) O O<|.sl<|y.fs o)<|jm O<|kc (zI Qr O H O)<|rr 14 O<|kB O (λK=>?_) λK=>?_
   ·have t:=(rn (Wd (ZO n.plan).1 A.st (ZI L.rest).1) z).trans (m_ F o N<|Q.trans<|(Fi H).trans<|Zn<|by simpa using K);refine ro 7 O<|kc (zK (Me (a:=v.2.frames[j].values) (b:=(ZI L.rest).1.values)) call32 O)<|kc (S.Xb .none O<|zt O)<|kD<|kB O (λJ=>?_) λJ=>?_
    ·rw[Zm<|by simpa using J]at t;refine kr<|RK.cF (zL Zk O O O O) y.fz O O<|rr 4 O<|OK.ret ⟨Y3.r2 (zy O O Zk O) (zo O O) ?_,O,Zo⟩;rw[t];try rfl
    rw[Zn<|by simpa using J]at t;refine ro 4 O<|RK.cF (zL Zk O O O O) y.fz O O<|rr 4 O<|OK.ret ⟨Y3.r2 (zy O O Zk O) (zo O O) ?_,O,Zo⟩;rw[t];try rfl
   refine Ro 8 O I ?_;refine Ab.D.lp ⟨j+1,⟨I,by rw[Q,Fi H,Zm<|by simpa using K]⟩,I,O,O,O,O,O,O,O,O,O,Zo⟩
  have t:=(rn (Wd (ZO n.plan).1 A.st (ZI L.rest).1) z).trans (mZ F o N<|Q.trans<|by rw[ut I];rfl);refine ro 3 O ?_;refine OK.Sd follows (ι:=(Nat×Nat)) (0,0) 11 O (S.ig (s:=[(75,.raw<|v.1.w<|R v.2.frames),(77,.own 77 1),(2077,.arr 2 [(ZI L.rest).1.cs]),(3000,.res<|Z9 A.mem)]) (m:=1) (qr:=[(ZI L.rest).1.cs]) (.f i) ai51 O (zt O) (y.fs o) (zt O) O O O C (by rw[Zx];omega)<|by rw[Zx];unfold maxLen;omega).st (λq=>(.cs (zf Xk O) (.cs (S.YH Vg .none O (zt O) O O (SA.TC d) O) (.cs (zm O) (.cs (zf Xk O) (.cs (S.YH Vg .none O (zt O) O O (SA.TC d) O) (.cs (zm O) (.cs (S.hidx (i:=i) VD .none O (zt O) (zt O) B E) (.cs (zr Vr O) (.cs (zH P8 O<|Z9.Ki (k:=.p) (i:=i) (f:=4) (SA.Oh d) (Yo (f:=pC) o) O O<|.same _) (.cs (zL Ni O O O O) (.cs (zM [[_,_]] ai51 O O O O)
   (.x ⟨O,O,O,O,Zo⟩<|.cn (S.hidx (i:=i) VD .none O (zt O) (zt O) B E)<|.cn (zr Vr O)<|.cn (S.V9 (x2:=(A.parts.map pC).set i<|v.2.cells<|.raw<|.slice (some ⟨q.1,0,none⟩) (R (v.2.frames.map Frame.cs)+1) q.2) (.p) P8 .none (zt O) (zt O) O ((HM.Z0 _ _ Z).trans<|SA.Oh d) (Yo (f:=pC) o) O O O O C O) .nil))))))))))))) λq=>?_
  refine Ab.D.code<|kO ?_;rw[SA.ld d o];refine OK.R3 (RK.cF (zL Zk O O O O) (SA.To (A:=A.addF i q v.2 (ZI L.rest).1) (y.Zh λh=>by cases h) O (SA.T5 _ _).symm<|SA.Sn o (some q) λp=>{p with frames:=p.frames++[(ZI L.rest).1]}) O O ?_);refine rr 4 O<|OK.ret ⟨Y3.r2 (zy O O Zk O) (zo O O) ?_,O,Zo⟩;rw[t];try rfl
 refine ro 9 O<|kB O (λe=>?_) λe=>?_
 ·have t:=mX (pl:=(ZO n.plan).1) (s:=A.st) (i:=i) (f:=(ZI L.rest).1) F e;refine kr<|RK.cF (zL Zk O O O O) y.fz O O<|rr 5 O<|OK.ret ⟨Y3.r2 (zy O O Zk O) (zo O O) ?_,O,Zo⟩;rw[t];try rfl
 exact absurd (Zu.1 e) z
