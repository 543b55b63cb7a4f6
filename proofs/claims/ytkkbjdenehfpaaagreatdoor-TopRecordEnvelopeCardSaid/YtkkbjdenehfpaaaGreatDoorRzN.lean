import Derived.Test.YtkkbjdenehfpaaaGreatDoorRmN
set_option linter.all false
set_option maxHeartbeats 2000000
open List renaming length->R
namespace Go.Proofs.Z_
open Go.Ab Tryz
set_option maxRecDepth 9999
def u9(f:Nat)(p:Ph):Int:=if f=A6 then p.power else if f=A5 then p.law else if f=Kg then p.ticks else p.U8
variable{k:Int}
theorem xL{x:Fld}(h:x∈WL k):x.1=A6\/x.1=A5\/x.1=Kg\/x.1=yw:=by
 unfold WL at h;grind
def dr{f:Nat}(h:f=A6\/f=A5\/f=Kg\/f=yw)(p:Ph):Ct prog f [.agg p.cx]<|bv<|u9 f p:=by
 rcases h with rfl|rfl|rfl|rfl
 ·exact ur
 ·exact jq
 ·exact uu
 exact y6
def rI{f:Nat}(h:f=A6\/f=A5\/f=Kg\/f=yw):∀vj w,(callFunc f vj).run prog w=.ok (.enter f vj) w:=by
 rcases h with rfl|rfl|rfl|rfl
 ·exact call341
 ·exact call342
 ·exact call343
 exact call344
def Sj(p:Ph)(i:Nat):Bool:=((WL p.kind).take i).all λx=>decide<|x.2.1<=u9 x.1 p/\u9 x.1 p<=x.2.2
variable{p:Ph}
theorem ED{i:Nat}(h:i<R (WL p.kind)):Sj p (i+1)=(Sj p i&&decide ((WL p.kind)[i].2.1<=u9 (WL p.kind)[i].1 p/\u9 (WL p.kind)[i].1 p<=(WL p.kind)[i].2.2)):=by
 grind [Sj,List.take_succ_eq_append_getElem]
theorem rH(k:Int):R (WL k)<=3:=by
 grind [WL]
def H7(h:0<=k/\k<=5):k=0\/k=1\/k=2\/k=3\/k=4\/k=5:=I
def right_eq(h:0<=p.kind/\p.kind<=5):Sj p (R<|WL p.kind)=Ys p:=by
 unfold Sj Ys;rw[List.take_length];rcases H7 h with e|e|e|e|e|e<;>rw[e]<;>simp[WL,u9,A6,A5,Kg,yw,Bool.and_assoc]
def BX(p:Ph):Int:=if p.kind=0\/p.kind=3 then 0 else p.power
def BW(p:Ph):Int:=if p.kind=2\/p.kind=4 then 0 else p.law
def BV(p:Ph):Int:=if p.kind=3\/p.kind=4 then 0 else p.U8
def F6(p:Ph):bi:=[bv p.kind,bv<|BX p,bv<|BW p,bv 0,bv<|BV p,.sl<|p.body.map Ph.cs]
theorem clean_eq(h:0<=p.kind/\p.kind<=5):YE p=(decide (BX p=0)&&decide (BW p=0)&&decide (BV p=0)&&(decide (p.kind=5)||decide (R p.body=0))):=by
 unfold YE BX BW BV;grind
def tM{xs ys:bi}(h:xs=ys):some (X.box xs)=some (X.box ys):=by rw[h]
def eE{a b:Bool}(h:a=b):some (X.bool a)=some (X.bool b):=by rw[h]
def RC(p:Ph):Int:=ZW [Z8 (YE p) 3,Z8 (Ys p) 2]
variable{m:Nat}
def LR(h:¬(0<=p.kind/\p.kind<=5)):ZD m p=15:=by
 unfold ZD;omega
theorem PO(h:0<=p.kind/\p.kind<=5)(a:RC p≠0):ZD m p=RC p:=by
 unfold ZD;simp_all[RC]
def RD(h:0<=p.kind/\p.kind<=5)(a:RC p=0)(b:p.kind≠5):ZD m p=0:=by
 unfold RC at a;unfold ZD;omega
def LS(h:0<=p.kind/\p.kind<=5)(a:RC p=0)(b:p.kind=5):ZD 0 p=16:=by
 simp_all[RC,ZD]
def IA(h:0<=p.kind/\p.kind<=5)(a:RC p=0)(b:p.kind=5):ZD (m+1) p=(YC (ZD m) p.body).2:=by
 simp_all[RC,ZD]
def jT(n:Nat):Int:=ZW [Z8 (decide ((n:Int)>0)) 10,Z8 (decide ((n:Int)<=12)) 8]
variable{l:List Ph}{g:Ph->Int}
def iA(h:jT (R l)≠0):YC g l=(0,jT<|R l):=by
 unfold jT at h⊢;unfold YC;by_cases a:R l=0
 ·rw[Zn a,a];rfl
 by_cases b:12<R l
 ·rw[Zm a,Zn b,Zz (show((R l:Nat):Int)>0 by omega),Zy (show¬((R l:Nat):Int)<=12 by omega)];rfl
 exfalso;rw[Zz (show((R l:Nat):Int)>0 by omega),Zz (show((R l:Nat):Int)<=12 by omega)]at h;exact h rfl
theorem iB(h:jT (R l)=0):YC g l=ZP (λ_ p=>g p) 0 l/\R l<=12:=by
 unfold jT at h;unfold YC;by_cases a:R l=0
 ·rw[a]at h;exact absurd h C
 by_cases b:12<R l
 ·exfalso;rw[Zz (show((R l:Nat):Int)>0 by omega),Zy (show¬((R l:Nat):Int)<=12 by omega)]at h;exact absurd h C
 grind
def IE{n lo hi:Int}:Ct prog 338 [bv n,bv lo,bv hi]<|.bool<|decide<|lo<=n/\n<=hi:=by
 refine cI func338 O<|ro 11 O<|RK.ZS (t:=10) O (λa=>?_) λa=>?_
 ·refine rr 7 O<|kR O O ?_;simp[*]
 refine rr 7 O<|kR O O ?_;simp[*]
def Wg{ok:Bool}{e:Int}:Ct prog 310 [.bool ok,bv e]<|bv<|Z8 ok e:=by
 refine cI func310 O<|ro 11 O<|OK.cond O O (λa=>?_) λa=>?_
 ·refine ro 5 O<|kR O O ?_;simp[Z8, *]
 refine ro 8 O<|kR O O ?_;simp[Z8, *]
def QY{l:bd}:Ct prog 309 [ints l]<|bv<|ZW l:=by
 refine cI func309 O<|OK.XF (vi:=l.map λn=>[bv n]) (t:=0) O O λqk=>?_;rw[Zx]at qk;unfold maxLen at qk;refine ro 9 O<|kc (zk EU O)<|rr 4 O ?_;refine OK.loop (G:=Nat) [] (λi=>[(5,ints l),(6,bv<|R l),(7,bv i)]) (λi=>i<=R l/\ZW l=ZW (l.drop i)) (λi=>R l - i) 0 ⟨Zr _,O⟩ ⟨O,O,O,Zo⟩ (λ_=>O) ?_;rintro i ⟨hi,a⟩;refine ro 6 O<|kB O (λc=>?_) λc=>?_
 ·refine ro 6 O<|kc (zI EU O I O) ?_;refine rr 10 O<|kB O (λb=>?_) λb=>?_
  ·refine ro 6 O<|kR O O ?_;rw[a,Wy I];simp_all
  refine Ro 7 O I (Ab.D.lp ⟨i+1,⟨by omega,?_⟩,I,O,O,O,Zo⟩);rw[a,Wy I];simp_all
 refine ro 7 O<|kR O O ?_;have:i=R l:=by omega
 subst this;rw[a,da];rfl
def Oq(U:m<=3)(xf:∀h,m=h+1->∀l:List Ph,Ct prog 307 [.sl<|l.map Ph.cs,bv<|3 - (h:Int)]<|.Yy [bv (YC (ZD h) l).1,bv (YC (ZD h) l).2]):Ct prog 329 [.agg p.cx,bv<|3 - (m:Int)]<|bv<|ZD m p:=by
 refine cI func329 O λ{_ _}=>?_
 have T:=rH p.kind;refine ro 11 O<|kc (zK IE call338 O)<|kc (S.Xb .none O<|zt O)<|kD<|kB O (λv=>?_) λv=>?_
 ·have e:¬(0<=p.kind/\p.kind<=5):=by simpa using v
  have q:=LR (m:=m) e;refine ro 5 O<|kR O O ?_;rw[q]
  try first|rfl|exact rn (X.int .i64) b
 have e:0<=p.kind/\p.kind<=5:=by simpa using v
 refine ro 15 O<|kc (zK (pY (k:=p.kind)) call339 O)<|kc (zk si443 O)<|rr 4 O ?_;refine OK.loop (G:=Nat) [2,5] (λi=>[(1,bv<|3 - (m:Int)),(2,.ptr 2 0),(1002,.box p.cx),(5,.ptr 5 0),(1005,.box p.cx),(6,.bool<|Sj p i),(19,.sl<|(WL p.kind).map DM),(20,bv (R (WL p.kind):Int)),(21,bv i)]) (λi=>i<=R (WL p.kind)) (λi=>R (WL p.kind) - i) 0 (Zr _) ⟨O,O,O,O,O,O,O,(OT F),O,Zo⟩ (λ_=>O) ?_;rintro i hi;refine ro 6 O<|kB O (λQ=>?_) λQ=>?_
 ·have r:i<R (WL p.kind):=by omega
  have w:=ED r;refine ro 6 O<|kc (zI si443 O I O) ?_;refine rr 5 O ?_;by_cases a:Sj p i=true
  ·have n:=w;rw[a,tn]at n;refine kV (.c (zm O)<|.c (zm O)<|.c (S.VN kW (.yes O O O<|by first|exact a|simpa using a) O<|zt O)<|.c (S.YH ti445 (.yes O O O<|by first|exact a|simpa using a) O (zt O) O O O O)<|.c (S.Hl X0 (.yes O O O<|by first|exact a|simpa using a) O (zt O) O O O O)<|.c (S.gp (f:=(WL p.kind)[i].1) (dr (xL<|Zt r) p) (rI<|xL<|Zt r) (.yes O O O<|by first|exact a|simpa using a) O (zt O) (zc O .nil) O)<|.c (S.VN lq (.yes O O O<|by first|exact a|simpa using a) O<|zt O)<|.c (S.YH YK (.yes O O O<|by first|exact a|simpa using a) O (zt O) O O O O)<|.c (S.VN lG (.yes O O O<|by first|exact a|simpa using a) O<|zt O)<|.c (S.YH YK (.yes O O O<|by first|exact a|simpa using a) O (zt O) O O O O)<|.c (S.call IE call338 (.yes O O O<|by first|exact a|simpa using a) O (zc O<|zc O<|zc O .nil) O)<|.c (S.Tc .none O (zt O) (zt O)<|by first|exact a|simpa using a)<|.c (za O) .nil) ?_;refine Rd 6 O I<|Ab.D.lp ⟨i+1,I,I,O,O,O,O,O,(eE n.symm),O,O,O,Zo⟩
  have n:=w;rw[show Sj p i=false by simpa using a,tp]at n;refine kV (.c (zm O)<|.c (zm O)<|.c (zG O<|by first|exact a|simpa using a)<|.c (zG O<|by first|exact a|simpa using a)<|.c (zG O<|by first|exact a|simpa using a)<|.c (zG O<|by first|exact a|simpa using a)<|.c (zG O<|by first|exact a|simpa using a)<|.c (zG O<|by first|exact a|simpa using a)<|.c (zG O<|by first|exact a|simpa using a)<|.c (zG O<|by first|exact a|simpa using a)<|.c (zG O<|by first|exact a|simpa using a)<|.c (S.Ug .none O (zt O) .Wx<|by first|exact a|simpa using a)<|.c (za O) .nil) ?_;refine Rd 6 O I<|Ab.D.lp ⟨i+1,I,I,O,O,O,O,O,(eE n.symm),O,O,O,Zo⟩
 have A:=right_eq e;rw[show i=R (WL p.kind) by omega,A];refine OK.exit O<|Ab.D.code<|OK.join (G:=Unit) [2,5] (λ_=>[(1,bv<|3 - (m:Int)),(2,.ptr 2 0),(1002,.box p.cx),(5,.ptr 5 0),(1005,.box<|F6 p),(6,.bool<|Ys p)]) (λ_=>True) (λ_=>O) ?_ ?_
 ·refine ro 13 O<|kB O (λP=>?_) λP=>?_
  ·refine ro 7 O ?_;refine Ab.D.lp ⟨(),Zo,O,O,O,O,(tM<|by unfold F6 BX BW BV Ph.cx;simp[*,Yv]),O,Zo⟩
  refine ro 6 O<|kB O (λN=>?_) λN=>?_
  ·refine ro 7 O ?_;refine Ab.D.lp ⟨(),Zo,O,O,O,O,(tM<|by unfold F6 BX BW BV Ph.cx;simp[*,Yv]),O,Zo⟩
  refine ro 6 O<|kB O (λM=>?_) λM=>?_
  ·refine ro 9 O ?_;refine Ab.D.lp ⟨(),Zo,O,O,O,O,(tM<|by unfold F6 BX BW BV Ph.cx;simp[*,Yv]),O,Zo⟩
  refine ro 6 O<|kB O (λK=>?_) λK=>?_
  ·refine ro 9 O ?_;refine Ab.D.lp ⟨(),Zo,O,O,O,O,(tM<|by unfold F6 BX BW BV Ph.cx;simp[*,Yv]),O,Zo⟩
  refine ro 5 O ?_;refine Ab.D.lp ⟨(),Zo,O,O,O,O,(tM<|by unfold F6 BX BW BV Ph.cx;simp[*,Yv]),O,Zo⟩
 rintro _ _;refine ro 8 O ?_;refine OK.join (G:=Unit) [2] (λ_=>[(1,bv<|3 - (m:Int)),(2,.ptr 2 0),(1002,.box p.cx),(6,.bool<|Ys p),(9,.bool<|decide<|p.kind=5),(10,.bool<|YE p)]) (λ_=>True) (λ_=>O) ?_ ?_
 ·refine ro 5 O<|RK.ZS (t:=65) O (λJ=>?_) λJ=>?_
  ·refine rr 5 O<|RK.ZS (t:=70) O (λH=>?_) λH=>?_
   ·refine rr 5 O<|RK.ZS (t:=75) O (λx=>?_) λx=>?_
    ·refine rr 5 O<|RK.ZS (t:=80) O (λE=>?_) λE=>?_
     ·refine rr 2 O<|RK.ZS (t:=82) O (λC=>?_) λC=>?_
      ·refine rr 8 O ?_;refine Ab.D.lp ⟨(),Zo,O,O,O,O,O,(eE<|by rw[clean_eq e];simp[*]),Zo⟩
      refine rr 2 O<|kc (S.OF XQ (zg O O) O<|zt O)<|rr 5 O ?_;refine Ab.D.lp ⟨(),Zo,O,O,O,O,O,(eE<|by rw[clean_eq e];simp[*]),Zo⟩
     refine rr 10 O ?_;refine Ab.D.lp ⟨(),Zo,O,O,O,O,O,(eE<|by rw[clean_eq e];simp[*]),Zo⟩
    exact absurd rfl x
   refine rr 20 O ?_;refine Ab.D.lp ⟨(),Zo,O,O,O,O,O,(eE<|by rw[clean_eq e];simp[*]),Zo⟩
  refine rr 25 O ?_;refine Ab.D.lp ⟨(),Zo,O,O,O,O,O,(eE<|by rw[clean_eq e];simp[*]),Zo⟩
 rintro _ _;refine ro 3 O<|kc (zK Wg call310 O)<|jm O<|kc (zK Wg call310 O) ?_;refine RK.c (zM [[_],[_]] V6 O O O O)<|kc (S.XY (QY (l:=[_,_])) call309 .none O (zc O .nil) (.cons (.p (.own O O) O) .nil) O) ?_;refine rr 9 O<|RK.ZS (t:=97) O (λu=>?_) λu=>?_
 ·have q:=PO (m:=m) e u;refine rr 12 O<|kR O O ?_;rw[q]
  try first|rfl|exact rn (X.int .i64) b
 have b:RC p=0:=Zu.1 u;refine kc (S.move (zg O O) O<|zt O)<|kc (S.Xb (zg O O) O<|zt O)<|rr 3 O<|kB O (λo=>?_) λo=>?_
 ·have z:p.kind≠5:=by simpa using o
  have q:=RD (m:=m) e b z;refine ro 6 O<|kR O O ?_;rw[q]
  try first|rfl|exact rn (X.int .i64) b
 have z:p.kind=5:=by simpa using o
 refine ro 9 O<|kB O (λy=>?_) λy=>?_
 ·have B:m=0:=by omega
  subst B;have q:=LS e b z;refine ro 5 O<|kR O O ?_;rw[q]
  try first|rfl|exact rn (X.int .i64) b
 obtain⟨h,rfl⟩:∃h,m=h+1:=⟨m - 1,by omega⟩;have q:=IA (m:=h) e b z;refine Ro 8 O I ?_;refine kc (zK ((by have:=xf h rfl p.body;rw[show(3 - (h:Int))=3 - ((h+1:Nat):Int)+1 by omega]at this;exact this)) call307 O) ?_;refine rr 12 O<|kR O O ?_;rw[q]
 try first|rfl|exact rn (X.int .i64) b
def M7(r:m<=3)(n:∀p:Ph,Ct prog 329 [.agg p.cx,bv<|3 - (m:Int)]<|bv<|ZD m p):Ct prog 307 [.sl<|l.map Ph.cs,bv<|3 - (m:Int)]<|.Yy [bv (YC (ZD m) l).1,bv (YC (ZD m) l).2]:=by
 refine cI func307 O λ{_ _}=>?_
 rw[Nh l];refine OK.XF (vi:=l.map Ph.cx) (t:=0) O O λqk=>?_
 rw[Zx]at qk;unfold maxLen at qk;refine ro 10 O<|kc (zk XQ O)<|kc (S.gtr .none O (zt O)<|.Zg O)<|kc (zK Wg call310 O)<|jm O<|kc (zk XQ O)<|kc (S.leq .none O (zt O)<|.Zg O)<|kc (zK Wg call310 O) ?_;refine RK.c (zM [[_],[_]] V6 O O O O)<|kc (S.XY (QY (l:=[_,_])) call309 .none O (zc O .nil) (.cons (.p (.own O O) O) .nil) O) ?_;refine rr 9 O<|kB O (λb=>?_) λb=>?_
 ·have f:YC (ZD m) l=(0,jT<|R l):=iA b;refine ro 7 O<|kS O O O O ?_;rw[f]
  try first|rfl|simp[jT]
 have q:=iB (g:=ZD m) (l:=l)<|Zu.1 b;refine ro 6 O<|kc (zk XQ O)<|rr 4 O ?_;refine OK.loop (G:=Nat) [] (λi=>[(1,bv<|3 - (m:Int)),(23,.sl<|l.map Ph.cx),(24,bv (R l:Int)),(25,bv i)]) (λi=>i<=R l/\YC (ZD m) l=ZP (λ_ p=>ZD m p) i (l.drop i)) (λi=>R l - i) 0 ⟨Zr _,q.1⟩ ⟨O,O,O,O,Zo⟩ (λ_=>O) ?_;rintro i ⟨hi,h⟩;refine ro 6 O<|kB O (λk=>?_) λk=>?_
 ·have e:i<R l:=by omega
  refine ro 7 O<|kc (zI XQ O I O) ?_;refine rr 10 O<|kc (zK (n l[i]) call329 O)<|rr 9 O<|kB O (λa=>?_) λa=>?_
  ·have f:YC (ZD m) l=((i:Int),ZD m l[i]):=by rw[h,Zd _ e,Zn a]
   refine ro 8 O<|kS O O O O ?_;rw[f]
   try first|rfl|simp[jT]
  have o:ZD m l[i]=0:=Zu.1 a;refine Ro 7 O I ?_;refine Ab.D.lp ⟨i+1,⟨by omega,by rw[h,Zd _ e,Zm<|by rw[o];decide]⟩,I,O,O,O,O,Zo⟩
 have f:YC (ZD m) l=(0,0):=by rw[h,show i=R l by omega,da];rfl
 refine ro 8 O<|kS O O O O ?_;rw[f]
 try first|rfl|simp[jT]
def pU(m:Nat)(b:m<=3):(∀p:Ph,Ct prog 329 [.agg p.cx,bv<|3 - (m:Int)]<|bv<|ZD m p)/\∀l:List Ph,Ct prog 307 [.sl<|l.map Ph.cs,bv<|3 - (m:Int)] (.Yy [bv (YC (ZD m) l).1,bv (YC (ZD m) l).2]):=by
 induction m with
 |zero=>
  have a:∀p:Ph,Ct prog 329 [.agg p.cx,bv<|3 - ((0:Nat):Int)] (bv<|ZD 0 p):=λp=>Oq b λc e=>by omega
  exact⟨a,λl=>M7 b a⟩
 |succ m f=>
  obtain⟨_,h⟩:=f I;have a:∀p:Ph,Ct prog 329 [.agg p.cx,bv<|3 - ((m+1:Nat):Int)] (bv<|ZD (m+1) p):=λp=>Oq b λc e=>by
   have:c=m:=I
   subst this;exact h
  exact⟨a,λl=>M7 b a⟩
def B3:Ct prog 307 [.sl<|l.map Ph.cs,bv 0]<|.Yy [bv (YC (ZD 3) l).1,bv (YC (ZD 3) l).2]:=(pU 3<|Zq _).2 l
def Ry{σ α:Type}(g:σ->α->σ×Bool):∀(a b:List α)(s:σ),ZZ g s (a++b)=if(ZZ g s a).2=true then ZZ g (ZZ g s a).1 b else ZZ g s a
 |[],b,s=>by simp[ZZ]
 |x::a,b,s=>by
  rw[H5,ZZ,ZZ];split
  ·exact Ry g a b _
  simp
theorem tE{σ α:Type}(g:σ->α->σ×Bool)(s:σ)(x:α):ZZ g s [x]=g s x:=by
 grind [ZZ]
def D0{σ α:Type}{g:σ->α->σ×Bool}{P:σ->Prop}(a:∀s x,P s->(g s x).2=true->P (g s x).1):∀(L:List α)(s:σ),P s->(ZZ g s L).2=true->P (ZZ g s L).1
 |[],_,h,_=>h
 |x::L,s,h,h2=>by
  rw[ZZ]at h2⊢;split
  ·rename_i b;rw[Zn b]at h2;exact D0 a L _ (a s x h b) h2
  simp_all
def Yc(d:Nat)(p:Ph):List Ph:=if p.kind=5 then(List.replicate p.ticks.toNat<|YV d p.body).flatten else [p]
theorem T8(d:Nat)(l:List Ph):YV (d+1) l=l.flatMap (Yc d):=rfl
def Deep:Nat->List Ph->Prop
 |0,_=>False
 |d+1,l=>∀p∈l,p.kind=5->(0<=p.ticks/\p.ticks<=10)/\Deep d p.body
section
variable{σ:Type}{g:σ->Ph->σ×Bool}{s0 s:σ}{d:Nat}{l:List Ph}{i j:Nat}{L:List Ph}
def gD(hi:i<R l)(h:(ZZ g s0<|(l.take i).flatMap<|Yc d).2=true):ZZ g s0 ((l.take<|i+1).flatMap<|Yc d)=ZZ g (ZZ g s0<|(l.take i).flatMap<|Yc d).1 (Yc d l[i]):=by
 rw[mv hi,cγ,Ry,Zn h];simp
def wg(hi:i<R l)(h:(ZZ g s0<|(l.take<|i+1).flatMap<|Yc d).2=false):ZZ g s0 (YV (d+1) l)=ZZ g s0 ((l.take<|i+1).flatMap<|Yc d):=by
 rw[T8];have e:l.flatMap (Yc d)=(l.take<|i+1).flatMap (Yc d)++(l.drop<|i+1).flatMap (Yc d):=by rw[←cγ,a7]
 simp_all[Ry]
def aE(hi:R l<=i):(l.take i).flatMap (Yc d)=YV (d+1) l:=by rw[sg hi];rfl
theorem HH(h:p.kind≠5):Yc d p=[p]:=Zm h
def Du(h:p.kind=5):Yc d p=(List.replicate p.ticks.toNat<|YV d p.body).flatten:=Zn h
def qu(h:(ZZ g s<|(List.replicate j L).flatten).2=true):ZZ g s ((List.replicate (j+1) L).flatten)=ZZ g (ZZ g s<|(List.replicate j L).flatten).1 L:=by
 rw[eξ,aω,Ry,Zn h];simp
theorem qv{n:Nat}(a:j+1<=n)(h:(ZZ g s<|(List.replicate (j+1) L).flatten).2=false):ZZ g s ((List.replicate n L).flatten)=ZZ g s ((List.replicate (j+1) L).flatten):=by
 obtain⟨k,rfl⟩:∃k,n=(j+1)+k:=⟨n - (j+1),I⟩;rw[←List.replicate_append_replicate,aω,Ry,Zm<|by grind]
end
def uk{σ:Type}{J:σ->bm}{g:σ->Ph->σ×Bool}{Φ:Value->Prop}(n:∀s,Y2<|J s){P:σ->Prop}(K:∀s p,P s->(g s p).2=true->P (g s p).1)(H:∀v,Φ v->∀s p,P s->ND prog v [.agg p.cx] (.bool (g s p).2) (J s) (J (g s p).1)){d:Nat}(hd:Deep (d+1) l)(T:∀b:List Ph,Deep d b->∀s,P s->Vi prog 330 [] [.sl<|b.map Ph.cs,.cb Φ] [(3000,.res<|J s)] [(3000,.res<|J (ZZ g s<|YV d b).1)] (.bool (ZZ g s<|YV d b).2)){s0:σ}(z:P s0):Vi prog 330 [] [.sl<|l.map Ph.cs,.cb Φ] [(3000,.res<|J s0)] [(3000,.res<|J (ZZ g s0<|YV (d+1) l).1)]<|.bool (ZZ g s0<|YV (d+1) l).2:=by
 refine cG func330 O λ{_ _}=>?_
 rw[Nh l];refine OK.XF (vi:=l.map Ph.cx) (t:=0) O O λqk=>?_
 rw[Zx]at qk;unfold maxLen at qk;refine ro 9 O<|kc (zk XQ O)<|rr 4 O ?_;refine OK.loop (G:=Nat) [] (λi=>[(1,.cb Φ),(7,.sl<|l.map Ph.cx),(8,bv (R l:Int)),(9,bv i),(3000,.res<|J (ZZ g s0<|(l.take i).flatMap<|Yc d).1)]) (λi=>i<=R l/\(ZZ g s0<|(l.take i).flatMap<|Yc d).2=true) (λi=>R l - i) 0 ⟨Zr _,O⟩ ⟨O,O,O,O,O,Zo⟩ (λ_=>O) ?_;rintro i ⟨hi,e⟩;refine ro 6 O<|kB O (λN=>?_) λN=>?_
 ·have m:i<R l:=by omega
  have A:=gD m e;refine ro 6 O<|kc (zI XQ O I O) ?_;refine rr 13 O<|kB O (λw=>?_) λw=>?_
  ·have a:ZZ g s0 ((l.take<|i+1).flatMap<|Yc d)=g (ZZ g s0<|(l.take i).flatMap<|Yc d).1 l[i]:=by rw[A,HH w,tE]
   refine ro 5 O ?_;refine kc (S.Lm (J1:=J (g (ZZ g s0<|(l.take i).flatMap<|Yc d).1 l[i]).1) ((λv U=>H v U (ZZ g s0<|(l.take i).flatMap<|Yc d).1 l[i]<|D0 K _ _ z e)) (n _) .none O (zt O) (zc O .nil) O O) ?_;refine kc (S.not .none O<|zt O)<|kD<|OK.cond O O (λu=>?_) λu=>?_
   ·have x:(g (ZZ g s0<|(l.take i).flatMap<|Yc d).1 l[i]).2=false:=by simpa using u
    have h:=wg m (by rw[a];exact x);rw[a]at h;refine ro 5 O ?_;refine OK.ret ⟨Y3.r1 (zo O O) ?_,tN (by rw[h]),Zo⟩;rw[h,x]
   have q:(g (ZZ g s0<|(l.take i).flatMap<|Yc d).1 l[i]).2=true:=by simpa using u
   refine Ro 8 O I ?_;refine Ab.D.lp ⟨i+1,⟨by omega,by rw[a];exact q⟩,I,O,O,O,O,(tN<|by rw[a]),Zo⟩
  have Q:l[i].kind=5:=Zu.1 w;obtain⟨V,F⟩:=hd l[i] (Zt m) Q;have f:=A;rw[Du Q]at f;refine ro 10 O ?_;refine OK.loop (G:=Nat) [6] (λj=>[(1,.cb Φ),(6,.ptr 6 0),(1006,.box l[i].cx),(7,.sl<|l.map Ph.cx),(8,bv (R l:Int)),(9,bv i),(21,bv l[i].ticks),(22,bv j),(3000,.res<|J (ZZ g (ZZ g s0<|(l.take i).flatMap<|Yc d).1<|(List.replicate j<|YV d l[i].body).flatten).1)]) (λj=>j<=l[i].ticks.toNat/\(ZZ g (ZZ g s0<|(l.take i).flatMap<|Yc d).1<|(List.replicate j<|YV d l[i].body).flatten).2=true) (λj=>l[i].ticks.toNat - j) 0 ⟨Zr _,O⟩ ⟨O,O,O,O,O,O,O,O,O,Zo⟩ (λ_=>O) ?_;rintro j ⟨W,o⟩;refine ro 6 O<|kB O (λM=>?_) λM=>?_
  ·have k:=qu o;have B:j+1<=l[i].ticks.toNat:=by omega
   refine ro 9 O ?_;refine RK.c (S.VO (((T l[i].body F (ZZ g (ZZ g s0<|(l.take i).flatMap<|Yc d).1<|(List.replicate j<|YV d l[i].body).flatten).1<|D0 K _ _ (D0 K _ _ z e) o).Tq<|n _)) (n _) call330 .none O (zc O<|zc O .nil) O O)<|kc (S.not .none O<|zt O)<|kD<|OK.cond O O (λr=>?_) λr=>?_
   ·have x:(ZZ g (ZZ g (ZZ g s0<|(l.take i).flatMap<|Yc d).1<|(List.replicate j<|YV d l[i].body).flatten).1<|YV d l[i].body).2=false:=by simpa using r
    have y:=qv B (by rw[k];exact x);have a:=f.trans<|y.trans k;have h:=wg m (by rw[a];exact x);rw[a]at h;refine ro 5 O ?_;refine OK.ret ⟨Y3.r1 (zo O O) ?_,tN (by rw[h]),Zo⟩;rw[h,x]
   have E:(ZZ g (ZZ g (ZZ g s0<|(l.take i).flatMap<|Yc d).1<|(List.replicate j<|YV d l[i].body).flatten).1<|YV d l[i].body).2=true:=by simpa using r
   refine Ro 7 O I ?_;refine Ab.D.lp ⟨j+1,⟨by omega,by rw[k];exact E⟩,I,O,O,O,O,O,O,O,O,(tN<|by rw[k]),Zo⟩
  have C:j=l[i].ticks.toNat:=by omega
  have a:ZZ g s0 ((l.take<|i+1).flatMap<|Yc d)=(ZZ g (ZZ g s0<|(l.take i).flatMap<|Yc d).1<|(List.replicate j<|YV d l[i].body).flatten):=by rw[f,C]
  have q:=o;refine Ro 7 O I ?_;refine Ab.D.lp ⟨i+1,⟨by omega,by rw[a];exact q⟩,I,O,O,O,O,(tN<|by rw[a]),Zo⟩
 have h:ZZ g s0 (YV (d+1) l)=(ZZ g s0<|(l.take i).flatMap<|Yc d):=by rw[aE I]
 refine ro 7 O ?_;refine OK.ret ⟨Y3.r1 (zo O O) ?_,tN (by rw[h]),Zo⟩;rw[h,e]
def B2{σ:Type}{J:σ->bm}{g:σ->Ph->σ×Bool}{Φ:Value->Prop}(a:∀s,Y2<|J s){P:σ->Prop}(c:∀s p,P s->(g s p).2=true->P (g s p).1)(b:∀v,Φ v->∀s p,P s->ND prog v [.agg p.cx] (.bool (g s p).2) (J s) (J (g s p).1)):∀(d:Nat)(l:List Ph),Deep d l->∀s,P s->Vi prog 330 [] [.sl<|l.map Ph.cs,.cb Φ] [(3000,.res<|J s)] [(3000,.res<|J (ZZ g s<|YV d l).1)] (.bool (ZZ g s<|YV d l).2)
 |0,_,h=>h.elim
 |d+1,_,h=>λ_ hs=>uk a c b h (B2 a c b d) hs
abbrev zRow:bi:=[bv 0,bv 0,bv 0,bv 0,bv 0,.sl []]
def iY(l:List Ph)(p:Ph):(l.map Ph.cx++[zRow]).set (R l) p.cx=(l++[p]).map Ph.cx:=by
 simp
def yD(l:List Ph)(p:Ph):List Ph×Bool:=(l++[p],decide ((R (l++[p]):Int)<=60))
theorem Fm:∀(L a:List Ph),R a<=60->(ZZ yD a L).1=(a++L).take 61
 |[],a,h=>by grind [ZZ,List.take_of_length_le]
 |p::L,a,h=>by
  rw[ZZ];by_cases b:(yD a p).2=true
  ·rw[Zn b];have c:(R (a++[p]):Int)<=60:=pf b;have:=Fm L (a++[p]) I;rw[show(yD a p).1=a++[p]from rfl,this,m7];rfl
  rw[Zm b];have c:¬(R (a++[p]):Int)<=60:=λe=>b<|Zz e
  rw[Zs,R0]at c;show a++[p]=_;rw[show a++p::L=(a++[p])++L by simp,aε<|by grind,sg<|by simp_all]
def fB(l:List Ph):St:=[(1003,.box [.own 890<|R l]),(2890,.arr 6<|l.map Ph.cx)]
def um(a:R l<=60):Vi prog 331 [3,890] [.agg p.cx,.ptr 3 0] [(1003,.box [.own 890<|R l]),(2890,.arr 6<|(l).map Ph.cx)] [(1003,.box [.own 890<|R<|l++[p]]),(2890,.arr 6<|(l++[p]).map Ph.cx)]<|.bool<|decide ((R (l++[p]):Int)<=60):=by
 refine cG func331 O<|ro 7 O ?_;refine kV (.c (zl EX O O O O)<|.c (zL X0 O O O O)<|.c (S.sC XQ .none O (zt O) O F)<|.c (S.n_ (k:=7) (u0:=zRow) My .none O (.cagg O O) O O ⟨.inl ⟨O,O⟩,.inl ⟨O,O⟩,.inl ⟨O,O⟩,.inl ⟨O,O⟩,.inl ⟨O,O⟩,.inr ⟨O,O⟩,Zo⟩ O O)<|.c (zP My O O F N I<|by simp only[maxLen];omega)<|.c (S.Mb (i:=R l) XQ .none O (zt O) O F (zt O) O F)<|.c (S.o8 (i:=R l) X0 .none (zt O) (zt O) O F O F O O O<|iY l p)<|.c (zS EX O O O O O O) .nil) ?_;refine rd 4 O ?_;refine kc (S.sC XQ .none O (zt O) O F) ?_;refine rr 4 O ?_;refine OK.ret ⟨Y3.r1 (zo O O) ?_,(by rw[Zs];rfl),O,Zo⟩;rw[Zs];rfl
def GQ(hd:Deep 4 l):Ct prog 308 [.sl<|l.map Ph.cs]<|.sl<|(Tn l).map Ph.cx:=by
 refine cI func308 O<|kr<|kc (S.assign .none O .Ya)<|rr 8 O<|OK.VL 3 0 890 6 O O O O O<|OK.R3<|jm O<|kc (S.Xd .none O (zt O) O) ?_;refine RK.c (S.dP (ys:=[.sl<|l.map Ph.cs]) (fs:=[3,890]) (t:=[(1003,.box [.own 890<|R<|([]:List Ph)]),(2890,.arr 6<|(([]:List Ph)).map Ph.cx)]) (t':=[(1003,.box [.own 890<|R<|(ZZ yD []<|YV 4 l).1]),(2890,.arr 6<|((ZZ yD []<|YV 4 l).1).map Ph.cx)]) (λh b e=>B2 (J:=λs=>R5 [3,890] (fB []) h<|fB s) (g:=yD) (Φ:=λv=>v=b) (λs=>R5.ZV O) (P:=λs=>R s<=60) (λs p k f=>by have:=pf f;show(R<|s++[p])<=60;omega) (λv a s p hs=>by rw[show v=b from a];exact vX (um hs) call331 rfl e rfl rfl) 4 l hd []<|Zr _) call330 .none O (zc O<|zc O .nil) O O O ⟨O,O,Zo⟩ V V V V V O O) ?_;refine rr 3 O ?_;rw[show(ZZ yD []<|YV 4 l).1=Tn l from(Fm _ []<|Zr _).trans rfl];refine ro 5 O ?_;refine OK.ret<|Y3.r1 (.tmp O O (.c (.own O O N) O) O) ?_;rfl
def AY{g:Ph->Int}:∀{l:List Ph}{i:Nat},(ZP (λ_ p=>g p) i l).2=0->∀p∈l,g p=0
 |[],_,_,p,a=>by cases a
 |x::l,i,h,p,a=>by
  rw[ZP]at h;split at h
  ·omega
  rename_i b;rcases sf.1 a with rfl|a
  ·omega
  exact AY h p a
theorem UE(h:(YC g l).2=0):l≠[]/\∀p∈l,g p=0:=by
 unfold YC at h;split at h
 ·omega
 rename_i a;split at h
 ·omega
 exact⟨λe=>a (by rw[e];rfl),AY h⟩
theorem SZ(h:ZD m p=0)(k:p.kind=5):(1<=p.ticks/\p.ticks<=10)/\∃b,m=b+1/\(YC (ZD b) p.body).2=0:=by
 have e:0<=p.kind/\p.kind<=5:=I
 have a:RC p=0:=by
  grind [PO]
 have c:Ys p=true:=by
  unfold RC at a;cases f:YE p<;>cases c:Ys p<;>rw[f,c]at a<;>first|rfl|exact absurd a C
 have n:1<=p.ticks/\p.ticks<=10:=by
  simp_all[Ys]
 cases m with
 |zero=>simp_all[LS]
 |succ m=>rw[IA e a k]at h;simp_all
theorem Ds:∀(m:Nat){l:List Ph},(YC (ZD m) l).2=0->Deep (m+1) l:=by
 intro m
 induction m with
 |zero=>
  intro l h p a b;obtain⟨_,c,e,_⟩:=SZ ((UE h).2 p a) b;omega
 |succ m f=>
  intro l h p a b;obtain⟨n,c,e,k⟩:=SZ ((UE h).2 p a) b;grind
def wF:∀(m:Nat){l:List Ph},(YC (ZD m) l).2=0->YV (m+1) l≠[]:=by
 intro m
 induction m with
 |zero=>
  intro l h;obtain⟨k,c⟩:=UE h;cases l with
  |nil=>simp_all
  |cons p l=>
   have b:=c p rv;have a:p.kind≠5:=λa=>by
    obtain⟨_,f,e,_⟩:=SZ b a;omega
   simp_all[T8,HH]
 |succ m q=>
  intro l h;obtain⟨k,c⟩:=UE h;cases l with
  |nil=>simp_all
  |cons p l=>
   have b:=c p rv;rw[T8,List.flatMap_cons];intro e;rw[List.append_eq_nil_iff]at e;by_cases a:p.kind=5
   ·obtain⟨r,f,v,u⟩:=SZ b a;have:f=m:=I
    subst this;have o:=e.1;rw[Du a]at o;obtain⟨n,t⟩:∃n,p.ticks.toNat=n+1:=⟨p.ticks.toNat - 1,I⟩;simp_all
   simp_all[HH]
theorem tj(h:(YC (ZD 3) l).2=0):0<R (Tn l):=by
 have a:0<R (YV 4 l):=aη.2<|wF 3 h;show 0<R ((YV 4 l).take 61);grind
theorem mU(l:List Ph):R (Tn l)<=61:=by
 show(R<|(YV 4 l).take 61)<=61;grind
theorem tJ{L:List Ph}(h:R L - 1<R L):(L.getLast?.map Ph.kind).getD 0=L[R L - 1].kind:=by
 grind
theorem yh(h:(YC (ZD 3) l).2≠0):Ln l=(YC (ZD 3) l).2:=Zn h
theorem yj(h:(YC (ZD 3) l).2=0)(a:R (Tn l) - 1<R (Tn l)):Ln l=ZW [Z8 (decide ((R (Tn l):Int)<=60)) 8,Z8 (Tg (Tn l)[R (Tn l) - 1].kind) 20]:=by
 simp_all[Ln,tJ]
variable{s:ba}
def pS(h:2000<R s):VJ s=([],8):=Zn h
def y4(h:¬2000<R s)(a:(US s).1.2=false\/(US s).2≠[]):VJ s=([],7):=by
 simp_all[VJ]
def pT(h:¬2000<R s)(c:(US s).1.2=true)(b:(US s).2=[])(a:Ln (US s).1.1≠0):VJ s=([],Ln (US s).1.1):=by
 simp_all[VJ,Zm]
def pQ(h:¬2000<R s)(c:(US s).1.2=true)(b:(US s).2=[])(a:Ln (US s).1.1=0):VJ s=((US s).1.1,0):=by
 simp_all[VJ]
def y5:Ct prog 311 [bv k]<|.bool<|Tg k:=by
 refine cI func311 O<|ro 10 O<|RK.ZS (t:=5) O (λa=>?_) λa=>?_
 ·refine rr 6 O<|kR O O ?_;simp[Tg, *]
 refine rr 6 O<|kR O O ?_;simp[Tg, *]
def Kq:Ct prog 272 [.sl<|l.map Ph.cs]<|.Yy [bv (if(YC (ZD 3) l).2≠0 then(YC (ZD 3) l).1 else 0),bv<|Ln l]:=by
 refine cI func272 O<|ro 10 O<|kc (zK (B3 (l:=l)) call307 O)<|rr 13 O<|kB O (λa=>?_) λa=>?_
 ·have e:=yh (l:=l) a;refine ro 8 O<|kS O O O O ?_;rw[e,Zn a]
  try rfl
 have h0:(YC (ZD 3) l).2=0:=Zu.1 a;have f:=tj h0;have xf:=mU l;have b:R (Tn l) - 1<R (Tn l):=I
 have e:=yj h0 b;refine ro 5 O<|kc (zK (GQ<|Ds 3 h0) call308 O)<|rr 4 O ?_;refine kV (.c (zm O)<|.c (zk XQ O)<|.c (S.leq .none O (zt O)<|.Zg O)<|.c (zK Wg call310 O)<|.c (zm O)<|.c (zm O)<|.c (zk XQ O)<|.c (S.sub .none O (zt O) (.Zg O) (mn _ I)<|mn _ I)<|.c (S.Zi (n:=(R (Tn l) - 1)) XQ .none O (zt O) (zt O) I b O)<|.c (S.field gM .none O (zt O) O)<|.c (zV YK O O)<|.c (zK y5 call311 O)<|.c (zK Wg call310 O)<|.c (zM [[_],[_]] V6 O O O O)<|.c (S.XY (QY (l:=[_,_])) call309 .none O (zc O .nil) (.cons (.p (.own O O) O) .nil) O)<|.c (zi O O)<|.c (za O) .nil)<|Ab.D.code<|kS O O O O ?_;rw[e,Zm a]
 try rfl
def Kr(o:R s<=100000)(p:Ra s):Q7 prog 228 [.str s]<|.Yy [.sl<|(VJ s).1.map Ph.cs,bv (VJ s).2]:=by
 refine cT func228 O λa=>?_
 refine kr<|kc (S.assign .none O .Ya)<|rr 11 O<|kB O (λn=>?_) λn=>?_
 ·have a:=pS (s:=s) I;refine kr<|kc (S.assign .none O .Ya)<|rr 3 O<|kS O O O O ?_;rw[a];try rfl
 have b:¬2000<R s:=I
 refine ro 5 O<|kc (zU bu381 O O)<|rr 6 O ?_;refine RK.c (S.aq (fs:=[4]) (t:=[(1004,.box [.str s])]) (t':=[(1004,.box [.str (US s).2])]) (pX o p) a call271 .none O (zc O .nil) V ⟨O,Zo⟩ V V V V O V) ?_;refine rr 11 O<|kc (S.not .none O<|zt O)<|jm O<|RK.split (t:=20) O (λe=>?_) λe=>?_
 ·have a:=y4 b (.inl<|by simpa using e);refine rr 9 O<|kc (S.assign .none O .Ya)<|rr 3 O<|kS O O O O ?_;rw[a];try rfl
 have k:(US s).1.2=true:=by simpa using e
 refine rr 6 O<|kB O (λh=>?_) λh=>?_
 ·have a:=y4 b (.inr<|by simpa using h);refine kr<|kc (S.assign .none O .Ya)<|rr 3 O<|kS O O O O ?_;rw[a];try rfl
 have m:(US s).2=[]:=by simpa using h
 refine ro 6 O<|kc (zK (Kq (l:=(US s).1.1)) call272 O)<|rr 13 O<|kB O (λf=>?_) λf=>?_
 ·have a:=pT b k m f;refine ro 3 O<|kc (S.assign .none O .Ya)<|rr 3 O<|kS O O O O ?_;rw[a];try rfl
 have a:=pQ b k m<|Zu.1 f;refine ro 9 O<|kS O O O O ?_;rw[a];try rfl
