import Derived.Test.YtkkbjdenehfpaaaGreatDoorRzN
set_option linter.all false
set_option maxHeartbeats 2000000
open List renaming length->R
namespace Go.Proofs.Z_
open Go.Ab Tryz
set_option maxRecDepth 9999
def Jg(k:Int):List Bool:=if k=0 then [true,false,false,false]else if k=2 then [false,true,false,false]else if k=3 then [true,false,true,false]else if k=4 then [false,true,true,false]else if k=5 then [false,false,false,true]else [false,false,false,false]
variable{p:Ph}
def cg(a:YE p=false):RC p=3:=by simp_all[RC,ZW,Z8]
def b_(b:YE p=true)(a:Ys p=false):RC p=2:=by simp_all[RC,ZW,Z8]
def LP(b:YE p=true)(a:Ys p=true):RC p=0:=by simp_all[RC,ZW,Z8]
variable{m:Nat}
def W4(a:0<=p.kind/\p.kind<=5)(b:YE p=false):ZD m p=3:=by
 simp_all[cg,PO]
def Vc(b:0<=p.kind/\p.kind<=5)(c:YE p=true)(a:Ys p=false):ZD m p=2:=by
 simp_all[b_,PO]
variable{l:List Ph}{g:Ph->Int}
def iC(h:R l=0):YC g l=(0,10):=Zn h
theorem nQ(h:¬R l=0)(a:12<R l):YC g l=(0,8):=by unfold YC;simp_all
def bA(h:¬R l=0)(a:¬12<R l):YC g l=ZP (λ_ p=>g p) 0 l:=by simp_all[YC,Zm]
theorem iJ(t L ao:Nat):min 61 (min 61 ao+t * min 61 L)=min 61 (ao+t * L):=by
 rcases dθ t with rfl|a
 ·simp
 by_cases h:L<=61
 ·grind
 have d:min 61 L=61:=I
 have c:61<=t * 61:=cμ 61 a;have b:L<=t * L:=cμ L a;grind
def Dp(d:Nat)(l:List Ph):Nat:=min 61<|R<|l.flatMap<|Yc d
variable{d i:Nat}
theorem Lu(h:i<R l):(l.take<|i+1).flatMap (Yc d)=(l.take i).flatMap (Yc d)++Yc d l[i]:=by
 rw[mv h,cγ,List.flatMap_singleton]
def HI(h:p.kind=5):R (Yc d p)=p.ticks.toNat * R (YV d p.body):=by
 rw[Du h,List.length_flatten,List.map_replicate,List.sum_replicate_nat]
theorem cnt_1(h:i<R l)(a:¬l[i].kind=5):Dp d (l.take<|i+1)=min 61 (Dp d (l.take i)+1):=by
 grind [Dp,Lu,HH]
def cnt_r(h:i<R l)(a:l[i].kind=5):Dp d (l.take<|i+1)=min 61 (Dp d (l.take i)+l[i].ticks.toNat * min 61 (R<|YV d l[i].body)):=by
 unfold Dp;rw[Lu h,Zs,HI a,iJ]
def E4:Nat->List Ph->Prop
 |0,_=>True
 |d+1,l=>R (YV (d+1) l)<=1000/\∀p∈l,p.kind=5->E4 d p.body
def mV(c:p∈l)(e:p.kind=5)(f:1<=p.ticks):R (YV d p.body)<=R (YV (d+1) l):=by
 obtain⟨a,b,rfl⟩:=List.append_of_mem c;rw[T8,cγ,List.flatMap_cons,Zs,Zs,HI e];have:R (YV d p.body)<=p.ticks.toNat * R (YV d p.body):=cμ _ I;omega
def A9:∀(m:Nat){l:List Ph},(YC (ZD m) l).2=0->R (YV (m+1) l)<=1000->E4 (m+1) l
 |0,l,h,hl=>⟨hl,λp a b=>trivial⟩
 |m+1,l,h,hl=>⟨hl,λp a b=>by
  obtain⟨f,c,e,d⟩:=SZ ((UE h).2 p a) b;have:c=m:=I
  subst this;exact A9 c d<|di (mV a b f.1) hl⟩
variable{α:Type}
def Cr(j:Nat)(L:List α):(List.replicate (j+1) L).flatten=(List.replicate j L).flatten++L:=by
 rw[eξ,aω,List.flatten_singleton]
def jB(j:Nat)(L:List α):R ((List.replicate j L).flatten)=j * R L:=by
 simp
theorem th(l:List Ph):R (Tn l)=min 61 (R<|YV 4 l):=by show(R<|(YV 4 l).take 61)=_;simp
theorem mT(h:R (YV 4 l)<=60):Tn l=YV 4 l:=sg I
theorem chk_8(h:(YC (ZD 3) l).2=0)(a:60<min 61 (R<|YV 4 l)):Ln l=8:=by
 grind [th,yj,ZW,Z8]
theorem bu(h:R (YV (d+1) l)<=1000)(i:Nat):R ((l.take i).flatMap<|Yc d)<=1000:=by
 grind [List.take_append_drop,T8]
theorem lX(h:(YC (ZD 3) l).2=0)(d:R (YV 4 l)<=60)(a:R (YV 4 l) - 1<R (YV 4 l)){b:Bool}(c:Tg (YV 4 l)[R (YV 4 l) - 1].kind=b):Ln l=Z8 b 20:=by
 grind [mT,yj,ZW,Z8]
def yp(l:List Ph):l.map Ph.cx=l.map Ph.cs:=(Nh l).symm
variable{k:Int}
def Vd:Ct prog 288 [bv k]<|.agg<|(Jg k).map X.bool:=by
 refine cI func288 O<|ro 18 O<|kB O (λe=>?_) λe=>?_
 ·refine kr<|kc (zU xU O O)<|rr 3 O<|OK.ret<|Y3.r1 (zy O O DB O) ?_;refine rn X.agg ?_;simp_all[Jg]
  try rfl
 refine ro 6 O<|kB O (λd=>?_) λd=>?_
 ·refine kr<|kc (zU xU O O)<|rr 3 O<|OK.ret<|Y3.r1 (zy O O DB O) ?_;refine rn X.agg ?_;simp_all[Jg]
  try rfl
 refine ro 6 O<|kB O (λc=>?_) λc=>?_
 ·refine kr<|kc (zU xU O O)<|rr 3 O<|OK.ret<|Y3.r1 (zy O O DB O) ?_;refine rn X.agg ?_;simp_all[Jg]
  try rfl
 refine ro 6 O<|kB O (λb=>?_) λb=>?_
 ·refine kr<|kc (zU xU O O)<|rr 3 O<|OK.ret<|Y3.r1 (zy O O DB O) ?_;refine rn X.agg ?_;simp_all[Jg]
  try rfl
 refine ro 6 O<|kB O (λa=>?_) λa=>?_
 ·refine kr<|kc (zU xU O O)<|rr 3 O<|OK.ret<|Y3.r1 (zy O O DB O) ?_;refine rn X.agg ?_;simp_all[Jg]
  try rfl
 refine ro 5 O<|kc (zU xU O O)<|rr 3 O<|OK.ret<|Y3.r1 (zy O O DB O) ?_;refine rn X.agg ?_;simp_all[Jg]
 try rfl
def qd(h:k=0):Ct prog 288 [bv k]<|.agg [.bool true,.bool false,.bool false,.bool false]:=by subst h;exact Vd
def qg(h:k=1):Ct prog 288 [bv k]<|.agg [.bool false,.bool false,.bool false,.bool false]:=by subst h;exact Vd
def qh(h:k=2):Ct prog 288 [bv k]<|.agg [.bool false,.bool true,.bool false,.bool false]:=by subst h;exact Vd
def ql(h:k=3):Ct prog 288 [bv k]<|.agg [.bool true,.bool false,.bool true,.bool false]:=by subst h;exact Vd
def qn(h:k=4):Ct prog 288 [bv k]<|.agg [.bool false,.bool true,.bool true,.bool false]:=by subst h;exact Vd
def qo(h:k=5):Ct prog 288 [bv k]<|.agg [.bool false,.bool false,.bool false,.bool true]:=by subst h;exact Vd
def Ou{n:Int}:Ct prog 333 [bv n]<|.bool<|decide<|200<=n/\n<=3000:=by
 refine cI func333 O<|ro 8 O<|kc (zK Y4 call98 O)<|rr 3 O<|kR O O ?_;rfl
def PU(w:m<=3)(xf:∀n,m=n+1->∀l:List Ph,Ct prog 289 [.sl<|l.map Ph.cs,bv<|3 - (n:Int)]<|.Yy [bv (YC (ZD n) l).1,bv (YC (ZD n) l).2]):Ct prog 318 [.agg p.cx,bv<|3 - (m:Int)]<|bv<|ZD m p:=by
 refine cI func318 O<|ro 11 O<|kc (zK Y4 call98 O)<|kc (S.Xb .none O<|zt O)<|kD<|kB O (λs=>?_) λs=>?_
 ·have c:¬(0<=p.kind/\p.kind<=5):=by simpa using s
  have a:=LR (m:=m) c;refine ro 5 O<|kR O O ?_;rw[a];try rfl
 have c:0<=p.kind/\p.kind<=5:=by simpa using s
 refine ro 3 O ?_;rcases H7 c with e|e|e|e|e|e
 ·refine ro 3 O<|kc (zK (qd e) call288 O)<|rr 9 O<|kc (S.not .none O<|zt O)<|rr 8 O<|kc (S.not (zg O O) O<|zt O)<|rr 7 O<|RK.ZS (t:=34) O (λj=>?_) λj=>?_
  ·have a:=W4 (m:=m) c (by unfold YE;rw[e];simp[-List.length_eq_zero_iff];first|omega|(intros;omega));refine rr 28 O<|kR O O ?_;rw[a];try rfl
  refine rr 2 O<|kc (S.not (zg O O) O<|zt O)<|rr 7 O<|RK.ZS (t:=44) O (λi=>?_) λi=>?_
  ·have a:=W4 (m:=m) c (by unfold YE;rw[e];simp[-List.length_eq_zero_iff];first|omega|(intros;omega));refine rr 18 O<|kR O O ?_;rw[a];try rfl
  refine rr 2 O<|kc (S.not (zg O O) O<|zt O)<|rr 3 O<|kc (S.OF XQ (zg O O) O<|zt O)<|rr 5 O<|kB O (λh=>?_) λh=>?_
  ·have a:=W4 (m:=m) c (by unfold YE;rw[e];simp[-List.length_eq_zero_iff];first|omega|(intros;omega));refine ro 5 O<|kR O O ?_;rw[a];try rfl
  refine ro 3 O ?_;have b:YE p=true:=(by unfold YE;rw[e];simp[-List.length_eq_zero_iff];first|omega|(intros;omega));refine ro 22 O<|kc (S.call Y4 call98 (zg O O) O (zc O<|zC O<|zD O) O)<|kc (S.Xb (zg O O) O<|zt O)<|rr 2 O<|RK.ZS (t:=65) O (λq=>?_) λq=>?_
  ·have a:=Vc (m:=m) c b (by unfold Ys;rw[e];simp;first|omega|(intros;omega));refine rr 34 O<|kR O O ?_;rw[a];try rfl
  refine rr 13 O<|kc (S.call Y4 call98 (zg O O) O (zc O<|zC O<|zc O .nil) O)<|kc (S.Xb (zg O O) O<|zt O)<|rr 2 O<|RK.ZS (t:=82) O (λg=>?_) λg=>?_
  ·have a:=Vc (m:=m) c b (by unfold Ys;rw[e];simp;first|omega|(intros;omega));refine rr 17 O<|kR O O ?_;rw[a];try rfl
  refine rr 16 O ?_;have f:Ys p=true:=(by unfold Ys;rw[e];simp;first|omega|(intros;omega));have d:=LP b f;refine ro 3 O<|kc (S.not .none O<|zt O)<|rr 4 O ?_;have a:=RD (m:=m) c d I;refine ro 4 O<|kR O O ?_;rw[a];try rfl
 ·refine ro 3 O<|kc (zK (qg e) call288 O)<|rr 9 O<|kc (S.not .none O<|zt O)<|rr 6 O<|RK.ZS (t:=24) O (λk=>?_) λk=>?_
  ·have a:=W4 (m:=m) c (by unfold YE;rw[e];simp[-List.length_eq_zero_iff];first|omega|(intros;omega));refine rr 38 O<|kR O O ?_;rw[a];try rfl
  refine rr 2 O<|kc (S.not (zg O O) O<|zt O)<|rr 7 O<|RK.ZS (t:=34) O (λj=>?_) λj=>?_
  ·have a:=W4 (m:=m) c (by unfold YE;rw[e];simp[-List.length_eq_zero_iff];first|omega|(intros;omega));refine rr 28 O<|kR O O ?_;rw[a];try rfl
  refine rr 2 O<|kc (S.not (zg O O) O<|zt O)<|rr 7 O<|RK.ZS (t:=44) O (λi=>?_) λi=>?_
  ·have a:=W4 (m:=m) c (by unfold YE;rw[e];simp[-List.length_eq_zero_iff];first|omega|(intros;omega));refine rr 18 O<|kR O O ?_;rw[a];try rfl
  refine rr 2 O<|kc (S.not (zg O O) O<|zt O)<|rr 3 O<|kc (S.OF XQ (zg O O) O<|zt O)<|rr 5 O<|kB O (λh=>?_) λh=>?_
  ·have a:=W4 (m:=m) c (by unfold YE;rw[e];simp[-List.length_eq_zero_iff];first|omega|(intros;omega));refine ro 5 O<|kR O O ?_;rw[a];try rfl
  refine ro 3 O ?_;have b:YE p=true:=(by unfold YE;rw[e];simp[-List.length_eq_zero_iff];first|omega|(intros;omega));refine ro 39 O<|kc (S.call Y4 call98 (zg O O) O (zc O<|zC O<|zc O .nil) O)<|kc (S.Xb (zg O O) O<|zt O)<|rr 2 O<|RK.ZS (t:=82) O (λg=>?_) λg=>?_
  ·have a:=Vc (m:=m) c b (by unfold Ys;rw[e];simp;first|omega|(intros;omega));refine rr 17 O<|kR O O ?_;rw[a];try rfl
  refine rr 16 O ?_;have f:Ys p=true:=(by unfold Ys;rw[e];simp;first|omega|(intros;omega));have d:=LP b f;refine ro 3 O<|kc (S.not .none O<|zt O)<|rr 4 O ?_;have a:=RD (m:=m) c d I;refine ro 4 O<|kR O O ?_;rw[a];try rfl
 ·refine ro 3 O<|kc (zK (qh e) call288 O)<|rr 9 O<|kc (S.not .none O<|zt O)<|rr 6 O<|RK.ZS (t:=24) O (λk=>?_) λk=>?_
  ·have a:=W4 (m:=m) c (by unfold YE;rw[e];simp[-List.length_eq_zero_iff];first|omega|(intros;omega));refine rr 38 O<|kR O O ?_;rw[a];try rfl
  refine rr 2 O<|kc (S.not (zg O O) O<|zt O)<|rr 9 O<|kc (S.not (zg O O) O<|zt O)<|rr 7 O<|RK.ZS (t:=44) O (λi=>?_) λi=>?_
  ·have a:=W4 (m:=m) c (by unfold YE;rw[e];simp[-List.length_eq_zero_iff];first|omega|(intros;omega));refine rr 18 O<|kR O O ?_;rw[a];try rfl
  refine rr 2 O<|kc (S.not (zg O O) O<|zt O)<|rr 3 O<|kc (S.OF XQ (zg O O) O<|zt O)<|rr 5 O<|kB O (λh=>?_) λh=>?_
  ·have a:=W4 (m:=m) c (by unfold YE;rw[e];simp[-List.length_eq_zero_iff];first|omega|(intros;omega));refine ro 5 O<|kR O O ?_;rw[a];try rfl
  refine ro 3 O ?_;have b:YE p=true:=(by unfold YE;rw[e];simp[-List.length_eq_zero_iff];first|omega|(intros;omega));refine ro 31 O<|kc (S.call Y4 call98 (zg O O) O (zc O<|zC O<|zD O) O)<|kc (S.Xb (zg O O) O<|zt O)<|rr 3 O<|RK.ZS (t:=75) O (λo=>?_) λo=>?_
  ·have a:=Vc (m:=m) c b (by unfold Ys;rw[e];simp;first|omega|(intros;omega));refine rr 24 O<|kR O O ?_;rw[a];try rfl
  refine rr 3 O<|kc (S.call Y4 call98 (zg O O) O (zc O<|zC O<|zc O .nil) O)<|kc (S.Xb (zg O O) O<|zt O)<|rr 2 O<|RK.ZS (t:=82) O (λg=>?_) λg=>?_
  ·have a:=Vc (m:=m) c b (by unfold Ys;rw[e];simp;first|omega|(intros;omega));refine rr 17 O<|kR O O ?_;rw[a];try rfl
  refine rr 16 O ?_;have f:Ys p=true:=(by unfold Ys;rw[e];simp;first|omega|(intros;omega));have d:=LP b f;refine ro 3 O<|kc (S.not .none O<|zt O)<|rr 4 O ?_;have a:=RD (m:=m) c d I;refine ro 4 O<|kR O O ?_;rw[a];try rfl
 ·refine ro 3 O<|kc (zK (ql e) call288 O)<|rr 9 O<|kc (S.not .none O<|zt O)<|rr 8 O<|kc (S.not (zg O O) O<|zt O)<|rr 7 O<|RK.ZS (t:=34) O (λj=>?_) λj=>?_
  ·have a:=W4 (m:=m) c (by unfold YE;rw[e];simp[-List.length_eq_zero_iff];first|omega|(intros;omega));refine rr 28 O<|kR O O ?_;rw[a];try rfl
  refine rr 2 O<|kc (S.not (zg O O) O<|zt O)<|rr 9 O<|kc (S.not (zg O O) O<|zt O)<|rr 3 O<|kc (S.OF XQ (zg O O) O<|zt O)<|rr 5 O<|kB O (λh=>?_) λh=>?_
  ·have a:=W4 (m:=m) c (by unfold YE;rw[e];simp[-List.length_eq_zero_iff];first|omega|(intros;omega));refine ro 5 O<|kR O O ?_;rw[a];try rfl
  refine ro 3 O ?_;have b:YE p=true:=(by unfold YE;rw[e];simp[-List.length_eq_zero_iff];first|omega|(intros;omega));refine ro 22 O<|kc (S.call Y4 call98 (zg O O) O (zc O<|zC O<|zD O) O)<|kc (S.Xb (zg O O) O<|zt O)<|rr 2 O<|RK.ZS (t:=65) O (λq=>?_) λq=>?_
  ·have a:=Vc (m:=m) c b (by unfold Ys;rw[e];simp;first|omega|(intros;omega));refine rr 34 O<|kR O O ?_;rw[a];try rfl
  refine rr 13 O<|kc (S.call Y4 call98 (zg O O) O (zc O<|zC O<|zc O .nil) O)<|kc (S.Xb (zg O O) O<|zt O)<|rr 2 O<|RK.ZS (t:=82) O (λg=>?_) λg=>?_
  ·have a:=Vc (m:=m) c b (by unfold Ys;rw[e];simp;first|omega|(intros;omega));refine rr 17 O<|kR O O ?_;rw[a];try rfl
  refine rr 5 O<|kc (S.call Ou call333 (zg O O) O (zc O .nil) O)<|kc (S.Xb (zg O O) O<|zt O)<|rr 4 O<|kB O (λr=>?_) λr=>?_
  ·have a:=Vc (m:=m) c b (by unfold Ys;rw[e];simp;first|omega|(intros;omega));refine ro 5 O<|kR O O ?_;rw[a];try rfl
  refine ro 4 O ?_;have f:Ys p=true:=(by unfold Ys;rw[e];simp;first|omega|(intros;omega));have d:=LP b f;refine ro 3 O<|kc (S.not .none O<|zt O)<|rr 4 O ?_;have a:=RD (m:=m) c d I;refine ro 4 O<|kR O O ?_;rw[a];try rfl
 ·refine ro 3 O<|kc (zK (qn e) call288 O)<|rr 9 O<|kc (S.not .none O<|zt O)<|rr 6 O<|RK.ZS (t:=24) O (λk=>?_) λk=>?_
  ·have a:=W4 (m:=m) c (by unfold YE;rw[e];simp[-List.length_eq_zero_iff];first|omega|(intros;omega));refine rr 38 O<|kR O O ?_;rw[a];try rfl
  refine rr 2 O<|kc (S.not (zg O O) O<|zt O)<|rr 9 O<|kc (S.not (zg O O) O<|zt O)<|rr 9 O<|kc (S.not (zg O O) O<|zt O)<|rr 3 O<|kc (S.OF XQ (zg O O) O<|zt O)<|rr 5 O<|kB O (λh=>?_) λh=>?_
  ·have a:=W4 (m:=m) c (by unfold YE;rw[e];simp[-List.length_eq_zero_iff];first|omega|(intros;omega));refine ro 5 O<|kR O O ?_;rw[a];try rfl
  refine ro 3 O ?_;have b:YE p=true:=(by unfold YE;rw[e];simp[-List.length_eq_zero_iff];first|omega|(intros;omega));refine ro 31 O<|kc (S.call Y4 call98 (zg O O) O (zc O<|zC O<|zD O) O)<|kc (S.Xb (zg O O) O<|zt O)<|rr 3 O<|RK.ZS (t:=75) O (λo=>?_) λo=>?_
  ·have a:=Vc (m:=m) c b (by unfold Ys;rw[e];simp;first|omega|(intros;omega));refine rr 24 O<|kR O O ?_;rw[a];try rfl
  refine rr 3 O<|kc (S.call Y4 call98 (zg O O) O (zc O<|zC O<|zc O .nil) O)<|kc (S.Xb (zg O O) O<|zt O)<|rr 2 O<|RK.ZS (t:=82) O (λg=>?_) λg=>?_
  ·have a:=Vc (m:=m) c b (by unfold Ys;rw[e];simp;first|omega|(intros;omega));refine rr 17 O<|kR O O ?_;rw[a];try rfl
  refine rr 5 O<|kc (S.call Ou call333 (zg O O) O (zc O .nil) O)<|kc (S.Xb (zg O O) O<|zt O)<|rr 4 O<|kB O (λr=>?_) λr=>?_
  ·have a:=Vc (m:=m) c b (by unfold Ys;rw[e];simp;first|omega|(intros;omega));refine ro 5 O<|kR O O ?_;rw[a];try rfl
  refine ro 4 O ?_;have f:Ys p=true:=(by unfold Ys;rw[e];simp;first|omega|(intros;omega));have d:=LP b f;refine ro 3 O<|kc (S.not .none O<|zt O)<|rr 4 O ?_;have a:=RD (m:=m) c d I;refine ro 4 O<|kR O O ?_;rw[a];try rfl
 refine ro 3 O<|kc (zK (qo e) call288 O)<|rr 9 O<|kc (S.not .none O<|zt O)<|rr 6 O<|RK.ZS (t:=24) O (λk=>?_) λk=>?_
 ·have a:=W4 (m:=m) c (by unfold YE;rw[e];simp[-List.length_eq_zero_iff];first|omega|(intros;omega));refine rr 38 O<|kR O O ?_;rw[a];try rfl
 refine rr 2 O<|kc (S.not (zg O O) O<|zt O)<|rr 7 O<|RK.ZS (t:=34) O (λj=>?_) λj=>?_
 ·have a:=W4 (m:=m) c (by unfold YE;rw[e];simp[-List.length_eq_zero_iff];first|omega|(intros;omega));refine rr 28 O<|kR O O ?_;rw[a];try rfl
 refine rr 2 O<|kc (S.not (zg O O) O<|zt O)<|rr 7 O<|RK.ZS (t:=44) O (λi=>?_) λi=>?_
 ·have a:=W4 (m:=m) c (by unfold YE;rw[e];simp[-List.length_eq_zero_iff];first|omega|(intros;omega));refine rr 18 O<|kR O O ?_;rw[a];try rfl
 refine rr 2 O<|kc (S.not (zg O O) O<|zt O)<|rr 13 O ?_;have b:YE p=true:=(by unfold YE;rw[e];simp[-List.length_eq_zero_iff];first|omega|(intros;omega));refine ro 41 O<|kc (S.call Y4 call98 (zg O O) O (zc O<|zC O<|zc O .nil) O)<|kc (S.Xb (zg O O) O<|zt O)<|rr 2 O<|RK.ZS (t:=82) O (λg=>?_) λg=>?_
 ·have a:=Vc (m:=m) c b (by unfold Ys;rw[e];simp;first|omega|(intros;omega));refine rr 17 O<|kR O O ?_;rw[a];try rfl
 refine rr 16 O ?_;have f:Ys p=true:=(by unfold Ys;rw[e];simp;first|omega|(intros;omega));have d:=LP b f;refine ro 3 O<|kc (S.not .none O<|zt O)<|rr 12 O<|kB O (λv=>?_) λv=>?_
 ·have u:m=0:=I
  subst u;have a:=LS c d e;refine ro 5 O<|kR O O ?_;rw[a];try rfl
 obtain⟨n,rfl⟩:∃n,m=n+1:=⟨m - 1,I⟩;have a:=IA (m:=n) c d e;refine Ro 8 O I ?_;refine kc (zK ((by have:=xf n rfl p.body;rw[show(3 - (n:Int))=3 - ((n+1:Nat):Int)+1 by omega]at this;exact this)) call289 O) ?_;refine rr 13 O<|kR O O ?_;rw[a];try rfl
def Ov(k:m<=3)(j:∀p:Ph,Ct prog 318 [.agg p.cx,bv<|3 - (m:Int)]<|bv<|ZD m p):Ct prog 289 [.sl<|l.map Ph.cs,bv<|3 - (m:Int)]<|.Yy [bv (YC (ZD m) l).1,bv (YC (ZD m) l).2]:=by
 refine cI func289 O λ{_ _}=>?_
 rw[Nh l];refine OK.XF (vi:=l.map Ph.cx) (t:=0) O O λqk=>?_
 rw[Zx]at qk;unfold maxLen at qk;refine ro 10 O<|kc (zk XQ O)<|rr 3 O<|kB O (λh=>?_) λh=>?_
 ·have a:=iC (g:=ZD m) (l:=l) I;refine ro 6 O<|kS O O O O ?_;rw[a];try rfl
 refine ro 6 O<|kc (zk XQ O)<|rr 3 O<|kB O (λf=>?_) λf=>?_
 ·have a:=nQ (g:=ZD m) (l:=l) I I;refine ro 6 O<|kS O O O O ?_;rw[a];try rfl
 refine ro 9 O ?_;refine OK.loop (G:=Nat) [] (λi=>[(0,.sl<|l.map Ph.cx),(1,bv<|3 - (m:Int)),(6,bv i)]) (λi=>i<=R l/\YC (ZD m) l=ZP (λ_ p=>ZD m p) i (l.drop i)) (λi=>R l - i) 0 ⟨Zr _,bA I I⟩ ⟨O,O,O,Zo⟩ (λ_=>O) ?_;rintro i ⟨hi,d⟩;refine ro 5 O<|kc (zk XQ O)<|rr 3 O<|kB O (λe=>?_) λe=>?_
 ·have c:i<R l:=by omega
  refine ro 8 O<|kc (zI XQ O I O) ?_;refine rr 2 O<|kc (zK (j l[i]) call318 O)<|rr 9 O<|kB O (λb=>?_) λb=>?_
  ·have a:YC (ZD m) l=((i:Int),ZD m l[i]):=by rw[d,Zd _ c,Zn b]
   refine ro 8 O<|kS O O O O ?_;rw[a];try rfl
  refine Ro 8 O I ?_;refine Ab.D.lp ⟨i+1,⟨by omega,by rw[d,Zd _ c,Zm b]⟩,I,O,O,O,Zo⟩
 refine ro 3 O ?_;have a:YC (ZD m) l=(0,0):=by rw[d,show i=R l by omega,da];rfl
 refine ro 5 O<|kS O O O O ?_;rw[a];try rfl
def uN(m:Nat)(b:m<=3):(∀p:Ph,Ct prog 318 [.agg p.cx,bv<|3 - (m:Int)]<|bv<|ZD m p)/\∀l:List Ph,Ct prog 289 [.sl<|l.map Ph.cs,bv<|3 - (m:Int)] (.Yy [bv (YC (ZD m) l).1,bv (YC (ZD m) l).2]):=by
 induction m with
 |zero=>
  have a:∀p:Ph,Ct prog 318 [.agg p.cx,bv<|3 - ((0:Nat):Int)] (bv<|ZD 0 p):=λp=>PU b λc e=>by omega
  exact⟨a,λl=>Ov b a⟩
 |succ m d=>
  obtain⟨_,f⟩:=d I;have a:∀p:Ph,Ct prog 318 [.agg p.cx,bv<|3 - ((m+1:Nat):Int)] (bv<|ZD (m+1) p):=λp=>PU b λc e=>by
   have:c=m:=I
   subst this;exact f
  exact⟨a,λl=>Ov b a⟩
def EA:Ct prog 289 [.sl<|l.map Ph.cs,bv 0]<|.Yy [bv (YC (ZD 3) l).1,bv (YC (ZD 3) l).2]:=(uN 3<|Zq _).2 l
def Ck(hd:Deep (d+1) l)(j:∀b:List Ph,Deep d b->Ct prog 290 [.sl<|b.map Ph.cs] (bv (min 61 (R<|YV d b):Nat))):Ct prog 290 [.sl<|l.map Ph.cs]<|bv (min 61 (R<|YV (d+1) l):Nat):=by
 refine cI func290 O λ{_ _}=>?_
 rw[Nh l];refine OK.XF (vi:=l.map Ph.cx) (t:=0) O O λqk=>?_
 rw[Zx]at qk;unfold maxLen at qk;refine ro 17 O ?_;refine OK.loop (G:=Nat) [] (λi=>[(0,.sl<|l.map Ph.cx),(3,bv (Dp d (l.take i):Nat)),(4,bv i)]) (λi=>i<=R l) (λi=>R l - i) 0 (Zr _) ⟨O,O,O,Zo⟩ (λ_=>O) ?_;rintro i hi;refine ro 5 O<|kc (zk XQ O)<|rr 3 O<|kB O (λo=>?_) λo=>?_
 ·have f:i<R l:=by omega
  have n:Dp d (l.take i)<=61:=by unfold Dp;omega
  refine ro 14 O<|kc (zI XQ O I O) ?_;refine rr 5 O<|kB O (λa=>?_) λa=>?_
  ·have h:=hd l[i] (Zt f) a;have e:=cnt_r (d:=d) f a;have g:(l[i].ticks.toNat:Int)=l[i].ticks:=by omega
   have m:=Nat.mul_le_mul (show l[i].ticks.toNat<=10 by omega) (show min 61 (R<|YV d l[i].body)<=61 by omega);have k:l[i].ticks * ((min 61 (R<|YV d l[i].body):Nat):Int)=((l[i].ticks.toNat * min 61 (R<|YV d l[i].body):Nat):Int):=by rw[Int.natCast_mul,g]
   refine kV (.c (zm O)<|.c (zm O)<|.c (zI XQ O I O)<|.c (S.field DH .none O (zt O) O)<|.c (zV YK O O)<|.c (zm O)<|.c (zm O)<|.c (zI XQ O I O)<|.c (S.field kJ .none O (zt O) O)<|.c (zV EX O O)<|.c (zK (j l[i].body h.2) call290 O)<|.c (S.mul .none O (zt O) (zt O) (mn _ I)<|mn _ I)<|.c (za O) .nil) ?_;refine Rd 5 O I<|kc (S.min2 .none O (zt O)<|.Zg O) ?_;refine Rr 9 O I ?_;refine Ab.D.lp ⟨i+1,I,I,O,(OT<|by rw[e];first|(split<;>omega)|omega),O,Zo⟩
  have e:=cnt_1 (d:=d) f a;refine Ro 6 O I<|kc (S.min2 .none O (zt O)<|.Zg O) ?_;refine Rr 9 O I ?_;refine Ab.D.lp ⟨i+1,I,I,O,(OT<|by rw[e];first|(split<;>omega)|omega),O,Zo⟩
 refine ro 8 O<|kR O O ?_;refine YL ?_;rw[show i=R l by omega,List.take_length];rfl
def IN:∀(d:Nat){l:List Ph},Deep d l->Ct prog 290 [.sl<|l.map Ph.cs] (bv (min 61 (R<|YV d l):Nat))
 |0,_,h=>h.elim
 |d+1,_,h=>Ck h λb a=>IN d a
def zY(hd:Deep (d+1) l)(y:E4 (d+1) l)(z:∀b:List Ph,Deep d b->E4 d b->Ct prog 291 [.sl<|b.map Ph.cs] (.sl<|(YV d b).map Ph.cs)):Ct prog 291 [.sl<|l.map Ph.cs]<|.sl<|(YV (d+1) l).map Ph.cs:=by
 refine cI func291 O λ{_ _}=>?_
 rw[Nh l];refine OK.XF (vi:=l.map Ph.cx) (t:=0) O O λqk=>?_
 rw[Zx]at qk;unfold maxLen at qk;have xf:=bu (d:=d) y.1;refine kr<|kc (S.assign .none O .Ya)<|rr 4 O<|RK.c (S.XG (k:=3) (sz:=6) .none O)<|rr 9 O ?_;refine OK.loop (G:=Nat) [3] (λi=>[(0,.sl<|l.map Ph.cx),(3,.own 3<|R<|(l.take i).flatMap<|Yc d),(2003,.arr 6<|((l.take i).flatMap<|Yc d).map Ph.cx),(4,bv i)]) (λi=>i<=R l) (λi=>R l - i) 0 (Zr _) ⟨O,(ZH N),(ZX N),O,Zo⟩ (λ_=>O) ?_;rintro i hi;refine ro 5 O<|kc (zk XQ O)<|rr 3 O<|kB O (λw=>?_) λw=>?_
 ·have f:i<R l:=by omega
  have E:=xf i;have o:=xf<|i+1;have a:=Lu (d:=d) f;refine ro 9 O<|kc (zI XQ O I O) ?_;refine rr 5 O<|kB O (λg=>?_) λg=>?_
  ·have e:(l.take<|i+1).flatMap (Yc d)=((l.take i).flatMap<|Yc d)++[l[i]]:=by rw[a,HH g]
   refine ro 5 O<|kc (zI XQ O I O)<|kc (S.Vj X0 .none O (zt O) O O) ?_;refine RK.c (zM [[_,_,_,_,_,_]] My O O O O) ?_;refine kc (zP My O O F N I<|by simp only[maxLen];omega) ?_;refine Rr 10 O I ?_;refine Ab.D.lp ⟨i+1,I,I,O,(ZH<|by rw[e];simp),(ZX<|by rw[e];first|rfl|(simp;done)|(simp;rfl)),O,Zo⟩
  have m:l[i].kind=5:=Zu.1 g;have s:=hd l[i] (Zt f) m;have u:=y.2 l[i] (Zt f) m;have r:=HI (d:=d) m;rw[a,Zs,r]at o;refine ro 6 O<|kc (zI XQ O I O) ?_;refine rr 2 O ?_;refine kc (zK ((by have h:=z l[i].body s.2 u;rw[Nh<|YV d l[i].body]at h;exact h)) call291 O) ?_;refine rr 9 O ?_;refine OK.loop (G:=Nat) [3] (λj=>[(0,.sl<|l.map Ph.cx),(3,.own 3<|R ((l.take i).flatMap<|Yc d)+R ((List.replicate j<|YV d l[i].body).flatten)),(2003,.arr 6<|((l.take i).flatMap<|Yc d).map Ph.cx++((List.replicate j<|YV d l[i].body).flatten).map Ph.cx),(4,bv i),(5,.sl<|(YV d l[i].body).map Ph.cx),(6,bv j)]) (λj=>j<=l[i].ticks.toNat) (λj=>l[i].ticks.toNat - j) 0 (Zr _) ⟨O,(ZH F),(ZX F),O,O,O,Zo⟩ (λ_=>O) ?_;rintro j J;refine ro 6 O<|kc (zI XQ O I O) ?_;refine rr 5 O<|kB O (λv=>?_) λv=>?_
  ·have H:j<l[i].ticks.toNat:=by omega
   have B:=jB j<|YV d l[i].body;have n:=m8 (R<|YV d l[i].body) (show j+1<=l[i].ticks.toNat by omega);rw[aρ,cβ]at n;refine ro 7 O ?_;refine RK.c (S.V2 My .none O (zt O) O F (zt O) (by intro q C;obtain⟨x,_,rfl⟩:=rx.1 C;rfl) (Zx ..) I<|by simp only[maxLen];omega) ?_;refine Rr 9 O I ?_;refine Ab.D.lp ⟨j+1,I,I,O,(ZH<|by rw[Cr,Zs];omega),(ZX<|by rw[Cr,ne,m7]),O,O,O,Zo⟩
  have p:j=l[i].ticks.toNat:=by omega
  have e:(l.take<|i+1).flatMap (Yc d)=((l.take i).flatMap<|Yc d)++((List.replicate j<|YV d l[i].body).flatten):=by rw[a,Du m,p]
  refine Ro 8 O I ?_;refine Ab.D.lp ⟨i+1,I,I,O,(ZH<|by rw[e];simp),(ZX<|by rw[e];first|rfl|(simp;done)|(simp;rfl)),O,Zo⟩
 refine ro 3 O ?_;rw[show i=R l by omega,List.take_length,←T8];refine ro 5 O ?_;refine OK.ret<|Y3.r1 (.tmp O O (.c (.own O O N) O) O) ?_;rw[yp];try rfl
def F3:∀(d:Nat){l:List Ph},Deep d l->E4 d l->Ct prog 291 [.sl<|l.map Ph.cs] (.sl<|(YV d l).map Ph.cs)
 |0,_,h,_=>h.elim
 |d+1,_,h,hb=>zY h hb λb c a=>F3 d c a
def Cl:Ct prog 292 [.agg p.cx]<|.bool<|Tg p.kind:=by
 refine cI func292 O<|ro 12 O<|RK.ZS (t:=6) O (λa=>?_) λa=>?_
 ·refine rr 7 O<|kR O O ?_;simp[Tg, *]
 refine rr 7 O<|kR O O ?_;simp[Tg, *]
def LV:Ct prog 256 [.sl<|l.map Ph.cs]<|.Yy [bv (if(YC (ZD 3) l).2≠0 then(YC (ZD 3) l).1 else 0),bv<|Ln l]:=by
 refine cI func256 O<|ro 10 O<|kc (zK (EA (l:=l)) call289 O)<|rr 13 O<|kB O (λa=>?_) λa=>?_
 ·have d:=yh (l:=l) a;refine ro 8 O<|kS O O O O ?_;rw[d,Zn a]
  try rfl
 have h0:(YC (ZD 3) l).2=0:=Zu.1 a;refine ro 6 O<|kc (zK (IN 4<|Ds 3 h0) call290 O)<|rr 3 O<|kB O (λg=>?_) λg=>?_
 ·have d:=chk_8 h0 I;refine ro 6 O<|kS O O O O ?_;rw[d,Zm a]
  try rfl
 have xf:R (YV 4 l)<=60:=by omega
 have f:E4 4 l:=A9 3 h0 (by show(R<|YV 4 l)<=1000;omega);have i:0<R (YV 4 l):=aη.2<|wF 3 h0;have c:R (YV 4 l) - 1<R (YV 4 l):=by omega
 refine ro 5 O ?_;refine kc (zK ((by have h:=F3 4 (Ds 3 h0) f;rw[Nh<|YV 4 l]at h;exact h)) call291 O) ?_;refine rr 8 O<|kc (zk XQ O)<|Rr 1 O I<|kc (S.Zi (n:=(R (YV 4 l) - 1)) XQ .none O (zt O) (zt O) I c O)<|kc (S.Vj X0 .none O (zt O) O O)<|kc (zK Cl call292 O)<|kc (S.not .none O<|zt O)<|kD<|OK.cond O O (λe=>?_) λe=>?_
 ·have d:=lX h0 xf c (b:=false) (by simpa using e);refine ro 6 O<|kS O O O O ?_;rw[d,Zm a]
  try rfl
 have d:=lX h0 xf c (b:=true) (by simpa using e);refine ro 8 O<|kS O O O O ?_;rw[d,Zm a]
 try rfl
def IM:Ct prog 206 [.sl<|l.map Ph.cs]<|bv<|Ln l:=by
 refine cI func206 O<|ro 8 O<|kc (zK (LV (l:=l)) call256 O)<|rr 13 O<|kR O O ?_;rfl
def IL(f:R l<=1000000)(d:∀p∈l,Ct prog 197 [.sl<|p.body.map Ph.cs]<|.sl<|p.body.map Ph.cs):Ct prog 197 [.sl<|l.map Ph.cs]<|.sl<|l.map Ph.cs:=by
 refine cI func197 O λ{_ _}=>?_
 rw[Nh l];refine OK.XF (vi:=l.map Ph.cx) (t:=0) O O λqk=>?_
 rw[Zx]at qk;unfold maxLen at qk;refine kr<|kc (S.assign .none O .Ya)<|rr 4 O<|RK.c (S.XG (k:=3) (sz:=6) .none O)<|rr 9 O ?_;refine OK.loop (G:=Nat) [3] (λi=>[(0,.sl<|l.map Ph.cx),(3,.own 3 i),(2003,.arr 6<|(l.take i).map Ph.cx),(4,bv i)]) (λi=>i<=R l) (λi=>R l - i) 0 (Zr _) ⟨O,(ZH N),(ZX N),O,Zo⟩ (λ_=>O) ?_;rintro i hi;refine ro 5 O<|kc (zk XQ O)<|rr 3 O<|kB O (λe=>?_) λe=>?_
 ·have a:i<R l:=by omega
  refine ro 8 O<|kc (zI XQ O I O) ?_;refine rr 9 O<|kc (zI XQ O I O) ?_;refine rr 2 O<|kc (zK (d l[i]<|Zt a) call197 O)<|rr 7 O ?_;refine RK.c (zM [[_,_,_,_,_,_]] My O O O O) ?_;refine kc (zP My O O (by rw[Zx,sc];omega) N I<|by simp only[maxLen];omega) ?_;refine Rr 9 O I ?_;refine Ab.D.lp ⟨i+1,I,I,O,O,(ZX<|by rw[mv a,ne];rfl),O,Zo⟩
 refine ro 3 O ?_;have b:i=R l:=by omega
 subst b;rw[List.take_length];refine ro 5 O ?_;refine OK.ret<|Y3.r1 (.tmp O O (.c (.own O O N) O) O) ?_;rw[yp];try rfl
def Hd.w(q:Hd)(n:Nat):Value:=.slice (q.map λq=>⟨q.1,0,none⟩) n (match q with
 |none=>0
 |some q=>q.2)
variable{q:Hd}{vi:List bi}{sz:Nat}{K:Type}
def wH{M:HM K}{k:K}{n:Nat}(a:M k=q.map λq=>(q.1,.Te sz q.2 vi))(b:R vi=n)(h0:q=none->vi=[]):Vk M k (q.w n) sz vi:=by
 subst b;cases q with
 |none=>rw[h0 rfl];exact .inl ⟨rfl,rfl,a⟩
 |some q=>exact .inr ⟨q.1,q.2,rfl,a⟩
def JY{M:HM K}{k:K}{n:Nat}(a:M k=q.map λq=>(q.1,.row sz q.2 vi))(b:R vi=n)(h0:q=none->vi=[]):TL M k (q.w n) sz vi:=by
 subst b;cases q with
 |none=>rw[h0 rfl];exact .inl ⟨rfl,rfl,a⟩
 |some q=>exact .inr ⟨q.1,q.2,rfl,a⟩
inductive SK where
 |r
 |c
 |p
 |m
 |f (i:Nat)
 deriving DecidableEq
structure SA where
 rh:Hd
 ch:Hd
 ph:Hd
 mh:Hd
 ZJ:List Rec
 Z5:List XA
 parts:List (Hd×Part)
 Z3:bd
 env:Envelope
def pC(q:Hd×Part):bi:=q.2.cells<|.raw<|q.1.w<|R q.2.frames
abbrev Kh(n:Int):bi:=[bv n]
def SA.mem(A:SA):HM SK
 |.r=>A.rh.map λq=>(q.1,.row 3 q.2<|A.ZJ.map Rec.cs)
 |.c=>A.ch.map λq=>(q.1,.row 3 q.2<|A.Z5.map XA.cs)
 |.p=>A.ph.map λq=>(q.1,.row 13 q.2<|A.parts.map pC)
 |.m=>A.mh.map λq=>(q.1,.row 1 q.2<|A.Z3.map Kh)
 |.f i=>A.parts[i]?.bind λv=>v.1.map λq=>(q.1,.Te 2 q.2<|v.2.frames.map Frame.cs)
def SA.cs(A:SA):bi:=[.raw<|A.rh.w<|R A.ZJ,.raw<|A.ch.w<|R A.Z5,.raw<|A.ph.w<|R A.parts,.raw<|A.mh.w<|R A.Z3,bv A.env.parts,bv A.env.trim,.sl<|A.env.rows.map λl=>[.sl<|l.map Range.cs]]
def SA.st(A:SA):State:=⟨A.ZJ,A.Z5,A.parts.map (·.2),A.Z3,A.env⟩
structure SA.Ok(A:SA):Prop where
 rh:A.rh=none->A.ZJ=[]
 ch:A.ch=none->A.Z5=[]
 ph:A.ph=none->A.parts=[]
 mh:A.mh=none->A.Z3=[]
 fh:∀v∈A.parts,v.1=none->v.2.frames=[]
theorem map_nil{α β:Type}{f:α->β}{q:Hd}{l:List α}(h:q=none->l=[]):q=none->l.map f=[]:=λe=>by grind
def EE{M:HM K}{k:K}{hd:Value}(h:TL M k hd sz vi):∃q:Hd,hd=q.w (R vi)/\M k=q.map (λq=>(q.1,.row sz q.2 vi))/\(q=none->vi=[]):=by
 rcases h with⟨rfl,rfl,e⟩|⟨b,vz,rfl,e⟩
 ·exact⟨none,rfl,e,λ_=>rfl⟩
 exact⟨some (b,vz),rfl,e,λh=>by cases h⟩
variable{A:SA}
def SA.Ok.rs(h:A.Ok):TL A.mem .r (A.rh.w<|R A.ZJ) 3<|A.ZJ.map Rec.cs:=JY rfl (Zx ..)<|map_nil h.rh
def SA.Ok.cs(h:A.Ok):TL A.mem .c (A.ch.w<|R A.Z5) 3<|A.Z5.map XA.cs:=JY rfl (Zx ..)<|map_nil h.ch
def SA.Ok.ps(h:A.Ok):TL A.mem .p (A.ph.w<|R A.parts) 13<|A.parts.map pC:=JY rfl (Zx ..)<|map_nil h.ph
def SA.Ok.ms(h:A.Ok):TL A.mem .m (A.mh.w<|R A.Z3) 1<|A.Z3.map Kh:=JY rfl (Zx ..)<|map_nil h.mh
def SA.Ok.fs(h:A.Ok){v:Hd×Part}(a:A.parts[i]?=some v):Vk A.mem (.f i) (v.1.w<|R v.2.frames) 2<|v.2.frames.map Frame.cs:=
 wH (by show(A.parts[i]?.bind _)=_;rw[a];rfl) (Zx ..) (map_nil<|h.fh v<|mr a)
theorem Rk{β γ:Type}{R:β->γ->Prop}{f:α->β}{g:α->γ}{l:List α}(h:∀(i:Nat)(x:α),l[i]?=some x->R (f x) (g x)):Z1 R (l.map f)<|l.map g:=by
 grind [Z1.WI]
def SA.Ok.fz{A:SA}(h:A.Ok):CX A.mem (.agg A.cs)<|.agg A.st.cs:=by
 refine⟨_,rfl,?_,?_,?_,?_,.same _ rfl,.same _ rfl,.same _ rfl,Zo⟩
 ·exact Fz.ofRow h.rs (Rk λ_ x _=>⟨.same _ rfl,.same _ rfl,.same _ rfl,Zo⟩) (by intro r a;obtain⟨x,_,rfl⟩:=rx.1 a;rfl)
 ·exact Fz.ofRow h.cs (Rk λ_ x _=>⟨.same _ rfl,.same _ rfl,.same _ rfl,Zo⟩) (by intro r a;obtain⟨x,_,rfl⟩:=rx.1 a;rfl)
 ·show Fz _ _ (.sl<|(A.parts.map (·.2)).map Part.cs);rw[fw];refine Fz.ofRow h.ps (Rk λi x b=>⟨.same _ rfl,.same _ rfl,.same _ rfl,.same _ rfl,?_,.same _ rfl,.same _ rfl,.same _ rfl,.same _ rfl,.same _ rfl,.same _ rfl,.same _ rfl,.same _ rfl,Zo⟩) (by intro r a;obtain⟨x,_,rfl⟩:=rx.1 a;rfl);exact Fz.ofGro (h.fs b) (by simp[bj,Frame.cs,BI]) (by intro r a;obtain⟨x,_,rfl⟩:=rx.1 a;rfl)
 exact Fz.ofRow h.ms (Rk λ_ x _=>⟨.same _ rfl,Zo⟩) F
def ko(k:SK)(q:Hd)(l:List Frame):HM SK:=λj=>if j=k then q.map λq=>(q.1,.Te 2 q.2<|l.map Frame.cs)else none
def gY(k:SK):(λ_=>none:HM SK)=ko k none []:=funext λj=>by simp[ko]
def gZ(k:SK)(q:Hd)(l:List Frame)(b:Nat×Nat)(f:Frame):(ko k q l).set k (some (b.1,.Te 2 b.2<|l.map Frame.cs++[f.cs]))=ko k (some b) (l++[f]):=funext λj=>by
 unfold HM.set ko;split
 ·rw[ne];rfl
 rfl
def gX{k:SK}{l:List Frame}(h:q=none->l=[]):Vk (ko k q l) k (q.w<|R l) 2<|l.map Frame.cs:=wH (Zn rfl) (Zx ..)<|map_nil h
abbrev SA.part(L:List<|Hd×Part)(s:State):SA:=⟨none,none,none,none,s.ZJ,s.Z5,L,s.Z3,s.env⟩
def pg(s:State):(λ_=>none:HM SK)=(SA.part [] s).mem:=funext λj=>by cases j<;>rfl
def i7(L:List<|Hd×Part)(s:State)(q:Hd)(p:Part):(λk=>((SA.part L s).mem k).or<|ko (.f<|R L) q p.frames k)=(SA.part (L++[(q,p)]) s).mem:=funext λj=>by
 cases j with
 |f i=>
  show(L[i]?.bind _).or (if SK.f i=SK.f (R L) then _ else _)=(L++[(q,p)])[i]?.bind _;rcases dT i (R L) with h|h|h
  ·rw[Zm (λe=>by cases e;omega),m6 h,Option.or_none]
  ·subst h;rw[Zn rfl,aκ<|Zq _,dδ,bζ<|Zq _];rfl
  rw[Zm (λe=>by cases e;omega),bζ I,bζ<|by rw[Zs,R0];omega];rfl
 |_=>rfl
section
variable{M:HM SK}{hd:Value}
def SA.nu(b:TL M .r hd 3<|A.ZJ.map Rec.cs)(c:∀k,k≠.r->M k=A.mem k):∃q:Hd,hd=q.w (R A.ZJ)/\M=({A with rh:=q}:SA).mem/\(q=none->A.ZJ=[]):=by
 obtain⟨q,a,f,d⟩:=EE b;rw[Zx]at a;refine⟨q,a,funext λj=>?_,λe=>bα.1<|d e⟩;cases j<;>first|exact f|exact c _ Z
def SA.giveC(b:TL M .c hd 3<|A.Z5.map XA.cs)(d:∀k,k≠.c->M k=A.mem k):∃q:Hd,hd=q.w (R A.Z5)/\M=({A with ch:=q}:SA).mem/\(q=none->A.Z5=[]):=by
 obtain⟨q,a,g,f⟩:=EE b;rw[Zx]at a;refine⟨q,a,funext λj=>?_,λe=>bα.1<|f e⟩;cases j<;>first|exact g|exact d _ Z
def SA.giveP(b:TL M .p hd 13<|A.parts.map pC)(c:∀k,k≠.p->M k=A.mem k):∃q:Hd,hd=q.w (R A.parts)/\M=({A with ph:=q}:SA).mem/\(q=none->A.parts=[]):=by
 obtain⟨q,a,f,d⟩:=EE b;rw[Zx]at a;refine⟨q,a,funext λj=>?_,λe=>bα.1<|d e⟩;cases j<;>first|exact f|exact c _ Z
def SA.giveM(b:TL M .m hd 1<|A.Z3.map Kh)(c:∀k,k≠.m->M k=A.mem k):∃q:Hd,hd=q.w (R A.Z3)/\M=({A with mh:=q}:SA).mem/\(q=none->A.Z3=[]):=by
 obtain⟨q,a,f,d⟩:=EE b;rw[Zx]at a;refine⟨q,a,funext λj=>?_,λe=>bα.1<|d e⟩;cases j<;>first|exact f|exact c _ Z
end
abbrev FHd(p:Part):={q:Hd // q=none->p.frames=[]}
abbrev SAo(s:State):={A:SA // A.Ok/\A.st=s}
def sj:Nat->List Ph->Prop
 |0,l=>l=[]
 |d+1,l=>R l<=1000/\∀p∈l,sj d p.body
structure State.Sm(s:State):Prop where
 lr:s.ZJ.length<=100
 lc:s.Z5.length<=4
 lp:s.parts.length<=100
 lm:s.Z3.length<=100
 le:s.env.rows.length<=100000
 lv:∀(i:Nat)(h:i<s.env.rows.length),s.env.rows[i].length<=100000
 fr:∀p∈s.parts,p.frames.length<=100/\∀f∈p.frames,f.values.length<=100000
 rc:∀r∈s.ZJ,sj 6 r.phases
 sh:∀c∈s.Z5,0<=c.ZA/\c.ZA<=1000000
def F2:∀(d:Nat){l:List Ph},sj d l->Ct prog 197 [.sl<|l.map Ph.cs] (.sl<|l.map Ph.cs)
 |0,l,h=>IL (by rw[show l=[]from h];decide) λp a=>by rw[show l=[]from h]at a;cases a
 |d+1,l,h=>IL (by have:=h.1;omega) λp a=>F2 d<|h.2 p a
def Hu{l:bd}(qk:R l<=100000):CtO prog 62 [ints l] 1<|l.map λn=>[bv n]:=by
 refine CtO.intro func62 rfl ntmps62 results62 rfl rfl rfl λw h=>?_
 refine kr<|kc (S.assign .none O .Ya)<|rr 4 O<|RK.c (zM [] Xr O O O O)<|jm O ?_;refine RK.c (S.V2 Xr .none O (zt O) O N (zt O) (by intro q a;obtain⟨x,_,rfl⟩:=rx.1 a;rfl) O (by simp only[Zx];omega)<|by simp only[maxLen,Zx];omega) ?_;refine rr 3 O ?_;refine OK.ret<|rS.mk O O O N ?_;rfl
def IK{p:Part}(k:SK)(e:R p.frames<=100000)(d:∀f∈p.frames,R f.values<=100000):dG prog 198 [.agg p.cs] (λq:FHd p=>.agg<|p.cells<|.raw<|q.1.w<|R p.frames) (λq:FHd p=>Z9<|ko k q.1 p.frames):=by
 refine dG.intro (rs:=[.cell 2 57]) func198 rfl ntmps198 results198 rfl rfl rfl λw h=>?_
 refine OK.OC SK ?_;rw[gY k];refine ro 16 O<|kc (S.store P8 .none (zt O) .Re O O O O O O)<|rr 9 O ?_;refine OK.We [1,2,3] (λ(i:Nat)(fh:Hd)=>[(1,.ptr 1 0),(1001,.box p.cs),(2,.ptr 2 0),(1002,.box [bv 0,.str [],bv 0,.str [],.ZM,bv 0,.bool false,bv 0,.bool false,bv 0,bv 0,bv 0,bv 0]),(3,.ptr 3 0),(1003,.box<|p.cells<|.raw<|fh.w i),(4,bv i),(3000,.res<|Z9<|ko k fh<|p.frames.take i)]) (λi fh=>i<=R p.frames/\(fh=none->p.frames.take i=[])) (λi fh=>R p.frames - i) 0 none ⟨Zr _,λ_=>O⟩ ⟨O,O,O,O,O,O,O,O,Zo⟩ (λ_ _=>O) ?_;rintro i fh ⟨hi,h0⟩;refine ro 6 O<|kc (zk Qr O)<|rr 3 O<|kB O (λb=>?_) λb=>?_
 ·have a:i<R p.frames:=by omega
  have c:=gX (k:=k) h0;rw[List.length_take_of_le hi]at c;refine ro 4 O ?_;refine OK.Sd follows (ι:=(Nat×Nat)) (0,0) 17 O (S.ig (s:=[(15,.raw<|fh.w i),(30,.own 30 1),(2030,.arr 2 [p.frames[i].cs]),(3000,.res<|Z9<|ko k fh<|p.frames.take i)]) (m:=1) (qr:=[p.frames[i].cs]) k ai51 O (zt O) c (zt O) O O O C (by rw[Zx,List.length_take_of_le hi];omega)<|by rw[Zx,List.length_take_of_le hi];unfold maxLen;omega).st (λq=>(.cs (zf Vr O) (.cs (zl P8 O O O O) (.cs (zf Vr O) (.cs (zl P8 O O O O) (.cs (zm O) (.cs (zI Qr O I O) (.cs (S.field Hw .none O (zt O) O) (.cs (zV YK O O) (.cs (zf Vr O) (.cs (zl P8 O O O O) (.cs (zm O) (.cs (zI Qr O I O) (.cs (S.field QE .none O (zt O) O) (.cs (zV Md O O) (.cs (zK (Oi (l:=p.frames[i].values)<|d _<|Zt a) call62 O) (.cs (zU xT O O) (.cs (zM [[_,_]] ai51 O O O O)
   (.x ⟨O,O,O,O,Zo⟩<|.cn (zf Vr O)<|.cn (zS P8 O O O O O O) .nil))))))))))))))))))) λq=>?_
  refine Rd 7 O I ?_;refine Ab.D.lp ⟨i+1,(some q),⟨by omega,λh=>by cases h⟩,I,O,O,O,O,O,(tM<|by rw[Zx,List.length_take_of_le hi];rfl),O,(AE<|by rw[←Wh a];exact gZ _ _ _ _ _),Zo⟩
 obtain rfl:i=R p.frames:=by omega
 rw[List.take_length]at h0⊢;refine ro 8 O<|OK.ret ⟨⟨fh,h0⟩,Y3.r1 (zy O O K6 O) ?_,O⟩;rfl
def Kt{s:State}(hs:s.Sm):dG prog 149 [.agg s.cs] (λq:SAo s=>.agg q.1.cs) (λq:SAo s=>Z9 q.1.mem):=by
 refine dG.intro (rs:=[.cell 2 43]) func149 rfl ntmps149 results149 rfl rfl rfl λw h=>?_
 refine OK.OC SK ?_;rw[pg s];have W:=hs.lr;have V:=hs.lc;have U:=hs.lp;have T:=hs.lm;refine ro 7 O ?_;refine kV (.c (zM [] fW O O O O)<|.c (zf TU O)<|.c (zl dJ O O O O)<|.c (S.V2 fW .none O (zt O) O N (zt O) (by intro q H;obtain⟨x,_,rfl⟩:=rx.1 H;rfl) O (by simp only[Zx];omega)<|by simp only[maxLen,Zx];omega)<|.c (zf BQ O)<|.c (zl Md O O O O)<|.c (S.dQ (k:=12) (Hu (l:=s.Z3) I) call62 .none O (zc O .nil) O<|Zx ..)<|.c (zf qK O)<|.c (zL L5 O O O O)<|.c (zK (LZ (x:=s.env) hs.le hs.lv) call26 O)<|.c (zU bu43 O O)<|.c (zA (c:=3) fH O)<|.c (zS Zk O O O O O O) .nil) ?_;refine rd 8 O ?_;rw[show 0+R (s.Z5.map XA.cs)=R s.Z5 by rw[Zx,wc]];refine OK.VL 3 0 870 3 O O O O O<|OK.VL 3 2 873 13 O O O O O ?_;refine OK.loop (G:=Nat) [1,2,3,870,6,873,12] (λi=>[(1,.ptr 1 0),(1001,.box s.cs),(2,.ptr 2 0),(1002,.box [.ZM,.ZM,.ZM,.ZM,bv 0,bv 0,.ZM]),(3,.ptr 3 0),(1003,.box [.own 870 i,.own 6<|R s.Z5,.own 873 0,.own 12<|R s.Z3,bv s.env.parts,bv s.env.trim,.sl<|s.env.rows.map λl=>[.sl<|l.map Range.cs]]),(2870,.arr 3<|(s.ZJ.take i).map Rec.cs),(2006,.arr 3<|s.Z5.map XA.cs),(2012,.arr 1<|s.Z3.map Kh),(2873,.arr 13 []),(4,bv i),(3000,.res<|Z9 (SA.part [] s).mem)]) (λi=>i<=R s.ZJ) (λi=>R s.ZJ - i) 0 (Zr _) ⟨O,O,O,O,O,O,(ZX N),(ZX N),(ZX N),(ZX N),O,O,Zo⟩ (λ_=>O) ?_;rintro i hi;refine ro 6 O<|kc (zk Rh O)<|rr 3 O<|kB O (λC=>?_) λC=>?_
 ·have a:i<R s.ZJ:=by omega
  refine ro 4 O ?_;refine kV (.c (zf Oy O)<|.c (zl Qq O O O O)<|.c (zf Oy O)<|.c (zl Qq O O O O)<|.c (zm O)<|.c (zI Rh O I O)<|.c (S.field Jc .none O (zt O) O)<|.c (S.Vj Q3 .none O (zt O) O O)<|.c (zf Oy O)<|.c (zl Qq O O O O)<|.c (zm O)<|.c (zI Rh O I O)<|.c (S.field kA .none O (zt O) O)<|.c (zV EX O O)<|.c (zK (F2 6 (l:=s.ZJ[i].phases)<|hs.rc _<|Zt a) call197 O)<|.c (zU aK O O)<|.c (zM [[_,_,_]] sL O O O O)<|.c (zP sL O O (by rw[Zx,List.length_take_of_le hi]) N I<|by simp only[maxLen];omega)<|.c (zf Oy O)<|.c (zS Qq O O O O O O) .nil) ?_;refine Rd 7 O I ?_;refine Ab.D.lp ⟨i+1,I,I,O,O,O,O,O,O,(ZX<|by rw[←Wh a];simp only[ne,ta,H2];rfl),(ZX N),(ZX N),(ZX N),O,O,Zo⟩
 obtain rfl:i=R s.ZJ:=by omega
 rw[List.take_length];refine ro 9 O ?_;refine OK.We [1,2,3,870,6,873,12] (λ(i:Nat)(L:List<|Hd×Part)=>[(1,.ptr 1 0),(1001,.box s.cs),(2,.ptr 2 0),(1002,.box [.ZM,.ZM,.ZM,.ZM,bv 0,bv 0,.ZM]),(3,.ptr 3 0),(1003,.box [.own 870<|R s.ZJ,.own 6<|R s.Z5,.own 873 i,.own 12<|R s.Z3,bv s.env.parts,bv s.env.trim,.sl<|s.env.rows.map λl=>[.sl<|l.map Range.cs]]),(2870,.arr 3<|s.ZJ.map Rec.cs),(2006,.arr 3<|s.Z5.map XA.cs),(2012,.arr 1<|s.Z3.map Kh),(2873,.arr 13<|L.map pC),(5,bv i),(3000,.res<|Z9 (SA.part L s).mem)]) (λi L=>i<=R s.parts/\L.map (·.2)=s.parts.take i/\∀v∈L,v.1=none->v.2.frames=[]) (λi L=>R s.parts - i) 0 ([]) ⟨Zr _,O,λv u=>by cases u⟩ ⟨O,O,O,O,O,O,(ZX N),(ZX N),(ZX N),(ZX N),O,O,Zo⟩ (λ_ _=>O) ?_;rintro i L ⟨hi,g,F⟩;refine ro 6 O<|kc (zk VD O)<|rr 3 O<|kB O (λB=>?_) λB=>?_
 ·have a:i<R s.parts:=by omega
  have e:R L=i:=by have:=rn List.length g;rw[Zx,List.length_take_of_le hi]at this;exact this
  refine ro 4 O ?_;refine OK.Sd follows (ι:=(FHd s.parts[i])) ⟨some (0,0),λh=>by cases h⟩ 7 O (S.au (s:=[(56,.agg s.parts[i].cs),(3000,.res<|Z9 (SA.part L s).mem)]) (IK (p:=s.parts[i]) (.f i) (by have:=(hs.fr _<|Zt a).1;omega) (hs.fr _<|Zt a).2)   call198 O (zc O .nil) O) (λq=>(.cs (zf Xk O) (.cs (zl Vg O O O O) (.cs (zf Xk O) (.cs (zl Vg O O O O) (.cs (zm O) (.cs (zI VD O I O) (.cs (S.Vj K6 .none O (zt O) O O)
   (.x ⟨O,O,Zo⟩<|.cn (zM [[_,_,_,_,_,_,_,_,_,_,_,_,_]] f_ O O O O)<|.cn (zP f_ O O (by rw[Zx,e]) N I<|by simp only[maxLen];omega)<|.cn (zf Xk O)<|.cn (zS Vg O O O O O O) .nil))))))))) λq=>?_
  refine Rd 7 O I ?_;refine Ab.D.lp ⟨i+1,(L++[(q.1,s.parts[i])]),⟨by omega,by rw[ne,g,←Wh a];rfl,λv u=>(List.mem_append.1 u).elim (F v) λh=>by rw[pi.1 h];exact q.2⟩,I,O,O,O,O,O,O,(ZX N),(ZX N),(ZX N),(ZX<|by rw[ne];rfl),O,(AE<|by rw[←i7,e]),Zo⟩
 obtain rfl:i=R s.parts:=by omega
 rw[List.take_length]at g;have e:R L=R s.parts:=by rw[←g,Zx]
 rw[←e];refine ro 3 O<|OK.Fx 3 0 .r O O O O (Zx ..) O O λhd E b d=>?_;obtain⟨j,rfl,rfl,J⟩:=SA.nu b d;clear b d;refine OK.Fx 3 1 .c O O O O (Zx ..) O O λhd E b d=>?_
 obtain⟨t,rfl,rfl,Q⟩:=SA.giveC b d;clear b d;refine OK.Fx 3 2 .p O O O O (Zx ..) O O λhd E b d=>?_
 obtain⟨n,rfl,rfl,K⟩:=SA.giveP b d;clear b d;refine OK.Fx 3 3 .m O O O O (Zx ..) O O λhd E b d=>?_
 obtain⟨o,rfl,rfl,P⟩:=SA.giveM b d;clear b d;have z:SA.Ok ⟨j,t,n,o,s.ZJ,s.Z5,L,s.Z3,s.env⟩:=⟨J,Q,K,P,F⟩;have y:SA.st ⟨j,t,n,o,s.ZJ,s.Z5,L,s.Z3,s.env⟩=s:=by unfold SA.st;rw[g]
 refine ro 5 O<|OK.ret ⟨⟨⟨j,t,n,o,s.ZJ,s.Z5,L,s.Z3,s.env⟩,z,y⟩,Y3.r1 (zy O O Zk O) ?_,O⟩;rfl
def jA{l:ba}(h:R l<=100000):Ct prog 73 [.str l,bv 7]<|.Yy [bv (if UW l 7=true then WR l else 0),.bool<|UW l 7]:=by
 have a:=Sw (l:=l) (d:=7) h C;rw[oP]at a;cases hs:UW l 7 with
 |true=>rw[hs]at a;exact a
 |false=>rw[hs]at a;exact a
def WZ(k:Nat):Nat->List ba->Option bd
 |_,[]=>some []
 |i,w::l=>if UW w 7=true/\(0<=WR w\/k<=i)then(WZ k (i+1) l).map (WR w:: ·)else none
variable{L:List ba}{qm:bd}
def Bd{k:Nat}(a:WZ k 0 L=(WZ k i<|L.drop i).map (qm++ ·))(hi:i<R L)(b:UW L[i] 7=true/\(0<=WR L[i]\/k<=i)):WZ k 0 L=(WZ k (i+1)<|L.drop<|i+1).map ((qm++[WR L[i]])++ ·):=by
 rw[a,np hi,WZ,Zn b];cases WZ k (i+1) (L.drop<|i+1)<;>simp
def Bc{k:Nat}(a:WZ k 0 L=(WZ k i<|L.drop i).map (qm++ ·))(hi:i<R L)(b:¬(UW L[i] 7=true/\(0<=WR L[i]\/k<=i))):WZ k 0 L=none:=by
 rw[a,np hi,WZ,Zm b];rfl
def tr{k:Nat}(a:WZ k 0 L=(WZ k i<|L.drop i).map (qm++ ·))(hi:i=R L):WZ k 0 L=some qm:=by
 simp_all[WZ]
def Fo{k:Nat}:∀(l:List ba)(i:Nat),k<=i->WZ k i l=YT NO l
 |[],_,_=>rfl
 |w::l,i,h=>by
  rw[WZ,YT];cases hs:UW w 7 with
  |true=>rw[Zn ⟨rfl,.inr h⟩,oN hs,Fo l (i+1) I]
  |false=>rw[Zm F,oM hs]
def DO{l:List ba}(h:0<R l):WZ 1 0 l=if RX l[0]=true then(YT NO<|l.drop 1).map (WR l[0]:: ·)else none:=by
 cases l with
 |nil=>cases h
 |cons w l=>
  show(if UW w 7=true/\(0<=WR w\/1<=0)then(WZ 1 (0+1) l).map (WR w:: ·)else none)=if RX w=true then(YT NO l).map (WR w:: ·)else none
  simp[Fo,RX]
def K1{l:List ba}{k:Nat}(u:R l<=100000)(v:k<=100)(hw:∀w∈l,R w<=100000):Ct prog 40 [.sl<|l.map λs=>[.str s],bv (k:Int)]<|.Yy [ints<|(WZ k 0 l).getD [],.bool (WZ k 0 l).isSome]:=by
 refine cI func40 O<|kr<|kc (S.assign .none O .Ya)<|rr 5 O<|RK.c (S.XG (k:=6) (sz:=1) .none O)<|rr 9 O ?_;refine OK.We [6] (λ(i:Nat)(qm:bd)=>[(0,.sl<|l.map λs=>[.str s]),(1,bv (k:Int)),(6,.own 6<|R qm),(2006,.arr 1<|qm.map λn=>[bv n]),(7,bv i)]) (λi qm=>i<=R l/\WZ k 0 l=(WZ k i<|l.drop i).map (qm++ ·)/\R qm<=i) (λi qm=>R l - i) 0 ([]) ⟨Zr _,by rw[aα];cases WZ k 0 l<;>simp,Zq _⟩ ⟨O,O,(ZH N),(ZX N),O,Zo⟩ (λ_ _=>O) ?_;rintro i qm ⟨hi,g,r⟩;refine ro 5 O<|kc (zk X1 O)<|rr 3 O<|kB O (λp=>?_) λp=>?_
 ·have a:i<R l:=by omega
  have h:=hw _<|Zt a;refine ro 8 O<|kc (zI X1 O I O)<|kc (zV T6 O O)<|kc (zK (jA h) call73 O) ?_;refine rr 11 O<|kc (S.not .none O<|zt O)<|jm O<|RK.split (t:=26) O (λf=>?_) λf=>?_
  ·have j:UW l[i] 7=false:=by simpa using f
   have d:=Bc g a (by rw[j];simp);refine rr 13 O<|kc (S.assign .none O .Ya)<|rr 3 O<|kS O O O O ?_;rw[d]
   all_goals rfl
  have hs:UW l[i] 7=true:=by simpa using f
  have q:(if UW l[i] 7=true then WR l[i]else 0)=WR l[i]:=Zn hs;refine rr 3 O<|RK.ZS (t:=29) O (λm=>?_) λm=>?_
  ·refine rr 7 O<|kB O (λo=>?_) λo=>?_
   ·have d:=Bc g a (by rintro⟨_,b|b⟩<;>omega);refine kr<|kc (S.assign .none O .Ya)<|rr 3 O<|kS O O O O ?_;rw[d]
    all_goals rfl
   have e:UW l[i] 7=true/\(0<=WR l[i]\/k<=i):=⟨hs,.inr I⟩;refine ro 5 O ?_;refine RK.c (zM [[_]] Xr O O O O) ?_;refine kc (zP Xr O O F N I<|by simp only[maxLen];omega) ?_;refine Rr 9 O I ?_;refine Ab.D.lp ⟨i+1,qm++[WR l[i]],⟨by omega,Bd g a e,by simp;omega⟩,I,O,O,(ZH F),(ZX<|by rw[Zn hs];simp),O,Zo⟩
  have e:UW l[i] 7=true/\(0<=WR l[i]\/k<=i):=⟨hs,.inl I⟩;refine rr 13 O ?_;refine RK.c (zM [[_]] Xr O O O O) ?_;refine kc (zP Xr O O F N I<|by simp only[maxLen];omega) ?_;refine Rr 9 O I ?_;refine Ab.D.lp ⟨i+1,qm++[WR l[i]],⟨by omega,Bd g a e,by simp;omega⟩,I,O,O,(ZH F),(ZX<|by rw[Zn hs];simp),O,Zo⟩
 have d:=tr g (show i=R l by omega);refine ro 9 O ?_;refine OK.ret<|Y3.r2 (.tmp O O (.c (.own O O N) O) O) (zo O O) ?_;rw[d]
 all_goals rfl
