import Derived.Test.YthibpafdakbpgaaGreatDoorTfD
set_option linter.all false
open List renaming length->R
namespace Go.Proofs.YthibpafdakbpgaaGreatDoor
open Go.Ab Tryz
set_option maxRecDepth 9999
variable{l:List Entry}{n:Net}
theorem Cu(a:(U4 n).2≠0):Z2 n l=(Z6.init n (ZO n.plan).1,0,(U4 n).2):=by
 simp_all[L_,OD,Z2]
def UK(x:Entry):Bool:=!((decide (200<R x.text)&&decide (R x.text<=600))||(decide (620<R x.text)||decide (20<R x.OR)))
def Xv(l:List Entry):Bool:=!((decide (40<R l)&&decide (R l<=60))||decide (64<R l))&&l.all UK
variable{x:Entry}
theorem P5(h:(200<R x.text/\R x.text<=600)\/620<R x.text\/20<R x.OR):UK x=false:=by
 unfold UK;grind
theorem xA(h:¬(200<R x.text/\R x.text<=600))(b:¬620<R x.text)(a:¬20<R x.OR):UK x=true:=by
 grind [UK]
theorem jL(h:UK x=true):R x.text<=620:=by
 grind [P5]
theorem qS(h:(40<R l/\R l<=60)\/64<R l):Xv l=false:=by
 unfold Xv;grind
theorem fq(h:¬(40<R l/\R l<=60))(a:¬64<R l):Xv l=l.all UK:=by
 grind [Xv]
theorem Ox{i:Nat}(hi:i<R l)(a:UK l[i]=false):(l.drop i).all UK=false:=by
 grind [List.drop_eq_getElem_cons]
theorem xB{i:Nat}(hi:i<R l)(a:UK l[i]=true):(l.drop i).all UK=(l.drop<|i+1).all UK:=by
 grind [List.drop_eq_getElem_cons]
def dz(h:Xv l=true):R l<=64/\∀x∈l,R x.text<=620:=by
 simp_all[Xv,jL]
theorem fE:∀(l:List Entry)(H:Z6)(i:Nat)(x:Entry),(runT H i l).2.2=0->(runT H i<|l++[x]).2.2=(Za (runT H i l).1 x).2
 |[],H,i,x,_=>by
  show(runT H i [x]).2.2=(Za H x).2;rw[runT];split
  ·rfl
  rename_i h;rw[Zu.1 h];rfl
 |y::l,H,i,x,h=>by
  rw[H5,runT];rw[runT]at h⊢;by_cases e:(Za H y).2=0
  ·rw[Zm<|Zp e]at h⊢;rw[Zm<|Zp e];exact fE l _ _ x h
  simp_all
def sI:∀(l:List Entry)(H:Z6)(i:Nat),(runT H i l).2.2=0->(runT H i l).1.entries=H.entries+R l
 |[],H,i,_=>(lj _).symm
 |y::l,H,i,h=>by
  rw[runT]at h⊢;by_cases e:(Za H y).2=0
  ·rw[Zm<|Zp e]at h⊢;rw[sI l _ _ h,(Dw e).1,tt];omega
  simp_all
def sB:∀(l:List Entry)(H:Z6)(i:Nat),(runT H i l).1.plan=H.plan/\(runT H i l).1.XR=H.XR
 |[],_,_=>⟨rfl,rfl⟩
 |y::l,H,i=>by
  rw[runT];split
  ·exact UY H y
  obtain⟨a,b⟩:=sB l (Za H y).1<|i+1;simp_all[UY]
theorem Ur(h:(Z2 n l).2.2=0):(U4 n).2=0/\R l<=60/\Z2 n l=runT (Z6.init n (ZO n.plan).1) 0 l:=by
 grind [C7,Jn,Cu]
def vT(h:(Z2 n l).2.2=0):Y_ (Z2 n l).1.plan=0/\Ka (Z2 n l).1.XR:=by
 obtain⟨a,_,e⟩:=Ur h;rw[e,(sB _ _ _).1,(sB _ _ _).2];exact⟨Sx (J6 a).2,fY a⟩
theorem aL(h:(Z2 n l).2.2=0):(Z2 n<|l++[x]).2.2=(Za (Z2 n l).1 x).2:=by
 obtain⟨a,b,e⟩:=Ur h;rw[e]at h⊢;have c:=sI _ _ _ h;grind [Z6.init,C7,Z6.head,Zy,Rf,Za,Jn,fE]
def rR(n:Net)(l:List Entry)(x:Entry):Int:=if(Z2 n l).2.2≠0 then(Z2 n l).2.2 else(Za (Z2 n l).1 x).2
def appT(n:Net)(l:List Entry)(x:Entry):List Entry:=if rR n l x≠0 then []else l++[x]
def appE_1(h:(Z2 n l).2.2≠0):rR n l x=(Z2 n l).2.2:=Zn h
def appE_2(h:(Z2 n l).2.2=0):rR n l x=(Za (Z2 n l).1 x).2:=Zm<|Zp h
def appT_1(h:rR n l x≠0):appT n l x=[]:=Zn h
def appT_2(h:rR n l x=0):appT n l x=l++[x]:=Zm<|Zp h
def S8(vz:R l<=100000):Ct prog 14 [.sl<|l.map Entry.cs]<|.sl<|l.map Entry.cs:=by
 refine cI func14 O<|kr<|kc (S.assign .none O .Ya)<|rr 4 O<|RK.c (zM [] x9 O O O O)<|jm O ?_;refine RK.c (S.V2 x9 .none O (zt O) O N (zt O) (by intro q a;obtain⟨b,_,rfl⟩:=rx.1 a;rfl) O (by simp only[Zx];omega)<|by simp only[maxLen,Zx];omega) ?_;refine rr 3 O ?_;refine OK.ret<|Y3.r1 (.tmp O O (.c (.own O O N) O) O) ?_;rfl
def G9(c:R n.plan<=1000)(d:∀x∈l,R x.text<=100000):Ct prog 11 [.agg n.cs,.sl<|l.map Entry.cs]<|bv (Z2 n l).2.2:=by
 refine cI func11 O<|ro 10 O<|kc (zK (G_ c) call22 O)<|rr 9 O<|kB O (λa=>?_) λa=>?_
 ·have e:=Cu (l:=l) a;refine ro 6 O<|kR O O ?_;rw[e];try rfl
 have b:=Zu.1 a;refine ro 6 O<|kc (zK (Jk c b d) call42 O)<|rr 16 O<|kR O O ?_;rfl
def C2:Ct prog 10 [.sl<|l.map Entry.cs]<|.bool<|Xv l:=by
 refine cI func10 O<|OK.XF (v9:=l.map Entry.cs) (t:=0) O O λvz=>?_;rw[Zx]at vz;unfold maxLen at vz;refine ro 9 O<|kc (zk Vy O)<|rr 2 O<|RK.ZS (t:=8) O (λo=>?_) λo=>?_
 ·refine kc (S.move (zg O O) O<|zt O)<|kc (S.OF Vy (zg O O) O<|zt O)<|rr 3 O<|RK.ZS (t:=13) O (λm=>?_) λm=>?_
  ·have b:Xv l=false:=qS I;refine rr 12 O<|kR O O ?_;rw[b];try rfl
  refine kc (S.move (zg O O) O<|zt O)<|kc (S.OF Vy (zg O O) O<|zt O)<|rr 4 O<|kB O (λk=>?_) λk=>?_
  ·have b:Xv l=false:=qS I;refine ro 5 O<|kR O O ?_;rw[b];try rfl
  have f:=fq (l:=l) I I;refine ro 9 O ?_;refine OK.loop (G:=Nat) [] (λi=>[(0,.sl<|l.map Entry.cs),(3,bv i)]) (λi=>i<=R l/\Xv l=(l.drop i).all UK) (λi=>R l - i) 0 ⟨Zr _,f⟩ ⟨O,O,Zo⟩ (λ_=>O) ?_;rintro i ⟨hi,c⟩;refine ro 5 O<|kc (zk Vy O)<|rr 3 O<|kB O (λj=>?_) λj=>?_
  ·have a:i<R l:=by omega
   refine ro 8 O<|kc (zI Vy O I O) ?_;refine rr 11 O<|RK.ZS (t:=32) O (λh=>?_) λh=>?_
   ·refine rr 4 O<|RK.ZS (t:=36) O (λg=>?_) λg=>?_
    ·have b:Xv l=false:=by rw[c,Ox a<|P5 I]
     refine rr 20 O<|kR O O ?_;rw[b];try rfl
    refine rr 4 O<|RK.ZS (t:=40) O (λd=>?_) λd=>?_
    ·have b:Xv l=false:=by rw[c,Ox a<|P5 I]
     refine rr 16 O<|kR O O ?_;rw[b];try rfl
    refine rr 2 O<|kc (S.Zi (n:=i) Vy (zg O O) O (zt O) (zt O) O I O) ?_;refine rr 7 O<|kB O (λe=>?_) λe=>?_
    ·have b:Xv l=false:=by rw[c,Ox a<|P5 I]
     refine ro 5 O<|kR O O ?_;rw[b];try rfl
    refine Ro 8 O I (Ab.D.lp ⟨i+1,⟨by omega,by rw[c,xB a<|xA I I I]⟩,I,O,O,Zo⟩)
   refine rr 8 O<|RK.ZS (t:=40) O (λd=>?_) λd=>?_
   ·have b:Xv l=false:=by rw[c,Ox a<|P5 I]
    refine rr 16 O<|kR O O ?_;rw[b];try rfl
   refine rr 2 O<|kc (S.Zi (n:=i) Vy (zg O O) O (zt O) (zt O) O I O) ?_;refine rr 7 O<|kB O (λe=>?_) λe=>?_
   ·have b:Xv l=false:=by rw[c,Ox a<|P5 I]
    refine ro 5 O<|kR O O ?_;rw[b];try rfl
   refine Ro 8 O I (Ab.D.lp ⟨i+1,⟨by omega,by rw[c,xB a<|xA I I I]⟩,I,O,O,Zo⟩)
  have b:Xv l=true:=by rw[c,show i=R l by omega,da];rfl
  refine ro 7 O<|kR O O ?_;rw[b];try rfl
 refine rr 6 O<|kc (S.OF Vy (zg O O) O<|zt O)<|rr 4 O<|kB O (λk=>?_) λk=>?_
 ·have b:Xv l=false:=qS I;refine ro 5 O<|kR O O ?_;rw[b];try rfl
 have f:=fq (l:=l) I I;refine ro 9 O ?_;refine OK.loop (G:=Nat) [] (λi=>[(0,.sl<|l.map Entry.cs),(3,bv i)]) (λi=>i<=R l/\Xv l=(l.drop i).all UK) (λi=>R l - i) 0 ⟨Zr _,f⟩ ⟨O,O,Zo⟩ (λ_=>O) ?_;rintro i ⟨hi,c⟩;refine ro 5 O<|kc (zk Vy O)<|rr 3 O<|kB O (λj=>?_) λj=>?_
 ·have a:i<R l:=by omega
  refine ro 8 O<|kc (zI Vy O I O) ?_;refine rr 11 O<|RK.ZS (t:=32) O (λh=>?_) λh=>?_
  ·refine rr 4 O<|RK.ZS (t:=36) O (λg=>?_) λg=>?_
   ·have b:Xv l=false:=by rw[c,Ox a<|P5 I]
    refine rr 20 O<|kR O O ?_;rw[b];try rfl
   refine rr 4 O<|RK.ZS (t:=40) O (λd=>?_) λd=>?_
   ·have b:Xv l=false:=by rw[c,Ox a<|P5 I]
    refine rr 16 O<|kR O O ?_;rw[b];try rfl
   refine rr 2 O<|kc (S.Zi (n:=i) Vy (zg O O) O (zt O) (zt O) O I O) ?_;refine rr 7 O<|kB O (λe=>?_) λe=>?_
   ·have b:Xv l=false:=by rw[c,Ox a<|P5 I]
    refine ro 5 O<|kR O O ?_;rw[b];try rfl
   refine Ro 8 O I (Ab.D.lp ⟨i+1,⟨by omega,by rw[c,xB a<|xA I I I]⟩,I,O,O,Zo⟩)
  refine rr 8 O<|RK.ZS (t:=40) O (λd=>?_) λd=>?_
  ·have b:Xv l=false:=by rw[c,Ox a<|P5 I]
   refine rr 16 O<|kR O O ?_;rw[b];try rfl
  refine rr 2 O<|kc (S.Zi (n:=i) Vy (zg O O) O (zt O) (zt O) O I O) ?_;refine rr 7 O<|kB O (λe=>?_) λe=>?_
  ·have b:Xv l=false:=by rw[c,Ox a<|P5 I]
   refine ro 5 O<|kR O O ?_;rw[b];try rfl
  refine Ro 8 O I (Ab.D.lp ⟨i+1,⟨by omega,by rw[c,xB a<|xA I I I]⟩,I,O,O,Zo⟩)
 have b:Xv l=true:=by rw[c,show i=R l by omega,da];rfl
 refine ro 7 O<|kR O O ?_;rw[b];try rfl
def wu(f:R l<=100000):CtO prog 73 [.sl<|l.map Entry.cs] 3<|l.map Entry.cs:=by
 refine CtO.intro func73 rfl ntmps73 results73 rfl rfl rfl λw h=>?_
 refine kr<|kc (S.assign .none O .Ya)<|rr 6 O<|RK.xE (t:=3) O O λe a=>?_;refine kc (S.mL underlying27 .none O<|zt O)<|kD<|OK.cond O O (λb=>?_) λb=>?_
 ·refine kr<|RK.c (S.XG (k:=2) (sz:=3) .none O)<|kD ?_;refine OK.ret<|rS.mk O O O N ?_;rw[bα.1<|a b];rfl
 refine ro 4 O<|RK.c (zM [] x9 O O O O)<|jm O ?_;refine RK.c (S.V2 x9 .none O (zt O) O N (zt O) (by intro q d;obtain⟨x,_,rfl⟩:=rx.1 d;rfl) (Zx ..) I<|by simp only[maxLen];omega) ?_;refine rr 3 O ?_;refine OK.ret<|rS.mk O O O N ?_;rfl
set_option maxHeartbeats 2000000 in
def f_(q:R n.plan<=1000)(vz:R l<=1000)(r:∀x∈l,R x.text<=100000)(p:R x.text<=100000):Q7 prog 29 [.agg n.cs,.sl<|l.map Entry.cs,.agg x.cs]<|.Yy [.sl<|(appT n l x).map Entry.cs,bv<|rR n l x]:=by
 refine cT func29 O λo=>?_
 refine ro 4 O<|kc (S.assign .none O .Ya)<|rr 7 O ?_;refine RK.Ng (((R2 q<|An r).at o)) (λ_=>Mf.ZV _ _ _) (λ_=>Mf.mono) call43 O (zc O<|zc O .nil) O λA=>?_
 refine rr 16 O<|kB O (λf=>?_) λf=>?_
 ·refine OK.Ld f O λj i=>?_
  have b:=appE_2 (x:=x) f;obtain⟨g,h⟩:=vT f;rw[Jm f];rw[←i]at g h b;refine ro 3 O ?_;refine RK.c (S.VO (((Au (m:=400) j I g h p λ_ s=>rQ (Y8 s).1).Tq o<|Z9.ZV _)) (JX.ZV _ _ _) call65 .none O (zc O<|zc O .nil) O O) ?_;refine rr 10 O<|kB O (λe=>?_) λe=>?_
  ·have a:rR n l x≠0:=by rw[b];exact e
   have d:=appT_1 a;refine ro 3 O<|kc (S.assign .none O .Ya)<|rr 3 O<|kS O O O O ?_;rw[d,b];try rfl
  have a:rR n l x=0:=by rw[b];exact Zu.1 e
  have d:=appT_2 a;refine ro 3 O ?_;refine kV (.c (zm O)<|.c (S.dQ (k:=27) (wu (l:=l) I) call73 .none O (zc O .nil) O<|Zx ..)<|.c (zL CK O O O O)<|.c (zM [[_,_,_]] x9 O O O O)<|.c (zP x9 O O N N I<|by simp only[maxLen];omega)<|.c (za O)<|.c (zi O O) .nil) ?_;refine Ab.D.code ?_;refine OK.ret<|Y3.r2 (.tmp O O (.c (.own O O N) O) O) (zo O O) ?_;rw[d,a,ne]
  try rfl
 have b:=appE_1 (x:=x) f;refine ro 9 O<|kB O (λe=>?_) λe=>?_
 ·have a:rR n l x≠0:=by rw[b];exact e
  have d:=appT_1 a;refine ro 3 O<|kc (S.assign .none O .Ya)<|rr 3 O<|kS O O O O ?_;rw[d,b];try rfl
 have a:rR n l x=0:=by rw[b];exact Zu.1 e
 have d:=appT_2 a;refine ro 3 O ?_;refine kV (.c (zm O)<|.c (S.dQ (k:=27) (wu (l:=l) I) call73 .none O (zc O .nil) O<|Zx ..)<|.c (zL CK O O O O)<|.c (zM [[_,_,_]] x9 O O O O)<|.c (zP x9 O O N N I<|by simp only[maxLen];omega)<|.c (za O)<|.c (zi O O) .nil) ?_;refine Ab.D.code ?_;refine OK.ret<|Y3.r2 (.tmp O O (.c (.own O O N) O) O) (zo O O) ?_;rw[d,a,ne]
 try rfl
