import Derived.Test.YthibpafdakbpgaaGreatDoorTg
set_option linter.all false
open List renaming length->R
namespace Go.Proofs.YthibpafdakbpgaaGreatDoor
open Go.Ab Tryz
set_option maxRecDepth 9999
variable{l:List Entry}{n:Net}
theorem Cu(a:(U4 n).2≠0):Z2 n l=(Z6.init n (ZO n.plan).1,0,(U4 n).2):=by
 simp_all[L_,OD,Z2]
def UK(x:Entry):Bool:=!((decide (200<R x.text)&&decide (R x.text<=600))||(decide (620<R x.text)||decide (20<R x.OR)))
def Xv(l:List Entry):Bool:=!((decide (40<R l)&&decide (R l<=60))||decide (64<R l))&&l.all UK
variable{x:Entry}
theorem P5(h:(200<R x.text/\R x.text<=600)\/620<R x.text\/20<R x.OR):UK x=false:=by
 unfold UK;grind
theorem xA(h:¬(200<R x.text/\R x.text<=600))(b:¬620<R x.text)(a:¬20<R x.OR):UK x=true:=by
 grind [UK]
theorem jL(h:UK x=true):R x.text<=620:=by
 grind [P5]
theorem qS(h:(40<R l/\R l<=60)\/64<R l):Xv l=false:=by
 unfold Xv;grind
theorem fq(h:¬(40<R l/\R l<=60))(a:¬64<R l):Xv l=l.all UK:=by
 grind [Xv]
theorem Ox{i:Nat}(hi:i<R l)(a:UK l[i]=false):(l.drop i).all UK=false:=by
 grind [List.drop_eq_getElem_cons]
theorem xB{i:Nat}(hi:i<R l)(a:UK l[i]=true):(l.drop i).all UK=(l.drop<|i+1).all UK:=by
 grind [List.drop_eq_getElem_cons]
def dz(h:Xv l=true):R l<=64/\∀x∈l,R x.text<=620:=by
 simp_all[Xv,jL]
def sI:∀(l:List Entry)(H:Z6)(i:Nat),(runT H i l).2.2=0->(runT H i l).1.entries=H.entries+R l
 |[],H,i,_=>(ed _).symm
 |y::l,H,i,h=>by
  rw[runT]at h⊢;by_cases e:(Za H y).2=0
  ·rw[Zm<|Zp e]at h⊢;rw[sI l _ _ h,(Dw e).1,tt];omega
  simp_all
theorem Ur(h:(Z2 n l).2.2=0):(U4 n).2=0/\R l<=60/\Z2 n l=runT (Z6.init n (ZO n.plan).1) 0 l:=by
 grind [C7,Jn,Cu]
def S8(qf:R l<=100000):Ct prog 14 [.sl<|l.map Entry.cs]<|.sl<|l.map Entry.cs:=by
 refine cI func14 O<|kr<|kc (S.assign .none O .Ya)<|rr 4 O<|RK.c (zM [] x9 O O O O)<|jm O ?_;refine RK.c (S.V2 x9 .none O (zt O) O N (zt O) (by intro q a;obtain⟨b,_,rfl⟩:=rx.1 a;rfl) O (by simp only[Zx];omega)<|by simp only[maxLen,Zx];omega) ?_;refine rr 3 O ?_;refine OK.ret<|Y3.r1 (.tmp O O (.c (.own O O N) O) O) ?_;rfl
def G9(c:R n.plan<=1000)(d:∀x∈l,R x.text<=100000):Ct prog 11 [.agg n.cs,.sl<|l.map Entry.cs]<|bv (Z2 n l).2.2:=by
 refine cI func11 O<|ro 10 O<|kc (zK (G_ c) call22 O)<|rr 9 O<|kB O (λa=>?_) λa=>?_
 ·have e:=Cu (l:=l) a;refine ro 6 O<|kR O O ?_;rw[e];try rfl
 have b:=Zu.1 a;refine ro 6 O<|kc (zK (Jk c b d) call42 O)<|rr 16 O<|kR O O ?_;rfl
def C2:Ct prog 10 [.sl<|l.map Entry.cs]<|.bool<|Xv l:=by
 refine cI func10 O<|OK.XF (v9:=l.map Entry.cs) (t:=0) O O λqf=>?_;rw[Zx]at qf;unfold maxLen at qf;refine ro 9 O<|kc (zk Vy O)<|rr 2 O<|RK.ZS (t:=8) O (λo=>?_) λo=>?_
 ·refine kc (S.move (zg O O) O<|zt O)<|kc (S.OF Vy (zg O O) O<|zt O)<|rr 3 O<|RK.ZS (t:=13) O (λm=>?_) λm=>?_
  ·have b:Xv l=false:=qS I;refine rr 12 O<|kR O O ?_;rw[b];try rfl
  refine kc (S.move (zg O O) O<|zt O)<|kc (S.OF Vy (zg O O) O<|zt O)<|rr 4 O<|kB O (λk=>?_) λk=>?_
  ·have b:Xv l=false:=qS I;refine ro 5 O<|kR O O ?_;rw[b];try rfl
  have f:=fq (l:=l) I I;refine ro 9 O ?_;refine OK.loop (G:=Nat) [] (λi=>[(0,.sl<|l.map Entry.cs),(3,bv i)]) (λi=>i<=R l/\Xv l=(l.drop i).all UK) (λi=>R l - i) 0 ⟨Zr _,f⟩ ⟨O,O,Zo⟩ (λ_=>O) ?_;rintro i ⟨hi,c⟩;refine ro 5 O<|kc (zk Vy O)<|rr 3 O<|kB O (λj=>?_) λj=>?_
  ·have a:i<R l:=by omega
   refine ro 8 O<|kc (zI Vy O I O) ?_;refine rr 11 O<|RK.ZS (t:=32) O (λh=>?_) λh=>?_
   ·refine rr 4 O<|RK.ZS (t:=36) O (λg=>?_) λg=>?_
    ·have b:Xv l=false:=by rw[c,Ox a<|P5 I]
     refine rr 20 O<|kR O O ?_;rw[b];try rfl
    refine rr 4 O<|RK.ZS (t:=40) O (λd=>?_) λd=>?_
    ·have b:Xv l=false:=by rw[c,Ox a<|P5 I]
     refine rr 16 O<|kR O O ?_;rw[b];try rfl
    refine rr 2 O<|kc (S.Zi (n:=i) Vy (zg O O) O (zt O) (zt O) O I O) ?_;refine rr 7 O<|kB O (λe=>?_) λe=>?_
    ·have b:Xv l=false:=by rw[c,Ox a<|P5 I]
     refine ro 5 O<|kR O O ?_;rw[b];try rfl
    refine Ro 8 O I (Ab.D.lp ⟨i+1,⟨by omega,by rw[c,xB a<|xA I I I]⟩,I,O,O,Zo⟩)
   refine rr 8 O<|RK.ZS (t:=40) O (λd=>?_) λd=>?_
   ·have b:Xv l=false:=by rw[c,Ox a<|P5 I]
    refine rr 16 O<|kR O O ?_;rw[b];try rfl
   refine rr 2 O<|kc (S.Zi (n:=i) Vy (zg O O) O (zt O) (zt O) O I O) ?_;refine rr 7 O<|kB O (λe=>?_) λe=>?_
   ·have b:Xv l=false:=by rw[c,Ox a<|P5 I]
    refine ro 5 O<|kR O O ?_;rw[b];try rfl
   refine Ro 8 O I (Ab.D.lp ⟨i+1,⟨by omega,by rw[c,xB a<|xA I I I]⟩,I,O,O,Zo⟩)
  have b:Xv l=true:=by rw[c,show i=R l by omega,da];rfl
  refine ro 7 O<|kR O O ?_;rw[b];try rfl
 refine rr 6 O<|kc (S.OF Vy (zg O O) O<|zt O)<|rr 4 O<|kB O (λk=>?_) λk=>?_
 ·have b:Xv l=false:=qS I;refine ro 5 O<|kR O O ?_;rw[b];try rfl
 have f:=fq (l:=l) I I;refine ro 9 O ?_;refine OK.loop (G:=Nat) [] (λi=>[(0,.sl<|l.map Entry.cs),(3,bv i)]) (λi=>i<=R l/\Xv l=(l.drop i).all UK) (λi=>R l - i) 0 ⟨Zr _,f⟩ ⟨O,O,Zo⟩ (λ_=>O) ?_;rintro i ⟨hi,c⟩;refine ro 5 O<|kc (zk Vy O)<|rr 3 O<|kB O (λj=>?_) λj=>?_
 ·have a:i<R l:=by omega
  refine ro 8 O<|kc (zI Vy O I O) ?_;refine rr 11 O<|RK.ZS (t:=32) O (λh=>?_) λh=>?_
  ·refine rr 4 O<|RK.ZS (t:=36) O (λg=>?_) λg=>?_
   ·have b:Xv l=false:=by rw[c,Ox a<|P5 I]
    refine rr 20 O<|kR O O ?_;rw[b];try rfl
   refine rr 4 O<|RK.ZS (t:=40) O (λd=>?_) λd=>?_
   ·have b:Xv l=false:=by rw[c,Ox a<|P5 I]
    refine rr 16 O<|kR O O ?_;rw[b];try rfl
   refine rr 2 O<|kc (S.Zi (n:=i) Vy (zg O O) O (zt O) (zt O) O I O) ?_;refine rr 7 O<|kB O (λe=>?_) λe=>?_
   ·have b:Xv l=false:=by rw[c,Ox a<|P5 I]
    refine ro 5 O<|kR O O ?_;rw[b];try rfl
   refine Ro 8 O I (Ab.D.lp ⟨i+1,⟨by omega,by rw[c,xB a<|xA I I I]⟩,I,O,O,Zo⟩)
  refine rr 8 O<|RK.ZS (t:=40) O (λd=>?_) λd=>?_
  ·have b:Xv l=false:=by rw[c,Ox a<|P5 I]
   refine rr 16 O<|kR O O ?_;rw[b];try rfl
  refine rr 2 O<|kc (S.Zi (n:=i) Vy (zg O O) O (zt O) (zt O) O I O) ?_;refine rr 7 O<|kB O (λe=>?_) λe=>?_
  ·have b:Xv l=false:=by rw[c,Ox a<|P5 I]
   refine ro 5 O<|kR O O ?_;rw[b];try rfl
  refine Ro 8 O I (Ab.D.lp ⟨i+1,⟨by omega,by rw[c,xB a<|xA I I I]⟩,I,O,O,Zo⟩)
 have b:Xv l=true:=by rw[c,show i=R l by omega,da];rfl
 refine ro 7 O<|kR O O ?_;rw[b];try rfl
