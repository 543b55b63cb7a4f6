import Derived.Test.YtlmhpcghgjdjjaaGreatDoorTg
set_option linter.all false
open List renaming length->R
namespace Go.Proofs.Z_
open Go.Ab Tryz
set_option maxRecDepth 9999
theorem Cu{n:Net}{l:List Entry}(a:(U4 n).2≠0):Z2 n l=(Z6.init n (ZO n.plan).1,0,(U4 n).2):=by
 simp_all[L_,OD,Z2]
def fO{x y:Entry}:(!Nq [.i x.at_,.s x.OR,.s x.text] [.i y.at_,.s y.OR,.s y.text])=decide (x≠y):=by
 cases x;cases y;simp[Nq,Pl.eq,Entry.mk.injEq]
def entry_len{α:Type}[DecidableEq α]{a b:List α}(h:R a≠R b):false=decide (a=b):=by grind
def entry_at{α:Type}[DecidableEq α]{a b:List α}{i:Nat}(d:i<R a)(c:i<R b)(h:a[i]≠b[i]):false=decide (a=b):=by grind
def entry_end{α:Type}[DecidableEq α]{a b:List α}(c:R a=R b)(h:∀(k:Nat)(e:k<R a)(d:k<R b),a[k]=b[k]):true=decide (a=b):=by grind [List.ext_getElem]
def UK(x:Entry):Bool:=!((decide (200<R x.text)&&decide (R x.text<=600))||(decide (620<R x.text)||decide (20<R x.OR)))
def Xv(l:List Entry):Bool:=!((decide (40<R l)&&decide (R l<=60))||decide (64<R l))&&l.all UK
theorem P5{x:Entry}(h:(200<R x.text/\R x.text<=600)\/620<R x.text\/20<R x.OR):UK x=false:=by
 unfold UK;grind
def xA{x:Entry}(h:¬(200<R x.text/\R x.text<=600))(b:¬620<R x.text)(a:¬20<R x.OR):UK x=true:=by
 grind [UK]
def jL{x:Entry}(h:UK x=true):R x.text<=620:=by
 grind [P5]
def qS{l:List Entry}(h:(40<R l/\R l<=60)\/64<R l):Xv l=false:=by
 unfold Xv;grind
def fq{l:List Entry}(h:¬(40<R l/\R l<=60))(a:¬64<R l):Xv l=l.all UK:=by
 grind [Xv]
def Ox{l:List Entry}{i:Nat}(hi:i<R l)(a:UK l[i]=false):(l.drop i).all UK=false:=by
 grind [List.drop_eq_getElem_cons]
def xB{l:List Entry}{i:Nat}(hi:i<R l)(a:UK l[i]=true):(l.drop i).all UK=(l.drop (i+1)).all UK:=by
 grind [List.drop_eq_getElem_cons]
def dz{l:List Entry}(h:Xv l=true):R l<=64/\∀x∈l,R x.text<=620:=by
 simp_all[Xv,jL]
theorem runT_app:∀(l:List Entry)(H:Z6)(i:Nat)(x:Entry),(runT H i l).2.2=0->(runT H i (l++[x])).2.2=(Za (runT H i l).1 x).2
 |[],H,i,x,_=>by
  show(runT H i [x]).2.2=(Za H x).2;rw[runT];split
  ·rfl
  rename_i h;rw[Zu.1 h];rfl
 |y::l,H,i,x,h=>by
  rw[H5,runT];rw[runT]at h⊢;by_cases e:(Za H y).2=0
  ·rw[Zm (Zp e)]at h⊢;rw[Zm (Zp e)];exact runT_app l _ _ x h
  simp_all
def sI:∀(l:List Entry)(H:Z6)(i:Nat),(runT H i l).2.2=0->(runT H i l).1.entries=H.entries+R l
 |[],H,i,_=>(Int.add_zero _).symm
 |y::l,H,i,h=>by
  rw[runT]at h⊢;by_cases e:(Za H y).2=0
  ·rw[Zm (Zp e)]at h⊢;rw[sI l _ _ h,(Dw e).1,tt];omega
  simp_all
def qK:∀(l:List Entry)(H:Z6)(i:Nat),(runT H i l).1.plan=H.plan/\(runT H i l).1.XR=H.XR
 |[],_,_=>⟨rfl,rfl⟩
 |y::l,H,i=>by
  rw[runT];split
  ·exact UY H y
  obtain⟨a,b⟩:=qK l (Za H y).1 (i+1);simp_all[UY]
def Ur{n:Net}{l:List Entry}(h:(Z2 n l).2.2=0):(U4 n).2=0/\R l<=60/\Z2 n l=runT (Z6.init n (ZO n.plan).1) 0 l:=by
 grind [C7,Jn,Cu]
def replay_pl{n:Net}{l:List Entry}(h:(Z2 n l).2.2=0):Y_ (Z2 n l).1.plan=0/\Ka (Z2 n l).1.XR:=by
 obtain⟨a,_,e⟩:=Ur h;rw[e,(qK _ _ _).1,(qK _ _ _).2];exact⟨Sx (J6 a).2,fY a⟩
def replay_app{n:Net}{l:List Entry}{x:Entry}(h:(Z2 n l).2.2=0):(Z2 n (l++[x])).2.2=(Za (Z2 n l).1 x).2:=by
 obtain⟨a,b,e⟩:=Ur h;rw[e]at h⊢;have c:=sI _ _ _ h;grind [Z6.init,C7,Z6.head,Zy,Rf,Za,Jn,runT_app]
def S8{l:List Entry}(hlen:R l<=100000):Ct prog 15 [.sl (l.map Entry.cs)] (.sl (l.map Entry.cs)):=by
 refine cI func15 O (kr (kc (S.assign .none O .Ya) (rr 4 O (RK.c (zM [] x9 O O O O) (jm O ?_)))));refine RK.c (S.V2 x9 .none O (zt O) O N (zt O) (by intro q a;obtain⟨b,_,rfl⟩:=rx.1 a;rfl) O (by simp only[Zx];omega) (by simp only[maxLen,Zx];omega)) ?_;refine rr 3 O ?_;refine OK.ret (Y3.r1 (.tmp O O (.c (.own O O N) O) O) ?_);rfl
def G9{n:Net}{l:List Entry}(c:R n.plan<=1000)(d:∀x∈l,R x.text<=100000):Ct prog 18 [.agg n.cs,.sl (l.map Entry.cs)] (bv (Z2 n l).2.2):=by
 refine cI func18 O (ro 10 O (kc (zK (G_ c) call49 O) (rr 9 O (kB O (fun a=>?_) (fun a=>?_)))))
 ·have e:=Cu (l:=l) a;refine ro 6 O (kR O O ?_);rw[e];try rfl
 have b:=Zu.1 a;refine ro 6 O (kc (zK (Jk c b d) call69 O) (rr 16 O (kR O O ?_)));rfl
def kG{n:Net}{l:List Entry}(a:R n.plan<=1000)(b:(U4 n).2=0)(c:∀x∈l,R x.text<=100000):Ct prog 20 [.agg n.cs,.sl (l.map Entry.cs)] (.agg (Xi n l).cs):=by
 refine cI func20 O (ro 10 O (kc (zK (Jk a b c) call69 O) (rr 16 O (OK.ret (Y3.r1 (zy O O Zk O) ?_)))));rfl
def C2{l:List Entry}:Ct prog 12 [.sl (l.map Entry.cs)] (.bool (Xv l)):=by
 refine cI func12 O (OK.XF (rows:=l.map Entry.cs) (t:=0) O O fun hlen=>?_);rw[Zx]at hlen;unfold maxLen at hlen;refine ro 9 O (kc (zk Vy O) (rr 2 O (RK.ZS (t:=8) O (fun o=>?_) (fun o=>?_))))
 ·refine kc (S.move (zg O O) O (zt O)) (kc (S.OF Vy (zg O O) O (zt O)) (rr 3 O (RK.ZS (t:=13) O (fun m=>?_) (fun m=>?_))))
  ·have b:Xv l=false:=qS I;refine rr 12 O (kR O O ?_);rw[b];try rfl
  refine kc (S.move (zg O O) O (zt O)) (kc (S.OF Vy (zg O O) O (zt O)) (rr 4 O (kB O (fun k=>?_) (fun k=>?_))))
  ·have b:Xv l=false:=qS I;refine ro 5 O (kR O O ?_);rw[b];try rfl
  have f:=fq (l:=l) I I;refine ro 9 O ?_;refine OK.loop (G:=Nat) [] (fun i=>[(0,.sl (l.map Entry.cs)),(3,bv i)]) (fun i=>i<=R l/\Xv l=(l.drop i).all UK) (fun i=>R l - i) 0 ⟨Zr _,f⟩ ⟨O,O,Zo⟩ (fun _=>O) ?_;rintro i ⟨hi,c⟩;refine ro 5 O (kc (zk Vy O) (rr 3 O (kB O (fun j=>?_) (fun j=>?_))))
  ·have a:i<R l:=by omega
   refine ro 8 O (kc (zI Vy O I O) ?_);refine rr 11 O (RK.ZS (t:=32) O (fun h=>?_) (fun h=>?_))
   ·refine rr 4 O (RK.ZS (t:=36) O (fun g=>?_) (fun g=>?_))
    ·have b:Xv l=false:=by rw[c,Ox a (P5 I)]
     refine rr 20 O (kR O O ?_);rw[b];try rfl
    refine rr 4 O (RK.ZS (t:=40) O (fun d=>?_) (fun d=>?_))
    ·have b:Xv l=false:=by rw[c,Ox a (P5 I)]
     refine rr 16 O (kR O O ?_);rw[b];try rfl
    refine rr 2 O (kc (S.Zi (n:=i) Vy (zg O O) O (zt O) (zt O) O I O) ?_);refine rr 7 O (kB O (fun e=>?_) (fun e=>?_))
    ·have b:Xv l=false:=by rw[c,Ox a (P5 I)]
     refine ro 5 O (kR O O ?_);rw[b];try rfl
    refine Ro 8 O I (Ab.D.lp ⟨i+1,⟨by omega,by rw[c,xB a (xA I I I)]⟩,I,O,O,Zo⟩)
   refine rr 8 O (RK.ZS (t:=40) O (fun d=>?_) (fun d=>?_))
   ·have b:Xv l=false:=by rw[c,Ox a (P5 I)]
    refine rr 16 O (kR O O ?_);rw[b];try rfl
   refine rr 2 O (kc (S.Zi (n:=i) Vy (zg O O) O (zt O) (zt O) O I O) ?_);refine rr 7 O (kB O (fun e=>?_) (fun e=>?_))
   ·have b:Xv l=false:=by rw[c,Ox a (P5 I)]
    refine ro 5 O (kR O O ?_);rw[b];try rfl
   refine Ro 8 O I (Ab.D.lp ⟨i+1,⟨by omega,by rw[c,xB a (xA I I I)]⟩,I,O,O,Zo⟩)
  have b:Xv l=true:=by rw[c,show i=R l by omega,da];rfl
  refine ro 7 O (kR O O ?_);rw[b];try rfl
 refine rr 6 O (kc (S.OF Vy (zg O O) O (zt O)) (rr 4 O (kB O (fun k=>?_) (fun k=>?_))))
 ·have b:Xv l=false:=qS I;refine ro 5 O (kR O O ?_);rw[b];try rfl
 have f:=fq (l:=l) I I;refine ro 9 O ?_;refine OK.loop (G:=Nat) [] (fun i=>[(0,.sl (l.map Entry.cs)),(3,bv i)]) (fun i=>i<=R l/\Xv l=(l.drop i).all UK) (fun i=>R l - i) 0 ⟨Zr _,f⟩ ⟨O,O,Zo⟩ (fun _=>O) ?_;rintro i ⟨hi,c⟩;refine ro 5 O (kc (zk Vy O) (rr 3 O (kB O (fun j=>?_) (fun j=>?_))))
 ·have a:i<R l:=by omega
  refine ro 8 O (kc (zI Vy O I O) ?_);refine rr 11 O (RK.ZS (t:=32) O (fun h=>?_) (fun h=>?_))
  ·refine rr 4 O (RK.ZS (t:=36) O (fun g=>?_) (fun g=>?_))
   ·have b:Xv l=false:=by rw[c,Ox a (P5 I)]
    refine rr 20 O (kR O O ?_);rw[b];try rfl
   refine rr 4 O (RK.ZS (t:=40) O (fun d=>?_) (fun d=>?_))
   ·have b:Xv l=false:=by rw[c,Ox a (P5 I)]
    refine rr 16 O (kR O O ?_);rw[b];try rfl
   refine rr 2 O (kc (S.Zi (n:=i) Vy (zg O O) O (zt O) (zt O) O I O) ?_);refine rr 7 O (kB O (fun e=>?_) (fun e=>?_))
   ·have b:Xv l=false:=by rw[c,Ox a (P5 I)]
    refine ro 5 O (kR O O ?_);rw[b];try rfl
   refine Ro 8 O I (Ab.D.lp ⟨i+1,⟨by omega,by rw[c,xB a (xA I I I)]⟩,I,O,O,Zo⟩)
  refine rr 8 O (RK.ZS (t:=40) O (fun d=>?_) (fun d=>?_))
  ·have b:Xv l=false:=by rw[c,Ox a (P5 I)]
   refine rr 16 O (kR O O ?_);rw[b];try rfl
  refine rr 2 O (kc (S.Zi (n:=i) Vy (zg O O) O (zt O) (zt O) O I O) ?_);refine rr 7 O (kB O (fun e=>?_) (fun e=>?_))
  ·have b:Xv l=false:=by rw[c,Ox a (P5 I)]
   refine ro 5 O (kR O O ?_);rw[b];try rfl
  refine Ro 8 O I (Ab.D.lp ⟨i+1,⟨by omega,by rw[c,xB a (xA I I I)]⟩,I,O,O,Zo⟩)
 have b:Xv l=true:=by rw[c,show i=R l by omega,da];rfl
 refine ro 7 O (kR O O ?_);rw[b];try rfl
def AD{a b:List Entry}:Ct prog 31 [.sl (a.map Entry.cs),.sl (b.map Entry.cs)] (.bool (decide (a=b))):=by
 refine cI func31 O (OK.XF (rows:=a.map Entry.cs) (t:=0) O O fun hlen=>?_);rw[Zx]at hlen;unfold maxLen at hlen;refine ro 9 O (kc (zk Vy O) (jm O (kc (zk Vy O) (rr 3 O (kB O (fun o=>?_) (fun o=>?_))))))
 ·refine ro 5 O (kR O O ?_);exact Xj (entry_len I)
 have g:R a=R b:=by omega
 refine ro 9 O ?_;refine OK.loop (G:=Nat) [] (fun i=>[(0,.sl (a.map Entry.cs)),(1,.sl (b.map Entry.cs)),(5,bv i)]) (fun i=>i<=R a/\∀(m:Nat)(f:m<R a)(e:m<R b),m<i->a[m]=b[m]) (fun i=>R a - i) 0 ⟨Zr _,fun m _ _ h=>absurd h I⟩ ⟨O,O,O,Zo⟩ (fun _=>O) ?_;rintro i ⟨hi,p⟩;refine ro 5 O (kc (zk Vy O) (rr 3 O (kB O (fun n=>?_) (fun n=>?_))))
 ·have l:i<R a:=by omega
  have j:i<R b:=by omega
  refine ro 5 O (kV (.c (zm O) (.c (zm O) (.c (zI Vy O I O) (.c (S.Vj rT .none O (zt O) O O) (.c (zm O) (.c (zm O) (.c (zI Vy O I O) (.c (S.Vj rT .none O (zt O) O O) (.c (S.pneq (b:=decide (a[i]≠b[i])) [.i 0,.s [],.s []] [.i a[i].at_,.s a[i].OR,.s a[i].text] [.i b[i].at_,.s b[i].OR,.s b[i].text] eqp95 .none O (zt O) (zt O) O O O O fO) .nil))))))))) (Ab.D.code (kB O (fun d=>?_) (fun d=>?_))))
  ·refine ro 5 O (kR O O ?_);exact Xj (entry_at l j d)
  refine Ro 8 O I ?_;refine Ab.D.lp ⟨i+1,⟨by omega,fun m f e h=>by rcases w7 m i with q|q;exact p m f e q;obtain rfl:m=i:=I;exact Zu.1 d⟩,I,O,O,O,Zo⟩
 refine ro 7 O (kR O O ?_);exact Xj (entry_end g fun k f e=>p k f e I)
def j5{l:List Entry}(f:R l<=100000):CtO prog 77 [.sl (l.map Entry.cs)] 3 (l.map Entry.cs):=by
 refine CtO.intro func77 rfl ntmps77 results77 rfl rfl rfl fun w h=>?_
 refine kr (kc (S.assign .none O .Ya) (rr 6 O (RK.xE (t:=3) O O fun e a=>?_)));refine kc (S.mL underlying27 .none O (zt O)) (kD (OK.cond O O (fun b=>?_) (fun b=>?_)))
 ·refine kr (RK.c (S.XG (k:=2) (sz:=3) .none O) (kD ?_));refine OK.ret (rS.mk O O O N ?_);rw[bα.1 (a b)];rfl
 refine ro 4 O (RK.c (zM [] x9 O O O O) (jm O ?_));refine RK.c (S.V2 x9 .none O (zt O) O N (zt O) (by intro q d;obtain⟨x,_,rfl⟩:=rx.1 d;rfl) (Zx ..) I (by simp only[maxLen];omega)) ?_;refine rr 3 O ?_;refine OK.ret (rS.mk O O O N ?_);rfl
end Go.Proofs.Z_
namespace Go.Proofs.Z_
open Go.Ab Tryz
def refO_CopyLog{l:List Entry}(hlen:R l<=100000):CtO prog 15 [.sl (l.map Entry.cs)] 3 (l.map Entry.cs):=by
 refine CtO.intro func15 rfl ntmps15 results15 rfl rfl rfl fun w h=>?_
 refine kr (kc (S.assign .none O .Ya) (rr 4 O (RK.c (zM [] x9 O O O O) (jm O ?_))));refine RK.c (S.V2 x9 .none O (zt O) O N (zt O) (by intro q a;obtain⟨x,_,rfl⟩:=rx.1 a;rfl) (Zx ..) I (by simp only[maxLen];omega)) ?_;refine rr 3 O ?_;refine OK.ret (rS.mk O O O N ?_);rfl
end Go.Proofs.Z_
namespace Go.Proofs.Z_
open Go.Ab Tryz
def kg(P:Z6->Prop)(a:∀H x,P H->(Za H x).2=0->P (Za H x).1):∀(l:List Entry)(H:Z6)(i:Nat),(runT H i l).2.2=0->P H->P (runT H i l).1
 |[],_,_,_,h=>h
 |x::l,H,i,h0,h=>by
  rw[runT]at h0⊢;by_cases e:(Za H x).2=0
  ·rw[Zm (Zp e)]at h0⊢;exact kg P a l _ _ h0 (a H x h e)
  rw[Zn e]at h0;exact absurd h0 e
def CT{n:Net}{l:List Entry}(P:Z6->Prop)(hi:∀n p,Y_ p=0->P (Z6.init n p))(a:∀H x,P H->(Za H x).2=0->P (Za H x).1)(h:(Z2 n l).2.2=0):P (Z2 n l).1:=by
 obtain⟨b,_,e⟩:=Ur h;rw[e]at h⊢;exact kg P a l _ _ h (hi _ _ (Sx (J6 b).2))
def F5{n:Net}{l:List Entry}(h:(Z2 n l).2.2=0):HS (Z2 n l).1:=CT HS (fun _ _ h=>HS.init h) (fun _ x h _=>h.enter x) h
end Go.Proofs.Z_
namespace Go.Proofs.Z_
open Go.Ab Tryz
def PlOk(a b:Int):Prop:=b=a\/(a=0/\b=1)\/(a=1/\2<=b/\b<=4)
def xp:∀(l:List Entry)(H:Z6)(i k:Nat),(runT H i l).2.2=0->(runT H i (l.take k)).2.2=0
 |[],_,_,k,h=>by rw[List.take_nil];exact h
 |x::l,H,i,0,h=>rfl
 |x::l,H,i,k+1,h=>by
  rw[fg];rw[runT]at h⊢;by_cases e:(Za H x).2=0
  ·rw[Zm (Zp e)]at h⊢;exact xp l _ _ k h
  rw[Zn e]at h;exact absurd h e
def UP{n:Net}{l:List Entry}(h:(Z2 n l).2.2=0)(k:Nat):(Z2 n (l.take k)).2.2=0:=by
 obtain⟨a,b,e⟩:=Ur h;rw[Jn a (by rw[sc];omega)];rw[e]at h;exact xp _ _ _ k h
end Go.Proofs.Z_
namespace Go.Proofs.Z_
open Go.Ab Tryz
def xT{n:Net}{l:List Entry}(h:¬(Z2 n l).2.2≠0):Xi n l=(Z2 n l).1.st:=Zm h
end Go.Proofs.Z_
namespace Go.Proofs.Z_
open Go.Ab Tryz
def u5{xs:bi}(h:Shape (.st (.cons .str (.cons (.int .i64) .nil))) xs):∃p:Ze,xs=p.cs:=by
 obtain⟨a,b,rfl,⟨s,rfl⟩,c,d,rfl,⟨n,rfl⟩,rfl⟩:=h;exact⟨⟨s,n⟩,rfl⟩
def cW{xs:bi}(h:Shape (.cons (.sl (.st (.cons .str (.cons (.int .i64) .nil)))) (.cons .str (.cons (.int .i64) (.cons (.st (.cons (.int .i64) (.cons (.int .i64) .nil))) .nil)))) xs):∃p:Net,xs=p.cs:=by
 obtain⟨a,b,rfl,⟨rows,rfl,i⟩,c,d,rfl,⟨s,rfl⟩,e,f,rfl,⟨n,rfl⟩,g,k,rfl,⟨u,v,rfl,⟨lo,rfl⟩,y,z,rfl,⟨hi,rfl⟩,rfl⟩,rfl⟩:=h;obtain⟨l,rfl⟩:=EF (f:=Ze.cs) (fun r h=>u5 (i r h));exact⟨⟨l,s,n,lo,hi⟩,rfl⟩
end Go.Proofs.Z_
namespace Go.Proofs.Z_
open Go.Ab Tryz
def qT{xs:bi}(h:Shape (.cons (.int .i64) (.cons .str (.cons .str .nil))) xs):∃p:Entry,xs=p.cs:=by
 obtain⟨a,b,rfl,⟨n,rfl⟩,c,d,rfl,⟨s,rfl⟩,e,f,rfl,⟨t,rfl⟩,rfl⟩:=h;exact⟨⟨n,s,t⟩,rfl⟩
def AB{x:X}(h:Shape (.sl (.st (.cons (.int .i64) (.cons .str (.cons .str .nil))))) [x]):∃l:List Entry,x=.sl (l.map Entry.cs):=by
 obtain⟨rows,b,a⟩:=h;cases b;obtain⟨l,rfl⟩:=EF (f:=Entry.cs) (fun r h=>qT (a r h));grind
