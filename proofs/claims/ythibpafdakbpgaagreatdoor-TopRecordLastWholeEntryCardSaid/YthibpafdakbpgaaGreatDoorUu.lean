import Derived.Test.YthibpafdakbpgaaGreatDoorUs
set_option linter.all false
open List renaming length->R
namespace Go.Proofs.YthibpafdakbpgaaGreatDoor
open Go.Ab Tryz
set_option maxRecDepth 9999
def entT(n:Net)(l:List Entry)(x:Entry):List Entry:=if rR n l x=0 then l++[x]else l
def sh_str{x:X}(h:Shape .str [x]):∃l:ba,x=.str l:=by
 obtain⟨l,h⟩:=h;cases h;exact⟨l,rfl⟩
variable{l:List Entry}{n:Net}
def fQ(h:(Z2 n l).2.2=0):(Z2 n l).1.entries=(R l:Int):=by
 obtain⟨_,_,e⟩:=Ur h;rw[e]at h⊢;rw[sI _ _ _ h];show 0+(R l:Int)=_;omega
variable{i:Nat}
def ent_on(h:(Z2 n l).2.2=0)(hi:i<R l):rR n (l.take i) l[i]=0/\entT n (l.take i) l[i]=l.take (i+1):=by
 have e:rR n (l.take i) l[i]=0:=(appE_2<|UP h i).trans (Aq h hi).1;refine⟨e,?_⟩;unfold entT;rw[Zn e,mv hi]
variable{H:Z6}
def Al{n:Int}{f:Z6->Nat->HE}(a:∀i,(f H i).2≠0->(f H i).1=H)(h:(YJ H n f).2≠0):(YJ H n f).1=H:=by
 unfold YJ at h⊢;cases e:H.U1 n with
 |none=>rfl
 |some i=>
  rw[e]at h;dsimp only at h⊢;split
  ·rename_i h0;rw[Zn h0]at h;exact absurd rfl h
  rename_i h0;exact a i h0
def eff_err(k:Nat)(L:Sv)(h:(WQ k H L).2≠0):(WQ k H L).1=H:=by
 unfold WQ at h⊢;split
 ·rfl
 ·unfold W_ at h⊢;dsimp only at h⊢
  repeat' split
  all_goals first|rfl|(exfalso;simp_all;done)
 ·unfold Yl at h⊢;cases e:H.Tk with
  |none=>rfl
  |some i=>
   rw[e]at h;dsimp only at h⊢
   repeat' split
   all_goals first|rfl|(exfalso;simp_all;done)
 ·unfold Sz at h⊢;cases e:H.Tk with
  |none=>rfl
  |some i=>rw[e]at h;exact absurd rfl h
 ·exact Al (λi hi=>by unfold Wi at hi⊢;split<;>simp_all) h
 ·exact Al (λi hi=>by unfold Tu at hi⊢;split<;>simp_all) h
 ·unfold Tw at h⊢;dsimp only at h⊢;split<;>simp_all
 ·unfold XZ at h⊢
  repeat' split
  all_goals first|rfl|(exfalso;simp_all;done)
 ·exact Al (λi hi=>by unfold WU at hi⊢;split<;>simp_all) h
 ·refine Al (λi hi=>?_) h;unfold Xz at hi⊢;dsimp only at hi⊢
  repeat' split
  all_goals first|rfl|(exfalso;simp_all;done)
 ·unfold XX at h⊢;dsimp only at h⊢
  repeat' split
  all_goals first|rfl|(exfalso;simp_all;done)
 ·refine Al (λi hi=>?_) h;unfold Xe at hi⊢;dsimp only at hi⊢;split<;>simp_all
 unfold Wo at h⊢;split<;>simp_all
variable{x:Entry}
def gS(h:(Za H x).2≠0):(Za H x).1=H:=by
 unfold Za at h⊢;split
 ·rfl
 rename_i c;rw[Zm c]at h;split
 ·rename_i i k e d;simp only[e,d]at h;split
  ·rfl
  rename_i b;rw[Zm b]at h;dsimp only at h⊢;split
  ·rename_i a;exact eff_err _ _ a
  rename_i a;rw[Zm a]at h;exact absurd rfl h
 rfl
def DE:List Entry->List Entry->Nat
 |x::a,y::b=>if x=y then DE a b+1 else 0
 |_,_=>0
def sx:Z6->List Entry->Nat->List Entry×bd
 |_,[],_=>([],[])
 |H,x::b,i=>if(Za H x).2=0 then(x::(sx (Za H x).1 b<|i+1).1,(sx (Za H x).1 b<|i+1).2)else((sx H b<|i+1).1,(i:Int)::(sx H b<|i+1).2)
def vo(n:Net)(a b:List Entry):List Entry×bd:=(a++(sx (Z2 n a).1 (b.drop<|DE a b)<|DE a b).1,(sx (Z2 n a).1 (b.drop<|DE a b)<|DE a b).2)
def replay_on(h:(Z2 n l).2.2=0)(b:(Za (Z2 n l).1 x).2=0):(Z2 n<|l++[x]).2.2=0/\(Z2 n<|l++[x]).1=(Za (Z2 n l).1 x).1:=by
 have a:(Z2 n<|l++[x]).2.2=0:=(aL h).trans b;obtain⟨_,_,c⟩:=Ur a;obtain⟨_,_,d⟩:=Ur h;refine⟨a,?_⟩;rw[c]at a⊢;rw[d];exact(z8 _ _ _ _ a).2.2
def com_le:∀(a b:List Entry),DE a b<=R a/\DE a b<=R b
 |[],b=>by unfold DE;simp
 |x::a,[]=>by unfold DE;simp
 |x::a,y::b=>by
  have:=com_le a b;unfold DE;split<;>simp<;>omega
def cC:∀(a:List Entry)(k:Nat),k<=R a->DE (a.take k) a=k/\DE a (a.take k)=k
 |a,0,_=>by
  rw[List.take_zero];cases a<;>simp[DE]
 |[],k+1,h=>by simp at h
 |x::a,k+1,h=>by
  have:=cC a k (by simpa using h);rw[ie];unfold DE;rw[Zn rfl,Zn rfl,this.1,this.2];exact⟨rfl,rfl⟩
def mrg_all{n:Net}{a:List Entry}(h:(Z2 n a).2.2=0):∀(m k:Nat),k+m=R a->sx (Z2 n<|a.take k).1 (a.drop k) k=(a.drop k,[])
 |0,k,e=>by rw[ut I];rfl
 |m+1,k,e=>by
  have b:k<R a:=I
  obtain⟨d,c⟩:=Aq h b;rw[np b,sx,Zn d,←c,mrg_all h m (k+1) I]
variable{a:List Entry}
def merge_half(h:(Z2 n a).2.2=0){k:Nat}(b:k<=R a):vo n (a.take k) a=(a,[])/\vo n a (a.take k)=(a,[]):=by
 obtain⟨d,c⟩:=cC a k b;unfold vo;rw[d,c,mrg_all h (R a - k) k I];refine⟨by rw[a7],?_⟩;rw[ut<|by rw[sc];omega];show(a++[],[])=_;rw[i8]
def sH(h:(Z2 n l).2.2=0):(Z2 n l).1.XR=n/\(Z2 n l).1.plan=(ZO n.plan).1:=by
 have vy:∀(l:List Entry)(H:Z6)(i:Nat),(runT H i l).1.XR=H.XR/\(runT H i l).1.plan=H.plan:=by
  intro l
  induction l with
  |nil=>intro H i;exact⟨rfl,rfl⟩
  |cons x l a=>
   intro H i;have e:=UY H x;rw[runT];split
   ·exact⟨e.2,e.1⟩
   exact⟨(a _ _).1.trans e.2,(a _ _).2.trans e.1⟩
 obtain⟨_,_,e⟩:=Ur h;rw[e];exact vy _ _ _
def dA(n:Net)(a b:List Entry):Int:=ZW [(Z2 n a).2.2,(Z2 n b).2.2]
def mgdT(n:Net)(a b:List Entry):List Entry×bd:=if dA n a b≠0 then([],[])else vo n a b
variable{b:List Entry}
def mgdE_0(h:dA n a b=0):(Z2 n a).2.2=0/\(Z2 n b).2.2=0:=by
 unfold dA at h;by_cases c:(Z2 n a).2.2=0
 ·rw[c,N8]at h;by_cases d:(Z2 n b).2.2=0
  ·exact⟨c,d⟩
  rw[OD d]at h;exact absurd h d
 rw[OD c]at h;exact absurd h c
def mgdE_2(h:(Z2 n a).2.2=0):dA n a b=(Z2 n b).2.2:=by
 unfold dA;rw[h,N8];by_cases c:(Z2 n b).2.2=0
 ·rw[c];rfl
 exact OD c
def entry_peql{y:Entry}:Nq [.i x.at_,.s x.OR,.s x.text] [.i y.at_,.s y.OR,.s y.text]=decide (x=y):=by
 have h:=@kF x y;rw[cδ]at h⊢;simp only[zd,de]at h⊢;cases e:Nq [.i x.at_,.s x.OR,.s x.text] [.i y.at_,.s y.OR,.s y.text]<;>simp_all
def com_on:∀{a b:List Entry}{i:Nat}(d:i<R a)(c:i<R b),a[i]=b[i]->DE (a.drop i) (b.drop i)=DE (a.drop<|i+1) (b.drop<|i+1)+1:=by
 intro a b i d c e;rw[np d,np c,DE,Zn e]
def com_ne:∀{a b:List Entry}{i:Nat}(d:i<R a)(c:i<R b),¬a[i]=b[i]->DE (a.drop i) (b.drop i)=0:=by
 intro a b i d c e;rw[np d,np c,DE,Zm e]
def com_end(h:¬(i<R a/\i<R b)):DE (a.drop i) (b.drop i)=0:=by
 rcases w7 i (R a) with q|q
 ·have e:b.drop i=[]:=gk I;rw[e];cases a.drop i<;>rfl
 have e:a.drop i=[]:=gk q;rw[e];rfl
def xT(H:Z6)(b:List Entry)(i:Nat)(o:List Entry)(r:bd):List Entry×bd:=(o++(sx H (b.drop i) i).1,r++(sx H (b.drop i) i).2)
variable{o:List Entry}{r:bd}
def rest_T(hi:i<R b)(h:(Za H b[i]).2=0):xT H b i o r=xT (Za H b[i]).1 b (i+1) (o++[b[i]]) r:=by
 unfold xT;rw[np hi,sx,Zn h];simp
def rest_F(hi:i<R b)(h:(Za H b[i]).2≠0):xT H b i o r=xT H b (i+1) o (r++[(i:Int)]):=by
 unfold xT;rw[np hi,sx,Zm h];simp
def rest_end(hi:R b<=i):xT H b i o r=(o,r):=by
 unfold xT;rw[gk hi,sx];simp
set_option maxHeartbeats 4000000 in
def aa(hp:R n.plan<=1000)(ha:∀x∈a,R x.text<=100000)(hb:∀x∈b,R x.text<=100000):Q7 prog 30 [.agg n.cs,.sl<|a.map Entry.cs,.sl<|b.map Entry.cs]<|.Yy [.sl<|(mgdT n a b).1.map Entry.cs,.sl<|(mgdT n a b).2.map λk=>[bv k],bv<|dA n a b]:=by
 refine cT func30 O λhT=>?_
 refine OK.XF (vj:=a.map Entry.cs) (t:=1) O O λP=>?_
 rw[Zx]at P;unfold maxLen at P;refine OK.XF (vj:=b.map Entry.cs) (t:=2) O O λM=>?_
 rw[Zx]at M;unfold maxLen at M;refine ro 3 O<|kc (S.assign .none O .Ya)<|kc (S.assign .none O .Ya)<|rr 7 O ?_;refine RK.Ng (((R2 hp<|An ha).at hT)) (λ_=>Mf.ZV _ _ _) (λ_=>Mf.mono) call43 O (zc O<|zc O .nil) O λA=>?_
 refine rr 13 O<|kc (S.Xo (sM (n:=n) (l:=b) I<|An hb) hT call70 .none O (zc O<|zc O .nil) O) ?_;refine rr 12 O ?_;refine RK.c (zM [[_],[_]] XQ O O O O)<|kc (S.XY (YI (l:=[_,_])) call59 .none O (zc O .nil) (.cons (.p (.own O O) O) .nil) O) ?_;refine rr 9 O<|kB O (λE=>?_) λE=>?_
 ·have hD:mgdT n a b=([],[]):=Zn E;refine ro 3 O<|kc (S.assign .none O .Ya)<|kc (S.assign .none O .Ya)<|rr 3 O<|OK.ret<|Y3.r3 (zo O O) (zo O O) (zo O O) ?_;rw[hD];try rfl
 have B:dA n a b=0:=Zu.1 E;obtain⟨f,Z⟩:=mgdE_0 B;have hD:mgdT n a b=vo n a b:=Zm<|Zp B;have hb60:=(Ur Z).2.1;have ha60:=(Ur f).2.1;refine OK.Ld f O λV U=>?_
 rw[Jm f];obtain⟨J,Q⟩:∃J:Nat,A.b=J:=⟨_,rfl⟩;rw[Q];refine ro 7 O ?_;refine OK.join (G:=Nat) [] (λc=>[(1,.sl<|a.map Entry.cs),(2,.sl<|b.map Entry.cs),(9,.raw<|pV J),(14,bv c),(3000,.res<|Z9 A.mem)]) (λc=>c=DE a b) (λ_=>O) ?_ ?_
 ·refine OK.block<|OK.loop (G:=Nat) [] (λi=>[(1,.sl<|a.map Entry.cs),(2,.sl<|b.map Entry.cs),(9,.raw<|pV J),(3000,.res<|Z9 A.mem),(14,bv i)]) (λi=>i<=R a/\i<=R b/\DE a b=DE (a.drop i) (b.drop i)+i) (λi=>R a - i) 0 ⟨Zr _,Zr _,O⟩ ⟨O,O,O,O,O,Zo⟩ (λ_=>O) ?_;rintro i ⟨hi1,hi2,u⟩;refine kO<|kO ?_;by_cases d:((i:Int)<if(R b:Int)<(R a:Int)then(R b:Int)else(R a:Int))
  ·have q:i<R a:=by split at d<;>omega
   have e:i<R b:=by split at d<;>omega
   refine kV (.c (zm O)<|.c (zm O)<|.c (zk Vy O)<|.c (zm O)<|.c (zk Vy O)<|.c (S.min2 .none O (zt O)<|zt O)<|.c (S.lss .none O (zt O)<|zt O)<|.c (zm O)<|.c (S.move (.yes O O O<|by first|rfl|exact Zz d|exact Zy d|(rw[Zz d];rfl)|(rw[Zy d];rfl)|simp[*]) O<|zt O)<|.c (S.move (.yes O O O<|by first|rfl|exact Zz d|exact Zy d|(rw[Zz d];rfl)|(rw[Zy d];rfl)|simp[*]) O<|zt O)<|.c (S.Zi (n:=i) Vy (.yes O O O<|by first|rfl|exact Zz d|exact Zy d|(rw[Zz d];rfl)|(rw[Zy d];rfl)|simp[*]) O (zt O) (zt O) O q O)<|.c (S.Vj CK (.yes O O O<|by first|rfl|exact Zz d|exact Zy d|(rw[Zz d];rfl)|(rw[Zy d];rfl)|simp[*]) O (zt O) O O)<|.c (S.move (.yes O O O<|by first|rfl|exact Zz d|exact Zy d|(rw[Zz d];rfl)|(rw[Zy d];rfl)|simp[*]) O<|zt O)<|.c (S.move (.yes O O O<|by first|rfl|exact Zz d|exact Zy d|(rw[Zz d];rfl)|(rw[Zy d];rfl)|simp[*]) O<|zt O)<|.c (S.Zi (n:=i) Vy (.yes O O O<|by first|rfl|exact Zz d|exact Zy d|(rw[Zz d];rfl)|(rw[Zy d];rfl)|simp[*]) O (zt O) (zt O) O e O)<|.c (S.Vj CK (.yes O O O<|by first|rfl|exact Zz d|exact Zy d|(rw[Zz d];rfl)|(rw[Zy d];rfl)|simp[*]) O (zt O) O O)<|.c (S.rY (b:=decide<|a[i]=b[i]) [.i 0,.s [],.s []] [.i (a[i]).at_,.s (a[i]).OR,.s (a[i]).text] [.i (b[i]).at_,.s (b[i]).OR,.s (b[i]).text] eqp79 (.yes O O O<|by first|rfl|exact Zz d|exact Zy d|(rw[Zz d];rfl)|(rw[Zy d];rfl)|simp[*]) O (zt O) (zt O) O O O O entry_peql)<|.c (S.Tc .none O (zt O) (zt O)<|by first|rfl|exact Zz d|exact Zy d|(rw[Zz d];rfl)|(rw[Zy d];rfl)|simp[*]) .nil) ?_;refine Ab.D.code<|kB O (λC=>?_) λC=>?_
   ·have W:a[i]=b[i]:=C;refine Ro 9 O I ?_;refine Ab.D.lp ⟨i+1,⟨I,I,by rw[u,com_on q e W];omega⟩,I,O,O,O,O,O,Zo⟩
   have y:=u.trans (by rw[com_ne q e C,wc]);refine OK.exit O<|Ab.D.lp ⟨i,y.symm,O,O,O,O,O,Zo⟩
  have y:=u.trans (by rw[com_end λh=>d<|by split<;>omega,wc]);refine kV (.c (zm O)<|.c (zm O)<|.c (zk Vy O)<|.c (zm O)<|.c (zk Vy O)<|.c (S.min2 .none O (zt O)<|zt O)<|.c (S.lss .none O (zt O)<|zt O)<|.c (zm O)<|.c (zG O<|by first|rfl|exact Zz d|exact Zy d|(rw[Zz d];rfl)|(rw[Zy d];rfl)|simp[*])<|.c (zG O<|by first|rfl|exact Zz d|exact Zy d|(rw[Zz d];rfl)|(rw[Zy d];rfl)|simp[*])<|.c (zG O<|by first|rfl|exact Zz d|exact Zy d|(rw[Zz d];rfl)|(rw[Zy d];rfl)|simp[*])<|.c (zG O<|by first|rfl|exact Zz d|exact Zy d|(rw[Zz d];rfl)|(rw[Zy d];rfl)|simp[*])<|.c (zG O<|by first|rfl|exact Zz d|exact Zy d|(rw[Zz d];rfl)|(rw[Zy d];rfl)|simp[*])<|.c (zG O<|by first|rfl|exact Zz d|exact Zy d|(rw[Zz d];rfl)|(rw[Zy d];rfl)|simp[*])<|.c (zG O<|by first|rfl|exact Zz d|exact Zy d|(rw[Zz d];rfl)|(rw[Zy d];rfl)|simp[*])<|.c (zG O<|by first|rfl|exact Zz d|exact Zy d|(rw[Zz d];rfl)|(rw[Zy d];rfl)|simp[*])<|.c (zG O<|by first|rfl|exact Zz d|exact Zy d|(rw[Zz d];rfl)|(rw[Zy d];rfl)|simp[*])<|.c (S.Ug .none O (zt O) .Wx<|by first|rfl|exact Zz d|exact Zy d|(rw[Zz d];rfl)|(rw[Zy d];rfl)|simp[*]) .nil) ?_;refine rd 3 O (Ab.D.lp ⟨i,y.symm,O,O,O,O,O,Zo⟩)
 rintro c rfl;refine ro 3 O<|RK.c (S.dQ (k:=59) (wu (l:=a) I) call73 .none O (zc O .nil) O<|Zx ..) ?_;refine rr 5 O<|RK.c (S.XG (k:=16) (sz:=1) .none O)<|rr 10 O ?_;have hcl:=(com_le a b).2;refine OK.YS (J':=JX J (Z2 n a).1<|400+2 * ((DE a b:Nat):Int)) O (JX.ZV _ _ _) (λh Y w hj=>⟨A,⟨Q,U,V.more I I⟩,hj⟩) ?_;refine OK.rU [59,16] (λ(i:Nat)(H:Z6)(o:List Entry)(r:bd)=>[(2,.sl<|b.map Entry.cs),(9,.raw<|pV J),(15,.own 59<|R o),(2059,.arr 3<|o.map Entry.cs),(16,.own 16<|R r),(2016,.arr 1<|r.map λk=>[bv k]),(17,bv i),(3000,.res<|JX J H<|400+2 * (i:Int))]) (λi H o r=>i<=R b/\vo n a b=xT H b i o r/\Y_ H.plan=0/\Ka H.XR/\R o<=R a+i/\R r<=i) (λi H o r=>R b - i) (DE a b) ((Z2 n a).1) a ([]) ⟨(com_le a b).2,O,(vT f).1,(vT f).2,Nat.le_add_right _ _,Zr _⟩ ⟨O,O,O,O,O,O,O,O,Zo⟩ (λ_ _ _ _=>O) ?_;rintro i H o r ⟨hi,u,j,v,hol,hrl⟩;refine ro 5 O<|kc (zk Vy O)<|rr 3 O<|kB O (λc64=>?_) λc64=>?_
 ·have e:i<R b:=I
  refine OK.rV O λT X K L=>?_
  subst X;subst K;refine ro 9 O<|kc (zI Vy O e O)<|kc (S.Vj CK .none O (zt O) O O) ?_;refine RK.c (S.VO (((Au (m:=400+2 * (i:Int)) L I j v (hb _<|Zt e) λ_ hk=>rQ (Y8 hk).1).Tq hT<|Z9.ZV _)) (JX.ZV _ _ _) call65 .none O (zc O<|zc O .nil) O O) ?_;refine rr 3 O<|kB O (λg=>?_) λg=>?_
  ·have z:=rest_T (o:=o) (r:=r) e g;refine ro 4 O<|kc (zI Vy O e O)<|kc (S.Vj CK .none O (zt O) O O) ?_;refine RK.c (zM [[_,_,_]] x9 O O O O) ?_;refine kc (zP x9 O O (Zx ..) N I<|by simp only[maxLen];omega) ?_;refine Rr 9 O I ?_;refine Ab.D.lp ⟨i+1,(Za T.plain b[i]).1,o++[b[i]],r,⟨I,u.trans z,by rw[(UY _ _).1];exact j,by rw[(UY _ _).2];exact v,by first|omega|(simp;omega),by first|omega|(simp;omega)⟩,I,O,O,(ZH F),(ZX<|by first|rfl|(rw[ne];rfl)),(ZH F),(ZX<|by first|rfl|(rw[ne];rfl)),O,(OB<|by rw[show 400+2 * ((i+1:Nat):Int)=400+2 * (i:Int)+2 by omega]),Zo⟩
  have z:xT T.plain b i o r=xT (Za T.plain b[i]).1 b (i+1) o (r++[(i:Int)]):=by rw[gS g];exact rest_F (o:=o) (r:=r) e g
  refine ro 3 O ?_;refine RK.c (zM [[_]] sL O O O O) ?_;refine kc (zP sL O O (Zx ..) N I<|by simp only[maxLen];omega) ?_;refine Rr 9 O I ?_;refine Ab.D.lp ⟨i+1,(Za T.plain b[i]).1,o,r++[(i:Int)],⟨I,u.trans z,by rw[(UY _ _).1];exact j,by rw[(UY _ _).2];exact v,by first|omega|(simp;omega),by first|omega|(simp;omega)⟩,I,O,O,(ZH F),(ZX<|by first|rfl|(rw[ne];rfl)),(ZH F),(ZX<|by first|rfl|(rw[ne];rfl)),O,(OB<|by rw[show 400+2 * ((i+1:Nat):Int)=400+2 * (i:Int)+2 by omega]),Zo⟩
 have hM:vo n a b=(o,r):=u.trans<|rest_end I;refine ro 11 O ?_;refine OK.ret<|Y3.r3 (.tmp O O (.c (.own O O N) O) O) (.tmp O O (.c (.own O O N) O) O) (zo O O) ?_;rw[hD,hM,B]
 try rfl
