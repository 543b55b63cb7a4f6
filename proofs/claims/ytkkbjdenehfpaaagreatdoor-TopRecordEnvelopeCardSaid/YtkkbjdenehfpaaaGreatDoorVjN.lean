import Derived.Test.YtkkbjdenehfpaaaGreatDoorVdN
set_option linter.all false
open List renaming length->R
namespace Go.Proofs.Z_
open Go.Ab
variable{n:Net}{l:List Entry}{i:Nat}
section
variable{j:Nat}
def gN(h:(Z2 n l).2.2=0)(hi:i<R l):R (Zj n l i).parts<=R (Zj n l<|i+1).parts/\∀j,j<R (Zj n l i).parts->E5 ((Zj n l i).p j) ((Zj n l<|i+1).p j):=by
 have S:=Sq h hi;obtain⟨d,c⟩:=S.next;have a:=Tv.rP _ _ S.ok;rw[c];exact⟨a.le,λj b=>a.keep j b⟩
def lM(h:(Z2 n l).2.2=0){t:Nat}(f:j<R (Zj n l t).parts):∀d,t+d<=R l->j<R (Zj n l<|t+d).parts/\E5 ((Zj n l t).p j) ((Zj n l<|t+d).p j)
 |0,_=>⟨f,.refl _⟩
 |d+1,hd=>by
  obtain⟨a,b⟩:=lM h f d I;obtain⟨c,e⟩:=gN h (i:=t+d) I;exact⟨rp a c,b.trans<|e j a⟩
def CK(h:(Z2 n l).2.2=0){t:Nat}(b:t<=R l)(a:j<R (Zj n l t).parts):j<R (Z2 n l).1.parts/\E5 ((Zj n l t).p j) ((Z2 n l).1.p j):=by
 have:=lM h a (R l - t) I;rw[show t+(R l - t)=R l by omega,wv]at this;exact this
structure StartAt(n:Net)(l:List Entry)(i:Nat):Prop where
 len:(Zj n l<|i+1).parts.length=(Zj n l i).parts.length+1
 text:∀hi:i<l.length,l[i].text=fF ((Zj n l<|i+1).p (Zj n l i).parts.length)
 num:((Zj n l<|i+1).p (Zj n l i).parts.length).num=(Ss l i).num
 pl:((Zj n l<|i+1).p (Zj n l i).parts.length).place=0
 no:(Zj n l i).U1 (Ss l i).num=none
 es:((Zj n l<|i+1).es (Zj n l i).parts.length).length=3
def Dq(h:(Z2 n l).2.2=0)(hi:i<R l)(d:Vq l i=1):StartAt n l i:=by
 have S:=Sq h hi;have T:=fE h hi;obtain⟨t,a⟩:=S.next;obtain⟨v,_,q,_,k,g,f,e⟩:=Aj d S.ok;obtain⟨s,r,o⟩:=CU e;have b:(Zj n l<|i+1).p (R (Zj n l i).parts)=_:=(by rw[a];rfl:(Zj n l<|i+1).p (R (Zj n l i).parts)=(WQ (Vq l i) (Zj n l i)<|Ss l i).1.p (R (Zj n l i).parts)).trans s;have m:(Zj n l<|i+1).es (R (Zj n l i).parts)=_:=(by rw[a];rfl:(Zj n l<|i+1).es (R (Zj n l i).parts)=(WQ (Vq l i) (Zj n l i)<|Ss l i).1.es (R (Zj n l i).parts)).trans r;refine⟨by rw[a];exact o,λ_=>?_,by rw[b],by rw[b],k,by rw[m];rfl⟩;have c:=T.vx;rw[d]at c;rw[sx c T.ok,←T.ln,b];unfold fF;dsimp only;rw[g,f]
end
variable{H:Z6}
def xW{x:Entry}(h:(Za H x).2=0):H.head x=0:=by
 unfold Za at h;by_cases a:H.head x=0
 ·exact a
 rw[Zn a]at h;exact h
section
variable{J:Nat}
def DK(a:J<R H.parts):H.st.parts[J]?=some (H.p J):=by
 show(H.parts.map (·.1))[J]?=_;rw[dp,Zv a,Qp<|Zv a];rfl
def Mc(H:Z6):R H.st.parts=R H.parts:=Zx ..
end
variable{l:List Frame}{p:Zf}
def Uh:VC p l=0↔(R l)<=40/\(∀f∈l,Yp p f=0)/\∀f∈l,∀g∈l,f.tick=g.tick->f.values=g.values:=by
 unfold VC;constructor
 ·intro h;split at h
  ·cases h
  have o:=U5 _ l 0 h;simp only[wc]at o;have b:∀(i:Nat)(hi:i<R l),Yp p l[i]=0/\∀(k:Nat)(d:k<i),l[k].tick=l[i].tick->l[k].values=l[i].values:=by
   intro i hi;have a:=o i hi;unfold vg at a;split at a
   ·exact absurd a ‹_›
   rename_i v;split at a
   ·cases a
   rename_i u;refine⟨Zu.1 v,λk d c=>?_⟩;refine dπ λr=>u<|af hi d c r
  refine⟨I,λf m=>?_,λf m g t c=>?_⟩
  ·obtain⟨i,hi,rfl⟩:=dl m;exact(b i hi).1
  obtain⟨i,hi,rfl⟩:=dl m;obtain⟨j,s,rfl⟩:=dl t;rcases dT i j with h|h|h
  ·exact(b j s).2 i h c
  ·subst h;rfl
  exact((b i hi).2 j h c.symm).symm
 rintro⟨o,b,a⟩;rw[Zm I];have:ZP (vg p l) 0 l=(0,0):=by
  refine Se _ _ 0 λi hi=>?_
  rw[wc];unfold vg;rw[Zm (by rw[b _<|Zt hi];simp),Zm<|clash_F hi λk d q=>q.2<|a _ (Zt _) _ (Zt _) q.1]
 rw[this]
def Et(h:∀f∈l,∀g∈l,f.tick=g.tick->f.values=g.values){f:Frame}(c:f∈l){t:Nat}(b:f.tick=(t:Int)):V4 l t=⟨true,f.values⟩:=
 Qa l _ (λx d a=>h x d f c<|by rw[a,b]) (.inr ⟨f,c,b⟩)
def sM{m:List Frame}(s:Y_ p=0)(c:∀f,f∈m↔f∈l)(w:R m<=40)(h:VC p l=0):Um p m=0/\Um p l=0/\WG p m=WG p l:=by
 obtain⟨z,y,r⟩:=Uh.1 h;have o:VC p m=0:=Uh.2 ⟨w,λf a=>y f<|(c f).1 a,λf a g q=>r f ((c f).1 a) g<|(c g).1 q⟩;have v:Um p m=0:=by rw[AT s,o]
 have u:Um p l=0:=by rw[AT s,h]
 refine⟨v,u,?_⟩;rw[NB v,NB u];unfold V1;congr 1;refine aβ λt _=>?_
 by_cases k:∃f∈l,f.tick=(t:Int)
 ·obtain⟨f,a,d⟩:=k;rw[Et r a d,Et (λf a g q=>r f ((c f).1 a) g<|(c g).1 q) ((c f).2 a) d]
 rw[V4,V4,Nv l _ λx b d=>k ⟨x,b,d⟩,Nv m _ λx b d=>k ⟨x,(c x).1 b,d⟩]
def Mz{l:List ZG}:Wu p l=0↔(1<=R l/\R l<=20)/\∀r∈l,TT p r=0:=by
 unfold Wu;constructor
 ·intro h;split at h
  ·cases h
  split at h
  ·cases h
  have a:=U5 _ l 0 h;refine⟨I,λr b=>?_⟩;obtain⟨i,hi,rfl⟩:=dl b;exact a i hi
 rintro⟨a,h2⟩;rw[Zm I,Zm I,Se _ _ 0 λi hi=>h2 _<|Zt hi]
def yB(p:Zf)(l:List ZG):Vo p l.reverse=0↔Vo p l=0:=by
 unfold Vo;by_cases a:Y_ p≠0
 ·rw[Zn a,Zn a]
 rw[Zm a,Zm a,Mz,Mz,eτ];simp only[cf]
def C5(p:Zf)(l:List ZG)(x3:Int):Wr p l.reverse x3=0↔Wr p l x3=0:=by
 have h:=yB p l;unfold Wr;rw[eτ];by_cases a:Vo p l=0
 ·have b:=h.2 a;rw[Zm I,Zm I]
 have b:¬Vo p l.reverse=0:=λe=>a<|h.1 e
 rw[Zn a,Zn b];exact⟨λe=>absurd e b,λe=>absurd e a⟩
def sorted_perm{l m:bd}(h:l.Perm m):sorted l=sorted m:=r_ ((bμ m _).trans h.symm)<|N1 m
def gI{l m:List ZG}(h:l.Perm m)(t c:Nat):(col l t c).Perm<|col m t c:=h.map _
def qi{l m:List ZG}(h:l.Perm m)(x3:Int):OM p l x3=OM p m x3:=by
 have a:=h.length_eq;unfold OM;congr 1
 ·rw[a]
 refine aβ λt _=>?_
 unfold OP;refine aβ λc _=>?_
 unfold S0;rw[sorted_perm<|gI h t c,a]
def nT(p:Zf)(l:List ZG)(x3:Int):PC p l.reverse x3=PC p l x3:=by
 have h:=C5 p l x3;unfold PC;by_cases a:Wr p l x3=0
 ·rw[Zn a,Zn<|h.2 a];exact qi (List.reverse_perm l) x3
 rw[Zm a,Zm λe=>a<|h.1 e]
def sF(k:Nat)(L:Sv)(d:k≠12)(b:k<13):(WQ k H L).1.env=H.env/\(WQ k H L).1.YX=H.YX:=by
 have a:∀(n:Int)(f:Z6->Nat->HE),(∀i,(f H i).1.env=H.env/\(f H i).1.YX=H.YX)->(YJ H n f).1.env=H.env/\(YJ H n f).1.YX=H.YX:=λn f c=>by
  unfold YJ;split
  ·exact⟨rfl,rfl⟩
  rename_i i _;split
  ·exact c i
  exact c i
 unfold WQ;split
 ·exact⟨rfl,rfl⟩
 ·unfold W_;dsimp only;repeat' split
  all_goals exact⟨rfl,rfl⟩
 ·unfold Yl;repeat' split
  all_goals exact⟨rfl,rfl⟩
 ·unfold Sz;split<;>exact⟨rfl,rfl⟩
 ·exact a _ _ λi=>by unfold Wi;split<;>exact⟨rfl,rfl⟩
 ·exact a _ _ λi=>by unfold Tu;split<;>exact⟨rfl,rfl⟩
 ·unfold Tw;dsimp only;split<;>exact⟨rfl,rfl⟩
 ·unfold XZ;repeat' split
  all_goals exact⟨rfl,rfl⟩
 ·exact a _ _ λi=>by unfold WU;split<;>exact⟨rfl,rfl⟩
 ·refine a _ _ λi=>?_
  unfold Xz;dsimp only
  repeat' split
  all_goals exact⟨rfl,rfl⟩
 ·unfold XX;dsimp only;repeat' split
  all_goals exact⟨rfl,rfl⟩
 ·exact a _ _ λi=>by unfold Xe;dsimp only;split<;>exact⟨rfl,rfl⟩
 exfalso;rcases(show k=0\/k=1\/k=2\/k=3\/k=4\/k=5\/k=6\/k=7\/k=8\/k=9\/k=10\/k=11 by omega)with rfl|rfl|rfl|rfl|rfl|rfl|rfl|rfl|rfl|rfl|rfl|rfl<;>simp_all
variable{t:Int}{E:Z6}
section
variable{n:Net}{l:List Entry}{i j e:Nat}
def yz(h:(Z2 n l).2.2=0)(hi:i<R l):(Zj n l<|i+1).env=(WQ (Vq l i) (Zj n l i)<|Ss l i).1.env/\(Zj n l<|i+1).YX=(WQ (Vq l i) (Zj n l i)<|Ss l i).1.YX/\(Zj n l<|i+1).parts=(WQ (Vq l i) (Zj n l i)<|Ss l i).1.parts/\(Zj n l<|i+1).Z3=(WQ (Vq l i) (Zj n l i)<|Ss l i).1.Z3/\(Zj n l<|i+1).plan=(WQ (Vq l i) (Zj n l i)<|Ss l i).1.plan:=by
 obtain⟨b,a⟩:=(Sq h hi).next;rw[a];exact⟨rfl,rfl,rfl,rfl,rfl⟩
def hs_HS(h:(Z2 n l).2.2=0)(i:Nat):HS<|Zj n l i:=F5<|UP h i
def yA(h:(Z2 n l).2.2=0)(i:Nat):(Zj n l i).plan=(ZO n.plan).1:=(sH<|UP h i).2
def hs_st(h:(Z2 n l).2.2=0)(i:Nat):Xi n (l.take i)=(Zj n l i).st:=vJ<|Zp<|UP h i
def lP(h:(Z2 n l).2.2=0)(a:∀i,i<R l->Vq l i≠12):∀i,i<=R l->(Zj n l i).env.rows=[]
 |0,_=>by
  unfold Zj;rw[List.take_zero];have:=Ur<|UP h 0;rw[List.take_zero]at this;rw[this.2.2];rfl
 |i+1,hi=>by
  rw[(yz h (i:=i) I).1,(sF _ _ (a i I) (Sq h (i:=i) I).lt).1];exact lP h a i I
structure fO(E:Z6)(t:Int):Prop where
 err:Wr E.plan E.XE t=0
 env:E.env=OM E.plan E.XE t
 nB:E.YX=true
def wB(h:(Z2 n l).2.2=0)(hi:i<R l)(o:Vq l i=12):fO (Zj n l<|i+1) (Ss l i).num:=by
 obtain⟨g,f,d,c,b⟩:=yz h hi;have a:=(Sq h hi).ok;rw[o]at g f d c b a;have a:(Wo (Zj n l i) (Ss l i).num).2=0:=a;have g:(Zj n l<|i+1).env=(Wo (Zj n l i) (Ss l i).num).1.env:=g;have f:(Zj n l<|i+1).YX=(Wo (Zj n l i) (Ss l i).num).1.YX:=f;have d:(Zj n l<|i+1).parts=(Wo (Zj n l i) (Ss l i).num).1.parts:=d;have c:(Zj n l<|i+1).Z3=(Wo (Zj n l i) (Ss l i).num).1.Z3:=c;have b:(Zj n l<|i+1).plan=(Wo (Zj n l i) (Ss l i).num).1.plan:=b;unfold Wo at a g f d c b;by_cases k:Wr (Zj n l i).plan (Zj n l i).XE (Ss l i).num=0
 ·rw[Zn k]at g f d c b;have m:(Zj n l<|i+1).XE=(Zj n l i).XE:=by
   unfold Z6.XE Z6.p;rw[d,c,b]
  refine⟨by rw[m,b];exact k,?_,f⟩;rw[g,m,b];exact Zn k
 rw[Zm k]at a;exact absurd a k
def fO.open(h:fO E t):Vo E.plan E.XE=0:=by
 have:=h.err;unfold Wr at this;by_cases a:Vo E.plan E.XE≠0
 ·rw[Zn a]at this;exact absurd this a
 exact Zu.1 a
def fO.XE{E:Z6}{t:Int}(h:fO E t)(hs:HS E):Wu E.plan E.XE=0:=by
 have:=h.open;unfold Vo at this;rw[Zm<|Zp hs.pl]at this;exact this
def yy(E:Z6):R E.XE=R E.Z3:=Zx ..
def fO.len(h:fO E t)(hs:HS E):1<=R E.Z3/\R E.Z3<=R E.parts/\R E.Z3<=12:=by
 have a:=(Mz.1<|h.XE hs).1;rw[yy]at a;have:=NA _ _ hs.nd hs.inv.Z3;have:=hs.inv.lp;omega
def fO.rev(h:fO E t):Wr E.plan E.XE.reverse t=0/\PC E.plan E.XE.reverse t=E.env:=by
 refine⟨(C5 _ _ _).2 h.err,?_⟩;rw[nT,h.env];exact Zn h.err
def DJ(hs:HS H)(o:j<R H.parts):Um H.plan (H.p j).frames.reverse=0/\WG H.plan (H.p j).frames.reverse=WG H.plan (H.p j).frames/\Um H.plan (H.p j).frames=0/\R (H.p j).frames<=40/\∀f∈(H.p j).frames,R f.values<=100000:=by
 have r:=Qp<|Zv o;have d:=hs.fr _<|Zt o;rw[←r]at d;have h:R (H.p j).frames<=40:=by have:=EY hs.pl d;omega
 have k:VC H.plan (H.p j).frames=0:=Uh.2 ⟨h,d.1,λf c g s q=>by
  obtain⟨a,u,rfl⟩:=dγ.1 c;obtain⟨b,t,rfl⟩:=dγ.1 s;have:=d.2 a b _ _ (Zv u) (Zv t) q;subst this;rfl⟩
 obtain⟨x,w,v⟩:=sM hs.pl (m:=(H.p j).frames.reverse) (λf=>cf) (by rw[eτ];exact h) k;refine⟨x,v,w,h,λf c=>?_⟩;have:=(VM<|d.1 f c).2;have:=X_ hs.pl;omega
def JB(E:Z6)(k:Nat):List ZG:=(E.XE.drop k).reverse
def fy{k:Nat}(a:k<R E.XE):JB E k=JB E (k+1)++[E.XE[k]]:=by
 unfold JB;rw[np a,List.reverse_cons]
def lN(hs:HS E){k:Nat}(b:k<R E.Z3)(c:k<R E.st.Z3):E.Z3[k]<R E.parts/\E.st.U1 E.st.Z3[k]=some E.Z3[k]/\∀a:k<R E.XE,E.XE[k]=WG E.plan (E.p E.Z3[k]).frames:=by
 have hi:=hs.inv.Z3 _<|Zt b;refine⟨hi,?_,λa=>bκ ..⟩;have e:E.st.Z3[k]=(E.p E.Z3[k]).num:=bκ ..;rw[e];exact hs.U1 hi
structure JdI(E:Z6)(H:Z6):Prop where
 env:H.env=E.env
 nB:H.YX=true
 js:∀j,j<H.parts.length->(H.p j).place≠0->(j<E.parts.length/\(E.p j).place≠0)\/((H.p j).WD=true/\(H.p j).verdict=if Xa E.plan E.env (WG E.plan (H.p j).frames)=0 then Us E.env (WG E.plan (H.p j).frames)else 0)
def gL(h:(Z2 n l).2.2=0)(y:e<R l)(x:Vq l e=12)(v:∀i,e<i->i<R l->Vq l i≠12):∀d,e+1+d<=R l->JdI (Zj n l<|e+1) (Zj n l<|e+1+d)
 |0,_=>⟨rfl,(wB h y x).nB,λj f o=>.inl ⟨f,o⟩⟩
 |d+1,hd=>by
  obtain⟨t,s,D⟩:=gL h y x v d I;have hi:e+1+d<R l:=I
  have S:=Sq h hi;obtain⟨N,M,z,P,O⟩:=yz h hi;have q:=v (e+1+d) I hi;obtain⟨C,B⟩:=sF (H:=Zj n l<|e+1+d) (Vq l<|e+1+d) (Ss l<|e+1+d) q S.lt;have o:∀j,(Zj n l<|e+1+(d+1)).p j=(WQ (Vq l<|e+1+d) (Zj n l<|e+1+d)<|Ss l<|e+1+d).1.p j:=λj=>by
   show Z6.p (Zj n l<|e+1+d+1) j=_;unfold Z6.p;rw[z]
  refine⟨N.trans<|C.trans t,M.trans<|B.trans s,λj f b=>?_⟩;rcases w7 j (R (Zj n l<|e+1+d).parts) with w|w
  ·have r:=vr.rP (H:=Zj n l<|e+1+d) (Vq l<|e+1+d) (Ss l<|e+1+d) j w;rw[←o]at r;by_cases h0:((Zj n l<|e+1+d).p j).place=0
   ·by_cases c:Vq l (e+1+d)=3
    ·have k:=S.ok;rw[c]at k;obtain⟨u,K⟩:=DI (.inr rfl) k;have L:(WQ 3 (Zj n l<|e+1+d)<|Ss l<|e+1+d).1=((Zj n l<|e+1+d).Zh u<|Sy (Zj n l<|e+1+d).plan (Zj n l<|e+1+d).env (Zj n l<|e+1+d).YX).WT u:=by
      show(Sz _).1=_;unfold Sz;rw[K]
     have a:=o j;rw[c,L,Jl,xR _ _ _ w]at a;by_cases g:u=j
     ·rw[Zn g]at a;right;rw[a];unfold Sy;dsimp only;rw[s,t,yA h,yA h];exact⟨rfl,Zn rfl⟩
     rw[Zm g]at a;rw[a]at b;exact absurd h0 b
    exact absurd (r.zr c h0) b
   obtain⟨G,F,E⟩:=r.st h0;rw[G,F,E];exact D j w h0
  exfalso;have f:j<R (Zj n l<|e+1+d+1).parts:=f;by_cases m:Vq l (e+1+d)=1
  ·have A:=Dq h hi m;rw[A.len]at f;obtain rfl:j=R (Zj n l<|e+1+d).parts:=I
   exact b A.pl
  rw[z,vR m S.num S.ok]at f;omega
def gR(h:(Z2 n l).2.2=0)(hi:i<=R l):R (Zj n l i).parts<=R (Z2 n l).1.parts:=by
 rcases dθ (R (Zj n l i).parts) with q|q
 ·omega
 have:=(CK h hi (j:=R (Zj n l i).parts - 1) I).1;omega
def gG(hs:HS H)(a:j<R H.parts)(f:H.YX=true):Xa H.plan H.env (WG H.plan (H.p j).frames)=0:=by
 have d:=Qp<|Zv a;have b:=hs.fr _<|Zt a;rw[←d]at b;have c:0<R H.env.rows:=by have:=hs.nB;rw[f]at this;exact pf this.symm
 rw[NB (DJ hs a).2.2.1];unfold Xa;rw[Zm<|Zp hs.pl,Zm<|Zp<|hs.env c];exact(Nr hs.pl b.1).1
