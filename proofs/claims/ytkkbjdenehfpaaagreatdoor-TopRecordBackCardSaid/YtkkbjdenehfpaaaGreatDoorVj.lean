import Derived.Test.YtkkbjdenehfpaaaGreatDoorUv
set_option linter.all false
open List renaming length->R
namespace Go.Proofs.Z_
open Go.Ab
variable{n:Net}{i:Nat}
section
variable{l:List Entry}{j:Nat}
def gN(h:(Z2 n l).2.2=0)(hi:i<R l):R (Zj n l i).parts<=R (Zj n l<|i+1).parts/\∀j,j<R (Zj n l i).parts->E5 ((Zj n l i).p j) ((Zj n l<|i+1).p j):=by
 have S:=Sq h hi;obtain⟨tm,d⟩:=S.next;have a:=Tv.rP _ _ S.ok;rw[d];exact⟨a.le,λj b=>a.keep j b⟩
def lM(h:(Z2 n l).2.2=0){t:Nat}(f:j<R (Zj n l t).parts):∀d,t+d<=R l->j<R (Zj n l<|t+d).parts/\E5 ((Zj n l t).p j) ((Zj n l<|t+d).p j)
 |0,_=>⟨f,.refl _⟩
 |d+1,hd=>by
  obtain⟨a,b⟩:=lM h f d I;obtain⟨c,e⟩:=gN h (i:=t+d) I;exact⟨rp a c,b.trans<|e j a⟩
def CK(h:(Z2 n l).2.2=0){t:Nat}(b:t<=R l)(a:j<R (Zj n l t).parts):j<R (Z2 n l).1.parts/\E5 ((Zj n l t).p j) ((Z2 n l).1.p j):=by
 have:=lM h a (R l - t) I;rw[show t+(R l - t)=R l by omega,wv]at this;exact this
structure StartAt(n:Net)(l:List Entry)(i:Nat):Prop where
 len:(Zj n l<|i+1).parts.length=(Zj n l i).parts.length+1
 text:∀hi:i<l.length,l[i].text=fF ((Zj n l<|i+1).p (Zj n l i).parts.length)
 num:((Zj n l<|i+1).p (Zj n l i).parts.length).num=(Ss l i).num
 pl:((Zj n l<|i+1).p (Zj n l i).parts.length).place=0
 no:(Zj n l i).U1 (Ss l i).num=none
 es:((Zj n l<|i+1).es (Zj n l i).parts.length).length=3
def Dq(h:(Z2 n l).2.2=0)(hi:i<R l)(f:Vq l i=1):StartAt n l i:=by
 have S:=Sq h hi;have T:=text_at h hi;obtain⟨tm,a⟩:=S.next;obtain⟨v,_,q,_,o,k,g,e⟩:=Aj f S.ok;obtain⟨w,u,t⟩:=CU e;have b:(Zj n l<|i+1).p (R (Zj n l i).parts)=_:=(by rw[a];rfl:(Zj n l<|i+1).p (R (Zj n l i).parts)=(WQ (Vq l i) (Zj n l i)<|Ss l i).1.p (R (Zj n l i).parts)).trans w;have r:(Zj n l<|i+1).es (R (Zj n l i).parts)=_:=(by rw[a];rfl:(Zj n l<|i+1).es (R (Zj n l i).parts)=(WQ (Vq l i) (Zj n l i)<|Ss l i).1.es (R (Zj n l i).parts)).trans u;refine⟨by rw[a];exact t,λ_=>?_,by rw[b],by rw[b],o,by rw[r];rfl⟩;have d:=T.vx;rw[f]at d;rw[sx d T.ok,←T.ln,b];unfold fF;dsimp only;rw[k,g]
def sM(h:(Z2 n l).2.2=0){a b:Nat}(f:a<R (Z2 n l).1.parts)(d:b<R (Z2 n l).1.parts)(e:((Z2 n l).1.p a).num=((Z2 n l).1.p b).num):a=b:=(F5 h).EV a b f d e
end
def r7{α:Type}{g:α->Bool}:∀{l:List α}{k i:Nat},VF g k l=some (k+i)↔(∃h:i<R l,g l[i]=true)/\∀j (b:j<i) (h:j<R l),g l[j]=false
 |[],k,i=>by simp[VF]
 |x::l,k,i=>by
  rw[VF];cases a:g x with
  |true=>
   rw[Zn rfl];constructor
   ·intro e;obtain rfl:i=0:=by have:=aγ e;omega
    exact⟨⟨aθ _,a⟩,λj b=>absurd b<|bπ _⟩
   rintro⟨_,h2⟩;cases i with
   |zero=>rfl
   |succ i=>have:=h2 0 (aθ _)<|aθ _;simp[a]at this
  |false=>
   rw[Zm C];cases i with
   |zero=>
    constructor
    ·intro e;have:=(FC g l (k+1) k e).1;omega
    rintro⟨⟨_,h⟩,_⟩;simp[a]at h
   |succ i=>
    rw[show k+(i+1)=(k+1)+i by omega,r7 (l:=l)];constructor
    ·rintro⟨⟨h1,h2⟩,h3⟩;refine⟨⟨Nat.succ_lt_succ h1,h2⟩,λj b h=>?_⟩;cases j with
     |zero=>exact a
     |succ j=>exact h3 j I (by simpa using h)
    rintro⟨⟨h1,h2⟩,h3⟩;exact⟨⟨by simpa using h1,h2⟩,λj b h=>h3 (j+1) I<|Nat.succ_lt_succ h⟩
variable{α:Type}
def wz{g:α->Bool}{l:List α}:ix g l=none↔∀x∈l,g x=false:=T9 _ l 0
def dn(J i:Nat):Nat:=if i<J then i else i - 1
variable{J:Nat}
def af{l:List α}{i:Nat}(h:i≠J):(l.eraseIdx J)[dn J i]?=l[i]?:=by
 rw[dq];unfold dn;by_cases a:i<J
 ·rw[Zn a,Zn a]
 rw[Zm a,Zm I,show i - 1+1=i by omega]
def ix_dn{g:α->Bool}{l:List α}{i:Nat}(h:ix g l=some i)(hi:i≠J):ix g (l.eraseIdx J)=some (dn J i):=by
 have h:VF g 0 l=some (0+i):=by rw[wc];exact h
 obtain⟨⟨r,q⟩,d⟩:=r7.1 h;have e:=r7 (g:=g) (l:=l.eraseIdx J) (k:=0) (i:=dn J i);rw[wc]at e;have a:=af (l:=l) hi;rw[Zv r]at a;obtain⟨o,f⟩:=ae.1 a;refine e.2 ⟨⟨o,by rw[f];exact q⟩,λj b t=>?_⟩;rw[List.getElem_eraseIdx];unfold dn at b;split
 ·exact d j (by split at b<;>omega) _
 exact d (j+1) (by split at b<;>omega) _
def dN{g:α->Bool}{l:List α}(h:ix g l=none):ix g (l.eraseIdx J)=none:=wz.2 λx a=>wz.1 h x<|List.mem_of_mem_eraseIdx a
def K7(c:ba)(q:XA):XA:={q with ZA:=q.ZA - if q.name=c then 1 else 0}
def State.rm(J:Nat)(s:State):State:=match s.parts[J]? with
 |none=>s
 |some p=>{s with parts:=s.parts.eraseIdx J,Z5:=s.Z5.map (K7 p.Yb)}
variable{s:State}{p:Part}
section
variable{m:Int}{c:ba}
def DJ(h:R s.parts<=J):s.rm J=s:=by unfold State.rm;rw[bζ h]
def Ym(h:s.parts[J]?=some p):s.rm J={s with parts:=s.parts.eraseIdx J,Z5:=s.Z5.map (K7 p.Yb)}:=by unfold State.rm;rw[h]
def rm_p(a:s.parts[J]?=some p)(hi:i≠J):(s.rm J).p (dn J i)=s.p i:=by
 rw[Ym a];unfold State.p;dsimp only;rw[af hi]
def rm_at(a:s.parts[J]?=some p)(hi:i≠J)(f:Part->Part):(s.Zh i f).parts[J]?=some p:=by
 unfold State.Zh;dsimp only;rw[dj,a];simp[hi]
def C4(d:s.parts[J]?=some p)(hi:i≠J)(f:Part->Part):(s.Zh i f).rm J=(s.rm J).Zh (dn J i) f:=by
 rw[Ym<|rm_at d hi f,Ym d];unfold State.Zh;dsimp only;congr 1;refine P2 λj=>?_
 rw[dq,dj,dj,dj,dq];by_cases b:j<J
 ·rw[Zn b,Zn b];by_cases e:i=j
  ·have a:dn J i=j:=by unfold dn;rw[Zn I];exact e
   subst e;simp[a]
  have a:¬dn J i=j:=by unfold dn;split<;>omega
  simp[e,a]
 rw[Zm b,Zm b];by_cases e:i=j+1
 ·have a:dn J i=j:=by unfold dn;rw[Zm I];omega
  subst e;simp[a]
 have a:¬dn J i=j:=by unfold dn;split<;>omega
 simp[e,a]
def C1(b:s.parts[J]?=some p)(f:Part->Part)(d:(f p).Yb=p.Yb):(s.Zh J f).rm J=s.rm J:=by
 have h:(s.Zh J f).parts[J]?=some (f p):=by
  unfold State.Zh;dsimp only;rw[dj,b];simp
 rw[Ym h,Ym b,d];unfold State.Zh;dsimp only;congr 1;refine P2 λj=>?_
 rw[dq,dq,dj,dj];by_cases a:j<J
 ·rw[Zn a,Zn a];have e:¬J=j:=I
  simp[e]
 rw[Zm a,Zm a];have e:¬J=j+1:=I
 simp[e]
def rm_pIx(a:s.parts[J]?=some p)(h:s.U1 m=some i)(hi:i≠J):(s.rm J).U1 m=some (dn J i):=by rw[Ym a];exact ix_dn h hi
def rm_pIxN(a:s.parts[J]?=some p)(h:s.U1 m=none):(s.rm J).U1 m=none:=by rw[Ym a];exact dN h
def fD(a:s.parts[J]?=some p)(h:s.Tk=some i)(hi:i≠J):(s.rm J).Tk=some (dn J i):=by rw[Ym a];exact ix_dn h hi
def rm_uIxN(a:s.parts[J]?=some p)(h:s.Tk=none):(s.rm J).Tk=none:=by rw[Ym a];exact dN h
def e_(a:s.parts[J]?=some p)(c:ba):(s.rm J).Ob c=s.Ob c:=by
 rw[Ym a];exact Ui (K7 p.Yb) (λq:XA=>decide<|q.name=c) _ _
def r_(a:s.parts[J]?=some p)(r:ba):(s.rm J).YD r=s.YD r:=by rw[Ym a];rfl
def fy(a:s.parts[J]?=some p):R (s.rm J).parts+1=R s.parts:=by
 have h:=(ae.1 a).1;rw[Ym a];dsimp only;rw[List.length_eraseIdx_of_lt h];omega
end
variable{m:Int}{pl:Zf}{c r:ba}
variable{L:Sv}
section
variable{ac:State->Nat->SE}
def AH(b:s.parts[J]?=some p)(h:(VQ s L.num ac).2=0)(a:s.U1 L.num≠some J)(d:∀i,i≠J->(ac s i).2=0->ac (s.rm J) (dn J i)=((ac s i).1.rm J,0)):VQ (s.rm J) L.num ac=((VQ s L.num ac).1.rm J,0):=by
 unfold VQ at h⊢;cases e:s.U1 L.num with
 |none=>rw[e]at h;simp at h
 |some i=>
  rw[e]at h;have hi:i≠J:=λq=>a (by rw[e,q])
  rw[rm_pIx b e hi];exact d i hi h
def E6(d:s.parts[J]?=some p)(h:(VQ s L.num ac).2=0)(a:s.U1 L.num=some J)(b:(ac s J).2=0->(ac s J).1.rm J=s.rm J):(VQ s L.num ac).1.rm J=s.rm J:=by
 unfold VQ at h⊢;rw[a]at h⊢;exact b h
def good_rm(a:s.parts[J]?=some p)(hi:i≠J)(h:(HR s i).2=0):HR (s.rm J) (dn J i)=((HR s i).1.rm J,0):=by
 unfold HR at h⊢;rw[rm_p a hi];split
 ·rw[C4 a hi]
 rename_i q;rw[Zm q]at h;simp at h
def bad_rm(a:s.parts[J]?=some p)(hi:i≠J)(h:(ya s i).2=0):ya (s.rm J) (dn J i)=((ya s i).1.rm J,0):=by
 unfold ya at h⊢;rw[rm_p a hi];split
 ·rw[C4 a hi]
 rename_i q;rw[Zm q]at h;simp at h
def mark_rm(a:s.parts[J]?=some p)(hi:i≠J)(h:(Ie s i).2=0):Ie (s.rm J) (dn J i)=((Ie s i).1.rm J,0):=by
 unfold Ie at h⊢;rw[rm_p a hi];split
 ·rw[C4 a hi]
 rename_i q;rw[Zm q]at h;simp at h
def own_456(a:s.parts[J]?=some p):((HR s J).1.rm J=s.rm J)/\((ya s J).1.rm J=s.rm J)/\((Ie s J).1.rm J=s.rm J):=by
 refine⟨?_,?_,?_⟩
 ·unfold HR;split
  ·exact C1 a _ rfl
  rfl
 ·unfold ya;split
  ·exact C1 a _ rfl
  rfl
 unfold Ie;split
 ·exact C1 a _ rfl
 rfl
def end_rm{b:Bool}(a:s.parts[J]?=some p)(h:(Dv pl b s).2=0)(d:s.Tk≠some J):Dv pl b (s.rm J)=((Dv pl b s).1.rm J,0):=by
 unfold Dv at h⊢;cases e:s.Tk with
 |none=>rw[e]at h;simp at h
 |some i=>
  have hi:i≠J:=λq=>d (by rw[e,q])
  rw[fD a e hi];dsimp only;rw[C4 a hi];rw[Ym a]
def end_own{b:Bool}(d:s.parts[J]?=some p)(a:s.Tk=some J):(Dv pl b s).1.rm J=s.rm J:=by
 unfold Dv;rw[a];exact C1 d _ rfl
def dK{f:Frame}{b:Int}(d:s.parts[J]?=some p)(h:(Wd pl s f b).2=0)(k:s.Tk≠some J):Wd pl (s.rm J) f b=((Wd pl s f b).1.rm J,0):=by
 unfold Wd at h⊢;cases e:s.Tk with
 |none=>rw[e]at h;simp at h
 |some i=>
  have hi:i≠J:=λq=>k (by rw[e,q])
  rw[fD d e hi];rw[e]at h;dsimp only at h⊢;rw[rm_p d hi];by_cases h0:b≠0
  ·rw[Zn h0]at h;exact absurd h h0
  rw[Zm h0,Zm h0] ;rw[Zm h0]at h;by_cases a:Yp pl f≠0
  ·rw[Zn a]at h;exact absurd h a
  rw[Zm a,Zm a];rw[Zm a]at h;cases o:(s.p i).frames.find? (λg=>decide<|g.tick=f.tick)with
  |none=>dsimp only;rw[C4 d hi]
  |some g=>
   rw[o]at h;dsimp only at h⊢;split
   ·rfl
   rename_i q;rw[Zm q]at h;simp at h
def gG{f:Frame}{d:Int}(b:s.parts[J]?=some p)(a:s.Tk=some J):(Wd pl s f d).1.rm J=s.rm J:=by
 unfold Wd;rw[a];dsimp only;split
 ·rfl
 split
 ·rfl
 split
 ·exact C1 b _ rfl
 split<;>rfl
def coil_rm(b:s.parts[J]?=some p)(v:∃q∈s.Z5,q.name=p.Yb)(h:(l8 s c m).2=0):l8 (s.rm J) c m=((l8 s c m).1.rm J,0):=by
 have u:R (s.rm J).Z5=R s.Z5:=by rw[Ym b];exact Zx ..
 unfold l8 at h⊢;rw[e_ b,u];by_cases f:YA c=false
 ·rw[Zn f]at h;simp at h
 rw[Zm f,Zm f];rw[Zm f]at h;by_cases a:(s.Ob c).isSome=true
 ·rw[Zn a]at h;simp at h
 rw[Zm a,Zm a];rw[Zm a]at h;by_cases d:¬(1<=m/\m<=1000)
 ·rw[Zn d]at h;simp at h
 rw[Zm d,Zm d];rw[Zm d]at h;by_cases o:¬(R s.Z5:Int)<4
 ·rw[Zn o]at h;simp at h
 rw[Zm o,Zm o];have k:¬c=p.Yb:=λe=>by
  obtain⟨q,r,t⟩:=v;have w:s.Ob c=none:=by cases e:s.Ob c with|none=>rfl|some i=>rw[e]at a;exact absurd rfl a
  have:=wz.1 w q r;simp[t,e]at this
 have g:({s with Z5:=s.Z5++[⟨c,m,0⟩]}:State).parts[J]?=some p:=b;rw[Ym g,Ym b];dsimp only;rw[ne,dι];unfold K7;dsimp only;rw[Zm k];rfl
def gI{t:ba}(b:s.parts[J]?=some p)(h:(Ex s c t).2=0):Ex (s.rm J) c t=((Ex s c t).1.rm J,0):=by
 unfold Ex at h⊢;rw[r_ b,show(s.rm J).ZJ=s.ZJ by rw[Ym b]];by_cases d:YA c=false
 ·rw[Zn d]at h;simp at h
 rw[Zm d,Zm d];rw[Zm d]at h;by_cases a:(VJ t).2≠0
 ·rw[Zn a]at h;exact absurd h a
 rw[Zm a,Zm a];rw[Zm a]at h;by_cases f:R s.ZJ=6
 ·rw[Zn f]at h;simp at h
 rw[Zm f,Zm f];have e:({s with ZJ:=s.ZJ++[⟨c,s.YD c+1,(VJ t).1⟩]}:State).parts[J]?=some p:=b;rw[Ym e,Ym b]
def wB(h:(N3 s m r c).2=0):∃j q,¬1000000<m/\s.U1 m=none/\s.Ob c=some j/\¬s.YD r=0/\s.Tk=none/\s.Z5[j]?=some q/\q.name=c/\¬q.ZA=q.Wb/\¬R s.parts=12/\(N3 s m r c).1={s with Z5:=s.Z5.modify j λc=>{c with ZA:=c.ZA+1},parts:=s.parts++[⟨m,r,s.YD r,c,[],0,false,0,false,Span.zero⟩]}:=by
 unfold N3 at h⊢;by_cases v:1000000<m
 ·rw[Zn v]at h;simp at h
 rw[Zm v]at h⊢;by_cases d:(s.U1 m).isSome=true
 ·rw[Zn d]at h;simp at h
 rw[Zm d]at h⊢;have u:s.U1 m=none:=by cases e:s.U1 m with|none=>rfl|some i=>rw[e]at d;exact absurd rfl d
 cases f:s.Ob c with
 |none=>rw[f]at h;simp at h
 |some j=>
  rw[f]at h;dsimp only at h⊢;by_cases t:s.YD r=0
  ·rw[Zn t]at h;simp at h
  rw[Zm t]at h⊢;by_cases b:s.Tk.isSome=true
  ·rw[Zn b]at h;simp at h
  rw[Zm b]at h⊢;have o:s.Tk=none:=by cases e:s.Tk with|none=>rfl|some i=>rw[e]at b;exact absurd rfl b
  cases a:s.Z5[j]? with
  |none=>rw[a]at h;simp at h
  |some q=>
   rw[a]at h;dsimp only at h⊢;by_cases k:q.ZA=q.Wb
   ·rw[Zn k]at h;simp at h
   rw[Zm k]at h⊢;by_cases g:R s.parts=12
   ·rw[Zn g]at h;simp at h
   rw[Zm g];obtain⟨x,w⟩:=Y8 f;obtain⟨_,e⟩:=ae.1 a;rw[e]at w;exact⟨j,q,v,u,rfl,t,o,a,pf w,k,g,rfl⟩
def fH{j:Nat}{q:XA}(k:¬1000000<m)(h:s.U1 m=none)(g:s.Ob c=some j)(f:¬s.YD r=0)(e:s.Tk=none)(d:s.Z5[j]?=some q)(b:¬q.ZA=q.Wb)(a:¬R s.parts=12):N3 s m r c=({s with Z5:=s.Z5.modify j λc=>{c with ZA:=c.ZA+1},parts:=s.parts++[⟨m,r,s.YD r,c,[],0,false,0,false,Span.zero⟩]},0):=by
 unfold N3;rw[Zm k,h,Zm C,g];dsimp only;rw[Zm f,e,Zm C,d];dsimp only;rw[Zm b,Zm a]
def fG(a:s.parts[J]?=some p)(hs:∀q∈s.Z5,0<=q.ZA/\q.ZA<=q.Wb)(z:R s.parts<=12)(h:(N3 s m r c).2=0):N3 (s.rm J) m r c=((N3 s m r c).1.rm J,0):=by
 obtain⟨j,q,w,v,u,t,o,k,C,B,A,g⟩:=wB h;have y:=hs q<|mr k;have e:(s.rm J).Z5[j]?=some (K7 p.Yb q):=by rw[Ym a];dsimp only;rw[dp,k];rfl
 have d:¬(K7 p.Yb q).ZA=(K7 p.Yb q).Wb:=by
  unfold K7;dsimp only;split<;>omega
 rw[fH w (rm_pIxN a v) ((e_ a c).trans u) (by rw[r_ a];exact t) (rm_uIxN a o) e d (by have:=fy a;omega),g,r_ a];have b:=(ae.1 a).1;have f:({s with Z5:=s.Z5.modify j λc=>{c with ZA:=c.ZA+1},parts:=s.parts++[⟨m,r,s.YD r,c,[],0,false,0,false,Span.zero⟩]}:State).parts[J]?=some p:=by
  dsimp only;rw[m6 b,a]
 rw[Ym f,Ym a];dsimp only;congr 2
 ·refine(SW (K7 p.Yb) (λc=>{c with ZA:=c.ZA+1}) (λc=>{c with ZA:=c.ZA+1}) (λx=>?_) s.Z5 j).symm;unfold K7;dsimp only;congr 1;omega
 rw[List.eraseIdx_append_of_lt_length b]
def gL(t:J=R s.parts)(y:(s.Z5.map XA.name).Nodup)(h:(N3 s m r c).2=0):(N3 s m r c).1.rm J=s:=by
 obtain⟨j,q,K,I,H,G,F,v,u,E,D,o⟩:=wB h;rw[o];have b:({s with Z5:=s.Z5.modify j λc=>{c with ZA:=c.ZA+1},parts:=s.parts++[⟨m,r,s.YD r,c,[],0,false,0,false,Span.zero⟩]}:State).parts[J]?=some ⟨m,r,s.YD r,c,[],0,false,0,false,Span.zero⟩:=by
  dsimp only;rw[t,aκ<|Zq _,dδ];rfl
 rw[Ym b];dsimp only;have C:(s.parts++[(⟨m,r,s.YD r,c,[],0,false,0,false,Span.zero⟩:Part)]).eraseIdx J=s.parts:=by
  rw[t,List.eraseIdx_append_of_length_le<|Zq _,dδ];exact i8 _
 have B:(s.Z5.modify j λc=>{c with ZA:=c.ZA+1}).map (K7 c)=s.Z5:=by
  refine P2 λk=>?_
  rw[dp,dj];cases f:s.Z5[k]? with
  |none=>rfl
  |some w=>
   by_cases e:j=k
   ·subst e;rw[v]at f;cases f;simp only[if_true,Option.map_eq_map,cφ];unfold K7;dsimp only;rw[Zn u];congr 1;cases q;simp
   have a:¬w.name=c:=λx=>e (by
    obtain⟨g,A⟩:=ae.1 v;obtain⟨d,z⟩:=ae.1 f;have:=(List.getElem_inj (xs:=s.Z5.map XA.name) (i:=j) (j:=k) (h₀:=by simpa using g) (h₁:=by simpa using d) y).1 (by simp[A,z,u,x]);exact this)
   simp[K7,a,e]
 rw[C,B]
end
variable{k:Nat}
def d_0(h:L.verb=Z4.getD 0 []):WY n s L=(s,0):=by unfold WY;rw[h];rfl
def d_1(h:L.verb=Z4.getD 1 []):WY n s L=N3 s L.num L.Yr L.Yb:=by unfold WY;rw[h];rfl
def d_2(h:L.verb=Z4.getD 2 []):WY n s L=Wd (ZO n.plan).1 s (ZI L.rest).1 (ZI L.rest).2:=by unfold WY;rw[h];rfl
def d_3(h:L.verb=Z4.getD 3 []):WY n s L=Dv (ZO n.plan).1 (decide<|0<R s.env.rows) s:=by unfold WY;rw[h];rfl
def d_4(h:L.verb=Z4.getD 4 []):WY n s L=VQ s L.num HR:=by unfold WY;rw[h];rfl
def d_5(h:L.verb=Z4.getD 5 []):WY n s L=VQ s L.num ya:=by unfold WY;rw[h];rfl
def d_6(h:L.verb=Z4.getD 6 []):WY n s L=l8 s L.Yb L.num:=by unfold WY;rw[h];rfl
def d_8(h:L.verb=Z4.getD 8 []):WY n s L=VQ s L.num Ie:=by unfold WY;rw[h];rfl
def d_10(h:L.verb=Z4.getD 10 []):WY n s L=Ex s L.Yr L.rest:=by unfold WY;rw[h];rfl
def d_12(h:L.verb=Z4.getD 12 []):WY n s L=yM (ZO n.plan).1 s L.num:=by unfold WY;rw[h];rfl
def done_rm{p:Part}(t:k<13)(a:L.verb=Z4.getD k [])(h:(WY n s L).2=0)(b:s.parts[J]?=some p)(u:k≠7/\k≠9/\k≠11)(f:s.Z3=[])(r:∃q∈s.Z5,q.name=p.Yb)(hs:∀q∈s.Z5,0<=q.ZA/\q.ZA<=q.Wb)(g:R s.parts<=12)
  (e:k=2\/k=3->s.Tk≠some J) (d:k=4\/k=5\/k=8->s.U1 L.num≠some J):WY n (s.rm J) L=((WY n s L).1.rm J,0):=by
 have o:(s.rm J).env=s.env:=by rw[Ym b]
 rcases(show k=0\/k=1\/k=2\/k=3\/k=4\/k=5\/k=6\/k=8\/k=10\/k=12 by omega)with rfl|rfl|rfl|rfl|rfl|rfl|rfl|rfl|rfl|rfl
 ·rw[d_0 a,d_0 a]
 ·rw[d_1 a]at h;rw[d_1 a,d_1 a];exact fG b hs g h
 ·rw[d_2 a]at h;rw[d_2 a,d_2 a];exact dK b h<|e<|.inl rfl
 ·rw[d_3 a]at h;rw[d_3 a,d_3 a,o];exact end_rm b h<|e<|.inr rfl
 ·rw[d_4 a]at h;rw[d_4 a,d_4 a];exact AH b h (d<|.inl rfl) λi hi=>good_rm b hi
 ·rw[d_5 a]at h;rw[d_5 a,d_5 a];exact AH b h (d<|.inr<|.inl rfl) λi hi=>bad_rm b hi
 ·rw[d_6 a]at h;rw[d_6 a,d_6 a];exact coil_rm b r h
 ·rw[d_8 a]at h;rw[d_8 a,d_8 a];exact AH b h (d<|.inr<|.inr rfl) λi hi=>mark_rm b hi
 ·rw[d_10 a]at h;rw[d_10 a,d_10 a];exact gI b h
 rw[d_12 a]at h;unfold yM State.XE at h;rw[f]at h;simp at h
def cC{p:Part}(d:L.verb=Z4.getD k [])(h:(WY n s L).2=0)(b:s.parts[J]?=some p)(o:((k=2\/k=3)/\s.Tk=some J)\/((k=4\/k=5\/k=8)/\s.U1 L.num=some J)):(WY n s L).1.rm J=s.rm J:=by
 obtain⟨g,f,e⟩:=own_456 b;rcases o with⟨rfl|rfl,a⟩|⟨rfl|rfl|rfl,a⟩
 ·rw[d_2 d];exact gG b a
 ·rw[d_3 d];exact end_own b a
 ·rw[d_4 d]at h⊢;exact E6 b h a λ_=>g
 ·rw[d_5 d]at h⊢;exact E6 b h a λ_=>f
 rw[d_8 d]at h⊢;exact E6 b h a λ_=>e
def step_ok{x:Entry}{last:Int}(h:(GA n s x last).2=0):GA n s x last=WY n s (Yn x.text).1/\∀(q:State)(a:Int),a<=last->GA n q x a=WY n q (Yn x.text).1:=by
 unfold GA at h⊢;by_cases b:Vp n x.OR=none
 ·rw[Zn b]at h;simp at h
 by_cases d:¬(0<=x.at_/\x.at_<=1000000000000)
 ·rw[Zm b,Zn d]at h;simp at h
 by_cases f:x.at_<last
 ·rw[Zm b,Zm d,Zn f]at h;simp at h
 by_cases e:600<R x.text
 ·rw[Zm b,Zm d,Zm f,Zn e]at h;simp at h
 by_cases g:x.text.all X6=false
 ·rw[Zm b,Zm d,Zm f,Zm e,Zn g]at h;simp at h
 by_cases k:X2 (ZQ 32 x.text).1=none
 ·rw[Zm b,Zm d,Zm f,Zm e,Zm g,Zn k]at h;simp at h
 by_cases o:Cw n x<S2.getD ((X2 (ZQ 32 x.text).1).getD 0) 0
 ·rw[Zm b,Zm d,Zm f,Zm e,Zm g,Zm k,Zn o]at h;simp at h
 by_cases r:(Yn x.text).2=false
 ·rw[Zm b,Zm d,Zm f,Zm e,Zm g,Zm k,Zm o,Zn r]at h;simp at h
 refine⟨by rw[Zm b,Zm d,Zm f,Zm e,Zm g,Zm k,Zm o,Zm r],λq a t=>?_⟩;rw[Zm b,Zm d,Zm I,Zm e,Zm g,Zm k,Zm o,Zm r]
def sF(f:k<13)(a:L.verb=Z4.getD k [])(g:k≠7/\k≠9/\k≠11)(h:(WY n s L).2=0):(WY n s L).1.Z3=s.Z3:=by
 have b:∀{ac:State->Nat->SE},(∀i,(ac s i).1.Z3=s.Z3)->(VQ s L.num ac).1.Z3=s.Z3:=λe=>by
  unfold VQ;split
  ·rfl
  exact e _
 rcases(show k=0\/k=1\/k=2\/k=3\/k=4\/k=5\/k=6\/k=8\/k=10\/k=12 by omega)with rfl|rfl|rfl|rfl|rfl|rfl|rfl|rfl|rfl|rfl
 ·rw[d_0 a]
 ·rw[d_1 a]at h⊢;obtain⟨_,_,_,_,_,_,_,_,_,_,_,d⟩:=wB h;rw[d]
 ·rw[d_2 a];unfold Wd;repeat' split
  all_goals rfl
 ·rw[d_3 a];unfold Dv;split<;>rfl
 ·rw[d_4 a];exact b λi=>by unfold HR;split<;>rfl
 ·rw[d_5 a];exact b λi=>by unfold ya;split<;>rfl
 ·rw[d_6 a];unfold l8;repeat' split
  all_goals rfl
 ·rw[d_8 a];exact b λi=>by unfold Ie;split<;>rfl
 ·rw[d_10 a];unfold Ex;repeat' split
  all_goals rfl
 rw[d_12 a];unfold yM;repeat' split
 all_goals rfl
variable{H:Z6}
def xW{x:Entry}(h:(Za H x).2=0):H.head x=0:=by
 unfold Za at h;by_cases a:H.head x=0
 ·exact a
 rw[Zn a]at h;exact h
section
variable{n:Net}{l:List Entry}{i J:Nat}
def VC(n:Net)(l:List Entry)(q:Part)(i:Nat):Bool:=!(Mz n l q i)||(decide (Vq l i=10)||decide (Vq l i=6))
def UA(g:Nat->Bool)(l:List Entry):Nat->List Entry
 |0=>[]
 |i+1=>if g i=true then UA g l i++(l[i]?).toList else UA g l i
def L8{g:Nat->Bool}(hi:i<R l)(h:g i=true):UA g l (i+1)=UA g l i++[l[i]]:=by rw[UA,Zn h,Zv hi];rfl
def lH{g:Nat->Bool}(h:¬g i=true):UA g l (i+1)=UA g l i:=by rw[UA,Zm h]
def L9{g:Nat->Bool}:∀i,R (UA g l i)<=i
 |0=>Zq _
 |i+1=>by
  have:=L9 (g:=g) i;rw[UA];split
  ·rw[Zs];have:R (l[i]?).toList<=1:=by cases l[i]?<;>simp
   omega
  omega
def G1{g:Nat->Bool}:∀(i:Nat),∀x∈UA g l i,x∈l
 |0,x,a=>by cases a
 |i+1,x,a=>by
  rw[UA]at a;split at a
  ·rcases List.mem_append.1 a with a|a
   ·exact G1 i x a
   rw[Option.mem_toList]at a;exact mr a
  exact G1 i x a
def lR(h:(Z2 n l).2.2=0)(hi:i<R l):GA n (Zj n l i).st l[i] (Zj n l i).time=WY n (Zj n l i).st (Ss l i)/\(WY n (Zj n l i).st<|Ss l i).2=0/\(Zj n l<|i+1).st=(WY n (Zj n l i).st<|Ss l i).1/\(Zj n l i).time<=l[i].at_/\(Zj n l<|i+1).time=l[i].at_/\∀(g:State)(d:Int),d<=(Zj n l i).time->GA n g l[i] d=WY n g (Ss l i):=by
 have S:=Sq h hi;obtain⟨f,k⟩:=Aq h hi;have q:=UP h i;have e:=kj S.hs S.XR (sH q).2 l[i] (by rw[S.sw];have:=(Ur h).2.1;omega);have r:Ss l i=(Yn l[i].text).1:=by unfold Ss;rw[Zv hi];rfl
 have o:(GA n (Zj n l i).st l[i] (Zj n l i).time).2=0:=by rw[←e];exact f
 obtain⟨a,b⟩:=step_ok o;rw[←r]at a b;refine⟨a,by rw[←a];exact o,?_,(HV<|xW f).2.2.2.1,?_,b⟩
 ·rw[←a,←e];exact rn Z6.st k
 exact(rn Z6.time k).trans (Dw f).2
def sK(h:(Z2 n l).2.2=0):∀i,i<=R l->((Zj n l i).cn.map (·.1)).Nodup
 |0,_=>by
  have e:Zj n l 0=Z6.init n (ZO n.plan).1:=by
   unfold Zj;rw[dt];have:=Ur<|UP h 0;rw[dt]at this;rw[this.2.2];rfl
  rw[e];exact List.nodup_nil
 |i+1,hi=>by
  have g:=sK h i I;have S:=Sq h (i:=i) I;obtain⟨tm,u⟩:=S.next;have e:(Zj n l<|i+1).cn=(WQ (Vq l i) (Zj n l i)<|Ss l i).1.cn:=by rw[u];rfl
  rw[e];by_cases k:Vq l i=6
  ·have d:=S.ok;rw[k]at d⊢;obtain⟨v,f⟩:=vP (H:=Zj n l i) (c:=(Ss l i).Yb) (m:=(Ss l i).num) d;have f:(WQ 6 (Zj n l i)<|Ss l i).1.cn=_:=f;rw[f,ne,List.nodup_append];refine⟨g,F,λa t b o=>?_⟩;obtain⟨q,r,rfl⟩:=rx.1 t;simp only[ta,H2,pi]at o;rw[o];exact G7.1 v q r
  rw[(cD (H:=Zj n l i) _ _).2 k];exact g
def yz(h:(Z2 n l).2.2=0)(a:∀i,i<R l->Vq l i≠7/\Vq l i≠9/\Vq l i≠11):∀i,i<=R l->(Zj n l i).st.Z3=[]
 |0,_=>by
  unfold Zj;rw[dt];have:=Ur<|UP h 0;rw[dt]at this;rw[this.2.2];rfl
 |i+1,hi=>by
  have S:=Sq h (i:=i) I;obtain⟨_,d,b,_⟩:=lR h (i:=i) I;rw[b,sF S.lt S.verb (a i I) d];exact yz h a i I
def dR(h:(Z2 n l).2.2=0)(hi:i<R l)(a:J<R (Zj n l i).parts):Mz n l ((Z2 n l).1.p J) i=UL (Zj n l i) (Vq l i) (Ss l i) J:=by
 have S:=Sq h hi;obtain⟨tm,b⟩:=S.next;rw[sN (CK h (ft hi) a).2];unfold Mz;rw[b];exact yA S.hs (JC h i<|ft hi).pc S.XR S.lt S.ok a
def lP(h:(Z2 n l).2.2=0)(hi:i<R l)(x:R (Zj n l i).parts<=J)(k:J<R (Z2 n l).1.parts)(r:Vq l i≠10/\Vq l i≠6):Mz n l ((Z2 n l).1.p J) i=true↔Vq l i=1/\R (Zj n l i).parts=J:=by
 have S:=Sq h hi;obtain⟨tm,v⟩:=S.next;have u:Mz n l ((Z2 n l).1.p J) i=nT n l ((Z2 n l).1.p J).num ((Z2 n l).1.p J).Yr ((Z2 n l).1.p J).YD i:=by
  unfold Mz r9 vB cB nT;rw[Zy r.1,Zy r.2];rfl
 constructor
 ·intro e;rw[u]at e;have d:∃j,(Zj n l<|i+1).U1 ((Z2 n l).1.p J).num=some j:=by
   cases q:(Zj n l<|i+1).U1 ((Z2 n l).1.p J).num with
   |some j=>exact⟨j,rfl⟩
   |none=>rw[(JC h (i+1) hi).nm i (cπ i) _ _ _ q]at e;cases e
  obtain⟨j,d⟩:=d;obtain⟨o,f⟩:=CK h (t:=i+1) hi (Y8 d).1;have g:=sM h o k<|f.num.trans<|J8 d;subst g;have b:=(Y8 d).1;have w:R (Zj n l<|i+1).parts=R (WQ (Vq l i) (Zj n l i)<|Ss l i).1.parts:=by rw[v]
  by_cases a:Vq l i=1
  ·have A:=Dq h hi a;rw[A.len]at b;exact⟨a,I⟩
  rw[w,vR a S.num S.ok]at b;omega
 rintro⟨a,hJ1⟩;have A:=Dq h hi a;obtain⟨o,f⟩:=CK h (t:=i+1) hi (j:=J) (by rw[A.len];omega);rw[u];unfold nT nB;rw[a];refine Zz ?_;rw[f.num,←A.num,hJ1]
structure RmI(n:Net)(l:List Entry)(J:Nat)(i:Nat):Prop where
 ok:(Z2 n<|UA (VC n l<|(Z2 n l).1.p J) l i).2.2=0
 st:(Z2 n<|UA (VC n l<|(Z2 n l).1.p J) l i).1.st=(Zj n l i).st.rm J
 tm:(Z2 n<|UA (VC n l<|(Z2 n l).1.p J) l i).1.time<=(Zj n l i).time
def DK(a:J<R H.parts):H.st.parts[J]?=some (H.p J):=by
 show(H.parts.map (·.1))[J]?=_;rw[dp,Zv a,Qp<|Zv a];rfl
def Mc(H:Z6):R H.st.parts=R H.parts:=Zx ..
def fR{L:Sv}(a:k≠7/\k≠9/\k≠11)(h:UL H k L J=true):((k=2\/k=3)/\H.st.Tk=some J)\/((k=4\/k=5\/k=8)/\H.st.U1 L.num=some J):=by
 rw[E3,C6];unfold UL at h;split at h
 all_goals first|exact absurd rfl a.2.1|exact absurd rfl a.2.2|cases h|(simp at h;simp[h])
def fO{L:Sv}(h:UL H k L J=false):(k=2\/k=3->H.st.Tk≠some J)/\(k=4\/k=5\/k=8->H.st.U1 L.num≠some J):=by
 rw[E3,C6];constructor
 ·rintro(rfl|rfl)<;>simpa[UL]using h
 rintro(rfl|rfl|rfl)<;>simpa[UL]using h
def eA(h:(Z2 n l).2.2=0)(v:∀i,i<R l->Vq l i≠7/\Vq l i≠9/\Vq l i≠11)(B:J<R (Z2 n l).1.parts):∀i,i<=R l->RmI n l J i
 |0,_=>by
  have h0:=UP h 0;have e:Zj n l 0=(Z2 n []).1:=by unfold Zj;rw[dt]
  rw[dt]at h0;refine⟨h0,?_,?_⟩
  ·rw[e,DJ]
   ·rfl
   rw[(Ur h0).2.2];exact Zr _
  rw[e];exact Int.le_refl _
 |i+1,hi=>by
  have hi:i<R l:=hi;obtain⟨r1,r2,r3⟩:=eA h v B i<|ft hi;have S:=Sq h hi;obtain⟨W,t,C,V,F,U⟩:=lR h hi;have d:=v i hi;have k:=(S.hs).inv;by_cases a:VC n l ((Z2 n l).1.p J) i=true
  ·have vv:WY n ((Zj n l i).st.rm J) (Ss l i)=((WY n (Zj n l i).st<|Ss l i).1.rm J,0):=by
    rcases w7 J (R (Zj n l i).parts) with q|q
    ·have N:UL (Zj n l i) (Vq l i) (Ss l i) J=false:=by
      cases r:UL (Zj n l i) (Vq l i) (Ss l i) J with
      |false=>rfl
      |true=>
       have x:=(dR h hi q).trans r;unfold VC at a;rw[x]at a;have y:Vq l i=10\/Vq l i=6:=by simpa using a
       rcases y with e|e<;>(rw[e]at r;simp[UL]at r)
     obtain⟨H,G⟩:=fO N;refine done_rm S.lt S.verb t (DK q) d (yz h v i<|ft hi) ?_ ?_ (by rw[Mc];exact k.lp) H G
     ·obtain⟨_,w,hw,O⟩:=(JC h i<|ft hi).pc J q;obtain⟨c,z,rfl⟩:=rx.1 hw;exact⟨c.1,rx.2 ⟨c,z,rfl⟩,O⟩
     intro c z;obtain⟨w,hw,rfl⟩:=rx.1 z;exact k.ZA w hw
    rw[DJ (by rw[Mc];exact q),DJ]
    ·exact ik rfl t
    rw[←C,Mc];rcases w7 J (R (Zj n l<|i+1).parts) with w|w
    ·exfalso;obtain⟨tm,P⟩:=S.next;have T:R (Zj n l<|i+1).parts=R (WQ (Vq l i) (Zj n l i)<|Ss l i).1.parts:=by rw[P]
     by_cases b:Vq l i=1
     ·have A:=Dq h hi b;have x:=(lP h hi q B<|by rw[b];decide).2 ⟨b,by have:=A.len;omega⟩;unfold VC at a;rw[x,b]at a;simp at a
     rw[T,vR b S.num S.ok]at w;omega
    exact w
   have E:=U (Z2 n<|UA (VC n l<|(Z2 n l).1.p J) l i).1.st _ r3;rw[r2,vv]at E;have qf:=L9 (l:=l) (g:=VC n l<|(Z2 n l).1.p J) i;have st:=kj (F5 r1) (sH r1).1 (sH r1).2 l[i] (by rw[fQ r1];have:=(Ur h).2.1;omega);rw[r2,E]at st;have o:(Za (Z2 n<|UA (VC n l<|(Z2 n l).1.p J) l i).1 l[i]).2=0:=rn Prod.snd st;obtain⟨I,D⟩:=gK r1 o;refine⟨by rw[L8 hi a];exact I,?_,?_⟩
   ·rw[L8 hi a,D,C];exact rn Prod.fst st
   rw[L8 hi a,D,(Dw o).2,F];exact Int.le_refl _
  have u:Vq l i≠10/\Vq l i≠6/\Mz n l ((Z2 n l).1.p J) i=true:=by
   unfold VC at a;simp only[ti,zd,de,eη,Bool.not_eq_false]at a;exact⟨a.2.1,a.2.2,a.1⟩
  rw[←lH (l:=l) a]at r1 r2 r3;refine⟨r1,?_,by rw[F];omega⟩;rw[r2,C];rcases w7 J (R (Zj n l i).parts) with q|q
  ·have r:=(dR h hi q).symm.trans u.2.2;exact(cC S.verb t (DK q)<|fR d r).symm
  obtain⟨M,K⟩:=(lP h hi q B ⟨u.1,u.2.1⟩).1 u.2.2;have f:=S.verb;rw[M]at f;rw[d_1 f]at t⊢;rw[DJ<|by rw[Mc];exact q];refine(gL (by rw[Mc,K]) ?_ t).symm;have e:=sK h i<|ft hi;have Q:(Zj n l i).st.Z5.map XA.name=(Zj n l i).cn.map (·.1):=by
   unfold Z6.cn;show((Zj n l i).Z5.map _).map _=_;rw[fw,fw];rfl
  rw[Q];exact e
