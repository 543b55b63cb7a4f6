import Derived.Test.YtlmhpcghgjdjjaaGreatDoorVdG
set_option linter.all false
open List renaming length->R
namespace Go.Proofs.Z_
open Go.Ab Tryz
set_option maxRecDepth 9999
def begT(s:ba)(l:List Entry):Bool:=l.any λx=>decide<|x.text=s
def OQ(s:ba):Bool->List Entry->Bool
 |_,[]=>false
 |o,x::l=>if x.text=s then OQ s true l else if o=true/\x.text=endW then true else OQ s o l
def fN{s:ba}(hs:s≠endW)(x:Entry):∀(l:List Entry)(o:Bool),OQ s o (l++[x])=(OQ s o l||((o||begT s l)&&decide (x.text=endW)))
 |[],o=>by
  rw[bε,OQ,OQ,OQ,OQ];by_cases h:x.text=s
  ·rw[Zn h,Zy λe=>hs<|h.symm.trans e];simp
  rw[Zm h];cases o<;>by_cases a:x.text=endW<;>simp[a,begT]
 |y::l,o=>by
  rw[H5,OQ,OQ];by_cases h:y.text=s
  ·rw[Zn h,Zn h,fN hs x l true];simp[begT,h]
  rw[Zm h,Zm h];split
  ·simp
  rw[fN hs x l o];simp[begT,h]
variable{t u:Nat}
section
variable{n:Net}{l:List Entry}{i j:Nat}
def step_keep(h:(Z2 n l).2.2=0)(hi:i<R l):R (VD n l i).parts<=R (VD n l<|i+1).parts/\∀j,j<R (VD n l i).parts->kW ((VD n l i).p j) ((VD n l<|i+1).p j):=by
 have S:=AH h hi;obtain⟨d,c⟩:=S.next;have a:=Tv.rP _ _ S.ok;rw[c];exact⟨a.le,λj b=>a.keep j b⟩
def keep_to(h:(Z2 n l).2.2=0){t:Nat}(f:j<R (VD n l t).parts):∀d,t+d<=R l->j<R (VD n l<|t+d).parts/\kW ((VD n l t).p j) ((VD n l<|t+d).p j)
 |0,_=>⟨f,.refl _⟩
 |d+1,hd=>by
  obtain⟨a,b⟩:=keep_to h f d I;obtain⟨c,e⟩:=step_keep h (i:=t+d) I;exact⟨rp a c,b.trans<|e j a⟩
def j7(h:(Z2 n l).2.2=0)(b:t<=R l)(a:j<R (VD n l t).parts):j<R (Z2 n l).1.parts/\kW ((VD n l t).p j) ((Z2 n l).1.p j):=by
 have:=keep_to h a (R l - t) I;rw[show t+(R l - t)=R l by omega,Al]at this;exact this
def startW_keep{p q:Part}(h:kW p q):Qr q=Qr p:=by unfold Qr;rw[h.num,h.Yr,h.Yb]
structure StartAt(n:Net)(l:List Entry)(i:Nat):Prop where
 len:(VD n l<|i+1).parts.length=(VD n l i).parts.length+1
 text:∀hi:i<l.length,l[i].text=Qr ((VD n l<|i+1).p (VD n l i).parts.length)
 num:((VD n l<|i+1).p (VD n l i).parts.length).num=(Gt l i).num
 pl:((VD n l<|i+1).p (VD n l i).parts.length).place=0
 no:(VD n l i).U1 (Gt l i).num=none
 es:((VD n l<|i+1).es (VD n l i).parts.length).length=3
def sK(h:(Z2 n l).2.2=0)(hi:i<R l)(d:Qf l i=1):StartAt n l i:=by
 have S:=AH h hi;have T:=dA h hi;obtain⟨t,a⟩:=S.next;obtain⟨v,_,q,_,k,g,f,e⟩:=start_new d S.ok;obtain⟨s,r,o⟩:=p_app e;have b:(VD n l<|i+1).p (R (VD n l i).parts)=_:=(by rw[a];rfl:(VD n l<|i+1).p (R (VD n l i).parts)=(WQ (Qf l i) (VD n l i)<|Gt l i).1.p (R (VD n l i).parts)).trans s;have m:(VD n l<|i+1).es (R (VD n l i).parts)=_:=(by rw[a];rfl:(VD n l<|i+1).es (R (VD n l i).parts)=(WQ (Qf l i) (VD n l i)<|Gt l i).1.es (R (VD n l i).parts)).trans r;refine⟨by rw[a];exact o,λ_=>?_,by rw[b],by rw[b],k,by rw[m];rfl⟩;have c:=T.vx;rw[d]at c;rw[start_text c T.ok,←T.ln,b];unfold Qr;dsimp only;rw[g,f]
def step_old(h:(Z2 n l).2.2=0)(hi:i<R l)(a:Qf l i≠1):R (VD n l<|i+1).parts=R (VD n l i).parts:=by
 have S:=AH h hi;obtain⟨c,b⟩:=S.next;rw[b];exact eff_len a S.num S.ok
def started(h:(Z2 n l).2.2=0):∀t,t<=R l->∀j,j<R (VD n l t).parts->∃s,s<t/\Qf l s=1/\R (VD n l s).parts=j/\∃hs:s<R l,l[s].text=Qr ((VD n l t).p j)
 |0,_,j,hj=>by
  obtain⟨_,_,e⟩:=Ur<|UP h 0;have:VD n l 0=Z6.init n (ZO n.plan).1:=by show(Z2 n<|l.take 0).1=_;rw[e];rfl
  rw[this]at hj;exact absurd hj<|bπ _
 |t+1,ht,j,hj=>by
  by_cases q:j<R (VD n l t).parts
  ·obtain⟨s,a,b,c,d,e⟩:=started h t I j q;exact⟨s,I,b,c,d,e.trans (startW_keep<|(step_keep h (i:=t) I).2 j q).symm⟩
  by_cases f:Qf l t=1
  ·have A:=sK h (i:=t) I f;have g:=A.len;obtain rfl:j=R (VD n l t).parts:=I
   exact⟨t,I,f,rfl,I,A.text _⟩
  rw[step_old h (i:=t) I f]at hj;exact absurd hj q
def nums_end(h:(Z2 n l).2.2=0){a b:Nat}(d:a<R (Z2 n l).1.parts)(c:b<R (Z2 n l).1.parts)(e:((Z2 n l).1.p a).num=((Z2 n l).1.p b).num):a=b:=(F5 h).EV a b d c e
def text_start(h:(Z2 n l).2.2=0)(hi:i<R l)(m:j<R (Z2 n l).1.parts):l[i].text=Qr ((Z2 n l).1.p j)↔Qf l i=1/\R (VD n l i).parts=j:=by
 constructor
 ·intro e;have k:=started h (R l) (Zq _) j (by rw[Al];exact m);rw[Al]at k;obtain⟨s,_,a,b,hs,c⟩:=k;have T:=dA h hi;have u:=dA h hs;have o:l[i].text=l[s].text:=e.trans c.symm;have g:=T.vx;have v:=u.vx;rw[o,v,a]at g;have d:Qf l i=1:=(aγ g).symm;refine⟨d,?_⟩;have w:Gt l i=Gt l s:=by rw[T.ln,u.ln,o]
  have A:=sK h hi d;have B:=sK h hs a;have f:=j7 h (t:=i+1) I (j:=R (VD n l i).parts) (by rw[A.len];omega);have r:=j7 h (t:=s+1) I (j:=R (VD n l s).parts) (by rw[B.len];omega);rw[b]at r;have q:=B.num;rw[b]at q;refine nums_end h f.1 m ?_;rw[f.2.num,A.num,r.2.num,q,w]
 intro ⟨d,e⟩;have A:=sK h hi d;have f:=j7 h (t:=i+1) I (j:=R (VD n l i).parts) (by rw[A.len];omega);rw[A.text hi,←startW_keep f.2,e]
def startW_ne(p:Part):Qr p≠endW:=λe=>by
 have:=rn List.length e;unfold Qr endW at this;simp at this
def step_Nx(h:(Z2 n l).2.2=0)(hi:i<R l):∀j,j<R (VD n l i).parts->Nx (Qf l i) ((VD n l i).p j) ((VD n l<|i+1).p j)/\PlOk ((VD n l i).p j).place ((VD n l<|i+1).p j).place:=λj a=>by
 have S:=AH h hi;obtain⟨c,b⟩:=S.next;have m:=Mv.rP (Qf l i) (Gt l i) S.num S.ok;rw[b];exact⟨NxT.rP (Qf l i) (Gt l i) j a,m.old j a⟩
def end_place(h:(Z2 n l).2.2=0)(hi:i<R l)(b:Qf l i=3)(a:(VD n l i).Tk=some u):(VD n l<|i+1).p u=Sy (VD n l i).plan (VD n l i).env (VD n l i).YX ((VD n l i).p u):=by
 have S:=AH h hi;obtain⟨d,c⟩:=S.next;rw[c,b];show(Sz<|VD n l i).1.p u=_;unfold Sz;rw[a];dsimp only;rw[Jl,xR _ _ _ (Y8 a).1,Zn rfl]
structure Trk(n:Net)(l:List Entry)(j t:Nat):Prop where
 b:begT (Qr<|(Z2 n l).1.p j) (l.take t)=decide (j<(VD n l t).parts.length)
 e:OQ (Qr<|(Z2 n l).1.p j) false (l.take t)=(decide (j<(VD n l t).parts.length)&&decide (((VD n l t).p j).place≠0))
def under_is(h:(Z2 n l).2.2=0)(a:(VD n l t).Tk=some u)(b:j<R (VD n l t).parts)(h0:((VD n l t).p j).place=0):u=j:=
 (e_<|UP h t).1 u j (Y8 a).1 b (fS a) h0
def trk(h:(Z2 n l).2.2=0)(w:j<R (Z2 n l).1.parts):∀t,t<=R l->Trk n l j t
 |0,_=>by
  obtain⟨_,_,e⟩:=Ur<|UP h 0;have f:VD n l 0=Z6.init n (ZO n.plan).1:=by show(Z2 n<|l.take 0).1=_;rw[e];rfl
  constructor
  ·rw[f];rfl
  rw[f];rfl
 |t+1,ht=>by
  have z:=trk h w t I;have c:t<R l:=I
  have C:=text_start h c w;have T:=dA h c;have r:=z.b;have D:=z.e;have y:begT (Qr<|(Z2 n l).1.p j) (l.take<|t+1)=(decide (j<R (VD n l t).parts)||decide (Qf l t=1/\R (VD n l t).parts=j)):=by
   rw[mv c];unfold begT at r⊢;rw[List.any_append,r,nz,List.any_nil,ce];congr 1;exact decide_eq_decide.2 C
  have x:OQ (Qr<|(Z2 n l).1.p j) false (l.take<|t+1)=((decide (j<R (VD n l t).parts)&&decide (((VD n l t).p j).place≠0))||(decide (j<R (VD n l t).parts)&&decide (Qf l t=3))):=by
   rw[mv c,fN<|startW_ne _,D,fM,r,T.end_]
  have g:=step_Nx h c;by_cases o:Qf l t=1
  ·have A:=sK h c o;have hlen:=A.len;constructor
   ·rw[y,hlen];rw[cδ];simp only[ti,de];omega
   rw[x,hlen,Zy (show¬Qf l t=3 by omega),bυ,ce];by_cases q:j<R (VD n l t).parts
   ·have k:=(g j q).1.zr I;have m:=(g j q).2;unfold PlOk at m;rw[Zz q,Zz (show j<R (VD n l t).parts+1 by omega)];congr 1;refine decide_eq_decide.2 ⟨λa b=>?_,λa b=>a<|k b⟩;omega
   rw[Zy q];by_cases B:j<R (VD n l t).parts+1
   ·obtain rfl:j=R (VD n l t).parts:=I
    rw[A.pl];simp
   rw[Zy B];rfl
  have hlen:=step_old h c o;constructor
  ·rw[y,hlen,Zy (p:=Qf l t=1/\R (VD n l t).parts=j) λq=>o q.1,ce]
  rw[x,hlen];by_cases q:j<R (VD n l t).parts
  ·have m:=(g j q).2;unfold PlOk at m;rw[Zz q,tn,tn,tn];by_cases d:Qf l t=3
   ·rw[Zz d,Bool.or_true];refine(Zz (p:=((VD n l<|t+1).p j).place≠0) λf=>?_).symm;obtain⟨u,v⟩:=rR (.inr d) (AH h c).ok;have s:((VD n l t).p j).place=0:=I
    have:=under_is h v q s;subst this;rw[end_place h c d v]at f;cases f
   rw[Zy d,ce];have k:=(g j q).1.zr d;refine decide_eq_decide.2 ⟨λa b=>?_,λa b=>a<|k b⟩;omega
  rw[Zy q];rfl
end
variable{s:ba}
def xW{v:ba}:Ct prog 39 [.str s,.str v]<|.bool<|decide<|s.take (R v)=v:=by
 refine cI func39 O<|OK.Gz (t:=0) (z:=s) O O λhlen=>?_;unfold maxLen at hlen;refine ro 13 O<|RK.ZS (t:=10) O (λa=>?_) λa=>?_
 ·refine rr 3 O ?_;refine kc (S.VI (hi:=R v) (l':=s.take<|R v) W6 (zg O O) O (zt O) (.inl ⟨O,O,O⟩) (.inr ⟨_,_,O,(zt O),O⟩) I I<|by rw[aα]) ?_;refine rr 6 O<|kR O O ?_;rfl
 have b:¬s.take (R v)=v:=λe=>a (by have:=rn List.length e;rw[sc]at this;omega)
 rw[Zy b];refine rr 10 O<|kR O O ?_;rfl
section
variable{n:Net}{l:List Entry}{i j:Nat}
def part_len(h:(Z2 n l).2.2=0)(a:j<R (Z2 n l).1.parts):R ((Z2 n l).1.p j).Yr<=12/\R ((Z2 n l).1.p j).Yb<=12:=by
 have:=(replay_Nm h).p _<|Zt a;rw[←Qp (Zv a)]at this;exact this
def ended_at{o:Bool}(a:i<u)(hi:i<R l):OQ s o ((l.take u).drop i)=if l[i].text=s then OQ s true ((l.take u).drop<|i+1)else if o=true/\l[i].text=endW then true else OQ s o ((l.take u).drop<|i+1):=by
 rw[np (by rw[sc];omega),OQ,dξ]
def b8(h:(Z2 n l).2.2=0)(a:j<R (Z2 n l).1.parts):Wm n l ((Z2 n l).1.p j).num=0/\G1 n l ((Z2 n l).1.p j).num=(Z2 n l).1.p j:=by
 have e:=(F5 h).pIx2 a;have c:=(e_ h).2 j a;have b:Wm n l ((Z2 n l).1.p j).num=0:=by
  unfold Wm J9;rw[Zm<|Zp h,e,Zz c];rfl
 refine⟨b,?_⟩;unfold G1 rW;rw[Zm<|Zp b,e,bφ,Zv a,Qp<|Zv a];rfl
end
variable{l:List Entry}{n:Net}
def back_part(h:(Z2 n l).2.2=0){i:Nat}(hi:i<R (Xi n l).parts):(Xi n l).parts[i]=(Z2 n l).1.p i:=by
 have e:∀(s:State)(hs:Xi n l=s)(a:i<R s.parts),(Xi n l).parts[i]=s.parts[i]:=λs hs a=>by subst hs;rfl
 have b:Xi n l=(Z2 n l).1.st:=xT<|Zp h;have a:i<R (Z2 n l).1.st.parts:=by rw[←b];exact hi
 exact(e _ b a).trans (st_at _ i a).2
def law10_ended(r:u<=R l):Ct prog 35 [.sl<|l.map Entry.cs,bv u,.str s]<|.bool<|OQ s false<|l.take u:=by
 refine cI func35 O<|OK.XF (rows:=l.map Entry.cs) (t:=0) O O λhlen=>?_;rw[Zx]at hlen;unfold maxLen at hlen;refine ro 17 O ?_;refine OK.We [] (λ(i:Nat)(o:Bool)=>[(0,.sl<|l.map Entry.cs),(1,bv u),(2,.str s),(7,.bool o),(8,bv i)]) (λi o=>i<=u/\OQ s false (l.take u)=OQ s o ((l.take u).drop i)) (λi o=>u - i) 0 false ⟨Zr _,O⟩ ⟨O,O,O,O,O,Zo⟩ (λ_ _=>O) ?_;rintro i o ⟨hi,p⟩;refine ro 8 O<|kB O (λm=>?_) λm=>?_
 ·have h:i<u:=I
  have a:i<R l:=I
  have q:=p.trans<|ended_at (s:=s) (o:=o) h a;refine ro 8 O<|kc (zI Vy O a O)<|rr 6 O<|kB O (λf=>?_) λf=>?_
  ·have g:=q.trans<|Zn f;refine Ro 10 O I<|Ab.D.lp ⟨i+1,true,⟨I,g⟩,I,O,O,O,O,O,Zo⟩
  have b:=q.trans<|Zm f;refine ro 4 O<|RK.split (t:=22) O (λc=>?_) λc=>?_
  ·refine rr 2 O<|kc (S.Zi (n:=i) Vy (zg O O) O (zt O) (zt O) O a O)<|rr 6 O<|kB O (λd=>?_) λd=>?_
   ·have k:OQ s false (l.take u)=true:=b.trans<|Zn ⟨c,d⟩;refine ro 5 O<|kR O O ?_;rw[k];try rfl
   have g:=b.trans<|Zm λe=>d e.2;refine Ro 8 O I<|Ab.D.lp ⟨i+1,o,⟨I,g⟩,I,O,O,O,O,O,Zo⟩
  have g:=b.trans (Zm λe=>by rw[c]at e;cases e.1);refine Rr 18 O I<|Ab.D.lp ⟨i+1,o,⟨I,g⟩,I,O,O,O,O,O,Zo⟩
 have k:OQ s false (l.take u)=false:=by rw[p,show i=u by omega,ut<|by rw[sc];omega];rfl
 refine ro 7 O<|kR O O ?_;rw[k];try rfl
variable{fr:List Frame}{p:Zf}
section
variable{n:Net}{l:List Entry}{i j:Nat}
def stay_to(h:(Z2 n l).2.2=0){t:Nat}(g:j<R (VD n l t).parts)(f:((VD n l t).p j).place≠0):∀d,t+d<=R l->((VD n l<|t+d).p j).place≠0/\((VD n l<|t+d).p j).WD=((VD n l t).p j).WD/\((VD n l<|t+d).p j).verdict=((VD n l t).p j).verdict/\((VD n l<|t+d).p j).frames=((VD n l t).p j).frames
 |0,_=>⟨f,rfl,rfl,rfl⟩
 |d+1,hd=>by
  obtain⟨a,b,c,e⟩:=stay_to h g f d I;obtain⟨x,y⟩:=step_Nx h (i:=t+d) I j (keep_to h g d I).1;obtain⟨o,m,k⟩:=x.st a;unfold PlOk at y;exact⟨by show((VD n l<|t+d+1).p j).place≠0;omega,o.trans b,m.trans c,k.trans e⟩
def mark_to(h:(Z2 n l).2.2=0){t:Nat}(b:j<R (VD n l t).parts)(a:((VD n l t).p j).marked=true):∀d,t+d<=R l->((VD n l<|t+d).p j).marked=true
 |0,_=>a
 |d+1,hd=>(step_Nx h (i:=t+d) I j (keep_to h b d I).1).1.mkd<|mark_to h b a d I
def good2(h:(Z2 n l).2.2=0):∀t,t<=R l->∀j,j<R (VD n l t).parts->((VD n l t).p j).place=2->((VD n l t).p j).WD=true/\((VD n l t).p j).verdict=0/\((VD n l t).p j).marked=false
 |0,_,j,hj,_=>by
  obtain⟨_,_,e⟩:=Ur<|UP h 0;have:VD n l 0=Z6.init n (ZO n.plan).1:=by show(Z2 n<|l.take 0).1=_;rw[e];rfl
  rw[this]at hj;exact absurd hj<|bπ _
 |t+1,ht,j,hj,h2=>by
  by_cases q:j<R (VD n l t).parts
  ·have x:=(step_Nx h (i:=t) I j q).1;rcases x.gd h2 with⟨a,b⟩|⟨a,b⟩
   ·obtain⟨s,r,o⟩:=good2 h t I j q a;obtain⟨d,c,_⟩:=x.st I;exact⟨d.trans s,c.trans r,b.trans o⟩
   obtain⟨u,m,k,g⟩:=may_1 a;obtain⟨d,c,_⟩:=x.st I;exact⟨d.trans m,c.trans k,b.trans g⟩
  by_cases f:Qf l t=1
  ·have A:=sK h (i:=t) I f;have v:=A.len;obtain rfl:j=R (VD n l t).parts:=I
   rw[A.pl]at h2;cases h2
  rw[step_old h (i:=t) I f]at hj;exact absurd hj q
def good_end(h:(Z2 n l).2.2=0)(k:j<R (Z2 n l).1.parts)(m:((Z2 n l).1.p j).place=2\/Pm ((Z2 n l).1.p j)=true):((Z2 n l).1.p j).WD=true/\((Z2 n l).1.p j).verdict=0/\((Z2 n l).1.p j).marked=false/\((Z2 n l).1.p j).place≠0:=by
 rcases m with e|e
 ·have:=good2 h (R l) (Zq _) j;rw[Al]at this;obtain⟨a,b,c⟩:=this k e;exact⟨a,b,c,I⟩
 obtain⟨o,g,f,d⟩:=may_1 e;exact⟨g,f,d,I⟩
def not_open(h:(Z2 n l).2.2=0)(a:j<R (Z2 n l).1.parts)(b:((Z2 n l).1.p j).place≠0):OQ (Qr<|(Z2 n l).1.p j) false l=true:=by
 have:=(trk h a (R l)<|Zq _).e;rw[List.take_length,Al,Zz a,Zz b]at this;exact this
def devRow_in{t:Nat}{rs:List Range}:∀(c:Nat)(vs:bd),Uo t rs c vs=[]->∀(k:Nat)(b:k<R vs),UR vs[k] (rs.getD (c+k) ⟨0,0⟩)=0
 |c,v::vs,h,k,b=>by
  rw[Uo]at h;obtain⟨a,d⟩:=df.1 h;cases k with
  |zero=>
   unfold S7 at a;split at a
   ·cases a
   rename_i q;exact Zu.1 q
  |succ k=>
   have:=devRow_in (c+1) vs d k (by simpa using b);rw[show c+1+k=c+(k+1)by omega]at this;exact this
def devGo_in{x:Envelope}:∀(t:Nat)(rs:List Row),S9 x t rs=[]->∀(k:Nat)(a:k<R rs),Uo (t+k) (x.rows.getD (t+k) []) 0 rs[k].values=[]
 |t,r::rs,h,k,a=>by
  rw[S9]at h;obtain⟨c,b⟩:=df.1 h;cases k with
  |zero=>exact c
  |succ k=>
   have:=devGo_in (t+1) rs b k (by simpa using a);rw[show t+1+k=t+(k+1)by omega]at this;exact this
def lost_all:∀(i:Nat)(rs:List Row),Vf i rs=[]->∀r∈rs,r.known=true
 |_,[],_,r,a=>by cases a
 |i,x::rs,h,r,a=>by
  rw[Vf]at h;split at h
  ·rename_i q;rcases sf.1 a with rfl|a
   ·exact q
   exact lost_all _ rs h r a
  cases h
def row_at(f:Hj p fr){k:Nat}(c:k<R fr)(b:fr[k].tick=(t:Int)):V4 fr t=⟨true,fr[k].values⟩:=
 Qa fr ⟨false,[]⟩ (λx d e=>by
  obtain⟨a,g,rfl⟩:=dl d;have:=f.2 a k _ _ (Zv g) (Zv c)<|e.trans b.symm;subst this;rfl) (.inr ⟨_,Zt c,b⟩)
def known_frame(h:(V4 fr t).known=true):∃f∈fr,f.tick=(t:Int):=by
 refine aν λq=>?_
 have e:V4 fr t=⟨false,[]⟩:=Nv fr _ λx a e=>q ⟨x,a,e⟩
 rw[e]at h;cases h
def all_ticks(s:Y_ p=0)(g:Hj p fr)(d:∀t:Nat,t<p.ticks.toNat->(V4 fr t).known=true):(R fr:Int)=p.ticks:=by
 have z:=X_ s;have B:R fr<=p.ticks.toNat:=by
  have:=NA p.ticks.toNat (fr.map λf=>f.tick.toNat) (by
   rw[ci,co,aπ];intro i j hi r u e;have a:=(VM<|g.1 _<|Zt hi).1;have b:=(VM<|g.1 _<|Zt r).1;exact absurd (g.2 i j _ _ (Zv hi) (Zv r) I) I) λx m=>by
   obtain⟨f,c,rfl⟩:=rx.1 m;have a:=(VM<|g.1 f c).1;omega
  rw[Zx]at this;exact this
 have A:p.ticks.toNat<=R fr:=by
  have e:∀t:Nat,∃k,t<p.ticks.toNat->∃d:k<R fr,fr[k].tick=(t:Int):=λt=>by
   by_cases q:t<p.ticks.toNat
   ·obtain⟨f,c,e⟩:=known_frame<|d t q;obtain⟨k,d,rfl⟩:=dl c;exact⟨k,λ_=>⟨d,e⟩⟩
   exact⟨0,λh=>absurd h q⟩
  have:=NA (R fr) ((List.range p.ticks.toNat).map λt=>(e t).choose) (by
   rw[ci,co];refine List.Pairwise.imp_of_mem (λ{a b} w v q y=>?_)<|List.pairwise_lt_range (n:=p.ticks.toNat);obtain⟨_,E⟩:=(e a).choose_spec<|ek.1 w;obtain⟨_,D⟩:=(e b).choose_spec<|ek.1 v;have C:fr[(e a).choose].tick=fr[(e b).choose].tick:=by simp only[y]
   omega) λx m=>by
   obtain⟨t,o,rfl⟩:=rx.1 m;exact((e t).choose_spec<|ek.1 o).1
  rw[Zx,List.length_range]at this;exact this
 omega
def verd_good{x:Envelope}(r:Y_ p=0)(y:(Ve p x).2=0)(m:Hj p fr)(C:R fr<=40)(b:Us x (WG p fr)=0):(R fr:Int)=p.ticks/\∀(k:Nat)(v:k<R fr)(c:Nat)(A:c<R fr[k].values),∃(J:fr[k].tick.toNat<R x.rows)(H:c<R x.rows[fr[k].tick.toNat]),x.rows[fr[k].tick.toNat][c].lo<=fr[k].values[c]/\fr[k].values[c]<=x.rows[fr[k].tick.toNat][c].hi:=by
 have B:WG p fr=V1 p fr:=NB<|m.rec r C;rw[B]at b;have F:=X_ r;have z:N_ x (V1 p fr)=[]:=by
  unfold Us at b;by_cases q:R (N_ x<|V1 p fr)≠0
  ·rw[Zn q]at b;cases b
  exact cι.1<|Zu.1 q
 have s:P7 (V1 p fr)=[]:=by
  unfold Us at b;rw[z,Zm λe=>e rfl]at b;by_cases q:R (P7<|V1 p fr)≠0
  ·rw[Zn q]at b;cases b
  exact cι.1<|Zu.1 q
 have u:∀t:Nat,t<p.ticks.toNat->(V4 fr t).known=true:=λt h=>lost_all 0 _ s _<|rx.2 ⟨t,ek.2 h,rfl⟩
 refine⟨all_ticks r m u,λk v c A=>?_⟩;obtain⟨M,L⟩:=VM<|m.1 _<|Zt v;obtain⟨_,_,K,E⟩:=Nk y;have a:fr[k].tick.toNat<R x.rows:=I
 obtain⟨D,_⟩:=E _ a;have d:c<R x.rows[fr[k].tick.toNat]:=by rw[D];omega
 have G:=j9 y _ a c d;have g:R (V1 p fr).rows=p.ticks.toNat:=by unfold V1;simp
 have w:=devGo_in 0 _ z fr[k].tick.toNat (by rw[g];omega);have f:(V1 p fr).rows[fr[k].tick.toNat]'(by rw[g];omega)=⟨true,fr[k].values⟩:=by
  unfold V1;simp only[bκ,List.getElem_range];exact row_at m v I
 rw[f]at w;have o:=devRow_in 0 fr[k].values w c A;rw[wc,wc,getD_at a,getD_at d]at o;refine⟨a,d,?_⟩;unfold UR at o;split at o<;>split at o<;>omega
def end_facts(h:(Z2 n l).2.2=0)(hi:i<R l)(y:j<R (Z2 n l).1.parts)(h0:OQ (Qr<|(Z2 n l).1.p j) false (l.take i)=false)(E:OQ (Qr<|(Z2 n l).1.p j) false (l.take<|i+1)=true)(r:((Z2 n l).1.p j).WD=true)(z:((Z2 n l).1.p j).verdict=0):(Ve (VD n l i).plan (VD n l i).env).2=0/\Hj (VD n l i).plan ((Z2 n l).1.p j).frames/\R ((Z2 n l).1.p j).frames<=12/\Us (VD n l i).env (WG (VD n l i).plan ((Z2 n l).1.p j).frames)=0:=by
 have v:=(trk h y i I).e;have k:=(trk h y (i+1) I).e;rw[h0]at v;rw[E]at k;have k:=k.symm;rw[Zw,de,de]at k;obtain⟨t,s⟩:=k;have a:j<R (VD n l i).parts:=by
  refine aν λq=>?_
  by_cases g:Qf l i=1
  ·have A:=sK h hi g;have F:=A.len;obtain rfl:j=R (VD n l i).parts:=I
   exact s A.pl
  rw[step_old h hi g]at t;exact q t
 have d:((VD n l i).p j).place=0:=by
  refine aν λq=>?_
  rw[Zz a,Zz q]at v;cases v
 have S:=AH h hi;have g:Qf l i=3:=aν λq=>s<|(step_Nx h hi j a).1.zr q d
 obtain⟨u,x⟩:=rR (.inr g) S.ok;have:=under_is h x a d;subst this;have D:=end_place h hi g x;have st:=stay_to h t s (R l - (i+1)) I;rw[show i+1+(R l - (i+1))=R l by omega,Al,D]at st;obtain⟨_,c,b,o⟩:=st;have c:((Z2 n l).1.p u).WD=(VD n l i).YX:=c;have o:((Z2 n l).1.p u).frames=((VD n l i).p u).frames:=o;have b:((Z2 n l).1.p u).verdict=if(VD n l i).YX=true then(if Xa (VD n l i).plan (VD n l i).env (WG (VD n l i).plan ((VD n l i).p u).frames)=0 then Us (VD n l i).env (WG (VD n l i).plan ((VD n l i).p u).frames)else 0)else if WX (VD n l i).plan ((VD n l i).p u)=true then((VD n l i).p u).verdict else 1:=b
 rw[r]at c;rw[z,←c,Zn rfl]at b;have B:0<R (VD n l i).env.rows:=by
  have:=S.hs.lrn;rw[←c]at this;exact pf this.symm
 have w:=S.hs.env B;have m:Hj (VD n l i).plan ((VD n l i).p u).frames:=by
  rw[Qp<|Zv a];exact S.hs.fr _<|Zt a
 have f:=EY S.hs.pl m;have C:Xa (VD n l i).plan (VD n l i).env (WG (VD n l i).plan ((VD n l i).p u).frames)=0:=by
  rw[NB<|m.rec S.hs.pl I];unfold Xa;rw[Zm (by rw[S.hs.pl];decide),Zm<|by rw[w];decide];exact(Nr S.hs.pl m.1).1
 rw[Zn C]at b;rw[o];exact⟨w,m,f,b.symm⟩
def mark_line{t:ba}(c:X2 (ZQ 32 t).1=some 8)(h:(Yn t).2=true)(b:(ZQ 32 t).2.2=true):Wn (t.drop 5) 7=((Yn t).1.num,true):=by
 have a:(ZQ 32 t).1=Z4[8]:=(fT c).2;have e:Yn t=(⟨(ZQ 32 t).1,[],[],(ZQ 32 t).2.1,(Ut (ZQ 32 t).2.1).1⟩,(Ut (ZQ 32 t).2.1).2):=by
  unfold Yn;dsimp only;rw[a];rfl
 have d:t.drop 5=(ZQ 32 t).2.1:=by
  have:=cut_eq b;rw[a]at this
  conv=>lhs;rw[this]
  rfl
 rw[e]at h⊢;have h:((Wn (ZQ 32 t).2.1 7).2&&decide ((ZQ 32 t).2.1.head?≠some 45))=true:=h;rw[Zw]at h;rw[d];exact dt rfl h.1
def mark_fact(h:(Z2 n l).2.2=0)(hi:i<R l)(m:Qf l i=8):Wm n l (Gt l i).num=0/\(G1 n l (Gt l i).num).marked=true/\(G1 n l (Gt l i).num).place≠2:=by
 have S:=AH h hi;obtain⟨v,u⟩:=S.next;have f:(YJ (VD n l i) (Gt l i).num WU).2=0:=by have:=S.ok;rw[m]at this;exact this
 obtain⟨a,o,h0,e⟩:=about_ok f;have c:=o9 o;have g:((VD n l<|i+1).p a).marked=true:=by
  rw[u,m];show((YJ (VD n l i) (Gt l i).num WU).1.p a).marked=true;rw[e,Jl];unfold WU at h0⊢;split
  ·dsimp only;rw[xR _ _ _ c,Zn rfl]
  rename_i q;rw[Zm q]at h0;exact absurd h0 F
 have d:a<R (VD n l<|i+1).parts:=rp c (step_keep h hi).1;have k:=j7 h (t:=i) I c;have b:=mark_to h d g (R l - (i+1)) I;rw[show i+1+(R l - (i+1))=R l by omega,Al]at b;obtain⟨s,r⟩:=b8 h k.1;rw[k.2.num,iZ o]at s r;rw[r];refine⟨s,b,λq=>?_⟩;have:=good2 h (R l) (Zq _) a;rw[Al]at this;have:=(this k.1 q).2.2;rw[b]at this;cases this
def may_found(h:(Z2 n l).2.2=0)(c:j<R (Z2 n l).1.parts):fX n l ((Z2 n l).1.p j).num=Pm ((Z2 n l).1.p j):=by
 obtain⟨a,b⟩:=b8 h c;unfold fX;unfold G1 at b;rw[Zm<|Zp a]at b⊢;rw[b]
end
def good_plan(h:(Z2 n l).2.2=0)(i:Nat):(VD n l i).plan=(ZO n.plan).1:=(sH<|UP h i).2
set_option maxHeartbeats 4000000 in
def law_RecordGood:Q7 prog 6 [.agg n.cs,.sl<|l.map Entry.cs]<|.bool true:=by
 refine cT func6 O λhT=>?_
 refine ro 9 O<|kc (S.Xo Bp hT call10 .none O .nil O)<|kc (S.not .none O<|zt O)<|rr 9 O<|kc (zK (tK (n:=n)) call11 O)<|kc (S.not .none O<|zt O)<|jm O<|RK.split (t:=30) O (λg30=>?_) λg30=>?_
 ·refine rr 18 O<|kR O O ?_;rfl
 refine kc (S.move (zg O O) O<|zt O)<|kc (S.call (C2 (l:=l)) call12 (zg O O) O (zc O .nil) O)<|kc (S.not (zg O O) O<|zt O)<|rr 2 O<|RK.split (t:=35) O (λg35=>?_) λg35=>?_
 ·refine rr 13 O<|kR O O ?_;rfl
 have U:NK n=true:=by simpa using g30
 have hsl:Xv l=true:=by simpa using g35
 obtain⟨hl1,hl2⟩:=mN U;obtain⟨hll,hlt⟩:=dz hsl;have P:∀y∈l,R y.text<=100000:=λy hy=>by have:=hlt y hy;omega
 refine rr 2 O<|kc (S.call (G9 (n:=n) (l:=l) I P) call18 (zg O O) O (zc O<|zc O .nil) O) ?_;refine rr 4 O<|kB O (λc40=>?_) λc40=>?_
 ·refine ro 5 O<|kR O O ?_;rfl
 have h0:(Z2 n l).2.2=0:=Zu.1 c40;have hb:Xi n l=(Z2 n l).1.st:=xT<|Zp h0;have hlp:=(F5 h0).inv.lp;have hln:R (Xi n l).parts=R (Z2 n l).1.parts:=by rw[hb];exact Zx ..
 obtain⟨hS0,z⟩:=J6 (Ur h0).1;have hpq:=X_<|Sx z;have hpt:1<=(ZO n.plan).1.ticks/\(ZO n.plan).1.ticks<=12:=by omega
 refine ro 5 O<|kc (zK (Tj (n:=n) I) call14 O)<|jm O<|kc (zK (S8 (l:=l) I) call15 O)<|kc (S.Xo (r_ (n:=n) (l:=l) I<|An P) hT call32 .none O (zc O<|zc O .nil) O) ?_;refine rr 10 O ?_;rw[h0];refine ro 4 O<|RK.ZS (t:=51) O (λg51=>?_) λg51=>?_
 ·exact absurd rfl g51
 refine rr 2 O<|kc (S.OF V6 (zg O O) O<|zt O)<|rr 4 O<|kB O (λc56=>?_) λc56=>?_
 ·exfalso;omega
 refine ro 9 O ?_;refine OK.loop (G:=Nat) [2,5] (λi=>[(1,.sl<|l.map Entry.cs),(2,.ptr 2 0),(1002,.box n.cs),(5,.ptr 5 0),(1005,.box (Xi n l).cs),(7,bv i)]) (λi=>i<=R (Xi n l).parts) (λi=>R (Xi n l).parts - i) 0 (Zr _) ⟨O,O,O,O,O,O,Zo⟩ (λ_=>O) ?_;rintro i hi;refine ro 6 O<|kc (zk V6 O)<|rr 3 O<|kB O (λc61=>?_) λc61=>?_
 ·have Q:i<R (Xi n l).parts:=by omega
  have hj:i<R (Z2 n l).1.parts:=by omega
  have w:=back_part h0 Q;have hPl:=replay_Pl h0 i hj;obtain⟨hpf1,hpf2⟩:=b8 h0 hj;have hmf:=may_found h0 hj;obtain⟨hr12,hc12⟩:=part_len h0 hj;have hPn:=(e_ h0).2 i hj;rw[←w]at hpf1 hmf hPl hr12 hc12 hPn;have hil0:=OE<|mn (Xi n l).parts[i].num I;have hSt:((((([115,116,97,114,116,32]++Lib.itoa (Xi n l).parts[i].num)++[32])++(Xi n l).parts[i].Yr)++[32])++(Xi n l).parts[i].Yb)=(Qr (Xi n l).parts[i]):=by simp[Qr]
  refine ro 9 O<|kc (zI V6 O I O) ?_;refine rr 6 O<|kV (.c (zL Pn O O O O)<|.c (zK (Tj (n:=n) I) call14 O)<|.c (zm O)<|.c (zK (S8 (l:=l) I) call15 O)<|.c (zf vp O)<|.c (zl YK O O O O)<|.c (S.Xo (rec_MayLeave (n:=n) (l:=l) (num:=(Xi n l).parts[i].num) I<|An P) hT call16 .none O (zc O<|zc O<|zc O .nil) O)<|.c (zm O)<|.c (zX O O O)<|.c (zX O O O)<|.c (za O)<|.c (za O) .nil) ?_;refine rd 3 O ?_;rw[hmf,hpf1];refine ro 4 O<|RK.ZS (t:=81) O (λg81=>?_) λg81=>?_
  ·exact absurd rfl g81
  refine rr 2 O<|RK.split (t:=83) O (λg83=>?_) λg83=>?_
  ·refine rr 6 O<|RK.ZS (t:=89) O (λg89=>?_) λg89=>?_
   ·exact absurd (may_1 g83).1 g89
   refine rr 2 O<|kc (S.call (Y4 (n:=(Xi n l).parts[i].place) (lo:=0) (hi:=4)) call33 (zg O O) O (zc O<|zC O<|zD O) O)<|kc (S.Xb (zg O O) O<|zt O)<|rr 3 O<|kB O (λc94=>?_) λc94=>?_
   ·exfalso;omega
   refine OK.skip<|Ab.D.code<|OK.join (G:=Unit) [2,5,8] (λ_=>[(1,.sl<|l.map Entry.cs),(2,.ptr 2 0),(1002,.box n.cs),(5,.ptr 5 0),(1005,.box (Xi n l).cs),(7,bv i),(8,.ptr 8 0),(1008,.box (Xi n l).parts[i].cs)]) (λ_=>(Xi n l).parts[i].place=2\/Pm (Xi n l).parts[i]=true) (λ_=>O) ?_ ?_
   ·refine ro 6 O<|RK.ZS (t:=98) O (λV=>?_) λV=>?_
    ·refine kc (S.move (zg O O) O<|zt O)<|kc (S.not (zg O O) O<|zt O)<|rr 3 O<|OK.cond O O (λo=>?_) λo=>?_
     ·refine Ro 7 O I<|Ab.D.lp ⟨i+1,I,I,O,O,O,O,O,O,Zo⟩
     refine OK.skip (Ab.D.lp ⟨(),(by first|exact .inr (by simpa using o)|exact .inl<|Zu.1 V),O,O,O,O,O,O,O,O,Zo⟩)
    refine rr 7 O ?_;refine Ab.D.lp ⟨(),(by first|exact .inr (by simpa using o)|exact .inl<|Zu.1 V),O,O,O,O,O,O,O,O,Zo⟩
   rintro _ hG;rw[w]at hG;obtain⟨B,A,hG3,hG4⟩:=good_end h0 hj hG;have Z:=not_open h0 hj hG4;rw[←w]at B A hG3 Z;refine ro 5 O<|kc (S.not .none O<|zt O)<|jm O<|RK.split (t:=105) O (λh=>?_) λh=>?_
   ·rw[B]at h;cases h
   refine rr 4 O<|RK.split (t:=109) O (λg=>?_) λg=>?_
   ·rw[hG3]at g;cases g
   refine rr 6 O<|kB O (λM=>?_) λM=>?_
   ·exact absurd A M
   refine ro 3 O ?_;refine kV (.c (zf vp O)<|.c (zl YK O O O O)<|.c (zK r7 call34 O)<|.c (S.sJ .none O (.Vh (l:=[115,116,97,114,116,32]) O C) (zt O)<|by simp only[Zs,tt,aυ];omega)<|.c (S.sJ .none O (zt O) (.Vh (l:=[32]) O C)<|by simp only[Zs,tt,aυ];omega)<|.c (zf TK O)<|.c (zf CU O)<|.c (zl T6 O O O O)<|.c (S.sJ .none O (zt O) (zt O)<|by simp only[Zs,tt,aυ];omega)<|.c (S.sJ .none O (zt O) (.Vh (l:=[32]) O C)<|by simp only[Zs,tt,aυ];omega)<|.c (zf Gy O)<|.c (zl T6 O O O O)<|.c (S.sJ .none O (zt O) (zt O)<|by simp only[Zs,tt,aυ];omega)<|.c (za O) .nil) ?_;refine Ab.D.code<|kO ?_;rw[hSt];refine ro 4 O ?_;refine OK.join (G:=Nat) [2,5,8] (λe=>[(1,.sl<|l.map Entry.cs),(2,.ptr 2 0),(1002,.box n.cs),(5,.ptr 5 0),(1005,.box (Xi n l).cs),(7,bv i),(8,.ptr 8 0),(1008,.box (Xi n l).parts[i].cs),(11,.str<|Qr (Xi n l).parts[i]),(12,bv e)]) (λe=>e<=R l/\OQ (Qr (Xi n l).parts[i]) false (l.take e)=false/\(e<R l->OQ (Qr (Xi n l).parts[i]) false (l.take<|e+1)=true)) (λ_=>O) ?_ ?_
   ·refine OK.block<|OK.loop (G:=Nat) [2,5,8] (λe=>[(1,.sl<|l.map Entry.cs),(2,.ptr 2 0),(1002,.box n.cs),(5,.ptr 5 0),(1005,.box (Xi n l).cs),(7,bv i),(8,.ptr 8 0),(1008,.box (Xi n l).parts[i].cs),(11,.str<|Qr (Xi n l).parts[i]),(12,bv e)]) (λe=>e<=R l/\OQ (Qr (Xi n l).parts[i]) false (l.take e)=false) (λe=>R l - e) 0 ⟨Zr _,O⟩ ⟨O,O,O,O,O,O,O,O,O,O,Zo⟩ (λ_=>O) ?_;rintro e ⟨he,a⟩;refine ro 5 O<|kc (zk Vy O)<|rr 2 O<|RK.ZS (t:=131) O (λg131=>?_) λg131=>?_
    ·refine Rr 4 O I<|kc (S.call (law10_ended (l:=l) (u:=e+1) (s:=(Qr (Xi n l).parts[i])) I) call35 (zg O O) O (zc O<|zc O<|zc O .nil) O)<|kc (S.not (zg O O) O<|zt O) ?_;refine rr 3 O<|OK.cond O O (λm=>?_) λm=>?_
     ·have hE:OQ (Qr (Xi n l).parts[i]) false (l.take<|e+1)=false:=by simpa using m
      refine Ro 9 O I (Ab.D.lp ⟨e+1,⟨by omega,hE⟩,I,O,O,O,O,O,O,O,O,O,O,Zo⟩)
     have hX:e<R l->OQ (Qr (Xi n l).parts[i]) false (l.take<|e+1)=true:=λ_=>by simpa using m
     refine OK.exit O<|Ab.D.lp ⟨e,⟨he,a,hX⟩,O,O,O,O,O,O,O,O,O,O,Zo⟩
    have hX:e<R l->OQ (Qr (Xi n l).parts[i]) false (l.take<|e+1)=true:=λq=>absurd q I
    refine rr 11 O (Ab.D.lp ⟨e,⟨he,a,hX⟩,O,O,O,O,O,O,O,O,O,O,Zo⟩)
   rintro e ⟨he,a,he1⟩;refine ro 5 O<|kc (zk Vy O)<|rr 3 O<|kB O (λc144=>?_) λc144=>?_
   ·obtain rfl:e=R l:=by omega
    rw[List.take_length,Z]at a;cases a
   have hel:e<R l:=by omega
   have he2:=he1 hel;rw[w]at a he2 B A;obtain⟨N,r,hf12,Y⟩:=end_facts h0 hel hj a he2 B A;rw[good_plan h0 e]at N r Y;obtain⟨W,X⟩:=verd_good (Sx z) N r I Y;have U:eo (ZO n.plan).1 ((Z2 n l).1.p i).frames=0:=by rw[←recErr_eq (Sx z)];exact r.rec (Sx z) I
   have hfr:=λf hf=>VM<|r.1 f hf
   rw[←w]at U W X hfr;have hbe:Xi n (l.take e)=(VD n l e).st:=xT<|Zp<|UP h0 e;have hte:=UP h0 e;refine ro 3 O ?_;refine kV (.c (zL Pn O O O O)<|.c (zK (Tj (n:=n) I) call14 O)<|.c (zm O)<|.c (zm O)<|.c (S.slice (hi:=e) (l':=l.take e) Vy (λ_=>O) .none O (zt O) (.inl ⟨O,O,O⟩) (.inr ⟨_,_,O,(zt O),O⟩) I I<|by rw[aα])<|.c (zK (S8 (l:=l.take e)<|by rw[sc];omega) call15 O)<|.c (S.Xo (r_ (n:=n) (l:=l.take e) I<|(An P).take e) hT call32 .none O (zc O<|zc O .nil) O)<|.c (zm O)<|.c (zX O O O)<|.c (zX O O O)<|.c (zA (c:=13) ga O)<|.c (zS Zk O O O O O O)<|.c (za O) .nil) ?_;refine Ab.D.code<|kO ?_;rw[hbe,hte];refine ro 3 O<|kc (zK (P4 (l:=n.plan) I) call36 O) ?_;refine rr 10 O ?_;rw[z];refine ro 4 O<|RK.ZS (t:=163) O (λJ=>?_) λJ=>?_
   ·exact absurd rfl J
   refine rr 4 O<|RK.ZS (t:=167) O (λH=>?_) λH=>?_
   ·exact absurd rfl H
   refine rr 3 O<|kc (S.call (ref_EnvelopeErr (p:=(ZO n.plan).1) (x:=(VD n l e).env)) call37 (zg O O) O (zc O<|zc O .nil) O)<|rr 3 O<|RK.ZS (t:=174) O (λF=>?_) λF=>?_
   ·exact absurd N F
   refine rr 3 O<|kc (S.call (ref_FramesErr (p:=(ZO n.plan).1) (l:=(Xi n l).parts[i].frames) hpt) call38 (zg O O) O (zc O<|zc O .nil) O)<|rr 3 O<|RK.ZS (t:=181) O (λE=>?_) λE=>?_
   ·exact absurd U E
   refine rr 2 O<|kc (S.OF Rh (zg O O) O<|zt O)<|rr 6 O<|kB O (λL=>?_) λL=>?_
   ·exact absurd W L
   refine ro 8 O ?_;refine OK.loop (G:=Nat) [2,5,8,13] (λk=>[(1,.sl<|l.map Entry.cs),(2,.ptr 2 0),(1002,.box n.cs),(5,.ptr 5 0),(1005,.box (Xi n l).cs),(7,bv i),(8,.ptr 8 0),(1008,.box (Xi n l).parts[i].cs),(13,.ptr 13 0),(1013,.box (VD n l e).st.cs),(17,bv k)]) (λk=>k<=R (Xi n l).parts[i].frames) (λk=>R (Xi n l).parts[i].frames - k) 0 (Zr _) ⟨O,O,O,O,O,O,O,O,O,O,O,Zo⟩ (λ_=>O) ?_;rintro k hk;refine ro 6 O<|kc (zk Rh O)<|rr 3 O<|kB O (λc193=>?_) λc193=>?_
   ·have b:k<R (Xi n l).parts[i].frames:=by omega
    obtain⟨htk0,hvn⟩:=hfr _<|Zt b;have htk:(Xi n l).parts[i].frames[k].tick=((Xi n l).parts[i].frames[k].tick.toNat:Int):=by omega
    refine ro 10 O ?_;refine OK.loop (G:=Nat) [2,5,8,13] (λc=>[(1,.sl<|l.map Entry.cs),(2,.ptr 2 0),(1002,.box n.cs),(5,.ptr 5 0),(1005,.box (Xi n l).cs),(7,bv i),(8,.ptr 8 0),(1008,.box (Xi n l).parts[i].cs),(13,.ptr 13 0),(1013,.box (VD n l e).st.cs),(17,bv k),(18,bv c)]) (λc=>c<=R (Xi n l).parts[i].frames[k].values) (λc=>R (Xi n l).parts[i].frames[k].values - c) 0 (Zr _) ⟨O,O,O,O,O,O,O,O,O,O,O,O,Zo⟩ (λ_=>O) ?_;rintro c hc;refine ro 7 O<|kc (zI Rh O b O)<|rr 2 O<|kc (zk Ym O)<|rr 3 O<|kB O (λc204=>?_) λc204=>?_
    ·have hcl:c<R (Xi n l).parts[i].frames[k].values:=by omega
     obtain⟨hv1,hv2,hv3⟩:=X k b c hcl;refine ro 5 O<|kV (.c (zf Ay O)<|.c (zf Nl O)<|.c (zl xS O O O O)<|.c (zf VC O)<|.c (zl Qq O O O O)<|.c (zm O)<|.c (zI Rh O b O)<|.c (S.field G7 .none O (zt O) O)<|.c (zV YK O O)<|.c (S.Zi (n:=(Xi n l).parts[i].frames[k].tick.toNat) Gx .none O (zt O) (zt O) htk hv1 O)<|.c (zV f_ O O)<|.c (zm O)<|.c (zI vq O hv2 O)<|.c (S.Vj kK .none O (zt O) O O)<|.c (zA (c:=19) ze24 O)<|.c (zS kK O O O O O O) .nil)<|Ab.D.code<|kO<|kV (.c (zf VC O)<|.c (zl Qq O O O O)<|.c (zm O)<|.c (zI Rh O b O)<|.c (S.field OI .none O (zt O) O)<|.c (zV Vr O O)<|.c (zm O)<|.c (zI Ym O hcl O)<|.c (zV YK O O)<|.c (zf UT O)<|.c (zl YK O O O O)<|.c (zf TI O)<|.c (zl YK O O O O)<|.c (zK (Y4 (n:=(Xi n l).parts[i].frames[k].values[c]) (lo:=((VD n l e).env.rows[(Xi n l).parts[i].frames[k].tick.toNat])[c].lo) (hi:=((VD n l e).env.rows[(Xi n l).parts[i].frames[k].tick.toNat])[c].hi)) call33 O)<|.c (S.Xb .none O<|zt O) .nil)<|Ab.D.code<|kB O (λK=>?_) λK=>?_
     ·exact absurd hv3 K
     refine Ro 8 O I<|Ab.D.lp ⟨c+1,I,I,O,O,O,O,O,O,O,O,O,O,O,O,Zo⟩
    refine Ro 8 O I<|Ab.D.lp ⟨k+1,I,I,O,O,O,O,O,O,O,O,O,O,O,Zo⟩
   refine Ro 8 O I<|Ab.D.lp ⟨i+1,I,I,O,O,O,O,O,O,Zo⟩
  refine rr 8 O<|kc (S.call (Y4 (n:=(Xi n l).parts[i].place) (lo:=0) (hi:=4)) call33 (zg O O) O (zc O<|zC O<|zD O) O)<|kc (S.Xb (zg O O) O<|zt O)<|rr 3 O<|kB O (λc94=>?_) λc94=>?_
  ·exfalso;omega
  refine OK.skip<|Ab.D.code<|OK.join (G:=Unit) [2,5,8] (λ_=>[(1,.sl<|l.map Entry.cs),(2,.ptr 2 0),(1002,.box n.cs),(5,.ptr 5 0),(1005,.box (Xi n l).cs),(7,bv i),(8,.ptr 8 0),(1008,.box (Xi n l).parts[i].cs)]) (λ_=>(Xi n l).parts[i].place=2\/Pm (Xi n l).parts[i]=true) (λ_=>O) ?_ ?_
  ·refine ro 6 O<|RK.ZS (t:=98) O (λV=>?_) λV=>?_
   ·refine kc (S.move (zg O O) O<|zt O)<|kc (S.not (zg O O) O<|zt O)<|rr 3 O<|OK.cond O O (λo=>?_) λo=>?_
    ·refine Ro 7 O I<|Ab.D.lp ⟨i+1,I,I,O,O,O,O,O,O,Zo⟩
    refine OK.skip (Ab.D.lp ⟨(),(by first|exact .inr (by simpa using o)|exact .inl<|Zu.1 V),O,O,O,O,O,O,O,O,Zo⟩)
   refine rr 7 O ?_;refine Ab.D.lp ⟨(),(by first|exact .inr (by simpa using o)|exact .inl<|Zu.1 V),O,O,O,O,O,O,O,O,Zo⟩
  rintro _ hG;rw[w]at hG;obtain⟨B,A,hG3,hG4⟩:=good_end h0 hj hG;have Z:=not_open h0 hj hG4;rw[←w]at B A hG3 Z;refine ro 5 O<|kc (S.not .none O<|zt O)<|jm O<|RK.split (t:=105) O (λh=>?_) λh=>?_
  ·rw[B]at h;cases h
  refine rr 4 O<|RK.split (t:=109) O (λg=>?_) λg=>?_
  ·rw[hG3]at g;cases g
  refine rr 6 O<|kB O (λM=>?_) λM=>?_
  ·exact absurd A M
  refine ro 3 O ?_;refine kV (.c (zf vp O)<|.c (zl YK O O O O)<|.c (zK r7 call34 O)<|.c (S.sJ .none O (.Vh (l:=[115,116,97,114,116,32]) O C) (zt O)<|by simp only[Zs,tt,aυ];omega)<|.c (S.sJ .none O (zt O) (.Vh (l:=[32]) O C)<|by simp only[Zs,tt,aυ];omega)<|.c (zf TK O)<|.c (zf CU O)<|.c (zl T6 O O O O)<|.c (S.sJ .none O (zt O) (zt O)<|by simp only[Zs,tt,aυ];omega)<|.c (S.sJ .none O (zt O) (.Vh (l:=[32]) O C)<|by simp only[Zs,tt,aυ];omega)<|.c (zf Gy O)<|.c (zl T6 O O O O)<|.c (S.sJ .none O (zt O) (zt O)<|by simp only[Zs,tt,aυ];omega)<|.c (za O) .nil) ?_;refine Ab.D.code<|kO ?_;rw[hSt];refine ro 4 O ?_;refine OK.join (G:=Nat) [2,5,8] (λe=>[(1,.sl<|l.map Entry.cs),(2,.ptr 2 0),(1002,.box n.cs),(5,.ptr 5 0),(1005,.box (Xi n l).cs),(7,bv i),(8,.ptr 8 0),(1008,.box (Xi n l).parts[i].cs),(11,.str<|Qr (Xi n l).parts[i]),(12,bv e)]) (λe=>e<=R l/\OQ (Qr (Xi n l).parts[i]) false (l.take e)=false/\(e<R l->OQ (Qr (Xi n l).parts[i]) false (l.take<|e+1)=true)) (λ_=>O) ?_ ?_
  ·refine OK.block<|OK.loop (G:=Nat) [2,5,8] (λe=>[(1,.sl<|l.map Entry.cs),(2,.ptr 2 0),(1002,.box n.cs),(5,.ptr 5 0),(1005,.box (Xi n l).cs),(7,bv i),(8,.ptr 8 0),(1008,.box (Xi n l).parts[i].cs),(11,.str<|Qr (Xi n l).parts[i]),(12,bv e)]) (λe=>e<=R l/\OQ (Qr (Xi n l).parts[i]) false (l.take e)=false) (λe=>R l - e) 0 ⟨Zr _,O⟩ ⟨O,O,O,O,O,O,O,O,O,O,Zo⟩ (λ_=>O) ?_;rintro e ⟨he,a⟩;refine ro 5 O<|kc (zk Vy O)<|rr 2 O<|RK.ZS (t:=131) O (λg131=>?_) λg131=>?_
   ·refine Rr 4 O I<|kc (S.call (law10_ended (l:=l) (u:=e+1) (s:=(Qr (Xi n l).parts[i])) I) call35 (zg O O) O (zc O<|zc O<|zc O .nil) O)<|kc (S.not (zg O O) O<|zt O) ?_;refine rr 3 O<|OK.cond O O (λm=>?_) λm=>?_
    ·have hE:OQ (Qr (Xi n l).parts[i]) false (l.take<|e+1)=false:=by simpa using m
     refine Ro 9 O I (Ab.D.lp ⟨e+1,⟨by omega,hE⟩,I,O,O,O,O,O,O,O,O,O,O,Zo⟩)
    have hX:e<R l->OQ (Qr (Xi n l).parts[i]) false (l.take<|e+1)=true:=λ_=>by simpa using m
    refine OK.exit O<|Ab.D.lp ⟨e,⟨he,a,hX⟩,O,O,O,O,O,O,O,O,O,O,Zo⟩
   have hX:e<R l->OQ (Qr (Xi n l).parts[i]) false (l.take<|e+1)=true:=λq=>absurd q I
   refine rr 11 O (Ab.D.lp ⟨e,⟨he,a,hX⟩,O,O,O,O,O,O,O,O,O,O,Zo⟩)
  rintro e ⟨he,a,he1⟩;refine ro 5 O<|kc (zk Vy O)<|rr 3 O<|kB O (λc144=>?_) λc144=>?_
  ·obtain rfl:e=R l:=by omega
   rw[List.take_length,Z]at a;cases a
  have hel:e<R l:=by omega
  have he2:=he1 hel;rw[w]at a he2 B A;obtain⟨N,r,hf12,Y⟩:=end_facts h0 hel hj a he2 B A;rw[good_plan h0 e]at N r Y;obtain⟨W,X⟩:=verd_good (Sx z) N r I Y;have U:eo (ZO n.plan).1 ((Z2 n l).1.p i).frames=0:=by rw[←recErr_eq (Sx z)];exact r.rec (Sx z) I
  have hfr:=λf hf=>VM<|r.1 f hf
  rw[←w]at U W X hfr;have hbe:Xi n (l.take e)=(VD n l e).st:=xT<|Zp<|UP h0 e;have hte:=UP h0 e;refine ro 3 O ?_;refine kV (.c (zL Pn O O O O)<|.c (zK (Tj (n:=n) I) call14 O)<|.c (zm O)<|.c (zm O)<|.c (S.slice (hi:=e) (l':=l.take e) Vy (λ_=>O) .none O (zt O) (.inl ⟨O,O,O⟩) (.inr ⟨_,_,O,(zt O),O⟩) I I<|by rw[aα])<|.c (zK (S8 (l:=l.take e)<|by rw[sc];omega) call15 O)<|.c (S.Xo (r_ (n:=n) (l:=l.take e) I<|(An P).take e) hT call32 .none O (zc O<|zc O .nil) O)<|.c (zm O)<|.c (zX O O O)<|.c (zX O O O)<|.c (zA (c:=13) ga O)<|.c (zS Zk O O O O O O)<|.c (za O) .nil) ?_;refine Ab.D.code<|kO ?_;rw[hbe,hte];refine ro 3 O<|kc (zK (P4 (l:=n.plan) I) call36 O) ?_;refine rr 10 O ?_;rw[z];refine ro 4 O<|RK.ZS (t:=163) O (λJ=>?_) λJ=>?_
  ·exact absurd rfl J
  refine rr 4 O<|RK.ZS (t:=167) O (λH=>?_) λH=>?_
  ·exact absurd rfl H
  refine rr 3 O<|kc (S.call (ref_EnvelopeErr (p:=(ZO n.plan).1) (x:=(VD n l e).env)) call37 (zg O O) O (zc O<|zc O .nil) O)<|rr 3 O<|RK.ZS (t:=174) O (λF=>?_) λF=>?_
  ·exact absurd N F
  refine rr 3 O<|kc (S.call (ref_FramesErr (p:=(ZO n.plan).1) (l:=(Xi n l).parts[i].frames) hpt) call38 (zg O O) O (zc O<|zc O .nil) O)<|rr 3 O<|RK.ZS (t:=181) O (λE=>?_) λE=>?_
  ·exact absurd U E
  refine rr 2 O<|kc (S.OF Rh (zg O O) O<|zt O)<|rr 6 O<|kB O (λL=>?_) λL=>?_
  ·exact absurd W L
  refine ro 8 O ?_;refine OK.loop (G:=Nat) [2,5,8,13] (λk=>[(1,.sl<|l.map Entry.cs),(2,.ptr 2 0),(1002,.box n.cs),(5,.ptr 5 0),(1005,.box (Xi n l).cs),(7,bv i),(8,.ptr 8 0),(1008,.box (Xi n l).parts[i].cs),(13,.ptr 13 0),(1013,.box (VD n l e).st.cs),(17,bv k)]) (λk=>k<=R (Xi n l).parts[i].frames) (λk=>R (Xi n l).parts[i].frames - k) 0 (Zr _) ⟨O,O,O,O,O,O,O,O,O,O,O,Zo⟩ (λ_=>O) ?_;rintro k hk;refine ro 6 O<|kc (zk Rh O)<|rr 3 O<|kB O (λc193=>?_) λc193=>?_
  ·have b:k<R (Xi n l).parts[i].frames:=by omega
   obtain⟨htk0,hvn⟩:=hfr _<|Zt b;have htk:(Xi n l).parts[i].frames[k].tick=((Xi n l).parts[i].frames[k].tick.toNat:Int):=by omega
   refine ro 10 O ?_;refine OK.loop (G:=Nat) [2,5,8,13] (λc=>[(1,.sl<|l.map Entry.cs),(2,.ptr 2 0),(1002,.box n.cs),(5,.ptr 5 0),(1005,.box (Xi n l).cs),(7,bv i),(8,.ptr 8 0),(1008,.box (Xi n l).parts[i].cs),(13,.ptr 13 0),(1013,.box (VD n l e).st.cs),(17,bv k),(18,bv c)]) (λc=>c<=R (Xi n l).parts[i].frames[k].values) (λc=>R (Xi n l).parts[i].frames[k].values - c) 0 (Zr _) ⟨O,O,O,O,O,O,O,O,O,O,O,O,Zo⟩ (λ_=>O) ?_;rintro c hc;refine ro 7 O<|kc (zI Rh O b O)<|rr 2 O<|kc (zk Ym O)<|rr 3 O<|kB O (λc204=>?_) λc204=>?_
   ·have hcl:c<R (Xi n l).parts[i].frames[k].values:=by omega
    obtain⟨hv1,hv2,hv3⟩:=X k b c hcl;refine ro 5 O<|kV (.c (zf Ay O)<|.c (zf Nl O)<|.c (zl xS O O O O)<|.c (zf VC O)<|.c (zl Qq O O O O)<|.c (zm O)<|.c (zI Rh O b O)<|.c (S.field G7 .none O (zt O) O)<|.c (zV YK O O)<|.c (S.Zi (n:=(Xi n l).parts[i].frames[k].tick.toNat) Gx .none O (zt O) (zt O) htk hv1 O)<|.c (zV f_ O O)<|.c (zm O)<|.c (zI vq O hv2 O)<|.c (S.Vj kK .none O (zt O) O O)<|.c (zA (c:=19) ze24 O)<|.c (zS kK O O O O O O) .nil)<|Ab.D.code<|kO<|kV (.c (zf VC O)<|.c (zl Qq O O O O)<|.c (zm O)<|.c (zI Rh O b O)<|.c (S.field OI .none O (zt O) O)<|.c (zV Vr O O)<|.c (zm O)<|.c (zI Ym O hcl O)<|.c (zV YK O O)<|.c (zf UT O)<|.c (zl YK O O O O)<|.c (zf TI O)<|.c (zl YK O O O O)<|.c (zK (Y4 (n:=(Xi n l).parts[i].frames[k].values[c]) (lo:=((VD n l e).env.rows[(Xi n l).parts[i].frames[k].tick.toNat])[c].lo) (hi:=((VD n l e).env.rows[(Xi n l).parts[i].frames[k].tick.toNat])[c].hi)) call33 O)<|.c (S.Xb .none O<|zt O) .nil)<|Ab.D.code<|kB O (λK=>?_) λK=>?_
    ·exact absurd hv3 K
    refine Ro 8 O I<|Ab.D.lp ⟨c+1,I,I,O,O,O,O,O,O,O,O,O,O,O,O,Zo⟩
   refine Ro 8 O I<|Ab.D.lp ⟨k+1,I,I,O,O,O,O,O,O,O,O,O,O,O,Zo⟩
  refine Ro 8 O I<|Ab.D.lp ⟨i+1,I,I,O,O,O,O,O,O,Zo⟩
 refine ro 9 O ?_;refine OK.loop (G:=Nat) [2] (λi=>[(1,.sl<|l.map Entry.cs),(2,.ptr 2 0),(1002,.box n.cs),(20,bv i)]) (λi=>i<=R l) (λi=>R l - i) 0 (Zr _) ⟨O,O,O,O,Zo⟩ (λ_=>O) ?_;rintro i hi;refine ro 5 O<|kc (zk Vy O)<|rr 3 O<|kB O (λc239=>?_) λc239=>?_
 ·have Q:i<R l:=by omega
  refine ro 8 O<|kc (zI Vy O Q O)<|rr 2 O<|kc (zK (xW (s:=l[i].text) (v:=[109,97,114,107,32])) call39 O)<|kD<|kB O (λc247=>?_) λc247=>?_
  ·have T:=dA h0 Q;have hk8:Qf l i=8:=pf<|(T.beg (j:=8) C C).symm.trans<|Zz c247;have hl5:5<=R l[i].text:=by have:=rn List.length c247;rw[sc]at this;simp at this;omega
   have hvx:=T.vx;rw[hk8]at hvx;have hnb:=mark_line hvx T.ok<|T.more I;rw[←T.ln]at hnb;obtain⟨hm1,hm2,hm3⟩:=mark_fact h0 Q hk8;refine ro 4 O<|kc (zI Vy O Q O)<|rr 2 O ?_;refine kc (S.VI (lo:=5) (l':=l[i].text.drop 5) W6 .none O (zt O) (.inr ⟨_,_,O,(.Zg O),O⟩) (.inl ⟨O,O,O⟩) I I<|by rw[List.take_length]) ?_;refine kc (zK (Sw (l:=l[i].text.drop 5) (d:=7) (by rw[vd];have:=P _<|Zt Q;omega) I) call40 O) ?_;refine rr 8 O ?_;rw[hnb];refine ro 2 O<|kc (zK (Tj (n:=n) I) call14 O)<|jm O<|kc (zK (S8 (l:=l) I) call15 O)<|jm O<|kc (S.Xo (cC (n:=n) (l:=l) (num:=(Gt l i).num) I<|An P) hT call13 .none O (zc O<|zc O<|zc O .nil) O) ?_;refine rr 9 O ?_;rw[hm1];refine OK.R3<|jm O<|kc (S.not .none O<|zt O)<|jm O<|RK.split (t:=269) O (λg269=>?_) λg269=>?_
   ·cases g269
   refine rr 4 O<|RK.ZS (t:=273) O (λg273=>?_) λg273=>?_
   ·exact absurd rfl g273
   refine rr 2 O<|kc (S.not (zg O O) O<|zt O)<|rr 2 O<|RK.split (t:=278) O (λg278=>?_) λg278=>?_
   ·rw[hm2]at g278;cases g278
   refine rr 6 O<|kB O (λc282=>?_) λc282=>?_
   ·exact absurd c282 hm3
   refine Ro 8 O I<|Ab.D.lp ⟨i+1,I,I,O,O,O,O,Zo⟩
  refine Ro 8 O I<|Ab.D.lp ⟨i+1,I,I,O,O,O,O,Zo⟩
 refine ro 7 O<|kR O O ?_;rfl
