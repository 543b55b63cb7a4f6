import Derived.Test.YtkkbjdenehfpaaaGreatDoorVjN
set_option linter.all false
set_option maxHeartbeats 4000000
open List renaming length->R
namespace Go.Proofs.Z_
open Go.Ab Tryz
set_option maxRecDepth 9999
def R_{s v:ba}:Ct prog 9 [.str s,.str v]<|.bool<|decide<|s.take (R v)=v:=by
 refine cI func9 O<|OK.Gz (t:=0) (z:=s) O O λqk=>?_;unfold maxLen at qk;refine ro 13 O<|RK.ZS (t:=10) O (λa=>?_) λa=>?_
 ·refine rr 3 O ?_;refine kc (S.VI (hi:=R v) (l':=s.take<|R v) W6 (zg O O) O (zt O) (.inl ⟨O,O,O⟩) (.inr ⟨_,_,O,(zt O),O⟩) I I<|by rw[aα]) ?_;refine rr 6 O<|kR O O ?_;rfl
 have b:¬s.take (R v)=v:=λe=>a (by have:=rn List.length e;rw[sc]at this;omega)
 rw[Zy b];refine rr 10 O<|kR O O ?_;rfl
def gP:Q7 prog 5 []<|.bool true:=by
 refine cT func5 O λa=>?_
 refine ro 7 O<|kc (zK LG call29 O)<|kc (zK LF call30 O)<|kc (S.Xo sQ a call14 .none O (zc O<|zc O<|zD O) O)<|rr 9 O<|kc (zK LG call29 O)<|kc (zK LF call30 O) ?_;refine kc (S.Xo lF a call31 .none O (zc O<|zc O<|.cons (.Vh (l:=[112,97,114,116,32,50]) O C) .nil) O) ?_;refine rr 13 O ?_;refine kc (S.mkData (vi:=[[_],[_],[_],[_],[_],[_],[_]]) Xr (zg O O) O (zC O<|zC O<|zC O<|zC O<|zC O<|zC O<|zD O) O O O O O O O)<|kc (S.call sR call32 (zg O O) O (zc O<|zc O .nil) O) ?_;refine rr 12 O<|kR O O ?_;rfl
def ends:List Range->bd
 |[]=>[]
 |r::l=>r.lo::r.hi::ends l
def vP:∀a b:List Range,ends (a++b)=ends a++ends b
 |[],_=>rfl
 |r::a,b=>by rw[H5,ends,ends,vP a b];rfl
def Mr:∀l:List Range,R (ends l)=2 * R l
 |[]=>rfl
 |r::l=>by rw[ends,tt,tt,Mr l,tt];omega
def vT:∀{l:List Range}{n:Int},n∈ends l->∃r∈l,n=r.lo\/n=r.hi
 |[],_,h=>by cases h
 |r::l,n,h=>by
  rw[ends,sf,sf]at h;rcases h with rfl|rfl|h
  ·exact⟨r,rv,.inl rfl⟩
  ·exact⟨r,rv,.inr rfl⟩
  obtain⟨q,a,e⟩:=vT h;exact⟨q,rl _ a,e⟩
def vf(l:List Range):ba:=L8<|ends l
def fmtEnv(x:Envelope):ba:=Lib.join (L8 [x.parts,x.trim]::x.rows.map vf) [59]
def lU{L:List<|List Range}(h:K7<|.sl<|L.map λl=>[.sl<|l.map Range.cs]):∀l∈L,∀n∈ends l,IntKind.i64.wrap n=n:=by
 intro l d n c;have g:K7<|.sl<|l.map Range.cs:=h.mem<|ai.2 ⟨_,rx.2 ⟨l,d,rfl⟩,rv⟩;obtain⟨r,b,e⟩:=vT c;have k:∀y∈r.cs,K7 y:=λy a=>g.mem<|ai.2 ⟨r.cs,rx.2 ⟨r,b,rfl⟩,a⟩
 rcases e with rfl|rfl
 ·exact(k _<|by simp[Range.cs]).int
 exact(k _<|by simp[Range.cs]).int
def lR{l:List Range}(h:∀n∈ends l,IntKind.i64.wrap n=n)(a:R l<=100):R (vf l)<=200 * 22:=JC h (by rw[Mr];omega)
def UA{x:Envelope}(J:R x.rows<=100)(o:∀l∈x.rows,R l<=100):Q7 prog 25 [.agg x.cs]<|.str<|fmtEnv x:=by
 refine cT func25 O λq=>?_
 refine OK.fR 0 0 O O O λA=>?_
 refine OK.fR 0 1 O O O λy=>?_
 have f:=mn _ A;have d:=mn _ y;have H:R (L8 [x.parts,x.trim])<=2 * 22:=JC (λn m=>by simp only[sf,H4,or_false]at m;rcases m with rfl|rfl;exact f;exact d) F;refine ro 12 O ?_;refine RK.c (zM [[_],[_]] Xr O O O O)<|kc (S.Dl (E6 (l:=[x.parts,x.trim]) F) q call56 .none O (zc O .nil) (.cons (.p (.own O O) O) .nil) O) ?_;refine RK.c (zM [[_]] Qf O O O O) ?_;refine rr 8 O<|kc (zk vq O)<|rr 4 O<|OK.slRep (t:=17) O O λr=>?_;have E:=lU r;clear r;have g:∀l∈x.rows,R (vf l)<=4400:=λl a=>lR (E l a)<|o l a
 refine OK.loop (G:=Nat) [15] (λi=>[(3,.own 15<|i+1),(2015,.arr 1<|(L8 [x.parts,x.trim]::(x.rows.take i).map vf).map λs=>[.str s]),(17,.sl<|x.rows.map λl=>[.sl<|l.map Range.cs]),(18,bv<|R x.rows),(19,bv i)]) (λi=>i<=R x.rows) (λi=>R x.rows - i) 0 (Zr _) ⟨O,O,O,O,O,Zo⟩ (λ_=>O) ?_;rintro i hi;refine ro 6 O<|kB O (λj=>?_) λj=>?_
 ·have b:i<R x.rows:=by omega
  have u:=o _<|Zt b;refine ro 6 O<|kc (zI vq O I O) ?_;refine rr 6 O<|RK.c (S.XG (k:=6) (sz:=1) .none O)<|rr 6 O<|kc (zk uv O)<|rr 4 O ?_;refine OK.loop (G:=Nat) [15,6] (λk=>[(3,.own 15<|i+1),(2015,.arr 1<|(L8 [x.parts,x.trim]::(x.rows.take i).map vf).map λs=>[.str s]),(17,.sl<|x.rows.map λl=>[.sl<|l.map Range.cs]),(18,bv<|R x.rows),(19,bv i),(6,.own 6<|2 * k),(2006,.arr 1<|(ends<|x.rows[i].take k).map λn=>[bv n]),(23,.sl<|x.rows[i].map Range.cs),(24,bv<|R x.rows[i]),(25,bv k)]) (λk=>k<=R x.rows[i]) (λk=>R x.rows[i] - k) 0 (Zr _) ⟨(ZH N),(ZX N),O,O,O,(ZH N),(ZX N),O,O,O,Zo⟩ (λ_=>O) ?_;rintro k K;refine ro 6 O<|kB O (λh=>?_) λh=>?_
  ·refine ro 6 O<|kc (zI uv O I O) ?_;refine rr 11 O ?_;refine RK.c (zM [[_],[_]] Xr O O O O) ?_;refine kc (zP Xr O O (by rw[Zx,Mr,sc];omega) N I<|by simp only[maxLen];omega) ?_;refine Rr 8 O I ?_;refine Ab.D.lp ⟨k+1,I,I,(ZH N),(ZX N),O,O,O,(ZH I),(ZX<|by rw[mv I,vP,ne];rfl),O,O,O,Zo⟩
  refine OK.exit O<|Ab.D.code ?_;rw[show k=R x.rows[i] by omega,List.take_length];refine ro 3 O ?_;refine kc (S.Dl (E6 (l:=ends x.rows[i])<|by rw[Mr];omega) q call56 .none O (zc O .nil) (.cons (.p (.own O<|by rw[Zx,Mr]) O) .nil) O) ?_;refine RK.c (zM [[_]] Qf O O O O) ?_;refine kc (zP Qf O O (by simp;omega) N I<|by simp only[maxLen];omega) ?_;refine Rr 8 O I ?_;refine Ab.D.lp ⟨i+1,I,I,(ZH I),(ZX<|by rw[mv I,ne,←H5,ne];rfl),O,O,O,Zo⟩
 refine ro 3 O ?_;rw[show i=R x.rows by omega,List.take_length];refine OK.R3<|jm O ?_;refine kc (S.XY (fU.ct (l:=L8 [x.parts,x.trim]::x.rows.map vf) (sep:=[59]) (by simp;omega)<|by have:=sK (l:=L8 [x.parts,x.trim]::x.rows.map vf) (sep:=[59]) (B:=4400) (ao:=101) (λw hw=>by rcases sf.1 hw with rfl|hw;omega;obtain⟨l,a,rfl⟩:=rx.1 hw;exact g l a) (by simp;omega) rfl;omega) call57 .none O (zc O<|.cons (.Vh (l:=[59]) O C) .nil) (.cons (.p (.own O F) O)<|.cons (.same O) .nil) O) ?_;refine rr 3 O<|kR O O ?_;rfl
def wz{H:Z6}{x:Entry}{k:Nat}(h:(Za H x).2=0)(g:X2 (ZQ 32 x.text).1=some k):begW (Z4.getD 12 []) x.text=decide (k=12):=by
 unfold begW;have hw:∀b∈Z4.getD 12 [],¬b=32:=C
 obtain⟨a,f⟩:=Y8 g;have f:(ZQ 32 x.text).1=Z4.getD k []:=by
  have:=pf f;rw[this,pv,Zv a];rfl
 refine decide_eq_decide.2<|(mQ hw).trans ⟨λe=>?_,λe=>?_⟩
 ·have c:=ve 12 C;rw[←e.1,g]at c;exact aγ c
 subst e;refine⟨f,?_⟩;have c:=xW h;unfold Za at h;rw[Zm<|Zp c]at h;obtain⟨i,hi⟩:=sk.1 (HV c).2.1;rw[hi,g]at h;dsimp only at h;have d:H.tail x i 12=0:=by
  by_cases d:H.tail x i 12=0
  ·exact d
  rw[Zn d]at h;exact h
 have j:=K_ d;cases m:(ZQ 32 x.text).2.2 with
 |true=>rfl
 |false=>
  unfold Q9 at j;rw[m]at j;simp[kinds,Zl]at j
section
variable{n:Net}{l:List Entry}{i e:Nat}{z:Int}{v:ba}
def gv(h:(Z2 n l).2.2=0)(hi:i<R l)(c:v=Z4.getD 12 []++[32]):l[i].text.take (R v)=v↔Vq l i=12:=by
 obtain⟨b,_⟩:=Aq h hi;obtain⟨k,_,a,_⟩:=Gl b;have d:Vq l i=k:=by unfold Vq;rw[Zv hi];simp[a]
 have e:=wz b a;unfold begW at e;subst c;rw[d,Zs];exact decide_eq_decide.1 e
def L9(l:List Entry)(i:Nat)(z:Int):Prop:=(z= -1/\∀t,t<i->Vq l t≠12)\/∃e:Nat,e<i/\z=(e:Int)/\Vq l e=12/\∀t,e<t->t<i->Vq l t≠12
def L9.on_T(h:Vq l i=12):L9 l (i+1) (i:Int):=.inr ⟨i,cπ i,rfl,h,λt a b=>absurd a I⟩
def L9.on_F(d:L9 l i z)(h:Vq l i≠12):L9 l (i+1) z:=by
 rcases d with⟨b,a⟩|⟨e,b,a,k,j⟩
 ·exact .inl ⟨b,λt c=>by rcases eI.1 c with q|rfl;exact a t q;exact h⟩
 exact .inr ⟨e,I,a,k,λt g f=>by rcases eI.1 f with q|rfl;exact j t g q;exact h⟩
def L9.no(b:L9 l i z)(h:z<0):∀t,t<i->Vq l t≠12:=by
 rcases b with⟨_,a⟩|⟨e,_,a,_⟩
 ·exact a
 omega
def L9.yes(a:L9 l i z)(h:¬z<0):∃e:Nat,e<i/\z=(e:Int)/\Vq l e=12/\∀t,e<t->t<i->Vq l t≠12:=by
 rcases a with⟨c,_⟩|b
 ·omega
 exact b
def env_bd{E:Z6}{t:Int}(h:fO E t)(hs:HS E):R E.plan.ZY<=4/\R E.env.rows<=12/\∀r∈E.env.rows,R r<=4:=by
 have c:=X_ hs.pl;have a:R E.plan.ZY<=4:=I
 rw[h.env];unfold OM;dsimp only;refine⟨a,by rw[Zx,List.length_range];omega,λr b=>?_⟩;obtain⟨q,_,rfl⟩:=rx.1 b;unfold OP;rw[Zx,List.length_range];exact a
def rec_bd{H:Z6}{j:Nat}(hs:HS H)(a:j<R H.parts):R (WG H.plan (H.p j).frames).rows<=12/\∀(k:Nat)(b:k<R (WG H.plan (H.p j).frames).rows),R (WG H.plan (H.p j).frames).rows[k].values<=4:=by
 have f:=X_ hs.pl;have d:=Qp<|Zv a;have c:=hs.fr _<|Zt a;rw[←d]at c;rw[NB (DJ hs a).2.2.1];refine⟨by rw[IF];omega,λk b=>?_⟩;have:=(Nr hs.pl c.1).2 k b;omega
def fC{E:Z6}(hs:HS E):∀r∈E.XE,R r.rows<=12/\∀(k:Nat)(c:k<R r.rows),R r.rows[k].values<=4:=λr a=>by
 obtain⟨m,b,rfl⟩:=rx.1 a;exact rec_bd hs<|hs.inv.Z3 m b
def gJ{α:Type}{l:List α}{k:Nat}(b:1<=k)(a:k - 1<R l):(l.drop<|k - 1).reverse=(l.drop k).reverse++[l[k - 1]]:=by
 rw[np a,List.reverse_cons,show k - 1+1=k by omega]
end
def Un{l:List Frame}(j:R l<=1000)(d:∀f∈l,R f.values<=100000):Ct prog 21 [.sl<|l.map Frame.cs]<|.sl<|l.reverse.map Frame.cs:=by
 refine cI func21 O<|kr<|kc (S.assign .none O .Ya)<|rr 4 O<|RK.c (S.XG (k:=3) (sz:=2) .none O)<|rr 6 O<|kc (zk Qr O)<|Rr 5 O I ?_;refine OK.loop (G:=Nat) [3] (λk=>[(0,.sl<|l.map Frame.cs),(3,.own 3<|R (l.drop k).reverse),(2003,.arr 2<|(l.drop k).reverse.map Frame.cs),(4,bv<|(k:Int) - 1)]) (λk=>k<=R l) (λk=>k) (R l) (Zq _) ⟨O,(ZH<|by rw[da];rfl),(ZX<|by rw[da];rfl),O,Zo⟩ (λ_=>O) ?_;rintro k m;refine ro 7 O<|kB O (λh=>?_) λh=>?_
 ·have a:k - 1<R l:=by omega
  have b:=gJ (l:=l) (k:=k) I a;have g:R (l.drop k).reverse<=1000:=by rw[eτ,vd];omega
  refine ro 8 O<|kc (S.Zi (n:=k - 1) Qr .none O (zt O) (zt O) I a O)<|kc (S.Vj Ni .none O (zt O) O O) ?_;refine kc (zK (C1 (f:=l[k - 1])<|d _<|Zt a) call51 O)<|RK.c (zM [[_,_]] ai51 O O O O) ?_;refine kc (zP ai51 O O (Zx ..) N I<|by simp only[maxLen];omega) ?_;refine Rr 9 O I ?_;refine Ab.D.lp ⟨k - 1,I,I,O,(ZH<|by rw[b,Zs];rfl),(ZX<|by rw[b,ne];rfl),(OT I),Zo⟩
 obtain rfl:k=0:=by omega
 rw[aα];refine ro 3 O ?_;refine OK.freeze 3 O O O F ?_;refine ro 5 O<|kR O O ?_;rfl
def OQ{n:Net}{l:List Entry}:Q7 prog 4 [.agg n.cs,.sl<|l.map Entry.cs]<|.bool true:=by
 refine cT func4 O λhT=>?_
 refine ro 9 O<|kc (S.Xo gP hT call5 .none O .nil O)<|kc (S.not .none O<|zt O)<|rr 9 O<|kc (zK (tK (n:=n)) call6 O)<|kc (S.not .none O<|zt O)<|jm O<|RK.split (t:=36) O (λg36=>?_) λg36=>?_
 ·refine rr 18 O (kR O O ?_)
  first|rfl|simp[*]
 refine kc (S.move (zg O O) O<|zt O)<|kc (S.call (C2 (l:=l)) call7 (zg O O) O (zc O .nil) O)<|kc (S.not (zg O O) O<|zt O)<|rr 2 O<|RK.split (t:=41) O (λg41=>?_) λg41=>?_
 ·refine rr 13 O (kR O O ?_)
  first|rfl|simp[*]
 have hfe:NK n=true:=by simpa using g36
 have hsl:Xv l=true:=by simpa using g41
 obtain⟨hl1,hl2⟩:=mN hfe;obtain⟨hll,hlt⟩:=dz hsl;have W:∀y∈l,R y.text<=100000:=λy hy=>by have:=hlt y hy;omega
 refine rr 2 O<|kc (S.call (G9 (n:=n) (l:=l) I W) call8 (zg O O) O (zc O<|zc O .nil) O) ?_;refine rr 4 O<|kB O (λc46=>?_) λc46=>?_
 ·refine ro 5 O (kR O O ?_)
  first|rfl|simp[*]
 have h0:(Z2 n l).2.2=0:=Zu.1 c46;refine ro 6 O<|kc (zK (P4 (l:=n.plan) I) call17 O) ?_;refine rr 15 O<|kB O (λc54=>?_) λc54=>?_
 ·exact absurd (J6 (Ur h0).1).2 c54
 refine ro 14 O ?_;refine OK.We [2,5] (λ(i:Nat)(z:Int)=>[(1,.sl<|l.map Entry.cs),(2,.ptr 2 0),(1002,.box n.cs),(5,.ptr 5 0),(1005,.box (ZO n.plan).1.cs),(7,bv z),(8,bv i)]) (λi z=>i<=R l/\L9 l i z) (λi z=>R l - i) 0 ((-1)) ⟨Zr _,.inl ⟨O,λ_ h=>absurd h<|bπ _⟩⟩ ⟨O,O,O,O,O,O,O,Zo⟩ (λ_ _=>O) ?_;rintro i z ⟨hi,hL⟩;refine ro 5 O<|kc (zk Vy O)<|rr 3 O<|kB O (λc58=>?_) λc58=>?_
 ·have B:i<R l:=by omega
  refine ro 8 O<|kc (zI Vy O I O) ?_;refine rr 2 O<|kc (zK (R_ (s:=l[i].text) (v:=[108,101,97,114,110,32])) call9 O)<|kD<|kB O (λc66=>?_) λc66=>?_
  ·have hL2:=L9.on_T<|(gv h0 B (v:=[108,101,97,114,110,32]) rfl).1 c66;refine Ro 11 O I (Ab.D.lp ⟨i+1,(i:Int),⟨by omega,hL2⟩,I,O,O,O,O,O,O,O,Zo⟩)
  have hL2:=hL.on_F λe=>c66<|(gv h0 B (v:=[108,101,97,114,110,32]) rfl).2 e
  refine Ro 8 O I (Ab.D.lp ⟨i+1,z,⟨by omega,hL2⟩,I,O,O,O,O,O,O,O,Zo⟩)
 obtain rfl:i=R l:=by omega
 refine ro 9 O<|kB O (λc69=>?_) λc69=>?_
 ·have hnl:=hL.no c69;have hr0:(Xi n l).env.rows=[]:=by have e:=lP h0 hnl (R l)<|Zq _;have e2:=hs_st h0<|R l;rw[List.take_length]at e2;rw[e2];exact e
  refine ro 3 O<|kc (zK (Tj (n:=n) I) call11 O)<|jm O<|kc (zK (S8 (l:=l) I) call12 O)<|kc (S.Xo (ET (n:=n) (l:=l) I<|An W) hT call10 .none O (zc O<|zc O .nil) O) ?_;refine rr 9 O ?_;rw[h0];refine ro 4 O<|RK.ZS (t:=80) O (λg80=>?_) λg80=>?_
  ·refine rr 3 O (kc (S.OF vq (zg O O) O<|zt O)<|rr 5 O<|kR O O ?_)
   first|rfl|simp[*]
  exact absurd rfl g80
 obtain⟨e,hel,rfl,hk12,hnl⟩:=hL.yes c69;refine ro 3 O ?_;refine kV (.c (zL Pn O O O O)<|.c (zK (Tj (n:=n) I) call11 O)<|.c (zm O)<|.c (zm O)<|.c (zp O O I)<|.c (S.slice (hi:=e+1) (l':=l.take<|e+1) Vy (λ_=>O) .none O (zt O) (.inl ⟨O,O,O⟩) (.inr ⟨_,_,O,(zt O),I⟩) I I<|by rw[aα])<|.c (zK (S8 (l:=l.take<|e+1)<|by rw[sc];omega) call12 O)<|.c (S.Xo (ET (n:=n) (l:=l.take<|e+1) I<|An λy hy=>W y<|eν hy) hT call10 .none O (zc O<|zc O .nil) O)<|.c (zm O)<|.c (zX O O O)<|.c (zX O O O)<|.c (zA (c:=11) fH O)<|.c (zS Zk O O O O O O)<|.c (za O) .nil) ?_;refine rd 3 O ?_;have ht0:=UP h0<|e+1;rw[ht0,hs_st h0<|e+1];have g:=gL h0 hel hk12 hnl (R l - (e+1)) I;rw[show e+1+(R l - (e+1))=R l by omega,wv]at g;have V:=gR h0 (i:=e+1) I;obtain⟨ac,hF⟩:∃ac,ac=(Z2 n l).1:=⟨_,rfl⟩;rw[←hF]at g V;have U:HS ac:=hF▸F5 h0;have hFp:ac.plan=(ZO n.plan).1:=hF▸(sH h0).2;obtain⟨t,ht⟩:∃t,t=(Ss l e).num:=⟨_,rfl⟩;have d:=wB h0 hel hk12;rw[←ht]at d;have j:=hs_HS h0<|e+1;have m:=yA h0<|e+1;obtain⟨E,hE⟩:∃E,E=Zj n l (e+1):=⟨_,rfl⟩;rw[←hE]at g V d j m⊢;obtain⟨hm1,hm2,hm3⟩:=d.len j;have hml:R E.st.Z3=R E.Z3:=Zx ..;have hpl:=Mc E;have hlp:=j.inv.lp;have hrl:=yy E;have htr:E.st.env.trim=t:=by show E.env.trim=t;rw[d.env];rfl
 obtain⟨hch4,her,Q⟩:=env_bd d j;rw[m]at hch4;have T:R (ZO n.plan).1.ZY<=100000:=by omega
 have hg0:JB E (R E.Z3)=[]:=by unfold JB;rw[←hrl,da];rfl
 refine ro 4 O<|RK.ZS (t:=100) O (λg100=>?_) λg100=>?_
 ·exact absurd rfl g100
 refine rr 2 O<|kc (S.OF X9 (zg O O) O<|zt O)<|rr 3 O<|RK.ZS (t:=106) O (λg106=>?_) λg106=>?_
 ·exfalso;omega
 refine rr 2 O<|kc (S.OF X9 (zg O O) O<|zt O)<|rr 2 O<|kc (S.OF VD (zg O O) O<|zt O)<|rr 4 O<|kB O (λc114=>?_) λc114=>?_
 ·exfalso;omega
 refine ro 4 O<|RK.c (S.XG (k:=13) (sz:=1) .none O)<|rr 7 O<|kc (zk X9 O)<|Rr 5 O I ?_;refine OK.loop (G:=Nat) [2,5,11,13] (λk=>[(1,.sl<|l.map Entry.cs),(2,.ptr 2 0),(1002,.box n.cs),(5,.ptr 5 0),(1005,.box (ZO n.plan).1.cs),(11,.ptr 11 0),(1011,.box E.st.cs),(13,.own 13<|R<|JB E k),(2013,.arr 1<|(JB E k).map ZG.cs),(14,bv<|(k:Int) - 1)]) (λk=>k<=R E.Z3) (λk=>k) (R E.Z3) (Zq _) ⟨O,O,O,O,O,O,O,(ZH<|by rw[hg0];rfl),(ZX<|by rw[hg0];rfl),(OT I),Zo⟩ (λ_=>O) ?_;rintro k hk;refine ro 7 O<|kB O (λc120=>?_) λc120=>?_
 ·have hk1:k - 1<R E.Z3:=by omega
  have hkm:k - 1<R E.st.Z3:=by omega
  obtain⟨m1,m2,m3⟩:=lN j hk1 hkm;have hIx:ZC (λp:Part=>decide<|p.num=E.st.Z3[k - 1]) 0 E.st.parts=(E.Z3[k - 1]:Int):=Vs m2;have hmp:E.Z3[k - 1]<R E.st.parts:=by omega
  have hPm:E.st.parts[E.Z3[k - 1]]=E.p E.Z3[k - 1]:=by have e:=DK m1;rw[Zv hmp]at e;exact aγ e
  obtain⟨f1,f2,f3,f4,f5⟩:=DJ j m1;rw[m]at f1 f2 f3;have hfl:R E.st.parts[E.Z3[k - 1]].frames<=1000:=by rw[hPm];omega
  have Y:∀f∈E.st.parts[E.Z3[k - 1]].frames,R f.values<=100000:=by rw[hPm];exact f5
  have hRe:Um (ZO n.plan).1 E.st.parts[E.Z3[k - 1]].frames.reverse=0:=by rw[hPm];exact f1
  have hrk:k - 1<R E.XE:=by omega
  have hgl:R (JB E k)<=12:=by unfold JB;rw[eτ,vd];omega
  have hRo:WG (ZO n.plan).1 E.st.parts[E.Z3[k - 1]].frames.reverse=E.XE[k - 1]:=by rw[hPm,f2,←m];exact(m3 hrk).symm
  have hG:JB E (k - 1)=JB E k++[E.XE[k - 1]]:=by have e:=fy hrk;rw[show k - 1+1=k by omega]at e;exact e
  refine ro 5 O<|kV (.c (zL Zk O O O O)<|.c (zf BQ O)<|.c (zl Md O O O O)<|.c (zm O)<|.c (S.Zi (n:=k - 1) X9 .none O (zt O) (zt O) I hkm O)<|.c (zV YK O O)<|.c (zK (Ns (s:=E.st) (n:=E.st.Z3[k - 1])) call18 O)<|.c (za O) .nil) ?_;refine rd 3 O ?_;rw[hIx];refine ro 5 O<|kB O (λc131=>?_) λc131=>?_
  ·exfalso;omega
  refine ro 3 O<|kV (.c (zL Nb O O O O)<|.c (zK (Ym (p:=(ZO n.plan).1) T) call20 O)<|.c (zf Xk O)<|.c (zl Vg O O O O)<|.c (zm O)<|.c (S.Zi (n:=E.Z3[k - 1]) VD .none O (zt O) (zt O) O hmp O)<|.c (S.field Vr .none O (zt O) O)<|.c (zV P8 O O)<|.c (zK (Un (l:=E.st.parts[E.Z3[k - 1]].frames) hfl Y) call21 O)<|.c (zK (D7 (p:=(ZO n.plan).1) (l:=E.st.parts[E.Z3[k - 1]].frames.reverse)) call19 O)<|.c (zm O)<|.c (zX O O O)<|.c (zX O O O)<|.c (zA (c:=16) sB O)<|.c (zS AD O O O O O O)<|.c (za O) .nil)<|rd 3 O ?_;rw[hRe,hRo];refine ro 5 O<|kB O (λc146=>?_) λc146=>?_
  ·exact absurd rfl c146
  refine ro 5 O ?_;refine RK.c (zM [[_]] vB O O O O) ?_;refine kc (zP vB O O (Zx ..) N I<|by simp only[maxLen];omega) ?_;refine Rr 9 O I ?_;refine Ab.D.lp ⟨k - 1,I,I,O,O,O,O,O,O,O,(ZH<|by rw[hG,Zs];rfl),(ZX<|by rw[hG,ne];rfl),(OT I),Zo⟩
 obtain rfl:k=0:=by omega
 rw[show JB E 0=E.XE.reverse by unfold JB;rw[aα]];have hrr:R E.XE.reverse<=100000:=by rw[eτ];omega
 have hrm:=fC j;have hrb1:∀(i:Nat)(h:i<R E.XE.reverse),R E.XE.reverse[i].rows<=100000:=λi h=>by have:=(hrm _<|cf.1<|Zt h).1;omega
 have hrb2:∀(i:Nat)(h:i<R E.XE.reverse)(k:Nat)(h2:k<R E.XE.reverse[i].rows),R E.XE.reverse[i].rows[k].values<=100000:=λi h k h2=>by have:=(hrm _<|cf.1<|Zt h).2 k h2;omega
 have hEv1:Wr (ZO n.plan).1 E.XE.reverse E.st.env.trim=0:=by rw[htr,←m];exact d.rev.1
 have hEv2:PC (ZO n.plan).1 E.XE.reverse E.st.env.trim=E.env:=by rw[htr,←m];exact d.rev.2
 have hrlr:R E.XE.reverse=R E.XE:=eτ;refine ro 3 O ?_;refine OK.freeze 13 O O O F ?_;refine kV (.c (zL Nb O O O O)<|.c (zK (Ym (p:=(ZO n.plan).1) T) call20 O)<|.c (zm O)<|.c (zK (G1 (l:=E.XE.reverse) hrr hrb1 hrb2) call23 O)<|.c (zf qK O)<|.c (zf dy O)<|.c (zl YK O O O O)<|.c (zK (Ii (p:=(ZO n.plan).1) (l:=E.XE.reverse) (x3:=E.st.env.trim)) call22 O)<|.c (zm O)<|.c (zX O O O)<|.c (zX O O O)<|.c (zA (c:=18) ze41 O)<|.c (zS L5 O O O O O O)<|.c (za O) .nil)<|rd 3 O ?_;rw[hEv1,hEv2];refine kV (.c (zm O)<|.c (zN O O)<|.c (zm O)<|.c (S.Hl L5 (.yes O O O F) O (zt O) O O O O)<|.c (S.VN qK (.yes O O O F) O<|zt O)<|.c (S.Hl L5 (.yes O O O F) O (zt O) O O O O)<|.c (S.call (JD (a:=E.env) (b:=E.env)) call24 (.yes O O O F) O (zc O<|zc O .nil) O)<|.c (S.Xb (.yes O O O F) O<|zt O)<|.c (S.Ug .none O (zt O) (zt O) F)<|.c (zm O)<|.c (S.Hl L5 (.yes O O O F) O (zt O) O O O O)<|.c (S.call (LZ (x:=E.env) I λi h=>by have:=Q _<|Zt h;omega) call26 (.yes O O O F) O (zc O .nil) O)<|.c (S.Xo (UA (x:=E.env) I λr hr=>by have:=Q r hr;omega) hT call25 (.yes O O O F) O (zc O .nil) O)<|.c (S.VN qK (.yes O O O F) O<|zt O)<|.c (S.Hl L5 (.yes O O O F) O (zt O) O O O O)<|.c (S.call (LZ (x:=E.env) I λi h=>by have:=Q _<|Zt h;omega) call26 (.yes O O O F) O (zc O .nil) O)<|.c (S.Xo (UA (x:=E.env) I λr hr=>by have:=Q r hr;omega) hT call25 (.yes O O O F) O (zc O .nil) O)<|.c (S.sneq (.yes O O O F) O (zt O)<|zt O)<|.c (S.Ug .none O (zt O) (zt O) F) .nil) ?_;refine Ab.D.code<|kB O (λc180=>?_) λc180=>?_
 ·exact absurd rfl c180
 refine ro 9 O ?_;refine OK.loop (G:=Nat) [2,5,11,18] (λi=>[(1,.sl<|l.map Entry.cs),(2,.ptr 2 0),(1002,.box n.cs),(5,.ptr 5 0),(1005,.box (ZO n.plan).1.cs),(11,.ptr 11 0),(1011,.box E.st.cs),(18,.ptr 18 0),(1018,.box E.env.cs),(13,.sl<|E.XE.reverse.map ZG.cs),(20,bv i)]) (λi=>i<=R E.XE.reverse) (λi=>R E.XE.reverse - i) 0 (Zr _) ⟨O,O,O,O,O,O,O,O,O,O,O,Zo⟩ (λ_=>O) ?_;rintro i hi;refine ro 5 O<|kc (zk Kz O)<|rr 2 O<|RK.ZS (t:=185) O (λg185=>?_) λg185=>?_
 ·refine rr 6 O<|kB O (λc189=>?_) λc189=>?_
  ·have B:i<R E.XE.reverse:=by omega
   have htz:t=0:=by rw[←htr];exact c189
   obtain⟨v1,v2⟩:=CW (nO j.pl<|d.XE j) (k:=R E.XE - 1 - i) I;have hri:E.XE.reverse[i]=E.XE[R E.XE - 1 - i]:=List.getElem_reverse ..;have hen:=d.env;rw[htz]at hen;rw[←hen,←hri,m]at v1;rw[←hen,←hri]at v2;have v3:(if Xa (ZO n.plan).1 E.env E.XE.reverse[i]=0 then Us E.env E.XE.reverse[i]else 0)=0:=by rw[Zn v1];exact v2
   refine ro 5 O ?_;refine kV (.c (zL Nb O O O O)<|.c (zK (Ym (p:=(ZO n.plan).1) T) call20 O)<|.c (zL L5 O O O O)<|.c (zK (LZ (x:=E.env) I λi h=>by have:=Q _<|Zt h;omega) call26 O)<|.c (zm O)<|.c (zm O)<|.c (zI Kz O I O)<|.c (S.Vj AD .none O (zt O) O O)<|.c (zK (OI (r:=E.XE.reverse[i]) (by have:=(hrb1 i B);omega) λk h=>hrb2 i B k h) call28 O)<|.c (zK (GI (p:=(ZO n.plan).1) (x:=E.env) (r:=E.XE.reverse[i])) call27 O)<|.c (zm O)<|.c (zX O O O)<|.c (zX O O O)<|.c (za O)<|.c (za O) .nil) ?_;refine Ab.D.code<|kO ?_;rw[v3,v1];refine ro 4 O<|RK.ZS (t:=207) O (λg207=>?_) λg207=>?_
   ·exact absurd rfl g207
   refine rr 5 O<|kB O (λc210=>?_) λc210=>?_
   ·exact absurd rfl c210
   refine Ro 8 O I<|Ab.D.lp ⟨i+1,I,I,O,O,O,O,O,O,O,O,O,O,O,Zo⟩
  refine ro 5 O<|kc (zK (Tj (n:=n) I) call11 O)<|jm O<|kc (zK (S8 (l:=l) I) call12 O)<|kc (S.Xo (ET (n:=n) (l:=l) I<|An W) hT call10 .none O (zc O<|zc O .nil) O) ?_;refine rr 10 O ?_;rw[h0,show Xi n l=ac.st by rw[hF];exact vJ<|Zp h0];have hfpl:=Mc ac;have hflp:=U.inv.lp;refine ro 4 O<|RK.ZS (t:=221) O (λL=>?_) λL=>?_
  ·exact absurd rfl L
  refine rr 2 O<|kc (S.OF VD (zg O O) O<|zt O)<|rr 2 O<|kc (S.OF VD (zg O O) O<|zt O)<|rr 4 O<|kB O (λc229=>?_) λc229=>?_
  ·exfalso;omega
  refine ro 9 O ?_;refine OK.loop (G:=Nat) [5,11,18,23] (λi=>[(5,.ptr 5 0),(1005,.box (ZO n.plan).1.cs),(11,.ptr 11 0),(1011,.box E.st.cs),(18,.ptr 18 0),(1018,.box E.env.cs),(23,.ptr 23 0),(1023,.box ac.st.cs),(25,bv i)]) (λi=>i<=R ac.st.parts) (λi=>R ac.st.parts - i) 0 (Zr _) ⟨O,O,O,O,O,O,O,O,O,Zo⟩ (λ_=>O) ?_;rintro i hi;refine ro 6 O<|kc (zk VD O)<|rr 3 O<|kB O (λc234=>?_) λc234=>?_
  ·have B:i<R ac.st.parts:=by omega
   have C:i<R ac.parts:=by omega
   have hFi:ac.st.parts[i]=ac.p i:=by have e:=DK C;rw[Zv B]at e;exact aγ e
   refine ro 9 O<|kc (zI VD O I O) ?_;refine rr 5 O ?_;refine OK.join (G:=Unit) [5,11,18,23,26] (λ_=>[(5,.ptr 5 0),(1005,.box (ZO n.plan).1.cs),(11,.ptr 11 0),(1011,.box E.st.cs),(18,.ptr 18 0),(1018,.box E.env.cs),(23,.ptr 23 0),(1023,.box ac.st.cs),(25,bv i),(26,.ptr 26 0),(1026,.box (ac.p i).cs)]) (λ_=>¬(ac.p i).place=0/\¬(i<R E.parts/\(E.p i).place≠0)) (λ_=>O) ?_ ?_
   ·refine kO ?_;rw[hFi];refine ro 5 O<|RK.ZS (t:=245) O (λw=>?_) λw=>?_
    ·refine Rr 25 O I<|Ab.D.lp ⟨i+1,I,I,O,O,O,O,O,O,O,O,O,Zo⟩
    refine rr 3 O<|kc (S.OF VD (zg O O) O<|zt O)<|rr 2 O<|RK.ZS (t:=251) O (λu=>?_) λu=>?_
    ·have X:i<R E.st.parts:=by omega
     have Z:E.st.parts[i]=E.p i:=by have e:=DK (H:=E) (J:=i) I;rw[Zv X]at e;exact aγ e
     refine rr 3 O<|kc (S.Zi (n:=i) VD (zg O O) O (zt O) (zt O) O X O)<|rr 7 O<|kB O (λA=>?_) λA=>?_
     ·refine Ro 7 O I<|Ab.D.lp ⟨i+1,I,I,O,O,O,O,O,O,O,O,O,Zo⟩
     refine OK.skip ?_;refine Ab.D.lp ⟨(),⟨w,by first|(rintro⟨_,q⟩;exact A<|by rw[Z];exact q)|(rintro⟨q,_⟩;exact u I)⟩,O,O,O,O,O,O,O,O,O,O,O,Zo⟩
    refine rr 13 O ?_;refine Ab.D.lp ⟨(),⟨w,by first|(rintro⟨_,q⟩;exact A<|by rw[Z];exact q)|(rintro⟨q,_⟩;exact u I)⟩,O,O,O,O,O,O,O,O,O,O,O,Zo⟩
   rintro _ ⟨hpz,hnE⟩;refine kO ?_;obtain⟨f1,f2,f3,f4,Y⟩:=DJ U C;rw[hFp]at f1 f2;have hJ:=(g.js i C hpz).resolve_left hnE;have hb:=gG U C g.nB;rw[hFp,g.env]at hb;rw[m]at hJ;refine kV (.c (zL Nb O O O O)<|.c (zK (Ym (p:=(ZO n.plan).1) T) call20 O)<|.c (zf Vr O)<|.c (zl P8 O O O O)<|.c (zK (Un (l:=(ac.p i).frames) I Y) call21 O)<|.c (zK (D7 (p:=(ZO n.plan).1) (l:=(ac.p i).frames.reverse)) call19 O)<|.c (zm O)<|.c (zX O O O)<|.c (zX O O O)<|.c (zA (c:=27) sB O)<|.c (zS AD O O O O O O)<|.c (za O) .nil) ?_;refine rd 3 O ?_;rw[f1,f2];refine ro 5 O<|kB O (λP=>?_) λP=>?_
   ·exact absurd rfl P
   refine ro 3 O ?_;refine kV (.c (zL Nb O O O O)<|.c (zK (Ym (p:=(ZO n.plan).1) T) call20 O)<|.c (zL L5 O O O O)<|.c (zK (LZ (x:=E.env) I λi h=>by have:=Q _<|Zt h;omega) call26 O)<|.c (zL AD O O O O)<|.c (zK (GI (p:=(ZO n.plan).1) (x:=E.env) (r:=WG (ZO n.plan).1 (ac.p i).frames)) call27 O)<|.c (zm O)<|.c (zX O O O)<|.c (zX O O O)<|.c (za O)<|.c (za O) .nil) ?_;refine Ab.D.code<|kO ?_;rw[←hJ.2,hb];refine ro 4 O<|RK.ZS (t:=283) O (λK=>?_) λK=>?_
   ·exact absurd rfl K
   refine rr 2 O<|kc (S.not (zg O O) O<|zt O)<|rr 2 O<|RK.split (t:=288) O (λo=>?_) λo=>?_
   ·exfalso;rw[hJ.1]at o;simp at o
   refine rr 7 O<|kB O (λM=>?_) λM=>?_
   ·exact absurd rfl M
   refine Ro 8 O I<|Ab.D.lp ⟨i+1,I,I,O,O,O,O,O,O,O,O,O,Zo⟩
  refine ro 7 O (kR O O ?_)
  first|rfl|simp[*]
 refine rr 12 O<|kc (zK (Tj (n:=n) I) call11 O)<|jm O<|kc (zK (S8 (l:=l) I) call12 O)<|kc (S.Xo (ET (n:=n) (l:=l) I<|An W) hT call10 .none O (zc O<|zc O .nil) O) ?_;refine rr 10 O ?_;rw[h0,show Xi n l=ac.st by rw[hF];exact vJ<|Zp h0];have hfpl:=Mc ac;have hflp:=U.inv.lp;refine ro 4 O<|RK.ZS (t:=221) O (λL=>?_) λL=>?_
 ·exact absurd rfl L
 refine rr 2 O<|kc (S.OF VD (zg O O) O<|zt O)<|rr 2 O<|kc (S.OF VD (zg O O) O<|zt O)<|rr 4 O<|kB O (λc229=>?_) λc229=>?_
 ·exfalso;omega
 refine ro 9 O ?_;refine OK.loop (G:=Nat) [5,11,18,23] (λi=>[(5,.ptr 5 0),(1005,.box (ZO n.plan).1.cs),(11,.ptr 11 0),(1011,.box E.st.cs),(18,.ptr 18 0),(1018,.box E.env.cs),(23,.ptr 23 0),(1023,.box ac.st.cs),(25,bv i)]) (λi=>i<=R ac.st.parts) (λi=>R ac.st.parts - i) 0 (Zr _) ⟨O,O,O,O,O,O,O,O,O,Zo⟩ (λ_=>O) ?_;rintro i hi;refine ro 6 O<|kc (zk VD O)<|rr 3 O<|kB O (λc234=>?_) λc234=>?_
 ·have B:i<R ac.st.parts:=by omega
  have C:i<R ac.parts:=by omega
  have hFi:ac.st.parts[i]=ac.p i:=by have e:=DK C;rw[Zv B]at e;exact aγ e
  refine ro 9 O<|kc (zI VD O I O) ?_;refine rr 5 O ?_;refine OK.join (G:=Unit) [5,11,18,23,26] (λ_=>[(5,.ptr 5 0),(1005,.box (ZO n.plan).1.cs),(11,.ptr 11 0),(1011,.box E.st.cs),(18,.ptr 18 0),(1018,.box E.env.cs),(23,.ptr 23 0),(1023,.box ac.st.cs),(25,bv i),(26,.ptr 26 0),(1026,.box (ac.p i).cs)]) (λ_=>¬(ac.p i).place=0/\¬(i<R E.parts/\(E.p i).place≠0)) (λ_=>O) ?_ ?_
  ·refine kO ?_;rw[hFi];refine ro 5 O<|RK.ZS (t:=245) O (λw=>?_) λw=>?_
   ·refine Rr 25 O I<|Ab.D.lp ⟨i+1,I,I,O,O,O,O,O,O,O,O,O,Zo⟩
   refine rr 3 O<|kc (S.OF VD (zg O O) O<|zt O)<|rr 2 O<|RK.ZS (t:=251) O (λu=>?_) λu=>?_
   ·have X:i<R E.st.parts:=by omega
    have Z:E.st.parts[i]=E.p i:=by have e:=DK (H:=E) (J:=i) I;rw[Zv X]at e;exact aγ e
    refine rr 3 O<|kc (S.Zi (n:=i) VD (zg O O) O (zt O) (zt O) O X O)<|rr 7 O<|kB O (λA=>?_) λA=>?_
    ·refine Ro 7 O I<|Ab.D.lp ⟨i+1,I,I,O,O,O,O,O,O,O,O,O,Zo⟩
    refine OK.skip ?_;refine Ab.D.lp ⟨(),⟨w,by first|(rintro⟨_,q⟩;exact A<|by rw[Z];exact q)|(rintro⟨q,_⟩;exact u I)⟩,O,O,O,O,O,O,O,O,O,O,O,Zo⟩
   refine rr 13 O ?_;refine Ab.D.lp ⟨(),⟨w,by first|(rintro⟨_,q⟩;exact A<|by rw[Z];exact q)|(rintro⟨q,_⟩;exact u I)⟩,O,O,O,O,O,O,O,O,O,O,O,Zo⟩
  rintro _ ⟨hpz,hnE⟩;refine kO ?_;obtain⟨f1,f2,f3,f4,Y⟩:=DJ U C;rw[hFp]at f1 f2;have hJ:=(g.js i C hpz).resolve_left hnE;have hb:=gG U C g.nB;rw[hFp,g.env]at hb;rw[m]at hJ;refine kV (.c (zL Nb O O O O)<|.c (zK (Ym (p:=(ZO n.plan).1) T) call20 O)<|.c (zf Vr O)<|.c (zl P8 O O O O)<|.c (zK (Un (l:=(ac.p i).frames) I Y) call21 O)<|.c (zK (D7 (p:=(ZO n.plan).1) (l:=(ac.p i).frames.reverse)) call19 O)<|.c (zm O)<|.c (zX O O O)<|.c (zX O O O)<|.c (zA (c:=27) sB O)<|.c (zS AD O O O O O O)<|.c (za O) .nil) ?_;refine rd 3 O ?_;rw[f1,f2];refine ro 5 O<|kB O (λP=>?_) λP=>?_
  ·exact absurd rfl P
  refine ro 3 O ?_;refine kV (.c (zL Nb O O O O)<|.c (zK (Ym (p:=(ZO n.plan).1) T) call20 O)<|.c (zL L5 O O O O)<|.c (zK (LZ (x:=E.env) I λi h=>by have:=Q _<|Zt h;omega) call26 O)<|.c (zL AD O O O O)<|.c (zK (GI (p:=(ZO n.plan).1) (x:=E.env) (r:=WG (ZO n.plan).1 (ac.p i).frames)) call27 O)<|.c (zm O)<|.c (zX O O O)<|.c (zX O O O)<|.c (za O)<|.c (za O) .nil) ?_;refine Ab.D.code<|kO ?_;rw[←hJ.2,hb];refine ro 4 O<|RK.ZS (t:=283) O (λK=>?_) λK=>?_
  ·exact absurd rfl K
  refine rr 2 O<|kc (S.not (zg O O) O<|zt O)<|rr 2 O<|RK.split (t:=288) O (λo=>?_) λo=>?_
  ·exfalso;rw[hJ.1]at o;simp at o
  refine rr 7 O<|kB O (λM=>?_) λM=>?_
  ·exact absurd rfl M
  refine Ro 8 O I<|Ab.D.lp ⟨i+1,I,I,O,O,O,O,O,O,O,O,O,Zo⟩
 refine ro 7 O (kR O O ?_)
 first|rfl|simp[*]
