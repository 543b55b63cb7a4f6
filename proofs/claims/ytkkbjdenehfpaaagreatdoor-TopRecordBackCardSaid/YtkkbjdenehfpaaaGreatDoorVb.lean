import Derived.Test.YtkkbjdenehfpaaaGreatDoorVj
set_option linter.all false
open List renaming length->R
namespace Go.Proofs.Z_
open Go.Ab Tryz
set_option maxRecDepth 9999
def gQ{a m:Int}(b:0<m/\m<=1000000):Ct prog 13 [bv a,bv m]<|bv (if a.tmod m<0 then a.tmod m+m else a.tmod m):=by
 refine cI func13 O<|OK.intB (t:=0) O O λc=>?_;have f:=bδ a b.1;have e:=Int.lt_tmod_of_pos a b.1;refine ro 9 O ?_;refine kc (S.rem (q:=(a.tmod m)) .none O (zt O) (zt O) I O<|mn _ I) ?_;refine rr 10 O<|kB O (λd=>?_) λd=>?_
 ·refine Ro 13 O I<|kR O O ?_;simp[*]
 refine ro 8 O<|kR O O ?_;simp[*]
def R_{s v:ba}:Ct prog 9 [.str s,.str v]<|.bool<|decide<|s.take (R v)=v:=by
 refine cI func9 O<|OK.Gz (t:=0) (z:=s) O O λqf=>?_;unfold maxLen at qf;refine ro 13 O<|RK.ZS (t:=10) O (λa=>?_) λa=>?_
 ·refine rr 3 O ?_;refine kc (S.VI (hi:=R v) (l':=s.take<|R v) W6 (zg O O) O (zt O) (.inl ⟨O,O,O⟩) (.inr ⟨_,_,O,(zt O),O⟩) I I<|by rw[aα]) ?_;refine rr 6 O<|kR O O ?_;rfl
 have b:¬s.take (R v)=v:=λe=>a (by have:=rn List.length e;rw[sc]at this;omega)
 rw[Zy b];refine rr 10 O<|kR O O ?_;rfl
def gP:Q7 prog 5 []<|.bool true:=by
 refine cT func5 O λa=>?_
 refine ro 7 O<|kc (zK LG call29 O)<|kc (zK LF call30 O)<|kc (S.Xo sQ a call14 .none O (zc O<|zc O<|zD O) O)<|rr 9 O<|kc (zK LG call29 O)<|kc (zK LF call30 O) ?_;refine kc (S.Xo lF a call31 .none O (zc O<|zc O<|.cons (.Vh (l:=[112,97,114,116,32,50]) O C) .nil) O) ?_;refine rr 13 O ?_;refine kc (S.mkData (v9:=[[_],[_],[_],[_],[_],[_],[_]]) Xr (zg O O) O (zC O<|zC O<|zC O<|zC O<|zC O<|zC O<|zD O) O O O O O O O)<|kc (S.call sR call32 (zg O O) O (zc O<|zc O .nil) O) ?_;refine rr 12 O<|kR O O ?_;rfl
def lU{H:Z6}{x:Entry}{k j:Nat}(h:(Za H x).2=0)(g:X2 (ZQ 32 x.text).1=some k)(p:j=6\/j=7\/j=9\/j=10\/j=11):begW (Z4.getD j []) x.text=decide (k=j):=by
 unfold begW;have m:j<13:=I
 have hw:∀b∈Z4.getD j [],¬b=32:=by rcases p with rfl|rfl|rfl|rfl|rfl<;>decide
 obtain⟨a,f⟩:=Y8 g;have f:(ZQ 32 x.text).1=Z4.getD k []:=by
  have:=pf f;rw[this,pv,Zv a];rfl
 refine decide_eq_decide.2<|(mQ hw).trans ⟨λe=>?_,λe=>?_⟩
 ·have c:=ve j m;rw[←e.1,g]at c;exact aγ c
 subst e;refine⟨f,?_⟩;have c:=xW h;unfold Za at h;rw[Zm<|Zp c]at h;obtain⟨i,hi⟩:=sk.1 (HV c).2.1;rw[hi,g]at h;dsimp only at h;have d:H.tail x i k=0:=by
  by_cases d:H.tail x i k=0
  ·exact d
  rw[Zn d]at h;exact h
 have o:=K_ d;cases r:(ZQ 32 x.text).2.2 with
 |true=>rfl
 |false=>
  unfold Q9 at o;rw[r]at o;rcases p with rfl|rfl|rfl|rfl|rfl<;>simp[kinds,Zl]at o
section
variable{n:Net}{l:List Entry}{i J j:Nat}{q:Part}{v:ba}
def AT(h:(Z2 n l).2.2=0)(hi:i<R l)(c:v=Z4.getD j []++[32])(d:j=6\/j=7\/j=9\/j=10\/j=11):l[i].text.take (R v)=v↔Vq l i=j:=by
 obtain⟨b,_⟩:=Aq h hi;obtain⟨k,_,a,_⟩:=Gl b;have f:Vq l i=k:=by unfold Vq;rw[Zv hi];simp[a]
 have e:=lU b a d;unfold begW at e;subst c;rw[f,Zs];exact decide_eq_decide.1 e
def yy(hi:i<R l):Ar (JB n l q) (i:Int)=Mz n l q i:=by
 rw[cδ];unfold Ar JB;rw[dτ];constructor
 ·rintro⟨x,hx,he⟩;obtain⟨t,a,rfl⟩:=rx.1 hx;have:t=i:=by have:=pf he;exact Int.ofNat.inj this
  subst this;exact(fa.1 a).2
 intro e;exact⟨(i:Int),rx.2 ⟨i,fa.2 ⟨ee.2 hi,e⟩,rfl⟩,Zz rfl⟩
def keep_1(h:(!(Ar (JB n l q) (i:Int)))=true)(hi:i<R l):VC n l q i=true:=by
 rw[yy hi]at h;unfold VC;rw[h];rfl
def dO(h:Vq l i=10\/Vq l i=6):VC n l q i=true:=by
 unfold VC;rcases h with h|h<;>simp[h]
def keep_3(h:(!(Ar (JB n l q) (i:Int)))=false)(hi:i<R l)(b:¬Vq l i=10)(a:¬Vq l i=6):¬VC n l q i=true:=by
 rw[yy hi]at h;unfold VC;rw[h,Zy b,Zy a];decide
def dnA(J i:Nat):Nat:=if J<i then i - 1 else i
def dnA_dn(h:i≠J):dnA J i=dn J i/\dnA J (i+1)=dnA J i+1:=by
 unfold dnA dn;constructor<;>(repeat' split)<;>omega
def dnA_J:dnA J (J+1)=dnA J J:=by
 unfold dnA;rw[Zn I,Zm I];rfl
def fC{s:State}(a:s.parts[J]?=some q)(hi:i<R s.parts)(h:i≠J):∃b:dn J i<R (s.rm J).parts,(s.rm J).parts[dn J i]=s.parts[i]:=by
 have e:(s.rm J).parts[dn J i]?=some s.parts[i]:=by
  rw[Ym a];exact(af h).trans<|Zv hi
 exact ae.1 e
def fu{s:State}(a:s.parts[J]?=some q)(hi:i<R s.Z5)(b:i<R (s.rm J).Z5):(s.rm J).Z5[i]=K7 q.Yb s.Z5[i]:=by
 have e:(s.rm J).Z5=s.Z5.map (K7 q.Yb):=by rw[Ym a]
 simp only[e,bκ]
end
set_option maxHeartbeats 4000000 in
def JD{n:Net}{l:List Entry}{a:Int}:Q7 prog 3 [.agg n.cs,.sl<|l.map Entry.cs,bv a]<|.bool true:=by
 refine cT func3 O λhT=>?_
 refine ro 9 O<|kc (S.Xo gP hT call5 .none O .nil O)<|kc (S.not .none O<|zt O)<|rr 9 O<|kc (zK (tK (n:=n)) call6 O)<|kc (S.not .none O<|zt O)<|jm O<|RK.split (t:=26) O (λg26=>?_) λg26=>?_
 ·refine rr 18 O (kR O O ?_)
  first|rfl|simp
 refine kc (S.move (zg O O) O<|zt O)<|kc (S.call (C2 (l:=l)) call7 (zg O O) O (zc O .nil) O)<|kc (S.not (zg O O) O<|zt O)<|rr 2 O<|RK.split (t:=31) O (λg31=>?_) λg31=>?_
 ·refine rr 13 O (kR O O ?_)
  first|rfl|simp
 have hfe:NK n=true:=by simpa using g26
 have hsl:Xv l=true:=by simpa using g31
 obtain⟨hl1,hl2⟩:=mN hfe;obtain⟨hll,hlt⟩:=dz hsl;have M:∀y∈l,R y.text<=100000:=λy hy=>by have:=hlt y hy;omega
 refine rr 2 O<|kc (S.call (G9 (n:=n) (l:=l) I M) call8 (zg O O) O (zc O<|zc O .nil) O) ?_;refine rr 4 O<|kB O (λc36=>?_) λc36=>?_
 ·refine ro 5 O (kR O O ?_)
  first|rfl|simp
 have h0:(Z2 n l).2.2=0:=Zu.1 c36;refine ro 9 O ?_;refine OK.loop (G:=Nat) [3] (λi=>[(1,.sl<|l.map Entry.cs),(2,bv a),(3,.ptr 3 0),(1003,.box n.cs),(7,bv i)]) (λi=>i<=R l/\∀(j:Nat)(hj:j<R l),j<i->¬(Vq l j=11\/Vq l j=7\/Vq l j=9)) (λi=>R l - i) 0 ⟨Zr _,λ_ _ h=>absurd h<|bπ _⟩ ⟨O,O,O,O,O,Zo⟩ (λ_=>O) ?_;rintro i ⟨hi,X⟩;refine ro 5 O<|kc (zk Vy O)<|rr 3 O<|kB O (λc40=>?_) λc40=>?_
 ·have f:i<R l:=by omega
  refine ro 8 O<|kc (zI Vy O I O) ?_;refine rr 2 O<|kc (zK (R_ (s:=l[i].text) (v:=[109,111,100,101,108,32])) call9 O)<|jm O<|RK.ZS (t:=49) O (λg49=>?_) λg49=>?_
  ·refine rr 23 O (kR O O ?_)
   first|rfl|simp
  refine rr 2 O<|kc (S.Zi (n:=i) Vy (zg O O) O (zt O) (zt O) O I O) ?_;refine rr 2 O ?_;refine kc (S.call (R_ (s:=l[i].text) (v:=[114,101,112,97,105,114,32])) call9 (zg O O) O (zc O<|.cons (.Vh (l:=[114,101,112,97,105,114,32]) O C) .nil) O) ?_;refine rr 2 O<|RK.ZS (t:=57) O (λg57=>?_) λg57=>?_
  ·refine rr 15 O (kR O O ?_)
   first|rfl|simp
  refine rr 2 O<|kc (S.Zi (n:=i) Vy (zg O O) O (zt O) (zt O) O I O) ?_;refine rr 2 O ?_;refine kc (S.call (R_ (s:=l[i].text) (v:=[115,101,99,116,105,111,110,32])) call9 (zg O O) O (zc O<|.cons (.Vh (l:=[115,101,99,116,105,111,110,32]) O C) .nil) O) ?_;refine rr 3 O<|kB O (λc64=>?_) λc64=>?_
  ·refine ro 5 O (kR O O ?_)
   first|rfl|simp
  have hnx:¬(Vq l i=11\/Vq l i=7\/Vq l i=9):=by
   rintro(e|e|e)
   ·exact g49<|(AT h0 f (j:=11) (v:=[109,111,100,101,108,32]) rfl C).2 e
   ·exact g57<|(AT h0 f (j:=7) (v:=[114,101,112,97,105,114,32]) rfl C).2 e
   exact c64<|(AT h0 f (j:=9) (v:=[115,101,99,116,105,111,110,32]) rfl C).2 e
  refine Ro 8 O I ?_;refine Ab.D.lp ⟨i+1,⟨by omega,λj hj hji=>by rcases Nat.lt_succ_iff_lt_or_eq.1 hji with h|rfl;exact X j hj h;exact hnx⟩,I,O,O,O,O,O,Zo⟩
 have hvv:∀i,i<R l->Vq l i≠7/\Vq l i≠9/\Vq l i≠11:=λj hj=>by have:=X j hj I;omega
 clear X;refine ro 5 O<|kc (zK (Tj (n:=n) I) call11 O)<|jm O<|kc (zK (S8 (l:=l) I) call12 O)<|kc (S.Xo (ET (n:=n) (l:=l) I<|An M) hT call10 .none O (zc O<|zc O .nil) O) ?_;refine rr 10 O ?_;obtain⟨b,hS⟩:∃b,b=Xi n l:=⟨_,rfl⟩;rw[h0,←hS];have z:b=(Z2 n l).1.st:=hS.trans<|vJ<|Zp h0;have hSl:R b.parts=R (Z2 n l).1.parts:=by rw[z];exact Mc _
 have hlp:=(F5 h0).inv.lp;refine ro 4 O<|RK.ZS (t:=75) O (λg75=>?_) λg75=>?_
 ·exact absurd rfl g75
 refine rr 2 O<|kc (S.OF VD (zg O O) O<|zt O)<|rr 4 O<|kB O (λc80=>?_) λc80=>?_
 ·exfalso;omega
 refine ro 7 O<|kc (zk VD O)<|rr 3 O<|kB O (λc84=>?_) λc84=>?_
 ·refine ro 5 O (kR O O ?_)
  first|rfl|simp
 have ht1:=bδ a (show(0:Int)<(R b.parts:Int)by omega);have ht2:=Int.lt_tmod_of_pos a (show(0:Int)<(R b.parts:Int)by omega);obtain⟨J,hJ⟩:∃J:Nat,(if a.tmod (R b.parts:Int)<0 then a.tmod (R b.parts:Int)+(R b.parts:Int)else a.tmod (R b.parts:Int))=(J:Int):=⟨((if a.tmod (R b.parts:Int)<0 then a.tmod (R b.parts:Int)+(R b.parts:Int)else a.tmod (R b.parts:Int))).toNat,by split<;>omega⟩;have hJl:J<R b.parts:=by split at hJ<;>omega
 have A:J<R (Z2 n l).1.parts:=by omega
 obtain⟨q,hq⟩:∃q,q=(Z2 n l).1.p J:=⟨_,rfl⟩;have u:b.parts[J]?=some q:=by rw[hq,z];exact DK A
 have hSJ:b.parts[J]=q:=(ae.1 u).2;refine ro 3 O<|kV (.c (zf Xk O)<|.c (zl Vg O O O O)<|.c (zm O)<|.c (zf Xk O)<|.c (zl Vg O O O O)<|.c (zk VD O)<|.c (zK (gQ (a:=a) (m:=(R b.parts:Int)) I) call13 O)<|.c (S.Zi (n:=J) VD .none O (zt O) (zt O) hJ hJl O)<|.c (S.Vj K6 .none O (zt O) O O)<|.c (zA (c:=10) ze57 O)<|.c (zS K6 O O O O O O) .nil) ?_;refine rd 3 O ?_;rw[hSJ];refine ro 6 O<|kB O (λc96=>?_) λc96=>?_
 ·refine ro 5 O (kR O O ?_)
  first|rfl|simp
 have hun:=(gJ h0).2 J A;have hpx:=(F5 h0).pIx2 A;rw[←hq]at hun hpx;have hH:=hist_eq h0 hun hpx;rw[←hq]at hH;have hH1:(Nn n l q.num).1=JB n l q:=rn Prod.fst hH;have hH2:(Nn n l q.num).2=0:=rn Prod.snd hH;refine ro 3 O<|kV (.c (zL Pn O O O O)<|.c (zK (Tj (n:=n) I) call11 O)<|.c (zm O)<|.c (zK (S8 (l:=l) I) call12 O)<|.c (zf CC O)<|.c (zl YK O O O O)<|.c (S.Xo (J7 (n:=n) (l:=l) (num:=q.num) I<|An M) hT call14 .none O (zc O<|zc O<|zc O .nil) O)<|.c (zm O)<|.c (zX O O O)<|.c (zX O O O)<|.c (za O)<|.c (za O) .nil) ?_;refine rd 3 O ?_;rw[hH1,hH2];refine ro 5 O<|kB O (λV=>?_) λV=>?_
 ·exact absurd rfl V
 refine ro 4 O<|RK.c (S.XG (k:=13) (sz:=3) .none O)<|rr 9 O ?_;refine OK.loop (G:=Nat) [3,8,10,13] (λi=>[(1,.sl<|l.map Entry.cs),(3,.ptr 3 0),(1003,.box n.cs),(8,.ptr 8 0),(1008,.box b.cs),(10,.ptr 10 0),(1010,.box q.cs),(11,ints<|JB n l q),(13,.own 13<|R<|UA (VC n l q) l i),(2013,.arr 3<|(UA (VC n l q) l i).map Entry.cs),(14,bv i)]) (λi=>i<=R l) (λi=>R l - i) 0 (Zr _) ⟨O,O,O,O,O,O,O,O,O,O,O,Zo⟩ (λ_=>O) ?_;rintro i hi;refine ro 5 O<|kc (zk Vy O)<|rr 3 O<|kB O (λc112=>?_) λc112=>?_
 ·have f:i<R l:=by omega
  have hkl:=L9 (l:=l) (g:=(VC n l q)) i;refine ro 8 O<|kc (zK (sG (l:=JB n l q) (n:=(i:Int))) call15 O)<|kc (S.not .none O<|zt O)<|jm O<|RK.split (t:=119) O (λE=>?_) λE=>?_
  ·have Z:(VC n l q) i=true:=keep_1 E f;have o:=L8 f Z;refine rr 22 O<|kc (zI Vy O I O)<|kc (S.Vj WC .none O (zt O) O O) ?_;refine RK.c (zM [[_,_,_]] x9 O O O O) ?_;refine kc (zP x9 O O (Zx ..) N I<|by simp only[maxLen];omega) ?_;refine Rr 9 O I ?_;refine Ab.D.lp ⟨i+1,I,I,O,O,O,O,O,O,O,O,(ZH<|by first|(rw[o];done)|(rw[o,Zs];rfl)),(ZX<|by first|(rw[o];done)|(rw[o,ne];rfl)),O,Zo⟩
  refine rr 2 O<|kc (S.Zi (n:=i) Vy (zg O O) O (zt O) (zt O) O I O) ?_;refine rr 2 O ?_;refine kc (S.call (R_ (s:=l[i].text) (v:=[114,101,99,105,112,101,32])) call9 (zg O O) O (zc O<|.cons (.Vh (l:=[114,101,99,105,112,101,32]) O C) .nil) O) ?_;refine rr 2 O<|RK.ZS (t:=127) O (λB=>?_) λB=>?_
  ·have Z:(VC n l q) i=true:=dO<|.inl<|(AT h0 f (j:=10) (v:=[114,101,99,105,112,101,32]) rfl C).1 B;have o:=L8 f Z;refine rr 14 O<|kc (zI Vy O I O)<|kc (S.Vj WC .none O (zt O) O O) ?_;refine RK.c (zM [[_,_,_]] x9 O O O O) ?_;refine kc (zP x9 O O (Zx ..) N I<|by simp only[maxLen];omega) ?_;refine Rr 9 O I ?_;refine Ab.D.lp ⟨i+1,I,I,O,O,O,O,O,O,O,O,(ZH<|by first|(rw[o];done)|(rw[o,Zs];rfl)),(ZX<|by first|(rw[o];done)|(rw[o,ne];rfl)),O,Zo⟩
  refine rr 2 O<|kc (S.Zi (n:=i) Vy (zg O O) O (zt O) (zt O) O I O) ?_;refine rr 2 O ?_;refine kc (S.call (R_ (s:=l[i].text) (v:=[99,111,105,108,32])) call9 (zg O O) O (zc O<|.cons (.Vh (l:=[99,111,105,108,32]) O C) .nil) O) ?_;refine rr 3 O<|kB O (λL=>?_) λL=>?_
  ·have Z:(VC n l q) i=true:=dO<|.inr<|(AT h0 f (j:=6) (v:=[99,111,105,108,32]) rfl C).1 L;have o:=L8 f Z;refine ro 4 O<|kc (zI Vy O I O)<|kc (S.Vj WC .none O (zt O) O O) ?_;refine RK.c (zM [[_,_,_]] x9 O O O O) ?_;refine kc (zP x9 O O (Zx ..) N I<|by simp only[maxLen];omega) ?_;refine Rr 9 O I ?_;refine Ab.D.lp ⟨i+1,I,I,O,O,O,O,O,O,O,O,(ZH<|by first|(rw[o];done)|(rw[o,Zs];rfl)),(ZX<|by first|(rw[o];done)|(rw[o,ne];rfl)),O,Zo⟩
  have Z:¬(VC n l q) i=true:=keep_3 E f (λe=>B<|(AT h0 f (j:=10) (v:=[114,101,99,105,112,101,32]) rfl C).2 e) λe=>L<|(AT h0 f (j:=6) (v:=[99,111,105,108,32]) rfl C).2 e;have o:=lH (l:=l) Z;refine Ro 8 O I ?_;refine Ab.D.lp ⟨i+1,I,I,O,O,O,O,O,O,O,O,(ZH<|by first|(rw[o];done)|(rw[o,Zs];rfl)),(ZX<|by first|(rw[o];done)|(rw[o,ne];rfl)),O,Zo⟩
 obtain rfl:i=R l:=by omega
 have hI:=eA h0 hvv A (R l)<|Zq _;have hR0:=hI.ok;have hI2:=hI.st;rw[←hq]at hR0 hI2;have hRS:Xi n (UA (VC n l q) l<|R l)=b.rm J:=by rw[vJ<|Zp hR0,hI2,wv,z]
 have hRb:∀x∈(UA (VC n l q) l<|R l),R x.text<=100000:=λx hx=>M x<|G1 _ x hx
 have hkl:=L9 (l:=l) (g:=(VC n l q))<|R l;refine ro 3 O ?_;refine OK.freeze 13 O O O F ?_;refine ro 2 O<|kc (zK (Tj (n:=n) I) call11 O)<|jm O<|kc (zK (S8 (l:=(UA (VC n l q) l<|R l)) I) call12 O)<|kc (S.Xo (ET (n:=n) (l:=(UA (VC n l q) l<|R l)) I<|An hRb) hT call10 .none O (zc O<|zc O .nil) O) ?_;refine rr 10 O ?_;rw[hR0,hRS];have hTl:=fy u;have hTc:R (b.rm J).Z5=R b.Z5:=by rw[Ym u];exact Zx ..
 have hcl4:R b.Z5<=4:=by rw[z];show(R<|(Z2 n l).1.Z5.map _)<=4;rw[Zx];exact(F5 h0).inv.lc
 have hTr:(b.rm J).ZJ=b.ZJ:=by rw[Ym u]
 refine ro 4 O<|RK.ZS (t:=152) O (λQ=>?_) λQ=>?_
 ·exact absurd rfl Q
 refine rr 2 O<|kc (S.OF VD (zg O O) O<|zt O)<|rr 2 O<|kc (S.OF VD (zg O O) O<|zt O)<|Rr 4 O I<|RK.ZS (t:=162) O (λg162=>?_) λg162=>?_
 ·exfalso;omega
 refine rr 2 O<|kc (S.OF rN (zg O O) O<|zt O)<|rr 2 O<|kc (S.OF rN (zg O O) O<|zt O)<|rr 3 O<|RK.ZS (t:=171) O (λg171=>?_) λg171=>?_
 ·exfalso;omega
 refine rr 2 O<|kc (S.OF Rh (zg O O) O<|zt O)<|rr 2 O<|kc (S.OF Rh (zg O O) O<|zt O)<|rr 4 O<|kB O (λU=>?_) λU=>?_
 ·exact absurd (by rw[hTr]) U
 refine ro 14 O ?_;refine OK.loop (G:=Nat) [8,10,15] (λi=>[(8,.ptr 8 0),(1008,.box b.cs),(10,.ptr 10 0),(1010,.box q.cs),(15,.ptr 15 0),(1015,.box (b.rm J).cs),(17,bv (dnA J i:Nat)),(18,bv i)]) (λi=>i<=R b.parts) (λi=>R b.parts - i) 0 (Zr _) ⟨O,O,O,O,O,O,(OT<|by unfold dnA;rw[Zm<|bπ _];rfl),O,Zo⟩ (λ_=>O) ?_;rintro i hi;refine ro 6 O<|kc (zk VD O)<|rr 3 O<|kB O (λc184=>?_) λc184=>?_
 ·have f:i<R b.parts:=by omega
  have hSi:b.parts[i]=(Z2 n l).1.p i:=by have e:=DK (H:=(Z2 n l).1) (J:=i) I;rw[←z,Zv f]at e;exact aγ e
  refine ro 6 O<|kV (.c (zf Xk O)<|.c (zl Vg O O O O)<|.c (zm O)<|.c (zI VD O I O)<|.c (S.field CC .none O (zt O) O)<|.c (zV YK O O)<|.c (zf CC O)<|.c (zl YK O O O O)<|.c (S.eql .none O (zt O)<|zt O) .nil)<|Ab.D.code<|kB O (λK=>?_) λK=>?_
  ·have P:i=J:=sM h0 I A (by rw[←hq,←hSi];exact K);subst P;have hA:=dnA_J (J:=i);refine Ro 7 O I<|Ab.D.lp ⟨i+1,I,I,O,O,O,O,O,O,(OT I),O,Zo⟩
  have P:i≠J:=λe=>by subst e;exact K (by rw[hSJ])
  obtain⟨hdd,hA⟩:=dnA_dn P;obtain⟨hdl,hde⟩:=fC u f P;have hSP:Ct prog 16 [.agg b.parts[i].cs,.agg (b.rm J).parts[dn J i].cs]<|.bool true:=by rw[hde];exact CW
  refine ro 4 O ?_;refine kV (.c (zf Xk O)<|.c (zl Vg O O O O)<|.c (zm O)<|.c (zI VD O I O)<|.c (S.Vj K6 .none O (zt O) O O)<|.c (zf Xk O)<|.c (zl Vg O O O O)<|.c (zm O)<|.c (S.Zi (n:=dn J i) VD .none O (zt O) (zt O) (by rw[hdd]) hdl O)<|.c (S.Vj K6 .none O (zt O) O O)<|.c (zK hSP call16 O)<|.c (S.not .none O<|zt O) .nil) ?_;refine Rd 16 O I<|Ab.D.lp ⟨i+1,I,I,O,O,O,O,O,O,(OT I),O,Zo⟩
 refine ro 9 O ?_;refine OK.loop (G:=Nat) [8,10,15] (λi=>[(8,.ptr 8 0),(1008,.box b.cs),(10,.ptr 10 0),(1010,.box q.cs),(15,.ptr 15 0),(1015,.box (b.rm J).cs),(19,bv i)]) (λi=>i<=R b.Z5) (λi=>R b.Z5 - i) 0 (Zr _) ⟨O,O,O,O,O,O,O,Zo⟩ (λ_=>O) ?_;rintro i hi;refine ro 6 O<|kc (zk rN O)<|rr 3 O<|kB O (λc214=>?_) λc214=>?_
 ·have f:i<R b.Z5:=by omega
  have Y:i<R (b.rm J).Z5:=by omega
  have hTi:=fu u f Y;have hsm:∀c∈b.Z5,0<=c.ZA/\c.ZA<=1000:=by
   rw[z];intro c hc;obtain⟨w,hw,rfl⟩:=rx.1 hc;have h1:=(F5 h0).inv.ZA w hw;have h2:=(F5 h0).lf w hw;omega
  have hsh:=hsm _<|Zt f;refine ro 9 O ?_;refine OK.join (G:=Int) [8,10,15] (λd=>[(8,.ptr 8 0),(1008,.box b.cs),(10,.ptr 10 0),(1010,.box q.cs),(15,.ptr 15 0),(1015,.box (b.rm J).cs),(19,bv i),(20,bv d)]) (λd=>d=if b.Z5[i].name=q.Yb then 1 else 0) (λ_=>O) ?_ ?_
  ·refine kO<|kV (.c (zf TU O)<|.c (zl dJ O O O O)<|.c (zm O)<|.c (zI rN O I O)<|.c (S.field Gx .none O (zt O) O)<|.c (zV T6 O O)<|.c (zf CD O)<|.c (zl T6 O O O O)<|.c (S.vl .none O (zt O)<|zt O) .nil)<|Ab.D.code<|kB O (λr=>?_) λr=>?_
   ·refine ro 3 O ?_;refine Ab.D.lp ⟨_,(by first|exact(Zn r).symm|exact(Zm r).symm),O,O,O,O,O,O,O,O,Zo⟩
   refine OK.skip (Ab.D.lp ⟨_,(by first|exact(Zn r).symm|exact(Zm r).symm),O,O,O,O,O,O,O,O,Zo⟩)
  rintro d rfl;refine kO ?_;by_cases g239:(b.rm J).Z5[i].name≠b.Z5[i].name
  ·exact absurd (by rw[hTi];rfl) g239
  refine kV (.c (zf TU O)<|.c (zl dJ O O O O)<|.c (zm O)<|.c (zI rN O Y O)<|.c (S.field Gx .none O (zt O) O)<|.c (zV T6 O O)<|.c (zf TU O)<|.c (zl dJ O O O O)<|.c (zm O)<|.c (zI rN O I O)<|.c (S.field Gx .none O (zt O) O)<|.c (zV T6 O O)<|.c (S.sneq .none O (zt O)<|zt O)<|.c (zm O)<|.c (S.VN TU (.yes O O O W) O<|zt O)<|.c (S.YH dJ (.yes O O O W) O (zt O) O O O O)<|.c (S.move (.yes O O O W) O<|zt O)<|.c (S.Zi (n:=i) rN (.yes O O O W) O (zt O) (zt O) O Y O)<|.c (S.field Qo (.yes O O O W) O (zt O) O)<|.c (S.Q_ YK (.yes O O O W) O (zt O) O)<|.c (S.VN TU (.yes O O O W) O<|zt O)<|.c (S.YH dJ (.yes O O O W) O (zt O) O O O O)<|.c (S.move (.yes O O O W) O<|zt O)<|.c (S.Zi (n:=i) rN (.yes O O O W) O (zt O) (zt O) O I O)<|.c (S.field Qo (.yes O O O W) O (zt O) O)<|.c (S.Q_ YK (.yes O O O W) O (zt O) O)<|.c (S.move (.yes O O O W) O<|zt O)<|.c (S.sub (.yes O O O W) O (zt O) (zt O) (mn _<|by split<;>omega)<|mn _<|by split<;>omega)<|.c (S.neq (.yes O O O W) O (zt O)<|zt O)<|.c (S.Ug .none O (zt O) (zt O) W) .nil) ?_;refine Ab.D.code<|kB O (λT=>?_) λT=>?_
  ·exact absurd (by rw[hTi];rfl) T
  refine Ro 8 O I<|Ab.D.lp ⟨i+1,I,I,O,O,O,O,O,O,O,Zo⟩
 refine ro 7 O (kR O O ?_)
 first|rfl|simp
