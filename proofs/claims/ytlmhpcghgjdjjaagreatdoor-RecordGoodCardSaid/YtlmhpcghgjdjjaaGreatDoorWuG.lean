import Derived.Test.YtlmhpcghgjdjjaaGreatDoorLbG
set_option linter.all false
open List renaming length->R
namespace Go.Proofs.Z_
open Go.Ab Tryz
set_option maxRecDepth 9999
def gA{L:List YP}{q:Bool}(h:ZZ (Ab.stepG λ(_:Bool)(_:YP)=>(true,some Code.ret)) (false,none) L=((q,none),true)):L=[]/\q=false:=by
 cases L with
 |nil=>simp only[ZZ,aψ]at h;simp_all
 |cons d L=>simp[ZZ,Ab.stepG]at h
def gB{L:List YP}{q:Bool}{a:Code}(h:(ZZ (Ab.stepG λ(_:Bool)(_:YP)=>(true,some Code.ret)) (false,none) L).1=(q,some a)):L≠[]/\q=true/\a=.ret:=by
 cases L with
 |nil=>simp[ZZ]at h
 |cons d L=>
  simp_all[ZZ,Ab.stepG]
def Us(x:Envelope)(r:ZG):Int:=if(R<|N_ x r)≠0 then 2 else if(R<|P7 r)≠0 then 1 else 0
def OrdT(x:Envelope):Prop:=∀(i:Nat)(h:i<R x.rows)(j:Nat)(a:j<R x.rows[i]),x.rows[i][j].lo<=x.rows[i][j].hi
variable{n:Int}{rs:List Range}{c t:Nat}
theorem aA(h:c<R rs)(a:rs[c].lo<=rs[c].hi)(b:n>rs[c].hi):S7 t rs c n=[⟨t,c,n - rs[c].hi⟩]:=by
 have e:UR n rs[c]=n - rs[c].hi:=by
  unfold UR;omega
 unfold S7;grind
theorem aC(h:c<R rs)(a:rs[c].lo<=rs[c].hi)(b:n<rs[c].lo):S7 t rs c n=[⟨t,c,n - rs[c].lo⟩]:=by
 have e:UR n rs[c]=n - rs[c].lo:=by
  unfold UR;omega
 unfold S7;grind
def aB(h:c<R rs)(b:¬n>rs[c].hi)(a:¬n<rs[c].lo):S7 t rs c n=[]:=by
 simp_all[UR,Zm,S7]
def v_{D out rest more tail:List YP}(h:D=out++(more++rest++tail)):D=(out++more)++(rest++tail):=by rw[h];simp
theorem iX{D out tail:List YP}(h:D=out++tail)(a:R D<=100000):R out<=100000:=by
 grind
variable{x:Envelope}{p:Zf}
def j9(h:(Ve p x).2=0):OrdT x:=λi hi j a=>(BY<|((Nk h).2.2.2 i hi).2 j a).2
def xK{t:Int}(h:XI t n≠0):XI t n=2:=by
 unfold XI at *;omega
variable{j:Nat}
def rows_drop{α:Type}(g:α->Int){l:List α}(h:j<R l)(a:ZP (λ_ x=>g x) 0 l=ZP (λ_ x=>g x) j (l.drop j))(e:g l[j]=0):ZP (λ_ x=>g x) 0 l=ZP (λ_ x=>g x) (j+1) (l.drop<|j+1):=by
 rw[a,Zd _ h,Zm<|by rw[e];simp]
def rows_hit{α:Type}(g:α->Int){l:List α}{q:Int}(h:j<R l)(b:ZP (λ_ x=>g x) 0 l=ZP (λ_ x=>g x) j (l.drop j))(e:g l[j]=q)(a:q≠0):ZP (λ_ x=>g x) 0 l=((j:Int),q):=by
 rw[b,Zd _ h,Zn (by rw[e];exact a),e]
variable{r:ZG}
def D8(o:kP x r)(e:R r.rows<=100000)(b:∀(i:Nat)(h:i<R r.rows),R r.rows[i].values<=100000):Ct prog 257 [.agg x.cs,.agg r.cs]<|.bool<|decide<|R (N_ x r)≠0:=by
 refine cI func257 O<|ro 12 O<|kc (zK Ik call302 O)<|rr 3 O ?_;refine OK.rangeFunc (ps:=[8]) (encs:=(λd=>[.agg<|YP.cs d])) (L:=(N_ x r)) [4] [(4,.ptr 4 0)] (λq=>[(1004,.box [.bool q])]) false (λ(_:Bool)(_:YP)=>(true,some Code.ret)) ((λJ g n Φ c l=>tT o e b J g n Φ c l)) call352 (.inl O) (zt O) O O ⟨O,O,Zo⟩ (λ_=>O) (λ_=>O) (λ_=>O) (λ_=>O) (λ_=>O) C O ?_ ?_ ?_
 ·rintro i x q v a lr c0 w0 u t s p;refine OK.skipQ ?_;refine⟨rfl,?_⟩;refine ro 6 O<|OK.ret ?_;exact⟨rfl,rfl,Zo⟩
 ·rintro q a;obtain⟨m,j⟩:=gA a;subst j;refine rd 7 O<|OK.ret<|Y3.r1 (.Py O O O O CI (.same O) O) ?_;rw[m];rfl
 rintro q w a;obtain⟨m,f,k⟩:=gB a;subst f;subst k;refine OK.ret<|Y3.r1 (.Py O O O O CI (.same O) O) ?_;rw[Zz<|by simpa using m]
def GI:Ct prog 204 [.agg p.cs,.agg x.cs,.agg r.cs]<|.Yy [bv (if Xa p x r=0 then Us x r else 0),bv<|Xa p x r]:=by
 refine cI func204 O<|ro 15 O<|kc (zK D9 call256 O)<|rr 9 O<|kB O (λc=>?_) λc=>?_
 ·refine ro 7 O<|kS O O O O ?_;rw[Zm (show¬Xa p x r=0 from c)]
 have b:Xa p x r=0:=I
 have d:=vN b;have f:=d.rows;refine ro 8 O ?_;refine kc (zK (D8 d.fit I λi h=>by have:=d.vals i h;omega) call257 O) ?_;refine rr 3 O<|OK.cond O O (λa=>?_) λa=>?_
 ·refine ro 6 O<|kS O O O O ?_;rw[Zn b,b,Us,Zn<|pf a]
 refine ro 3 O<|kc (zK (Bw I) call258 O)<|kc (zk Ym O) ?_;refine rr 4 O<|kB O (λe=>?_) λe=>?_
 ·refine ro 6 O<|kS O O O O ?_;rw[Zn b,b,Us,Zm<|a6 a,Zn I]
 refine ro 9 O<|kS O O O O ?_;rw[Zn b,b,Us,Zm<|a6 a,Zm I]
def ref_CheckEnvelope:Ct prog 86 [.agg p.cs,.agg x.cs]<|pair<|Ve p x:=by
 refine cI func86 O<|OK.Qd 1 2 (x.rows.map λl=>[X.sl<|l.map Range.cs]) O O O λhlen=>?_;rw[Zx]at hlen;unfold maxLen at hlen;refine OK.Qd 0 0 (p.ZY.map λs=>[.str s]) O O O λb=>?_
 rw[Zx]at b;unfold maxLen at b;refine ro 13 O<|kc (zK Y4 call33 O)<|kc (S.Xb .none O<|zt O)<|jm O<|RK.ZS (t:=13) O (λk=>?_) λk=>?_
 ·refine rr 16 O<|kS O O O O ?_;refine WM ?_;rw[Ve,Zn<|by simpa using k]
 refine rr 4 O<|kc (S.call (ref_TrimErr I) call121 (zg O O) O (zc O<|zc O .nil) O) ?_;refine rr 4 O<|kB O (λf=>?_) λf=>?_
 ·refine ro 6 O<|kS O O O O ?_;refine WM ?_;rw[Ve,Zm I,Zn f,xK f]
 refine ro 7 O<|kc (zk Gx O)<|rr 5 O<|kB O (λo=>?_) λo=>?_
 ·refine ro 6 O<|kS O O O O ?_;refine WM ?_;rw[Ve,Zm I,Zm f,Zn o]
 have w:1<=x.parts/\x.parts<=20:=by simpa using k
 have a:Ve p x=ZP (λ_ l=>Up p l) 0 x.rows:=by rw[Ve,Zm I,Zm I,Zm I]
 refine ro 9 O ?_;refine OK.loop (G:=Nat) [2,3] (λi=>[(2,.ptr 2 0),(1002,.box p.cs),(3,.ptr 3 0),(1003,.box x.cs),(6,bv i)]) (λi=>i<=R x.rows/\ZP (λ_ l=>Up p l) 0 x.rows=ZP (λ_ l=>Up p l) i (x.rows.drop i)) (λi=>R x.rows - i) 0 ⟨Zr _,O⟩ ⟨O,O,O,O,O,Zo⟩ (λ_=>O) ?_;rintro i ⟨hi,m⟩;refine ro 6 O<|kc (zk Gx O)<|rr 3 O<|kB O (λv=>?_) λv=>?_
 ·refine ro 6 O<|kV (.c (zf Nl O)<|.c (zl xS O O O O)<|.c (zm O)<|.c (zI Gx O I O)<|.c (zV f_ O O)<|.c (zk vq O)<|.c (zf L9 O)<|.c (zl EX O O O O)<|.c (zk X9 O)<|.c (S.neq .none O (zt O)<|zt O) .nil)<|Ab.D.code<|kB O (λu=>?_) λu=>?_
  ·refine ro 7 O<|kS O O O O ?_;have e:Up p x.rows[i]=10:=by rw[Up,Zn I]
   exact WM (by rw[a,rows_hit (Up p) I m e C])
  refine ro 8 O ?_;refine OK.loop (G:=Nat) [2,3] (λj=>[(2,.ptr 2 0),(1002,.box p.cs),(3,.ptr 3 0),(1003,.box x.cs),(6,bv i),(7,bv j)]) (λj=>j<=R x.rows[i]/\ZP (λ_ y=>WE y) 0 x.rows[i]=ZP (λ_ y=>WE y) j (x.rows[i].drop j)) (λj=>R x.rows[i] - j) 0 ⟨Zr _,O⟩ ⟨O,O,O,O,O,O,Zo⟩ (λ_=>O) ?_;rintro j ⟨z,n⟩;refine ro 7 O<|kc (zI Gx O I O)<|kc (zV f_ O O)<|kc (zk vq O) ?_;refine rr 3 O<|kB O (λr=>?_) λr=>?_
  ·refine ro 9 O<|kc (zI Gx O I O) ?_;refine rr 2 O<|kc (zI vq O I O) ?_;refine rr 10 O<|kc (zK E2 call122 O)<|kc (S.Xb .none O<|zt O)<|jm O<|RK.ZS (t:=67) O (λg=>?_) λg=>?_
   ·refine rr 15 O<|kS O O O O ?_;have e:Up p x.rows[i]=2:=by rw[Up,Zm I,rows_hit WE I n (show WE x.rows[i][j]=2 by(rw[WE,Zn I])) C]
    exact WM (by rw[a,rows_hit (Up p) I m e C])
   refine rr 2 O<|kc (S.call E2 call122 (zg O O) O (zc O .nil) O)<|kc (S.Xb (zg O O) O<|zt O)<|rr 3 O<|kB O (λd=>?_) λd=>?_
   ·refine ro 7 O<|kS O O O O ?_;have e:Up p x.rows[i]=2:=by rw[Up,Zm I,rows_hit WE I n (show WE x.rows[i][j]=2 by(rw[WE,Zn λh=>d h.2])) C]
    exact WM (by rw[a,rows_hit (Up p) I m e C])
   refine ro 11 O<|kB O (λq=>?_) λq=>?_
   ·refine ro 7 O<|kS O O O O ?_;have e:Up p x.rows[i]=9:=by rw[Up,Zm I,rows_hit WE I n (show WE x.rows[i][j]=9 by(rw[WE,Zm λh=>h ⟨Zu.1 g,Zu.1 d⟩,Zm I])) C]
    exact WM (by rw[a,rows_hit (Up p) I m e C])
   refine Ro 8 O I (Ab.D.lp ⟨j+1,⟨by omega,?_⟩,I,O,O,O,O,O,O,Zo⟩);have B: -1000000<=x.rows[i][j].lo/\x.rows[i][j].lo<=1000000:=by simpa using g
   have A: -1000000<=x.rows[i][j].hi/\x.rows[i][j].hi<=1000000:=by simpa using d
   exact rows_drop WE I n (by rw[WE,Zm I,Zn I])
  refine Ro 8 O I (Ab.D.lp ⟨i+1,⟨by omega,?_⟩,I,O,O,O,O,O,Zo⟩);have e:Up p x.rows[i]=0:=by rw[Up,Zm I,n,show j=R x.rows[i] by omega,da];rfl
  exact rows_drop (Up p) I m e
 refine ro 8 O<|kS O O O O ?_;exact WM (by rw[a,m,show i=R x.rows by omega,da];rfl)
def Kc{l:List Range}(hlen:R l<=100000):Ct prog 275 [.sl<|l.map Range.cs]<|.sl<|l.map Range.cs:=by
 refine cI func275 O<|kr<|kc (S.assign .none O .Ya)<|rr 4 O<|RK.c (zM [] sN O O O O)<|jm O ?_;refine RK.c (S.V2 sN .none O (zt O) O N (zt O) (by intro q a;obtain⟨b,_,rfl⟩:=rx.1 a;rfl) O (by simp only[Zx];omega)<|by simp only[maxLen,Zx];omega) ?_;refine rr 3 O ?_;refine OK.ret<|Y3.r1 (.tmp O O (.c (.own O O N) O) O) ?_;rfl
def LZ(hlen:R x.rows<=100000)(b:∀(i:Nat)(h:i<R x.rows),R x.rows[i]<=100000):Ct prog 222 [.agg x.cs]<|.agg x.cs:=by
 refine cI func222 O<|ro 12 O<|kc (zU lU O O)<|rr 11 O<|OK.VL 3 2 890 1 O O O O O ?_;refine OK.loop (G:=Nat) [1,2,3,890] (λi=>[(1,.ptr 1 0),(1001,.box x.cs),(2,.ptr 2 0),(1002,.box [bv 0,bv 0,.ZM]),(3,.ptr 3 0),(1003,.box [bv x.parts,bv x.trim,.own 890 i]),(2890,.arr 1<|(x.rows.take i).map λl=>[X.sl<|l.map Range.cs]),(4,bv i)]) (λi=>i<=R x.rows) (λi=>R x.rows - i) 0 (Zr _) ⟨O,O,O,O,O,O,(ZX N),O,Zo⟩ (λ_=>O) ?_;rintro i hi;refine ro 6 O<|kc (zk Gx O)<|rr 3 O<|kB O (λd=>?_) λd=>?_
 ·have a:=b i I;refine ro 4 O ?_;refine kV (.c (zf Nl O)<|.c (zl xS O O O O)<|.c (zf Nl O)<|.c (zl xS O O O O)<|.c (zm O)<|.c (zI Gx O I O)<|.c (zV f_ O O)<|.c (zK (Kc (l:=x.rows[i]) a) call275 O)<|.c (zM [[_]] sM O O O O)<|.c (zP sM O O (by first|(simp;done)|(simp;omega)) N I<|by simp only[maxLen];omega)<|.c (zf Nl O)<|.c (zS xS O O O O O O) .nil) ?_;refine Rd 7 O I ?_;refine Ab.D.lp ⟨i+1,I,I,O,O,O,O,O,O,(ZX<|by rw[←Wh I];simp only[ne,ta,H2]),O,Zo⟩
 refine ro 8 O ?_;refine OK.ret<|Y3.r1 (.XU O O O O Md O<|.k (.same O)<|.k (.same O)<|.k (.own O O N) .z) ?_;rw[show i=R x.rows by omega,List.take_length];rfl
def IS(m:kP x r)(v:R r.rows<=100000)(n:∀(i:Nat)(h:i<R r.rows),R r.rows[i].values<=100000)(y:OrdT x)(z:R (N_ x r)<=100000):Ct prog 276 [.agg x.cs,.agg r.cs]<|devs<|N_ x r:=by
 refine cI func276 O<|ro 4 O<|kc (S.assign .none O .Ya)<|rr 4 O<|RK.c (S.XG (k:=5) (sz:=3) .none O)<|rr 9 O ?_;refine OK.We [2,3,5] (λ(i:Nat)(out:List YP)=>[(2,.ptr 2 0),(1002,.box x.cs),(3,.ptr 3 0),(1003,.box r.cs),(5,.own 5<|R out),(2005,.arr 3<|out.map YP.cs),(6,bv i)]) (λi out=>i<=R r.rows/\N_ x r=out++S9 x i (r.rows.drop i)) (λi out=>R r.rows - i) 0 ([]) ⟨Zr _,O⟩ ⟨O,O,O,O,(ZH N),(ZX N),O,Zo⟩ (λ_ _=>O) ?_;rintro i out ⟨hi,u⟩;refine ro 6 O<|kc (zk UL O)<|rr 3 O<|kB O (λp=>?_) λp=>?_
 ·refine ro 10 O ?_;refine OK.We [2,3,5] (λ(j:Nat)(a:List YP)=>[(2,.ptr 2 0),(1002,.box x.cs),(3,.ptr 3 0),(1003,.box r.cs),(5,.own 5<|R a),(2005,.arr 3<|a.map YP.cs),(6,bv i),(7,bv j)]) (λj a=>j<=R r.rows[i].values/\N_ x r=a++(Uo i (x.rows.getD i []) j (r.rows[i].values.drop j)++S9 x (i+1) (r.rows.drop<|i+1))) (λj a=>R r.rows[i].values - j) 0 out ⟨Zr _,by rw[u,HC I];rfl⟩ ⟨O,O,O,O,(ZH N),(ZX N),O,O,Zo⟩ (λ_ _=>O) ?_;rintro j a ⟨A,b⟩;refine ro 7 O<|kc (zI UL O I O) ?_;refine rr 2 O<|kc (zk Ym O)<|rr 3 O<|kB O (λo=>?_) λo=>?_
  ·have f:=m.rows i I;have d:=m.cols i I f j I;have s:=m.val i I j I;have t:=m.rng i f j d;have g:=y i f j d;have w:=iX b z;have q:=n i I;refine ro 5 O<|kV (.c (zf wu O)<|.c (zl ry O O O O)<|.c (zm O)<|.c (zI UL O I O)<|.c (S.field DF .none O (zt O) O)<|.c (zV Vr O O)<|.c (zm O)<|.c (zI Ym O I O)<|.c (zV YK O O)<|.c (zf Nl O)<|.c (zl xS O O O O)<|.c (zm O)<|.c (zI Gx O f O)<|.c (zV f_ O O)<|.c (zm O)<|.c (zI vq O d O)<|.c (S.Vj kK .none O (zt O) O O)<|.c (zA (c:=9) ze24 O)<|.c (za O)<|.c (zS kK O O O O O O) .nil) ?_;refine rd 10 O<|kB O (λl=>?_) λl=>?_
   ·refine Ro 8 O I<|kc (zU vS O O) ?_;refine RK.c (zM [[_,_,_]] E5 O O O O) ?_;refine kc (zP E5 O O F N I<|by simp only[maxLen];omega) ?_;refine rr 11 O<|kB O (λe=>?_) λe=>?_
    ·refine Ro 8 O I<|kc (zU vS O O) ?_;refine RK.c (zM [[_,_,_]] E5 O O O O) ?_;refine kc (zP E5 O O F N (by first|omega|(simp;omega))<|by simp only[maxLen];omega) ?_;refine Rr 9 O I ?_;refine Ab.D.lp ⟨j+1,a++[⟨i,j,r.rows[i].values[j] - x.rows[i][j].hi⟩]++[⟨i,j,r.rows[i].values[j] - x.rows[i][j].lo⟩],⟨by omega,?_⟩,I,O,O,O,O,(ZH N),(ZX<|by first|rfl|(rw[ne];rfl)|(rw[ne,ne];rfl)),O,O,Zo⟩;exfalso;omega
    refine Ro 8 O I ?_;refine Ab.D.lp ⟨j+1,a++[⟨i,j,r.rows[i].values[j] - x.rows[i][j].hi⟩],⟨by omega,?_⟩,I,O,O,O,O,(ZH N),(ZX<|by first|rfl|(rw[ne];rfl)|(rw[ne,ne];rfl)),O,O,Zo⟩;rw[Sc I,getD_at f,aA d g l]at b;rw[getD_at f];exact v_ b
   refine ro 10 O<|kB O (λe=>?_) λe=>?_
   ·refine Ro 8 O I<|kc (zU vS O O) ?_;refine RK.c (zM [[_,_,_]] E5 O O O O) ?_;refine kc (zP E5 O O F N (by first|omega|(simp;omega))<|by simp only[maxLen];omega) ?_;refine Rr 9 O I ?_;refine Ab.D.lp ⟨j+1,a++[⟨i,j,r.rows[i].values[j] - x.rows[i][j].lo⟩],⟨by omega,?_⟩,I,O,O,O,O,(ZH N),(ZX<|by first|rfl|(rw[ne];rfl)|(rw[ne,ne];rfl)),O,O,Zo⟩;rw[Sc I,getD_at f,aC d g e]at b;rw[getD_at f];exact v_ b
   refine Ro 8 O I ?_;refine Ab.D.lp ⟨j+1,a,⟨by omega,?_⟩,I,O,O,O,O,(ZH N),(ZX<|by first|rfl|(rw[ne];rfl)|(rw[ne,ne];rfl)),O,O,Zo⟩;rw[Sc I,getD_at f,aB d l e]at b;rw[getD_at f];exact b
  refine Ro 8 O I ?_;refine Ab.D.lp ⟨i+1,a,⟨by omega,?_⟩,I,O,O,O,O,(ZH N),(ZX N),O,Zo⟩;rw[b,show j=R r.rows[i].values by omega,da];rfl
 refine ro 8 O ?_;refine OK.ret<|Y3.r1 (.tmp O O (.c (.own O O N) O) O) ?_;rw[u,show i=R r.rows by omega,da,S9,i8];rfl
def Cq(e:kP x r)(b:R r.rows<=100000)(a:∀(i:Nat)(h:i<R r.rows),R r.rows[i].values<=100000)(d:OrdT x)(f:R (N_ x r)<=100000):Ct prog 226 [.agg x.cs,.agg r.cs]<|bv<|Us x r:=by
 refine cI func226 O<|ro 13 O<|kc (zK (IS e b a d f) call276 O)<|kc (zk si382 O)<|rr 4 O<|kB O (λg=>?_) λg=>?_
 ·refine ro 5 O<|kR O O ?_;refine YL ?_;rw[Us,Zn I]
 refine ro 3 O<|kc (zK (qq I) call277 O)<|kc (zk Ym O) ?_;refine rr 4 O<|kB O (λc=>?_) λc=>?_
 ·refine ro 5 O<|kR O O ?_;refine YL ?_;rw[Us,Zm I,Zn I]
 refine ro 8 O<|kR O O ?_;refine YL ?_;rw[Us,Zm I,Zm I]
variable{l:List ZG}
theorem Cf(h:Wu p l=0):(1<=R l/\R l<=20)/\∀(k:Nat)(a:k<R l),(Vv p l[k]).2=0/\R (P7 l[k])=0:=by
 grind [Wu,U5,TT]
theorem Se{α:Type}(g:Nat->α->Int):∀(l:List α)(i:Nat),(∀(j:Nat)(h:j<R l),g (i+j) l[j]=0)->ZP g i l=(0,0)
 |[],_,_=>rfl
 |x::l,i,h=>by
  have h0:=h 0 F;simp only[bγ,Kp]at h0;rw[ZP,Zm I];refine Se g l (i+1) λj a=>?_
  have:=h (j+1) (by grind);grind
def gu{k:Nat}(a:k<R l)(d:t<R l[k].rows)(b:c<R l[k].rows[t].values):(col l t c)[k]'(by rw[TX];exact a)=l[k].rows[t].values[c]:=by
 simp_all[col]
structure C_(p:Zf)(l:List ZG):Prop where
 plan:Y_ p=0
 len:1<=l.length/\l.length<=20
 chk:∀(k:Nat)(hk:k<l.length),(Vv p l[k]).2=0/\(P7 l[k]).length=0
 whole:Lk p l
def nO(a:Y_ p=0)(h:Wu p l=0):C_ p l:=⟨a,(Cf h).1,(Cf h).2,CP h⟩
def gw(h:C_ p l)(f:(t:Int)<p.ticks)(g:c<R p.ZY):∀v∈col l t c, -1000000<=v/\v<=1000000:=by
 intro v e;obtain⟨k,a,rfl⟩:=dl e;rw[TX]at a;have b:t<R l[k].rows:=by have:=h.whole.rows k a;omega
 have d:c<R l[k].rows[t].values:=by have:=h.whole.vals k a t b;omega
 rw[gu a b d];exact(z7<|(Cb (h.chk k a).1).2 t b).2.2 c d
def I7(h:C_ p l){n:Nat}(a:(t:Int)<p.ticks)(d:c<R p.ZY)(b:n<R (sorted<|col l t c)): -1000000<=(sorted<|col l t c)[n]/\(sorted<|col l t c)[n]<=1000000:=
 gw h a d _ ((bμ (col l t c) _).mem_iff.1<|Zt b)
theorem asc_le{s:bd}(hs:s.Pairwise λx y=>x<=y){i:Nat}(h:i<=j)(b:j<R s):s[i]<=s[j]:=by
 rcases w7 i j with a|a
 ·simp_all[aπ]
 grind
variable{trim:Int}
def jD(a:c<R (OP p l trim t)):(OP p l trim t)[c]=S0 l trim t c:=by
 simp[OP]
def xh(p:Zf)(l:List ZG)(trim:Int)(t:Nat):R (OP p l trim t)=R p.ZY:=by simp[OP]
def gE(a:t<R (OM p l trim).rows):(OM p l trim).rows[t]=OP p l trim t:=by
 simp[OM]
theorem Dx(p:Zf)(l:List ZG)(trim:Int):R (OM p l trim).rows=p.ticks.toNat:=by simp[OM]
theorem Bs(h:C_ p l)(e:XI trim (R l)=0):Ve p (OM p l trim)=(0,0):=by
 have q:=h.len;have o:=X_ h.plan;have d:=Pk I e;have j:(OM p l trim).parts=R l:=rfl;have i:(OM p l trim).trim=trim:=rfl;unfold Ve;rw[j,i,Zm I,Zm I,Dx,Zm I];refine Se _ _ 0 λt a=>?_
 rw[gE a];rw[Dx]at a;unfold Up;rw[xh,Zm I];have:ZP (λ_ x=>WE x) 0 (OP p l trim t)=(0,0):=by
  refine Se _ _ 0 λc b=>?_
  show WE _=0;rw[jD b];rw[xh]at b;have g:=TX l t c;have f:=I6<|col l t c;have n:=I7 h (show(t:Int)<p.ticks by omega) b (show trim.toNat<_ by omega);have m:=I7 h (show(t:Int)<p.ticks by omega) b (show R l - 1 - trim.toNat<_ by omega);have k:=asc_le (N1<|col l t c) (show trim.toNat<=R l - 1 - trim.toNat by omega) I;unfold WE S0;grind
 rw[this]
def ref_EnvelopeErr:Ct prog 37 [.agg p.cs,.agg x.cs]<|bv (Ve p x).2:=by
 refine cI func37 O<|ro 11 O<|kc (zK ref_CheckEnvelope call86 O)<|rr 13 O<|kR O O ?_;rfl
def fU:kU prog 131:=⟨λa c b w=>strings_Join_none a c b w,λi o c xs b w h g f e d=>strings_Join i o c xs b w h g f e d⟩
def NO(w:ba):Option Int:=if UW w 7=true then some (WR w)else none
variable{w:ba}
def oN(h:UW w 7=true):NO w=some (WR w):=Zn h
theorem oM(h:UW w 7=false):NO w=none:=Zm (by grind)
def oQ:LO w true 7=UW w 7:=(Ek C).1
def oR(h:UW w 7=true):YZ w=WR w:=(Ek (d:=7) C).2 h
def EI{l:ba}{c:UInt8}(b:R l<=100000):Ct prog 342 [.str l,.str [c]]<|.bool<|decide<|l.head?=some c:=by
 refine cI func342 O<|ro 13 O<|RK.ZS (t:=10) O (λa=>?_) λa=>?_
 ·refine rr 3 O ?_;refine kc (S.VI W6 (zg O O) O (zt O) (.inl ⟨O,O,O⟩) (.inr ⟨_,_,O,(zt O),O⟩) I I O) ?_;refine rr 6 O<|kR O O ?_;refine Xj<|decide_eq_decide.2 ?_;cases l with
  |nil=>simp at a
  |cons x r=>simp
 refine rr 10 O<|kR O O ?_;refine Xj (Zy ?_).symm;rw[cι.1 (show R l=0 by simp at a;omega)];simp
def GY{l:ba}(b:R l<=100000):Ct prog 296 [.str l,.str [45]]<|.str<|Je l:=by
 refine cI func296 O<|ro 10 O<|kc (zK (EI (l:=l) (c:=45) b) call342 O)<|kD<|kB O (λa=>?_) λa=>?_
 ·refine ro 5 O ?_;refine kc (S.VI (lo:=1) (l':=l.drop 1) W6 .none O (zt O) (.inr ⟨_,_,O,(zt O),O⟩) (.inl ⟨O,O,O⟩) (by have:=a;cases l with|nil=>cases this|cons _ _=>simp) I<|by rw[List.take_length]) ?_;refine rr 3 O<|kR O O ?_;rw[show Je l=l.drop 1 from Zn a]
 refine ro 8 O<|kR O O ?_;rw[show Je l=l from Zm a]
def PY{l:ba}(a:R l<=100000):Ct prog 240 [.str l,.str [45]]<|.str<|Je l:=by
 refine cI func240 O<|ro 9 O<|kc (zK (GY I) call296 O) ?_;refine rr 3 O<|kR O O ?_;rfl
def NN{l:ba}{b:Bool}(a:R l<=100000):Q7 prog 187 [.str l,.bool b]<|.Yy [bv<|YZ l,.bool<|LO l b 7]:=by
 refine cT func187 O λg=>?_
 refine ro 9 O<|kc (S.Xo (Js a) g call180 .none O (zc O .nil) O)<|rr 11 O<|kc (S.mK underlying270 .none O<|zt O)<|jm O<|RK.split (t:=16) O (λf=>?_) λf=>?_
 ·refine kc (S.move (zg O O) O<|zt O)<|kc (S.Xo (N9<|Px l) g call179 (zg O O) O (zc O .nil) O)<|rr 4 O<|RK.ZS (t:=22) O (λe=>?_) λe=>?_
  ·refine rr 2 O<|RK.split (t:=24) O (λd=>?_) λd=>?_
   ·refine rr 6 O ?_;refine kc (S.call (PY (l:=l) a) call240 (zg O O) O (zc O<|.cons (.Vh (l:=[45]) O C) .nil) O) ?_;refine rr 7 O<|kS O O O O ?_;exact rn (λz=>X.Yy [X.int .i64<|YZ l,X.bool z]) (by unfold LO;simp_all<;>(intros;omega))
   refine rr 5 O<|RK.ZS (t:=29) O (λc=>?_) λc=>?_
   ·refine kc (S.move (zg O O) O<|zt O)<|kc (S.call (PY (l:=l) a) call240 (zg O O) O (zc O<|.cons (.Vh (l:=[45]) O C) .nil) O) ?_;refine rr 7 O<|kS O O O O ?_;exact rn (λz=>X.Yy [X.int .i64<|YZ l,X.bool z]) (by unfold LO;simp_all<;>(intros;omega))
   refine rr 9 O<|kS O O O O ?_;exact rn (λz=>X.Yy [X.int .i64<|YZ l,X.bool z]) (by unfold LO;simp_all<;>(intros;omega))
  refine rr 16 O<|kS O O O O ?_;exact rn (λz=>X.Yy [X.int .i64<|YZ l,X.bool z]) (by unfold LO;simp_all<;>(intros;omega))
 refine rr 22 O<|kS O O O O ?_;exact rn (λz=>X.Yy [X.int .i64<|YZ l,X.bool z]) (by unfold LO;simp_all<;>(intros;omega))
set_option maxHeartbeats 1000000 in
def Bx{l:List ba}(o:R l<=100000)(hw:∀w∈l,R w<=100000):Q7 prog 253 [.sl<|l.map λs=>[.str s]]<|.Yy [ints<|(YT NO l).getD [],.bool (YT NO l).isSome]:=by
 refine cT func253 O λm=>?_
 refine kr<|kc (S.assign .none O .Ya)<|rr 5 O<|RK.c (S.XG (k:=4) (sz:=1) .none O)<|rr 6 O<|kc (zk X9 O)<|rr 4 O ?_;refine OK.We [4] (λ(i:Nat)(out:bd)=>[(4,.own 4<|R out),(2004,.arr 1<|out.map λn=>[bv n]),(9,.sl<|l.map λs=>[.str s]),(10,bv<|R l),(11,bv i)]) (λi out=>i<=R l/\YT NO l=(YT NO<|l.drop i).map (out++ ·)/\R out<=i) (λi out=>R l - i) 0 ([]) ⟨Zr _,by rw[aα];cases YT NO l<;>simp,Zq _⟩ ⟨(ZH N),(ZX N),O,O,O,Zo⟩ (λ_ _=>O) ?_;rintro i out ⟨hi,g,j⟩;refine ro 6 O<|kB O (λh=>?_) λh=>?_
 ·have a:i<R l:=by omega
  have f:=hw _<|Zt a;refine ro 6 O<|kc (zI X9 O I O) ?_;refine rr 7 O<|kc (S.Xo (NN (l:=l[i]) (b:=true) f) m call187 .none O (zc O<|.cons .Wx .nil) O)<|rr 11 O<|kc (S.not .none O<|zt O)<|kD<|OK.cond O O (λe=>?_) λe=>?_
  ·have hs:UW l[i] 7=false:=by rw[←oQ];simpa using e
   have d:=QH g a<|oM hs;refine kr<|kc (S.assign .none O .Ya)<|rr 3 O<|kS O O O O ?_;rw[d]
   all_goals rfl
  have hs:UW l[i] 7=true:=by rw[←oQ];simpa using e
  refine ro 5 O ?_;refine RK.c (zM [[_]] Xr O O O O) ?_;refine kc (zP Xr O O F N I<|by simp only[maxLen];omega) ?_;refine Rr 8 O I ?_;refine Ab.D.lp ⟨i+1,out++[YZ l[i]],⟨by omega,JF g a (by rw[oN hs,oR hs]),by simp;omega⟩,I,(ZH F),(ZX F),O,O,O,Zo⟩
 have d:=MC g (show i=R l by omega);refine ro 9 O ?_;refine OK.ret<|Y3.r2 (.tmp O O (.c (.own O O N) O) O) (zo O O) ?_;rw[d]
 all_goals rfl
