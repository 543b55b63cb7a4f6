import Derived.Test.YtkkbjdenehfpaaaGreatDoorWiN
set_option linter.all false
open List renaming length->R
namespace Go.Proofs.Z_
open Go.Ab Tryz
set_option maxRecDepth 9999
theorem U5{α:Type}(g:Nat->α->Int):∀(l:List α)(i:Nat),(ZP g i l).2=0->∀(j:Nat)(h:j<R l),g (i+j) l[j]=0
 |[],_,_,j,h=>by simp at h
 |x::l,i,he,j,h=>by
  rw[ZP]at he;split at he
  ·omega
  rename_i a;cases j with
  |zero=>grind
  |succ j=>
   have:=U5 g l (i+1) he j (by grind);grind
def Ib:∀(l:List Row)(i:Nat),R (Vf i l)=0->∀x∈l,x.known=true
 |[],_,_,x,a=>by cases a
 |y::l,i,h,x,a=>by
  rw[Vf]at h;split at h
  ·rename_i b;rcases sf.1 a with rfl|a
   ·exact b
   exact Ib l (i+1) h x a
  simp at h
structure Lk(p:Zf)(l:List ZG):Prop where
 rows:∀(k:Nat)(h:k<l.length),(l[k].rows.length:Int)=p.ticks
 vals:∀(k:Nat)(h:k<l.length)(i:Nat)(h2:i<l[k].rows.length),l[k].rows[i].values.length=p.ZY.length
variable{l:List ZG}{p:Zf}
theorem CP(h:Wu p l=0):Lk p l:=by
 unfold Wu at h;split at h
 ·omega
 split at h
 ·omega
 have g:=U5 _ l 0 h;have vy:∀(k:Nat)(h:k<R l),(Vv p l[k]).2=0/\R (P7 l[k])=0:=by
  grind [TT]
 refine⟨λk b=>NR (vy k b).1,λk b i hi=>?_⟩;obtain⟨a,e⟩:=vy k b;have f:=NR a;unfold Vv at a;rw[Zm I]at a;have c:=U5 _ _ 0 a i hi;have d:=Ib _ 0 e _<|Zt hi;unfold UJ at c;rw[Zn d]at c;grind [Xt]
def col(l:List ZG)(t c:Nat):bd:=l.map λr=>((r.rows.getD t ⟨false,[]⟩).values.getD c 0)
def sorted(l:bd):bd:=l.mergeSort λx y=>decide<|x<=y
def S0(l:List ZG)(x3:Int)(t c:Nat):Range:=⟨(sorted<|col l t c).getD x3.toNat 0,(sorted<|col l t c).getD (R l - 1 - x3.toNat) 0⟩
def OP(p:Zf)(l:List ZG)(x3:Int)(t:Nat):List Range:=(List.range<|R p.ZY).map λc=>S0 l x3 t c
def OM(p:Zf)(l:List ZG)(x3:Int):Envelope:=⟨R l,x3,(List.range p.ticks.toNat).map λt=>OP p l x3 t⟩
def Wr(p:Zf)(l:List ZG)(x3:Int):Int:=if Vo p l≠0 then Vo p l else XI x3 (R l)
def PC(p:Zf)(l:List ZG)(x3:Int):Envelope:=if Wr p l x3=0 then OM p l x3 else⟨0,0,[]⟩
theorem NP(h:Vo p l=0):Y_ p=0/\(1<=R l/\R l<=20)/\Lk p l:=by
 grind [Vo,CP,Wu]
def I6(l:bd):R (sorted l)=R l:=M_ l
def TX(l:List ZG)(t c:Nat):R (col l t c)=R l:=by simp[col]
theorem AV{k t c:Nat}(h:k<R l)(b:t<R l[k].rows)(a:c<R l[k].rows[t].values):col (l.take k) t c++[l[k].rows[t].values[c]]=col (l.take<|k+1) t c:=by
 grind [Wh,col]
variable{i:Nat}
def DR{l:bd}(h:i<R l):l.getD i 0=l[i]:=by simp_all
def MY{x3:Int}(o:Y_ p=0)(r:1<=R l/\R l<=1000)(hw:Lk p l)(q:0<=x3/\2 * x3<=R l - 1):Ct prog 54 [.agg p.cs,.sl<|l.map ZG.cs,bv x3]<|.agg (OM p l x3).cs:=by
 refine cI func54 O λ{_ _}=>?_
 have m:=X_ o;refine ro 9 O<|kc (zk Kz O)<|jm O<|kc (zU bz O O)<|rr 14 O<|OK.VL 7 2 900 1 O O O O O ?_;refine OK.loop (G:=Nat) [3,6,7,900] (λi=>[(1,.sl<|l.map ZG.cs),(2,bv x3),(3,.ptr 3 0),(1003,.box p.cs),(6,.ptr 6 0),(1006,.box [bv 0,bv 0,.ZM]),(7,.ptr 7 0),(1007,.box [bv<|R l,bv x3,.own 900 i]),(2900,.arr 1<|(List.range i).map λt=>[X.sl<|(OP p l x3 t).map Range.cs]),(20,bv p.ticks),(21,bv i)]) (λi=>(i:Int)<=p.ticks) (λi=>p.ticks.toNat - i) 0 I ⟨O,O,O,O,O,O,O,O,(ZX N),O,O,Zo⟩ (λ_=>O) ?_;rintro i hi;refine ro 6 O<|kB O (λg=>?_) λg=>?_
 ·refine ro 12 O<|RK.c (S.XG (k:=9) (sz:=2) .none O)<|rr 8 O<|kc (zk X1 O)<|rr 4 O ?_;refine OK.loop (G:=Nat) [3,6,7,900,9] (λc=>[(1,.sl<|l.map ZG.cs),(2,bv x3),(3,.ptr 3 0),(1003,.box p.cs),(6,.ptr 6 0),(1006,.box [bv 0,bv 0,.ZM]),(7,.ptr 7 0),(1007,.box [bv<|R l,bv x3,.own 900 i]),(2900,.arr 1<|(List.range i).map λt=>[X.sl<|(OP p l x3 t).map Range.cs]),(20,bv p.ticks),(21,bv i),(8,bv i),(9,.own 9 c),(2009,.arr 2<|(List.range c).map λc=>(S0 l x3 i c).cs),(27,bv<|R p.ZY),(28,bv c)]) (λc=>c<=R p.ZY) (λc=>R p.ZY - c) 0 (Zr _) ⟨O,O,O,O,O,O,O,O,(ZX N),O,O,O,(ZH N),(ZX N),O,O,Zo⟩ (λ_=>O) ?_;rintro c u;refine ro 6 O<|kB O (λf=>?_) λf=>?_
  ·refine ro 12 O<|RK.c (S.XG (k:=11) (sz:=1) .none O)<|rr 6 O<|kc (zk Kz O)<|rr 4 O ?_;refine OK.loop (G:=Nat) [3,6,7,900,9,11] (λk=>[(1,.sl<|l.map ZG.cs),(2,bv x3),(3,.ptr 3 0),(1003,.box p.cs),(6,.ptr 6 0),(1006,.box [bv 0,bv 0,.ZM]),(7,.ptr 7 0),(1007,.box [bv<|R l,bv x3,.own 900 i]),(2900,.arr 1<|(List.range i).map λt=>[X.sl<|(OP p l x3 t).map Range.cs]),(20,bv p.ticks),(21,bv i),(8,bv i),(9,.own 9 c),(2009,.arr 2<|(List.range c).map λc=>(S0 l x3 i c).cs),(27,bv<|R p.ZY),(28,bv c),(10,bv c),(11,.own 11 k),(2011,.arr 1<|(col (l.take k) i c).map λn=>[bv n]),(31,.sl<|l.map ZG.cs),(32,bv<|R l),(33,bv k)]) (λk=>k<=R l) (λk=>R l - k) 0 (Zr _) ⟨O,O,O,O,O,O,O,O,(ZX N),O,O,O,(ZH N),(ZX N),O,O,O,(ZH N),(ZX N),O,O,O,Zo⟩ (λ_=>O) ?_;rintro k s;refine ro 6 O<|kB O (λe=>?_) λe=>?_
   ·have d:i<R l[k].rows:=by have:=hw.rows k I;omega
    have h:c<R l[k].rows[i].values:=by have:=hw.vals k I i d;omega
    refine ro 6 O<|kc (zI Kz O I O) ?_;refine rr 10 O<|kc (zI Oz O d O)<|rr 3 O<|kc (zI X9 O h O)<|kc (zV YK O O) ?_;refine RK.c (zM [[_]] Xr O O O O) ?_;refine kc (zP Xr O O (by simp only[Zx,TX,sc];omega) N I<|by simp only[maxLen];omega) ?_;refine Rr 8 O I ?_;refine Ab.D.lp ⟨k+1,I,I,O,O,O,O,O,O,O,O,(ZX N),O,O,O,(ZH N),(ZX N),O,O,O,(ZH N),(ZX<|by rw[←AV I d h,ne];rfl),O,O,O,Zo⟩
   refine ro 3 O ?_;have b:k=R l:=by omega
   subst b;refine OK.R3 (jm O<|kc (S.sortI (zs:=col (l.take<|R l) i c) Ac call38 .none O (zt O) O (by simp[TX]) O I) ?_);refine kD ?_;rw[List.take_length]at *;have j:R ((col l i c).mergeSort λx y=>decide<|x<=y)=R l:=by rw[M_,TX]
   have a:S0 l x3 i c=⟨((col l i c).mergeSort λx y=>decide<|x<=y)[x3.toNat],((col l i c).mergeSort λx y=>decide<|x<=y)[R l - 1 - x3.toNat]⟩:=by
    rw[S0,sorted,DR I,DR I]
   refine OK.freeze 11 O O O (by simp only[Zx,M_,TX]) ?_;refine kV (.c (zm O)<|.c (zm O)<|.c (zm O)<|.c (S.Zi (n:=x3.toNat) X9 .none O (zt O) (zt O) I I O)<|.c (zV YK O O)<|.c (zm O)<|.c (zm O)<|.c (zk X9 O)<|.c (S.sub .none O (zt O) (.Zg O) (mn _ I)<|mn _ I)<|.c (zm O)<|.c (S.sub .none O (zt O) (zt O) (mn _ I)<|mn _ I)<|.c (S.Zi (n:=(R l - 1 - x3.toNat)) X9 .none O (zt O) (zt O) I I O)<|.c (zV YK O O)<|.c (zU lQ O O)<|.c (zM [[_,_]] xH O O O O)<|.c (zP xH O O N N I<|by simp only[maxLen];omega)<|.c (za O) .nil) ?_;refine Rd 6 O I ?_;refine Ab.D.lp ⟨c+1,I,I,O,O,O,O,O,O,O,O,(ZX N),O,O,O,(ZH N),(ZX<|by rw[cε,ne,ta,a];rfl),O,O,Zo⟩
  refine OK.exit O<|Ab.D.code<|OK.freeze 9 O O O F ?_;refine ro 4 O ?_;refine RK.c (zM [[_]] ga O O O O) ?_;refine kc (zP ga O O N N I<|by simp only[maxLen];omega) ?_;refine Rr 9 O I ?_;refine Ab.D.lp ⟨i+1,I,I,O,O,O,O,O,O,O,O,(ZX<|by rw[show c=R p.ZY by omega,cε,ne];simp only[OP,fw,ta,H2];rfl),O,O,Zo⟩
 refine ro 8 O ?_;refine OK.ret<|Y3.r1 (.XU O O O O L5 O<|.k (.same O)<|.k (.same O)<|.k (.own O O N) .z) ?_;rw[show i=p.ticks.toNat by omega,OM,Envelope.cs,fw];rfl
def Ii{x3:Int}:Ct prog 22 [.agg p.cs,.sl<|l.map ZG.cs,bv x3]<|.Yy [.agg (PC p l x3).cs,bv<|Wr p l x3]:=by
 refine cI func22 O<|OK.XF (vi:=l.map ZG.cs) (t:=1) O O λqk=>?_;rw[Zx]at qk;unfold maxLen at qk;refine ro 11 O<|kc (zK Kk call52 O)<|rr 15 O<|kB O (λc=>?_) λc=>?_
 ·have d:=NP c;have f:Wr p l x3=XI x3 (R l):=by rw[Wr,Zm I]
  refine ro 3 O<|kc (zk Kz O)<|kc (zK (KQ I) call53 O) ?_;refine rr 10 O<|kB O (λb=>?_) λb=>?_
  ·refine kr<|kc (zU bz O O)<|rr 5 O<|OK.ret<|Y3.r2 (.XU O O O O L5 O<|.k (.same O)<|.k (.same O)<|.k .ZM .z) (zo O O) ?_;rw[PC,Zm I,f];rfl
  have a:Wr p l x3=0:=by omega
  have d:=NP (p:=p) (l:=l) I;have e:XI x3 (R l)=0:=by unfold Wr at a;split at a<;>omega
  refine ro 7 O (kc (zK (MY d.1 ⟨by omega,by omega⟩ d.2.2<|Pk I e) call54 O) ?_);refine rr 4 O<|kT O O L5 O O O ?_;rw[PC,Zn a,a];rfl
 have f:Wr p l x3=Vo p l:=by rw[Wr,Zn c]
 refine ro 9 O<|kB O (λb=>?_) λb=>?_
 ·refine kr<|kc (zU bz O O)<|rr 5 O<|OK.ret<|Y3.r2 (.XU O O O O L5 O<|.k (.same O)<|.k (.same O)<|.k .ZM .z) (zo O O) ?_;rw[PC,Zm I,f];rfl
 have a:Wr p l x3=0:=by omega
 have d:=NP (p:=p) (l:=l) I;have e:XI x3 (R l)=0:=by unfold Wr at a;split at a<;>omega
 refine ro 7 O (kc (zK (MY d.1 ⟨by omega,by omega⟩ d.2.2<|Pk I e) call54 O) ?_);refine rr 4 O<|kT O O L5 O O O ?_;rw[PC,Zn a,a];rfl
def WE(x:Range):Int:=if¬((-1000000<=x.lo/\x.lo<=1000000)/\(-1000000<=x.hi/\x.hi<=1000000))then 2 else if x.lo<=x.hi then 0 else 9
def Up(p:Zf)(l:List Range):Int:=if R l≠R p.ZY then 10 else(ZP (λ_ x=>WE x) 0 l).2
def Ve(p:Zf)(x:Envelope):Int×Int:=
 if¬(1<=x.parts/\x.parts<=20)then(0,2)else if XI x.trim x.parts≠0 then(0,XI x.trim x.parts)else if(R x.rows:Int)≠p.ticks then(0,10)else ZP (λ_ l=>Up p l) 0 x.rows
def Xa(p:Zf)(x:Envelope)(r:ZG):Int:=if Y_ p≠0 then Y_ p else if(Ve p x).2≠0 then(Ve p x).2 else(Vv p r).2
variable{x:Envelope}
theorem wj(h:1<=x.parts/\x.parts<=20):Ve p x=if ZW [XI x.trim x.parts,Z8 (decide ((R x.rows:Int)=p.ticks)) 10]≠0 then(0,ZW [XI x.trim x.parts,Z8 (decide ((R x.rows:Int)=p.ticks)) 10])else ZP (λ_ l=>Up p l) 0 x.rows:=by
 rw[Ve,Zm I,QG,U6];grind
variable{α:Type}
def J8{a b:List α}(f:i<R a)(e:i<R b)(c:a.take i=b.take i)(d:a[i]=b[i]):a.take (i+1)=b.take (i+1):=by
 rw[mv f,mv e,c,d]
def G7{a b:List α}(d:R a=R b)(hi:i=R a)(c:a.take i=b.take i):a=b:=by
 subst hi;rwa [List.take_length,d,List.take_length]at c
def r9{x y:Range}(h:[x.lo,x.hi]=[y.lo,y.hi]):x=y:=by
 cases x;cases y;simp at h;simp[h]
def devs(l:List YP):X:=.sl<|l.map YP.cs
def tU{x:Range}:Ct prog 143 [bv i,.agg x.cs]<|bv<|WE x:=by
 refine cI func143 O<|ro 7 O ?_;by_cases a: -1000000<=x.lo/\x.lo<=1000000
 ·refine kV (.c (zf UT O)<|.c (zl YK O O O O)<|.c (zK Si call134 O)<|.c (zm O)<|.c (S.VN TI (.yes O O O W) O<|zt O)<|.c (S.YH YK (.yes O O O W) O (zt O) O O O O)<|.c (S.call Si call134 (.yes O O O W) O (zc O .nil) O)<|.c (S.Tc .none O (zt O) (zt O) W)<|.c (zK Y7 call45 O)<|.c (zf UT O)<|.c (zl YK O O O O)<|.c (zf TI O)<|.c (zl YK O O O O)<|.c (S.leq .none O (zt O)<|zt O)<|.c (zK Y7 call45 O)<|.c (zM [[_],[_]] V6 O O O O)<|.c (S.XY (XB (l:=[_,_])) call44 .none O (zc O .nil) (.cons (.p (.own O O) O) .nil) O)<|.c (za O) .nil) ?_;refine Ab.D.code<|kR O O ?_;refine YL ?_;simp[QG,Z8];unfold WE
  repeat' split
  all_goals omega
 refine kV (.c (zf UT O)<|.c (zl YK O O O O)<|.c (zK Si call134 O)<|.c (zm O)<|.c (zG O W)<|.c (zG O W)<|.c (zG O W)<|.c (S.Ug .none O (zt O) .Wx W)<|.c (zK Y7 call45 O)<|.c (zf UT O)<|.c (zl YK O O O O)<|.c (zf TI O)<|.c (zl YK O O O O)<|.c (S.leq .none O (zt O)<|zt O)<|.c (zK Y7 call45 O)<|.c (zM [[_],[_]] V6 O O O O)<|.c (S.XY (XB (l:=[_,_])) call44 .none O (zc O .nil) (.cons (.p (.own O O) O) .nil) O)<|.c (za O) .nil) ?_;refine Ab.D.code<|kR O O ?_;refine YL ?_;simp[QG,Z8];unfold WE
 repeat' split
 all_goals omega
def oo{l:List Range}:Ct prog 141 [bv i,.sl<|l.map Range.cs,.Yt p.cs]<|bv<|Up p l:=by
 refine cI func141 O<|ro 9 O<|kc (zk uv O)<|rr 3 O<|kc (zk X1 O)<|rr 3 O<|kB O (λa=>?_) λa=>?_
 ·refine ro 5 O<|kR O O ?_;refine YL ?_;rw[Up,Zn I]
 refine ro 5 O ?_;refine kc (S.call (yu (l:=l) (g:=λ_ x=>WE x) (vt:=[]) (λi x _=>tU) call143 ⟨O,O⟩) call142 .none O (zc O<|.cons .Nt .nil) O) ?_;refine rr 13 O<|kR O O ?_;refine YL ?_;rw[Up,Zm I]
def Kj:Ct prog 85 [.agg p.cs,.agg x.cs]<|pair<|Ve p x:=by
 refine cI func85 O<|ro 13 O<|kc (zK Ws call76 O)<|kc (S.Xb .none O<|zt O)<|kD<|kB O (λb=>?_) λb=>?_
 ·have d:¬(1<=x.parts/\x.parts<=20):=by simpa using b
  refine ro 6 O<|kS O O O O ?_;refine WM ?_;rw[Ve,Zn d]
 have d:1<=x.parts/\x.parts<=20:=by simpa using b
 refine ro 4 O ?_;refine kV (.c (zf dy O)<|.c (zl YK O O O O)<|.c (zf dx O)<|.c (zl YK O O O O)<|.c (zK (KQ I) call53 O)<|.c (zf Gu O)<|.c (zl gO O O O O)<|.c (zk vq O)<|.c (zf N7 O)<|.c (zf rT O)<|.c (zl YK O O O O)<|.c (S.eql .none O (zt O)<|zt O)<|.c (zK Y7 call45 O)<|.c (zM [[_],[_]] V6 O O O O)<|.c (S.XY (XB (l:=[_,_])) call44 .none O (zc O .nil) (.cons (.p (.own O O) O) .nil) O)<|.c (za O) .nil) ?_;refine rd 7 O<|kB O (λa=>?_) λa=>?_
 ·refine ro 7 O<|kS O O O O ?_;refine WM ?_;rw[wj d,Zn a]
 refine ro 6 O<|kc (S.Xd .none O (zt O) O) ?_;refine kc (S.XY (Ke (l:=x.rows) (g:=λ_ l=>Up p l) (vt:=[.Yt p.cs]) (λi x _=>oo) call141 ⟨O,O⟩) call140 .none O (zc O<|zc O .nil) (.cons (.same O)<|.cons (.fn<|.cons (.ptr O O O O) .nil) .nil) O) ?_;refine rr 6 O<|kS O O O O ?_;refine WM ?_;rw[wj d,Zm a]
variable{r:ZG}
def D9:Ct prog 59 [.agg p.cs,.agg x.cs,.agg r.cs]<|bv<|Xa p x r:=by
 refine cI func59 O<|ro 11 O<|kc (zK M0 call43 O)<|rr 15 O<|kB O (λa=>?_) λa=>?_
 ·refine ro 6 O<|kR O O ?_;refine YL ?_;rw[Xa,Zn a]
 refine ro 7 O<|kc (zK Kj call85 O)<|rr 13 O<|kB O (λb=>?_) λb=>?_
 ·refine ro 6 O<|kR O O ?_;refine YL ?_;rw[Xa,Zm a,Zn b]
 refine ro 6 O<|kc (zK On call80 O)<|rr 12 O<|kR O O ?_;refine YL ?_;rw[Xa,Zm a,Zm b]
def vI{a b:List Range}:Ct prog 55 [.sl<|a.map Range.cs,.sl<|b.map Range.cs]<|.bool<|decide<|a=b:=by
 refine cI func55 O<|OK.XF (vi:=a.map Range.cs) (t:=0) O O λqk=>?_;rw[Zx]at qk;unfold maxLen at qk;refine ro 9 O<|kc (zk uv O)<|jm O<|kc (zk uv O)<|rr 3 O<|kB O (λf=>?_) λf=>?_
 ·refine ro 5 O<|kR O O ?_;exact AF (λe=>f<|by rw[e])
 have j:R a=R b:=by omega
 refine ro 9 O ?_;refine OK.loop (G:=Nat) [] (λi=>[(0,.sl<|a.map Range.cs),(1,.sl<|b.map Range.cs),(5,bv i)]) (λi=>i<=R a/\a.take i=b.take i) (λi=>R a - i) 0 ⟨Zr _,O⟩ ⟨O,O,O,Zo⟩ (λ_=>O) ?_;rintro i ⟨hi,h⟩;refine ro 5 O<|kc (zk uv O)<|rr 3 O<|kB O (λg=>?_) λg=>?_
 ·refine ro 5 O<|kV (.c (zm O)<|.c (zm O)<|.c (zI uv O I O)<|.c (S.Vj kK .none O (zt O) O O)<|.c (zm O)<|.c (zm O)<|.c (zI uv O I O)<|.c (S.Vj kK .none O (zt O) O O)<|.c (S.aneq [a[i].lo,a[i].hi] [b[i].lo,b[i].hi] eq24 .none O (zt O) (zt O) O O O O) .nil)<|Ab.D.code<|kB O (λd=>?_) λd=>?_
  ·refine ro 5 O<|kR O O ?_;exact AF (λe=>by subst e;exact d rfl)
  refine Ro 8 O I (Ab.D.lp ⟨i+1,⟨by omega,?_⟩,I,O,O,O,Zo⟩);simp only[ne_eq,Zu]at d;exact J8 I I h<|r9 d
 refine ro 7 O<|kR O O ?_;exact gi<|G7 j I h
def UR(n:Int)(o:Range):Int:=(if 0<n - o.hi then n - o.hi else 0)+(if n - o.lo<0 then n - o.lo else 0)
def S7(t:Nat)(rs:List Range)(c:Nat)(n:Int):List YP:=if UR n (rs.getD c ⟨0,0⟩)≠0 then [⟨t,c,UR n<|rs.getD c ⟨0,0⟩⟩]else []
def Uo(t:Nat)(rs:List Range):Nat->bd->List YP
 |_,[]=>[]
 |c,n::l=>S7 t rs c n++Uo t rs (c+1) l
def S9(x:Envelope):Nat->List Row->List YP
 |_,[]=>[]
 |t,r::l=>Uo t (x.rows.getD t []) 0 r.values++S9 x (t+1) l
def N_(x:Envelope)(r:ZG):List YP:=S9 x 0 r.rows
def Sc{t:Nat}{rs:List Range}{l:bd}{j:Nat}(h:j<R l):Uo t rs j (l.drop j)=S7 t rs j l[j]++Uo t rs (j+1) (l.drop<|j+1):=by
 rw[np h,Uo]
def HC{l:List Row}(h:i<R l):S9 x i (l.drop i)=Uo i (x.rows.getD i []) 0 l[i].values++S9 x (i+1) (l.drop<|i+1):=by
 rw[np h,S9]
def getD_at{l:List α}{d:α}(h:i<R l):l.getD i d=l[i]:=by simp_all
structure kP(x:Envelope)(r:ZG):Prop where
 rows:∀(i:Nat),i<r.rows.length->i<x.rows.length
 cols:∀(i:Nat)(h:i<r.rows.length)(h2:i<x.rows.length)(j:Nat),j<r.rows[i].values.length->j<x.rows[i].length
 val:∀(i:Nat)(h:i<r.rows.length)(j:Nat)(h3:j<r.rows[i].values.length), -1000000<=r.rows[i].values[j]/\r.rows[i].values[j]<=1000000
 rng:∀(i:Nat)(h2:i<x.rows.length)(j:Nat)(h3:j<x.rows[i].length),(-1000000<=x.rows[i][j].lo/\x.rows[i][j].lo<=1000000)/\(-1000000<=x.rows[i][j].hi/\x.rows[i][j].hi<=1000000)
variable{σ:Type}
theorem lV{P:Program}{encs:α->bi}{D xr vk:List α}{d:α}{J:σ->bm}{g:σ->α->σ×Bool}{a:σ}{Φ:Value->Prop}
  (c:∀v,Φ v->∀(i:Nat)(x:α),D[i]?=some x->(ZZ g a<|D.take i).2=true->ND P v (encs x) (.bool (g (ZZ g a<|D.take i).1 x).2) (J (ZZ g a<|D.take i).1) (J (g (ZZ g a<|D.take i).1 x).1))
  (h:D=xr++d::vk) (b:(ZZ g a xr).2=true):∀v,Φ v->ND P v (encs d) (.bool (g (ZZ g a xr).1 d).2) (J (ZZ g a xr).1) (J (g (ZZ g a xr).1 d).1):=by
 intro v e;have f:D.take (R xr)=xr:=by grind
 grind
theorem tF{g:σ->α->σ×Bool}{b:σ}{d:α}{vk:List α}:∀{a:List α},(ZZ g b a).2=true->(g (ZZ g b a).1 d).2=false->ZZ g b (a++d::vk)=((g (ZZ g b a).1 d).1,false):=by
 intro a
 induction a generalizing b with
 |nil=>
  simp_all[ZZ]
 |cons x a c=>
  grind [ZZ]
theorem JI{g:σ->α->σ×Bool}{a:σ}{d:α}{xr:List α}(b:(ZZ g a xr).2=true)(c:(g (ZZ g a xr).1 d).2=true):ZZ g a (xr++[d])=((g (ZZ g a xr).1 d).1,true):=by
 rw[QM,Zn b];grind
def OB{J J':bm}(h:J=J'):some (X.res J)=some (X.res J'):=by rw[h]
abbrev DevCb(σ:Type)(J:σ->bm)(g:σ->YP->σ×Bool)(s0:σ)(Φ:Value->Prop)(D:List YP):Prop:=
 ∀v,Φ v->∀(i:Nat)(x:YP),D[i]?=some x->(ZZ g s0<|D.take i).2=true->ND prog v [.agg x.cs] (.bool (g (ZZ g s0<|D.take i).1 x).2) (J (ZZ g s0<|D.take i).1) (J (g (ZZ g s0<|D.take i).1 x).1)
theorem mm{n:Int}{o:Range}(b: -1000000<=n/\n<=1000000)(a:(-1000000<=o.lo/\o.lo<=1000000)/\(-1000000<=o.hi/\o.hi<=1000000)): -4000000<=UR n o/\UR n o<=4000000:=by
 grind [UR]
def tT(y:kP x r)(L:R r.rows<=100000)(z:∀(i:Nat)(h:i<R r.rows),R r.rows[i].values<=100000)(J:σ->bm)(g:σ->YP->σ×Bool)(k:σ)(Φ:Value->Prop)(B:∀s,Y2<|J s)(E:DevCb σ J g k Φ<|N_ x r):Vi prog 144 [] [.cb Φ,.Yt r.cs,.Yt x.cs] [(3000,.res<|J k)] [(3000,.res<|J (ZZ g k<|N_ x r).1)]<|.Yy []:=by
 refine cG func144 O<|ro 4 O<|kc (zk Oz O)<|rr 4 O ?_;refine OK.We [] (λ(i:Nat)(a:List YP)=>[(0,.cb Φ),(1,.Yt r.cs),(2,.Yt x.cs),(11,.sl<|r.rows.map Row.cs),(12,bv<|R r.rows),(13,bv i),(3000,.res<|J (ZZ g k a).1)]) (λi a=>i<=R r.rows/\(ZZ g k a).2=true/\N_ x r=a++S9 x i (r.rows.drop i)) (λi a=>R r.rows - i) 0 ([]) ⟨Zr _,O,O⟩ ⟨O,O,O,O,O,O,O,Zo⟩ (λ_ _=>O) ?_;rintro i a ⟨hi,p,K⟩;refine ro 6 O<|kB O (λG=>?_) λG=>?_
 ·have l:i<R x.rows:=y.rows i I;have H:=z i I;refine ro 7 O<|kc (zI Oz O I O) ?_;refine rr 10 O<|kc (zk X9 O)<|rr 4 O ?_;refine OK.We [] (λ(j:Nat)(a:List YP)=>[(0,.cb Φ),(1,.Yt r.cs),(2,.Yt x.cs),(4,bv i),(11,.sl<|r.rows.map Row.cs),(12,bv<|R r.rows),(13,bv i),(19,ints r.rows[i].values),(20,bv<|R r.rows[i].values),(21,bv j),(3000,.res<|J (ZZ g k a).1)]) (λj a=>j<=R r.rows[i].values/\(ZZ g k a).2=true/\N_ x r=a++(Uo i (x.rows.getD i []) j (r.rows[i].values.drop j)++S9 x (i+1) (r.rows.drop<|i+1))) (λj a=>R r.rows[i].values - j) 0 a ⟨Zr _,p,by rw[K,HC I];rfl⟩ ⟨O,O,O,O,O,O,O,O,O,O,O,Zo⟩ (λ_ _=>O) ?_;rintro j a ⟨N,b,e⟩;refine ro 6 O<|kB O (λF=>?_) λF=>?_
  ·have n:j<R x.rows[i]:=y.cols i I l j I;have A:=y.val i I j I;have C:=y.rng i l j n;have M:=mm A C;have u:(x.rows.getD i [])=x.rows[i]:=getD_at l;have v:(x.rows[i].getD j ⟨0,0⟩)=x.rows[i][j]:=getD_at n;have c:Uo i (x.rows.getD i []) j (r.rows[i].values.drop j)=(if UR r.rows[i].values[j] x.rows[i][j]≠0 then [⟨i,j,UR r.rows[i].values[j] x.rows[i][j]⟩]else [])++Uo i (x.rows.getD i []) (j+1) (r.rows[i].values.drop<|j+1):=by rw[Sc I,S7,u,v]
   refine ro 7 O<|kc (zI X9 O I O) ?_;refine rr 10 O<|kc (zI vq O l O)<|rr 2 O<|kc (zI uv O n O)<|Rr 11 O I<|kc (S.max2 .none O (.Zg O)<|zt O) ?_;refine Rr 4 O I<|kc (S.min2 .none O (.Zg O)<|zt O) ?_;refine kc (S.add (q:=UR r.rows[i].values[j] x.rows[i][j]) .none O (zt O) (zt O) (by show IntKind.i64.wrap (UR _ _)=_;exact mn _ I)<|mn _ I) ?_;refine rr 8 O<|RK.ZS (t:=47) O (λf=>?_) λf=>?_
   ·have w:N_ x r=a++⟨i,j,UR r.rows[i].values[j] x.rows[i][j]⟩::(Uo i (x.rows.getD i []) (j+1) (r.rows[i].values.drop<|j+1)++S9 x (i+1) (r.rows.drop<|i+1)):=by rw[e,c,Zn f];simp
    refine rr 4 O<|kc (S.build jU O (zg O O) O (zc O<|zc O<|zc O .nil) O O) ?_;refine kc (S.Lm (J1:=J (g (ZZ g k a).1 ⟨i,j,UR r.rows[i].values[j] x.rows[i][j]⟩).1) (lV E w b) (B _) (zg O O) O (zt O) (zc O .nil) O O)<|kc (S.not (zg O O) O<|zt O) ?_;refine rr 3 O<|OK.cond O O (λo=>?_) λo=>?_
    ·have m:(g (ZZ g k a).1 ⟨i,j,UR r.rows[i].values[j] x.rows[i][j]⟩).2=false:=by simpa using o
     exact OK.ret ⟨⟨.inl rfl,[],Zo,rfl⟩,OB (by rw[w,tF b m]),Zo⟩
    have d:(g (ZZ g k a).1 ⟨i,j,UR r.rows[i].values[j] x.rows[i][j]⟩).2=true:=by simpa using o
    refine Ro 7 O I ?_;refine Ab.D.lp ⟨j+1,a++[(⟨i,j,UR r.rows[i].values[j] x.rows[i][j]⟩:YP)],⟨by omega,by first|exact b|rw[JI b d],by first|(rw[e,c,Zn f];simp)|(rw[e,c,Zm f];rfl)⟩,I,O,O,O,O,O,O,O,O,O,O,(OB<|by first|rfl|rw[JI b d]),Zo⟩
   refine Rr 18 O I ?_;refine Ab.D.lp ⟨j+1,a,⟨by omega,by first|exact b|rw[JI b d],by first|(rw[e,c,Zn f];simp)|(rw[e,c,Zm f];rfl)⟩,I,O,O,O,O,O,O,O,O,O,O,(OB<|by first|rfl|rw[JI b d]),Zo⟩
  refine Ro 7 O I ?_;refine Ab.D.lp ⟨i+1,a,⟨by omega,b,by rw[e,show j=R r.rows[i].values by omega,da];rfl⟩,I,O,O,O,O,O,O,O,Zo⟩
 refine OK.exit O ?_;exact⟨⟨.inr rfl,[],Zo,rfl⟩,OB (by rw[K,show i=R r.rows by omega,da,S9,i8]),Zo⟩
theorem yt(t:Nat)(rs:List Range)(c:Nat)(n:Int):R (S7 t rs c n)<=1:=by
 grind [S7]
def HD(t:Nat)(rs:List Range):∀(l:bd)(c:Nat),R (Uo t rs c l)<=R l
 |[],_=>Zq _
 |n::l,c=>by
  have b:=yt t rs c n;have a:=HD t rs l<|c+1;rw[Uo,Zs,tt];omega
theorem Ff(x:Envelope)(m:Nat):∀(l:List Row)(t:Nat),(∀r∈l,R r.values<=m)->R (S9 x t l)<=R l * m
 |[],_,_=>by simp[S9]
 |r::l,t,h=>by
  have c:=HD t (x.rows.getD t []) r.values 0;have b:=Ff x m l (t+1) λq a=>h q (rl _ a)
  grind [S9,Nat.succ_mul]
structure dD(p:Zf)(x:Envelope)(r:ZG):Prop where
 fit:kP x r
 rows:r.rows.length<=12
 vals:∀(i:Nat)(h:i<r.rows.length),r.rows[i].values.length<=4
def BY{x:Range}(h:WE x=0):((-1000000<=x.lo/\x.lo<=1000000)/\(-1000000<=x.hi/\x.hi<=1000000))/\x.lo<=x.hi:=by
 unfold WE at h;omega
def Nk(h:(Ve p x).2=0):(1<=x.parts/\x.parts<=20)/\XI x.trim x.parts=0/\(R x.rows:Int)=p.ticks/\(∀(i:Nat)(h:i<R x.rows),R x.rows[i]=R p.ZY/\∀(j:Nat)(b:j<R x.rows[i]),WE x.rows[i][j]=0):=by
 unfold Ve at h;split at h
 ·cases h
 rename_i f;split at h
 ·omega
 rename_i b;split at h
 ·cases h
 rename_i e;refine⟨Zu.1 f,Zu.1 b,Zu.1 e,λi hi=>?_⟩;have a:=U5 _ _ 0 h i hi;unfold Up at a;split at a
 ·cases a
 rename_i d;exact⟨Zu.1 d,λj c=>U5 _ _ 0 a j c⟩
def Cb(h:(Vv p r).2=0):(R r.rows:Int)=p.ticks/\∀(i:Nat)(h:i<R r.rows),UJ p r.rows[i]=0:=by
 unfold Vv at h;split at h
 ·cases h
 rename_i a;exact⟨Zu.1 a,λi hi=>U5 _ _ 0 h i hi⟩
def z7{r:Row}(h:UJ p r=0):(r.known=true->R r.values=R p.ZY)/\(r.known=false->R r.values=0)/\∀(j:Nat)(a:j<R r.values), -1000000<=r.values[j]/\r.values[j]<=1000000:=by
 unfold UJ at h;split at h
 ·rename_i d;unfold Xt at h;split at h
  ·cases h
  rename_i c;split at h
  ·rename_i a;exact⟨λ_=>Zu.1 c,(λe=>by simp_all),λj b=>pf<|bj.1 a _<|Zt b⟩
  cases h
 simp_all
theorem vN(h:Xa p x r=0):dD p x r:=by
 unfold Xa at h;split at h
 ·omega
 rename_i d;split at h
 ·omega
 rename_i b;have g:=X_<|Zu.1 d;obtain⟨_,_,m,e⟩:=Nk<|Zu.1 b;obtain⟨l,c⟩:=Cb h;have f:∀(i:Nat)(hi:i<R r.rows),R r.rows[i].values<=R p.ZY:=λi hi=>by
  obtain⟨g1,g2,_⟩:=z7<|c i hi;cases k:r.rows[i].known<;>grind
 refine⟨⟨λi hi=>I,λi hi b j a=>by grind,λi hi j a=>(z7<|c i hi).2.2 j a,λi hi j a=>(BY<|(e i hi).2 j a).1⟩,I,λi hi=>by grind⟩
def lK(h:dD p x r):R (N_ x r)<=100000:=by
 have c:=Ff x 4 r.rows 0 λq a=>by
  obtain⟨i,hi,rfl⟩:=dl a;exact h.vals i hi
 have b:=h.rows;unfold N_;omega
def aL{a b:Envelope}(e:a.parts=b.parts)(d:a.trim=b.trim)(c:a.rows=b.rows):a=b:=by
 cases a;cases b;simp at e d c;simp[e,d,c]
def Ik:Ct prog 86 [.agg x.cs,.agg r.cs]<|.fn 144 [.Yt r.cs,.Yt x.cs]:=by
 refine cI func86 O<|ro 4 O<|kc (S.assign .none O .Re)<|rr 4 O<|kc (S.LJ .none O (zt O) (zt O) O O)<|rr 3 O<|OK.ret<|Y3.r1 (.tmp O O (.fn (.k (.ptr O O O O)<|.k (.ptr O O O O) .z) O) O) ?_;rfl
def JD{a b:Envelope}:Ct prog 24 [.agg a.cs,.agg b.cs]<|.bool<|decide<|a=b:=by
 refine cI func24 O<|OK.Qd 0 2 (a.rows.map λl=>[.sl<|l.map Range.cs]) O O O λqk=>?_;rw[Zx]at qk;unfold maxLen at qk;refine ro 16 O<|RK.ZS (t:=11) O (λf=>?_) λf=>?_
 ·refine rr 23 O<|kR O O ?_;exact AF (λe=>f<|by rw[e])
 refine rr 7 O<|RK.ZS (t:=18) O (λd=>?_) λd=>?_
 ·refine rr 16 O<|kR O O ?_;exact AF (λe=>d<|by rw[e])
 refine rr 2 O<|kc (S.OF vq (zg O O) O<|zt O)<|rr 2 O<|kc (S.OF vq (zg O O) O<|zt O)<|rr 4 O<|kB O (λh=>?_) λh=>?_
 ·refine ro 5 O<|kR O O ?_;exact AF (λe=>h<|by rw[e])
 have o:a.parts=b.parts:=Zu.1 f;have n:a.trim=b.trim:=Zu.1 d;have m:R a.rows=R b.rows:=by have:=Zu.1 h;omega
 refine ro 9 O ?_;refine OK.loop (G:=Nat) [2,3] (λi=>[(2,.ptr 2 0),(1002,.box a.cs),(3,.ptr 3 0),(1003,.box b.cs),(5,bv i)]) (λi=>i<=R a.rows/\a.rows.take i=b.rows.take i) (λi=>R a.rows - i) 0 ⟨Zr _,O⟩ ⟨O,O,O,O,O,Zo⟩ (λ_=>O) ?_;rintro i ⟨hi,k⟩;refine ro 6 O<|kc (zk vq O)<|rr 3 O<|kB O (λj=>?_) λj=>?_
 ·refine ro 5 O<|kV (.c (zf Gu O)<|.c (zl gO O O O O)<|.c (zm O)<|.c (zI vq O I O)<|.c (zV Pw O O)<|.c (zf Gu O)<|.c (zl gO O O O O)<|.c (zm O)<|.c (zI vq O I O)<|.c (zV Pw O O)<|.c (zK vI call55 O)<|.c (S.Xb .none O<|zt O) .nil)<|Ab.D.code<|kB O (λg=>?_) λg=>?_
  ·refine ro 5 O<|kR O O ?_;exact AF (λe=>by subst e;exact g rfl)
  refine Ro 8 O I (Ab.D.lp ⟨i+1,⟨by omega,J8 I I k<|Zu.1 g⟩,I,O,O,O,O,O,Zo⟩)
 refine ro 7 O<|kR O O ?_;exact gi<|aL o n<|G7 m I k
def r_{l m:bd}(e:m.Perm l)(hs:m.Pairwise (λx y=>x<=y)):sorted l=m:=by
 unfold sorted;have d:(l.mergeSort λx y=>decide<|x<=y).Pairwise (λx y=>x<=y):=by
  have:=eα (le:=λx y:Int=>decide<|x<=y) (by intro a b c d f;simp only[de]at *;omega) (by intro a b;simp only[ti,de];omega) l;exact this.imp F
 exact((bμ l _).trans e.symm).eq_of_pairwise (λa b _ _ d f=>I) d hs
