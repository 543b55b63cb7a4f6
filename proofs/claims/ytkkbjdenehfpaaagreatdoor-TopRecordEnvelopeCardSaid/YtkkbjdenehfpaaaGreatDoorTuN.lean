import Derived.Test.YtkkbjdenehfpaaaGreatDoorMfN
set_option linter.all false
set_option maxHeartbeats 4000000
open List renaming length->R
namespace Go.Proofs.Z_
open Go.Ab Tryz
set_option maxRecDepth 9999
variable{i:Nat}
theorem aY{l:ba}(hi:i<R l)(h0:∀j (hj:j<i),¬l[j]=32)(h:l[i]=32):Lib.indexByte l 32=i:=by
 induction l generalizing i with
 |nil=>cases hi
 |cons b l a=>
  rw[PE];cases i with
  |zero=>simp_all
  |succ i=>
   have c:¬b=32:=h0 0<|aθ i;grind
theorem xQ{l:ba}(h0:∀j (a:j<R l),¬l[j]=32):¬0<=Lib.indexByte l 32:=by
 intro h;obtain⟨j,a,e⟩:=dl<|DW h;grind
theorem ku{l:ba}(hi:i<R l)(h0:∀j (hj:j<i),¬l[j]=32)(h:l[i]=32):ZQ 32 l=(l.take i,l.drop<|i+1,true):=by
 grind [aY,KG]
def Iq{l:ba}(h:(Wn l 7).2=true):0<R l:=by
 cases l with
 |nil=>cases h
 |cons=>simp
def bI{l:ba}(h:0<R l):decide ((l[0].toNat:Int)≠45)=decide (l.head?≠some 45):=decide_eq_decide.2<|not_congr (DS h).symm
variable{s:ba}
def Pb(m:R s<=100000):Ct prog 101 [.str s]<|.Yy [.str (ZQ 32 s).1,.str (ZQ 32 s).2.1,.bool (ZQ 32 s).2.2]:=by
 refine cI func101 O<|ro 14 O ?_;refine OK.loop (G:=Nat) [] (λi=>[(0,.str s),(5,bv i)]) (λi=>i<=R s/\∀j (b:j<i) (d:j<R s),¬s[j]=32) (λi=>R s - i) 0 ⟨Zr _,λj b=>I⟩ ⟨O,O,Zo⟩ (λ_=>O) ?_;rintro i ⟨hi,g⟩;refine ro 9 O<|kB O (λl=>?_) λl=>?_
 ·have f:i<R s:=I
  refine ro 8 O<|kc (S.Xc (n:=i) W6 .none O (zt O) (zt O) O f)<|rr 3 O<|kB O (λa=>?_) λa=>?_
  ·have h:s[i]=32:=Q5 a;have k:=ku f (λj b=>g j b I) h;refine kO (kV (.c (zm O)<|.c (zm O)<|.c (S.VI (hi:=i) (l':=s.take i) W6 .none O (zt O) (.inl ⟨O,O,O⟩) (.inr ⟨_,_,O,(zt O),O⟩) (Zr _) I O)<|.c (zm O)<|.c (zm O)<|.c (zp O O I)<|.c (S.VI (lo:=(i+1)) (l':=s.drop<|i+1) W6 .none O (zt O) (.inr ⟨_,_,O,(zt O),O⟩) (.inl ⟨O,O,O⟩) I I<|by rw[List.take_length])<|.c (za O)<|.c (za O)<|.c (zb O) .nil) ?_);refine Ab.D.code<|OK.ret<|Y3.r3 (zo O O) (zo O O) (zo O O) ?_;rw[k];try rfl
  have h:¬s[i]=32:=λe=>a (by rw[e];rfl)
  refine Ro 8 O I ?_;refine Ab.D.lp ⟨i+1,⟨I,λj b d=>by rcases(show j<i\/j=i by omega)with q|q;exact g j q d;subst q;exact h⟩,I,O,O,Zo⟩
 have k:=Nz<|xQ λj b=>g j I b;refine ro 10 O<|OK.ret<|Y3.r3 (zo O O) (zo O O) (zo O O) ?_;rw[k];try rfl
def T3(e:R s<=100000):Ct prog 148 [.str s]<|.Yy [bv (Ut s).1,.bool (Ut s).2]:=by
 refine cI func148 O<|ro 9 O ?_;refine kc (zK (Sw (l:=s) (d:=7) I C) call73 O) ?_;refine rr 8 O ?_;by_cases a:(Wn s 7).2=true
 ·have b:Ut s=((Wn s 7).1,decide<|(s[0]'(Iq a)).toNat≠(45:Int)):=by unfold Ut;rw[a,tn,←bI (Iq a)]
  refine kV (.c (zm O)<|.c (zm O)<|.c (zm O)<|.c (S.move (.yes O O O<|by first|exact a|simpa using a) O<|zt O)<|.c (S.Xc (n:=0) W6 (.yes O O O<|by first|exact a|simpa using a) O (zt O) (.Zg O) O<|Iq a)<|.c (S.neq (.yes O O O<|by first|exact a|simpa using a) O (zt O)<|.Zg O)<|.c (S.Tc .none O (zt O) (zt O)<|by first|exact a|simpa using a)<|.c (za O)<|.c (za O) .nil) ?_;refine Ab.D.code<|kS O O O O ?_;rw[b];try rfl
 have b:Ut s=((Wn s 7).1,false):=by unfold Ut;rw[show(Wn s 7).2=false by simpa using a,tp]
 refine kV (.c (zm O)<|.c (zm O)<|.c (zm O)<|.c (zG O<|by first|exact a|simpa using a)<|.c (zG O<|by first|exact a|simpa using a)<|.c (zG O<|by first|exact a|simpa using a)<|.c (S.Ug .none O (zt O) .Wx<|by first|exact a|simpa using a)<|.c (za O)<|.c (za O) .nil) ?_;refine Ab.D.code<|kS O O O O ?_;rw[b];try rfl
def bV{a b:Prop}[Decidable a][Decidable b](h:¬a):decide b=decide (a\/b):=by simp_all
def bW{a b c d e:Prop}[Decidable a][Decidable b][Decidable c][Decidable d][Decidable e](i:¬a)(h:¬b)(g:¬c)(f:¬d):decide e=decide (a\/b\/c\/d\/e):=by simp_all
def C3(P:R s<=100000):Ct prog 104 [.str s]<|.Yy [.agg (Yn s).1.cs,.bool (Yn s).2]:=by
 refine cI func104 O λ{_ _}=>?_
 have N:=Hz (c:=32) (l:=s);have K:=Hz (c:=32) (l:=(ZQ 32 s).2.1);have h0:0<R (Z7 32 (ZQ 32 s).2.1):=aη.2<|UN 32 _;refine ro 9 O<|kc (zK (Pb I) call101 O) ?_;refine rr 13 O<|kc (zU bu209 O O)<|rr 7 O<|kc (zK (Rl (l:=(ZQ 32 s).2.1) (c:=32) I) call39 O) ?_;refine rr 15 O ?_;refine OK.join (G:=Bool) [7,2] (λvb=>[(2,.ptr 2 0),(1002,.box [.str [],.str [],.str [],.str [],bv 0]),(4,.str (ZQ 32 s).1),(5,.str (ZQ 32 s).2.1),(6,.bool (ZQ 32 s).2.2),(7,.ptr 7 0),(1007,.box [.str (ZQ 32 s).1,.str [],.str [],.str (ZQ 32 s).2.1,bv 0]),(8,.sl<|(Z7 32 (ZQ 32 s).2.1).map λp=>[.str p]),(9,.bool true),(27,.str (ZQ 32 s).1),(28,.bool vb)]) (λvb=>vb=decide ((ZQ 32 s).1=Z4[0]\/(ZQ 32 s).1=Z4[2])) (λ_=>O) ?_ ?_
 ·refine ro 6 O<|kB O (λb=>?_) λb=>?_
  ·try (have d:Yn s=_:=Zn<|pf<|k.symm.trans b)
   refine OK.skip (Ab.D.lp ⟨_,(by first|exact(Zz b).trans (Zz<|by first|exact .inl b|exact .inr (.inl b)|exact .inr (.inr<|.inl b)|exact .inr<|.inr<|.inr<|.inl b).symm|exact bV b|exact bW (by assumption) (by assumption) (by assumption)<|by assumption),O,O,O,O,O,O,O,O,O,O,O,Zo⟩)
  try (have J:Yn s=_:=Zm<|dg<|k.symm.trans b)
  refine ro 4 O ?_;refine Ab.D.lp ⟨_,(by first|exact(Zz b).trans (Zz<|by first|exact .inl b|exact .inr (.inl b)|exact .inr (.inr<|.inl b)|exact .inr<|.inr<|.inr<|.inl b).symm|exact bV b|exact bW (by assumption) (by assumption) (by assumption)<|by assumption),O,O,O,O,O,O,O,O,O,O,O,Zo⟩
 rintro vb k;refine OK.cond O O (λb=>?_) λb=>?_
 ·try (have d:Yn s=_:=Zn<|pf<|k.symm.trans b)
  refine ro 8 O<|kT O O Td O O O ?_;rw[d];try rfl
 try (have J:Yn s=_:=Zm<|dg<|k.symm.trans b)
 refine ro 6 O<|kB O (λy=>?_) λy=>?_
 ·have d:=J.trans<|Zn y;refine ro 4 O<|kc (S.not .none O<|zt O)<|rr 4 O<|kT O O Td O O O ?_;rw[d];try rfl
 have M:=J.trans<|Zm y;refine ro 6 O<|kB O (λx=>?_) λx=>?_
 ·have f:=M.trans<|Zn x;refine ro 4 O<|kc (zk X1 O)<|rr 2 O<|RK.ZS (t:=43) O (λH=>?_) λH=>?_
  ·have d:=f.trans<|Zn<|.inl I;refine rr 21 O<|kT O O Td O O O ?_;rw[d];try rfl
  have m:1<R (Z7 32 (ZQ 32 s).2.1):=I
  have B:2<R (Z7 32 (ZQ 32 s).2.1):=I
  refine kc (S.move (zg O O) O<|zt O)<|kc (S.Zi (n:=1) X1 (zg O O) O (zt O) (.Zg O) O m O)<|rr 4 O<|RK.ZS (t:=49) O (λo=>?_) λo=>?_
  ·have d:=f.trans<|Zn<|.inr<|.inl<|(Uk m).trans o;refine rr 15 O<|kT O O Td O O O ?_;rw[d];try rfl
  refine kc (S.move (zg O O) O<|zt O)<|kc (S.Zi (n:=2) X1 (zg O O) O (zt O) (.Zg O) O B O)<|rr 5 O<|kB O (λw=>?_) λw=>?_
  ·have d:=f.trans<|Zn<|.inr<|.inr<|(Uk B).trans w;refine ro 7 O<|kT O O Td O O O ?_;rw[d];try rfl
  have d:=f.trans (Zm<|by rintro(q|q|q);exact q I;exact o<|(Uk m).symm.trans q;exact w<|(Uk B).symm.trans q);rw[Uk h0,Uk m,Uk B]at d;refine ro 5 O<|kc (S.Zi (n:=0) X1 .none O (zt O) (.Zg O) O h0 O)<|kc (zV T6 O O) ?_;refine kc (zK (T3<|by have:=Xs (c:=32) _<|Zt h0;omega) call148 O) ?_;refine rr 9 O<|kV (.c (zm O)<|.c (S.Zi (n:=1) X1 .none O (zt O) (.Zg O) O m O)<|.c (zV T6 O O)<|.c (zm O)<|.c (S.Zi (n:=2) X1 .none O (zt O) (.Zg O) O B O)<|.c (zV T6 O O)<|.c (zf Jz O)<|.c (zS T6 O O O O O O)<|.c (zf DF O)<|.c (zS T6 O O O O O O) .nil)<|rd 9 O<|kT O O Td O O O ?_;rw[d];try rfl
 have f:=M.trans<|Zm x;refine OK.join (G:=Bool) [7,2] (λE=>[(2,.ptr 2 0),(1002,.box [.str [],.str [],.str [],.str [],bv 0]),(4,.str (ZQ 32 s).1),(5,.str (ZQ 32 s).2.1),(6,.bool (ZQ 32 s).2.2),(7,.ptr 7 0),(1007,.box [.str (ZQ 32 s).1,.str [],.str [],.str (ZQ 32 s).2.1,bv 0]),(8,.sl<|(Z7 32 (ZQ 32 s).2.1).map λp=>[.str p]),(9,.bool true),(27,.str (ZQ 32 s).1),(74,.bool E)]) (λE=>E=decide ((ZQ 32 s).1=Z4[4]\/(ZQ 32 s).1=Z4[5]\/(ZQ 32 s).1=Z4[8]\/(ZQ 32 s).1=Z4[11]\/(ZQ 32 s).1=Z4[12])) (λ_=>O) ?_ ?_
 ·refine ro 6 O<|kB O (λa=>?_) λa=>?_
  ·try (have d:=f.trans<|Zn<|pf<|e.symm.trans a)
   refine OK.skip (Ab.D.lp ⟨_,(by first|exact(Zz a).trans (Zz<|by first|exact .inl a|exact .inr (.inl a)|exact .inr (.inr<|.inl a)|exact .inr<|.inr<|.inr<|.inl a).symm|exact bV b|exact bW (by assumption) (by assumption) (by assumption)<|by assumption),O,O,O,O,O,O,O,O,O,O,O,Zo⟩)
  try (have A:=f.trans<|Zm<|dg<|e.symm.trans a)
  refine ro 6 O<|kB O (λa=>?_) λa=>?_
  ·try (have d:=f.trans<|Zn<|pf<|e.symm.trans a)
   refine OK.skip (Ab.D.lp ⟨_,(by first|exact(Zz a).trans (Zz<|by first|exact .inl a|exact .inr (.inl a)|exact .inr (.inr<|.inl a)|exact .inr<|.inr<|.inr<|.inl a).symm|exact bV b|exact bW (by assumption) (by assumption) (by assumption)<|by assumption),O,O,O,O,O,O,O,O,O,O,O,Zo⟩)
  try (have A:=f.trans<|Zm<|dg<|e.symm.trans a)
  refine ro 6 O<|kB O (λa=>?_) λa=>?_
  ·try (have d:=f.trans<|Zn<|pf<|e.symm.trans a)
   refine OK.skip (Ab.D.lp ⟨_,(by first|exact(Zz a).trans (Zz<|by first|exact .inl a|exact .inr (.inl a)|exact .inr (.inr<|.inl a)|exact .inr<|.inr<|.inr<|.inl a).symm|exact bV b|exact bW (by assumption) (by assumption) (by assumption)<|by assumption),O,O,O,O,O,O,O,O,O,O,O,Zo⟩)
  try (have A:=f.trans<|Zm<|dg<|e.symm.trans a)
  refine ro 6 O<|kB O (λa=>?_) λa=>?_
  ·try (have d:=f.trans<|Zn<|pf<|e.symm.trans a)
   refine OK.skip (Ab.D.lp ⟨_,(by first|exact(Zz a).trans (Zz<|by first|exact .inl a|exact .inr (.inl a)|exact .inr (.inr<|.inl a)|exact .inr<|.inr<|.inr<|.inl a).symm|exact bV b|exact bW (by assumption) (by assumption) (by assumption)<|by assumption),O,O,O,O,O,O,O,O,O,O,O,Zo⟩)
  try (have A:=f.trans<|Zm<|dg<|e.symm.trans a)
  refine ro 4 O ?_;refine Ab.D.lp ⟨_,(by first|exact(Zz a).trans (Zz<|by first|exact .inl a|exact .inr (.inl a)|exact .inr (.inr<|.inl a)|exact .inr<|.inr<|.inr<|.inl a).symm|exact bV b|exact bW (by assumption) (by assumption) (by assumption)<|by assumption),O,O,O,O,O,O,O,O,O,O,O,Zo⟩
 rintro E e;refine OK.cond O O (λa=>?_) λa=>?_
 ·try (have d:=f.trans<|Zn<|pf<|e.symm.trans a)
  refine ro 3 O<|kc (zK (T3 I) call148 O) ?_;refine rr 16 O<|kT O O Td O O O ?_;rw[d];try rfl
 try (have A:=f.trans<|Zm<|dg<|e.symm.trans a)
 refine ro 6 O<|kB O (λv=>?_) λv=>?_
 ·have z:=A.trans<|Zn v;refine ro 4 O<|kc (zk X1 O)<|rr 2 O<|RK.ZS (t:=93) O (λF=>?_) λF=>?_
  ·have d:=z.trans<|Zn<|.inl I;refine rr 15 O<|kT O O Td O O O ?_;rw[d];try rfl
  have m:1<R (Z7 32 (ZQ 32 s).2.1):=I
  refine kc (S.move (zg O O) O<|zt O)<|kc (S.Zi (n:=0) X1 (zg O O) O (zt O) (.Zg O) O h0 O)<|rr 5 O<|kB O (λu=>?_) λu=>?_
  ·have d:=z.trans<|Zn<|.inr<|(Uk h0).trans u;refine ro 7 O<|kT O O Td O O O ?_;rw[d];try rfl
  have d:=z.trans (Zm<|by rintro(q|q);exact q I;exact u<|(Uk h0).symm.trans q);rw[Uk h0,Uk m]at d;refine ro 5 O<|kc (S.Zi (n:=0) X1 .none O (zt O) (.Zg O) O h0 O)<|rr 8 O<|kc (S.Zi (n:=1) X1 .none O (zt O) (.Zg O) O m O)<|kc (zV T6 O O) ?_;refine kc (zK (T3<|by have:=Xs (c:=32) _<|Zt m;omega) call148 O) ?_;refine rr 16 O<|kT O O Td O O O ?_;rw[d];try rfl
 have z:=A.trans<|Zm v;refine ro 6 O<|kB O (λj=>?_) λj=>?_
 ·have d:=z.trans<|Zn j;refine ro 11 O<|kc (zk X1 O)<|rr 2 O<|RK.ZS (t:=122) O (λC=>?_) λC=>?_
  ·rw[Zz (show(R<|Z7 32 (ZQ 32 s).2.1)=1 by omega),tn]at d;refine rr 7 O<|kT O O Td O O O ?_;rw[d];try rfl
  rw[Zy (show¬R (Z7 32 (ZQ 32 s).2.1)=1 by omega),tp]at d;refine rr 7 O<|kT O O Td O O O ?_;rw[d];try rfl
 have L:=z.trans<|Zm j;refine ro 6 O<|kB O (λi=>?_) λi=>?_
 ·have d:=L.trans<|Zn i;refine ro 3 O<|kc (zK (Pb I) call101 O) ?_;refine rr 19 O<|kc (zK (T3 I) call148 O) ?_;refine rr 13 O<|RK.split (t:=144) O (λh=>?_) λh=>?_
  ·rw[show(Ut (ZQ 32 (ZQ 32 s).2.1).1).2=true from h,tn]at d;refine rr 6 O<|kT O O Td O O O ?_;rw[d];try rfl
  rw[show(Ut (ZQ 32 (ZQ 32 s).2.1).1).2=false from h,tp]at d;refine rr 6 O<|kT O O Td O O O ?_;rw[d];try rfl
 have d:=L.trans<|Zm i;refine ro 6 O<|kc (zK (Pb I) call101 O) ?_;refine rr 24 O<|RK.split (t:=159) O (λg=>?_) λg=>?_
 ·rw[show(ZQ 32 (ZQ 32 s).2.1).2.2=true from g,tn]at d;refine rr 7 O<|kT O O Td O O O ?_;rw[d];try rfl
 rw[show(ZQ 32 (ZQ 32 s).2.1).2.2=false from g,tp]at d;refine rr 7 O<|kT O O Td O O O ?_;rw[d];try rfl
def Cj:Ct prog 102 []<|.sl<|Z4.map λv=>[.str v]:=by
 refine cI func102 O<|kr<|kc (S.assign .none O .Ya)<|rr 4 O ?_;refine RK.c (zM [[_],[_],[_],[_],[_],[_],[_],[_],[_],[_],[_],[_],[_]] Qf O O O O) ?_;refine rr 3 O ?_;refine OK.ret<|Y3.r1 (.tmp O O (.c (.own O O N) O) O) ?_;rfl
def Ci:Ct prog 103 []<|.sl<|S2.map λn=>[bv n]:=by
 refine cI func103 O<|kr<|kc (S.assign .none O .Ya)<|rr 24 O ?_;refine RK.c (zM [[_],[_],[_],[_],[_],[_],[_],[_],[_],[_],[_],[_],[_]] Xr O O O O) ?_;refine rr 3 O ?_;refine OK.ret<|Y3.r1 (.tmp O O (.c (.own O O N) O) O) ?_;rfl
variable{k n:Nat}
def eF{m:Nat}(h:n=m):some (X.box [.own k n])=some (X.box [.own k m]):=by rw[h]
def Tz(w:ba):Option Int:=if YB w 7=true then some (YZ w)else none
variable{w:ba}
def yW(h:YB w 7=true):Tz w=some (YZ w):=Zn h
theorem LN(h:YB w 7=false):Tz w=none:=Zm (by grind)
def Ft:∀(L:List ba),YT Tz L=if(L.all λw=>YB w 7)=true then some (L.map YZ)else none
 |[]=>rfl
 |w::L=>by
  rw[YT,Ft L,so];cases h:YB w 7 with
  |true=>simp_all[yW]
  |false=>rw[LN h,tp];rfl
theorem L0(n:Nat)(p:ba):Qk n p=match YT Tz (Z7 32 p)with|some a=>if R a=n then some a else none|none=>none:=by
 unfold Qk;rw[Ft];grind
def UG(q:bd×Int)(w:ba):(bd×Int)×Option Code:=match Tz w with
 |some v=>((q.1++[v],q.2),none)
 |none=>((q.1,7),some .ret)
variable{q:bd×Int}
def oL{v:Int}(h:Tz w=some v):UG q w=((q.1++[v],q.2),none):=by unfold UG;rw[h]
def BD(h:Tz w=none):UG q w=((q.1,7),some .ret):=by unfold UG;rw[h]
def O3{β τ:Type}(e:τ):∀l:List β,l.foldl (λe _=>e) e=e
 |[]=>rfl
 |_::l=>O3 e l
variable{t:Int}{L:List ba}
def wT(h:ZZ (Ab.stepG UG) ((([],t):bd×Int),none) L=((q,none),true)):YT Tz L=some q.1/\q.2=t:=by
 obtain⟨c,a,rfl⟩:=Fp (f:=Tz) (upd:=λe _=>e) (bad:=λq=>q.2=7) (λq x b h=>oL h) (λq x h=>⟨_,BD h,rfl⟩) h;simp_all[O3]
def iT{a:Code}(h:(ZZ (Ab.stepG UG) ((([],t):bd×Int),none) L).1=(q,some a)):YT Tz L=none/\q.2=7/\a=.ret:=
 Fu (f:=Tz) (upd:=λe _=>e) (bad:=λq=>q.2=7) (λq x b h=>oL h) (λq x h=>⟨_,BD h,rfl⟩) h
theorem bN(h:ZZ (Ab.stepG UG) ((([],t):bd×Int),none) (L.take i)=((q,none),true)):R q.1<=R L:=by
 have:=SM (wT h).1;grind
def TD(n:Nat)(q:List bd×Int)(p:ba):(List bd×Int)×Option Code:=match(ZZ (Ab.stepG UG) ((([],q.2):bd×Int),none)<|Z7 32 p).1 with
 |(r,none)=>if R r.1=n then((q.1++[r.1],r.2),none)else((q.1,7),some .ret)
 |(r,some cd)=>((q.1,r.2),some cd)
section
variable{n:Nat}{q:List bd×Int}{p:ba}{r:bd×Int}
def fm(h:ZZ (Ab.stepG UG) ((([],q.2):bd×Int),none) (Z7 32 p)=((r,none),true))(a:R r.1=n):TD n q p=((q.1++[r.1],r.2),none):=by simp_all[TD]
def qL(h:ZZ (Ab.stepG UG) ((([],q.2):bd×Int),none) (Z7 32 p)=((r,none),true))(a:¬R r.1=n):TD n q p=((q.1,7),some .ret):=by simp_all[TD]
def qM{a:Code}(h:(ZZ (Ab.stepG UG) ((([],q.2):bd×Int),none)<|Z7 32 p).1=(r,some a)):TD n q p=((q.1,r.2),some a):=by unfold TD;rw[h]
def rw_T{b:bd}(h:Qk n p=some b):TD n q p=((q.1++[b],q.2),none):=by
 rw[L0]at h;split at h
 ·rename_i c a;split at h
  ·rename_i d;cases h;have g:=(MD (f:=Tz) (xn:=UG) (upd:=λe _=>e) (bad:=λq=>q.2=7) (λq x b h=>oL h) (λq x h=>⟨_,BD h,rfl⟩) (Z7 32 p) ([],q.2)).1 _ a;simp_all[fm,O3]
  cases h
 cases h
theorem rw_F(h:Qk n p=none):∃a,TD n q p=(a,some .ret)/\a.2=7:=by
 rw[L0]at h;have hi:=MD (f:=Tz) (xn:=UG) (upd:=λe _=>e) (bad:=λq=>q.2=7) (λq x b h=>oL h) (λq x h=>⟨_,BD h,rfl⟩) (Z7 32 p) ([],q.2);split at h
 ·rename_i i c;split at h
  ·cases h
  rename_i j;exact⟨_,qL (hi.1 _ c)<|by grind,rfl⟩
 rename_i c;obtain⟨a,g,d⟩:=hi.2 c;exact⟨_,qM (by rw[g]),d⟩
end
def xq{q:List bd×Int}(h:ZZ (Ab.stepG<|TD n) ((([],0):List bd×Int),none) L=((q,none),true)):YT (Qk n) L=some q.1/\q.2=0:=by
 obtain⟨c,a,rfl⟩:=Fp (f:=Qk n) (upd:=λe _=>e) (bad:=λq=>q.2=7) (λq x b h=>rw_T h) (λq x h=>rw_F h) h;simp_all[O3]
def jG{q:List bd×Int}{a:Code}(h:(ZZ (Ab.stepG<|TD n) ((([],0):List bd×Int),none) L).1=(q,some a)):YT (Qk n) L=none/\q.2=7/\a=.ret:=
 Fu (f:=Qk n) (upd:=λe _=>e) (bad:=λq=>q.2=7) (λq x b h=>rw_T h) (λq x h=>rw_F h) h
theorem cO{q:List bd×Int}(h:ZZ (Ab.stepG<|TD n) ((([],0):List bd×Int),none) (L.take i)=((q,none),true)):R q.1<=R L:=by
 have:=SM (xq h).1;grind
def xk(h:60000<R s):Yq n s=([],8):=Zn h
def xj{l:List bd}(h:¬60000<R s)(a:YT (Qk n) (Z7 59 s)=some l):Yq n s=(l,0):=by unfold Yq;simp_all
def JW(h:¬60000<R s)(a:YT (Qk n) (Z7 59 s)=none):Yq n s=([],7):=by unfold Yq;simp_all
theorem Be{α β:Type}{f:α->Option β}:∀{l:List α}{bs:List β},YT f l=some bs->∀b∈bs,∃a∈l,f a=some b
 |[],bs,h,b,d=>by simp_all[YT]
 |a::l,bs,h,b,d=>by
  simp only[YT]at h;split at h
  ·cases h
  rename_i c g;rw[M2]at h;obtain⟨r,e,rfl⟩:=h;rcases sf.1 d with rfl|d
  ·simp_all
  obtain⟨k,j,i⟩:=Be e b d;grind
theorem F8{r:bd}(h:r∈(Yq n s).1):R r=n:=by
 unfold Yq at h;split at h
 ·cases h
 split at h
 ·rename_i l b;obtain⟨a,_,c⟩:=Be b r h;grind [L0]
 cases h
theorem F7(h:R s<=100000):R (Yq n s).1<=100001:=by
 grind [Yq,SM,WJ]
def gW{r:bd}(h:R r=4):∃a b c d,r=[a,b,c,d]:=by
 match r,h with
 |[a,b,c,d],_=>simp
def su(l:List ZK)(i:Nat)(x:ZK):Int:=VE i (l.getD (i - 1) x) x
variable{l:List ZK}
theorem TE(h:i - 1<R l)(x:ZK):su l i x=VE i l[i - 1] x:=by unfold su;grind
def lW{a b:Bool}(h:¬ZW [Z8 a 2,Z8 b 9]≠0):a=true/\b=true:=by
 cases a<;>cases b<;>first|exact⟨rfl,rfl⟩|exact absurd C h
structure Pq(x:ZK):Prop where
 depth:1<=x.depth/\x.depth<=10000
 diag:1<=x.diag/\x.diag<=10000
 lo:0<=x.lo/\x.lo<=2000
 hi:0<=x.hi/\x.hi<=2000
 ord:x.lo<=x.hi
variable{x:ZK}
def qF{p:Bool}(h:(YR x.depth&&YR x.diag&&Y5 x.lo&&Y5 x.hi)=true)(b:p=decide (x.lo<=x.hi))(a:p=true):Pq x:=by
 simp only[Zw]at h;obtain⟨⟨⟨f,e⟩,d⟩,c⟩:=h;rw[b]at a;exact⟨pf f,pf e,pf d,pf c,pf a⟩
variable{b:ZK}
def DX{a:Bool}(c:a=(YR x.depth&&YR x.diag&&Y5 x.lo&&Y5 x.hi))(h:ZW [Z8 a 2,Z8 (decide<|x.lo<=x.hi) 9]≠0):VE i b x=ZW [Z8 a 2,Z8 (decide<|x.lo<=x.hi) 9]:=by
 subst c;exact Zn h
theorem yG{a:Bool}(c:a=(YR x.depth&&YR x.diag&&Y5 x.lo&&Y5 x.hi))(h:¬ZW [Z8 a 2,Z8 (decide<|x.lo<=x.hi) 9]≠0)(hi:i=0):VE i b x=Z8 (decide<|2 * x.depth>=5 * x.diag) 17:=by
 simp_all[VE]
theorem yH{a:Bool}(c:a=(YR x.depth&&YR x.diag&&Y5 x.lo&&Y5 x.hi))(h:¬ZW [Z8 a 2,Z8 (decide<|x.lo<=x.hi) 9]≠0)(hi:¬i=0):VE i b x=Z8 (decide<|x.depth - b.depth>=3 * max x.diag b.diag) 17:=by
 simp_all[VE]
def JH(h:¬VE i b x≠0):Pq x/\(i=0->2 * x.depth>=5 * x.diag)/\(¬i=0->x.depth - b.depth>=3 * max x.diag b.diag):=by
 by_cases a:ZW [Z8 (YR x.depth&&YR x.diag&&Y5 x.lo&&Y5 x.hi) 2,Z8 (decide<|x.lo<=x.hi) 9]≠0
 ·rw[DX rfl a]at h;omega
 obtain⟨e,d⟩:=lW a;refine⟨qF e rfl d,λhi=>?_,λhi=>?_⟩
 ·rw[yG rfl a hi]at h;cases c:decide (2 * x.depth>=5 * x.diag)with
  |true=>simp_all
  |false=>rw[c]at h;exact absurd C h
 rw[yH rfl a hi]at h;cases c:decide (x.depth - b.depth>=3 * max x.diag b.diag)with
 |true=>simp_all
 |false=>rw[c]at h;exact absurd C h
def x4(l:List ZK)(i:Nat):Prop:=∀j y,j<i->l[j]?=some y->Pq y
def x4.succ(h:x4 l i)(hi:i<R l)(b:Pq l[i]):x4 l<|i+1:=by
 intro j y c a;by_cases e:j=i
 ·simp_all
 exact h j y I a
def x4.prev(h:x4 l i)(hi:i<R l):i=0\/Pq l[i - 1]:=by
 by_cases e:i=0
 ·exact .inl e
 exact .inr<|h (i - 1) _ I<|Zv I
def UM(l:List ZK):Int:=ZW [Z8 (decide ((R l:Int)>=2)) 10,Z8 (decide ((R l:Int)<=20)) 8]
def J4(h:UM l≠0):WS l=(0,UM l):=Zn h
def EN(h:¬UM l≠0):WS l=ZP (su l) 0 l:=Zm h
structure Lj(l:List ZK):Prop where
 len:2<=l.length/\l.length<=20
 ok:∀y∈l,Pq y
 asc:∀j (h:j+1<l.length),(l[j]' I).depth<l[j+1].depth
theorem HG{α:Type}(g:Nat->α->Int):∀(l:List α)(k:Nat),(ZP g k l).2=0->∀(i:Nat)(h:i<R l),g (k+i) l[i]=0
 |x::l,k,he,i,h=>by
  rw[ZP]at he;split at he
  ·omega
  rename_i a;cases i with
  |zero=>simp_all
  |succ i=>
   have:=HG g l (k+1) he i (by grind);grind
theorem J5(h:(WS l).2=0):Lj l:=by
 by_cases b:UM l≠0
 ·simp_all[J4]
 rw[EN b]at h;have o:2<=R l/\R l<=20:=by
  unfold UM at b;by_cases d:(R l:Int)>=2
  ·by_cases g:(R l:Int)<=20
   ·omega
   rw[Zz d,Zy g]at b;exact absurd C b
  rw[Zy d]at b;cases t:decide ((R l:Int)<=20)<;>rw[t]at b<;>exact absurd C b
 have k:∀(i:Nat)(hi:i<R l),Pq l[i]/\(¬i=0->l[i].depth - (l[i - 1]' I).depth>=3 * max l[i].diag (l[i - 1]' I).diag):=by
  intro i hi;have f:=HG _ l 0 h i hi;rw[wc,TE I]at f;obtain⟨a,_,c⟩:=JH λe=>e f;simp_all
 refine⟨o,λy m=>?_,λj s=>?_⟩
 ·obtain⟨i,hi,rfl⟩:=dl m;simp_all
 obtain⟨a,c⟩:=k (j+1) s;have:=c I;have u:=a.diag;grind
def Nd(h:(if(Yq 4 s).2=0 then(WS<|(Yq 4 s).1.map Xy).2 else(Yq 4 s).2)≠0):Y9 s=([],if(Yq 4 s).2=0 then(WS<|(Yq 4 s).1.map Xy).2 else(Yq 4 s).2):=Zn h
def EO(h:¬(if(Yq 4 s).2=0 then(WS<|(Yq 4 s).1.map Xy).2 else(Yq 4 s).2)≠0):Y9 s=((Yq 4 s).1.map Xy,0):=Zm h
theorem Bj{R:List bd}(h:k<R.length):((R.take<|k+1).map Xy).map ZK.cs=((R.take k).map Xy).map ZK.cs++[(Xy R[k]).cs]:=by
 grind [List.take_succ_eq_append_getElem]
def wJ(R:List bd)(h:k<=R.length):(((R.take k).map Xy).map ZK.cs).length=k:=by
 simp_all
def HX{n lo hi:Int}:Ct prog 300 [bv n,bv lo,bv hi]<|.bool<|decide<|lo<=n/\n<=hi:=by
 refine cI func300 O<|ro 11 O<|RK.ZS (t:=10) O (λa=>?_) λa=>?_
 ·refine rr 7 O<|kR O O ?_;simp[*]
 refine rr 7 O<|kR O O ?_;simp[*]
def Xf{ok:Bool}{e:Int}:Ct prog 267 [.bool ok,bv e]<|bv<|Z8 ok e:=by
 refine cI func267 O<|ro 11 O<|OK.cond O O (λa=>?_) λa=>?_
 ·refine ro 5 O<|kR O O ?_;simp[Z8, *]
 refine ro 8 O<|kR O O ?_;simp[Z8, *]
def RV{l:bd}:Ct prog 266 [ints l]<|bv<|ZW l:=by
 refine cI func266 O<|OK.XF (vi:=l.map λn=>[bv n]) (t:=0) O O λqk=>?_;rw[Zx]at qk;unfold maxLen at qk;refine ro 9 O<|kc (zk EU O)<|rr 4 O ?_;refine OK.loop (G:=Nat) [] (λi=>[(5,ints l),(6,bv<|R l),(7,bv i)]) (λi=>i<=R l/\ZW l=ZW (l.drop i)) (λi=>R l - i) 0 ⟨Zr _,O⟩ ⟨O,O,O,Zo⟩ (λ_=>O) ?_;rintro i ⟨hi,a⟩;refine ro 6 O<|kB O (λc=>?_) λc=>?_
 ·refine ro 6 O<|kc (zI EU O I O) ?_;refine rr 10 O<|kB O (λb=>?_) λb=>?_
  ·refine ro 6 O<|kR O O ?_;rw[a,Wy I];simp_all
  refine Ro 7 O I (Ab.D.lp ⟨i+1,⟨by omega,?_⟩,I,O,O,O,Zo⟩);rw[a,Wy I];simp_all
 refine ro 7 O<|kR O O ?_;have:i=R l:=by omega
 subst this;rw[a,da];rfl
def SP{n:Int}:Ct prog 268 [bv n]<|.bool<|Y5 n:=by
 refine cI func268 O<|ro 8 O<|kc (zK HX call300 O)<|rr 3 O<|kR O O ?_;rfl
def KI{n:Int}:Ct prog 324 [bv n]<|.bool<|YR n:=by
 refine cI func324 O<|ro 8 O<|kc (zK HX call300 O)<|rr 3 O<|kR O O ?_;rfl
def DZ{n lo hi:Int}:Ct prog 321 [bv n,bv lo,bv hi]<|bv<|ZW [Z8 (decide<|n>=lo) 10,Z8 (decide<|n<=hi) 8]:=by
 refine cI func321 O<|ro 10 O<|kc (zK Xf call267 O)<|rr 3 O<|kc (zK Xf call267 O) ?_;refine RK.c (zM [[_],[_]] V6 O O O O)<|kc (S.XY (RV (l:=[_,_])) call266 .none O (zc O .nil) (.cons (.p (.own O O) O) .nil) O) ?_;refine rr 3 O<|kR O O ?_;rfl
def tC{l:ba}(hl:R l<=100000):Q7 prog 264 [.str l,bv (n:Int)]<|.Yy [.sl<|(Yq n l).1.map λr=>[ints r],bv (Yq n l).2]:=by
 refine cT func264 O λf=>?_
 refine ro 15 O<|kB O (λP=>?_) λP=>?_
 ·refine kr<|kc (S.store L4 .none (zt O) .Ya O O O O O O)<|rr 3 O<|OK.ret<|Y3.r2 (.Py O O O O L4 (.same O) O) (.Py O O O O fG (.same O) O) ?_;rw[xk I]
  all_goals rfl
 refine ro 11 O ?_;refine RK.c (S.vV [871,872,873] (Na (l:=l) (c:=59)) call298 .none O (zc O<|.cons (.Vh (l:=[59]) O C) .nil) O) ?_;refine rr 3 O<|OK.QC 4 0 O O O O<|OK.VL 6 0 880 1 O O O O O ?_;refine OK.QW (ps:=[17]) (encs:=(λs=>[.str s])) (L:=(Z7 59 l)) [3,4,5,6,880] [(3,.ptr 3 0),(4,.ptr 4 0),(5,.ptr 5 0),(6,.ptr 6 0)] (λq=>[(1003,.box [bv (n:Int)]),(1004,.box [.sl []]),(1005,.box [bv q.2]),(1006,.box [.own 880<|R q.1]),(2880,.arr 1<|q.1.map λr=>[ints r])]) (([],0):List bd×Int) (TD n) [(871,[.str [59]]),(872,[.str l]),(873,[bv 0])] (Ga (c:=59) hl) ⟨O,O,O,Zo⟩ O call334 (.inl O) (zt O) O ⟨O,O,O,O,O,O,O,O,(ZX N),Zo⟩ (λ_=>O) (λ_=>O) (λ_=>O) (λ_=>O) (λ_=>O) C O ?_ ?_ ?_
 ·rintro i x q X g lr c0 w0 T Q G a;have f:=a.tab f;have m:=mr X;have W:=Xs x m;have o:=cO g;have E:=WJ (c:=59) (l:=l);refine OK.R3<|ja O<|RK.nil ?_;refine⟨rfl,?_⟩;refine ro 10 O ?_;refine RK.c (S.vV [871,872,873] (Na (l:=x) (c:=32)) call298 .none O (zc O<|.cons (.Vh (l:=[32]) O C) .nil) O) ?_;refine rr 3 O<|OK.VL 8 0 881 1 O O O O O ?_;refine OK.QW (ps:=[20]) (encs:=(λs=>[.str s])) (L:=(Z7 32 x)) [3,4,5,6,880,8,881] [(3,.ptr 3 0),(4,.ptr 4 0),(5,.ptr 5 0),(6,.ptr 6 0),(8,.ptr 8 0)] (λp=>[(1003,.box [bv (n:Int)]),(1004,.box [.sl []]),(1005,.box [bv p.2]),(1006,.box [.own 880<|R q.1]),(2880,.arr 1<|q.1.map λr=>[ints r]),(1008,.box [.own 881<|R p.1]),(2881,.arr 1<|p.1.map λv=>[bv v])]) (([],q.2):bd×Int) UG [(871,[.str [32]]),(872,[.str x]),(873,[bv 0])] (Ga (c:=32) I) ⟨O,O,O,Zo⟩ O call334 (.inr ⟨_,a.M6⟩) (zt O) O ⟨O,O,O,O,O,O,O,O,O,(ZX N),O,(ZX N),Zo⟩ (λ_=>O) (λ_=>O) (λ_=>O) (λ_=>O) (λ_=>O) C O ?_ ?_ ?_
  ·rintro j y p V b lr c0 w0 T Q G a;have f:=a.tab f;have k:=mr V;have U:=Xs y k;have w:=bN b;have D:=WJ (c:=32) (l:=x);refine OK.R3<|ja O<|RK.nil ?_;refine⟨rfl,?_⟩;refine ro 4 O<|kc (S.Xo (Js (l:=y) I) f call146 .none O (zc O .nil) O) ?_;refine rr 11 O<|kc (S.neerr underlying187 .none O<|zt O)<|jm O<|RK.split (t:=28) O (λK=>?_) λK=>?_
   ·refine rr 19 O<|kc (S.store L4 .none (zt O) .Ya O O O O O O)<|rr 3 O<|OK.ret ?_;rw[BD<|LN<|by unfold YB;first|(simp_all;done)|(simp_all;omega)];exact⟨rfl,rfl,rfl,rfl,rfl,rfl,rfl,rfl,Zo⟩
   refine rr 4 O<|RK.ZS (t:=32) O (λJ=>?_) λJ=>?_
   ·refine rr 15 O<|kc (S.store L4 .none (zt O) .Ya O O O O O O)<|rr 3 O<|OK.ret ?_;rw[BD<|LN<|by unfold YB;first|(simp_all;done)|(simp_all;omega)];exact⟨rfl,rfl,rfl,rfl,rfl,rfl,rfl,rfl,Zo⟩
   refine kc (S.move (zg O O) O<|zt O)<|kc (S.Xo (N9<|Px y) f call81 (zg O O) O (zc O .nil) O)<|rr 4 O<|RK.ZS (t:=38) O (λH=>?_) λH=>?_
   ·refine rr 9 O<|kc (S.store L4 .none (zt O) .Ya O O O O O O)<|rr 3 O<|OK.ret ?_;rw[BD<|LN<|by unfold YB;first|(simp_all;done)|(simp_all;omega)];exact⟨rfl,rfl,rfl,rfl,rfl,rfl,rfl,rfl,Zo⟩
   refine rr 6 O<|kB O (λM=>?_) λM=>?_
   ·refine kr<|kc (S.store L4 .none (zt O) .Ya O O O O O O)<|rr 3 O<|OK.ret ?_;rw[BD<|LN<|by unfold YB;first|(simp_all;done)|(simp_all;omega)];exact⟨rfl,rfl,rfl,rfl,rfl,rfl,rfl,rfl,Zo⟩
   refine ro 5 O ?_;refine RK.c (zM [[_]] Xr O O O O) ?_;refine kc (zP Xr O O F N I<|by simp only[maxLen];omega) ?_;refine rr 3 O ?_;rw[oL<|yW<|by unfold YB;first|(simp_all;done)|(simp_all;omega)];exact⟨rfl,rfl,rfl,rfl,rfl,rfl,eF F,ZX F,Zo⟩
  ·rintro p b;obtain⟨A,Z⟩:=wT b;have w:=SM A;have D:=WJ (c:=32) (l:=x);refine rd 4 O ?_;refine OK.TP 8 0 O O O O F O ?_;refine ro 2 O<|kc (zk X9 O)<|rr 4 O<|kB O (λe=>?_) λe=>?_
   ·have z:¬R p.1=n:=by first|omega|(simp only[Zx]at e;omega)
    refine kr<|kc (S.store L4 .none (zt O) .Ya O O O O O O)<|rr 3 O<|OK.ret ?_;rw[qL b z];exact⟨rfl,rfl,rfl,rfl,rfl,rfl,Zo⟩
   have B:R p.1=n:=by first|omega|(simp only[Zx]at e;omega)
   refine ro 5 O ?_;refine RK.c (zM [[_]] gU O O O O) ?_;refine kc (zP gU O O F N I<|by simp only[maxLen];omega) ?_;refine rr 3 O ?_;rw[fm b B];exact⟨rfl,rfl,rfl,rfl,eF F,ZX (by simp[ints]),Zo⟩
  rintro p cd b;obtain⟨_,_,d⟩:=iT b;subst d;refine OK.ret ?_;rw[qM b];exact⟨rfl,rfl,rfl,rfl,rfl,rfl,Zo⟩
 ·rintro q g;obtain⟨h,Y⟩:=xq g;have o:=SM h;have E:=WJ (c:=59) (l:=l);refine rd 9 O ?_;refine OK.ret<|Y3.r2 (.Py O O O O L4 (.own O O N) O) (.Py O O O O fG (.same O) O) ?_;rw[xj I h]
  all_goals rfl
 rintro q cd g;obtain⟨h,u,d⟩:=jG g;subst d;refine OK.ret<|Y3.r2 (.Py O O O O L4 (.same O) O) (.Py O O O O fG (.same O) O) ?_;rw[JW I h,u]
 all_goals rfl
def nH(y:i=0\/Pq b):Ct prog 323 [bv i,.agg b.cs,.agg x.cs]<|bv<|VE i b x:=by
 refine cI func323 O<|ro 7 O ?_;refine OK.join (G:=Bool) [4,5] (λg=>[(0,bv i),(4,.ptr 4 0),(1004,.box b.cs),(5,.ptr 5 0),(1005,.box x.cs),(7,.bool g)]) (λg=>g=(YR x.depth&&YR x.diag&&Y5 x.lo&&Y5 x.hi)) (λ_=>O) ?_ ?_
 ·refine ro 3 O<|kc (zK KI call324 O)<|jm O<|RK.split (t:=12) O (λk=>?_) λk=>?_
  ·refine rr 2 O<|kc (S.call KI call324 (zg O O) O (zc O .nil) O)<|rr 2 O<|RK.split (t:=17) O (λj=>?_) λj=>?_
   ·refine rr 3 O<|kc (S.call SP call268 (zg O O) O (zc O .nil) O)<|rr 2 O<|RK.split (t:=23) O (λh=>?_) λh=>?_
    ·refine rr 3 O<|kc (S.call SP call268 (zg O O) O (zc O .nil) O)<|rr 3 O ?_;refine Ab.D.lp ⟨(Y5 x.hi),(by simp[*]),O,O,O,O,O,O,Zo⟩
    refine rr 7 O ?_;refine Ab.D.lp ⟨false,(by simp[*]),O,O,O,O,O,O,Zo⟩
   refine rr 13 O ?_;refine Ab.D.lp ⟨false,(by simp[*]),O,O,O,O,O,O,Zo⟩
  refine rr 18 O ?_;refine Ab.D.lp ⟨false,(by simp[*]),O,O,O,O,O,O,Zo⟩
 rintro g d;refine kO<|kO<|kV (.c (zm O)<|.c (zK Xf call267 O)<|.c (zf Sf O)<|.c (zf UT O)<|.c (zl YK O O O O)<|.c (zf Sf O)<|.c (zf TI O)<|.c (zl YK O O O O)<|.c (S.leq .none O (zt O)<|zt O)<|.c (zK Xf call267 O)<|.c (zM [[_],[_]] V6 O O O O)<|.c (S.XY (RV (l:=[_,_])) call266 .none O (zc O .nil) (.cons (.p (.own O O) O) .nil) O)<|.c (za O) .nil) ?_;refine rd 7 O<|kB O (λa=>?_) λa=>?_
 ·have f:=DX (i:=i) (b:=b) d a;refine ro 6 O<|kR O O ?_;rw[f];try rfl
 obtain⟨A,z⟩:=lW a;have o:=qF (d▸A) rfl z;have u:=o.depth;have s:=o.diag;refine ro 9 O<|kB O (λm=>?_) λm=>?_
 ·have f:=yG (b:=b) d a (by omega:i=0);refine ro 4 O ?_;refine kc (S.mul .none O (.Zg O) (zt O) (mn _ I)<|mn _ I) ?_;refine rr 2 O ?_;refine kc (S.mul .none O (.Zg O) (zt O) (mn _ I)<|mn _ I)<|kc (S.geq .none O (zt O)<|zt O)<|kc (zK Xf call267 O) ?_;refine rr 3 O<|kR O O ?_;rw[f];try rfl
 have f:=yH (b:=b) d a (by omega:¬i=0);have e:Pq b:=y.resolve_left I;have w:=e.depth;have v:=e.diag;refine Ro 13 O I<|kc (S.max2 .none O (zt O)<|zt O) ?_;refine kc (S.mul .none O (.Zg O) (zt O) (mn _ I)<|mn _ I)<|kc (S.geq .none O (zt O)<|zt O)<|kc (zK Xf call267 O) ?_;refine rr 3 O<|kR O O ?_;rw[f];refine YL ?_;rw[show(if x.diag<b.diag then b.diag else x.diag)=max x.diag b.diag by split<;>omega]
 try rfl
def nI:Ct prog 322 [.sl<|l.map ZK.cs,.fn 323 []]<|.Yy [bv (ZP (su l) 0 l).1,bv (ZP (su l) 0 l).2]:=by
 refine cI func322 O<|OK.XF (vi:=l.map ZK.cs) (t:=0) O O λqk=>?_;rw[Zx]at qk;unfold maxLen at qk;refine ro 10 O<|kc (zk S6 O)<|rr 4 O ?_;refine OK.loop (G:=Nat) [] (λi=>[(0,.sl<|l.map ZK.cs),(1,.fn 323 []),(9,.sl<|l.map ZK.cs),(10,bv<|R l),(11,bv i)]) (λi=>i<=R l/\ZP (su l) 0 l=ZP (su l) i (l.drop i)/\x4 l i) (λi=>R l - i) 0 ⟨Zr _,O,λj y h=>absurd h<|bπ _⟩ ⟨O,O,O,O,O,Zo⟩ (λ_=>O) ?_;rintro i ⟨hi,k,f⟩;refine ro 6 O<|kB O (λm=>?_) λm=>?_
 ·have a:i<R l:=by omega
  have d:i - 1<R l:=by omega
  have g:=f.prev a;refine ro 7 O<|kc (zI S6 O I O) ?_;refine rr 7 O ?_;refine kV (.c (zm O)<|.c (zm O)<|.c (zm O)<|.c (zm O)<|.c (S.sub .none O (zt O) (.Zg O) (mn _ I)<|mn _ I)<|.c (S.max2 .none O (.Zg O)<|zt O)<|.c (S.Zi (n:=(i - 1)) S6 .none O (zt O) (zt O) I d O)<|.c (S.Vj fN .none O (zt O) O O)<|.c (zL fN O O O O)<|.c (S.Tm (nH (i:=i) (b:=l[i - 1]) (x:=l[i]) g) call323 .none O (zt O) (zc O<|zc O<|zc O .nil) O O O)<|.c (za O) .nil) ?_;refine rd 7 O<|kB O (λe=>?_) λe=>?_
  ·refine ro 8 O<|kS O O O O ?_;rw[k,Zd _ a,Zn (by rw[TE d];exact e),TE d]
   try rfl
  refine Ro 7 O I ?_;refine Ab.D.lp ⟨i+1,⟨by omega,by rw[k,Zd _ a,Zm<|by rw[TE d];exact e],f.succ a (JH e).1⟩,I,O,O,O,O,O,Zo⟩
 refine ro 8 O<|kS O O O O ?_;rw[k,show i=R l by omega,da]
 try rfl
def MK:Ct prog 299 [.agg [.sl<|l.map ZK.cs]]<|.Yy [bv (WS l).1,bv (WS l).2]:=by
 refine cI func299 O<|ro 12 O<|kc (zk S6 O)<|kc (zK DZ call321 O)<|rr 9 O<|kB O (λa=>?_) λa=>?_
 ·refine ro 7 O<|kS O O O O ?_;rw[J4 (show UM l≠0 from a)]
  try rfl
 refine ro 6 O<|kc (S.call (nI (l:=l)) call322 .none O (zc O<|.cons .Nt .nil) O)<|rr 6 O<|kS O O O O ?_;rw[EN (show¬UM l≠0 from a)]
 try rfl
def Qt:Ct prog 265 [.agg [.sl<|l.map ZK.cs]]<|bv (WS l).2:=by
 refine cI func265 O<|ro 9 O<|kc (zK MK call299 O)<|rr 13 O<|kR O O ?_;rfl
def ML(o:R s<=100000):Q7 prog 224 [.str s]<|.Yy [.agg [.sl<|(Y9 s).1.map ZK.cs],bv (Y9 s).2]:=by
 refine cT func224 O λg=>?_
 have t:=F7 (n:=4) o;refine ro 9 O<|kc (S.Xo (tC (n:=4) o) g call264 .none O (zc O<|zD O) O)<|rr 16 O<|kc (zk Dh O)<|rr 4 O<|OK.VL 6 0 880 4 O O O O O ?_;refine OK.loop (G:=Nat) [2,6,880] (λk=>[(2,.ptr 2 0),(1002,.box [.ZM]),(5,bv (Yq 4 s).2),(6,.ptr 6 0),(1006,.box [.own 880 k]),(2880,.arr 4<|(((Yq 4 s).1.take k).map Xy).map ZK.cs),(14,.sl<|(Yq 4 s).1.map λr=>[ints r]),(15,bv<|R (Yq 4 s).1),(16,bv k)]) (λk=>k<=R (Yq 4 s).1) (λk=>R (Yq 4 s).1 - k) 0 (Zr _) ⟨O,O,O,O,O,(ZX N),O,O,O,Zo⟩ (λ_=>O) ?_;rintro k u;refine ro 6 O<|kB O (λm=>?_) λm=>?_
 ·have i:k<R (Yq 4 s).1:=by omega
  obtain⟨a,b,c,d,h⟩:=gW<|F8<|Zt i;refine ro 6 O<|kc (zI Dh O I O) ?_;refine rr 4 O ?_;rw[h];refine kV (.c (zf Nu O)<|.c (zl DA O O O O)<|.c (zm O)<|.c (S.Zi (n:=0) X9 .none O (zt O) (.Zg O) O F O)<|.c (zV YK O O)<|.c (zm O)<|.c (S.Zi (n:=1) X9 .none O (zt O) (.Zg O) O F O)<|.c (zV YK O O)<|.c (zm O)<|.c (S.Zi (n:=2) X9 .none O (zt O) (.Zg O) O F O)<|.c (zV YK O O)<|.c (zm O)<|.c (S.Zi (n:=3) X9 .none O (zt O) (.Zg O) O F O)<|.c (zV YK O O)<|.c (zU lQ O O)<|.c (zU bu354 O O)<|.c (zM [[_,_,_,_]] gT O O O O)<|.c (zP gT O O (wJ _ I) N I<|by simp only[maxLen];omega)<|.c (zf Nu O)<|.c (zS DA O O O O O O) .nil) ?_;refine Rd 6 O I ?_;refine Ab.D.lp ⟨k+1,I,I,O,O,O,O,O,(ZX<|by rw[Bj i,h];rfl),O,O,O,Zo⟩
 have j:k=R (Yq 4 s).1:=by omega
 refine ro 4 O ?_;subst j;rw[List.take_length];refine OK.TP 6 0 O O O O (by rw[Zx,Zx]) O ?_;refine ro 5 O<|kB O (λf=>?_) λf=>?_
 ·refine ro 2 O<|kc (zK (Qt (l:=(Yq 4 s).1.map Xy)) call265 O)<|rr 10 O<|kB O (λe=>?_) λe=>?_
  ·have g:=Nd (s:=s) (by rw[Zn f];exact e);rw[Zn f]at g;refine kr<|kc (zU j4 O O)<|rr 5 O<|OK.ret<|Y3.r2 (.XU O O O O E0 O<|.k .ZM .z) (zo O O) ?_;rw[g];try rfl
  have g:=EO (s:=s) (by rw[Zn f];exact e);refine ro 9 O<|kT O O E0 O O O ?_;rw[g];try rfl
 refine ro 9 O<|kB O (λe=>?_) λe=>?_
 ·have g:=Nd (s:=s) (by rw[Zm f];exact e);rw[Zm f]at g;refine kr<|kc (zU j4 O O)<|rr 5 O<|OK.ret<|Y3.r2 (.XU O O O O E0 O<|.k .ZM .z) (zo O O) ?_;rw[g];try rfl
 exact absurd f e
def GN(p:Int×Int):bi:=[bv p.1,bv p.2]
def nV(h:i<R l):(UF l).take (i+1)=(UF l).take i++[(l[i].depth,l[i].lo)]:=by
 simp_all[UF,mv]
def rG(h:i<R l):(X5 l).take (i+1)=(X5 l).take i++[(l[i].depth,l[i].hi)]:=by
 simp_all[X5,mv]
def Ic(l:List ZK):R (UF l)=R l:=Zx ..
def Nf(l:List ZK):R (X5 l)=R l:=Zx ..
variable{c:List (Int×Int)}
def JS(a:R c=n)(h:i<=n):R ((c.take i).map GN)=i:=by
 simp_all
theorem Ep(a:R c=n)(h:i=n):c.take i=c:=by grind
structure Hp(c:List<|Int×Int):Prop where
 at_:∀p∈c,1<=p.1/\p.1<=10000
 num:∀p∈c,0<=p.2/\p.2<=2000
 asc:∀j (h:j+1<c.length),(c[j]' I).1<c[j+1].1
def Lj.lower(h:Lj l):Hp<|UF l:=by
 refine⟨λp b=>?_,λp b=>?_,λj c=>?_⟩
 ·obtain⟨x,a,rfl⟩:=rx.1 b;exact(h.ok x a).depth
 ·obtain⟨x,a,rfl⟩:=rx.1 b;exact(h.ok x a).lo
 rw[Ic]at c;have:=h.asc j c;simp_all[UF]
def Lj.upper(h:Lj l):Hp<|X5 l:=by
 refine⟨λp b=>?_,λp b=>?_,λj c=>?_⟩
 ·obtain⟨x,a,rfl⟩:=rx.1 b;exact(h.ok x a).depth
 ·obtain⟨x,a,rfl⟩:=rx.1 b;exact(h.ok x a).hi
 rw[Nf]at c;have:=h.asc j c;simp_all[X5]
def idx_n{α:Type}{g:α->Bool}{l:List α}(h:ix g l=none):ZC g 0 l= -1:=by rw[SO,h]
def idx_s{α:Type}{g:α->Bool}{l:List α}{j:Nat}(h:ix g l=some j):ZC g 0 l=(j:Int):=by rw[SO,h]
abbrev Vt(limit:Int):Int×Int->Bool:=λp=>decide<|p.2<limit
variable{limit:Int}
def Mu(h:ix (Vt limit) c=none):Xp c limit=(⟨0,0⟩,false):=by unfold Xp;rw[h]
def Mt(h:ix (Vt limit) c=some 0)(a:0<R c):Xp c limit=(TZ c[0].1 1,true):=by simp_all[Xp]
theorem Mw(h:ix (Vt limit) c=some (k+1))(a:k+1<R c):Xp c limit=(TZ (c[k+1].1 * ((c[k]' I).2 - c[k+1].2)+((c[k]' I).1 - c[k+1].1) * (limit - c[k+1].2))<|(c[k]' I).2 - c[k+1].2,true):=by
 grind [Xp]
variable{a:Int}
theorem O7{b A B:Int}(d: -A<=a/\a<=A)(c: -B<=b/\b<=B)(e:0<=A): -(A * B)<=a * b/\a * b<=A * B:=by
 have h:a.natAbs<=A.natAbs:=I
 have g:b.natAbs<=B.natAbs:=I
 have f:(a * b).natAbs<=(A * B).natAbs:=by simp_all[Int.natAbs_mul,Nat.mul_le_mul]
 grind [Int.mul_nonneg]
def Gk{g:Int}(b:0<=a)(c:0<g):0<=a.tdiv g/\a.tdiv g<=a:=by
 rw[Int.tdiv_eq_ediv_of_nonneg b];refine⟨Int.ediv_nonneg b I,?_⟩;exact Int.ediv_le_self _ b
def MG{b:Int}(c:0<=a)(d:0<b):0<ON a b:=by
 rw[Rv c I I];exact Bf ((a.tmod b).toNat+1) b (a.tmod b) d (bη b c) I
def JJ(d:Hp c)(y:0<=limit/\limit<=2000)(h:ix (Vt limit) c=some (k+1))(e:k+1<R c):
  let a:=c[k+1];let b:=c[k]' I
  (1<=b.2 - a.2/\b.2 - a.2<=2000)/\(0<=a.1 * (b.2 - a.2)+(b.1 - a.1) * (limit - a.2)/\a.1 * (b.2 - a.2)+(b.1 - a.1) * (limit - a.2)<=1000000000)/\(-100000000<=a.1 * (b.2 - a.2)/\a.1 * (b.2 - a.2)<=100000000)/\(-100000000<=(b.1 - a.1) * (limit - a.2)/\(b.1 - a.1) * (limit - a.2)<=100000000):=by
 intro a b;have s:=d.at_ a<|Zt e;have o:=d.num a<|Zt e;have m:=d.at_ b<|Zt _;have l:=d.num b<|Zt _;have i:a.2<limit:=by
  obtain⟨_,t⟩:=Y8 h;exact pf t
 have j:¬b.2<limit:=by
  have:=NM (Vt limit) c 0 (k+1) h k I b<|Zv I;exact dg this
 have f:b.1<a.1:=d.asc k e;have x:=O7 (a:=a.1) (b:=b.2 - a.2) (A:=10000) (B:=2000) I I C;have g:=O7 (a:=b.1 - a.1) (b:=limit - a.2) (A:=10000) (B:=2000) I I C;have w:(a.1 - b.1) * (limit - a.2)<=(a.1 - b.1) * (b.2 - a.2):=dε I I;have v:0<=b.1 * (b.2 - a.2):=cη I I;have u:(b.1 - a.1) * (limit - a.2)= -((a.1 - b.1) * (limit - a.2)):=by rw[←Int.neg_mul,Int.neg_sub]
 have z:(a.1 - b.1) * (b.2 - a.2)=a.1 * (b.2 - a.2) - b.1 * (b.2 - a.2):=Int.sub_mul ..;refine⟨I,?_,I,I⟩;rw[u]at g⊢;omega
theorem yf(h:ZW [(WS l).2,Z8 (Y5 limit) 2]≠0):Y6 l limit=(Span.zero,ZW [(WS l).2,Z8 (Y5 limit) 2]):=Zn h
def Ju(h:¬ZW [(WS l).2,Z8 (Y5 limit) 2]≠0)(a:((X5 l).getD 0 (0,0)).2<limit):Y6 l limit=(Span.zero,12):=by simp_all[Y6]
def Jv(h:¬ZW [(WS l).2,Z8 (Y5 limit) 2]≠0)(b:¬((X5 l).getD 0 (0,0)).2<limit)(a:(Xp (X5 l) limit).2=false):Y6 l limit=(Span.zero,21):=by simp_all[Y6]
def Dm(h:¬ZW [(WS l).2,Z8 (Y5 limit) 2]≠0)(b:¬((X5 l).getD 0 (0,0)).2<limit)(a:(Xp (X5 l) limit).2=true):Y6 l limit=(⟨(Xp (UF l) limit).1,(Xp (X5 l) limit).1⟩,0):=by simp_all[Y6]
def vY{b:Bool}(h:¬ZW [a,Z8 b 2]≠0):a=0/\b=true:=by
 by_cases c:a=0
 ·subst c;cases b
  ·exact absurd C h
  simp
 simp_all[ZW]
structure KE(f:GB):Prop where
 num:0<=f.num/\f.num<=1000000000
 den:0<=f.den/\f.den<=2000
def nW{n d:Int}(c:0<=n/\n<=1000000000)(hd:1<=d/\d<=2000):KE<|TZ n d:=by
 have e:=MG (a:=n) (b:=d) c.1 I;have g:=Gk c.1 e;have f:=Gk (a:=d) I e;exact⟨⟨g.1,by show n.tdiv _<=_;omega⟩,⟨f.1,by show d.tdiv _<=_;omega⟩⟩
def A7(b:Hp c)(d:0<=limit/\limit<=2000):KE (Xp c limit).1:=by
 cases h:ix (Vt limit) c with
 |none=>rw[Mu h];exact⟨C,C⟩
 |some j=>
  have a:=(Y8 h).1;cases j with
  |zero=>
   rw[Mt h a];have:=b.at_ _<|Zt a;exact nW I C
  |succ k=>
   rw[Mw h a];obtain⟨f,e,_⟩:=JJ b d h a;exact nW e f
theorem vW(l:List ZK)(limit:Int):KE (Y6 l limit).1.lo/\KE (Y6 l limit).1.hi:=by
 have g:KE Span.zero.lo/\KE Span.zero.hi:=⟨⟨C,C⟩,⟨C,C⟩⟩;by_cases h:ZW [(WS l).2,Z8 (Y5 limit) 2]≠0
 ·grind [yf]
 obtain⟨f,e⟩:=vY h;have a:=J5 f;have b:0<=limit/\limit<=2000:=pf e;by_cases d:((X5 l).getD 0 (0,0)).2<limit
 ·simp_all[Ju]
 cases c:(Xp (X5 l) limit).2 with
 |false=>simp_all[Jv]
 |true=>rw[Dm h d c];exact⟨A7 a.lower b,A7 a.upper b⟩
def Bl{b:Int}(i:0<=a/\a<=1000000000000)(h:0<=b/\b<=1000000000000):Ct prog 325 [bv a,bv b]<|bv<|ON a b:=by
 refine cI func325 O<|ro 7 O ?_;refine OK.We [] (λ(x:Int)(y:Int)=>[(0,bv x),(1,bv y)]) (λx y=>(0<=x/\x<=1000000000000)/\(0<=y/\y<=1000000000000)/\ON a b=ON x y) (λx y=>y.toNat) a b ⟨i,h,O⟩ ⟨O,O,Zo⟩ (λ_ _=>O) ?_;rintro x y ⟨f,e,g⟩;refine ro 7 O<|kB O (λd=>?_) λd=>?_
 ·have j:0<=x.tmod y:=bη y f.1;have k:x.tmod y<y:=bδ x I;refine ro 3 O ?_;refine kV (.c (zm O)<|.c (zm O)<|.c (zm O)<|.c (S.rem .none O (zt O) (zt O) d O<|mn _ I)<|.c (za O)<|.c (za O) .nil)<|Ab.D.blk<|Ab.D.lp ⟨y,x.tmod y,⟨e,⟨j,I⟩,?_⟩,I,O,O,Zo⟩;rw[g,Rv f.1 e.1 d]
 refine ro 6 O ?_;refine kc (S.neg .none O (zt O) (mn _ I)<|mn _ I)<|kc (S.max2 .none O (zt O)<|zt O) ?_;refine rr 3 O<|kR O O ?_;have:y=0:=I
 subst this;rw[g,DP];refine YL ?_;split<;>omega
def HW{b:Int}(f:0<=a/\a<=1000000000000)(i:1<=b/\b<=1000000000000):Ct prog 303 [bv a,bv b]<|.agg (TZ a b).cs:=by
 refine cI func303 O λ{_ _}=>?_
 have d:=MG (a:=a) (b:=b) f.1 I;have h:=Gk f.1 d;have g:=Gk (a:=b) I d;refine ro 9 O<|kc (zK (Bl ⟨I,I⟩ ⟨I,I⟩) call325 O) ?_;refine rr 10 O<|kB O (λe=>?_) λe=>?_
 ·exfalso;omega
 refine ro 3 O ?_;refine kV (.c (zm O)<|.c (zm O)<|.c (S.quo .none O (zt O) (zt O) I (mn _ I)<|mn _ I)<|.c (zm O)<|.c (zm O)<|.c (S.quo .none O (zt O) (zt O) I (mn _ I)<|mn _ I)<|.c (zU b8 O O)<|.c (zS OH O O O O O O) .nil)<|Ab.D.code<|OK.ret<|Y3.r1 (zy O O OH O) ?_;rfl
def Bk{a b:Int×Int}(g: -1000000000<=b.1 - a.1/\b.1 - a.1<=1000000000)(f: -1000000000<=b.2 - a.2/\b.2 - a.2<=1000000000)(e: -1000000000<=t - a.1/\t - a.1<=1000000000)(d: -100000000<=a.2 * (b.1 - a.1)/\a.2 * (b.1 - a.1)<=100000000)(c: -100000000<=(b.2 - a.2) * (t - a.1)/\(b.2 - a.2) * (t - a.1)<=100000000):Ct prog 304 [.agg<|GN a,.agg<|GN b,bv t]<|.Yy [bv<|a.2 * (b.1 - a.1)+(b.2 - a.2) * (t - a.1),bv<|b.1 - a.1]:=by
 refine cI func304 O<|Ro 23 O I ?_;refine kc (S.mul .none O (zt O) (zt O) (mn _ I)<|mn _ I) ?_;refine Rr 9 O I ?_;refine kc (S.mul .none O (zt O) (zt O) (mn _ I)<|mn _ I) ?_;refine Rr 6 O I<|kS O O O O ?_;rfl
def yJ(e:R l<=20):Ct prog 269 [.agg [.sl<|l.map ZK.cs]]<|.Yy [.sl<|(UF l).map GN,.sl<|(X5 l).map GN]:=by
 refine cI func269 O<|ro 3 O<|RK.c (S.XG (k:=2) (sz:=2) .none O)<|RK.c (S.XG (k:=3) (sz:=2) .none O)<|rr 7 O<|kc (zk S6 O)<|rr 4 O ?_;refine OK.loop (G:=Nat) [1,2,3] (λi=>[(1,.ptr 1 0),(1001,.box [.sl<|l.map ZK.cs]),(2,.own 2 i),(2002,.arr 2<|((UF l).take i).map GN),(3,.own 3 i),(2003,.arr 2<|((X5 l).take i).map GN),(7,.sl<|l.map ZK.cs),(8,bv<|R l),(9,bv i)]) (λi=>i<=R l) (λi=>R l - i) 0 (Zr _) ⟨O,O,(ZH N),(ZX N),(ZH N),(ZX N),O,O,O,Zo⟩ (λ_=>O) ?_;rintro i hi;refine ro 6 O<|kB O (λd=>?_) λd=>?_
 ·have b:i<R l:=by omega
  refine ro 6 O<|kc (zI S6 O I O) ?_;refine rr 5 O ?_;refine kV (.c (zm O)<|.c (zf fi354_0 O)<|.c (zl YK O O O O)<|.c (zf Sf O)<|.c (zf UT O)<|.c (zl YK O O O O)<|.c (zU j6 O O)<|.c (zM [[_,_]] iZ O O O O)<|.c (zP iZ O O (JS (Ic l) hi) N I<|by simp only[maxLen];omega)<|.c (zm O)<|.c (zf fi354_0 O)<|.c (zl YK O O O O)<|.c (zf Sf O)<|.c (zf TI O)<|.c (zl YK O O O O)<|.c (zU j6 O O)<|.c (zM [[_,_]] iZ O O O O)<|.c (zP iZ O O (JS (Nf l) hi) N I<|by simp only[maxLen];omega)<|.c (za O)<|.c (za O) .nil) ?_;refine Rd 6 O I ?_;refine Ab.D.lp ⟨i+1,I,I,O,O,O,(ZX<|by rw[nV b,ne];rfl),O,(ZX<|by rw[rG b,ne];rfl),O,O,O,Zo⟩
 refine ro 3 O ?_;have a:i=R l:=by omega
 rw[Ep (Ic l) a,Ep (Nf l) a];refine OK.freeze 2 O O O (by rw[Zx,Ic];exact a.symm) ?_;refine OK.freeze 3 O O O (by rw[Zx,Nf];exact a.symm) ?_;refine ro 7 O<|kS O O O O ?_;rfl
def yK{p:Int×Int}:Ct prog 302 [.agg<|GN p,.Yt [bv limit]]<|.bool<|decide<|p.2<limit:=by
 refine cI func302 O<|ro 15 O<|kR O O ?_;rfl
def Bm:Ct prog 301 [.sl<|c.map GN,.fn 302 [.Yt [bv limit]]]<|bv<|ZC (Vt limit) 0 c:=by
 refine cI func301 O<|OK.XF (vi:=c.map GN) (t:=0) O O λqk=>?_;rw[Zx]at qk;unfold maxLen at qk;refine ro 9 O<|kc (zk EW O)<|rr 4 O ?_;refine OK.loop (G:=Nat) [] (λi=>[(0,.sl<|c.map GN),(1,.fn 302 [.Yt [bv limit]]),(7,bv<|R c),(8,bv i)]) (λi=>i<=R c/\ZC (Vt limit) 0 c=ZC (Vt limit) i (c.drop i)) (λi=>R c - i) 0 ⟨Zr _,O⟩ ⟨O,O,O,O,Zo⟩ (λ_=>O) ?_;rintro i ⟨hi,a⟩;refine ro 6 O<|kB O (λe=>?_) λe=>?_
 ·have d:i<R c:=by omega
  refine ro 15 O<|kc (zI EW O I O)<|kc (S.Vj ti378 .none O (zt O) O O)<|kc (S.Tm (yK (p:=c[i]) (limit:=limit)) call302 .none O (zt O) (zc O .nil) O O O)<|kD<|kB O (λb=>?_) λb=>?_
  ·refine ro 6 O<|kR O O ?_;refine YL ?_;rw[a,Y0 _ I];simp_all
  refine Ro 7 O I (Ab.D.lp ⟨i+1,⟨by omega,?_⟩,I,O,O,O,O,Zo⟩);rw[a,Y0 _ I];simp_all
  try (intro hh;omega)
 refine ro 7 O<|kR O O ?_;refine YL ?_;have:i=R c:=by omega
 subst this;rw[a,da];rfl
def Fy(f:Hp c)(m:0<=limit/\limit<=2000):Ct prog 270 [.sl<|c.map GN,bv limit]<|.Yy [.agg (Xp c limit).1.cs,.bool (Xp c limit).2]:=by
 refine cI func270 O<|OK.XF (vi:=c.map GN) (t:=0) O O λqk=>?_;rw[Zx]at qk;unfold maxLen at qk;refine ro 8 O<|OK.Tr [4] [(0,.sl<|c.map GN),(4,.ptr 4 0),(1004,.box [bv 0,bv 0])] 3 O O O O O O ⟨O,O,O,Zo⟩ O<|OK.R3<|jm O<|kc (S.Xd .none O (zt O) O)<|kc (zK (Bm (c:=c) (limit:=limit)) call301 O)<|rr 5 O ?_;rcases hix:ix (Vt limit) c with _|j
 ·rw[idx_n hix];have g:=Mu hix;refine ro 5 O<|kB O (λe=>?_) λe=>?_
  ·refine kr<|kc (zU b8 O O)<|rr 4 O<|kT O O OH O O O ?_;rw[g];try rfl
  exfalso;omega
 rw[idx_s hix];have d:j<R c:=(Y8 hix).1;refine ro 5 O<|kB O (λe=>?_) λe=>?_
 ·exfalso;omega
 refine ro 9 O<|kB O (λl=>?_) λl=>?_
 ·have i:j=0:=I
  subst i;have g:=Mt hix d;have u:=f.at_ _<|Zt d;refine ro 3 O<|kc (S.Zi (n:=0) EW .none O (zt O) (.Zg O) O d O)<|rr 2 O ?_;refine kc (zK (HW (a:=c[0].1) (b:=1) I C) call303 O) ?_;refine rr 4 O<|kT O O OH O O O ?_;rw[g];try rfl
 obtain⟨k,rfl⟩:∃k,j=k+1:=⟨j - 1,I⟩;have g:=Mw hix d;obtain⟨y,x,w,v⟩:=JJ f m hix d;have h:k<R c:=I
 have u:=f.at_ _<|Zt d;have s:=f.at_ _<|Zt h;have o:=f.num _<|Zt d;refine ro 3 O ?_;refine kV (.c (zm O)<|.c (zm O)<|.c (S.Zi (n:=(k+1)) EW .none O (zt O) (zt O) O d O)<|.c (S.field wq .none O (zt O) O)<|.c (zV YK O O)<|.c (zm O)<|.c (zm O)<|.c (S.Zi (n:=(k+1)) EW .none O (zt O) (zt O) O d O)<|.c (S.field wo .none O (zt O) O)<|.c (zV YK O O)<|.c (zU j6 O O)<|.c (zm O)<|.c (zm O)<|.c (S.sub .none O (zt O) (.Zg O) (mn _ I)<|mn _ I)<|.c (S.Zi (n:=k) EW .none O (zt O) (zt O) I h O)<|.c (S.field wq .none O (zt O) O)<|.c (zV YK O O)<|.c (zm O)<|.c (zm O)<|.c (S.sub .none O (zt O) (.Zg O) (mn _ I)<|mn _ I)<|.c (S.Zi (n:=k) EW .none O (zt O) (zt O) I h O)<|.c (S.field wo .none O (zt O) O)<|.c (zV YK O O)<|.c (zU j6 O O)<|.c (zV YK O O)<|.c (zK (Bk (a:=(c[k+1].2,c[k+1].1)) (b:=(c[k].2,c[k].1)) (t:=limit) (by dsimp only;omega) (by dsimp only;omega) (by dsimp only;omega) w v) call304 O)<|.c (zX O O O)<|.c (zX O O O)<|.c (zK (HW (by dsimp only;omega)<|by dsimp only;omega) call303 O)<|.c (zS OH O O O O O O)<|.c (zb O) .nil) ?_;refine Ab.D.code<|kT O O OH O O O ?_;rw[g];try rfl
def yI:Ct prog 225 [.agg [.sl<|l.map ZK.cs],bv limit]<|.Yy [.agg (Y6 l limit).1.cs,bv (Y6 l limit).2]:=by
 refine cI func225 O<|ro 11 O<|kc (zK (Qt (l:=l)) call265 O)<|jm O<|kc (zK SP call268 O)<|kc (zK Xf call267 O) ?_;refine RK.c (zM [[_],[_]] V6 O O O O)<|kc (S.XY (RV (l:=[_,_])) call266 .none O (zc O .nil) (.cons (.p (.own O O) O) .nil) O) ?_;refine rr 9 O<|kB O (λa=>?_) λa=>?_
 ·have f:=yf a;refine kr<|kc (zU lT O O)<|rr 5 O<|kT O O G5 O O O ?_;rw[f];try rfl
 obtain⟨m,k⟩:=vY a;have d:=J5 m;have i:0<=limit/\limit<=2000:=pf k;have j:=d.len;have h:0<R (X5 l):=by rw[Nf];omega
 have e:(X5 l).getD 0 (0,0)=(X5 l)[0]:=TJ h;refine ro 5 O<|kc (zK (yJ j.2) call269 O)<|rr 11 O<|kc (S.Zi (n:=0) EW .none O (zt O) (.Zg O) O h O)<|rr 6 O<|kB O (λb=>?_) λb=>?_
 ·have f:=Ju a (by rw[e];exact b);refine kr<|kc (zU lT O O)<|rr 4 O<|kT O O G5 O O O ?_;rw[f];try rfl
 refine ro 6 O<|kc (zK (Fy d.upper i) call270 O)<|rr 12 O<|kc (S.not .none O<|zt O)<|kD<|OK.cond O O (λg=>?_) λg=>?_
 ·have f:=Jv a (by rw[e];exact b) (by simpa using g);refine kr<|kc (zU lT O O)<|rr 4 O<|kT O O G5 O O O ?_;rw[f];try rfl
 have f:=Dm a (by rw[e];exact b) (by simpa using g);refine ro 6 O<|kc (zK (Fy d.lower i) call270 O)<|rr 12 O<|kc (zU lT O O)<|rr 4 O<|kT O O G5 O O O ?_;rw[f];try rfl
