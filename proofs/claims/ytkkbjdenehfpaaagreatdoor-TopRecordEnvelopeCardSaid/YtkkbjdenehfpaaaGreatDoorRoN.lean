import Derived.Test.YtkkbjdenehfpaaaGreatDoorUcN
set_option linter.all false
set_option maxHeartbeats 4000000
open List renaming length->R
namespace Go.Proofs.Z_
open Go.Ab Tryz
set_option maxRecDepth 9999
def Vp(n:Net)(OR:ba):Option Nat:=ix (λp:Ze=>decide<|p.name=OR) n.ZU
def Z6.head(H:Z6)(x:Entry):Int:=ZW [Z8 (decide<|H.entries<60) 8,Z8 (Vp H.XR x.OR).isSome 6,Z8 (decide<|0<=x.at_/\x.at_<=1000000000000) 2,Z8 (decide<|x.at_>=H.time) 9,Z8 (decide ((R x.text:Int)<=600)) 8,Z8 (x.text.all X6) 3,Z8 (X2 (ZQ 32 x.text).1).isSome 7]
def WQ(k:Nat)(H:Z6)(L:Sv):HE:=match k with
 |0=>(H,0)
 |1=>W_ H L.num L.Yr L.Yb
 |2=>Yl H (ZI L.rest).1 (ZI L.rest).2
 |3=>Sz H
 |4=>YJ H L.num Wi
 |5=>YJ H L.num Tu
 |6=>Tw H L.Yb L.num
 |7=>XZ H L.Yb
 |8=>YJ H L.num WU
 |9=>YJ H L.num<|Xz L.rest
 |10=>XX H L.Yr L.rest
 |11=>YJ H L.num Xe
 |_=>Wo H L.num
def Z6.tail(H:Z6)(x:Entry)(i k:Nat):Int:=ZW [Z8 (decide<|(H.XR.ZU[i]?.map Ze.role).getD 0>=S2.getD k 0) 18,Z8 (Q9 x.text<|kinds.getD k []).2 7]
def Za(H:Z6)(x:Entry):HE:=
 if H.head x≠0 then(H,H.head x)else match Vp H.XR x.OR,X2 (ZQ 32 x.text).1 with
 |some i,some k=>
  if H.tail x i k≠0 then(H,H.tail x i k)else
  let r:=WQ k H (Yn x.text).1
  if r.2≠0 then r else({r.1 with time:=x.at_,entries:=r.1.entries+1},0)
 |_,_=>(H,7)
variable{α:Type}
theorem nF(g:α->Bool)(l:List α):decide (ZC g 0 l>=0)=(ix g l).isSome:=by
 rw[SO];grind
def head_eq(A:HA)(x:Entry):A.plain.head x=ZW [Z8 (decide<|A.entries<60) 8,Z8 (decide<|ZC (λp:Ze=>decide<|p.name=x.OR) 0 A.XR.ZU>=0) 6,Z8 (decide<|0<=x.at_/\x.at_<=1000000000000) 2,Z8 (decide<|x.at_>=A.time) 9,Z8 (decide ((R x.text:Int)<=600)) 8,Z8 (!!(x.text.all X6)) 3,Z8 (X2 (ZQ 32 x.text).1).isSome 7]:=by
 rw[nF,Bool.not_not];rfl
variable{a b:Bool}
def aP{c d e f:Bool}:ZW [Z8 a 8,Z8 b 6,Z8 c 2,Z8 d 9,Z8 e 8,Z8 f 3,Z8 false 7]≠0:=by
 cases a<;>cases b<;>cases c<;>cases d<;>cases e<;>cases f<;>decide
def mS{c d e f g:Bool}(h:ZW [Z8 a 8,Z8 b 6,Z8 c 2,Z8 d 9,Z8 e 8,Z8 f 3,Z8 g 7]=0):a=true/\b=true/\c=true/\d=true/\e=true/\f=true/\g=true:=by
 cases a<;>cases b<;>cases c<;>cases d<;>cases e<;>cases f<;>cases g<;>first|exact absurd h C|simp
def gV(h:ZW [Z8 a 18,Z8 b 7]=0):a=true/\b=true:=by
 cases a<;>cases b<;>first|exact absurd h C|simp
variable{x:Entry}{H:Z6}
def HV(h:H.head x=0):H.entries<60/\(Vp H.XR x.OR).isSome=true/\(0<=x.at_/\x.at_<=1000000000000)/\x.at_>=H.time/\(R x.text:Int)<=600/\x.text.all X6=true/\(X2 (ZQ 32 x.text).1).isSome=true:=by
 obtain⟨g,f,e,d,c,b,a⟩:=mS h;simp_all
def nM(k:Nat):R (kinds.getD k [])<=3/\∀b∈kinds.getD k [],b.toNat<128:=by
 by_cases h:k<13
 ·match k,h with
  |0,_=>decide
  |1,_=>decide
  |2,_=>decide
  |3,_=>decide
  |4,_=>decide
  |5,_=>decide
  |6,_=>decide
  |7,_=>decide
  |8,_=>decide
  |9,_=>decide
  |10,_=>decide
  |11,_=>decide
  |12,_=>decide
 have e:kinds.getD k []=[]:=by
  unfold List.getD;rw[bζ<|by show 13<=k;omega];rfl
 simp_all
theorem l9{c:UInt8}{l:ba}:(ZQ c l).2.1=[]\/∃n,(ZQ c l).2.1=l.drop n:=by
 by_cases h:0<=Lib.indexByte l c
 ·rw[KG h];grind
 rw[Nz h];simp
theorem tc{c:UInt8}{l:ba}:∃n,(ZQ c l).1=l.take n:=by
 by_cases h:0<=Lib.indexByte l c
 ·rw[KG h];grind
 rw[Nz h];exact⟨R l,F⟩
structure Of(t l:ba):Prop where
 len:l.length<=t.length
 sub:∀b∈l,b∈t
theorem Of.nil(t:ba):Of t []:=⟨Zr _,λb h=>by cases h⟩
def Of.refl(t:ba):Of t t:=⟨Zq _,λ_ h=>h⟩
theorem Of.trans{a b c:ba}(h:Of a b)(k:Of b c):Of a c:=⟨di k.len h.len,λx d=>h.sub x<|k.sub x d⟩
def Of.take(t:ba)(n:Nat):Of t<|t.take n:=⟨List.length_take_le' _ _,λ_ h=>eν h⟩
theorem Of.drop(t:ba)(n:Nat):Of t<|t.drop n:=⟨F,λ_ h=>dβ h⟩
theorem Of.rest(c:UInt8)(t:ba):Of t (ZQ c t).2.1:=by
 grind [l9,nil,drop]
theorem Of.first(c:UInt8)(t:ba):Of t (ZQ c t).1:=by
 obtain⟨n,h⟩:=tc (c:=c) (l:=t);simp_all[take]
theorem Of.split(c:UInt8){t w:ba}(h:w∈Z7 c t):Of t w:=by
 have vy:∀(n:Nat)(t:ba),R t<=n->∀w∈Z7 c t,Of t w:=by
  intro n
  induction n with
  |zero=>
   intro t b w hw;have:t=[]:=tz I;subst this;rw[Rn]at hw;split at hw
   ·rename_i a;exact absurd a (by rw[show(ZQ c ([]:ba)).2.2=false from rfl];decide)
   simp_all[refl]
  |succ n d=>
   intro t b w hw;rw[Rn]at hw;split at hw
   ·rename_i a;rw[sf]at hw;rcases hw with rfl|hw
    all_goals grind [first,Of.rest,trans,KG,Nz]
   simp_all[refl]
 exact vy _ t (Zq _) w h
theorem aR{t:ba}{L:List ba}(h:∀w∈L,Of t w)(i:Nat):Of t<|L.getD i []:=by
 unfold List.getD;cases e:L[i]? with
 |none=>exact .nil t
 |some w=>grind
theorem wO(t:ba):Of t (Yn t).1.rest/\Of t (Yn t).1.Yr/\Of t (Yn t).1.Yb:=by
 have a:=Of.rest 32 t;have hs:∀w∈Z7 32 (ZQ 32 t).2.1,Of t w:=λw hw=>a.trans<|.split 32 hw
 have g:=λi=>aR hs i
 have c:=a.trans<|Of.first 32 (ZQ 32 t).2.1;have b:=a.trans<|Of.rest 32 (ZQ 32 t).2.1;grind [Of.nil,Yn]
def Ka(n:Net):Prop:=(0<=n.lo/\n.lo<=10000)/\(0<=n.hi/\n.hi<=10000)
def Tl(k:Nat):Prop:=∀{A:HA}{m:Int},A.Ok m->m+2<=1000->Y_ A.plan=0->Ka A.XR->∀{L:Sv},(R L.rest<=600/\R L.Yr<=600/\R L.Yb<=600/\L.rest.all X6=true)->
 U_ prog (mW k) [] [.raw<|pV A.b,.agg (Q6 k L).cs] [(3000,.res<|Z9 A.mem)] [(3000,.res<|JX A.b (WQ k A.plain L).1<|m+2)] (bv (WQ k A.plain L).2)
variable{k:Nat}
def mG(h:k<13):∀vj w,(callFunc (mW k) vj).run prog w=.ok (.enter (mW k) vj) w:=by
 match k,h with
 |0,_=>exact call168
 |1,_=>exact call169
 |2,_=>exact call170
 |3,_=>exact call171
 |4,_=>exact call172
 |5,_=>exact call173
 |6,_=>exact call174
 |7,_=>exact call175
 |8,_=>exact call176
 |9,_=>exact call177
 |10,_=>exact call178
 |11,_=>exact call179
 |12,_=>exact call180
def eff_0:Tl 0:=λa b _ _ _ _=>(qa a b).WB
def dU:Tl 1:=λa b _ _ _ _=>(uG a b).WB
def dV:Tl 2:=λa c b _ _ d=>ux a c d.1 b
def dW:Tl 3:=λa b _ _ _ _=>(jw a b).WB
def dX:Tl 4:=λa b _ _ _ _=>p9 a b
def eff_5:Tl 5:=λa b _ _ _ _=>jv a b
def dY:Tl 6:=λa b _ _ _ _=>(Ca a b).WB
def eff_7:Tl 7:=λa b _ _ _ _=>(zF a b).WB
def eff_8:Tl 8:=λa b _ _ _ _=>p_ a b
def mC:Tl 11:=λa b _ _ _ _=>uE a b
def mD:Tl 12:=λa b _ _ _ _=>(uA a b).WB
theorem OV{n:Int}{f:Z6->Nat->HE}(a:∀i,(f H i).1.entries=H.entries):(YJ H n f).1.entries=H.entries:=by
 unfold YJ;split
 ·rfl
 rename_i i _;split
 ·exact a i
 grind
theorem mA(k:Nat)(H:Z6)(L:Sv):(WQ k H L).1.entries=H.entries:=by
 have hs:∀r i,(Xz r H i).1.entries=H.entries:=λr i=>by
  unfold Xz;dsimp only
  repeat' split
  all_goals rfl
 have b:∀i,(Wi H i).1.entries=H.entries:=λi=>by unfold Wi;split<;>rfl
 have c:∀i,(Tu H i).1.entries=H.entries:=λi=>by unfold Tu;split<;>rfl
 have a:∀i,(WU H i).1.entries=H.entries:=λi=>by unfold WU;split<;>rfl
 have d:∀i,(Xe H i).1.entries=H.entries:=λi=>by grind [Xe]
 unfold WQ;split
 ·rfl
 ·grind [W_]
 ·unfold Yl;repeat' split
  all_goals rfl
 ·unfold Sz;split<;>rfl
 ·exact OV b
 ·exact OV c
 ·grind [Tw]
 ·grind [XZ]
 ·exact OV a
 all_goals grind [OV,XX,Wo]
theorem AZ(h:H.head x≠0):Za H x=(H,H.head x):=by unfold Za;grind
variable{i:Nat}
def mJ(h:H.head x=0)(hi:Vp H.XR x.OR=some i)(a:X2 (ZQ 32 x.text).1=some k)(b:H.tail x i k≠0):Za H x=(H,H.tail x i k):=by
 simp_all[Za]
def mI(h:H.head x=0)(hi:Vp H.XR x.OR=some i)(a:X2 (ZQ 32 x.text).1=some k)(c:H.tail x i k=0)(b:(WQ k H (Yn x.text).1).2≠0):Za H x=WQ k H (Yn x.text).1:=by
 simp_all[Za]
def mH(h:H.head x=0)(hi:Vp H.XR x.OR=some i)(a:X2 (ZQ 32 x.text).1=some k)(c:H.tail x i k=0)(b:(WQ k H (Yn x.text).1).2=0):Za H x=({(WQ k H (Yn x.text).1).1 with time:=x.at_,entries:=(WQ k H (Yn x.text).1).1.entries+1},0):=by
 simp_all[Za]
variable{p:Ze}
def ze:Ct prog 111 [.agg p.cs,.Yt x.cs]<|.bool<|decide<|p.name=x.OR:=by
 refine cI func111 O<|ro 16 O<|kR O O ?_;rfl
variable{l:List Ze}
def Ev:Ct prog 110 [.sl<|l.map Ze.cs,.fn 111 [.Yt x.cs]]<|bv<|ZC (λp:Ze=>decide<|p.name=x.OR) 0 l:=by
 refine cI func110 O<|OK.XF (vi:=l.map Ze.cs) (t:=0) O O λqk=>?_;rw[Zx]at qk;unfold maxLen at qk;refine ro 9 O<|kc (zk RL O)<|rr 4 O ?_;refine OK.loop (G:=Nat) [] (λi=>[(0,.sl<|l.map Ze.cs),(1,.fn 111 [.Yt x.cs]),(7,bv<|R l),(8,bv i)]) (λi=>i<=R l/\ZC (λp:Ze=>decide<|p.name=x.OR) 0 l=ZC (λp:Ze=>decide<|p.name=x.OR) i (l.drop i)) (λi=>R l - i) 0 ⟨Zr _,O⟩ ⟨O,O,O,O,Zo⟩ (λ_=>O) ?_;rintro i ⟨hi,a⟩;refine ro 6 O<|kB O (λd=>?_) λd=>?_
 ·have c:i<R l:=by omega
  refine ro 15 O<|kc (zI RL O I O)<|kc (S.Vj ti96 .none O (zt O) O O)<|kc (S.Tm (ze (p:=l[i]) (x:=x)) call111 .none O (zt O) (zc O .nil) O O O)<|kD<|kB O (λb=>?_) λb=>?_
  ·refine ro 6 O<|kR O O ?_;refine YL ?_;rw[a,Y0 _ I];simp_all
  refine Ro 7 O I (Ab.D.lp ⟨i+1,⟨by omega,?_⟩,I,O,O,O,O,Zo⟩);rw[a,Y0 _ I];simp_all
 refine ro 7 O<|kR O O ?_;refine YL ?_;have:i=R l:=by omega
 subst this;rw[a,da];rfl
def Au{A:HA}{m:Int}(o:A.Ok m)(D:m+2<=1000)(T:Y_ A.plan=0)(W:Ka A.XR)(G:R x.text<=100000)(hE:∀k,X2 (ZQ 32 x.text).1=some k->Tl k):U_ prog 69 [] [.raw<|pV A.b,.agg x.cs] [(3000,.res<|Z9 A.mem)] [(3000,.res<|JX A.b (Za A.plain x).1<|m+2)]<|.int .i64 (Za A.plain x).2:=by
 refine cH func69 O λv=>?_
 refine ro 7 O<|OK.Tr [] [(0,.raw<|pV A.b),(3000,.res<|Z9 A.mem)] 3 O O O O O O ⟨O,O,Zo⟩ O<|ro 6 O ?_;refine kc (zH CG O<|Z9.Xh (k:=.Y1) O O<|.same _)<|kc (S.Xd .none O (zt O) O)<|kc (zK (Ev (l:=A.XR.ZU) (x:=x)) call110 O) ?_;refine rr 5 O<|kc (S.assign .none O .Nt)<|rr 6 O<|kc (zK (J3 (l:=x.text) (c:=32) G) call90 O)<|rr 10 O ?_;rcases hk:X2 (ZQ 32 x.text).1 with _|k
 ·have d:=head_eq A x;rw[hk]at d;refine OK.R3<|jm O<|kc (zK (p7 hk) call113 O)<|rr 9 O ?_;refine kV (.c (zm O)<|.c (zn O O)<|.c (zr TY O)<|.c (zH YK O<|Z9.Xh (k:=.Y1) O O<|.same _)<|.c (S.lss .none O (zt O)<|.Zg O)<|.c (zK ZT call68 O)<|.c (zm O)<|.c (S.geq .none O (zt O)<|.Zg O)<|.c (zK ZT call68 O)<|.c (S.field Gt .none O (zt O) O)<|.c (zV YK O O)<|.c (zK XL call107 O)<|.c (zK ZT call68 O)<|.c (S.field Gt .none O (zt O) O)<|.c (zV YK O O)<|.c (zm O)<|.c (zn O O)<|.c (zr vU O)<|.c (zH YK O<|Z9.Xh (k:=.Y1) O O<|.same _)<|.c (S.geq .none O (zt O)<|zt O)<|.c (zK ZT call68 O)<|.c (S.field Bp .none O (zt O) O)<|.c (zV T6 O O)<|.c (S.qV underlying9 .none O<|zt O)<|.c (S.leq .none O (zt O)<|.Zg O)<|.c (zK ZT call68 O)<|.c (S.field Bp .none O (zt O) O)<|.c (zV T6 O O)<|.c (zm O)<|.c (zK (RE G) call114 O)<|.c (S.not .none O<|zt O)<|.c (zK ZT call68 O)<|.c (zm O)<|.c (zK ZT call68 O)<|.c (zM [[_],[_],[_],[_],[_],[_],[_]] V6 O O O O)<|.c (S.XY (YI (l:=[_,_,_,_,_,_,_])) call67 .none O (zc O .nil) (.cons (.p (.own O O) O) .nil) O)<|.c (za O) .nil) ?_;refine rd 8 O<|kB O (λe=>?_) λe=>?_
  ·have z:A.plain.head x≠0:=by rw[d];exact e
   have a:=AZ z;refine ro 6 O ?_;have v:=a;refine OK.YS (J':=JX A.b (Za A.plain x).1<|m+2) O (JX.ZV _ _ _) (λh Y w q=>HA.jx o I D (by rw[v]) q) ?_;refine OK.ret ⟨Y3.r1 (zo O O) ?_,O,Zo⟩;rw[a,d];rfl
  exact absurd aP e
 have d:=head_eq A x;rw[hk]at d;have E:k<13:=(Y8 hk).1;refine OK.R3<|jm O<|kc (zK (p8 hk) call113 O)<|rr 9 O ?_;refine kV (.c (zm O)<|.c (zn O O)<|.c (zr TY O)<|.c (zH YK O<|Z9.Xh (k:=.Y1) O O<|.same _)<|.c (S.lss .none O (zt O)<|.Zg O)<|.c (zK ZT call68 O)<|.c (zm O)<|.c (S.geq .none O (zt O)<|.Zg O)<|.c (zK ZT call68 O)<|.c (S.field Gt .none O (zt O) O)<|.c (zV YK O O)<|.c (zK XL call107 O)<|.c (zK ZT call68 O)<|.c (S.field Gt .none O (zt O) O)<|.c (zV YK O O)<|.c (zm O)<|.c (zn O O)<|.c (zr vU O)<|.c (zH YK O<|Z9.Xh (k:=.Y1) O O<|.same _)<|.c (S.geq .none O (zt O)<|zt O)<|.c (zK ZT call68 O)<|.c (S.field Bp .none O (zt O) O)<|.c (zV T6 O O)<|.c (S.qV underlying9 .none O<|zt O)<|.c (S.leq .none O (zt O)<|.Zg O)<|.c (zK ZT call68 O)<|.c (S.field Bp .none O (zt O) O)<|.c (zV T6 O O)<|.c (zm O)<|.c (zK (RE G) call114 O)<|.c (S.not .none O<|zt O)<|.c (zK ZT call68 O)<|.c (zm O)<|.c (zK ZT call68 O)<|.c (zM [[_],[_],[_],[_],[_],[_],[_]] V6 O O O O)<|.c (S.XY (YI (l:=[_,_,_,_,_,_,_])) call67 .none O (zc O .nil) (.cons (.p (.own O O) O) .nil) O)<|.c (za O) .nil) ?_;refine rd 8 O<|kB O (λe=>?_) λe=>?_
 ·have z:A.plain.head x≠0:=by rw[d];exact e
  have a:=AZ z;refine ro 6 O ?_;have v:=a;refine OK.YS (J':=JX A.b (Za A.plain x).1<|m+2) O (JX.ZV _ _ _) (λh Y w q=>HA.jx o I D (by rw[v]) q) ?_;refine OK.ret ⟨Y3.r1 (zo O O) ?_,O,Zo⟩;rw[a,d];rfl
 have h0:A.plain.head x=0:=by rw[d];exact Zu.1 e
 obtain⟨q1,q2,q3,q4,q5,q6,q7⟩:=HV h0;obtain⟨i,hi⟩:=sk.1 q2;have F:i<R A.XR.ZU:=(Y8 hi).1;have V:ZC (λp:Ze=>decide<|p.name=x.OR) 0 A.XR.ZU=(i:Int):=by rw[SO,show ix (λp:Ze=>decide<|p.name=x.OR) A.XR.ZU=some i from hi]
 obtain⟨B,M,L⟩:=wO x.text;have hL:R (Yn x.text).1.rest<=600/\R (Yn x.text).1.Yr<=600/\R (Yn x.text).1.Yb<=600/\(Yn x.text).1.rest.all X6=true:=⟨by have:=B.len;omega,by have:=M.len;omega,by have:=L.len;omega,bj.2 λb hb=>bj.1 q6 b<|B.sub b hb⟩;have y:A.plain.tail x i k=ZW [Z8 (decide<|A.XR.ZU[i].role>=S2.getD k 0) 18,Z8 (Q9 x.text<|kinds.getD k []).2 7]:=by unfold Z6.tail;rw[show A.plain.XR.ZU[i]?=some A.XR.ZU[i]from Zv F];rfl
 refine ro 8 O<|kc (S.Xo (uF (text:=x.text) (ks:=kinds.getD k []) G<|nM k) v call115 .none O (zc O<|zc O .nil) O)<|rr 10 O ?_;refine kV (.c (zm O)<|.c (zn O O)<|.c (zr TK O)<|.c (zr L7 O)<|.c (zr NL O)<|.c (zH CG O<|Z9.Xh (k:=.Y1) O O<|.same _)<|.c (zm O)<|.c (S.Zi (n:=i) RL .none O (zt O) (zt O) V F O)<|.c (S.field rW .none O (zt O) O)<|.c (zV YK O O)<|.c (zf kI O)<|.c (zl YK O O O O)<|.c (S.geq .none O (zt O)<|zt O)<|.c (zK ZT call68 O)<|.c (zm O)<|.c (zK ZT call68 O)<|.c (zM [[_],[_]] V6 O O O O)<|.c (S.XY (YI (l:=[_,_])) call67 .none O (zc O .nil) (.cons (.p (.own O O) O) .nil) O)<|.c (za O) .nil) ?_;refine rd 7 O<|kB O (λf=>?_) λf=>?_
 ·have U:A.plain.tail x i k≠0:=by rw[y];exact f
  have a:=mJ h0 hi hk U;refine ro 6 O ?_;have v:=a;refine OK.YS (J':=JX A.b (Za A.plain x).1<|m+2) O (JX.ZV _ _ _) (λh Y w q=>HA.jx o I D (by rw[v]) q) ?_;refine OK.ret ⟨Y3.r1 (zo O O) ?_,O,Zo⟩;rw[a,y]
 have Z:A.plain.tail x i k=0:=by rw[y];exact Zu.1 f
 obtain⟨_,P⟩:=gV<|Zu.1 f;obtain⟨K,J⟩:=text_eq hk;have N:=J<|K▸P;rw[N];refine ro 9 O ?_;refine RK.c (S.Gs (((hE k hk o D T W hL).Tq v<|Z9.ZV _)) (JX.ZV _ _ _) (mG E) .none O (zt O) (zc O<|zc O .nil) O O O O) ?_;refine rr 9 O<|kB O (λg=>?_) λg=>?_
 ·have a:=mI h0 hi hk Z g;refine ro 6 O ?_;refine OK.YS (J':=JX A.b (Za A.plain x).1<|m+2) O (JX.ZV _ _ _) (λh Y w q=>by rw[a];exact q) ?_;refine OK.ret ⟨Y3.r1 (zo O O) ?_,O,Zo⟩;rw[a]
 have Q:(WQ k A.plain (Yn x.text).1).2=0:=Zu.1 g;have a:=mH h0 hi hk Z Q;refine OK.rV O λr X s t=>?_
 have he1:r.entries=A.entries:=(rn Z6.entries s).trans<|mA k A.plain _;have hen:=t.en;have q1b:A.entries<60:=q1;rw[←X];refine ro 9 O<|kc (S.Yf (xs':=({r with time:=x.at_}:HA).cs) (.Y1) YK .none (zt O) (zt O) O O O O O O O)<|rr 7 O ?_;refine kc (zH (u:=bv r.entries) YK O<|Z9.Xh (k:=.Y1) (HM.YW _ _ _) O<|.same _) ?_;refine Rr 3 O I ?_;refine kc (S.Yf (xs':=({r with time:=x.at_,entries:=r.entries+1}:HA).cs) (.Y1) YK .none (zt O) (zt O) O (HM.YW _ _ _) O O O O O) ?_;refine rr 3 O ?_;rw[HM.set_set];refine OK.nD (A1:={r with time:=x.at_,entries:=r.entries+1}) t O O ⟨O,O⟩ ⟨O,O⟩ ⟨O,O⟩ ⟨O,O⟩ (by dsimp only;omega) λC=>?_
 refine ro 4 O ?_;refine OK.YS (J':=JX r.b (Za A.plain x).1<|m+2) O (JX.ZV _ _ _) (λh Y w q=>Sg C I D O (by rw[a,←s];rfl) q) ?_;refine OK.ret ⟨Y3.r1 (zo O O) ?_,O,Zo⟩;rw[a]
def bH{l:ba}(h:(Ut l).2=true):0<=(Ut l).1/\(Ut l).1<=10000000:=by
 obtain⟨e,d⟩:=Nw l;rw[e]at h;have a:TF l 7=true:=by simp_all[Tt]
 obtain⟨c,b⟩:=XS.1 a;rw[d h,O8 I a];have g:=Sb l 0 c.2.2;have f:10 ^ (R l)<=10 ^ 7:=aφ C b;omega
def G3{t:ba}(h:(Yn t).2=true):0<=(Yn t).1.num/\(Yn t).1.num<=10000000:=by
 revert h;unfold Yn;dsimp only
 repeat' split
 all_goals intro h
 all_goals simp_all[bH]
def Cw(n:Net)(x:Entry):Int:=((n.ZU[(Vp n x.OR).getD 0]?).map Ze.role).getD 0
def GA(n:Net)(s:State)(x:Entry)(last:Int):SE:=
 if Vp n x.OR=none then(s,6)else if¬(0<=x.at_/\x.at_<=1000000000000)then(s,2)else if x.at_<last then(s,9)else if 600<R x.text then(s,8)else if x.text.all X6=false then(s,3)
 else if X2 (ZQ 32 x.text).1=none then(s,7)else if Cw n x<S2.getD ((X2 (ZQ 32 x.text).1).getD 0) 0 then(s,18)else if(Yn x.text).2=false then(s,7)else WY n s (Yn x.text).1
def uh(w:ba)(i:Nat):Int:=match X2 w with
 |some k=>if k<i then S2.getD k 0 else -1
 |none=> -1
def ve:∀k:Nat,k<13->X2 (Z4.getD k [])=some k:=C
theorem rUp_0(w:ba):uh w 0= -1:=by grind [uh]
variable{w:ba}
def eZ(a:k<13)(h:Z4.getD k []=w):uh w (k+1)=S2.getD k 0:=by subst h;unfold uh;rw[ve k a];simp
theorem eY(b:k<13)(h:¬Z4.getD k []=w):uh w (k+1)=uh w k:=by
 unfold uh;cases e:X2 w with
 |none=>rfl
 |some j=>
  have c:j≠k:=λa=>by
   subst a;obtain⟨f,d⟩:=Y8 e;simp_all
  grind
theorem rUp_n(h:uh w 13<0):X2 w=none:=by
 unfold uh at h;cases e:X2 w with
 |none=>rfl
 |some k=>
  have a:k<13:=(Y8 e).1;rw[e]at h;dsimp only at h;rw[Zn a]at h;have:∀k:Nat,k<13->¬S2.getD k 0<0:=C
  grind
theorem rUp_s(h:¬uh w 13<0):∃k,k<13/\X2 w=some k/\uh w 13=S2.getD k 0:=by
 unfold uh at h⊢;grind
def FW{b:UInt8}(h:(b.toNat:Int)<32\/(b.toNat:Int)>126):X6 b=false:=Zy I
def pK{b:UInt8}(c:¬(b.toNat:Int)<32)(a:¬(b.toNat:Int)>126):X6 b=true:=Zz I
variable{j:Nat}
theorem lu{g:α->Bool}{l:List α}(h:j<R l)(a:g l[j]=false):(l.drop j).all g=false:=by grind [List.drop_eq_getElem_cons]
theorem all_on{g:α->Bool}{l:List α}(h:j<R l)(a:g l[j]=true):(l.drop j).all g=(l.drop<|j+1).all g:=by grind [List.drop_eq_getElem_cons]
def Dj{n:Int}:Ct prog 100 [bv n]<|.bool<|decide<|0<=n/\n<=1000000000000:=by
 refine cI func100 O<|ro 8 O<|kc (zK Y4 call98 O)<|rr 3 O<|kR O O ?_;rfl
variable{n:Net}
def AA(K:R n.plan<=1000)(hn:(0<=n.lo/\n.lo<=1000000000)/\(0<=n.hi/\n.hi<=1000000000)/\Y5 n.limit=true){s:State}(hg:s.Good (ZO n.plan).1)(M:s.j3 (ZO n.plan).1){last:Int}(V:R x.text<=100000):Ct prog 65 [.agg n.cs,.agg s.cs,.agg x.cs,bv last]<|.Yy [.agg (GA n s x last).1.cs,bv (GA n s x last).2]:=by
 refine cI func65 O<|ro 14 O<|kc (zK (Ez (s:=n) (n:=x.OR)) call99 O)<|rr 10 O<|kB O (λu=>?_) λu=>?_
 ·have b:GA n s x last=_:=Zn<|P9 u;refine ro 7 O<|kT O O Zk O O O ?_;rw[b];try rfl
 obtain⟨w,hw⟩:=P_ u;have F:=Vs hw;have y:w<R n.ZU:=(Y8 hw).1;have B:Vp n x.OR=some w:=hw;have e0:GA n s x last=_:=Zm (by rw[B];exactλh=>by cases h);refine ro 7 O<|kc (zK (Dj (n:=x.at_)) call100 O)<|kc (S.not .none O<|zt O)<|kD<|OK.cond O O (λr=>?_) λr=>?_
 ·have b:=e0.trans (Zn<|by have h:=r;simp only[zd,ul]at h;exact h);refine ro 7 O<|kT O O Zk O O O ?_;rw[b];try rfl
 have Z:=e0.trans (Zm<|by have h:=r;simp only[Bool.not_eq_false',de]at h;exact Zp h);refine ro 11 O<|kB O (λq=>?_) λq=>?_
 ·have b:=Z.trans<|Zn q;refine ro 7 O<|kT O O Zk O O O ?_;rw[b];try rfl
 have Y:=Z.trans<|Zm q;refine ro 11 O<|kB O (λU=>?_) λU=>?_
 ·have b:=Y.trans<|Zn I;refine ro 7 O<|kT O O Zk O O O ?_;rw[b];try rfl
 have Q:=Y.trans<|Zm I;refine ro 9 O ?_;refine OK.loop (G:=Nat) [4,5,6,8] (λj=>[(4,.ptr 4 0),(1004,.box n.cs),(5,.ptr 5 0),(1005,.box s.cs),(6,.ptr 6 0),(1006,.box x.cs),(8,.ptr 8 0),(1008,.box [.ZM,.ZM,.ZM,.ZM,bv 0,bv 0,.ZM]),(10,bv<|ZC (λp:Ze=>decide<|p.name=x.OR) 0 n.ZU),(11,bv j)]) (λj=>j<=R x.text/\x.text.all X6=(x.text.drop j).all X6) (λj=>R x.text - j) 0 ⟨Zr _,O⟩ ⟨O,O,O,O,O,O,O,O,O,O,Zo⟩ (λ_=>O) ?_;rintro j ⟨hj,E⟩;refine ro 10 O<|kB O (λT=>?_) λT=>?_
 ·have d:j<R x.text:=by omega
  refine ro 9 O<|kc (S.Xc (n:=j) W6 .none O (zt O) (zt O) O d)<|rr 2 O<|RK.ZS (t:=54) O (λg=>?_) λg=>?_
  ·have b:=Q.trans<|Zn<|E.trans<|lu d<|FW<|.inl g;refine rr 16 O<|kT O O Zk O O O ?_;rw[b];try rfl
  refine rr 3 O<|kc (S.Xc (n:=j) W6 (zg O O) O (zt O) (zt O) O d)<|rr 4 O<|kB O (λo=>?_) λo=>?_
  ·have b:=Q.trans<|Zn<|E.trans<|lu d<|FW<|.inr o;refine ro 7 O<|kT O O Zk O O O ?_;rw[b];try rfl
  refine Ro 8 O I (Ab.D.lp ⟨j+1,⟨by omega,by rw[E,all_on d<|pK g o]⟩,I,O,O,O,O,O,O,O,O,O,O,Zo⟩)
 have X:=Q.trans (Zm<|by rw[E,ut I];decide);refine ro 6 O<|kc (zK (Pb (s:=x.text) V) call101 O)<|rr 16 O<|kc (zK Cj call102 O)<|rr 10 O ?_;refine OK.loop (G:=Nat) [4,5,6,8] (λi=>[(4,.ptr 4 0),(1004,.box n.cs),(5,.ptr 5 0),(1005,.box s.cs),(6,.ptr 6 0),(1006,.box x.cs),(8,.ptr 8 0),(1008,.box [.ZM,.ZM,.ZM,.ZM,bv 0,bv 0,.ZM]),(10,bv<|ZC (λp:Ze=>decide<|p.name=x.OR) 0 n.ZU),(12,.str (ZQ 32 x.text).1),(15,bv<|uh (ZQ 32 x.text).1 i),(16,.sl<|Z4.map λv=>[.str v]),(17,bv i)]) (λi=>i<=13) (λi=>13 - i) 0 C ⟨O,O,O,O,O,O,O,O,O,O,(OT (rUp_0 _).symm),O,O,Zo⟩ (λ_=>O) ?_;rintro i hi;refine ro 5 O<|kc (zk X1 O)<|rr 3 O<|kB O (λm=>?_) λm=>?_
 ·have a:i<13:=by have:(i:Int)<R Z4:=m;have N:R Z4=13:=rfl;omega
  refine ro 8 O<|kc (zI X1 O (show i<R Z4 from a) O)<|rr 5 O<|kB O (λf=>?_) λf=>?_
  ·refine OK.R3<|kc (zK Ci call103 O)<|jm O<|kc (zI X9 O (show i<R S2 from a) O)<|Rr 10 O I ?_;refine Ab.D.lp ⟨i+1,I,I,O,O,O,O,O,O,O,O,O,O,(OT<|by first|exact((eZ a<|by rw[Uk (show i<R Z4 from a)];exact f).trans<|Uk (show i<R S2 from a)).symm|exact(eY a<|by rw[Uk (show i<R Z4 from a)];exact f).symm),O,O,Zo⟩
  refine Ro 8 O I ?_;refine Ab.D.lp ⟨i+1,I,I,O,O,O,O,O,O,O,O,O,O,(OT<|by first|exact((eZ a<|by rw[Uk (show i<R Z4 from a)];exact f).trans<|Uk (show i<R S2 from a)).symm|exact(eY a<|by rw[Uk (show i<R Z4 from a)];exact f).symm),O,O,Zo⟩
 obtain rfl:i=13:=by have:¬(i:Int)<R Z4:=m;have N:R Z4=13:=rfl;omega
 refine ro 9 O<|kB O (λl=>?_) λl=>?_
 ·have b:=X.trans<|Zn<|rUp_n l;refine ro 7 O<|kT O O Zk O O O ?_;rw[b];try rfl
 obtain⟨k,hk,z,A⟩:=rUp_s l;have P:=X.trans (Zm<|by rw[z];exactλh=>by cases h);have J:Cw n x=n.ZU[w].role:=by unfold Cw;rw[B];show((n.ZU[w]?).map _).getD 0=_;rw[Zv y];rfl
 rw[z,J]at P;refine ro 8 O<|kc (S.Zi (n:=w) RL .none O (zt O) (zt O) F y O)<|rr 6 O<|kB O (λe=>?_) λe=>?_
 ·have b:=P.trans (Zn<|by rw[A]at e;exact e);refine ro 7 O<|kT O O Zk O O O ?_;rw[b];try rfl
 have W:=P.trans (Zm<|by rw[A]at e;exact e);refine ro 6 O<|kc (zK (C3 (s:=x.text) V) call104 O)<|rr 12 O<|kc (S.not .none O<|zt O)<|kD<|OK.cond O O (λc=>?_) λc=>?_
 ·have b:=W.trans (Zn<|by simpa using c);refine ro 7 O<|kT O O Zk O O O ?_;rw[b];try rfl
 have b:=W.trans (Zm<|by simpa using c);refine ro 7 O ?_;refine kc (zK (zW K hn hg M (L:=(Yn x.text).1) (by have:=(wO x.text).1.len;omega)<|G3<|by simpa using c) call105 O) ?_;refine rr 6 O<|kT O O Zk O O O ?_;rw[b];try rfl
def YF(l:List Ze)(i:Nat)(p:Ze):Int:=ZW [Z8 (YA p.name) 4,Z8 (decide<|¬(p.name∈(l.take i).map Ze.name)) 5,Z8 (decide<|0<=p.role/\p.role<=4) 15]
def UZ(n:Net):Int:=ZW [Z8 (decide ((R n.ZU:Int)>0)) 10,Z8 (decide ((R n.ZU:Int)<=8)) 8]
def UI(n:Net):Bool:=decide (0<=n.limit/\n.limit<=2000)&&(decide (0<=n.lo/\n.lo<=10000)&&decide (0<=n.hi/\n.hi<=10000))
def OL(n:Net):Int:=ZW [(ZO n.plan).2,Z8 (UI n) 2,Z8 (decide<|n.lo<=n.hi) 9]
def size_le(h:UZ n=0):(R n.ZU:Int)<=8:=by
 unfold UZ at h;by_cases a:(R n.ZU:Int)<=8
 ·exact a
 exfalso;rw[Zy a]at h;cases b:decide ((R n.ZU:Int)>0)<;>rw[b]at h<;>exact absurd h C
def U4(n:Net):Int×Int:=if UZ n≠0 then(0,UZ n)else if(ZP (YF n.ZU) 0 n.ZU).2≠0 then ZP (YF n.ZU) 0 n.ZU else(0,OL n)
def Net.zero:Net:=⟨[],[],0,0,0⟩
def M9(n:Net):Net×Zf:=if UZ n≠0\/(ZP (YF n.ZU) 0 n.ZU).2≠0 then(Net.zero,⟨[],0⟩)else(n,(ZO n.plan).1)
theorem Im(h:UZ n≠0):U4 n=(0,UZ n)/\M9 n=(Net.zero,⟨[],0⟩):=by unfold U4 M9;simp_all
theorem D_(h:UZ n=0)(a:(ZP (YF n.ZU) 0 n.ZU).2≠0):U4 n=ZP (YF n.ZU) 0 n.ZU/\M9 n=(Net.zero,⟨[],0⟩):=by unfold U4 M9;simp_all
theorem Ea(h:UZ n=0)(a:(ZP (YF n.ZU) 0 n.ZU).2=0):U4 n=(0,OL n)/\M9 n=(n,(ZO n.plan).1):=by
 unfold U4 M9;simp_all
def J6(h:(U4 n).2=0):M9 n=(n,(ZO n.plan).1)/\(ZO n.plan).2=0:=by
 by_cases c:UZ n=0
 ·by_cases b:(ZP (YF n.ZU) 0 n.ZU).2=0
  ·obtain⟨e,d⟩:=Ea c b;rw[e]at h;refine⟨d,?_⟩;have a:OL n=0:=h;unfold OL at a;rw[ZW]at a;omega
  simp_all[D_]
 simp_all[Im]
theorem Bz(h:(U4 n).2=0):OL n=0:=by
 grind [Ea,D_,Im]
def fY(h:(U4 n).2=0):Ka n:=by
 have b:=Bz h;have c:=(J6 h).2;unfold OL at b;rw[c,ZW,Zm C]at b;cases a:UI n with
 |false=>simp_all[ZW,Z8]
 |true=>
  unfold UI at a;rw[Zw,Zw]at a;exact⟨pf a.2.1,pf a.2.2⟩
theorem Sx{l:ba}(h:(ZO l).2=0):Y_ (ZO l).1=0:=by
 unfold ZO at h⊢;grind
def Ag(h:i<R l):(l.take<|i+1).map Ze.name=(l.take i).map Ze.name++[l[i].name]:=by rw[mv h,ne];rfl
def Z6.init(n:Net)(p:Zf):Z6:=⟨n,p,[],[],[],[],⟨0,0,[]⟩,false,0,0⟩
def HA.init(b:Nat)(n:Net)(p:Zf):HA:=⟨b,n,p,none,[],none,[],none,[],none,[],⟨0,0,[]⟩,false,0,0⟩
def HA.nG(b:Nat)(n:Net)(p:Zf):(HM.set (λ_:Key=>none) .Y1<|some (b,.box (HA.init b n p).cs))=(HA.init b n p).mem:=by
 funext k;cases k with
 |Y1=>rfl
 |v i=>rfl
 |c i=>rfl
 |p i=>rfl
 |f i=>rfl
 |e i=>rfl
 |_=>rfl
def HA.iq(b:Nat)(n:Net)(p:Zf):(HA.init b n p).Ok 0:=
 ⟨λ_=>rfl,λ_=>rfl,λ_=>rfl,λ_=>rfl,(λv h=>by cases h),(λv h=>by cases h),C,(by show(0:Int)<=0/\(0:Int)<=60;decide),Int.le_refl _,Int.le_refl _,Int.le_refl _,Int.le_refl _,(λv h=>by cases h),(λv h=>by cases h),(λv h=>by cases h),(λv h=>by cases h),(λv h=>by cases h),(λv h=>by cases h),(λv h=>by cases h),(λv h=>by cases h),(λv h=>by cases h)⟩
def runT:Z6->Nat->List Entry->Z6×Int×Int
 |H,_,[]=>(H,0,0)
 |H,i,x::l=>if(Za H x).2≠0 then((Za H x).1,(i:Int),(Za H x).2)else runT (Za H x).1 (i+1) l
def L_(n:Net)(l:List Entry):Int:=ZW [(U4 n).2,Z8 (decide ((R l:Int)<=60)) 8]
def Z2(n:Net)(l:List Entry):Z6×Int×Int:=if L_ n l≠0 then(Z6.init n (ZO n.plan).1,0,L_ n l)else runT (Z6.init n (ZO n.plan).1) 0 l
def bB{l:List Entry}(h:L_ n l=0):(U4 n).2=0/\(R l:Int)<=60:=by
 unfold L_ at h;rw[ZW]at h;by_cases b:(U4 n).2=0
 ·rw[Zm I,ZW]at h;refine⟨b,?_⟩;by_cases a:(R l:Int)<=60
  ·exact a
  rw[Zy a]at h;exact absurd h C
 omega
def F9{l:List Entry}(h:i<R l):runT H i (l.drop i)=if(Za H l[i]).2≠0 then((Za H l[i]).1,(i:Int),(Za H l[i]).2)else runT (Za H l[i]).1 (i+1) (l.drop<|i+1):=by
 rw[np h,runT]
theorem UY(H:Z6)(x:Entry):(Za H x).1.plan=H.plan/\(Za H x).1.XR=H.XR:=by
 have a:∀(n:Int)(f:Z6->Nat->HE),(∀i,(f H i).1.plan=H.plan/\(f H i).1.XR=H.XR)->(YJ H n f).1.plan=H.plan/\(YJ H n f).1.XR=H.XR:=λn f b=>by
  unfold YJ;split
  ·simp
  rename_i i _;split
  ·exact b i
  grind
 have c:∀k L,(WQ k H L).1.plan=H.plan/\(WQ k H L).1.XR=H.XR:=by
  intro k L;unfold WQ;split
  ·simp
  ·unfold W_;grind
  ·unfold Yl;repeat' split
   all_goals exact⟨rfl,rfl⟩
  ·unfold Sz;split<;>exact⟨rfl,rfl⟩
  ·exact a _ _ λi=>by unfold Wi;split<;>exact⟨rfl,rfl⟩
  ·exact a _ _ λi=>by unfold Tu;split<;>exact⟨rfl,rfl⟩
  ·unfold Tw;grind
  ·unfold XZ;grind
  ·exact a _ _ λi=>by unfold WU;split<;>exact⟨rfl,rfl⟩
  ·refine a _ _ λi=>?_
   unfold Xz;dsimp only
   repeat' split
   all_goals exact⟨rfl,rfl⟩
  ·unfold XX;grind
  ·exact a _ _ λi=>by unfold Xe;grind
  unfold Wo;grind
 unfold Za;grind
def cE(e:Int)(b:Nat):Value:=if e=0 then pV b else .pointer none
variable{e:Int}
def qA{b:Nat}(h:e≠0):cE e b=.pointer none:=Zm h
def Jm{b:Nat}(h:e=0):cE e b=pV b:=Zn h
def N6(l:List Entry):Prop:=∀x∈l,R x.text<=100000/\∀k,X2 (ZQ 32 x.text).1=some k->Tl k
def Mf(e:Int)(H:Z6)(A:HA):bm:=λh Y w=>e=0->(A.Ok 400/\A.plain=H)/\Z9 A.mem h Y w
def Mf.ZV(e:Int)(H:Z6)(A:HA):Y2<|Mf e H A:=λh o Y w m a l g f d c b=>⟨(a b).1,Z9.ZV A.mem _ _ _ _ _ (a b).2 l g f d c⟩
def Mf.mono{e:Int}{H:Z6}{A:HA}:∀h Y d w,Mf e H A h Y w->(∀b,Y b->d b)->Mf e H A h d w:=λ_ _ _ _ a f c=>⟨(a c).1,(a c).2.mono f⟩
def OK.Ld{E:Env}{U:bc}{s:St}{qf:Code}{Q:bo}{A:HA}(d:e=0)(c:Ab.look s 3000=some (.res<|Mf e H A))(h:A.Ok 400->A.plain=H->OK E qf Q U ((3000,.res<|Z9 A.mem)::s)):OK E qf Q U s:=
 OK.EC (p:=A.Ok 400/\A.plain=H) c (λ_ _ _ a=>(a d).1) λb=>OK.YS c (Z9.ZV _) (λ_ _ _ a=>(a d).2)<|h b.1 b.2
theorem yZ(h:YF l i p=0):p.name∉(l.take i).map Ze.name:=by
 unfold YF at h;intro a;rw[Zy<|Zp a]at h;grind [ZW,Z8]
def lkMap{a b:List ba}(h:a=b):some (X.omap<|QN<|IZ a)=some (X.omap<|QN<|IZ b):=by rw[h]
def Cy{l:List Entry}(h:i<R l)(a:(Za H l[i]).2≠0):runT H i (l.drop i)=((Za H l[i]).1,(i:Int),(Za H l[i]).2):=by rw[F9 h,Zn a]
def xm{l:List Entry}(h:i<R l)(a:(Za H l[i]).2=0):runT H i (l.drop i)=runT (Za H l[i]).1 (i+1) (l.drop<|i+1):=by simp_all[F9]
def Wm(n:Net)(l:List Entry)(num:Int):Int:=if(Z2 n l).2.2≠0 then(Z2 n l).2.2 else J9 num ((Z2 n l).1.U1 num).isSome
def Mg(n:Net)(l:List Entry)(num:Int)(A:HA):Value:=if(Z2 n l).2.2=0 then Iw A.pb (ix (λv=>decide<|v.p.num=num) A.parts)else .pointer none
def F1{n:Int}:Ct prog 109 [bv n]<|.bool<|decide<|0<=n/\n<=10000:=by
 refine cI func109 O<|ro 8 O<|kc (zK XL call107 O)<|rr 3 O<|kR O O ?_;rfl
def sE(A:R n.plan<=1000):Q7 prog 66 [.agg n.cs]<|.Yy [.agg<|(M9 n).1.cs++(M9 n).2.cs,bv (U4 n).1,bv (U4 n).2]:=by
 refine cT func66 O λy=>?_
 refine ro 10 O ?_;refine kV (.c (zf NL O)<|.c (zl CG O O O O)<|.c (zk RL O)<|.c (S.gtr .none O (zt O)<|.Zg O)<|.c (zK ZT call68 O)<|.c (zf NL O)<|.c (zl CG O O O O)<|.c (zk RL O)<|.c (S.leq .none O (zt O)<|.Zg O)<|.c (zK ZT call68 O)<|.c (zM [[_],[_]] V6 O O O O)<|.c (S.XY (YI (l:=[_,_])) call67 .none O (zc O .nil) (.cons (.p (.own O O) O) .nil) O)<|.c (za O) .nil) ?_;refine rd 7 O<|kB O (λq=>?_) λq=>?_
 ·have r:UZ n≠0:=q;obtain⟨g,m⟩:=Im r;refine kr<|kc (zU sD O O)<|rr 6 O<|OK.ret<|Y3.r3 (.XU O O O O KA O<|.k .ZM<|.k (.same O)<|.k (.same O)<|.k (.same O)<|.k (.same O)<|.k .ZM<|.k (.same O) .z) (zo O O) (zo O O) ?_;rw[g,m];rfl
 have r:UZ n=0:=Zu.1 q;have x:=size_le r;refine ro 4 O<|RK.c (S.Bu (k:=30) O .none O)<|rr 8 O<|kc (zk RL O)<|rr 4 O ?_;refine OK.loop (G:=Nat) [1,2,30] (λi=>[(1,.ptr 1 0),(1001,.box n.cs),(2,.ptr 2 0),(1002,.box [.ZM,.str [],bv 0,bv 0,bv 0,.ZM,bv 0]),(6,.QS 30),(1030,.omap<|QN<|IZ<|(n.ZU.take i).map Ze.name),(32,.sl<|n.ZU.map Ze.cs),(33,bv<|R n.ZU),(34,bv i)]) (λi=>i<=R n.ZU/\ZP (YF n.ZU) 0 n.ZU=ZP (YF n.ZU) i (n.ZU.drop i)) (λi=>R n.ZU - i) 0 ⟨Zr _,O⟩ ⟨O,O,O,O,O,O,O,O,O,Zo⟩ (λ_=>O) ?_;rintro i ⟨hi,v⟩;refine ro 6 O<|kB O (λw=>?_) λw=>?_
 ·have h:i<R n.ZU:=by omega
  refine ro 7 O<|kc (zI RL O I O) ?_;refine rr 7 O ?_;refine kV (.c (zf CJ O)<|.c (zl T6 O O O O)<|.c (zK QX call106 O)<|.c (zK ZT call68 O)<|.c (zm O)<|.c (zf CJ O)<|.c (zl T6 O O O O)<|.c (S.iD (ks:=(n.ZU.take i).map Ze.name) underlying213 underlying9 zeroValue4 O .none O (zt O) (zt O) O O)<|.c (S.Xb .none O<|zt O)<|.c (zK ZT call68 O)<|.c (zf rW O)<|.c (zl YK O O O O)<|.c (zK XL call107 O)<|.c (zK ZT call68 O)<|.c (zM [[_],[_],[_]] V6 O O O O)<|.c (S.XY (YI (l:=[_,_,_])) call67 .none O (zc O .nil) (.cons (.p (.own O O) O) .nil) O)<|.c (za O) .nil) ?_;refine rd 8 O<|kB O (λo=>?_) λo=>?_
  ·have d:YF n.ZU i n.ZU[i]≠0:=o;have f:ZP (YF n.ZU) 0 n.ZU=((i:Int),YF n.ZU i n.ZU[i]):=by rw[v,Zd _ h,Zn d]
   obtain⟨g,m⟩:=D_ r (by rw[f];exact d);rw[f]at g;refine kr<|kc (zU sD O O)<|rr 7 O<|OK.ret<|Y3.r3 (.XU O O O O KA O<|.k .ZM<|.k (.same O)<|.k (.same O)<|.k (.same O)<|.k (.same O)<|.k .ZM<|.k (.same O) .z) (zo O O) (zo O O) ?_;rw[g,m];rfl
  have d:YF n.ZU i n.ZU[i]=0:=Zu.1 o;have s:n.ZU[i].name∉(n.ZU.take i).map Ze.name:=yZ d;refine ro 6 O<|kc (S.jK (ks:=(n.ZU.take i).map Ze.name) underlying213 underlying9 .none (zt O) (zt O) .Wx O O s)<|Rr 7 O I ?_;refine Ab.D.lp ⟨i+1,⟨by omega,by rw[v,Zd _ h,Zm<|by rw[d];decide]⟩,I,O,O,O,O,O,(lkMap<|by rw[Ag h]),O,O,O,Zo⟩
 refine ro 3 O ?_;have u:i=R n.ZU:=by omega
 have f:(ZP (YF n.ZU) 0 n.ZU).2=0:=by rw[v,u,da];rfl
 obtain⟨g,m⟩:=Ea r f;refine ro 3 O<|kc (S.Xo (GH (l:=n.plan) I) y call108 .none O (zc O .nil) O) ?_;refine rr 10 O<|kc (S.assign .none O .Nt)<|rr 6 O<|kc (zK XL call107 O)<|jm O<|RK.ZS (t:=73) O (λa=>?_) λa=>?_
 ·refine rr 4 O<|kc (S.Tm F1 call109 (zg O O) O (zt O) (zc O .nil) O O O)<|rr 2 O<|RK.ZS (t:=80) O (λb=>?_) λb=>?_
  ·refine rr 4 O<|kc (S.Tm F1 call109 (zg O O) O (zt O) (zc O .nil) O O O)<|rr 5 O ?_;refine kV (.c (zL Pn O O O O)<|.c (zL Nb O O O O)<|.c (zU sD O O)<|.c (zm O)<|.c (zm O)<|.c (zK ZT call68 O)<|.c (zf SJ O)<|.c (zf UT O)<|.c (zl YK O O O O)<|.c (zf SJ O)<|.c (zf TI O)<|.c (zl YK O O O O)<|.c (S.leq .none O (zt O)<|zt O)<|.c (zK ZT call68 O)<|.c (zM [[_],[_],[_]] V6 O O O O)<|.c (S.XY (YI (l:=[_,_,_])) call67 .none O (zc O .nil) (.cons (.p (.own O O) O) .nil) O)<|.c (zS KA O O O O O O)<|.c (zi O O)<|.c (za O) .nil)<|Ab.D.code<|OK.ret<|Y3.r3 (zy O O KA O) (zo O O) (zo O O) ?_;rw[g,m];refine rn (λe=>X.Yy [.agg<|n.cs++(ZO n.plan).1.cs,bv 0,bv e]) ?_;unfold OL UI
   first|(rw[Zz a,Zz b,tn,tn];done)|(rw[Zz a,Zy b,tn,tp];done)|(rw[Zy a,tp];done)
  refine rr 10 O ?_;refine kV (.c (zL Pn O O O O)<|.c (zL Nb O O O O)<|.c (zU sD O O)<|.c (zm O)<|.c (zm O)<|.c (zK ZT call68 O)<|.c (zf SJ O)<|.c (zf UT O)<|.c (zl YK O O O O)<|.c (zf SJ O)<|.c (zf TI O)<|.c (zl YK O O O O)<|.c (S.leq .none O (zt O)<|zt O)<|.c (zK ZT call68 O)<|.c (zM [[_],[_],[_]] V6 O O O O)<|.c (S.XY (YI (l:=[_,_,_])) call67 .none O (zc O .nil) (.cons (.p (.own O O) O) .nil) O)<|.c (zS KA O O O O O O)<|.c (zi O O)<|.c (za O) .nil)<|Ab.D.code<|OK.ret<|Y3.r3 (zy O O KA O) (zo O O) (zo O O) ?_;rw[g,m];refine rn (λe=>X.Yy [.agg<|n.cs++(ZO n.plan).1.cs,bv 0,bv e]) ?_;unfold OL UI
  first|(rw[Zz a,Zz b,tn,tn];done)|(rw[Zz a,Zy b,tn,tp];done)|(rw[Zy a,tp];done)
 refine rr 17 O ?_;refine kV (.c (zL Pn O O O O)<|.c (zL Nb O O O O)<|.c (zU sD O O)<|.c (zm O)<|.c (zm O)<|.c (zK ZT call68 O)<|.c (zf SJ O)<|.c (zf UT O)<|.c (zl YK O O O O)<|.c (zf SJ O)<|.c (zf TI O)<|.c (zl YK O O O O)<|.c (S.leq .none O (zt O)<|zt O)<|.c (zK ZT call68 O)<|.c (zM [[_],[_],[_]] V6 O O O O)<|.c (S.XY (YI (l:=[_,_,_])) call67 .none O (zc O .nil) (.cons (.p (.own O O) O) .nil) O)<|.c (zS KA O O O O O O)<|.c (zi O O)<|.c (za O) .nil)<|Ab.D.code<|OK.ret<|Y3.r3 (zy O O KA O) (zo O O) (zo O O) ?_;rw[g,m];refine rn (λe=>X.Yy [.agg<|n.cs++(ZO n.plan).1.cs,bv 0,bv e]) ?_;unfold OL UI
 first|(rw[Zz a,Zz b,tn,tn];done)|(rw[Zz a,Zy b,tn,tp];done)|(rw[Zy a,tp];done)
def R2{l:List Entry}(V:R n.plan<=1000)(U:N6 l):C0 prog 35 [.agg n.cs,.sl<|l.map Entry.cs] (λA:HA=>.Yy [.raw<|cE (Z2 n l).2.2 A.b,bv (Z2 n l).2.1,bv (Z2 n l).2.2]) (λA:HA=>Mf (Z2 n l).2.2 (Z2 n l).1 A):=by
 refine C0.intro (rs:=[.tmp 4,.tmp 5,.tmp 6]) func35 rfl ntmps35 results35 rfl rfl rfl λw h a=>?_
 refine OK.OC Key<|OK.XF (vi:=l.map Entry.cs) (t:=1) O O λqk=>?_;rw[Zx]at qk;unfold maxLen at qk;have K:L_ n l≠0->Z2 n l=(Z6.init n (ZO n.plan).1,0,L_ n l):=λh=>by unfold Z2;rw[Zn h]
 have J:L_ n l=0->Z2 n l=runT (Z6.init n (ZO n.plan).1) 0 l:=λh=>by unfold Z2;rw[Zm<|by rw[h];decide]
 refine ro 3 O<|kc (S.assign .none O .Re)<|rr 7 O<|kc (S.Xo (sE I) a call66 .none O (zc O .nil) O) ?_;refine rr 15 O<|kc (zk Vy O)<|kc (S.leq .none O (zt O)<|.Zg O)<|kc (zK ZT call68 O) ?_;refine RK.c (zM [[_],[_]] V6 O O O O)<|kc (S.XY (YI (l:=[_,_])) call67 .none O (zc O .nil) (.cons (.p (.own O O) O) .nil) O) ?_;refine rr 9 O<|kB O (λf=>?_) λf=>?_
 ·have g:L_ n l≠0:=f;have a:=K g;refine ro 3 O<|kc (S.assign .none O .Re)<|rr 4 O ?_;refine OK.YS (J':=Mf (Z2 n l).2.2 (Z2 n l).1<|HA.init 0 n (ZO n.plan).1) O (Mf.ZV _ _ _) (λh Y w r x=>absurd x<|by rw[a];exact g) ?_;refine OK.ret ⟨(HA.init 0 n (ZO n.plan).1),Y3.r3 (zo O O) (zo O O) (zo O O) ?_,O⟩;rw[a];dsimp only;rw[qA g]
  try rfl
 have g:L_ n l=0:=Zu.1 f;have T:=J g;obtain⟨u,v⟩:=bB g;obtain⟨Q,L⟩:=J6 u;rw[Q];refine ro 5 O<|kc (zU bu155 O O)<|RK.c (S.j8 (k:=32) O .none O (zt O) O)<|rr 5 O<|OK.hboxC 10 .Y1 (qs:=(HA.init 0 n (ZO n.plan).1).cs) O O O ⟨.inl ⟨O,O⟩,.inl ⟨O,O⟩,.inl ⟨O,O⟩,.inl ⟨O,O⟩,.inl ⟨O,O⟩,.inl ⟨O,O⟩,.inl ⟨O,O⟩,.inl ⟨O,O⟩,.inl ⟨O,O⟩,.inl ⟨O,O⟩,.inl ⟨O,O⟩,.inl ⟨O,O⟩,.inl ⟨O,O⟩,.inr ⟨O,O⟩,.inl ⟨O,O⟩,.inl ⟨O,O⟩,.inl ⟨O,O⟩,Zo⟩ O λb=>?_;refine OK.YS (J':=JX b (Z6.init n (ZO n.plan).1)<|2 * ((0:Nat):Int)) O (JX.ZV _ _ _) (λh Y w r=>⟨HA.init b n (ZO n.plan).1,⟨O,O,HA.iq _ _ _⟩,by rw[←HA.nG];exact r⟩) ?_;refine OK.R3<|jm O<|kc (zk Vy O)<|rr 4 O ?_;refine OK.We [] (λ(i:Nat)(H:Z6)=>[(10,.raw<|pV b),(33,.sl<|l.map Entry.cs),(34,bv<|R l),(35,bv i),(3000,.res<|JX b H<|2 * (i:Int))]) (λi H=>i<=R l/\Z2 n l=runT H i (l.drop i)/\Y_ H.plan=0/\Ka H.XR) (λi H=>R l - i) 0 ((Z6.init n (ZO n.plan).1)) ⟨Zr _,T,Sx L,fY u⟩ ⟨O,O,O,O,O,Zo⟩ (λ_ _=>O) ?_;rintro i H ⟨hi,E,o,s⟩;refine ro 6 O<|kB O (λM=>?_) λM=>?_
 ·have e:i<R l:=by omega
  obtain⟨z,y⟩:=U _<|Zt e;refine ro 7 O<|kc (zI Vy O I O) ?_;refine rr 7 O<|OK.rV O λA P B C=>?_;subst P;subst B;refine ro 3 O ?_;refine RK.c (S.VO (((Au C I o s z y).Tq a<|Z9.ZV _)) (JX.ZV _ _ _) call69 .none O (zc O<|zc O .nil) O O) ?_;refine rr 9 O<|kB O (λd=>?_) λd=>?_
  ·have a:=E.trans<|Cy e d;refine ro 4 O<|kc (S.assign .none O .Re)<|rr 4 O ?_;refine OK.YS (J':=Mf (Z2 n l).2.2 (Z2 n l).1<|HA.init 0 n (ZO n.plan).1) O (Mf.ZV _ _ _) (λh Y w r x=>absurd x<|by rw[a];exact d) ?_;refine OK.ret ⟨(HA.init 0 n (ZO n.plan).1),Y3.r3 (zo O O) (zo O O) (zo O O) ?_,O⟩;rw[a];dsimp only;rw[qA d]
   try rfl
  have F:=Zu.1 d;refine Ro 7 O I ?_;refine Ab.D.lp ⟨i+1,(Za A.plain l[i]).1,⟨by omega,by rw[E,xm e F],by rw[(UY _ _).1];exact o,by rw[(UY _ _).2];exact s⟩,I,O,O,O,O,(OB<|by rw[show 2 * ((i+1:Nat):Int)=2 * (i:Int)+2 by omega]),Zo⟩
 have a:Z2 n l=(H,0,0):=by rw[E,show i=R l by omega,da];rfl
 refine ro 10 O<|OK.rV O λN G m q=>?_;subst G;refine OK.YS (J':=Mf (Z2 n l).2.2 (Z2 n l).1 N) O (Mf.ZV _ _ _) (λh Y w r x=>⟨⟨q.more I I,by rw[a];exact m⟩,r⟩) ?_;refine OK.ret ⟨N,Y3.r3 (zo O O) (zo O O) (zo O O) ?_,O⟩;rw[a];dsimp only;rw[Jm rfl]
 try rfl
def CZ{l:List Entry}{num:Int}(g:R n.plan<=1000)(r:N6 l):C0 prog 37 [.agg n.cs,.sl<|l.map Entry.cs,bv num] (λA:HA=>.Yy [.raw<|Mg n l num A,bv<|Wm n l num]) (λA:HA=>Mf (Z2 n l).2.2 (Z2 n l).1 A):=by
 refine C0.intro (rs:=[.tmp 6,.tmp 7]) func37 rfl ntmps37 results37 rfl rfl rfl λw h o=>?_
 refine ro 3 O<|kc (S.assign .none O .Re)<|rr 7 O ?_;refine RK.Ng (((R2 g r).at o)) (λ_=>Mf.ZV _ _ _) (λ_=>Mf.mono) call35 O (zc O<|zc O .nil) O λA=>?_
 refine rr 16 O<|kB O (λb=>?_) λb=>?_
 ·refine ro 3 O<|kc (S.assign .none O .Re)<|rr 3 O<|OK.ret ⟨A,Y3.r2 (zo O O) (zo O O) ?_,O⟩;unfold Mg Wm;dsimp only;rw[Zm b,Zn b]
  try rfl
 have a:(Z2 n l).2.2=0:=Zu.1 b;refine ro 3 O<|OK.Ld a O λd c=>?_;rw[Jm a];have e:A.plain.U1 num=ix (λv=>decide<|v.p.num=num) A.parts:=HA.TR A num;refine ro 3 O<|kc (S.Wc ((λJ f q=>(B8 d f q).Tq f)) call70 .none O (zc O<|zc O .nil) O O) ?_;refine rr 6 O ?_;refine OK.YS (J':=Mf (Z2 n l).2.2 (Z2 n l).1 A) O (Mf.ZV _ _ _) (λh Y w m s=>⟨⟨d,c⟩,m⟩) ?_;refine OK.ret ⟨A,Y3.r2 (zo O O) (zo O O) ?_,O⟩;unfold Mg Wm;dsimp only;rw[Zn a,Zm (by rw[a];decide),←c,e]
 try rfl
theorem NA:∀(n:Nat)(l:bc),l.Nodup->(∀x∈l,x<n)->R l<=n
 |0,l,_,h=>by
  cases l with
  |nil=>simp
  |cons x l=>exact absurd (h x rv)<|bπ _
 |n+1,l,hn,h=>by
  have b:=NA n (l.erase n) (hn.erase n) λx a=>by
   grind
  grind
def EY{pl:Zf}{l:List Frame}(m:Y_ pl=0)(h:Hj pl l):R l<=12:=by
 have g:=X_ m;have q:=NA 12 (l.map λf=>f.tick.toNat) (by
  rw[List.nodup_iff_pairwise_ne,List.pairwise_map,aπ];intro i j hi c o e;have a:=(VM<|h.1 _<|Zt hi).1;have b:=(VM<|h.1 _<|Zt c).1;exact absurd (h.2 i j _ _ (Zv hi) (Zv c) I) I) λx d=>by
  obtain⟨f,p,rfl⟩:=rx.1 d;have a:=(VM<|h.1 f p).1;omega
 simp_all
theorem jV{t n:Int}(h:0<=t)(a:2 * t<n):XI t n=0:=Zn ⟨h,by
 grind⟩
def tP{r:ZG}(h:r.rows.all (λx=>x.known)=true):R (P7 r)=0:=by
 have vy:∀(l:List Row)(k:Nat),(l.all λx=>x.known)=true->Vf k l=[]:=by
  intro l
  induction l with
  |nil=>intro k _;rfl
  |cons x l a=>
   simp_all[Vf]
 simp_all[P7]
def OD{l:bd}(h:e≠0):ZW (e::l)=e:=by rw[ZW,Zn h]
theorem N8(l:bd):ZW (0::l)=ZW l:=by rfl
def UB(e:Int)(l:bd):ZW (Z8 true e::l)=ZW l:=N8 l
theorem Rf(h:e≠0)(l:bd):ZW (Z8 false e::l)=e:=OD h
theorem tY(H:Z6)(i j:Nat):((H.Yz i).p j).num=(H.p j).num:=by
 grind [Z6.p,Z6.Yz]
theorem yP(H:Z6)(i:Nat):(H.Yz i).st=H.st.Yz i:=by
 show State.mk _ _ _ _ _=State.mk _ _ _ _ _;congr 1
 ·show(H.parts.map _).map _=(H.parts.map _).map _;rw[fw,fw];refine aβ λq _=>?_
  simp only[Function.comp,Uq];grind
 exact aβ λj _=>tY H i j
structure HS(H:Z6):Prop where
 inv:rZ H
 nd:H.Z3.Nodup
 EV:kY H
 pl:Y_ H.plan=0
 fr:∀q∈H.parts,Hj H.plan q.1.frames
 ju:∀q∈H.parts,q.1.place=0->q.1.WD=false
 wh:∀i∈H.Z3,(H.p i).place≠0/\WX H.plan (H.p i)=true
 nB:H.YX=decide (0<H.env.rows.length)
 env:0<H.env.rows.length->(Ve H.plan H.env).2=0
 rc:∀q∈H.ZF,sj 6 q.1.phases
 lf:∀q∈H.Z5,q.1.Wb<=1000
theorem Qp{q:Part×bd}(h:H.parts[i]?=some q):H.p i=q.1:=by simp_all[Z6.p]
theorem HS.good(h:HS H):H.st.Good H.plan:=by
 have m:=h.inv.lc;have l:=h.inv.lp;have g:=h.inv.lv;refine⟨⟨?_,?_,?_,?_,?_,λi hi=>?_,λp b=>?_,λr d=>?_,λc s=>?_⟩,λp b=>?_,λp b h0=>?_,h.env,h.pl⟩
 ·show(R<|H.ZF.map _)<=_;grind
 ·show(R<|H.Z5.map _)<=_;simp_all
 ·show(R<|H.parts.map _)<=_;grind
 ·show(R<|H.Z3.map _)<=_;rw[Zx];have:=NA _ _ h.nd h.inv.Z3;omega
 ·show R H.env.rows<=_;by_cases e:0<R H.env.rows
  ·have:=(Nk<|h.env e).2.2.1;have:=X_ h.pl;omega
  omega
 ·have hi:i<R H.env.rows:=hi;have:=((Nk<|h.env I).2.2.2 i hi).1;have:=X_ h.pl;show R H.env.rows[i]<=_;omega
 ·obtain⟨q,a,rfl⟩:=rx.1 b;refine⟨by have:=EY h.pl<|h.fr q a;omega,λf o=>?_⟩;have:=(VM<|(h.fr q a).1 f o).2;have:=X_ h.pl;omega
 ·obtain⟨q,a,rfl⟩:=rx.1 d;exact h.rc q a
 ·obtain⟨q,a,rfl⟩:=rx.1 s;have:=h.inv.ZA q a;have:=h.lf q a;omega
 ·obtain⟨q,a,rfl⟩:=rx.1 b;exact⟨h.fr q a,by have:=EY h.pl<|h.fr q a;omega⟩
 obtain⟨q,a,rfl⟩:=rx.1 b;exact h.ju q a h0
theorem HS.U1(h:HS H)(hi:i<R H.parts):H.st.U1 (H.p i).num=some i:=by
 rw[C6];cases e:H.U1 (H.p i).num with
 |none=>
  have:=(T9 _ _ 0).1 e _<|Zt hi;rw[Qp<|Zv hi]at this;simp_all
 |some j=>
  obtain⟨a,c⟩:=Y8 e;have b:(H.p j).num=(H.p i).num:=by rw[Qp<|Zv a];simp_all
  rw[h.EV j i a hi b]
def HS.mods(h:HS H):H.st.j3 H.plan:=λm a=>by
 obtain⟨i,hi,rfl⟩:=rx.1 a;exact⟨i,h.U1<|h.inv.Z3 i hi,by rw[Uq];exact(h.wh i hi).2⟩
theorem uM(hi:rZ H)(qe vk:ba):((XX H qe vk).1.st,(XX H qe vk).2)=Ex H.st qe vk:=by
 unfold XX Ex;dsimp only;have e:R H.st.ZJ=R H.ZF:=Zx ..;rw[e,←vu hi.YD];cases f:YA qe
 ·simp
 simp only[Bool.true_eq_false,if_false];have a:=hi.lv;by_cases d:(VJ vk).2=0
 ·rw[d,N8,Zm (c:=(0:Int)≠0) λh=>h rfl];by_cases b:R H.ZF=6
  ·simp_all[Rf]
  rw[Zz I,UB,Zm (c:=ZW []≠0) λh=>h rfl,Zm b];refine rn (λq=>(q,(0:Int))) ?_;show State.mk ((H.ZF++[_]).map _) _ _ _ _=State.mk _ _ _ _ _;rw[ne];congr 1;congr 1;grind
 simp_all[OD]
def HS.XE(h:HS H):H.st.XE H.plan=H.XE:=by
 show(H.Z3.map λi=>(H.p i).num).map _=H.Z3.map _;rw[fw];refine aβ λi hi=>?_
 have h0:=h.inv.Z3 i hi;show V1 H.plan (H.st.R1 (H.p i).num).frames=WG H.plan (H.p i).frames;unfold State.R1;rw[h.U1 h0,Option.getD_some,Uq];have b:=Qp<|Zv h0;have a:=h.fr _<|Zt h0;rw[b];exact(NB<|Hj.rec h.pl a<|by have:=EY h.pl a;omega).symm
def HS.qb(h:HS H)(h0:R H.XE≠0):Wu H.plan H.XE=0:=by
 have g:R H.XE=R H.Z3:=Zx ..;have f:=NA _ _ h.nd h.inv.Z3;have d:=h.inv.lp;unfold Wu;rw[Zm h0,Zm I];refine Lt _ _ 0 λk l=>?_
 have a:k<R H.Z3:=I
 have e:H.XE[k]=WG H.plan (H.p H.Z3[k]).frames:=bκ ..;have hi:=h.inv.Z3 _<|Zt a;have c:=Qp<|Zv hi;have b:=h.fr _<|Zt hi;have hw:=(h.wh _<|Zt a).2;rw[e];unfold WX at hw;rw[c]at hw⊢;rw[NB<|Hj.rec h.pl b<|by have:=EY h.pl b;omega]at hw⊢;unfold TT;rw[Zm (by rw[(Nr h.pl b.1).1];decide),Zn<|tP hw]
theorem nP(h:HS H){n:Int}(f:0<=n):((Wo H n).1.st,(Wo H n).2)=yM H.plan H.st n:=by
 unfold Wo yM;rw[h.XE];have o:Wr H.plan H.XE n=if Wu H.plan H.XE≠0 then Wu H.plan H.XE else XI n (R H.XE):=by
  unfold Wr Vo;rw[Zm (c:=Y_ H.plan≠0) λe=>e h.pl]
 by_cases h0:R H.XE=0
 ·simp_all[Wu]
 rw[Zm h0];have m:=h.qb h0;have b:Wr H.plan H.XE n=XI n (R H.XE):=I
 by_cases a:XI n (R H.XE)=0
 ·have l:=Pk I a;rw[b,a,Zn rfl,Zm I];refine rn (λq=>(q,(0:Int))) ?_;show State.mk _ _ _ _ _=State.mk _ _ _ _ _;congr 1;exact Zn<|b.trans a
 have d:=xK a;rw[b,d,Zm C];by_cases g:2 * n>=R H.XE
 all_goals simp_all[jV]
theorem jJ(H:Z6)(e:H.XR=n)(vk:ba)(i:Nat):((Xz vk H i).1.st,(Xz vk H i).2)=Qx n vk H.st i:=by
 subst e;unfold Xz Qx;rw[Uq];by_cases c:(H.p i).place≠1
 ·simp_all
 rw[Zm c,Zm c];by_cases b:(Y9 vk).2≠0
 ·simp_all
 rw[Zm b,Zm b];dsimp only;by_cases a:(Y6 (Y9 vk).1 H.XR.limit).2≠0
 ·simp_all
 rw[Zm a,Zm a];refine rn (λq=>(q,(0:Int))) ?_;have d:H.outside (Y6 (Y9 vk).1 H.XR.limit).1=KC H.XR (Y6 (Y9 vk).1 H.XR.limit).1:=by
  simp[Z6.outside,KC]
 rw[d];split
 ·rw[yP];exact rn (λs:State=>s.Yz i)<|Q1 H i λ_=>rfl
 exact Q1 H i λ_=>rfl
def kZ(pl:Zf)(p a:Part):Prop:=a.num=p.num/\Hj pl a.frames/\(a.place=0->a.WD=false)/\(p.place≠0->a.place≠0/\a.frames=p.frames)
section
variable{H':Z6}
def HS.keep(h:HS H)(a:j<R H.parts):kZ H.plan (H.p j)<|H.p j:=by
 have b:=Qp<|Zv a;rw[b];exact⟨rfl,h.fr _<|Zt a,h.ju _<|Zt a,λe=>⟨e,rfl⟩⟩
theorem HS.re(h:HS H)(u:H'.ZF=H.ZF)(t:H'.Z5=H.Z5)(s:H'.Z3=H.Z3)(v:H'.env=H.env)(x:H'.YX=H.YX)(r:H'.plan=H.plan)(w:0<=H'.entries)(o:R H'.parts=R H.parts)(d:∀j,j<R H.parts->kZ H.plan (H.p j) (H'.p j)):HS H':=by
 have f:∀q∈H'.parts,∃j,j<R H.parts/\H'.p j=q.1:=λq f=>by
  obtain⟨j,g,rfl⟩:=dl f;grind [Qp]
 refine⟨⟨?_,?_,?_,?_,?_,w,?_⟩,?_,λa b c m e=>?_,?_,λq l=>?_,λq l=>?_,λa c=>?_,?_,?_,?_,?_⟩
 ·rw[u];exact h.inv.YD
 ·rw[t];exact h.inv.ZA
 ·rw[o];exact h.inv.lp
 ·rw[t];exact h.inv.lc
 ·rw[u];exact h.inv.lv
 ·rw[s,o];exact h.inv.Z3
 ·rw[s];exact h.nd
 ·rw[o]at c m;exact h.EV a b c m (by rw[←(d a c).1,←(d b m).1,e])
 ·rw[r];exact h.pl
 ·obtain⟨j,g,e⟩:=f q l;rw[r,←e];exact(d j g).2.1
 ·obtain⟨j,g,e⟩:=f q l;rw[←e];exact(d j g).2.2.1
 ·rw[s]at c;obtain⟨y,B⟩:=h.wh a c;obtain⟨A,z⟩:=(d a<|h.inv.Z3 a c).2.2.2 y;simp_all[WX]
 ·rw[v,x];exact h.nB
 ·rw[v,r];exact h.env
 ·rw[u];exact h.rc
 rw[t];exact h.lf
theorem xR(H:Z6)(i:Nat)(f:Part->Part)(a:j<R H.parts):(H.Zh i f).p j=if i=j then f (H.p j)else H.p j:=by
 grind [Z6.p,Z6.Zh]
theorem HS.Zh(h:HS H){f:Part->Part}(b:i<R H.parts->kZ H.plan (H.p i) (f<|H.p i)):HS<|H.Zh i f:=by
 refine h.re rfl rfl rfl rfl rfl rfl h.inv.sw (aμ ..) λj a=>?_
 rw[xR H i f a];split
 ·simp_all
 exact h.keep a
def HS.WT(h:HS H):HS<|H.WT i:=by
 refine h.re rfl rfl rfl rfl rfl rfl h.inv.sw (aμ ..) λj a=>?_
 rw[Jl];exact h.keep a
theorem HS.Yz(h:HS H):HS<|H.Yz i:=by
 refine h.re rfl rfl rfl rfl rfl rfl h.inv.sw (Zx ..) λj a=>?_
 have k:=h.keep a;have e:(H.Yz i).p j=H.p j\/(H.Yz i).p j={H.p j with marked:=true}:=by
  unfold Z6.p Z6.Yz;grind
 rcases e with e|e
 ·grind
 rw[e];exact⟨k.1,k.2.1,k.2.2.1,k.2.2.2⟩
def HS.tick(h:HS H)(t:Int):HS {H with time:=t,entries:=H.entries+1}:=
 h.re rfl rfl rfl rfl rfl rfl (by have:=h.inv.sw;show 0<=H.entries+1;omega) rfl λj a=>h.keep a
def HS.about(h:HS H){n:Int}{f:Z6->Nat->HE}(a:∀i,i<R H.parts->HS (f H i).1):HS (YJ H n f).1:=by
 unfold YJ;cases e:H.U1 n with
 |none=>exact h
 |some i=>
  have k:=a i (Y8 e).1;dsimp only;split
  ·exact k.WT
  exact k
def HS.good_(h:HS H)(hi:i<R H.parts):HS (Wi H i).1:=by
 unfold Wi;split
 ·exact h.Zh (f:=λp=>{p with place:=2}) λhi=>by have k:=h.keep hi;exact⟨rfl,k.2.1,Z,λe=>⟨Z,rfl⟩⟩
 exact h
def HS.bad_(h:HS H)(hi:i<R H.parts):HS (Tu H i).1:=by
 unfold Tu;split
 ·exact h.Zh (f:=λp=>{p with place:=3}) λhi=>by have k:=h.keep hi;exact⟨rfl,k.2.1,Z,λe=>⟨Z,rfl⟩⟩
 exact h
def HS.mark_(h:HS H)(hi:i<R H.parts):HS (WU H i).1:=by
 unfold WU;split
 ·exact h.Zh (f:=λp=>{p with marked:=true}) λhi=>by have k:=h.keep hi;exact⟨rfl,k.2.1,k.2.2.1,k.2.2.2⟩
 exact h
def HS.sect_(h:HS H)(vk:ba)(hi:i<R H.parts):HS (Xz vk H i).1:=by
 unfold Xz;dsimp only;split
 ·exact h
 split
 ·exact h
 split
 ·exact h
 have k:HS<|H.Zh i λp=>{p with place:=4,depth:=(Y6 (Y9 vk).1 H.XR.limit).1}:=h.Zh λhi=>by have k:=h.keep hi;exact⟨rfl,k.2.1,Z,λe=>⟨Z,rfl⟩⟩
 dsimp only;split
 ·exact k.Yz
 exact k
def HS.end_(h:HS H):HS (Sz H).1:=by
 unfold Sz;cases e:H.Tk with
 |none=>exact h
 |some i=>exact(h.Zh λhi=>by have k:=h.keep hi;exact⟨rfl,k.2.1,Z,λe=>⟨Z,rfl⟩⟩).WT
theorem HS.aQ(h:HS H)(f:Frame)(r:Int):HS (Yl H f r).1:=by
 unfold Yl;cases e:H.Tk with
 |none=>exact h
 |some i=>
  dsimp only;split
  ·exact h
  split
  ·exact h
  rename_i u;obtain⟨hi,c⟩:=Y8 e;have h0:(H.p i).place=0:=by rw[Qp<|Zv hi];simp_all
  cases t:(H.p i).frames.find? (λg=>decide<|g.tick=f.tick)with
  |none=>
   refine(h.Zh λhi=>?_).WT;have k:=h.keep hi;refine⟨rfl,⟨λg c=>?_,λa b x y l q e=>?_⟩,k.2.2.1,λe=>absurd h0 e⟩
   ·rcases List.mem_append.1 c with c|c
    ·exact k.2.1.1 g c
    simp_all
   have s:∀g∈(H.p i).frames,g.tick≠f.tick:=λg c=>by
    simp_all
   have d:∀{a:Nat}{x:Frame},((H.p i).frames++[f])[a]?=some x->(H.p i).frames[a]?=some x\/a=R (H.p i).frames/\x=f:=λ{a x} l=>by
    grind
   rcases d l with o|⟨o,w⟩<;>rcases d q with m|⟨m,v⟩
   ·exact k.2.1.2 a b x y o m e
   all_goals grind
  |some g=>
   dsimp only;split
   ·exact h.WT
   exact h
theorem HS.bG(h:HS H)(hi:i<R H.parts):HS (Xe H i).1:=by
 unfold Xe;dsimp only;split
 case isFalse=>exact h
 case isTrue h0=>
  have a:(H.p i).place≠0/\WX H.plan (H.p i)=true/\H.Z3.contains i=false:=by
   grind [ZW,Z8]
  refine⟨⟨h.inv.YD,h.inv.ZA,h.inv.lp,h.inv.lc,h.inv.lv,h.inv.sw,λm b=>?_⟩,?_,h.EV,h.pl,h.fr,h.ju,λm b=>?_,h.nB,h.env,h.rc,h.lf⟩
  ·rcases List.mem_append.1 b with b|b
   ·exact h.inv.Z3 m b
   simp_all
  ·refine List.nodup_append.2 ⟨h.nd,F,λx d y c e=>?_⟩;simp_all
  rcases List.mem_append.1 b with b|b
  ·exact h.wh m b
  rw[pi.1 b];exact⟨a.1,a.2.1⟩
def HS.ym(h:HS H){l:List<|XA×Int}(b:R l<=4)(hs:∀q∈l,0<=q.1.ZA/\q.1.ZA<=q.1.Wb/\q.1.Wb<=1000):HS {H with Z5:=l}:=
 ⟨⟨h.inv.YD,λq a=>⟨(hs q a).1,(hs q a).2.1⟩,h.inv.lp,b,h.inv.lv,h.inv.sw,h.inv.Z3⟩,h.nd,h.EV,h.pl,h.fr,h.ju,h.wh,h.nB,h.env,h.rc,λq a=>(hs q a).2.2⟩
def HS.cl(h:HS H):∀q∈H.Z5,0<=q.1.ZA/\q.1.ZA<=q.1.Wb/\q.1.Wb<=1000:=λq a=>⟨(h.inv.ZA q a).1,(h.inv.ZA q a).2,h.lf q a⟩
def Nj{P:α->Prop}{l:List α}{f:α->α}(h:∀x∈l,P x)(c:∀d:j<R l,P<|f l[j]):∀x∈l.modify j f,P x:=λx b=>by
 obtain⟨k,a,rfl⟩:=dl b;rw[List.getElem_modify];rw[aμ]at a;split
 ·rename_i e;subst e;exact c a
 exact h _<|Zt a
theorem HS.coil_(h:HS H)(qe:ba)(Wb:Int):HS (Tw H qe Wb).1:=by
 unfold Tw;dsimp only;split
 case isFalse=>exact h
 case isTrue h0=>
  have a:(1<=Wb/\Wb<=1000)/\(R H.Z5:Int)<4:=by
   refine⟨Fe h0 rfl,?_⟩;grind [ZW,Z8]
  refine h.ym (by grind) λq b=>?_
  rcases List.mem_append.1 b with b|b
  ·exact h.cl q b
  grind
theorem HS.jC(h:HS H)(qe:ba):HS (XZ H qe).1:=by
 unfold XZ;split
 ·exact h
 split
 ·exact h
 refine h.ym (by rw[aμ];exact h.inv.lc)<|Nj h.cl λa=>?_;have:=h.cl _<|Zt a;grind
theorem HS.dm(h:HS H)(n:Int)(r c:ba):HS (W_ H n r c).1:=by
 by_cases y:ZW [Z8 (decide<|n<=1000000) 2,Z8 (H.U1 n).isNone 5,Z8 ((H.AI r).isSome&&(H.Ob c).isSome) 6,Z8 H.Tk.isNone 17]=0
 case neg=>rw[OG rfl y];exact h
 obtain⟨_,B,A,_⟩:=G2 y;rw[Zw]at A;obtain⟨k,C⟩:=sk.1 A.1;obtain⟨j,t⟩:=sk.1 A.2;have w:=(VK C).1;have x:=(Y8 t).1;rw[Lf y C (Zv w) t<|Zv x];split
 ·exact h
 rename_i J;obtain⟨E,D⟩:=sA<|Zu.1 J;have E:=pf E;have D:=pf D;have z:HS {H with Z5:=H.Z5.modify j λq=>({q.1 with ZA:=q.1.ZA+1},q.2)}:=by
  refine h.ym (by rw[aμ];exact h.inv.lc)<|Nj h.cl λt=>?_;have:=h.cl _<|Zt t;grind
 have F:=dρ.1 B;have d:∀a,a<R H.parts->∀q:Part×bd,(Z6.p {H with parts:=H.parts++[q]} a)=H.p a:=λa u q=>by
  simp_all[Z6.p,m6]
 have xi:∀q:Part×bd,Z6.p {H with parts:=H.parts++[q]} (R H.parts)=q.1:=λq=>by
  simp[Z6.p]
 have o:∀a,a<R H.parts->(H.p a).num≠n:=λa u e=>by
  have:=(T9 _ _ 0).1 F _<|Zt u;grind [Qp]
 refine⟨⟨h.inv.YD,z.inv.ZA,?_,z.inv.lc,h.inv.lv,h.inv.sw,λm s=>?_⟩,h.nd,λa b u G e=>?_,h.pl,λq f=>?_,λq f=>?_,λm s=>?_,h.nB,h.env,h.rc,z.lf⟩
 ·grind
 ·have:=h.inv.Z3 m s;grind
 ·rw[Zs,R0]at u G;rcases w7 a (R H.parts) with l|l<;>rcases w7 b (R H.parts) with g|g
  ·exact h.EV a b l g<|(rn Part.num<|d a l _).symm.trans<|e.trans<|rn Part.num<|d b g _
  ·have K:b=R H.parts:=I
   subst K;exact absurd ((rn Part.num<|d a l _).symm.trans<|e.trans<|rn Part.num<|xi _)<|o a l
  ·have L:a=R H.parts:=I
   subst L;exact absurd ((rn Part.num<|d b g _).symm.trans<|e.symm.trans<|rn Part.num<|xi _)<|o b g
  omega
 ·rcases List.mem_append.1 f with f|f
  ·exact h.fr q f
  rw[pi.1 f];exact⟨(λ_ v=>by cases v),λ_ _ _ _ v=>by cases v⟩
 ·rcases List.mem_append.1 f with f|f
  ·exact h.ju q f
  simp_all
 have k:=h.wh m s;have e:=d m<|h.inv.Z3 m s;exact⟨λB=>k.1<|(rn Part.place<|e _).symm.trans B,(rn (WX H.plan)<|e _).trans k.2⟩
end
theorem sj.up:∀(d:Nat){l:List Ph},sj d l->sj (d+1) l
 |0,l,h=>by
  have h:l=[]:=h;subst h;exact⟨Zr _,λp a=>by cases a⟩
 |d+1,_,h=>⟨h.1,λp a=>sj.up d<|h.2 p a⟩
theorem w6:∀d,sj d []
 |0=>rfl
 |_+1=>⟨Zr _,λp a=>by cases a⟩
theorem cj:∀(m:Nat){l:List Ph},(YC (ZD m) l).2=0->sj (m+2) l:=by
 have vy:∀(m:Nat){l:List Ph},(YC (ZD m) l).2=0->R l<=1000:=λm l h=>by
  grind [nQ]
 have xt:∀{m:Nat}{p:Ph},ZD m p=0->p.kind≠5->p.body=[]:=λ{m p} h a=>by
  by_cases o:0<=p.kind/\p.kind<=5
  ·have c:RC p=0:=by
    grind [PO]
   have d:YE p=true:=by
    unfold RC at c;cases d:YE p
    ·rw[d]at c;cases c
    rfl
   simp_all[clean_eq]
  simp_all[LR]
 intro m
 induction m with
 |zero=>
  intro l h;refine⟨vy 0 h,λp b=>?_⟩;by_cases a:p.kind=5
  ·obtain⟨_,f,e,_⟩:=SZ ((UE h).2 p b) a;omega
  grind [UE,w6]
 |succ m g=>
  intro l h;refine⟨vy _ h,λp b=>?_⟩;by_cases a:p.kind=5
  ·obtain⟨_,f,e,q⟩:=SZ ((UE h).2 p b) a;simp_all
  grind [UE,w6]
theorem jr{s:ba}(h:(VJ s).2=0):sj 6 (VJ s).1:=by
 unfold VJ at h⊢;by_cases c:2000<R s
 ·simp_all
 rw[Zm c]at h⊢;dsimp only at h⊢;split at h
 ·cases h
 rename_i b;rw[Zm b];split at h
 ·omega
 rename_i a;rw[Zm a];grind [sj.up,cj,yh]
section
variable{k:Nat}{n:Net}
theorem HS.jy(h:HS H)(qe vk:ba):HS (XX H qe vk).1:=by
 unfold XX;dsimp only;split
 ·exact h
 by_cases d:(VJ vk).2=0
 ·rw[d,N8];by_cases b:(R H.ZF:Int)<6
  ·rw[Zz b,UB,Zm (c:=ZW []≠0) λh=>h rfl];refine⟨⟨h.inv.YD.snoc ?_,h.inv.ZA,h.inv.lp,h.inv.lc,by grind,h.inv.sw,h.inv.Z3⟩,h.nd,h.EV,h.pl,h.fr,h.ju,h.wh,h.nB,h.env,λq a=>?_,h.lf⟩
   ·dsimp only;cases e:H.AI qe with
    |none=>rw[filter_none<|KJ e];rfl
    |some j=>
     obtain⟨q,g,_,f⟩:=Jh h.inv.YD e;simp_all
   rcases List.mem_append.1 a with a|a
   ·exact h.rc q a
   simp_all[jr]
  simp_all[Zy,Rf]
 simp_all[OD]
theorem HS.bw(h:HS H)(t:Int):HS (Wo H t).1:=by
 unfold Wo;split
 ·rename_i b;have e:PC H.plan H.XE t=OM H.plan H.XE t:=Zn b;have a:Wu H.plan H.XE=0/\XI t (R H.XE)=0:=by
   unfold Wr Vo at b;omega
  have c:=Bs (nO h.pl a.1) a.2;have d:=X_ h.pl;refine⟨⟨h.inv.YD,h.inv.ZA,h.inv.lp,h.inv.lc,h.inv.lv,h.inv.sw,h.inv.Z3⟩,h.nd,h.EV,h.pl,h.fr,h.ju,h.wh,?_,λ_=>?_,h.rc,h.lf⟩
  all_goals grind [Dx]
 exact h
def HS.rP(h:HS H)(k:Nat)(L:Sv):HS (WQ k H L).1:=by
 unfold WQ;split
 ·exact h
 ·exact h.dm ..
 ·exact h.aQ ..
 ·exact h.end_
 ·exact h.about λ_ hi=>h.good_ hi
 ·exact h.about λ_ hi=>h.bad_ hi
 ·exact h.coil_ ..
 ·exact h.jC ..
 ·exact h.about λ_ hi=>h.mark_ hi
 ·exact h.about λ_ hi=>h.sect_ _ hi
 ·exact h.jy ..
 ·exact h.about λ_ hi=>h.bG hi
 exact h.bw _
def HS.enter(h:HS H)(x:Entry):HS (Za H x).1:=by
 unfold Za;split
 ·exact h
 split
 ·split
  ·exact h
  dsimp only;split
  ·exact h.rP ..
  exact(h.rP ..).tick _
 exact h
def o9{m:Int}(h:H.U1 m=some i):i<R H.parts:=(Y8 h).1
theorem As(t:ba):(Yn t).1.verb=(ZQ 32 t).1:=by
 grind [Yn]
def aD(h:HS H)(b:H.XR=n)(a:H.plan=(ZO n.plan).1)(d:k<13){L:Sv}(e:L.verb=Z4.getD k [])(h0:0<=L.num):((WQ k H L).1.st,(WQ k H L).2)=WY n H.st L:=by
 unfold WY;rw[e,←a]
 match k,d with
 |0,_=>rfl
 |1,_=>rw[Zm (c:=Z4.getD 1 []=Z4[0]) C,Zn (c:=Z4.getD 1 []=Z4[1]) rfl];exact q_ h.inv ..
 |2,_=>rw[Zm (c:=Z4.getD 2 []=Z4[0]) C,Zm (c:=Z4.getD 2 []=Z4[1]) C,Zn (c:=Z4.getD 2 []=Z4[2]) rfl];exact nk ..
 |3,_=>rw[Zm (c:=Z4.getD 3 []=Z4[0]) C,Zm (c:=Z4.getD 3 []=Z4[1]) C,Zm (c:=Z4.getD 3 []=Z4[2]) C,Zn (c:=Z4.getD 3 []=Z4[3]) rfl];exact(aG H).trans (by rw[h.nB];rfl)
 |4,_=>rw[Zm (c:=Z4.getD 4 []=Z4[0]) C,Zm (c:=Z4.getD 4 []=Z4[1]) C,Zm (c:=Z4.getD 4 []=Z4[2]) C,Zm (c:=Z4.getD 4 []=Z4[3]) C,Zn (c:=Z4.getD 4 []=Z4[4]) rfl];exact Pu λi _=>ia H i
 |5,_=>rw[Zm (c:=Z4.getD 5 []=Z4[0]) C,Zm (c:=Z4.getD 5 []=Z4[1]) C,Zm (c:=Z4.getD 5 []=Z4[2]) C,Zm (c:=Z4.getD 5 []=Z4[3]) C,Zm (c:=Z4.getD 5 []=Z4[4]) C,Zn (c:=Z4.getD 5 []=Z4[5]) rfl];exact Pu λi _=>bad_st H i
 |6,_=>rw[Zm (c:=Z4.getD 6 []=Z4[0]) C,Zm (c:=Z4.getD 6 []=Z4[1]) C,Zm (c:=Z4.getD 6 []=Z4[2]) C,Zm (c:=Z4.getD 6 []=Z4[3]) C,Zm (c:=Z4.getD 6 []=Z4[4]) C,Zm (c:=Z4.getD 6 []=Z4[5]) C,Zn (c:=Z4.getD 6 []=Z4[6]) rfl];exact gr ..
 |7,_=>rw[Zm (c:=Z4.getD 7 []=Z4[0]) C,Zm (c:=Z4.getD 7 []=Z4[1]) C,Zm (c:=Z4.getD 7 []=Z4[2]) C,Zm (c:=Z4.getD 7 []=Z4[3]) C,Zm (c:=Z4.getD 7 []=Z4[4]) C,Zm (c:=Z4.getD 7 []=Z4[5]) C,Zm (c:=Z4.getD 7 []=Z4[6]) C,Zn (c:=Z4.getD 7 []=Z4[7]) rfl];exact uT ..
 |8,_=>rw[Zm (c:=Z4.getD 8 []=Z4[0]) C,Zm (c:=Z4.getD 8 []=Z4[1]) C,Zm (c:=Z4.getD 8 []=Z4[2]) C,Zm (c:=Z4.getD 8 []=Z4[3]) C,Zm (c:=Z4.getD 8 []=Z4[4]) C,Zm (c:=Z4.getD 8 []=Z4[5]) C,Zm (c:=Z4.getD 8 []=Z4[6]) C,Zm (c:=Z4.getD 8 []=Z4[7]) C,Zn (c:=Z4.getD 8 []=Z4[8]) rfl];exact Pu λi _=>iI H i
 |9,_=>rw[Zm (c:=Z4.getD 9 []=Z4[0]) C,Zm (c:=Z4.getD 9 []=Z4[1]) C,Zm (c:=Z4.getD 9 []=Z4[2]) C,Zm (c:=Z4.getD 9 []=Z4[3]) C,Zm (c:=Z4.getD 9 []=Z4[4]) C,Zm (c:=Z4.getD 9 []=Z4[5]) C,Zm (c:=Z4.getD 9 []=Z4[6]) C,Zm (c:=Z4.getD 9 []=Z4[7]) C,Zm (c:=Z4.getD 9 []=Z4[8]) C,Zn (c:=Z4.getD 9 []=Z4[9]) rfl];exact Pu λi _=>jJ H b L.rest i
 |10,_=>rw[Zm (c:=Z4.getD 10 []=Z4[0]) C,Zm (c:=Z4.getD 10 []=Z4[1]) C,Zm (c:=Z4.getD 10 []=Z4[2]) C,Zm (c:=Z4.getD 10 []=Z4[3]) C,Zm (c:=Z4.getD 10 []=Z4[4]) C,Zm (c:=Z4.getD 10 []=Z4[5]) C,Zm (c:=Z4.getD 10 []=Z4[6]) C,Zm (c:=Z4.getD 10 []=Z4[7]) C,Zm (c:=Z4.getD 10 []=Z4[8]) C,Zm (c:=Z4.getD 10 []=Z4[9]) C,Zn (c:=Z4.getD 10 []=Z4[10]) rfl];exact uM h.inv ..
 |11,_=>rw[Zm (c:=Z4.getD 11 []=Z4[0]) C,Zm (c:=Z4.getD 11 []=Z4[1]) C,Zm (c:=Z4.getD 11 []=Z4[2]) C,Zm (c:=Z4.getD 11 []=Z4[3]) C,Zm (c:=Z4.getD 11 []=Z4[4]) C,Zm (c:=Z4.getD 11 []=Z4[5]) C,Zm (c:=Z4.getD 11 []=Z4[6]) C,Zm (c:=Z4.getD 11 []=Z4[7]) C,Zm (c:=Z4.getD 11 []=Z4[8]) C,Zm (c:=Z4.getD 11 []=Z4[9]) C,Zm (c:=Z4.getD 11 []=Z4[10]) C,Zn (c:=Z4.getD 11 []=Z4[11]) rfl];exact Pu λi hi=>og h.inv h.EV<|o9 hi
 |12,_=>rw[Zm (c:=Z4.getD 12 []=Z4[0]) C,Zm (c:=Z4.getD 12 []=Z4[1]) C,Zm (c:=Z4.getD 12 []=Z4[2]) C,Zm (c:=Z4.getD 12 []=Z4[3]) C,Zm (c:=Z4.getD 12 []=Z4[4]) C,Zm (c:=Z4.getD 12 []=Z4[5]) C,Zm (c:=Z4.getD 12 []=Z4[6]) C,Zm (c:=Z4.getD 12 []=Z4[7]) C,Zm (c:=Z4.getD 12 []=Z4[8]) C,Zm (c:=Z4.getD 12 []=Z4[9]) C,Zm (c:=Z4.getD 12 []=Z4[10]) C,Zm (c:=Z4.getD 12 []=Z4[11]) C];exact nP h h0
theorem kj(h:HS H)(a:H.XR=n)(m:H.plan=(ZO n.plan).1)(x:Entry)(p:H.entries<60):((Za H x).1.st,(Za H x).2)=GA n H.st x H.time:=by
 unfold GA Za Z6.head;rw[Zz p,UB,a];cases v:Vp n x.OR with
 |none=>rfl
 |some i=>
  rw[Zm (c:=some i=none) Z,Option.isSome_some,UB];by_cases g:0<=x.at_/\x.at_<=1000000000000
  case neg=>simp_all[Zy,Rf]
  rw[Zz g,UB,Zm (c:=¬(0<=x.at_/\x.at_<=1000000000000))<|Zp g];by_cases t:x.at_<H.time
  case pos=>simp_all[Zy,Rf]
  rw[Zz (show x.at_>=H.time by omega),UB,Zm t];by_cases f:600<R x.text
  case pos=>rw[Zy (show¬(R x.text:Int)<=600 by omega),Rf C,Zn C,Zn f]
  rw[Zz (show(R x.text:Int)<=600 by omega),UB,Zm f];cases u:x.text.all X6 with
  |false=>rfl
  |true=>
   rw[UB,Zm (c:=true=false) Z];cases e:X2 (ZQ 32 x.text).1 with
   |none=>rfl
   |some k=>
    rw[Option.isSome_some,UB,Zm (c:=ZW []≠0) λh=>h rfl,Zm (c:=some k=none) Z];dsimp only;unfold Z6.tail;have l:Cw n x=(n.ZU[i]?.map Ze.role).getD 0:=by simp_all[Cw]
    rw[l,a,Option.getD_some,(text_eq e).1];by_cases s:(n.ZU[i]?.map Ze.role).getD 0<S2.getD k 0
    case pos=>simp_all[Zy,Rf]
    rw[Zz (show(n.ZU[i]?.map Ze.role).getD 0>=S2.getD k 0 by omega),UB,Zm s];cases r:(Yn x.text).2 with
    |false=>rfl
    |true=>
     rw[UB,Zm (c:=ZW []≠0) λh=>h rfl,Zm (c:=true=false) Z];obtain⟨o,b⟩:=Y8 e;have b:(ZQ 32 x.text).1=Z4.getD k []:=by simp_all
     have q:(Yn x.text).1.verb=(ZQ 32 x.text).1:=As x.text;rw[←aD h a m o (q.trans b) (G3 r).1];by_cases d:(WQ k H (Yn x.text).1).2=0
     ·rw[Zm<|Zp d,d];rfl
     simp_all
end
def HS.init{n:Net}{p:Zf}(h:Y_ p=0):HS<|Z6.init n p:=
 ⟨⟨(λi q a=>by cases a),(λq a=>by cases a),Zr _,Zr _,Zr _,Int.le_refl 0,λi hi=>by cases hi⟩,List.nodup_nil,(λi j hi=>by cases hi),h,(λq a=>by cases a),(λq a=>by cases a),(λi hi=>by cases hi),rfl,Z,(λq a=>by cases a),λq a=>by cases a⟩
def NK(n:Net):Bool:=decide (R n.ZU<=10)&&decide (R n.plan<=80)&&n.ZU.all λp=>decide<|R p.name<=20
def fewN_plan(h:NK n=true):R n.plan<=80:=by
 simp_all[NK]
def xC(h:R n.ZU=0):UZ n=10:=by unfold UZ;rw[h];rfl
def xD(h:8<R n.ZU):UZ n=8:=by
 unfold UZ;rw[Zz (show((R n.ZU:Nat):Int)>0 by omega),Zy (show¬((R n.ZU:Nat):Int)<=8 by omega)];rfl
def jM(h0:R n.ZU≠0)(h:¬8<R n.ZU):UZ n=0:=by
 unfold UZ;rw[Zz (show((R n.ZU:Nat):Int)>0 by omega),Zz (show((R n.ZU:Nat):Int)<=8 by omega)];rfl
def ud(h:YA p.name=false):YF l i p=4:=by unfold YF;rw[h];rfl
def ue(h:YA p.name=true)(a:p.name∈(l.take i).map Ze.name):YF l i p=5:=by unfold YF;rw[h,Zy<|Zp a];rfl
def yY(h:YA p.name=true)(b:¬p.name∈(l.take i).map Ze.name)(a:¬(0<=p.role/\p.role<=4)):YF l i p=15:=by unfold YF;rw[h,Zz b,Zy a];rfl
def uc(h:YA p.name=true)(b:¬p.name∈(l.take i).map Ze.name)(a:0<=p.role/\p.role<=4):YF l i p=0:=by unfold YF;rw[h,Zz b,Zz a];rfl
def Eb(a:UZ n=0)(hi:i<R n.ZU)(b:ZP (YF n.ZU) 0 n.ZU=ZP (YF n.ZU) i (n.ZU.drop i))(c:YF n.ZU i n.ZU[i]≠0):U4 n=((i:Int),YF n.ZU i n.ZU[i]):=by
 simp_all[Zd,D_]
def iO(hi:i<=R l)(a:j<i):(l[j]' I).name∈(l.take i).map Ze.name:=
 rx.2 ⟨l[j]' I,dγ.2 ⟨j,by rw[sc];omega,by rw[dξ]⟩,rfl⟩
theorem ot{s:ba}(hi:i<=R l)(h:∀j (c:j<i),(l[j]' I).name≠s):¬s∈(l.take i).map Ze.name:=by
 intro b;obtain⟨p,a,rfl⟩:=rx.1 b;obtain⟨j,c,rfl⟩:=dγ.1 a;grind
def IJ(P:R n.plan<=1000):Ct prog 64 [.agg n.cs]<|.Yy [bv (U4 n).1,bv (U4 n).2]:=by
 refine cI func64 O<|ro 12 O<|kc (zk RL O)<|rr 3 O<|kB O (λN=>?_) λN=>?_
 ·have g:U4 n=(0,10):=by rw[(Im (n:=n)<|by rw[xC I];decide).1,xC I]
  refine ro 6 O<|kS O O O O ?_;rw[g];try rfl
 refine ro 7 O<|kc (zk RL O)<|rr 3 O<|kB O (λM=>?_) λM=>?_
 ·have g:U4 n=(0,8):=by rw[(Im (n:=n)<|by rw[xD I];decide).1,xD I]
  refine ro 6 O<|kS O O O O ?_;rw[g];try rfl
 have y:UZ n=0:=jM I I;refine ro 9 O ?_;refine OK.loop (G:=Nat) [1] (λi=>[(1,.ptr 1 0),(1001,.box n.cs),(4,bv i)]) (λi=>i<=R n.ZU/\ZP (YF n.ZU) 0 n.ZU=ZP (YF n.ZU) i (n.ZU.drop i)) (λi=>R n.ZU - i) 0 ⟨Zr _,O⟩ ⟨O,O,O,Zo⟩ (λ_=>O) ?_;rintro i ⟨hi,x⟩;refine ro 6 O<|kc (zk RL O)<|rr 3 O<|kB O (λL=>?_) λL=>?_
 ·have p:i<R n.ZU:=by omega
  refine ro 10 O<|kc (zI RL O I O) ?_;refine rr 2 O<|kc (zK R8 call97 O)<|kc (S.not .none O<|zt O)<|kD<|OK.cond O O (λu=>?_) λu=>?_
  ·have h:YA n.ZU[i].name=false:=by simpa using u
   have d:YF n.ZU i n.ZU[i]=4:=ud h;have g:=Eb y p x (by rw[d];decide);rw[d]at g;refine ro 7 O<|kS O O O O ?_;rw[g];try rfl
  have h:YA n.ZU[i].name=true:=by simpa using u
  refine ro 9 O ?_;refine OK.loop (G:=Nat) [1] (λj=>[(1,.ptr 1 0),(1001,.box n.cs),(4,bv i),(5,bv j)]) (λj=>j<=i/\∀k (z:k<j),k<i->(n.ZU[k]?.map Ze.name)≠some n.ZU[i].name) (λj=>i - j) 0 ⟨Zr _,λk z=>by omega⟩ ⟨O,O,O,O,Zo⟩ (λ_=>O) ?_;rintro j ⟨Q,w⟩;refine ro 8 O<|kB O (λK=>?_) λK=>?_
  ·have C:j<i:=by omega
   have B:j<R n.ZU:=by omega
   refine ro 5 O<|kV (.c (zf NL O)<|.c (zl CG O O O O)<|.c (zm O)<|.c (zI RL O I O)<|.c (S.field CJ .none O (zt O) O)<|.c (zV T6 O O)<|.c (zf NL O)<|.c (zl CG O O O O)<|.c (zm O)<|.c (zI RL O I O)<|.c (S.field CJ .none O (zt O) O)<|.c (zV T6 O O)<|.c (S.vl .none O (zt O)<|zt O) .nil)<|Ab.D.code<|kB O (λs=>?_) λs=>?_
   ·have d:YF n.ZU i n.ZU[i]=5:=ue h (by rw[←show n.ZU[j].name=n.ZU[i].name from s];exact iO hi C);have g:=Eb y p x (by rw[d];decide);rw[d]at g;refine ro 7 O<|kS O O O O ?_;rw[g];try rfl
   refine Ro 8 O I ?_;refine Ab.D.lp ⟨j+1,⟨by omega,λk z A=>by by_cases e:k=j;subst e;rw[Zv B];exactλe=>s<|aγ e;exact w k I A⟩,I,O,O,O,O,Zo⟩
  have q:¬n.ZU[i].name∈(n.ZU.take i).map Ze.name:=ot hi λk z e=>w k I z (by rw[Zv (show k<R n.ZU by omega)];exact rn some e)
  refine ro 7 O<|kc (zI RL O I O) ?_;refine rr 2 O<|kc (zK Y4 call98 O)<|kc (S.Xb .none O<|zt O)<|kD<|kB O (λr=>?_) λr=>?_
  ·have d:YF n.ZU i n.ZU[i]=15:=yY h q (by simpa using r);have g:=Eb y p x (by rw[d];decide);rw[d]at g;refine ro 7 O<|kS O O O O ?_;rw[g];try rfl
  have d:YF n.ZU i n.ZU[i]=0:=uc h q (by simpa using r);refine Ro 8 O I ?_;refine Ab.D.lp ⟨i+1,⟨by omega,by rw[x,Zd _ p,Zm<|by rw[d];decide]⟩,I,O,O,O,Zo⟩
 have E:(ZP (YF n.ZU) 0 n.ZU).2=0:=by rw[x,show i=R n.ZU by omega,da];rfl
 have v:=(Ea y E).1;refine ro 7 O<|kc (zK (P4 (l:=n.plan) I) call17 O) ?_;refine rr 14 O<|kB O (λb=>?_) λb=>?_
 ·refine ro 7 O<|kS O O O O ?_;rw[v];unfold OL UI
  first|(rw[Zu.1 b,Zy a,tp];rfl)|(have o:decide (0<=n.lo/\n.lo<=10000)=false:=(by simpa using f);have m:decide (0<=n.limit/\n.limit<=2000)=true:=(by simpa using a);rw[Zu.1 b,m,o,tn,tp];rfl)|simp_all[ZW,Z8]
 refine ro 7 O<|kc (zK Y4 call98 O)<|kc (S.Xb .none O<|zt O)<|jm O<|RK.ZS (t:=73) O (λa=>?_) λa=>?_
 ·refine rr 22 O<|kS O O O O ?_;rw[v];unfold OL UI
  first|(rw[Zu.1 b,Zy a,tp];rfl)|(have o:decide (0<=n.lo/\n.lo<=10000)=false:=(by simpa using f);have m:decide (0<=n.limit/\n.limit<=2000)=true:=(by simpa using a);rw[Zu.1 b,m,o,tn,tp];rfl)|simp_all[ZW,Z8]
 refine rr 3 O<|kc (S.call Y4 call98 (zg O O) O (zc O<|zC O<|zD O) O)<|kc (S.Xb (zg O O) O<|zt O)<|rr 2 O<|RK.ZS (t:=80) O (λf=>?_) λf=>?_
 ·refine rr 15 O<|kS O O O O ?_;rw[v];unfold OL UI
  first|(rw[Zu.1 b,Zy a,tp];rfl)|(have o:decide (0<=n.lo/\n.lo<=10000)=false:=(by simpa using f);have m:decide (0<=n.limit/\n.limit<=2000)=true:=(by simpa using a);rw[Zu.1 b,m,o,tn,tp];rfl)|simp_all[ZW,Z8]
 refine rr 3 O<|kc (S.call Y4 call98 (zg O O) O (zc O<|zC O<|zD O) O)<|kc (S.Xb (zg O O) O<|zt O)<|rr 3 O<|kB O (λJ=>?_) λJ=>?_
 ·refine ro 6 O<|kS O O O O ?_;rw[v];unfold OL UI
  first|(rw[Zu.1 b,Zy a,tp];rfl)|(have o:decide (0<=n.lo/\n.lo<=10000)=false:=(by simpa using f);have m:decide (0<=n.limit/\n.limit<=2000)=true:=(by simpa using a);rw[Zu.1 b,m,o,tn,tp];rfl)|simp_all[ZW,Z8]
 refine ro 14 O<|kB O (λF=>?_) λF=>?_
 ·refine ro 6 O<|kS O O O O ?_;rw[v];unfold OL UI
  first|(rw[Zu.1 b,Zy a,tp];rfl)|(have o:decide (0<=n.lo/\n.lo<=10000)=false:=(by simpa using f);have m:decide (0<=n.limit/\n.limit<=2000)=true:=(by simpa using a);rw[Zu.1 b,m,o,tn,tp];rfl)|simp_all[ZW,Z8]
 refine ro 8 O<|kS O O O O ?_;rw[v];unfold OL UI
 first|(rw[Zu.1 b,Zy a,tp];rfl)|(have o:decide (0<=n.lo/\n.lo<=10000)=false:=(by simpa using f);have m:decide (0<=n.limit/\n.limit<=2000)=true:=(by simpa using a);rw[Zu.1 b,m,o,tn,tp];rfl)|simp_all[ZW,Z8]
def G_(a:R n.plan<=1000):Ct prog 33 [.agg n.cs]<|bv (U4 n).2:=by
 refine cI func33 O<|ro 9 O<|kc (zK (IJ a) call64 O)<|rr 13 O<|kR O O ?_;rfl
