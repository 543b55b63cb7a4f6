import Derived.Test.YtkkbjdenehfpaaaGreatDoorMdN
set_option linter.all false
set_option maxHeartbeats 2000000
open List renaming length->R
namespace Go.Proofs.Z_
open Go.Ab Tryz
set_option maxRecDepth 9999
theorem HM.set_set{K:Type}[DecidableEq K](M:HM K)(k:K)(a b:Option<|Nat×HK):(M.set k a).set k b=M.set k b:=by
 grind [HM.set]
theorem G2{a b c d:Bool}(h:ZW [Z8 a 2,Z8 b 5,Z8 c 6,Z8 d 17]=0):a=true/\b=true/\c=true/\d=true:=by
 grind [ZW,Z8]
theorem sA{a b:Bool}(h:ZW [Z8 a 22,Z8 b 16]=0):a=true/\b=true:=by
 grind [ZW,Z8]
variable{n:Int}{H:Z6}{c r:ba}
def OG{e:Int}(a:ZW [Z8 (decide<|n<=1000000) 2,Z8 (H.U1 n).isNone 5,Z8 ((H.AI r).isSome&&(H.Ob c).isSome) 6,Z8 H.Tk.isNone 17]=e)(h0:e≠0):W_ H n r c=(H,e):=by
 simp_all[W_]
variable{j k:Nat}
def Lf{v:Rec×Int}{q:XA×Int}(h0:ZW [Z8 (decide<|n<=1000000) 2,Z8 (H.U1 n).isNone 5,Z8 ((H.AI r).isSome&&(H.Ob c).isSome) 6,Z8 H.Tk.isNone 17]=0)(b:H.AI r=some k)(a:H.ZF[k]?=some v)(d:H.Ob c=some j)(e:H.Z5[j]?=some q):
  W_ H n r c=if ZW [Z8 (decide<|q.1.ZA<q.1.Wb) 22,Z8 (decide ((R H.parts:Int)<12)) 16]≠0 then(H,ZW [Z8 (decide<|q.1.ZA<q.1.Wb) 22,Z8 (decide ((R H.parts:Int)<12)) 16])else({H with Z5:=H.Z5.modify j λq=>({q.1 with ZA:=q.1.ZA+1},q.2),parts:=H.parts++[(⟨n,v.1.name,v.1.YD,q.1.name,[],0,false,0,false,Span.zero⟩,[v.2,q.2,H.entries])]},0):=by
 simp_all[W_]
def F4{n:ba}(a:H.Ob n=some j)(b:H.busy n=false):XZ H n=({H with Z5:=H.Z5.modify j λq=>({q.1 with ZA:=0},q.2)},0):=by
 simp_all[XZ]
def uS{n:ba}(a:H.Ob n=some j)(b:H.busy n=true):XZ H n=(H,17):=by
 simp_all[XZ]
variable{A:HA}
theorem HA.wR{n:ba}{v:VP}(b:ix (λv=>decide<|v.c.name=n) A.Z5=some j)(a:A.Z5[j]?=some v):v.c.name=n:=by
 grind [Y8]
def Hy{c:XA}{e:Int}(h:H.Z5[j]?=some (c,e))(f:XA->XA):(H.Z5.modify j λq=>(f c,q.2))=H.Z5.modify j λq=>(f q.1,q.2):=by
 simp_all[WH]
variable{i:Nat}
def Z6.set3{p b a:Part}{es:bd}(h:H.parts[i]?=some (p,es)):((H.Zh i λ_=>b).WT i).Zh i (λ_=>a)=(H.Zh i λ_=>a).WT i:=by
 simp_all[Z6.Zh,Z6.WT,WH,N0]
def HA.b9{h:Mem}{Y:Nat->Prop}{w:World}(d:Z9 A.mem h Y w):∀i j,i<R A.parts->j<R A.parts->A.pb i=A.pb j->i=j:=λi j hi a e=>by
 have c:=HA.Oh hi;have b:=HA.Oh a;rw[←HA.BO hi]at c;rw[←HA.BO a,←e]at b;exact Key.p.inj<|d.2 _ _ _ _ _ c b
def JE(p:Part)(f:Frame):Option Nat:=ix (λg:Frame=>decide<|g.tick=f.tick) p.frames
theorem wD{α:Type}(g:α->Bool)(l:List α):l.find? g=(ix g l).bind (l[·]?):=by
 have vy:∀(l:List α)(k:Nat)(L:List α),(∀i,L[k+i]?=l[i]?)->l.find? g=(VF g k l).bind (L[·]?):=by
  intro l
  induction l with
  |nil=>intro k L _;rfl
  |cons x l b=>
   intro k L a;rw[eβ,VF];cases c:g x with
   |true=>simpa using (a 0).symm
   |false=>
    simp only[bξ,if_false];exact b (k+1) L λi=>by rw[show k+1+i=k+(i+1)by omega,a];simp
 grind
variable{f:Frame}
def ng{a:Int}(h:H.Tk=some i)(h0:a≠0):Yl H f a=(H,a):=by simp_all[Yl]
def nh(h:H.Tk=some i)(h0:Yp H.plan f≠0):Yl H f 0=(H,Yp H.plan f):=by simp_all[Yl]
def ni(h:H.Tk=some i)(h0:Yp H.plan f=0)(a:JE (H.p i) f=none):Yl H f 0=((H.Zh i λp=>{p with frames:=p.frames++[f]}).WT i,0):=by
 unfold Yl;rw[h];dsimp only;rw[Zm C,Zm I,wD,show ix _ _=none from a];rfl
def nj{g:Frame}(h:H.Tk=some i)(h0:Yp H.plan f=0)(a:JE (H.p i) f=some k)(b:(H.p i).frames[k]?=some g):Yl H f 0=if g.values=f.values then(H.WT i,0)else(H,13):=by
 unfold Yl;rw[h];dsimp only;rw[Zm C,Zm I,wD,show ix _ _=some k from a];simp_all
def aF(h:H.Tk=some i):Sz H=((H.Zh i<|Sy H.plan H.env H.YX).WT i,0):=by unfold Sz;rw[h]
variable{m:Int}
def HA.GC.XR{A1:HA}{w:ZN}{f:Part->Part}(h:A.GC A1 i w (A.plain.Zh i f) m):A1.plan=A.plan/\A1.env=A.env/\A1.YX=A.YX/\A1.entries=A.entries:=
 ⟨rn Z6.plan h.plain,rn Z6.env h.plain,rn Z6.YX h.plain,rn Z6.entries h.plain⟩
def HA.GC.netE{A1:HA}{w:ZN}(h:A.GC A1 i w (A.plain.WT i) m):A1.plan=A.plan/\A1.env=A.env/\A1.YX=A.YX/\A1.entries=A.entries:=
 ⟨rn Z6.plan h.plain,rn Z6.env h.plain,rn Z6.YX h.plain,rn Z6.entries h.plain⟩
theorem yS(l:bc)(i:Nat):decide (0<=ZC (λk=>decide<|i=k) 0 l)=l.contains i:=by
 have vy:∀(l:bc)(k:Nat),decide (0<=ZC (λk=>decide<|i=k) k l)=l.contains i:=by
  intro l
  induction l with
  |nil=>intro k;rfl
  |cons x l a=>
   intro k;rw[ZC,List.contains_cons];grind
 grind
variable{t:ba}
def zF(d:A.Ok m)(x:m+2<=1000):Vi prog 175 [] [.raw<|pV A.b,.agg (Words.mk [] [t]).cs] [(3000,.res<|Z9 A.mem)] [(3000,.res<|JX A.b (XZ A.plain t).1<|m+2)]<|bv (XZ A.plain t).2:=by
 refine cG func175 O λ{_ _}=>?_
 have g:=HA.OY A t;refine ro 11 O ?_;refine kc (S.Zi (n:=0) X1 .none O (zt O) (.Zg O) O (by exact aθ _) O)<|kc (zV T6 O O)<|kc (S.Wc ((λJ u z=>(M8 d (n:=t) u z).Tq u)) call94 .none O (zc O<|zc O .nil) O O) ?_;refine jm O<|kc (S.Wc ((λJ u z=>(RG d u z).Tq u)) call211 .none O (zc O .nil) O O) ?_;refine rr 8 O<|kc (S.Km underlying163 .none O<|zt O)<|kD<|OK.cond O O (λr=>?_) λr=>?_
 ·have B:ix (λv=>decide<|v.c.name=t) A.Z5=none:=RB r;refine ro 5 O ?_;have f:XZ A.plain t=(A.plain,6):=by unfold XZ;rw[g,B]
  refine OK.YS (J':=JX A.b (XZ A.plain t).1<|m+2) O (JX.ZV _ _ _) (λh Y w e=>HA.jx d I x (by rw[f]) e) ?_;refine OK.ret ⟨Y3.r1 (zo O O) ?_,O,Zo⟩;rw[f]
 obtain⟨j,e⟩:∃j,ix (λv=>decide<|v.c.name=t) A.Z5=some j:=Ta r;obtain⟨l,a⟩:=Yh (Y8 e).1;rw[Vx e<|HA.cb? a];refine ro 4 O ?_;rcases hu:ix (λv=>decide<|v.p.place=0) A.parts with _|i
 ·rw[tX hu];have hB:A.plain.busy t=false:=by unfold Z6.busy;rw[HA.RO,hu]
  refine kV (.c (zm O)<|.c (S.uf underlying104 .none O<|zt O)<|.c (zm O)<|.c (zG O W)<|.c (zG O W)<|.c (zG O W)<|.c (zG O W)<|.c (zG O W)<|.c (zG O W)<|.c (zG O W)<|.c (zG O W)<|.c (zG O W)<|.c (zG O W)<|.c (zG O W)<|.c (S.Ug .none O (zt O) .Wx W) .nil) ?_;refine rd 5 O ?_;have f:=F4 (g.trans e) hB;refine ro 5 O<|kc (S.Yf (xs':=({l with c:={l.c with ZA:=0}}:VP).cs) (.c j) YK .none (zt O) (.Zg O) O (HA.G6 a) O O O O O)<|rr 3 O ?_;refine OK.l7 {l.c with ZA:=0} d a O (by dsimp only;have:=d.cl l<|mr a;omega) λC o s=>?_
  refine ro 4 O ?_;refine OK.YS (J':=JX A.b (XZ A.plain t).1<|m+2) O (JX.ZV _ _ _) (λh Y w e=>Sg o.ok I x o.b (by rw[o.plain,f,←Hy (HA.Ua a) (λc=>{c with ZA:=0})]) e) ?_;refine OK.ret ⟨Y3.r1 (zo O O) ?_,O,Zo⟩;rw[f]
 obtain⟨v,y⟩:=Yh (Y8 hu).1;rw[Vx hu<|HA.CS y];have hB:A.plain.busy t=decide (v.p.Yb=t):=by unfold Z6.busy;rw[HA.RO,hu];dsimp only;rw[HA.RQ y]
 refine kV (.c (zm O)<|.c (S.uf underlying104 .none O<|zt O)<|.c (zm O)<|.c (S.move (.yes O O O W) O<|zt O)<|.c (S.qG (.yes O O O W) O (zt O) O)<|.c (S.Ub Xu (.yes O O O W) O<|zt O)<|.c (S.Ub CD (.yes O O O W) O<|zt O)<|.c (S.Uc T6 (.yes O O O W) O (zt O) O<|Z9.Xh (k:=.p i) (HA.XW y) O<|.same _)<|.c (S.move (.yes O O O W) O<|zt O)<|.c (S.qG (.yes O O O W) O (zt O) O)<|.c (S.Ub Nl (.yes O O O W) O<|zt O)<|.c (S.Ub Gx (.yes O O O W) O<|zt O)<|.c (S.Uc T6 (.yes O O O W) O (zt O) O<|Z9.Xh (k:=.c j) (HA.G6 a) O<|.same _)<|.c (S.vl (.yes O O O W) O (zt O)<|zt O)<|.c (S.Tc .none O (zt O) (zt O) W) .nil) ?_;refine Ab.D.code<|kB O (λq=>?_) λq=>?_
 ·have f:=uS (g.trans e) (by rw[hB,de,←HA.wR e a];exact q);refine ro 5 O ?_;refine OK.YS (J':=JX A.b (XZ A.plain t).1<|m+2) O (JX.ZV _ _ _) (λh Y w e=>HA.jx d I x (by rw[f]) e) ?_;refine OK.ret ⟨Y3.r1 (zo O O) ?_,O,Zo⟩;rw[f]
 have f:=F4 (g.trans e) (by rw[hB,ul,←HA.wR e a];exact q);refine ro 8 O<|kc (S.Yf (xs':=({l with c:={l.c with ZA:=0}}:VP).cs) (.c j) YK .none (zt O) (.Zg O) O (HA.G6 a) O O O O O)<|rr 3 O ?_;refine OK.l7 {l.c with ZA:=0} d a O (by dsimp only;have:=d.cl l<|mr a;omega) λC o s=>?_
 refine ro 4 O ?_;refine OK.YS (J':=JX A.b (XZ A.plain t).1<|m+2) O (JX.ZV _ _ _) (λh Y w e=>Sg o.ok I x o.b (by rw[o.plain,f,←Hy (HA.Ua a) (λc=>{c with ZA:=0})]) e) ?_;refine OK.ret ⟨Y3.r1 (zo O O) ?_,O,Zo⟩;rw[f]
def uG(a:A.Ok m)(X:m+2<=1000):Vi prog 169 [] [.raw<|pV A.b,.agg (Words.mk [n] [r,c]).cs] [(3000,.res<|Z9 A.mem)] [(3000,.res<|JX A.b (W_ A.plain n r c).1<|m+2)]<|bv (W_ A.plain n r c).2:=by
 refine cG func169 O λ{_ _}=>?_
 have hp1:=HA.TR A n;have T:=HA.L6 A r;have Q:=HA.OY A c;have hp4:=HA.RO A;have hlp:=a.lp;have hm0:=a.m0;have hPl:(R A.plain.parts:Int)=R A.parts:=by show(R (A.parts.map _):Int)=_;rw[Zx]
 obtain⟨e,V⟩:∃e,ZW [Z8 (decide<|n<=1000000) 2,Z8 (A.plain.U1 n).isNone 5,Z8 ((A.plain.AI r).isSome&&(A.plain.Ob c).isSome) 6,Z8 A.plain.Tk.isNone 17]=e:=⟨_,rfl⟩;have hw:=V;rw[hp1,T,Q,hp4]at hw;refine ro 10 O ?_;refine kc (S.Zi (n:=0) X9 .none O (zt O) (.Zg O) O (by exact aθ _) O) ?_;refine rr 5 O ?_;refine kV (.c (zm O)<|.c (zf DG O)<|.c (zl wQ O O O O)<|.c (S.Zi (n:=0) X1 .none O (zt O) (.Zg O) O (by exact aθ _) O)<|.c (zV T6 O O)<|.c (S.Wc ((λJ z G=>(NT a (n:=r) z G).Tq z)) call96 .none O (zc O<|zc O .nil) O O)<|.c (zm O)<|.c (zf DG O)<|.c (zl wQ O O O O)<|.c (S.Zi (n:=1) X1 .none O (zt O) (.Zg O) O (by exact Nat.one_lt_two) O)<|.c (zV T6 O O)<|.c (S.Wc ((λJ z G=>(M8 a (n:=c) z G).Tq z)) call94 .none O (zc O<|zc O .nil) O O)<|.c (za O)<|.c (za O) .nil) ?_;refine rd 5 O<|kc (zK ZT call68 O)<|jm O<|jm O<|kc (S.Wc ((λJ z G=>(II a (n:=n) z G).Tq z)) call116 .none O (zc O<|zc O .nil) O O) ?_;refine kc (S.Km underlying104 .none O<|zt O)<|kc (zK ZT call68 O)<|jm O<|kc (S.uf underlying157 .none O<|zt O)<|jm O<|RK.split (t:=36) O (λN=>?_) λN=>?_
 ·have hb:(W9 (λv=>decide<|v.r.name=r) A.ZF).isSome=true:=by simpa only[En]using N
  rw[hb,tn]at hw;refine kc (S.move (zg O O) O<|zt O)<|kc (S.uf underlying163 (zg O O) O<|zt O)<|kc (S.Tc .none O (zt O) (zt O) O)<|kc (zK ZT call68 O)<|jm O<|kc (S.Wc ((λJ z G=>(RG a z G).Tq z)) call211 .none O (zc O .nil) O O) ?_;refine kc (S.Km underlying104 .none O<|zt O)<|kc (zK ZT call68 O)<|RK.c (zM [[_],[_],[_],[_]] V6 O O O O)<|kc (S.XY (YI (l:=[_,_,_,_])) call67 .none O (zc O .nil) (.cons (.p (.own O O) O) .nil) O) ?_;refine rr 10 O<|kB O (λd=>?_) λd=>?_
  ·simp only[GK,En,M1,Kp,aι]at d;rw[hw]at d;have F:=OG V d;refine ro 6 O ?_;refine OK.YS (J':=JX A.b (W_ A.plain n r c).1<|m+2) O (JX.ZV _ _ _) (λh Y w E=>HA.jx a I X (by rw[F]) E) ?_;refine OK.ret ⟨Y3.r1 (zo O O) ?_,O,Zo⟩;rw[F];refine YL ?_;simp only[GK,En,M1,Kp,aι];exact hw
  have h0:e=0:=by rw[←hw];simpa only[GK,En,M1,Kp,aι,ne_eq,Zu]using d
  rw[h0]at V hw;obtain⟨q1,q2,q3,q4⟩:=G2 hw;obtain⟨k,hk⟩:=sk.1 hb;obtain⟨hk1,_⟩:=VK hk;obtain⟨f,L⟩:=Yh hk1;obtain⟨j,E⟩:=sk.1 q3;obtain⟨i,g⟩:=Yh (Y8 E).1;have hcl:=a.cl i<|mr g;rw[Vx hk<|HA.vb? L,Vx E<|HA.cb? g];have M:=Lf V (T.trans hk) (HA.LU L) (Q.trans E)<|HA.Ua g;rw[hPl]at M;refine ro 4 O ?_;refine kV (.c (zm O)<|.c (zn O O)<|.c (zr Nl O)<|.c (zr Qo O)<|.c (zH YK O<|Z9.Xh (k:=.c j) (HA.G6 g) O<|.same _)<|.c (zm O)<|.c (zn O O)<|.c (zr Nl O)<|.c (zr rR O)<|.c (zH YK O<|Z9.Xh (k:=.c j) (HA.G6 g) O<|.same _)<|.c (S.lss .none O (zt O)<|zt O)<|.c (zK ZT call68 O)<|.c (zm O)<|.c (zn O O)<|.c (zr DD O)<|.c (zH (u:=.sl<|A.parts.map Su) QF O<|Z9.Xh (k:=.Y1) O O<|.sl a.ps)<|.c (zk SC O)<|.c (S.lss .none O (zt O)<|.Zg O)<|.c (zK ZT call68 O)<|.c (zM [[_],[_]] V6 O O O O)<|.c (S.XY (YI (l:=[_,_])) call67 .none O (zc O .nil) (.cons (.p (.own O O) O) .nil) O)<|.c (za O) .nil) ?_;refine rd 7 O<|kB O (λH=>?_) λH=>?_
  ·have F:=M.trans<|Zn H;refine ro 6 O ?_;refine OK.YS (J':=JX A.b (W_ A.plain n r c).1<|m+2) O (JX.ZV _ _ _) (λh Y w E=>HA.jx a I X (by rw[F]) E) ?_;refine OK.ret ⟨Y3.r1 (zo O O) ?_,O,Zo⟩;rw[F]
  have F:=M.trans<|Zm H;obtain⟨s1,s2⟩:=sA<|Zu.1 H;have hsl:i.c.ZA<i.c.Wb:=pf s1;refine ro 8 O ?_;refine kc (zH YK O<|Z9.Xh (k:=.c j) (HA.G6 g) O<|.same _) ?_;refine Rr 4 O I<|kc (S.Yf (xs':=({i with c:={i.c with ZA:=i.c.ZA+1}}:VP).cs) (.c j) YK .none (zt O) (zt O) O (HA.G6 g) O O O O O) ?_;refine rr 3 O ?_;refine OK.l7 {i.c with ZA:=i.c.ZA+1} a g O (by dsimp only;omega) λo W K=>?_
  have B:o.ZF[k]?=some f:=by rw[W.ZF];exact L
  have y:=W.ok;have hlp1:=y.lp;rw[←W.b];refine OK.Sd follows (ι:=((Nat×Nat)×Nat×Nat×Nat)) ((0,0),0,0,0) 33 O (S.aU (s:=[(87,.raw<|o.ph.v<|R o.parts),(115,.own 115 1),(2115,.W8 1 [] [.Wt 114 1 0] []),(2114,.W8 14 [] [bv n,.str f.r.name,bv f.r.YD,.str i.c.name,.ZM,bv 0,.bool false,bv 0,.bool false,bv 0,bv 0,bv 0,bv 0,.own 112 3] []),(2112,.arr 1 [[bv f.entry],[bv i.entry],[bv o.entries]]),(3000,.res<|Z9 o.mem)]) (sz:=14) (sz2:=1) (j:=115) (k:=114) (k2:=112) (n2:=3) (vv:=[bv n,.str f.r.name,bv f.r.YD,.str i.c.name,.ZM,bv 0,.bool false,bv 0,.bool false,bv 0,bv 0,bv 0,bv 0,.own 112 3]) (qr:=[[bv f.entry],[bv i.entry],[bv o.entries]]) (λhv=>[bv n,.str f.r.name,bv f.r.YD,.str i.c.name,.raw<|.slice none 0 0,bv 0,.bool false,bv 0,.bool false,bv 0,bv 0,bv 0,bv 0,.raw hv]) .ps (.p<|R o.parts) (.e<|R o.parts) gS O (zt O) y.ps Z Z (zt O) O O O O C O O (λb vz=>⟨.inl ⟨O,O⟩,.inl ⟨O,O⟩,.inl ⟨O,O⟩,.inl ⟨O,O⟩,.inl ⟨O,O⟩,.inl ⟨O,O⟩,.inl ⟨O,O⟩,.inl ⟨O,O⟩,.inl ⟨O,O⟩,.inl ⟨O,O⟩,.inl ⟨O,O⟩,.inl ⟨O,O⟩,.inl ⟨O,O⟩,.inr ⟨O,O⟩,Zo⟩) (by simp only[Zx];omega)<|by simp only[Zx,maxLen];omega).st (λq=>(.cs (zm O) (.cs (zm O) (.cs (zn O O) (.cs (zr DD O) (.cs (zH QF O<|Z9.Xh (k:=.Y1) O O<|.same _) (.cs (zm O) (.cs (zm O) (.cs (zn O O) (.cs (zr Jd O) (.cs (zr Jc O) (.cs (zJ (us:=[.str f.r.name,bv f.r.YD]) Q3 O<|Z9.KL (k:=.v k) (xs:=f.cs) (HA.sv B) ⟨.same _,.same _,Zo⟩ O) (.cs (zm O) (.cs (zn O O) (.cs (zr Nl O) (.cs (zr Gx O) (.cs (zH T6 O<|Z9.Xh (k:=.c j) (HA.G6 K) O<|.same _) (.cs (zU bu57 O O) (.cs (zm O) (.cs (zn O O) (.cs (zr kC O) (.cs (zH YK O<|Z9.Xh (k:=.v k) (HA.sv B) O<|.same _) (.cs (zm O) (.cs (zn O O) (.cs (zr kF O) (.cs (zH YK O<|Z9.Xh (k:=.c j) (HA.G6 K) O<|.same _) (.cs (zm O) (.cs (zn O O) (.cs (zr TY O) (.cs (zH YK O<|Z9.Xh (k:=.Y1) O O<|.same _) (.cs (zM [[_],[_],[_]] Xr O O O O) (.cs (zU bu109 O O) (.cs (S.j8 (k:=114) O .none O (zt O) O) (.cs (S.Ig (k:=115) gS .none O (zt O) O)
   (.x ⟨O,O,O,O,O,O,Zo⟩<|.cn (zn O O)<|.cn (zr DD O)<|.cn (S.Yf (xs:=o.cs) (xs':=(o.newP ⟨q.2.1,none,some q.1,⟨n,f.r.name,f.r.YD,i.c.name,[],0,false,0,false,Span.zero⟩,[f.entry,i.entry,o.entries]⟩ q.2.2).cs) (.Y1) QF .none (zt O) (zt O) O ((HM.Z0 _ _ Z).trans<|(HM.Z0 _ _ Z).trans<|(HM.Z0 _ _ Z).trans o.atH) O O O O<|iP o ⟨q.2.1,none,some q.1,⟨n,f.r.name,f.r.YD,i.c.name,[],0,false,0,false,Span.zero⟩,[f.entry,i.entry,o.entries]⟩ q.2.2) .nil))))))))))))))))))))))))))))))))))) λq=>?_
  refine Ab.D.code<|kO ?_;refine OK.newP ⟨n,f.r.name,f.r.YD,i.c.name,[],0,false,0,false,Span.zero⟩ [f.entry,i.entry,o.entries] y I O O O (by dsimp only;decide) ⟨y.vn f<|mr B,a.cn i<|mr g⟩ λA2 U hb2 P=>?_
  refine ro 4 O ?_;refine OK.YS (J':=JX o.b (W_ A.plain n r c).1<|m+2) O (JX.ZV _ _ _) (λh Y w E=>Sg U I X hb2 (by rw[P,W.plain,F,←Hy (HA.Ua g) (λc=>{c with ZA:=c.ZA+1}),W.entries];rfl) E) ?_;refine OK.ret ⟨Y3.r1 (zo O O) ?_,O,Zo⟩;rw[F]
 have hb:(W9 (λv=>decide<|v.r.name=r) A.ZF).isSome=false:=by simpa[En]using N
 rw[hb,tp]at hw;refine rr 3 O<|kc (zK ZT call68 O)<|jm O<|kc (S.Wc ((λJ z G=>(RG a z G).Tq z)) call211 .none O (zc O .nil) O O) ?_;refine kc (S.Km underlying104 .none O<|zt O)<|kc (zK ZT call68 O)<|RK.c (zM [[_],[_],[_],[_]] V6 O O O O)<|kc (S.XY (YI (l:=[_,_,_,_])) call67 .none O (zc O .nil) (.cons (.p (.own O O) O) .nil) O) ?_;refine rr 10 O<|kB O (λd=>?_) λd=>?_
 ·simp only[GK,En,M1,Kp,aι]at d;rw[hw]at d;have F:=OG V d;refine ro 6 O ?_;refine OK.YS (J':=JX A.b (W_ A.plain n r c).1<|m+2) O (JX.ZV _ _ _) (λh Y w E=>HA.jx a I X (by rw[F]) E) ?_;refine OK.ret ⟨Y3.r1 (zo O O) ?_,O,Zo⟩;rw[F];refine YL ?_;simp only[GK,Kp,aι];exact hw
 exfalso;have h0:e=0:=by rw[←hw];simpa only[GK,En,M1,Kp,aι,ne_eq,Zu]using d
 rw[h0]at hw;obtain⟨_,_,q3,_⟩:=G2 hw;cases q3
def jw(F:A.Ok m)(hm:m+2<=1000){w:Words}:Vi prog 171 [] [.raw<|pV A.b,.agg w.cs] [(3000,.res<|Z9 A.mem)] [(3000,.res<|JX A.b (Sz A.plain).1<|m+2)]<|bv (Sz A.plain).2:=by
 refine cG func171 O λ{_ _}=>?_
 have T:=HA.RO A;refine ro 9 O<|kc (S.Wc ((λJ B W=>(RG F B W).Tq B)) call211 .none O (zc O .nil) O O) ?_;refine rr 7 O<|kc (S.Km underlying104 .none O<|zt O)<|kD<|OK.cond O O (λc9=>?_) λc9=>?_
 ·have hN:ix (λv=>decide<|v.p.place=0) A.parts=none:=RB c9;refine ro 5 O ?_;have y:Sz A.plain=(A.plain,12):=by unfold Sz;rw[T,hN]
  refine OK.YS (J':=JX A.b (Sz A.plain).1<|m+2) O (JX.ZV _ _ _) (λh Y w K=>HA.jx F I hm (by rw[y]) K) ?_;refine OK.ret ⟨Y3.r1 (zo O O) ?_,O,Zo⟩;rw[y]
 obtain⟨i,E⟩:∃i,ix (λv=>decide<|v.p.place=0) A.parts=some i:=Ta c9;obtain⟨v,z⟩:=Yh (Y8 E).1;rw[Vx E<|HA.CS z];refine ro 3 O ?_;have y:=aF<|T.trans E;refine ro 6 O ?_;refine kc (zH CI O<|Z9.Xh (k:=.Y1) O O<|.same _) ?_;refine rr 3 O<|kc (S.Yf (xs':=({v with p:={v.p with place:=1}}:ZN).cs) (.p i) YK .none (zt O) (.Zg O) O (HA.XW z) O O O O O)<|rr 3 O ?_;refine kc (S.Yf (xs':=({v with p:={v.p with place:=1,WD:=A.YX}}:ZN).cs) (.p i) CI .none (zt O) (zt O) O (HM.YW _ _ _) O O O O O) ?_;refine rr 3 O ?_;rw[HM.set_set];refine OK.KV {v.p with place:=1,WD:=A.YX} F z O O (by dsimp only;decide) λA1 L=>?_
 have g:=L.ok;obtain⟨G,hn2,U,hn4⟩:=L.XR;obtain⟨u,t,Q,r⟩:∃u:ZN,A1.parts[i]?=some u/\u.b=v.b/\u.p={v.p with place:=1,WD:=A.YX}:=⟨_,L.at_,rfl,rfl⟩;rw[←Q,←L.b];refine OK.Sd follows (ι:=(Nat×Nat)) (0,0) 10 O (S.MH (s:=[(26,.raw<|u.eh.v u.es.length),(31,.own 31 1),(2031,.arr 1 [[bv A1.entries]]),(3000,.res<|Z9 A1.mem)]) (m:=1) (qr:=[[bv A1.entries]]) (.e i) Xr O (zt O) (g.es? t) (zt O) O O O C (by simp only[Ye,Zx];have:=g.le _<|mr t;have:=g.m0;omega)<|by simp only[Ye,Zx,maxLen];have:=g.le _<|mr t;have:=g.m0;omega).st (λq=>(.cs (zm O) (.cs (zm O) (.cs (zn O O) (.cs (zr TW O) (.cs (zH Md O<|Z9.Xh (k:=.p i) (HA.XW t) O<|.same _) (.cs (zm O) (.cs (zn O O) (.cs (zr TY O) (.cs (zH YK O<|Z9.Xh (k:=.Y1) O O<|.same _) (.cs (zM [[_]] Xr O O O O)
  (.x ⟨O,O,O,O,Zo⟩<|.cn (zn O O)<|.cn (zr TW O)<|.cn (S.Yf (xs:=u.cs) (xs':=({u with eh:=some q,es:=u.es++[A1.entries]}:ZN).cs) (.p i) Md .none (zt O) (zt O) O ((HM.Z0 _ _ Z).trans<|HA.XW t) O O O O<|PN u q _) .nil)))))))))))) λq=>?_
 refine rd 3 O ?_;refine OK.wY q _ g I t O O λa l=>?_
 have f:=l.ok;obtain⟨H,hk2,V,hk4⟩:=l.netE;obtain⟨d,j,P,o⟩:∃d:ZN,a.parts[i]?=some d/\d.b=u.b/\d.p=u.p:=⟨_,l.at_,rfl,rfl⟩;rw[←P,←l.b];refine ro 4 O ?_;refine kc (zH CI O<|Z9.Xh (k:=.Y1) O O<|.same _)<|kD<|OK.cond O O (λN=>?_) λN=>?_
 ·have hl:A.YX=true:=by rw[←U,←V];exact N
  have X:({d.p with verdict:=if Xa a.plan a.env (WG a.plan d.p.frames)=0 then Us a.env (WG a.plan d.p.frames)else 0}:Part)=Sy A.plain.plan A.plain.env A.plain.YX v.p:=by
   rw[o,r,H,hk2,G,hn2];show _=Sy A.plan A.env A.YX v.p;unfold Sy;rw[Zn hl]
  refine kV (.c (zm O)<|.c (zm O)<|.c (zn O O)<|.c (zr TK O)<|.c (zr I2 O)<|.c (zJ (us:=a.plan.cs) Nb O<|Z9.KL (k:=.Y1) (xs:=a.cs) O ⟨.same _,.same _,Zo⟩ O)<|.c (zm O)<|.c (zn O O)<|.c (zr kf O)<|.c (zJ (us:=a.env.cs) L5 O<|Z9.KL (k:=.Y1) (xs:=a.cs) O ⟨.same _,.same _,.same _,Zo⟩ O)<|.c (zm O)<|.c (zm O)<|.c (S.Wc ((λJ B W=>(NU f j B W).Tq B)) call216 .none O (zc O<|zc O .nil) O O)<|.c (zK GI call27 O)<|.c (zm O)<|.c (zX O O O)<|.c (zX O O O)<|.c (zn O O)<|.c (zr Xu O)<|.c (zr rA O)<|.c (S.Yf (xs':=({d with p:={d.p with verdict:=if Xa a.plan a.env (WG a.plan d.p.frames)=0 then Us a.env (WG a.plan d.p.frames)else 0}}:ZN).cs) (.p i) YK .none (zt O) (zt O) O (HA.XW j) O O O O O) .nil) ?_;refine Ab.D.code<|kO<|OK.KV {d.p with verdict:=if Xa a.plan a.env (WG a.plan d.p.frames)=0 then Us a.env (WG a.plan d.p.frames)else 0} f j O O (f.pl d<|mr j) λA3 n=>?_;refine ro 4 O ?_;refine OK.YS (J':=JX a.b (Sz A.plain).1<|m+2) O (JX.ZV _ _ _) (λh Y w K=>Sg n.ok I hm n.b (by rw[n.plain,l.plain,L.plain,y,Z6.set3<|HA.Yi z,X,Z6.T4<|HA.Yi z]) K) ?_;refine OK.ret ⟨Y3.r1 (zo O O) ?_,O,Zo⟩;rw[y]
 have hl:¬A.YX=true:=by rw[←U,←V,N];decide
 refine ro 4 O<|kc (S.Wc ((λJ B W=>(KX f j B W).Tq B)) call217 .none O (zc O<|zc O .nil) O O) ?_;refine kc (S.not .none O<|zt O)<|kD<|OK.cond O O (λM=>?_) λM=>?_
 ·have X:({d.p with verdict:=1}:Part)=Sy A.plain.plan A.plain.env A.plain.YX v.p:=by
   have hw:¬WX A.plan v.p=true:=by
    have h:=M;rw[o,r,H,G]at h;unfold WX;simpa using h
   rw[o,r];show _=Sy A.plan A.env A.YX v.p;unfold Sy;rw[Zm hl,Zm hw]
  refine ro 5 O<|kc (S.Yf (xs':=({d with p:={d.p with verdict:=1}}:ZN).cs) (.p i) YK .none (zt O) (.Zg O) O (HA.XW j) O O O O O)<|rr 3 O<|OK.KV {d.p with verdict:=1} f j O O (f.pl d<|mr j) λA3 n=>?_;refine ro 4 O ?_;refine OK.YS (J':=JX a.b (Sz A.plain).1<|m+2) O (JX.ZV _ _ _) (λh Y w K=>Sg n.ok I hm n.b (by rw[n.plain,l.plain,L.plain,y,Z6.set3<|HA.Yi z,X,Z6.T4<|HA.Yi z]) K) ?_;refine OK.ret ⟨Y3.r1 (zo O O) ?_,O,Zo⟩;rw[y]
 have X:({v.p with place:=1,WD:=A.YX}:Part)=Sy A.plain.plan A.plain.env A.plain.YX v.p:=by
  have hw:WX A.plan v.p=true:=by
   have h:=M;rw[o,r,H,G]at h;unfold WX;simpa using h
  show _=Sy A.plan A.env A.YX v.p;unfold Sy;rw[Zm hl,Zn hw]
 refine ro 7 O ?_;refine OK.YS (J':=JX a.b (Sz A.plain).1<|m+2) O (JX.ZV _ _ _) (λh Y w K=>Sg l.ok I hm O (by rw[l.plain,L.plain,y,X,Z6.T4<|HA.Yi z]) K) ?_;refine OK.ret ⟨Y3.r1 (zo O O) ?_,O,Zo⟩;rw[y]
def zh{g:Frame}:Ct prog 215 [.agg g.cs,.Yt f.cs]<|.bool<|decide<|g.tick=f.tick:=by
 refine cI func215 O<|ro 16 O<|kR O O ?_;rfl
def B_{l:List Frame}:Ct prog 214 [.sl<|l.map Frame.cs,.fn 215 [.Yt f.cs]]<|bv<|ZC (λg:Frame=>decide<|g.tick=f.tick) 0 l:=by
 refine cI func214 O<|OK.XF (vi:=l.map Frame.cs) (t:=0) O O λqk=>?_;rw[Zx]at qk;unfold maxLen at qk;refine ro 9 O<|kc (zk Qr O)<|rr 4 O ?_;refine OK.loop (G:=Nat) [] (λi=>[(0,.sl<|l.map Frame.cs),(1,.fn 215 [.Yt f.cs]),(7,bv<|R l),(8,bv i)]) (λi=>i<=R l/\ZC (λg:Frame=>decide<|g.tick=f.tick) 0 l=ZC (λg:Frame=>decide<|g.tick=f.tick) i (l.drop i)) (λi=>R l - i) 0 ⟨Zr _,O⟩ ⟨O,O,O,O,Zo⟩ (λ_=>O) ?_;rintro i ⟨hi,a⟩;refine ro 6 O<|kB O (λd=>?_) λd=>?_
 ·have c:i<R l:=by omega
  refine ro 15 O<|kc (zI Qr O I O)<|kc (S.Vj Ni .none O (zt O) O O)<|kc (S.Tm (zh (g:=l[i]) (f:=f)) call215 .none O (zt O) (zc O .nil) O O O)<|kD<|kB O (λb=>?_) λb=>?_
  ·refine ro 6 O<|kR O O ?_;refine YL ?_;rw[a,Y0 _ I];simp_all
  refine Ro 7 O I (Ab.D.lp ⟨i+1,⟨by omega,?_⟩,I,O,O,O,O,Zo⟩);rw[a,Y0 _ I];simp_all
 refine ro 7 O<|kR O O ?_;refine YL ?_;have:i=R l:=by omega
 subst this;rw[a,da];rfl
def ux(j:A.Ok m)(W:m+2<=1000)(ht:R t<=600)(Q:Y_ A.plan=0):U_ prog 170 [] [.raw<|pV A.b,.agg (Words.mk [] [t]).cs] [(3000,.res<|Z9 A.mem)] [(3000,.res<|JX A.b (Yl A.plain (ZI t).1 (ZI t).2).1<|m+2)]<|bv (Yl A.plain (ZI t).1 (ZI t).2).2:=by
 refine cH func170 O λz=>?_
 have X:=HA.RO A;have hm0:=j.m0;refine ro 9 O<|kc (S.Wc ((λJ hS hJ=>(RG j hS hJ).Tq hS)) call211 .none O (zc O .nil) O O) ?_;refine rr 7 O<|kc (S.Km underlying104 .none O<|zt O)<|kD<|OK.cond O O (λV=>?_) λV=>?_
 ·have hN:ix (λv=>decide<|v.p.place=0) A.parts=none:=RB V;refine ro 5 O ?_;have z:Yl A.plain (ZI t).1 (ZI t).2=(A.plain,12):=by unfold Yl;rw[X,hN]
  refine OK.YS (J':=JX A.b (Yl A.plain (ZI t).1 (ZI t).2).1<|m+2) O (JX.ZV _ _ _) (λh Y w H=>HA.jx j I W (by rw[z]) H) ?_;refine OK.ret ⟨Y3.r1 (zo O O) ?_,O,Zo⟩;rw[z]
 obtain⟨i,P⟩:∃i,ix (λv=>decide<|v.p.place=0) A.parts=some i:=Ta V;obtain⟨v,F⟩:=Yh (Y8 P).1;rw[Vx P<|HA.CS F];refine ro 3 O ?_;have N:=X.trans P;have hlf:=j.lf v<|mr F;refine ro 3 O ?_;refine kc (S.Zi (n:=0) X1 .none O (zt O) (.Zg O) O (by exact aθ _) O)<|kc (zV T6 O O)<|kc (S.Xo (Ij (l:=t) I) z call212 .none O (zc O .nil) O) ?_;refine rr 15 O<|kB O (λM=>?_) λM=>?_
 ·refine kV (.c (zm O)<|.c (zn O O)<|.c (zr TK O)<|.c (zr I2 O)<|.c (zJ (us:=A.plan.cs) Nb O<|Z9.KL (k:=.Y1) (xs:=A.cs) O ⟨.same _,.same _,Zo⟩ O)<|.c (zL Ni O O O O)<|.c (zK Ih call213 O)<|.c (za O) .nil) ?_;refine rd 8 O<|kB O (λy=>?_) λy=>?_
  ·rw[Zn Q]at y;have z:Yl A.plain (ZI t).1 (ZI t).2=(A.plain,Yp A.plan (ZI t).1):=by rw[M];exact nh N y
   refine ro 6 O ?_;refine OK.YS (J':=JX A.b (Yl A.plain (ZI t).1 (ZI t).2).1<|m+2) O (JX.ZV _ _ _) (λh Y w H=>HA.jx j I W (by rw[z]) H) ?_;refine OK.ret ⟨Y3.r1 (zo O O) ?_,O,Zo⟩;rw[z,Zn Q]
  rw[Zn Q]at y;have hfe:Yp A.plan (ZI t).1=0:=Zu.1 y;refine ro 3 O<|OK.Tr [] [(0,.raw<|pV A.b),(5,.raw<|pV v.b),(3000,.res<|Z9 A.mem)] 6 O O O O O O ⟨O,O,O,Zo⟩ O<|ro 5 O<|kc (zH (u:=.sl<|v.p.frames.map Frame.cs) P8 O<|Z9.Xh (k:=.p i) (HA.XW F) O<|.sl<|j.fs? F)<|kc (S.Xd .none O (zt O) O)<|kc (zK (B_ (l:=v.p.frames) (f:=(ZI t).1)) call214 O)<|rr 12 O<|kB O (λE=>?_) λE=>?_
  ·have hN:JE (A.plain.p i) (ZI t).1=none:=by
    rw[HA.RQ F];rw[SO]at E;unfold JE;cases h:ix (λg:Frame=>decide<|g.tick=(ZI t).1.tick) v.p.frames with
    |none=>rfl
    |some k=>rw[h]at E;simp at E;omega
   have z:Yl A.plain (ZI t).1 (ZI t).2=((A.plain.Zh i λp=>{p with frames:=p.frames++[(ZI t).1]}).WT i,0):=by rw[M];exact ni N hfe hN
   refine OK.Sd follows (ι:=(Nat×Nat)) (0,0) 8 O (S.ig (s:=[(48,.raw<|v.fh.v<|R v.p.frames),(50,.own 50 1),(2050,.arr 2 [(ZI t).1.cs]),(3000,.res<|Z9 A.mem)]) (m:=1) (qr:=[(ZI t).1.cs]) (.f i) ai51 O (zt O) (j.fs? F) (zt O) O O O C (by simp only[Zx];omega)<|by simp only[Zx,maxLen];omega).st (λq=>(.cs (zm O) (.cs (zm O) (.cs (zn O O) (.cs (zr Xu O) (.cs (zr Vr O) (.cs (zH P8 O<|Z9.Xh (k:=.p i) (HA.XW F) O<|.same _) (.cs (S.Vj Ni .none O (zt O) O O) (.cs (zM [[_,_]] ai51 O O O O)
    (.x ⟨O,O,O,O,Zo⟩<|.cn (zn O O)<|.cn (zr Xu O)<|.cn (zr Vr O)<|.cn (S.Yf (xs:=v.cs) (xs':=({v with fh:=some q,p:={v.p with frames:=v.p.frames++[(ZI t).1]}}:ZN).cs) (.p i) P8 .none (zt O) (zt O) O ((HM.Z0 _ _ Z).trans<|HA.XW F) O O O O<|o_ v q _) .nil)))))))))) λq=>?_
   refine rd 3 O<|OK.partF q (ZI t).1 j I F O λo hL=>?_;have a:=hL.ok;obtain⟨r,d,G⟩:∃r:ZN,o.parts[i]?=some r/\r.b=v.b:=⟨_,hL.at_,rfl⟩;have T:=hL.b;have K:Yl A.plain (ZI t).1 (ZI t).2=(o.plain.WT i,0):=by rw[z,hL.plain]
   rw[←G,←T];refine OK.Sd follows (ι:=(Nat×Nat)) (0,0) 10 O (S.MH (s:=[(73,.raw<|r.eh.v r.es.length),(78,.own 78 1),(2078,.arr 1 [[bv o.entries]]),(3000,.res<|Z9 o.mem)]) (m:=1) (qr:=[[bv o.entries]]) (.e i) Xr O (zt O) (a.es? d) (zt O) O O O C (by simp only[Ye,Zx];have:=a.le _<|mr d;have:=a.m0;omega)<|by simp only[Ye,Zx,maxLen];have:=a.le _<|mr d;have:=a.m0;omega).st (λq=>(.cs (zm O) (.cs (zm O) (.cs (zn O O) (.cs (zr TW O) (.cs (zH Md O<|Z9.Xh (k:=.p i) (HA.XW d) O<|.same _) (.cs (zm O) (.cs (zn O O) (.cs (zr TY O) (.cs (zH YK O<|Z9.Xh (k:=.Y1) O O<|.same _) (.cs (zM [[_]] Xr O O O O)
    (.x ⟨O,O,O,O,Zo⟩<|.cn (zn O O)<|.cn (zr TW O)<|.cn (S.Yf (xs:=r.cs) (xs':=({r with eh:=some q,es:=r.es++[o.entries]}:ZN).cs) (.p i) Md .none (zt O) (zt O) O ((HM.Z0 _ _ Z).trans<|HA.XW d) O O O O<|PN r q _) .nil)))))))))))) λq=>?_
   refine Ab.D.code<|kO<|OK.wY q _ a I d O O λA2 B=>?_;refine ro 4 O ?_;refine OK.YS (J':=JX o.b (Yl A.plain (ZI t).1 (ZI t).2).1<|m+2) O (JX.ZV _ _ _) (λh Y w H=>Sg B.ok I W B.b (by rw[B.plain,K]) H) ?_;refine OK.ret ⟨Y3.r1 (zo O O) ?_,O,Zo⟩;rw[K]
  obtain⟨k,hk⟩:∃k,ix (λg:Frame=>decide<|g.tick=(ZI t).1.tick) v.p.frames=some k:=by
   rw[SO]at E;cases h:ix (λg:Frame=>decide<|g.tick=(ZI t).1.tick) v.p.frames with
   |none=>rw[h]at E;simp at E
   |some k=>exact⟨k,rfl⟩
  obtain⟨hkl,_⟩:=Y8 hk;have hik:ZC (λg:Frame=>decide<|g.tick=(ZI t).1.tick) 0 v.p.frames=(k:Int):=by rw[SO,hk]
  have hT3:Yl A.plain (ZI t).1 (ZI t).2=if v.p.frames[k].values=(ZI t).1.values then(A.plain.WT i,0)else(A.plain,13):=by rw[M];exact nj N hfe (by rw[HA.RQ F];exact hk) (by rw[HA.RQ F];exact Zv hkl)
  refine kO<|kV (.c (zm O)<|.c (zn O O)<|.c (zr Xu O)<|.c (zr Vr O)<|.c (zH (u:=.sl<|v.p.frames.map Frame.cs) P8 O<|Z9.Xh (k:=.p i) (HA.XW F) O<|.sl<|j.fs? F)<|.c (zm O)<|.c (S.Zi (n:=k) Qr .none O (zt O) (zt O) hik hkl O)<|.c (S.field QE .none O (zt O) O)<|.c (zV Md O O)<|.c (S.field QE .none O (zt O) O)<|.c (zV Md O O)<|.c (zK Ol call49 O)<|.c (S.Xb .none O<|zt O)<|.c (za O) .nil)<|Ab.D.code<|kB O (λU=>?_) λU=>?_
  ·have z:=hT3.trans (Zm<|by simpa using U);refine ro 5 O ?_;refine OK.YS (J':=JX A.b (Yl A.plain (ZI t).1 (ZI t).2).1<|m+2) O (JX.ZV _ _ _) (λh Y w H=>HA.jx j I W (by rw[z]) H) ?_;refine OK.ret ⟨Y3.r1 (zo O O) ?_,O,Zo⟩;rw[z]
  have z:=hT3.trans (Zn<|by simpa using U);refine ro 4 O ?_;obtain⟨o,L⟩:∃o,o=A:=⟨_,rfl⟩;have T:o.b=A.b:=by rw[L]
  have a:o.Ok<|m+1:=by rw[L];exact j.more I I
  obtain⟨r,d,G⟩:∃r:ZN,o.parts[i]?=some r/\r.b=v.b:=⟨v,by rw[L];exact F,rfl⟩;have K:Yl A.plain (ZI t).1 (ZI t).2=(o.plain.WT i,0):=by rw[z,L]
  rw[show A.mem=o.mem by rw[L]];rw[←G,←T];refine OK.Sd follows (ι:=(Nat×Nat)) (0,0) 10 O (S.MH (s:=[(73,.raw<|r.eh.v r.es.length),(78,.own 78 1),(2078,.arr 1 [[bv o.entries]]),(3000,.res<|Z9 o.mem)]) (m:=1) (qr:=[[bv o.entries]]) (.e i) Xr O (zt O) (a.es? d) (zt O) O O O C (by simp only[Ye,Zx];have:=a.le _<|mr d;have:=a.m0;omega)<|by simp only[Ye,Zx,maxLen];have:=a.le _<|mr d;have:=a.m0;omega).st (λq=>(.cs (zm O) (.cs (zm O) (.cs (zn O O) (.cs (zr TW O) (.cs (zH Md O<|Z9.Xh (k:=.p i) (HA.XW d) O<|.same _) (.cs (zm O) (.cs (zn O O) (.cs (zr TY O) (.cs (zH YK O<|Z9.Xh (k:=.Y1) O O<|.same _) (.cs (zM [[_]] Xr O O O O)
   (.x ⟨O,O,O,O,Zo⟩<|.cn (zn O O)<|.cn (zr TW O)<|.cn (S.Yf (xs:=r.cs) (xs':=({r with eh:=some q,es:=r.es++[o.entries]}:ZN).cs) (.p i) Md .none (zt O) (zt O) O ((HM.Z0 _ _ Z).trans<|HA.XW d) O O O O<|PN r q _) .nil)))))))))))) λq=>?_
  refine Ab.D.code<|kO<|OK.wY q _ a I d O O λA2 B=>?_;refine ro 4 O ?_;refine OK.YS (J':=JX o.b (Yl A.plain (ZI t).1 (ZI t).2).1<|m+2) O (JX.ZV _ _ _) (λh Y w H=>Sg B.ok I W B.b (by rw[B.plain,K]) H) ?_;refine OK.ret ⟨Y3.r1 (zo O O) ?_,O,Zo⟩;rw[K]
 refine ro 9 O<|kB O (λy=>?_) λy=>?_
 ·have z:=ng (f:=(ZI t).1) N y;refine ro 6 O ?_;refine OK.YS (J':=JX A.b (Yl A.plain (ZI t).1 (ZI t).2).1<|m+2) O (JX.ZV _ _ _) (λh Y w H=>HA.jx j I W (by rw[z]) H) ?_;refine OK.ret ⟨Y3.r1 (zo O O) ?_,O,Zo⟩;rw[z]
 exact absurd M y
variable{v:ZN}
def zq(a:A.Ok m)(l:A.parts[i]?=some v){J:bm}(z:Y2 J)(r:∀h Y w,J h Y w->Z9 A.mem h Y w):Vi prog 273 [] [.sl<|A.Z3.map λi=>[X.raw<|pV<|A.pb i],.raw<|pV v.b] [(3000,.res J)] [(3000,.res J)]<|.int .i64<|ZC (λk=>decide<|i=k) 0 A.Z3:=by
 refine cG func273 O λ{_ _}=>?_
 have t:=a.lm;have s:=a.m0;refine OK.EC (p:=∀i j,i<R A.parts->j<R A.parts->A.pb i=A.pb j->i=j) O (λh Y w u=>HA.b9<|r h Y w u) λf=>?_
 refine ro 9 O<|kc (zk SC O)<|rr 4 O ?_;refine OK.loop (G:=Nat) [] (λk=>[(0,.sl<|A.Z3.map λi=>[X.raw<|pV<|A.pb i]),(1,.raw<|pV v.b),(7,bv<|R A.Z3),(8,bv k),(3000,.res J)]) (λk=>k<=R A.Z3/\ZC (λk=>decide<|i=k) 0 A.Z3=ZC (λk=>decide<|i=k) k (A.Z3.drop k)) (λk=>R A.Z3 - k) 0 ⟨Zr _,O⟩ ⟨O,O,O,O,O,Zo⟩ (λ_=>O) ?_;rintro k ⟨hi,q⟩;refine ro 6 O<|kB O (λx=>?_) λx=>?_
 ·have o:k<R A.Z3:=by omega
  have d:=a.mi _<|Zt o;obtain⟨y,n⟩:=Yh d;refine ro 15 O<|kc (zI SC O I O)<|kc (zV O2 O O) ?_;refine kc (S.hpeq r (.p i) (.p A.Z3[k]) ti109 underlying104 C .none O (zt O) (zt O) O (HA.XW l)<|HA.atPb n)<|kD<|kB O (λc=>?_) λc=>?_
  ·have g:i=A.Z3[k]:=f _ _ (RA l) d (by rw[HA.CS l];exact c);refine ro 6 O<|OK.ret ⟨Y3.r1 (zo O O) ?_,O,Zo⟩;refine YL ?_;rw[q,Y0 _ I,Zn<|by simpa using g]
  have g:¬i=A.Z3[k]:=λe=>c (by rw[←HA.CS l,e])
  refine Ro 7 O I (Ab.D.lp ⟨k+1,⟨by omega,?_⟩,I,O,O,O,O,O,Zo⟩);rw[q,Y0 _ I];simp_all
 refine ro 7 O<|OK.ret ⟨Y3.r1 (zo O O) ?_,O,Zo⟩;refine YL ?_;have:k=R A.Z3:=by omega
 subst this;rw[q,da];rfl
def y_(a:A.Ok m)(e:A.parts[i]?=some v){J:bm}(d:Y2 J)(f:∀h Y w,J h Y w->Z9 A.mem h Y w):Vi prog 230 [] [.sl<|A.Z3.map λi=>[X.raw<|pV<|A.pb i],.raw<|pV v.b] [(3000,.res J)] [(3000,.res J)]<|.bool<|A.Z3.contains i:=by
 refine cG func230 O<|ro 9 O<|RK.c (S.VO (((zq a e d f).Tq d)) d call273 .none O (zc O<|zc O .nil) O O)<|rr 4 O<|OK.ret ⟨Y3.r1 (zo O O) ?_,O,Zo⟩;refine Xj ?_;exact yS A.Z3 i
def zz(a:A.Ok m)(N:m+2<=1000)(g:A.parts[i]?=some v):Vi prog 229 [] [.raw<|pV v.b,.Yt [.raw<|pV A.b]] [(3000,.res<|Z9 A.mem)] [(3000,.res<|JP A (Xe A.plain i).1<|m+1)]<|bv (Xe A.plain i).2:=by
 refine cG func229 O λ{_ _}=>?_
 have H:=HA.RQ g;have L:=a.lm;have K:=a.m0;obtain⟨e,t⟩:∃e,ZW [Z8 (decide<|v.p.place≠0) 20,Z8 (WX A.plan v.p) 14,Z8 (!A.Z3.contains i) 23]=e:=⟨_,rfl⟩;have y:Xe A.plain i=if e=0 then({A.plain with Z3:=A.plain.Z3++[i]},0)else(A.plain,e):=by unfold Xe;dsimp only;rw[H,←t];rfl
 refine ro 6 O ?_;refine kV (.c (zm O)<|.c (zn O O)<|.c (zr Xu O)<|.c (zr Qn O)<|.c (zH YK O<|Z9.Xh (k:=.p i) (HA.XW g) O<|.same _)<|.c (zN O O)<|.c (zK ZT call68 O)<|.c (zV Nc O O)<|.c (zm O)<|.c (S.Wc ((λJ B G=>(KX a g B G).Tq B)) call217 .none O (zc O<|zc O .nil) O O)<|.c (zK ZT call68 O)<|.c (zV Nc O O)<|.c (zn O O)<|.c (zr DE O)<|.c (zH (u:=.sl<|A.Z3.map λi=>[X.raw<|pV<|A.pb i]) QF O<|Z9.Xh (k:=.Y1) O O<|.sl a.ms)<|.c (zm O)<|.c (S.Wc ((λJ B G=>(y_ a g B G).Tq B)) call230 .none O (zc O<|zc O .nil) O O)<|.c (S.not .none O<|zt O)<|.c (zK ZT call68 O)<|.c (zM [[_],[_],[_]] V6 O O O O)<|.c (S.XY (YI (l:=[_,_,_])) call67 .none O (zc O .nil) (.cons (.p (.own O O) O) .nil) O)<|.c (za O) .nil) ?_;refine rd 8 O<|kB O (λf=>?_) λf=>?_
 ·have d:e=0:=by rw[←t];exact f
  have z:=y.trans<|Zn d;refine OK.Sd follows (ι:=(Nat×Nat)) (0,0) 7 O (S.ig (s:=[(32,.raw<|A.mh.v<|R A.Z3),(34,.own 34 1),(2034,.arr 1 [[.raw<|pV v.b]]),(3000,.res<|Z9 A.mem)]) (m:=1) (qr:=[[.raw<|pV v.b]]) .ms gS O (zt O) a.ms (zt O) O O O C (by simp only[Zx];omega)<|by simp only[Zx,maxLen];omega).st (λq=>(.cs (zV Nc O O) (.cs (zV Nc O O) (.cs (zn O O) (.cs (zr DE O) (.cs (zH QF O<|Z9.Xh (k:=.Y1) O O<|.same _) (.cs (zm O) (.cs (zM [[.raw<|pV v.b]] gS O O O O)
   (.x ⟨O,O,O,O,Zo⟩<|.cn (zn O O)<|.cn (zr DE O)<|.cn (S.Yf (xs:=A.cs) (xs':=(A.GJ i q).cs) (.Y1) QF .none (zt O) (zt O) O ((HM.Z0 _ _ Z).trans A.atH) O O O O<|Ee A i q) .nil))))))))) λq=>?_
  refine Ab.D.code<|kO ?_;rw[←HA.CS g];refine OK.GJ (RA g) a I O λM r F n o j=>?_
  refine ro 5 O ?_;refine OK.YS (J':=JP A (Xe A.plain i).1<|m+1) O (JP.ZV _ _ _) (λh Y w E=>⟨M,⟨r,F,n,by rw[o],by rw[j,z]⟩,E⟩) ?_;refine OK.ret ⟨Y3.r1 (zo O O) ?_,O,Zo⟩;rw[z];exact YL<|t.trans d
 have d:¬e=0:=by rw[←t];exact f
 have z:=y.trans<|Zm d;refine ro 8 O ?_;refine OK.YS (J':=JP A (Xe A.plain i).1<|m+1) O (JP.ZV _ _ _) (λh Y w E=>HA.jp a I I (by rw[z]) E) ?_;refine OK.ret ⟨Y3.r1 (zo O O) ?_,O,Zo⟩;rw[z];exact YL t
def yR(A:HA)(i:Nat):(Xe A.plain i).1.entries=A.entries:=by unfold Xe;dsimp only;split<;>rfl
def uE(a:A.Ok m)(d:m+2<=1000):U_ prog 179 [] [.raw<|pV A.b,.agg (Words.mk [n] []).cs] [(3000,.res<|Z9 A.mem)] [(3000,.res<|JX A.b (YJ A.plain n Xe).1<|m+2)]<|bv (YJ A.plain n Xe).2:=by
 refine cH func179 O λg=>?_
 refine ro 8 O<|OK.Tr [3] [(3,.ptr 3 0),(1003,.box (Words.mk [n] []).cs),(3000,.res<|Z9 A.mem)] 2 O O O O O O ⟨O,O,O,Zo⟩ O<|ro 3 O<|kc (S.Xd .none O (zt O) O) ?_;refine RK.c (S.VO (((RF a d (n:=n) (tx:=[]) (f:=229) (vt:=[.Yt [.raw<|pV A.b]]) call229 O O (ac:=Xe) (λi v e _=>(zz a d e).WB) λi=>yR A i).Tq g<|Z9.ZV _)) (JX.ZV _ _ _) call218 .none O (zc O<|zc O<|zc O .nil) O O) ?_;refine rr 3 O<|OK.ret ⟨Y3.r1 (zo O O) ?_,O,Zo⟩;rfl
variable{l:ba}
theorem Hz{c:UInt8}:R (ZQ c l).1<=R l/\R (ZQ c l).2.1<=R l:=by
 grind [KG,Nz]
def pL{α β:Type}(p:α×β):p=(p.1,p.2):=rfl
def Z6.XE(H:Z6):List ZG:=H.Z3.map λi=>WG H.plan (H.p i).frames
def Wo(H:Z6)(n:Int):HE:=if Wr H.plan H.XE n=0 then({H with env:=PC H.plan H.XE n,YX:=true},0)else(H,Wr H.plan H.XE n)
abbrev itM(b:Nat)(l:ba)(p:Nat):HM Unit:=λ_=>some (b,.iter l p)
def MN(M:HM Unit)(b:Nat)(l:ba)(p:Nat):M.set () (some (b,.iter l p))=itM b l p:=by rfl
def AE{K:Type}{M a:HM K}(h:M=a):some (X.res<|Z9 M)=some (X.res<|Z9 a):=by rw[h]
theorem Bn(l:ba)(p:Nat):(∃a:p<R l,l[p].toNat<128)\/(∃a:p<R l,128<=l[p].toNat)\/R l<=p:=by
 grind
def X6(b:UInt8):Bool:=decide<|32<=(b.toNat:Int)/\(b.toNat:Int)<=126
theorem Q5{b c:UInt8}(h:((b.toNat:Nat):Int)=(c.toNat:Int)):b=c:=by grind [UInt8.toNat_inj]
def i_{ks:ba}{p:Nat}(a:p<R ks)(vk:ba)(xc:Bool)(w:Words):Zl (ks.drop p) vk xc w=Zl (ks[p]::ks.drop (p+1)) vk xc w:=F
theorem iV:∀(l:ba),decide (0<=ZC (λb=>!X6 b) 0 l)=!(l.all X6):=by
 have vy:∀(l:ba)(k:Nat),decide (0<=ZC (λb=>!X6 b) k l)=!(l.all X6):=by
  intro l
  induction l with
  |nil=>intro k;rfl
  |cons x l a=>
   grind [ZC]
 simp_all
def mW(k:Nat):Nat:=[168,169,170,171,172,173,174,175,176,177,178,179,180].getD k 0
def cmdX(o:Option Nat):bi:=match o with
 |some k=>[bv<|S2.getD k 0,.str<|kinds.getD k [],.fn (mW k) []]
 |none=>[bv 0,.str [],.raw .nilFunc]
def PT(A:HA)(k:Nat):List ZG:=(A.Z3.take k).map λi=>WG A.plan (A.plain.p i).frames
def zR(A:HA)(k:Nat)(h:k<=R A.Z3):R (PT A k)=k:=by simp_all[PT]
theorem Ce(h:k<R A.Z3)(a:A.parts[A.Z3[k]]?=some v):PT A (k+1)=PT A k++[WG A.plan v.p.frames]:=by
 grind [PT,List.take_succ_eq_append_getElem,HA.RQ]
def zO(A:HA):PT A (R A.Z3)=A.plain.XE:=by unfold PT;rw[List.take_length];rfl
def OK.OC{E:Env}{U:bc}{s:St}{qf:Code}{Q:bo}(K:Type)(h:OK E qf Q U<|(3000,.res<|Z9 λ_:K=>none)::s):OK E qf Q U s:=λa w d=>by
 obtain⟨c,f,hh⟩:=d;refine h a w ⟨c,f,λvy x b=>?_⟩;simp only[Ab.look]at b;split at b
 ·rename_i e;have:=Nat.eq_of_beq_eq_true e;cases b;subst this;exact Holds.Tp (Z9.ZV _) Z9.nil
 exact hh vy x b
def eG{a b c d:Nat}{e k2:Nat}(h:a=b)(f:c=d):some (X.box [X.own e a,X.own k2 c])=some (X.box [X.own e b,X.own k2 d]):=by rw[h,f]
def uA(a:A.Ok m)(t:m+2<=1000):Vi prog 180 [] [.raw<|pV A.b,.agg (Words.mk [n] []).cs] [(3000,.res<|Z9 A.mem)] [(3000,.res<|JX A.b (Wo A.plain n).1<|m+2)]<|bv (Wo A.plain n).2:=by
 refine cG func180 O λ{_ _}=>?_
 have z:=a.lm;have y:=a.m0;refine ro 8 O<|RK.c (S.XG (k:=5) (sz:=1) .none O)<|rr 8 O<|kc (zH (u:=.sl<|A.Z3.map λi=>[X.raw<|pV<|A.pb i]) QF O<|Z9.Xh (k:=.Y1) O O<|.sl a.ms) ?_;refine kc (zk SC O)<|rr 4 O ?_;refine OK.loop (G:=Nat) [3,5] (λk=>[(0,.raw<|pV A.b),(3,.ptr 3 0),(1003,.box (Words.mk [n] []).cs),(5,.own 5 k),(2005,.arr 1<|(PT A k).map ZG.cs),(13,.sl<|A.Z3.map λi=>[X.raw<|pV<|A.pb i]),(14,bv<|R A.Z3),(15,bv k),(3000,.res<|Z9 A.mem)]) (λk=>k<=R A.Z3) (λk=>R A.Z3 - k) 0 (Zr _) ⟨O,O,O,(ZH N),(ZX N),O,O,O,O,Zo⟩ (λ_=>O) ?_;rintro k hi;refine ro 6 O<|kB O (λs=>?_) λs=>?_
 ·have g:k<R A.Z3:=by omega
  have p:=a.mi _<|Zt g;obtain⟨v,o⟩:=Yh p;have e:=zR A k hi;refine ro 6 O<|kc (zI SC O I O) ?_;refine rr 4 O ?_;rw[HA.CS o];refine ro 4 O<|kc (S.Wc ((λJ x B=>(NU a o x B).Tq x)) call216 .none O (zc O<|zc O .nil) O O) ?_;refine RK.c (zM [[_]] vB O O O O) ?_;refine kc (zP vB O O (by rw[Zx];exact e) N I<|by simp only[maxLen];omega) ?_;refine Rr 8 O I ?_;refine Ab.D.lp ⟨k+1,I,I,O,O,O,(ZH I),(ZX<|by rw[Ce g o,ne];rfl),O,O,O,O,Zo⟩
 refine ro 3 O ?_;have q:k=R A.Z3:=by omega
 rw[q,zO];have e:R A.plain.XE=R A.Z3:=by unfold Z6.XE;rw[Zx];rfl
 refine OK.freeze 5 O O O (by rw[Zx,e]) ?_;refine kV (.c (zm O)<|.c (zn O O)<|.c (zr TK O)<|.c (zr I2 O)<|.c (zJ (us:=A.plan.cs) Nb O<|Z9.KL (k:=.Y1) (xs:=A.cs) O ⟨.same _,.same _,Zo⟩ O)<|.c (zm O)<|.c (zf wk O)<|.c (zl Md O O O O)<|.c (S.Zi (n:=0) X9 .none O (zt O) (.Zg O) O (by exact aθ _) O)<|.c (zV YK O O)<|.c (zK (Ii (l:=A.plain.XE)) call22 O)<|.c (zm O)<|.c (zX O O O)<|.c (zX O O O)<|.c (zA (c:=8) ze41 O)<|.c (zS L5 O O O O O O)<|.c (za O) .nil) ?_;refine rd 8 O<|kB O (λd=>?_) λd=>?_
 ·have j:Wo A.plain n=({A.plain with env:=PC A.plan A.plain.XE n,YX:=true},0):=by unfold Wo;rw[Zn (show Wr A.plain.plan A.plain.XE n=0 from d)];rfl
  refine ro 6 O<|kc (S.Yf (xs':=({A with env:=PC A.plan A.plain.XE n}:HA).cs) (.Y1) L5 .none (zt O) (zt O) O O O O O O O)<|rr 2 O ?_;refine kc (S.Yf (xs':=({A with env:=PC A.plan A.plain.XE n,YX:=true}:HA).cs) (.Y1) CI .none (zt O) .Wx O (HM.YW _ _ _) O O O O O) ?_;refine rr 3 O ?_;rw[HM.set_set];refine OK.nD (A1:={A with env:=PC A.plan A.plain.XE n,YX:=true}) a O O ⟨O,O⟩ ⟨O,O⟩ ⟨O,O⟩ ⟨O,O⟩ a.en λf=>?_
  refine ro 5 O ?_;refine OK.YS (J':=JX A.b (Wo A.plain n).1<|m+2) O (JX.ZV _ _ _) (λh Y w r=>Sg f I t O (by rw[j];rfl) r) ?_;refine OK.ret ⟨Y3.r1 (zo O O) ?_,O,Zo⟩;rw[j,d]
 have j:Wo A.plain n=(A.plain,Wr A.plan A.plain.XE n):=by unfold Wo;rw[Zm (show¬Wr A.plain.plan A.plain.XE n=0 from d)];rfl
 refine ro 8 O ?_;refine OK.YS (J':=JX A.b (Wo A.plain n).1<|m+2) O (JX.ZV _ _ _) (λh Y w r=>HA.jx a I t (by rw[j]) r) ?_;refine OK.ret ⟨Y3.r1 (zo O O) ?_,O,Zo⟩;rw[j];rfl
set_option maxRecDepth 4000 in
def Ot:Ct prog 113 [.str t]<|.Yy [.agg<|cmdX<|X2 t,.bool (X2 t).isSome]:=by
 refine cI func113 O<|ro 19 O<|kB O (λn=>?_) λn=>?_
 ·refine kr<|kc (S.build QD O .none O (zC O<|.cons (.Vh (l:=[114]) O C)<|.cons .Nt .nil) O O) ?_;refine rr 4 O<|kT O O R7 O O O ?_;subst n;rfl
 refine ro 6 O<|kB O (λm=>?_) λm=>?_
 ·refine kr<|kc (S.build QD O .none O (zC O<|.cons (.Vh (l:=[110,119,119]) O C)<|.cons .Nt .nil) O O) ?_;refine rr 4 O<|kT O O R7 O O O ?_;subst m;rfl
 refine ro 6 O<|kB O (λk=>?_) λk=>?_
 ·refine kr<|kc (S.build QD O .none O (zC O<|.cons (.Vh (l:=[114]) O C)<|.cons .Nt .nil) O O) ?_;refine rr 4 O<|kT O O R7 O O O ?_;subst k;rfl
 refine ro 6 O<|kB O (λj=>?_) λj=>?_
 ·refine kr<|kc (S.build QD O .none O (zC O<|.cons (.Vh (l:=[]) O C)<|.cons .Nt .nil) O O) ?_;refine rr 4 O<|kT O O R7 O O O ?_;subst j;rfl
 refine ro 6 O<|kB O (λi=>?_) λi=>?_
 ·refine kr<|kc (S.build QD O .none O (zC O<|.cons (.Vh (l:=[110]) O C)<|.cons .Nt .nil) O O) ?_;refine rr 4 O<|kT O O R7 O O O ?_;subst i;rfl
 refine ro 6 O<|kB O (λh=>?_) λh=>?_
 ·refine kr<|kc (S.build QD O .none O (zC O<|.cons (.Vh (l:=[110]) O C)<|.cons .Nt .nil) O O) ?_;refine rr 4 O<|kT O O R7 O O O ?_;subst h;rfl
 refine ro 6 O<|kB O (λg=>?_) λg=>?_
 ·refine kr<|kc (S.build QD O .none O (zC O<|.cons (.Vh (l:=[119,110]) O C)<|.cons .Nt .nil) O O) ?_;refine rr 4 O<|kT O O R7 O O O ?_;subst g;rfl
 refine ro 6 O<|kB O (λf=>?_) λf=>?_
 ·refine kr<|kc (S.build QD O .none O (zC O<|.cons (.Vh (l:=[119]) O C)<|.cons .Nt .nil) O O) ?_;refine rr 4 O<|kT O O R7 O O O ?_;subst f;rfl
 refine ro 6 O<|kB O (λe=>?_) λe=>?_
 ·refine kr<|kc (S.build QD O .none O (zC O<|.cons (.Vh (l:=[110]) O C)<|.cons .Nt .nil) O O) ?_;refine rr 4 O<|kT O O R7 O O O ?_;subst e;rfl
 refine ro 6 O<|kB O (λd=>?_) λd=>?_
 ·refine kr<|kc (S.build QD O .none O (zC O<|.cons (.Vh (l:=[110,114]) O C)<|.cons .Nt .nil) O O) ?_;refine rr 4 O<|kT O O R7 O O O ?_;subst d;rfl
 refine ro 6 O<|kB O (λc=>?_) λc=>?_
 ·refine kr<|kc (S.build QD O .none O (zC O<|.cons (.Vh (l:=[119,114]) O C)<|.cons .Nt .nil) O O) ?_;refine rr 4 O<|kT O O R7 O O O ?_;subst c;rfl
 refine ro 6 O<|kB O (λb=>?_) λb=>?_
 ·refine kr<|kc (S.build QD O .none O (zC O<|.cons (.Vh (l:=[110]) O C)<|.cons .Nt .nil) O O) ?_;refine rr 4 O<|kT O O R7 O O O ?_;subst b;rfl
 refine ro 6 O<|kB O (λa=>?_) λa=>?_
 ·refine kr<|kc (S.build QD O .none O (zC O<|.cons (.Vh (l:=[110]) O C)<|.cons .Nt .nil) O O) ?_;refine rr 4 O<|kT O O R7 O O O ?_;subst a;rfl
 refine ro 5 O<|kc (zU QD O O)<|rr 4 O<|kT O O R7 O O O ?_;rw[show X2 t=none by simp[X2,ix,VF,Z4,n,m,k,j,i,h,g,f,e,d,c,b,a]];rfl
def p7{w:ba}(h:X2 w=none):Ct prog 113 [.str w]<|.Yy [.agg [bv 0,.str [],.raw .nilFunc],.bool false]:=by have:=Ot (t:=w);rw[h]at this;exact this
def p8{w:ba}(h:X2 w=some k):Ct prog 113 [.str w]<|.Yy [.agg [bv<|S2.getD k 0,.str<|kinds.getD k [],.fn (mW k) []],.bool true]:=by have:=Ot (t:=w);rw[h]at this;exact this
def KY(f:R l<=100000):Q7 prog 91 [.str l]<|.Yy [bv<|YZ l,.bool<|YB l 7]:=by
 refine cT func91 O λe=>?_
 refine ro 9 O<|kc (S.Xo (Js f) e call146 .none O (zc O .nil) O)<|rr 11 O<|kc (S.mK underlying187 .none O<|zt O)<|jm O<|RK.split (t:=14) O (λa=>?_) λa=>?_
 ·refine rr 4 O<|RK.ZS (t:=18) O (λd=>?_) λd=>?_
  ·refine kc (S.move (zg O O) O<|zt O)<|kc (S.Xo (N9<|Px l) e call81 (zg O O) O (zc O .nil) O)<|rr 4 O<|RK.ZS (t:=24) O (λc=>?_) λc=>?_
   ·refine rr 8 O<|kS O O O O ?_;rw[show YB l 7=decide (R l<=7)by unfold YB;rw[a,Zz (show 0<=YZ l by omega),Zz c];rfl];exact rn (λb=>X.Yy [X.int .i64<|YZ l,X.bool b])<|decide_eq_decide.2 I
   refine rr 8 O<|kS O O O O ?_;rw[show YB l 7=false by unfold YB;rw[a,Zz (show 0<=YZ l by omega),Zy c];rfl]
  refine rr 14 O<|kS O O O O ?_;rw[show YB l 7=false by unfold YB;rw[a,Zy (show¬0<=YZ l by omega)];rfl]
 refine rr 18 O<|kS O O O O ?_;rw[show YB l 7=false by unfold YB;rw[a];rfl]
def w9{c:Int}(a:0<=c/\c<2147483648):Ct prog 112 [.int .i32 c]<|.bool<|!decide (32<=c/\c<=126):=by
 refine cI func112 O<|ro 8 O ?_;refine kc (S.conv .none O (zt O) underlying21 underlying3 (mn _ I)<|mn _ I)<|kc (zK XL call107 O)<|kc (S.Xb .none O<|zt O) ?_;refine rr 3 O<|kR O O ?_;exact Xj decide_not
def GU(m:R l<=100000):Ct prog 231 [.str l,.fn 112 [],.bool true]<|bv<|ZC (λb=>!X6 b) 0 l:=by
 refine cI func231 O<|OK.OC Unit<|ro 9 O<|RK.xs (S.qY () underlying9 O (zt O) O) λq=>?_;refine rr 3 O ?_;refine OK.loop (G:=Nat) [] (λp=>[(1,.fn 112 []),(2,.bool true),(10,.raw<|pV q),(3000,.res<|Z9<|itM q l p)]) (λp=>p<=R l/\ZC (λb=>!X6 b) 0 l=ZC (λb=>!X6 b) p (l.drop p)) (λp=>R l - p) 0 ⟨Zr _,O⟩ ⟨O,O,O,(AE<|MN _ _ _ _),Zo⟩ (λ_=>O) ?_;rintro p ⟨hi,e⟩;refine kO ?_;rcases Bn l p with⟨d,f⟩|⟨d,g⟩|d
 ·refine OK.R3 ?_;refine RK.xs (S.Aa () O (zt O) O O d (by unfold maxLen;omega) (me (Zv d) f) I) λ_=>?_;refine rr 20 O<|kc (S.Tm (w9 (c:=(l[p].toNat:Int)) I) call112 .none O (zt O) (zc O .nil) O O O)<|jm O<|kc (S.beql underlying4 .none O (zt O)<|zt O)<|kD<|kB O (λa=>?_) λa=>?_
  ·refine ro 6 O<|kR O O ?_;refine YL ?_;rw[e,Y0 _ d,Zn<|by unfold X6;simpa using a]
  refine OK.skip<|Ab.D.blk<|Ab.D.lp ⟨p+1,⟨I,?_⟩,I,O,O,O,(AE<|MN _ _ _ _),Zo⟩;rw[e,Y0 _ d,Zm<|by unfold X6;simpa using a]
 ·obtain⟨k,h⟩:=az (Zv d) g;refine OK.R3 ?_;refine RK.xs (S.Aa () O (zt O) O O d (by unfold maxLen;omega) (pL<|Utf8.decode ⟨l.toArray⟩ p) h) λ_=>?_;refine rr 20 O<|kc (S.Tm (w9 (c:=((Utf8.decode ⟨l.toArray⟩ p).1:Int)) I) call112 .none O (zt O) (zc O .nil) O O O)<|jm O<|kc (S.beql underlying4 .none O (zt O)<|zt O)<|kD<|kB O (λa=>?_) λa=>?_
  ·refine ro 6 O<|kR O O ?_;refine YL ?_;have i:X6 l[p]=false:=Zy I;rw[e,Y0 _ d,Zn<|by rw[i];rfl]
  exfalso;have j:decide (32<=((Utf8.decode ⟨l.toArray⟩ p).1:Int)/\((Utf8.decode ⟨l.toArray⟩ p).1:Int)<=126)=false:=Zy I;rw[j]at a;exact a rfl
 refine OK.R3<|kc (S.qW () .none O (zt O) O O d)<|rr 12 O<|kR O O ?_;refine YL ?_;have:p=R l:=I
 subst this;rw[e,da];rfl
def GS(a:R l<=100000):Ct prog 181 [.str l,.fn 112 []]<|bv<|ZC (λb=>!X6 b) 0 l:=by
 refine cI func181 O<|ro 9 O<|kc (zK (GU a) call231 O)<|rr 3 O<|kR O O ?_;rfl
def RE(a:R l<=100000):Ct prog 114 [.str l,.fn 112 []]<|.bool<|!(l.all X6):=by
 refine cI func114 O<|ro 9 O<|kc (zK (GS a) call181 O)<|rr 4 O<|kR O O ?_;exact Xj<|iV l
def uF{text ks:ba}(H:R text<=100000)(J:R ks<=3/\∀b∈ks,b.toNat<128):Q7 prog 115 [.str text,.str ks]<|.Yy [.agg (Q9 text ks).1.cs,.bool (Q9 text ks).2]:=by
 refine cT func115 O λM=>?_
 refine OK.OC Unit ?_;have L:=Hz (c:=32) (l:=text);refine ro 9 O<|kc (zK (J3 (l:=text) (c:=32) H) call90 O)<|rr 18 O<|RK.xs (S.qY () underlying9 O (zt O) O) λq=>?_;refine rr 3 O<|OK.VL 9 0 890 1 O O O O O<|OK.VL 9 1 891 1 O O O O O ?_;refine OK.rU [4,9,890,891] (λ(p:Nat)(vk:ba)(xc:Bool)(w:Words)=>[(4,.ptr 4 0),(1004,.box [.ZM,.ZM]),(9,.ptr 9 0),(1009,.box [.own 890<|R w.numbers,.own 891<|R w.texts]),(2890,.arr 1<|w.numbers.map λn=>[bv n]),(2891,.arr 1<|w.texts.map λs=>[.str s]),(7,.str vk),(8,.bool xc),(24,.raw<|pV q),(3000,.res<|Z9<|itM q ks p)]) (λp vk xc w=>p<=R ks/\R vk<=100000/\Q9 text ks=Zl (ks.drop p) vk xc w/\R w.numbers<=p/\R w.texts<=p) (λp vk xc w=>R ks - p) 0 ((ZQ 32 text).2.1) ((ZQ 32 text).2.2) ((Words.mk [] [])) ⟨Zr _,by omega,rfl,Zq _,Zq _⟩ ⟨O,O,O,O,(ZX N),(ZX N),O,O,O,(AE<|MN _ _ _ _),Zo⟩ (λ_ _ _ _=>O) ?_;rintro p vk xc w ⟨hi,x,i,G,B⟩;have E:=Hz (c:=32) (l:=vk);refine kO ?_;rcases Bn ks p with⟨h,A⟩|⟨h,K⟩|h
 ·have f:=i_ h vk xc w;refine OK.R3 ?_;refine RK.xs (S.Aa () O (zt O) O O h (by unfold maxLen;omega) (me (Zv h) A) I) λ_=>?_;refine rr 18 O<|kc (S.not .none O<|zt O)<|kD<|OK.cond O O (λt=>?_) λt=>?_
  ·have d:xc=false:=by simpa using t
   have a:Zl (ks.drop p) vk xc w=(⟨[],[]⟩,false):=by rw[f,d,Zl,Zn rfl]
   refine kr<|kc (zU aM O O)<|rr 4 O<|OK.ret<|Y3.r2 (.XU O O O O Ao O<|.k .ZM<|.k .ZM .z) (zo O O) ?_;rw[i,a]
   all_goals first|rfl|simp[Words.cs]
  have d:xc=true:=by simpa using t
  refine ro 9 O<|kB O (λr=>?_) λr=>?_
  ·have g:ks[p]=114:=Q5 r;have a:Zl (ks.drop p) vk xc w=({w with texts:=w.texts++[vk]},true):=by rw[f,g,d,Zl,Zm C,Zn rfl]
   refine ro 5 O ?_;refine RK.c (zM [[_]] Qf O O O O) ?_;refine kc (zP Qf O O F N I<|by simp only[maxLen];omega) ?_;refine rr 11 O ?_;refine OK.ret<|Y3.r2 (.XU O O O O Ao O<|.k (.own O O N)<|.k (.own O O N) .z) (zo O O) ?_;rw[i,a]
   all_goals first|rfl|simp[Words.cs]
  have v:¬ks[p]=114:=λe=>r (by rw[e];rfl)
  refine ro 5 O<|kc (zK (J3 (l:=vk) (c:=32) x) call90 O)<|rr 24 O<|kB O (λo=>?_) λo=>?_
  ·have g:ks[p]=119:=Q5 o;refine ro 7 O<|kB O (λm=>?_) λm=>?_
   ·have a:Zl (ks.drop p) vk xc w=(⟨[],[]⟩,false):=by rw[f,g,d,Zl,Zm C,Zm C,Zn rfl,Zn m]
    refine kr<|kc (zU aM O O)<|rr 4 O<|OK.ret<|Y3.r2 (.XU O O O O Ao O<|.k .ZM<|.k .ZM .z) (zo O O) ?_;rw[i,a]
    all_goals first|rfl|simp[Words.cs]
   have a:Zl (ks.drop p) vk xc w=Zl (ks.drop<|p+1) (ZQ 32 vk).2.1 (ZQ 32 vk).2.2 {w with texts:=w.texts++[(ZQ 32 vk).1]}:=by rw[f,g,d,Zl,Zm C,Zm C,Zn rfl,Zm m]
   refine ro 7 O ?_;refine RK.c (zM [[_]] Qf O O O O) ?_;refine kc (zP Qf O O F N I<|by simp only[maxLen];omega) ?_;refine rr 5 O ?_;refine Ab.D.lp ⟨p+1,(ZQ 32 vk).2.1,(ZQ 32 vk).2.2,{w with texts:=w.texts++[(ZQ 32 vk).1]},⟨by omega,by omega,by rw[i,a],by simp;omega,by simp;omega⟩,I,O,O,O,(eG F F),(ZX F),(ZX F),O,O,O,(AE<|MN _ _ _ _),Zo⟩
  have u:¬ks[p]=119:=λe=>o (by rw[e];rfl)
  refine ro 5 O<|kc (S.Xo (KY (l:=(ZQ 32 vk).1) I) M call91 .none O (zc O .nil) O) ?_;refine rr 11 O<|kc (S.not .none O<|zt O)<|kD<|OK.cond O O (λj=>?_) λj=>?_
  ·have a:Zl (ks.drop p) vk xc w=(⟨[],[]⟩,false):=by rw[f,d,Zl,Zm C,Zm v,Zm u,Zm<|by simpa using j]
   refine kr<|kc (zU aM O O)<|rr 4 O<|OK.ret<|Y3.r2 (.XU O O O O Ao O<|.k .ZM<|.k .ZM .z) (zo O O) ?_;rw[i,a]
   all_goals first|rfl|simp[Words.cs]
  have a:Zl (ks.drop p) vk xc w=Zl (ks.drop<|p+1) (ZQ 32 vk).2.1 (ZQ 32 vk).2.2 {w with numbers:=w.numbers++[YZ (ZQ 32 vk).1]}:=by rw[f,d,Zl,Zm C,Zm v,Zm u,Zn<|by simpa using j]
  refine ro 6 O ?_;refine RK.c (zM [[_]] Xr O O O O) ?_;refine kc (zP Xr O O F N I<|by simp only[maxLen];omega) ?_;refine rr 4 O ?_;refine Ab.D.lp ⟨p+1,(ZQ 32 vk).2.1,(ZQ 32 vk).2.2,{w with numbers:=w.numbers++[YZ (ZQ 32 vk).1]},⟨by omega,by omega,by rw[i,a],by simp;omega,by simp;omega⟩,I,O,O,O,(eG F F),(ZX F),(ZX F),O,O,O,(AE<|MN _ _ _ _),Zo⟩
 ·exfalso;have:=J.2 _<|Zt h;omega
 refine OK.R3<|kc (S.qW () .none O (zt O) O O h)<|rr 8 O ?_;have y:p=R ks:=by omega
 subst y;have a:Zl (ks.drop<|R ks) vk xc w=(w,!xc):=by rw[da,Zl]
 refine ro 3 O<|kc (S.not .none O<|zt O)<|rr 4 O ?_;refine OK.ret<|Y3.r2 (.XU O O O O Ao O<|.k (.own O O N)<|.k (.own O O N) .z) (zo O O) ?_;rw[i,a]
 all_goals first|rfl|simp[Words.cs]
def x5(s:ba):Prop:=U_ prog 271 [4] [.ptr 4 0] [(1004,.box [.str s])] [(1004,.box [.str (US s).2])]<|.Yy [.sl<|(US s).1.1.map Ph.cs,.bool (US s).1.2]
def PhOk(s:ba):Prop:=U_ prog 305 [4] [.ptr 4 0] [(1004,.box [.str s])] [(1004,.box [.str (Th s).2])]<|.Yy [.agg (Th s).1.1.cx,.bool (Th s).1.2]
variable{s:ba}
def uq(N:R s<=100000)(M:Ra s)(B:∀w,R w<R s->Ra w->x5 w):U_ prog 305 [4] [.ptr 4 0] [(1004,.box [.str s])] [(1004,.box [.str (Th s).2])]<|.Yy [.agg (Th s).1.1.cx,.bool (Th s).1.2]:=by
 refine cH func305 O λd=>?_
 refine OK.OC Unit ?_;have P:=H6 s;have E:=M.kind;refine ro 9 O ?_;refine RK.c (S.Jt (fs:=[4]) (t:=[(1004,.box [.str s])]) (t':=[(1004,.box [.str (XV s).2])]) (pW N M) d call326 .none O (zc O .nil) V ⟨O,Zo⟩ V V V V O V) ?_;refine rr 11 O<|kc (S.not .none O<|zt O)<|kD<|OK.cond O O (λj=>?_) λj=>?_
 ·have m:(XV s).1=none:=by simpa using j
  have d:Th s=((Ph.zero,false),(XV s).2):=phT_0 m;refine kr<|kc (zU j5 O O)<|rr 4 O ?_;refine OK.ret ⟨Y3.r2 (.XU O O O O X0 O<|.k (.same O)<|.k (.same O)<|.k (.same O)<|.k (.same O)<|.k (.same O)<|.k .ZM .z) (zo O O) ?_,LH (by rw[d]),Zo⟩;rw[d];rfl
 obtain⟨k,m⟩:∃k,(XV s).1=some k:=sk.1 (by simpa using j);have H:k<6:=(Y8 m).1;have G:Bo s=(k:Int):=by unfold Bo;rw[m];rfl
 have Q:=yC k;rw[G];refine ro 5 O<|kc (zU j5 O O)<|rr 5 O<|OK.eu (qs:=sr k (0,0,0,0)) [4,2] [(0,.ptr 4 0),(1004,.box [.str (XV s).2]),(2,.ptr 2 0),(1002,.box [bv 0,bv 0,bv 0,bv 0,bv 0,.ZM]),(3,.bool false),(4,bv (k:Int))] 6 () O O O O O O ⟨O,O,O,O,O,O,Zo⟩ O O ⟨.inl ⟨O,O⟩,.inl ⟨O,O⟩,.inl ⟨O,O⟩,.inl ⟨O,O⟩,.inl ⟨O,O⟩,.inr ⟨O,O⟩,Zo⟩ λb=>?_;refine OK.R3<|RK.c (S.Bu (k:=23) O .none O)<|rr 2 O ?_;refine kc (S.mkData (vi:=[[_],[_]]) Qz .none O (zc O<|zc O .nil) O O O O O O O)<|kc (S.O4 (vy:=0) (l:=(MV b).take 0) (es':=LK<|(MV b).take 1) underlying432 underlying3 .none (zt O) (.Zg O) (zt O) O O O O O)<|kc (zr DH O)<|kc (S.mkData (vi:=[[_]]) Qz .none O (zc O .nil) O O O O O O O)<|kc (S.O4 (vy:=1) (l:=(MV b).take 1) (es':=LK<|(MV b).take 2) underlying432 underlying3 .none (zt O) (.Zg O) (zt O) O O O O O) ?_;refine rr 2 O ?_;refine kc (S.mkData (vi:=[[_],[_]]) Qz .none O (zc O<|zc O .nil) O O O O O O O)<|kc (S.O4 (vy:=2) (l:=(MV b).take 2) (es':=LK<|(MV b).take 3) underlying432 underlying3 .none (zt O) (.Zg O) (zt O) O O O O O) ?_;refine rr 3 O ?_;refine kc (S.mkData (vi:=[[_],[_],[_]]) Qz .none O (zc O<|zc O<|zc O .nil) O O O O O O O)<|kc (S.O4 (vy:=3) (l:=(MV b).take 3) (es':=LK<|(MV b).take 4) underlying432 underlying3 .none (zt O) (.Zg O) (zt O) O O O O O) ?_;refine rr 3 O ?_;refine kc (S.mkData (vi:=[[_],[_],[_]]) Qz .none O (zc O<|zc O<|zc O .nil) O O O O O O O)<|kc (S.O4 (vy:=4) (l:=(MV b).take 4) (es':=LK<|(MV b).take 5) underlying432 underlying3 .none (zt O) (.Zg O) (zt O) O O O O O)<|kc (zr DH O)<|kc (S.mkData (vi:=[[_]]) Qz .none O (zc O .nil) O O O O O O O)<|kc (S.O4 (vy:=5) (l:=(MV b).take 5) (es':=LK<|(MV b).take 6) underlying432 underlying3 .none (zt O) (.Zg O) (zt O) O O O O O) ?_;refine rr 9 O<|kc (S.nS (l:=MV b) underlying432 underlying3 .none O (zt O) (zt O) O O (iF H) O)<|kc (zk vE O)<|rr 4 O ?_;refine OK.fV [4,2] (λ(i:Nat)(q:Q4)(r:ba)=>[(0,.ptr 4 0),(1004,.box [.str r]),(2,.ptr 2 0),(1002,.box [bv 0,bv 0,bv 0,bv 0,bv 0,.ZM]),(4,bv (k:Int)),(6,.raw<|pV b),(45,.sl<|PS b k),(46,bv (R (ZE k):Int)),(47,bv i),(3000,.res<|Z9<|phM b k q)]) (λi q r=>i<=R (ZE k)/\Wk (ZE k) (ug k (0,0,0,0) []) (XV s).2=Wk ((ZE k).drop i) (ug k q []) r/\R r<=R (XV s).2/\Ra r) (λi q r=>R (ZE k) - i) 0 (((0,0,0,0):Q4)) ((XV s).2) ⟨Zr _,O,Zq _,E⟩ ⟨O,O,O,O,O,O,O,(OT F),O,(AE<|wZ _ _ _ _),Zo⟩ (λ_ _ _=>O) ?_;rintro i q r ⟨hi,J,x,f⟩;refine ro 6 O<|kB O (λL=>?_) λL=>?_
 ·have e:i<R (ZE k):=by omega
  refine ro 6 O<|kc (zI vE O I O) ?_;refine rr 7 O ?_;refine RK.c (S.Jt (fs:=[4]) (t:=[(1004,.box [.str r])]) (t':=[(1004,.box [.str (Vu r).2])]) (y7 I f) d call327 .none O (zc O .nil) V ⟨O,Zo⟩ V V V V O V) ?_;refine rr 11 O<|kc (S.not .none O<|zt O)<|kD<|OK.cond O O (λh=>?_) λh=>?_
  ·have A:(Vu r).1.2=false:=by simpa using h
   have d:Th s=((Ph.zero,false),(Vu r).2):=phT_1 m (by rw[J,Is e,Zm<|by rw[A];decide]);refine kr<|kc (zU j5 O O)<|rr 4 O ?_;refine OK.ret ⟨Y3.r2 (.XU O O O O X0 O<|.k (.same O)<|.k (.same O)<|.k (.same O)<|.k (.same O)<|.k (.same O)<|.k .ZM .z) (zo O O) ?_,LH (by rw[d]),Zo⟩;rw[d];rfl
  have y:(Vu r).1.2=true:=by simpa using h
  refine ro 6 O ?_;refine kc (S.Yf (xs:=sr k q) (xs':=sr k<|q.set (ZE k)[i] (Vu r).1.1) (()) YK .none (zt O) (zt O) O O O O O (jg<|Rq e)<|jh (Rq e) _) ?_;refine Rr 7 O I ?_;refine Ab.D.lp ⟨i+1,(q.set (ZE k)[i] (Vu r).1.1),(Vu r).2,⟨by omega,by rw[J,Is e,Zn y],di (wV r) x,f.num⟩,I,O,O,O,O,O,O,O,O,O,(AE<|wZ _ _ _ _),Zo⟩
 have v:=phT_2 m (q:=q) (r:=r) (by rw[J,show i=R (ZE k) by omega,da];rfl);refine ro 9 O<|kB O (λK=>?_) λK=>?_
 ·have d:=v.trans (Zn (show k≠5 by omega));refine kr<|kc (zJ (us:=(sr k q)) X0 O<|Z9.KL (k:=()) (xs:=sr k q) O ⟨.same _,.same _,.same _,.same _,.same _,.same _,Zo⟩ O) ?_;refine rr 4 O ?_;refine OK.ret ⟨Y3.r2 (zy O O X0 O) (zo O O) ?_,LH (by rw[d]),Zo⟩;rw[d];rfl
 have u:=v.trans (Zm (show¬k≠5 by omega));refine ro 6 O ?_;refine RK.c (S.Ll (fs:=[4]) (t:=[(1004,.box [.str r])]) (t':=[(1004,.box [.str (YY [32,40] r).2])]) (JV (p:=[32,40]) I C) call306 .none O (zc O<|.cons (.Vh (l:=[32,40]) O C) .nil) V ⟨O,Zo⟩ V V V V O V) ?_;refine kc (S.not .none O<|zt O)<|kD<|OK.cond O O (λg=>?_) λg=>?_
 ·have d:=u.trans (Zn (show(YY [32,40] r).1=false by simpa using g));refine kr<|kc (zU j5 O O)<|rr 4 O ?_;refine OK.ret ⟨Y3.r2 (.XU O O O O X0 O<|.k (.same O)<|.k (.same O)<|.k (.same O)<|.k (.same O)<|.k (.same O)<|.k .ZM .z) (zo O O) ?_,LH (by rw[d]),Zo⟩;rw[d];rfl
 have hh:(YY [32,40] r).1=true:=by simpa using g
 have o:=u.trans (Zm<|by rw[hh];decide);have n:R (YY [32,40] r).2<R s:=by have:=Lz hh C;omega
 refine ro 5 O ?_;refine RK.c (S.Jt (fs:=[4]) (t:=[(1004,.box [.str (YY [32,40] r).2])]) (t':=[(1004,.box [.str (US (YY [32,40] r).2).2])]) (B _ n<|f.has _) d call271 .none O (zc O .nil) V ⟨O,Zo⟩ V V V V O V) ?_;refine rr 11 O<|kc (S.Yf (xs:=sr k q) (xs':=pP k q (US (YY [32,40] r).2).1.1) (()) EX .none (zt O) (zt O) O O O O O O O)<|rr 3 O ?_;by_cases a:(US (YY [32,40] r).2).1.2=true
 ·have d:=o.trans<|Zn a;refine kV (.c (zJ (us:=(pP k q (US (YY [32,40] r).2).1.1)) X0 O<|Z9.KL (k:=()) (xs:=pP k q (US (YY [32,40] r).2).1.1) (HM.YW _ _ _) ⟨.same _,.same _,.same _,.same _,.same _,.same _,Zo⟩ O)<|.c (zm O)<|.c (zm O)<|.c (S.move (.yes O O O<|by first|exact a|simpa using a) O<|zt O)<|.c (S.Ll (fs:=[4]) (t:=[(1004,.box [.str (US (YY [32,40] r).2).2])]) (t':=[(1004,.box [.str (YY [41] (US (YY [32,40] r).2).2).2])]) (JV (p:=[41]) (by have:=bC (YY [32,40] r).2;omega) C) call306 (.yes O O O<|by first|exact a|simpa using a) O (zc O<|.cons (.Vh (l:=[41]) O C) .nil) V ⟨O,Zo⟩ V V V V O V)<|.c (S.Tc .none O (zt O) (zt O)<|by first|exact a|simpa using a)<|.c (zS X0 O O O O O O)<|.c (za O) .nil) ?_;refine Ab.D.code (OK.ret ⟨Y3.r2 (zy O O X0 O) (zo O O) ?_,LH (by rw[d]),Zo⟩);rw[d];rfl
 have d:=o.trans (Zm<|by simpa using a);refine kV (.c (zJ (us:=(pP k q (US (YY [32,40] r).2).1.1)) X0 O<|Z9.KL (k:=()) (xs:=pP k q (US (YY [32,40] r).2).1.1) (HM.YW _ _ _) ⟨.same _,.same _,.same _,.same _,.same _,.same _,Zo⟩ O)<|.c (zm O)<|.c (zm O)<|.c (zG O<|by first|exact a|simpa using a)<|.c (zG O<|by first|exact a|simpa using a)<|.c (S.Ug .none O (zt O) .Wx<|by first|exact a|simpa using a)<|.c (zS X0 O O O O O O)<|.c (za O) .nil) ?_;refine Ab.D.code (OK.ret ⟨Y3.r2 (zy O O X0 O) (zo O O) ?_,LH (by rw[d]),Zo⟩);rw[d];rfl
def uo(w:R s<=100000)(v:Ra s)(j:∀i,R i<=R s->Ra i->PhOk i):U_ prog 271 [4] [.ptr 4 0] [(1004,.box [.str s])] [(1004,.box [.str (US s).2])]<|.Yy [.sl<|(US s).1.1.map Ph.cs,.bool (US s).1.2]:=by
 refine cH func271 O λd=>?_
 refine kr<|kc (S.assign .none O .Ya)<|rr 5 O<|RK.c (S.XG (k:=890) (sz:=6) .none O)<|rr 3 O ?_;refine OK.We [4,890] (λ(a:List Ph)(r:ba)=>[(0,.ptr 4 0),(1004,.box [.str r]),(4,.own 890<|R a),(2890,.arr 6<|a.map Ph.cs)]) (λa r=>US s=KN (R r+1) a r/\R a+R r<=R s/\Ra r) (λa r=>R r) ([]) s ⟨O,F,v⟩ ⟨O,O,(ZH N),(ZX N),Zo⟩ (λ_ _=>O) ?_;rintro a r ⟨u,o,g⟩;have b:=u.trans<|PI _ a r I;have q:=pH r;have m:=jd g;refine ro 4 O ?_;refine RK.c (S.Jt (fs:=[4]) (t:=[(1004,.box [.str r])]) (t':=[(1004,.box [.str (Th r).2])]) (j r I g) d call305 .none O (zc O .nil) V ⟨O,Zo⟩ V V V V O V) ?_;refine rr 12 O<|kc (S.not .none O<|zt O)<|kD<|OK.cond O O (λf=>?_) λf=>?_
 ·have d:US s=(([],false),(Th r).2):=b.trans (Zn<|by simpa using f);refine kr<|kc (S.assign .none O .Ya)<|rr 3 O ?_;refine OK.ret ⟨Y3.r2 (zo O O) (zo O O) ?_,LH (by rw[d]),Zo⟩;rw[d];rfl
 have h:(Th r).1.2=true:=by simpa using f
 refine ro 6 O ?_;refine RK.c (zM [[_,_,_,_,_,_]] My O O O O) ?_;refine kc (zP My O O (by rw[Zx]) N I<|by simp only[maxLen];omega) ?_;refine rr 6 O ?_;refine RK.c (S.Ll (fs:=[4]) (t:=[(1004,.box [.str (Th r).2])]) (t':=[(1004,.box [.str (YY [59] (Th r).2).2])]) (JV (p:=[59]) I C) call306 .none O (zc O<|.cons (.Vh (l:=[59]) O C) .nil) V ⟨O,Zo⟩ V V V V O V) ?_;refine kc (S.not .none O<|zt O)<|kD<|OK.cond O O (λe=>?_) λe=>?_
 ·have d:US s=((a++[(Th r).1.1],true),(YY [59] (Th r).2).2):=b.trans ((Zm<|by rw[h];decide).trans<|Zm<|by simpa using e);refine kO<|OK.freeze 4 O O O F ?_;refine ro 6 O ?_;refine OK.ret ⟨Y3.r2 (zo O O) (zo O O) ?_,LH (by rw[d]),Zo⟩;rw[d];dsimp only;rw[ne,dι,←Ph.l_];rfl
 have n:(YY [59] (Th r).2).1=true:=by simpa using e
 refine OK.skip<|Ab.D.blk ?_;refine Ab.D.lp ⟨(a++[(Th r).1.1]),(YY [59] (Th r).2).2,⟨b.trans<|(Zm<|by rw[h];decide).trans<|Zn n,by rw[Zs,R0];have:=Lz n C;omega,m.has _⟩,(by have:=Lz n C;omega),O,O,(ZH F),(ZX<|by rw[ne,dι,←Ph.l_];rfl),Zo⟩
def pX(a:R s<=100000)(d:Ra s):x5 s:=by
 have vy:∀(n:Nat)(s:ba),R s<n->R s<=100000->Ra s->x5 s:=by
  intro n
  induction n with
  |zero=>omega
  |succ n f=>
   intro s h a d;exact uo a d λj i c=>uq I c λe g b=>f e I I b
 exact vy _ s (cπ _) a d
abbrev Fld:=Nat×Int×Int
def DM(x:Fld):bi:=[BZ x.1,bv x.2.1,bv x.2.2]
def A6:Nat:=341
def A5:Nat:=342
def Kg:Nat:=343
def yw:Nat:=344
def WL(k:Int):List Fld:=if k=0 then [(A6,1,10000),(Kg,1,200)]else if k=1 then [(Kg,1,200)]else if k=2 then [(A5,0,3),(Kg,1,200)]else if k=3 then [(yw,200,3000),(A6,1,10000),(Kg,1,200)]else if k=4 then [(yw,200,3000),(A5,0,3),(Kg,1,200)]else if k=5 then [(Kg,1,10)]else []
def Nh(l:List Ph):l.map Ph.cs=l.map Ph.cx:=aβ λp _=>p.l_.symm
variable{p:Ph}
def ur:Ct prog 341 [.agg p.cx]<|bv p.power:=by
 refine cI func341 O<|ro 13 O<|kR O O ?_;rfl
def jq:Ct prog 342 [.agg p.cx]<|bv p.law:=by
 refine cI func342 O<|ro 13 O<|kR O O ?_;rfl
def uu:Ct prog 343 [.agg p.cx]<|bv p.ticks:=by
 refine cI func343 O<|ro 13 O<|kR O O ?_;rfl
def y6:Ct prog 344 [.agg p.cx]<|bv p.U8:=by
 refine cI func344 O<|ro 13 O<|kR O O ?_;rfl
def pY{k:Int}:Ct prog 339 [bv k]<|.sl<|(WL k).map DM:=by
 refine cI func339 O<|kr<|kc (S.assign .none O .Ya)<|rr 4 O<|kc (S.build fX O .none O (.cons .Nt<|zC O<|zD O) O O)<|kc (S.build fX O .none O (.cons .Nt<|zC O<|zD O) O O)<|rr 7 O<|OK.E_ 3 [BZ A6,bv 1,bv 10000] O O DN<|OK.E_ 4 [BZ A5,bv 0,bv 3] O O DN<|OK.R3<|kc (S.build fX O .none O (.cons .Nt<|zC O<|zD O) O O)<|kc (S.build fX O .none O (.cons .Nt<|zC O<|zD O) O O) ?_;refine rr 8 O<|OK.E_ 5 [BZ Kg,bv 1,bv 200] O O DN<|OK.E_ 6 [BZ yw,bv 200,bv 3000] O O DN<|ro 11 O<|kB O (λf=>?_) λf=>?_
 ·refine ro 4 O ?_;refine kc (S.mkData (vi:=[[_,_,_],[_,_,_]]) xS .none O (zc O<|zc O .nil) O O O O O O O) ?_;refine rr 3 O<|kR O O ?_;refine rn X.sl ?_;unfold WL;simp[*,DM]
 refine ro 6 O<|kB O (λe=>?_) λe=>?_
 ·refine ro 3 O ?_;refine kc (S.mkData (vi:=[[_,_,_]]) xS .none O (zc O .nil) O O O O O O O) ?_;refine rr 3 O<|kR O O ?_;refine rn X.sl ?_;unfold WL;simp[*,DM]
 refine ro 6 O<|kB O (λd=>?_) λd=>?_
 ·refine ro 4 O ?_;refine kc (S.mkData (vi:=[[_,_,_],[_,_,_]]) xS .none O (zc O<|zc O .nil) O O O O O O O) ?_;refine rr 3 O<|kR O O ?_;refine rn X.sl ?_;unfold WL;simp[*,DM]
 refine ro 6 O<|kB O (λc=>?_) λc=>?_
 ·refine ro 5 O ?_;refine kc (S.mkData (vi:=[[_,_,_],[_,_,_],[_,_,_]]) xS .none O (zc O<|zc O<|zc O .nil) O O O O O O O) ?_;refine rr 3 O<|kR O O ?_;refine rn X.sl ?_;unfold WL;simp[*,DM]
 refine ro 6 O<|kB O (λb=>?_) λb=>?_
 ·refine ro 5 O ?_;refine kc (S.mkData (vi:=[[_,_,_],[_,_,_],[_,_,_]]) xS .none O (zc O<|zc O<|zc O .nil) O O O O O O O) ?_;refine rr 3 O<|kR O O ?_;refine rn X.sl ?_;unfold WL;simp[*,DM]
 refine ro 6 O<|kB O (λa=>?_) λa=>?_
 ·refine ro 9 O ?_;refine kc (S.mkData (vi:=[[_,_,_]]) xS .none O (zc O .nil) O O O O O O O) ?_;refine rr 3 O<|kR O O ?_;refine rn X.sl ?_;unfold WL;simp[*,DM]
 refine ro 5 O<|kc (S.assign .none O .Ya)<|kD<|kR O O ?_;refine rn X.sl ?_;unfold WL;simp[*,DM]
