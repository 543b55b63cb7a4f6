import Derived.Test.YthibpafdakbpgaaGreatDoorUj
set_option linter.all false
set_option maxHeartbeats 4000000
open List renaming length->R
namespace Go.Proofs.YthibpafdakbpgaaGreatDoor
open Go.Ab Tryz
set_option maxRecDepth 9999
def rW(n:Net)(l:List Entry)(num:Int):Option Part:=(((Z2 n l).1.U1 num).bind λi=>(Z2 n l).1.parts[i]?).map (·.1)
def Part.zero:Part:=⟨0,[],0,[],[],0,false,0,false,Span.zero⟩
def G1(n:Net)(l:List Entry)(num:Int):Part:=if Wm n l num≠0 then Part.zero else(rW n l num).getD Part.zero
def Ao(r:ba)(k:Int)(p:Part):Bool:=decide<|p.Yr=r/\p.YD=k
def isV(r:ba)(k:Int)(p:Rec):Bool:=decide<|p.name=r/\p.YD=k
variable{k:Int}{r:ba}
def ofV_eq{p:Part}:Nq [.s p.Yr,.i p.YD] [.s r,.i k]=Ao r k p:=by simp[Nq,Pl.eq,Ao]
def isV_eq{p:Rec}:Nq [.s p.name,.i p.YD] [.s r,.i k]=isV r k p:=by simp[Nq,Pl.eq,isV]
def Z6.hasV(H:Z6)(r:ba)(k:Int):Bool:=H.ZF.any λq=>isV r k q.1
def wu(n:Net)(l:List Entry)(r:ba)(k:Int):Int:=if(Z2 n l).2.2≠0 then(Z2 n l).2.2 else if(Z2 n l).1.hasV r k then 0 else 6
def af(n:Net)(l:List Entry)(r:ba)(k:Int):bd:=if wu n l r k≠0 then []else(Z2 n l).1.numbers (Ao r k)
def kF(A:HA)(r:ba)(k:Int):A.plain.hasV r k=A.ZF.any λv=>isV r k v.r:=by
 show((A.ZF.map λv=>(v.r,v.entry)).any λq=>isV r k q.1)=_;rw[List.any_map];rfl
def gR:(!Nq [.s r,.i k] [.s r,.i k])=false:=by simp[Nq,Pl.eq]
def kg(P:Z6->Prop)(hs:∀H x,P H->(Za H x).2=0->P (Za H x).1):∀(l:List Entry)(H:Z6)(i:Nat),(runT H i l).2.2=0->P H->P (runT H i l).1
 |[],_,_,_,h=>h
 |x::l,H,i,h0,h=>by
  rw[runT]at h0⊢;by_cases e:(Za H x).2=0
  ·rw[Zm<|Zp e]at h0⊢;exact kg P hs l _ _ h0<|hs H x h e
  rw[Zn e]at h0;exact absurd h0 e
variable{l:List Entry}{n:Net}
def CT(P:Z6->Prop)(hi:∀n p,Y_ p=0->P (Z6.init n p))(hs:∀H x,P H->(Za H x).2=0->P (Za H x).1)(h:(Z2 n l).2.2=0):P (Z2 n l).1:=by
 obtain⟨a,_,e⟩:=Ur h;rw[e]at h⊢;exact kg P hs l _ _ h<|hi _ _<|Sx (J6 a).2
def F5(h:(Z2 n l).2.2=0):HS (Z2 n l).1:=CT HS (λ_ _ h=>HS.init h) (λ_ x h _=>h.enter x) h
def cC{num:Int}(t:R n.plan<=1000)(w:N6 l):Q7 prog 15 [.agg n.cs,.sl<|l.map Entry.cs,bv num]<|.Yy [.agg (G1 n l num).cs,bv<|Wm n l num]:=by
 refine cT func15 O λu=>?_
 refine ro 12 O ?_;refine RK.Ng (((CZ t w).at u)) (λ_=>Mf.ZV _ _ _) (λ_=>Mf.mono) call45 O (zc O<|zc O<|zc O .nil) O λA=>?_
 refine rr 14 O<|kB O (λd=>?_) λd=>?_
 ·have r:G1 n l num=Part.zero:=Zn d;refine kr<|kc (zU bu54 O O)<|rr 5 O<|OK.ret<|Y3.r2 (.XU O O O O C1 O<|.k (.same O)<|.k (.same O)<|.k (.same O)<|.k (.same O)<|.k .ZM<|zw O) (zo O O) ?_;rw[r];rfl
 have a:Wm n l num=0:=Zu.1 d;have g:(Z2 n l).2.2=0:=HO a;refine OK.Ld g O λm e=>?_
 have j:A.plain.U1 num=ix (λv=>decide<|v.p.num=num) A.parts:=HA.TR A num;obtain⟨i,f⟩:=Ba a;have c:ix (λv=>decide<|v.p.num=num) A.parts=some i:=by rw[←j,e];exact f
 obtain⟨v,h⟩:=Yh (Y8 c).1;have q:Mg n l num A=pV v.b:=by unfold Mg;rw[Zn g];exact Vx c<|HA.CS h
 rw[q];have o:rW n l num=some v.p:=by unfold rW;rw[f,bφ,←e,HA.Yi h];rfl
 have r:G1 n l num=v.p:=by unfold G1;rw[Zm (by rw[a];decide),o];rfl
 refine ro 7 O ?_;refine kc (zJ (us:=v.p.cs) C1 O<|Z9.KL (k:=.p i) (xs:=v.cs) (HA.XW h) ⟨.same _,.same _,.same _,.same _,.sl<|m.fs? h,.same _,.same _,.same _,.same _,.same _,.same _,.same _,.same _,Zo⟩ O) ?_;refine rr 4 O<|kT O O C1 O O O ?_;rw[r,a];try rfl
variable{A:HA}{J:bm}
def wv{i:Nat}{v:Qc}(a:A.ZF[i]?=some v)(e:Y2 J)(d:∀h Y w,J h Y w->Z9 A.mem h Y w):Vi prog 47 [] [.raw<|pV v.b,.Yt [.str r,.int .i64 k]] [(3000,.res J)] [(3000,.res J)]<|.bool<|isV r k v.r:=by
 refine cG func47 O<|ro 6 O ?_;refine kV (.c (zm O)<|.c (zn O O)<|.c (zr Oy O)<|.c (zr Mx O)<|.c (zJ (us:=[.str v.r.name,bv v.r.YD]) OI O<|J_ d<|Z9.KL (k:=.v i) (xs:=v.cs) (HA.sv a) ⟨.same _,.same _,Zo⟩ O)<|.c (S.Vj OI .none O (zt O) O O)<|.c (S.rY (b:=isV r k v.r) [.s [],.i 0] [.s v.r.name,.i v.r.YD] [.s r,.i k] Gx .none O (zt O) (zt O) O O O O isV_eq)<|.c (za O) .nil)<|Ab.D.code<|OK.ret ⟨Y3.r1 (zo O O) ?_,O,Zo⟩;rfl
def xS{i:Nat}{v:ZN}(a:A.parts[i]?=some v)(e:Y2 J)(d:∀h Y w,J h Y w->Z9 A.mem h Y w):Vi prog 49 [] [.raw<|pV v.b,.Yt [.str r,.int .i64 k]] [(3000,.res J)] [(3000,.res J)]<|.bool<|Ao r k v.p:=by
 refine cG func49 O<|ro 6 O ?_;refine kV (.c (zm O)<|.c (zn O O)<|.c (zr Ym O)<|.c (zr Vg O)<|.c (zJ (us:=[.str v.p.Yr,bv v.p.YD]) OI O<|J_ d<|Z9.KL (k:=.p i) (xs:=v.cs) (HA.XW a) ⟨.same _,.same _,Zo⟩ O)<|.c (S.Vj OI .none O (zt O) O O)<|.c (S.rY (b:=Ao r k v.p) [.s [],.i 0] [.s v.p.Yr,.i v.p.YD] [.s r,.i k] Gx .none O (zt O) (zt O) O O O O ofV_eq)<|.c (za O) .nil)<|Ab.D.code<|OK.ret ⟨Y3.r1 (zo O O) ?_,O,Zo⟩;rfl
variable{m:Int}
def rec_ixV(d:A.Ok m)(o:Y2 J)(z:∀h Y w,J h Y w->Z9 A.mem h Y w){f:Nat}{vk:bi}(a:∀vi w,(callFunc f vi).run prog w=.ok (.enter f vi) w)(e:vk.all (Np [])=true)(l:vk.all (λu=>!Yx u)=true){g:Rec->Bool}(x:∀(i:Nat)(v:Qc),A.ZF[i]?=some v->Vi prog f [] (.raw (pV v.b)::vk) [(3000,.res J)] [(3000,.res J)] (.bool<|g v.r)):Vi prog 82 [] [.sl<|A.ZF.map P6,.fn f vk] [(3000,.res J)] [(3000,.res J)]<|.int .i64<|ZC (λv=>g v.r) 0 A.ZF:=by
 refine cG func82 O λ{_ _}=>?_
 have t:=d.lv;have q:=d.m0;refine ro 9 O<|kc (zk DH O)<|rr 4 O ?_;refine OK.loop (G:=Nat) [] (λi=>[(0,.sl<|A.ZF.map P6),(1,.fn f vk),(6,.sl<|A.ZF.map P6),(7,bv<|R A.ZF),(8,bv i),(3000,.res J)]) (λi=>i<=R A.ZF/\ZC (λv=>g v.r) 0 A.ZF=ZC (λv=>g v.r) i (A.ZF.drop i)) (λi=>R A.ZF - i) 0 ⟨Zr _,O⟩ ⟨O,O,O,O,O,O,Zo⟩ (λ_=>rn (λb=>b&&true)<|sy (U:=[]) e) ?_;rintro i ⟨hi,k⟩;refine ro 6 O<|kB O (λy=>?_) λy=>?_
 ·have j:i<R A.ZF:=by omega
  have p:A.ZF[i]?=some A.ZF[i]:=Zv j;refine ro 15 O<|kc (zI DH O I O)<|kc (zV AD O O) ?_;refine RK.c (S.Gs (((x i _ p).Tq o)) o a .none O (zt O) (zc O .nil) O O e l) ?_;refine kD<|OK.cond O O (λn=>?_) λn=>?_
  ·refine ro 6 O<|OK.ret ⟨Y3.r1 (zo O O) ?_,O,Zo⟩;refine YL ?_;rw[k,Y0 _ I];simp_all
  refine Ro 7 O I (Ab.D.lp ⟨i+1,⟨by omega,?_⟩,I,O,O,O,O,O,O,Zo⟩);rw[k,Y0 _ I];simp_all
 refine ro 7 O<|OK.ret ⟨Y3.r1 (zo O O) ?_,O,Zo⟩;refine YL ?_;rw[k,show i=R A.ZF by omega,da];rfl
def rec_ctV(e:A.Ok m)(k:Y2 J)(n:∀h Y w,J h Y w->Z9 A.mem h Y w){f:Nat}{vk:bi}(a:∀vi w,(callFunc f vi).run prog w=.ok (.enter f vi) w)(d:vk.all (Np [])=true)(j:vk.all (λu=>!Yx u)=true){g:Rec->Bool}(l:∀(i:Nat)(v:Qc),A.ZF[i]?=some v->Vi prog f [] (.raw (pV v.b)::vk) [(3000,.res J)] [(3000,.res J)] (.bool<|g v.r)):Vi prog 46 [] [.sl<|A.ZF.map P6,.fn f vk] [(3000,.res J)] [(3000,.res J)]<|.bool<|A.ZF.any λv=>g v.r:=by
 refine cG func46 O<|ro 9 O ?_;refine RK.c (S.VO (((rec_ixV e k n a d j l).Tq k)) k call82 .none O (zc O<|zc O .nil) (by simp[V3,vc,Ky,Np,X4,d]) O) ?_;refine rr 4 O<|OK.ret ⟨Y3.r1 (zo O O) ?_,O,Zo⟩;exact Xj<|MJ _ A.ZF 0
def ry(x:R n.plan<=1000)(z:N6 l):Q7 prog 16 [.agg n.cs,.sl<|l.map Entry.cs,.agg [.str r,bv k]]<|.Yy [ints<|af n l r k,bv<|wu n l r k]:=by
 refine cT func16 O λy=>?_
 refine ro 4 O<|kc (S.assign .none O .Ya)<|rr 7 O ?_;refine RK.Ng (((R2 x z).at y)) (λ_=>Mf.ZV _ _ _) (λ_=>Mf.mono) call43 O (zc O<|zc O .nil) O λA=>?_
 refine rr 16 O<|kB O (λd=>?_) λd=>?_
 ·have a:wu n l r k=(Z2 n l).2.2:=Zn d;have c:af n l r k=[]:=Zn (by rw[a];exact d);refine ro 3 O<|kc (S.assign .none O .Ya)<|rr 3 O<|kS O O O O ?_;rw[a,c];try rfl
 have o:(Z2 n l).2.2=0:=Zu.1 d;have q:wu n l r k=if(Z2 n l).1.hasV r k then 0 else 6:=Zm d
 refine ro 4 O<|OK.Ld o O λh m=>?_;rw[Jm o];have e:=kF A r k;rw[m]at e;refine OK.Tr [] [(8,.raw<|pV A.b),(3000,.res<|Z9 A.mem)] 5 O O O O O O ⟨O,O,Zo⟩ O<|ro 4 O<|kc (zH (u:=.sl<|A.ZF.map P6) DK O<|Z9.Xh (k:=.Y1) O O<|.sl h.vs)<|kc (S.Xd .none O (zt O) O)<|kc (S.Wc ((λJ j p=>(rec_ctV h j p (f:=47) (vk:=[.Yt [.str r,bv k]]) call47 O O (g:=isV r k) λi v t=>wv t j p).Tq j)) call46 .none O (zc O<|zc O .nil) O O) ?_;refine kc (S.not .none O<|zt O)<|kD<|OK.cond O O (λw=>?_) λw=>?_
 ·have a:wu n l r k=6:=by rw[q,e];simp_all
  have c:af n l r k=[]:=Zn (by rw[a];decide);refine kr<|kc (S.assign .none O .Ya)<|rr 3 O<|kS O O O O ?_;rw[a,c];try rfl
 have a:wu n l r k=0:=by rw[q,e];simp_all
 have c:af n l r k=R1 (Ao r k) A.parts:=by unfold af;rw[Zm (by rw[a];decide),←m,HA.XK]
 refine ro 5 O<|kc (S.Xd .none O (zt O) O)<|kc (S.Wc ((λJ j p=>(E1 h j p (f:=49) (vk:=[.Yt [.str r,bv k]]) call49 O O (g:=Ao r k) λi v t=>xS t j p).Tq j)) call48 .none O (zc O<|zc O .nil) O O) ?_;refine rr 4 O<|kS O O O O ?_;rw[a,c];try rfl
def eqSpan:dw prog 52 4:=dw.mk_two (T:=50) (am:=3) V underlying52 V V underlying50 V V isAgg50 sizeOf50 underlying3 isAgg3
def sF{a:Part}:Ct prog 18 [.agg a.cs,.agg a.cs]<|.bool true:=by
 refine cI func18 O<|OK.Qd 0 4 (a.frames.map Frame.cs) O O O λqf=>?_;rw[Zx]at qf;unfold maxLen at qf;refine ro 16 O<|RK.ZS (t:=11) O (λl=>?_) λl=>?_
 ·exact absurd rfl l
 refine rr 4 O<|kc (S.pneq (b:=false) [.s [],.i 0] [.s a.Yr,.i a.YD] [.s a.Yr,.i a.YD] Gx (zg O O) O (zt O) (zt O) O O O O gR)<|rr 9 O<|RK.ZS (t:=25) O (λk=>?_) λk=>?_
 ·exact absurd rfl k
 refine rr 7 O<|RK.ZS (t:=32) O (λj=>?_) λj=>?_
 ·exact absurd rfl j
 refine rr 4 O<|kc (S.lS underlying4 (zg O O) O (zt O)<|zt O)<|rr 2 O<|RK.ZS (t:=39) O (λh=>?_) λh=>?_
 ·simp at h
 refine rr 7 O<|RK.ZS (t:=46) O (λg=>?_) λg=>?_
 ·exact absurd rfl g
 refine rr 4 O<|kc (S.lS underlying4 (zg O O) O (zt O)<|zt O)<|rr 2 O<|RK.ZS (t:=53) O (λf=>?_) λf=>?_
 ·simp at f
 refine rr 4 O<|kc (S.aneq [a.depth.lo.num,a.depth.lo.den,a.depth.hi.num,a.depth.hi.den] [a.depth.lo.num,a.depth.lo.den,a.depth.hi.num,a.depth.hi.den] eqSpan (zg O O) O (zt O) (zt O) O O O O)<|rr 2 O<|RK.ZS (t:=60) O (λe=>?_) λe=>?_
 ·exact absurd rfl e
 refine rr 2 O<|kc (S.OF R_ (zg O O) O<|zt O)<|rr 2 O<|kc (S.OF R_ (zg O O) O<|zt O)<|rr 4 O<|kB O (λm=>?_) λm=>?_
 ·exact absurd rfl m
 refine ro 9 O ?_;refine OK.loop (G:=Nat) [2,3] (λi=>[(2,.ptr 2 0),(1002,.box a.cs),(3,.ptr 3 0),(1003,.box a.cs),(5,bv i)]) (λi=>i<=R a.frames) (λi=>R a.frames - i) 0 (Zr _) ⟨O,O,O,O,O,Zo⟩ (λ_=>O) ?_;rintro i hi;refine ro 6 O<|kc (zk R_ O)<|rr 3 O<|kB O (λo=>?_) λo=>?_
 ·have p:i<R a.frames:=by omega
  refine ro 5 O ?_;refine kV (.c (zf Xk O)<|.c (zl RT O O O O)<|.c (zm O)<|.c (zI R_ O I O)<|.c (S.field L4 .none O (zt O) O)<|.c (zV YK O O)<|.c (zf Xk O)<|.c (zl RT O O O O)<|.c (zm O)<|.c (zI R_ O I O)<|.c (S.field L4 .none O (zt O) O)<|.c (zV YK O O)<|.c (S.neq .none O (zt O)<|zt O)<|.c (zm O)<|.c (S.VN Xk (.yes O O O F) O<|zt O)<|.c (S.YH RT (.yes O O O F) O (zt O) O O O O)<|.c (S.move (.yes O O O F) O<|zt O)<|.c (S.Zi (n:=i) R_ (.yes O O O F) O (zt O) (zt O) O I O)<|.c (S.field Ss (.yes O O O F) O (zt O) O)<|.c (S.Q_ Qq (.yes O O O F) O (zt O) O)<|.c (S.VN Xk (.yes O O O F) O<|zt O)<|.c (S.YH RT (.yes O O O F) O (zt O) O O O O)<|.c (S.move (.yes O O O F) O<|zt O)<|.c (S.Zi (n:=i) R_ (.yes O O O F) O (zt O) (zt O) O I O)<|.c (S.field Ss (.yes O O O F) O (zt O) O)<|.c (S.Q_ Qq (.yes O O O F) O (zt O) O)<|.c (S.call (Me (a:=a.frames[i].values) (b:=a.frames[i].values)) call41 (.yes O O O F) O (zc O<|zc O .nil) O)<|.c (S.Xb (.yes O O O F) O<|zt O)<|.c (S.Ug .none O (zt O) (zt O) F) .nil) ?_;refine Ab.D.code<|kB O (λd=>?_) λd=>?_
  ·simp at d
  refine Ro 8 O I<|Ab.D.lp ⟨i+1,I,I,O,O,O,O,O,Zo⟩
 refine ro 7 O<|kR O O ?_;rfl
def PlOk(a b:Int):Prop:=b=a\/(a=0/\b=1)\/(a=1/\2<=b/\b<=4)
structure Mv(H H':Z6)(s:Bool):Prop where
 len:H'.parts.length=H.parts.length+if s=true then 1 else 0
 old:∀j,j<H.parts.length->PlOk (H.p j).place (H'.p j).place
 new:s=true->((H'.p H.parts.length).place=0/\0<=(H'.p H.parts.length).num/\(H'.p H.parts.length).num<=1000000)/\∀j,j<H.parts.length->(H.p j).place≠0
 nm:∀j,j<H.parts.length->(H'.p j).num=(H.p j).num
section
variable{H H':Z6}{s:Bool}{i:Nat}
def Mv.refl:Mv H H false:=⟨rfl,λ_ _=>.inl rfl,Z,λ_ _=>rfl⟩
def Mv.re(h:H'.parts=H.parts):Mv H H' false:=⟨by rw[h];rfl,λj _=>.inl (by unfold Z6.p;rw[h]),Z,λj _=>by unfold Z6.p;rw[h]⟩
def Mv.Zh{f:Part->Part}(c:i<R H.parts->PlOk (H.p i).place (f<|H.p i).place)(b:∀p,(f p).num=p.num:=by exactλ_=>rfl):Mv H (H.Zh i f) false:=
 ⟨aμ ..,λj a=>by
  rw[xR H i f a];split
  ·rename_i e;subst e;exact c a
  ·exact .inl rfl,Z,λj a=>by
  rw[xR H i f a];split
  ·exact b _
  rfl⟩
def Mv.WT(h:Mv H H' s)(j:Nat):Mv H (H'.WT j) s:=
 ⟨(aμ ..).trans h.len,λk a=>by rw[Jl];exact h.old k a,(λe=>by rw[Jl];exact h.new e),λk a=>by rw[Jl];exact h.nm k a⟩
def p_mkPl(j:Nat)(a:j<R H'.parts):((H'.Yz i).p j).place=(H'.p j).place/\((H'.Yz i).p j).num=(H'.p j).num:=by
 unfold Z6.p Z6.Yz;dsimp only;rw[dp,Zv a];simp only[cφ,Option.getD_some];split<;>exact⟨rfl,rfl⟩
def Mv.Yz(h:Mv H H' false)(k:Nat):Mv H (H'.Yz k) false:=
 ⟨(Zx ..).trans h.len,λj a=>by rw[(p_mkPl j<|by have:=h.len;simp at this;omega).1];exact h.old j a,Z,λj a=>by rw[(p_mkPl j<|by have:=h.len;simp at this;omega).2];exact h.nm j a⟩
def Mv.about{n:Int}{f:Z6->Nat->HE}(a:∀i,H.U1 n=some i->Mv H (f H i).1 false):Mv H (YJ H n f).1 false:=by
 unfold YJ;cases e:H.U1 n with
 |none=>exact .refl
 |some i=>
  dsimp only;split
  ·exact(a i e).WT i
  exact a i e
def fS(h:H.Tk=some i):(H.p i).place=0:=by
 obtain⟨hi,a⟩:=Y8 h;rw[Qp<|Zv hi];exact pf a
def Mv.start{n:Int}(h0:0<=n)(r c:ba)(h:(W_ H n r c).2=0):Mv H (W_ H n r c).1 true:=by
 by_cases b:ZW [Z8 (decide<|n<=1000000) 2,Z8 (H.U1 n).isNone 5,Z8 ((H.AI r).isSome&&(H.Ob c).isSome) 6,Z8 H.Tk.isNone 17]=0
 case neg=>rw[OG rfl b]at h;exact absurd h b
 obtain⟨l,_,g,u⟩:=G2 b;have l:=pf l;rw[Zw]at g;obtain⟨k,o⟩:=sk.1 g.1;obtain⟨j,a⟩:=sk.1 g.2;have d:=(VK o).1;have f:=(Y8 a).1;rw[Lf b o (Zv d) a<|Zv f]at h⊢;split
 ·rename_i t;rw[Zn t]at h;exact absurd h t
 have m:∀(j:Nat)(_:j<R H.parts)(cs:List<|XA×Int)(q:Part×bd),Z6.p {H with Z5:=cs,parts:=H.parts++[q]} j=H.p j:=λj a cs q=>by
  unfold Z6.p;dsimp only;rw[m6 a]
 refine⟨F,λj a=>.inl (by rw[m j a]),λ_=>⟨?_,λj a e=>?_⟩,λj a=>by rw[m j a]⟩
 ·unfold Z6.p;dsimp only;rw[aκ<|Zq _,dδ];exact⟨rfl,h0,l⟩
 have:=(T9 _ _ 0).1 (dρ.1 u) _<|Zt a;rw[Qp<|Zv a]at e;exact absurd e<|a6 this
def Mv.rP(k:Nat)(L:Sv)(h0:0<=L.num)(h:(WQ k H L).2=0):Mv H (WQ k H L).1<|decide<|k=1:=by
 have b:∀{j:Nat},j≠1->decide (j=1)=false:=λh=>Zy h
 unfold WQ at h⊢;split
 ·exact .refl
 ·exact .start h0 _ _ h
 ·unfold Yl;cases e:H.Tk with
  |none=>exact .refl
  |some i=>
   dsimp only
   repeat' split
   all_goals first|exact .refl|exact Mv.WT (.Zh λ_=>.inl rfl) i|exact Mv.WT .refl i
 ·unfold Sz;cases e:H.Tk with
  |none=>exact .refl
  |some i=>exact Mv.WT (.Zh λ_=>.inr<|.inl ⟨fS e,rfl⟩) i
 ·refine .about λi _=>?_
  unfold Wi;split
  ·rename_i a;dsimp only;refine .Zh λ_=>.inr (.inr ⟨?_,by dsimp only;omega⟩)
   unfold Pm at a;simp at a;exact a.1.1.1
  exact .refl
 ·refine .about λi _=>?_
  unfold Tu;split
  ·dsimp only;exact .Zh λ_=>.inr (.inr ⟨by assumption,by dsimp only;omega⟩)
  exact .refl
 ·unfold Tw;dsimp only;split<;>exact .re rfl
 ·unfold XZ;repeat' split
  all_goals exact .re rfl
 ·refine .about λi _=>?_
  unfold WU;split
  ·dsimp only;exact .Zh λ_=>.inl rfl
  exact .refl
 ·refine .about λi _=>?_
  unfold Xz;dsimp only
  repeat' split
  all_goals first|exact .refl|skip
  ·exact Mv.Yz (.Zh λ_=>.inr<|.inr ⟨Zu.1<|by assumption,by dsimp only;omega⟩) i
  dsimp only;exact .Zh λ_=>.inr (.inr ⟨Zu.1<|by assumption,by dsimp only;omega⟩)
 ·unfold XX;dsimp only;repeat' split
  all_goals exact .re rfl
 ·refine .about λi _=>?_
  unfold Xe;dsimp only;split<;>exact .re rfl
 rw[Zy<|by assumption];unfold Wo;split<;>exact .re rfl
def fR{x:Entry}{k:Nat}(h:H.tail x i k=0):(Q9 x.text<|kinds.getD k []).2=true:=by
 unfold Z6.tail at h;rw[ZW]at h;split at h
 ·rename_i b;exact absurd h b
 cases a:(Q9 x.text<|kinds.getD k []).2 with
 |true=>rfl
 |false=>rw[a]at h;exact absurd h C
def Mv.enter{x:Entry}(h:(Za H x).2=0):∃k,X2 (ZQ 32 x.text).1=some k/\Mv H (Za H x).1 (decide<|k=1):=by
 unfold Za at h⊢;by_cases a:H.head x=0
 ·rw[Zm<|Zp a]at h⊢;obtain⟨i,hi⟩:=sk.1 (HV a).2.1;obtain⟨k,d⟩:=sk.1 (HV a).2.2.2.2.2.2;rw[hi,d]at h⊢;dsimp only at h⊢;by_cases c:H.tail x i k=0
  ·rw[Zm<|Zp c]at h⊢;by_cases b:(WQ k H (Yn x.text).1).2=0
   ·rw[Zm<|Zp b];have m:=Mv.rP k _ (G3<|(text_eq d).1▸fR c).1 b;exact⟨k,rfl,m.len,m.old,m.new,m.nm⟩
   rw[Zn b]at h;exact absurd h b
  rw[Zn c]at h;exact absurd h c
 rw[Zn a]at h;exact absurd h a
end
def xp:∀(l:List Entry)(H:Z6)(i k:Nat),(runT H i l).2.2=0->(runT H i<|l.take k).2.2=0
 |[],_,_,k,h=>by rw[List.take_nil];exact h
 |x::l,H,i,0,h=>rfl
 |x::l,H,i,k+1,h=>by
  rw[fg];rw[runT]at h⊢;by_cases e:(Za H x).2=0
  ·rw[Zm<|Zp e]at h⊢;exact xp l _ _ k h
  rw[Zn e]at h;exact absurd h e
def UP(h:(Z2 n l).2.2=0)(k:Nat):(Z2 n<|l.take k).2.2=0:=by
 obtain⟨a,b,e⟩:=Ur h;rw[Jn a<|by rw[sc];omega];rw[e]at h;exact xp _ _ _ k h
def xT(h:¬(Z2 n l).2.2≠0):Xi n l=(Z2 n l).1.st:=Zm h
def backT_1(h:(Z2 n l).2.2≠0):Xi n l=State.zero:=Zn h
def fW(A:HA):A.plain.st.ZJ=A.ZF.map (·.r):=by show(A.ZF.map _).map _=_;rw[ae];rfl
def qK(A:HA):A.plain.st.Z5=A.Z5.map (·.c):=by show(A.Z5.map _).map _=_;rw[ae];rfl
def ru(A:HA):A.plain.st.parts=A.parts.map (·.p):=by show(A.parts.map _).map _=_;rw[ae];rfl
def st_cs(A:HA):A.plain.st.cs=[.sl<|A.ZF.map λv=>v.r.cs,.sl<|A.Z5.map λv=>v.c.cs,.sl<|A.parts.map λv=>v.p.cs,.sl<|A.Z3.map λi=>[bv (A.plain.p i).num],bv A.env.parts,bv A.env.trim,.sl<|A.env.rows.map λl=>[.sl<|l.map Range.cs]]:=by
 unfold State.cs;rw[fW,qK,ru];show [X.sl _,X.sl _,X.sl _,X.sl<|(A.Z3.map _).map _,X.int .i64 A.env.parts,X.int .i64 A.env.trim,_]=_;rw[ae,ae,ae,ae];rfl
def aK(d:A.Ok m)(F:Y2 J)(g:∀h Y w,J h Y w->Z9 A.mem h Y w):Vi prog 44 [] [.raw<|pV A.b] [(3000,.res J)] [(3000,.res J)]<|.agg A.plain.st.cs:=by
 refine cG func44 O λ{_ _}=>?_
 have y:=d.m0;have z:=d.lv;have E:=d.lc;have B:=d.lp;have C:=d.lm;refine ro 10 O ?_;refine kc (zJ (us:=[bv A.env.parts,bv A.env.trim,.sl<|A.env.rows.map λl=>[.sl<|l.map Range.cs]]) Md O<|J_ g<|Z9.KL (k:=.Y1) (xs:=A.cs) O ⟨.same _,.same _,.same _,Zo⟩ O) ?_;refine kc (zU bu40 O O)<|rr 10 O<|kc (zH (u:=.sl<|A.ZF.map P6) DK O<|J_ g<|Z9.Xh (k:=.Y1) O O<|.sl d.vs)<|kc (zk DH O)<|rr 4 O<|OK.VL 3 0 880 3 O O O O O ?_;refine OK.loop (G:=Nat) [2,3,880] (λi=>[(0,.raw<|pV A.b),(2,.ptr 2 0),(1002,.box [.ZM,.ZM,.ZM,.ZM,bv 0,bv 0,.ZM]),(3,.ptr 3 0),(1003,.box [.own 880 i,.ZM,.ZM,.ZM,bv A.env.parts,bv A.env.trim,.sl<|A.env.rows.map λl=>[.sl<|l.map Range.cs]]),(2880,.arr 3<|(A.ZF.take i).map λv=>v.r.cs),(20,.sl<|A.ZF.map P6),(21,bv<|R A.ZF),(22,bv i),(3000,.res J)]) (λi=>i<=R A.ZF) (λi=>R A.ZF - i) 0 (Zr _) ⟨O,O,O,O,O,(ZX N),O,O,O,O,Zo⟩ (λ_=>O) ?_;rintro i hi;refine ro 6 O<|kB O (λx=>?_) λx=>?_
 ·have a:i<R A.ZF:=by omega
  obtain⟨v,f⟩:=Yh a;have e:A.ZF[i]=v:=by rw[Zv a]at f;exact aγ f
  refine ro 6 O<|kc (zI DH O I O) ?_;refine rr 4 O ?_;rw[e];refine kV (.c (zf QD O)<|.c (zl yy O O O O)<|.c (zm O)<|.c (zn O O)<|.c (zr Oy O)<|.c (zJ (us:=v.r.cs) fC O<|J_ g<|Z9.KL (k:=.v i) (xs:=v.cs) (HA.sv f) ⟨.same _,.same _,.same _,Zo⟩ O)<|.c (zM [[_,_,_]] ai32 O O O O)<|.c (zP ai32 O O (by rw[Zx,List.length_take_of_le hi]) N I<|by simp only[maxLen];omega)<|.c (zf QD O)<|.c (zS yy O O O O O O) .nil) ?_;refine Rd 6 O I ?_;refine Ab.D.lp ⟨i+1,I,I,O,O,O,O,O,(ZX<|by rw[mv a,ne];simp only[ta,H2,e];rfl),O,O,O,O,Zo⟩
 obtain rfl:i=R A.ZF:=by omega
 rw[List.take_length];refine ro 8 O<|kc (zH (u:=.sl<|A.Z5.map Lg) AT O<|J_ g<|Z9.Xh (k:=.Y1) O O<|.sl d.cs)<|kc (zk rz O)<|rr 4 O<|OK.TP 3 0 O O O O (Zx ..) O<|OK.VL 3 1 881 3 O O O O O ?_;refine OK.loop (G:=Nat) [2,3,881] (λi=>[(0,.raw<|pV A.b),(2,.ptr 2 0),(1002,.box [.ZM,.ZM,.ZM,.ZM,bv 0,bv 0,.ZM]),(3,.ptr 3 0),(1003,.box [.sl<|A.ZF.map λv=>v.r.cs,.own 881 i,.ZM,.ZM,bv A.env.parts,bv A.env.trim,.sl<|A.env.rows.map λl=>[.sl<|l.map Range.cs]]),(2881,.arr 3<|(A.Z5.take i).map λv=>v.c.cs),(39,.sl<|A.Z5.map Lg),(40,bv<|R A.Z5),(41,bv i),(3000,.res J)]) (λi=>i<=R A.Z5) (λi=>R A.Z5 - i) 0 (Zr _) ⟨O,O,O,O,O,(ZX N),O,O,O,O,Zo⟩ (λ_=>O) ?_;rintro i hi;refine ro 6 O<|kB O (λt=>?_) λt=>?_
 ·have a:i<R A.Z5:=by omega
  obtain⟨v,f⟩:=Yh a;have e:A.Z5[i]=v:=by rw[Zv a]at f;exact aγ f
  refine ro 6 O<|kc (zI rz O I O) ?_;refine rr 4 O ?_;rw[e];refine kV (.c (zf OH O)<|.c (zl C4 O O O O)<|.c (zm O)<|.c (zn O O)<|.c (zr Qn O)<|.c (zJ (us:=v.c.cs) ti170 O<|J_ g<|Z9.KL (k:=.c i) (xs:=v.cs) (HA.G6 f) ⟨.same _,.same _,.same _,Zo⟩ O)<|.c (zM [[_,_,_]] ai33 O O O O)<|.c (zP ai33 O O (by rw[Zx,List.length_take_of_le hi]) N I<|by simp only[maxLen];omega)<|.c (zf OH O)<|.c (zS C4 O O O O O O) .nil) ?_;refine Rd 6 O I ?_;refine Ab.D.lp ⟨i+1,I,I,O,O,O,O,O,(ZX<|by rw[mv a,ne];simp only[ta,H2,e];rfl),O,O,O,O,Zo⟩
 obtain rfl:i=R A.Z5:=by omega
 rw[List.take_length];refine ro 8 O<|kc (zH (u:=.sl<|A.parts.map Su) TU O<|J_ g<|Z9.Xh (k:=.Y1) O O<|.sl d.ps)<|kc (zk VC O)<|rr 4 O<|OK.TP 3 1 O O O O (Zx ..) O<|OK.VL 3 2 882 13 O O O O O ?_;refine OK.loop (G:=Nat) [2,3,882] (λi=>[(0,.raw<|pV A.b),(2,.ptr 2 0),(1002,.box [.ZM,.ZM,.ZM,.ZM,bv 0,bv 0,.ZM]),(3,.ptr 3 0),(1003,.box [.sl<|A.ZF.map λv=>v.r.cs,.sl<|A.Z5.map λv=>v.c.cs,.own 882 i,.ZM,bv A.env.parts,bv A.env.trim,.sl<|A.env.rows.map λl=>[.sl<|l.map Range.cs]]),(2882,.arr 13<|(A.parts.take i).map λv=>v.p.cs),(58,.sl<|A.parts.map Su),(59,bv<|R A.parts),(60,bv i),(3000,.res J)]) (λi=>i<=R A.parts) (λi=>R A.parts - i) 0 (Zr _) ⟨O,O,O,O,O,(ZX N),O,O,O,O,Zo⟩ (λ_=>O) ?_;rintro i hi;refine ro 6 O<|kB O (λq=>?_) λq=>?_
 ·have a:i<R A.parts:=by omega
  obtain⟨v,f⟩:=Yh a;have e:A.parts[i]=v:=by rw[Zv a]at f;exact aγ f
  refine ro 6 O<|kc (zI VC O I O) ?_;refine rr 4 O ?_;rw[e];refine kV (.c (zf Xu O)<|.c (zl WC O O O O)<|.c (zm O)<|.c (zn O O)<|.c (zr Ym O)<|.c (zJ (us:=v.p.cs) C1 O<|J_ g<|Z9.KL (k:=.p i) (xs:=v.cs) (HA.XW f) ⟨.same _,.same _,.same _,.same _,.sl<|d.fs? f,.same _,.same _,.same _,.same _,.same _,.same _,.same _,.same _,Zo⟩ O)<|.c (zM [[_,_,_,_,_,_,_,_,_,_,_,_,_]] ai34 O O O O)<|.c (zP ai34 O O (by rw[Zx,List.length_take_of_le hi]) N I<|by simp only[maxLen];omega)<|.c (zf Xu O)<|.c (zS WC O O O O O O) .nil) ?_;refine Rd 6 O I ?_;refine Ab.D.lp ⟨i+1,I,I,O,O,O,O,O,(ZX<|by rw[mv a,ne];simp only[ta,H2,e];rfl),O,O,O,O,Zo⟩
 obtain rfl:i=R A.parts:=by omega
 rw[List.take_length];refine ro 8 O<|kc (zH (u:=.sl<|A.Z3.map λi=>[.raw<|pV<|A.pb i]) TU O<|J_ g<|Z9.Xh (k:=.Y1) O O<|.sl d.ms) ?_;refine kc (zk VC O)<|rr 4 O<|OK.TP 3 2 O O O O (Zx ..) O<|OK.VL 3 3 883 1 O O O O O ?_;refine OK.loop (G:=Nat) [2,3,883] (λi=>[(0,.raw<|pV A.b),(2,.ptr 2 0),(1002,.box [.ZM,.ZM,.ZM,.ZM,bv 0,bv 0,.ZM]),(3,.ptr 3 0),(1003,.box [.sl<|A.ZF.map λv=>v.r.cs,.sl<|A.Z5.map λv=>v.c.cs,.sl<|A.parts.map λv=>v.p.cs,.own 883 i,bv A.env.parts,bv A.env.trim,.sl<|A.env.rows.map λl=>[.sl<|l.map Range.cs]]),(2883,.arr 1<|(A.Z3.take i).map λi=>[bv (A.plain.p i).num]),(77,.sl<|A.Z3.map λi=>[.raw<|pV<|A.pb i]),(78,bv<|R A.Z3),(79,bv i),(3000,.res J)]) (λi=>i<=R A.Z3) (λi=>R A.Z3 - i) 0 (Zr _) ⟨O,O,O,O,O,(ZX N),O,O,O,O,Zo⟩ (λ_=>O) ?_;rintro i hi;refine ro 6 O<|kB O (λo=>?_) λo=>?_
 ·have a:i<R A.Z3:=by omega
  have n:=d.mi _<|Zt a;obtain⟨v,f⟩:=Yh n;have j:=HA.RQ f;refine ro 6 O<|kc (zI VC O I O) ?_;refine rr 4 O ?_;rw[HA.CS f];refine kV (.c (zf DB O)<|.c (zl Qq O O O O)<|.c (zm O)<|.c (zn O O)<|.c (zr Ym O)<|.c (zr JC O)<|.c (zH YK O<|J_ g<|Z9.Xh (k:=.p A.Z3[i]) (HA.XW f) O<|.same _)<|.c (zM [[_]] sL O O O O)<|.c (zP sL O O (by rw[Zx,List.length_take_of_le hi]) N I<|by simp only[maxLen];omega)<|.c (zf DB O)<|.c (zS Qq O O O O O O) .nil) ?_;refine Rd 6 O I ?_;refine Ab.D.lp ⟨i+1,I,I,O,O,O,O,O,(ZX<|by rw[mv a,ne];simp only[ta,H2,j]),O,O,O,O,Zo⟩
 obtain rfl:i=R A.Z3:=by omega
 rw[List.take_length];refine ro 3 O<|OK.TP 3 3 O O O O (Zx ..) O<|ro 5 O<|OK.ret ⟨Y3.r1 (zy O O Z_ O) ?_,O,Zo⟩;rw[st_cs];try rfl
def r_(f:R n.plan<=1000)(j:N6 l):Q7 prog 12 [.agg n.cs,.sl<|l.map Entry.cs]<|.Yy [.agg (Xi n l).cs,bv (Z2 n l).2.2]:=by
 refine cT func12 O λg=>?_
 refine ro 11 O ?_;refine RK.Ng (((R2 f j).at g)) (λ_=>Mf.ZV _ _ _) (λ_=>Mf.mono) call43 O (zc O<|zc O .nil) O λA=>?_
 refine rr 16 O<|kB O (λa=>?_) λa=>?_
 ·refine kr<|kc (zU bu40 O O)<|rr 5 O<|OK.ret<|Y3.r2 (.XU O O O O Z_ O<|.k .ZM<|.k .ZM<|.k .ZM<|.k .ZM<|.k (.same O)<|.k (.same O)<|.k .ZM .z) (zo O O) ?_;rw[backT_1 a]
  try rfl
 have b:(Z2 n l).2.2=0:=Zu.1 a;refine ro 3 O<|OK.Ld b O λd c=>?_;rw[Jm b];refine OK.R3<|jm O<|kc (S.Wc ((λJ e h=>(aK d e h).Tq e)) call44 .none O (zc O .nil) O O) ?_;refine rr 4 O<|kT O O Z_ O O O ?_;rw[xT a,c,b]
 try rfl
variable{xs:bi}
def u5(h:Shape (.st<|.cons .str<|.cons (.int .i64) .nil) xs):∃p:Ze,xs=p.cs:=by
 obtain⟨a,b,rfl,⟨s,rfl⟩,c,d,rfl,⟨n,rfl⟩,rfl⟩:=h;exact⟨⟨s,n⟩,rfl⟩
def cW(h:Shape (.cons (.sl<|.st<|.cons .str<|.cons (.int .i64) .nil)<|.cons .str<|.cons (.int .i64)<|.cons (.st<|.cons (.int .i64)<|.cons (.int .i64) .nil) .nil) xs):∃p:Net,xs=p.cs:=by
 obtain⟨a,b,rfl,⟨v9,rfl,j⟩,c,d,rfl,⟨s,rfl⟩,e,f,rfl,⟨n,rfl⟩,g,k,rfl,⟨u,v,rfl,⟨lo,rfl⟩,y,z,rfl,⟨hi,rfl⟩,rfl⟩,rfl⟩:=h;obtain⟨l,rfl⟩:=EF (f:=Ze.cs) λr h=>u5<|j r h;exact⟨⟨l,s,n,lo,hi⟩,rfl⟩
def qT(h:Shape (.cons (.int .i64)<|.cons .str<|.cons .str .nil) xs):∃p:Entry,xs=p.cs:=by
 obtain⟨a,b,rfl,⟨n,rfl⟩,c,d,rfl,⟨s,rfl⟩,e,f,rfl,⟨t,rfl⟩,rfl⟩:=h;exact⟨⟨n,s,t⟩,rfl⟩
theorem AB{x:X}(h:Shape (.sl<|.st<|.cons (.int .i64)<|.cons .str<|.cons .str .nil) [x]):∃l:List Entry,x=.sl (l.map Entry.cs):=by
 obtain⟨v9,b,a⟩:=h;cases b;obtain⟨l,rfl⟩:=EF (f:=Entry.cs) λr h=>qT<|a r h;grind
