import Derived.Test.YthibpafdakbpgaaGreatDoorUuD
set_option linter.all false
set_option maxHeartbeats 4000000
open List renaming length->R
namespace Go.Proofs.YthibpafdakbpgaaGreatDoor
open Go.Ab Tryz
set_option maxRecDepth 9999
def cut_eq{l:ba}(h:(ZQ 32 l).2.2=true):l=(ZQ 32 l).1++32::(ZQ 32 l).2.1:=by
 by_cases h0:32∈l
 ·obtain⟨k,a,b,d⟩:=fst32 l h0;rw[ku a d b];show l=l.take k++32::l.drop (k+1);rw[←b,←np a,a7]
 rw[Nz<|xQ λj c q=>h0<|q▸Zt c]at h;cases h
def OQ(x:Entry):ba:=Lib.itoa x.at_++([32]++(x.OR++([32]++x.text)))
def Nx(f:Int)(x:Entry)(a:Int):ba:=if f=2 then OQ x++([32]++Lib.itoa (J8 (OQ x) a))else OQ x
def Un(f:Int):List Entry->Int->List ba
 |[],_=>[]
 |x::l,a=>Nx f x a::Un f l (J8 (OQ x) a)
def CJ:List Entry->Int->Int
 |[],a=>a
 |x::l,a=>CJ l<|J8 (OQ x) a
def Qf(l:List ba):ba:=l.flatMap λs=>s++[10]
def VD(l:List Entry)(f:Int):ba:=Qf<|Lib.itoa f::Un f l 0
def fmtE(f:Int):Int:=if f=1\/f=2 then 0 else 15
def fT(n:Net)(l:List Entry)(f:Int):Int:=ZW [(Z2 n l).2.2,fmtE f]
def hU(n:Net)(l:List Entry)(f:Int):ba×Int:=if fT n l f≠0 then([],fT n l f)else(VD l f,0)
def JOk(l:List Entry):Prop:=∀x∈l,IntKind.i64.wrap x.at_=x.at_/\R x.OR<=61000/\R x.text<=61000
def P8:∀(l:ba)(a:Int),0<=a/\a<=999960->0<=J8 l a/\J8 l a<=999960
 |[],_,h=>h
 |b::l,a,h=>P8 l _ I
def j4:∀(l:List Entry)(a:Int),0<=a/\a<=999960->0<=CJ l a/\CJ l a<=999960
 |[],_,h=>h
 |_::l,_,h=>j4 l _<|P8 _ _ h
def Ao:∀(l:List Entry)(x:Entry)(a:Int),CJ (l++[x]) a=J8 (OQ x) (CJ l a)
 |[],_,_=>rfl
 |_::l,x,_=>Ao l x _
def Jc(f:Int):∀(l:List Entry)(x:Entry)(a:Int),Un f (l++[x]) a=Un f l a++[Nx f x<|CJ l a]
 |[],_,_=>rfl
 |y::l,x,_=>by rw[H5,Un,Jc f l];rfl
def Nc(f:Int):∀(l:List Entry)(a:Int),R (Un f l a)=R l
 |[],_=>rfl
 |_::l,_=>by rw[Un,tt,Nc f l];rfl
def qi{n:Int}(h:0<=n/\n<=999960):IntKind.i64.wrap n=n:=mn _ I
variable{x:Entry}
def jS_len(h:IntKind.i64.wrap x.at_=x.at_/\R x.OR<=61000/\R x.text<=61000):R (OQ x)<=122030:=by
 have:=OE h.1;simp only[OQ,Zs,tt,aυ];omega
variable{f:Int}
def dx{a:Int}(h:IntKind.i64.wrap x.at_=x.at_/\R x.OR<=61000/\R x.text<=61000)(b:0<=a/\a<=999960):R (Nx f x a)<=122060:=by
 have d:=jS_len h;have c:=OE<|qi<|P8 (OQ x) a b;unfold Nx;split
 ·simp only[Zs,tt,aυ];omega
 omega
def gU(f:Int):∀(l:List Entry)(a:Int),JOk l->(0<=a/\a<=999960)->∀s∈Un f l a,R s<=122060
 |[],_,_,_,s,b=>by cases b
 |x::l,a,h,ha,s,b=>by
  rcases sf.1 b with rfl|b
  ·exact dx (h x rv) ha
  exact gU f l _ (λy c=>h y<|rl _ c) (P8 _ _ ha) s b
def gR(l:List ba)(s:ba):Qf (l++[s])=Qf l++(s++[10]):=by simp[Qf]
def j7{B:Nat}:∀(l:List ba),(∀s∈l,R s<=B)->R (Qf l)<=R l * (B+1)
 |[],_=>by simp[Qf]
 |s::l,h=>by
  have b:=j7 l λx a=>h x<|rl _ a
  have c:=h s rv;simp only[Qf,PP,Zs,tt,aυ]at b⊢;rw[bρ];omega
def join3(a b c:ba):Lib.join [a,b,c] [32]=a++([32]++(b++([32]++c))):=by simp[Lib.join,List.intercalate,List.intersperse]
def runT_at:∀(l:List Entry)(H:Z6)(i:Nat),(runT H i l).2.2=0->∀x∈l,0<=x.at_/\x.at_<=1000000000000
 |[],_,_,_,x,a=>by cases a
 |y::l,H,i,h,x,a=>by
  rw[runT]at h;by_cases e:(Za H y).2=0
  ·rw[Zm<|Zp e]at h;rcases sf.1 a with rfl|a
   ·have b:H.head x=0:=by
     unfold Za at e;by_cases b:H.head x=0
     ·exact b
     rw[Zn b]at e;exact e
    exact(HV b).2.2.1
   exact runT_at l _ _ h x a
  rw[Zn e]at h;exact absurd h e
variable{l:List Entry}{n:Net}
def replay_at(h:(Z2 n l).2.2=0):∀x∈l,0<=x.at_/\x.at_<=1000000000000:=by
 unfold Z2 at h;by_cases e:L_ n l=0
 ·rw[Zm<|Zp e]at h;exact runT_at l _ _ h
 rw[Zn e]at h;exact absurd h e
def JOk_of(h:(Z2 n l).2.2=0)(b:∀x∈l,R x.OR<=1000/\R x.text<=1000):JOk l:=λx a=>⟨mn _ (by have:=replay_at h x a;omega),by have:=b x a;omega,by have:=b x a;omega⟩
def JOk.take{l:List Entry}(h:JOk l)(i:Nat):JOk<|l.take i:=λx a=>h x<|eν a
def jrnE_0(h:fT n l f=0):(Z2 n l).2.2=0/\fmtE f=0:=by
 unfold fT at h;rw[ZW]at h;by_cases a:(Z2 n l).2.2=0
 ·rw[Zm<|Zp a,ZW]at h;by_cases b:fmtE f=0
  ·exact⟨a,b⟩
  rw[Zn b]at h;exact absurd h b
 rw[Zn a]at h;exact absurd h a
def catT_snoc2(a:ba)(l:List ba)(s:ba):Qf (a::l)++(s++[10])=Qf (a::(l++[s])):=(gR (a::l) s).symm
def fW{a b:ba}(h:a=b):some (X.str a)=some (X.str b):=by rw[h]
def CU{a b:Int}(h:a=b):some (X.int .i64 a)=some (X.int .i64 b):=by rw[h]
def jrnE_v(h:(Z2 n l).2.2=0):fT n l f=fmtE f:=by
 unfold fT;rw[ZW,Zm<|Zp h,ZW];split
 ·rfl
 rename_i a;rw[Zu.1 a];rfl
def ga:Ct prog 71 [bv f]<|.bool<|decide<|f=1\/f=2:=by
 refine cI func71 O<|ro 10 O<|RK.ZS (t:=5) O (λa=>?_) λa=>?_
 ·refine rr 6 O<|kR O O ?_;simp[*]
 refine rr 6 O<|kR O O ?_;simp[*]
def nB:Q7 prog 57 [bv f]<|.str<|Lib.itoa f++[10]:=by
 refine cT func57 O λc=>?_
 refine OK.intB (t:=0) O O λa=>?_
 have b:=OE a;refine ro 8 O<|kc (S.Xo (N9 a) c call90 .none O (zc O .nil) O) ?_;refine kc (S.sJ .none O (zt O) (.Vh (l:=[10]) O C)<|by simp only[Zs,tt,aυ];omega) ?_;refine rr 3 O<|kR O O ?_;rfl
def ew{a:Int}(q:R x.OR<=61000/\R x.text<=61000)(j:0<=a/\a<=999960):Q7 prog 64 [.agg x.cs,bv f,bv a]<|.Yy [.str<|Nx f x a++[10],bv<|J8 (OQ x) a]:=by
 refine cT func64 O λk=>?_
 refine OK.aggInt 0 0 O O O λm=>?_
 have d:=mn _ m;have o:=OE d;have n:=jS_len ⟨d,q⟩;have g:=P8 (OQ x) a j;have b:=qi g;have i:=OE b;have e:Lib.join [Lib.itoa x.at_,x.OR,x.text] [32]=OQ x:=join3 _ _ _;refine ro 8 O ?_;refine kV (.c (zf JD O)<|.c (zl YK O O O O)<|.c (S.Xo (N9 d) k call90 .none O (zc O .nil) O)<|.c (zf fi79_1 O)<|.c (zl T6 O O O O)<|.c (zf Kz O)<|.c (zl T6 O O O O)<|.c (zM [[_],[_],[_]] V6 O O O O)<|.c (S.XY (fU.ct (l:=[Lib.itoa x.at_,x.OR,x.text]) (sep:=[32]) F<|by rw[e];omega) call98 .none O (zc O<|.cons (.Vh (l:=[32]) O C) .nil) (.cons (.p (.own O O) O)<|.cons (.same O) .nil) O)<|.c (za O) .nil) ?_;refine Ab.D.code<|kO ?_;rw[e];refine ro 3 O<|kc (zK (kf (l:=OQ x) j) call80 O)<|rr 10 O<|kB O (λh=>?_) λh=>?_
 ·refine ro 3 O<|kc (S.Xo (N9 b) k call90 .none O (zc O .nil) O) ?_;refine kc (S.sJ .none O (.Vh (l:=[32]) O C) (zt O)<|by simp only[Zs,tt,aυ];omega) ?_;refine kc (S.sJ .none O (zt O) (zt O)<|by simp only[Zs,tt,aυ];omega) ?_;refine rr 6 O ?_;refine kc (S.sJ .none O (zt O) (.Vh (l:=[10]) O C)<|by simp only[Zs,tt,aυ];omega) ?_;refine rr 5 O<|kS O O O O ?_;unfold Nx;simp_all
 refine ro 5 O ?_;refine kc (S.sJ .none O (zt O) (.Vh (l:=[10]) O C)<|by simp only[Zs,tt,aυ];omega) ?_;refine rr 5 O<|kS O O O O ?_;unfold Nx;simp_all
def dZ(p:R l<=1000)(k:JOk l):Q7 prog 72 [.sl<|l.map Entry.cs,bv f]<|.str<|VD l f:=by
 refine cT func72 O λn=>?_
 refine OK.intB (t:=1) O O λg=>?_
 have m:=OE g;refine ro 8 O<|kc (S.Xo nB n call57 .none O (zc O .nil) O)<|rr 12 O<|kc (zk Vy O)<|rr 4 O ?_;refine OK.loop (G:=Nat) [] (λi=>[(0,.sl<|l.map Entry.cs),(1,bv f),(5,.str<|Qf<|Lib.itoa f::Un f (l.take i) 0),(6,bv<|CJ (l.take i) 0),(13,.sl<|l.map Entry.cs),(14,bv<|R l),(15,bv i)]) (λi=>i<=R l) (λi=>R l - i) 0 (Zr _) ⟨O,O,(fW<|by simp[Qf,Un]),O,O,O,O,Zo⟩ (λ_=>O) ?_;rintro i hi;refine ro 6 O<|kB O (λj=>?_) λj=>?_
 ·have c:i<R l:=by omega
  have a:=mv c;have b:=k l[i]<|Zt c;have d:=j4 (l.take i) 0 I;have h:=j7 (B:=122060) (Lib.itoa f::Un f (l.take i) 0) (λs e=>by
   rcases sf.1 e with rfl|e
   ·omega
   exact gU f _ _ (k.take i) I s e)
  rw[tt,Nc,sc]at h;have o:=dx (f:=f) b d;refine ro 6 O<|kc (zI Vy O I O) ?_;refine rr 10 O<|kc (S.Xo (ew (x:=l[i]) (f:=f) b.2 d) n call64 .none O (zc O<|zc O<|zc O .nil) O)<|rr 10 O ?_;refine kc (S.sJ .none O (zt O) (zt O)<|by simp only[Zs,tt,aυ];omega) ?_;refine Rr 10 O I ?_;refine Ab.D.lp ⟨i+1,I,I,O,O,(fW<|by rw[a,Jc,catT_snoc2]),(CU<|by rw[a,Ao]),O,O,O,Zo⟩
 refine ro 3 O ?_;rw[show i=R l by omega,List.take_length];refine ro 5 O<|kR O O ?_;rfl
def CD(m:R n.plan<=1000)(k:N6 l)(e:R l<=1000)(j:∀x∈l,R x.OR<=1000/\R x.text<=1000):Q7 prog 26 [.agg n.cs,.sl<|l.map Entry.cs,bv f]<|.Yy [.str (hU n l f).1,bv (hU n l f).2]:=by
 refine cT func26 O λg=>?_
 have a:fT n l f=ZW [(Z2 n l).2.2,Z8 (decide<|f=1\/f=2) 15]:=by unfold fT fmtE Z8;by_cases h:f=1\/f=2<;>simp[h]
 refine ro 11 O<|kc (S.Xo (sM (n:=n) (l:=l) I k) g call70 .none O (zc O<|zc O .nil) O) ?_;refine rr 12 O<|kc (zK ga call71 O)<|kc (zK ZT call60 O) ?_;refine RK.c (zM [[_],[_]] XQ O O O O)<|kc (S.XY (YI (l:=[_,_])) call59 .none O (zc O .nil) (.cons (.p (.own O O) O) .nil) O) ?_;refine rr 9 O<|kB O (λb=>?_) λb=>?_
 ·have d:hU n l f=([],fT n l f):=Zn (by rw[a];exact b);refine ro 7 O<|kS O O O O ?_;rw[d,a];try rfl
 have h0:=Zu.1 b;have d:hU n l f=(VD l f,0):=Zm (by rw[a];exact b);have i:=JOk_of (jrnE_0<|a.trans h0).1 j;refine ro 6 O<|kc (S.Xo (dZ (l:=l) (f:=f) e i) g call72 .none O (zc O<|zc O .nil) O)<|rr 4 O<|kS O O O O ?_;rw[d]
def Tv:ba->List ba
 |[]=>[]
 |b::l=>if b=10 then [10]::Tv l else match Tv l with
  |[]=>[[b]]
  |p::ps=>(b::p)::ps
variable{p:ba}
def yz{b:UInt8}{l:ba}{ps:List ba}(h:b≠10)(a:Tv l=p::ps):Tv (b::l)=(b::p)::ps:=by
 rw[Tv,Zm h,a]
def vB:∀{t r:ba},(10:UInt8)∉t->Tv (t++10::r)=(t++[10])::Tv r
 |[],r,_=>by rw[bε,Tv,Zn rfl];rfl
 |b::t,r,h=>by
  rw[H5,yz (λe=>h<|e▸rv)<|vB λe=>h<|rl _ e];rfl
def r_:∀{t:ba},(10:UInt8)∉t->t≠[]->Tv t=[t]
 |[],_,h=>absurd rfl h
 |[b],h,_=>by rw[Tv,Zm λe:b=10=>h<|by rw[e];exact rv];rfl
 |b::c::t,h,_=>yz (λe=>h<|e▸rv)<|r_ (λe=>h<|rl _ e)<|List.cons_ne_nil _ _
def vm:∀l:ba,(Tv l).flatten=l
 |[]=>rfl
 |b::l=>by
  have a:=vm l;by_cases h:b=10
  ·rw[Tv,Zn h,P1,a,h];rfl
  cases c:Tv l with
  |nil=>rw[c]at a;rw[Tv,Zm h,c,←a];rfl
  |cons p ps=>rw[c]at a;rw[yz h c,←a];rfl
def idx10{l:ba}(h:Lib.indexByte l 10<0):(10:UInt8)∉l:=by
 induction l with
 |nil=>exact H4
 |cons b l a=>
  rw[PE]at h;intro e;split at h
  ·omega
  rename_i d;split at h
  ·rename_i c;rcases sf.1 e with e|e
   ·exact d e.symm
   exact a c e
  omega
def idx10_at{l:ba}(h:¬Lib.indexByte l 10<0):(Lib.indexByte l 10).toNat<R l/\Tv l=l.take ((Lib.indexByte l 10).toNat+1)::Tv (l.drop<|(Lib.indexByte l 10).toNat+1):=by
 induction l with
 |nil=>exact absurd C h
 |cons b l d=>
  rw[PE]at h⊢;by_cases a:b=10
  ·rw[Zn a,Tv,Zn a,a];exact⟨aθ _,rfl⟩
  rw[Zm a]at h⊢;by_cases c:Lib.indexByte l 10<0
  ·rw[Zn c]at h;omega
  rw[Zm c]at h⊢;obtain⟨g1,g2⟩:=d c;rw[show(Lib.indexByte l 10+1).toNat=(Lib.indexByte l 10).toNat+1 by omega];exact⟨by simpa using g1,by rw[yz a g2];rfl⟩
def G1(w:ba):ba:=if w.drop (R w - 1)=[10]then w.take (R w - 1)else w
def vf(t:ba):G1 (t++[10])=t:=by
 have h:R (t++[(10:UInt8)]) - 1=R t:=F
 unfold G1;rw[h,List.drop_left,Zn rfl,ic]
def trim_le(w:ba):R (G1 w)<=R w:=by
 unfold G1;split
 ·rw[sc];omega
 exact Zq _
def sP(s:ba)(f:Int):ba:=if f=2 then s.take (Ni s 32).toNat else s
def sP_le(s:ba)(f:Int):R (sP s f)<=R s:=by
 unfold sP;split
 ·rw[sc];omega
 exact Zq _
def DG(s:ba)(f:Int):Entry:=⟨if SD (ZQ 32<|sP s f).1=true then YZ (ZQ 32<|sP s f).1 else -1,(ZQ 32 (ZQ 32<|sP s f).2.1).1,(ZQ 32 (ZQ 32<|sP s f).2.1).2.1⟩
def entP_le(s:ba)(f:Int):R (DG s f).OR<=R s/\R (DG s f).text<=R s:=by
 have h0:=sP_le s f;have b:=Hz (c:=32) (l:=sP s f);have a:=Hz (c:=32) (l:=(ZQ 32<|sP s f).2.1);exact⟨di a.1<|di b.2 h0,di a.2<|di b.2 h0⟩
def vr{a r:ba}(h:(32:UInt8)∉a):ZQ 32 (a++32::r)=(a,r,true):=by
 obtain⟨f,d⟩:=(mQ (w:=a) (l:=a++32::r) λb g e=>h<|e▸g).1 (by rw[cξ,sg<|Nat.le_succ _,H3];rfl);have c:=cut_eq d;rw[f]at c;have i:=(List.cons.inj<|List.append_cancel_left c).2;exact ik f<|ik i.symm d
def lq{l:ba}{c:UInt8}{m:Nat}:∀{k:Nat},m<=k->(∀j,m<=j->j<k->l.getD j 0≠c)->QF l c k=QF l c m
 |0,h,_=>by rw[show m=0 by omega]
 |k+1,h,hj=>by
  by_cases e:m=k+1
  ·rw[e]
  rw[QF,Zm<|hj k I I,lq I λj a b=>hj j a I]
def Dh{a b:ba}{c:UInt8}(h:c∉b):Ni (a++c::b) c=R a:=by
 unfold Ni;rw[lq (m:=R a+1) F ?_,QF,Zn]
 ·rw[pv];simp
 intro j g f e;refine h ?_;rw[pv,aκ I]at e;have d:j - R a=(j - R a - 1)+1:=I
 rw[d,List.getElem?_cons_succ,Zv<|by simp at f;omega]at e;exact e▸Zt _
def take_u{u r:ba}{z:Int}(h:z=(R u:Int)):(u++r).take z.toNat=u:=by rw[h,gc,ic]
def dec_le:∀(d u:Nat),u<10 ^ (d+1)->R (Lib.decDigits u)<=d+1
 |d,u,h=>by
  by_cases a:u<10
  ·rw[Lib.decDigits_one a];simp
  cases d with
  |zero=>omega
  |succ d=>
   have:=dec_le d (u / 10) (Nat.div_lt_of_lt_mul<|by rw[Nat.pow_succ]at h;omega);rw[Lc a,Zs,R0];omega
def CW{n:Int}(h:0<=n/\n<=1000000000000):TF (Lib.itoa n) 13=true/\SD (Lib.itoa n)=true/\YZ (Lib.itoa n)=n/\Wn (Lib.itoa n) 13=(n,true)/\∀b∈Lib.itoa n,W0 b=true:=by
 have e:=MO h.1;have j:R (Lib.itoa n)<=13:=by rw[e];exact dec_le 12 _ I
 have a:TF (Lib.itoa n) 13=true:=XS.2 ⟨by rw[e];exact Ls _,j⟩;have g:(Wq 0 (Lib.itoa n):Int)=n:=by rw[e,v8];omega
 have c:=Tt (Lib.itoa n) (d:=13) I;rw[a]at c;unfold YB at c;obtain⟨f,i⟩:=PM (l:=Lib.itoa n) (d:=13);rw[a]at f;refine⟨a,(im.1 c).1,by rw[O8 I a,g],ik (by rw[i a,g]) (im.1 f).1,?_⟩;rw[e];exact rm.1<|Jx _
def dig_no{b:UInt8}(h:W0 b=true):b≠32/\b≠10:=by
 have a:48<=b.toNat/\b.toNat<=57:=pf h;constructor<;>(intro e;subst e;revert a;decide)
def AH{n:Int}(h:0<=n/\n<=1000000000000):(32:UInt8)∉Lib.itoa n/\(10:UInt8)∉Lib.itoa n:=⟨λe=>(dig_no<|(CW h).2.2.2.2 _ e).1 rfl,λe=>(dig_no<|(CW h).2.2.2.2 _ e).2 rfl⟩
structure cB(x:Entry):Prop where
 at_:0<=x.at_/\x.at_<=1000000000000
 OR:(32:UInt8)∉x.OR
def jrn_app(x:Entry):OQ x=Lib.itoa x.at_++32::(x.OR++32::x.text):=by simp[OQ]
def sP_jln{a:Int}(b:0<=a/\a<=999960):sP (Nx f x a) f=OQ x:=by
 unfold sP Nx;split
 ·have c:=P8 (OQ x) a b;exact take_u (Dh (AH I).1)
 rfl
def cut_jrn(h:cB x):ZQ 32 (OQ x)=(Lib.itoa x.at_,x.OR++32::x.text,true)/\ZQ 32 (x.OR++32::x.text)=(x.OR,x.text,true):=⟨by rw[jrn_app];exact vr (AH h.at_).1,vr h.OR⟩
def entP_jln{a:Int}(h:cB x)(d:0<=a/\a<=999960):DG (Nx f x a) f=x:=by
 obtain⟨g,e⟩:=cut_jrn h;obtain⟨_,c,b,_⟩:=CW h.at_;unfold DG;rw[sP_jln d,g];dsimp only;rw[e,c,b,Zn rfl]
abbrev RS:Type:=Z6×List Entry×Int×Int×Int
def iZ(f:Int)(q:RS)(w:ba):Prop:=w=Nx f (DG (G1 w) f) q.2.2.1++[10]/\(Za q.1<|DG (G1 w) f).2=0
def nxL(f:Int)(q:RS)(w:ba):RS:=((Za q.1<|DG (G1 w) f).1,q.2.1++[DG (G1 w) f],J8 (OQ<|DG (G1 w) f) q.2.2.1,q.2.2.2.1+R w,0)
def offL(f:Int)(q:RS)(w:ba):RS:=(q.1,q.2.1,q.2.2.1,q.2.2.2.1,if w=Nx f (DG (G1 w) f) q.2.2.1++[10]then 2 else 0)
open Classical in
noncomputable def C5(f:Int)(q:RS)(w:ba):RS×Option Code:=if iZ f q w then(nxL f q w,none)else(offL f q w,some (.exit 0))
variable{q:RS}{w:ba}
def rc_T(h:iZ f q w):C5 f q w=(nxL f q w,none):=Zn h
def rc_F(h:¬iZ f q w):C5 f q w=(offL f q w,some<|.exit 0):=Zm h
noncomputable def Nb(f:Int)(q:RS)(L:List ba):RS:=(ZZ (Ab.stepG (C5 f)) (q,none) L).1.1
variable{L:List ba}
def rec_T(h:iZ f q w):Nb f q (w::L)=Nb f (nxL f q w) L:=by
 unfold Nb;rw[ZZ];unfold Ab.stepG;rw[rc_T h];rfl
def dK{f:Int}{q:RS}{b:Code}:∀{L:List ba}{q0:RS},(ZZ (Ab.stepG<|C5 f) (q0,none) L).1=(q,some b)->b=.exit 0
 |[],q0,h=>by cases h
 |w::L,q0,h=>by
  rw[ZZ]at h;unfold Ab.stepG at h;by_cases a:iZ f q0 w
  ·rw[rc_T a]at h;exact dK (L:=L) h
  rw[rc_F a]at h;exact(aγ<|rn Prod.snd h).symm
def rec_stop{a:RS}{b:Code}(h:(ZZ (Ab.stepG<|C5 f) (a,none) L).1=(q,some b)):Nb f a L=q/\b=.exit 0:=⟨rn Prod.fst h,dK h⟩
def rec_done{a:RS}(h:ZZ (Ab.stepG<|C5 f) (a,none) L=((q,none),true)):Nb f a L=q:=rn (λz=>z.1.1) h
structure Gt(n:Net)(q:RS):Prop where
 ok:(Z2 n q.2.1).2.2=0
 h:(Z2 n q.2.1).1=q.1
 a:0<=q.2.2.1/\q.2.2.1<=999960
 t:q.2.2.1=CJ q.2.1 0
 z:q.2.2.2.2=0
def Gt.next(hi:Gt n q)(h:iZ f q w):Gt n<|nxL f q w:=by
 obtain⟨c,b⟩:=replay_on hi.ok (x:=DG (G1 w) f) (by rw[hi.h];exact h.2);exact⟨c,b.trans (by rw[hi.h];rfl),P8 _ _ hi.a,by unfold nxL;dsimp only;rw[Ao,←hi.t],rfl⟩
def Gt.iter{n:Net}{f:Int}{q:RS}:∀{L:List ba}{q0:RS},Gt n q0->ZZ (Ab.stepG<|C5 f) (q0,none) L=((q,none),true)->Gt n q/\q.2.2.2.1=q0.2.2.2.1+R L.flatten
 |[],q0,hi,h=>by
  have e:q0=q:=rn (λz=>z.1.1) h;rw[←e];exact⟨hi,F⟩
 |w::L,q0,hi,h=>by
  rw[ZZ]at h;unfold Ab.stepG at h;by_cases a:iZ f q0 w
  ·rw[rc_T a]at h;obtain⟨c,b⟩:=Gt.iter (L:=L) (hi.next a) h;refine⟨c,?_⟩;rw[b,P1,Zs];unfold nxL;dsimp only;omega
  rw[rc_F a]at h;exact absurd (rn (λz=>z.1.2) h) (by intro e;cases e)
def Gt.len(h:Gt n q):R q.2.1<=60/\Y_ q.1.plan=0/\Ka q.1.XR/\q.1.entries=(R q.2.1:Int):=by
 have a:=vT h.ok;have b:=fQ h.ok;rw[h.h]at a b;exact⟨(Ur h.ok).2.1,a.1,a.2,b⟩
variable{H:Z6}
def sD(h:(Za H x).2=0):H.head x=0:=by
 unfold Za at h;by_cases a:H.head x=0
 ·exact a
 rw[Zn a]at h;exact h
def fmtS(s:ba):Int:=if [50,10].isPrefixOf s=true then 2 else 1
def Gy(s:ba):Bool:=(Lib.itoa (fmtS s)++[10]).isPrefixOf s
def xW(n:Net)(s:ba):Int:=ZW [(U4 n).2,Z8 (decide ((R s:Int)<=60000)) 8,Z8 (Gy s) 3]
def Ay(n:Net):RS:=(Z6.init n (ZO n.plan).1,[],0,2,0)
noncomputable def Qr(n:Net)(s:ba):List Entry×Int×Int:=if xW n s≠0 then([],0,xW n s)else((Nb (fmtS s) (Ay n) (Tv (s.drop 2))).2.1,(Nb (fmtS s) (Ay n) (Tv (s.drop 2))).2.2.2.1,0)
def xS(h:(U4 n).2=0):Gt n<|Ay n:=by
 have b:L_ n []=0:=by unfold L_;rw[h];rfl
 have a:Z2 n []=(Z6.init n (ZO n.plan).1,0,0):=by unfold Z2;rw[Zm<|Zp b];rfl
 exact⟨rn (λz=>z.2.2) a,rn Prod.fst a,(show(0:Int)<=0/\(0:Int)<=999960 by decide),rfl,rfl⟩
def fmt_12(s:ba):fmtS s=1\/fmtS s=2:=by
 unfold fmtS;split
 ·exact .inr rfl
 exact .inl rfl
def kJ:Lib.itoa 1=[49]:=by rw[MO C];exact Lib.decDigits_one C
def wv:Lib.itoa 2=[50]:=by rw[MO C];exact Lib.decDigits_one C
def head_2(s:ba):R (Lib.itoa (fmtS s)++[10])=2:=by
 rcases fmt_12 s with e|e
 ·rw[e,kJ];rfl
 rw[e,wv];rfl
variable{s:ba}
def rcvE_0(h:xW n s=0):(U4 n).2=0/\R s<=60000/\Gy s=true/\2<=R s:=by
 unfold xW at h;by_cases a:(U4 n).2=0
 ·rw[a]at h;by_cases c:(R s:Int)<=60000
  ·rw[Zz c]at h;cases b:Gy s with
   |false=>rw[b]at h;exact absurd (show(3:Int)=0 from h) C
   |true=>
    refine⟨a,I,rfl,?_⟩;unfold Gy at b;have d:=(ed.1 b).length_le;have e:R (Lib.itoa (fmtS s)++[10])=2:=head_2 s;omega
  rw[Zy c]at h;exact absurd (show(8:Int)=0 from h) C
 rw[OD a]at h;exact absurd h a
def b8(b:R s<=100000)(a:R p<=100):Ct prog 56 [.str s,.str p]<|.bool<|p.isPrefixOf s:=by
 refine cI func56 O<|ro 9 O<|kc (zK (GP b a) call89 O)<|rr 3 O<|kR O O ?_;rfl
def sl_CutPre(g:R s<=100000)(f:R p<=100):Ct prog 91 [.str s,.str p]<|.Yy [.str (if p.isPrefixOf s=true then s.drop (R p) else s),.bool<|p.isPrefixOf s]:=by
 refine cI func91 O λ{_ _}=>?_
 have b:p.isPrefixOf s=true->R p<=R s:=λh=>(ed.1 h).length_le
 refine ro 11 O<|kc (zK (GP g f) call89 O)<|kc (S.not .none O<|zt O)<|kD<|OK.cond O O (λd=>?_) λd=>?_
 ·refine ro 7 O<|kS O O O O ?_;have c:p.isPrefixOf s=false:=by simpa using d
  rw[c];rfl
 have a:p.isPrefixOf s=true:=by simpa using d
 have e:=b a;refine ro 7 O ?_;refine kc (S.VI (lo:=R p) (l':=s.drop<|R p) W6 .none O (zt O) (.inr ⟨_,_,O,(zt O),O⟩) (.inl ⟨O,O,O⟩) I I<|by rw[List.take_length]) ?_;refine rr 4 O<|kS O O O O ?_;rw[a];rfl
def bz(b:R s<=100000)(a:R p<=100):Ct prog 58 [.str s,.str p]<|.Yy [.str (if p.isPrefixOf s=true then s.drop (R p) else s),.bool<|p.isPrefixOf s]:=by
 refine cI func58 O<|ro 10 O<|kc (zK (sl_CutPre b a) call91 O)<|rr 6 O<|kS O O O O ?_;rfl
variable{z:ba}
def sl_HasSuf(b:R z<=100000):Ct prog 150 [.str z,.str [10]]<|.bool<|decide<|z.drop (R z - 1)=[10]:=by
 refine cI func150 O<|ro 13 O<|RK.ZS (t:=10) O (λa=>?_) λa=>?_
 ·refine Rr 6 O I ?_;refine kc (S.VI (lo:=R z - 1) (l':=z.drop<|R z - 1) W6 (zg O O) O (zt O) (.inr ⟨_,_,O,(zt O),(by have:=(show((R ([10]:ba):Nat):Int)=1 from rfl);omega)⟩) (.inl ⟨O,O,O⟩) I I<|by rw[List.take_length]) ?_;refine rr 6 O<|kR O O ?_;refine Xj ?_
  first|(simp[*];done)|(have:z=[]:=by cases z;rfl;simp at *;omega)|skip
  all_goals (try (subst this;rfl))
 refine rr 13 O<|kR O O ?_;refine Xj ?_
 first|(simp[*];done)|(have:z=[]:=by cases z;rfl;simp at *;omega)|skip
 all_goals (try (subst this;rfl))
def aM(b:R z<=100000):Ct prog 97 [.str z,.str [10]]<|.str<|G1 z:=by
 refine cI func97 O<|ro 10 O<|kc (zK (sl_HasSuf b) call150 O)<|kD<|kB O (λa=>?_) λa=>?_
 ·refine ro 7 O ?_;refine kc (S.sub .none O (zt O) (zt O) (mn _<|by simp;omega)<|mn _<|by simp;omega) ?_;refine kc (S.VI (hi:=R z - 1) (l':=z.take<|R z - 1) W6 .none O (zt O) (.inl ⟨O,O,O⟩) (.inr ⟨_,_,O,(zt O),(by have:=rn List.length a;rw[vd,R0]at this;have:=(show((R ([10]:ba):Nat):Int)=1 from rfl);omega)⟩) I I O) ?_;refine rr 3 O<|kR O O ?_;unfold G1;rw[Zn a]
  try rfl
 refine ro 8 O<|kR O O ?_;unfold G1;rw[Zm a]
def fN(a:R z<=100000):Ct prog 63 [.str z,.str [10]]<|.str<|G1 z:=by
 refine cI func63 O<|ro 9 O<|kc (zK (aM a) call97 O)<|rr 3 O<|kR O O ?_;rfl
def cm{l:ba}{c:UInt8}(a:R l<=100000):Ct prog 93 [.str l,.int .u8 (c.toNat:Int)]<|bv<|Lib.indexByte l c:=by
 refine cI func93 O<|ro 9 O<|kc (zK (EJ (l:=l) (c:=c) a) call144 O)<|rr 3 O<|kR O O ?_;rfl
def str_Lines{l:ba}:gl prog 61 [.str l] 92 [[.str l]]:=by
 refine gl.intro (kb:=[(1,[.str l])]) func61 rfl ntmps61 results61 rfl rfl rfl F λw h=>?_
 refine ro 3 O<|kc (S.assign .none O .Re)<|rr 4 O<|kc (S.Xd .none O (zt O) O)<|rr 3 O ?_;exact OK.ret ⟨.inl rfl,rfl,rfl,⟨rfl,Zo⟩,rfl⟩
def cr{l:ba}(C:R l<=100000){σ:Type}(J:σ->bm)(g:σ->ba->σ×Bool)(i:σ)(Φ:Value->Prop)(o:∀s,Y2<|J s)(t:dI σ J g i Φ<|Tv l):Vi prog 92 [871] [.cb Φ,.ptr 871 0] [(3000,.res<|J i),(1871,.box [.str l])] [(3000,.res<|J (ZZ g i<|Tv l).1)]<|.Yy []:=by
 refine cG func92 O<|OK.block<|OK.We [871] (λ(vi:ba)(a:List ba)=>[(0,.cb Φ),(1,.ptr 871 0),(1871,.box [.str vi]),(3000,.res<|J (ZZ g i a).1)]) (λvi a=>(ZZ g i a).2=true/\Tv l=a++Tv vi/\R vi<=R l) (λvi a=>R vi) l ([]) ⟨O,O,Zq _⟩ ⟨O,O,O,O,Zo⟩ (λ_ _=>O) ?_;rintro vi a ⟨b,v,z⟩;have q:R vi<=100000:=I
 have A:=DV vi 10;refine ro 8 O<|kB O (λw=>?_) λw=>?_
 ·refine ro 8 O ?_;refine OK.join (G:=(ba×ba)) [871] (λd=>[(0,.cb Φ),(1,.ptr 871 0),(3,.str d.1),(1871,.box [.str d.2]),(3000,.res<|J (ZZ g i a).1)]) (λd=>Tv l=a++d.1::Tv d.2/\R d.2<R vi) (λ_=>O) ?_ ?_
  ·refine ro 3 O<|kc (zK (cm (l:=vi) (c:=10) q) call93 O)<|rr 9 O<|kB O (λx=>?_) λx=>?_
   ·obtain⟨y,p⟩:=idx10_at (l:=vi) I;have h:Tv l=a++vi.take ((Lib.indexByte vi 10).toNat+1)::Tv (vi.drop<|(Lib.indexByte vi 10).toNat+1):=by rw[v,p]
    have n:R (vi.drop<|(Lib.indexByte vi 10).toNat+1)<R vi:=by rw[vd];omega
    refine kV (.c (zl T6 O O O O)<|.c (zm O)<|.c (zp O O I)<|.c (S.VI (hi:=(Lib.indexByte vi 10).toNat+1) (l':=vi.take<|(Lib.indexByte vi 10).toNat+1) W6 .none O (zt O) (.inl ⟨O,O,O⟩) (.inr ⟨_,_,O,(zt O),I⟩) I I O)<|.c (zl T6 O O O O)<|.c (zm O)<|.c (zp O O I)<|.c (S.VI (lo:=(Lib.indexByte vi 10).toNat+1) (l':=vi.drop<|(Lib.indexByte vi 10).toNat+1) W6 .none O (zt O) (.inr ⟨_,_,O,(zt O),I⟩) (.inl ⟨O,O,O⟩) I I<|by rw[List.take_length])<|.c (za O)<|.c (zS T6 O O O O O O) .nil) ?_;refine Ab.D.lp ⟨(vi.take<|(Lib.indexByte vi 10).toNat+1,vi.drop<|(Lib.indexByte vi 10).toNat+1),(by first|exact⟨h,n⟩|exact⟨h,by simp;omega⟩),O,O,O,O,O,Zo⟩
   have h:Tv l=a++vi::Tv []:=by rw[v,r_ (idx10 I)<|by intro e;rw[e]at w;simp at w];rfl
   refine ro 5 O ?_;refine Ab.D.lp ⟨(vi,[]),(by first|exact⟨h,n⟩|exact⟨h,by simp;omega⟩),O,O,O,O,O,Zo⟩
  rintro d ⟨k,B⟩;refine ro 4 O ?_;refine kc (S.Lm (J1:=J (g (ZZ g i a).1 d.1).1) (rq t k b) (o _) .none O (zt O) (zc O .nil) O O)<|kc (S.not .none O<|zt O)<|kD<|OK.cond O O (λm=>?_) λm=>?_
  ·have j:(g (ZZ g i a).1 d.1).2=false:=by simpa using m
   exact OK.ret ⟨⟨.inl rfl,[],Zo,rfl⟩,tN (by rw[k,wL b j]),Zo⟩
  have f:(g (ZZ g i a).1 d.1).2=true:=by simpa using m
  refine OK.skip<|Ab.D.blk ?_;refine Ab.D.lp ⟨d.2,a++[d.1],⟨by rw[wK b f],by rw[k];simp,I⟩,I,O,O,O,(tN<|by rw[wK b f]),Zo⟩
 have r:vi=[]:=cι.1 I;have u:Tv l=a:=by rw[v,r];exact i8 _
 refine OK.exit O ?_;exact⟨⟨.inr rfl,[],Zo,rfl⟩,tN (by rw[u]),Zo⟩
def seq_Lines{l:ba}(d:R l<=100000):Dd prog 92 [(871,[.str l])] [.ptr 871 0] (λs=>[.str s])<|Tv l:=
 λJ g c Φ a b=>cr d J g c Φ a b
def aK(h:R s<=100000):Q7 prog 62 [.str s,bv f]<|.agg (DG s f).cs:=by
 refine cT func62 O λj=>?_
 have g: -1<=Ni s 32/\Ni s 32<(R s:Int):=r9 s 32<|R s;have e:=sP_le s f;have i:=Hz (c:=32) (l:=sP s f);refine ro 5 O ?_;refine OK.join (G:=Unit) [4] (λ_=>[(0,.str<|sP s f),(4,.ptr 4 0),(1004,.box [bv 0,.str [],.str []])]) (λ_=>True) (λ_=>O) ?_ ?_
 ·refine ro 6 O<|kB O (λd=>?_) λd=>?_
  ·refine ro 3 O<|kc (zK (str_Last (l:=s) (c:=32) h) call94 O)<|kc (S.max2 .none O (.Zg O)<|zt O) ?_;refine kc (S.VI (hi:=(Ni s 32).toNat) (l':=s.take (Ni s 32).toNat) W6 .none O (zt O) (.inl ⟨O,O,O⟩) (.inr ⟨_,_,O,(zt O),I⟩) I I O)<|ja O<|RK.nil ?_;refine Ab.D.lp ⟨(),Zo,(fW<|by unfold sP;first|rw[Zn<|by assumption]|rw[Zm<|by assumption]),O,O,Zo⟩
  refine OK.skip ?_;refine Ab.D.lp ⟨(),Zo,(fW<|by unfold sP;first|rw[Zn<|by assumption]|rw[Zm<|by assumption]),O,O,Zo⟩
 rintro _ _;refine ro 3 O<|kc (zK (J3 (l:=sP s f) (c:=32) I) call95 O) ?_;refine rr 12 O<|kc (zK (J3 (l:=(ZQ 32<|sP s f).2.1) (c:=32) I) call95 O) ?_;refine rr 12 O<|kc (S.Xo (Js (l:=(ZQ 32<|sP s f).1) I) j call96 .none O (zc O .nil) O) ?_;refine rr 7 O ?_;refine OK.join (G:=Unit) [4] (λ_=>[(4,.ptr 4 0),(1004,.box [bv 0,.str [],.str []]),(8,.str (DG s f).OR),(9,.str (DG s f).text),(11,bv (DG s f).at_)]) (λ_=>True) (λ_=>O) ?_ ?_
 ·refine ro 3 O<|kc (S.neerr underlying194 .none O<|zt O)<|kD<|OK.cond O O (λb=>?_) λb=>?_
  ·have a:¬SD (ZQ 32<|sP s f).1=true:=by simpa using b
   refine ro 3 O ?_;refine Ab.D.lp ⟨(),Zo,O,O,O,O,(CU<|by first|exact(Zn a).symm|exact(Zm a).symm),Zo⟩
  have a:SD (ZQ 32<|sP s f).1=true:=by simpa using b
  refine OK.skip (Ab.D.lp ⟨(),Zo,O,O,O,O,(CU<|by first|exact(Zn a).symm|exact(Zm a).symm),Zo⟩)
 rintro _ _;refine ro 5 O<|kc (zU JA O O)<|rr 3 O<|OK.ret<|Y3.r1 (zy O O CK O) ?_;rfl
def RK.hboxC{E:Env}{U:bc}{s:St}{vt:Array Oper}{l:List Oper}{Q:bo}{M:HM Key}(t:Nat)(kb:Key){k sz:Nat}{vk qj:bi}(f:Nat.blt t 1000=true)(B:Ab.look s t=some (.Wt k 1 0))(i:Ab.look s (2000+k)=some (.W8 sz [] vk []))(F:Lh vk qj)(g:Ab.look s 3000=some (.res<|Z9 M))
  (h:∀b,RK E vt l U ((t,.raw<|pV b)::(2000+k,.any)::(3000,.res<|Z9<|M.set kb<|some (b,.box qj))::s) Q) (n:E.fs.contains k=false:=by rfl):RK E vt l U s Q:=λj C a w D=>by
 obtain⟨c,G,hh⟩:=D;obtain⟨b,N,v,r,q⟩:=HQ G (WW<|hh _ _ g).2 kb (KT n) (hh _ _ i) λvs h=>F.rep h;obtain⟨m,L,lv,u,J,A⟩:=(show Xw c (.Wt k 1 0) _ from(hh _ _ B).slot f);rw[v]at u;cases u;obtain⟨O,K,H,z,y⟩:=A rfl;cases z;refine h b j C a w ⟨_,r,λvo x d=>?_⟩;simp only[Ab.look]at d;split at d
 ·rename_i e;have:=Nat.eq_of_beq_eq_true e;cases d;subst this;rw[rb]at f;unfold Holds;rw[Zn f];exact y
 split at d
 ·rename_i e;have:=Nat.eq_of_beq_eq_true e;cases d;subst this;unfold Holds;rw[Zm I];exact .inl rfl
 rename_i p;split at d
 ·rename_i e;have:=Nat.eq_of_beq_eq_true e;cases d;subst this;exact Holds.Tp (Z9.ZV _) q
 rename_i o;exact Holds.dead v (λe=>p<|by rw[e];exact aσ _) (λe=>o<|by rw[e];exact aσ _)<|hh vo x d
def af{E:Env}(o:E.P=prog)(n:TM E){b:Nat}{m:Int}(g:m+2<=1000)(c:Y_ H.plan=0)(e:Ka H.XR)(f:R x.text<=100000):dF E 65 [.raw<|pV b,.agg x.cs] (bv (Za H x).2) (JX b H m)<|JX b (Za H x).1<|m+2:=λh Y w vs k hw l p a=>by
 obtain⟨A,⟨rfl,rfl,d⟩,j⟩:=p;exact((o▸Au d g c e f (λ_ i=>rQ (Y8 i).1):U_ E.P _ [] _ _ _ _).Tq n<|Z9.ZV _) h Y w vs k hw l j a
def names_ok(h:(U4 n).2=0):∀p∈n.ZU,YA p.name=true:=by
 intro p d;obtain⟨i,hi,rfl⟩:=dγ.1 d;by_cases b:UZ n=0
 ·by_cases a:(ZP (YF n.ZU) 0 n.ZU).2=0
  ·have c:=U5 _ _ _ a i hi;cases e:YA n.ZU[i].name with
   |true=>rfl
   |false=>rw[ud e]at c;exact absurd c C
  rw[(D_ b a).1]at h;exact absurd h a
 rw[(Im b).1]at h;exact absurd h b
def gP{α:Type}{g:Nat->α->Bool}:∀{l:List α}{i:Nat},UQ g i l=true->∀x∈l,∃j,g j x=true
 |[],_,_,x,a=>by cases a
 |y::l,i,h,x,a=>by
  rw[UQ,Zw]at h;rcases sf.1 a with rfl|a
  ·exact⟨i,h.1⟩
  exact gP h.2 x a
def name_no(h:YA s=true):(32:UInt8)∉s/\(10:UInt8)∉s:=by
 unfold YA at h;rw[Zw]at h;have a:∀b∈s,45<=b.toNat:=λb a=>by
  obtain⟨j,c⟩:=gP h.1 b a;unfold X3 at c;simp only[ti,Zw,de]at c;omega
 exact⟨λe=>absurd (a _ e) C,λe=>absurd (a _ e) C⟩
structure fR(x:Entry):Prop where
 sw:cB x
 by12:x.OR.length<=12
 by10:(10:UInt8)∉x.OR
 text:x.text.length<=600
 tx10:(10:UInt8)∉x.text
def print_no(h:s.all X6=true):(10:UInt8)∉s:=λe=>absurd (rm.1 h _ e) C
def head_ln(d:(U4 H.XR).2=0)(h:H.head x=0):fR x:=by
 obtain⟨_,j,i,_,l,g,_⟩:=HV h;obtain⟨k,f⟩:=sk.1 j;obtain⟨b,c⟩:=Y8 f;have e:H.XR.ZU[k].name=x.OR:=by simpa using c
 have a:=names_ok d _<|Zt b;rw[e]at a;exact⟨⟨i,(name_no a).1⟩,Ma a,(name_no a).2,I,print_no g⟩
def K6(h:(Z2 n l).2.2=0):∀x∈l,fR x:=by
 intro x a;obtain⟨i,hi,rfl⟩:=dγ.1 a;have b:=UP h i;refine head_ln (H:=(Z2 n<|l.take i).1) ?_<|sD (Aq h hi).1;rw[(sH b).1];exact(Ur h).1
def fmt_T(h:(Lib.itoa 2++[10]).isPrefixOf s=true):fmtS s=2:=by rw[wv]at h;exact Zn h
def fmt_F(h:¬(Lib.itoa 2++[10]).isPrefixOf s=true):fmtS s=1:=by rw[wv]at h;exact Zm h
def gd(h:xW n s=0):Qr n s=((Nb (fmtS s) (Ay n)<|Tv<|s.drop 2).2.1,(Nb (fmtS s) (Ay n)<|Tv<|s.drop 2).2.2.2.1,0):=Zm<|Zp h
def cut_right(h:Gy s=true):(if(Lib.itoa (fmtS s)++[10]).isPrefixOf s=true then s.drop (R<|Lib.itoa (fmtS s)++[10]) else s)=s.drop 2:=(Zn h).trans (by rw[head_2])
def lines_take{i:Nat}:R ((Tv s).take i).flatten<=R s:=by
 have h:=rn List.length<|vm s;rw[←a7 i (Tv s),aω,Zs]at h;omega
def lines_le{x:ba}(h:x∈Tv s):R x<=R s:=by
 have a:=(List.sublist_flatten_of_mem h).length_le;rw[vm]at a;exact a
def lkX{a b:X}(h:a=b):some a=some b:=by rw[h]
def My(hp:R n.plan<=1000)(hl:R s<=60010):Q7 prog 21 [.agg n.cs,.str s]<|.Yy [.sl<|(Qr n s).1.map Entry.cs,bv (Qr n s).2.1,bv (Qr n s).2.2]:=by
 refine cT func21 O λo=>?_
 refine OK.OC Key ?_;have W:R (Lib.itoa 2++[10])<=100:=by rw[wv];decide
 have U:R (Lib.itoa (fmtS s)++[10])<=100:=by rw[head_2];decide
 refine ro 3 O<|kc (S.assign .none O .Ya)<|rr 7 O<|kc (S.Xo (sE I) o call55 .none O (zc O .nil) O) ?_;refine rr 16 O ?_;refine OK.join (G:=Unit) [7,10] (λ_=>[(1,.str s),(7,.ptr 7 0),(1007,.box<|(M9 n).1.cs++(M9 n).2.cs),(9,bv (U4 n).2),(10,.ptr 10 0),(1010,.box [bv<|fmtS s]),(3000,.res<|Z9 λ_:Key=>none)]) (λ_=>True) (λ_=>O) ?_ ?_
 ·refine ro 3 O<|kc (S.Xo nB o call57 .none O (zD O) O)<|kc (zK (b8 (s:=s) (p:=Lib.itoa 2++[10]) I W) call56 O)<|kD<|OK.cond O O (λA=>?_) λA=>?_
  ·have d:=fmt_T A;refine ro 3 O ?_;refine Ab.D.lp ⟨(),Zo,O,O,O,O,O,(G5<|by first|(rw[d];done)|(rw[d];rfl)),O,Zo⟩
  have d:=fmt_F (by rw[A];decide);refine OK.skip ?_;refine Ab.D.lp ⟨(),Zo,O,O,O,O,O,(G5<|by first|(rw[d];done)|(rw[d];rfl)),O,Zo⟩
 rintro _ _;refine ro 4 O<|kc (S.Xo nB o call57 .none O (zc O .nil) O)<|kc (zK (bz (s:=s) (p:=(Lib.itoa (fmtS s)++[10])) I U) call58 O) ?_;refine rr 14 O<|kc (zK ZT call60 O)<|jm O<|kc (zK ZT call60 O) ?_;refine RK.c (zM [[_],[_],[_]] XQ O O O O)<|kc (S.XY (YI (l:=[_,_,_])) call59 .none O (zc O .nil) (.cons (.p (.own O O) O) .nil) O) ?_;refine rr 9 O<|kB O (λy=>?_) λy=>?_
 ·have K:xW n s≠0:=y;have M:Qr n s=([],0,xW n s):=Zn K;refine ro 3 O<|kc (S.assign .none O .Ya)<|rr 4 O<|OK.ret<|Y3.r3 (zo O O) (zo O O) (zo O O) ?_;rw[M];try rfl
 have K:xW n s=0:=Zu.1 y;have M:=gd K;obtain⟨J,hs6,hr,h2⟩:=rcvE_0 K;obtain⟨hS,hP0⟩:=J6 J;rw[hS,cut_right hr];refine ro 5 O<|kc (zU bu124 O O)<|RK.c (S.j8 (k:=51) O .none O (zt O) O)<|RK.hboxC 51 .Y1 (qj:=(HA.init 0 n (ZO n.plan).1).cs) O O O ⟨.inl ⟨O,O⟩,.inl ⟨O,O⟩,.inl ⟨O,O⟩,.inl ⟨O,O⟩,.inl ⟨O,O⟩,.inl ⟨O,O⟩,.inl ⟨O,O⟩,.inl ⟨O,O⟩,.inl ⟨O,O⟩,.inl ⟨O,O⟩,.inl ⟨O,O⟩,.inl ⟨O,O⟩,.inl ⟨O,O⟩,.inr ⟨O,O⟩,.inl ⟨O,O⟩,.inl ⟨O,O⟩,.inl ⟨O,O⟩,Zo⟩ O λb=>?_;refine rr 5 O ?_;refine OK.YS (J':=JX b (Z6.init n (ZO n.plan).1)<|2 * ((0:Nat):Int)+0) O (JX.ZV _ _ _) (λh Y w hj=>⟨HA.init b n (ZO n.plan).1,⟨O,O,HA.iq _ _ _⟩,by rw[←HA.nG];exact hj⟩) ?_;refine ro 10 O ?_;refine kc (S.sub .none O (zt O) (zt O) (mn _<|by rw[vd];omega)<|mn _<|by rw[vd];omega) ?_;refine rr 10 O<|RK.c (S.vV [871] (str_Lines (l:=s.drop 2)) call61 .none O (zc O .nil) O)<|rr 3 O<|OK.VL 14 0 860 3 O O O O O ?_;refine OK.QW (ps:=[59]) (encs:=(λs=>[.str s])) (L:=(Tv<|s.drop 2)) [10,13,14,15,16,860] [(10,.ptr 10 0),(13,.ptr 13 0),(14,.ptr 14 0),(15,.ptr 15 0),(16,.ptr 16 0)] (λq=>[(1010,.box [bv<|fmtS s]),(1013,.box [.raw<|pV b]),(1014,.box [.own 860<|R q.2.1]),(2860,.arr 3<|q.2.1.map Entry.cs),(1015,.box [bv q.2.2.2.1]),(1016,.box [bv q.2.2.1]),(3000,.res<|JX b q.1<|2 * (R q.2.1:Int)+q.2.2.2.2)]) (Ay n) (C5<|fmtS s) [(871,[.str<|s.drop 2])] (seq_Lines<|by rw[vd];omega) ⟨O,Zo⟩ O call92 (.inl O) (zt O) O ⟨O,O,O,O,O,O,O,O,O,(G5<|by rw[vd,show((R s:Int) - ((R s - 2:Nat):Int))=2 by omega];rfl),O,O,Zo⟩ (λ_=>O) (λ_=>O) (λ_=>O) (λ_=>O) (λ_=>O) C O ?_ ?_ ?_
 ·rintro i x q hx E lr c0 w0 p1 p2 hR1 hR2;have o:=hR2.tab o;have P:=mr hx;have Q:=lines_le P;rw[vd]at Q;obtain⟨v,B⟩:=Gt.iter (xS J) E;have B:q.2.2.2.1=2+(R ((Tv<|s.drop 2).take i).flatten:Nat):=B;have Z:=lines_take (s:=s.drop 2) (i:=i);rw[vd]at Z;obtain⟨hl60,V,hce,hen⟩:=v.len;have T:=v.a;have r:=v.z;have hel:=entP_le (G1 x)<|fmtS s;have htl:=trim_le x;refine OK.R3<|ja O<|RK.nil ?_;refine⟨rfl,?_⟩;refine OK.block<|kO<|kV (.c (zm O)<|.c (zK (fN (z:=x) I) call63 O)<|.c (zl YK O O O O)<|.c (S.Xo (aK (s:=G1 x) (f:=fmtS s) I) o call62 .none O (zc O<|zc O .nil) O)<|.c (zA (c:=18) ze79 O)<|.c (zS CK O O O O O O) .nil) ?_;refine rd 6 O (kc (S.Xo (ew (x:=DG (G1 x)<|fmtS s) (f:=fmtS s) (a:=q.2.2.1) ⟨by omega,by omega⟩ T) o call64 .none O (zc O<|zc O<|zc O .nil) O) ?_);refine rr 14 O<|RK.ZS (t:=74) O (λg=>?_) λg=>?_
  ·have u:C5 (fmtS s) q x=_:=rc_F λe=>g e.1
   refine rr 8 O<|OK.exitOut O ?_;rw[u];exact⟨rfl,rfl,rfl,rfl,rfl,rfl,rfl,tN (by unfold offL;dsimp only;rw[Zm g,r]),Zo⟩
  refine rr 2 O ?_;refine RK.c (S.VO ((af O o (b:=b) (H:=q.1) (m:=2 * (R q.2.1:Int)+q.2.2.2.2) I V hce (x:=DG (G1 x)<|fmtS s) I)) (JX.ZV _ _ _) call65 (zg O O) O (zc O<|zc O .nil) O O) ?_;refine rr 4 O<|kB O (λj=>?_) λj=>?_
  ·have u:C5 (fmtS s) q x=_:=rc_F λe=>j e.2
   have hee:=gS j;refine OK.exitOut O ?_;rw[u];exact⟨rfl,rfl,rfl,rfl,rfl,rfl,rfl,tN (by unfold offL;dsimp only;rw[Zn<|Zu.1 g,r,hee,lj]),Zo⟩
  have X:C5 (fmtS s) q x=_:=rc_T ⟨Zu.1 g,Zu.1 j⟩;refine ro 6 O ?_;refine RK.c (zM [[_,_,_]] x9 O O O O) ?_;refine kc (zP x9 O O F N I<|by simp only[maxLen];omega) ?_;refine Rr 13 O I ?_;rw[X];exact⟨rfl,rfl,rfl,lkX (by simp[nxL,Yv]),ZX (by simp[nxL,Entry.cs]),rfl,rfl,tN (by unfold nxL;dsimp only;rw[r,Zs,R0,show 2 * (((R q.2.1+1:Nat)):Int)+0=2 * (R q.2.1:Int)+0+2 by omega]),Zo⟩
 ·rintro q E;have hR:=rec_done E;refine rd 3 O ?_;refine OK.TP 14 0 O O O O F O ?_;refine kV (.c (zl ti27 O O O O)<|.c (zl YK O O O O)<|.c (za O)<|.c (za O)<|.c (zi O O) .nil)<|Ab.D.code<|OK.ret<|Y3.r3 (zo O O) (zo O O) (zo O O) ?_;rw[M,hR];try rfl
 rintro q cd E;obtain⟨hR,rfl⟩:=rec_stop E;refine ro 3 O ?_;refine OK.TP 14 0 O O O O F O ?_;refine kV (.c (zl ti27 O O O O)<|.c (zl YK O O O O)<|.c (za O)<|.c (za O)<|.c (zi O O) .nil)<|Ab.D.code<|OK.ret<|Y3.r3 (zo O O) (zo O O) (zo O O) ?_;rw[M,hR];try rfl
