import Derived.Test.YthibpafdakbpgaaGreatDoorViD
set_option linter.all false
open List renaming length->R
namespace Go.Proofs.YthibpafdakbpgaaGreatDoor
open Go.Ab Tryz
set_option maxRecDepth 9999
def itoa_13{v:Int}(h:0<=v/\v<=1000000000000):R (Lib.itoa v)<=13:=by
 rw[MO h.1];exact dec_le 12 _ I
variable{x:Entry}
def jrn_no(h:fR x):(10:UInt8)∉OQ x:=by
 have c:=(AH h.sw.at_).2;have b:=h.by10;have a:=h.tx10;simp[OQ,c,b,a]
variable{f:Int}
def fS{a:Int}(h:fR x)(c:0<=a/\a<=999960):(10:UInt8)∉Nx f x a:=by
 have b:=jrn_no h;have e:=P8 (OQ x) a c;have d:=(AH (n:=J8 (OQ x) a) I).2;unfold Nx;split
 ·simp[b,d]
 exact b
def jln_le{a:Int}(h:fR x)(b:0<=a/\a<=999960):R (Nx f x a)<=649:=by
 have j:=itoa_13 h.sw.at_;have c:=P8 (OQ x) a b;have i:=itoa_13 (v:=J8 (OQ x) a) I;have g:=h.by12;have e:=h.text;have d:R (OQ x)<=627:=by
  unfold OQ;simp only[Zs,tt,aυ];omega
 unfold Nx;split
 ·simp only[Zs,tt,aυ];omega
 omega
def lns_le(f:Int):∀(l:List Entry)(a:Int),(∀x∈l,fR x)->(0<=a/\a<=999960)->∀s∈Un f l a,R s<=649
 |[],_,_,_,s,b=>by cases b
 |x::l,a,h,ha,s,b=>by
  rcases sf.1 b with rfl|b
  ·exact jln_le (h x rv) ha
  exact lns_le f l _ (λy c=>h y<|rl _ c) (P8 _ _ ha) s b
def DF(f:Int)(x:Entry)(l:List Entry)(a:Int):Qf (Un f (x::l) a)=Nx f x a++10::Qf (Un f l<|J8 (OQ x) a):=by simp[Qf,Un]
def E0(l:List Entry)(f:Int):VD l f=(Lib.itoa f++[10])++Qf (Un f l 0):=by simp[VD,Qf]
def Ap(a:f=1\/f=2):R (Lib.itoa f++[10])=2:=by
 rcases a with rfl|rfl
 ·rw[kJ];rfl
 rw[wv];rfl
variable{n:Net}
def DJ{l:List Entry}(a:f=1\/f=2)(h:(Z2 n l).2.2=0):2<=R (VD l f)/\R (VD l f)<=60000:=by
 have c:=j7 (B:=649) (Un f l 0)<|lns_le f l 0 (K6 h) C;rw[Nc]at c;have b:=(Ur h).2.1;rw[E0,Zs,Ap a];have:R l * (649+1)<=60 * 650:=m8 _ b;omega
def gv{s r:ba}(c:f=1\/f=2)(e:(U4 n).2=0)(b:s=(Lib.itoa f++[10])++r)(i:R s<=60000):Qr n s=((Nb f (Ay n)<|Tv r).2.1,(Nb f (Ay n)<|Tv r).2.2.2.1,0):=by
 have a:fmtS s=f:=by
  rcases c with rfl|rfl
  ·rw[b];exact fmt_F (by rw[kJ,wv];simp)
  rw[b];exact fmt_T<|ed.2 ⟨r,rfl⟩
 have d:Gy s=true:=by
  unfold Gy;rw[a,b];exact ed.2 ⟨r,rfl⟩
 have g:s.drop 2=r:=by rw[b,←Ap c,List.drop_left]
 have h:xW n s=0:=by unfold xW;rw[e,Zz (show(R s:Int)<=60000 by omega),d];rfl
 rw[gd h,a,g]
def qK{n:Net}{f:Int}:∀(l:List Entry)(q:RS),Gt n q->(Z2 n<|q.2.1++l).2.2=0->∃b:RS,Gt n b/\b.2.1=q.2.1++l/\b.2.2.1=CJ l q.2.2.1/\b.2.2.2.1=q.2.2.2.1+(R (Qf<|Un f l q.2.2.1):Int)/\∀z,Nb f q (Tv<|Qf (Un f l q.2.2.1)++z)=Nb f b (Tv z)
 |[],q,hi,_=>⟨q,hi,(i8 _).symm,rfl,(lj _).symm,λ_=>rfl⟩
 |x::l,q,hi,h=>by
  have e:R q.2.1<R (q.2.1++x::l):=F
  have g:=(Aq h e).1;rw[ic,hi.h,List.getElem_append_right<|Zq _]at g;simp only[dδ,Kp]at g;have i:=K6 h x<|ui _ rv;have j:=entP_jln (f:=f) i.sw hi.a;have c:iZ f q<|Nx f x q.2.2.1++[10]:=by
   unfold iZ;rw[vf,j];exact⟨rfl,g⟩
  have d:nxL f q (Nx f x q.2.2.1++[10])=((Za q.1 x).1,q.2.1++[x],J8 (OQ x) q.2.2.1,q.2.2.2.1+(R (Nx f x q.2.2.1++[10]):Nat),0):=by
   unfold nxL;rw[vf,j]
  have k:=hi.next c;rw[d]at k;obtain⟨b,s,r,p,o,m⟩:=qK (f:=f) l _ k (by dsimp only;rw[m7];exact h);dsimp only at r p o m;refine⟨b,s,by rw[r,m7];rfl,p,?_,λz=>?_⟩
  ·have u:R (Nx f x q.2.2.1++[10])=R (Nx f x q.2.2.1)+1:=F
   have t:R (Nx f x q.2.2.1++10::Qf (Un f l<|J8 (OQ x) q.2.2.1))=R (Nx f x q.2.2.1)+(R (Qf<|Un f l<|J8 (OQ x) q.2.2.1)+1):=F
   rw[o,DF,u,t];omega
  rw[DF,m7,H5,vB<|fS i hi.a,rec_T c,d];exact m z
def whole_law{l:List Entry}(b:f=1\/f=2)(h:(Z2 n l).2.2=0):Qr n (VD l f)=(l,(R (VD l f):Int),0):=by
 have c:=(Ur h).1;rw[gv b c (E0 l f) (DJ b h).2];obtain⟨d,g1,g2,_,e,a⟩:=qK (f:=f) l (Ay n) (xS c) h;have a:Nb f (Ay n) (Tv<|Qf (Un f l 0)++[])=Nb f d (Tv []):=a [];rw[i8]at a;rw[a,E0,Zs,Ap b];refine ik g2<|ik (e.trans ?_) rfl;show(2:Int)+(R (Qf<|Un f l 0):Int)=((2+R (Qf<|Un f l 0):Nat):Int);omega
def top_awake:Q7 prog 28 []<|.bool true:=by
 refine cT func28 O λa=>?_
 refine ro 7 O<|kc (zK LG call37 O)<|kc (zK LF call38 O)<|kc (S.Xo sQ a call17 .none O (zc O<|zc O<|zD O) O)<|rr 9 O<|kc (zK LG call37 O)<|kc (zK LF call38 O) ?_;refine kc (S.Xo lF a call35 .none O (zc O<|zc O<|.cons (.Vh (l:=[112,97,114,116,32,50]) O C) .nil) O) ?_;refine rr 13 O ?_;refine kc (S.mkData (v9:=[[_],[_],[_],[_],[_],[_],[_]]) sL (zg O O) O (zC O<|zC O<|zC O<|zC O<|zC O<|zC O<|zD O) O O O O O O O)<|kc (S.call sR call41 (zg O O) O (zc O<|zc O .nil) O) ?_;refine rr 12 O<|kR O O ?_;rfl
