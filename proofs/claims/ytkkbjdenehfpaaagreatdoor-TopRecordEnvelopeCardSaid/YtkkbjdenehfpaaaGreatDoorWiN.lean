import Derived.Test.YtkkbjdenehfpaaaGreatDoorWfN
set_option linter.all false
open List renaming length->R
namespace Go.Proofs.Z_
open Go.Ab Tryz
set_option maxRecDepth 9999
def XI(t n:Int):Int:=if 0<=t/\t<=(n - 1).tdiv 2 then 0 else 2
variable{n:Int}
theorem C8(a: -1000000000000<=n/\n<=1000000000000): -9223372036854775808<=(n - 1).tdiv 2/\(n - 1).tdiv 2<=9223372036854775807:=by
 grind
def MF:Nat->Int->Int->Int
 |0,a,_=>a
 |f+1,a,b=>if b=0 then a else MF f b (a.tmod b)
def ON(a b:Int):Int:=MF (b.toNat+1) a b
def HP:∀(f g:Nat)(a b:Int),0<=a->0<=b->b.toNat<f->b.toNat<g->MF f a b=MF g a b
 |0,_,_,_,_,_,h,_=>by omega
 |_+1,0,_,_,_,_,_,h=>by omega
 |f+1,g+1,a,b,ha,hb,h1,h2=>by
  simp only[MF];split
  ·rfl
  have c:0<=a.tmod b:=bη b ha;have d:a.tmod b<b:=bδ a I;exact HP f g b (a.tmod b) hb c I I
theorem Rv{a b:Int}(d:0<=a)(c:0<=b)(h:b≠0):ON a b=ON b (a.tmod b):=by
 have e:0<=a.tmod b:=bη b d;have f:a.tmod b<b:=bδ a I;rw[ON,MF,Zm h];exact HP _ _ _ _ c e I I
theorem DP(a:Int):ON a 0=a:=by rfl
def Bf:∀(f:Nat)(a b:Int),0<a->0<=b->b.toNat<f->0<ON a b
 |0,_,_,_,_,h=>by omega
 |f+1,a,b,ha,hb,h=>by
  by_cases h0:b=0
  ·simp_all[DP]
  rw[Rv I hb h0];have c:0<=a.tmod b:=bη b I;have d:a.tmod b<b:=bδ a I;exact Bf f b (a.tmod b) I c I
def TT(p:Zf)(r:ZG):Int:=if(Vv p r).2≠0 then(Vv p r).2 else if(R<|P7 r)=0 then 0 else 14
def Wu(p:Zf)(l:List ZG):Int:=if R l=0 then 10 else if 20<R l then 8 else(ZP (λ_ r=>TT p r) 0 l).2
def Vo(p:Zf)(l:List ZG):Int:=if Y_ p≠0 then Y_ p else Wu p l
variable{p:Zf}
theorem NR{r:ZG}(h:(Vv p r).2=0):(R r.rows:Int)=p.ticks:=by
 grind [Vv]
theorem X_(h:Y_ p=0):1<=R p.ZY/\R p.ZY<=4/\1<=p.ticks/\p.ticks<=12/\(ZP (XT p.ZY) 0 p.ZY).2=0:=by
 unfold Y_ UH at h;grind
theorem Pk{t:Int}(a:1<=n)(h:XI t n=0):0<=t/\2 * t<=n - 1:=by
 grind [XI]
def KQ{t:Int}(a: -1000000000000<=n/\n<=1000000000000):Ct prog 53 [bv t,bv n]<|bv<|XI t n:=by
 refine cI func53 O<|Ro 10 O I ?_;refine kc (S.quo .none O (zt O) (.Zg O) C (mn _<|C8 a)<|mn _<|C8 a)<|kc (zK Ws call76 O)<|kc (zK Y7 call45 O) ?_;refine rr 3 O<|kR O O ?_;exact YL U6
def By{i:Nat}{r:ZG}(b:Y_ p=0):Ct prog 79 [bv i,.agg r.cs,.Yt p.cs]<|bv<|TT p r:=by
 refine cI func79 O<|ro 11 O<|kc (zK On call80 O)<|rr 13 O<|kB O (λa=>?_) λa=>?_
 ·refine ro 6 O<|kR O O ?_;refine YL ?_;rw[TT,Zn a]
 refine ro 5 O ?_;refine kc (zK (Bw<|by have:=X_ b;have:=NR (p:=p) (r:=r) I;omega) call61 O) ?_;refine kc (zk X9 O)<|kc (zE O O)<|kc (zK Y7 call45 O)<|rr 3 O<|kR O O ?_;refine YL ?_;rw[TT,Zm a,U6];split<;>split<;>omega
def Kk{l:List ZG}:Ct prog 52 [.agg p.cs,.sl<|l.map ZG.cs]<|.Yy [.agg p.cs,bv<|Vo p l]:=by
 refine cI func52 O<|ro 10 O<|kc (zK M0 call43 O)<|rr 13 O<|kc (zk Kz O)<|kc (S.gtr .none O (zt O)<|.Zg O)<|kc (zK Y7 call45 O)<|jm O<|kc (zk Kz O)<|kc (S.leq .none O (zt O)<|.Zg O)<|kc (zK Y7 call45 O) ?_;refine RK.c (zM [[_],[_],[_]] V6 O O O O)<|kc (S.XY (XB (l:=[_,_,_])) call44 .none O (zc O .nil) (.cons (.p (.own O O) O) .nil) O) ?_;refine rr 9 O<|kB O (λa=>?_) λa=>?_
 ·refine ro 8 O<|kT O O Uz O O O ?_;refine rn (λz=>X.Yy [.agg p.cs,bv z]) ?_;rw[Vo];rw[wE]at a⊢;simp only[U6,Wu]at a⊢
  repeat' split at a
  all_goals (repeat' split)
  all_goals omega
 rw[wE]at a;have b:Y_ p=0:=by
  split at a
  ·contradiction
  omega
 have d:R l≠0/\¬20<R l:=by
  rw[b]at a;simp only[U6]at a
  repeat' split at a
  all_goals omega
 refine ro 5 O<|kc (S.Xd .none O (zt O) O) ?_;refine kc (S.XY (AX (l:=l) (g:=λ_ r=>TT p r) (vt:=[.Yt p.cs]) (λi x _=>By b) call79 ⟨O,O⟩) call78 .none O (zc O<|zc O .nil) (.cons (.same O)<|.cons (.fn<|.cons (.ptr O O O O) .nil) .nil) O) ?_;refine rr 14 O<|kT O O Uz O O O ?_;refine rn (λz=>X.Yy [.agg p.cs,bv z]) ?_;rw[Vo,Zm I,Wu,Zm I,Zm d.2]
