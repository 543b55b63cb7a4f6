import Derived.Test.YtlmhpcghgjdjjaaGreatDoorRm
set_option linter.all false
set_option maxHeartbeats 2000000
open List renaming length->R
namespace Go.Proofs.Z9
open Go.Ab Tryz
set_option maxRecDepth 9999
def Ah(f:Nat)(p:Ph):Int:=if f=vF then p.power else if f=vG then p.law else if f=pc then p.aR else p.kelvin
def yK{k:Int}{x:IL}(h:x∈dr k):x.1=vF\/x.1=vG\/x.1=pc\/x.1=xI:=by
 unfold dr at h;grind
def F3{f:Nat}(h:f=vF\/f=vG\/f=pc\/f=xI)(p:Ph):Ct prog f [.agg p.cx] (bv (Ah f p)):=by
 rcases h with rfl|rfl|rfl|rfl
 ·exact Ai
 ·exact El
 ·exact Aj
 exact xJ
def BV{f:Nat}(h:f=vF\/f=vG\/f=pc\/f=xI):∀args w,(callFunc f args).run prog w=.ok (.enter f args) w:=by
 rcases h with rfl|rfl|rfl|rfl
 ·exact call386
 ·exact call387
 ·exact call388
 exact call389
def ie(p:Ph)(i:Nat):Bool:=((dr p.kind).take i).all fun x=>decide (x.2.1<=Ah x.1 p/\Ah x.1 p<=x.2.2)
def tU{p:Ph}{i:Nat}(h:i<R (dr p.kind)):ie p (i+1)=(ie p i&&decide ((dr p.kind)[i].2.1<=Ah (dr p.kind)[i].1 p/\Ah (dr p.kind)[i].1 p<=(dr p.kind)[i].2.2)):=by
 grind [ie,List.take_succ_eq_append_getElem]
def BW(k:Int):R (dr k)<=3:=by
 grind [dr]
def kind_cases{k:Int}(h:0<=k/\k<=5):k=0\/k=1\/k=2\/k=3\/k=4\/k=5:=I
def BX{p:Ph}(h:0<=p.kind/\p.kind<=5):ie p (R (dr p.kind))=iD p:=by
 unfold ie iD;rw[List.take_length];rcases kind_cases h with e|e|e|e|e|e<;>rw[e]<;>simp[dr,Ah,vF,vG,pc,xI,Bool.and_assoc]
def vH(p:Ph):Int:=if p.kind=0\/p.kind=3 then 0 else p.power
def vI(p:Ph):Int:=if p.kind=2\/p.kind=4 then 0 else p.law
def vJ(p:Ph):Int:=if p.kind=3\/p.kind=4 then 0 else p.kelvin
def sK(p:Ph):bi:=[bv p.kind,bv (vH p),bv (vI p),bv 0,bv (vJ p),.sl (p.body.map Ph.cs)]
def j9{p:Ph}(h:0<=p.kind/\p.kind<=5):lW p=(decide (vH p=0)&&decide (vI p=0)&&decide (vJ p=0)&&(decide (p.kind=5)||decide (R p.body=0))):=by
 unfold lW vH vI vJ;grind
def BZ{xs ys:bi}(h:xs=ys):some (X.box xs)=some (X.box ys):=by rw[h]
def Fw{a b:Bool}(h:a=b):some (X.bool a)=some (X.bool b):=by rw[h]
def n6(p:Ph):Int:=aF [ae (lW p) 3,ae (iD p) 2]
def Ak{m:Nat}{p:Ph}(h:¬(0<=p.kind/\p.kind<=5)):bu m p=15:=by
 unfold bu;omega
theorem vK{m:Nat}{p:Ph}(h:0<=p.kind/\p.kind<=5)(a:n6 p≠0):bu m p=n6 p:=by
 unfold bu;simp_all[n6]
def B0{m:Nat}{p:Ph}(h:0<=p.kind/\p.kind<=5)(a:n6 p=0)(b:p.kind≠5):bu m p=0:=by
 unfold n6 at a;unfold bu;omega
def sL{p:Ph}(h:0<=p.kind/\p.kind<=5)(a:n6 p=0)(b:p.kind=5):bu 0 p=16:=by
 simp_all[n6,bu]
def vL{m:Nat}{p:Ph}(h:0<=p.kind/\p.kind<=5)(a:n6 p=0)(b:p.kind=5):bu (m+1) p=(cQ (bu m) p.body).2:=by
 simp_all[n6,bu]
def Em(n:Nat):Int:=aF [ae (decide ((n:Int)>0)) 10,ae (decide ((n:Int)<=12)) 8]
def En{g:Ph->Int}{l:List Ph}(h:Em (R l)≠0):cQ g l=(0,Em (R l)):=by
 unfold Em at h⊢;unfold cQ;by_cases a:R l=0
 ·rw[Zn a,a];rfl
 by_cases b:12<R l
 ·rw[Zm a,Zn b,Zz (show((R l:Nat):Int)>0 by omega),Zy (show¬((R l:Nat):Int)<=12 by omega)];rfl
 exfalso;rw[Zz (show((R l:Nat):Int)>0 by omega),Zz (show((R l:Nat):Int)<=12 by omega)]at h;exact h rfl
def Eo{g:Ph->Int}{l:List Ph}(h:Em (R l)=0):cQ g l=aK (fun _ p=>g p) 0 l/\R l<=12:=by
 unfold Em at h;unfold cQ;by_cases a:R l=0
 ·rw[a]at h;exact absurd h C
 by_cases b:12<R l
 ·exfalso;rw[Zz (show((R l:Nat):Int)>0 by omega),Zy (show¬((R l:Nat):Int)<=12 by omega)]at h;exact absurd h C
 grind
def qq{n lo hi:Int}:Ct prog 380 [bv n,bv lo,bv hi] (.bool (decide (lo<=n/\n<=hi))):=by
 refine cI func380 O (ro 11 O (RK.bh (t:=10) O (fun a=>?_) (fun a=>?_)))
 ·refine rr 7 O (kR O O ?_);simp[*]
 refine rr 7 O (kR O O ?_);simp[*]
def dR{ok:Bool}{e:Int}:Ct prog 319 [.bool ok,bv e] (bv (ae ok e)):=by
 refine cI func319 O (ro 11 O (OK.cond O O (fun a=>?_) (fun a=>?_)))
 ·refine ro 5 O (kR O O ?_);simp[ae, *]
 refine ro 8 O (kR O O ?_);simp[ae, *]
def jw{l:bd}:Ct prog 318 [ints l] (bv (aF l)):=by
 refine cI func318 O (OK.eW (rows:=l.map fun n=>[bv n]) (t:=0) O O fun hlen=>?_);rw[Zx]at hlen;unfold maxLen at hlen;refine ro 9 O (kc (zk UU O) (rr 4 O ?_));refine OK.loop (G:=Nat) [] (fun i=>[(5,ints l),(6,bv (R l)),(7,bv i)]) (fun i=>i<=R l/\aF l=aF (l.drop i)) (fun i=>R l - i) 0 ⟨Zr _,O⟩ ⟨O,O,O,Zo⟩ (fun _=>O) ?_;rintro i ⟨hi,a⟩;refine ro 6 O (kB O (fun c=>?_) (fun c=>?_))
 ·refine ro 6 O (kc (zI UU O I O) ?_);refine rr 10 O (kB O (fun b=>?_) (fun b=>?_))
  ·refine ro 6 O (kR O O ?_);rw[a,fq I];simp_all
  refine Ro 7 O I (Ab.D.lp ⟨i+1,⟨by omega,?_⟩,I,O,O,O,Zo⟩);rw[a,fq I];simp_all
 refine ro 7 O (kR O O ?_);have:i=R l:=by omega
 subst this;rw[a,no];rfl
def lE{p:Ph}{m:Nat}(U:m<=3)(hle:∀h,m=h+1->∀l:List Ph,Ct prog 316 [.sl (l.map Ph.cs),bv (3 - (h:Int))] (.cf [bv (cQ (bu h) l).1,bv (cQ (bu h) l).2])):Ct prog 362 [.agg p.cx,bv (3 - (m:Int))] (bv (bu m p)):=by
 refine cI func362 O fun{_ _}=>?_
 have T:=BW p.kind;refine ro 11 O (kc (zK qq call380 O) (kc (S.jP .none O (zt O)) (kD (kB O (fun v=>?_) (fun v=>?_)))))
 ·have e:¬(0<=p.kind/\p.kind<=5):=by simpa using v
  have q:=Ak (m:=m) e;refine ro 5 O (kR O O ?_);rw[q]
  try first|rfl|exact rn (X.int .i64) b
 have e:0<=p.kind/\p.kind<=5:=by simpa using v
 refine ro 15 O (kc (zK (B2 (k:=p.kind)) call381 O) (kc (zk F_ O) (rr 4 O ?_)));refine OK.loop (G:=Nat) [2,5] (fun i=>[(1,bv (3 - (m:Int))),(2,.ptr 2 0),(1002,.box p.cx),(5,.ptr 5 0),(1005,.box p.cx),(6,.bool (ie p i)),(19,.sl ((dr p.kind).map tV)),(20,bv (R (dr p.kind):Int)),(21,bv i)]) (fun i=>i<=R (dr p.kind)) (fun i=>R (dr p.kind) - i) 0 (Zr _) ⟨O,O,O,O,O,O,O,(yL F),O,Zo⟩ (fun _=>O) ?_;rintro i hi;refine ro 6 O (kB O (fun Q=>?_) (fun Q=>?_))
 ·have r:i<R (dr p.kind):=by omega
  have w:=tU r;refine ro 6 O (kc (zI F_ O I O) ?_);refine rr 5 O ?_;by_cases a:ie p i=true
  ·have n:=w;rw[a,tn]at n;refine kV (.c (zm O) (.c (zm O) (.c (S.dH O4 (.yes O O O (by first|exact a|simpa using a)) O (zt O)) (.c (S.fc IS (.yes O O O (by first|exact a|simpa using a)) O (zt O) O O O O) (.c (S.xK ZF (.yes O O O (by first|exact a|simpa using a)) O (zt O) O O O O) (.c (S.Ep (f:=(dr p.kind)[i].1) (F3 (yK (Zt r)) p) (BV (yK (Zt r))) (.yes O O O (by first|exact a|simpa using a)) O (zt O) (zc O .nil) O) (.c (S.dH O5 (.yes O O O (by first|exact a|simpa using a)) O (zt O)) (.c (S.fc Z8 (.yes O O O (by first|exact a|simpa using a)) O (zt O) O O O O) (.c (S.dH Pb (.yes O O O (by first|exact a|simpa using a)) O (zt O)) (.c (S.fc Z8 (.yes O O O (by first|exact a|simpa using a)) O (zt O) O O O O) (.c (S.call (qq) call380 (.yes O O O (by first|exact a|simpa using a)) O (zc O (zc O (zc O .nil))) O) (.c (S.aQ .none O (zt O) (zt O) (by first|exact a|simpa using a)) (.c (za O) .nil))))))))))))) ?_;refine Rd 6 O I (Ab.D.lp ⟨i+1,I,I,O,O,O,O,O,(Fw n.symm),O,O,O,Zo⟩)
  have n:=w;rw[show ie p i=false by simpa using a,tp]at n;refine kV (.c (zm O) (.c (zm O) (.c (zG O (by first|exact a|simpa using a)) (.c (zG O (by first|exact a|simpa using a)) (.c (zG O (by first|exact a|simpa using a)) (.c (zG O (by first|exact a|simpa using a)) (.c (zG O (by first|exact a|simpa using a)) (.c (zG O (by first|exact a|simpa using a)) (.c (zG O (by first|exact a|simpa using a)) (.c (zG O (by first|exact a|simpa using a)) (.c (zG O (by first|exact a|simpa using a)) (.c (S.aO .none O (zt O) .aJ (by first|exact a|simpa using a)) (.c (za O) .nil))))))))))))) ?_;refine Rd 6 O I (Ab.D.lp ⟨i+1,I,I,O,O,O,O,O,(Fw n.symm),O,O,O,Zo⟩)
 have A:=BX e;rw[show i=R (dr p.kind) by omega,A];refine OK.exit O (Ab.D.code (OK.join (G:=Unit) [2,5] (fun _=>[(1,bv (3 - (m:Int))),(2,.ptr 2 0),(1002,.box p.cx),(5,.ptr 5 0),(1005,.box (sK p)),(6,.bool (iD p))]) (fun _=>True) (fun _=>O) ?_ ?_))
 ·refine ro 13 O (kB O (fun P=>?_) (fun P=>?_))
  ·refine ro 7 O ?_;refine Ab.D.lp ⟨(),Zo,O,O,O,O,(BZ (by unfold sK vH vI vJ Ph.cx;simp[*,cg])),O,Zo⟩
  refine ro 6 O (kB O (fun N=>?_) (fun N=>?_))
  ·refine ro 7 O ?_;refine Ab.D.lp ⟨(),Zo,O,O,O,O,(BZ (by unfold sK vH vI vJ Ph.cx;simp[*,cg])),O,Zo⟩
  refine ro 6 O (kB O (fun M=>?_) (fun M=>?_))
  ·refine ro 9 O ?_;refine Ab.D.lp ⟨(),Zo,O,O,O,O,(BZ (by unfold sK vH vI vJ Ph.cx;simp[*,cg])),O,Zo⟩
  refine ro 6 O (kB O (fun K=>?_) (fun K=>?_))
  ·refine ro 9 O ?_;refine Ab.D.lp ⟨(),Zo,O,O,O,O,(BZ (by unfold sK vH vI vJ Ph.cx;simp[*,cg])),O,Zo⟩
  refine ro 5 O ?_;refine Ab.D.lp ⟨(),Zo,O,O,O,O,(BZ (by unfold sK vH vI vJ Ph.cx;simp[*,cg])),O,Zo⟩
 rintro _ _;refine ro 8 O ?_;refine OK.join (G:=Unit) [2] (fun _=>[(1,bv (3 - (m:Int))),(2,.ptr 2 0),(1002,.box p.cx),(6,.bool (iD p)),(9,.bool (decide (p.kind=5))),(10,.bool (lW p))]) (fun _=>True) (fun _=>O) ?_ ?_
 ·refine ro 5 O (RK.bh (t:=65) O (fun J=>?_) (fun J=>?_))
  ·refine rr 5 O (RK.bh (t:=70) O (fun H=>?_) (fun H=>?_))
   ·refine rr 5 O (RK.bh (t:=75) O (fun x=>?_) (fun x=>?_))
    ·refine rr 5 O (RK.bh (t:=80) O (fun E=>?_) (fun E=>?_))
     ·refine rr 2 O (RK.bh (t:=82) O (fun C=>?_) (fun C=>?_))
      ·refine rr 8 O ?_;refine Ab.D.lp ⟨(),Zo,O,O,O,O,O,(Fw (by rw[j9 e];simp[*])),Zo⟩
      refine rr 2 O (kc (S.Hp Zj (zg O O) O (zt O)) (rr 5 O ?_));refine Ab.D.lp ⟨(),Zo,O,O,O,O,O,(Fw (by rw[j9 e];simp[*])),Zo⟩
     refine rr 10 O ?_;refine Ab.D.lp ⟨(),Zo,O,O,O,O,O,(Fw (by rw[j9 e];simp[*])),Zo⟩
    exact absurd rfl x
   refine rr 20 O ?_;refine Ab.D.lp ⟨(),Zo,O,O,O,O,O,(Fw (by rw[j9 e];simp[*])),Zo⟩
  refine rr 25 O ?_;refine Ab.D.lp ⟨(),Zo,O,O,O,O,O,(Fw (by rw[j9 e];simp[*])),Zo⟩
 rintro _ _;refine ro 3 O (kc (zK dR call319 O) (jm O (kc (zK dR call319 O) ?_)));refine RK.c (zM [[_],[_]] Zc O O O O) (kc (S.callL (jw (l:=[_,_])) call318 .none O (zc O .nil) (.cons (.p (.own O O) O) .nil) O) ?_);refine rr 9 O (RK.bh (t:=97) O (fun u=>?_) (fun u=>?_))
 ·have q:=vK (m:=m) e u;refine rr 12 O (kR O O ?_);rw[q]
  try first|rfl|exact rn (X.int .i64) b
 have b:n6 p=0:=Zu.1 u;refine kc (S.move (zg O O) O (zt O)) (kc (S.jP (zg O O) O (zt O)) (rr 3 O (kB O (fun o=>?_) (fun o=>?_))))
 ·have z:p.kind≠5:=by simpa using o
  have q:=B0 (m:=m) e b z;refine ro 6 O (kR O O ?_);rw[q]
  try first|rfl|exact rn (X.int .i64) b
 have z:p.kind=5:=by simpa using o
 refine ro 9 O (kB O (fun y=>?_) (fun y=>?_))
 ·have B:m=0:=by omega
  subst B;have q:=sL e b z;refine ro 5 O (kR O O ?_);rw[q]
  try first|rfl|exact rn (X.int .i64) b
 obtain⟨h,rfl⟩:∃h,m=h+1:=⟨m - 1,by omega⟩;have q:=vL (m:=h) e b z;refine Ro 8 O I ?_;refine kc (zK ((by have:=hle h rfl p.body;rw[show(3 - (h:Int))=3 - ((h+1:Nat):Int)+1 by omega]at this;exact this)) call316 O) ?_;refine rr 12 O (kR O O ?_);rw[q]
 try first|rfl|exact rn (X.int .i64) b
def mL{l:List Ph}{m:Nat}(r:m<=3)(n:∀p:Ph,Ct prog 362 [.agg p.cx,bv (3 - (m:Int))] (bv (bu m p))):Ct prog 316 [.sl (l.map Ph.cs),bv (3 - (m:Int))] (.cf [bv (cQ (bu m) l).1,bv (cQ (bu m) l).2]):=by
 refine cI func316 O fun{_ _}=>?_
 rw[Fx l];refine OK.eW (rows:=l.map Ph.cx) (t:=0) O O fun hlen=>?_
 rw[Zx]at hlen;unfold maxLen at hlen;refine ro 10 O (kc (zk Zj O) (kc (S.gtr .none O (zt O) (.af O)) (kc (zK dR call319 O) (jm O (kc (zk Zj O) (kc (S.leq .none O (zt O) (.af O)) (kc (zK dR call319 O) ?_)))))));refine RK.c (zM [[_],[_]] Zc O O O O) (kc (S.callL (jw (l:=[_,_])) call318 .none O (zc O .nil) (.cons (.p (.own O O) O) .nil) O) ?_);refine rr 9 O (kB O (fun b=>?_) (fun b=>?_))
 ·have f:cQ (bu m) l=(0,Em (R l)):=En b;refine ro 7 O (kS O O O O ?_);rw[f]
  try first|rfl|simp[Em]
 have q:=Eo (g:=bu m) (l:=l) (Zu.1 b);refine ro 6 O (kc (zk Zj O) (rr 4 O ?_));refine OK.loop (G:=Nat) [] (fun i=>[(1,bv (3 - (m:Int))),(23,.sl (l.map Ph.cx)),(24,bv (R l:Int)),(25,bv i)]) (fun i=>i<=R l/\cQ (bu m) l=aK (fun _ p=>bu m p) i (l.drop i)) (fun i=>R l - i) 0 ⟨Zr _,q.1⟩ ⟨O,O,O,O,Zo⟩ (fun _=>O) ?_;rintro i ⟨hi,h⟩;refine ro 6 O (kB O (fun k=>?_) (fun k=>?_))
 ·have e:i<R l:=by omega
  refine ro 7 O (kc (zI Zj O I O) ?_);refine rr 10 O (kc (zK (n l[i]) call362 O) (rr 9 O (kB O (fun a=>?_) (fun a=>?_))))
  ·have f:cQ (bu m) l=((i:Int),bu m l[i]):=by rw[h,bE _ e,Zn a]
   refine ro 8 O (kS O O O O ?_);rw[f]
   try first|rfl|simp[Em]
  have o:bu m l[i]=0:=Zu.1 a;refine Ro 7 O I ?_;refine Ab.D.lp ⟨i+1,⟨by omega,by rw[h,bE _ e,Zm (by rw[o];decide)]⟩,I,O,O,O,O,Zo⟩
 have f:cQ (bu m) l=(0,0):=by rw[h,show i=R l by omega,no];rfl
 refine ro 8 O (kS O O O O ?_);rw[f]
 try first|rfl|simp[Em]
def B3(m:Nat)(b:m<=3):(∀p:Ph,Ct prog 362 [.agg p.cx,bv (3 - (m:Int))] (bv (bu m p)))/\∀l:List Ph,Ct prog 316 [.sl (l.map Ph.cs),bv (3 - (m:Int))] (.cf [bv (cQ (bu m) l).1,bv (cQ (bu m) l).2]):=by
 induction m with
 |zero=>
  have a:∀p:Ph,Ct prog 362 [.agg p.cx,bv (3 - ((0:Nat):Int))] (bv (bu 0 p)):=fun p=>lE b fun c e=>by omega
  exact⟨a,fun l=>mL b a⟩
 |succ m f=>
  obtain⟨_,h⟩:=f I;have a:∀p:Ph,Ct prog 362 [.agg p.cx,bv (3 - ((m+1:Nat):Int))] (bv (bu (m+1) p)):=fun p=>lE b fun c e=>by
   have:c=m:=I
   subst this;exact h
  exact⟨a,fun l=>mL b a⟩
def vM{l:List Ph}:Ct prog 316 [.sl (l.map Ph.cs),bv 0] (.cf [bv (cQ (bu 3) l).1,bv (cQ (bu 3) l).2]):=(B3 3 (Zq _)).2 l
end Go.Proofs.Z9
namespace Go.Proofs.Z9
open Go.Ab Tryz
def jj{σ α:Type}(g:σ->α->σ×Bool):∀(a b:List α)(s:σ),au g s (a++b)=if(au g s a).2=true then au g (au g s a).1 b else au g s a
 |[],b,s=>by simp[au]
 |x::a,b,s=>by
  rw[H5,au,au];split
  ·exact jj g a b _
  simp
def AY{σ α:Type}(g:σ->α->σ×Bool)(s:σ)(x:α):au g s [x]=g s x:=by
 grind [au]
def u4{σ α:Type}{g:σ->α->σ×Bool}{P:σ->Prop}(a:∀s x,P s->(g s x).2=true->P (g s x).1):∀(L:List α)(s:σ),P s->(au g s L).2=true->P (au g s L).1
 |[],_,h,_=>h
 |x::L,s,h,h2=>by
  rw[au]at h2⊢;split
  ·rename_i b;rw[Zn b]at h2;exact u4 a L _ (a s x h b) h2
  simp_all
def cY(d:Nat)(p:Ph):List Ph:=if p.kind=5 then(List.replicate p.aR.toNat (cZ d p.body)).flatten else [p]
theorem flatG_emit(d:Nat)(l:List Ph):cZ (d+1) l=l.flatMap (cY d):=rfl
def Deep:Nat->List Ph->Prop
 |0,_=>False
 |d+1,l=>∀p∈l,p.kind=5->(0<=p.aR/\p.aR<=10)/\Deep d p.body
section
variable{σ:Type}{g:σ->Ph->σ×Bool}{s0 s:σ}{d:Nat}{l:List Ph}{i j:Nat}{L:List Ph}
def EV(hi:i<R l)(h:(au g s0 ((l.take i).flatMap (cY d))).2=true):au g s0 ((l.take (i+1)).flatMap (cY d))=au g (au g s0 ((l.take i).flatMap (cY d))).1 (cY d l[i]):=by
 rw[mv hi,cγ,jj,Zn h];simp
def zz(hi:i<R l)(h:(au g s0 ((l.take (i+1)).flatMap (cY d))).2=false):au g s0 (cZ (d+1) l)=au g s0 ((l.take (i+1)).flatMap (cY d)):=by
 rw[flatG_emit];have e:l.flatMap (cY d)=(l.take (i+1)).flatMap (cY d)++(l.drop (i+1)).flatMap (cY d):=by rw[←cγ,a7]
 simp_all[jj]
def GJ(hi:R l<=i):(l.take i).flatMap (cY d)=cZ (d+1) l:=by rw[sg hi];rfl
theorem ya{p:Ph}(h:p.kind≠5):cY d p=[p]:=Zm h
def Dd{p:Ph}(h:p.kind=5):cY d p=(List.replicate p.aR.toNat (cZ d p.body)).flatten:=Zn h
def De(h:(au g s ((List.replicate j L).flatten)).2=true):au g s ((List.replicate (j+1) L).flatten)=au g (au g s ((List.replicate j L).flatten)).1 L:=by
 rw[eξ,aω,jj,Zn h];simp
def Df{n:Nat}(a:j+1<=n)(h:(au g s ((List.replicate (j+1) L).flatten)).2=false):au g s ((List.replicate n L).flatten)=au g s ((List.replicate (j+1) L).flatten):=by
 obtain⟨k,rfl⟩:∃k,n=(j+1)+k:=⟨n - (j+1),I⟩;rw[←List.replicate_append_replicate,aω,jj,Zm (by grind)]
end
def AZ{σ:Type}{J:σ->bm}{g:σ->Ph->σ×Bool}{Φ:Value->Prop}(n:∀s,aZ (J s)){P:σ->Prop}(K:∀s p,P s->(g s p).2=true->P (g s p).1)(H:∀v,Φ v->∀s p,P s->nR prog v [.agg p.cx] (.bool (g s p).2) (J s) (J (g s p).1)){d:Nat}{l:List Ph}(hd:Deep (d+1) l)(T:∀b:List Ph,Deep d b->∀s,P s->dF prog 363 [] [.sl (b.map Ph.cs),.cb Φ] [(3000,.res (J s))] [(3000,.res (J (au g s (cZ d b)).1))] (.bool (au g s (cZ d b)).2)){s0:σ}(z:P s0):dF prog 363 [] [.sl (l.map Ph.cs),.cb Φ] [(3000,.res (J s0))] [(3000,.res (J (au g s0 (cZ (d+1) l)).1))] (.bool (au g s0 (cZ (d+1) l)).2):=by
 refine cG func363 O fun{_ _}=>?_
 rw[Fx l];refine OK.eW (rows:=l.map Ph.cx) (t:=0) O O fun hlen=>?_
 rw[Zx]at hlen;unfold maxLen at hlen;refine ro 9 O (kc (zk Zj O) (rr 4 O ?_));refine OK.loop (G:=Nat) [] (fun i=>[(1,.cb Φ),(7,.sl (l.map Ph.cx)),(8,bv (R l:Int)),(9,bv i),(3000,.res (J (au g s0 ((l.take i).flatMap (cY d))).1))]) (fun i=>i<=R l/\(au g s0 ((l.take i).flatMap (cY d))).2=true) (fun i=>R l - i) 0 ⟨Zr _,O⟩ ⟨O,O,O,O,O,Zo⟩ (fun _=>O) ?_;rintro i ⟨hi,e⟩;refine ro 6 O (kB O (fun N=>?_) (fun N=>?_))
 ·have m:i<R l:=by omega
  have A:=EV m e;refine ro 6 O (kc (zI Zj O I O) ?_);refine rr 13 O (kB O (fun w=>?_) (fun w=>?_))
  ·have a:au g s0 ((l.take (i+1)).flatMap (cY d))=g (au g s0 ((l.take i).flatMap (cY d))).1 l[i]:=by rw[A,ya w,AY]
   refine ro 5 O ?_;refine kc (S.tQ (J1:=J (g (au g s0 ((l.take i).flatMap (cY d))).1 l[i]).1) ((fun v U=>H v U (au g s0 ((l.take i).flatMap (cY d))).1 l[i] (u4 K _ _ z e))) (n _) .none O (zt O) (zc O .nil) O O) ?_;refine kc (S.not .none O (zt O)) (kD (OK.cond O O (fun u=>?_) (fun u=>?_)))
   ·have x:(g (au g s0 ((l.take i).flatMap (cY d))).1 l[i]).2=false:=by simpa using u
    have h:=zz m (by rw[a];exact x);rw[a]at h;refine ro 5 O ?_;refine OK.ret ⟨aA.r1 (zo O O) ?_,Ed (by rw[h]),Zo⟩;rw[h,x]
   have q:(g (au g s0 ((l.take i).flatMap (cY d))).1 l[i]).2=true:=by simpa using u
   refine Ro 8 O I ?_;refine Ab.D.lp ⟨i+1,⟨by omega,by rw[a];exact q⟩,I,O,O,O,O,(Ed (by rw[a])),Zo⟩
  have Q:l[i].kind=5:=Zu.1 w;obtain⟨V,F⟩:=hd l[i] (Zt m) Q;have f:=A;rw[Dd Q]at f;refine ro 10 O ?_;refine OK.loop (G:=Nat) [6] (fun j=>[(1,.cb Φ),(6,.ptr 6 0),(1006,.box l[i].cx),(7,.sl (l.map Ph.cx)),(8,bv (R l:Int)),(9,bv i),(21,bv l[i].aR),(22,bv j),(3000,.res (J (au g (au g s0 ((l.take i).flatMap (cY d))).1 ((List.replicate j (cZ d l[i].body)).flatten)).1))]) (fun j=>j<=l[i].aR.toNat/\(au g (au g s0 ((l.take i).flatMap (cY d))).1 ((List.replicate j (cZ d l[i].body)).flatten)).2=true) (fun j=>l[i].aR.toNat - j) 0 ⟨Zr _,O⟩ ⟨O,O,O,O,O,O,O,O,O,Zo⟩ (fun _=>O) ?_;rintro j ⟨W,o⟩;refine ro 6 O (kB O (fun M=>?_) (fun M=>?_))
  ·have k:=De o;have B:j+1<=l[i].aR.toNat:=by omega
   refine ro 9 O ?_;refine RK.c (S.ik (((T l[i].body F (au g (au g s0 ((l.take i).flatMap (cY d))).1 ((List.replicate j (cZ d l[i].body)).flatten)).1 (u4 K _ _ (u4 K _ _ z e) o)).jR (n _))) (n _) call363 .none O (zc O (zc O .nil)) O O) (kc (S.not .none O (zt O)) (kD (OK.cond O O (fun r=>?_) (fun r=>?_))))
   ·have x:(au g (au g (au g s0 ((l.take i).flatMap (cY d))).1 ((List.replicate j (cZ d l[i].body)).flatten)).1 (cZ d l[i].body)).2=false:=by simpa using r
    have y:=Df B (by rw[k];exact x);have a:=f.trans (y.trans k);have h:=zz m (by rw[a];exact x);rw[a]at h;refine ro 5 O ?_;refine OK.ret ⟨aA.r1 (zo O O) ?_,Ed (by rw[h]),Zo⟩;rw[h,x]
   have E:(au g (au g (au g s0 ((l.take i).flatMap (cY d))).1 ((List.replicate j (cZ d l[i].body)).flatten)).1 (cZ d l[i].body)).2=true:=by simpa using r
   refine Ro 7 O I ?_;refine Ab.D.lp ⟨j+1,⟨by omega,by rw[k];exact E⟩,I,O,O,O,O,O,O,O,O,(Ed (by rw[k])),Zo⟩
  have C:j=l[i].aR.toNat:=by omega
  have a:au g s0 ((l.take (i+1)).flatMap (cY d))=(au g (au g s0 ((l.take i).flatMap (cY d))).1 ((List.replicate j (cZ d l[i].body)).flatten)):=by rw[f,C]
  have q:=o;refine Ro 7 O I ?_;refine Ab.D.lp ⟨i+1,⟨by omega,by rw[a];exact q⟩,I,O,O,O,O,(Ed (by rw[a])),Zo⟩
 have h:au g s0 (cZ (d+1) l)=(au g s0 ((l.take i).flatMap (cY d))):=by rw[GJ I]
 refine ro 7 O ?_;refine OK.ret ⟨aA.r1 (zo O O) ?_,Ed (by rw[h]),Zo⟩;rw[h,e]
def wU{σ:Type}{J:σ->bm}{g:σ->Ph->σ×Bool}{Φ:Value->Prop}(a:∀s,aZ (J s)){P:σ->Prop}(c:∀s p,P s->(g s p).2=true->P (g s p).1)(b:∀v,Φ v->∀s p,P s->nR prog v [.agg p.cx] (.bool (g s p).2) (J s) (J (g s p).1)):∀(d:Nat)(l:List Ph),Deep d l->∀s,P s->dF prog 363 [] [.sl (l.map Ph.cs),.cb Φ] [(3000,.res (J s))] [(3000,.res (J (au g s (cZ d l)).1))] (.bool (au g s (cZ d l)).2)
 |0,_,h=>h.elim
 |d+1,_,h=>fun _ e=>AZ a c b h (wU a c b d) e
end Go.Proofs.Z9
namespace Go.Proofs.Z9
open Go.Ab Tryz
abbrev Ic:bi:=[bv 0,bv 0,bv 0,bv 0,bv 0,.sl []]
def EW(l:List Ph)(p:Ph):(l.map Ph.cx++[Ic]).set (R l) p.cx=(l++[p]).map Ph.cx:=by
 simp
def yb(l:List Ph)(p:Ph):List Ph×Bool:=(l++[p],decide ((R (l++[p]):Int)<=60))
def tA:∀(L a:List Ph),R a<=60->(au yb a L).1=(a++L).take 61
 |[],a,h=>by grind [au,List.take_of_length_le]
 |p::L,a,h=>by
  rw[au];by_cases b:(yb a p).2=true
  ·rw[Zn b];have c:(R (a++[p]):Int)<=60:=pf b;have:=tA L (a++[p]) I;rw[show(yb a p).1=a++[p]from rfl,this,m7];rfl
  rw[Zm b];have c:¬(R (a++[p]):Int)<=60:=fun e=>b (Zz e)
  rw[Zs,R0]at c;show a++[p]=_;rw[show a++p::L=(a++[p])++L by simp,aε (by grind),sg (by simp_all)]
def FP(l:List Ph):St:=[(1003,.box [.own 890 (R l)]),(2890,.arr 6 (l.map Ph.cx))]
def rcp_flat1{l:List Ph}(a:R l<=60){p:Ph}:dF prog 364 [3,890] [.agg p.cx,.ptr 3 0] [(1003,.box [.own 890 (R (l))]),(2890,.arr 6 ((l).map Ph.cx))] [(1003,.box [.own 890 (R (l++[p]))]),(2890,.arr 6 ((l++[p]).map Ph.cx))] (.bool (decide ((R (l++[p]):Int)<=60))):=by
 refine cG func364 O (ro 7 O ?_);refine kV (.c (zl Xm O O O O) (.c (zL ZF O O O O) (.c (S.Cv Zj .none O (zt O) O F) (.c (S.Dg (k:=7) (row:=Ic) WZ .none O (.HG O O) O O ⟨.inl ⟨O,O⟩,.inl ⟨O,O⟩,.inl ⟨O,O⟩,.inl ⟨O,O⟩,.inl ⟨O,O⟩,.inr ⟨O,O⟩,Zo⟩ O O) (.c (zP WZ O O F N I (by simp only[maxLen];omega)) (.c (S.tO (i:=R l) Zj .none O (zt O) O F (zt O) O F) (.c (S.B5 (i:=R l) ZF .none (zt O) (zt O) O F O F O O O (EW l p)) (.c (zS Xm O O O O O O) .nil)))))))) ?_;refine rd 4 O ?_;refine kc (S.Cv Zj .none O (zt O) O F) ?_;refine rr 4 O ?_;refine OK.ret ⟨aA.r1 (zo O O) ?_,(by rw[Zs];rfl),O,Zo⟩;rw[Zs];rfl
def si{l:List Ph}(hd:Deep 4 l):Ct prog 317 [.sl (l.map Ph.cs)] (.sl ((iy l).map Ph.cx)):=by
 refine cI func317 O (kr (kc (S.assign .none O .fW) (rr 8 O (OK.nP 3 0 890 6 O O O O O (OK.bN (jm O (kc (S.dx .none O (zt O) O) ?_)))))));refine RK.c (S.Fu (ys:=[.sl (l.map Ph.cs)]) (fs:=[3,890]) (t:=[(1003,.box [.own 890 (R (([]:List Ph)))]),(2890,.arr 6 ((([]:List Ph)).map Ph.cx))]) (t':=[(1003,.box [.own 890 (R ((au yb [] (cZ 4 l)).1))]),(2890,.arr 6 (((au yb [] (cZ 4 l)).1).map Ph.cx))]) (fun k b e=>wU (J:=fun s=>ic [3,890] (FP []) k (FP s)) (g:=yb) (Φ:=fun v=>v=b) (fun s=>ic.az O) (P:=fun s=>R s<=60) (fun s p m h=>by have:=pf h;show(R (s++[p]))<=60;omega) (fun v a s p f=>by rw[show v=b from a];exact yF (rcp_flat1 f) call364 rfl e rfl rfl) 4 l hd [] (Zr _)) call363 .none O (zc O (zc O .nil)) O O O ⟨O,O,Zo⟩ V V V V V O O) ?_;refine rr 3 O ?_;rw[show(au yb [] (cZ 4 l)).1=iy l from(tA _ [] (Zr _)).trans rfl];refine ro 5 O ?_;refine OK.ret (aA.r1 (.tmp O O (.c (.own O O N) O) O) ?_);rfl
end Go.Proofs.Z9
namespace Go.Proofs.Z9
open Go.Ab Tryz
def wV{g:Ph->Int}:∀{l:List Ph}{i:Nat},(aK (fun _ p=>g p) i l).2=0->∀p∈l,g p=0
 |[],_,_,p,a=>by cases a
 |x::l,i,h,p,a=>by
  rw[aK]at h;split at h
  ·omega
  rename_i b;rcases sf.1 a with rfl|a
  ·omega
  exact wV h p a
theorem nr{g:Ph->Int}{l:List Ph}(h:(cQ g l).2=0):l≠[]/\∀p∈l,g p=0:=by
 unfold cQ at h;split at h
 ·omega
 rename_i a;split at h
 ·omega
 exact⟨fun e=>a (by rw[e];rfl),wV h⟩
def nu{m:Nat}{p:Ph}(h:bu m p=0)(k:p.kind=5):(1<=p.aR/\p.aR<=10)/\∃b,m=b+1/\(cQ (bu b) p.body).2=0:=by
 have e:0<=p.kind/\p.kind<=5:=I
 have a:n6 p=0:=by
  grind [vK]
 have c:iD p=true:=by
  unfold n6 at a;cases f:lW p<;>cases c:iD p<;>rw[f,c]at a<;>first|rfl|exact absurd a C
 have n:1<=p.aR/\p.aR<=10:=by
  simp_all[iD]
 cases m with
 |zero=>simp_all[sL]
 |succ m=>rw[vL e a k]at h;simp_all
def EX:∀(m:Nat){l:List Ph},(cQ (bu m) l).2=0->Deep (m+1) l:=by
 intro m
 induction m with
 |zero=>
  intro l h p a b;obtain⟨_,c,e,_⟩:=nu ((nr h).2 p a) b;omega
 |succ m f=>
  intro l h p a b;obtain⟨n,c,e,k⟩:=nu ((nr h).2 p a) b;grind
def EY:∀(m:Nat){l:List Ph},(cQ (bu m) l).2=0->cZ (m+1) l≠[]:=by
 intro m
 induction m with
 |zero=>
  intro l h;obtain⟨k,c⟩:=nr h;cases l with
  |nil=>simp_all
  |cons p l=>
   have b:=c p rv;have a:p.kind≠5:=fun a=>by
    obtain⟨_,f,e,_⟩:=nu b a;omega
   simp_all[flatG_emit,ya]
 |succ m q=>
  intro l h;obtain⟨k,c⟩:=nr h;cases l with
  |nil=>simp_all
  |cons p l=>
   have b:=c p rv;rw[flatG_emit,List.flatMap_cons];intro e;rw[List.append_eq_nil_iff]at e;by_cases a:p.kind=5
   ·obtain⟨r,f,v,u⟩:=nu b a;have:f=m:=I
    subst this;have o:=e.1;rw[Dd a]at o;obtain⟨n,t⟩:∃n,p.aR.toNat=n+1:=⟨p.aR.toNat - 1,I⟩;simp_all
   simp_all[ya]
def A5{l:List Ph}(h:(cQ (bu 3) l).2=0):0<R (iy l):=by
 have a:0<R (cZ 4 l):=aη.2 (EY 3 h);show 0<R ((cZ 4 l).take 61);grind
def Dh(l:List Ph):R (iy l)<=61:=by
 show(R ((cZ 4 l).take 61))<=61;grind
def A6{L:List Ph}(h:R L - 1<R L):(L.getLast?.map Ph.kind).getD 0=L[R L - 1].kind:=by
 grind
theorem GK{l:List Ph}(h:(cQ (bu 3) l).2≠0):u5 l=(cQ (bu 3) l).2:=Zn h
theorem GL{l:List Ph}(h:(cQ (bu 3) l).2=0)(a:R (iy l) - 1<R (iy l)):u5 l=aF [ae (decide ((R (iy l):Int)<=60)) 8,ae (nw (iy l)[R (iy l) - 1].kind) 20]:=by
 simp_all[u5,A6]
def GM{s:ba}(h:2000<R s):iM s=([],8):=Zn h
def Di{s:ba}(h:¬2000<R s)(a:(iL s).1.2=false\/(iL s).2≠[]):iM s=([],7):=by
 simp_all[iM]
def GN{s:ba}(h:¬2000<R s)(c:(iL s).1.2=true)(b:(iL s).2=[])(a:u5 (iL s).1.1≠0):iM s=([],u5 (iL s).1.1):=by
 simp_all[iM,Zm]
def GO{s:ba}(h:¬2000<R s)(c:(iL s).1.2=true)(b:(iL s).2=[])(a:u5 (iL s).1.1=0):iM s=((iL s).1.1,0):=by
 simp_all[iM]
def yc{k:Int}:Ct prog 320 [bv k] (.bool (nw k)):=by
 refine cI func320 O (ro 10 O (RK.bh (t:=5) O (fun a=>?_) (fun a=>?_)))
 ·refine rr 6 O (kR O O ?_);simp[nw, *]
 refine rr 6 O (kR O O ?_);simp[nw, *]
def pE{l:List Ph}:Ct prog 270 [.sl (l.map Ph.cs)] (.cf [bv (if(cQ (bu 3) l).2≠0 then(cQ (bu 3) l).1 else 0),bv (u5 l)]):=by
 refine cI func270 O (ro 10 O (kc (zK (vM (l:=l)) call316 O) (rr 13 O (kB O (fun a=>?_) (fun a=>?_)))))
 ·have e:=GK (l:=l) a;refine ro 8 O (kS O O O O ?_);rw[e,Zn a]
  try rfl
 have h0:(cQ (bu 3) l).2=0:=Zu.1 a;have f:=A5 h0;have hle:=Dh l;have b:R (iy l) - 1<R (iy l):=I
 have e:=GL h0 b;refine ro 5 O (kc (zK (si (EX 3 h0)) call317 O) (rr 4 O ?_));refine kV (.c (zm O) (.c (zk Zj O) (.c (S.leq .none O (zt O) (.af O)) (.c (zK dR call319 O) (.c (zm O) (.c (zm O) (.c (zk Zj O) (.c (S.sub .none O (zt O) (.af O) (mn _ I) (mn _ I)) (.c (S.aP (n:=(R (iy l) - 1)) Zj .none O (zt O) (zt O) I b O) (.c (S.field SM .none O (zt O) O) (.c (zV Z8 O O) (.c (zK yc call320 O) (.c (zK dR call319 O) (.c (zM [[_],[_]] Zc O O O O) (.c (S.callL (jw (l:=[_,_])) call318 .none O (zc O .nil) (.cons (.p (.own O O) O) .nil) O) (.c (zi O O) (.c (za O) .nil))))))))))))))))) (Ab.D.code (kS O O O O ?_));rw[e,Zm a]
 try rfl
def rcp_ParseRecipe{s:ba}(o:R s<=100000)(p:jr s):gz prog 216 [.str s] (.cf [.sl ((iM s).1.map Ph.cs),bv (iM s).2]):=by
 refine cT func216 O fun a=>?_
 refine kr (kc (S.assign .none O .fW) (rr 11 O (kB O (fun n=>?_) (fun n=>?_))))
 ·have a:=GM (s:=s) I;refine kr (kc (S.assign .none O .fW) (rr 3 O (kS O O O O ?_)));rw[a];try rfl
 have b:¬2000<R s:=I
 refine ro 5 O (kc (zU bu374 O O) (rr 6 O ?_));refine RK.c (S.GP (fs:=[4]) (t:=[(1004,.box [.str s])]) (t':=[(1004,.box [.str (iL s).2])]) (CS o p) a call269 .none O (zc O .nil) V ⟨O,Zo⟩ V V V V O V) ?_;refine rr 11 O (kc (S.not .none O (zt O)) (jm O (RK.split (t:=20) O (fun e=>?_) (fun e=>?_))))
 ·have a:=Di b (.inl (by simpa using e));refine rr 9 O (kc (S.assign .none O .fW) (rr 3 O (kS O O O O ?_)));rw[a];try rfl
 have k:(iL s).1.2=true:=by simpa using e
 refine rr 6 O (kB O (fun h=>?_) (fun h=>?_))
 ·have a:=Di b (.inr (by simpa using h));refine kr (kc (S.assign .none O .fW) (rr 3 O (kS O O O O ?_)));rw[a];try rfl
 have m:(iL s).2=[]:=by simpa using h
 refine ro 6 O (kc (zK (pE (l:=(iL s).1.1)) call270 O) (rr 13 O (kB O (fun f=>?_) (fun f=>?_))))
 ·have a:=GN b k m f;refine ro 3 O (kc (S.assign .none O .fW) (rr 3 O (kS O O O O ?_)));rw[a];try rfl
 have a:=GO b k m (Zu.1 f);refine ro 9 O (kS O O O O ?_);rw[a];try rfl
