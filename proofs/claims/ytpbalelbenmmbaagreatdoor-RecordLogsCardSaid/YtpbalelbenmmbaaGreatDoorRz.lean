import Derived.Test.YtpbalelbenmmbaaGreatDoorRm
set_option linter.all false
set_option maxHeartbeats 2000000
namespace Go.Proofs.YtpbalelbenmmbaaGreatDoor
open Go.Ab Tryz
set_option maxRecDepth 9999
def Ah(f:Nat)(p:Ph):Int:=if f=vF then p.power else if f=vG then p.law else if f=pc then p.aR else p.kelvin
def yK{k:Int}{x:IL}(h:x∈dr k):x.1=vF\/x.1=vG\/x.1=pc\/x.1=xI:=by
 unfold dr at h;grind
def F3{f:Nat}(h:f=vF\/f=vG\/f=pc\/f=xI)(p:Ph):Ct prog f [.agg p.cx] (bv (Ah f p)):=by
 rcases h with rfl|rfl|rfl|rfl
 ·exact Ai
 ·exact El
 ·exact Aj
 exact xJ
def BV{f:Nat}(h:f=vF\/f=vG\/f=pc\/f=xI):∀args w,(callFunc f args).run prog w=.ok (.enter f args) w:=by
 rcases h with rfl|rfl|rfl|rfl
 ·exact call360
 ·exact call361
 ·exact call362
 exact call363
def ie(p:Ph)(i:Nat):Bool:=((dr p.kind).take i).all fun x=>decide (x.2.1<=Ah x.1 p/\Ah x.1 p<=x.2.2)
def tU{p:Ph}{i:Nat}(h:i<(dr p.kind).length):ie p (i+1)=(ie p i&&decide ((dr p.kind)[i].2.1<=Ah (dr p.kind)[i].1 p/\Ah (dr p.kind)[i].1 p<=(dr p.kind)[i].2.2)):=by
 grind [ie,List.take_succ_eq_append_getElem]
def BW(k:Int):(dr k).length<=3:=by
 grind [dr]
def kind_cases{k:Int}(h:0<=k/\k<=5):k=0\/k=1\/k=2\/k=3\/k=4\/k=5:=by omega
def BX{p:Ph}(h:0<=p.kind/\p.kind<=5):ie p (dr p.kind).length=iD p:=by
 unfold ie iD;rw[fp];rcases kind_cases h with e|e|e|e|e|e<;>rw[e]<;>simp[dr,Ah,vF,vG,pc,xI,Bool.and_assoc]
def vH(p:Ph):Int:=if p.kind=0\/p.kind=3 then 0 else p.power
def vI(p:Ph):Int:=if p.kind=2\/p.kind=4 then 0 else p.law
def vJ(p:Ph):Int:=if p.kind=3\/p.kind=4 then 0 else p.kelvin
def sK(p:Ph):bi:=[bv p.kind,bv (vH p),bv (vI p),bv 0,bv (vJ p),.sl (p.body.map Ph.cs)]
theorem j9{p:Ph}(h:0<=p.kind/\p.kind<=5):lW p=(decide (vH p=0)&&decide (vI p=0)&&decide (vJ p=0)&&(decide (p.kind=5)||decide (p.body.length=0))):=by
 unfold lW vH vI vJ;grind
def BZ{xs ys:bi}(h:xs=ys):some (X.box xs)=some (X.box ys):=by rw[h]
def Fw{a b:Bool}(h:a=b):some (X.bool a)=some (X.bool b):=by rw[h]
def n6(p:Ph):Int:=aF [ae (lW p) 3,ae (iD p) 2]
def Ak{m:Nat}{p:Ph}(h:¬(0<=p.kind/\p.kind<=5)):bu m p=15:=by
 unfold bu;omega
theorem vK{m:Nat}{p:Ph}(h:0<=p.kind/\p.kind<=5)(he:n6 p≠0):bu m p=n6 p:=by
 unfold bu;simp_all[n6]
def B0{m:Nat}{p:Ph}(h:0<=p.kind/\p.kind<=5)(he:n6 p=0)(h5:p.kind≠5):bu m p=0:=by
 unfold n6 at he;unfold bu;omega
def sL{p:Ph}(h:0<=p.kind/\p.kind<=5)(he:n6 p=0)(h5:p.kind=5):bu 0 p=16:=by
 simp_all[n6,bu]
def vL{m:Nat}{p:Ph}(h:0<=p.kind/\p.kind<=5)(he:n6 p=0)(h5:p.kind=5):bu (m+1) p=(cQ (bu m) p.body).2:=by
 simp_all[n6,bu]
def Em(n:Nat):Int:=aF [ae (decide ((n:Int)>0)) 10,ae (decide ((n:Int)<=12)) 8]
def En{g:Ph->Int}{l:List Ph}(h:Em l.length≠0):cQ g l=(0,Em l.length):=by
 unfold Em at h⊢;unfold cQ;by_cases h1:l.length=0
 ·rw[Zn h1,h1];rfl
 by_cases h2:12<l.length
 ·rw[Zm h1,Zn h2,Zz (show((l.length:Nat):Int)>0 by omega),Zy (show¬((l.length:Nat):Int)<=12 by omega)];rfl
 exfalso;rw[Zz (show((l.length:Nat):Int)>0 by omega),Zz (show((l.length:Nat):Int)<=12 by omega)]at h;exact h rfl
def Eo{g:Ph->Int}{l:List Ph}(h:Em l.length=0):cQ g l=aK (fun _ p=>g p) 0 l/\l.length<=12:=by
 unfold Em at h;unfold cQ;by_cases h1:l.length=0
 ·rw[h1]at h;exact absurd h C
 by_cases h2:12<l.length
 ·exfalso;rw[Zz (show((l.length:Nat):Int)>0 by omega),Zy (show¬((l.length:Nat):Int)<=12 by omega)]at h;exact absurd h C
 grind
def qq{n lo hi:Int}:Ct prog 354 [bv n,bv lo,bv hi] (.bool (decide (lo<=n/\n<=hi))):=by
 refine cI func354 O (ro 11 O (RK.bh (t:=10) O (fun g10=>?_) (fun g10=>?_)))
 ·refine rr 7 O (kR O O ?_);simp[*]
 refine rr 7 O (kR O O ?_);simp[*]
def dR{ok:Bool}{e:Int}:Ct prog 296 [.bool ok,bv e] (bv (ae ok e)):=by
 refine cI func296 O (ro 11 O (OK.cond O O (fun c5=>?_) (fun c5=>?_)))
 ·refine ro 5 O (kR O O ?_);simp[ae, *]
 refine ro 8 O (kR O O ?_);simp[ae, *]
def jw{l:bd}:Ct prog 295 [ints l] (bv (aF l)):=by
 refine cI func295 O (OK.eW (rows:=l.map fun n=>[bv n]) (t:=0) O O fun hlen=>?_);rw[Zx]at hlen;unfold maxLen at hlen;refine ro 9 O (kc (zk Wl O) (rr 4 O ?_));refine OK.loop (G:=Nat) [] (fun i=>[(5,ints l),(6,bv l.length),(7,bv i)]) (fun i=>i<=l.length/\aF l=aF (l.drop i)) (fun i=>l.length - i) 0 ⟨Zr _,O⟩ ⟨O,O,O,Zo⟩ (fun _=>O) ?_;rintro i ⟨hi,hf⟩;refine ro 6 O (kB O (fun c8=>?_) (fun c8=>?_))
 ·refine ro 6 O (kc (zI Wl O I O) ?_);refine rr 10 O (kB O (fun c12=>?_) (fun c12=>?_))
  ·refine ro 6 O (kR O O ?_);grind [fq]
  refine Ro 7 O I (Ab.D.lp ⟨i+1,⟨by omega,?_⟩,I,O,O,O,Zo⟩);grind [fq]
 refine ro 7 O (kR O O ?_);have:i=l.length:=by omega
 subst this;rw[hf,co];rfl
def lE{p:Ph}{m:Nat}(hm:m<=3)(hle:∀m',m=m'+1->∀l:List Ph,Ct prog 293 [.sl (l.map Ph.cs),bv (3 - (m':Int))] (.cf [bv (cQ (bu m') l).1,bv (cQ (bu m') l).2])):Ct prog 337 [.agg p.cx,bv (3 - (m:Int))] (bv (bu m p)):=by
 refine cI func337 O fun{_ _}=>?_
 have hul:=BW p.kind;refine ro 11 O (kc (zK qq call354 O) (kc (S.jP .none O (zt O)) (kD (kB O (fun c15=>?_) (fun c15=>?_)))))
 ·have hk:¬(0<=p.kind/\p.kind<=5):=by omega
  have hT:=Ak (m:=m) hk;refine ro 5 O (kR O O ?_);simp_all
 have hk:0<=p.kind/\p.kind<=5:=by omega
 refine ro 15 O (kc (zK (B2 (k:=p.kind)) call355 O) (kc (zk Ln O) (rr 4 O ?_)));refine OK.loop (G:=Nat) [2,5] (fun i=>[(1,bv (3 - (m:Int))),(2,.ptr 2 0),(1002,.box p.cx),(5,.ptr 5 0),(1005,.box p.cx),(6,.bool (ie p i)),(19,.sl ((dr p.kind).map tV)),(20,bv ((dr p.kind).length:Int)),(21,bv i)]) (fun i=>i<=(dr p.kind).length) (fun i=>(dr p.kind).length - i) 0 (Zr _) ⟨O,O,O,O,O,O,O,(yL F),O,Zo⟩ (fun _=>O) ?_;rintro i hi;refine ro 6 O (kB O (fun c22=>?_) (fun c22=>?_))
 ·have hil:i<(dr p.kind).length:=by omega
  have hrc:=tU hil;refine ro 6 O (kc (zI Ln O I O) ?_);refine rr 5 O ?_;by_cases g26:ie p i=true
  ·have hrs:=hrc;rw[g26,lx]at hrs;refine kV (.c (zm O) (.c (zm O) (.c (S.dH Qo (.yes O O O I) O (zt O)) (.c (S.fc Lu (.yes O O O I) O (zt O) O O O O) (.c (S.xK Z3 (.yes O O O I) O (zt O) O O O O) (.c (S.Ep (f:=(dr p.kind)[i].1) (F3 (yK (Zt hil)) p) (BV (yK (Zt hil))) (.yes O O O I) O (zt O) (zc O .nil) O) (.c (S.dH Qp (.yes O O O I) O (zt O)) (.c (S.fc Z8 (.yes O O O I) O (zt O) O O O O) (.c (S.dH Qq (.yes O O O I) O (zt O)) (.c (S.fc Z8 (.yes O O O I) O (zt O) O O O O) (.c (S.call (qq) call354 (.yes O O O I) O (zc O (zc O (zc O .nil))) O) (.c (S.aQ .none O (zt O) (zt O) I) (.c (za O) .nil))))))))))))) ?_;refine Rd 6 O I (Ab.D.lp ⟨i+1,I,I,O,O,O,O,O,(Fw hrs.symm),O,O,O,Zo⟩)
  have hrs:=hrc;rw[show ie p i=false by grind,lL]at hrs;refine kV (.c (zm O) (.c (zm O) (.c (zG O (by simp_all)) (.c (zG O (by simp_all)) (.c (zG O (by simp_all)) (.c (zG O (by simp_all)) (.c (zG O (by simp_all)) (.c (zG O (by simp_all)) (.c (zG O (by simp_all)) (.c (zG O (by simp_all)) (.c (zG O (by simp_all)) (.c (S.aO .none O (zt O) .aJ (by simp_all)) (.c (za O) .nil))))))))))))) ?_;refine Rd 6 O I (Ab.D.lp ⟨i+1,I,I,O,O,O,O,O,(Fw hrs.symm),O,O,O,Zo⟩)
 have hrr:=BX hk;rw[show i=(dr p.kind).length by omega,hrr];refine OK.exit O (Ab.D.code (OK.join (G:=Unit) [2,5] (fun _=>[(1,bv (3 - (m:Int))),(2,.ptr 2 0),(1002,.box p.cx),(5,.ptr 5 0),(1005,.box (sK p)),(6,.bool (iD p))]) (fun _=>True) (fun _=>O) ?_ ?_))
 ·refine ro 13 O (kB O (fun c41=>?_) (fun c41=>?_))
  ·refine ro 7 O ?_;refine Ab.D.lp ⟨(),Zo,O,O,O,O,(BZ (by unfold sK vH vI vJ Ph.cx;simp[*,cg])),O,Zo⟩
  refine ro 6 O (kB O (fun c45=>?_) (fun c45=>?_))
  ·refine ro 7 O ?_;refine Ab.D.lp ⟨(),Zo,O,O,O,O,(BZ (by unfold sK vH vI vJ Ph.cx;simp[*,cg])),O,Zo⟩
  refine ro 6 O (kB O (fun c49=>?_) (fun c49=>?_))
  ·refine ro 9 O ?_;refine Ab.D.lp ⟨(),Zo,O,O,O,O,(BZ (by unfold sK vH vI vJ Ph.cx;simp[*,cg])),O,Zo⟩
  refine ro 6 O (kB O (fun c54=>?_) (fun c54=>?_))
  ·refine ro 9 O ?_;refine Ab.D.lp ⟨(),Zo,O,O,O,O,(BZ (by unfold sK vH vI vJ Ph.cx;simp[*,cg])),O,Zo⟩
  refine ro 5 O ?_;refine Ab.D.lp ⟨(),Zo,O,O,O,O,(BZ (by unfold sK vH vI vJ Ph.cx;simp[*,cg])),O,Zo⟩
 rintro _ _;refine ro 8 O ?_;refine OK.join (G:=Unit) [2] (fun _=>[(1,bv (3 - (m:Int))),(2,.ptr 2 0),(1002,.box p.cx),(6,.bool (iD p)),(9,.bool (decide (p.kind=5))),(10,.bool (lW p))]) (fun _=>True) (fun _=>O) ?_ ?_
 ·refine ro 5 O (RK.bh (t:=65) O (fun g65=>?_) (fun g65=>?_))
  ·refine rr 5 O (RK.bh (t:=70) O (fun g70=>?_) (fun g70=>?_))
   ·refine rr 5 O (RK.bh (t:=75) O (fun g75=>?_) (fun g75=>?_))
    ·refine rr 5 O (RK.bh (t:=80) O (fun g80=>?_) (fun g80=>?_))
     ·refine rr 2 O (RK.bh (t:=82) O (fun g82=>?_) (fun g82=>?_))
      ·refine rr 8 O ?_;refine Ab.D.lp ⟨(),Zo,O,O,O,O,O,(Fw (by grind [j9])),Zo⟩
      refine rr 2 O (kc (S.Hp Z2 (zg O O) O (zt O)) (rr 5 O ?_));refine Ab.D.lp ⟨(),Zo,O,O,O,O,O,(Fw (by grind [j9])),Zo⟩
     refine rr 10 O ?_;refine Ab.D.lp ⟨(),Zo,O,O,O,O,O,(Fw (by grind [j9])),Zo⟩
    omega
   refine rr 20 O ?_;refine Ab.D.lp ⟨(),Zo,O,O,O,O,O,(Fw (by grind [j9])),Zo⟩
  refine rr 25 O ?_;refine Ab.D.lp ⟨(),Zo,O,O,O,O,O,(Fw (by grind [j9])),Zo⟩
 rintro _ _;refine ro 3 O (kc (zK dR call296 O) (jm O (kc (zK dR call296 O) ?_)));refine RK.c (zM [[_],[_]] ZX O O O O) (kc (S.callL (jw (l:=[_,_])) call295 .none O (zc O .nil) (.cons (.p (.own O O) O) .nil) O) ?_);refine rr 9 O (RK.bh (t:=97) O (fun g97=>?_) (fun g97=>?_))
 ·have hT:=vK (m:=m) hk g97;refine rr 12 O (kR O O ?_);rw[hT];rfl
 have he0:n6 p=0:=Zu.1 g97;refine kc (S.move (zg O O) O (zt O)) (kc (S.jP (zg O O) O (zt O)) (rr 3 O (kB O (fun c100=>?_) (fun c100=>?_))))
 ·have h5:p.kind≠5:=by omega
  have hT:=B0 (m:=m) hk he0 h5;refine ro 6 O (kR O O ?_);simp_all
 have h5:p.kind=5:=by omega
 refine ro 9 O (kB O (fun c103=>?_) (fun c103=>?_))
 ·have hm0:m=0:=by omega
  subst hm0;have hT:=sL hk he0 h5;refine ro 5 O (kR O O ?_);simp_all
 obtain⟨m',rfl⟩:∃m',m=m'+1:=⟨m - 1,by omega⟩;have hT:=vL (m:=m') hk he0 h5;refine Ro 8 O I ?_;refine kc (zK ((by have:=hle m' rfl p.body;rw[show(3 - (m':Int))=3 - ((m'+1:Nat):Int)+1 by omega]at this;exact this)) call293 O) ?_;refine rr 12 O (kR O O ?_);simp_all
def mL{l:List Ph}{m:Nat}(hm:m<=3)(hp:∀p:Ph,Ct prog 337 [.agg p.cx,bv (3 - (m:Int))] (bv (bu m p))):Ct prog 293 [.sl (l.map Ph.cs),bv (3 - (m:Int))] (.cf [bv (cQ (bu m) l).1,bv (cQ (bu m) l).2]):=by
 refine cI func293 O fun{_ _}=>?_
 rw[Fx l];refine OK.eW (rows:=l.map Ph.cx) (t:=0) O O fun hlen=>?_
 rw[Zx]at hlen;unfold maxLen at hlen;refine ro 10 O (kc (zk Z2 O) (kc (S.gtr .none O (zt O) (.af O)) (kc (zK dR call296 O) (jm O (kc (zk Z2 O) (kc (S.leq .none O (zt O) (.af O)) (kc (zK dR call296 O) ?_)))))));refine RK.c (zM [[_],[_]] ZX O O O O) (kc (S.callL (jw (l:=[_,_])) call295 .none O (zc O .nil) (.cons (.p (.own O O) O) .nil) O) ?_);refine rr 9 O (kB O (fun c21=>?_) (fun c21=>?_))
 ·have hT:cQ (bu m) l=(0,Em l.length):=En c21;refine ro 7 O (kS O O O O ?_);simp_all[Em]
 have hL:=Eo (g:=bu m) (l:=l) (Zu.1 c21);refine ro 6 O (kc (zk Z2 O) (rr 4 O ?_));refine OK.loop (G:=Nat) [] (fun i=>[(1,bv (3 - (m:Int))),(23,.sl (l.map Ph.cx)),(24,bv (l.length:Int)),(25,bv i)]) (fun i=>i<=l.length/\cQ (bu m) l=aK (fun _ p=>bu m p) i (l.drop i)) (fun i=>l.length - i) 0 ⟨Zr _,hL.1⟩ ⟨O,O,O,O,Zo⟩ (fun _=>O) ?_;rintro i ⟨hi,hg⟩;refine ro 6 O (kB O (fun c26=>?_) (fun c26=>?_))
 ·have hil:i<l.length:=by omega
  refine ro 7 O (kc (zI Z2 O I O) ?_);refine rr 10 O (kc (zK (hp l[i]) call337 O) (rr 9 O (kB O (fun c34=>?_) (fun c34=>?_))))
  ·have hT:cQ (bu m) l=((i:Int),bu m l[i]):=by simp_all[bE]
   refine ro 8 O (kS O O O O ?_);grind
  have he:bu m l[i]=0:=Zu.1 c34;refine Ro 7 O I (Ab.D.lp ⟨i+1,⟨by omega,by simp_all[bE]⟩,I,O,O,O,O,Zo⟩)
 have hT:cQ (bu m) l=(0,0):=by rw[hg,show i=l.length by omega,co];rfl
 refine ro 8 O (kS O O O O ?_);grind
def B3(m:Nat)(hm:m<=3):(∀p:Ph,Ct prog 337 [.agg p.cx,bv (3 - (m:Int))] (bv (bu m p)))/\∀l:List Ph,Ct prog 293 [.sl (l.map Ph.cs),bv (3 - (m:Int))] (.cf [bv (cQ (bu m) l).1,bv (cQ (bu m) l).2]):=by
 induction m with
 |zero=>
  have h1:∀p:Ph,Ct prog 337 [.agg p.cx,bv (3 - ((0:Nat):Int))] (bv (bu 0 p)):=fun p=>lE hm fun m' e=>by omega
  exact⟨h1,fun l=>mL hm h1⟩
 |succ m ih=>
  obtain⟨_,i2⟩:=ih I;have h1:∀p:Ph,Ct prog 337 [.agg p.cx,bv (3 - ((m+1:Nat):Int))] (bv (bu (m+1) p)):=fun p=>lE hm fun m' e=>by
   simp_all
  exact⟨h1,fun l=>mL hm h1⟩
def vM{l:List Ph}:Ct prog 293 [.sl (l.map Ph.cs),bv 0] (.cf [bv (cQ (bu 3) l).1,bv (cQ (bu 3) l).2]):=(B3 3 (Zq _)).2 l
end Go.Proofs.YtpbalelbenmmbaaGreatDoor
namespace Go.Proofs.YtpbalelbenmmbaaGreatDoor
open Go.Ab Tryz
def jj{σ α:Type}(g:σ->α->σ×Bool):∀(a b:List α)(s:σ),au g s (a++b)=if(au g s a).2=true then au g (au g s a).1 b else au g s a
 |[],b,s=>by simp[au]
 |x::a,b,s=>by
  rw[md,au,au];split
  ·exact jj g a b _
  simp
def AY{σ α:Type}(g:σ->α->σ×Bool)(s:σ)(x:α):au g s [x]=g s x:=by
 grind [au]
def u4{σ α:Type}{g:σ->α->σ×Bool}{P:σ->Prop}(hP:∀s x,P s->(g s x).2=true->P (g s x).1):∀(L:List α)(s:σ),P s->(au g s L).2=true->P (au g s L).1
 |[],_,h,_=>h
 |x::L,s,h,h2=>by
  rw[au]at h2⊢;split
  ·rename_i h3;rw[Zn h3]at h2;exact u4 hP L _ (hP s x h h3) h2
  simp_all
def cY(d:Nat)(p:Ph):List Ph:=if p.kind=5 then(List.replicate p.aR.toNat (cZ d p.body)).flatten else [p]
theorem flatG_emit(d:Nat)(l:List Ph):cZ (d+1) l=l.flatMap (cY d):=rfl
def Deep:Nat->List Ph->Prop
 |0,_=>False
 |d+1,l=>∀p∈l,p.kind=5->(0<=p.aR/\p.aR<=10)/\Deep d p.body
section
variable{σ:Type}{g:σ->Ph->σ×Bool}{s0 s:σ}{d:Nat}{l:List Ph}{i j:Nat}{L:List Ph}
def EV(hi:i<l.length)(h:(au g s0 ((l.take i).flatMap (cY d))).2=true):au g s0 ((l.take (i+1)).flatMap (cY d))=au g (au g s0 ((l.take i).flatMap (cY d))).1 (cY d l[i]):=by
 rw[dT hi,tm,jj,Zn h];simp
def zz(hi:i<l.length)(h:(au g s0 ((l.take (i+1)).flatMap (cY d))).2=false):au g s0 (cZ (d+1) l)=au g s0 ((l.take (i+1)).flatMap (cY d)):=by
 rw[flatG_emit];have e:l.flatMap (cY d)=(l.take (i+1)).flatMap (cY d)++(l.drop (i+1)).flatMap (cY d):=by rw[←tm,io]
 simp_all[jj]
theorem GJ(hi:l.length<=i):(l.take i).flatMap (cY d)=cZ (d+1) l:=by rw[eK hi];rfl
theorem ya{p:Ph}(h:p.kind≠5):cY d p=[p]:=Zm h
def Dd{p:Ph}(h:p.kind=5):cY d p=(List.replicate p.aR.toNat (cZ d p.body)).flatten:=Zn h
def De(h:(au g s ((List.replicate j L).flatten)).2=true):au g s ((List.replicate (j+1) L).flatten)=au g (au g s ((List.replicate j L).flatten)).1 L:=by
 rw[Hm,pk,jj,Zn h];simp
def Df{n:Nat}(hj:j+1<=n)(h:(au g s ((List.replicate (j+1) L).flatten)).2=false):au g s ((List.replicate n L).flatten)=au g s ((List.replicate (j+1) L).flatten):=by
 obtain⟨k,rfl⟩:∃k,n=(j+1)+k:=⟨n - (j+1),by omega⟩;rw[←List.replicate_append_replicate,pk,jj,Zm (by grind)]
end
def AZ{σ:Type}{J:σ->bm}{g:σ->Ph->σ×Bool}{Φ:Value->Prop}(hst:∀s,aZ (J s)){P:σ->Prop}(hP:∀s p,P s->(g s p).2=true->P (g s p).1)(hcb:∀v,Φ v->∀s p,P s->nR prog v [.agg p.cx] (.bool (g s p).2) (J s) (J (g s p).1)){d:Nat}{l:List Ph}(hd:Deep (d+1) l)(ih:∀b:List Ph,Deep d b->∀s,P s->dF prog 338 [] [.sl (b.map Ph.cs),.cb Φ] [(3000,.res (J s))] [(3000,.res (J (au g s (cZ d b)).1))] (.bool (au g s (cZ d b)).2)){s0:σ}(hs0:P s0):dF prog 338 [] [.sl (l.map Ph.cs),.cb Φ] [(3000,.res (J s0))] [(3000,.res (J (au g s0 (cZ (d+1) l)).1))] (.bool (au g s0 (cZ (d+1) l)).2):=by
 refine cG func338 O fun{_ _}=>?_
 rw[Fx l];refine OK.eW (rows:=l.map Ph.cx) (t:=0) O O fun hlen=>?_
 rw[Zx]at hlen;unfold maxLen at hlen;refine ro 9 O (kc (zk Z2 O) (rr 4 O ?_));refine OK.loop (G:=Nat) [] (fun i=>[(1,.cb Φ),(7,.sl (l.map Ph.cx)),(8,bv (l.length:Int)),(9,bv i),(3000,.res (J (au g s0 ((l.take i).flatMap (cY d))).1))]) (fun i=>i<=l.length/\(au g s0 ((l.take i).flatMap (cY d))).2=true) (fun i=>l.length - i) 0 ⟨Zr _,O⟩ ⟨O,O,O,O,O,Zo⟩ (fun _=>O) ?_;rintro i ⟨hi,hrun⟩;refine ro 6 O (kB O (fun c10=>?_) (fun c10=>?_))
 ·have hil:i<l.length:=by omega
  have hem:=EV hil hrun;refine ro 6 O (kc (zI Z2 O I O) ?_);refine rr 13 O (kB O (fun c15=>?_) (fun c15=>?_))
  ·have hnx:au g s0 ((l.take (i+1)).flatMap (cY d))=g (au g s0 ((l.take i).flatMap (cY d))).1 l[i]:=by rw[hem,ya c15,AY]
   refine ro 5 O ?_;refine kc (S.tQ (J1:=J (g (au g s0 ((l.take i).flatMap (cY d))).1 l[i]).1) ((fun v hv=>hcb v hv (au g s0 ((l.take i).flatMap (cY d))).1 l[i] (u4 hP _ _ hs0 hrun))) (hst _) .none O (zt O) (zc O .nil) O O) ?_;refine kc (S.not .none O (zt O)) (kD (OK.cond O O (fun c19=>?_) (fun c19=>?_)))
   ·have hf:(g (au g s0 ((l.take i).flatMap (cY d))).1 l[i]).2=false:=by grind
    have hT:=zz hil (by rw[hnx];exact hf);rw[hnx]at hT;refine ro 5 O ?_;refine OK.ret ⟨aA.r1 (zo O O) ?_,Ed (by rw[hT]),Zo⟩;rw[hT,hf]
   have hgo:(g (au g s0 ((l.take i).flatMap (cY d))).1 l[i]).2=true:=by grind
   refine Ro 8 O I ?_;refine Ab.D.lp ⟨i+1,⟨by omega,by simp_all⟩,I,O,O,O,O,(Ed (by rw[hnx])),Zo⟩
  have h5:l[i].kind=5:=Zu.1 c15;obtain⟨htk,hdb⟩:=hd l[i] (Zt hil) h5;have hem2:=hem;rw[Dd h5]at hem2;refine ro 10 O ?_;refine OK.loop (G:=Nat) [6] (fun j=>[(1,.cb Φ),(6,.ptr 6 0),(1006,.box l[i].cx),(7,.sl (l.map Ph.cx)),(8,bv (l.length:Int)),(9,bv i),(21,bv l[i].aR),(22,bv j),(3000,.res (J (au g (au g s0 ((l.take i).flatMap (cY d))).1 ((List.replicate j (cZ d l[i].body)).flatten)).1))]) (fun j=>j<=l[i].aR.toNat/\(au g (au g s0 ((l.take i).flatMap (cY d))).1 ((List.replicate j (cZ d l[i].body)).flatten)).2=true) (fun j=>l[i].aR.toNat - j) 0 ⟨Zr _,O⟩ ⟨O,O,O,O,O,O,O,O,O,Zo⟩ (fun _=>O) ?_;rintro j ⟨hj,hrj⟩;refine ro 6 O (kB O (fun c23=>?_) (fun c23=>?_))
  ·have hrn:=De hrj;have hjt:j+1<=l[i].aR.toNat:=by omega
   refine ro 9 O ?_;refine RK.c (S.ik (((ih l[i].body hdb (au g (au g s0 ((l.take i).flatMap (cY d))).1 ((List.replicate j (cZ d l[i].body)).flatten)).1 (u4 hP _ _ (u4 hP _ _ hs0 hrun) hrj)).jR (hst _))) (hst _) call338 .none O (zc O (zc O .nil)) O O) (kc (S.not .none O (zt O)) (kD (OK.cond O O (fun c28=>?_) (fun c28=>?_))))
   ·have hf:(au g (au g (au g s0 ((l.take i).flatMap (cY d))).1 ((List.replicate j (cZ d l[i].body)).flatten)).1 (cZ d l[i].body)).2=false:=by grind
    have hst2:=Df hjt (by rw[hrn];exact hf);have hnx:=hem2.trans (hst2.trans hrn);have hT:=zz hil (by rw[hnx];exact hf);rw[hnx]at hT;refine ro 5 O ?_;refine OK.ret ⟨aA.r1 (zo O O) ?_,Ed (by rw[hT]),Zo⟩;rw[hT,hf]
   have hgj:(au g (au g (au g s0 ((l.take i).flatMap (cY d))).1 ((List.replicate j (cZ d l[i].body)).flatten)).1 (cZ d l[i].body)).2=true:=by grind
   refine Ro 7 O I ?_;refine Ab.D.lp ⟨j+1,⟨by omega,by simp_all⟩,I,O,O,O,O,O,O,O,O,(Ed (by rw[hrn])),Zo⟩
  have hje:j=l[i].aR.toNat:=by omega
  have hnx:au g s0 ((l.take (i+1)).flatMap (cY d))=(au g (au g s0 ((l.take i).flatMap (cY d))).1 ((List.replicate j (cZ d l[i].body)).flatten)):=by grind
  have hgo:=hrj;refine Ro 7 O I ?_;refine Ab.D.lp ⟨i+1,⟨by omega,by simp_all⟩,I,O,O,O,O,(Ed (by rw[hnx])),Zo⟩
 have hT:au g s0 (cZ (d+1) l)=(au g s0 ((l.take i).flatMap (cY d))):=by grind [GJ]
 refine ro 7 O ?_;refine OK.ret ⟨aA.r1 (zo O O) ?_,Ed (by rw[hT]),Zo⟩;grind
def wU{σ:Type}{J:σ->bm}{g:σ->Ph->σ×Bool}{Φ:Value->Prop}(hst:∀s,aZ (J s)){P:σ->Prop}(hP:∀s p,P s->(g s p).2=true->P (g s p).1)(hcb:∀v,Φ v->∀s p,P s->nR prog v [.agg p.cx] (.bool (g s p).2) (J s) (J (g s p).1)):∀(d:Nat)(l:List Ph),Deep d l->∀s,P s->dF prog 338 [] [.sl (l.map Ph.cs),.cb Φ] [(3000,.res (J s))] [(3000,.res (J (au g s (cZ d l)).1))] (.bool (au g s (cZ d l)).2)
 |0,_,h=>h.elim
 |d+1,_,h=>fun _ hs=>AZ hst hP hcb h (wU hst hP hcb d) hs
end Go.Proofs.YtpbalelbenmmbaaGreatDoor
namespace Go.Proofs.YtpbalelbenmmbaaGreatDoor
open Go.Ab Tryz
abbrev Ic:bi:=[bv 0,bv 0,bv 0,bv 0,bv 0,.sl []]
def EW(l:List Ph)(p:Ph):(l.map Ph.cx++[Ic]).set l.length p.cx=(l++[p]).map Ph.cx:=by
 simp
def yb(l:List Ph)(p:Ph):List Ph×Bool:=(l++[p],decide (((l++[p]).length:Int)<=60))
def tA:∀(L acc:List Ph),acc.length<=60->(au yb acc L).1=(acc++L).take 61
 |[],acc,h=>by grind [au,List.take_of_length_le]
 |p::L,acc,h=>by
  rw[au];by_cases hc:(yb acc p).2=true
  ·rw[Zn hc];have h2:((acc++[p]).length:Int)<=60:=dC hc;have:=tA L (acc++[p]) I;rw[show(yb acc p).1=acc++[p]from rfl,this,lO];rfl
  rw[Zm hc];have h2:¬((acc++[p]).length:Int)<=60:=fun e=>hc (Zz e)
  rw[Zs,pu]at h2;show acc++[p]=_;rw[show acc++p::L=(acc++[p])++L by simp,np (by grind),eK (by simp_all)]
def FP(l:List Ph):St:=[(1003,.box [.own 890 l.length]),(2890,.arr 6 (l.map Ph.cx))]
def rcp_flat1{l:List Ph}(hl:l.length<=60){p:Ph}:dF prog 339 [3,890] [.agg p.cx,.ptr 3 0] [(1003,.box [.own 890 (l).length]),(2890,.arr 6 ((l).map Ph.cx))] [(1003,.box [.own 890 (l++[p]).length]),(2890,.arr 6 ((l++[p]).map Ph.cx))] (.bool (decide (((l++[p]).length:Int)<=60))):=by
 refine cG func339 O (ro 7 O ?_);refine kV (.c (zl Wn O O O O) (.c (zL Z3 O O O O) (.c (S.Cv Z2 .none O (zt O) O F) (.c (S.Dg (k:=7) (row:=Ic) X0 .none O (.HG O O) O O ⟨.inl ⟨O,O⟩,.inl ⟨O,O⟩,.inl ⟨O,O⟩,.inl ⟨O,O⟩,.inl ⟨O,O⟩,.inr ⟨O,O⟩,Zo⟩ O O) (.c (zP X0 O O F (by rfl) I (by grind [maxLen])) (.c (S.tO (i:=l.length) Z2 .none O (zt O) O F (zt O) O F) (.c (S.B5 (i:=l.length) Z3 .none (zt O) (zt O) O F O F O O O (EW l p)) (.c (zS Wn O O O O O O) .nil)))))))) ?_;refine rd 4 O ?_;refine kc (S.Cv Z2 .none O (zt O) O F) ?_;refine rr 4 O ?_;refine OK.ret ⟨aA.r1 (zo O O) ?_,(by rw[Zs];rfl),O,Zo⟩;simp
def si{l:List Ph}(hd:Deep 4 l):Ct prog 294 [.sl (l.map Ph.cs)] (.sl ((iy l).map Ph.cx)):=by
 refine cI func294 O (kr (kc (S.assign .none O .fW) (rr 8 O (OK.nP 3 0 890 6 O O O O O (OK.bN (jm O (kc (S.dx .none O (zt O) O) ?_)))))));refine RK.c (S.Fu (ys:=[.sl (l.map Ph.cs)]) (fs:=[3,890]) (t:=[(1003,.box [.own 890 (([]:List Ph)).length]),(2890,.arr 6 ((([]:List Ph)).map Ph.cx))]) (t':=[(1003,.box [.own 890 ((au yb [] (cZ 4 l)).1).length]),(2890,.arr 6 (((au yb [] (cZ 4 l)).1).map Ph.cx))]) (fun cL v0 hv=>wU (J:=fun s=>ic [3,890] (FP []) cL (FP s)) (g:=yb) (Φ:=fun v=>v=v0) (fun s=>ic.az O) (P:=fun s=>s.length<=60) (fun s p h1 h2=>by have:=dC h2;show(s++[p]).length<=60;omega) (fun v hv2 s p hs=>by rw[show v=v0 from hv2];exact yF (rcp_flat1 hs) call339 rfl hv rfl rfl) 4 l hd [] (Zr _)) call338 .none O (zc O (zc O .nil)) O O O ⟨O,O,Zo⟩ V V V V V O O) ?_;refine rr 3 O ?_;rw[show(au yb [] (cZ 4 l)).1=iy l from(tA _ [] (Zr _)).trans rfl];refine ro 5 O ?_;refine OK.ret (aA.r1 (.tmp O O (.c (.own O O F) O) O) ?_);rfl
end Go.Proofs.YtpbalelbenmmbaaGreatDoor
namespace Go.Proofs.YtpbalelbenmmbaaGreatDoor
open Go.Ab Tryz
def wV{g:Ph->Int}:∀{l:List Ph}{i:Nat},(aK (fun _ p=>g p) i l).2=0->∀p∈l,g p=0
 |[],_,_,p,hp=>by cases hp
 |x::l,i,h,p,hp=>by
  rw[aK]at h;split at h
  ·omega
  rename_i h1;rcases ed.1 hp with rfl|hp
  ·omega
  exact wV h p hp
theorem nr{g:Ph->Int}{l:List Ph}(h:(cQ g l).2=0):l≠[]/\∀p∈l,g p=0:=by
 unfold cQ at h;split at h
 ·omega
 rename_i h1;split at h
 ·omega
 exact⟨fun e=>h1 (by rw[e];rfl),wV h⟩
def nu{m:Nat}{p:Ph}(h:bu m p=0)(h5:p.kind=5):(1<=p.aR/\p.aR<=10)/\∃m',m=m'+1/\(cQ (bu m') p.body).2=0:=by
 have hk:0<=p.kind/\p.kind<=5:=by omega
 have he:n6 p=0:=by
  grind [vK]
 have hr:iD p=true:=by
  unfold n6 at he;cases hc:lW p<;>cases hr:iD p<;>rw[hc,hr]at he<;>first|rfl|exact absurd he C
 have ht:1<=p.aR/\p.aR<=10:=by
  simp_all[iD]
 cases m with
 |zero=>simp_all[sL]
 |succ m=>rw[vL hk he h5]at h;simp_all
def EX:∀(m:Nat){l:List Ph},(cQ (bu m) l).2=0->Deep (m+1) l:=by
 intro m
 induction m with
 |zero=>
  intro l h p hp h5;obtain⟨_,m',e,_⟩:=nu ((nr h).2 p hp) h5;omega
 |succ m ih=>
  intro l h p hp h5;obtain⟨h1,m',e,h2⟩:=nu ((nr h).2 p hp) h5;grind
def EY:∀(m:Nat){l:List Ph},(cQ (bu m) l).2=0->cZ (m+1) l≠[]:=by
 intro m
 induction m with
 |zero=>
  intro l h;obtain⟨h1,h2⟩:=nr h;cases l with
  |nil=>simp_all
  |cons p l=>
   have h3:=h2 p dp;have h5:p.kind≠5:=fun h5=>by
    obtain⟨_,m',e,_⟩:=nu h3 h5;omega
   simp_all[flatG_emit,ya]
 |succ m ih=>
  intro l h;obtain⟨h1,h2⟩:=nr h;cases l with
  |nil=>simp_all
  |cons p l=>
   have h3:=h2 p dp;rw[flatG_emit,List.flatMap_cons];intro e;rw[List.append_eq_nil_iff]at e;by_cases h5:p.kind=5
   ·obtain⟨ht,m',e2,h4⟩:=nu h3 h5;have:m'=m:=by omega
    subst this;have e3:=e.1;rw[Dd h5]at e3;obtain⟨n,hn⟩:∃n,p.aR.toNat=n+1:=⟨p.aR.toNat - 1,by omega⟩;simp_all
   simp_all[ya]
def A5{l:List Ph}(h:(cQ (bu 3) l).2=0):0<(iy l).length:=by
 have h1:0<(cZ 4 l).length:=nz.2 (EY 3 h);show 0<((cZ 4 l).take 61).length;grind
def Dh(l:List Ph):(iy l).length<=61:=by
 show((cZ 4 l).take 61).length<=61;grind
def A6{L:List Ph}(h:L.length - 1<L.length):(L.getLast?.map Ph.kind).getD 0=L[L.length - 1].kind:=by
 grind
theorem GK{l:List Ph}(h:(cQ (bu 3) l).2≠0):u5 l=(cQ (bu 3) l).2:=Zn h
theorem GL{l:List Ph}(h:(cQ (bu 3) l).2=0)(hp:(iy l).length - 1<(iy l).length):u5 l=aF [ae (decide (((iy l).length:Int)<=60)) 8,ae (nw (iy l)[(iy l).length - 1].kind) 20]:=by
 simp_all[u5,A6]
def GM{s:ba}(h:2000<s.length):iM s=([],8):=Zn h
def Di{s:ba}(h:¬2000<s.length)(h2:(iL s).1.2=false\/(iL s).2≠[]):iM s=([],7):=by
 simp_all[iM]
def GN{s:ba}(h:¬2000<s.length)(h1:(iL s).1.2=true)(h2:(iL s).2=[])(h3:u5 (iL s).1.1≠0):iM s=([],u5 (iL s).1.1):=by
 simp_all[iM,Zm]
def GO{s:ba}(h:¬2000<s.length)(h1:(iL s).1.2=true)(h2:(iL s).2=[])(h3:u5 (iL s).1.1=0):iM s=((iL s).1.1,0):=by
 simp_all[iM]
def yc{k:Int}:Ct prog 297 [bv k] (.bool (nw k)):=by
 refine cI func297 O (ro 10 O (RK.bh (t:=5) O (fun g5=>?_) (fun g5=>?_)))
 ·refine rr 6 O (kR O O ?_);simp[nw, *]
 refine rr 6 O (kR O O ?_);simp[nw, *]
def pE{l:List Ph}:Ct prog 244 [.sl (l.map Ph.cs)] (.cf [bv (if(cQ (bu 3) l).2≠0 then(cQ (bu 3) l).1 else 0),bv (u5 l)]):=by
 refine cI func244 O (ro 10 O (kc (zK (vM (l:=l)) call293 O) (rr 13 O (kB O (fun c13=>?_) (fun c13=>?_)))))
 ·have hT:=GK (l:=l) c13;refine ro 8 O (kS O O O O ?_);simp_all
 have h0:(cQ (bu 3) l).2=0:=Zu.1 c13;have hps:=A5 h0;have hle:=Dh l;have hp1:(iy l).length - 1<(iy l).length:=by omega
 have hT:=GL h0 hp1;refine ro 5 O (kc (zK (si (EX 3 h0)) call294 O) (rr 4 O ?_));refine kV (.c (zm O) (.c (zk Z2 O) (.c (S.leq .none O (zt O) (.af O)) (.c (zK dR call296 O) (.c (zm O) (.c (zm O) (.c (zk Z2 O) (.c (S.sub .none O (zt O) (.af O) (ca _ I) (ca _ I)) (.c (S.aP (n:=((iy l).length - 1)) Z2 .none O (zt O) (zt O) I hp1 O) (.c (S.field Tn .none O (zt O) O) (.c (zV Z8 O O) (.c (zK yc call297 O) (.c (zK dR call296 O) (.c (zM [[_],[_]] ZX O O O O) (.c (S.callL (jw (l:=[_,_])) call295 .none O (zc O .nil) (.cons (.p (.own O O) O) .nil) O) (.c (zi O O) (.c (za O) .nil))))))))))))))))) (Ab.D.code (kS O O O O ?_));simp_all
def rcp_ParseRecipe{s:ba}(hl:s.length<=100000)(ha:jr s):gz prog 188 [.str s] (.cf [.sl ((iM s).1.map Ph.cs),bv (iM s).2]):=by
 refine cT func188 O fun hT=>?_
 refine kr (kc (S.assign .none O .fW) (rr 11 O (kB O (fun c11=>?_) (fun c11=>?_))))
 ·have hT:=GM (s:=s) I;refine kr (kc (S.assign .none O .fW) (rr 3 O (kS O O O O ?_)));simp_all
 have h20:¬2000<s.length:=by omega
 refine ro 5 O (kc (zU bu345 O O) (rr 6 O ?_));refine RK.c (S.GP (fs:=[4]) (t:=[(1004,.box [.str s])]) (t':=[(1004,.box [.str (iL s).2])]) (CS hl ha) hT call243 .none O (zc O .nil) V ⟨O,Zo⟩ V V V V O V) ?_;refine rr 11 O (kc (S.not .none O (zt O)) (jm O (RK.split (t:=20) O (fun g20=>?_) (fun g20=>?_))))
 ·have hT:=Di h20 (.inl (by grind));refine rr 9 O (kc (S.assign .none O .fW) (rr 3 O (kS O O O O ?_)));simp_all
 have hok:(iL s).1.2=true:=by grind
 refine rr 6 O (kB O (fun c24=>?_) (fun c24=>?_))
 ·have hT:=Di h20 (.inr I);refine kr (kc (S.assign .none O .fW) (rr 3 O (kS O O O O ?_)));simp_all
 have hem:(iL s).2=[]:=by grind
 refine ro 6 O (kc (zK (pE (l:=(iL s).1.1)) call244 O) (rr 13 O (kB O (fun c31=>?_) (fun c31=>?_))))
 ·have hT:=GN h20 hok hem c31;refine ro 3 O (kc (S.assign .none O .fW) (rr 3 O (kS O O O O ?_)));simp_all
 have hT:=GO h20 hok hem (Zu.1 c31);refine ro 9 O (kS O O O O ?_);simp_all
