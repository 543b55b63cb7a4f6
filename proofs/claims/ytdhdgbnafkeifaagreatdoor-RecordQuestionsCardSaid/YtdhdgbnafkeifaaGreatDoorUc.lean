import Derived.Test.YtdhdgbnafkeifaaGreatDoorTo
set_option linter.all false
set_option maxHeartbeats 8000000
open List renaming length->R
namespace Go.Proofs.YtdhdgbnafkeifaaGreatDoor
open Go.Ab Tryz
set_option maxRecDepth 9999
def Yo(a b:Int):Int:=if a<b then -1 else if a>b then 1 else 0
theorem VJ{a b:Int}(h:a<b):Yo a b= -1:=Zn h
def S5{a b:Int}(h:b<a):Yo a b=1:=(Zm I).trans (Zn h)
def LF{a b:Int}(h:a=b):Yo a b=0:=(Zm I).trans (Zm I)
def Nc(a b c:Int):Yo (a+c) (b+c)=Yo a b:=by
 simp[Yo]
def tdm{a b:Int}(e:0<=a)(d:0<b):a=a.tdiv b * b+a.tmod b/\0<=a.tmod b/\a.tmod b<b/\0<=a.tdiv b/\a.tdiv b<=a:=by
 have p:=Int.mul_tdiv_add_tmod a b;have l:=bη b e;have h:=bδ a d;have g:=Int.tdiv_nonneg e (Int.le_of_lt d);refine⟨by grind,l,h,g,?_⟩;have o:a.tdiv b * 1<=a.tdiv b * b:=dε d g;grind
def Nd{a b c e p q r s:Int}(o:a=p * b+r)(l:c=q * e+s)(g:0<=r/\r<b)(d:0<=s/\s<e)(h:p<q):a * e<c * b:=by
 subst o;subst l;rw[eγ,eγ];have x:r * e<b * e:=Int.mul_lt_mul_of_pos_right g.2 I;have u:0<=s * b:=cη d.1 I;have t:(p+1) * (b * e)<=q * (b * e):=Int.mul_le_mul_of_nonneg_right I (cη I I);grind
def cmp_eq{a b c e p r s:Int}(g:a=p * b+r)(d:c=p * e+s):Yo (a * e) (c * b)=Yo (r * e) (s * b):=by
 subst g;subst d;rw[eγ,eγ,show p * e * b=p * b * e by grind,Int.add_comm _ (r * e),Int.add_comm _ (s * b)];exact Nc ..
def Va(n:Net)(d:Span):Bool:=decide (d.lo.num<n.lo * d.lo.den)||decide (d.hi.num>n.hi * d.hi.den)
def State.Ff(s:State)(i:Nat):State:={s with parts:=s.parts.map fun p=>if decide (p.oF=(s.p i).oF)&&decide (p.iN=(s.p i).iN)&&gE p then {p with marked:=true}else p}
def Yb(n:Net)(rest:ba)(s:State)(i:Nat):SE:=
 if(s.p i).place≠1 then(s,20)else if(DH rest).2≠0 then(s,(DH rest).2)else
 let c:=It (DH rest).1 n.limit
 if c.2≠0 then(s,c.2)else
 let a:=s.eC i fun p=>{p with place:=4,depth:=c.1}
 (if Va n c.1 then a.Ff i else a,0)
def Lb{a b:Int}(h:Yo (a * 1) b<0):decide (a<b)=true:=by
 rw[Int.mul_one]at h;refine Zz (aν fun d=>?_);unfold Yo at h;omega
def K_{a b:Int}(h:¬Yo (a * 1) b<0):decide (a<b)=false:=by
 rw[Int.mul_one]at h;grind [VJ]
def La{a b:Int}:decide (a>b)=decide (Yo (a * 1) b>0):=by
 rw[Int.mul_one];unfold Yo;grind
def mF(r:ba)(n:Int)(p:Part):Part:=if decide (p.oF=r)&&decide (p.iN=n)&&gE p then {p with marked:=true}else p
def mF_fr(r:ba)(n:Int)(p:Part):(mF r n p).frames=p.frames/\(mF r n p).oF=p.oF/\(mF r n p).iN=p.iN:=by unfold mF;grind
def SA.K9(A:SA)(i k:Nat):SA:={A with parts:=A.parts.mapIdx fun j v=>if j<k then(v.1,mF (A.st.p i).oF (A.st.p i).iN v.2)else v}
structure ZV(A1:SA)(i k:Nat)(A2:SA):Prop where
 ok:A2.Ok
 eq:A2=A1.K9 i k
section
variable{A1 A2:SA}{i k:Nat}{w v:Hd×Part}
theorem NN(h:A1.parts[k]?=some v)(j:Nat):(A1.K9 i j).parts[k]?=some (if k<j then(v.1,mF (A1.st.p i).oF (A1.st.p i).iN v.2)else v):=by
 simp_all[SA.K9]
def ZV.zero(h:A1.Ok):ZV A1 i 0 A1:=⟨h,by
 unfold SA.K9;have:A1.parts.mapIdx (fun j v=>if j<0 then(v.1,mF (A1.st.p i).oF (A1.st.p i).iN v.2)else v)=A1.parts:=P2 fun j=>by
  simp
 rw[this]⟩
def ZV.len(h:ZV A1 i k A2):R A2.parts=R A1.parts:=by rw[h.eq];exact List.length_mapIdx
def ZV.ph(h:ZV A1 i k A2):A2.ph=A1.ph:=by rw[h.eq];rfl
def ZV.cs(h:ZV A1 i k A2):A1.cs=A2.cs:=by
 unfold SA.cs;rw[h.len,h.eq];rfl
def ZV.at_(h:ZV A1 i k A2)(b:A1.parts[i]?=some v):∃a,A2.parts[i]?=some a/\a.2.oF=(A1.st.p i).oF/\a.2.iN=(A1.st.p i).iN:=by
 rw[h.eq];refine⟨_,NN b k,?_⟩;rw[SA.Zb b];split
 ·simp[mF_fr]
 simp
theorem ZV.step(h:ZV A1 i k A2)(hw:A2.parts[k]?=some w):A1.K9 i (k+1)=A2.eC k (w.1,mF (A1.st.p i).oF (A1.st.p i).iN w.2):=by
 have h0:A1.parts[k]?=some w:=by
  have e:=hw;rw[h.eq]at e;simp_all[SA.K9]
 rw[h.eq];unfold SA.K9 SA.eC;dsimp only;congr 1;refine P2 fun j=>?_
 grind
theorem ZV.on(h:ZV A1 i k A2)(hw:A2.parts[k]?=some w)(a:(w.2.oF=(A1.st.p i).oF/\w.2.iN=(A1.st.p i).iN)/\gE w.2=true):ZV A1 i (k+1) (A2.eC k (w.1,{w.2 with marked:=true})):=by
 refine⟨h.ok.eC (h.ok.fh w (mr hw)),?_⟩;rw[h.step hw,mF,Zn (by simp_all)]
theorem ZV.off(h:ZV A1 i k A2)(hw:A2.parts[k]?=some w)(a:¬((w.2.oF=(A1.st.p i).oF/\w.2.iN=(A1.st.p i).iN)/\gE w.2=true)):ZV A1 i (k+1) A2:=by
 refine⟨h.ok,?_⟩;rw[h.step hw,mF,Zm (fun e=>a (by simp_all))];unfold SA.eC;rw[show A2.parts.set k (w.1,w.2)=A2.parts from P2 fun j=>by
  grind]
theorem ZV.all{n:Nat}(h:ZV A1 i n A2)(a:R A1.parts=n):A2.st=A1.st.Ff i:=by
 rw[h.eq];unfold SA.K9 SA.st State.Ff;dsimp only;congr 1;refine P2 fun j=>?_
 rw[i7,List.getElem?_mapIdx,i7,i7];cases e:A1.parts[j]? with
 |none=>rfl
 |some v=>
  show some (if j<n then _ else _:Hd×Part).2=_;rw[Zn (by grind)];rfl
end
def SV{a b:Part}:Ap [.s a.oF,.i a.iN] [.s b.oF,.i b.iN]=decide (a.oF=b.oF/\a.iN=b.iN):=by simp[Ap,Pl.eq]
section
variable{A:SA}{n:Net}{i:Nat}{v:Hd×Part}{r:ba}
theorem Kf{m:Int}(h:ix (fun p:Part=>decide (p.num=m)) A.st.parts=some i):∃v,A.parts[i]?=some v/\i<R A.parts:=by
 have a:i<R A.parts:=by rw[←SA.X7];exact(eE h).1
 simp_all
theorem OI(a:A.parts[i]?=some v)(h:v.2.place≠1):Yb n r A.st i=(A.st,20):=by simp_all[Yb,SA.Zb]
theorem KS(a:A.parts[i]?=some v)(h:¬v.2.place≠1):Yb n r A.st i=if(DH r).2≠0 then(A.st,(DH r).2)else if(It (DH r).1 n.limit).2≠0 then(A.st,(It (DH r).1 n.limit).2)else(if Va n (It (DH r).1 n.limit).1 then(A.st.eC i fun p=>{p with place:=4,depth:=(It (DH r).1 n.limit).1}).Ff i else A.st.eC i fun p=>{p with place:=4,depth:=(It (DH r).1 n.limit).1},0):=by
 simp_all[Yb,SA.Zb]
theorem KU(a:ve n.limit=true)(h:¬(DH r).2≠0):¬aF [(FU (DH r).1).2,ae (ve n.limit) 2]≠0:=by
 have h0:=Zu.1 h;have d:(FU (DH r).1).2=0:=by
  by_cases b:(if(Is 4 r).2=0 then(FU ((Is 4 r).1.map xj)).2 else(Is 4 r).2)≠0
  ·simp_all[Xn]
  rw[TW b];grind
 rw[aF,d,a];decide
end
def Ui:∀(f:Nat)(a b:Int),0<=a->0<=b->b.toNat<f->FE f a b∣a/\FE f a b∣b
 |0,_,_,_,_,h=>absurd h (bπ _)
 |f+1,a,b,ha,hb,h=>by
  rw[FE];split
  ·simp_all
  rename_i e;obtain⟨x,t,u,_⟩:=tdm (b:=b) ha I;obtain⟨q,p⟩:=Ui f b (a.tmod b) hb t I;obtain⟨g,d⟩:=q;obtain⟨l,o⟩:=p;exact⟨⟨a.tdiv b * g+l,by grind⟩,⟨g,d⟩⟩
def Qv{n d:Int}(e:0<=n)(hd:1<=d):1<=(zO n d).den:=by
 obtain⟨_,k,o⟩:=Ui (d.toNat+1) n d e I I;have p:=W7 (a:=n) (b:=d) e I;show 1<=d.tdiv (HL n d);have l:d=HL n d * k:=o;have g:1<=k:=aν fun h=>by
  grind [Int.mul_nonpos_of_nonneg_of_nonpos]
 grind [Int.mul_tdiv_cancel_left]
def Ua{c:List (Int×Int)}(b:UL c){limit:Int}(e:0<=limit/\limit<=2000)(d:(yt c limit).2=true):1<=(yt c limit).1.den:=by
 cases h:ix (ZG limit) c with
 |none=>simp_all[WU]
 |some j=>
  have a:=(eE h).1;cases j with
  |zero=>
   rw[WT h a];have:=b.at_ _ (Zt a);exact Qv I C
  |succ k=>
   rw[WV h a];obtain⟨g,d,_⟩:=VT b e h a;exact Qv d.1 g.1
def LO{c:List (Int×Int)}{limit:Int}:(yt c limit).2=(ix (ZG limit) c).isSome:=by
 cases h:ix (ZG limit) c with
 |none=>rw[WU h];rfl
 |some j=>
  have a:=(eE h).1;cases j with
  |zero=>rw[WT h a];rfl
  |succ k=>rw[WV h a];rfl
def R3{l:List jI}(h:Wr l){limit:Int}(d:(yt (yu l) limit).2=true):(yt (GX l) limit).2=true:=by
 rw[LO]at d⊢;cases e:ix (ZG limit) (GX l)with
 |some j=>rfl
 |none=>
  obtain⟨j,o⟩:=sk.1 d;obtain⟨q,g⟩:=eE o;obtain⟨x,b,a⟩:=rx.1 (Zt q);rw[←a]at g;have p:=(YO _ _ 0).1 e (x.depth,x.lo) (rx.2 ⟨x,b,rfl⟩);have y:x.hi<limit:=pf g;have u:¬x.lo<limit:=a6 p;have t:=(h.ok x b).ord;omega
def M_{l:List jI}{limit:Int}(h:¬(It l limit).2≠0):((0<=(It l limit).1.lo.num/\(It l limit).1.lo.num<=1000000000)/\1<=(It l limit).1.lo.den/\(It l limit).1.lo.den<=1000000000)/\(0<=(It l limit).1.hi.num/\(It l limit).1.hi.num<=1000000000)/\1<=(It l limit).1.hi.den/\(It l limit).1.hi.den<=1000000000:=by
 obtain⟨b,a⟩:=P9 l limit;have h0:=Zu.1 h;have y:1<=(It l limit).1.lo.den/\1<=(It l limit).1.hi.den:=by
  by_cases o:aF [(FU l).2,ae (ve limit) 2]≠0
  ·simp_all[QV]
  obtain⟨t,q⟩:=P_ o;have d:=VZ t;have g:0<=limit/\limit<=2000:=pf q;by_cases p:((yu l).getD 0 (0,0)).2<limit
  ·simp_all[VH]
  cases e:(yt (yu l) limit).2 with
  |false=>simp_all[VI]
  |true=>rw[S4 o p e];exact⟨Ua d.lower g (R3 d e),Ua d.upper g e⟩
 have x:=b.num;have u:=a.num;have B:=b.den;have z:=a.den;omega
section
variable{n:Net}{s:State}{i:Nat}{c:Span}
theorem KQ(h:Va n c=true):((if Va n c then(s.eC i fun p=>{p with place:=4,depth:=c}).Ff i else s.eC i fun p=>{p with place:=4,depth:=c},0):SE)=((s.eC i fun p=>{p with place:=4,depth:=c}).Ff i,0):=by grind
def KP(h:Va n c=false):((if Va n c then(s.eC i fun p=>{p with place:=4,depth:=c}).Ff i else s.eC i fun p=>{p with place:=4,depth:=c},0):SE)=(s.eC i fun p=>{p with place:=4,depth:=c},0):=by rw[h];rfl
end
def V9{n b:Int}(g:0<=n/\n<=1000000000)(h:1<=b):Ct prog 328 [bv n,bv b] (bv (n.tdiv b)):=by
 refine cI func328 O fun{_ _}=>?_
 have e:=tdm g.1 (show 0<b by omega);have d:=cη e.2.2.2.1 (show 0<=b by omega);refine ro 9 O ?_;refine kc (S.quo .none O (zt O) (zt O) I (mn _ I) (mn _ I)) ?_;refine rr 8 O ?_;refine kc (S.rem .none O (zt O) (zt O) I O (mn _ I)) ?_;refine rr 3 O (kB O (fun a=>?_) (fun a=>?_))
 ·exact absurd (show n.tmod b<0 from a) I
 refine ro 8 O (kR O O ?_);rfl
def WQ{n d m k:Int}(Z:(0<=n/\n<=1000000000)/\(1<=d/\d<=1000000000)/\(0<=m/\m<=1000000000)/\(1<=k/\k<=1000000000)):Ct prog 284 [bv n,bv d,bv m,bv k] (bv (Yo (n * k) (m * d))):=by
 refine cI func284 O (ro 6 O ?_);refine OK.Io [] (fun(a:Int)(b:Int)(c:Int)(e:Int)=>[(0,bv a),(1,bv b),(2,bv c),(3,bv e),(8,bv 0)]) (fun a b c e=>((0<=a/\a<=1000000000)/\(1<=b/\b<=1000000000)/\(0<=c/\c<=1000000000)/\(1<=e/\e<=1000000000))/\Yo (n * k) (m * d)=Yo (a * e) (c * b)) (fun a b c e=>(b+e).toNat) (n) (d) (m) (k) ⟨Z,O⟩ ⟨O,O,O,O,O,Zo⟩ (fun _ _ _ _=>O) ?_;rintro a b c e ⟨⟨⟨B,N⟩,⟨M,Y⟩,⟨z,L⟩,⟨K,X⟩⟩,J⟩;obtain⟨Q,y,x,W,V⟩:=tdm B (show 0<b by omega);obtain⟨P,u,q,U,T⟩:=tdm z (show 0<e by omega);refine ro 5 O (kc (zK (V9 ⟨B,N⟩ M) call328 O) (jm O (jm O (kc (zK (V9 ⟨z,L⟩ K) call328 O) (rr 12 O (kB O (fun G=>?_) (fun G=>?_)))))))
 ·have h:=J.trans (VJ (Nd Q P ⟨y,x⟩ ⟨u,q⟩ G));refine ro 5 O (kR O O ?_);rw[h];try rfl
 refine ro 10 O (kB O (fun F=>?_) (fun F=>?_))
 ·have h:=J.trans (S5 (Nd P Q ⟨u,q⟩ ⟨y,x⟩ F));refine ro 5 O (kR O O ?_);rw[h];try rfl
 have H:c.tdiv e=a.tdiv b:=I
 have g:=J.trans (cmp_eq Q (H▸P));refine ro 7 O ?_;refine kc (S.mul .none O (zt O) (zt O) (mn _ I) (mn _ I)) ?_;refine Rr 4 O I ?_;refine kc (S.mul .none O (zt O) (zt O) (mn _ I) (mn _ I)) ?_;refine Rr 7 O I ?_;rw[show a - a.tdiv b * b=a.tmod b by omega,show c - c.tdiv e * e=c.tmod e by omega];refine ro 4 O (RK.bh (t:=35) O (fun C=>?_) (fun C=>?_))
 ·refine rr 5 O (kB O (fun E=>?_) (fun E=>?_))
  ·have h0:a.tmod b=0:=C;have h:=g.trans (LF (by rw[h0,show c.tmod e=0 from E,cζ,cζ]));refine ro 5 O (kR O O ?_);rw[h];try rfl
  refine ro 9 O (kB O (fun o=>?_) (fun o=>?_))
  ·have h0:a.tmod b=0:=o;have h:=g.trans (VJ (by rw[h0,cζ];exact eδ I I));refine ro 5 O (kR O O ?_);rw[h];try rfl
  refine ro 9 O (kB O (fun l=>?_) (fun l=>?_))
  ·have h0:c.tmod e=0:=l;have h:=g.trans (S5 (by rw[h0,cζ];exact eδ I I));refine ro 5 O (kR O O ?_);rw[h];try rfl
  have p:Yo (n * k) (m * d)=Yo (e * a.tmod b) (b * c.tmod e):=by rw[g,cχ e,cχ b]
  refine ro 13 O (Ab.D.lp ⟨e,(c.tmod e),b,(a.tmod b),⟨⟨I,I,I,I⟩,p⟩,I,O,O,O,O,O,Zo⟩)
 refine rr 15 O (kB O (fun o=>?_) (fun o=>?_))
 ·have h0:a.tmod b=0:=o;have h:=g.trans (VJ (by rw[h0,cζ];exact eδ I I));refine ro 5 O (kR O O ?_);rw[h];try rfl
 refine ro 9 O (kB O (fun l=>?_) (fun l=>?_))
 ·have h0:c.tmod e=0:=l;have h:=g.trans (S5 (by rw[h0,cζ];exact eδ I I));refine ro 5 O (kR O O ?_);rw[h];try rfl
 have p:Yo (n * k) (m * d)=Yo (e * a.tmod b) (b * c.tmod e):=by rw[g,cχ e,cχ b]
 refine ro 13 O (Ab.D.lp ⟨e,(c.tmod e),b,(a.tmod b),⟨⟨I,I,I,I⟩,p⟩,I,O,O,O,O,O,Zo⟩)
def UH{n:Net}{d:Span}(h:(0<=n.lo/\n.lo<=1000000000))(hh:(0<=n.hi/\n.hi<=1000000000))(e:(0<=d.lo.num/\d.lo.num<=1000000000)/\(1<=d.lo.den/\d.lo.den<=1000000000))(g:(0<=d.hi.num/\d.hi.num<=1000000000)/\(1<=d.hi.den/\d.hi.den<=1000000000)):Ct prog 232 [.agg n.cs,.agg d.cs] (.bool (Va n d)):=by
 refine cI func232 O (ro 18 O (kc (zK (WQ (n:=d.lo.num) (d:=d.lo.den) (m:=n.lo) (k:=1) ⟨e.1,e.2,h,C⟩) call284 O) ?_));refine rr 2 O (RK.bh (t:=16) O (fun b=>?_) (fun b=>?_))
 ·refine rr 15 O (kR O O ?_);refine ew ?_;unfold Va
  first|(rw[Lb b];rfl)|(rw[K_ b,La (a:=d.hi.num)];rfl)
 refine rr 9 O (kc (S.call (WQ (n:=d.hi.num) (d:=d.hi.den) (m:=n.hi) (k:=1) ⟨g.1,g.2,hh,C⟩) call284 (zg O O) O (zc O (zc O (zc O (zD O)))) O) ?_);refine rr 5 O (kR O O ?_);refine ew ?_;unfold Va
 first|(rw[Lb b];rfl)|(rw[K_ b,La (a:=d.hi.num)];rfl)
def V5{n:Net}(hn:(0<=n.lo/\n.lo<=1000000000)/\(0<=n.hi/\n.hi<=1000000000)/\ve n.limit=true){A:SA}(N:A.Ok)(hg:A.st.Good (bP n.aS).1){L:vN}(hl:R L.rest<=600):dF prog 170 [] [.agg n.cs,.agg A.cs,.agg L.cs,bv (bq (fun p:Part=>decide (p.num=L.num)) 0 A.st.parts)] [(3000,.res (aa A.mem))] [(3000,.res JT)] (.cf [.agg (ZL A.st L.num (Yb n L.rest)).1.cs,bv (ZL A.st L.num (Yb n L.rest)).2]):=by
 refine cG func170 O fun{_ _}=>?_
 have hlp:=hg.sm.lp;rw[SA.X7]at hlp;refine ro 16 O (kB O (fun U=>?_) (fun U=>?_))
 ·have hN:A.st.vr L.num=none:=X1 U;have z:ZL A.st L.num (Yb n L.rest)=(A.st,6):=by unfold ZL;rw[hN]
  refine kr (RK.cF (zL Z_ O O O O) N.fz O O (rr 4 O (OK.ret ⟨aA.r2 (zy O O Z_ O) (zo O O) ?_,O,Zo⟩)));rw[z];try rfl
 obtain⟨i,hu⟩:=X2 U;have u:=ZC hu;obtain⟨v,E,y⟩:=Kf hu;obtain⟨pq,e⟩:=ZB N.ph E;have e1:ZL A.st L.num (Yb n L.rest)=Yb n L.rest A.st i:=by unfold ZL;rw[show A.st.vr L.num=some i from hu]
 have W:=N.fh v (mr E);refine ro 6 O (kc (S.fc ZA .none O (zt O) O O (SA.YW e) O) (jm O (kc (S.hidx (i:=i) ZH .none O (zt O) (zt O) u y) (kc (zr Zl O) ?_))));refine kc (zH Z8 O (aa.V2 (k:=.p) (i:=i) (f:=5) (SA.Iz e) (Z7 (f:=pC) E) O O (.same _))) ?_;refine rr 3 O (kB O (fun T=>?_) (fun T=>?_))
 ·have z:=e1.trans (OI E T);refine kr (RK.cF (zL Z_ O O O O) N.fz O O (rr 4 O (OK.ret ⟨aA.r2 (zy O O Z_ O) (zo O O) ?_,O,Zo⟩)));rw[z];try rfl
 have e2:=e1.trans (KS E T);refine ro 6 O (kc (zK (Xx (s:=L.rest) I) call230 O) ?_);refine rr 15 O (kB O (fun H=>?_) (fun H=>?_))
 ·have z:=e2.trans (Zn H);refine kr (RK.cF (zL Z_ O O O O) N.fz O O (rr 5 O (OK.ret ⟨aA.r2 (zy O O Z_ O) (zo O O) ?_,O,Zo⟩)));rw[z];try rfl
 have e3:=e2.trans (Zm H);have X:=KU hn.2.2 H;refine ro 7 O (kc (zK (PG (l:=(DH L.rest).1) (limit:=n.limit) X) call231 O) (rr 15 O (kB O (fun G=>?_) (fun G=>?_))))
 ·have z:=e3.trans (Zn G);refine kr (RK.cF (zL Z_ O O O O) N.fz O O (rr 5 O (OK.ret ⟨aA.r2 (zy O O Z_ O) (zo O O) ?_,O,Zo⟩)));rw[z];try rfl
 have e4:=e3.trans (Zm G);have Y:=M_ G;refine ro 3 O ?_;refine kV (.c (zf ZZ O) (.c (S.fc ZA .none O (zt O) O O (SA.YW e) O) (.c (zm O) (.c (zf ZZ O) (.c (S.fc ZA .none O (zt O) O O (SA.YW e) O) (.c (zm O) (.c (zL VK O O O O) (.c (S.hidx (i:=i) ZH .none O (zt O) (zt O) u y) (.c (zr Zl O) (.c (S.ZP (rows':=(A.parts.map pC).set i (({v.2 with place:=4}:Part).cells (.raw (v.1.w (R v.2.frames))))) (.p) Z8 .none (zt O) (.af O) O (SA.Iz e) (Z7 (f:=pC) E) O O O O C O) (.c (S.hidx (i:=i) ZH .none O (zt O) (zt O) u y) (.c (zr PX O) (.c (S.ZP (rows':=(A.parts.map pC).set i (({v.2 with place:=4,depth:=(It (DH L.rest).1 n.limit).1}:Part).cells (.raw (v.1.w (R v.2.frames))))) (.p) VK .none (zt O) (zt O) O (HM.bw _ _ _) (QH (Z7 (f:=pC) E)) O O O O C (by rw[eυ];rfl)) .nil))))))))))))) ?_;refine rd 3 O ?_;rw[HM.set_set,SA.YM e E (p:={v.2 with place:=4,depth:=(It (DH L.rest).1 n.limit).1}) rfl];obtain⟨A1,g⟩:∃A1,A1=A.eC i (v.1,{v.2 with place:=4,depth:=(It (DH L.rest).1 n.limit).1}):=⟨_,rfl⟩;rw[←g];have J:A1.st=A.st.eC i fun p=>{p with place:=4,depth:=(It (DH L.rest).1 n.limit).1}:=by rw[g];exact SA.YB E v.1 fun p=>{p with place:=4,depth:=(It (DH L.rest).1 n.limit).1}
 have M:A.cs=A1.cs:=by rw[g];exact(SA.Y7 _ _).symm
 have K:R A1.parts=R A.parts:=by rw[g];exact wi
 refine ro 3 O (kc (zK (UH (n:=n) (d:=(It (DH L.rest).1 n.limit).1) hn.1 hn.2.1 Y.1 Y.2) call232 O) (kD (OK.cond O O (fun Q=>?_) (fun Q=>?_))))
 ·have z:=e4.trans (KQ (i:=i) Q);refine ro 6 O ?_;refine OK.mP [5,8] (fun(k:Nat)(A2:SA)=>[(5,.ptr 5 0),(1005,.box A.cs),(3,bv (bq (fun p:Part=>decide (p.num=L.num)) 0 A.st.parts)),(8,.ptr 8 0),(1008,.box [.bO,.bO,.bO,.bO,bv 0,bv 0,.bO]),(13,bv k),(3000,.res (aa A2.mem))]) (fun k A2=>k<=R A.parts/\ZV A1 i k A2) (fun k A2=>R A.parts - k) (0) (A1) ⟨Zr _,ZV.zero (by rw[g];exact N.eC W)⟩ ⟨O,O,O,O,O,O,O,Zo⟩ (fun _ _=>O) ?_;rintro k A2 ⟨hk,F⟩;refine ro 6 O ?_;refine kc (S.hlen ZH (by unfold maxLen;omega) .none O (zt O)) ?_;refine rr 3 O (kB O (fun c64=>?_) (fun c64=>?_))
  ·have x:k<R A.parts:=I
   obtain⟨w,hw⟩:∃w,A2.parts[k]?=some w:=⟨_,Zv (by rw[F.len,K];exact x)⟩;have h:A2.ph=some pq:=by rw[F.ph,g];exact e
   obtain⟨o,V,t⟩:=F.at_ (i:=i) (by rw[g];exact SA.pZ E _);refine ro 5 O ?_;by_cases a:w.2.oF=o.2.oF/\w.2.iN=o.2.iN
   ·have Z:w.2.oF=(A1.st.p i).oF/\w.2.iN=(A1.st.p i).iN:=by rw[←t.1,←t.2];exact a
    refine kV (.c (zf ZZ O) (.c (S.fc ZA .none O (zt O) O O (SA.YW e) O) (.c (zm O) (.c (S.hidx (i:=k) ZH .none O (zt O) (zt O) O x) (.c (zr Yt O) (.c (zJ (us:=[.str w.2.oF,bv w.2.iN]) MO O (aa.UE (k:=.p) (i:=k) (f:=1) (SA.Iz h) (Z7 (f:=pC) hw) O ⟨.same _,.same _,Zo⟩ O)) (.c (zf ZZ O) (.c (S.fc ZA .none O (zt O) O O (SA.YW e) O) (.c (zm O) (.c (S.hidx (i:=i) ZH .none O (zt O) (zt O) u y) (.c (zr Yt O) (.c (zJ (us:=[.str o.2.oF,bv o.2.iN]) MO O (aa.UE (k:=.p) (i:=i) (f:=1) (SA.Iz h) (Z7 (f:=pC) V) O ⟨.same _,.same _,Zo⟩ O)) (.c (S.Mp (b:=decide (w.2.oF=o.2.oF/\w.2.iN=o.2.iN)) [.s [],.i 0] [.s w.2.oF,.i w.2.iN] [.s o.2.oF,.i o.2.iN] Td .none O (zt O) (zt O) O O O O SV) (.c (zm O) (.c (S.dH ZZ (.yes O O O (by first|rfl|exact Zz a|exact Zy a|(rw[Zz a];rfl)|(rw[Zy a];rfl)|simp[*])) O (zt O)) (.c (S.fc ZA (.yes O O O (by first|rfl|exact Zz a|exact Zy a|(rw[Zz a];rfl)|(rw[Zy a];rfl)|simp[*])) O (zt O) O O (SA.YW e) O) (.c (S.move (.yes O O O (by first|rfl|exact Zz a|exact Zy a|(rw[Zz a];rfl)|(rw[Zy a];rfl)|simp[*])) O (zt O)) (.c (S.hidx (i:=k) ZH (.yes O O O (by first|rfl|exact Zz a|exact Zy a|(rw[Zz a];rfl)|(rw[Zy a];rfl)|simp[*])) O (zt O) (zt O) O x) (.c (S.jG (us:=w.2.cs) T7 (.yes O O O (by first|rfl|exact Zz a|exact Zy a|(rw[Zz a];rfl)|(rw[Zy a];rfl)|simp[*])) O (zt O) O (aa.UE (k:=.p) (i:=k) (f:=0) (SA.Iz h) (Z7 (f:=pC) hw) O ⟨.same _,.same _,.same _,.same _,.sl (F.ok.fs hw),.same _,.same _,.same _,.same _,.same _,.same _,.same _,.same _,Zo⟩ O)) (.c (S.call (Xi (p:=w.2)) call74 (.yes O O O (by first|rfl|exact Zz a|exact Zy a|(rw[Zz a];rfl)|(rw[Zy a];rfl)|simp[*])) O (zc O .nil) O) (.c (S.aQ .none O (zt O) (zt O) (by first|rfl|exact Zz a|exact Zy a|(rw[Zz a];rfl)|(rw[Zy a];rfl)|simp[*])) .nil))))))))))))))))))))) ?_;refine Ab.D.code (OK.cond O O (fun P=>?_) (fun P=>?_))
    ·have B:=F.on hw ⟨Z,P⟩;refine ro 2 O (kc (S.fc ZA .none O (zt O) O O (SA.YW e) O) (jm O (kc (S.hidx (i:=k) ZH .none O (zt O) (zt O) O x) (kc (zr SI O) ?_))));refine kc (S.ZP (rows':=(A2.parts.map pC).set k (({w.2 with marked:=true}:Part).cells (.raw (w.1.w (R w.2.frames))))) (.p) SP .none (zt O) .aJ O (SA.Iz h) (Z7 (f:=pC) hw) O O O O C O) ?_;refine rr 3 O ?_;rw[SA.YM h hw (p:={w.2 with marked:=true}) rfl];refine Ro 5 O I (Ab.D.lp ⟨k+1,(A2.eC k (w.1,{w.2 with marked:=true})),⟨I,B⟩,I,O,O,O,O,O,O,O,Zo⟩)
    have B:=F.off hw fun q=>absurd q.2 (by rw[P];decide)
    refine Ro 8 O I (Ab.D.lp ⟨k+1,A2,⟨I,B⟩,I,O,O,O,O,O,O,O,Zo⟩)
   have B:=F.off hw fun q=>a (by rw[t.1,t.2];exact q.1)
   refine kV (.c (zf ZZ O) (.c (S.fc ZA .none O (zt O) O O (SA.YW e) O) (.c (zm O) (.c (S.hidx (i:=k) ZH .none O (zt O) (zt O) O x) (.c (zr Yt O) (.c (zJ (us:=[.str w.2.oF,bv w.2.iN]) MO O (aa.UE (k:=.p) (i:=k) (f:=1) (SA.Iz h) (Z7 (f:=pC) hw) O ⟨.same _,.same _,Zo⟩ O)) (.c (zf ZZ O) (.c (S.fc ZA .none O (zt O) O O (SA.YW e) O) (.c (zm O) (.c (S.hidx (i:=i) ZH .none O (zt O) (zt O) u y) (.c (zr Yt O) (.c (zJ (us:=[.str o.2.oF,bv o.2.iN]) MO O (aa.UE (k:=.p) (i:=i) (f:=1) (SA.Iz h) (Z7 (f:=pC) V) O ⟨.same _,.same _,Zo⟩ O)) (.c (S.Mp (b:=decide (w.2.oF=o.2.oF/\w.2.iN=o.2.iN)) [.s [],.i 0] [.s w.2.oF,.i w.2.iN] [.s o.2.oF,.i o.2.iN] Td .none O (zt O) (zt O) O O O O SV) (.c (zm O) (.c (zG O (by first|rfl|exact Zz a|exact Zy a|(rw[Zz a];rfl)|(rw[Zy a];rfl)|simp[*])) (.c (zG O (by first|rfl|exact Zz a|exact Zy a|(rw[Zz a];rfl)|(rw[Zy a];rfl)|simp[*])) (.c (zG O (by first|rfl|exact Zz a|exact Zy a|(rw[Zz a];rfl)|(rw[Zy a];rfl)|simp[*])) (.c (zG O (by first|rfl|exact Zz a|exact Zy a|(rw[Zz a];rfl)|(rw[Zy a];rfl)|simp[*])) (.c (zG O (by first|rfl|exact Zz a|exact Zy a|(rw[Zz a];rfl)|(rw[Zy a];rfl)|simp[*])) (.c (zG O (by first|rfl|exact Zz a|exact Zy a|(rw[Zz a];rfl)|(rw[Zy a];rfl)|simp[*])) (.c (S.aO .none O (zt O) .aJ (by first|rfl|exact Zz a|exact Zy a|(rw[Zz a];rfl)|(rw[Zy a];rfl)|simp[*])) .nil))))))))))))))))))))) ?_;refine Rd 10 O I (Ab.D.lp ⟨k+1,A2,⟨I,B⟩,I,O,O,O,O,O,O,O,Zo⟩)
  obtain rfl:k=R A.parts:=I
  have hF:Gj A2.mem (.agg A.cs) (.agg ((A.st.eC i fun p=>{p with place:=4,depth:=(It (DH L.rest).1 n.limit).1}).Ff i).cs):=SA.YR F.ok rfl (M.trans F.cs) (by rw[←J];exact F.all K);refine ro 4 O (RK.cF (zL Z_ O O O O) hF O O (rr 4 O (OK.ret ⟨aA.r2 (zy O O Z_ O) (zo O O) ?_,O,Zo⟩)));rw[z];try rfl
 have z:=e4.trans (KP (i:=i) Q);have hF:Gj A1.mem (.agg A.cs) (.agg (A.st.eC i fun p=>{p with place:=4,depth:=(It (DH L.rest).1 n.limit).1}).cs):=SA.YR (by rw[g];exact N.eC W) rfl M J;refine ro 4 O (RK.cF (zL Z_ O O O O) hF O O (rr 4 O (OK.ret ⟨aA.r2 (zy O O Z_ O) (zo O O) ?_,O,Zo⟩)));rw[z];try rfl
end Go.Proofs.YtdhdgbnafkeifaaGreatDoor
namespace Go.Proofs.YtdhdgbnafkeifaaGreatDoor
open Go.Ab Tryz
def PT:aZ JT:=fun _ _ _ _ _ _ _ _ _ _ _=>trivial
def Pg{M:HM SK}:∀h Y a w,aa M h Y w->(∀b,Y b->a b)->aa M h a w:=fun _ _ _ _ d e=>d.mono e
def TF(s:State)(name rest:ba):SE:=if bS name=false then(s,4)else if(iM rest).2≠0 then(s,(iM rest).2)else if R s.yB=6 then(s,16)
 else({s with yB:=s.yB++[⟨name,s.iN name+1,(iM rest).1⟩]},0)
def State.oc(s:State)(m:Int):Part:=s.p ((s.vr m).getD 0)
def State.nB(pl:bC)(s:State):List aX:=s.aI.map fun m=>ZO pl (s.oc m).frames
def Rh(pl:bC)(s:State)(t:Int):SE:=if(R (s.nB pl))=0 then(s,10)else if 2 * t>=R (s.nB pl) then(s,2)else({s with env:=G6 pl (s.nB pl) t},0)
def ZT(n:Net)(s:State)(L:vN):SE:=
 if L.verb=gR[0]then(s,0)else if L.verb=gR[1]then XA s L.num L.oF L.coil else if L.verb=gR[2]then ZQ (bP n.aS).1 s (aY L.rest).1 (aY L.rest).2
 else if L.verb=gR[3]then S7 (bP n.aS).1 (decide (0<R s.env.rows)) s else if L.verb=gR[4]then ZL s L.num UX else if L.verb=gR[5]then ZL s L.num QT
 else if L.verb=gR[6]then Ng s L.coil L.num else if L.verb=gR[7]then YQ s L.coil else if L.verb=gR[8]then ZL s L.num U7 else if L.verb=gR[9]then ZL s L.num (Yb n L.rest)
 else if L.verb=gR[10]then TF s L.oF L.rest else if L.verb=gR[11]then ZL s L.num (Yj (bP n.aS).1)else Rh (bP n.aS).1 s L.num
def State.Lw(pl:bC)(s:State):Prop:=∀m∈s.aI,∃i,s.vr m=some i/\mw pl (s.p i)=true
section
variable{A:SA}{s:State}{n:Net}{pl:bC}{i j:Nat}{v:Hd×Part}{m:Int}{f:State->Nat->SE}
def VF(h:s.vr m=none):ZL s m f=(s,6):=by unfold ZL;rw[h]
def VG(h:s.vr m=some i):ZL s m f=f s i:=by unfold ZL;rw[h]
theorem J8(a:A.parts[i]?=some v)(h:Ac v.2=false):UX A.st i=(A.st,24):=by simp_all[UX,SA.Zb]
theorem J9(a:A.parts[i]?=some v)(h:Ac v.2=true):UX A.st i=(A.st.eC i fun p=>{p with place:=2},0):=by simp_all[UX,SA.Zb]
theorem bad_F(a:A.parts[i]?=some v)(h:v.2.place≠1):QT A.st i=(A.st,20):=by simp_all[QT,SA.Zb]
theorem bad_T(a:A.parts[i]?=some v)(h:¬v.2.place≠1):QT A.st i=(A.st.eC i fun p=>{p with place:=3},0):=by simp_all[QT,SA.Zb]
theorem NR(a:A.parts[i]?=some v)(h:(gE v.2&&!v.2.marked)=false):U7 A.st i=(A.st,20):=by simp_all[U7,SA.Zb]
theorem Kj(a:A.parts[i]?=some v)(h:(gE v.2&&!v.2.marked)=true):U7 A.st i=(A.st.eC i fun p=>{p with marked:=true},0):=by simp_all[U7,SA.Zb]
theorem NU(a:A.parts[i]?=some v)(h:v.2.place=0):Yj pl A.st i=(A.st,20):=by simp_all[Yj,SA.Zb]
theorem NT(a:A.parts[i]?=some v)(h:¬v.2.place=0)(b:mw pl v.2=false):Yj pl A.st i=(A.st,14):=by simp_all[Yj,SA.Zb]
theorem Mi(a:A.parts[i]?=some v)(b:v.2.num=m)(h:¬v.2.place=0)(d:¬mw pl v.2=false):Yj pl A.st i=if A.st.aI.contains m then(A.st,23)else({A.st with aI:=A.st.aI++[m]},0):=by simp_all[Yj,SA.Zb]
theorem JF(a:s.xE=some i){c:ba}(h:(s.p i).coil=c):s.busy c=true:=by simp_all[State.busy]
theorem JD(a:s.xE=some i){c:ba}(h:¬(s.p i).coil=c):s.busy c=false:=by simp_all[State.busy]
theorem JE(a:s.xE=none)(c:ba):s.busy c=false:=by grind [State.busy]
def OA{c:ba}(h:s.Bs c=none):YQ s c=(s,6):=by unfold YQ;rw[h]
theorem Oz{c:ba}(h:s.Bs c=some j)(a:s.busy c=true):YQ s c=(s,17):=by simp_all[YQ]
theorem Su{c:ba}(h:s.Bs c=some j)(a:s.busy c=false):YQ s c=({s with aC:=s.aC.modify j fun c=>{c with shots:=0}},0):=by simp_all[YQ]
theorem NH(b:ix (fun p:Part=>decide (p.num=m)) A.st.parts=some i):∃v,A.parts[i]?=some v/\i<R A.parts/\v.2.num=m:=by
 obtain⟨g,e⟩:=eE b;have a:i<R A.parts:=by grind [SA.X7]
 refine⟨A.parts[i],Zv a,a,?_⟩;have d:A.st.parts[i]=A.parts[i].2:=bκ ..;simp_all
def SA.N1(q:Nat×Nat)(r:Rec):A.mem.set .r (some (q.1,.row 3 q.2 (A.yB.map Rec.cs++[r.cs])))=({A with rh:=some q,yB:=A.yB++[r]}:SA).mem:=funext fun k=>by
 cases k with
 |r=>show some _=some _;rw[ne];rfl
 |_=>exact HM.ai _ _ Z
def SA.NX(q:Nat×Nat)(c:o6):A.mem.set .c (some (q.1,.row 3 q.2 (A.aC.map o6.cs++[c.cs])))=({A with ch:=some q,aC:=A.aC++[c]}:SA).mem:=funext fun k=>by
 cases k with
 |c=>show some _=some _;rw[ne];rfl
 |_=>exact HM.ai _ _ Z
def SA.NY(q:Nat×Nat)(m:Int):A.mem.set .m (some (q.1,.row 1 q.2 (A.aI.map V1++[V1 m])))=({A with mh:=some q,aI:=A.aI++[m]}:SA).mem:=funext fun k=>by
 cases k with
 |m=>show some _=some _;rw[ne];rfl
 |_=>exact HM.ai _ _ Z
abbrev QW(r c p m:X)(e:Envelope):bi:=[r,c,p,m,bv e.parts,bv e.trim,.sl (e.rows.map fun l=>[.sl (l.map Range.cs)])]
def SA.Mk(q:Nat×Nat)(r:Rec):QW (.raw (.slice (some ⟨q.1,0,none⟩) (R (A.yB.map Rec.cs)+1) q.2)) (.raw (A.ch.w (R A.aC))) (.raw (A.ph.w (R A.parts))) (.raw (A.mh.w (R A.aI))) A.env=({A with rh:=some q,yB:=A.yB++[r]}:SA).cs:=by
 unfold SA.cs;dsimp only;rw[Zs,Zx];rfl
def SA.Fl(q:Nat×Nat)(c:o6):QW (.raw (A.rh.w (R A.yB))) (.raw (.slice (some ⟨q.1,0,none⟩) (R (A.aC.map o6.cs)+1) q.2)) (.raw (A.ph.w (R A.parts))) (.raw (A.mh.w (R A.aI))) A.env=({A with ch:=some q,aC:=A.aC++[c]}:SA).cs:=by
 unfold SA.cs;dsimp only;rw[Zs,Zx];rfl
def SA.Fc(q:Nat×Nat)(m:Int):QW (.raw (A.rh.w (R A.yB))) (.raw (A.ch.w (R A.aC))) (.raw (A.ph.w (R A.parts))) (.raw (.slice (some ⟨q.1,0,none⟩) (R (A.aI.map V1)+1) q.2)) A.env=({A with mh:=some q,aI:=A.aI++[m]}:SA).cs:=by
 unfold SA.cs;dsimp only;rw[Zs,Zx];rfl
def SA.Ok.fzM(h:A.Ok):Fz A.mem (.raw (A.mh.w (R A.aI))) (.sl (A.aI.map V1)):=Fz.ofRow h.ms (Yn fun _ x _=>⟨.same _ rfl,Zo⟩) F
end
def Q_(l:bd)(n:Int):Bool:=l.any fun x=>decide (x=n)
def RT(l:bd)(n:Int):Q_ l n=l.contains n:=by
 unfold Q_;grind
section
variable{A:SA}{s:State}{pl:bC}{i k:Nat}{v:Hd×Part}
theorem Mw(b:k<R A.aI)(a:ix (fun p:Part=>decide (p.num=A.aI[k])) A.st.parts=some i)(e:A.parts[i]?=some v)(g:k<R (A.st.nB pl)):(A.st.nB pl)[k]=ZO pl v.2.frames:=by
 have d:(A.st.nB pl)[k]=ZO pl (A.st.oc A.aI[k]).frames:=bκ ..;rw[d];unfold State.oc;rw[show A.st.vr A.aI[k]=some i from a];simp_all[SA.Zb]
theorem Rx(a:s.Good pl)(y:s.Lw pl):yA pl (s.nB pl):=by
 have key:∀r∈s.nB pl,(R r.rows:Int)=pl.aR/\∀(i:Nat)(h:i<R r.rows),R r.rows[i].values=R pl.aq:=by
  intro r t;obtain⟨m,e,rfl⟩:=rx.1 t;obtain⟨j,D,q⟩:=y m e;have z:=(eE D).1;have x:s.oc m=s.parts[j]:=by
   simp_all[State.oc,State.p]
  have d:s.p j=s.parts[j]:=by simp_all[State.p]
  obtain⟨o,g⟩:=a.fr _ (Zt z);have b:=Xe (Iu.rec a.pl o g);rw[x];unfold mw at q;rw[d,b]at q;have u:=jc a.pl;obtain⟨G,F⟩:=Xf a.pl o.1;refine⟨by rw[Vc];omega,fun i h=>?_⟩;have E:=rm.1 q _ (Zt h);have C:∃f∈s.parts[j].frames,(ZO pl s.parts[j].frames).rows[i]=⟨true,f.values⟩:=by
   grind [ZO,U4]
  obtain⟨f,l,B⟩:=C;rw[B];exact(D9 (o.1 f l)).2
 exact⟨fun k h=>(key _ (Zt h)).1,fun k h=>(key _ (Zt h)).2⟩
end
def Ow{l:bd}{n:Int}:Ct prog 174 [ints l,bv n] (.bool (Q_ l n)):=by
 refine cI func174 O (OK.eW (rows:=l.map fun n=>[bv n]) (t:=0) O O fun hlen=>?_);rw[Zx]at hlen;unfold maxLen at hlen;refine ro 12 O ?_;refine OK.loop (G:=Nat) [] (fun i=>[(0,ints l),(1,bv n),(5,bv i)]) (fun i=>i<=R l/\Q_ l n=Q_ (l.drop i) n) (fun i=>R l - i) 0 ⟨Zr _,O⟩ ⟨O,O,O,Zo⟩ (fun _=>O) ?_;rintro i ⟨hi,b⟩;refine ro 5 O (kc (zk Z4 O) (rr 3 O (kB O (fun d=>?_) (fun d=>?_))))
 ·refine ro 8 O (kc (zI Z4 O I O) ?_);refine rr 5 O (kB O (fun a=>?_) (fun a=>?_))
  ·refine ro 5 O (kR O O ?_);refine ew ?_;rw[b,Q_,xo _ I,Zz a,cυ]
  refine Ro 8 O I (Ab.D.lp ⟨i+1,⟨by omega,?_⟩,I,O,O,O,Zo⟩);rw[b,Q_,xo _ I,Zy a,Bool.false_or];rfl
 refine ro 7 O (kR O O ?_);refine ew ?_;rw[b,show i=R l by omega,no];rfl
def Rz{n:Net}(H:R n.aS<=1000)(hn:(0<=n.lo/\n.lo<=1000000000)/\(0<=n.hi/\n.hi<=1000000000)/\ve n.limit=true){s:State}(B:s.Good (bP n.aS).1)(hmd:s.Lw (bP n.aS).1){L:vN}(hl:R L.rest<=600)(hln:0<=L.num/\L.num<=10000000):Ct prog 123 [.agg n.cs,.agg s.cs,.agg L.cs] (.cf [.agg (ZT n s L).1.cs,bv (ZT n s L).2]):=by
 refine cI func123 O (ro 12 O ?_);refine RK.callX (V4 B.sm) (fun _=>aa.az _) (fun _=>Pg) call165 O (zc O .nil) O fun q=>?_
 obtain⟨b,hst⟩:=q.2;generalize q.1=A at b hst⊢;subst hst;have hlp:=B.sm.lp;rw[SA.X7]at hlp;have hlc:=B.sm.lc;have hlr:=B.sm.lr;have hlm:=B.sm.lm;refine rr 9 O ?_;refine kc (S.YT (Vf (s:=A.st) (n:=L.num)) O call24 .none O (zc O (zc O .nil)) (⟨b.fz,Fz.same _ O,Zo⟩) O) ?_;refine rr 22 O (kB O (fun c25=>?_) (fun c25=>?_))
 ·have e0:ZT n A.st L=_:=Zn c25;have d:=e0;refine kr (RK.cF (zL Z_ O O O O) b.fz O O (rr 4 O (kT O O Z_ O O O ?_)));rw[d];try rfl
 have e0:ZT n A.st L=_:=Zm c25;refine ro 6 O (kB O (fun c28=>?_) (fun c28=>?_))
 ·have e1:ZT n A.st L=_:=e0.trans (Zn c28);have d:=e1;refine ro 5 O ?_;refine RK.c (S.ik (((UJ b B.sm).jR (aa.az _))) PT call166 .none O (zc O (zc O (zc O .nil))) O O) ?_;refine rr 6 O (kT O O Z_ O O O ?_);rw[d];try rfl
 have e1:ZT n A.st L=_:=e0.trans (Zm c28);refine ro 6 O (kB O (fun c36=>?_) (fun c36=>?_))
 ·have e2:ZT n A.st L=_:=e1.trans (Zn c36);have d:=e2;refine ro 5 O ?_;refine RK.c (S.ik (((TH H b B hl).jR (aa.az _))) PT call167 .none O (zc O (zc O (zc O .nil))) O O) ?_;refine rr 6 O (kT O O Z_ O O O ?_);rw[d];try rfl
 have e2:ZT n A.st L=_:=e1.trans (Zm c36);refine ro 6 O (kB O (fun c44=>?_) (fun c44=>?_))
 ·have e3:ZT n A.st L=_:=e2.trans (Zn c44);have d:=e3;refine ro 4 O ?_;refine RK.c (S.ik (((Sd H b B).jR (aa.az _))) PT call168 .none O (zc O (zc O .nil)) O O) ?_;refine rr 6 O (kT O O Z_ O O O ?_);rw[d];try rfl
 have e3:ZT n A.st L=_:=e2.trans (Zm c44);refine ro 6 O (kB O (fun c51=>?_) (fun c51=>?_))
 ·have e4:ZT n A.st L=_:=e3.trans (Zn c51);refine ro 7 O (kB O (fun c54=>?_) (fun c54=>?_))
  ·have d:=e4.trans (VF (X1 c54));refine kr (RK.cF (zL Z_ O O O O) b.fz O O (rr 5 O (kT O O Z_ O O O ?_)));rw[d];try rfl
  obtain⟨i,z⟩:=X2 c54;have o:=ZC z;obtain⟨v,h,u,hvn⟩:=NH z;obtain⟨pq,g⟩:=ZB b.ph h;have y:=e4.trans (VG z);refine ro 6 O (kc (S.fc ZA .none O (zt O) O O (SA.YW g) O) (jm O (kc (S.hidx (i:=i) ZH .none O (zt O) (zt O) o u) ?_)));refine kc (zJ (us:=v.2.cs) T7 O (aa.UE (k:=.p) (i:=i) (f:=0) (SA.Iz g) (Z7 (f:=pC) h) O ⟨.same _,.same _,.same _,.same _,.sl (b.fs h),.same _,.same _,.same _,.same _,.same _,.same _,.same _,.same _,Zo⟩ O)) (kc (zK (PC (p:=v.2)) call25 O) (kc (S.not .none O (zt O)) (kD (OK.cond O O (fun c63=>?_) (fun c63=>?_)))))
  ·have d:=y.trans (J8 h (by simpa using c63));refine kr (RK.cF (zL Z_ O O O O) b.fz O O (rr 4 O (kT O O Z_ O O O ?_)));rw[d];try rfl
  have d:=y.trans (J9 h (by simpa using c63));refine ro 5 O (kc (S.fc ZA .none O (zt O) O O (SA.YW g) O) (jm O (kc (S.hidx (i:=i) ZH .none O (zt O) (zt O) o u) (kc (zr Zl O) ?_))));refine kc (S.ZP (rows':=(A.parts.map pC).set i (({v.2 with place:=2}:Part).cells (.raw (v.1.w (R v.2.frames))))) (.p) Z8 .none (zt O) (.af O) O (SA.Iz g) (Z7 (f:=pC) h) O O O O C O) ?_;refine rr 3 O ?_;rw[SA.YM g h (p:={v.2 with place:=2}) rfl];refine OK.bN (RK.cF (zL Z_ O O O O) (SA.YR (SA.Ok.eC b (i:=i) (v:=(v.1,(fun p:Part=>({p with place:=2}:Part)) v.2)) (b.fh v (mr h))) O (SA.Y7 _ _).symm (SA.YB h v.1 fun p=>{p with place:=2})) O O ?_);refine rr 4 O (kT O O Z_ O O O ?_);rw[d];try rfl
 have e4:ZT n A.st L=_:=e3.trans (Zm c51);refine ro 6 O (kB O (fun c71=>?_) (fun c71=>?_))
 ·have e5:ZT n A.st L=_:=e4.trans (Zn c71);refine ro 7 O (kB O (fun c74=>?_) (fun c74=>?_))
  ·have d:=e5.trans (VF (X1 c74));refine kr (RK.cF (zL Z_ O O O O) b.fz O O (rr 5 O (kT O O Z_ O O O ?_)));rw[d];try rfl
  obtain⟨i,z⟩:=X2 c74;have o:=ZC z;obtain⟨v,h,u,hvn⟩:=NH z;obtain⟨pq,g⟩:=ZB b.ph h;have y:=e5.trans (VG z);refine ro 6 O (kc (S.fc ZA .none O (zt O) O O (SA.YW g) O) (jm O (kc (S.hidx (i:=i) ZH .none O (zt O) (zt O) o u) (kc (zr Zl O) ?_))));refine kc (zH Z8 O (aa.V2 (k:=.p) (i:=i) (f:=5) (SA.Iz g) (Z7 (f:=pC) h) O O (.same _))) ?_;refine rr 3 O (kB O (fun c83=>?_) (fun c83=>?_))
  ·have d:=y.trans (bad_F h c83);refine kr (RK.cF (zL Z_ O O O O) b.fz O O (rr 4 O (kT O O Z_ O O O ?_)));rw[d];try rfl
  have d:=y.trans (bad_T h c83);refine ro 5 O (kc (S.fc ZA .none O (zt O) O O (SA.YW g) O) (jm O (kc (S.hidx (i:=i) ZH .none O (zt O) (zt O) o u) (kc (zr Zl O) ?_))));refine kc (S.ZP (rows':=(A.parts.map pC).set i (({v.2 with place:=3}:Part).cells (.raw (v.1.w (R v.2.frames))))) (.p) Z8 .none (zt O) (.af O) O (SA.Iz g) (Z7 (f:=pC) h) O O O O C O) ?_;refine rr 3 O ?_;rw[SA.YM g h (p:={v.2 with place:=3}) rfl];refine OK.bN (RK.cF (zL Z_ O O O O) (SA.YR (SA.Ok.eC b (i:=i) (v:=(v.1,(fun p:Part=>({p with place:=3}:Part)) v.2)) (b.fh v (mr h))) O (SA.Y7 _ _).symm (SA.YB h v.1 fun p=>{p with place:=3})) O O ?_);refine rr 4 O (kT O O Z_ O O O ?_);rw[d];try rfl
 have e5:ZT n A.st L=_:=e4.trans (Zm c71);refine ro 6 O (kB O (fun c91=>?_) (fun c91=>?_))
 ·have e6:ZT n A.st L=_:=e5.trans (Zn c91);refine ro 5 O (kc (zK oW call77 O) (kc (S.not .none O (zt O)) (kD (OK.cond O O (fun c96=>?_) (fun c96=>?_)))))
  ·have d:=e6.trans (Zn (by simpa using c96));refine kr (RK.cF (zL Z_ O O O O) b.fz O O (rr 4 O (kT O O Z_ O O O ?_)));rw[d];try rfl
  have f1:=e6.trans (Zm (by simpa using c96));refine ro 8 O ?_;refine kc (S.YT (Xu (s:=A.st) (n:=L.coil)) O call78 .none O (zc O (zc O .nil)) (⟨b.fz,Fz.same _ O,Zo⟩) O) ?_;refine rr 3 O (kB O (fun c102=>?_) (fun c102=>?_))
  ·have d:=f1.trans (Zn (isS c102));refine kr (RK.cF (zL Z_ O O O O) b.fz O O (rr 4 O (kT O O Z_ O O O ?_)));rw[d];try rfl
  have f2:=f1.trans (Zm (isN c102));refine ro 7 O (kc (zK gx call28 O) (kc (S.jP .none O (zt O)) (kD (kB O (fun c107=>?_) (fun c107=>?_)))))
  ·have d:=f2.trans (Zn (by simpa using c107));refine kr (RK.cF (zL Z_ O O O O) b.fz O O (rr 4 O (kT O O Z_ O O O ?_)));rw[d];try rfl
  have f3:=f2.trans (Zm (by simpa using c107));refine ro 7 O ?_;refine kc (S.hlen Wn (by show R A.aC<=maxLen;have:R A.aC<=4:=hlc;unfold maxLen;omega) .none O (zt O)) ?_;refine rr 3 O (kB O (fun c112=>?_) (fun c112=>?_))
  ·have d:=f3.trans (Zn (by show¬(R A.aC:Int)<4;omega));refine kr (RK.cF (zL Z_ O O O O) b.fz O O (rr 4 O (kT O O Z_ O O O ?_)));rw[d];try rfl
  have d:=f3.trans (Zm (by show¬¬(R A.aC:Int)<4;have:R A.aC<=4:=hlc;omega));refine ro 10 O (kc (zU bu80 O O) ?_);refine RK.c (zM [[_,_,_]] LU O O O O) ?_;refine RK.xs (S.happR (m:=1) (rows2:=[(⟨L.coil,L.num,0⟩:o6).cs]) .c LU O (zt O) b.cs (zt O) O O O C (by rw[Zx];have:R A.aC<=4:=hlc;omega) (by rw[Zx];have:R A.aC<=4:=hlc;unfold maxLen;omega)) (fun q=>?_);refine rr 5 O ?_;rw[SA.NX q (⟨L.coil,L.num,0⟩:o6)];refine OK.bN (RK.cF (zL Z_ O O O O) (SA.YR (A:={A with ch:=some q,aC:=A.aC++[(⟨L.coil,L.num,0⟩:o6)]}) ⟨b.rh,fun e=>(by cases e),b.ph,b.mh,b.fh⟩ O (SA.Fl q _) O) O O ?_);refine rr 4 O (kT O O Z_ O O O ?_);rw[d];try rfl
 have e6:ZT n A.st L=_:=e5.trans (Zm c91);refine ro 6 O (kB O (fun c125=>?_) (fun c125=>?_))
 ·have e7:ZT n A.st L=_:=e6.trans (Zn c125);refine ro 5 O ?_;refine kc (S.YT (Xu (s:=A.st) (n:=L.coil)) O call78 .none O (zc O (zc O .nil)) (⟨b.fz,Fz.same _ O,Zo⟩) O) ?_;refine rr 10 O (kB O (fun c132=>?_) (fun c132=>?_))
  ·have d:=e7.trans (OA (X1 c132));refine kr (RK.cF (zL Z_ O O O O) b.fz O O (rr 5 O (kT O O Z_ O O O ?_)));rw[d];try rfl
  obtain⟨j,hj⟩:=X2 c132;have hcj:=ZC hj;have hjl:j<R A.aC:=(eE hj).1;obtain⟨cc,J⟩:∃c,A.aC[j]?=some c:=⟨_,Zv hjl⟩;obtain⟨ch,F⟩:=ZB b.ch J;refine ro 6 O (kc (S.YT (YA (s:=A.st)) O call169 .none O (zc O .nil) (⟨b.fz,Zo⟩) O) (rr 4 O ?_));by_cases a:bq (fun p:Part=>decide (p.place=0)) 0 A.st.parts>=0
  ·obtain⟨i,z⟩:=X2 (show¬bq (fun p:Part=>decide (p.place=0)) 0 A.st.parts<0 by omega);have o:=ZC z;obtain⟨v,h,u,_⟩:=Tw z;obtain⟨pq,g⟩:=ZB b.ph h;refine kV (.c (zm O) (.c (S.geq .none O (zt O) (.af O)) (.c (zm O) (.c (S.dH ZZ (.yes O O O (by first|rfl|exact Zz a|exact Zy a|(rw[Zz a];rfl)|(rw[Zy a];rfl)|simp[*])) O (zt O)) (.c (S.fc ZA (.yes O O O (by first|rfl|exact Zz a|exact Zy a|(rw[Zz a];rfl)|(rw[Zy a];rfl)|simp[*])) O (zt O) O O (SA.YW g) O) (.c (S.move (.yes O O O (by first|rfl|exact Zz a|exact Zy a|(rw[Zz a];rfl)|(rw[Zy a];rfl)|simp[*])) O (zt O)) (.c (S.hidx (i:=i) ZH (.yes O O O (by first|rfl|exact Zz a|exact Zy a|(rw[Zz a];rfl)|(rw[Zy a];rfl)|simp[*])) O (zt O) (zt O) o u) (.c (S.jC SH (.yes O O O (by first|rfl|exact Zz a|exact Zy a|(rw[Zz a];rfl)|(rw[Zy a];rfl)|simp[*])) O (zt O)) (.c (S.aG Y9 (.yes O O O (by first|rfl|exact Zz a|exact Zy a|(rw[Zz a];rfl)|(rw[Zy a];rfl)|simp[*])) O (zt O) O (aa.V2 (k:=.p) (i:=i) (f:=3) (SA.Iz g) (Z7 (f:=pC) h) O O (.same _))) (.c (S.dH T6 (.yes O O O (by first|rfl|exact Zz a|exact Zy a|(rw[Zz a];rfl)|(rw[Zy a];rfl)|simp[*])) O (zt O)) (.c (S.fc Y9 (.yes O O O (by first|rfl|exact Zz a|exact Zy a|(rw[Zz a];rfl)|(rw[Zy a];rfl)|simp[*])) O (zt O) O O O O) (.c (S.eN (.yes O O O (by first|rfl|exact Zz a|exact Zy a|(rw[Zz a];rfl)|(rw[Zy a];rfl)|simp[*])) O (zt O) (zt O)) (.c (S.aQ .none O (zt O) (zt O) (by first|rfl|exact Zz a|exact Zy a|(rw[Zz a];rfl)|(rw[Zy a];rfl)|simp[*])) .nil))))))))))))) ?_;refine Ab.D.code (kB O (fun c149=>?_) (fun c149=>?_))
   ·have d:=e7.trans (Oz hj (JF z (by rw[SA.Zb h];exact c149)));refine kr (RK.cF (zL Z_ O O O O) b.fz O O (rr 4 O (kT O O Z_ O O O ?_)));rw[d];try rfl
   have hB:=JD z (c:=L.coil) (by rw[SA.Zb h];exact c149);refine ro 3 O ?_;have d:=e7.trans (Su hj hB);refine ro 2 O (kc (S.fc T8 .none O (zt O) O O (SA.Pz F) O) (jm O (kc (S.hidx (i:=j) Wn .none O (zt O) (zt O) hcj hjl) (kc (zr WZ O) ?_))));refine kc (S.ZP (rows':=(A.aC.map o6.cs).set j ({cc with shots:=0}:o6).cs) (.c) Z8 .none (zt O) (.af O) O (SA.Jh F) (Z7 J) O O O O C O) ?_;refine rr 3 O ?_;rw[SA.Vt F];refine OK.bN (RK.cF (zL Z_ O O O O) (SA.YR (b.Ee j {cc with shots:=0}) O (SA.QG _ _).symm (SA.TO J fun c=>{c with shots:=0})) O O ?_);refine rr 4 O (kT O O Z_ O O O ?_);rw[d];try rfl
  have hB:=JE (X1 (show bq (fun p:Part=>decide (p.place=0)) 0 A.st.parts<0 by omega)) L.coil;refine kV (.c (zm O) (.c (S.geq .none O (zt O) (.af O)) (.c (zm O) (.c (zG O (by first|rfl|exact Zz a|exact Zy a|(rw[Zz a];rfl)|(rw[Zy a];rfl)|simp[*])) (.c (zG O (by first|rfl|exact Zz a|exact Zy a|(rw[Zz a];rfl)|(rw[Zy a];rfl)|simp[*])) (.c (zG O (by first|rfl|exact Zz a|exact Zy a|(rw[Zz a];rfl)|(rw[Zy a];rfl)|simp[*])) (.c (zG O (by first|rfl|exact Zz a|exact Zy a|(rw[Zz a];rfl)|(rw[Zy a];rfl)|simp[*])) (.c (zG O (by first|rfl|exact Zz a|exact Zy a|(rw[Zz a];rfl)|(rw[Zy a];rfl)|simp[*])) (.c (zG O (by first|rfl|exact Zz a|exact Zy a|(rw[Zz a];rfl)|(rw[Zy a];rfl)|simp[*])) (.c (zG O (by first|rfl|exact Zz a|exact Zy a|(rw[Zz a];rfl)|(rw[Zy a];rfl)|simp[*])) (.c (zG O (by first|rfl|exact Zz a|exact Zy a|(rw[Zz a];rfl)|(rw[Zy a];rfl)|simp[*])) (.c (zG O (by first|rfl|exact Zz a|exact Zy a|(rw[Zz a];rfl)|(rw[Zy a];rfl)|simp[*])) (.c (S.aO .none O (zt O) .aJ (by first|rfl|exact Zz a|exact Zy a|(rw[Zz a];rfl)|(rw[Zy a];rfl)|simp[*])) .nil))))))))))))) ?_;refine rd 5 O ?_;have d:=e7.trans (Su hj hB);refine ro 2 O (kc (S.fc T8 .none O (zt O) O O (SA.Pz F) O) (jm O (kc (S.hidx (i:=j) Wn .none O (zt O) (zt O) hcj hjl) (kc (zr WZ O) ?_))));refine kc (S.ZP (rows':=(A.aC.map o6.cs).set j ({cc with shots:=0}:o6).cs) (.c) Z8 .none (zt O) (.af O) O (SA.Jh F) (Z7 J) O O O O C O) ?_;refine rr 3 O ?_;rw[SA.Vt F];refine OK.bN (RK.cF (zL Z_ O O O O) (SA.YR (b.Ee j {cc with shots:=0}) O (SA.QG _ _).symm (SA.TO J fun c=>{c with shots:=0})) O O ?_);refine rr 4 O (kT O O Z_ O O O ?_);rw[d];try rfl
 have e7:ZT n A.st L=_:=e6.trans (Zm c125);refine ro 6 O (kB O (fun c157=>?_) (fun c157=>?_))
 ·have e8:ZT n A.st L=_:=e7.trans (Zn c157);refine ro 7 O (kB O (fun c160=>?_) (fun c160=>?_))
  ·have d:=e8.trans (VF (X1 c160));refine kr (RK.cF (zL Z_ O O O O) b.fz O O (rr 5 O (kT O O Z_ O O O ?_)));rw[d];try rfl
  obtain⟨i,z⟩:=X2 c160;have o:=ZC z;obtain⟨v,h,u,hvn⟩:=NH z;obtain⟨pq,g⟩:=ZB b.ph h;have y:=e8.trans (VG z);refine ro 6 O (kc (S.fc ZA .none O (zt O) O O (SA.YW g) O) (jm O (kc (S.hidx (i:=i) ZH .none O (zt O) (zt O) o u) ?_)));refine kc (zJ (us:=v.2.cs) T7 O (aa.UE (k:=.p) (i:=i) (f:=0) (SA.Iz g) (Z7 (f:=pC) h) O ⟨.same _,.same _,.same _,.same _,.sl (b.fs h),.same _,.same _,.same _,.same _,.same _,.same _,.same _,.same _,Zo⟩ O)) (kc (zK (Xi (p:=v.2)) call74 O) (kc (S.not .none O (zt O)) (jm O (RK.split (t:=170) O (fun K=>?_) (fun K=>?_)))))
  ·have d:=y.trans (NR h (by rw[show gE v.2=false by simpa using K];rfl));refine rr 12 O (RK.cF (zL Z_ O O O O) b.fz O O (rr 4 O (kT O O Z_ O O O ?_)));rw[d];try rfl
  refine kc (S.dH ZZ (zg O O) O (zt O)) (kc (S.fc ZA (zg O O) O (zt O) O O (SA.YW g) O) (kc (S.move (zg O O) O (zt O)) (kc (S.hidx (i:=i) ZH (zg O O) O (zt O) (zt O) o u) (kc (S.jC SI (zg O O) O (zt O)) (kc (S.aG SP (zg O O) O (zt O) O (aa.V2 (k:=.p) (i:=i) (f:=8) (SA.Iz g) (Z7 (f:=pC) h) O O (.same _))) ?_)))));refine rr 3 O (OK.cond O O (fun c177=>?_) (fun c177=>?_))
  ·have d:=y.trans (NR h (by rw[show v.2.marked=true from c177,Bool.not_true,bυ]));refine kr (RK.cF (zL Z_ O O O O) b.fz O O (rr 4 O (kT O O Z_ O O O ?_)));rw[d];try rfl
  have d:=y.trans (Kj h (by rw[show v.2.marked=false from c177,show gE v.2=true by simpa using K];rfl));refine ro 5 O (kc (S.fc ZA .none O (zt O) O O (SA.YW g) O) (jm O (kc (S.hidx (i:=i) ZH .none O (zt O) (zt O) o u) (kc (zr SI O) ?_))));refine kc (S.ZP (rows':=(A.parts.map pC).set i (({v.2 with marked:=true}:Part).cells (.raw (v.1.w (R v.2.frames))))) (.p) SP .none (zt O) .aJ O (SA.Iz g) (Z7 (f:=pC) h) O O O O C O) ?_;refine rr 3 O ?_;rw[SA.YM g h (p:={v.2 with marked:=true}) rfl];refine OK.bN (RK.cF (zL Z_ O O O O) (SA.YR (SA.Ok.eC b (i:=i) (v:=(v.1,(fun p:Part=>({p with marked:=true}:Part)) v.2)) (b.fh v (mr h))) O (SA.Y7 _ _).symm (SA.YB h v.1 fun p=>{p with marked:=true})) O O ?_);refine rr 4 O (kT O O Z_ O O O ?_);rw[d];try rfl
 have e8:ZT n A.st L=_:=e7.trans (Zm c157);refine ro 6 O (kB O (fun Z=>?_) (fun Z=>?_))
 ·have e9:ZT n A.st L=_:=e8.trans (Zn Z);have d:=e9;refine ro 6 O ?_;refine RK.c (S.ik (((V5 hn b B hl).jR (aa.az _))) PT call170 .none O (zc O (zc O (zc O (zc O .nil)))) O O) ?_;refine rr 6 O (kT O O Z_ O O O ?_);rw[d];try rfl
 have e9:ZT n A.st L=_:=e8.trans (Zm Z);refine ro 6 O (kB O (fun Y=>?_) (fun Y=>?_))
 ·have P:ZT n A.st L=_:=e9.trans (Zn Y);refine ro 5 O (kc (zK oW call77 O) (kc (S.not .none O (zt O)) (kD (OK.cond O O (fun X=>?_) (fun X=>?_)))))
  ·have d:=P.trans (Zn (by simpa using X));refine kr (RK.cF (zL Z_ O O O O) b.fz O O (rr 4 O (kT O O Z_ O O O ?_)));rw[d];try rfl
  have f1:=P.trans (Zm (by simpa using X));refine ro 6 O (kc (zK (WE (s:=L.rest) I) call171 O) ?_);refine rr 14 O (kB O (fun W=>?_) (fun W=>?_))
  ·have d:=f1.trans (Zn W);refine kr (RK.cF (zL Z_ O O O O) b.fz O O (rr 5 O (kT O O Z_ O O O ?_)));rw[d];try rfl
  have f2:=f1.trans (Zm W);refine ro 7 O ?_;refine kc (S.hlen VB (by show R A.yB<=maxLen;have:R A.yB<=100:=hlr;unfold maxLen;omega) .none O (zt O)) ?_;refine rr 3 O (kB O (fun c214=>?_) (fun c214=>?_))
  ·have d:=f2.trans (Zn (by show R A.yB=6;omega));refine kr (RK.cF (zL Z_ O O O O) b.fz O O (rr 4 O (kT O O Z_ O O O ?_)));rw[d];try rfl
  have d:=f2.trans (Zm (by show¬R A.yB=6;omega));have hcl:=Nf (fun r:Rec=>decide (r.name=L.oF)) A.yB;have hcn:0<=X9 (fun r:Rec=>decide (r.name=L.oF)) A.yB:=Int.natCast_nonneg _;have hlr2:R A.yB<=100:=hlr;have hcv:X9 (fun r:Rec=>decide (r.name=L.oF)) A.st.yB=X9 (fun r:Rec=>decide (r.name=L.oF)) A.yB:=rfl;refine ro 3 O ?_;refine OK.Ye follows (ι:=(Nat×Nat)) (0,0) 13 O (S.happR (s:=[(217,.raw (A.rh.w (R A.yB))),(228,.own 228 1),(2228,.arr 3 [(⟨L.oF,A.st.iN L.oF+1,(iM L.rest).1⟩:Rec).cs]),(3000,.res (aa A.mem))]) (m:=1) (rows2:=[(⟨L.oF,A.st.iN L.oF+1,(iM L.rest).1⟩:Rec).cs]) .r LS O (zt O) b.rs (zt O) O O O C (by rw[Zx];have:R A.yB<=100:=hlr;omega) (by rw[Zx];have:R A.yB<=100:=hlr;unfold maxLen;omega)).st (fun q=>(.cs (zf YS O) (.cs (zl VL O O O O) (.cs (zf Wl O) (.cs (zl Y9 O O O O) (.cs (zL Z_ O O O O) (.cs (zf Wl O) (.cs (zl Y9 O O O O) (.cs (S.YT (XF (s:=A.st) (n:=L.oF)) O call79 .none O (zc O (zc O .nil)) (⟨b.fz,Fz.same _ O,Zo⟩) O) (.cs (zp O O I) (.cs (zU vp O O) (.cs (zm O) (.cs (zU K1 O O) (.cs (zM [[_,_,_]] LS O O O O)
   (.x ⟨O,O,O,O,Zo⟩ (.cn (zf YS O) (.cn (zS VL O O O O O O) .nil))))))))))))))))) (fun q=>?_)
  refine Ab.D.code (kO ?_);rw[SA.N1 q (⟨L.oF,A.st.iN L.oF+1,(iM L.rest).1⟩:Rec)];refine OK.bN (RK.cF (zL Z_ O O O O) (SA.YR (A:={A with rh:=some q,yB:=A.yB++[(⟨L.oF,A.st.iN L.oF+1,(iM L.rest).1⟩:Rec)]}) ⟨fun e=>(by cases e),b.ch,b.ph,b.mh,b.fh⟩ O (SA.Mk q _) O) O O ?_);refine rr 4 O (kT O O Z_ O O O ?_);rw[d];try rfl
 have P:ZT n A.st L=_:=e9.trans (Zm Y);refine ro 6 O (kB O (fun V=>?_) (fun V=>?_))
 ·have M:ZT n A.st L=_:=P.trans (Zn V);refine ro 7 O (kB O (fun U=>?_) (fun U=>?_))
  ·have d:=M.trans (VF (X1 U));refine kr (RK.cF (zL Z_ O O O O) b.fz O O (rr 5 O (kT O O Z_ O O O ?_)));rw[d];try rfl
  obtain⟨i,z⟩:=X2 U;have o:=ZC z;obtain⟨v,h,u,hvn⟩:=NH z;obtain⟨pq,g⟩:=ZB b.ph h;have y:=M.trans (VG z);refine ro 6 O (kc (S.fc ZA .none O (zt O) O O (SA.YW g) O) (jm O (kc (S.hidx (i:=i) ZH .none O (zt O) (zt O) o u) (kc (zr Zl O) ?_))));refine kc (zH Z8 O (aa.V2 (k:=.p) (i:=i) (f:=5) (SA.Iz g) (Z7 (f:=pC) h) O O (.same _))) ?_;refine rr 3 O (kB O (fun E=>?_) (fun E=>?_))
  ·have d:=y.trans (NU h E);refine kr (RK.cF (zL Z_ O O O O) b.fz O O (rr 4 O (kT O O Z_ O O O ?_)));rw[d];try rfl
  have hwp:mw (bP n.aS).1 v.2=(ZO (bP n.aS).1 v.2.frames).rows.all fun x=>x.known:=by unfold mw;rw[(B.nB h).2]
  refine ro 4 O ?_;refine kV (.c (zL XB O O O O) (.c (zf ZZ O) (.c (S.fc ZA .none O (zt O) O O (SA.YW g) O) (.c (zm O) (.c (S.hidx (i:=i) ZH .none O (zt O) (zt O) o u) (.c (zJ (us:=v.2.cs) T7 O (aa.UE (k:=.p) (i:=i) (f:=0) (SA.Iz g) (Z7 (f:=pC) h) O ⟨.same _,.same _,.same _,.same _,.sl (b.fs h),.same _,.same _,.same _,.same _,.same _,.same _,.same _,.same _,Zo⟩ O)) (.c (zK (Yl H B.pl (B.vals h)) call173 O) (.c (zK (Wg (r:=ZO (bP n.aS).1 v.2.frames)) call172 O) (.c (S.not .none O (zt O)) .nil))))))))) (Ab.D.code (OK.cond O O (fun T=>?_) (fun T=>?_)))
  ·have d:=y.trans (NT h E (by rw[hwp];simpa using T));refine kr (RK.cF (zL Z_ O O O O) b.fz O O (rr 4 O (kT O O Z_ O O O ?_)));rw[d];try rfl
  have hmm:=y.trans (Mi h hvn E (by rw[hwp];simpa using T));refine ro 9 O ?_;refine kc (S.YT (Ow (l:=A.aI) (n:=L.num)) O call174 .none O (zc O (zc O .nil)) (⟨b.fzM,Fz.same _ O,Zo⟩) O) (kD (OK.cond O O (fun Q=>?_) (fun Q=>?_)))
  ·have d:=hmm.trans (Zn (by rw[←RT];exact Q));refine kr (RK.cF (zL Z_ O O O O) b.fz O O (rr 4 O (kT O O Z_ O O O ?_)));rw[d];try rfl
  have d:=hmm.trans (Zm (by rw[←RT];exact Bool.not_eq_true _▸Q));refine ro 8 O ?_;refine RK.c (zM [[_]] ZM O O O O) ?_;refine RK.xs (S.happR (m:=1) (rows2:=[V1 L.num]) .m ZM O (zt O) b.ms (zt O) O O O C (by rw[Zx];have:R A.aI<=100:=hlm;omega) (by rw[Zx];have:R A.aI<=100:=hlm;unfold maxLen;omega)) (fun q=>?_);refine rr 5 O ?_;rw[SA.NY q L.num];refine OK.bN (RK.cF (zL Z_ O O O O) (SA.YR (A:={A with mh:=some q,aI:=A.aI++[L.num]}) ⟨b.rh,b.ch,b.ph,fun e=>(by cases e),b.fh⟩ O (SA.Fc q _) O) O O ?_);refine rr 4 O (kT O O Z_ O O O ?_);rw[d];try rfl
 have M:ZT n A.st L=_:=P.trans (Zm V);refine ro 4 O ?_;have hlm2:R A.aI<=100:=hlm;have hrl:R (A.st.nB (bP n.aS).1)=R A.aI:=Zx ..;refine OK.bN (RK.c (S.iI (k:=15) (sz:=1) .none O) (rr 9 O ?_));refine OK.loop (G:=Nat) [3,5,6,8,15] (fun k=>[(3,.ptr 3 0),(1003,.box n.cs),(5,.ptr 5 0),(1005,.box L.cs),(6,.ptr 6 0),(1006,.box [.bO,.bO,.bO,.bO,bv 0,bv 0,.bO]),(8,.ptr 8 0),(1008,.box A.cs),(15,.own 15 k),(2015,.arr 1 (((A.st.nB (bP n.aS).1).take k).map aX.cs)),(16,bv k),(3000,.res (aa A.mem))]) (fun k=>k<=R A.aI) (fun k=>R A.aI - k) 0 (Zr _) ⟨O,O,O,O,O,O,O,O,(cw N),(bH N),O,O,Zo⟩ (fun _=>O) ?_;rintro k hk;refine ro 6 O ?_;refine kc (S.hlen Z4 (by have:R A.aI<=100:=hlm;unfold maxLen;omega) .none O (zt O)) ?_;refine rr 3 O (kB O (fun c274=>?_) (fun c274=>?_))
 ·have hkm:k<R A.aI:=I
  have hkr:k<R (A.st.nB (bP n.aS).1):=I
  have hmk:A.aI[k]?=some A.aI[k]:=Zv hkm;obtain⟨i,z,hwi⟩:=hmd _ (Zt (l:=A.st.aI) hkm);obtain⟨mq,hmh⟩:=ZB b.mh hmk;have o:=ZC z;obtain⟨v,h,u,_⟩:=NH z;obtain⟨pq,g⟩:=ZB b.ph h;have hrk:(A.st.nB (bP n.aS).1)[k]=ZO (bP n.aS).1 v.2.frames:=Mw hkm z h hkr;refine ro 4 O ?_;refine kV (.c (zm O) (.c (zL XB O O O O) (.c (zf ZZ O) (.c (S.fc ZA .none O (zt O) O O (SA.YW g) O) (.c (zL Z_ O O O O) (.c (zf Tk O) (.c (S.fc Zd .none O (zt O) O O (SA.rawM hmh) O) (.c (zm O) (.c (S.hidx (i:=k) Z4 .none O (zt O) (zt O) O hkm) (.c (zH Z8 O (aa.V2 (k:=.m) (i:=k) (f:=0) (SA.atM hmh) (Z7 (f:=V1) hmk) O O (.same _))) (.c (S.YT (Vf (s:=A.st) (n:=A.aI[k])) O call24 .none O (zc O (zc O .nil)) (⟨b.fz,Fz.same _ O,Zo⟩) O) (.c (S.hidx (i:=i) ZH .none O (zt O) (zt O) o u) (.c (zJ (us:=v.2.cs) T7 O (aa.UE (k:=.p) (i:=i) (f:=0) (SA.Iz g) (Z7 (f:=pC) h) O ⟨.same _,.same _,.same _,.same _,.sl (b.fs h),.same _,.same _,.same _,.same _,.same _,.same _,.same _,.same _,Zo⟩ O)) (.c (zK (Yl H B.pl (B.vals h)) call173 O) (.c (zM [[_]] L6 O O O O) (.c (zP L6 O O (by rw[Zx,List.length_take_of_le (by rw[hrl];exact hk)]) N I (by simp only[maxLen];omega)) (.c (za O) .nil))))))))))))))))) ?_;refine Rd 7 O I ?_;refine Ab.D.lp ⟨k+1,I,I,O,O,O,O,O,O,O,O,(cw N),(bH (by rw[←tF hkr,ne,hrk];rfl)),O,O,Zo⟩
 obtain rfl:k=R A.aI:=I
 have hkl:R (A.st.nB (bP n.aS).1)<=R A.aI:=Nat.le_of_eq hrl;refine ro 4 O ?_;refine OK.freeze 15 O O O (by simp[hrl]) ?_;rw[sg hkl];refine OK.bN (jm O (kc (zk Yh O) (rr 3 O (kB O (fun c295=>?_) (fun c295=>?_)))))
 ·have d:=M.trans (Zn I);refine kr (RK.cF (zL Z_ O O O O) b.fz O O (rr 4 O (kT O O Z_ O O O ?_)));rw[d];try rfl
 have f1:=M.trans (Zm I);refine ro 7 O ?_;refine kc (S.mul .none O (.af O) (zt O) (mn _ I) (mn _ I)) (jm O (kc (zk Yh O) ?_));refine rr 3 O (kB O (fun c302=>?_) (fun c302=>?_))
 ·have d:=f1.trans (Zn I);refine kr (RK.cF (zL Z_ O O O O) b.fz O O (rr 4 O (kT O O Z_ O O O ?_)));rw[d];try rfl
 have d:=f1.trans (Zm I);have hW:=Rx B hmd;refine ro 3 O (kV (.c (zL XB O O O O) (.c (zK (Xv H) call176 O) (.c (zm O) (.c (zf OW O) (.c (zl Z8 O O O O) (.c (zK (TL (p:=(bP n.aS).1) (l:=A.st.nB (bP n.aS).1) (trim:=L.num) B.pl ⟨I,I⟩ hW ⟨hln.1,I⟩) call175 O) (.c (zf PY O) (.c (zS V7 O O O O O O) .nil)))))))) ?_);refine rd 3 O (RK.cF (zL Z_ O O O O) (SA.YR (A:={A with env:=G6 (bP n.aS).1 (A.st.nB (bP n.aS).1) L.num}) ⟨b.rh,b.ch,b.ph,b.mh,b.fh⟩ O O O) O O (rr 4 O (kT O O Z_ O O O ?_)));rw[d];try rfl
