import Derived.Test.YtlmhpcghgjdjjaaGreatDoorMf
set_option linter.all false
set_option maxHeartbeats 4000000
open List renaming length->R
namespace Go.Proofs.Z9
open Go.Ab Tryz
set_option maxRecDepth 9999
def X9{α:Type}(g:α->Bool)(l:List α):Int:=(R (l.filter g):Int)
def RN{α:Type}(g:α->Bool){l:List α}{i:Nat}(h:i<R l):X9 g (l.take (i+1))=if g l[i]=true then X9 g (l.take i)+1 else X9 g (l.take i):=by
 grind [X9,List.take_succ_eq_append_getElem]
def Nf{α:Type}(g:α->Bool)(l:List α):X9 g l<=R l:=by
 simp[X9,cσ]
def T5{α:Type}(g:α->Bool){l:List α}{i:Nat}(h:i<R l):(l.drop i).all g=(g l[i]&&(l.drop (i+1)).all g):=by
 rw[np h,so]
def Vf{s:State}{n:Int}:Ct prog 25 [.agg s.cs,bv n] (bv (bq (fun p:Part=>decide (p.num=n)) 0 s.parts)):=by
 refine cI func25 O (OK.Xq 0 2 (s.parts.map Part.cs) O O O fun hlen=>?_);rw[Zx]at hlen;unfold maxLen at hlen;refine ro 13 O ?_;refine OK.loop (G:=Nat) [2] (fun i=>[(2,.ptr 2 0),(1002,.box s.cs),(5,bv i),(1,bv n)]) (fun i=>i<=R s.parts/\bq (fun p:Part=>decide (p.num=n)) 0 s.parts=bq (fun p:Part=>decide (p.num=n)) i (s.parts.drop i)) (fun i=>R s.parts - i) 0 ⟨Zr _,O⟩ ⟨O,O,O,O,Zo⟩ (fun _=>O) ?_;rintro i ⟨hi,a⟩;refine ro 6 O (kc (zk ZH O) (rr 3 O (kB O (fun c=>?_) (fun c=>?_))))
 ·have d:i<R s.parts:=by omega
  refine ro 9 O (kc (zI ZH O I O) ?_);refine rr 6 O (kB O (fun b=>?_) (fun b=>?_))
  ·refine ro 6 O (kR O O ?_);refine cy ?_;rw[a,bT _ I];simp_all
  refine Ro 8 O I (Ab.D.lp ⟨i+1,⟨by omega,?_⟩,I,O,O,O,O,Zo⟩);rw[a,bT _ I];simp_all
 refine ro 7 O (kR O O ?_);refine cy ?_;have:i=R s.parts:=by omega
 subst this;rw[a,no];rfl
def Xu{s:State}{n:ba}:Ct prog 172 [.agg s.cs,.str n] (bv (bq (fun p:o6=>decide (p.name=n)) 0 s.aC)):=by
 refine cI func172 O (OK.Xq 0 1 (s.aC.map o6.cs) O O O fun hlen=>?_);rw[Zx]at hlen;unfold maxLen at hlen;refine ro 13 O ?_;refine OK.loop (G:=Nat) [2] (fun i=>[(2,.ptr 2 0),(1002,.box s.cs),(5,bv i),(1,.str n)]) (fun i=>i<=R s.aC/\bq (fun p:o6=>decide (p.name=n)) 0 s.aC=bq (fun p:o6=>decide (p.name=n)) i (s.aC.drop i)) (fun i=>R s.aC - i) 0 ⟨Zr _,O⟩ ⟨O,O,O,O,Zo⟩ (fun _=>O) ?_;rintro i ⟨hi,a⟩;refine ro 6 O (kc (zk Wn O) (rr 3 O (kB O (fun c=>?_) (fun c=>?_))))
 ·have d:i<R s.aC:=by omega
  refine ro 9 O (kc (zI Wn O I O) ?_);refine rr 6 O (kB O (fun b=>?_) (fun b=>?_))
  ·refine ro 6 O (kR O O ?_);refine cy ?_;rw[a,bT _ I];simp_all
  refine Ro 8 O I (Ab.D.lp ⟨i+1,⟨by omega,?_⟩,I,O,O,O,O,Zo⟩);rw[a,bT _ I];simp_all
 refine ro 7 O (kR O O ?_);refine cy ?_;have:i=R s.aC:=by omega
 subst this;rw[a,no];rfl
def YA{s:State}:Ct prog 73 [.agg s.cs] (bv (bq (fun p:Part=>decide (p.place=0)) 0 s.parts)):=by
 refine cI func73 O (OK.Xq 0 2 (s.parts.map Part.cs) O O O fun hlen=>?_);rw[Zx]at hlen;unfold maxLen at hlen;refine ro 13 O ?_;refine OK.loop (G:=Nat) [1] (fun i=>[(1,.ptr 1 0),(1001,.box s.cs),(3,bv i)]) (fun i=>i<=R s.parts/\bq (fun p:Part=>decide (p.place=0)) 0 s.parts=bq (fun p:Part=>decide (p.place=0)) i (s.parts.drop i)) (fun i=>R s.parts - i) 0 ⟨Zr _,O⟩ ⟨O,O,O,Zo⟩ (fun _=>O) ?_;rintro i ⟨hi,a⟩;refine ro 6 O (kc (zk ZH O) (rr 3 O (kB O (fun d=>?_) (fun d=>?_))))
 ·have c:i<R s.parts:=by omega
  refine ro 9 O (kc (zI ZH O I O) ?_);refine rr 5 O (kB O (fun b=>?_) (fun b=>?_))
  ·refine ro 6 O (kR O O ?_);refine cy ?_;rw[a,bT _ I];simp_all
  refine Ro 8 O I (Ab.D.lp ⟨i+1,⟨by omega,?_⟩,I,O,O,O,Zo⟩);rw[a,bT _ I];simp_all
 refine ro 7 O (kR O O ?_);refine cy ?_;have:i=R s.parts:=by omega
 subst this;rw[a,no];rfl
def TI{s:Net}{n:ba}:Ct prog 115 [.agg s.cs,.str n] (bv (bq (fun p:bf=>decide (p.name=n)) 0 s.av)):=by
 refine cI func115 O (OK.Xq 0 0 (s.av.map bf.cs) O O O fun hlen=>?_);rw[Zx]at hlen;unfold maxLen at hlen;refine ro 13 O ?_;refine OK.loop (G:=Nat) [2] (fun i=>[(2,.ptr 2 0),(1002,.box s.cs),(5,bv i),(1,.str n)]) (fun i=>i<=R s.av/\bq (fun p:bf=>decide (p.name=n)) 0 s.av=bq (fun p:bf=>decide (p.name=n)) i (s.av.drop i)) (fun i=>R s.av - i) 0 ⟨Zr _,O⟩ ⟨O,O,O,O,Zo⟩ (fun _=>O) ?_;rintro i ⟨hi,a⟩;refine ro 6 O (kc (zk Ys O) (rr 3 O (kB O (fun c=>?_) (fun c=>?_))))
 ·have d:i<R s.av:=by omega
  refine ro 9 O (kc (zI Ys O I O) ?_);refine rr 6 O (kB O (fun b=>?_) (fun b=>?_))
  ·refine ro 6 O (kR O O ?_);refine cy ?_;rw[a,bT _ I];simp_all
  refine Ro 8 O I (Ab.D.lp ⟨i+1,⟨by omega,?_⟩,I,O,O,O,O,Zo⟩);rw[a,bT _ I];simp_all
 refine ro 7 O (kR O O ?_);refine cy ?_;have:i=R s.av:=by omega
 subst this;rw[a,no];rfl
def XF{s:State}{n:ba}:Ct prog 72 [.agg s.cs,.str n] (bv (X9 (fun r:Rec=>decide (r.name=n)) s.yB)):=by
 refine cI func72 O (OK.Xq 0 0 (s.yB.map Rec.cs) O O O fun hlen=>?_);rw[Zx]at hlen;unfold maxLen at hlen;refine ro 18 O ?_;refine OK.loop (G:=Nat) [2] (fun i=>[(2,.ptr 2 0),(1002,.box s.cs),(1,.str n),(5,bv (X9 (fun r:Rec=>decide (r.name=n)) (s.yB.take i))),(6,bv i)]) (fun i=>i<=R s.yB) (fun i=>R s.yB - i) 0 (Zr _) ⟨O,O,O,O,O,Zo⟩ (fun _=>O) ?_;rintro i hi;refine ro 6 O (kc (zk VB O) (rr 3 O (kB O (fun d=>?_) (fun d=>?_))))
 ·have a:i<R s.yB:=by omega
  have b:=Nf (fun r:Rec=>decide (r.name=n)) (s.yB.take i);rw[sc]at b;have e:0<=X9 (fun r:Rec=>decide (r.name=n)) (s.yB.take i):=Int.natCast_nonneg _;refine ro 9 O (kc (zI VB O I O) ?_);refine rr 7 O (kB O (fun c=>?_) (fun c=>?_))
  ·refine Ro 12 O I ?_;refine Ab.D.lp ⟨i+1,I,I,O,O,O,(yL (by rw[RN _ a];simp_all)),O,Zo⟩
  refine Ro 8 O I ?_;refine Ab.D.lp ⟨i+1,I,I,O,O,O,(yL (by rw[RN _ a];simp_all)),O,Zo⟩
 refine ro 8 O (kR O O ?_);refine cy ?_;rw[show i=R s.yB by omega,List.take_length]
def Wg{r:aX}:Ct prog 175 [.agg r.cs] (.bool (r.rows.all fun x=>x.known)):=by
 refine cI func175 O (OK.Xq 0 0 (r.rows.map Row.cs) O O O fun hlen=>?_);rw[Zx]at hlen;unfold maxLen at hlen;refine ro 13 O ?_;refine OK.loop (G:=Nat) [1] (fun i=>[(1,.ptr 1 0),(1001,.box r.cs),(3,bv i)]) (fun i=>i<=R r.rows/\(r.rows.all fun x=>x.known)=((r.rows.drop i).all fun x=>x.known)) (fun i=>R r.rows - i) 0 ⟨Zr _,O⟩ ⟨O,O,O,Zo⟩ (fun _=>O) ?_;rintro i ⟨hi,a⟩;refine ro 6 O (kc (zk Za O) (rr 3 O (kB O (fun d=>?_) (fun d=>?_))))
 ·have c:i<R r.rows:=by omega
  refine ro 9 O (kc (zI Za O I O) ?_);refine rr 2 O (kc (S.not .none O (zt O)) (kD (OK.cond O O (fun b=>?_) (fun b=>?_))))
  ·refine ro 5 O (kR O O ?_);refine ew ?_;rw[a,T5 _ I];simp_all
  refine Ro 8 O I (Ab.D.lp ⟨i+1,⟨by omega,?_⟩,I,O,O,O,Zo⟩);rw[a,T5 _ I];simp_all
 refine ro 7 O (kR O O ?_);refine ew ?_;have:i=R r.rows:=by omega
 subst this;rw[a,no];rfl
def PC{p:Part}:Ct prog 26 [.agg p.cs] (.bool (Ac p)):=by
 refine cI func26 O (ro 12 O (RK.bh (t:=6) O (fun c=>?_) (fun c=>?_)))
 ·refine rr 4 O (RK.split (t:=10) O (fun b=>?_) (fun b=>?_))
  ·refine rr 5 O (RK.bh (t:=15) O (fun a=>?_) (fun a=>?_))
   ·refine rr 2 O (kc (S.not (zg O O) O (zt O)) (rr 4 O (kR O O ?_)));simp[Ac, *]
   refine rr 7 O (kR O O ?_);simp[Ac, *]
  refine rr 12 O (kR O O ?_);simp[Ac, *]
 refine rr 16 O (kR O O ?_);simp[Ac, *]
def Xi{p:Part}:Ct prog 75 [.agg p.cs] (.bool (gE p)):=by
 refine cI func75 O (ro 12 O (RK.bh (t:=6) O (fun a=>?_) (fun a=>?_)))
 ·refine rr 7 O (kR O O ?_);simp[gE, *]
 refine rr 7 O (kR O O ?_);simp[gE, *]
def L6{s:State}{n:Int}:Ct prog 24 [.agg s.cs,bv n] (bv (if¬(0<=n/\n<=1000000)then 2 else if bq (fun p:Part=>decide (p.num=n)) 0 s.parts<0 then 6 else 0)):=by
 refine cI func24 O (ro 10 O (kc (zK gx call33 O) (kc (S.jP .none O (zt O)) (kD (kB O (fun b=>?_) (fun b=>?_))))))
 ·refine ro 5 O (kR O O ?_);refine cy ?_;simp_all
 refine ro 7 O (kc (zK Vf call25 O) (rr 3 O (kB O (fun a=>?_) (fun a=>?_))))
 ·refine ro 5 O (kR O O ?_);refine cy ?_;simp_all
 refine ro 7 O (kR O O ?_);refine cy ?_;simp_all
end Go.Proofs.Z9
namespace Go.Proofs.Z9
open Go.Ab Tryz
theorem J_{l:ba}{i:Nat}(hi:i<R l)(h0:∀j (hj:j<i),¬l[j]=32)(h:l[i]=32):Lib.indexByte l 32=i:=by
 induction l generalizing i with
 |nil=>cases hi
 |cons b l a=>
  rw[mM];cases i with
  |zero=>simp_all
  |succ i=>
   have c:¬b=32:=h0 0 (aθ i);grind
def NB{l:ba}(h0:∀j (a:j<R l),¬l[j]=32):¬0<=Lib.indexByte l 32:=by
 intro h;obtain⟨j,a,e⟩:=i6 (yO h);grind
def JI{l:ba}{i:Nat}(hi:i<R l)(h0:∀j (hj:j<i),¬l[j]=32)(h:l[i]=32):aL 32 l=(l.take i,l.drop (i+1),true):=by
 grind [J_,qt]
def U9{l:ba}(h:(iE l 7).2=true):0<R l:=by
 cases l with
 |nil=>cases h
 |cons=>simp
def Km{l:ba}(h:0<R l):decide ((l[0].toNat:Int)≠45)=decide (l.head?≠some 45):=decide_eq_decide.2 (not_congr (head_45 h).symm)
def XW{s:ba}(m:R s<=100000):Ct prog 105 [.str s] (.cf [.str (aL 32 s).1,.str (aL 32 s).2.1,.bool (aL 32 s).2.2]):=by
 refine cI func105 O (ro 14 O ?_);refine OK.loop (G:=Nat) [] (fun i=>[(0,.str s),(5,bv i)]) (fun i=>i<=R s/\∀j (b:j<i) (d:j<R s),¬s[j]=32) (fun i=>R s - i) 0 ⟨Zr _,fun j b=>I⟩ ⟨O,O,Zo⟩ (fun _=>O) ?_;rintro i ⟨hi,g⟩;refine ro 9 O (kB O (fun l=>?_) (fun l=>?_))
 ·have f:i<R s:=I
  refine ro 8 O (kc (S.fJ (n:=i) fR .none O (zt O) (zt O) O f) (rr 3 O (kB O (fun a=>?_) (fun a=>?_))))
  ·have h:s[i]=32:=Dt a;have k:=JI f (fun j b=>g j b I) h;refine kO (kV (.c (zm O) (.c (zm O) (.c (S.ir (hi:=i) (l':=s.take i) fR .none O (zt O) (.inl ⟨O,O,O⟩) (.inr ⟨_,_,O,(zt O),O⟩) (Zr _) I O) (.c (zm O) (.c (zm O) (.c (zp O O I) (.c (S.ir (lo:=(i+1)) (l':=s.drop (i+1)) fR .none O (zt O) (.inr ⟨_,_,O,(zt O),O⟩) (.inl ⟨O,O,O⟩) I I (by rw[List.take_length])) (.c (za O) (.c (za O) (.c (zb O) .nil)))))))))) ?_);refine Ab.D.code (OK.ret (aA.r3 (zo O O) (zo O O) (zo O O) ?_));rw[k];try rfl
  have h:¬s[i]=32:=fun e=>a (by rw[e];rfl)
  refine Ro 8 O I ?_;refine Ab.D.lp ⟨i+1,⟨I,fun j b d=>by rcases(show j<i\/j=i by omega)with q|q;exact g j q d;subst q;exact h⟩,I,O,O,Zo⟩
 have k:=oI (NB fun j b=>g j I b);refine ro 10 O (OK.ret (aA.r3 (zo O O) (zo O O) (zo O O) ?_));rw[k];try rfl
def Y6{s:ba}(e:R s<=100000):Ct prog 106 [.str s] (.cf [bv (lj s).1,.bool (lj s).2]):=by
 refine cI func106 O (ro 9 O ?_);refine kc (zK (vU (l:=s) (d:=7) I C) call40 O) ?_;refine rr 8 O ?_;by_cases a:(iE s 7).2=true
 ·have b:lj s=((iE s 7).1,decide ((s[0]'(U9 a)).toNat≠(45:Int))):=by unfold lj;rw[a,tn,←Km (U9 a)]
  refine kV (.c (zm O) (.c (zm O) (.c (zm O) (.c (S.move (.yes O O O (by first|exact a|simpa using a)) O (zt O)) (.c (S.fJ (n:=0) fR (.yes O O O (by first|exact a|simpa using a)) O (zt O) (.af O) O (U9 a)) (.c (S.neq (.yes O O O (by first|exact a|simpa using a)) O (zt O) (.af O)) (.c (S.aQ .none O (zt O) (zt O) (by first|exact a|simpa using a)) (.c (za O) (.c (za O) .nil))))))))) ?_;refine Ab.D.code (kS O O O O ?_);rw[b];try rfl
 have b:lj s=((iE s 7).1,false):=by unfold lj;rw[show(iE s 7).2=false by simpa using a,tp]
 refine kV (.c (zm O) (.c (zm O) (.c (zm O) (.c (zG O (by first|exact a|simpa using a)) (.c (zG O (by first|exact a|simpa using a)) (.c (zG O (by first|exact a|simpa using a)) (.c (S.aO .none O (zt O) .aJ (by first|exact a|simpa using a)) (.c (za O) (.c (za O) .nil))))))))) ?_;refine Ab.D.code (kS O O O O ?_);rw[b];try rfl
end Go.Proofs.Z9
namespace Go.Proofs.Z9
open Go.Ab Tryz
def Kw{a b:Prop}[Decidable a][Decidable b](h:¬a):decide b=decide (a\/b):=by simp_all
def Kx{a b c d e:Prop}[Decidable a][Decidable b][Decidable c][Decidable d][Decidable e](i:¬a)(h:¬b)(g:¬c)(f:¬d):decide e=decide (a\/b\/c\/d\/e):=by simp_all
def Se{s:ba}(P:R s<=100000):Ct prog 71 [.str s] (.cf [.agg (fH s).1.cs,.bool (fH s).2]):=by
 refine cI func71 O fun{_ _}=>?_
 have N:=xS (c:=32) (l:=s);have K:=xS (c:=32) (l:=(aL 32 s).2.1);have h0:0<R (aj 32 (aL 32 s).2.1):=aη.2 (gr 32 _);refine ro 9 O (kc (zK (XW I) call105 O) ?_);refine rr 13 O (kc (zU bu157 O O) (rr 7 O (kc (zK (C0 (l:=(aL 32 s).2.1) (c:=32) I) call82 O) ?_)));refine rr 15 O ?_;refine OK.join (G:=Bool) [7,2] (fun vb=>[(2,.ptr 2 0),(1002,.box [.str [],.str [],.str [],.str [],bv 0]),(4,.str (aL 32 s).1),(5,.str (aL 32 s).2.1),(6,.bool (aL 32 s).2.2),(7,.ptr 7 0),(1007,.box [.str (aL 32 s).1,.str [],.str [],.str (aL 32 s).2.1,bv 0]),(8,.sl ((aj 32 (aL 32 s).2.1).map fun p=>[.str p])),(9,.bool true),(27,.str (aL 32 s).1),(28,.bool vb)]) (fun vb=>vb=decide ((aL 32 s).1=gR[0]\/(aL 32 s).1=gR[2])) (fun _=>O) ?_ ?_
 ·refine ro 6 O (kB O (fun b=>?_) (fun b=>?_))
  ·try (have d:fH s=_:=Zn (pf (k.symm.trans b)))
   refine OK.skip (Ab.D.lp ⟨_,(by first|exact(Zz b).trans (Zz (by first|exact .inl b|exact .inr (.inl b)|exact .inr (.inr (.inl b))|exact .inr (.inr (.inr (.inl b))))).symm|exact Kw b|exact Kx (by assumption) (by assumption) (by assumption) (by assumption)),O,O,O,O,O,O,O,O,O,O,O,Zo⟩)
  try (have J:fH s=_:=Zm (a6 (k.symm.trans b)))
  refine ro 4 O ?_;refine Ab.D.lp ⟨_,(by first|exact(Zz b).trans (Zz (by first|exact .inl b|exact .inr (.inl b)|exact .inr (.inr (.inl b))|exact .inr (.inr (.inr (.inl b))))).symm|exact Kw b|exact Kx (by assumption) (by assumption) (by assumption) (by assumption)),O,O,O,O,O,O,O,O,O,O,O,Zo⟩
 rintro vb k;refine OK.cond O O (fun b=>?_) (fun b=>?_)
 ·try (have d:fH s=_:=Zn (pf (k.symm.trans b)))
  refine ro 8 O (kT O O YC O O O ?_);rw[d];try rfl
 try (have J:fH s=_:=Zm (a6 (k.symm.trans b)))
 refine ro 6 O (kB O (fun y=>?_) (fun y=>?_))
 ·have d:=J.trans (Zn y);refine ro 4 O (kc (S.not .none O (zt O)) (rr 4 O (kT O O YC O O O ?_)));rw[d];try rfl
 have M:=J.trans (Zm y);refine ro 6 O (kB O (fun x=>?_) (fun x=>?_))
 ·have f:=M.trans (Zn x);refine ro 4 O (kc (zk Z2 O) (rr 2 O (RK.bh (t:=43) O (fun H=>?_) (fun H=>?_))))
  ·have d:=f.trans (Zn (.inl I));refine rr 21 O (kT O O YC O O O ?_);rw[d];try rfl
  have m:1<R (aj 32 (aL 32 s).2.1):=I
  have B:2<R (aj 32 (aL 32 s).2.1):=I
  refine kc (S.move (zg O O) O (zt O)) (kc (S.aP (n:=1) Z2 (zg O O) O (zt O) (.af O) O m O) (rr 4 O (RK.bh (t:=49) O (fun o=>?_) (fun o=>?_))))
  ·have d:=f.trans (Zn (.inr (.inl ((ZI m).trans o))));refine rr 15 O (kT O O YC O O O ?_);rw[d];try rfl
  refine kc (S.move (zg O O) O (zt O)) (kc (S.aP (n:=2) Z2 (zg O O) O (zt O) (.af O) O B O) (rr 5 O (kB O (fun w=>?_) (fun w=>?_))))
  ·have d:=f.trans (Zn (.inr (.inr ((ZI B).trans w))));refine ro 7 O (kT O O YC O O O ?_);rw[d];try rfl
  have d:=f.trans (Zm (by rintro(q|q|q);exact q I;exact o ((ZI m).symm.trans q);exact w ((ZI B).symm.trans q)));rw[ZI h0,ZI m,ZI B]at d;refine ro 5 O (kc (S.aP (n:=0) Z2 .none O (zt O) (.af O) O h0 O) (kc (zV Y9 O O) ?_));refine kc (zK (Y6 (by have:=gH (c:=32) _ (Zt h0);omega)) call106 O) ?_;refine rr 9 O (kV (.c (zm O) (.c (S.aP (n:=1) Z2 .none O (zt O) (.af O) O m O) (.c (zV Y9 O O) (.c (zm O) (.c (S.aP (n:=2) Z2 .none O (zt O) (.af O) O B O) (.c (zV Y9 O O) (.c (zf VQ O) (.c (zS Y9 O O O O O O) (.c (zf T6 O) (.c (zS Y9 O O O O O O) .nil)))))))))) (rd 9 O (kT O O YC O O O ?_)));rw[d];try rfl
 have f:=M.trans (Zm x);refine OK.join (G:=Bool) [7,2] (fun E=>[(2,.ptr 2 0),(1002,.box [.str [],.str [],.str [],.str [],bv 0]),(4,.str (aL 32 s).1),(5,.str (aL 32 s).2.1),(6,.bool (aL 32 s).2.2),(7,.ptr 7 0),(1007,.box [.str (aL 32 s).1,.str [],.str [],.str (aL 32 s).2.1,bv 0]),(8,.sl ((aj 32 (aL 32 s).2.1).map fun p=>[.str p])),(9,.bool true),(27,.str (aL 32 s).1),(74,.bool E)]) (fun E=>E=decide ((aL 32 s).1=gR[4]\/(aL 32 s).1=gR[5]\/(aL 32 s).1=gR[8]\/(aL 32 s).1=gR[11]\/(aL 32 s).1=gR[12])) (fun _=>O) ?_ ?_
 ·refine ro 6 O (kB O (fun a=>?_) (fun a=>?_))
  ·try (have d:=f.trans (Zn (pf (e.symm.trans a))))
   refine OK.skip (Ab.D.lp ⟨_,(by first|exact(Zz a).trans (Zz (by first|exact .inl a|exact .inr (.inl a)|exact .inr (.inr (.inl a))|exact .inr (.inr (.inr (.inl a))))).symm|exact Kw b|exact Kx (by assumption) (by assumption) (by assumption) (by assumption)),O,O,O,O,O,O,O,O,O,O,O,Zo⟩)
  try (have A:=f.trans (Zm (a6 (e.symm.trans a))))
  refine ro 6 O (kB O (fun a=>?_) (fun a=>?_))
  ·try (have d:=f.trans (Zn (pf (e.symm.trans a))))
   refine OK.skip (Ab.D.lp ⟨_,(by first|exact(Zz a).trans (Zz (by first|exact .inl a|exact .inr (.inl a)|exact .inr (.inr (.inl a))|exact .inr (.inr (.inr (.inl a))))).symm|exact Kw b|exact Kx (by assumption) (by assumption) (by assumption) (by assumption)),O,O,O,O,O,O,O,O,O,O,O,Zo⟩)
  try (have A:=f.trans (Zm (a6 (e.symm.trans a))))
  refine ro 6 O (kB O (fun a=>?_) (fun a=>?_))
  ·try (have d:=f.trans (Zn (pf (e.symm.trans a))))
   refine OK.skip (Ab.D.lp ⟨_,(by first|exact(Zz a).trans (Zz (by first|exact .inl a|exact .inr (.inl a)|exact .inr (.inr (.inl a))|exact .inr (.inr (.inr (.inl a))))).symm|exact Kw b|exact Kx (by assumption) (by assumption) (by assumption) (by assumption)),O,O,O,O,O,O,O,O,O,O,O,Zo⟩)
  try (have A:=f.trans (Zm (a6 (e.symm.trans a))))
  refine ro 6 O (kB O (fun a=>?_) (fun a=>?_))
  ·try (have d:=f.trans (Zn (pf (e.symm.trans a))))
   refine OK.skip (Ab.D.lp ⟨_,(by first|exact(Zz a).trans (Zz (by first|exact .inl a|exact .inr (.inl a)|exact .inr (.inr (.inl a))|exact .inr (.inr (.inr (.inl a))))).symm|exact Kw b|exact Kx (by assumption) (by assumption) (by assumption) (by assumption)),O,O,O,O,O,O,O,O,O,O,O,Zo⟩)
  try (have A:=f.trans (Zm (a6 (e.symm.trans a))))
  refine ro 4 O ?_;refine Ab.D.lp ⟨_,(by first|exact(Zz a).trans (Zz (by first|exact .inl a|exact .inr (.inl a)|exact .inr (.inr (.inl a))|exact .inr (.inr (.inr (.inl a))))).symm|exact Kw b|exact Kx (by assumption) (by assumption) (by assumption) (by assumption)),O,O,O,O,O,O,O,O,O,O,O,Zo⟩
 rintro E e;refine OK.cond O O (fun a=>?_) (fun a=>?_)
 ·try (have d:=f.trans (Zn (pf (e.symm.trans a))))
  refine ro 3 O (kc (zK (Y6 I) call106 O) ?_);refine rr 16 O (kT O O YC O O O ?_);rw[d];try rfl
 try (have A:=f.trans (Zm (a6 (e.symm.trans a))))
 refine ro 6 O (kB O (fun v=>?_) (fun v=>?_))
 ·have z:=A.trans (Zn v);refine ro 4 O (kc (zk Z2 O) (rr 2 O (RK.bh (t:=93) O (fun F=>?_) (fun F=>?_))))
  ·have d:=z.trans (Zn (.inl I));refine rr 15 O (kT O O YC O O O ?_);rw[d];try rfl
  have m:1<R (aj 32 (aL 32 s).2.1):=I
  refine kc (S.move (zg O O) O (zt O)) (kc (S.aP (n:=0) Z2 (zg O O) O (zt O) (.af O) O h0 O) (rr 5 O (kB O (fun u=>?_) (fun u=>?_))))
  ·have d:=z.trans (Zn (.inr ((ZI h0).trans u)));refine ro 7 O (kT O O YC O O O ?_);rw[d];try rfl
  have d:=z.trans (Zm (by rintro(q|q);exact q I;exact u ((ZI h0).symm.trans q)));rw[ZI h0,ZI m]at d;refine ro 5 O (kc (S.aP (n:=0) Z2 .none O (zt O) (.af O) O h0 O) (rr 8 O (kc (S.aP (n:=1) Z2 .none O (zt O) (.af O) O m O) (kc (zV Y9 O O) ?_))));refine kc (zK (Y6 (by have:=gH (c:=32) _ (Zt m);omega)) call106 O) ?_;refine rr 16 O (kT O O YC O O O ?_);rw[d];try rfl
 have z:=A.trans (Zm v);refine ro 6 O (kB O (fun j=>?_) (fun j=>?_))
 ·have d:=z.trans (Zn j);refine ro 11 O (kc (zk Z2 O) (rr 2 O (RK.bh (t:=122) O (fun C=>?_) (fun C=>?_))))
  ·rw[Zz (show(R (aj 32 (aL 32 s).2.1))=1 by omega),tn]at d;refine rr 7 O (kT O O YC O O O ?_);rw[d];try rfl
  rw[Zy (show¬R (aj 32 (aL 32 s).2.1)=1 by omega),tp]at d;refine rr 7 O (kT O O YC O O O ?_);rw[d];try rfl
 have L:=z.trans (Zm j);refine ro 6 O (kB O (fun i=>?_) (fun i=>?_))
 ·have d:=L.trans (Zn i);refine ro 3 O (kc (zK (XW I) call105 O) ?_);refine rr 19 O (kc (zK (Y6 I) call106 O) ?_);refine rr 13 O (RK.split (t:=144) O (fun h=>?_) (fun h=>?_))
  ·rw[show(lj (aL 32 (aL 32 s).2.1).1).2=true from h,tn]at d;refine rr 6 O (kT O O YC O O O ?_);rw[d];try rfl
  rw[show(lj (aL 32 (aL 32 s).2.1).1).2=false from h,tp]at d;refine rr 6 O (kT O O YC O O O ?_);rw[d];try rfl
 have d:=L.trans (Zm i);refine ro 6 O (kc (zK (XW I) call105 O) ?_);refine rr 24 O (RK.split (t:=159) O (fun g=>?_) (fun g=>?_))
 ·rw[show(aL 32 (aL 32 s).2.1).2.2=true from g,tn]at d;refine rr 7 O (kT O O YC O O O ?_);rw[d];try rfl
 rw[show(aL 32 (aL 32 s).2.1).2.2=false from g,tp]at d;refine rr 7 O (kT O O YC O O O ?_);rw[d];try rfl
def Sg:Ct prog 117 [] (.sl (gR.map fun v=>[.str v])):=by
 refine cI func117 O (kr (kc (S.assign .none O .fW) (rr 4 O ?_)));refine RK.c (zM [[_],[_],[_],[_],[_],[_],[_],[_],[_],[_],[_],[_],[_]] XP O O O O) ?_;refine rr 3 O ?_;refine OK.ret (aA.r1 (.tmp O O (.c (.own O O N) O) O) ?_);rfl
def Sf:Ct prog 118 [] (.sl (yM.map fun n=>[bv n])):=by
 refine cI func118 O (kr (kc (S.assign .none O .fW) (rr 24 O ?_)));refine RK.c (zM [[_],[_],[_],[_],[_],[_],[_],[_],[_],[_],[_],[_],[_]] ZM O O O O) ?_;refine rr 3 O ?_;refine OK.ret (aA.r1 (.tmp O O (.c (.own O O N) O) O) ?_);rfl
end Go.Proofs.Z9
namespace Go.Proofs.Z9
open Go.Ab Tryz
def K8{k n m:Nat}(h:n=m):some (X.box [.own k n])=some (X.box [.own k m]):=by rw[h]
def YV(w:ba):Option Int:=if numOk w 7=true then some (bp w)else none
def Rp{w:ba}(h:numOk w 7=true):YV w=some (bp w):=Zn h
def WA{w:ba}(h:numOk w 7=false):YV w=none:=Zm (by grind)
def Ug:∀(L:List ba),fy YV L=if(L.all fun w=>numOk w 7)=true then some (L.map bp)else none
 |[]=>rfl
 |w::L=>by
  rw[fy,Ug L,so];cases h:numOk w 7 with
  |true=>simp_all[Rp]
  |false=>rw[WA h,tp];rfl
theorem WJ(n:Nat)(p:ba):Ja n p=match fy YV (aj 32 p)with|some a=>if R a=n then some a else none|none=>none:=by
 unfold Ja;rw[Ug];grind
def Zh(q:bd×Int)(w:ba):(bd×Int)×Option Code:=match YV w with
 |some v=>((q.1++[v],q.2),none)
 |none=>((q.1,7),some .ret)
def N3{q:bd×Int}{w:ba}{v:Int}(h:YV w=some v):Zh q w=((q.1++[v],q.2),none):=by unfold Zh;rw[h]
def R6{q:bd×Int}{w:ba}(h:YV w=none):Zh q w=((q.1,7),some .ret):=by unfold Zh;rw[h]
def XS{β τ:Type}(e:τ):∀l:List β,l.foldl (fun e _=>e) e=e
 |[]=>rfl
 |_::l=>XS e l
def Qx{L:List ba}{t:Int}{q:bd×Int}(h:au (Ab.stepG Zh) ((([],t):bd×Int),none) L=((q,none),true)):fy YV L=some q.1/\q.2=t:=by
 obtain⟨c,a,rfl⟩:=Ue (f:=YV) (upd:=fun e _=>e) (bad:=fun q=>q.2=7) (fun q x b h=>N3 h) (fun q x h=>⟨_,R6 h,rfl⟩) h;simp_all[XS]
def Ml{L:List ba}{t:Int}{q:bd×Int}{a:Code}(h:(au (Ab.stepG Zh) ((([],t):bd×Int),none) L).1=(q,some a)):fy YV L=none/\q.2=7/\a=.ret:=
 Uh (f:=YV) (upd:=fun e _=>e) (bad:=fun q=>q.2=7) (fun q x b h=>N3 h) (fun q x h=>⟨_,R6 h,rfl⟩) h
def Ks{L:List ba}{i:Nat}{t:Int}{q:bd×Int}(h:au (Ab.stepG Zh) ((([],t):bd×Int),none) (L.take i)=((q,none),true)):R q.1<=R L:=by
 have:=Y0 (Qx h).1;grind
def YX(n:Nat)(q:List bd×Int)(p:ba):(List bd×Int)×Option Code:=match(au (Ab.stepG Zh) ((([],q.2):bd×Int),none) (aj 32 p)).1 with
 |(r,none)=>if R r.1=n then((q.1++[r.1],r.2),none)else((q.1,7),some .ret)
 |(r,some cd)=>((q.1,r.2),some cd)
section
variable{n:Nat}{q:List bd×Int}{p:ba}{r:bd×Int}
def Lj(h:au (Ab.stepG Zh) ((([],q.2):bd×Int),none) (aj 32 p)=((r,none),true))(a:R r.1=n):YX n q p=((q.1++[r.1],r.2),none):=by simp_all[YX]
def OF(h:au (Ab.stepG Zh) ((([],q.2):bd×Int),none) (aj 32 p)=((r,none),true))(a:¬R r.1=n):YX n q p=((q.1,7),some .ret):=by simp_all[YX]
def OG{a:Code}(h:(au (Ab.stepG Zh) ((([],q.2):bd×Int),none) (aj 32 p)).1=(r,some a)):YX n q p=((q.1,r.2),some a):=by unfold YX;rw[h]
def rw_T{b:bd}(h:Ja n p=some b):YX n q p=((q.1++[b],q.2),none):=by
 rw[WJ]at h;split at h
 ·rename_i c a;split at h
  ·rename_i d;cases h;have g:=(W5 (f:=YV) (step:=Zh) (upd:=fun e _=>e) (bad:=fun q=>q.2=7) (fun q x b h=>N3 h) (fun q x h=>⟨_,R6 h,rfl⟩) (aj 32 p) ([],q.2)).1 _ a;simp_all[Lj,XS]
  cases h
 cases h
def rw_F(h:Ja n p=none):∃a,YX n q p=(a,some .ret)/\a.2=7:=by
 rw[WJ]at h;have hi:=W5 (f:=YV) (step:=Zh) (upd:=fun e _=>e) (bad:=fun q=>q.2=7) (fun q x b h=>N3 h) (fun q x h=>⟨_,R6 h,rfl⟩) (aj 32 p) ([],q.2);split at h
 ·rename_i i c;split at h
  ·cases h
  rename_i j;exact⟨_,OF (hi.1 _ c) (by grind),rfl⟩
 rename_i c;obtain⟨a,g,d⟩:=hi.2 c;exact⟨_,OG (by rw[g]),d⟩
end
def QF{n:Nat}{L:List ba}{q:List bd×Int}(h:au (Ab.stepG (YX n)) ((([],0):List bd×Int),none) L=((q,none),true)):fy (Ja n) L=some q.1/\q.2=0:=by
 obtain⟨c,a,rfl⟩:=Ue (f:=Ja n) (upd:=fun e _=>e) (bad:=fun q=>q.2=7) (fun q x b h=>rw_T h) (fun q x h=>rw_F h) h;simp_all[XS]
def MC{n:Nat}{L:List ba}{q:List bd×Int}{a:Code}(h:(au (Ab.stepG (YX n)) ((([],0):List bd×Int),none) L).1=(q,some a)):fy (Ja n) L=none/\q.2=7/\a=.ret:=
 Uh (f:=Ja n) (upd:=fun e _=>e) (bad:=fun q=>q.2=7) (fun q x b h=>rw_T h) (fun q x h=>rw_F h) h
def KO{n:Nat}{L:List ba}{i:Nat}{q:List bd×Int}(h:au (Ab.stepG (YX n)) ((([],0):List bd×Int),none) (L.take i)=((q,none),true)):R q.1<=R L:=by
 have:=Y0 (QF h).1;grind
def QE{n:Nat}{s:ba}(h:60000<R s):Is n s=([],8):=Zn h
def QD{n:Nat}{s:ba}{l:List bd}(h:¬60000<R s)(a:fy (Ja n) (aj 59 s)=some l):Is n s=(l,0):=by unfold Is;simp_all
def VV{n:Nat}{s:ba}(h:¬60000<R s)(a:fy (Ja n) (aj 59 s)=none):Is n s=([],7):=by unfold Is;simp_all
def RR{α β:Type}{f:α->Option β}:∀{l:List α}{bs:List β},fy f l=some bs->∀b∈bs,∃a∈l,f a=some b
 |[],bs,h,b,d=>by simp_all[fy]
 |a::l,bs,h,b,d=>by
  simp only[fy]at h;split at h
  ·cases h
  rename_i c g;rw[M2]at h;obtain⟨r,e,rfl⟩:=h;rcases sf.1 d with rfl|d
  ·simp_all
  obtain⟨k,j,i⟩:=RR e b d;grind
def Uv{n:Nat}{s:ba}{r:bd}(h:r∈(Is n s).1):R r=n:=by
 unfold Is at h;split at h
 ·cases h
 split at h
 ·rename_i l b;obtain⟨a,_,c⟩:=RR b r h;grind [WJ]
 cases h
def Uu{n:Nat}{s:ba}(h:R s<=100000):R (Is n s).1<=100001:=by
 grind [Is,Y0,n9]
def L8{r:bd}(h:R r=4):∃a b c d,r=[a,b,c,d]:=by
 match r,h with
 |[a,b,c,d],_=>simp
def O3(l:List jI)(i:Nat)(x:jI):Int:=Fe i (l.getD (i - 1) x) x
def YY{l:List jI}{i:Nat}(h:i - 1<R l)(x:jI):O3 l i x=Fe i l[i - 1] x:=by unfold O3;grind
def Na{a b:Bool}(h:¬aF [ae a 2,ae b 9]≠0):a=true/\b=true:=by
 cases a<;>cases b<;>first|exact⟨rfl,rfl⟩|exact absurd C h
structure XX(x:jI):Prop where
 depth:1<=x.depth/\x.depth<=10000
 diag:1<=x.diag/\x.diag<=10000
 lo:0<=x.lo/\x.lo<=2000
 hi:0<=x.hi/\x.hi<=2000
 ord:x.lo<=x.hi
def OD{x:jI}{p:Bool}(h:(xk x.depth&&xk x.diag&&ve x.lo&&ve x.hi)=true)(b:p=decide (x.lo<=x.hi))(a:p=true):XX x:=by
 simp only[Zw]at h;obtain⟨⟨⟨f,e⟩,d⟩,c⟩:=h;rw[b]at a;exact⟨pf f,pf e,pf d,pf c,pf a⟩
def Tt{i:Nat}{b x:jI}{a:Bool}(c:a=(xk x.depth&&xk x.diag&&ve x.lo&&ve x.hi))(h:aF [ae a 2,ae (decide (x.lo<=x.hi)) 9]≠0):Fe i b x=aF [ae a 2,ae (decide (x.lo<=x.hi)) 9]:=by
 subst c;exact Zn h
theorem Ra{i:Nat}{b x:jI}{a:Bool}(c:a=(xk x.depth&&xk x.diag&&ve x.lo&&ve x.hi))(h:¬aF [ae a 2,ae (decide (x.lo<=x.hi)) 9]≠0)(hi:i=0):Fe i b x=ae (decide (2 * x.depth>=5 * x.diag)) 17:=by
 simp_all[Fe]
theorem Rb{i:Nat}{b x:jI}{a:Bool}(c:a=(xk x.depth&&xk x.diag&&ve x.lo&&ve x.hi))(h:¬aF [ae a 2,ae (decide (x.lo<=x.hi)) 9]≠0)(hi:¬i=0):Fe i b x=ae (decide (x.depth - b.depth>=3 * max x.diag b.diag)) 17:=by
 simp_all[Fe]
def VS{i:Nat}{b x:jI}(h:¬Fe i b x≠0):XX x/\(i=0->2 * x.depth>=5 * x.diag)/\(¬i=0->x.depth - b.depth>=3 * max x.diag b.diag):=by
 by_cases a:aF [ae (xk x.depth&&xk x.diag&&ve x.lo&&ve x.hi) 2,ae (decide (x.lo<=x.hi)) 9]≠0
 ·rw[Tt rfl a]at h;omega
 obtain⟨e,d⟩:=Na a;refine⟨OD e rfl d,fun hi=>?_,fun hi=>?_⟩
 ·rw[Ra rfl a hi]at h;cases c:decide (2 * x.depth>=5 * x.diag)with
  |true=>simp_all
  |false=>rw[c]at h;exact absurd C h
 rw[Rb rfl a hi]at h;cases c:decide (x.depth - b.depth>=3 * max x.diag b.diag)with
 |true=>simp_all
 |false=>rw[c]at h;exact absurd C h
def QN(l:List jI)(i:Nat):Prop:=∀j y,j<i->l[j]?=some y->XX y
def QN.succ{l:List jI}{i:Nat}(h:QN l i)(hi:i<R l)(b:XX l[i]):QN l (i+1):=by
 intro j y c a;by_cases e:j=i
 ·simp_all
 exact h j y I a
def QN.prev{l:List jI}{i:Nat}(h:QN l i)(hi:i<R l):i=0\/XX l[i - 1]:=by
 by_cases e:i=0
 ·exact .inl e
 exact .inr (h (i - 1) _ I (Zv I))
def Zk(l:List jI):Int:=aF [ae (decide ((R l:Int)>=2)) 10,ae (decide ((R l:Int)<=20)) 8]
def VY{l:List jI}(h:Zk l≠0):FU l=(0,Zk l):=Zn h
def TV{l:List jI}(h:¬Zk l≠0):FU l=aK (O3 l) 0 l:=Zm h
structure Wr(l:List jI):Prop where
 len:2<=l.length/\l.length<=20
 ok:∀y∈l,XX y
 asc:∀j (h:j+1<l.length),(l[j]' I).depth<l[j+1].depth
def US{α:Type}(g:Nat->α->Int):∀(l:List α)(k:Nat),(aK g k l).2=0->∀(i:Nat)(h:i<R l),g (k+i) l[i]=0
 |x::l,k,he,i,h=>by
  rw[aK]at he;split at he
  ·omega
  rename_i a;cases i with
  |zero=>simp_all
  |succ i=>
   have:=US g l (k+1) he i (by grind);grind
def VZ{l:List jI}(h:(FU l).2=0):Wr l:=by
 by_cases b:Zk l≠0
 ·simp_all[VY]
 rw[TV b]at h;have o:2<=R l/\R l<=20:=by
  unfold Zk at b;by_cases d:(R l:Int)>=2
  ·by_cases g:(R l:Int)<=20
   ·omega
   rw[Zz d,Zy g]at b;exact absurd C b
  rw[Zy d]at b;cases t:decide ((R l:Int)<=20)<;>rw[t]at b<;>exact absurd C b
 have k:∀(i:Nat)(hi:i<R l),XX l[i]/\(¬i=0->l[i].depth - (l[i - 1]' I).depth>=3 * max l[i].diag (l[i - 1]' I).diag):=by
  intro i hi;have f:=US _ l 0 h i hi;rw[wc,YY I]at f;obtain⟨a,_,c⟩:=VS (fun e=>e f);simp_all
 refine⟨o,fun y m=>?_,fun j s=>?_⟩
 ·obtain⟨i,hi,rfl⟩:=i6 m;simp_all
 obtain⟨a,c⟩:=k (j+1) s;have:=c I;have u:=a.diag;grind
def Xn{s:ba}(h:(if(Is 4 s).2=0 then(FU ((Is 4 s).1.map xj)).2 else(Is 4 s).2)≠0):DH s=([],if(Is 4 s).2=0 then(FU ((Is 4 s).1.map xj)).2 else(Is 4 s).2):=Zn h
def TW{s:ba}(h:¬(if(Is 4 s).2=0 then(FU ((Is 4 s).1.map xj)).2 else(Is 4 s).2)≠0):DH s=((Is 4 s).1.map xj,0):=Zm h
def RV{R:List bd}{k:Nat}(h:k<R.length):((R.take (k+1)).map xj).map jI.cs=((R.take k).map xj).map jI.cs++[(xj R[k]).cs]:=by
 grind [List.take_succ_eq_append_getElem]
def Qt(R:List bd){k:Nat}(h:k<=R.length):(((R.take k).map xj).map jI.cs).length=k:=by
 simp_all
def U0{n lo hi:Int}:Ct prog 309 [bv n,bv lo,bv hi] (.bool (decide (lo<=n/\n<=hi))):=by
 refine cI func309 O (ro 11 O (RK.bh (t:=10) O (fun a=>?_) (fun a=>?_)))
 ·refine rr 7 O (kR O O ?_);simp[*]
 refine rr 7 O (kR O O ?_);simp[*]
def ZW{ok:Bool}{e:Int}:Ct prog 265 [.bool ok,bv e] (bv (ae ok e)):=by
 refine cI func265 O (ro 11 O (OK.cond O O (fun a=>?_) (fun a=>?_)))
 ·refine ro 5 O (kR O O ?_);simp[ae, *]
 refine ro 8 O (kR O O ?_);simp[ae, *]
def Yu{l:bd}:Ct prog 264 [ints l] (bv (aF l)):=by
 refine cI func264 O (OK.eW (rows:=l.map fun n=>[bv n]) (t:=0) O O fun hlen=>?_);rw[Zx]at hlen;unfold maxLen at hlen;refine ro 9 O (kc (zk UU O) (rr 4 O ?_));refine OK.loop (G:=Nat) [] (fun i=>[(5,ints l),(6,bv (R l)),(7,bv i)]) (fun i=>i<=R l/\aF l=aF (l.drop i)) (fun i=>R l - i) 0 ⟨Zr _,O⟩ ⟨O,O,O,Zo⟩ (fun _=>O) ?_;rintro i ⟨hi,a⟩;refine ro 6 O (kB O (fun c=>?_) (fun c=>?_))
 ·refine ro 6 O (kc (zI UU O I O) ?_);refine rr 10 O (kB O (fun b=>?_) (fun b=>?_))
  ·refine ro 6 O (kR O O ?_);rw[a,fq I];simp_all
  refine Ro 7 O I (Ab.D.lp ⟨i+1,⟨by omega,?_⟩,I,O,O,O,Zo⟩);rw[a,fq I];simp_all
 refine ro 7 O (kR O O ?_);have:i=R l:=by omega
 subst this;rw[a,no];rfl
def YJ{n:Int}:Ct prog 266 [bv n] (.bool (ve n)):=by
 refine cI func266 O (ro 8 O (kc (zK U0 call309 O) (rr 3 O (kR O O ?_))));rfl
def Wa{n:Int}:Ct prog 357 [bv n] (.bool (xk n)):=by
 refine cI func357 O (ro 8 O (kc (zK U0 call309 O) (rr 3 O (kR O O ?_))));rfl
def Tv{n lo hi:Int}:Ct prog 354 [bv n,bv lo,bv hi] (bv (aF [ae (decide (n>=lo)) 10,ae (decide (n<=hi)) 8])):=by
 refine cI func354 O (ro 10 O (kc (zK ZW call265 O) (rr 3 O (kc (zK ZW call265 O) ?_))));refine RK.c (zM [[_],[_]] Zc O O O O) (kc (S.callL (Yu (l:=[_,_])) call264 .none O (zc O .nil) (.cons (.p (.own O O) O) .nil) O) ?_);refine rr 3 O (kR O O ?_);rfl
def Pj{l:ba}{n:Nat}(hl:R l<=100000):gz prog 262 [.str l,bv (n:Int)] (.cf [.sl ((Is n l).1.map fun r=>[ints r]),bv (Is n l).2]):=by
 refine cT func262 O fun f=>?_
 refine ro 15 O (kB O (fun P=>?_) (fun P=>?_))
 ·refine kr (kc (S.store WM .none (zt O) .fW O O O O O O) (rr 3 O (OK.ret (aA.r2 (.wI O O O O WM (.same O) O) (.wI O O O O J6 (.same O) O) ?_))));rw[QE I]
  all_goals rfl
 refine ro 11 O ?_;refine RK.c (S.Hv [871,872,873] (Xk (l:=l) (c:=59)) call307 .none O (zc O (.cons (.bj (l:=[59]) O C) .nil)) O) ?_;refine rr 3 O (OK.Yf 4 0 O O O O (OK.nP 6 0 880 1 O O O O O ?_));refine OK.qX (ps:=[17]) (encs:=(fun s=>[.str s])) (L:=(aj 59 l)) [3,4,5,6,880] [(3,.ptr 3 0),(4,.ptr 4 0),(5,.ptr 5 0),(6,.ptr 6 0)] (fun q=>[(1003,.box [bv (n:Int)]),(1004,.box [.sl []]),(1005,.box [bv q.2]),(1006,.box [.own 880 (R q.1)]),(2880,.arr 1 (q.1.map fun r=>[ints r]))]) (([],0):List bd×Int) (YX n) [(871,[.str [59]]),(872,[.str l]),(873,[bv 0])] (Uw (c:=59) hl) ⟨O,O,O,Zo⟩ O call376 (.inl O) (zt O) O ⟨O,O,O,O,O,O,O,O,(bH N),Zo⟩ (fun _=>O) (fun _=>O) (fun _=>O) (fun _=>O) (fun _=>O) C O ?_ ?_ ?_
 ·rintro i x q X g lr c0 w0 T Q G a;have f:=a.FX f;have m:=mr X;have W:=gH x m;have o:=KO g;have E:=n9 (c:=59) (l:=l);refine OK.bN (ja O (RK.nil ?_));refine⟨rfl,?_⟩;refine ro 10 O ?_;refine RK.c (S.Hv [871,872,873] (Xk (l:=x) (c:=32)) call307 .none O (zc O (.cons (.bj (l:=[32]) O C) .nil)) O) ?_;refine rr 3 O (OK.nP 8 0 881 1 O O O O O ?_);refine OK.qX (ps:=[20]) (encs:=(fun s=>[.str s])) (L:=(aj 32 x)) [3,4,5,6,880,8,881] [(3,.ptr 3 0),(4,.ptr 4 0),(5,.ptr 5 0),(6,.ptr 6 0),(8,.ptr 8 0)] (fun p=>[(1003,.box [bv (n:Int)]),(1004,.box [.sl []]),(1005,.box [bv p.2]),(1006,.box [.own 880 (R q.1)]),(2880,.arr 1 (q.1.map fun r=>[ints r])),(1008,.box [.own 881 (R p.1)]),(2881,.arr 1 (p.1.map fun v=>[bv v]))]) (([],q.2):bd×Int) Zh [(871,[.str [32]]),(872,[.str x]),(873,[bv 0])] (Uw (c:=32) I) ⟨O,O,O,Zo⟩ O call376 (.inr ⟨_,a.nS⟩) (zt O) O ⟨O,O,O,O,O,O,O,O,O,(bH N),O,(bH N),Zo⟩ (fun _=>O) (fun _=>O) (fun _=>O) (fun _=>O) (fun _=>O) C O ?_ ?_ ?_
  ·rintro j y p V b lr c0 w0 T Q G a;have f:=a.FX f;have k:=mr V;have U:=gH y k;have w:=Ks b;have D:=n9 (c:=32) (l:=x);refine OK.bN (ja O (RK.nil ?_));refine⟨rfl,?_⟩;refine ro 4 O (kc (S.dB (uY (l:=y) I) f call180 .none O (zc O .nil) O) ?_);refine rr 11 O (kc (S.neerr underlying270 .none O (zt O)) (jm O (RK.split (t:=28) O (fun K=>?_) (fun K=>?_))))
   ·refine rr 19 O (kc (S.store WM .none (zt O) .fW O O O O O O) (rr 3 O (OK.ret ?_)));rw[R6 (WA (by unfold numOk;first|(simp_all;done)|(simp_all;omega)))];exact⟨rfl,rfl,rfl,rfl,rfl,rfl,rfl,rfl,Zo⟩
   refine rr 4 O (RK.bh (t:=32) O (fun J=>?_) (fun J=>?_))
   ·refine rr 15 O (kc (S.store WM .none (zt O) .fW O O O O O O) (rr 3 O (OK.ret ?_)));rw[R6 (WA (by unfold numOk;first|(simp_all;done)|(simp_all;omega)))];exact⟨rfl,rfl,rfl,rfl,rfl,rfl,rfl,rfl,Zo⟩
   refine kc (S.move (zg O O) O (zt O)) (kc (S.dB (pS (nk y)) f call179 (zg O O) O (zc O .nil) O) (rr 4 O (RK.bh (t:=38) O (fun H=>?_) (fun H=>?_))))
   ·refine rr 9 O (kc (S.store WM .none (zt O) .fW O O O O O O) (rr 3 O (OK.ret ?_)));rw[R6 (WA (by unfold numOk;first|(simp_all;done)|(simp_all;omega)))];exact⟨rfl,rfl,rfl,rfl,rfl,rfl,rfl,rfl,Zo⟩
   refine rr 6 O (kB O (fun M=>?_) (fun M=>?_))
   ·refine kr (kc (S.store WM .none (zt O) .fW O O O O O O) (rr 3 O (OK.ret ?_)));rw[R6 (WA (by unfold numOk;first|(simp_all;done)|(simp_all;omega)))];exact⟨rfl,rfl,rfl,rfl,rfl,rfl,rfl,rfl,Zo⟩
   refine ro 5 O ?_;refine RK.c (zM [[_]] ZM O O O O) ?_;refine kc (zP ZM O O F N I (by simp only[maxLen];omega)) ?_;refine rr 3 O ?_;rw[N3 (Rp (by unfold numOk;first|(simp_all;done)|(simp_all;omega)))];exact⟨rfl,rfl,rfl,rfl,rfl,rfl,K8 F,bH F,Zo⟩
  ·rintro p b;obtain⟨A,Z⟩:=Qx b;have w:=Y0 A;have D:=n9 (c:=32) (l:=x);refine rd 4 O ?_;refine OK.Yp 8 0 O O O O F O ?_;refine ro 2 O (kc (zk Z4 O) (rr 4 O (kB O (fun e=>?_) (fun e=>?_))))
   ·have z:¬R p.1=n:=by first|omega|(simp only[Zx]at e;omega)
    refine kr (kc (S.store WM .none (zt O) .fW O O O O O O) (rr 3 O (OK.ret ?_)));rw[OF b z];exact⟨rfl,rfl,rfl,rfl,rfl,rfl,Zo⟩
   have B:R p.1=n:=by first|omega|(simp only[Zx]at e;omega)
   refine ro 5 O ?_;refine RK.c (zM [[_]] OU O O O O) ?_;refine kc (zP OU O O F N I (by simp only[maxLen];omega)) ?_;refine rr 3 O ?_;rw[Lj b B];exact⟨rfl,rfl,rfl,rfl,K8 F,bH (by simp[ints]),Zo⟩
  rintro p cd b;obtain⟨_,_,d⟩:=Ml b;subst d;refine OK.ret ?_;rw[OG b];exact⟨rfl,rfl,rfl,rfl,rfl,rfl,Zo⟩
 ·rintro q g;obtain⟨h,Y⟩:=QF g;have o:=Y0 h;have E:=n9 (c:=59) (l:=l);refine rd 9 O ?_;refine OK.ret (aA.r2 (.wI O O O O WM (.own O O N) O) (.wI O O O O J6 (.same O) O) ?_);rw[QD I h]
  all_goals rfl
 rintro q cd g;obtain⟨h,u,d⟩:=MC g;subst d;refine OK.ret (aA.r2 (.wI O O O O WM (.same O) O) (.wI O O O O J6 (.same O) O) ?_);rw[VV I h,u]
 all_goals rfl
def NC{i:Nat}{b x:jI}(y:i=0\/XX b):Ct prog 356 [bv i,.agg b.cs,.agg x.cs] (bv (Fe i b x)):=by
 refine cI func356 O (ro 7 O ?_);refine OK.join (G:=Bool) [4,5] (fun g=>[(0,bv i),(4,.ptr 4 0),(1004,.box b.cs),(5,.ptr 5 0),(1005,.box x.cs),(7,.bool g)]) (fun g=>g=(xk x.depth&&xk x.diag&&ve x.lo&&ve x.hi)) (fun _=>O) ?_ ?_
 ·refine ro 3 O (kc (zK Wa call357 O) (jm O (RK.split (t:=12) O (fun k=>?_) (fun k=>?_))))
  ·refine rr 2 O (kc (S.call (Wa) call357 (zg O O) O (zc O .nil) O) (rr 2 O (RK.split (t:=17) O (fun j=>?_) (fun j=>?_))))
   ·refine rr 3 O (kc (S.call (YJ) call266 (zg O O) O (zc O .nil) O) (rr 2 O (RK.split (t:=23) O (fun h=>?_) (fun h=>?_))))
    ·refine rr 3 O (kc (S.call (YJ) call266 (zg O O) O (zc O .nil) O) (rr 3 O ?_));refine Ab.D.lp ⟨(ve x.hi),(by simp[*]),O,O,O,O,O,O,Zo⟩
    refine rr 7 O ?_;refine Ab.D.lp ⟨false,(by simp[*]),O,O,O,O,O,O,Zo⟩
   refine rr 13 O ?_;refine Ab.D.lp ⟨false,(by simp[*]),O,O,O,O,O,O,Zo⟩
  refine rr 18 O ?_;refine Ab.D.lp ⟨false,(by simp[*]),O,O,O,O,O,O,Zo⟩
 rintro g d;refine kO (kO (kV (.c (zm O) (.c (zK ZW call265 O) (.c (zf Yv O) (.c (zf Ze O) (.c (zl Z8 O O O O) (.c (zf Yv O) (.c (zf YU O) (.c (zl Z8 O O O O) (.c (S.leq .none O (zt O) (zt O)) (.c (zK ZW call265 O) (.c (zM [[_],[_]] Zc O O O O) (.c (S.callL (Yu (l:=[_,_])) call264 .none O (zc O .nil) (.cons (.p (.own O O) O) .nil) O) (.c (za O) .nil))))))))))))) ?_));refine rd 7 O (kB O (fun a=>?_) (fun a=>?_))
 ·have f:=Tt (i:=i) (b:=b) d a;refine ro 6 O (kR O O ?_);rw[f];try rfl
 obtain⟨A,z⟩:=Na a;have o:=OD (d▸A) rfl z;have u:=o.depth;have s:=o.diag;refine ro 9 O (kB O (fun m=>?_) (fun m=>?_))
 ·have f:=Ra (b:=b) d a (by omega:i=0);refine ro 4 O ?_;refine kc (S.mul .none O (.af O) (zt O) (mn _ I) (mn _ I)) ?_;refine rr 2 O ?_;refine kc (S.mul .none O (.af O) (zt O) (mn _ I) (mn _ I)) (kc (S.geq .none O (zt O) (zt O)) (kc (zK ZW call265 O) ?_));refine rr 3 O (kR O O ?_);rw[f];try rfl
 have f:=Rb (b:=b) d a (by omega:¬i=0);have e:XX b:=y.resolve_left I;have w:=e.depth;have v:=e.diag;refine Ro 13 O I (kc (S.max2 .none O (zt O) (zt O)) ?_);refine kc (S.mul .none O (.af O) (zt O) (mn _ I) (mn _ I)) (kc (S.geq .none O (zt O) (zt O)) (kc (zK ZW call265 O) ?_));refine rr 3 O (kR O O ?_);rw[f];refine cy ?_;rw[show(if x.diag<b.diag then b.diag else x.diag)=max x.diag b.diag by split<;>omega]
 try rfl
def ND{l:List jI}:Ct prog 355 [.sl (l.map jI.cs),.fn 356 []] (.cf [bv (aK (O3 l) 0 l).1,bv (aK (O3 l) 0 l).2]):=by
 refine cI func355 O (OK.eW (rows:=l.map jI.cs) (t:=0) O O fun hlen=>?_);rw[Zx]at hlen;unfold maxLen at hlen;refine ro 10 O (kc (zk YN O) (rr 4 O ?_));refine OK.loop (G:=Nat) [] (fun i=>[(0,.sl (l.map jI.cs)),(1,.fn 356 []),(9,.sl (l.map jI.cs)),(10,bv (R l)),(11,bv i)]) (fun i=>i<=R l/\aK (O3 l) 0 l=aK (O3 l) i (l.drop i)/\QN l i) (fun i=>R l - i) 0 ⟨Zr _,O,fun j y h=>absurd h (bπ _)⟩ ⟨O,O,O,O,O,Zo⟩ (fun _=>O) ?_;rintro i ⟨hi,k,f⟩;refine ro 6 O (kB O (fun m=>?_) (fun m=>?_))
 ·have a:i<R l:=by omega
  have d:i - 1<R l:=by omega
  have g:=f.prev a;refine ro 7 O (kc (zI YN O I O) ?_);refine rr 7 O ?_;refine kV (.c (zm O) (.c (zm O) (.c (zm O) (.c (zm O) (.c (S.sub .none O (zt O) (.af O) (mn _ I) (mn _ I)) (.c (S.max2 .none O (.af O) (zt O)) (.c (S.aP (n:=(i - 1)) YN .none O (zt O) (zt O) I d O) (.c (S.fG LY .none O (zt O) O O) (.c (zL LY O O O O) (.c (S.ij (NC (i:=i) (b:=l[i - 1]) (x:=l[i]) g) call356 .none O (zt O) (zc O (zc O (zc O .nil))) O O O) (.c (za O) .nil))))))))))) ?_;refine rd 7 O (kB O (fun e=>?_) (fun e=>?_))
  ·refine ro 8 O (kS O O O O ?_);rw[k,bE _ a,Zn (by rw[YY d];exact e),YY d]
   try rfl
  refine Ro 7 O I ?_;refine Ab.D.lp ⟨i+1,⟨by omega,by rw[k,bE _ a,Zm (by rw[YY d];exact e)],f.succ a (VS e).1⟩,I,O,O,O,O,O,Zo⟩
 refine ro 8 O (kS O O O O ?_);rw[k,show i=R l by omega,no]
 try rfl
def W9{l:List jI}:Ct prog 308 [.agg [.sl (l.map jI.cs)]] (.cf [bv (FU l).1,bv (FU l).2]):=by
 refine cI func308 O (ro 12 O (kc (zk YN O) (kc (zK Tv call354 O) (rr 9 O (kB O (fun a=>?_) (fun a=>?_))))))
 ·refine ro 7 O (kS O O O O ?_);rw[VY (show Zk l≠0 from a)]
  try rfl
 refine ro 6 O (kc (S.call (ND (l:=l)) call355 .none O (zc O (.cons .oL .nil)) O) (rr 6 O (kS O O O O ?_)));rw[TV (show¬Zk l≠0 from a)]
 try rfl
def X_{l:List jI}:Ct prog 263 [.agg [.sl (l.map jI.cs)]] (bv (FU l).2):=by
 refine cI func263 O (ro 9 O (kc (zK W9 call308 O) (rr 13 O (kR O O ?_))));rfl
def W_{s:ba}(o:R s<=100000):gz prog 212 [.str s] (.cf [.agg [.sl ((DH s).1.map jI.cs)],bv (DH s).2]):=by
 refine cT func212 O fun g=>?_
 have t:=Uu (n:=4) o;refine ro 9 O (kc (S.dB (Pj (n:=4) o) g call262 .none O (zc O (zD O)) O) (rr 16 O (kc (zk TQ O) (rr 4 O (OK.nP 6 0 880 4 O O O O O ?_)))));refine OK.loop (G:=Nat) [2,6,880] (fun k=>[(2,.ptr 2 0),(1002,.box [.bO]),(5,bv (Is 4 s).2),(6,.ptr 6 0),(1006,.box [.own 880 k]),(2880,.arr 4 ((((Is 4 s).1.take k).map xj).map jI.cs)),(14,.sl ((Is 4 s).1.map fun r=>[ints r])),(15,bv (R (Is 4 s).1)),(16,bv k)]) (fun k=>k<=R (Is 4 s).1) (fun k=>R (Is 4 s).1 - k) 0 (Zr _) ⟨O,O,O,O,O,(bH N),O,O,O,Zo⟩ (fun _=>O) ?_;rintro k u;refine ro 6 O (kB O (fun m=>?_) (fun m=>?_))
 ·have i:k<R (Is 4 s).1:=by omega
  obtain⟨a,b,c,d,h⟩:=L8 (Uv (Zt i));refine ro 6 O (kc (zI TQ O I O) ?_);refine rr 4 O ?_;rw[h];refine kV (.c (zf XL O) (.c (zl TC O O O O) (.c (zm O) (.c (S.aP (n:=0) Z4 .none O (zt O) (.af O) O F O) (.c (zV Z8 O O) (.c (zm O) (.c (S.aP (n:=1) Z4 .none O (zt O) (.af O) O F O) (.c (zV Z8 O O) (.c (zm O) (.c (S.aP (n:=2) Z4 .none O (zt O) (.af O) O F O) (.c (zV Z8 O O) (.c (zm O) (.c (S.aP (n:=3) Z4 .none O (zt O) (.af O) O F O) (.c (zV Z8 O O) (.c (zU M6 O O) (.c (zU n_ O O) (.c (zM [[_,_,_,_]] MI O O O O) (.c (zP MI O O (Qt _ I) N I (by simp only[maxLen];omega)) (.c (zf XL O) (.c (zS TC O O O O O O) .nil)))))))))))))))))))) ?_;refine Rd 6 O I ?_;refine Ab.D.lp ⟨k+1,I,I,O,O,O,O,O,(bH (by rw[RV i,h];rfl)),O,O,O,Zo⟩
 have j:k=R (Is 4 s).1:=by omega
 refine ro 4 O ?_;subst j;rw[List.take_length];refine OK.Yp 6 0 O O O O (by rw[Zx,Zx]) O ?_;refine ro 5 O (kB O (fun f=>?_) (fun f=>?_))
 ·refine ro 2 O (kc (zK (X_ (l:=(Is 4 s).1.map xj)) call263 O) (rr 10 O (kB O (fun e=>?_) (fun e=>?_))))
  ·have g:=Xn (s:=s) (by rw[Zn f];exact e);rw[Zn f]at g;refine kr (kc (zU Nj O O) (rr 5 O (OK.ret (aA.r2 (.bG O O O O UO O (.k .bO .z)) (zo O O) ?_))));rw[g];try rfl
  have g:=TW (s:=s) (by rw[Zn f];exact e);refine ro 9 O (kT O O UO O O O ?_);rw[g];try rfl
 refine ro 9 O (kB O (fun e=>?_) (fun e=>?_))
 ·have g:=Xn (s:=s) (by rw[Zm f];exact e);rw[Zm f]at g;refine kr (kc (zU Nj O O) (rr 5 O (OK.ret (aA.r2 (.bG O O O O UO O (.k .bO .z)) (zo O O) ?_))));rw[g];try rfl
 exact absurd f e
