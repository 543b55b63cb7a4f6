import Derived.Test.YtdhdgbnafkeifaaGreatDoorMg
set_option linter.all false
set_option maxHeartbeats 4000000
open List renaming length->R
namespace Go.Proofs.YtdhdgbnafkeifaaGreatDoor
open Go.Ab Tryz
set_option maxRecDepth 9999
theorem J_{l:ba}{i:Nat}(hi:i<R l)(h0:∀j (hj:j<i),¬l[j]=32)(h:l[i]=32):Lib.indexByte l 32=i:=by
 induction l generalizing i with
 |nil=>cases hi
 |cons b l a=>
  rw[mM];cases i with
  |zero=>simp_all
  |succ i=>
   have c:¬b=32:=h0 0 (aθ i);grind
def NB{l:ba}(h0:∀j (a:j<R l),¬l[j]=32):¬0<=Lib.indexByte l 32:=by
 intro h;obtain⟨j,a,e⟩:=i6 (yO h);grind
def JI{l:ba}{i:Nat}(hi:i<R l)(h0:∀j (hj:j<i),¬l[j]=32)(h:l[i]=32):aL 32 l=(l.take i,l.drop (i+1),true):=by
 grind [J_,qt]
def U9{l:ba}(h:(iE l 7).2=true):0<R l:=by
 cases l with
 |nil=>cases h
 |cons=>simp
def Km{l:ba}(h:0<R l):decide ((l[0].toNat:Int)≠45)=decide (l.head?≠some 45):=decide_eq_decide.2 (not_congr (head_45 h).symm)
def XW{s:ba}(m:R s<=100000):Ct prog 75 [.str s] (.cf [.str (aL 32 s).1,.str (aL 32 s).2.1,.bool (aL 32 s).2.2]):=by
 refine cI func75 O (ro 14 O ?_);refine OK.loop (G:=Nat) [] (fun i=>[(0,.str s),(5,bv i)]) (fun i=>i<=R s/\∀j (b:j<i) (d:j<R s),¬s[j]=32) (fun i=>R s - i) 0 ⟨Zr _,fun j b=>I⟩ ⟨O,O,Zo⟩ (fun _=>O) ?_;rintro i ⟨hi,g⟩;refine ro 9 O (kB O (fun l=>?_) (fun l=>?_))
 ·have f:i<R s:=I
  refine ro 8 O (kc (S.fJ (n:=i) fR .none O (zt O) (zt O) O f) (rr 3 O (kB O (fun a=>?_) (fun a=>?_))))
  ·have h:s[i]=32:=Dt a;have k:=JI f (fun j b=>g j b I) h;refine kO (kV (.c (zm O) (.c (zm O) (.c (S.ir (hi:=i) (l':=s.take i) fR .none O (zt O) (.inl ⟨O,O,O⟩) (.inr ⟨_,_,O,(zt O),O⟩) (Zr _) I O) (.c (zm O) (.c (zm O) (.c (zp O O I) (.c (S.ir (lo:=(i+1)) (l':=s.drop (i+1)) fR .none O (zt O) (.inr ⟨_,_,O,(zt O),O⟩) (.inl ⟨O,O,O⟩) I I (by rw[List.take_length])) (.c (za O) (.c (za O) (.c (zb O) .nil)))))))))) ?_);refine Ab.D.code (OK.ret (aA.r3 (zo O O) (zo O O) (zo O O) ?_));rw[k];try rfl
  have h:¬s[i]=32:=fun e=>a (by rw[e];rfl)
  refine Ro 8 O I ?_;refine Ab.D.lp ⟨i+1,⟨I,fun j b d=>by rcases(show j<i\/j=i by omega)with q|q;exact g j q d;subst q;exact h⟩,I,O,O,Zo⟩
 have k:=oI (NB fun j b=>g j I b);refine ro 10 O (OK.ret (aA.r3 (zo O O) (zo O O) (zo O O) ?_));rw[k];try rfl
def Y6{s:ba}(e:R s<=100000):Ct prog 76 [.str s] (.cf [bv (lj s).1,.bool (lj s).2]):=by
 refine cI func76 O (ro 9 O ?_);refine kc (zK (vU (l:=s) (d:=7) I C) call104 O) ?_;refine rr 8 O ?_;by_cases a:(iE s 7).2=true
 ·have b:lj s=((iE s 7).1,decide ((s[0]'(U9 a)).toNat≠(45:Int))):=by unfold lj;rw[a,tn,←Km (U9 a)]
  refine kV (.c (zm O) (.c (zm O) (.c (zm O) (.c (S.move (.yes O O O (by first|exact a|simpa using a)) O (zt O)) (.c (S.fJ (n:=0) fR (.yes O O O (by first|exact a|simpa using a)) O (zt O) (.af O) O (U9 a)) (.c (S.neq (.yes O O O (by first|exact a|simpa using a)) O (zt O) (.af O)) (.c (S.aQ .none O (zt O) (zt O) (by first|exact a|simpa using a)) (.c (za O) (.c (za O) .nil))))))))) ?_;refine Ab.D.code (kS O O O O ?_);rw[b];try rfl
 have b:lj s=((iE s 7).1,false):=by unfold lj;rw[show(iE s 7).2=false by simpa using a,tp]
 refine kV (.c (zm O) (.c (zm O) (.c (zm O) (.c (zG O (by first|exact a|simpa using a)) (.c (zG O (by first|exact a|simpa using a)) (.c (zG O (by first|exact a|simpa using a)) (.c (S.aO .none O (zt O) .aJ (by first|exact a|simpa using a)) (.c (za O) (.c (za O) .nil))))))))) ?_;refine Ab.D.code (kS O O O O ?_);rw[b];try rfl
end Go.Proofs.YtdhdgbnafkeifaaGreatDoor
namespace Go.Proofs.YtdhdgbnafkeifaaGreatDoor
open Go.Ab Tryz
def Kw{a b:Prop}[Decidable a][Decidable b](h:¬a):decide b=decide (a\/b):=by simp_all
def Kx{a b c d e:Prop}[Decidable a][Decidable b][Decidable c][Decidable d][Decidable e](i:¬a)(h:¬b)(g:¬c)(f:¬d):decide e=decide (a\/b\/c\/d\/e):=by simp_all
def Se{s:ba}(P:R s<=100000):Ct prog 122 [.str s] (.cf [.agg (fH s).1.cs,.bool (fH s).2]):=by
 refine cI func122 O fun{_ _}=>?_
 have N:=xS (c:=32) (l:=s);have K:=xS (c:=32) (l:=(aL 32 s).2.1);have h0:0<R (aj 32 (aL 32 s).2.1):=aη.2 (gr 32 _);refine ro 9 O (kc (zK (XW I) call75 O) ?_);refine rr 13 O (kc (zU M5 O O) (rr 7 O (kc (zK (C0 (l:=(aL 32 s).2.1) (c:=32) I) call31 O) ?_)));refine rr 15 O ?_;refine OK.join (G:=Bool) [7,2] (fun vb=>[(2,.ptr 2 0),(1002,.box [.str [],.str [],.str [],.str [],bv 0]),(4,.str (aL 32 s).1),(5,.str (aL 32 s).2.1),(6,.bool (aL 32 s).2.2),(7,.ptr 7 0),(1007,.box [.str (aL 32 s).1,.str [],.str [],.str (aL 32 s).2.1,bv 0]),(8,.sl ((aj 32 (aL 32 s).2.1).map fun p=>[.str p])),(9,.bool true),(27,.str (aL 32 s).1),(28,.bool vb)]) (fun vb=>vb=decide ((aL 32 s).1=gR[0]\/(aL 32 s).1=gR[2])) (fun _=>O) ?_ ?_
 ·refine ro 6 O (kB O (fun b=>?_) (fun b=>?_))
  ·try (have d:fH s=_:=Zn (pf (k.symm.trans b)))
   refine OK.skip (Ab.D.lp ⟨_,(by first|exact(Zz b).trans (Zz (by first|exact .inl b|exact .inr (.inl b)|exact .inr (.inr (.inl b))|exact .inr (.inr (.inr (.inl b))))).symm|exact Kw b|exact Kx (by assumption) (by assumption) (by assumption) (by assumption)),O,O,O,O,O,O,O,O,O,O,O,Zo⟩)
  try (have J:fH s=_:=Zm (a6 (k.symm.trans b)))
  refine ro 4 O ?_;refine Ab.D.lp ⟨_,(by first|exact(Zz b).trans (Zz (by first|exact .inl b|exact .inr (.inl b)|exact .inr (.inr (.inl b))|exact .inr (.inr (.inr (.inl b))))).symm|exact Kw b|exact Kx (by assumption) (by assumption) (by assumption) (by assumption)),O,O,O,O,O,O,O,O,O,O,O,Zo⟩
 rintro vb k;refine OK.cond O O (fun b=>?_) (fun b=>?_)
 ·try (have d:fH s=_:=Zn (pf (k.symm.trans b)))
  refine ro 8 O (kT O O XK O O O ?_);rw[d];try rfl
 try (have J:fH s=_:=Zm (a6 (k.symm.trans b)))
 refine ro 6 O (kB O (fun y=>?_) (fun y=>?_))
 ·have d:=J.trans (Zn y);refine ro 4 O (kc (S.not .none O (zt O)) (rr 4 O (kT O O XK O O O ?_)));rw[d];try rfl
 have M:=J.trans (Zm y);refine ro 6 O (kB O (fun x=>?_) (fun x=>?_))
 ·have f:=M.trans (Zn x);refine ro 4 O (kc (zk Z2 O) (rr 2 O (RK.bh (t:=43) O (fun H=>?_) (fun H=>?_))))
  ·have d:=f.trans (Zn (.inl I));refine rr 21 O (kT O O XK O O O ?_);rw[d];try rfl
  have m:1<R (aj 32 (aL 32 s).2.1):=I
  have B:2<R (aj 32 (aL 32 s).2.1):=I
  refine kc (S.move (zg O O) O (zt O)) (kc (S.aP (n:=1) Z2 (zg O O) O (zt O) (.af O) O m O) (rr 4 O (RK.bh (t:=49) O (fun o=>?_) (fun o=>?_))))
  ·have d:=f.trans (Zn (.inr (.inl ((ZI m).trans o))));refine rr 15 O (kT O O XK O O O ?_);rw[d];try rfl
  refine kc (S.move (zg O O) O (zt O)) (kc (S.aP (n:=2) Z2 (zg O O) O (zt O) (.af O) O B O) (rr 5 O (kB O (fun w=>?_) (fun w=>?_))))
  ·have d:=f.trans (Zn (.inr (.inr ((ZI B).trans w))));refine ro 7 O (kT O O XK O O O ?_);rw[d];try rfl
  have d:=f.trans (Zm (by rintro(q|q|q);exact q I;exact o ((ZI m).symm.trans q);exact w ((ZI B).symm.trans q)));rw[ZI h0,ZI m,ZI B]at d;refine ro 5 O (kc (S.aP (n:=0) Z2 .none O (zt O) (.af O) O h0 O) (kc (zV Y9 O O) ?_));refine kc (zK (Y6 (by have:=gH (c:=32) _ (Zt h0);omega)) call76 O) ?_;refine rr 9 O (kV (.c (zm O) (.c (S.aP (n:=1) Z2 .none O (zt O) (.af O) O m O) (.c (zV Y9 O O) (.c (zm O) (.c (S.aP (n:=2) Z2 .none O (zt O) (.af O) O B O) (.c (zV Y9 O O) (.c (zf Wl O) (.c (zS Y9 O O O O O O) (.c (zf T6 O) (.c (zS Y9 O O O O O O) .nil)))))))))) (rd 9 O (kT O O XK O O O ?_)));rw[d];try rfl
 have f:=M.trans (Zm x);refine OK.join (G:=Bool) [7,2] (fun E=>[(2,.ptr 2 0),(1002,.box [.str [],.str [],.str [],.str [],bv 0]),(4,.str (aL 32 s).1),(5,.str (aL 32 s).2.1),(6,.bool (aL 32 s).2.2),(7,.ptr 7 0),(1007,.box [.str (aL 32 s).1,.str [],.str [],.str (aL 32 s).2.1,bv 0]),(8,.sl ((aj 32 (aL 32 s).2.1).map fun p=>[.str p])),(9,.bool true),(27,.str (aL 32 s).1),(74,.bool E)]) (fun E=>E=decide ((aL 32 s).1=gR[4]\/(aL 32 s).1=gR[5]\/(aL 32 s).1=gR[8]\/(aL 32 s).1=gR[11]\/(aL 32 s).1=gR[12])) (fun _=>O) ?_ ?_
 ·refine ro 6 O (kB O (fun a=>?_) (fun a=>?_))
  ·try (have d:=f.trans (Zn (pf (e.symm.trans a))))
   refine OK.skip (Ab.D.lp ⟨_,(by first|exact(Zz a).trans (Zz (by first|exact .inl a|exact .inr (.inl a)|exact .inr (.inr (.inl a))|exact .inr (.inr (.inr (.inl a))))).symm|exact Kw b|exact Kx (by assumption) (by assumption) (by assumption) (by assumption)),O,O,O,O,O,O,O,O,O,O,O,Zo⟩)
  try (have A:=f.trans (Zm (a6 (e.symm.trans a))))
  refine ro 6 O (kB O (fun a=>?_) (fun a=>?_))
  ·try (have d:=f.trans (Zn (pf (e.symm.trans a))))
   refine OK.skip (Ab.D.lp ⟨_,(by first|exact(Zz a).trans (Zz (by first|exact .inl a|exact .inr (.inl a)|exact .inr (.inr (.inl a))|exact .inr (.inr (.inr (.inl a))))).symm|exact Kw b|exact Kx (by assumption) (by assumption) (by assumption) (by assumption)),O,O,O,O,O,O,O,O,O,O,O,Zo⟩)
  try (have A:=f.trans (Zm (a6 (e.symm.trans a))))
  refine ro 6 O (kB O (fun a=>?_) (fun a=>?_))
  ·try (have d:=f.trans (Zn (pf (e.symm.trans a))))
   refine OK.skip (Ab.D.lp ⟨_,(by first|exact(Zz a).trans (Zz (by first|exact .inl a|exact .inr (.inl a)|exact .inr (.inr (.inl a))|exact .inr (.inr (.inr (.inl a))))).symm|exact Kw b|exact Kx (by assumption) (by assumption) (by assumption) (by assumption)),O,O,O,O,O,O,O,O,O,O,O,Zo⟩)
  try (have A:=f.trans (Zm (a6 (e.symm.trans a))))
  refine ro 6 O (kB O (fun a=>?_) (fun a=>?_))
  ·try (have d:=f.trans (Zn (pf (e.symm.trans a))))
   refine OK.skip (Ab.D.lp ⟨_,(by first|exact(Zz a).trans (Zz (by first|exact .inl a|exact .inr (.inl a)|exact .inr (.inr (.inl a))|exact .inr (.inr (.inr (.inl a))))).symm|exact Kw b|exact Kx (by assumption) (by assumption) (by assumption) (by assumption)),O,O,O,O,O,O,O,O,O,O,O,Zo⟩)
  try (have A:=f.trans (Zm (a6 (e.symm.trans a))))
  refine ro 4 O ?_;refine Ab.D.lp ⟨_,(by first|exact(Zz a).trans (Zz (by first|exact .inl a|exact .inr (.inl a)|exact .inr (.inr (.inl a))|exact .inr (.inr (.inr (.inl a))))).symm|exact Kw b|exact Kx (by assumption) (by assumption) (by assumption) (by assumption)),O,O,O,O,O,O,O,O,O,O,O,Zo⟩
 rintro E e;refine OK.cond O O (fun a=>?_) (fun a=>?_)
 ·try (have d:=f.trans (Zn (pf (e.symm.trans a))))
  refine ro 3 O (kc (zK (Y6 I) call76 O) ?_);refine rr 16 O (kT O O XK O O O ?_);rw[d];try rfl
 try (have A:=f.trans (Zm (a6 (e.symm.trans a))))
 refine ro 6 O (kB O (fun v=>?_) (fun v=>?_))
 ·have z:=A.trans (Zn v);refine ro 4 O (kc (zk Z2 O) (rr 2 O (RK.bh (t:=93) O (fun F=>?_) (fun F=>?_))))
  ·have d:=z.trans (Zn (.inl I));refine rr 15 O (kT O O XK O O O ?_);rw[d];try rfl
  have m:1<R (aj 32 (aL 32 s).2.1):=I
  refine kc (S.move (zg O O) O (zt O)) (kc (S.aP (n:=0) Z2 (zg O O) O (zt O) (.af O) O h0 O) (rr 5 O (kB O (fun u=>?_) (fun u=>?_))))
  ·have d:=z.trans (Zn (.inr ((ZI h0).trans u)));refine ro 7 O (kT O O XK O O O ?_);rw[d];try rfl
  have d:=z.trans (Zm (by rintro(q|q);exact q I;exact u ((ZI h0).symm.trans q)));rw[ZI h0,ZI m]at d;refine ro 5 O (kc (S.aP (n:=0) Z2 .none O (zt O) (.af O) O h0 O) (rr 8 O (kc (S.aP (n:=1) Z2 .none O (zt O) (.af O) O m O) (kc (zV Y9 O O) ?_))));refine kc (zK (Y6 (by have:=gH (c:=32) _ (Zt m);omega)) call76 O) ?_;refine rr 16 O (kT O O XK O O O ?_);rw[d];try rfl
 have z:=A.trans (Zm v);refine ro 6 O (kB O (fun j=>?_) (fun j=>?_))
 ·have d:=z.trans (Zn j);refine ro 11 O (kc (zk Z2 O) (rr 2 O (RK.bh (t:=122) O (fun C=>?_) (fun C=>?_))))
  ·rw[Zz (show(R (aj 32 (aL 32 s).2.1))=1 by omega),tn]at d;refine rr 7 O (kT O O XK O O O ?_);rw[d];try rfl
  rw[Zy (show¬R (aj 32 (aL 32 s).2.1)=1 by omega),tp]at d;refine rr 7 O (kT O O XK O O O ?_);rw[d];try rfl
 have L:=z.trans (Zm j);refine ro 6 O (kB O (fun i=>?_) (fun i=>?_))
 ·have d:=L.trans (Zn i);refine ro 3 O (kc (zK (XW I) call75 O) ?_);refine rr 19 O (kc (zK (Y6 I) call76 O) ?_);refine rr 13 O (RK.split (t:=144) O (fun h=>?_) (fun h=>?_))
  ·rw[show(lj (aL 32 (aL 32 s).2.1).1).2=true from h,tn]at d;refine rr 6 O (kT O O XK O O O ?_);rw[d];try rfl
  rw[show(lj (aL 32 (aL 32 s).2.1).1).2=false from h,tp]at d;refine rr 6 O (kT O O XK O O O ?_);rw[d];try rfl
 have d:=L.trans (Zm i);refine ro 6 O (kc (zK (XW I) call75 O) ?_);refine rr 24 O (RK.split (t:=159) O (fun g=>?_) (fun g=>?_))
 ·rw[show(aL 32 (aL 32 s).2.1).2.2=true from g,tn]at d;refine rr 7 O (kT O O XK O O O ?_);rw[d];try rfl
 rw[show(aL 32 (aL 32 s).2.1).2.2=false from g,tp]at d;refine rr 7 O (kT O O XK O O O ?_);rw[d];try rfl
def Sg:Ct prog 120 [] (.sl (gR.map fun v=>[.str v])):=by
 refine cI func120 O (kr (kc (S.assign .none O .fW) (rr 4 O ?_)));refine RK.c (zM [[_],[_],[_],[_],[_],[_],[_],[_],[_],[_],[_],[_],[_]] XP O O O O) ?_;refine rr 3 O ?_;refine OK.ret (aA.r1 (.tmp O O (.c (.own O O N) O) O) ?_);rfl
def Sf:Ct prog 121 [] (.sl (yM.map fun n=>[bv n])):=by
 refine cI func121 O (kr (kc (S.assign .none O .fW) (rr 24 O ?_)));refine RK.c (zM [[_],[_],[_],[_],[_],[_],[_],[_],[_],[_],[_],[_],[_]] ZM O O O O) ?_;refine rr 3 O ?_;refine OK.ret (aA.r1 (.tmp O O (.c (.own O O N) O) O) ?_);rfl
end Go.Proofs.YtdhdgbnafkeifaaGreatDoor
namespace Go.Proofs.YtdhdgbnafkeifaaGreatDoor
open Go.Ab Tryz
def K8{k n m:Nat}(h:n=m):some (X.box [.own k n])=some (X.box [.own k m]):=by rw[h]
def YV(w:ba):Option Int:=if numOk w 7=true then some (bp w)else none
def Rp{w:ba}(h:numOk w 7=true):YV w=some (bp w):=Zn h
def WA{w:ba}(h:numOk w 7=false):YV w=none:=Zm (by grind)
def Ug:∀(L:List ba),fy YV L=if(L.all fun w=>numOk w 7)=true then some (L.map bp)else none
 |[]=>rfl
 |w::L=>by
  rw[fy,Ug L,so];cases h:numOk w 7 with
  |true=>simp_all[Rp]
  |false=>rw[WA h,tp];rfl
theorem WJ(n:Nat)(p:ba):Ja n p=match fy YV (aj 32 p)with|some a=>if R a=n then some a else none|none=>none:=by
 unfold Ja;rw[Ug];grind
def Zh(q:bd×Int)(w:ba):(bd×Int)×Option Code:=match YV w with
 |some v=>((q.1++[v],q.2),none)
 |none=>((q.1,7),some .ret)
def N3{q:bd×Int}{w:ba}{v:Int}(h:YV w=some v):Zh q w=((q.1++[v],q.2),none):=by unfold Zh;rw[h]
def R6{q:bd×Int}{w:ba}(h:YV w=none):Zh q w=((q.1,7),some .ret):=by unfold Zh;rw[h]
def XS{β τ:Type}(e:τ):∀l:List β,l.foldl (fun e _=>e) e=e
 |[]=>rfl
 |_::l=>XS e l
def Qx{L:List ba}{t:Int}{q:bd×Int}(h:au (Ab.stepG Zh) ((([],t):bd×Int),none) L=((q,none),true)):fy YV L=some q.1/\q.2=t:=by
 obtain⟨c,a,rfl⟩:=Ue (f:=YV) (upd:=fun e _=>e) (bad:=fun q=>q.2=7) (fun q x b h=>N3 h) (fun q x h=>⟨_,R6 h,rfl⟩) h;simp_all[XS]
def Ml{L:List ba}{t:Int}{q:bd×Int}{a:Code}(h:(au (Ab.stepG Zh) ((([],t):bd×Int),none) L).1=(q,some a)):fy YV L=none/\q.2=7/\a=.ret:=
 Uh (f:=YV) (upd:=fun e _=>e) (bad:=fun q=>q.2=7) (fun q x b h=>N3 h) (fun q x h=>⟨_,R6 h,rfl⟩) h
def Ks{L:List ba}{i:Nat}{t:Int}{q:bd×Int}(h:au (Ab.stepG Zh) ((([],t):bd×Int),none) (L.take i)=((q,none),true)):R q.1<=R L:=by
 have:=Y0 (Qx h).1;grind
def YX(n:Nat)(q:List bd×Int)(p:ba):(List bd×Int)×Option Code:=match(au (Ab.stepG Zh) ((([],q.2):bd×Int),none) (aj 32 p)).1 with
 |(r,none)=>if R r.1=n then((q.1++[r.1],r.2),none)else((q.1,7),some .ret)
 |(r,some cd)=>((q.1,r.2),some cd)
section
variable{n:Nat}{q:List bd×Int}{p:ba}{r:bd×Int}
def Lj(h:au (Ab.stepG Zh) ((([],q.2):bd×Int),none) (aj 32 p)=((r,none),true))(a:R r.1=n):YX n q p=((q.1++[r.1],r.2),none):=by simp_all[YX]
def OF(h:au (Ab.stepG Zh) ((([],q.2):bd×Int),none) (aj 32 p)=((r,none),true))(a:¬R r.1=n):YX n q p=((q.1,7),some .ret):=by simp_all[YX]
def OG{a:Code}(h:(au (Ab.stepG Zh) ((([],q.2):bd×Int),none) (aj 32 p)).1=(r,some a)):YX n q p=((q.1,r.2),some a):=by unfold YX;rw[h]
def rw_T{b:bd}(h:Ja n p=some b):YX n q p=((q.1++[b],q.2),none):=by
 rw[WJ]at h;split at h
 ·rename_i c a;split at h
  ·rename_i d;cases h;have g:=(W5 (f:=YV) (step:=Zh) (upd:=fun e _=>e) (bad:=fun q=>q.2=7) (fun q x b h=>N3 h) (fun q x h=>⟨_,R6 h,rfl⟩) (aj 32 p) ([],q.2)).1 _ a;simp_all[Lj,XS]
  cases h
 cases h
def rw_F(h:Ja n p=none):∃a,YX n q p=(a,some .ret)/\a.2=7:=by
 rw[WJ]at h;have hi:=W5 (f:=YV) (step:=Zh) (upd:=fun e _=>e) (bad:=fun q=>q.2=7) (fun q x b h=>N3 h) (fun q x h=>⟨_,R6 h,rfl⟩) (aj 32 p) ([],q.2);split at h
 ·rename_i i c;split at h
  ·cases h
  rename_i j;exact⟨_,OF (hi.1 _ c) (by grind),rfl⟩
 rename_i c;obtain⟨a,g,d⟩:=hi.2 c;exact⟨_,OG (by rw[g]),d⟩
end
def QF{n:Nat}{L:List ba}{q:List bd×Int}(h:au (Ab.stepG (YX n)) ((([],0):List bd×Int),none) L=((q,none),true)):fy (Ja n) L=some q.1/\q.2=0:=by
 obtain⟨c,a,rfl⟩:=Ue (f:=Ja n) (upd:=fun e _=>e) (bad:=fun q=>q.2=7) (fun q x b h=>rw_T h) (fun q x h=>rw_F h) h;simp_all[XS]
def MC{n:Nat}{L:List ba}{q:List bd×Int}{a:Code}(h:(au (Ab.stepG (YX n)) ((([],0):List bd×Int),none) L).1=(q,some a)):fy (Ja n) L=none/\q.2=7/\a=.ret:=
 Uh (f:=Ja n) (upd:=fun e _=>e) (bad:=fun q=>q.2=7) (fun q x b h=>rw_T h) (fun q x h=>rw_F h) h
def KO{n:Nat}{L:List ba}{i:Nat}{q:List bd×Int}(h:au (Ab.stepG (YX n)) ((([],0):List bd×Int),none) (L.take i)=((q,none),true)):R q.1<=R L:=by
 have:=Y0 (QF h).1;grind
def QE{n:Nat}{s:ba}(h:60000<R s):Is n s=([],8):=Zn h
def QD{n:Nat}{s:ba}{l:List bd}(h:¬60000<R s)(a:fy (Ja n) (aj 59 s)=some l):Is n s=(l,0):=by unfold Is;simp_all
def VV{n:Nat}{s:ba}(h:¬60000<R s)(a:fy (Ja n) (aj 59 s)=none):Is n s=([],7):=by unfold Is;simp_all
def RR{α β:Type}{f:α->Option β}:∀{l:List α}{bs:List β},fy f l=some bs->∀b∈bs,∃a∈l,f a=some b
 |[],bs,h,b,d=>by simp_all[fy]
 |a::l,bs,h,b,d=>by
  simp only[fy]at h;split at h
  ·cases h
  rename_i c g;rw[M2]at h;obtain⟨r,e,rfl⟩:=h;rcases sf.1 d with rfl|d
  ·simp_all
  obtain⟨k,j,i⟩:=RR e b d;grind
def Uv{n:Nat}{s:ba}{r:bd}(h:r∈(Is n s).1):R r=n:=by
 unfold Is at h;split at h
 ·cases h
 split at h
 ·rename_i l b;obtain⟨a,_,c⟩:=RR b r h;grind [WJ]
 cases h
def Uu{n:Nat}{s:ba}(h:R s<=100000):R (Is n s).1<=100001:=by
 grind [Is,Y0,n9]
def L8{r:bd}(h:R r=4):∃a b c d,r=[a,b,c,d]:=by
 match r,h with
 |[a,b,c,d],_=>simp
def O3(l:List jI)(i:Nat)(x:jI):Int:=Fe i (l.getD (i - 1) x) x
def YY{l:List jI}{i:Nat}(h:i - 1<R l)(x:jI):O3 l i x=Fe i l[i - 1] x:=by unfold O3;grind
def Na{a b:Bool}(h:¬aF [ae a 2,ae b 9]≠0):a=true/\b=true:=by
 cases a<;>cases b<;>first|exact⟨rfl,rfl⟩|exact absurd C h
structure XX(x:jI):Prop where
 depth:1<=x.depth/\x.depth<=10000
 diag:1<=x.diag/\x.diag<=10000
 lo:0<=x.lo/\x.lo<=2000
 hi:0<=x.hi/\x.hi<=2000
 ord:x.lo<=x.hi
def OD{x:jI}{p:Bool}(h:(xk x.depth&&xk x.diag&&ve x.lo&&ve x.hi)=true)(b:p=decide (x.lo<=x.hi))(a:p=true):XX x:=by
 simp only[Zw]at h;obtain⟨⟨⟨f,e⟩,d⟩,c⟩:=h;rw[b]at a;exact⟨pf f,pf e,pf d,pf c,pf a⟩
def Tt{i:Nat}{b x:jI}{a:Bool}(c:a=(xk x.depth&&xk x.diag&&ve x.lo&&ve x.hi))(h:aF [ae a 2,ae (decide (x.lo<=x.hi)) 9]≠0):Fe i b x=aF [ae a 2,ae (decide (x.lo<=x.hi)) 9]:=by
 subst c;exact Zn h
theorem Ra{i:Nat}{b x:jI}{a:Bool}(c:a=(xk x.depth&&xk x.diag&&ve x.lo&&ve x.hi))(h:¬aF [ae a 2,ae (decide (x.lo<=x.hi)) 9]≠0)(hi:i=0):Fe i b x=ae (decide (2 * x.depth>=5 * x.diag)) 17:=by
 simp_all[Fe]
theorem Rb{i:Nat}{b x:jI}{a:Bool}(c:a=(xk x.depth&&xk x.diag&&ve x.lo&&ve x.hi))(h:¬aF [ae a 2,ae (decide (x.lo<=x.hi)) 9]≠0)(hi:¬i=0):Fe i b x=ae (decide (x.depth - b.depth>=3 * max x.diag b.diag)) 17:=by
 simp_all[Fe]
def VS{i:Nat}{b x:jI}(h:¬Fe i b x≠0):XX x/\(i=0->2 * x.depth>=5 * x.diag)/\(¬i=0->x.depth - b.depth>=3 * max x.diag b.diag):=by
 by_cases a:aF [ae (xk x.depth&&xk x.diag&&ve x.lo&&ve x.hi) 2,ae (decide (x.lo<=x.hi)) 9]≠0
 ·rw[Tt rfl a]at h;omega
 obtain⟨e,d⟩:=Na a;refine⟨OD e rfl d,fun hi=>?_,fun hi=>?_⟩
 ·rw[Ra rfl a hi]at h;cases c:decide (2 * x.depth>=5 * x.diag)with
  |true=>simp_all
  |false=>rw[c]at h;exact absurd C h
 rw[Rb rfl a hi]at h;cases c:decide (x.depth - b.depth>=3 * max x.diag b.diag)with
 |true=>simp_all
 |false=>rw[c]at h;exact absurd C h
def QN(l:List jI)(i:Nat):Prop:=∀j y,j<i->l[j]?=some y->XX y
def QN.succ{l:List jI}{i:Nat}(h:QN l i)(hi:i<R l)(b:XX l[i]):QN l (i+1):=by
 intro j y c a;by_cases e:j=i
 ·simp_all
 exact h j y I a
def QN.prev{l:List jI}{i:Nat}(h:QN l i)(hi:i<R l):i=0\/XX l[i - 1]:=by
 by_cases e:i=0
 ·exact .inl e
 exact .inr (h (i - 1) _ I (Zv I))
def Zk(l:List jI):Int:=aF [ae (decide ((R l:Int)>=2)) 10,ae (decide ((R l:Int)<=20)) 8]
def VY{l:List jI}(h:Zk l≠0):FU l=(0,Zk l):=Zn h
def TV{l:List jI}(h:¬Zk l≠0):FU l=aK (O3 l) 0 l:=Zm h
structure Wr(l:List jI):Prop where
 len:2<=l.length/\l.length<=20
 ok:∀y∈l,XX y
 asc:∀j (h:j+1<l.length),(l[j]' I).depth<l[j+1].depth
def US{α:Type}(g:Nat->α->Int):∀(l:List α)(k:Nat),(aK g k l).2=0->∀(i:Nat)(h:i<R l),g (k+i) l[i]=0
 |x::l,k,he,i,h=>by
  rw[aK]at he;split at he
  ·omega
  rename_i a;cases i with
  |zero=>simp_all
  |succ i=>
   have:=US g l (k+1) he i (by grind);grind
def VZ{l:List jI}(h:(FU l).2=0):Wr l:=by
 by_cases b:Zk l≠0
 ·simp_all[VY]
 rw[TV b]at h;have o:2<=R l/\R l<=20:=by
  unfold Zk at b;by_cases d:(R l:Int)>=2
  ·by_cases g:(R l:Int)<=20
   ·omega
   rw[Zz d,Zy g]at b;exact absurd C b
  rw[Zy d]at b;cases t:decide ((R l:Int)<=20)<;>rw[t]at b<;>exact absurd C b
 have k:∀(i:Nat)(hi:i<R l),XX l[i]/\(¬i=0->l[i].depth - (l[i - 1]' I).depth>=3 * max l[i].diag (l[i - 1]' I).diag):=by
  intro i hi;have f:=US _ l 0 h i hi;rw[wc,YY I]at f;obtain⟨a,_,c⟩:=VS (fun e=>e f);simp_all
 refine⟨o,fun y m=>?_,fun j s=>?_⟩
 ·obtain⟨i,hi,rfl⟩:=i6 m;simp_all
 obtain⟨a,c⟩:=k (j+1) s;have:=c I;have u:=a.diag;grind
def Xn{s:ba}(h:(if(Is 4 s).2=0 then(FU ((Is 4 s).1.map xj)).2 else(Is 4 s).2)≠0):DH s=([],if(Is 4 s).2=0 then(FU ((Is 4 s).1.map xj)).2 else(Is 4 s).2):=Zn h
def TW{s:ba}(h:¬(if(Is 4 s).2=0 then(FU ((Is 4 s).1.map xj)).2 else(Is 4 s).2)≠0):DH s=((Is 4 s).1.map xj,0):=Zm h
def RV{R:List bd}{k:Nat}(h:k<R.length):((R.take (k+1)).map xj).map jI.cs=((R.take k).map xj).map jI.cs++[(xj R[k]).cs]:=by
 grind [List.take_succ_eq_append_getElem]
def Qt(R:List bd){k:Nat}(h:k<=R.length):(((R.take k).map xj).map jI.cs).length=k:=by
 simp_all
def U0{n lo hi:Int}:Ct prog 311 [bv n,bv lo,bv hi] (.bool (decide (lo<=n/\n<=hi))):=by
 refine cI func311 O (ro 11 O (RK.bh (t:=10) O (fun a=>?_) (fun a=>?_)))
 ·refine rr 7 O (kR O O ?_);simp[*]
 refine rr 7 O (kR O O ?_);simp[*]
def ZW{ok:Bool}{e:Int}:Ct prog 266 [.bool ok,bv e] (bv (ae ok e)):=by
 refine cI func266 O (ro 11 O (OK.cond O O (fun a=>?_) (fun a=>?_)))
 ·refine ro 5 O (kR O O ?_);simp[ae, *]
 refine ro 8 O (kR O O ?_);simp[ae, *]
def Yu{l:bd}:Ct prog 265 [ints l] (bv (aF l)):=by
 refine cI func265 O (OK.eW (rows:=l.map fun n=>[bv n]) (t:=0) O O fun hlen=>?_);rw[Zx]at hlen;unfold maxLen at hlen;refine ro 9 O (kc (zk UG O) (rr 4 O ?_));refine OK.loop (G:=Nat) [] (fun i=>[(5,ints l),(6,bv (R l)),(7,bv i)]) (fun i=>i<=R l/\aF l=aF (l.drop i)) (fun i=>R l - i) 0 ⟨Zr _,O⟩ ⟨O,O,O,Zo⟩ (fun _=>O) ?_;rintro i ⟨hi,a⟩;refine ro 6 O (kB O (fun c=>?_) (fun c=>?_))
 ·refine ro 6 O (kc (zI UG O I O) ?_);refine rr 10 O (kB O (fun b=>?_) (fun b=>?_))
  ·refine ro 6 O (kR O O ?_);rw[a,fq I];simp_all
  refine Ro 7 O I (Ab.D.lp ⟨i+1,⟨by omega,?_⟩,I,O,O,O,Zo⟩);rw[a,fq I];simp_all
 refine ro 7 O (kR O O ?_);have:i=R l:=by omega
 subst this;rw[a,no];rfl
def YJ{n:Int}:Ct prog 267 [bv n] (.bool (ve n)):=by
 refine cI func267 O (ro 8 O (kc (zK U0 call311 O) (rr 3 O (kR O O ?_))));rfl
def Wa{n:Int}:Ct prog 356 [bv n] (.bool (xk n)):=by
 refine cI func356 O (ro 8 O (kc (zK U0 call311 O) (rr 3 O (kR O O ?_))));rfl
def Tv{n lo hi:Int}:Ct prog 353 [bv n,bv lo,bv hi] (bv (aF [ae (decide (n>=lo)) 10,ae (decide (n<=hi)) 8])):=by
 refine cI func353 O (ro 10 O (kc (zK ZW call266 O) (rr 3 O (kc (zK ZW call266 O) ?_))));refine RK.c (zM [[_],[_]] ZF O O O O) (kc (S.callL (Yu (l:=[_,_])) call265 .none O (zc O .nil) (.cons (.p (.own O O) O) .nil) O) ?_);refine rr 3 O (kR O O ?_);rfl
def Pj{l:ba}{n:Nat}(hl:R l<=100000):gz prog 263 [.str l,bv (n:Int)] (.cf [.sl ((Is n l).1.map fun r=>[ints r]),bv (Is n l).2]):=by
 refine cT func263 O fun f=>?_
 refine ro 15 O (kB O (fun P=>?_) (fun P=>?_))
 ·refine kr (kc (S.store WL .none (zt O) .fW O O O O O O) (rr 3 O (OK.ret (aA.r2 (.wI O O O O WL (.same O) O) (.wI O O O O J6 (.same O) O) ?_))));rw[QE I]
  all_goals rfl
 refine ro 11 O ?_;refine RK.c (S.Hv [871,872,873] (Xk (l:=l) (c:=59)) call309 .none O (zc O (.cons (.bj (l:=[59]) O C) .nil)) O) ?_;refine rr 3 O (OK.Yf 4 0 O O O O (OK.nP 6 0 880 1 O O O O O ?_));refine OK.qX (ps:=[17]) (encs:=(fun s=>[.str s])) (L:=(aj 59 l)) [3,4,5,6,880] [(3,.ptr 3 0),(4,.ptr 4 0),(5,.ptr 5 0),(6,.ptr 6 0)] (fun q=>[(1003,.box [bv (n:Int)]),(1004,.box [.sl []]),(1005,.box [bv q.2]),(1006,.box [.own 880 (R q.1)]),(2880,.arr 1 (q.1.map fun r=>[ints r]))]) (([],0):List bd×Int) (YX n) [(871,[.str [59]]),(872,[.str l]),(873,[bv 0])] (Uw (c:=59) hl) ⟨O,O,O,Zo⟩ O call370 (.inl O) (zt O) O ⟨O,O,O,O,O,O,O,O,(bH N),Zo⟩ (fun _=>O) (fun _=>O) (fun _=>O) (fun _=>O) (fun _=>O) C O ?_ ?_ ?_
 ·rintro i x q X g lr c0 w0 T Q G a;have f:=a.FX f;have m:=mr X;have W:=gH x m;have o:=KO g;have E:=n9 (c:=59) (l:=l);refine OK.bN (ja O (RK.nil ?_));refine⟨rfl,?_⟩;refine ro 10 O ?_;refine RK.c (S.Hv [871,872,873] (Xk (l:=x) (c:=32)) call309 .none O (zc O (.cons (.bj (l:=[32]) O C) .nil)) O) ?_;refine rr 3 O (OK.nP 8 0 881 1 O O O O O ?_);refine OK.qX (ps:=[20]) (encs:=(fun s=>[.str s])) (L:=(aj 32 x)) [3,4,5,6,880,8,881] [(3,.ptr 3 0),(4,.ptr 4 0),(5,.ptr 5 0),(6,.ptr 6 0),(8,.ptr 8 0)] (fun p=>[(1003,.box [bv (n:Int)]),(1004,.box [.sl []]),(1005,.box [bv p.2]),(1006,.box [.own 880 (R q.1)]),(2880,.arr 1 (q.1.map fun r=>[ints r])),(1008,.box [.own 881 (R p.1)]),(2881,.arr 1 (p.1.map fun v=>[bv v]))]) (([],q.2):bd×Int) Zh [(871,[.str [32]]),(872,[.str x]),(873,[bv 0])] (Uw (c:=32) I) ⟨O,O,O,Zo⟩ O call370 (.inr ⟨_,a.nS⟩) (zt O) O ⟨O,O,O,O,O,O,O,O,O,(bH N),O,(bH N),Zo⟩ (fun _=>O) (fun _=>O) (fun _=>O) (fun _=>O) (fun _=>O) C O ?_ ?_ ?_
  ·rintro j y p V b lr c0 w0 T Q G a;have f:=a.FX f;have k:=mr V;have U:=gH y k;have w:=Ks b;have D:=n9 (c:=32) (l:=x);refine OK.bN (ja O (RK.nil ?_));refine⟨rfl,?_⟩;refine ro 4 O (kc (S.dB (uY (l:=y) I) f call126 .none O (zc O .nil) O) ?_);refine rr 11 O (kc (S.neerr underlying228 .none O (zt O)) (jm O (RK.split (t:=28) O (fun K=>?_) (fun K=>?_))))
   ·refine rr 19 O (kc (S.store WL .none (zt O) .fW O O O O O O) (rr 3 O (OK.ret ?_)));rw[R6 (WA (by unfold numOk;first|(simp_all;done)|(simp_all;omega)))];exact⟨rfl,rfl,rfl,rfl,rfl,rfl,rfl,rfl,Zo⟩
   refine rr 4 O (RK.bh (t:=32) O (fun J=>?_) (fun J=>?_))
   ·refine rr 15 O (kc (S.store WL .none (zt O) .fW O O O O O O) (rr 3 O (OK.ret ?_)));rw[R6 (WA (by unfold numOk;first|(simp_all;done)|(simp_all;omega)))];exact⟨rfl,rfl,rfl,rfl,rfl,rfl,rfl,rfl,Zo⟩
   refine kc (S.move (zg O O) O (zt O)) (kc (S.dB (pS (nk y)) f call124 (zg O O) O (zc O .nil) O) (rr 4 O (RK.bh (t:=38) O (fun H=>?_) (fun H=>?_))))
   ·refine rr 9 O (kc (S.store WL .none (zt O) .fW O O O O O O) (rr 3 O (OK.ret ?_)));rw[R6 (WA (by unfold numOk;first|(simp_all;done)|(simp_all;omega)))];exact⟨rfl,rfl,rfl,rfl,rfl,rfl,rfl,rfl,Zo⟩
   refine rr 6 O (kB O (fun M=>?_) (fun M=>?_))
   ·refine kr (kc (S.store WL .none (zt O) .fW O O O O O O) (rr 3 O (OK.ret ?_)));rw[R6 (WA (by unfold numOk;first|(simp_all;done)|(simp_all;omega)))];exact⟨rfl,rfl,rfl,rfl,rfl,rfl,rfl,rfl,Zo⟩
   refine ro 5 O ?_;refine RK.c (zM [[_]] ZM O O O O) ?_;refine kc (zP ZM O O F N I (by simp only[maxLen];omega)) ?_;refine rr 3 O ?_;rw[N3 (Rp (by unfold numOk;first|(simp_all;done)|(simp_all;omega)))];exact⟨rfl,rfl,rfl,rfl,rfl,rfl,K8 F,bH F,Zo⟩
  ·rintro p b;obtain⟨A,Z⟩:=Qx b;have w:=Y0 A;have D:=n9 (c:=32) (l:=x);refine rd 4 O ?_;refine OK.Yp 8 0 O O O O F O ?_;refine ro 2 O (kc (zk Z4 O) (rr 4 O (kB O (fun e=>?_) (fun e=>?_))))
   ·have z:¬R p.1=n:=by first|omega|(simp only[Zx]at e;omega)
    refine kr (kc (S.store WL .none (zt O) .fW O O O O O O) (rr 3 O (OK.ret ?_)));rw[OF b z];exact⟨rfl,rfl,rfl,rfl,rfl,rfl,Zo⟩
   have B:R p.1=n:=by first|omega|(simp only[Zx]at e;omega)
   refine ro 5 O ?_;refine RK.c (zM [[_]] MW O O O O) ?_;refine kc (zP MW O O F N I (by simp only[maxLen];omega)) ?_;refine rr 3 O ?_;rw[Lj b B];exact⟨rfl,rfl,rfl,rfl,K8 F,bH (by simp[ints]),Zo⟩
  rintro p cd b;obtain⟨_,_,d⟩:=Ml b;subst d;refine OK.ret ?_;rw[OG b];exact⟨rfl,rfl,rfl,rfl,rfl,rfl,Zo⟩
 ·rintro q g;obtain⟨h,Y⟩:=QF g;have o:=Y0 h;have E:=n9 (c:=59) (l:=l);refine rd 9 O ?_;refine OK.ret (aA.r2 (.wI O O O O WL (.own O O N) O) (.wI O O O O J6 (.same O) O) ?_);rw[QD I h]
  all_goals rfl
 rintro q cd g;obtain⟨h,u,d⟩:=MC g;subst d;refine OK.ret (aA.r2 (.wI O O O O WL (.same O) O) (.wI O O O O J6 (.same O) O) ?_);rw[VV I h,u]
 all_goals rfl
def NC{i:Nat}{b x:jI}(y:i=0\/XX b):Ct prog 355 [bv i,.agg b.cs,.agg x.cs] (bv (Fe i b x)):=by
 refine cI func355 O (ro 7 O ?_);refine OK.join (G:=Bool) [4,5] (fun g=>[(0,bv i),(4,.ptr 4 0),(1004,.box b.cs),(5,.ptr 5 0),(1005,.box x.cs),(7,.bool g)]) (fun g=>g=(xk x.depth&&xk x.diag&&ve x.lo&&ve x.hi)) (fun _=>O) ?_ ?_
 ·refine ro 3 O (kc (zK Wa call356 O) (jm O (RK.split (t:=12) O (fun k=>?_) (fun k=>?_))))
  ·refine rr 2 O (kc (S.call (Wa) call356 (zg O O) O (zc O .nil) O) (rr 2 O (RK.split (t:=17) O (fun j=>?_) (fun j=>?_))))
   ·refine rr 3 O (kc (S.call (YJ) call267 (zg O O) O (zc O .nil) O) (rr 2 O (RK.split (t:=23) O (fun h=>?_) (fun h=>?_))))
    ·refine rr 3 O (kc (S.call (YJ) call267 (zg O O) O (zc O .nil) O) (rr 3 O ?_));refine Ab.D.lp ⟨(ve x.hi),(by simp[*]),O,O,O,O,O,O,Zo⟩
    refine rr 7 O ?_;refine Ab.D.lp ⟨false,(by simp[*]),O,O,O,O,O,O,Zo⟩
   refine rr 13 O ?_;refine Ab.D.lp ⟨false,(by simp[*]),O,O,O,O,O,O,Zo⟩
  refine rr 18 O ?_;refine Ab.D.lp ⟨false,(by simp[*]),O,O,O,O,O,O,Zo⟩
 rintro g d;refine kO (kO (kV (.c (zm O) (.c (zK ZW call266 O) (.c (zf Yw O) (.c (zf Ze O) (.c (zl Z8 O O O O) (.c (zf Yw O) (.c (zf YU O) (.c (zl Z8 O O O O) (.c (S.leq .none O (zt O) (zt O)) (.c (zK ZW call266 O) (.c (zM [[_],[_]] ZF O O O O) (.c (S.callL (Yu (l:=[_,_])) call265 .none O (zc O .nil) (.cons (.p (.own O O) O) .nil) O) (.c (za O) .nil))))))))))))) ?_));refine rd 7 O (kB O (fun a=>?_) (fun a=>?_))
 ·have f:=Tt (i:=i) (b:=b) d a;refine ro 6 O (kR O O ?_);rw[f];try rfl
 obtain⟨A,z⟩:=Na a;have o:=OD (d▸A) rfl z;have u:=o.depth;have s:=o.diag;refine ro 9 O (kB O (fun m=>?_) (fun m=>?_))
 ·have f:=Ra (b:=b) d a (by omega:i=0);refine ro 4 O ?_;refine kc (S.mul .none O (.af O) (zt O) (mn _ I) (mn _ I)) ?_;refine rr 2 O ?_;refine kc (S.mul .none O (.af O) (zt O) (mn _ I) (mn _ I)) (kc (S.geq .none O (zt O) (zt O)) (kc (zK ZW call266 O) ?_));refine rr 3 O (kR O O ?_);rw[f];try rfl
 have f:=Rb (b:=b) d a (by omega:¬i=0);have e:XX b:=y.resolve_left I;have w:=e.depth;have v:=e.diag;refine Ro 13 O I (kc (S.max2 .none O (zt O) (zt O)) ?_);refine kc (S.mul .none O (.af O) (zt O) (mn _ I) (mn _ I)) (kc (S.geq .none O (zt O) (zt O)) (kc (zK ZW call266 O) ?_));refine rr 3 O (kR O O ?_);rw[f];refine cy ?_;rw[show(if x.diag<b.diag then b.diag else x.diag)=max x.diag b.diag by split<;>omega]
 try rfl
def ND{l:List jI}:Ct prog 354 [.sl (l.map jI.cs),.fn 355 []] (.cf [bv (aK (O3 l) 0 l).1,bv (aK (O3 l) 0 l).2]):=by
 refine cI func354 O (OK.eW (rows:=l.map jI.cs) (t:=0) O O fun hlen=>?_);rw[Zx]at hlen;unfold maxLen at hlen;refine ro 10 O (kc (zk YN O) (rr 4 O ?_));refine OK.loop (G:=Nat) [] (fun i=>[(0,.sl (l.map jI.cs)),(1,.fn 355 []),(9,.sl (l.map jI.cs)),(10,bv (R l)),(11,bv i)]) (fun i=>i<=R l/\aK (O3 l) 0 l=aK (O3 l) i (l.drop i)/\QN l i) (fun i=>R l - i) 0 ⟨Zr _,O,fun j y h=>absurd h (bπ _)⟩ ⟨O,O,O,O,O,Zo⟩ (fun _=>O) ?_;rintro i ⟨hi,k,f⟩;refine ro 6 O (kB O (fun m=>?_) (fun m=>?_))
 ·have a:i<R l:=by omega
  have d:i - 1<R l:=by omega
  have g:=f.prev a;refine ro 7 O (kc (zI YN O I O) ?_);refine rr 7 O ?_;refine kV (.c (zm O) (.c (zm O) (.c (zm O) (.c (zm O) (.c (S.sub .none O (zt O) (.af O) (mn _ I) (mn _ I)) (.c (S.max2 .none O (.af O) (zt O)) (.c (S.aP (n:=(i - 1)) YN .none O (zt O) (zt O) I d O) (.c (S.fG LB .none O (zt O) O O) (.c (zL LB O O O O) (.c (S.ij (NC (i:=i) (b:=l[i - 1]) (x:=l[i]) g) call355 .none O (zt O) (zc O (zc O (zc O .nil))) O O O) (.c (za O) .nil))))))))))) ?_;refine rd 7 O (kB O (fun e=>?_) (fun e=>?_))
  ·refine ro 8 O (kS O O O O ?_);rw[k,bE _ a,Zn (by rw[YY d];exact e),YY d]
   try rfl
  refine Ro 7 O I ?_;refine Ab.D.lp ⟨i+1,⟨by omega,by rw[k,bE _ a,Zm (by rw[YY d];exact e)],f.succ a (VS e).1⟩,I,O,O,O,O,O,Zo⟩
 refine ro 8 O (kS O O O O ?_);rw[k,show i=R l by omega,no]
 try rfl
def W9{l:List jI}:Ct prog 310 [.agg [.sl (l.map jI.cs)]] (.cf [bv (FU l).1,bv (FU l).2]):=by
 refine cI func310 O (ro 12 O (kc (zk YN O) (kc (zK Tv call353 O) (rr 9 O (kB O (fun a=>?_) (fun a=>?_))))))
 ·refine ro 7 O (kS O O O O ?_);rw[VY (show Zk l≠0 from a)]
  try rfl
 refine ro 6 O (kc (S.call (ND (l:=l)) call354 .none O (zc O (.cons .oL .nil)) O) (rr 6 O (kS O O O O ?_)));rw[TV (show¬Zk l≠0 from a)]
 try rfl
def X_{l:List jI}:Ct prog 264 [.agg [.sl (l.map jI.cs)]] (bv (FU l).2):=by
 refine cI func264 O (ro 9 O (kc (zK W9 call310 O) (rr 13 O (kR O O ?_))));rfl
def W_{s:ba}(o:R s<=100000):gz prog 213 [.str s] (.cf [.agg [.sl ((DH s).1.map jI.cs)],bv (DH s).2]):=by
 refine cT func213 O fun g=>?_
 have t:=Uu (n:=4) o;refine ro 9 O (kc (S.dB (Pj (n:=4) o) g call263 .none O (zc O (zD O)) O) (rr 16 O (kc (zk Tp O) (rr 4 O (OK.nP 6 0 880 4 O O O O O ?_)))));refine OK.loop (G:=Nat) [2,6,880] (fun k=>[(2,.ptr 2 0),(1002,.box [.bO]),(5,bv (Is 4 s).2),(6,.ptr 6 0),(1006,.box [.own 880 k]),(2880,.arr 4 ((((Is 4 s).1.take k).map xj).map jI.cs)),(14,.sl ((Is 4 s).1.map fun r=>[ints r])),(15,bv (R (Is 4 s).1)),(16,bv k)]) (fun k=>k<=R (Is 4 s).1) (fun k=>R (Is 4 s).1 - k) 0 (Zr _) ⟨O,O,O,O,O,(bH N),O,O,O,Zo⟩ (fun _=>O) ?_;rintro k u;refine ro 6 O (kB O (fun m=>?_) (fun m=>?_))
 ·have i:k<R (Is 4 s).1:=by omega
  obtain⟨a,b,c,d,h⟩:=L8 (Uv (Zt i));refine ro 6 O (kc (zI Tp O I O) ?_);refine rr 4 O ?_;rw[h];refine kV (.c (zf XL O) (.c (zl TC O O O O) (.c (zm O) (.c (S.aP (n:=0) Z4 .none O (zt O) (.af O) O F O) (.c (zV Z8 O O) (.c (zm O) (.c (S.aP (n:=1) Z4 .none O (zt O) (.af O) O F O) (.c (zV Z8 O O) (.c (zm O) (.c (S.aP (n:=2) Z4 .none O (zt O) (.af O) O F O) (.c (zV Z8 O O) (.c (zm O) (.c (S.aP (n:=3) Z4 .none O (zt O) (.af O) O F O) (.c (zV Z8 O O) (.c (zU M6 O O) (.c (zU B_ O O) (.c (zM [[_,_,_,_]] MI O O O O) (.c (zP MI O O (Qt _ I) N I (by simp only[maxLen];omega)) (.c (zf XL O) (.c (zS TC O O O O O O) .nil)))))))))))))))))))) ?_;refine Rd 6 O I ?_;refine Ab.D.lp ⟨k+1,I,I,O,O,O,O,O,(bH (by rw[RV i,h];rfl)),O,O,O,Zo⟩
 have j:k=R (Is 4 s).1:=by omega
 refine ro 4 O ?_;subst j;rw[List.take_length];refine OK.Yp 6 0 O O O O (by rw[Zx,Zx]) O ?_;refine ro 5 O (kB O (fun f=>?_) (fun f=>?_))
 ·refine ro 2 O (kc (zK (X_ (l:=(Is 4 s).1.map xj)) call264 O) (rr 10 O (kB O (fun e=>?_) (fun e=>?_))))
  ·have g:=Xn (s:=s) (by rw[Zn f];exact e);rw[Zn f]at g;refine kr (kc (zU Nj O O) (rr 5 O (OK.ret (aA.r2 (.bG O O O O UO O (.k .bO .z)) (zo O O) ?_))));rw[g];try rfl
  have g:=TW (s:=s) (by rw[Zn f];exact e);refine ro 9 O (kT O O UO O O O ?_);rw[g];try rfl
 refine ro 9 O (kB O (fun e=>?_) (fun e=>?_))
 ·have g:=Xn (s:=s) (by rw[Zm f];exact e);rw[Zm f]at g;refine kr (kc (zU Nj O O) (rr 5 O (OK.ret (aA.r2 (.bG O O O O UO O (.k .bO .z)) (zo O O) ?_))));rw[g];try rfl
 exact absurd f e
end Go.Proofs.YtdhdgbnafkeifaaGreatDoor
namespace Go.Proofs.YtdhdgbnafkeifaaGreatDoor
open Go.Ab Tryz
def UF(p:Int×Int):bi:=[bv p.1,bv p.2]
def NL{l:List jI}{i:Nat}(h:i<R l):(GX l).take (i+1)=(GX l).take i++[(l[i].depth,l[i].lo)]:=by
 simp_all[GX,mv]
def OZ{l:List jI}{i:Nat}(h:i<R l):(yu l).take (i+1)=(yu l).take i++[(l[i].depth,l[i].hi)]:=by
 simp_all[yu,mv]
def U6(l:List jI):R (GX l)=R l:=Zx ..
def Xo(l:List jI):R (yu l)=R l:=Zx ..
def VU{c:List (Int×Int)}{i n:Nat}(a:R c=n)(h:i<=n):R ((c.take i).map UF)=i:=by
 simp_all
def TA{c:List (Int×Int)}{i n:Nat}(a:R c=n)(h:i=n):c.take i=c:=by grind
structure UL(c:List (Int×Int)):Prop where
 at_:∀p∈c,1<=p.1/\p.1<=10000
 num:∀p∈c,0<=p.2/\p.2<=2000
 asc:∀j (h:j+1<c.length),(c[j]' I).1<c[j+1].1
def Wr.lower{l:List jI}(h:Wr l):UL (GX l):=by
 refine⟨fun p b=>?_,fun p b=>?_,fun j c=>?_⟩
 ·obtain⟨x,a,rfl⟩:=rx.1 b;exact(h.ok x a).depth
 ·obtain⟨x,a,rfl⟩:=rx.1 b;exact(h.ok x a).lo
 rw[U6]at c;have:=h.asc j c;simp_all[GX]
def Wr.upper{l:List jI}(h:Wr l):UL (yu l):=by
 refine⟨fun p b=>?_,fun p b=>?_,fun j c=>?_⟩
 ·obtain⟨x,a,rfl⟩:=rx.1 b;exact(h.ok x a).depth
 ·obtain⟨x,a,rfl⟩:=rx.1 b;exact(h.ok x a).hi
 rw[Xo]at c;have:=h.asc j c;simp_all[yu]
def idx_n{α:Type}{g:α->Bool}{l:List α}(h:ix g l=none):bq g 0 l= -1:=by rw[my,h]
def idx_s{α:Type}{g:α->Bool}{l:List α}{j:Nat}(h:ix g l=some j):bq g 0 l=(j:Int):=by rw[my,h]
abbrev ZG(limit:Int):Int×Int->Bool:=fun p=>decide (p.2<limit)
def WU{c:List (Int×Int)}{limit:Int}(h:ix (ZG limit) c=none):yt c limit=(⟨0,0⟩,false):=by unfold yt;rw[h]
def WT{c:List (Int×Int)}{limit:Int}(h:ix (ZG limit) c=some 0)(a:0<R c):yt c limit=(zO c[0].1 1,true):=by simp_all[yt]
def WV{c:List (Int×Int)}{limit:Int}{k:Nat}(h:ix (ZG limit) c=some (k+1))(a:k+1<R c):yt c limit=(zO (c[k+1].1 * ((c[k]' I).2 - c[k+1].2)+((c[k]' I).1 - c[k+1].1) * (limit - c[k+1].2)) ((c[k]' I).2 - c[k+1].2),true):=by
 grind [yt]
def XU{a b A B:Int}(d: -A<=a/\a<=A)(c: -B<=b/\b<=B)(e:0<=A): -(A * B)<=a * b/\a * b<=A * B:=by
 have h:a.natAbs<=A.natAbs:=I
 have g:b.natAbs<=B.natAbs:=I
 have f:(a * b).natAbs<=(A * B).natAbs:=by simp_all[Int.natAbs_mul,Nat.mul_le_mul]
 grind [Int.mul_nonneg]
def UB{a g:Int}(b:0<=a)(c:0<g):0<=a.tdiv g/\a.tdiv g<=a:=by
 rw[Int.tdiv_eq_ediv_of_nonneg b];refine⟨Int.ediv_nonneg b I,?_⟩;exact Int.ediv_le_self _ b
def W7{a b:Int}(c:0<=a)(d:0<b):0<HL a b:=by
 rw[Yq c I I];exact RS ((a.tmod b).toNat+1) b (a.tmod b) d (bη b c) I
def VT{c:List (Int×Int)}(d:UL c){limit:Int}(y:0<=limit/\limit<=2000){k:Nat}(h:ix (ZG limit) c=some (k+1))(e:k+1<R c):
  let a:=c[k+1];let b:=c[k]' I
  (1<=b.2 - a.2/\b.2 - a.2<=2000)/\(0<=a.1 * (b.2 - a.2)+(b.1 - a.1) * (limit - a.2)/\a.1 * (b.2 - a.2)+(b.1 - a.1) * (limit - a.2)<=1000000000)/\(-100000000<=a.1 * (b.2 - a.2)/\a.1 * (b.2 - a.2)<=100000000)/\(-100000000<=(b.1 - a.1) * (limit - a.2)/\(b.1 - a.1) * (limit - a.2)<=100000000):=by
 intro a b;have s:=d.at_ a (Zt e);have o:=d.num a (Zt e);have m:=d.at_ b (Zt _);have l:=d.num b (Zt _);have i:a.2<limit:=by
  obtain⟨_,t⟩:=eE h;exact pf t
 have j:¬b.2<limit:=by
  have:=Xt (ZG limit) c 0 (k+1) h k I b (Zv I);exact a6 this
 have f:b.1<a.1:=d.asc k e;have x:=XU (a:=a.1) (b:=b.2 - a.2) (A:=10000) (B:=2000) I I C;have g:=XU (a:=b.1 - a.1) (b:=limit - a.2) (A:=10000) (B:=2000) I I C;have w:(a.1 - b.1) * (limit - a.2)<=(a.1 - b.1) * (b.2 - a.2):=dε I I;have v:0<=b.1 * (b.2 - a.2):=cη I I;have u:(b.1 - a.1) * (limit - a.2)= -((a.1 - b.1) * (limit - a.2)):=by rw[←Int.neg_mul,Int.neg_sub]
 have z:(a.1 - b.1) * (b.2 - a.2)=a.1 * (b.2 - a.2) - b.1 * (b.2 - a.2):=Int.sub_mul ..;refine⟨I,?_,I,I⟩;rw[u]at g⊢;omega
theorem QV{l:List jI}{limit:Int}(h:aF [(FU l).2,ae (ve limit) 2]≠0):It l limit=(Span.zero,aF [(FU l).2,ae (ve limit) 2]):=Zn h
def VH{l:List jI}{limit:Int}(h:¬aF [(FU l).2,ae (ve limit) 2]≠0)(a:((yu l).getD 0 (0,0)).2<limit):It l limit=(Span.zero,12):=by simp_all[It]
def VI{l:List jI}{limit:Int}(h:¬aF [(FU l).2,ae (ve limit) 2]≠0)(b:¬((yu l).getD 0 (0,0)).2<limit)(a:(yt (yu l) limit).2=false):It l limit=(Span.zero,21):=by simp_all[It]
def S4{l:List jI}{limit:Int}(h:¬aF [(FU l).2,ae (ve limit) 2]≠0)(b:¬((yu l).getD 0 (0,0)).2<limit)(a:(yt (yu l) limit).2=true):It l limit=(⟨(yt (GX l) limit).1,(yt (yu l) limit).1⟩,0):=by simp_all[It]
def P_{a:Int}{b:Bool}(h:¬aF [a,ae b 2]≠0):a=0/\b=true:=by
 by_cases c:a=0
 ·subst c;cases b
  ·exact absurd C h
  simp
 simp_all[aF]
structure V8(f:zZ):Prop where
 num:0<=f.num/\f.num<=1000000000
 den:0<=f.den/\f.den<=2000
def NM{n d:Int}(c:0<=n/\n<=1000000000)(hd:1<=d/\d<=2000):V8 (zO n d):=by
 have e:=W7 (a:=n) (b:=d) c.1 I;have g:=UB c.1 e;have f:=UB (a:=d) I e;exact⟨⟨g.1,by show n.tdiv _<=_;omega⟩,⟨f.1,by show d.tdiv _<=_;omega⟩⟩
def RO{c:List (Int×Int)}(b:UL c){limit:Int}(d:0<=limit/\limit<=2000):V8 (yt c limit).1:=by
 cases h:ix (ZG limit) c with
 |none=>rw[WU h];exact⟨C,C⟩
 |some j=>
  have a:=(eE h).1;cases j with
  |zero=>
   rw[WT h a];have:=b.at_ _ (Zt a);exact NM I C
  |succ k=>
   rw[WV h a];obtain⟨f,e,_⟩:=VT b d h a;exact NM e f
def P9(l:List jI)(limit:Int):V8 (It l limit).1.lo/\V8 (It l limit).1.hi:=by
 have g:V8 Span.zero.lo/\V8 Span.zero.hi:=⟨⟨C,C⟩,⟨C,C⟩⟩;by_cases h:aF [(FU l).2,ae (ve limit) 2]≠0
 ·grind [QV]
 obtain⟨f,e⟩:=P_ h;have a:=VZ f;have b:0<=limit/\limit<=2000:=pf e;by_cases d:((yu l).getD 0 (0,0)).2<limit
 ·simp_all[VH]
 cases c:(yt (yu l) limit).2 with
 |false=>simp_all[VI]
 |true=>rw[S4 h d c];exact⟨RO a.lower b,RO a.upper b⟩
def RY{a b:Int}(i:0<=a/\a<=1000000000000)(h:0<=b/\b<=1000000000000):Ct prog 357 [bv a,bv b] (bv (HL a b)):=by
 refine cI func357 O (ro 7 O ?_);refine OK.mP [] (fun(x:Int)(y:Int)=>[(0,bv x),(1,bv y)]) (fun x y=>(0<=x/\x<=1000000000000)/\(0<=y/\y<=1000000000000)/\HL a b=HL x y) (fun x y=>y.toNat) (a) (b) ⟨i,h,O⟩ ⟨O,O,Zo⟩ (fun _ _=>O) ?_;rintro x y ⟨f,e,g⟩;refine ro 7 O (kB O (fun d=>?_) (fun d=>?_))
 ·have j:0<=x.tmod y:=bη y f.1;have k:x.tmod y<y:=bδ x I;refine ro 3 O ?_;refine kV (.c (zm O) (.c (zm O) (.c (zm O) (.c (S.rem .none O (zt O) (zt O) d O (mn _ I)) (.c (za O) (.c (za O) .nil)))))) (Ab.D.blk (Ab.D.lp ⟨y,x.tmod y,⟨e,⟨j,I⟩,?_⟩,I,O,O,Zo⟩));rw[g,Yq f.1 e.1 d]
 refine ro 6 O ?_;refine kc (S.neg .none O (zt O) (mn _ I) (mn _ I)) (kc (S.max2 .none O (zt O) (zt O)) ?_);refine rr 3 O (kR O O ?_);have:y=0:=I
 subst this;rw[g,Tr];refine cy ?_;split<;>omega
def UZ{a b:Int}(f:0<=a/\a<=1000000000000)(i:1<=b/\b<=1000000000000):Ct prog 314 [bv a,bv b] (.agg (zO a b).cs):=by
 refine cI func314 O fun{_ _}=>?_
 have d:=W7 (a:=a) (b:=b) f.1 I;have h:=UB f.1 d;have g:=UB (a:=b) I d;refine ro 9 O (kc (zK (RY ⟨I,I⟩ ⟨I,I⟩) call357 O) ?_);refine rr 10 O (kB O (fun e=>?_) (fun e=>?_))
 ·exfalso;omega
 refine ro 3 O ?_;refine kV (.c (zm O) (.c (zm O) (.c (S.quo .none O (zt O) (zt O) I (mn _ I) (mn _ I)) (.c (zm O) (.c (zm O) (.c (S.quo .none O (zt O) (zt O) I (mn _ I) (mn _ I)) (.c (zU Ws O O) (.c (zS TT O O O O O O) .nil)))))))) (Ab.D.code (OK.ret (aA.r1 (zy O O TT O) ?_)));rfl
def RX{a b:Int×Int}{t:Int}(g: -1000000000<=b.1 - a.1/\b.1 - a.1<=1000000000)(f: -1000000000<=b.2 - a.2/\b.2 - a.2<=1000000000)(e: -1000000000<=t - a.1/\t - a.1<=1000000000)(d: -100000000<=a.2 * (b.1 - a.1)/\a.2 * (b.1 - a.1)<=100000000)(c: -100000000<=(b.2 - a.2) * (t - a.1)/\(b.2 - a.2) * (t - a.1)<=100000000):Ct prog 315 [.agg (UF a),.agg (UF b),bv t] (.cf [bv (a.2 * (b.1 - a.1)+(b.2 - a.2) * (t - a.1)),bv (b.1 - a.1)]):=by
 refine cI func315 O (Ro 23 O I ?_);refine kc (S.mul .none O (zt O) (zt O) (mn _ I) (mn _ I)) ?_;refine Rr 9 O I ?_;refine kc (S.mul .none O (zt O) (zt O) (mn _ I) (mn _ I)) ?_;refine Rr 6 O I (kS O O O O ?_);rfl
def Re{l:List jI}(e:R l<=20):Ct prog 268 [.agg [.sl (l.map jI.cs)]] (.cf [.sl ((GX l).map UF),.sl ((yu l).map UF)]):=by
 refine cI func268 O (ro 3 O (RK.c (S.iI (k:=2) (sz:=2) .none O) (RK.c (S.iI (k:=3) (sz:=2) .none O) (rr 7 O (kc (zk YN O) (rr 4 O ?_))))));refine OK.loop (G:=Nat) [1,2,3] (fun i=>[(1,.ptr 1 0),(1001,.box [.sl (l.map jI.cs)]),(2,.own 2 i),(2002,.arr 2 (((GX l).take i).map UF)),(3,.own 3 i),(2003,.arr 2 (((yu l).take i).map UF)),(7,.sl (l.map jI.cs)),(8,bv (R l)),(9,bv i)]) (fun i=>i<=R l) (fun i=>R l - i) 0 (Zr _) ⟨O,O,(cw N),(bH N),(cw N),(bH N),O,O,O,Zo⟩ (fun _=>O) ?_;rintro i hi;refine ro 6 O (kB O (fun d=>?_) (fun d=>?_))
 ·have b:i<R l:=by omega
  refine ro 6 O (kc (zI YN O I O) ?_);refine rr 5 O ?_;refine kV (.c (zm O) (.c (zf XM O) (.c (zl Z8 O O O O) (.c (zf Yw O) (.c (zf Ze O) (.c (zl Z8 O O O O) (.c (zU Nl O O) (.c (zM [[_,_]] MY O O O O) (.c (zP MY O O (VU (U6 l) hi) N I (by simp only[maxLen];omega)) (.c (zm O) (.c (zf XM O) (.c (zl Z8 O O O O) (.c (zf Yw O) (.c (zf YU O) (.c (zl Z8 O O O O) (.c (zU Nl O O) (.c (zM [[_,_]] MY O O O O) (.c (zP MY O O (VU (Xo l) hi) N I (by simp only[maxLen];omega)) (.c (za O) (.c (za O) .nil)))))))))))))))))))) ?_;refine Rd 6 O I ?_;refine Ab.D.lp ⟨i+1,I,I,O,O,O,(bH (by rw[NL b,ne];rfl)),O,(bH (by rw[OZ b,ne];rfl)),O,O,O,Zo⟩
 refine ro 3 O ?_;have a:i=R l:=by omega
 rw[TA (U6 l) a,TA (Xo l) a];refine OK.freeze 2 O O O (by rw[Zx,U6];exact a.symm) ?_;refine OK.freeze 3 O O O (by rw[Zx,Xo];exact a.symm) ?_;refine ro 7 O (kS O O O O ?_);rfl
def Rf{p:Int×Int}{limit:Int}:Ct prog 313 [.agg (UF p),.b5 [bv limit]] (.bool (decide (p.2<limit))):=by
 refine cI func313 O (ro 15 O (kR O O ?_));rfl
def RZ{c:List (Int×Int)}{limit:Int}:Ct prog 312 [.sl (c.map UF),.fn 313 [.b5 [bv limit]]] (bv (bq (ZG limit) 0 c)):=by
 refine cI func312 O (OK.eW (rows:=c.map UF) (t:=0) O O fun hlen=>?_);rw[Zx]at hlen;unfold maxLen at hlen;refine ro 9 O (kc (zk UI O) (rr 4 O ?_));refine OK.loop (G:=Nat) [] (fun i=>[(0,.sl (c.map UF)),(1,.fn 313 [.b5 [bv limit]]),(7,bv (R c)),(8,bv i)]) (fun i=>i<=R c/\bq (ZG limit) 0 c=bq (ZG limit) i (c.drop i)) (fun i=>R c - i) 0 ⟨Zr _,O⟩ ⟨O,O,O,O,Zo⟩ (fun _=>O) ?_;rintro i ⟨hi,a⟩;refine ro 6 O (kB O (fun e=>?_) (fun e=>?_))
 ·have d:i<R c:=by omega
  refine ro 15 O (kc (zI UI O I O) (kc (S.fG IM .none O (zt O) O O) (kc (S.ij (Rf (p:=c[i]) (limit:=limit)) call313 .none O (zt O) (zc O .nil) O O O) (kD (kB O (fun b=>?_) (fun b=>?_))))))
  ·refine ro 6 O (kR O O ?_);refine cy ?_;rw[a,bT _ I];simp_all
  refine Ro 7 O I (Ab.D.lp ⟨i+1,⟨by omega,?_⟩,I,O,O,O,O,Zo⟩);rw[a,bT _ I];simp_all
  try (intro hh;omega)
 refine ro 7 O (kR O O ?_);refine cy ?_;have:i=R c:=by omega
 subst this;rw[a,no];rfl
def Uk{c:List (Int×Int)}(f:UL c){limit:Int}(m:0<=limit/\limit<=2000):Ct prog 269 [.sl (c.map UF),bv limit] (.cf [.agg (yt c limit).1.cs,.bool (yt c limit).2]):=by
 refine cI func269 O (OK.eW (rows:=c.map UF) (t:=0) O O fun hlen=>?_);rw[Zx]at hlen;unfold maxLen at hlen;refine ro 8 O (OK.freezeP [4] [(0,.sl (c.map UF)),(4,.ptr 4 0),(1004,.box [bv 0,bv 0])] 3 O O O O O O ⟨O,O,O,Zo⟩ O (OK.bN (jm O (kc (S.dx .none O (zt O) O) (kc (zK (RZ (c:=c) (limit:=limit)) call312 O) (rr 5 O ?_))))));rcases hix:ix (ZG limit) c with _|j
 ·rw[idx_n hix];have g:=WU hix;refine ro 5 O (kB O (fun e=>?_) (fun e=>?_))
  ·refine kr (kc (zU Ws O O) (rr 4 O (kT O O TT O O O ?_)));rw[g];try rfl
  exfalso;omega
 rw[idx_s hix];have d:j<R c:=(eE hix).1;refine ro 5 O (kB O (fun e=>?_) (fun e=>?_))
 ·exfalso;omega
 refine ro 9 O (kB O (fun l=>?_) (fun l=>?_))
 ·have i:j=0:=I
  subst i;have g:=WT hix d;have u:=f.at_ _ (Zt d);refine ro 3 O (kc (S.aP (n:=0) UI .none O (zt O) (.af O) O d O) (rr 2 O ?_));refine kc (zK (UZ (a:=c[0].1) (b:=1) I C) call314 O) ?_;refine rr 4 O (kT O O TT O O O ?_);rw[g];try rfl
 obtain⟨k,rfl⟩:∃k,j=k+1:=⟨j - 1,I⟩;have g:=WV hix d;obtain⟨y,x,w,v⟩:=VT f m hix d;have h:k<R c:=I
 have u:=f.at_ _ (Zt d);have s:=f.at_ _ (Zt h);have o:=f.num _ (Zt d);refine ro 3 O ?_;refine kV (.c (zm O) (.c (zm O) (.c (S.aP (n:=(k+1)) UI .none O (zt O) (zt O) O d O) (.c (S.field SG .none O (zt O) O) (.c (zV Z8 O O) (.c (zm O) (.c (zm O) (.c (S.aP (n:=(k+1)) UI .none O (zt O) (zt O) O d O) (.c (S.field SF .none O (zt O) O) (.c (zV Z8 O O) (.c (zU Nl O O) (.c (zm O) (.c (zm O) (.c (S.sub .none O (zt O) (.af O) (mn _ I) (mn _ I)) (.c (S.aP (n:=k) UI .none O (zt O) (zt O) I h O) (.c (S.field SG .none O (zt O) O) (.c (zV Z8 O O) (.c (zm O) (.c (zm O) (.c (S.sub .none O (zt O) (.af O) (mn _ I) (mn _ I)) (.c (S.aP (n:=k) UI .none O (zt O) (zt O) I h O) (.c (S.field SF .none O (zt O) O) (.c (zV Z8 O O) (.c (zU Nl O O) (.c (zV Z8 O O) (.c (zK (RX (a:=(c[k+1].2,c[k+1].1)) (b:=(c[k].2,c[k].1)) (t:=limit) (by dsimp only;omega) (by dsimp only;omega) (by dsimp only;omega) w v) call315 O) (.c (zX O O O) (.c (zX O O O) (.c (zK (UZ (by dsimp only;omega) (by dsimp only;omega)) call314 O) (.c (zS TT O O O O O O) (.c (zb O) .nil))))))))))))))))))))))))))))))) ?_;refine Ab.D.code (kT O O TT O O O ?_);rw[g];try rfl
def Rc{l:List jI}{limit:Int}:Ct prog 214 [.agg [.sl (l.map jI.cs)],bv limit] (.cf [.agg (It l limit).1.cs,bv (It l limit).2]):=by
 refine cI func214 O (ro 11 O (kc (zK (X_ (l:=l)) call264 O) (jm O (kc (zK YJ call267 O) (kc (zK ZW call266 O) ?_)))));refine RK.c (zM [[_],[_]] ZF O O O O) (kc (S.callL (Yu (l:=[_,_])) call265 .none O (zc O .nil) (.cons (.p (.own O O) O) .nil) O) ?_);refine rr 9 O (kB O (fun a=>?_) (fun a=>?_))
 ·have f:=QV a;refine kr (kc (zU PO O O) (rr 5 O (kT O O VK O O O ?_)));rw[f];try rfl
 obtain⟨m,k⟩:=P_ a;have d:=VZ m;have i:0<=limit/\limit<=2000:=pf k;have j:=d.len;have h:0<R (yu l):=by rw[Xo];omega
 have e:(yu l).getD 0 (0,0)=(yu l)[0]:=tX h;refine ro 5 O (kc (zK (Re j.2) call268 O) (rr 11 O (kc (S.aP (n:=0) UI .none O (zt O) (.af O) O h O) (rr 6 O (kB O (fun b=>?_) (fun b=>?_))))))
 ·have f:=VH a (by rw[e];exact b);refine kr (kc (zU PO O O) (rr 4 O (kT O O VK O O O ?_)));rw[f];try rfl
 refine ro 6 O (kc (zK (Uk d.upper i) call269 O) (rr 12 O (kc (S.not .none O (zt O)) (kD (OK.cond O O (fun g=>?_) (fun g=>?_))))))
 ·have f:=VI a (by rw[e];exact b) (by simpa using g);refine kr (kc (zU PO O O) (rr 4 O (kT O O VK O O O ?_)));rw[f];try rfl
 have f:=S4 a (by rw[e];exact b) (by simpa using g);refine ro 6 O (kc (zK (Uk d.lower i) call269 O) (rr 12 O (kc (zU PO O O) (rr 4 O (kT O O VK O O O ?_)))));rw[f];try rfl
