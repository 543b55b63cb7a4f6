import Derived.Test.YtpbalelbenmmbaaGreatDoorMf
set_option linter.all false
set_option maxHeartbeats 4000000
namespace Go.Proofs.YtpbalelbenmmbaaGreatDoor
open Go.Ab Tryz
set_option maxRecDepth 9999
theorem J_{l:ba}{i:Nat}(hi:i<l.length)(h0:∀j (hj:j<i),¬l[j]=32)(h:l[i]=32):Lib.indexByte l 32=i:=by
 induction l generalizing i with
 |nil=>cases hi
 |cons b l ih=>
  rw[mM];cases i with
  |zero=>simp_all
  |succ i=>
   have hb:¬b=32:=h0 0 (pp i);grind
def NB{l:ba}(h0:∀j (hj:j<l.length),¬l[j]=32):¬0<=Lib.indexByte l 32:=by
 intro h;obtain⟨j,hj,e⟩:=ip (yO h);grind
def JI{l:ba}{i:Nat}(hi:i<l.length)(h0:∀j (hj:j<i),¬l[j]=32)(h:l[i]=32):aL 32 l=(l.take i,l.drop (i+1),true):=by
 grind [J_,qt]
def U9{l:ba}(h:(iE l 7).2=true):0<l.length:=by
 cases l with
 |nil=>cases h
 |cons=>simp
def Km{l:ba}(h:0<l.length):decide ((l[0].toNat:Int)≠45)=decide (l.head?≠some 45):=decide_eq_decide.2 (not_congr (head_45 h).symm)
def XW{s:ba}(hl:s.length<=100000):Ct prog 81 [.str s] (.cf [.str (aL 32 s).1,.str (aL 32 s).2.1,.bool (aL 32 s).2.2]):=by
 refine cI func81 O (ro 14 O ?_);refine OK.loop (G:=Nat) [] (fun i=>[(0,.str s),(5,bv i)]) (fun i=>i<=s.length/\∀j (hj:j<i) (hj2:j<s.length),¬s[j]=32) (fun i=>s.length - i) 0 ⟨Zr _,fun j hj=>by omega⟩ ⟨O,O,Zo⟩ (fun _=>O) ?_;rintro i ⟨hi,hg⟩;refine ro 9 O (kB O (fun c9=>?_) (fun c9=>?_))
 ·have hil:i<s.length:=by omega
  refine ro 8 O (kc (S.fJ (n:=i) fR .none O (zt O) (zt O) O hil) (rr 3 O (kB O (fun c15=>?_) (fun c15=>?_))))
  ·have hb:s[i]=32:=Dt c15;have hT:=JI hil (fun j hj=>hg j hj I) hb;refine kO (kV (.c (zm O) (.c (zm O) (.c (S.ir (hi:=i) (l':=s.take i) fR .none O (zt O) (.inl ⟨O,O,O⟩) (.inr ⟨_,_,O,(zt O),O⟩) (Zr _) I O) (.c (zm O) (.c (zm O) (.c (zp O O I) (.c (S.ir (lo:=(i+1)) (l':=s.drop (i+1)) fR .none O (zt O) (.inr ⟨_,_,O,(zt O),O⟩) (.inl ⟨O,O,O⟩) I I F) (.c (za O) (.c (za O) (.c (zb O) .nil)))))))))) ?_);refine Ab.D.code (OK.ret (aA.r3 (zo O O) (zo O O) (zo O O) ?_));simp_all
  have hb:¬s[i]=32:=fun e=>c15 (by rw[e];rfl)
  refine Ro 8 O I (Ab.D.lp ⟨i+1,⟨by omega,fun j hj hj2=>by grind⟩,I,O,O,Zo⟩)
 have hT:=oI (NB fun j hj=>hg j I hj);refine ro 10 O (OK.ret (aA.r3 (zo O O) (zo O O) (zo O O) ?_));simp_all
def Y6{s:ba}(hl:s.length<=100000):Ct prog 125 [.str s] (.cf [bv (lj s).1,.bool (lj s).2]):=by
 refine cI func125 O (ro 9 O ?_);refine kc (zK (vU (l:=s) (d:=7) I C) call108 O) ?_;refine rr 8 O ?_;by_cases g13:(iE s 7).2=true
 ·have hT:lj s=((iE s 7).1,decide ((s[0]'(U9 g13)).toNat≠(45:Int))):=by unfold lj;rw[g13,lx,←Km (U9 g13)]
  refine kV (.c (zm O) (.c (zm O) (.c (zm O) (.c (S.move (.yes O O O I) O (zt O)) (.c (S.fJ (n:=0) fR (.yes O O O I) O (zt O) (.af O) O (U9 g13)) (.c (S.neq (.yes O O O I) O (zt O) (.af O)) (.c (S.aQ .none O (zt O) (zt O) I) (.c (za O) (.c (za O) .nil))))))))) (Ab.D.code (kS O O O O ?_));simp_all
 have hT:lj s=((iE s 7).1,false):=by simp_all[lj]
 refine kV (.c (zm O) (.c (zm O) (.c (zm O) (.c (zG O (by simp_all)) (.c (zG O (by simp_all)) (.c (zG O (by simp_all)) (.c (S.aO .none O (zt O) .aJ (by simp_all)) (.c (za O) (.c (za O) .nil))))))))) ?_;refine Ab.D.code (kS O O O O ?_);simp_all
end Go.Proofs.YtpbalelbenmmbaaGreatDoor
namespace Go.Proofs.YtpbalelbenmmbaaGreatDoor
open Go.Ab Tryz
def Kw{a b:Prop}[Decidable a][Decidable b](h:¬a):decide b=decide (a\/b):=by simp_all
def Kx{a b c d e:Prop}[Decidable a][Decidable b][Decidable c][Decidable d][Decidable e](h1:¬a)(h2:¬b)(h3:¬c)(h4:¬d):decide e=decide (a\/b\/c\/d\/e):=by simp_all
def Se{s:ba}(hl:s.length<=100000):Ct prog 84 [.str s] (.cf [.agg (fH s).1.cs,.bool (fH s).2]):=by
 refine cI func84 O fun{_ _}=>?_
 have hcl:=xS (c:=32) (l:=s);have hcl2:=xS (c:=32) (l:=(aL 32 s).2.1);have h0:0<(aj 32 (aL 32 s).2.1).length:=nz.2 (gr 32 _);refine ro 9 O (kc (zK (XW I) call81 O) ?_);refine rr 13 O (kc (zU bu178 O O) (rr 7 O (kc (zK (C0 (l:=(aL 32 s).2.1) (c:=32) I) call68 O) ?_)));refine rr 15 O ?_;refine OK.join (G:=Bool) [7,2] (fun vb=>[(2,.ptr 2 0),(1002,.box [.str [],.str [],.str [],.str [],bv 0]),(4,.str (aL 32 s).1),(5,.str (aL 32 s).2.1),(6,.bool (aL 32 s).2.2),(7,.ptr 7 0),(1007,.box [.str (aL 32 s).1,.str [],.str [],.str (aL 32 s).2.1,bv 0]),(8,.sl ((aj 32 (aL 32 s).2.1).map fun p=>[.str p])),(9,.bool true),(27,.str (aL 32 s).1),(28,.bool vb)]) (fun vb=>vb=decide ((aL 32 s).1=gR[0]\/(aL 32 s).1=gR[2])) (fun _=>O) ?_ ?_
 ·refine ro 6 O (kB O (fun c28=>?_) (fun c28=>?_))
  ·try (have hT:fH s=_:=Zn (dC (hvb.symm.trans c28)))
   refine OK.skip (Ab.D.lp ⟨_,(by first|exact(Zz c28).trans (Zz (by first|exact .inl c28|exact .inr (.inl c28)|exact .inr (.inr (.inl c28))|exact .inr (.inr (.inr (.inl c28))))).symm|exact Kw c28|exact Kx (by assumption) (by assumption) (by assumption) (by assumption)),O,O,O,O,O,O,O,O,O,O,O,Zo⟩)
  try (have e1:fH s=_:=Zm (ln (hvb.symm.trans c28)))
  refine ro 4 O ?_;refine Ab.D.lp ⟨_,(by first|exact(Zz c28).trans (Zz (by first|exact .inl c28|exact .inr (.inl c28)|exact .inr (.inr (.inl c28))|exact .inr (.inr (.inr (.inl c28))))).symm|exact Kw c28|exact Kx (by assumption) (by assumption) (by assumption) (by assumption)),O,O,O,O,O,O,O,O,O,O,O,Zo⟩
 rintro vb hvb;refine OK.cond O O (fun c28=>?_) (fun c28=>?_)
 ·try (have hT:fH s=_:=Zn (dC (hvb.symm.trans c28)))
  refine ro 8 O (kT O O Y4 O O O ?_);rw[hT];try rfl
 try (have e1:fH s=_:=Zm (ln (hvb.symm.trans c28)))
 refine ro 6 O (kB O (fun c33=>?_) (fun c33=>?_))
 ·have hT:=e1.trans (Zn c33);refine ro 4 O (kc (S.not .none O (zt O)) (rr 4 O (kT O O Y4 O O O ?_)));rw[hT];try rfl
 have e2:=e1.trans (Zm c33);refine ro 6 O (kB O (fun c38=>?_) (fun c38=>?_))
 ·have e3:=e2.trans (Zn c38);refine ro 4 O (kc (zk Z9 O) (rr 2 O (RK.bh (t:=43) O (fun g43=>?_) (fun g43=>?_))))
  ·have hT:=e3.trans (Zn (.inl I));refine rr 21 O (kT O O Y4 O O O ?_);rw[hT];try rfl
  have h1:1<(aj 32 (aL 32 s).2.1).length:=by omega
  have h2:2<(aj 32 (aL 32 s).2.1).length:=by omega
  refine kc (S.move (zg O O) O (zt O)) (kc (S.aP (n:=1) Z9 (zg O O) O (zt O) (.af O) O h1 O) (rr 4 O (RK.bh (t:=49) O (fun g49=>?_) (fun g49=>?_))))
  ·have hT:=e3.trans (Zn (.inr (.inl ((ZI h1).trans g49))));refine rr 15 O (kT O O Y4 O O O ?_);rw[hT];try rfl
  refine kc (S.move (zg O O) O (zt O)) (kc (S.aP (n:=2) Z9 (zg O O) O (zt O) (.af O) O h2 O) (rr 5 O (kB O (fun c54=>?_) (fun c54=>?_))))
  ·have hT:=e3.trans (Zn (.inr (.inr ((ZI h2).trans c54))));refine ro 7 O (kT O O Y4 O O O ?_);rw[hT];try rfl
  have hT:=e3.trans (Zm (by grind));rw[ZI h0,ZI h1,ZI h2]at hT;refine ro 5 O (kc (S.aP (n:=0) Z9 .none O (zt O) (.af O) O h0 O) (kc (zV Y9 O O) ?_));refine kc (zK (Y6 (by have:=gH (c:=32) _ (Zt h0);omega)) call125 O) ?_;refine rr 9 O (kV (.c (zm O) (.c (S.aP (n:=1) Z9 .none O (zt O) (.af O) O h1 O) (.c (zV Y9 O O) (.c (zm O) (.c (S.aP (n:=2) Z9 .none O (zt O) (.af O) O h2 O) (.c (zV Y9 O O) (.c (zf WZ O) (.c (zS Y9 O O O O O O) (.c (zf VP O) (.c (zS Y9 O O O O O O) .nil)))))))))) (rd 9 O (kT O O Y4 O O O ?_)));rw[hT];try rfl
 have e3:=e2.trans (Zm c38);refine OK.join (G:=Bool) [7,2] (fun wb=>[(2,.ptr 2 0),(1002,.box [.str [],.str [],.str [],.str [],bv 0]),(4,.str (aL 32 s).1),(5,.str (aL 32 s).2.1),(6,.bool (aL 32 s).2.2),(7,.ptr 7 0),(1007,.box [.str (aL 32 s).1,.str [],.str [],.str (aL 32 s).2.1,bv 0]),(8,.sl ((aj 32 (aL 32 s).2.1).map fun p=>[.str p])),(9,.bool true),(27,.str (aL 32 s).1),(74,.bool wb)]) (fun wb=>wb=decide ((aL 32 s).1=gR[4]\/(aL 32 s).1=gR[5]\/(aL 32 s).1=gR[8]\/(aL 32 s).1=gR[11]\/(aL 32 s).1=gR[12])) (fun _=>O) ?_ ?_
 ·refine ro 6 O (kB O (fun c74=>?_) (fun c74=>?_))
  ·try (have hT:=e3.trans (Zn (dC (hwb.symm.trans c74))))
   refine OK.skip (Ab.D.lp ⟨_,(by first|exact(Zz c74).trans (Zz (by first|exact .inl c74|exact .inr (.inl c74)|exact .inr (.inr (.inl c74))|exact .inr (.inr (.inr (.inl c74))))).symm|exact Kw c28|exact Kx (by assumption) (by assumption) (by assumption) (by assumption)),O,O,O,O,O,O,O,O,O,O,O,Zo⟩)
  try (have e4:=e3.trans (Zm (ln (hwb.symm.trans c74))))
  refine ro 6 O (kB O (fun c74=>?_) (fun c74=>?_))
  ·try (have hT:=e3.trans (Zn (dC (hwb.symm.trans c74))))
   refine OK.skip (Ab.D.lp ⟨_,(by first|exact(Zz c74).trans (Zz (by first|exact .inl c74|exact .inr (.inl c74)|exact .inr (.inr (.inl c74))|exact .inr (.inr (.inr (.inl c74))))).symm|exact Kw c28|exact Kx (by assumption) (by assumption) (by assumption) (by assumption)),O,O,O,O,O,O,O,O,O,O,O,Zo⟩)
  try (have e4:=e3.trans (Zm (ln (hwb.symm.trans c74))))
  refine ro 6 O (kB O (fun c74=>?_) (fun c74=>?_))
  ·try (have hT:=e3.trans (Zn (dC (hwb.symm.trans c74))))
   refine OK.skip (Ab.D.lp ⟨_,(by first|exact(Zz c74).trans (Zz (by first|exact .inl c74|exact .inr (.inl c74)|exact .inr (.inr (.inl c74))|exact .inr (.inr (.inr (.inl c74))))).symm|exact Kw c28|exact Kx (by assumption) (by assumption) (by assumption) (by assumption)),O,O,O,O,O,O,O,O,O,O,O,Zo⟩)
  try (have e4:=e3.trans (Zm (ln (hwb.symm.trans c74))))
  refine ro 6 O (kB O (fun c74=>?_) (fun c74=>?_))
  ·try (have hT:=e3.trans (Zn (dC (hwb.symm.trans c74))))
   refine OK.skip (Ab.D.lp ⟨_,(by first|exact(Zz c74).trans (Zz (by first|exact .inl c74|exact .inr (.inl c74)|exact .inr (.inr (.inl c74))|exact .inr (.inr (.inr (.inl c74))))).symm|exact Kw c28|exact Kx (by assumption) (by assumption) (by assumption) (by assumption)),O,O,O,O,O,O,O,O,O,O,O,Zo⟩)
  try (have e4:=e3.trans (Zm (ln (hwb.symm.trans c74))))
  refine ro 4 O ?_;refine Ab.D.lp ⟨_,(by first|exact(Zz c74).trans (Zz (by first|exact .inl c74|exact .inr (.inl c74)|exact .inr (.inr (.inl c74))|exact .inr (.inr (.inr (.inl c74))))).symm|exact Kw c28|exact Kx (by assumption) (by assumption) (by assumption) (by assumption)),O,O,O,O,O,O,O,O,O,O,O,Zo⟩
 rintro wb hwb;refine OK.cond O O (fun c74=>?_) (fun c74=>?_)
 ·try (have hT:=e3.trans (Zn (dC (hwb.symm.trans c74))))
  refine ro 3 O (kc (zK (Y6 I) call125 O) ?_);refine rr 16 O (kT O O Y4 O O O ?_);rw[hT];try rfl
 try (have e4:=e3.trans (Zm (ln (hwb.symm.trans c74))))
 refine ro 6 O (kB O (fun c88=>?_) (fun c88=>?_))
 ·have e5:=e4.trans (Zn c88);refine ro 4 O (kc (zk Z9 O) (rr 2 O (RK.bh (t:=93) O (fun g93=>?_) (fun g93=>?_))))
  ·have hT:=e5.trans (Zn (.inl I));refine rr 15 O (kT O O Y4 O O O ?_);rw[hT];try rfl
  have h1:1<(aj 32 (aL 32 s).2.1).length:=by omega
  refine kc (S.move (zg O O) O (zt O)) (kc (S.aP (n:=0) Z9 (zg O O) O (zt O) (.af O) O h0 O) (rr 5 O (kB O (fun c98=>?_) (fun c98=>?_))))
  ·have hT:=e5.trans (Zn (.inr ((ZI h0).trans c98)));refine ro 7 O (kT O O Y4 O O O ?_);rw[hT];try rfl
  have hT:=e5.trans (Zm (by grind));rw[ZI h0,ZI h1]at hT;refine ro 5 O (kc (S.aP (n:=0) Z9 .none O (zt O) (.af O) O h0 O) (rr 8 O (kc (S.aP (n:=1) Z9 .none O (zt O) (.af O) O h1 O) (kc (zV Y9 O O) ?_))));refine kc (zK (Y6 (by have:=gH (c:=32) _ (Zt h1);omega)) call125 O) ?_;refine rr 16 O (kT O O Y4 O O O ?_);rw[hT];try rfl
 have e5:=e4.trans (Zm c88);refine ro 6 O (kB O (fun c114=>?_) (fun c114=>?_))
 ·have hT:=e5.trans (Zn c114);refine ro 11 O (kc (zk Z9 O) (rr 2 O (RK.bh (t:=122) O (fun g122=>?_) (fun g122=>?_))))
  ·rw[Zz (show(aj 32 (aL 32 s).2.1).length=1 by omega),lx]at hT;refine rr 7 O (kT O O Y4 O O O ?_);rw[hT];try rfl
  rw[Zy (show¬(aj 32 (aL 32 s).2.1).length=1 by omega),lL]at hT;refine rr 7 O (kT O O Y4 O O O ?_);rw[hT];try rfl
 have e6:=e5.trans (Zm c114);refine ro 6 O (kB O (fun c126=>?_) (fun c126=>?_))
 ·have hT:=e6.trans (Zn c126);refine ro 3 O (kc (zK (XW I) call81 O) ?_);refine rr 19 O (kc (zK (Y6 I) call125 O) ?_);refine rr 13 O (RK.split (t:=144) O (fun g144=>?_) (fun g144=>?_))
  ·rw[show(lj (aL 32 (aL 32 s).2.1).1).2=true from g144,lx]at hT;refine rr 6 O (kT O O Y4 O O O ?_);rw[hT];try rfl
  rw[show(lj (aL 32 (aL 32 s).2.1).1).2=false from g144,lL]at hT;refine rr 6 O (kT O O Y4 O O O ?_);rw[hT];try rfl
 have hT:=e6.trans (Zm c126);refine ro 6 O (kc (zK (XW I) call81 O) ?_);refine rr 24 O (RK.split (t:=159) O (fun g159=>?_) (fun g159=>?_))
 ·rw[show(aL 32 (aL 32 s).2.1).2.2=true from g159,lx]at hT;refine rr 7 O (kT O O Y4 O O O ?_);rw[hT];try rfl
 rw[show(aL 32 (aL 32 s).2.1).2.2=false from g159,lL]at hT;refine rr 7 O (kT O O Y4 O O O ?_);rw[hT];try rfl
def Sg:Ct prog 82 [] (.sl (gR.map fun v=>[.str v])):=by
 refine cI func82 O (kr (kc (S.assign .none O .fW) (rr 4 O ?_)));refine RK.c (zM [[_],[_],[_],[_],[_],[_],[_],[_],[_],[_],[_],[_],[_]] ZF O O O O) ?_;refine rr 3 O ?_;refine OK.ret (aA.r1 (.tmp O O (.c (.own O O (by rfl)) O) O) ?_);rfl
def Sf:Ct prog 83 [] (.sl (yM.map fun n=>[bv n])):=by
 refine cI func83 O (kr (kc (S.assign .none O .fW) (rr 24 O ?_)));refine RK.c (zM [[_],[_],[_],[_],[_],[_],[_],[_],[_],[_],[_],[_],[_]] ZY O O O O) ?_;refine rr 3 O ?_;refine OK.ret (aA.r1 (.tmp O O (.c (.own O O (by rfl)) O) O) ?_);rfl
end Go.Proofs.YtpbalelbenmmbaaGreatDoor
namespace Go.Proofs.YtpbalelbenmmbaaGreatDoor
open Go.Ab Tryz
def K8{k n m:Nat}(h:n=m):some (X.box [.own k n])=some (X.box [.own k m]):=by rw[h]
def YV(w:ba):Option Int:=if numOk w 7=true then some (bp w)else none
def Rp{w:ba}(h:numOk w 7=true):YV w=some (bp w):=Zn h
def WA{w:ba}(h:numOk w 7=false):YV w=none:=Zm (by grind)
def Ug:∀(L:List ba),fy YV L=if(L.all fun w=>numOk w 7)=true then some (L.map bp)else none
 |[]=>rfl
 |w::L=>by
  rw[fy,Ug L,ee];cases h:numOk w 7 with
  |true=>simp_all[Rp]
  |false=>rw[WA h,lL];rfl
theorem WJ(n:Nat)(p:ba):Ja n p=match fy YV (aj 32 p)with|some ns=>if ns.length=n then some ns else none|none=>none:=by
 unfold Ja;rw[Ug];grind
def Zh(q:bd×Int)(w:ba):(bd×Int)×Option Code:=match YV w with
 |some v=>((q.1++[v],q.2),none)
 |none=>((q.1,7),some .ret)
def N3{q:bd×Int}{w:ba}{v:Int}(h:YV w=some v):Zh q w=((q.1++[v],q.2),none):=by unfold Zh;rw[h]
def R6{q:bd×Int}{w:ba}(h:YV w=none):Zh q w=((q.1,7),some .ret):=by unfold Zh;rw[h]
def XS{β τ:Type}(e:τ):∀l:List β,l.foldl (fun e _=>e) e=e
 |[]=>rfl
 |_::l=>XS e l
def Qx{L:List ba}{t:Int}{q:bd×Int}(h:au (Ab.stepG Zh) ((([],t):bd×Int),none) L=((q,none),true)):fy YV L=some q.1/\q.2=t:=by
 obtain⟨bs,h1,rfl⟩:=Ue (f:=YV) (upd:=fun e _=>e) (bad:=fun q=>q.2=7) (fun q x b h=>N3 h) (fun q x h=>⟨_,R6 h,rfl⟩) h;simp_all[XS]
def Ml{L:List ba}{t:Int}{q:bd×Int}{cd:Code}(h:(au (Ab.stepG Zh) ((([],t):bd×Int),none) L).1=(q,some cd)):fy YV L=none/\q.2=7/\cd=.ret:=
 Uh (f:=YV) (upd:=fun e _=>e) (bad:=fun q=>q.2=7) (fun q x b h=>N3 h) (fun q x h=>⟨_,R6 h,rfl⟩) h
def Ks{L:List ba}{i:Nat}{t:Int}{q:bd×Int}(h:au (Ab.stepG Zh) ((([],t):bd×Int),none) (L.take i)=((q,none),true)):q.1.length<=L.length:=by
 have:=Y0 (Qx h).1;grind
def YX(n:Nat)(q:List bd×Int)(p:ba):(List bd×Int)×Option Code:=match(au (Ab.stepG Zh) ((([],q.2):bd×Int),none) (aj 32 p)).1 with
 |(r,none)=>if r.1.length=n then((q.1++[r.1],r.2),none)else((q.1,7),some .ret)
 |(r,some cd)=>((q.1,r.2),some cd)
section
variable{n:Nat}{q:List bd×Int}{p:ba}{r:bd×Int}
def Lj(h:au (Ab.stepG Zh) ((([],q.2):bd×Int),none) (aj 32 p)=((r,none),true))(hn:r.1.length=n):YX n q p=((q.1++[r.1],r.2),none):=by simp_all[YX]
def OF(h:au (Ab.stepG Zh) ((([],q.2):bd×Int),none) (aj 32 p)=((r,none),true))(hn:¬r.1.length=n):YX n q p=((q.1,7),some .ret):=by simp_all[YX]
def OG{cd:Code}(h:(au (Ab.stepG Zh) ((([],q.2):bd×Int),none) (aj 32 p)).1=(r,some cd)):YX n q p=((q.1,r.2),some cd):=by unfold YX;rw[h]
def rw_T{b:bd}(h:Ja n p=some b):YX n q p=((q.1++[b],q.2),none):=by
 rw[WJ]at h;split at h
 ·rename_i ns hg;split at h
  ·rename_i hn;cases h;have h2:=(W5 (f:=YV) (step:=Zh) (upd:=fun e _=>e) (bad:=fun q=>q.2=7) (fun q x b h=>N3 h) (fun q x h=>⟨_,R6 h,rfl⟩) (aj 32 p) ([],q.2)).1 _ hg;simp_all[Lj,XS]
  cases h
 cases h
def rw_F(h:Ja n p=none):∃q',YX n q p=(q',some .ret)/\q'.2=7:=by
 rw[WJ]at h;have hi:=W5 (f:=YV) (step:=Zh) (upd:=fun e _=>e) (bad:=fun q=>q.2=7) (fun q x b h=>N3 h) (fun q x h=>⟨_,R6 h,rfl⟩) (aj 32 p) ([],q.2);split at h
 ·rename_i ns hg;split at h
  ·cases h
  rename_i hn;exact⟨_,OF (hi.1 _ hg) (by grind),rfl⟩
 rename_i hg;obtain⟨q',h2,h3⟩:=hi.2 hg;exact⟨_,OG (by rw[h2]),h3⟩
end
def QF{n:Nat}{L:List ba}{q:List bd×Int}(h:au (Ab.stepG (YX n)) ((([],0):List bd×Int),none) L=((q,none),true)):fy (Ja n) L=some q.1/\q.2=0:=by
 obtain⟨bs,h1,rfl⟩:=Ue (f:=Ja n) (upd:=fun e _=>e) (bad:=fun q=>q.2=7) (fun q x b h=>rw_T h) (fun q x h=>rw_F h) h;simp_all[XS]
def MC{n:Nat}{L:List ba}{q:List bd×Int}{cd:Code}(h:(au (Ab.stepG (YX n)) ((([],0):List bd×Int),none) L).1=(q,some cd)):fy (Ja n) L=none/\q.2=7/\cd=.ret:=
 Uh (f:=Ja n) (upd:=fun e _=>e) (bad:=fun q=>q.2=7) (fun q x b h=>rw_T h) (fun q x h=>rw_F h) h
def KO{n:Nat}{L:List ba}{i:Nat}{q:List bd×Int}(h:au (Ab.stepG (YX n)) ((([],0):List bd×Int),none) (L.take i)=((q,none),true)):q.1.length<=L.length:=by
 have:=Y0 (QF h).1;grind
theorem QE{n:Nat}{s:ba}(h:60000<s.length):Is n s=([],8):=Zn h
theorem QD{n:Nat}{s:ba}{l:List bd}(h:¬60000<s.length)(hg:fy (Ja n) (aj 59 s)=some l):Is n s=(l,0):=by unfold Is;simp_all
theorem VV{n:Nat}{s:ba}(h:¬60000<s.length)(hg:fy (Ja n) (aj 59 s)=none):Is n s=([],7):=by unfold Is;simp_all
def RR{α β:Type}{f:α->Option β}:∀{l:List α}{bs:List β},fy f l=some bs->∀b∈bs,∃a∈l,f a=some b
 |[],bs,h,b,hb=>by simp_all[fy]
 |a::l,bs,h,b,hb=>by
  simp only[fy]at h;split at h
  ·cases h
  rename_i c hc;rw[mn]at h;obtain⟨r,h1,rfl⟩:=h;rcases ed.1 hb with rfl|hb
  ·simp_all
  obtain⟨a',h2,h3⟩:=RR h1 b hb;grind
def Uv{n:Nat}{s:ba}{r:bd}(h:r∈(Is n s).1):r.length=n:=by
 unfold Is at h;split at h
 ·cases h
 split at h
 ·rename_i l hl;obtain⟨a,_,h2⟩:=RR hl r h;grind [WJ]
 cases h
def Uu{n:Nat}{s:ba}(h:s.length<=100000):(Is n s).1.length<=100001:=by
 grind [Is,Y0,n9]
def L8{r:bd}(h:r.length=4):∃a b c d,r=[a,b,c,d]:=by
 match r,h with
 |[a,b,c,d],_=>simp
def O3(l:List jI)(i:Nat)(x:jI):Int:=Fe i (l.getD (i - 1) x) x
def YY{l:List jI}{i:Nat}(h:i - 1<l.length)(x:jI):O3 l i x=Fe i l[i - 1] x:=by unfold O3;grind
def Na{a b:Bool}(h:¬aF [ae a 2,ae b 9]≠0):a=true/\b=true:=by
 cases a<;>cases b<;>first|exact⟨rfl,rfl⟩|exact absurd C h
structure XX(x:jI):Prop where
 depth:1<=x.depth/\x.depth<=10000
 diag:1<=x.diag/\x.diag<=10000
 lo:0<=x.lo/\x.lo<=2000
 hi:0<=x.hi/\x.hi<=2000
 ord:x.lo<=x.hi
def OD{x:jI}{p:Bool}(h:(xk x.depth&&xk x.diag&&ve x.lo&&ve x.hi)=true)(hp:p=decide (x.lo<=x.hi))(h2:p=true):XX x:=by
 simp only[Zw]at h;obtain⟨⟨⟨h1,h3⟩,h4⟩,h5⟩:=h;rw[hp]at h2;exact⟨dC h1,dC h3,dC h4,dC h5,dC h2⟩
def Tt{i:Nat}{b x:jI}{rt:Bool}(hr:rt=(xk x.depth&&xk x.diag&&ve x.lo&&ve x.hi))(h:aF [ae rt 2,ae (decide (x.lo<=x.hi)) 9]≠0):Fe i b x=aF [ae rt 2,ae (decide (x.lo<=x.hi)) 9]:=by
 subst hr;exact Zn h
theorem Ra{i:Nat}{b x:jI}{rt:Bool}(hr:rt=(xk x.depth&&xk x.diag&&ve x.lo&&ve x.hi))(h:¬aF [ae rt 2,ae (decide (x.lo<=x.hi)) 9]≠0)(hi:i=0):Fe i b x=ae (decide (2 * x.depth>=5 * x.diag)) 17:=by
 simp_all[Fe]
theorem Rb{i:Nat}{b x:jI}{rt:Bool}(hr:rt=(xk x.depth&&xk x.diag&&ve x.lo&&ve x.hi))(h:¬aF [ae rt 2,ae (decide (x.lo<=x.hi)) 9]≠0)(hi:¬i=0):Fe i b x=ae (decide (x.depth - b.depth>=3 * max x.diag b.diag)) 17:=by
 simp_all[Fe]
def VS{i:Nat}{b x:jI}(h:¬Fe i b x≠0):XX x/\(i=0->2 * x.depth>=5 * x.diag)/\(¬i=0->x.depth - b.depth>=3 * max x.diag b.diag):=by
 by_cases he:aF [ae (xk x.depth&&xk x.diag&&ve x.lo&&ve x.hi) 2,ae (decide (x.lo<=x.hi)) 9]≠0
 ·rw[Tt rfl he]at h;omega
 obtain⟨h1,h2⟩:=Na he;refine⟨OD h1 rfl h2,fun hi=>?_,fun hi=>?_⟩
 ·rw[Ra rfl he hi]at h;cases hd:decide (2 * x.depth>=5 * x.diag)with
  |true=>simp_all
  |false=>rw[hd]at h;exact absurd C h
 rw[Rb rfl he hi]at h;cases hd:decide (x.depth - b.depth>=3 * max x.diag b.diag)with
 |true=>simp_all
 |false=>rw[hd]at h;exact absurd C h
def QN(l:List jI)(i:Nat):Prop:=∀j y,j<i->l[j]?=some y->XX y
def QN.succ{l:List jI}{i:Nat}(h:QN l i)(hi:i<l.length)(hx:XX l[i]):QN l (i+1):=by
 intro j y hj hy;by_cases e:j=i
 ·simp_all
 exact h j y I hy
def QN.prev{l:List jI}{i:Nat}(h:QN l i)(hi:i<l.length):i=0\/XX l[i - 1]:=by
 by_cases e:i=0
 ·exact .inl e
 exact .inr (h (i - 1) _ I (Zv I))
def Zk(l:List jI):Int:=aF [ae (decide ((l.length:Int)>=2)) 10,ae (decide ((l.length:Int)<=20)) 8]
def VY{l:List jI}(h:Zk l≠0):FU l=(0,Zk l):=Zn h
def TV{l:List jI}(h:¬Zk l≠0):FU l=aK (O3 l) 0 l:=Zm h
structure Wr(l:List jI):Prop where
 len:2<=l.length/\l.length<=20
 ok:∀y∈l,XX y
 asc:∀j (h:j+1<l.length),(l[j]' I).depth<l[j+1].depth
def US{α:Type}(g:Nat->α->Int):∀(l:List α)(k:Nat),(aK g k l).2=0->∀(i:Nat)(h:i<l.length),g (k+i) l[i]=0
 |x::l,k,he,i,h=>by
  rw[aK]at he;split at he
  ·omega
  rename_i h1;cases i with
  |zero=>simp_all
  |succ i=>
   have:=US g l (k+1) he i (by grind);grind
def VZ{l:List jI}(h:(FU l).2=0):Wr l:=by
 by_cases h1:Zk l≠0
 ·simp_all[VY]
 rw[TV h1]at h;have hl:2<=l.length/\l.length<=20:=by
  unfold Zk at h1;by_cases q1:(l.length:Int)>=2
  ·by_cases q2:(l.length:Int)<=20
   ·omega
   rw[Zz q1,Zy q2]at h1;exact absurd C h1
  rw[Zy q1]at h1;cases hd:decide ((l.length:Int)<=20)<;>rw[hd]at h1<;>exact absurd C h1
 have hz:∀(i:Nat)(hi:i<l.length),XX l[i]/\(¬i=0->l[i].depth - (l[i - 1]' I).depth>=3 * max l[i].diag (l[i - 1]' I).diag):=by
  intro i hi;have h2:=US _ l 0 h i hi;rw[gk,YY I]at h2;obtain⟨a,_,c⟩:=VS (fun e=>e h2);simp_all
 refine⟨hl,fun y hy=>?_,fun j hj=>?_⟩
 ·obtain⟨i,hi,rfl⟩:=ip hy;simp_all
 obtain⟨a,c⟩:=hz (j+1) hj;have:=c I;have h3:=a.diag;grind
def Xn{s:ba}(h:(if(Is 4 s).2=0 then(FU ((Is 4 s).1.map xj)).2 else(Is 4 s).2)≠0):DH s=([],if(Is 4 s).2=0 then(FU ((Is 4 s).1.map xj)).2 else(Is 4 s).2):=Zn h
def TW{s:ba}(h:¬(if(Is 4 s).2=0 then(FU ((Is 4 s).1.map xj)).2 else(Is 4 s).2)≠0):DH s=((Is 4 s).1.map xj,0):=Zm h
def RV{R:List bd}{k:Nat}(h:k<R.length):((R.take (k+1)).map xj).map jI.cs=((R.take k).map xj).map jI.cs++[(xj R[k]).cs]:=by
 grind [List.take_succ_eq_append_getElem]
def Qt(R:List bd){k:Nat}(h:k<=R.length):(((R.take k).map xj).map jI.cs).length=k:=by
 simp_all
def U0{n lo hi:Int}:Ct prog 286 [bv n,bv lo,bv hi] (.bool (decide (lo<=n/\n<=hi))):=by
 refine cI func286 O (ro 11 O (RK.bh (t:=10) O (fun g10=>?_) (fun g10=>?_)))
 ·refine rr 7 O (kR O O ?_);simp[*]
 refine rr 7 O (kR O O ?_);simp[*]
def ZW{ok:Bool}{e:Int}:Ct prog 239 [.bool ok,bv e] (bv (ae ok e)):=by
 refine cI func239 O (ro 11 O (OK.cond O O (fun c5=>?_) (fun c5=>?_)))
 ·refine ro 5 O (kR O O ?_);simp[ae, *]
 refine ro 8 O (kR O O ?_);simp[ae, *]
def Yu{l:bd}:Ct prog 238 [ints l] (bv (aF l)):=by
 refine cI func238 O (OK.eW (rows:=l.map fun n=>[bv n]) (t:=0) O O fun hlen=>?_);rw[Zx]at hlen;unfold maxLen at hlen;refine ro 9 O (kc (zk Wl O) (rr 4 O ?_));refine OK.loop (G:=Nat) [] (fun i=>[(5,ints l),(6,bv l.length),(7,bv i)]) (fun i=>i<=l.length/\aF l=aF (l.drop i)) (fun i=>l.length - i) 0 ⟨Zr _,O⟩ ⟨O,O,O,Zo⟩ (fun _=>O) ?_;rintro i ⟨hi,hf⟩;refine ro 6 O (kB O (fun c8=>?_) (fun c8=>?_))
 ·refine ro 6 O (kc (zI Wl O I O) ?_);refine rr 10 O (kB O (fun c12=>?_) (fun c12=>?_))
  ·refine ro 6 O (kR O O ?_);grind [fq]
  refine Ro 7 O I (Ab.D.lp ⟨i+1,⟨by omega,?_⟩,I,O,O,O,Zo⟩);grind [fq]
 refine ro 7 O (kR O O ?_);have:i=l.length:=by omega
 subst this;rw[hf,co];rfl
def YJ{n:Int}:Ct prog 240 [bv n] (.bool (ve n)):=by
 refine cI func240 O (ro 8 O (kc (zK U0 call286 O) (rr 3 O (kR O O ?_))));rfl
def Wa{n:Int}:Ct prog 332 [bv n] (.bool (xk n)):=by
 refine cI func332 O (ro 8 O (kc (zK U0 call286 O) (rr 3 O (kR O O ?_))));rfl
def Tv{n lo hi:Int}:Ct prog 329 [bv n,bv lo,bv hi] (bv (aF [ae (decide (n>=lo)) 10,ae (decide (n<=hi)) 8])):=by
 refine cI func329 O (ro 10 O (kc (zK ZW call239 O) (rr 3 O (kc (zK ZW call239 O) ?_))));refine RK.c (zM [[_],[_]] ZX O O O O) (kc (S.callL (Yu (l:=[_,_])) call238 .none O (zc O .nil) (.cons (.p (.own O O) O) .nil) O) ?_);refine rr 3 O (kR O O ?_);rfl
def Pj{l:ba}{n:Nat}(hl:l.length<=100000):gz prog 236 [.str l,bv (n:Int)] (.cf [.sl ((Is n l).1.map fun r=>[ints r]),bv (Is n l).2]):=by
 refine cT func236 O fun hT=>?_
 refine ro 15 O (kB O (fun c14=>?_) (fun c14=>?_))
 ·refine kr (kc (S.store XL .none (zt O) .fW O O O O O O) (rr 3 O (OK.ret (aA.r2 (.wI O O O O XL (.same O) O) (.wI O O O O MO (.same O) O) ?_))));grind [QE]
 refine ro 11 O ?_;refine RK.c (S.Hv [871,872,873] (Xk (l:=l) (c:=59)) call284 .none O (zc O (.cons (.bj (l:=[59]) O C) .nil)) O) ?_;refine rr 3 O (OK.Yf 4 0 O O O O (OK.nP 6 0 880 1 O O O O O ?_));refine OK.qX (ps:=[17]) (encs:=(fun s=>[.str s])) (L:=(aj 59 l)) [3,4,5,6,880] [(3,.ptr 3 0),(4,.ptr 4 0),(5,.ptr 5 0),(6,.ptr 6 0)] (fun q=>[(1003,.box [bv (n:Int)]),(1004,.box [.sl []]),(1005,.box [bv q.2]),(1006,.box [.own 880 q.1.length]),(2880,.arr 1 (q.1.map fun r=>[ints r]))]) (([],0):List bd×Int) (YX n) [(871,[.str [59]]),(872,[.str l]),(873,[bv 0])] (Uw (c:=59) hl) ⟨O,O,O,Zo⟩ O call350 (.inl O) (zt O) O ⟨O,O,O,O,O,O,O,O,(bH (by rfl)),Zo⟩ (fun _=>O) (fun _=>O) (fun _=>O) (fun _=>O) (fun _=>O) C O ?_ ?_ ?_
 ·rintro i x q hx hq lr c0 w0 p1 p2 hR1 hR2;have hT:=hR2.FX hT;have hxm:=ce hx;have hxl:=gH x hxm;have hql:=KO hq;have hcn:=n9 (c:=59) (l:=l);refine OK.bN (ja O (RK.nil ?_));refine⟨rfl,?_⟩;refine ro 10 O ?_;refine RK.c (S.Hv [871,872,873] (Xk (l:=x) (c:=32)) call284 .none O (zc O (.cons (.bj (l:=[32]) O C) .nil)) O) ?_;refine rr 3 O (OK.nP 8 0 881 1 O O O O O ?_);refine OK.qX (ps:=[20]) (encs:=(fun s=>[.str s])) (L:=(aj 32 x)) [3,4,5,6,880,8,881] [(3,.ptr 3 0),(4,.ptr 4 0),(5,.ptr 5 0),(6,.ptr 6 0),(8,.ptr 8 0)] (fun p=>[(1003,.box [bv (n:Int)]),(1004,.box [.sl []]),(1005,.box [bv p.2]),(1006,.box [.own 880 q.1.length]),(2880,.arr 1 (q.1.map fun r=>[ints r])),(1008,.box [.own 881 p.1.length]),(2881,.arr 1 (p.1.map fun v=>[bv v]))]) (([],q.2):bd×Int) Zh [(871,[.str [32]]),(872,[.str x]),(873,[bv 0])] (Uw (c:=32) I) ⟨O,O,O,Zo⟩ O call350 (.inr ⟨_,hR2.nS⟩) (zt O) O ⟨O,O,O,O,O,O,O,O,O,(bH (by rfl)),O,(bH (by rfl)),Zo⟩ (fun _=>O) (fun _=>O) (fun _=>O) (fun _=>O) (fun _=>O) C O ?_ ?_ ?_
  ·rintro j y p hy hp lr c0 w0 p1 p2 hR1 hR2;have hT:=hR2.FX hT;have hym:=ce hy;have hyl:=gH y hym;have hpl:=Ks hp;have hcx:=n9 (c:=32) (l:=x);refine OK.bN (ja O (RK.nil ?_));refine⟨rfl,?_⟩;refine ro 4 O (kc (S.dB (uY (l:=y) I) hT call155 .none O (zc O .nil) O) ?_);refine rr 11 O (kc (S.neerr underlying244 .none O (zt O)) (jm O (RK.split (t:=28) O (fun g28=>?_) (fun g28=>?_))))
   ·refine rr 19 O (kc (S.store XL .none (zt O) .fW O O O O O O) (rr 3 O (OK.ret ?_)));rw[R6 (WA (by simp_all[numOk]))];exact⟨rfl,rfl,rfl,rfl,rfl,rfl,rfl,rfl,Zo⟩
   refine rr 4 O (RK.bh (t:=32) O (fun g32=>?_) (fun g32=>?_))
   ·refine rr 15 O (kc (S.store XL .none (zt O) .fW O O O O O O) (rr 3 O (OK.ret ?_)));rw[R6 (WA (by grind [numOk]))];exact⟨rfl,rfl,rfl,rfl,rfl,rfl,rfl,rfl,Zo⟩
   refine kc (S.move (zg O O) O (zt O)) (kc (S.dB (pS (nk y)) hT call142 (zg O O) O (zc O .nil) O) (rr 4 O (RK.bh (t:=38) O (fun g38=>?_) (fun g38=>?_))))
   ·refine rr 9 O (kc (S.store XL .none (zt O) .fW O O O O O O) (rr 3 O (OK.ret ?_)));rw[R6 (WA (by simp_all[numOk]))];exact⟨rfl,rfl,rfl,rfl,rfl,rfl,rfl,rfl,Zo⟩
   refine rr 6 O (kB O (fun c42=>?_) (fun c42=>?_))
   ·refine kr (kc (S.store XL .none (zt O) .fW O O O O O O) (rr 3 O (OK.ret ?_)));rw[R6 (WA (by grind [numOk]))];exact⟨rfl,rfl,rfl,rfl,rfl,rfl,rfl,rfl,Zo⟩
   refine ro 5 O ?_;refine RK.c (zM [[_]] ZY O O O O) (kc (zP ZY O O F (by rfl) I (by grind [maxLen])) ?_);refine rr 3 O ?_;rw[N3 (Rp (by grind [numOk]))];exact⟨rfl,rfl,rfl,rfl,rfl,rfl,K8 F,bH F,Zo⟩
  ·rintro p hp;obtain⟨hgp,hp2⟩:=Qx hp;have hpl:=Y0 hgp;have hcx:=n9 (c:=32) (l:=x);refine rd 4 O ?_;refine OK.Yp 8 0 O O O O F O ?_;refine ro 2 O (kc (zk Z4 O) (rr 4 O (kB O (fun c50=>?_) (fun c50=>?_))))
   ·have hne:¬p.1.length=n:=by omega
    refine kr (kc (S.store XL .none (zt O) .fW O O O O O O) (rr 3 O (OK.ret ?_)));rw[OF hp hne];exact⟨rfl,rfl,rfl,rfl,rfl,rfl,Zo⟩
   have heq:p.1.length=n:=by omega
   refine ro 5 O ?_;refine RK.c (zM [[_]] PX O O O O) (kc (zP PX O O F (by rfl) I (by grind [maxLen])) ?_);refine rr 3 O ?_;rw[Lj hp heq];exact⟨rfl,rfl,rfl,rfl,K8 F,bH (by simp[ints]),Zo⟩
  rintro p cd hp;obtain⟨_,_,hcd⟩:=Ml hp;subst hcd;refine OK.ret ?_;rw[OG hp];exact⟨rfl,rfl,rfl,rfl,rfl,rfl,Zo⟩
 ·rintro q hq;obtain⟨hg,hq0⟩:=QF hq;have hql:=Y0 hg;have hcn:=n9 (c:=59) (l:=l);refine rd 9 O ?_;refine OK.ret (aA.r2 (.wI O O O O XL (.own O O F) O) (.wI O O O O MO (.same O) O) ?_);grind [QD]
 rintro q cd hq;obtain⟨hg,hq7,hcd⟩:=MC hq;subst hcd;refine OK.ret (aA.r2 (.wI O O O O XL (.same O) O) (.wI O O O O MO (.same O) O) ?_);grind [VV]
def NC{i:Nat}{b x:jI}(hb:i=0\/XX b):Ct prog 331 [bv i,.agg b.cs,.agg x.cs] (bv (Fe i b x)):=by
 refine cI func331 O (ro 7 O ?_);refine OK.join (G:=Bool) [4,5] (fun rt=>[(0,bv i),(4,.ptr 4 0),(1004,.box b.cs),(5,.ptr 5 0),(1005,.box x.cs),(7,.bool rt)]) (fun rt=>rt=(xk x.depth&&xk x.diag&&ve x.lo&&ve x.hi)) (fun _=>O) ?_ ?_
 ·refine ro 3 O (kc (zK Wa call332 O) (jm O (RK.split (t:=12) O (fun g12=>?_) (fun g12=>?_))))
  ·refine rr 2 O (kc (S.call (Wa) call332 (zg O O) O (zc O .nil) O) (rr 2 O (RK.split (t:=17) O (fun g17=>?_) (fun g17=>?_))))
   ·refine rr 3 O (kc (S.call (YJ) call240 (zg O O) O (zc O .nil) O) (rr 2 O (RK.split (t:=23) O (fun g23=>?_) (fun g23=>?_))))
    ·refine rr 3 O (kc (S.call (YJ) call240 (zg O O) O (zc O .nil) O) (rr 3 O ?_));refine Ab.D.lp ⟨(ve x.hi),(by simp[*]),O,O,O,O,O,O,Zo⟩
    refine rr 7 O ?_;refine Ab.D.lp ⟨false,(by simp[*]),O,O,O,O,O,O,Zo⟩
   refine rr 13 O ?_;refine Ab.D.lp ⟨false,(by simp[*]),O,O,O,O,O,O,Zo⟩
  refine rr 18 O ?_;refine Ab.D.lp ⟨false,(by simp[*]),O,O,O,O,O,O,Zo⟩
 rintro rt hrt;refine kO (kO (kV (.c (zm O) (.c (zK ZW call239 O) (.c (zf YP O) (.c (zf Ze O) (.c (zl Z8 O O O O) (.c (zf YP O) (.c (zf YU O) (.c (zl Z8 O O O O) (.c (S.leq .none O (zt O) (zt O)) (.c (zK ZW call239 O) (.c (zM [[_],[_]] ZX O O O O) (.c (S.callL (Yu (l:=[_,_])) call238 .none O (zc O .nil) (.cons (.p (.own O O) O) .nil) O) (.c (za O) .nil))))))))))))) ?_));refine rd 7 O (kB O (fun c42=>?_) (fun c42=>?_))
 ·have hT:=Tt (i:=i) (b:=b) hrt c42;refine ro 6 O (kR O O ?_);simp_all
 obtain⟨h1,h2⟩:=Na c42;have hx:=OD (hrt▸h1) rfl h2;have hx1:=hx.depth;have hx2:=hx.diag;refine ro 9 O (kB O (fun c45=>?_) (fun c45=>?_))
 ·have hT:=Ra (b:=b) hrt c42 (by omega:i=0);refine ro 4 O ?_;refine kc (S.mul .none O (.af O) (zt O) (ca _ I) (ca _ I)) ?_;refine rr 2 O ?_;refine kc (S.mul .none O (.af O) (zt O) (ca _ I) (ca _ I)) (kc (S.geq .none O (zt O) (zt O)) (kc (zK ZW call239 O) ?_));refine rr 3 O (kR O O ?_);simp_all
 have hT:=Rb (b:=b) hrt c42 (by omega:¬i=0);have hb2:XX b:=hb.resolve_left I;have hb3:=hb2.depth;have hb4:=hb2.diag;refine Ro 13 O I (kc (S.max2 .none O (zt O) (zt O)) ?_);refine kc (S.mul .none O (.af O) (zt O) (ca _ I) (ca _ I)) (kc (S.geq .none O (zt O) (zt O)) (kc (zK ZW call239 O) ?_));refine rr 3 O (kR O O ?_);grind
def ND{l:List jI}:Ct prog 330 [.sl (l.map jI.cs),.fn 331 []] (.cf [bv (aK (O3 l) 0 l).1,bv (aK (O3 l) 0 l).2]):=by
 refine cI func330 O (OK.eW (rows:=l.map jI.cs) (t:=0) O O fun hlen=>?_);rw[Zx]at hlen;unfold maxLen at hlen;refine ro 10 O (kc (zk Y3 O) (rr 4 O ?_));refine OK.loop (G:=Nat) [] (fun i=>[(0,.sl (l.map jI.cs)),(1,.fn 331 []),(9,.sl (l.map jI.cs)),(10,bv l.length),(11,bv i)]) (fun i=>i<=l.length/\aK (O3 l) 0 l=aK (O3 l) i (l.drop i)/\QN l i) (fun i=>l.length - i) 0 ⟨Zr _,O,fun j y h=>absurd h (wl _)⟩ ⟨O,O,O,O,O,Zo⟩ (fun _=>O) ?_;rintro i ⟨hi,hg,hio⟩;refine ro 6 O (kB O (fun c12=>?_) (fun c12=>?_))
 ·have hil:i<l.length:=by omega
  have hi1:i - 1<l.length:=by omega
  have hpv:=hio.prev hil;refine ro 7 O (kc (zI Y3 O I O) ?_);refine rr 7 O ?_;refine kV (.c (zm O) (.c (zm O) (.c (zm O) (.c (zm O) (.c (S.sub .none O (zt O) (.af O) (ca _ I) (ca _ I)) (.c (S.max2 .none O (.af O) (zt O)) (.c (S.aP (n:=(i - 1)) Y3 .none O (zt O) (zt O) I hi1 O) (.c (S.fG OX .none O (zt O) O O) (.c (zL OX O O O O) (.c (S.ij (NC (i:=i) (b:=l[i - 1]) (x:=l[i]) hpv) call331 .none O (zt O) (zc O (zc O (zc O .nil))) O O O) (.c (za O) .nil))))))))))) ?_;refine rd 7 O (kB O (fun c27=>?_) (fun c27=>?_))
  ·refine ro 8 O (kS O O O O ?_);simp_all[bE,YY]
  refine Ro 7 O I (Ab.D.lp ⟨i+1,⟨by omega,by simp_all[bE,YY],hio.succ hil (VS c27).1⟩,I,O,O,O,O,O,Zo⟩)
 refine ro 8 O (kS O O O O ?_);rw[hg,show i=l.length by omega,co]
 try rfl
def W9{l:List jI}:Ct prog 285 [.agg [.sl (l.map jI.cs)]] (.cf [bv (FU l).1,bv (FU l).2]):=by
 refine cI func285 O (ro 12 O (kc (zk Y3 O) (kc (zK Tv call329 O) (rr 9 O (kB O (fun c10=>?_) (fun c10=>?_))))))
 ·refine ro 7 O (kS O O O O ?_);simp_all[VY,Zk]
 refine ro 6 O (kc (S.call (ND (l:=l)) call330 .none O (zc O (.cons .oL .nil)) O) (rr 6 O (kS O O O O ?_)));simp_all[TV,Zk]
def X_{l:List jI}:Ct prog 237 [.agg [.sl (l.map jI.cs)]] (bv (FU l).2):=by
 refine cI func237 O (ro 9 O (kc (zK W9 call285 O) (rr 13 O (kR O O ?_))));rfl
def W_{s:ba}(hl:s.length<=100000):gz prog 184 [.str s] (.cf [.agg [.sl ((DH s).1.map jI.cs)],bv (DH s).2]):=by
 refine cT func184 O fun hT=>?_
 have hRc:=Uu (n:=4) hl;refine ro 9 O (kc (S.dB (Pj (n:=4) hl) hT call236 .none O (zc O (zD O)) O) (rr 16 O (kc (zk Vu O) (rr 4 O (OK.nP 6 0 880 4 O O O O O ?_)))));refine OK.loop (G:=Nat) [2,6,880] (fun k=>[(2,.ptr 2 0),(1002,.box [.bO]),(5,bv (Is 4 s).2),(6,.ptr 6 0),(1006,.box [.own 880 k]),(2880,.arr 4 ((((Is 4 s).1.take k).map xj).map jI.cs)),(14,.sl ((Is 4 s).1.map fun r=>[ints r])),(15,bv (Is 4 s).1.length),(16,bv k)]) (fun k=>k<=(Is 4 s).1.length) (fun k=>(Is 4 s).1.length - k) 0 (Zr _) ⟨O,O,O,O,O,(bH N),O,O,O,Zo⟩ (fun _=>O) ?_;rintro k hk;refine ro 6 O (kB O (fun c17=>?_) (fun c17=>?_))
 ·have hkl:k<(Is 4 s).1.length:=by omega
  obtain⟨a,b,c,d,hr4⟩:=L8 (Uv (Zt hkl));refine ro 6 O (kc (zI Vu O I O) ?_);refine rr 4 O ?_;rw[hr4];refine kV (.c (zf Yg O) (.c (zl VB O O O O) (.c (zm O) (.c (S.aP (n:=0) Z4 .none O (zt O) (.af O) O F O) (.c (zV Z8 O O) (.c (zm O) (.c (S.aP (n:=1) Z4 .none O (zt O) (.af O) O F O) (.c (zV Z8 O O) (.c (zm O) (.c (S.aP (n:=2) Z4 .none O (zt O) (.af O) O F O) (.c (zV Z8 O O) (.c (zm O) (.c (S.aP (n:=3) Z4 .none O (zt O) (.af O) O F O) (.c (zV Z8 O O) (.c (zU M6 O O) (.c (zU K4 O O) (.c (zM [[_,_,_,_]] PW O O O O) (.c (zP PW O O (Qt _ I) N I (by simp only[maxLen];omega)) (.c (zf Yg O) (.c (zS VB O O O O O O) .nil)))))))))))))))))))) ?_;refine Rd 6 O I ?_;refine Ab.D.lp ⟨k+1,I,I,O,O,O,O,O,(bH (by rw[RV hkl,hr4];rfl)),O,O,O,Zo⟩
 have hke:k=(Is 4 s).1.length:=by omega
 refine ro 4 O ?_;subst hke;rw[fp];refine OK.Yp 6 0 O O O O (by rw[Zx,Zx]) O ?_;refine ro 5 O (kB O (fun c41=>?_) (fun c41=>?_))
 ·refine ro 2 O (kc (zK (X_ (l:=(Is 4 s).1.map xj)) call237 O) (rr 10 O (kB O (fun c45=>?_) (fun c45=>?_))))
  ·have hT:=Xn (s:=s) (by rw[Zn c41];exact c45);rw[Zn c41]at hT;refine kr (kc (zU P3 O O) (rr 5 O (OK.ret (aA.r2 (.bG O O O O Wo O (.k .bO .z)) (zo O O) ?_))));rw[hT];try rfl
  have hT:=TW (s:=s) (by rw[Zn c41];exact c45);refine ro 9 O (kT O O Wo O O O ?_);rw[hT];try rfl
 refine ro 9 O (kB O (fun c45=>?_) (fun c45=>?_))
 ·have hT:=Xn (s:=s) (by rw[Zm c41];exact c45);rw[Zm c41]at hT;refine kr (kc (zU P3 O O) (rr 5 O (OK.ret (aA.r2 (.bG O O O O Wo O (.k .bO .z)) (zo O O) ?_))));rw[hT];try rfl
 exact absurd c41 c45
end Go.Proofs.YtpbalelbenmmbaaGreatDoor
namespace Go.Proofs.YtpbalelbenmmbaaGreatDoor
open Go.Ab Tryz
def UF(p:Int×Int):bi:=[bv p.1,bv p.2]
def NL{l:List jI}{i:Nat}(h:i<l.length):(GX l).take (i+1)=(GX l).take i++[(l[i].depth,l[i].lo)]:=by
 simp_all[GX,dT]
def OZ{l:List jI}{i:Nat}(h:i<l.length):(yu l).take (i+1)=(yu l).take i++[(l[i].depth,l[i].hi)]:=by
 simp_all[yu,dT]
def U6(l:List jI):(GX l).length=l.length:=Zx ..
def Xo(l:List jI):(yu l).length=l.length:=Zx ..
def VU{c:List (Int×Int)}{i n:Nat}(hc:c.length=n)(h:i<=n):((c.take i).map UF).length=i:=by
 simp_all
def TA{c:List (Int×Int)}{i n:Nat}(hc:c.length=n)(h:i=n):c.take i=c:=by grind
structure UL(c:List (Int×Int)):Prop where
 at_:∀p∈c,1<=p.1/\p.1<=10000
 num:∀p∈c,0<=p.2/\p.2<=2000
 asc:∀j (h:j+1<c.length),(c[j]' I).1<c[j+1].1
def Wr.lower{l:List jI}(h:Wr l):UL (GX l):=by
 refine⟨fun p hp=>?_,fun p hp=>?_,fun j hj=>?_⟩
 ·obtain⟨x,hx,rfl⟩:=eI.1 hp;exact(h.ok x hx).depth
 ·obtain⟨x,hx,rfl⟩:=eI.1 hp;exact(h.ok x hx).lo
 rw[U6]at hj;have:=h.asc j hj;simp_all[GX]
def Wr.upper{l:List jI}(h:Wr l):UL (yu l):=by
 refine⟨fun p hp=>?_,fun p hp=>?_,fun j hj=>?_⟩
 ·obtain⟨x,hx,rfl⟩:=eI.1 hp;exact(h.ok x hx).depth
 ·obtain⟨x,hx,rfl⟩:=eI.1 hp;exact(h.ok x hx).hi
 rw[Xo]at hj;have:=h.asc j hj;simp_all[yu]
def idx_n{α:Type}{g:α->Bool}{l:List α}(h:ix g l=none):bq g 0 l= -1:=by rw[my,h]
def idx_s{α:Type}{g:α->Bool}{l:List α}{j:Nat}(h:ix g l=some j):bq g 0 l=(j:Int):=by rw[my,h]
abbrev ZG(limit:Int):Int×Int->Bool:=fun p=>decide (p.2<limit)
def WU{c:List (Int×Int)}{limit:Int}(h:ix (ZG limit) c=none):yt c limit=(⟨0,0⟩,false):=by unfold yt;rw[h]
def WT{c:List (Int×Int)}{limit:Int}(h:ix (ZG limit) c=some 0)(hc:0<c.length):yt c limit=(zO c[0].1 1,true):=by simp_all[yt]
def WV{c:List (Int×Int)}{limit:Int}{k:Nat}(h:ix (ZG limit) c=some (k+1))(hc:k+1<c.length):yt c limit=(zO (c[k+1].1 * ((c[k]' I).2 - c[k+1].2)+((c[k]' I).1 - c[k+1].1) * (limit - c[k+1].2)) ((c[k]' I).2 - c[k+1].2),true):=by
 grind [yt]
def XU{a b A B:Int}(ha: -A<=a/\a<=A)(hb: -B<=b/\b<=B)(hA:0<=A): -(A * B)<=a * b/\a * b<=A * B:=by
 have h1:a.natAbs<=A.natAbs:=by omega
 have h2:b.natAbs<=B.natAbs:=by omega
 have h3:(a * b).natAbs<=(A * B).natAbs:=by simp_all[Int.natAbs_mul,Nat.mul_le_mul]
 grind [Int.mul_nonneg]
def UB{a g:Int}(ha:0<=a)(hg:0<g):0<=a.tdiv g/\a.tdiv g<=a:=by
 rw[Int.tdiv_eq_ediv_of_nonneg ha];refine⟨Int.ediv_nonneg ha I,?_⟩;exact Int.ediv_le_self _ ha
def W7{a b:Int}(ha:0<=a)(hb:0<b):0<HL a b:=by
 rw[Yq ha I I];exact RS ((a.tmod b).toNat+1) b (a.tmod b) hb (pw b ha) I
def VT{c:List (Int×Int)}(hc:UL c){limit:Int}(hl:0<=limit/\limit<=2000){k:Nat}(h:ix (ZG limit) c=some (k+1))(hk:k+1<c.length):
  let a:=c[k+1];let b:=c[k]' I
  (1<=b.2 - a.2/\b.2 - a.2<=2000)/\(0<=a.1 * (b.2 - a.2)+(b.1 - a.1) * (limit - a.2)/\a.1 * (b.2 - a.2)+(b.1 - a.1) * (limit - a.2)<=1000000000)/\(-100000000<=a.1 * (b.2 - a.2)/\a.1 * (b.2 - a.2)<=100000000)/\(-100000000<=(b.1 - a.1) * (limit - a.2)/\(b.1 - a.1) * (limit - a.2)<=100000000):=by
 intro a b;have ha1:=hc.at_ a (Zt hk);have ha2:=hc.num a (Zt hk);have hb1:=hc.at_ b (Zt _);have hb2:=hc.num b (Zt _);have hlt:a.2<limit:=by
  obtain⟨_,h2⟩:=eE h;exact dC h2
 have hge:¬b.2<limit:=by
  have:=Xt (ZG limit) c 0 (k+1) h k I b (Zv I);exact ln this
 have hasc:b.1<a.1:=hc.asc k hk;have m1:=XU (a:=a.1) (b:=b.2 - a.2) (A:=10000) (B:=2000) I I C;have m2:=XU (a:=b.1 - a.1) (b:=limit - a.2) (A:=10000) (B:=2000) I I C;have m3:(a.1 - b.1) * (limit - a.2)<=(a.1 - b.1) * (b.2 - a.2):=wn I I;have m4:0<=b.1 * (b.2 - a.2):=tt I I;have e1:(b.1 - a.1) * (limit - a.2)= -((a.1 - b.1) * (limit - a.2)):=by rw[←Int.neg_mul,Int.neg_sub]
 have e2:(a.1 - b.1) * (b.2 - a.2)=a.1 * (b.2 - a.2) - b.1 * (b.2 - a.2):=Int.sub_mul ..;refine⟨by omega,?_,by omega,by omega⟩;rw[e1]at m2⊢;omega
theorem QV{l:List jI}{limit:Int}(h:aF [(FU l).2,ae (ve limit) 2]≠0):It l limit=(Span.zero,aF [(FU l).2,ae (ve limit) 2]):=Zn h
def VH{l:List jI}{limit:Int}(h:¬aF [(FU l).2,ae (ve limit) 2]≠0)(h2:((yu l).getD 0 (0,0)).2<limit):It l limit=(Span.zero,12):=by simp_all[It]
def VI{l:List jI}{limit:Int}(h:¬aF [(FU l).2,ae (ve limit) 2]≠0)(h2:¬((yu l).getD 0 (0,0)).2<limit)(h3:(yt (yu l) limit).2=false):It l limit=(Span.zero,21):=by simp_all[It]
def S4{l:List jI}{limit:Int}(h:¬aF [(FU l).2,ae (ve limit) 2]≠0)(h2:¬((yu l).getD 0 (0,0)).2<limit)(h3:(yt (yu l) limit).2=true):It l limit=(⟨(yt (GX l) limit).1,(yt (yu l) limit).1⟩,0):=by simp_all[It]
def P_{a:Int}{b:Bool}(h:¬aF [a,ae b 2]≠0):a=0/\b=true:=by
 by_cases ha:a=0
 ·subst ha;cases b
  ·exact absurd C h
  simp
 simp_all[aF]
structure V8(f:zZ):Prop where
 num:0<=f.num/\f.num<=1000000000
 den:0<=f.den/\f.den<=2000
def NM{n d:Int}(hn:0<=n/\n<=1000000000)(hd:1<=d/\d<=2000):V8 (zO n d):=by
 have hg:=W7 (a:=n) (b:=d) hn.1 I;have h1:=UB hn.1 hg;have h2:=UB (a:=d) I hg;exact⟨⟨h1.1,by show n.tdiv _<=_;omega⟩,⟨h2.1,by show d.tdiv _<=_;omega⟩⟩
def RO{c:List (Int×Int)}(hc:UL c){limit:Int}(hl:0<=limit/\limit<=2000):V8 (yt c limit).1:=by
 cases h:ix (ZG limit) c with
 |none=>rw[WU h];exact⟨by decide,by decide⟩
 |some j=>
  have hj:=(eE h).1;cases j with
  |zero=>
   rw[WT h hj];have:=hc.at_ _ (Zt hj);exact NM I C
  |succ k=>
   rw[WV h hj];obtain⟨h1,h2,_⟩:=VT hc hl h hj;exact NM h2 h1
def P9(l:List jI)(limit:Int):V8 (It l limit).1.lo/\V8 (It l limit).1.hi:=by
 have hz:V8 Span.zero.lo/\V8 Span.zero.hi:=⟨⟨by decide,by decide⟩,⟨by decide,by decide⟩⟩;by_cases h:aF [(FU l).2,ae (ve limit) 2]≠0
 ·grind [QV]
 obtain⟨h1,h2⟩:=P_ h;have ht:=VZ h1;have hl:0<=limit/\limit<=2000:=dC h2;by_cases h3:((yu l).getD 0 (0,0)).2<limit
 ·simp_all[VH]
 cases h4:(yt (yu l) limit).2 with
 |false=>simp_all[VI]
 |true=>rw[S4 h h3 h4];exact⟨RO ht.lower hl,RO ht.upper hl⟩
def RY{a b:Int}(ha:0<=a/\a<=1000000000000)(hb:0<=b/\b<=1000000000000):Ct prog 333 [bv a,bv b] (bv (HL a b)):=by
 refine cI func333 O (ro 7 O ?_);refine OK.mP [] (fun(x:Int)(y:Int)=>[(0,bv x),(1,bv y)]) (fun x y=>(0<=x/\x<=1000000000000)/\(0<=y/\y<=1000000000000)/\HL a b=HL x y) (fun x y=>y.toNat) (a) (b) ⟨ha,hb,O⟩ ⟨O,O,Zo⟩ (fun _ _=>O) ?_;rintro x y ⟨hx,hy,hg⟩;refine ro 7 O (kB O (fun c6=>?_) (fun c6=>?_))
 ·have h3:0<=x.tmod y:=pw y hx.1;have h4:x.tmod y<y:=pr x I;refine ro 3 O ?_;refine kV (.c (zm O) (.c (zm O) (.c (zm O) (.c (S.rem .none O (zt O) (zt O) c6 O (ca _ I)) (.c (za O) (.c (za O) .nil)))))) (Ab.D.blk (Ab.D.lp ⟨y,x.tmod y,⟨hy,⟨h3,by omega⟩,?_⟩,I,O,O,Zo⟩));simp_all[Yq]
 refine ro 6 O ?_;refine kc (S.neg .none O (zt O) (ca _ I) (ca _ I)) (kc (S.max2 .none O (zt O) (zt O)) ?_);refine rr 3 O (kR O O ?_);grind [Tr]
def UZ{a b:Int}(ha:0<=a/\a<=1000000000000)(hb:1<=b/\b<=1000000000000):Ct prog 289 [bv a,bv b] (.agg (zO a b).cs):=by
 refine cI func289 O fun{_ _}=>?_
 have hgp:=W7 (a:=a) (b:=b) ha.1 I;have ht1:=UB ha.1 hgp;have ht2:=UB (a:=b) I hgp;refine ro 9 O (kc (zK (RY ⟨by omega,by omega⟩ ⟨by omega,by omega⟩) call333 O) ?_);refine rr 10 O (kB O (fun c10=>?_) (fun c10=>?_))
 ·omega
 refine ro 3 O ?_;refine kV (.c (zm O) (.c (zm O) (.c (S.quo .none O (zt O) (zt O) I (ca _ I) (ca _ I)) (.c (zm O) (.c (zm O) (.c (S.quo .none O (zt O) (zt O) I (ca _ I) (ca _ I)) (.c (zU M9 O O) (.c (zS XN O O O O O O) .nil)))))))) (Ab.D.code (OK.ret (aA.r1 (zy O O XN O) ?_)));rfl
def RX{a b:Int×Int}{t:Int}(h1: -1000000000<=b.1 - a.1/\b.1 - a.1<=1000000000)(h2: -1000000000<=b.2 - a.2/\b.2 - a.2<=1000000000)(h3: -1000000000<=t - a.1/\t - a.1<=1000000000)(h4: -100000000<=a.2 * (b.1 - a.1)/\a.2 * (b.1 - a.1)<=100000000)(h5: -100000000<=(b.2 - a.2) * (t - a.1)/\(b.2 - a.2) * (t - a.1)<=100000000):Ct prog 290 [.agg (UF a),.agg (UF b),bv t] (.cf [bv (a.2 * (b.1 - a.1)+(b.2 - a.2) * (t - a.1)),bv (b.1 - a.1)]):=by
 refine cI func290 O (Ro 23 O I ?_);refine kc (S.mul .none O (zt O) (zt O) (ca _ I) (ca _ I)) ?_;refine Rr 9 O I ?_;refine kc (S.mul .none O (zt O) (zt O) (ca _ I) (ca _ I)) ?_;refine Rr 6 O I (kS O O O O ?_);rfl
def Re{l:List jI}(hn:l.length<=20):Ct prog 241 [.agg [.sl (l.map jI.cs)]] (.cf [.sl ((GX l).map UF),.sl ((yu l).map UF)]):=by
 refine cI func241 O (ro 3 O (RK.c (S.iI (k:=2) (sz:=2) .none O) (RK.c (S.iI (k:=3) (sz:=2) .none O) (rr 7 O (kc (zk Y3 O) (rr 4 O ?_))))));refine OK.loop (G:=Nat) [1,2,3] (fun i=>[(1,.ptr 1 0),(1001,.box [.sl (l.map jI.cs)]),(2,.own 2 i),(2002,.arr 2 (((GX l).take i).map UF)),(3,.own 3 i),(2003,.arr 2 (((yu l).take i).map UF)),(7,.sl (l.map jI.cs)),(8,bv l.length),(9,bv i)]) (fun i=>i<=l.length) (fun i=>l.length - i) 0 (Zr _) ⟨O,O,(cw I),(bH (by rfl)),(cw I),(bH (by rfl)),O,O,O,Zo⟩ (fun _=>O) ?_;rintro i hi;refine ro 6 O (kB O (fun c10=>?_) (fun c10=>?_))
 ·have hil:i<l.length:=by omega
  refine ro 6 O (kc (zI Y3 O I O) ?_);refine rr 5 O ?_;refine kV (.c (zm O) (.c (zf Yh O) (.c (zl Z8 O O O O) (.c (zf YP O) (.c (zf Ze O) (.c (zl Z8 O O O O) (.c (zU P4 O O) (.c (zM [[_,_]] PY O O O O) (.c (zP PY O O (VU (U6 l) hi) (by rfl) I (by grind [maxLen])) (.c (zm O) (.c (zf Yh O) (.c (zl Z8 O O O O) (.c (zf YP O) (.c (zf YU O) (.c (zl Z8 O O O O) (.c (zU P4 O O) (.c (zM [[_,_]] PY O O O O) (.c (zP PY O O (VU (Xo l) hi) (by rfl) I (by grind [maxLen])) (.c (za O) (.c (za O) .nil)))))))))))))))))))) ?_;refine Rd 6 O I ?_;refine Ab.D.lp ⟨i+1,I,I,O,O,O,(bH (by rw[NL hil,dE];rfl)),O,(bH (by rw[OZ hil,dE];rfl)),O,O,O,Zo⟩
 refine ro 3 O ?_;have hie:i=l.length:=by omega
 rw[TA (U6 l) hie,TA (Xo l) hie];refine OK.freeze 2 O O O (by simp_all[U6]) ?_;refine OK.freeze 3 O O O (by simp_all[Xo]) ?_;refine ro 7 O (kS O O O O ?_);rfl
def Rf{p:Int×Int}{limit:Int}:Ct prog 288 [.agg (UF p),.b5 [bv limit]] (.bool (decide (p.2<limit))):=by
 refine cI func288 O (ro 15 O (kR O O ?_));rfl
def RZ{c:List (Int×Int)}{limit:Int}:Ct prog 287 [.sl (c.map UF),.fn 288 [.b5 [bv limit]]] (bv (bq (ZG limit) 0 c)):=by
 refine cI func287 O (OK.eW (rows:=c.map UF) (t:=0) O O fun hlen=>?_);rw[Zx]at hlen;unfold maxLen at hlen;refine ro 9 O (kc (zk Wm O) (rr 4 O ?_));refine OK.loop (G:=Nat) [] (fun i=>[(0,.sl (c.map UF)),(1,.fn 288 [.b5 [bv limit]]),(7,bv c.length),(8,bv i)]) (fun i=>i<=c.length/\bq (ZG limit) 0 c=bq (ZG limit) i (c.drop i)) (fun i=>c.length - i) 0 ⟨Zr _,O⟩ ⟨O,O,O,O,Zo⟩ (fun _=>O) ?_;rintro i ⟨hi,hg⟩;refine ro 6 O (kB O (fun c9=>?_) (fun c9=>?_))
 ·have hil:i<c.length:=by omega
  refine ro 15 O (kc (zI Wm O I O) (kc (S.fG Ls .none O (zt O) O O) (kc (S.ij (Rf (p:=c[i]) (limit:=limit)) call288 .none O (zt O) (zc O .nil) O O O) (kD (kB O (fun c16=>?_) (fun c16=>?_))))))
  ·refine ro 6 O (kR O O ?_);simp_all[bT]
  refine Ro 7 O I (Ab.D.lp ⟨i+1,⟨by omega,?_⟩,I,O,O,O,O,Zo⟩);simp_all[bT]
 refine ro 7 O (kR O O ?_);refine cy ?_;have:i=c.length:=by omega
 subst this;rw[hg,co];rfl
def Uk{c:List (Int×Int)}(hc:UL c){limit:Int}(hl:0<=limit/\limit<=2000):Ct prog 242 [.sl (c.map UF),bv limit] (.cf [.agg (yt c limit).1.cs,.bool (yt c limit).2]):=by
 refine cI func242 O (OK.eW (rows:=c.map UF) (t:=0) O O fun hlen=>?_);rw[Zx]at hlen;unfold maxLen at hlen;refine ro 8 O (OK.freezeP [4] [(0,.sl (c.map UF)),(4,.ptr 4 0),(1004,.box [bv 0,bv 0])] 3 O O O O O O ⟨O,O,O,Zo⟩ O (OK.bN (jm O (kc (S.dx .none O (zt O) O) (kc (zK (RZ (c:=c) (limit:=limit)) call287 O) (rr 5 O ?_))))));rcases hix:ix (ZG limit) c with _|j
 ·rw[idx_n hix];have hT:=WU hix;refine ro 5 O (kB O (fun c11=>?_) (fun c11=>?_))
  ·refine kr (kc (zU M9 O O) (rr 4 O (kT O O XN O O O ?_)));rw[hT];try rfl
  exfalso;omega
 rw[idx_s hix];have hj:j<c.length:=(eE hix).1;refine ro 5 O (kB O (fun c11=>?_) (fun c11=>?_))
 ·exfalso;omega
 refine ro 9 O (kB O (fun c14=>?_) (fun c14=>?_))
 ·have hj0:j=0:=by omega
  subst hj0;have hT:=WT hix hj;have hb:=hc.at_ _ (Zt hj);refine ro 3 O (kc (S.aP (n:=0) Wm .none O (zt O) (.af O) O hj O) (rr 2 O ?_));refine kc (zK (UZ (a:=c[0].1) (b:=1) I C) call289 O) ?_;refine rr 4 O (kT O O XN O O O ?_);rw[hT];try rfl
 obtain⟨k,rfl⟩:∃k,j=k+1:=⟨j - 1,by omega⟩;have hT:=WV hix hj;obtain⟨b1,b2,b3,b4⟩:=VT hc hl hix hj;have hk:k<c.length:=by omega
 have hb:=hc.at_ _ (Zt hj);have hb2:=hc.at_ _ (Zt hk);have hb3:=hc.num _ (Zt hj);refine ro 3 O ?_;refine kV (.c (zm O) (.c (zm O) (.c (S.aP (n:=(k+1)) Wm .none O (zt O) (zt O) O hj O) (.c (S.field Tm .none O (zt O) O) (.c (zV Z8 O O) (.c (zm O) (.c (zm O) (.c (S.aP (n:=(k+1)) Wm .none O (zt O) (zt O) O hj O) (.c (S.field Tl .none O (zt O) O) (.c (zV Z8 O O) (.c (zU P4 O O) (.c (zm O) (.c (zm O) (.c (S.sub .none O (zt O) (.af O) (ca _ I) (ca _ I)) (.c (S.aP (n:=k) Wm .none O (zt O) (zt O) I hk O) (.c (S.field Tm .none O (zt O) O) (.c (zV Z8 O O) (.c (zm O) (.c (zm O) (.c (S.sub .none O (zt O) (.af O) (ca _ I) (ca _ I)) (.c (S.aP (n:=k) Wm .none O (zt O) (zt O) I hk O) (.c (S.field Tl .none O (zt O) O) (.c (zV Z8 O O) (.c (zU P4 O O) (.c (zV Z8 O O) (.c (zK (RX (a:=(c[k+1].2,c[k+1].1)) (b:=(c[k].2,c[k].1)) (t:=limit) (by dsimp only;omega) (by dsimp only;omega) (by dsimp only;omega) b3 b4) call290 O) (.c (zX O O O) (.c (zX O O O) (.c (zK (UZ (by dsimp only;omega) (by dsimp only;omega)) call289 O) (.c (zS XN O O O O O O) (.c (zb O) .nil))))))))))))))))))))))))))))))) ?_;refine Ab.D.code (kT O O XN O O O ?_);rw[hT];try rfl
def Rc{l:List jI}{limit:Int}:Ct prog 185 [.agg [.sl (l.map jI.cs)],bv limit] (.cf [.agg (It l limit).1.cs,bv (It l limit).2]):=by
 refine cI func185 O (ro 11 O (kc (zK (X_ (l:=l)) call237 O) (jm O (kc (zK YJ call240 O) (kc (zK ZW call239 O) ?_)))));refine RK.c (zM [[_],[_]] ZX O O O O) (kc (S.callL (Yu (l:=[_,_])) call238 .none O (zc O .nil) (.cons (.p (.own O O) O) .nil) O) ?_);refine rr 9 O (kB O (fun c21=>?_) (fun c21=>?_))
 ·have hT:=QV c21;refine kr (kc (zU QU O O) (rr 5 O (kT O O WN O O O ?_)));rw[hT];try rfl
 obtain⟨q1,q2⟩:=P_ c21;have htr:=VZ q1;have hlm:0<=limit/\limit<=2000:=dC q2;have hln:=htr.len;have hu0:0<(yu l).length:=by rw[Xo];omega
 have hgd:(yu l).getD 0 (0,0)=(yu l)[0]:=tX hu0;refine ro 5 O (kc (zK (Re hln.2) call241 O) (rr 11 O (kc (S.aP (n:=0) Wm .none O (zt O) (.af O) O hu0 O) (rr 6 O (kB O (fun c34=>?_) (fun c34=>?_))))))
 ·have hT:=VH c21 (by simp_all);refine kr (kc (zU QU O O) (rr 4 O (kT O O WN O O O ?_)));rw[hT];try rfl
 refine ro 6 O (kc (zK (Uk htr.upper hlm) call242 O) (rr 12 O (kc (S.not .none O (zt O)) (kD (OK.cond O O (fun c43=>?_) (fun c43=>?_))))))
 ·have hT:=VI c21 (by simp_all) (by grind);refine kr (kc (zU QU O O) (rr 4 O (kT O O WN O O O ?_)));rw[hT];try rfl
 have hT:=S4 c21 (by simp_all) (by grind);refine ro 6 O (kc (zK (Uk htr.lower hlm) call242 O) (rr 12 O (kc (zU QU O O) (rr 4 O (kT O O WN O O O ?_)))));rw[hT];try rfl
