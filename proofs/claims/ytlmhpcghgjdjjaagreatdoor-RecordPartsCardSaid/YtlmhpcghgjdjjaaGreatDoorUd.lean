import Derived.Test.YtlmhpcghgjdjjaaGreatDoorUb
set_option linter.all false
set_option maxHeartbeats 8000000
open List renaming length->R
namespace Go.Proofs.Z9
open Go.Ab Tryz
set_option maxRecDepth 9999
def PT:aZ JT:=fun _ _ _ _ _ _ _ _ _ _ _=>trivial
def Pg{M:HM SK}:∀h Y a w,aa M h Y w->(∀b,Y b->a b)->aa M h a w:=fun _ _ _ _ c d=>c.mono d
def TF(s:State)(name rest:ba):SE:=if bS name=false then(s,4)else if(iM rest).2≠0 then(s,(iM rest).2)else if R s.yB=6 then(s,16)
 else({s with yB:=s.yB++[⟨name,s.iN name+1,(iM rest).1⟩]},0)
def State.oc(s:State)(m:Int):Part:=s.p ((s.vr m).getD 0)
def State.nB(pl:bC)(s:State):List aX:=s.aI.map fun m=>ZO pl (s.oc m).frames
def Rh(pl:bC)(s:State)(t:Int):SE:=if(R (s.nB pl))=0 then(s,10)else if 2 * t>=R (s.nB pl) then(s,2)else({s with env:=G6 pl (s.nB pl) t},0)
def ZT(n:Net)(s:State)(L:vN):SE:=
 if L.verb=gR[0]then(s,0)else if L.verb=gR[1]then XA s L.num L.oF L.coil else if L.verb=gR[2]then ZQ (bP n.aS).1 s (aY L.rest).1 (aY L.rest).2
 else if L.verb=gR[3]then S7 (bP n.aS).1 (decide (0<R s.env.rows)) s else if L.verb=gR[4]then ZL s L.num UX else if L.verb=gR[5]then ZL s L.num QT
 else if L.verb=gR[6]then Ng s L.coil L.num else if L.verb=gR[7]then YQ s L.coil else if L.verb=gR[8]then ZL s L.num U7 else if L.verb=gR[9]then ZL s L.num (Yb n L.rest)
 else if L.verb=gR[10]then TF s L.oF L.rest else if L.verb=gR[11]then ZL s L.num (Yj (bP n.aS).1)else Rh (bP n.aS).1 s L.num
def State.Lw(pl:bC)(s:State):Prop:=∀m∈s.aI,∃i,s.vr m=some i/\mw pl (s.p i)=true
section
variable{A:SA}{s:State}{n:Net}{pl:bC}{i j:Nat}{v:Hd×Part}{m:Int}{f:State->Nat->SE}
def VF(h:s.vr m=none):ZL s m f=(s,6):=by unfold ZL;rw[h]
def VG(h:s.vr m=some i):ZL s m f=f s i:=by unfold ZL;rw[h]
theorem J8(a:A.parts[i]?=some v)(h:Ac v.2=false):UX A.st i=(A.st,24):=by simp_all[UX,SA.Zb]
theorem J9(a:A.parts[i]?=some v)(h:Ac v.2=true):UX A.st i=(A.st.eC i fun p=>{p with place:=2},0):=by simp_all[UX,SA.Zb]
theorem bad_F(a:A.parts[i]?=some v)(h:v.2.place≠1):QT A.st i=(A.st,20):=by simp_all[QT,SA.Zb]
theorem bad_T(a:A.parts[i]?=some v)(h:¬v.2.place≠1):QT A.st i=(A.st.eC i fun p=>{p with place:=3},0):=by simp_all[QT,SA.Zb]
theorem NR(a:A.parts[i]?=some v)(h:(gE v.2&&!v.2.marked)=false):U7 A.st i=(A.st,20):=by simp_all[U7,SA.Zb]
theorem Kj(a:A.parts[i]?=some v)(h:(gE v.2&&!v.2.marked)=true):U7 A.st i=(A.st.eC i fun p=>{p with marked:=true},0):=by simp_all[U7,SA.Zb]
theorem NU(a:A.parts[i]?=some v)(h:v.2.place=0):Yj pl A.st i=(A.st,20):=by simp_all[Yj,SA.Zb]
theorem NT(a:A.parts[i]?=some v)(h:¬v.2.place=0)(b:mw pl v.2=false):Yj pl A.st i=(A.st,14):=by simp_all[Yj,SA.Zb]
theorem Mi(a:A.parts[i]?=some v)(b:v.2.num=m)(h:¬v.2.place=0)(c:¬mw pl v.2=false):Yj pl A.st i=if A.st.aI.contains m then(A.st,23)else({A.st with aI:=A.st.aI++[m]},0):=by simp_all[Yj,SA.Zb]
theorem JF(a:s.xE=some i){c:ba}(h:(s.p i).coil=c):s.busy c=true:=by simp_all[State.busy]
theorem JD(a:s.xE=some i){c:ba}(h:¬(s.p i).coil=c):s.busy c=false:=by simp_all[State.busy]
theorem JE(a:s.xE=none)(c:ba):s.busy c=false:=by grind [State.busy]
def OA{c:ba}(h:s.Bs c=none):YQ s c=(s,6):=by unfold YQ;rw[h]
theorem Oz{c:ba}(h:s.Bs c=some j)(a:s.busy c=true):YQ s c=(s,17):=by simp_all[YQ]
theorem Su{c:ba}(h:s.Bs c=some j)(a:s.busy c=false):YQ s c=({s with aC:=s.aC.modify j fun c=>{c with shots:=0}},0):=by simp_all[YQ]
theorem NH(b:ix (fun p:Part=>decide (p.num=m)) A.st.parts=some i):∃v,A.parts[i]?=some v/\i<R A.parts/\v.2.num=m:=by
 obtain⟨e,d⟩:=eE b;have a:i<R A.parts:=by grind [SA.X7]
 refine⟨A.parts[i],Zv a,a,?_⟩;have c:A.st.parts[i]=A.parts[i].2:=bκ ..;simp_all
def SA.N1(q:Nat×Nat)(r:Rec):A.mem.set .r (some (q.1,.row 3 q.2 (A.yB.map Rec.cs++[r.cs])))=({A with rh:=some q,yB:=A.yB++[r]}:SA).mem:=funext fun k=>by
 cases k with
 |r=>show some _=some _;rw[ne];rfl
 |_=>exact HM.ai _ _ Z
def SA.NX(q:Nat×Nat)(c:o6):A.mem.set .c (some (q.1,.row 3 q.2 (A.aC.map o6.cs++[c.cs])))=({A with ch:=some q,aC:=A.aC++[c]}:SA).mem:=funext fun k=>by
 cases k with
 |c=>show some _=some _;rw[ne];rfl
 |_=>exact HM.ai _ _ Z
def SA.NY(q:Nat×Nat)(m:Int):A.mem.set .m (some (q.1,.row 1 q.2 (A.aI.map V1++[V1 m])))=({A with mh:=some q,aI:=A.aI++[m]}:SA).mem:=funext fun k=>by
 cases k with
 |m=>show some _=some _;rw[ne];rfl
 |_=>exact HM.ai _ _ Z
abbrev QW(r c p m:X)(e:Envelope):bi:=[r,c,p,m,bv e.parts,bv e.trim,.sl (e.rows.map fun l=>[.sl (l.map Range.cs)])]
def SA.Mk(q:Nat×Nat)(r:Rec):QW (.raw (.slice (some ⟨q.1,0,none⟩) (R (A.yB.map Rec.cs)+1) q.2)) (.raw (A.ch.w (R A.aC))) (.raw (A.ph.w (R A.parts))) (.raw (A.mh.w (R A.aI))) A.env=({A with rh:=some q,yB:=A.yB++[r]}:SA).cs:=by
 unfold SA.cs;dsimp only;rw[Zs,Zx];rfl
def SA.Fl(q:Nat×Nat)(c:o6):QW (.raw (A.rh.w (R A.yB))) (.raw (.slice (some ⟨q.1,0,none⟩) (R (A.aC.map o6.cs)+1) q.2)) (.raw (A.ph.w (R A.parts))) (.raw (A.mh.w (R A.aI))) A.env=({A with ch:=some q,aC:=A.aC++[c]}:SA).cs:=by
 unfold SA.cs;dsimp only;rw[Zs,Zx];rfl
def SA.Fc(q:Nat×Nat)(m:Int):QW (.raw (A.rh.w (R A.yB))) (.raw (A.ch.w (R A.aC))) (.raw (A.ph.w (R A.parts))) (.raw (.slice (some ⟨q.1,0,none⟩) (R (A.aI.map V1)+1) q.2)) A.env=({A with mh:=some q,aI:=A.aI++[m]}:SA).cs:=by
 unfold SA.cs;dsimp only;rw[Zs,Zx];rfl
def SA.Ok.fzM(h:A.Ok):Fz A.mem (.raw (A.mh.w (R A.aI))) (.sl (A.aI.map V1)):=Fz.ofRow h.ms (Yn fun _ x _=>⟨.same _ rfl,Zo⟩) F
end
def Q_(l:bd)(n:Int):Bool:=l.any fun x=>decide (x=n)
def RT(l:bd)(n:Int):Q_ l n=l.contains n:=by
 unfold Q_;grind
section
variable{A:SA}{s:State}{pl:bC}{i k:Nat}{v:Hd×Part}
theorem Mw(b:k<R A.aI)(a:ix (fun p:Part=>decide (p.num=A.aI[k])) A.st.parts=some i)(d:A.parts[i]?=some v)(e:k<R (A.st.nB pl)):(A.st.nB pl)[k]=ZO pl v.2.frames:=by
 have c:(A.st.nB pl)[k]=ZO pl (A.st.oc A.aI[k]).frames:=bκ ..;rw[c];unfold State.oc;rw[show A.st.vr A.aI[k]=some i from a];simp_all[SA.Zb]
theorem Rx(a:s.Good pl)(w:s.Lw pl):yA pl (s.nB pl):=by
 have key:∀r∈s.nB pl,(R r.rows:Int)=pl.aR/\∀(i:Nat)(h:i<R r.rows),R r.rows[i].values=R pl.aq:=by
  intro r q;obtain⟨m,d,rfl⟩:=rx.1 q;obtain⟨j,B,o⟩:=w m d;have x:=(eE B).1;have u:s.oc m=s.parts[j]:=by
   simp_all[State.oc,State.p]
  have c:s.p j=s.parts[j]:=by simp_all[State.p]
  obtain⟨l,e⟩:=a.fr _ (Zt x);have b:=Xe (Iu.rec a.pl l e);rw[u];unfold mw at o;rw[c,b]at o;have t:=jc a.pl;obtain⟨E,D⟩:=Xf a.pl l.1;refine⟨by rw[Vc];omega,fun i h=>?_⟩;have C:=rm.1 o _ (Zt h);have z:∃f∈s.parts[j].frames,(ZO pl s.parts[j].frames).rows[i]=⟨true,f.values⟩:=by
   grind [ZO,U4]
  obtain⟨f,g,y⟩:=z;rw[y];exact(D9 (l.1 f g)).2
 exact⟨fun k h=>(key _ (Zt h)).1,fun k h=>(key _ (Zt h)).2⟩
end
def Ow{l:bd}{n:Int}:Ct prog 41 [ints l,bv n] (.bool (Q_ l n)):=by
 refine cI func41 O (OK.eW (rows:=l.map fun n=>[bv n]) (t:=0) O O fun hlen=>?_);rw[Zx]at hlen;unfold maxLen at hlen;refine ro 12 O ?_;refine OK.loop (G:=Nat) [] (fun i=>[(0,ints l),(1,bv n),(5,bv i)]) (fun i=>i<=R l/\Q_ l n=Q_ (l.drop i) n) (fun i=>R l - i) 0 ⟨Zr _,O⟩ ⟨O,O,O,Zo⟩ (fun _=>O) ?_;rintro i ⟨hi,b⟩;refine ro 5 O (kc (zk Z4 O) (rr 3 O (kB O (fun c=>?_) (fun c=>?_))))
 ·refine ro 8 O (kc (zI Z4 O I O) ?_);refine rr 5 O (kB O (fun a=>?_) (fun a=>?_))
  ·refine ro 5 O (kR O O ?_);refine ew ?_;rw[b,Q_,xo _ I,Zz a,cυ]
  refine Ro 8 O I (Ab.D.lp ⟨i+1,⟨by omega,?_⟩,I,O,O,O,Zo⟩);rw[b,Q_,xo _ I,Zy a,Bool.false_or];rfl
 refine ro 7 O (kR O O ?_);refine ew ?_;rw[b,show i=R l by omega,no];rfl
def Rz{n:Net}(F:R n.aS<=1000)(hn:(0<=n.lo/\n.lo<=1000000000)/\(0<=n.hi/\n.hi<=1000000000)/\ve n.limit=true){s:State}(z:s.Good (bP n.aS).1)(hmd:s.Lw (bP n.aS).1){L:vN}(hl:R L.rest<=600)(hln:0<=L.num/\L.num<=10000000):Ct prog 119 [.agg n.cs,.agg s.cs,.agg L.cs] (.cf [.agg (ZT n s L).1.cs,bv (ZT n s L).2]):=by
 refine cI func119 O (ro 12 O ?_);refine RK.callX (V4 z.sm) (fun _=>aa.az _) (fun _=>Pg) call168 O (zc O .nil) O fun q=>?_
 obtain⟨a,hst⟩:=q.2;generalize q.1=A at a hst⊢;subst hst;have hlp:=z.sm.lp;rw[SA.X7]at hlp;have hlc:=z.sm.lc;have hlr:=z.sm.lr;have hlm:=z.sm.lm;refine rr 9 O ?_;refine kc (S.YT (Vf (s:=A.st) (n:=L.num)) O call25 .none O (zc O (zc O .nil)) (⟨a.fz,Fz.same _ O,Zo⟩) O) ?_;refine rr 22 O (kB O (fun c25=>?_) (fun c25=>?_))
 ·have e0:ZT n A.st L=_:=Zn c25;have b:=e0;refine kr (RK.cF (zL Z_ O O O O) a.fz O O (rr 4 O (kT O O Z_ O O O ?_)));rw[b];try rfl
 have e0:ZT n A.st L=_:=Zm c25;refine ro 6 O (kB O (fun c28=>?_) (fun c28=>?_))
 ·have e1:ZT n A.st L=_:=e0.trans (Zn c28);have b:=e1;refine ro 5 O ?_;refine RK.c (S.ik (((UJ a z.sm).jR (aa.az _))) PT call169 .none O (zc O (zc O (zc O .nil))) O O) ?_;refine rr 6 O (kT O O Z_ O O O ?_);rw[b];try rfl
 have e1:ZT n A.st L=_:=e0.trans (Zm c28);refine ro 6 O (kB O (fun c36=>?_) (fun c36=>?_))
 ·have e2:ZT n A.st L=_:=e1.trans (Zn c36);have b:=e2;refine ro 5 O ?_;refine RK.c (S.ik (((TH F a z hl).jR (aa.az _))) PT call170 .none O (zc O (zc O (zc O .nil))) O O) ?_;refine rr 6 O (kT O O Z_ O O O ?_);rw[b];try rfl
 have e2:ZT n A.st L=_:=e1.trans (Zm c36);refine ro 6 O (kB O (fun c44=>?_) (fun c44=>?_))
 ·have e3:ZT n A.st L=_:=e2.trans (Zn c44);have b:=e3;refine ro 4 O ?_;refine RK.c (S.ik (((Sd F a z).jR (aa.az _))) PT call171 .none O (zc O (zc O .nil)) O O) ?_;refine rr 6 O (kT O O Z_ O O O ?_);rw[b];try rfl
 have e3:ZT n A.st L=_:=e2.trans (Zm c44);refine ro 6 O (kB O (fun c51=>?_) (fun c51=>?_))
 ·have e4:ZT n A.st L=_:=e3.trans (Zn c51);refine ro 7 O (kB O (fun c54=>?_) (fun c54=>?_))
  ·have b:=e4.trans (VF (X1 c54));refine kr (RK.cF (zL Z_ O O O O) a.fz O O (rr 5 O (kT O O Z_ O O O ?_)));rw[b];try rfl
  obtain⟨i,y⟩:=X2 c54;have h:=ZC y;obtain⟨v,g,o,hvn⟩:=NH y;obtain⟨pq,d⟩:=ZB a.ph g;have u:=e4.trans (VG y);refine ro 6 O (kc (S.fc ZA .none O (zt O) O O (SA.YW d) O) (jm O (kc (S.hidx (i:=i) ZH .none O (zt O) (zt O) h o) ?_)));refine kc (zJ (us:=v.2.cs) T7 O (aa.UE (k:=.p) (i:=i) (f:=0) (SA.Iz d) (Z7 (f:=pC) g) O ⟨.same _,.same _,.same _,.same _,.sl (a.fs g),.same _,.same _,.same _,.same _,.same _,.same _,.same _,.same _,Zo⟩ O)) (kc (zK (PC (p:=v.2)) call26 O) (kc (S.not .none O (zt O)) (kD (OK.cond O O (fun c63=>?_) (fun c63=>?_)))))
  ·have b:=u.trans (J8 g (by simpa using c63));refine kr (RK.cF (zL Z_ O O O O) a.fz O O (rr 4 O (kT O O Z_ O O O ?_)));rw[b];try rfl
  have b:=u.trans (J9 g (by simpa using c63));refine ro 5 O (kc (S.fc ZA .none O (zt O) O O (SA.YW d) O) (jm O (kc (S.hidx (i:=i) ZH .none O (zt O) (zt O) h o) (kc (zr Zl O) ?_))));refine kc (S.ZP (rows':=(A.parts.map pC).set i (({v.2 with place:=2}:Part).cells (.raw (v.1.w (R v.2.frames))))) (.p) Z8 .none (zt O) (.af O) O (SA.Iz d) (Z7 (f:=pC) g) O O O O C O) ?_;refine rr 3 O ?_;rw[SA.YM d g (p:={v.2 with place:=2}) rfl];refine OK.bN (RK.cF (zL Z_ O O O O) (SA.YR (SA.Ok.eC a (i:=i) (v:=(v.1,(fun p:Part=>({p with place:=2}:Part)) v.2)) (a.fh v (mr g))) O (SA.Y7 _ _).symm (SA.YB g v.1 fun p=>{p with place:=2})) O O ?_);refine rr 4 O (kT O O Z_ O O O ?_);rw[b];try rfl
 have e4:ZT n A.st L=_:=e3.trans (Zm c51);refine ro 6 O (kB O (fun c71=>?_) (fun c71=>?_))
 ·have e5:ZT n A.st L=_:=e4.trans (Zn c71);refine ro 7 O (kB O (fun c74=>?_) (fun c74=>?_))
  ·have b:=e5.trans (VF (X1 c74));refine kr (RK.cF (zL Z_ O O O O) a.fz O O (rr 5 O (kT O O Z_ O O O ?_)));rw[b];try rfl
  obtain⟨i,y⟩:=X2 c74;have h:=ZC y;obtain⟨v,g,o,hvn⟩:=NH y;obtain⟨pq,d⟩:=ZB a.ph g;have u:=e5.trans (VG y);refine ro 6 O (kc (S.fc ZA .none O (zt O) O O (SA.YW d) O) (jm O (kc (S.hidx (i:=i) ZH .none O (zt O) (zt O) h o) (kc (zr Zl O) ?_))));refine kc (zH Z8 O (aa.V2 (k:=.p) (i:=i) (f:=5) (SA.Iz d) (Z7 (f:=pC) g) O O (.same _))) ?_;refine rr 3 O (kB O (fun c83=>?_) (fun c83=>?_))
  ·have b:=u.trans (bad_F g c83);refine kr (RK.cF (zL Z_ O O O O) a.fz O O (rr 4 O (kT O O Z_ O O O ?_)));rw[b];try rfl
  have b:=u.trans (bad_T g c83);refine ro 5 O (kc (S.fc ZA .none O (zt O) O O (SA.YW d) O) (jm O (kc (S.hidx (i:=i) ZH .none O (zt O) (zt O) h o) (kc (zr Zl O) ?_))));refine kc (S.ZP (rows':=(A.parts.map pC).set i (({v.2 with place:=3}:Part).cells (.raw (v.1.w (R v.2.frames))))) (.p) Z8 .none (zt O) (.af O) O (SA.Iz d) (Z7 (f:=pC) g) O O O O C O) ?_;refine rr 3 O ?_;rw[SA.YM d g (p:={v.2 with place:=3}) rfl];refine OK.bN (RK.cF (zL Z_ O O O O) (SA.YR (SA.Ok.eC a (i:=i) (v:=(v.1,(fun p:Part=>({p with place:=3}:Part)) v.2)) (a.fh v (mr g))) O (SA.Y7 _ _).symm (SA.YB g v.1 fun p=>{p with place:=3})) O O ?_);refine rr 4 O (kT O O Z_ O O O ?_);rw[b];try rfl
 have e5:ZT n A.st L=_:=e4.trans (Zm c71);refine ro 6 O (kB O (fun c91=>?_) (fun c91=>?_))
 ·have e6:ZT n A.st L=_:=e5.trans (Zn c91);refine ro 5 O (kc (zK oW call125 O) (kc (S.not .none O (zt O)) (kD (OK.cond O O (fun c96=>?_) (fun c96=>?_)))))
  ·have b:=e6.trans (Zn (by simpa using c96));refine kr (RK.cF (zL Z_ O O O O) a.fz O O (rr 4 O (kT O O Z_ O O O ?_)));rw[b];try rfl
  have f1:=e6.trans (Zm (by simpa using c96));refine ro 8 O ?_;refine kc (S.YT (Xu (s:=A.st) (n:=L.coil)) O call172 .none O (zc O (zc O .nil)) (⟨a.fz,Fz.same _ O,Zo⟩) O) ?_;refine rr 3 O (kB O (fun c102=>?_) (fun c102=>?_))
  ·have b:=f1.trans (Zn (isS c102));refine kr (RK.cF (zL Z_ O O O O) a.fz O O (rr 4 O (kT O O Z_ O O O ?_)));rw[b];try rfl
  have f2:=f1.trans (Zm (isN c102));refine ro 7 O (kc (zK gx call33 O) (kc (S.jP .none O (zt O)) (kD (kB O (fun c107=>?_) (fun c107=>?_)))))
  ·have b:=f2.trans (Zn (by simpa using c107));refine kr (RK.cF (zL Z_ O O O O) a.fz O O (rr 4 O (kT O O Z_ O O O ?_)));rw[b];try rfl
  have f3:=f2.trans (Zm (by simpa using c107));refine ro 7 O ?_;refine kc (S.hlen Wn (by show R A.aC<=maxLen;have:R A.aC<=4:=hlc;unfold maxLen;omega) .none O (zt O)) ?_;refine rr 3 O (kB O (fun c112=>?_) (fun c112=>?_))
  ·have b:=f3.trans (Zn (by show¬(R A.aC:Int)<4;omega));refine kr (RK.cF (zL Z_ O O O O) a.fz O O (rr 4 O (kT O O Z_ O O O ?_)));rw[b];try rfl
  have b:=f3.trans (Zm (by show¬¬(R A.aC:Int)<4;have:R A.aC<=4:=hlc;omega));refine ro 10 O (kc (zU m_ O O) ?_);refine RK.c (zM [[_,_,_]] LU O O O O) ?_;refine RK.xs (S.happR (m:=1) (rows2:=[(⟨L.coil,L.num,0⟩:o6).cs]) .c LU O (zt O) a.cs (zt O) O O O C (by rw[Zx];have:R A.aC<=4:=hlc;omega) (by rw[Zx];have:R A.aC<=4:=hlc;unfold maxLen;omega)) (fun q=>?_);refine rr 5 O ?_;rw[SA.NX q (⟨L.coil,L.num,0⟩:o6)];refine OK.bN (RK.cF (zL Z_ O O O O) (SA.YR (A:={A with ch:=some q,aC:=A.aC++[(⟨L.coil,L.num,0⟩:o6)]}) ⟨a.rh,fun e=>(by cases e),a.ph,a.mh,a.fh⟩ O (SA.Fl q _) O) O O ?_);refine rr 4 O (kT O O Z_ O O O ?_);rw[b];try rfl
 have e6:ZT n A.st L=_:=e5.trans (Zm c91);refine ro 6 O (kB O (fun c125=>?_) (fun c125=>?_))
 ·have e7:ZT n A.st L=_:=e6.trans (Zn c125);refine ro 5 O ?_;refine kc (S.YT (Xu (s:=A.st) (n:=L.coil)) O call172 .none O (zc O (zc O .nil)) (⟨a.fz,Fz.same _ O,Zo⟩) O) ?_;refine rr 10 O (kB O (fun c132=>?_) (fun c132=>?_))
  ·have b:=e7.trans (OA (X1 c132));refine kr (RK.cF (zL Z_ O O O O) a.fz O O (rr 5 O (kT O O Z_ O O O ?_)));rw[b];try rfl
  obtain⟨j,hj⟩:=X2 c132;have hcj:=ZC hj;have hjl:j<R A.aC:=(eE hj).1;obtain⟨cc,H⟩:∃c,A.aC[j]?=some c:=⟨_,Zv hjl⟩;obtain⟨ch,E⟩:=ZB a.ch H;refine ro 6 O (kc (S.YT (YA (s:=A.st)) O call73 .none O (zc O .nil) (⟨a.fz,Zo⟩) O) (rr 4 O ?_));by_cases g139:bq (fun p:Part=>decide (p.place=0)) 0 A.st.parts>=0
  ·obtain⟨i,y⟩:=X2 (show¬bq (fun p:Part=>decide (p.place=0)) 0 A.st.parts<0 by omega);have h:=ZC y;obtain⟨v,g,o,_⟩:=Tw y;obtain⟨pq,d⟩:=ZB a.ph g;refine kV (.c (zm O) (.c (S.geq .none O (zt O) (.af O)) (.c (zm O) (.c (S.dH ZZ (.yes O O O W) O (zt O)) (.c (S.fc ZA (.yes O O O W) O (zt O) O O (SA.YW d) O) (.c (S.move (.yes O O O W) O (zt O)) (.c (S.hidx (i:=i) ZH (.yes O O O W) O (zt O) (zt O) h o) (.c (S.jC SH (.yes O O O W) O (zt O)) (.c (S.aG Y9 (.yes O O O W) O (zt O) O (aa.V2 (k:=.p) (i:=i) (f:=3) (SA.Iz d) (Z7 (f:=pC) g) O O (.same _))) (.c (S.dH T6 (.yes O O O W) O (zt O)) (.c (S.fc Y9 (.yes O O O W) O (zt O) O O O O) (.c (S.eN (.yes O O O W) O (zt O) (zt O)) (.c (S.aQ .none O (zt O) (zt O) W) .nil))))))))))))) ?_;refine Ab.D.code (kB O (fun c149=>?_) (fun c149=>?_))
   ·have b:=e7.trans (Oz hj (JF y (by rw[SA.Zb g];exact c149)));refine kr (RK.cF (zL Z_ O O O O) a.fz O O (rr 4 O (kT O O Z_ O O O ?_)));rw[b];try rfl
   have hB:=JD y (c:=L.coil) (by rw[SA.Zb g];exact c149);refine ro 3 O ?_;have b:=e7.trans (Su hj hB);refine ro 2 O (kc (S.fc T8 .none O (zt O) O O (SA.Pz E) O) (jm O (kc (S.hidx (i:=j) Wn .none O (zt O) (zt O) hcj hjl) (kc (zr X0 O) ?_))));refine kc (S.ZP (rows':=(A.aC.map o6.cs).set j ({cc with shots:=0}:o6).cs) (.c) Z8 .none (zt O) (.af O) O (SA.Jh E) (Z7 H) O O O O C O) ?_;refine rr 3 O ?_;rw[SA.Vt E];refine OK.bN (RK.cF (zL Z_ O O O O) (SA.YR (a.Ee j {cc with shots:=0}) O (SA.QG _ _).symm (SA.TO H fun c=>{c with shots:=0})) O O ?_);refine rr 4 O (kT O O Z_ O O O ?_);rw[b];try rfl
  have hB:=JE (X1 (show bq (fun p:Part=>decide (p.place=0)) 0 A.st.parts<0 by omega)) L.coil;refine kV (.c (zm O) (.c (S.geq .none O (zt O) (.af O)) (.c (zm O) (.c (zG O W) (.c (zG O W) (.c (zG O W) (.c (zG O W) (.c (zG O W) (.c (zG O W) (.c (zG O W) (.c (zG O W) (.c (zG O W) (.c (S.aO .none O (zt O) .aJ W) .nil))))))))))))) ?_;refine rd 5 O ?_;have b:=e7.trans (Su hj hB);refine ro 2 O (kc (S.fc T8 .none O (zt O) O O (SA.Pz E) O) (jm O (kc (S.hidx (i:=j) Wn .none O (zt O) (zt O) hcj hjl) (kc (zr X0 O) ?_))));refine kc (S.ZP (rows':=(A.aC.map o6.cs).set j ({cc with shots:=0}:o6).cs) (.c) Z8 .none (zt O) (.af O) O (SA.Jh E) (Z7 H) O O O O C O) ?_;refine rr 3 O ?_;rw[SA.Vt E];refine OK.bN (RK.cF (zL Z_ O O O O) (SA.YR (a.Ee j {cc with shots:=0}) O (SA.QG _ _).symm (SA.TO H fun c=>{c with shots:=0})) O O ?_);refine rr 4 O (kT O O Z_ O O O ?_);rw[b];try rfl
 have e7:ZT n A.st L=_:=e6.trans (Zm c125);refine ro 6 O (kB O (fun c157=>?_) (fun c157=>?_))
 ·have e8:ZT n A.st L=_:=e7.trans (Zn c157);refine ro 7 O (kB O (fun c160=>?_) (fun c160=>?_))
  ·have b:=e8.trans (VF (X1 c160));refine kr (RK.cF (zL Z_ O O O O) a.fz O O (rr 5 O (kT O O Z_ O O O ?_)));rw[b];try rfl
  obtain⟨i,y⟩:=X2 c160;have h:=ZC y;obtain⟨v,g,o,hvn⟩:=NH y;obtain⟨pq,d⟩:=ZB a.ph g;have u:=e8.trans (VG y);refine ro 6 O (kc (S.fc ZA .none O (zt O) O O (SA.YW d) O) (jm O (kc (S.hidx (i:=i) ZH .none O (zt O) (zt O) h o) ?_)));refine kc (zJ (us:=v.2.cs) T7 O (aa.UE (k:=.p) (i:=i) (f:=0) (SA.Iz d) (Z7 (f:=pC) g) O ⟨.same _,.same _,.same _,.same _,.sl (a.fs g),.same _,.same _,.same _,.same _,.same _,.same _,.same _,.same _,Zo⟩ O)) (kc (zK (Xi (p:=v.2)) call75 O) (kc (S.not .none O (zt O)) (jm O (RK.split (t:=170) O (fun J=>?_) (fun J=>?_)))))
  ·have b:=u.trans (NR g (by rw[show gE v.2=false by simpa using J];rfl));refine rr 12 O (RK.cF (zL Z_ O O O O) a.fz O O (rr 4 O (kT O O Z_ O O O ?_)));rw[b];try rfl
  refine kc (S.dH ZZ (zg O O) O (zt O)) (kc (S.fc ZA (zg O O) O (zt O) O O (SA.YW d) O) (kc (S.move (zg O O) O (zt O)) (kc (S.hidx (i:=i) ZH (zg O O) O (zt O) (zt O) h o) (kc (S.jC SI (zg O O) O (zt O)) (kc (S.aG SP (zg O O) O (zt O) O (aa.V2 (k:=.p) (i:=i) (f:=8) (SA.Iz d) (Z7 (f:=pC) g) O O (.same _))) ?_)))));refine rr 3 O (OK.cond O O (fun c177=>?_) (fun c177=>?_))
  ·have b:=u.trans (NR g (by rw[show v.2.marked=true from c177,Bool.not_true,bυ]));refine kr (RK.cF (zL Z_ O O O O) a.fz O O (rr 4 O (kT O O Z_ O O O ?_)));rw[b];try rfl
  have b:=u.trans (Kj g (by rw[show v.2.marked=false from c177,show gE v.2=true by simpa using J];rfl));refine ro 5 O (kc (S.fc ZA .none O (zt O) O O (SA.YW d) O) (jm O (kc (S.hidx (i:=i) ZH .none O (zt O) (zt O) h o) (kc (zr SI O) ?_))));refine kc (S.ZP (rows':=(A.parts.map pC).set i (({v.2 with marked:=true}:Part).cells (.raw (v.1.w (R v.2.frames))))) (.p) SP .none (zt O) .aJ O (SA.Iz d) (Z7 (f:=pC) g) O O O O C O) ?_;refine rr 3 O ?_;rw[SA.YM d g (p:={v.2 with marked:=true}) rfl];refine OK.bN (RK.cF (zL Z_ O O O O) (SA.YR (SA.Ok.eC a (i:=i) (v:=(v.1,(fun p:Part=>({p with marked:=true}:Part)) v.2)) (a.fh v (mr g))) O (SA.Y7 _ _).symm (SA.YB g v.1 fun p=>{p with marked:=true})) O O ?_);refine rr 4 O (kT O O Z_ O O O ?_);rw[b];try rfl
 have e8:ZT n A.st L=_:=e7.trans (Zm c157);refine ro 6 O (kB O (fun Z=>?_) (fun Z=>?_))
 ·have e9:ZT n A.st L=_:=e8.trans (Zn Z);have b:=e9;refine ro 6 O ?_;refine RK.c (S.ik (((V5 hn a z hl).jR (aa.az _))) PT call173 .none O (zc O (zc O (zc O (zc O .nil)))) O O) ?_;refine rr 6 O (kT O O Z_ O O O ?_);rw[b];try rfl
 have e9:ZT n A.st L=_:=e8.trans (Zm Z);refine ro 6 O (kB O (fun Y=>?_) (fun Y=>?_))
 ·have M:ZT n A.st L=_:=e9.trans (Zn Y);refine ro 5 O (kc (zK oW call125 O) (kc (S.not .none O (zt O)) (kD (OK.cond O O (fun X=>?_) (fun X=>?_)))))
  ·have b:=M.trans (Zn (by simpa using X));refine kr (RK.cF (zL Z_ O O O O) a.fz O O (rr 4 O (kT O O Z_ O O O ?_)));rw[b];try rfl
  have f1:=M.trans (Zm (by simpa using X));refine ro 6 O (kc (zK (WE (s:=L.rest) I) call174 O) ?_);refine rr 14 O (kB O (fun V=>?_) (fun V=>?_))
  ·have b:=f1.trans (Zn V);refine kr (RK.cF (zL Z_ O O O O) a.fz O O (rr 5 O (kT O O Z_ O O O ?_)));rw[b];try rfl
  have f2:=f1.trans (Zm V);refine ro 7 O ?_;refine kc (S.hlen VB (by show R A.yB<=maxLen;have:R A.yB<=100:=hlr;unfold maxLen;omega) .none O (zt O)) ?_;refine rr 3 O (kB O (fun c214=>?_) (fun c214=>?_))
  ·have b:=f2.trans (Zn (by show R A.yB=6;omega));refine kr (RK.cF (zL Z_ O O O O) a.fz O O (rr 4 O (kT O O Z_ O O O ?_)));rw[b];try rfl
  have b:=f2.trans (Zm (by show¬R A.yB=6;omega));have hcl:=Nf (fun r:Rec=>decide (r.name=L.oF)) A.yB;have hcn:0<=X9 (fun r:Rec=>decide (r.name=L.oF)) A.yB:=Int.natCast_nonneg _;have hlr2:R A.yB<=100:=hlr;have hcv:X9 (fun r:Rec=>decide (r.name=L.oF)) A.st.yB=X9 (fun r:Rec=>decide (r.name=L.oF)) A.yB:=rfl;refine ro 3 O ?_;refine OK.Ye follows (ι:=(Nat×Nat)) (0,0) 13 O (S.happR (s:=[(217,.raw (A.rh.w (R A.yB))),(228,.own 228 1),(2228,.arr 3 [(⟨L.oF,A.st.iN L.oF+1,(iM L.rest).1⟩:Rec).cs]),(3000,.res (aa A.mem))]) (m:=1) (rows2:=[(⟨L.oF,A.st.iN L.oF+1,(iM L.rest).1⟩:Rec).cs]) .r LS O (zt O) a.rs (zt O) O O O C (by rw[Zx];have:R A.yB<=100:=hlr;omega) (by rw[Zx];have:R A.yB<=100:=hlr;unfold maxLen;omega)).st (fun q=>(.cs (zf YS O) (.cs (zl VL O O O O) (.cs (zf VQ O) (.cs (zl Y9 O O O O) (.cs (zL Z_ O O O O) (.cs (zf VQ O) (.cs (zl Y9 O O O O) (.cs (S.YT (XF (s:=A.st) (n:=L.oF)) O call72 .none O (zc O (zc O .nil)) (⟨a.fz,Fz.same _ O,Zo⟩) O) (.cs (zp O O I) (.cs (zU vp O O) (.cs (zm O) (.cs (zU Lo O O) (.cs (zM [[_,_,_]] LS O O O O)
   (.x ⟨O,O,O,O,Zo⟩ (.cn (zf YS O) (.cn (zS VL O O O O O O) .nil))))))))))))))))) (fun q=>?_)
  refine Ab.D.code (kO ?_);rw[SA.N1 q (⟨L.oF,A.st.iN L.oF+1,(iM L.rest).1⟩:Rec)];refine OK.bN (RK.cF (zL Z_ O O O O) (SA.YR (A:={A with rh:=some q,yB:=A.yB++[(⟨L.oF,A.st.iN L.oF+1,(iM L.rest).1⟩:Rec)]}) ⟨fun e=>(by cases e),a.ch,a.ph,a.mh,a.fh⟩ O (SA.Mk q _) O) O O ?_);refine rr 4 O (kT O O Z_ O O O ?_);rw[b];try rfl
 have M:ZT n A.st L=_:=e9.trans (Zm Y);refine ro 6 O (kB O (fun U=>?_) (fun U=>?_))
 ·have K:ZT n A.st L=_:=M.trans (Zn U);refine ro 7 O (kB O (fun T=>?_) (fun T=>?_))
  ·have b:=K.trans (VF (X1 T));refine kr (RK.cF (zL Z_ O O O O) a.fz O O (rr 5 O (kT O O Z_ O O O ?_)));rw[b];try rfl
  obtain⟨i,y⟩:=X2 T;have h:=ZC y;obtain⟨v,g,o,hvn⟩:=NH y;obtain⟨pq,d⟩:=ZB a.ph g;have u:=K.trans (VG y);refine ro 6 O (kc (S.fc ZA .none O (zt O) O O (SA.YW d) O) (jm O (kc (S.hidx (i:=i) ZH .none O (zt O) (zt O) h o) (kc (zr Zl O) ?_))));refine kc (zH Z8 O (aa.V2 (k:=.p) (i:=i) (f:=5) (SA.Iz d) (Z7 (f:=pC) g) O O (.same _))) ?_;refine rr 3 O (kB O (fun B=>?_) (fun B=>?_))
  ·have b:=u.trans (NU g B);refine kr (RK.cF (zL Z_ O O O O) a.fz O O (rr 4 O (kT O O Z_ O O O ?_)));rw[b];try rfl
  have hwp:mw (bP n.aS).1 v.2=(ZO (bP n.aS).1 v.2.frames).rows.all fun x=>x.known:=by unfold mw;rw[(z.nB g).2]
  refine ro 4 O ?_;refine kV (.c (zL XB O O O O) (.c (zf ZZ O) (.c (S.fc ZA .none O (zt O) O O (SA.YW d) O) (.c (zm O) (.c (S.hidx (i:=i) ZH .none O (zt O) (zt O) h o) (.c (zJ (us:=v.2.cs) T7 O (aa.UE (k:=.p) (i:=i) (f:=0) (SA.Iz d) (Z7 (f:=pC) g) O ⟨.same _,.same _,.same _,.same _,.sl (a.fs g),.same _,.same _,.same _,.same _,.same _,.same _,.same _,.same _,Zo⟩ O)) (.c (zK (Yl F z.pl (z.vals g)) call176 O) (.c (zK (Wg (r:=ZO (bP n.aS).1 v.2.frames)) call175 O) (.c (S.not .none O (zt O)) .nil))))))))) (Ab.D.code (OK.cond O O (fun Q=>?_) (fun Q=>?_)))
  ·have b:=u.trans (NT g B (by rw[hwp];simpa using Q));refine kr (RK.cF (zL Z_ O O O O) a.fz O O (rr 4 O (kT O O Z_ O O O ?_)));rw[b];try rfl
  have hmm:=u.trans (Mi g hvn B (by rw[hwp];simpa using Q));refine ro 9 O ?_;refine kc (S.YT (Ow (l:=A.aI) (n:=L.num)) O call41 .none O (zc O (zc O .nil)) (⟨a.fzM,Fz.same _ O,Zo⟩) O) (kD (OK.cond O O (fun P=>?_) (fun P=>?_)))
  ·have b:=hmm.trans (Zn (by rw[←RT];exact P));refine kr (RK.cF (zL Z_ O O O O) a.fz O O (rr 4 O (kT O O Z_ O O O ?_)));rw[b];try rfl
  have b:=hmm.trans (Zm (by rw[←RT];exact Bool.not_eq_true _▸P));refine ro 8 O ?_;refine RK.c (zM [[_]] ZM O O O O) ?_;refine RK.xs (S.happR (m:=1) (rows2:=[V1 L.num]) .m ZM O (zt O) a.ms (zt O) O O O C (by rw[Zx];have:R A.aI<=100:=hlm;omega) (by rw[Zx];have:R A.aI<=100:=hlm;unfold maxLen;omega)) (fun q=>?_);refine rr 5 O ?_;rw[SA.NY q L.num];refine OK.bN (RK.cF (zL Z_ O O O O) (SA.YR (A:={A with mh:=some q,aI:=A.aI++[L.num]}) ⟨a.rh,a.ch,a.ph,fun e=>(by cases e),a.fh⟩ O (SA.Fc q _) O) O O ?_);refine rr 4 O (kT O O Z_ O O O ?_);rw[b];try rfl
 have K:ZT n A.st L=_:=M.trans (Zm U);refine ro 4 O ?_;have hlm2:R A.aI<=100:=hlm;have hrl:R (A.st.nB (bP n.aS).1)=R A.aI:=Zx ..;refine OK.bN (RK.c (S.iI (k:=15) (sz:=1) .none O) (rr 9 O ?_));refine OK.loop (G:=Nat) [3,5,6,8,15] (fun k=>[(3,.ptr 3 0),(1003,.box n.cs),(5,.ptr 5 0),(1005,.box L.cs),(6,.ptr 6 0),(1006,.box [.bO,.bO,.bO,.bO,bv 0,bv 0,.bO]),(8,.ptr 8 0),(1008,.box A.cs),(15,.own 15 k),(2015,.arr 1 (((A.st.nB (bP n.aS).1).take k).map aX.cs)),(16,bv k),(3000,.res (aa A.mem))]) (fun k=>k<=R A.aI) (fun k=>R A.aI - k) 0 (Zr _) ⟨O,O,O,O,O,O,O,O,(cw N),(bH N),O,O,Zo⟩ (fun _=>O) ?_;rintro k hk;refine ro 6 O ?_;refine kc (S.hlen Z4 (by have:R A.aI<=100:=hlm;unfold maxLen;omega) .none O (zt O)) ?_;refine rr 3 O (kB O (fun c274=>?_) (fun c274=>?_))
 ·have hkm:k<R A.aI:=I
  have hkr:k<R (A.st.nB (bP n.aS).1):=I
  have hmk:A.aI[k]?=some A.aI[k]:=Zv hkm;obtain⟨i,y,hwi⟩:=hmd _ (Zt (l:=A.st.aI) hkm);obtain⟨mq,hmh⟩:=ZB a.mh hmk;have h:=ZC y;obtain⟨v,g,o,_⟩:=NH y;obtain⟨pq,d⟩:=ZB a.ph g;have hrk:(A.st.nB (bP n.aS).1)[k]=ZO (bP n.aS).1 v.2.frames:=Mw hkm y g hkr;refine ro 4 O ?_;refine kV (.c (zm O) (.c (zL XB O O O O) (.c (zf ZZ O) (.c (S.fc ZA .none O (zt O) O O (SA.YW d) O) (.c (zL Z_ O O O O) (.c (zf Tk O) (.c (S.fc Zd .none O (zt O) O O (SA.rawM hmh) O) (.c (zm O) (.c (S.hidx (i:=k) Z4 .none O (zt O) (zt O) O hkm) (.c (zH Z8 O (aa.V2 (k:=.m) (i:=k) (f:=0) (SA.atM hmh) (Z7 (f:=V1) hmk) O O (.same _))) (.c (S.YT (Vf (s:=A.st) (n:=A.aI[k])) O call25 .none O (zc O (zc O .nil)) (⟨a.fz,Fz.same _ O,Zo⟩) O) (.c (S.hidx (i:=i) ZH .none O (zt O) (zt O) h o) (.c (zJ (us:=v.2.cs) T7 O (aa.UE (k:=.p) (i:=i) (f:=0) (SA.Iz d) (Z7 (f:=pC) g) O ⟨.same _,.same _,.same _,.same _,.sl (a.fs g),.same _,.same _,.same _,.same _,.same _,.same _,.same _,.same _,Zo⟩ O)) (.c (zK (Yl F z.pl (z.vals g)) call176 O) (.c (zM [[_]] ON O O O O) (.c (zP ON O O (by rw[Zx,List.length_take_of_le (by rw[hrl];exact hk)]) N I (by simp only[maxLen];omega)) (.c (za O) .nil))))))))))))))))) ?_;refine Rd 7 O I ?_;refine Ab.D.lp ⟨k+1,I,I,O,O,O,O,O,O,O,O,(cw N),(bH (by rw[←tF hkr,ne,hrk];rfl)),O,O,Zo⟩
 obtain rfl:k=R A.aI:=I
 have hkl:R (A.st.nB (bP n.aS).1)<=R A.aI:=Nat.le_of_eq hrl;refine ro 4 O ?_;refine OK.freeze 15 O O O (by simp[hrl]) ?_;rw[sg hkl];refine OK.bN (jm O (kc (zk Yd O) (rr 3 O (kB O (fun c295=>?_) (fun c295=>?_)))))
 ·have b:=K.trans (Zn I);refine kr (RK.cF (zL Z_ O O O O) a.fz O O (rr 4 O (kT O O Z_ O O O ?_)));rw[b];try rfl
 have f1:=K.trans (Zm I);refine ro 7 O ?_;refine kc (S.mul .none O (.af O) (zt O) (mn _ I) (mn _ I)) (jm O (kc (zk Yd O) ?_));refine rr 3 O (kB O (fun c302=>?_) (fun c302=>?_))
 ·have b:=f1.trans (Zn I);refine kr (RK.cF (zL Z_ O O O O) a.fz O O (rr 4 O (kT O O Z_ O O O ?_)));rw[b];try rfl
 have b:=f1.trans (Zm I);have hW:=Rx z hmd;refine ro 3 O (kV (.c (zL XB O O O O) (.c (zK (Xv F) call178 O) (.c (zm O) (.c (zf P4 O) (.c (zl Z8 O O O O) (.c (zK (TL (p:=(bP n.aS).1) (l:=A.st.nB (bP n.aS).1) (trim:=L.num) z.pl ⟨I,I⟩ hW ⟨hln.1,I⟩) call177 O) (.c (zf PY O) (.c (zS V7 O O O O O O) .nil)))))))) ?_);refine rd 3 O (RK.cF (zL Z_ O O O O) (SA.YR (A:={A with env:=G6 (bP n.aS).1 (A.st.nB (bP n.aS).1) L.num}) ⟨a.rh,a.ch,a.ph,a.mh,a.fh⟩ O O O) O O (rr 4 O (kT O O Z_ O O O ?_)));rw[b];try rfl
end Go.Proofs.Z9
namespace Go.Proofs.Z9
open Go.Ab Tryz
def jl(n:Net)(vq:ba):Option Nat:=ix (fun p:bf=>decide (p.name=vq)) n.av
def ax.head(H:ax)(x:Entry):Int:=aF [ae (decide (H.entries<60)) 8,ae (jl H.jq x.vq).isSome 6,ae (decide (0<=x.at_/\x.at_<=1000000000000)) 2,ae (decide (x.at_>=H.time)) 9,ae (decide ((R x.text:Int)<=600)) 8,ae (x.text.all ZX) 3,ae (dS (aL 32 x.text).1).isSome 7]
def mO(k:Nat)(H:ax)(L:vN):HE:=match k with
 |0=>(H,0)
 |1=>fT H L.num L.oF L.coil
 |2=>frameT H (aY L.rest).1 (aY L.rest).2
 |3=>n8 H
 |4=>cK H L.num gj
 |5=>cK H L.num Ei
 |6=>qj H L.coil L.num
 |7=>tS H L.coil
 |8=>cK H L.num yE
 |9=>cK H L.num (yQ L.rest)
 |10=>eG H L.oF L.rest
 |11=>cK H L.num fe
 |_=>gS H L.num
def ax.tail(H:ax)(x:Entry)(i k:Nat):Int:=aF [ae (decide ((H.jq.av[i]?.map bf.role).getD 0>=yM.getD k 0)) 18,ae (kf x.text (kinds.getD k [])).2 7]
def bX(H:ax)(x:Entry):HE:=
 if H.head x≠0 then(H,H.head x)else match jl H.jq x.vq,dS (aL 32 x.text).1 with
 |some i,some k=>
  if H.tail x i k≠0 then(H,H.tail x i k)else
  let r:=mO k H (fH x.text).1
  if r.2≠0 then r else({r.1 with time:=x.at_,entries:=r.1.entries+1},0)
 |_,_=>(H,7)
def DI{α:Type}(g:α->Bool)(l:List α):decide (bq g 0 l>=0)=(ix g l).isSome:=by
 rw[my];grind
def head_eq(A:HA)(x:Entry):A.plain.head x=aF [ae (decide (A.entries<60)) 8,ae (decide (bq (fun p:bf=>decide (p.name=x.vq)) 0 A.jq.av>=0)) 6,ae (decide (0<=x.at_/\x.at_<=1000000000000)) 2,ae (decide (x.at_>=A.time)) 9,ae (decide ((R x.text:Int)<=600)) 8,ae (!!(x.text.all ZX)) 3,ae (dS (aL 32 x.text).1).isSome 7]:=by
 rw[DI,Bool.not_not];rfl
def GY{a b c d e f:Bool}:aF [ae a 8,ae b 6,ae c 2,ae d 9,ae e 8,ae f 3,ae false 7]≠0:=by
 cases a<;>cases b<;>cases c<;>cases d<;>cases e<;>cases f<;>decide
def DJ{a b c d e f g:Bool}(h:aF [ae a 8,ae b 6,ae c 2,ae d 9,ae e 8,ae f 3,ae g 7]=0):a=true/\b=true/\c=true/\d=true/\e=true/\f=true/\g=true:=by
 cases a<;>cases b<;>cases c<;>cases d<;>cases e<;>cases f<;>cases g<;>first|exact absurd h C|simp
def Fg{a b:Bool}(h:aF [ae a 18,ae b 7]=0):a=true/\b=true:=by
 cases a<;>cases b<;>first|exact absurd h C|simp
def GZ{H:ax}{x:Entry}(h:H.head x=0):H.entries<60/\(jl H.jq x.vq).isSome=true/\(0<=x.at_/\x.at_<=1000000000000)/\x.at_>=H.time/\(R x.text:Int)<=600/\x.text.all ZX=true/\(dS (aL 32 x.text).1).isSome=true:=by
 obtain⟨l,g,e,d,c,b,a⟩:=DJ h;simp_all
def DK(k:Nat):R (kinds.getD k [])<=3/\∀b∈kinds.getD k [],b.toNat<128:=by
 by_cases h:k<13
 ·match k,h with
  |0,_=>decide
  |1,_=>decide
  |2,_=>decide
  |3,_=>decide
  |4,_=>decide
  |5,_=>decide
  |6,_=>decide
  |7,_=>decide
  |8,_=>decide
  |9,_=>decide
  |10,_=>decide
  |11,_=>decide
  |12,_=>decide
 have e:kinds.getD k []=[]:=by
  unfold List.getD;rw[bζ (by show 13<=k;omega)];rfl
 simp_all
theorem DL{c:UInt8}{l:ba}:(aL c l).2.1=[]\/∃n,(aL c l).2.1=l.drop n:=by
 by_cases h:0<=Lib.indexByte l c
 ·rw[qt h];grind
 rw[oI h];simp
def Bj{c:UInt8}{l:ba}:∃n,(aL c l).1=l.take n:=by
 by_cases h:0<=Lib.indexByte l c
 ·rw[qt h];grind
 rw[oI h];exact⟨R l,F⟩
structure Of(t l:ba):Prop where
 len:l.length<=t.length
 sub:∀b∈l,b∈t
theorem Of.nil(t:ba):Of t []:=⟨Zr _,fun b h=>by cases h⟩
def Of.refl(t:ba):Of t t:=⟨Zq _,fun _ h=>h⟩
theorem Of.trans{a b c:ba}(h:Of a b)(k:Of b c):Of a c:=⟨ce k.len h.len,fun x d=>h.sub x (k.sub x d)⟩
def Of.take(t:ba)(n:Nat):Of t (t.take n):=⟨List.length_take_le' _ _,fun _ h=>List.mem_of_mem_take h⟩
theorem Of.drop(t:ba)(n:Nat):Of t (t.drop n):=⟨F,fun _ h=>dβ h⟩
theorem Of.rest(c:UInt8)(t:ba):Of t (aL c t).2.1:=by
 grind [DL,nil,drop]
theorem Of.first(c:UInt8)(t:ba):Of t (aL c t).1:=by
 obtain⟨n,h⟩:=Bj (c:=c) (l:=t);simp_all[take]
def Of.split(c:UInt8){t w:ba}(h:w∈aj c t):Of t w:=by
 have key:∀(n:Nat)(t:ba),R t<=n->∀w∈aj c t,Of t w:=by
  intro n
  induction n with
  |zero=>
   intro t b w hw;have:t=[]:=tz I;subst this;rw[iY]at hw;split at hw
   ·rename_i a;exact absurd a (by rw[show(aL c ([]:ba)).2.2=false from rfl];decide)
   simp_all[refl]
  |succ n d=>
   intro t b w hw;rw[iY]at hw;split at hw
   ·rename_i a;rw[sf]at hw;rcases hw with rfl|hw
    all_goals grind [first,Of.rest,trans,qt,oI]
   simp_all[refl]
 exact key _ t (Zq _) w h
def G0{t:ba}{L:List ba}(h:∀w∈L,Of t w)(i:Nat):Of t (L.getD i []):=by
 unfold List.getD;cases e:L[i]? with
 |none=>exact .nil t
 |some w=>grind
def Fh(t:ba):Of t (fH t).1.rest/\Of t (fH t).1.oF/\Of t (fH t).1.coil:=by
 have a:=Of.rest 32 t;have b:∀w∈aj 32 (aL 32 t).2.1,Of t w:=fun w hw=>a.trans (.split 32 hw)
 have g:=fun i=>G0 b i
 have d:=a.trans (Of.first 32 (aL 32 t).2.1);have c:=a.trans (Of.rest 32 (aL 32 t).2.1);grind [Of.nil,fH]
def yP(n:Net):Prop:=(0<=n.lo/\n.lo<=10000)/\(0<=n.hi/\n.hi<=10000)
def lG(k:Nat):Prop:=∀{A:HA}{m:Int},A.Ok m->m+2<=1000->bA A.aS=0->yP A.jq->∀{L:vN},(R L.rest<=600/\R L.oF<=600/\R L.coil<=600/\L.rest.all ZX=true)->
 dU prog (Du k) [] [.raw (pV A.b),.agg (ig k L).cs] [(3000,.res (aa A.mem))] [(3000,.res (JX A.b (mO k A.plain L).1 (m+2)))] (bv (mO k A.plain L).2)
def DM{k:Nat}(h:k<13):∀args w,(callFunc (Du k) args).run prog w=.ok (.enter (Du k) args) w:=by
 match k,h with
 |0,_=>exact call154
 |1,_=>exact call155
 |2,_=>exact call156
 |3,_=>exact call157
 |4,_=>exact call158
 |5,_=>exact call159
 |6,_=>exact call160
 |7,_=>exact call161
 |8,_=>exact call162
 |9,_=>exact call163
 |10,_=>exact call164
 |11,_=>exact call165
 |12,_=>exact call166
def eff_0:lG 0:=fun a b _ _ _ _=>(Ol a b).ef
def HZ:lG 1:=fun a b _ _ _ _=>(Bg a b).ef
def H6:lG 2:=fun a c b _ _ d=>Bh a c d.1 b
def H7:lG 3:=fun a b _ _ _ _=>(Fb a b).ef
def H8:lG 4:=fun a b _ _ _ _=>DN a b
def eff_5:lG 5:=fun a b _ _ _ _=>Mu a b
def HY:lG 6:=fun a b _ _ _ _=>(xl a b).ef
def eff_7:lG 7:=fun a b _ _ _ _=>(Rv a b).ef
def eff_8:lG 8:=fun a b _ _ _ _=>Oj a b
def GD:lG 11:=fun a b _ _ _ _=>Bi a b
def GF:lG 12:=fun a b _ _ _ _=>(Be a b).ef
theorem jo{H:ax}{n:Int}{f:ax->Nat->HE}(a:∀i,(f H i).1.entries=H.entries):(cK H n f).1.entries=H.entries:=by
 unfold cK;split
 ·rfl
 rename_i i _;split
 ·exact a i
 grind
def DP(k:Nat)(H:ax)(L:vN):(mO k H L).1.entries=H.entries:=by
 have d:∀r i,(yQ r H i).1.entries=H.entries:=fun r i=>by
  unfold yQ;dsimp only
  repeat' split
  all_goals rfl
 have b:∀i,(gj H i).1.entries=H.entries:=fun i=>by unfold gj;split<;>rfl
 have c:∀i,(Ei H i).1.entries=H.entries:=fun i=>by unfold Ei;split<;>rfl
 have a:∀i,(yE H i).1.entries=H.entries:=fun i=>by unfold yE;split<;>rfl
 have e:∀i,(fe H i).1.entries=H.entries:=fun i=>by grind [fe]
 unfold mO;split
 ·rfl
 ·grind [fT]
 ·unfold frameT;repeat' split
  all_goals rfl
 ·unfold n8;split<;>rfl
 ·exact jo b
 ·exact jo c
 ·grind [qj]
 ·grind [tS]
 ·exact jo a
 all_goals grind [jo,eG,gS]
def xm{H:ax}{x:Entry}(h:H.head x≠0):bX H x=(H,H.head x):=by unfold bX;grind
def DQ{H:ax}{x:Entry}{i k:Nat}(h:H.head x=0)(hi:jl H.jq x.vq=some i)(a:dS (aL 32 x.text).1=some k)(b:H.tail x i k≠0):bX H x=(H,H.tail x i k):=by
 simp_all[bX]
def DR{H:ax}{x:Entry}{i k:Nat}(h:H.head x=0)(hi:jl H.jq x.vq=some i)(a:dS (aL 32 x.text).1=some k)(c:H.tail x i k=0)(b:(mO k H (fH x.text).1).2≠0):bX H x=mO k H (fH x.text).1:=by
 simp_all[bX]
def DS{H:ax}{x:Entry}{i k:Nat}(h:H.head x=0)(hi:jl H.jq x.vq=some i)(a:dS (aL 32 x.text).1=some k)(c:H.tail x i k=0)(b:(mO k H (fH x.text).1).2=0):bX H x=({(mO k H (fH x.text).1).1 with time:=x.at_,entries:=(mO k H (fH x.text).1).1.entries+1},0):=by
 simp_all[bX]
def yw{p:bf}{x:Entry}:Ct prog 109 [.agg p.cs,.b5 x.cs] (.bool (decide (p.name=x.vq))):=by
 refine cI func109 O (ro 16 O (kR O O ?_));rfl
def vf{l:List bf}{x:Entry}:Ct prog 108 [.sl (l.map bf.cs),.fn 109 [.b5 x.cs]] (bv (bq (fun p:bf=>decide (p.name=x.vq)) 0 l)):=by
 refine cI func108 O (OK.eW (rows:=l.map bf.cs) (t:=0) O O fun hlen=>?_);rw[Zx]at hlen;unfold maxLen at hlen;refine ro 9 O (kc (zk Ys O) (rr 4 O ?_));refine OK.loop (G:=Nat) [] (fun i=>[(0,.sl (l.map bf.cs)),(1,.fn 109 [.b5 x.cs]),(7,bv (R l)),(8,bv i)]) (fun i=>i<=R l/\bq (fun p:bf=>decide (p.name=x.vq)) 0 l=bq (fun p:bf=>decide (p.name=x.vq)) i (l.drop i)) (fun i=>R l - i) 0 ⟨Zr _,O⟩ ⟨O,O,O,O,Zo⟩ (fun _=>O) ?_;rintro i ⟨hi,a⟩;refine ro 6 O (kB O (fun d=>?_) (fun d=>?_))
 ·have c:i<R l:=by omega
  refine ro 15 O (kc (zI Ys O I O) (kc (S.fG BE .none O (zt O) O O) (kc (S.ij (yw (p:=l[i]) (x:=x)) call109 .none O (zt O) (zc O .nil) O O O) (kD (kB O (fun b=>?_) (fun b=>?_))))))
  ·refine ro 6 O (kR O O ?_);refine cy ?_;rw[a,bT _ I];simp_all
  refine Ro 7 O I (Ab.D.lp ⟨i+1,⟨by omega,?_⟩,I,O,O,O,O,Zo⟩);rw[a,bT _ I];simp_all
 refine ro 7 O (kR O O ?_);refine cy ?_;have:i=R l:=by omega
 subst this;rw[a,no];rfl
def Al{A:HA}{m:Int}(q:A.Ok m)(G:m+2<=1000)(V:bA A.aS=0)(Z:yP A.jq){x:Entry}(K:R x.text<=100000)(hE:∀k,dS (aL 32 x.text).1=some k->lG k):dU prog 78 [] [.raw (pV A.b),.agg x.cs] [(3000,.res (aa A.mem))] [(3000,.res (JX A.b (bX A.plain x).1 (m+2)))] (.int .i64 (bX A.plain x).2):=by
 refine cH func78 O fun B=>?_
 refine ro 7 O (OK.freezeP [] [(0,.raw (pV A.b)),(3000,.res (aa A.mem))] 3 O O O O O O ⟨O,O,Zo⟩ O (ro 6 O ?_));refine kc (zH SN O (aa.dQ (k:=.bn) O O (.same _))) (kc (S.dx .none O (zt O) O) (kc (zK (vf (l:=A.jq.av) (x:=x)) call108 O) ?_));refine rr 5 O (kc (S.assign .none O .oL) (rr 6 O (kc (zK (str_Cut (l:=x.text) (c:=32) K) call111 O) (rr 10 O ?_))));rcases hk:dS (aL 32 x.text).1 with _|k
 ·have d:=head_eq A x;rw[hk]at d;refine OK.bN (jm O (kc (zK (Dw hk) call112 O) (rr 9 O ?_)));refine kV (.c (zm O) (.c (zn O O) (.c (zr Y4 O) (.c (zH Z8 O (aa.dQ (k:=.bn) O O (.same _))) (.c (S.lss .none O (zt O) (.af O)) (.c (zK ak call96 O) (.c (zm O) (.c (S.geq .none O (zt O) (.af O)) (.c (zK ak call96 O) (.c (S.field Wl .none O (zt O) O) (.c (zV Z8 O O) (.c (zK cv call97 O) (.c (zK ak call96 O) (.c (S.field Wl .none O (zt O) O) (.c (zV Z8 O O) (.c (zm O) (.c (zn O O) (.c (zr SC O) (.c (zH Z8 O (aa.dQ (k:=.bn) O O (.same _))) (.c (S.geq .none O (zt O) (zt O)) (.c (zK ak call96 O) (.c (S.field TK .none O (zt O) O) (.c (zV Y9 O O) (.c (S.dP underlying9 .none O (zt O)) (.c (S.leq .none O (zt O) (.af O)) (.c (zK ak call96 O) (.c (S.field TK .none O (zt O) O) (.c (zV Y9 O O) (.c (zm O) (.c (zK (jk K) call113 O) (.c (S.not .none O (zt O)) (.c (zK ak call96 O) (.c (zm O) (.c (zK ak call96 O) (.c (zM [[_],[_],[_],[_],[_],[_],[_]] Zc O O O O) (.c (S.callL (bF (l:=[_,_,_,_,_,_,_])) call76 .none O (zc O .nil) (.cons (.p (.own O O) O) .nil) O) (.c (za O) .nil))))))))))))))))))))))))))))))))))))) ?_;refine rd 8 O (kB O (fun e=>?_) (fun e=>?_))
  ·have D:A.plain.head x≠0:=by rw[d];exact e
   have a:=xm D;refine ro 6 O ?_;have B:=a;refine OK.bU (J':=JX A.b (bX A.plain x).1 (m+2)) O (JX.az _ _ _) (fun h Y w r=>HA.jx q I G (by rw[B]) r) ?_;refine OK.ret ⟨aA.r1 (zo O O) ?_,O,Zo⟩;rw[a,d];rfl
  exact absurd GY e
 have d:=head_eq A x;rw[hk]at d;have H:k<13:=(eE hk).1;refine OK.bN (jm O (kc (zK (Dx hk) call112 O) (rr 9 O ?_)));refine kV (.c (zm O) (.c (zn O O) (.c (zr Y4 O) (.c (zH Z8 O (aa.dQ (k:=.bn) O O (.same _))) (.c (S.lss .none O (zt O) (.af O)) (.c (zK ak call96 O) (.c (zm O) (.c (S.geq .none O (zt O) (.af O)) (.c (zK ak call96 O) (.c (S.field Wl .none O (zt O) O) (.c (zV Z8 O O) (.c (zK cv call97 O) (.c (zK ak call96 O) (.c (S.field Wl .none O (zt O) O) (.c (zV Z8 O O) (.c (zm O) (.c (zn O O) (.c (zr SC O) (.c (zH Z8 O (aa.dQ (k:=.bn) O O (.same _))) (.c (S.geq .none O (zt O) (zt O)) (.c (zK ak call96 O) (.c (S.field TK .none O (zt O) O) (.c (zV Y9 O O) (.c (S.dP underlying9 .none O (zt O)) (.c (S.leq .none O (zt O) (.af O)) (.c (zK ak call96 O) (.c (S.field TK .none O (zt O) O) (.c (zV Y9 O O) (.c (zm O) (.c (zK (jk K) call113 O) (.c (S.not .none O (zt O)) (.c (zK ak call96 O) (.c (zm O) (.c (zK ak call96 O) (.c (zM [[_],[_],[_],[_],[_],[_],[_]] Zc O O O O) (.c (S.callL (bF (l:=[_,_,_,_,_,_,_])) call76 .none O (zc O .nil) (.cons (.p (.own O O) O) .nil) O) (.c (za O) .nil))))))))))))))))))))))))))))))))))))) ?_;refine rd 8 O (kB O (fun e=>?_) (fun e=>?_))
 ·have D:A.plain.head x≠0:=by rw[d];exact e
  have a:=xm D;refine ro 6 O ?_;have B:=a;refine OK.bU (J':=JX A.b (bX A.plain x).1 (m+2)) O (JX.az _ _ _) (fun h Y w r=>HA.jx q I G (by rw[B]) r) ?_;refine OK.ret ⟨aA.r1 (zo O O) ?_,O,Zo⟩;rw[a,d];rfl
 have h0:A.plain.head x=0:=by rw[d];exact Zu.1 e
 obtain⟨q1,q2,q3,q4,q5,q6,q7⟩:=GZ h0;obtain⟨i,hi⟩:=sk.1 q2;have J:i<R A.jq.av:=(eE hi).1;have X:bq (fun p:bf=>decide (p.name=x.vq)) 0 A.jq.av=(i:Int):=by rw[my,show ix (fun p:bf=>decide (p.name=x.vq)) A.jq.av=some i from hi]
 obtain⟨E,P,N⟩:=Fh x.text;have hL:R (fH x.text).1.rest<=600/\R (fH x.text).1.oF<=600/\R (fH x.text).1.coil<=600/\(fH x.text).1.rest.all ZX=true:=⟨by have:=E.len;omega,by have:=P.len;omega,by have:=N.len;omega,rm.2 fun b hb=>rm.1 q6 b (E.sub b hb)⟩;have C:A.plain.tail x i k=aF [ae (decide (A.jq.av[i].role>=yM.getD k 0)) 18,ae (kf x.text (kinds.getD k [])).2 7]:=by unfold ax.tail;rw[show A.plain.jq.av[i]?=some A.jq.av[i]from Zv J];rfl
 refine ro 8 O (kc (S.dB (Bf (text:=x.text) (ks:=kinds.getD k []) K (DK k)) B call114 .none O (zc O (zc O .nil)) O) (rr 10 O ?_));refine kV (.c (zm O) (.c (zn O O) (.c (zr Y3 O) (.c (zr WN O) (.c (zr Xr O) (.c (zH SN O (aa.dQ (k:=.bn) O O (.same _))) (.c (zm O) (.c (S.aP (n:=i) Ys .none O (zt O) (zt O) X J O) (.c (S.field Sr .none O (zt O) O) (.c (zV Z8 O O) (.c (zf P5 O) (.c (zl Z8 O O O O) (.c (S.geq .none O (zt O) (zt O)) (.c (zK ak call96 O) (.c (zm O) (.c (zK ak call96 O) (.c (zM [[_],[_]] Zc O O O O) (.c (S.callL (bF (l:=[_,_])) call76 .none O (zc O .nil) (.cons (.p (.own O O) O) .nil) O) (.c (za O) .nil))))))))))))))))))) ?_;refine rd 7 O (kB O (fun g=>?_) (fun g=>?_))
 ·have W:A.plain.tail x i k≠0:=by rw[C];exact g
  have a:=DQ h0 hi hk W;refine ro 6 O ?_;have B:=a;refine OK.bU (J':=JX A.b (bX A.plain x).1 (m+2)) O (JX.az _ _ _) (fun h Y w r=>HA.jx q I G (by rw[B]) r) ?_;refine OK.ret ⟨aA.r1 (zo O O) ?_,O,Zo⟩;rw[a,C]
 have h2:A.plain.tail x i k=0:=by rw[C];exact Zu.1 g
 obtain⟨_,T⟩:=Fg (Zu.1 g);obtain⟨M,L⟩:=Es hk;have Q:=L (M▸T);rw[Q];refine ro 9 O ?_;refine RK.c (S.uy (((hE k hk q G V Z hL).jR B (aa.az _))) (JX.az _ _ _) (DM H) .none O (zt O) (zc O (zc O .nil)) O O O O) ?_;refine rr 9 O (kB O (fun o=>?_) (fun o=>?_))
 ·have a:=DR h0 hi hk h2 o;refine ro 6 O ?_;refine OK.bU (J':=JX A.b (bX A.plain x).1 (m+2)) O (JX.az _ _ _) (fun h Y w r=>by rw[a];exact r) ?_;refine OK.ret ⟨aA.r1 (zo O O) ?_,O,Zo⟩;rw[a]
 have U:(mO k A.plain (fH x.text).1).2=0:=Zu.1 o;have a:=DS h0 hi hk h2 U;refine OK.Bv O fun t hb1 y z=>?_
 have he1:t.entries=A.entries:=(rn ax.entries y).trans (DP k A.plain _);have hen:=z.en;have q1b:A.entries<60:=q1;rw[←hb1];refine ro 9 O (kc (S.dc (xs':=({t with time:=x.at_}:HA).cs) (.bn) Z8 .none (zt O) (zt O) O O O O O O O) (rr 7 O ?_));refine kc (zH (u:=bv t.entries) Z8 O (aa.dQ (k:=.bn) (HM.bw _ _ _) O (.same _))) ?_;refine Rr 3 O I ?_;refine kc (S.dc (xs':=({t with time:=x.at_,entries:=t.entries+1}:HA).cs) (.bn) Z8 .none (zt O) (zt O) O (HM.bw _ _ _) O O O O O) ?_;refine rr 3 O ?_;rw[HM.set_set];refine OK.Dv (A1:={t with time:=x.at_,entries:=t.entries+1}) z O O ⟨O,O⟩ ⟨O,O⟩ ⟨O,O⟩ ⟨O,O⟩ (by dsimp only;omega) fun F=>?_
 refine ro 4 O ?_;refine OK.bU (J':=JX t.b (bX A.plain x).1 (m+2)) O (JX.az _ _ _) (fun h Y w r=>jM F I G O (by rw[a,←y];rfl) r) ?_;refine OK.ret ⟨aA.r1 (zo O O) ?_,O,Zo⟩;rw[a]
end Go.Proofs.Z9
namespace Go.Proofs.Z9
open Go.Ab Tryz
def NW{l:ba}(h:(lj l).2=true):0<=(lj l).1/\(lj l).1<=10000000:=by
 obtain⟨e,d⟩:=pO l;rw[e]at h;have a:iF l 7=true:=by simp_all[tW]
 obtain⟨c,b⟩:=cN.1 a;rw[d h,yN I a];have o:=jF l 0 c.2.2;have g:10 ^ (R l)<=10 ^ 7:=aφ C b;omega
def R2{t:ba}(h:(fH t).2=true):0<=(fH t).1.num/\(fH t).1.num<=10000000:=by
 revert h;unfold fH;dsimp only
 repeat' split
 all_goals intro h
 all_goals simp_all[NW]
def Sx(n:Net)(x:Entry):Int:=((n.av[(jl n x.vq).getD 0]?).map bf.role).getD 0
def UA(n:Net)(s:State)(x:Entry)(last:Int):SE:=
 if jl n x.vq=none then(s,6)else if¬(0<=x.at_/\x.at_<=1000000000000)then(s,2)else if x.at_<last then(s,9)else if 600<R x.text then(s,8)else if x.text.all ZX=false then(s,3)
 else if dS (aL 32 x.text).1=none then(s,7)else if Sx n x<yM.getD ((dS (aL 32 x.text).1).getD 0) 0 then(s,18)else if(fH x.text).2=false then(s,7)else ZT n s (fH x.text).1
def Py(w:ba)(i:Nat):Int:=match dS w with
 |some k=>if k<i then yM.getD k 0 else -1
 |none=> -1
def MQ:∀k:Nat,k<13->dS (gR.getD k [])=some k:=C
def rUp_0(w:ba):Py w 0= -1:=by grind [Py]
def Lh{w:ba}{k:Nat}(a:k<13)(h:gR.getD k []=w):Py w (k+1)=yM.getD k 0:=by subst h;unfold Py;rw[MQ k a];simp
def Lg{w:ba}{k:Nat}(b:k<13)(h:¬gR.getD k []=w):Py w (k+1)=Py w k:=by
 unfold Py;cases e:dS w with
 |none=>rfl
 |some j=>
  have c:j≠k:=fun a=>by
   subst a;obtain⟨g,d⟩:=eE e;simp_all
  grind
def rUp_n{w:ba}(h:Py w 13<0):dS w=none:=by
 unfold Py at h;cases e:dS w with
 |none=>rfl
 |some k=>
  have a:k<13:=(eE e).1;rw[e]at h;dsimp only at h;rw[Zn a]at h;have:∀k:Nat,k<13->¬yM.getD k 0<0:=C
  grind
def rUp_s{w:ba}(h:¬Py w 13<0):∃k,k<13/\dS w=some k/\Py w 13=yM.getD k 0:=by
 unfold Py at h⊢;grind
def Uq{b:UInt8}(h:(b.toNat:Int)<32\/(b.toNat:Int)>126):ZX b=false:=Zy I
def Og{b:UInt8}(c:¬(b.toNat:Int)<32)(a:¬(b.toNat:Int)>126):ZX b=true:=Zz I
def MX{α:Type}{g:α->Bool}{l:List α}{j:Nat}(h:j<R l)(a:g l[j]=false):(l.drop j).all g=false:=by grind [List.drop_eq_getElem_cons]
def Jw{α:Type}{g:α->Bool}{l:List α}{j:Nat}(h:j<R l)(a:g l[j]=true):(l.drop j).all g=(l.drop (j+1)).all g:=by grind [List.drop_eq_getElem_cons]
def S3{n:Int}:Ct prog 116 [bv n] (.bool (decide (0<=n/\n<=1000000000000))):=by
 refine cI func116 O (ro 8 O (kc (zK gx call33 O) (rr 3 O (kR O O ?_))));rfl
def Ry{n:Net}(N:R n.aS<=1000)(hn:(0<=n.lo/\n.lo<=1000000000)/\(0<=n.hi/\n.hi<=1000000000)/\ve n.limit=true){s:State}(hg:s.Good (bP n.aS).1)(P:s.Lw (bP n.aS).1){x:Entry}{last:Int}(X:R x.text<=100000):Ct prog 79 [.agg n.cs,.agg s.cs,.agg x.cs,bv last] (.cf [.agg (UA n s x last).1.cs,bv (UA n s x last).2]):=by
 refine cI func79 O (ro 14 O (kc (zK (TI (s:=n) (n:=x.vq)) call115 O) (rr 10 O (kB O (fun z=>?_) (fun z=>?_)))))
 ·have b:UA n s x last=_:=Zn (X1 z);refine ro 7 O (kT O O Z_ O O O ?_);rw[b];try rfl
 obtain⟨w,hw⟩:=X2 z;have K:=ZC hw;have B:w<R n.av:=(eE hw).1;have H:jl n x.vq=some w:=hw;have e0:UA n s x last=_:=Zm (by rw[H];exact fun h=>by cases h);refine ro 7 O (kc (zK (S3 (n:=x.at_)) call116 O) (kc (S.not .none O (zt O)) (kD (OK.cond O O (fun y=>?_) (fun y=>?_)))))
 ·have b:=e0.trans (Zn (by have h:=y;simp only[zd,ul]at h;exact h));refine ro 7 O (kT O O Z_ O O O ?_);rw[b];try rfl
 have e1:=e0.trans (Zm (by have h:=y;simp only[Bool.not_eq_false',tm]at h;exact Zp h));refine ro 11 O (kB O (fun u=>?_) (fun u=>?_))
 ·have b:=e1.trans (Zn u);refine ro 7 O (kT O O Z_ O O O ?_);rw[b];try rfl
 have e2:=e1.trans (Zm u);refine ro 11 O (kB O (fun W=>?_) (fun W=>?_))
 ·have b:=e2.trans (Zn I);refine ro 7 O (kT O O Z_ O O O ?_);rw[b];try rfl
 have U:=e2.trans (Zm I);refine ro 9 O ?_;refine OK.loop (G:=Nat) [4,5,6,8] (fun j=>[(4,.ptr 4 0),(1004,.box n.cs),(5,.ptr 5 0),(1005,.box s.cs),(6,.ptr 6 0),(1006,.box x.cs),(8,.ptr 8 0),(1008,.box [.bO,.bO,.bO,.bO,bv 0,bv 0,.bO]),(10,bv (bq (fun p:bf=>decide (p.name=x.vq)) 0 n.av)),(11,bv j)]) (fun j=>j<=R x.text/\x.text.all ZX=(x.text.drop j).all ZX) (fun j=>R x.text - j) 0 ⟨Zr _,O⟩ ⟨O,O,O,O,O,O,O,O,O,O,Zo⟩ (fun _=>O) ?_;rintro j ⟨hj,J⟩;refine ro 10 O (kB O (fun V=>?_) (fun V=>?_))
 ·have d:j<R x.text:=by omega
  refine ro 9 O (kc (S.fJ (n:=j) fR .none O (zt O) (zt O) O d) (rr 2 O (RK.bh (t:=54) O (fun l=>?_) (fun l=>?_))))
  ·have b:=U.trans (Zn (J.trans (MX d (Uq (.inl l)))));refine rr 16 O (kT O O Z_ O O O ?_);rw[b];try rfl
  refine rr 3 O (kc (S.fJ (n:=j) fR (zg O O) O (zt O) (zt O) O d) (rr 4 O (kB O (fun r=>?_) (fun r=>?_))))
  ·have b:=U.trans (Zn (J.trans (MX d (Uq (.inr r)))));refine ro 7 O (kT O O Z_ O O O ?_);rw[b];try rfl
  refine Ro 8 O I (Ab.D.lp ⟨j+1,⟨by omega,by rw[J,Jw d (Og l r)]⟩,I,O,O,O,O,O,O,O,O,O,O,Zo⟩)
 have Z:=U.trans (Zm (by rw[J,ut I];decide));refine ro 6 O (kc (zK (XW (s:=x.text) X) call105 O) (rr 16 O (kc (zK Sg call117 O) (rr 10 O ?_))));refine OK.loop (G:=Nat) [4,5,6,8] (fun i=>[(4,.ptr 4 0),(1004,.box n.cs),(5,.ptr 5 0),(1005,.box s.cs),(6,.ptr 6 0),(1006,.box x.cs),(8,.ptr 8 0),(1008,.box [.bO,.bO,.bO,.bO,bv 0,bv 0,.bO]),(10,bv (bq (fun p:bf=>decide (p.name=x.vq)) 0 n.av)),(12,.str (aL 32 x.text).1),(15,bv (Py (aL 32 x.text).1 i)),(16,.sl (gR.map fun v=>[.str v])),(17,bv i)]) (fun i=>i<=13) (fun i=>13 - i) 0 C ⟨O,O,O,O,O,O,O,O,O,O,(yL (rUp_0 _).symm),O,O,Zo⟩ (fun _=>O) ?_;rintro i hi;refine ro 5 O (kc (zk Z2 O) (rr 3 O (kB O (fun q=>?_) (fun q=>?_))))
 ·have a:i<13:=by have:(i:Int)<R gR:=q;have Q:R gR=13:=rfl;omega
  refine ro 8 O (kc (zI Z2 O (show i<R gR from a) O) (rr 5 O (kB O (fun g=>?_) (fun g=>?_))))
  ·refine OK.bN (kc (zK Sf call118 O) (jm O (kc (zI Z4 O (show i<R yM from a) O) (Rr 10 O I ?_))));refine Ab.D.lp ⟨i+1,I,I,O,O,O,O,O,O,O,O,O,O,(yL (by first|exact((Lh a (by rw[ZI (show i<R gR from a)];exact g)).trans (ZI (show i<R yM from a))).symm|exact(Lg a (by rw[ZI (show i<R gR from a)];exact g)).symm)),O,O,Zo⟩
  refine Ro 8 O I ?_;refine Ab.D.lp ⟨i+1,I,I,O,O,O,O,O,O,O,O,O,O,(yL (by first|exact((Lh a (by rw[ZI (show i<R gR from a)];exact g)).trans (ZI (show i<R yM from a))).symm|exact(Lg a (by rw[ZI (show i<R gR from a)];exact g)).symm)),O,O,Zo⟩
 obtain rfl:i=13:=by have:¬(i:Int)<R gR:=q;have Q:R gR=13:=rfl;omega
 refine ro 9 O (kB O (fun o=>?_) (fun o=>?_))
 ·have b:=Z.trans (Zn (rUp_n o));refine ro 7 O (kT O O Z_ O O O ?_);rw[b];try rfl
 obtain⟨k,hk,E,F⟩:=rUp_s o;have T:=Z.trans (Zm (by rw[E];exact fun h=>by cases h));have M:Sx n x=n.av[w].role:=by unfold Sx;rw[H];show((n.av[w]?).map _).getD 0=_;rw[Zv B];rfl
 rw[E,M]at T;refine ro 8 O (kc (S.aP (n:=w) Ys .none O (zt O) (zt O) K B O) (rr 6 O (kB O (fun e=>?_) (fun e=>?_))))
 ·have b:=T.trans (Zn (by rw[F]at e;exact e));refine ro 7 O (kT O O Z_ O O O ?_);rw[b];try rfl
 have Y:=T.trans (Zm (by rw[F]at e;exact e));refine ro 6 O (kc (zK (Se (s:=x.text) X) call71 O) (rr 12 O (kc (S.not .none O (zt O)) (kD (OK.cond O O (fun c=>?_) (fun c=>?_))))))
 ·have b:=Y.trans (Zn (by simpa using c));refine ro 7 O (kT O O Z_ O O O ?_);rw[b];try rfl
 have b:=Y.trans (Zm (by simpa using c));refine ro 7 O ?_;refine kc (zK (Rz N hn hg P (L:=(fH x.text).1) (by have:=(Fh x.text).1.len;omega) (R2 (by simpa using c))) call119 O) ?_;refine rr 6 O (kT O O Z_ O O O ?_);rw[b];try rfl
