import Derived.Test.YtdhdgbnafkeifaaGreatDoorUj
set_option linter.all false
set_option maxHeartbeats 4000000
open List renaming length->R
namespace Go.Proofs.YtdhdgbnafkeifaaGreatDoor
open Go.Ab Tryz
set_option maxRecDepth 9999
def Pd(P:ax->Prop)(a:∀H x,P H->(bX H x).2=0->P (bX H x).1):∀(l:List Entry)(H:ax)(i:Nat),(runT H i l).2.2=0->P H->P (runT H i l).1
 |[],_,_,_,h=>h
 |x::l,H,i,h0,h=>by
  rw[runT]at h0⊢;by_cases e:(bX H x).2=0
  ·rw[Zm (Zp e)]at h0⊢;exact Pd P a l _ _ h0 (a H x h e)
  rw[Zn e]at h0;exact absurd h0 e
def To{n:Net}{l:List Entry}(P:ax->Prop)(hi:∀n p,bA p=0->P (ax.init n p))(a:∀H x,P H->(bX H x).2=0->P (bX H x).1)(h:(bl n l).2.2=0):P (bl n l).1:=by
 obtain⟨b,_,e⟩:=Sv h;rw[e]at h⊢;exact Pd P a l _ _ h (hi _ _ (vP (B6 b).2))
def LZ{n:Net}{l:List Entry}(h:(bl n l).2.2=0):HS (bl n l).1:=To HS (fun _ _ h=>HS.init h) (fun _ x h _=>h.enter x) h
end Go.Proofs.YtdhdgbnafkeifaaGreatDoor
namespace Go.Proofs.YtdhdgbnafkeifaaGreatDoor
open Go.Ab Tryz
def r_(a b:Int):Prop:=b=a\/(a=0/\b=1)\/(a=1/\2<=b/\b<=4)
structure Mv(H H':ax)(s:Bool):Prop where
 len:H'.parts.length=H.parts.length+if s=true then 1 else 0
 old:∀j,j<H.parts.length->r_ (H.p j).place (H'.p j).place
 new:s=true->((H'.p H.parts.length).place=0/\0<=(H'.p H.parts.length).num/\(H'.p H.parts.length).num<=1000000)/\∀j,j<H.parts.length->(H.p j).place≠0
 nm:∀j,j<H.parts.length->(H'.p j).num=(H.p j).num
section
variable{H H':ax}{s:Bool}{i:Nat}
def Mv.refl:Mv H H false:=⟨rfl,fun _ _=>.inl rfl,Z,fun _ _=>rfl⟩
def Mv.re(h:H'.parts=H.parts):Mv H H' false:=⟨by rw[h];rfl,fun j _=>.inl (by unfold ax.p;rw[h]),Z,fun j _=>by unfold ax.p;rw[h]⟩
def Mv.eC{f:Part->Part}(c:i<R H.parts->r_ (H.p i).place (f (H.p i)).place)(b:∀p,(f p).num=p.num:=by exact fun _=>rfl):Mv H (H.eC i f) false:=
 ⟨aμ ..,fun j a=>by
  rw[D_ H i f a];split
  ·rename_i e;subst e;exact c a
  ·exact .inl rfl,Z,fun j a=>by
  rw[D_ H i f a];split
  ·exact b _
  rfl⟩
def Mv.jO(h:Mv H H' s)(j:Nat):Mv H (H'.jO j) s:=
 ⟨(aμ ..).trans h.len,fun k a=>by rw[N_];exact h.old k a,(fun e=>by rw[N_];exact h.new e),fun k a=>by rw[N_];exact h.nm k a⟩
def AT(j:Nat)(a:j<R H'.parts):((H'.Ff i).p j).place=(H'.p j).place/\((H'.Ff i).p j).num=(H'.p j).num:=by
 unfold ax.p ax.Ff;dsimp only;rw[i7,Zv a];simp only[cφ,Option.getD_some];split<;>exact⟨rfl,rfl⟩
def Mv.Ff(h:Mv H H' false)(k:Nat):Mv H (H'.Ff k) false:=
 ⟨(Zx ..).trans h.len,fun j a=>by rw[(AT j (by have:=h.len;simp at this;omega)).1];exact h.old j a,Z,fun j a=>by rw[(AT j (by have:=h.len;simp at this;omega)).2];exact h.nm j a⟩
def Mv.about{n:Int}{f:ax->Nat->HE}(a:∀i,H.vr n=some i->Mv H (f H i).1 false):Mv H (cK H n f).1 false:=by
 unfold cK;cases e:H.vr n with
 |none=>exact .refl
 |some i=>
  dsimp only;split
  ·exact(a i e).jO i
  exact a i e
def J5(h:H.xE=some i):(H.p i).place=0:=by
 obtain⟨hi,a⟩:=eE h;rw[Wf (Zv hi)];exact pf a
def Mv.start{n:Int}(h0:0<=n)(r c:ba)(h:(fT H n r c).2=0):Mv H (fT H n r c).1 true:=by
 by_cases b:aF [ae (decide (n<=1000000)) 2,ae (H.vr n).isNone 5,ae ((H.Ec r).isSome&&(H.Bs c).isSome) 6,ae H.xE.isNone 17]=0
 case neg=>rw[xg rfl b]at h;exact absurd h b
 obtain⟨l,_,g,u⟩:=Dz b;have l:=pf l;rw[Zw]at g;obtain⟨k,o⟩:=sk.1 g.1;obtain⟨j,a⟩:=sk.1 g.2;have d:=(j5 o).1;have f:=(eE a).1;rw[DA b o (Zv d) a (Zv f)]at h⊢;split
 ·rename_i t;rw[Zn t]at h;exact absurd h t
 have m:∀(j:Nat)(_:j<R H.parts)(cs:List (o6×Int))(q:Part×bd),ax.p {H with aC:=cs,parts:=H.parts++[q]} j=H.p j:=fun j a cs q=>by
  unfold ax.p;dsimp only;rw[m6 a]
 refine⟨F,fun j a=>.inl (by rw[m j a]),fun _=>⟨?_,fun j a e=>?_⟩,fun j a=>by rw[m j a]⟩
 ·unfold ax.p;dsimp only;rw[aκ (Zq _),dδ];exact⟨rfl,h0,l⟩
 have:=(YO _ _ 0).1 (dρ.1 u) _ (Zt a);rw[Wf (Zv a)]at e;exact absurd e (a6 this)
def Mv.IZ(k:Nat)(L:vN)(h0:0<=L.num)(h:(mO k H L).2=0):Mv H (mO k H L).1 (decide (k=1)):=by
 have b:∀{j:Nat},j≠1->decide (j=1)=false:=fun h=>Zy h
 unfold mO at h⊢;split
 ·exact .refl
 ·exact .start h0 _ _ h
 ·unfold frameT;cases e:H.xE with
  |none=>exact .refl
  |some i=>
   dsimp only
   repeat' split
   all_goals first|exact .refl|exact Mv.jO (.eC fun _=>.inl rfl) i|exact Mv.jO .refl i
 ·unfold n8;cases e:H.xE with
  |none=>exact .refl
  |some i=>exact Mv.jO (.eC fun _=>.inr (.inl ⟨J5 e,rfl⟩)) i
 ·refine .about fun i _=>?_
  unfold gj;split
  ·rename_i a;dsimp only;refine .eC fun _=>.inr (.inr ⟨?_,by dsimp only;omega⟩)
   unfold Ac at a;simp at a;exact a.1.1.1
  exact .refl
 ·refine .about fun i _=>?_
  unfold Ei;split
  ·dsimp only;exact .eC fun _=>.inr (.inr ⟨by assumption,by dsimp only;omega⟩)
  exact .refl
 ·unfold coilT;dsimp only;split<;>exact .re rfl
 ·unfold tS;repeat' split
  all_goals exact .re rfl
 ·refine .about fun i _=>?_
  unfold yE;split
  ·dsimp only;exact .eC fun _=>.inl rfl
  exact .refl
 ·refine .about fun i _=>?_
  unfold yQ;dsimp only
  repeat' split
  all_goals first|exact .refl|skip
  ·exact Mv.Ff (.eC fun _=>.inr (.inr ⟨Zu.1 (by assumption),by dsimp only;omega⟩)) i
  dsimp only;exact .eC fun _=>.inr (.inr ⟨Zu.1 (by assumption),by dsimp only;omega⟩)
 ·unfold eG;dsimp only;repeat' split
  all_goals exact .re rfl
 ·refine .about fun i _=>?_
  unfold fe;dsimp only;split<;>exact .re rfl
 rw[Zy (by assumption)];unfold gS;split<;>exact .re rfl
def tail_parse{x:Entry}{k:Nat}(h:H.tail x i k=0):(kf x.text (kinds.getD k [])).2=true:=by
 unfold ax.tail at h;rw[aF]at h;split at h
 ·rename_i b;exact absurd h b
 cases a:(kf x.text (kinds.getD k [])).2 with
 |true=>rfl
 |false=>rw[a]at h;exact absurd h C
def Mv.enter{x:Entry}(h:(bX H x).2=0):∃k,dS (aL 32 x.text).1=some k/\Mv H (bX H x).1 (decide (k=1)):=by
 unfold bX at h⊢;by_cases a:H.head x=0
 ·rw[Zm (Zp a)]at h⊢;obtain⟨i,hi⟩:=sk.1 (GZ a).2.1;obtain⟨k,d⟩:=sk.1 (GZ a).2.2.2.2.2.2;rw[hi,d]at h⊢;dsimp only at h⊢;by_cases c:H.tail x i k=0
  ·rw[Zm (Zp c)]at h⊢;by_cases b:(mO k H (fH x.text).1).2=0
   ·rw[Zm (Zp b)];have m:=Mv.IZ k _ (R2 ((Es d).1▸tail_parse c)).1 b;exact⟨k,rfl,m.len,m.old,m.new,m.nm⟩
   rw[Zn b]at h;exact absurd h b
  rw[Zn c]at h;exact absurd h c
 rw[Zn a]at h;exact absurd h a
def ax.Pl(H:ax):Prop:=∀j,j<R H.parts->0<=(H.p j).place/\(H.p j).place<=4
def Mv.pl(m:Mv H H' s)(h:H.Pl):H'.Pl:=fun j c=>by
 rcases w7 j (R H.parts) with q|q
 ·have a:=m.old j q;have b:=h j q;unfold r_ at a;omega
 have l:=m.len;cases s with
 |false=>simp at l;omega
 |true=>
  have a:=(m.new rfl).1.1;simp at l;rw[show j=R H.parts by omega,a];decide
end
def L0{n:Net}{l:List Entry}(h:(bl n l).2.2=0):(bl n l).1.Pl:=To ax.Pl (fun _ _ _ j b=>absurd b (bπ j)) (fun H x a e=>by
 obtain⟨k,_,m⟩:=Mv.enter e;exact m.pl a) h
def I_{n:Net}{l:List Entry}(h:(bl n l).2.2=0):∀(i:Nat)(hi:i<R (RJ n l).parts),0<=(RJ n l).parts[i].place/\(RJ n l).parts[i].place<=4:=by
 have b:RJ n l=(bl n l).1.st:=Zm (Zp h);rw[b];intro i hi;have a:i<R (bl n l).1.parts:=by
  have e:R (bl n l).1.st.parts=R (bl n l).1.parts:=Zx ..;omega
 have k:=L0 h i a;rw[Wf (Zv a)]at k;have e:(bl n l).1.st.parts[i]=(bl n l).1.parts[i].1:=bκ ..;rw[e];exact k
def Tg:∀(l:List Entry)(H:ax)(i k:Nat),(runT H i l).2.2=0->(runT H i (l.take k)).2.2=0
 |[],_,_,k,h=>by rw[List.take_nil];exact h
 |x::l,H,i,0,h=>rfl
 |x::l,H,i,k+1,h=>by
  rw[List.take_succ_cons];rw[runT]at h⊢;by_cases e:(bX H x).2=0
  ·rw[Zm (Zp e)]at h⊢;exact Tg l _ _ k h
  rw[Zn e]at h;exact absurd h e
def Qj{n:Net}{l:List Entry}(h:(bl n l).2.2=0)(k:Nat):(bl n (l.take k)).2.2=0:=by
 obtain⟨a,b,e⟩:=Sv h;rw[Vq a (by rw[sc];omega)];rw[e]at h;exact Tg _ _ _ k h
def State.Yy(s:State):iv:=⟨(R s.parts:Int),placesOf s.parts 0,placesOf s.parts 1,placesOf s.parts 2,placesOf s.parts 3,placesOf s.parts 4⟩
def Lv(H:ax):H.st.Yy=H.counts:=by unfold State.Yy ax.counts ax.st;simp
end Go.Proofs.YtdhdgbnafkeifaaGreatDoor
namespace Go.Proofs.YtdhdgbnafkeifaaGreatDoor
open Go.Ab Tryz
def Q2{n:Net}{l:List Entry}(h:¬(bl n l).2.2≠0):RJ n l=(bl n l).1.st:=Zm h
def M7{n:Net}{l:List Entry}(h:(bl n l).2.2≠0):RJ n l=State.zero:=Zn h
def Tj(A:HA):A.plain.st.yB=A.aU.map (·.r):=by show(A.aU.map _).map _=_;rw[x3];rfl
def Qe(A:HA):A.plain.st.aC=A.aC.map (·.c):=by show(A.aC.map _).map _=_;rw[x3];rfl
def Qf(A:HA):A.plain.st.parts=A.parts.map (·.p):=by show(A.parts.map _).map _=_;rw[x3];rfl
def st_cs(A:HA):A.plain.st.cs=[.sl (A.aU.map fun v=>v.r.cs),.sl (A.aC.map fun v=>v.c.cs),.sl (A.parts.map fun v=>v.p.cs),.sl (A.aI.map fun i=>[bv (A.plain.p i).num]),bv A.env.parts,bv A.env.trim,.sl (A.env.rows.map fun l=>[.sl (l.map Range.cs)])]:=by
 unfold State.cs;rw[Tj,Qe,Qf];show [X.sl _,X.sl _,X.sl _,X.sl ((A.aI.map _).map _),X.int .i64 A.env.parts,X.int .i64 A.env.trim,_]=_;rw[x3,x3,x3,x3];rfl
def LY{A:HA}{m:Int}(d:A.Ok m){J:bm}(F:aZ J)(g:∀h Y w,J h Y w->aa A.mem h Y w):dF prog 60 [] [.raw (pV A.b)] [(3000,.res J)] [(3000,.res J)] (.agg A.plain.st.cs):=by
 refine cG func60 O fun{_ _}=>?_
 have y:=d.m0;have z:=d.lv;have E:=d.lc;have B:=d.lp;have C:=d.lm;refine ro 10 O ?_;refine kc (zJ (us:=[bv A.env.parts,bv A.env.trim,.sl (A.env.rows.map fun l=>[.sl (l.map Range.cs)])]) V7 O (td g (aa.Ej (k:=.bn) (xs:=A.cs) O ⟨.same _,.same _,.same _,Zo⟩ O))) ?_;refine kc (zU P7 O O) (rr 10 O (kc (zH (u:=.sl (A.aU.map jU)) Lr O (td g (aa.dQ (k:=.bn) O O (.sl d.vs)))) (kc (zk Qm O) (rr 4 O (OK.nP 3 0 880 3 O O O O O ?_)))));refine OK.loop (G:=Nat) [2,3,880] (fun i=>[(0,.raw (pV A.b)),(2,.ptr 2 0),(1002,.box [.bO,.bO,.bO,.bO,bv 0,bv 0,.bO]),(3,.ptr 3 0),(1003,.box [.own 880 i,.bO,.bO,.bO,bv A.env.parts,bv A.env.trim,.sl (A.env.rows.map fun l=>[.sl (l.map Range.cs)])]),(2880,.arr 3 ((A.aU.take i).map fun v=>v.r.cs)),(20,.sl (A.aU.map jU)),(21,bv (R A.aU)),(22,bv i),(3000,.res J)]) (fun i=>i<=R A.aU) (fun i=>R A.aU - i) 0 (Zr _) ⟨O,O,O,O,O,(bH N),O,O,O,O,Zo⟩ (fun _=>O) ?_;rintro i hi;refine ro 6 O (kB O (fun x=>?_) (fun x=>?_))
 ·have a:i<R A.aU:=by omega
  obtain⟨v,f⟩:=at_of_lt a;have e:A.aU[i]=v:=by rw[Zv a]at f;exact aγ f
  refine ro 6 O (kc (zI Qm O I O) ?_);refine rr 4 O ?_;rw[e];refine kV (.c (zf YS O) (.c (zl VL O O O O) (.c (zm O) (.c (zn O O) (.c (zr VP O) (.c (zJ (us:=v.r.cs) IF O (td g (aa.Ej (k:=.v i) (xs:=v.cs) (HA.Cz f) ⟨.same _,.same _,.same _,Zo⟩ O))) (.c (zM [[_,_,_]] LS O O O O) (.c (zP LS O O (by rw[Zx,List.length_take_of_le hi]) N I (by simp only[maxLen];omega)) (.c (zf YS O) (.c (zS VL O O O O O O) .nil)))))))))) ?_;refine Rd 6 O I ?_;refine Ab.D.lp ⟨i+1,I,I,O,O,O,O,O,(bH (by rw[mv a,ne];simp only[ta,H2,e];rfl)),O,O,O,O,Zo⟩
 obtain rfl:i=R A.aU:=by omega
 rw[List.take_length];refine ro 8 O (kc (zH (u:=.sl (A.aC.map cRow)) Th O (td g (aa.dQ (k:=.bn) O O (.sl d.cs)))) (kc (zk Qn O) (rr 4 O (OK.Yp 3 0 O O O O (Zx ..) O (OK.nP 3 1 881 3 O O O O O ?_)))));refine OK.loop (G:=Nat) [2,3,881] (fun i=>[(0,.raw (pV A.b)),(2,.ptr 2 0),(1002,.box [.bO,.bO,.bO,.bO,bv 0,bv 0,.bO]),(3,.ptr 3 0),(1003,.box [.sl (A.aU.map fun v=>v.r.cs),.own 881 i,.bO,.bO,bv A.env.parts,bv A.env.trim,.sl (A.env.rows.map fun l=>[.sl (l.map Range.cs)])]),(2881,.arr 3 ((A.aC.take i).map fun v=>v.c.cs)),(39,.sl (A.aC.map cRow)),(40,bv (R A.aC)),(41,bv i),(3000,.res J)]) (fun i=>i<=R A.aC) (fun i=>R A.aC - i) 0 (Zr _) ⟨O,O,O,O,O,(bH N),O,O,O,O,Zo⟩ (fun _=>O) ?_;rintro i hi;refine ro 6 O (kB O (fun t=>?_) (fun t=>?_))
 ·have a:i<R A.aC:=by omega
  obtain⟨v,f⟩:=at_of_lt a;have e:A.aC[i]=v:=by rw[Zv a]at f;exact aγ f
  refine ro 6 O (kc (zI Qn O I O) ?_);refine rr 4 O ?_;rw[e];refine kV (.c (zf XQ O) (.c (zl T8 O O O O) (.c (zm O) (.c (zn O O) (.c (zr Xs O) (.c (zJ (us:=v.c.cs) KY O (td g (aa.Ej (k:=.c i) (xs:=v.cs) (HA.xQ f) ⟨.same _,.same _,.same _,Zo⟩ O))) (.c (zM [[_,_,_]] LU O O O O) (.c (zP LU O O (by rw[Zx,List.length_take_of_le hi]) N I (by simp only[maxLen];omega)) (.c (zf XQ O) (.c (zS T8 O O O O O O) .nil)))))))))) ?_;refine Rd 6 O I ?_;refine Ab.D.lp ⟨i+1,I,I,O,O,O,O,O,(bH (by rw[mv a,ne];simp only[ta,H2,e];rfl)),O,O,O,O,Zo⟩
 obtain rfl:i=R A.aC:=by omega
 rw[List.take_length];refine ro 8 O (kc (zH (u:=.sl (A.parts.map iA)) YC O (td g (aa.dQ (k:=.bn) O O (.sl d.ps)))) (kc (zk Zc O) (rr 4 O (OK.Yp 3 1 O O O O (Zx ..) O (OK.nP 3 2 882 13 O O O O O ?_)))));refine OK.loop (G:=Nat) [2,3,882] (fun i=>[(0,.raw (pV A.b)),(2,.ptr 2 0),(1002,.box [.bO,.bO,.bO,.bO,bv 0,bv 0,.bO]),(3,.ptr 3 0),(1003,.box [.sl (A.aU.map fun v=>v.r.cs),.sl (A.aC.map fun v=>v.c.cs),.own 882 i,.bO,bv A.env.parts,bv A.env.trim,.sl (A.env.rows.map fun l=>[.sl (l.map Range.cs)])]),(2882,.arr 13 ((A.parts.take i).map fun v=>v.p.cs)),(58,.sl (A.parts.map iA)),(59,bv (R A.parts)),(60,bv i),(3000,.res J)]) (fun i=>i<=R A.parts) (fun i=>R A.parts - i) 0 (Zr _) ⟨O,O,O,O,O,(bH N),O,O,O,O,Zo⟩ (fun _=>O) ?_;rintro i hi;refine ro 6 O (kB O (fun q=>?_) (fun q=>?_))
 ·have a:i<R A.parts:=by omega
  obtain⟨v,f⟩:=at_of_lt a;have e:A.parts[i]=v:=by rw[Zv a]at f;exact aγ f
  refine ro 6 O (kc (zI Zc O I O) ?_);refine rr 4 O ?_;rw[e];refine kV (.c (zf ZZ O) (.c (zl ZA O O O O) (.c (zm O) (.c (zn O O) (.c (zr ZX O) (.c (zJ (us:=v.p.cs) T7 O (td g (aa.Ej (k:=.p i) (xs:=v.cs) (HA.dm f) ⟨.same _,.same _,.same _,.same _,.sl (d.IE f),.same _,.same _,.same _,.same _,.same _,.same _,.same _,.same _,Zo⟩ O))) (.c (zM [[_,_,_,_,_,_,_,_,_,_,_,_,_]] LV O O O O) (.c (zP LV O O (by rw[Zx,List.length_take_of_le hi]) N I (by simp only[maxLen];omega)) (.c (zf ZZ O) (.c (zS ZA O O O O O O) .nil)))))))))) ?_;refine Rd 6 O I ?_;refine Ab.D.lp ⟨i+1,I,I,O,O,O,O,O,(bH (by rw[mv a,ne];simp only[ta,H2,e];rfl)),O,O,O,O,Zo⟩
 obtain rfl:i=R A.parts:=by omega
 rw[List.take_length];refine ro 8 O (kc (zH (u:=.sl (A.aI.map fun i=>[.raw (pV (A.pb i))])) YC O (td g (aa.dQ (k:=.bn) O O (.sl d.ms)))) ?_);refine kc (zk Zc O) (rr 4 O (OK.Yp 3 2 O O O O (Zx ..) O (OK.nP 3 3 883 1 O O O O O ?_)));refine OK.loop (G:=Nat) [2,3,883] (fun i=>[(0,.raw (pV A.b)),(2,.ptr 2 0),(1002,.box [.bO,.bO,.bO,.bO,bv 0,bv 0,.bO]),(3,.ptr 3 0),(1003,.box [.sl (A.aU.map fun v=>v.r.cs),.sl (A.aC.map fun v=>v.c.cs),.sl (A.parts.map fun v=>v.p.cs),.own 883 i,bv A.env.parts,bv A.env.trim,.sl (A.env.rows.map fun l=>[.sl (l.map Range.cs)])]),(2883,.arr 1 ((A.aI.take i).map fun i=>[bv (A.plain.p i).num])),(77,.sl (A.aI.map fun i=>[.raw (pV (A.pb i))])),(78,bv (R A.aI)),(79,bv i),(3000,.res J)]) (fun i=>i<=R A.aI) (fun i=>R A.aI - i) 0 (Zr _) ⟨O,O,O,O,O,(bH N),O,O,O,O,Zo⟩ (fun _=>O) ?_;rintro i hi;refine ro 6 O (kB O (fun o=>?_) (fun o=>?_))
 ·have a:i<R A.aI:=by omega
  have n:=d.mi _ (Zt a);obtain⟨v,f⟩:=at_of_lt n;have j:=HA.mb f;refine ro 6 O (kc (zI Zc O I O) ?_);refine rr 4 O ?_;rw[HA.Bt f];refine kV (.c (zf Tk O) (.c (zl Zd O O O O) (.c (zm O) (.c (zn O O) (.c (zr ZX O) (.c (zr Lu O) (.c (zH Z8 O (td g (aa.dQ (k:=.p A.aI[i]) (HA.dm f) O (.same _)))) (.c (zM [[_]] ZM O O O O) (.c (zP ZM O O (by rw[Zx,List.length_take_of_le hi]) N I (by simp only[maxLen];omega)) (.c (zf Tk O) (.c (zS Zd O O O O O O) .nil))))))))))) ?_;refine Rd 6 O I ?_;refine Ab.D.lp ⟨i+1,I,I,O,O,O,O,O,(bH (by rw[mv a,ne];simp only[ta,H2,j])),O,O,O,O,Zo⟩
 obtain rfl:i=R A.aI:=by omega
 rw[List.take_length];refine ro 3 O (OK.Yp 3 3 O O O O (Zx ..) O (ro 5 O (OK.ret ⟨aA.r1 (zy O O Z_ O) ?_,O,Zo⟩)));rw[st_cs];try rfl
def UC{n:Net}{l:List Entry}(f:R n.aS<=1000)(j:sS l):gz prog 27 [.agg n.cs,.sl (l.map Entry.cs)] (.cf [.agg (RJ n l).cs,bv (bl n l).2.2]):=by
 refine cT func27 O fun g=>?_
 refine ro 11 O ?_;refine RK.qz (((lY f j).at g)) (fun _=>pP.az _ _ _) (fun _=>pP.mono) call53 O (zc O (zc O .nil)) O fun A=>?_
 refine rr 16 O (kB O (fun a=>?_) (fun a=>?_))
 ·refine kr (kc (zU P7 O O) (rr 5 O (OK.ret (aA.r2 (.bG O O O O Z_ O (.k .bO (.k .bO (.k .bO (.k .bO (.k (.same O) (.k (.same O) (.k .bO .z)))))))) (zo O O) ?_))));rw[M7 a]
  try rfl
 have b:(bl n l).2.2=0:=Zu.1 a;refine ro 3 O (OK.ud b O fun d c=>?_);rw[uc b];refine OK.bN (jm O (kc (S.fI ((fun J e h=>(LY d e h).jR e)) call60 .none O (zc O .nil) O O) ?_));refine rr 4 O (kT O O Z_ O O O ?_);rw[Q2 a,c,b]
 try rfl
end Go.Proofs.YtdhdgbnafkeifaaGreatDoor
namespace Go.Proofs.YtdhdgbnafkeifaaGreatDoor
open Go.Ab Tryz
def AO{xs:bi}(h:Shape (.st (.cons .str (.cons (.int .i64) .nil))) xs):∃p:bf,xs=p.cs:=by
 obtain⟨a,b,rfl,⟨s,rfl⟩,c,d,rfl,⟨n,rfl⟩,rfl⟩:=h;exact⟨⟨s,n⟩,rfl⟩
def Gg{xs:bi}(h:Shape (.cons (.sl (.st (.cons .str (.cons (.int .i64) .nil)))) (.cons .str (.cons (.int .i64) (.cons (.st (.cons (.int .i64) (.cons (.int .i64) .nil))) .nil)))) xs):∃p:Net,xs=p.cs:=by
 obtain⟨a,b,rfl,⟨rows,rfl,j⟩,c,d,rfl,⟨s,rfl⟩,e,f,rfl,⟨n,rfl⟩,g,k,rfl,⟨u,v,rfl,⟨lo,rfl⟩,y,z,rfl,⟨hi,rfl⟩,rfl⟩,rfl⟩:=h;obtain⟨l,rfl⟩:=yD (f:=bf.cs) (fun r h=>AO (j r h));exact⟨⟨l,s,n,lo,hi⟩,rfl⟩
end Go.Proofs.YtdhdgbnafkeifaaGreatDoor
namespace Go.Proofs.YtdhdgbnafkeifaaGreatDoor
open Go.Ab Tryz
def SD{xs:bi}(h:Shape (.cons (.int .i64) (.cons .str (.cons .str .nil))) xs):∃p:Entry,xs=p.cs:=by
 obtain⟨a,b,rfl,⟨n,rfl⟩,c,d,rfl,⟨s,rfl⟩,e,f,rfl,⟨t,rfl⟩,rfl⟩:=h;exact⟨⟨n,s,t⟩,rfl⟩
def RE{x:X}(h:Shape (.sl (.st (.cons (.int .i64) (.cons .str (.cons .str .nil))))) [x]):∃l:List Entry,x=.sl (l.map Entry.cs):=by
 obtain⟨rows,b,a⟩:=h;cases b;obtain⟨l,rfl⟩:=yD (f:=Entry.cs) (fun r h=>SD (a r h));grind
end Go.Proofs.YtdhdgbnafkeifaaGreatDoor
namespace Go.Proofs.YtdhdgbnafkeifaaGreatDoor
open Go.Ab Tryz
def Ln{n:Net}{l:List Entry}(h:¬(bl n l).2.2≠0):mZ n l=((RJ n l).Yy,0):=by unfold mZ;rw[Zm h,Q2 h,Lv]
end Go.Proofs.YtdhdgbnafkeifaaGreatDoor
namespace Go.Proofs.YtdhdgbnafkeifaaGreatDoor
open Go.Ab Tryz
def fst32:∀l:ba,32∈l->∃i,∃hi:i<R l,l[i]=32/\∀j (a:j<i),¬l[j]=32
 |[],h=>by cases h
 |b::l,h=>by
  by_cases c:b=32
  ·exact⟨0,F,c,fun j a=>absurd a (bπ j)⟩
  rcases sf.1 h with e|h
  ·exact absurd e.symm c
  obtain⟨i,hi,e,d⟩:=fst32 l h;refine⟨i+1,by simpa using hi,by simpa using e,fun j a=>?_⟩;cases j with
  |zero=>exact c
  |succ j=>have:=d j I;simpa using this
def cut_word{w l:ba}(hw:∀b∈w,¬b=32):l.take (R w+1)=w++[32]↔(aL 32 l).1=w/\(aL 32 l).2.2=true:=by
 constructor
 ·intro h;have g:R w<R l:=by
   have:=rn List.length h;rw[sc,Zs,R0]at this;omega
  have m:∀(j:Nat)(a:j<R w+1),l[j]?=(w++[32])[j]?:=fun j a=>by
   rw[←h,List.getElem?_take_of_lt a]
  have e:=JI (l:=l) (i:=R w) g (fun j a=>by
   have q:=m j I;rw[Zv I,m6 a,Zv a]at q;rw[aγ q];exact hw _ (Zt a)) (by
   have q:=m (R w) I;rw[Zv g,aκ (Zq _),dδ]at q;exact aγ q)
  rw[e];refine⟨?_,rfl⟩;have:=rn (List.take (R w)) h;rw[ra,Nat.min_eq_left I,aε (Zq _),List.take_length]at this;exact this
 intro ⟨f,n⟩;by_cases h0:32∈l
 ·obtain⟨k,c,d,o⟩:=fst32 l h0;rw[JI c o d]at f;have hlen:R w=k:=by rw[←f,sc];omega
  rw[hlen,mv c,d,←f]
 rw[oI (NB fun j a q=>h0 (q▸Zt a))]at n;cases n
def begW(w t:ba):Bool:=decide (t.take (R w+1)=w++[32])
def enter_beg{H:ax}{x:Entry}{k j:Nat}(h:(bX H x).2=0)(g:dS (aL 32 x.text).1=some k)(n:j=1\/j=7):begW (gR.getD j []) x.text=decide (k=j):=by
 unfold begW;have l:j<13:=I
 have hw:∀b∈gR.getD j [],¬b=32:=by rcases n with rfl|rfl<;>decide
 obtain⟨c,f⟩:=eE g;have f:(aL 32 x.text).1=gR.getD k []:=by
  have:=pf f;rw[this,pv,Zv c];rfl
 refine decide_eq_decide.2 ((cut_word hw).trans ⟨fun e=>?_,fun e=>?_⟩)
 ·have a:=MQ j l;rw[←e.1,g]at a;exact aγ a
 subst e;refine⟨f,?_⟩;unfold bX at h;have a:H.head x=0:=by
  by_cases a:H.head x=0
  ·exact a
  rw[Zn a]at h;exact h
 rw[Zm (Zp a)]at h;obtain⟨i,hi⟩:=sk.1 (GZ a).2.1;rw[hi,g]at h;dsimp only at h;have d:H.tail x i k=0:=by
  by_cases d:H.tail x i k=0
  ·exact d
  rw[Zn d]at h;exact h
 have m:=tail_parse d;cases o:(aL 32 x.text).2.2 with
 |true=>rfl
 |false=>
  unfold kf at m;rw[o]at m;rcases n with rfl|rfl<;>simp[kinds,aH]at m
def runT_snoc:∀(l:List Entry)(H:ax)(i:Nat)(x:Entry),(runT H i (l++[x])).2.2=0->(runT H i l).2.2=0/\(bX (runT H i l).1 x).2=0/\(runT H i (l++[x])).1=(bX (runT H i l).1 x).1
 |[],H,i,x,h=>by
  rw[bε,runT]at h⊢;by_cases e:(bX H x).2=0
  ·rw[Zm (Zp e)];exact⟨rfl,e,rfl⟩
  rw[Zn e]at h;exact absurd h e
 |y::l,H,i,x,h=>by
  rw[H5,runT]at h⊢;by_cases e:(bX H y).2=0
  ·rw[Zm (Zp e)]at h⊢;rw[runT,Zm (Zp e)];exact runT_snoc l _ _ x h
  rw[Zn e]at h;exact absurd h e
def replay_next{n:Net}{l:List Entry}(h:(bl n l).2.2=0){i:Nat}(hi:i<R l):(bX (bl n (l.take i)).1 l[i]).2=0/\(bl n (l.take (i+1))).1=(bX (bl n (l.take i)).1 l[i]).1:=by
 have a:=Qj h (i+1);obtain⟨_,_,b⟩:=Sv a;obtain⟨_,_,c⟩:=Sv (Qj h i);rw[b]at a⊢;rw[c];rw[mv hi]at a⊢;exact(runT_snoc _ _ _ _ a).2
def places_mono{k:Int}:∀(a b:List Part),R a<=R b->(∀(j:Nat)(g:j<R a)(f:j<R b),a[j].place=k->b[j].place=k)->placesOf a k<=placesOf b k
 |[],b,_,_=>by unfold placesOf;simp
 |x::a,[],h,_=>by simp at h
 |x::a,y::b,h,hp=>by
  have d:=places_mono a b (by simpa using h) fun j g f e=>by have:=hp (j+1) (by simpa using g) (by simpa using f);simpa using this (by simpa using e)
  have h0:x.place=k->y.place=k:=hp 0 F F;unfold placesOf at d⊢;by_cases c:x.place=k
  ·rw[qk (by simpa using c),qk (by simpa using h0 c)];simp;omega
  rw[List.filter_cons_of_neg (by simpa using c),ci];split
  ·simp;omega
  exact d
def places_sum:∀(a:List Part),(∀p∈a,0<=p.place/\p.place<=4)->(R a:Int)=placesOf a 0+placesOf a 1+placesOf a 2+placesOf a 3+placesOf a 4
 |[],_=>by simp[placesOf]
 |x::a,h=>by
  have d:=places_sum a fun p b=>h p (by simp[b])
  have f:=h x F;have key:∀k:Int,placesOf (x::a) k=placesOf a k+if x.place=k then 1 else 0:=fun k=>by
   unfold placesOf;rw[ci];by_cases c:x.place=k<;>simp[c]
  rw[key,key,key,key,key,tt];rcases(show x.place=0\/x.place=1\/x.place=2\/x.place=3\/x.place=4 by omega)with e|e|e|e|e<;>simp[e]<;>omega
def Mv.places{H H':ax}{s:Bool}(m:Mv H H' s){k:Int}(g:2<=k):placesOf H.st.parts k<=placesOf H'.st.parts k:=by
 have e:∀G:ax,R G.st.parts=R G.parts:=fun G=>Zx ..
 have d:∀(G:ax)(j:Nat)(b:j<R G.st.parts),G.st.parts[j]=G.p j:=fun G j b=>by
  have a:j<R G.parts:=by rw[←e];exact b
  rw[Wf (Zv a)];exact bκ ..
 have f:=m.len;refine places_mono _ _ (by rw[e,e];omega) fun j c l h=>?_
 rw[d]at h⊢;have:=m.old j (by rw[←e];exact c);unfold r_ at this;omega
def tallyAt(n:Net)(l:List Entry)(i:Nat):iv:=(RJ n (l.take i)).Yy
structure TallyOk(t:iv):Prop where
 sum:t.started=t.under+t.inside+t.good+t.bad+t.cut
 nn:0<=t.under/\0<=t.inside/\0<=t.good/\0<=t.bad/\0<=t.cut
 le:t.started<=12
def back_tally{n:Net}{l:List Entry}(h:(bl n l).2.2=0):TallyOk (RJ n l).Yy:=by
 have d:RJ n l=(bl n l).1.st:=Zm (Zp h);have b:=I_ h;refine⟨places_sum _ fun p a=>?_,⟨(wj _ _).1,(wj _ _).1,(wj _ _).1,(wj _ _).1,(wj _ _).1⟩,?_⟩
 ·obtain⟨j,c,rfl⟩:=dγ.1 a;exact b j c
 have:=(LZ h).inv.lp;have e:R (bl n l).1.st.parts=R (bl n l).1.parts:=Zx ..;show(R (RJ n l).parts:Int)<=12;rw[d];omega
structure TallyOn(t t':iv)(s:Bool):Prop where
 started:t'.started=t.started+if s=true then 1 else 0
 good:t.good<=t'.good
 bad:t.bad<=t'.bad
 cut:t.cut<=t'.cut
def tally_next{n:Net}{l:List Entry}(h:(bl n l).2.2=0){i:Nat}(hi:i<R l):TallyOn (tallyAt n l i) (tallyAt n l (i+1)) (begW [115,116,97,114,116] l[i].text):=by
 obtain⟨a,e⟩:=replay_next h hi;obtain⟨k,c,m⟩:=Mv.enter a;have d:=enter_beg (j:=1) a c (.inl rfl);have b:begW [115,116,97,114,116] l[i].text=decide (k=1):=d;have g:RJ n (l.take i)=(bl n (l.take i)).1.st:=Zm (Zp (Qj h i));have f:RJ n (l.take (i+1))=(bX (bl n (l.take i)).1 l[i]).1.st:=by rw[←e];exact Zm (Zp (Qj h (i+1)))
 unfold tallyAt;rw[b,g,f];refine⟨?_,m.places C,m.places C,m.places C⟩;have:=m.len;show(R (_:List Part):Int)=(R (_:List Part):Int)+_;rw[show(R (ax.st _).parts)=_ from Zx ..,show(R (ax.st (bl n (l.take i)).1).parts)=_ from Zx ..,this];split<;>simp
def tally_0{n:Net}{l:List Entry}(h:(bl n l).2.2=0):tallyAt n l 0=iv.zero:=by
 have a:RJ n (l.take 0)=(bl n (l.take 0)).1.st:=Zm (Zp (Qj h 0));obtain⟨_,_,e⟩:=Sv (Qj h 0);unfold tallyAt;rw[a,e];rfl
end Go.Proofs.YtdhdgbnafkeifaaGreatDoor
namespace Go.Proofs.YtdhdgbnafkeifaaGreatDoor
open Go.Ab Tryz
def startsT(l:List Entry):Int:=(R (l.filter fun x=>begW [115,116,97,114,116] x.text):Int)
def repT(l:List Entry):Bool:=l.any fun x=>begW [114,101,112,97,105,114] x.text
def starts_on{l:List Entry}{i:Nat}(hi:i<R l):startsT (l.take (i+1))=startsT (l.take i)+if begW [115,116,97,114,116] l[i].text=true then 1 else 0:=by
 unfold startsT;rw[mv hi,List.filter_append,Zs];by_cases h:begW [115,116,97,114,116] l[i].text=true<;>simp[h]
def rep_on{l:List Entry}{i:Nat}(hi:i<R l):repT (l.take (i+1))=(repT (l.take i)||begW [114,101,112,97,105,114] l[i].text):=by
 unfold repT;rw[mv hi,List.any_append];simp
def starts_at{n:Net}{l:List Entry}(h:(bl n l).2.2=0):∀(i:Nat),i<=R l->startsT (l.take i)=(tallyAt n l i).started
 |0,_=>by rw[tally_0 h];rfl
 |i+1,hi=>by rw[starts_on I,starts_at h i I,(tally_next h (i:=i) I).started]
def ax.Un(H:ax):Prop:=(∀i j,i<R H.parts->j<R H.parts->(H.p i).place=0->(H.p j).place=0->i=j)/\∀j,j<R H.parts->0<=(H.p j).num/\(H.p j).num<=1000000
def Mv.un{H H':ax}{s:Bool}(m:Mv H H' s)(h:H.Un):H'.Un:=by
 have key:∀k,k<R H.parts->(H'.p k).place=0->(H.p k).place=0:=fun k g e=>by
  have:=m.old k g;unfold r_ at this;omega
 have f:=m.len;have a:∀k,k<R H'.parts->¬k<R H.parts->s=true/\k=R H.parts:=fun k g q=>by
  cases s with
  |false=>simp at f;omega
  |true=>simp at f;exact⟨rfl,I⟩
 refine⟨fun i j hi d n l=>?_,fun j d=>?_⟩
 ·by_cases c:i<R H.parts<;>by_cases b:j<R H.parts
  ·exact h.1 i j c b (key i c n) (key j b l)
  ·exact absurd (key i c n) ((m.new (a j d b).1).2 i c)
  ·exact absurd (key j b l) ((m.new (a i hi c).1).2 j b)
  rw[(a i hi c).2,(a j d b).2]
 by_cases b:j<R H.parts
 ·rw[m.nm j b];exact h.2 j b
 rw[(a j d b).2];exact(m.new (a j d b).1).1.2
def replay_Un{n:Net}{l:List Entry}(h:(bl n l).2.2=0):(bl n l).1.Un:=To ax.Un (fun _ _ _=>⟨fun i _ hi=>absurd hi (bπ i),fun j b=>absurd b (bπ j)⟩) (fun H x a e=>by
 obtain⟨k,_,m⟩:=Mv.enter e;exact m.un a) h
def places_le1:∀(a:List Part),(∀i j (hi:i<R a) (b:j<R a),a[i].place=0->a[j].place=0->i=j)->placesOf a 0<=1
 |[],_=>by simp[placesOf]
 |x::a,h=>by
  have d:=places_le1 a fun i j hi b l k=>by
   have:=h (i+1) (j+1) (by simpa using hi) (by simpa using b) (by simpa using l) (by simpa using k);omega
  unfold placesOf at d⊢;rw[ci];split
  ·rename_i f;have e:a.filter (fun p=>decide (p.place=0))=[]:=List.filter_eq_nil_iff.2 fun p g c=>by
    obtain⟨j,b,rfl⟩:=dγ.1 g;have:=h 0 (j+1) F (by simpa using b) (by simpa using f) (by simpa using c);omega
   rw[e];simp
  exact d
def st_at(H:ax)(j:Nat)(b:j<R H.st.parts):∃a:j<R H.parts,H.st.parts[j]=H.p j:=by
 have a:j<R H.parts:=by
  have:R H.st.parts=R H.parts:=Zx ..;omega
 refine⟨a,?_⟩;rw[Wf (Zv a)];exact bκ ..
def under_le{n:Net}{l:List Entry}(h:(bl n l).2.2=0):(RJ n l).Yy.under<=1:=by
 have f:RJ n l=(bl n l).1.st:=Zm (Zp h);rw[f];refine places_le1 _ fun i j hi e d c=>?_
 obtain⟨b,k⟩:=st_at _ i hi;obtain⟨a,g⟩:=st_at _ j e;rw[k]at d;rw[g]at c;exact(replay_Un h).1 i j b a d c
def shotsC(l:List o6):Int:=(l.map (·.shots)).sum
def ax.sh(H:ax):Int:=shotsC H.st.aC
def shots_mod:∀(l:List (o6×Int))(j:Nat)(f:o6×Int->o6×Int)(q:o6×Int),l[j]?=some q->shotsC ((l.modify j f).map (·.1))=shotsC (l.map (·.1))+((f q).1.shots - q.1.shots)
 |[],j,f,q,h=>by simp at h
 |x::l,0,f,q,h=>by
  simp at h;subst h;simp[shotsC];omega
 |x::l,j+1,f,q,h=>by
  have a:=shots_mod l j f q (by simpa using h);unfold shotsC at a⊢;rw[List.modify_succ_cons,ta,ta,ta,ta,dE,dE,a];omega
def shots_nn:∀(l:List o6),(∀c∈l,0<=c.shots/\c.shots<=1000)->0<=shotsC l/\shotsC l<=1000 * R l
 |[],_=>by simp[shotsC]
 |c::l,h=>by
  have a:=shots_nn l fun c b=>h c (by simp[b])
  have:=h c F;unfold shotsC at a⊢;rw[ta,dE,tt];omega
def sh_re{H H':ax}(h:H'.aC=H.aC):H'.sh=H.sh:=by unfold ax.sh ax.st;rw[h]
def sh_about{H:ax}{n:Int}{f:ax->Nat->HE}(a:∀i,(f H i).1.aC=H.aC):(cK H n f).1.aC=H.aC:=by
 unfold cK;cases H.vr n with
 |none=>rfl
 |some i=>
  dsimp only;split
  ·exact a i
  exact a i
def start_sh{H:ax}(n:Int)(r c:ba)(h:(fT H n r c).2=0):(fT H n r c).1.sh=H.sh+1:=by
 by_cases b:aF [ae (decide (n<=1000000)) 2,ae (H.vr n).isNone 5,ae ((H.Ec r).isSome&&(H.Bs c).isSome) 6,ae H.xE.isNone 17]=0
 case neg=>rw[xg rfl b]at h;exact absurd h b
 obtain⟨_,_,e,_⟩:=Dz b;rw[Zw]at e;obtain⟨k,f⟩:=sk.1 e.1;obtain⟨j,g⟩:=sk.1 e.2;have d:=(j5 f).1;have a:=(eE g).1;rw[DA b f (Zv d) g (Zv a)]at h⊢;split
 ·rename_i l;rw[Zn l]at h;exact absurd h l
 refine(shots_mod H.aC j (fun q=>({q.1 with shots:=q.1.shots+1},q.2)) _ (Zv a)).trans ?_;show _=shotsC (H.aC.map (·.1))+1;dsimp only;omega
def eff_sh{H:ax}(d:∀q∈H.aC,0<=q.1.shots)(k:Nat)(L:vN)(h:(mO k H L).2=0):(k≠7->(mO k H L).1.sh=H.sh+if k=1 then 1 else 0)/\(mO k H L).1.sh<=H.sh+if k=1 then 1 else 0:=by
 have a:∀{H':ax}{j:Nat},j≠1->H'.aC=H.aC->(j≠7->H'.sh=H.sh+if j=1 then 1 else 0)/\H'.sh<=H.sh+if j=1 then 1 else 0:=fun b e=>by
  rw[sh_re e,Zm b];exact⟨fun _=>I,I⟩
 unfold mO at h⊢;split
 ·exact a C rfl
 ·have e:=start_sh _ _ _ h;exact⟨fun _=>e,dC e⟩
 ·refine a C ?_;unfold frameT;repeat' split
  all_goals rfl
 ·refine a C ?_;unfold n8;split<;>rfl
 ·exact a C (sh_about fun i=>by unfold gj;split<;>rfl)
 ·exact a C (sh_about fun i=>by unfold Ei;split<;>rfl)
 ·unfold coilT;dsimp only;split
  ·have e:shotsC ((H.aC++[((⟨L.coil,L.num,0⟩:o6),H.entries)]).map (·.1))=H.sh:=by
    show _=shotsC (H.aC.map (·.1));unfold shotsC;simp
   exact⟨fun _=>e.trans F,dC (e.trans F)⟩
  exact a C rfl
 ·refine⟨fun h=>absurd rfl h,?_⟩;unfold tS;split
  ·exact dC F
  rename_i j b;split
  ·exact dC F
  obtain⟨c,_⟩:=eE b;have e:=shots_mod H.aC j (fun q=>({q.1 with shots:=0},q.2)) _ (Zv c);have:=d _ (Zt c);show shotsC ((H.aC.modify j fun q=>({q.1 with shots:=0},q.2)).map (·.1))<=shotsC (H.aC.map (·.1))+_;rw[e];simp;omega
 ·exact a C (sh_about fun i=>by unfold yE;split<;>rfl)
 ·refine a C (sh_about fun i=>?_);unfold yQ;dsimp only
  repeat' split
  all_goals rfl
 ·refine a C ?_;unfold eG;dsimp only;repeat' split
  all_goals rfl
 ·refine a C (sh_about fun i=>?_);unfold fe;dsimp only;split<;>rfl
 rename_i f _ _ _ _ _ _ _ _ _ _;refine a I ?_;unfold gS;split<;>rfl
def enter_sh{H:ax}{x:Entry}(n:HS H)(h:(bX H x).2=0):(begW [114,101,112,97,105,114] x.text=false->(bX H x).1.sh=H.sh+if begW [115,116,97,114,116] x.text=true then 1 else 0)/\(bX H x).1.sh<=H.sh+if begW [115,116,97,114,116] x.text=true then 1 else 0:=by
 have m:=fun k (a:dS (aL 32 x.text).1=some k)=>And.intro (show begW [115,116,97,114,116] x.text=decide (k=1)from enter_beg (j:=1) h a (.inl rfl)) (show begW [114,101,112,97,105,114] x.text=decide (k=7)from enter_beg (j:=7) h a (.inr rfl))
 unfold bX at h⊢;by_cases b:H.head x=0
 ·rw[Zm (Zp b)]at h⊢;obtain⟨i,hi⟩:=sk.1 (GZ b).2.1;obtain⟨k,a⟩:=sk.1 (GZ b).2.2.2.2.2.2;obtain⟨p,o⟩:=m k a;rw[hi,a]at h⊢;dsimp only at h⊢;by_cases d:H.tail x i k=0
  ·rw[Zm (Zp d)]at h⊢;by_cases c:(mO k H (fH x.text).1).2=0
   ·rw[Zm (Zp c),p,o];obtain⟨g,f⟩:=eff_sh (fun q l=>(n.inv.shots q l).1) k _ c;have e:∀G:ax,ax.sh {G with time:=x.at_,entries:=G.entries+1}=G.sh:=fun _=>rfl
    rw[e];simp only[tm,ul];exact⟨g,f⟩
   rw[Zn c]at h;exact absurd h c
  rw[Zn d]at h;exact absurd h d
 rw[Zn b]at h;exact absurd h b
def shots_at{n:Net}{l:List Entry}(h:(bl n l).2.2=0):∀(i:Nat),i<=R l->(repT (l.take i)=false->shotsC (RJ n (l.take i)).aC=startsT (l.take i))/\shotsC (RJ n (l.take i)).aC<=startsT (l.take i)
 |0,_=>by
  have c:RJ n (l.take 0)=(bl n (l.take 0)).1.st:=Zm (Zp (Qj h 0));obtain⟨_,_,e⟩:=Sv (Qj h 0);rw[c,e];exact⟨fun _=>rfl,Int.le_refl _⟩
 |i+1,hi=>by
  obtain⟨a,d⟩:=shots_at h i I;obtain⟨j,g⟩:=replay_next h (i:=i) I;obtain⟨f,m⟩:=enter_sh (LZ (Qj h i)) j;have c:RJ n (l.take i)=(bl n (l.take i)).1.st:=Zm (Zp (Qj h i));have k:RJ n (l.take (i+1))=(bX (bl n (l.take i)).1 l[i]).1.st:=by rw[←g];exact Zm (Zp (Qj h (i+1)))
  rw[c]at a d;rw[k,starts_on I,rep_on I];change (_->ax.sh _=_)/\ax.sh _<=_;change (_->ax.sh _=_)at a;change ax.sh _<=_ at d;refine⟨fun b=>?_,I⟩;rw[wa]at b;rw[f b.2,a b.1]
def coil_in{n:Net}{l:List Entry}(h:(bl n l).2.2=0):(∀c∈(RJ n l).aC,(0<=c.shots/\c.shots<=c.nM)/\c.shots<=1000)/\R (RJ n l).aC<=4:=by
 have g:RJ n l=(bl n l).1.st:=Zm (Zp h);have d:=LZ h;rw[g];refine⟨fun c f=>?_,by have:=d.inv.lc;show(R ((_:List (o6×Int)).map _))<=4;rw[Zx];exact this⟩;obtain⟨q,e,rfl⟩:=rx.1 f;have a:=d.inv.shots q e;have b:=d.lf q e;exact⟨a,I⟩
def insT(s:State):bd:=(s.parts.filter gE).map (·.num)
def ins_ans{n:Net}{l:List Entry}(h:(bl n l).2.2=0):Cw n l [105,110,115,105,100,101]=(joinT (insT (RJ n l)),0):=by
 have a:RJ n l=(bl n l).1.st:=Zm (Zp h);unfold Cw;rw[Zm (Zp h),a];have e:insT (bl n l).1.st=(bl n l).1.numbers gE:=by
  show(((bl n l).1.parts.map (·.1)).filter gE).map (·.num)=_;rw[pA,x3];rfl
 rw[e];unfold answerT;rw[Zm C,Zn rfl]
def ins_len(l:List Part):(R ((l.filter gE).map (·.num)):Int)=placesOf l 0+placesOf l 1:=by
 rw[Zx]
 induction l with
 |nil=>rfl
 |cons x l b=>
  unfold placesOf at b⊢;rw[ci,ci,ci];by_cases h0:x.place=0
  ·have e:gE x=true:=by unfold gE;rw[Zz h0];rfl
   have c:¬x.place=1:=I
   simp only[e,h0,c,decide_true,decide_false,if_true,tt];simp;omega
  by_cases a:x.place=1
  ·have e:gE x=true:=by unfold gE;rw[Zz a,Bool.or_true]
   simp only[e,h0,a,decide_true,decide_false,if_true,tt];simp;omega
  have e:gE x=false:=by unfold gE;rw[Zy h0,Zy a];rfl
  simp only[e,h0,a,decide_false];simp;omega
def itoa_dg{n:Int}(h:0<=n):∀b∈Lib.itoa n,dw b=true:=fun b a=>by
 rw[uI h]at a;exact rm.1 (uH _) b a
def ins_words{L:bd}(h:∀n∈L,0<=n/\n<=1000000)(g:R L<=12):R (joinT L)<=1000/\(joinT L=[45]->L=[])/\(L≠[]->R (aj 32 (joinT L))=R L):=by
 unfold joinT;by_cases h0:R L=0
 ·rw[Zn h0];have:L=[]:=cι.1 h0;exact⟨C,fun _=>this,fun e=>absurd this e⟩
 rw[Zm h0];have c:L.map Lib.itoa≠[]:=fun e=>h0 (by simpa using rn List.length e)
 have b:aj 32 (Lib.join (L.map Lib.itoa) [32])=L.map Lib.itoa:=split_join c fun w hw j=>by
  obtain⟨n,d,rfl⟩:=rx.1 hw;exact absurd (itoa_dg (h n d).1 32 j) C
 refine⟨?_,fun e=>?_,fun _=>by rw[b,Zx]⟩
 ·have a:=od (sep:=[32]) (B:=21) (l:=L.map Lib.itoa) fun w hw=>by
   obtain⟨n,d,rfl⟩:=rx.1 hw;exact qI (mn _ (by have:=h n d;omega))
  rw[Zx]at a;simp only[tt,aυ]at a;have:=m8 22 g;omega
 rw[e]at b;have f:aj 32 [45]=[[45]]:=C
 rw[f]at b;cases L with
 |nil=>rfl
 |cons n L=>
  have k:[45]=Lib.itoa n:=by have:=(List.cons.inj b).1;exact this
  have:=itoa_dg (h n F).1 45 (by rw[←k];simp);exact absurd this C
def ins_ok{n:Net}{l:List Entry}(h:(bl n l).2.2=0):(∀m∈insT (RJ n l),0<=m/\m<=1000000)/\R (insT (RJ n l))<=12:=by
 have k:RJ n l=(bl n l).1.st:=Zm (Zp h);rw[k];refine⟨fun m f=>?_,?_⟩
 ·obtain⟨p,d,rfl⟩:=rx.1 f;obtain⟨j,g,rfl⟩:=dγ.1 (List.mem_filter.1 d).1;obtain⟨c,e⟩:=st_at _ j g;rw[e];exact(replay_Un h).2 j c
 have a:=cσ gE (bl n l).1.st.parts;have b:=(LZ h).inv.lp;have e:R (bl n l).1.st.parts=R (bl n l).1.parts:=Zx ..;show(R ((_:List Part).map _))<=12;rw[Zx];omega
def shots_on{l:List o6}{i:Nat}(hi:i<R l):shotsC (l.take i)+l[i].shots=shotsC (l.take (i+1)):=by
 unfold shotsC;rw[mv hi,ne,List.sum_append,dι,List.sum_singleton]
end Go.Proofs.YtdhdgbnafkeifaaGreatDoor
namespace Go.Proofs.YtdhdgbnafkeifaaGreatDoor
open Go.Ab Tryz
def law10_begins{s v:ba}:Ct prog 29 [.str s,.str v] (.bool (decide (s.take (R v)=v))):=by
 refine cI func29 O (OK.ux (t:=0) (z:=s) O O fun hlen=>?_);unfold maxLen at hlen;refine ro 13 O (RK.bh (t:=10) O (fun a=>?_) (fun a=>?_))
 ·refine rr 3 O ?_;refine kc (S.ir (hi:=R v) (l':=s.take (R v)) fR (zg O O) O (zt O) (.inl ⟨O,O,O⟩) (.inr ⟨_,_,O,(zt O),O⟩) I I (by rw[aα])) ?_;refine rr 6 O (kR O O ?_);rfl
 have b:¬s.take (R v)=v:=fun e=>a (by have:=rn List.length e;rw[sc]at this;omega)
 rw[Zy b];refine rr 10 O (kR O O ?_);rfl
def law_RecordClosed{n:Net}{l:List Entry}:gz prog 4 [.agg n.cs,.sl (l.map Entry.cs)] (.bool true):=by
 refine cT func4 O fun U=>?_
 refine ro 9 O (kc (S.dB (wR) U call9 .none O .nil O) (kc (S.not .none O (zt O)) (rr 9 O (kc (zK (AX (n:=n)) call10 O) (kc (S.not .none O (zt O)) (jm O (RK.split (t:=22) O (fun B=>?_) (fun B=>?_))))))))
 ·refine rr 18 O (kR O O ?_)
  first|rfl|simp
 refine kc (S.move (zg O O) O (zt O)) (kc (S.call (Wc (l:=l)) call11 (zg O O) O (zc O .nil) O) (kc (S.not (zg O O) O (zt O)) (rr 2 O (RK.split (t:=27) O (fun A=>?_) (fun A=>?_)))))
 ·refine rr 13 O (kR O O ?_)
  first|rfl|simp
 have hfe:mo n=true:=by simpa using B
 have Y:Z1 l=true:=by simpa using A
 obtain⟨hl1,hl2⟩:=C9 hfe;obtain⟨hll,hlt⟩:=OL Y;have m:∀y∈l,R y.text<=100000:=fun y hy=>by have:=hlt y hy;omega
 refine rr 2 O (kc (S.call (TG (n:=n) (l:=l) I m) call17 (zg O O) O (zc O (zc O .nil)) O) ?_);refine rr 4 O (kB O (fun K=>?_) (fun K=>?_))
 ·refine ro 5 O (kR O O ?_)
  first|rfl|simp
 have h0:(bl n l).2.2=0:=Zu.1 K;have hC:=Ln (Zp h0);have p:=back_tally h0;have hs:=p.sum;have hnn:=p.nn;have hle:=p.le;have hU:=under_le h0;refine ro 5 O (kc (zK (se (n:=n) I) call13 O) (jm O (kc (zK (XE (l:=l) I) call14 O) (kc (S.dB (rec_CountsOf (n:=n) (l:=l) I (Ni m)) U call26 .none O (zc O (zc O .nil)) O) ?_))));refine rr 11 O (kc (zK (se (n:=n) I) call13 O) (jm O (kc (zK (XE (l:=l) I) call14 O) (kc (S.dB (UC (n:=n) (l:=l) I (Ni m)) U call27 .none O (zc O (zc O .nil)) O) ?_))));refine rr 10 O ?_;rw[show(mZ n l).1=(RJ n l).Yy by rw[hC],show(mZ n l).2=0 by rw[hC],h0];refine ro 4 O (RK.bh (t:=51) O (fun x=>?_) (fun x=>?_))
 ·exact absurd rfl x
 refine rr 4 O (RK.bh (t:=55) O (fun w=>?_) (fun w=>?_))
 ·exact absurd rfl w
 refine rr 4 O (kc (S.Hp ZH (zg O O) O (zt O)) (rr 3 O (RK.bh (t:=63) O (fun u=>?_) (fun u=>?_))))
 ·exact absurd rfl u
 refine Rr 19 O I (RK.bh (t:=82) O (fun g82=>?_) (fun g82=>?_))
 ·exfalso;omega
 refine rr 2 O (kc (S.call (gx) call28 (zg O O) O (zc O (zC O (zD O))) O) (kc (S.jP (zg O O) O (zt O)) (rr 2 O (RK.bh (t:=88) O (fun g88=>?_) (fun g88=>?_)))))
 ·exfalso;omega
 refine rr 5 O (RK.bh (t:=93) O (fun g93=>?_) (fun g93=>?_))
 ·exfalso;omega
 refine rr 5 O (RK.bh (t:=98) O (fun g98=>?_) (fun g98=>?_))
 ·exfalso;omega
 refine rr 5 O (RK.bh (t:=103) O (fun J=>?_) (fun J=>?_))
 ·exfalso;omega
 refine rr 6 O (kB O (fun P=>?_) (fun P=>?_))
 ·exfalso;omega
 refine ro 15 O ?_;refine OK.loop (G:=Nat) [2,5,7] (fun i=>[(1,.sl (l.map Entry.cs)),(2,.ptr 2 0),(1002,.box n.cs),(5,.ptr 5 0),(1005,.box (RJ n l).Yy.cs),(7,.ptr 7 0),(1007,.box (RJ n l).cs),(9,bv (startsT (l.take i))),(10,.bool (repT (l.take i))),(11,bv i)]) (fun i=>i<=R l) (fun i=>R l - i) 0 (Zr _) ⟨O,O,O,O,O,O,O,O,O,O,Zo⟩ (fun _=>O) ?_;rintro i hi;refine ro 5 O (kc (zk YI O) (rr 3 O (kB O (fun N=>?_) (fun N=>?_))))
 ·have g:i<R l:=by omega
  have hst:=starts_at h0 i I;have hti:(tallyAt n l i).started<=12:=(back_tally (Qj h0 i)).le;have hs0:0<=startsT (l.take i):=co _;have V:=starts_on g;refine ro 4 O ?_;refine OK.join (G:=Int) [2,5,7] (fun T=>[(1,.sl (l.map Entry.cs)),(2,.ptr 2 0),(1002,.box n.cs),(5,.ptr 5 0),(1005,.box (RJ n l).Yy.cs),(7,.ptr 7 0),(1007,.box (RJ n l).cs),(9,bv T),(10,.bool (repT (l.take i))),(11,bv i)]) (fun T=>T=startsT (l.take (i+1))) (fun _=>O) ?_ ?_
  ·refine ro 4 O (kc (zI YI O I O) ?_);refine rr 2 O (kc (zK (law10_begins (s:=l[i].text) (v:=[115,116,97,114,116,32])) call29 O) (kD (kB O (fun k=>?_) (fun k=>?_))))
   ·have hB:begW [115,116,97,114,116] l[i].text=true:=Zz k;rw[hB,Zn rfl]at V;refine Ro 5 O I (Ab.D.lp ⟨_,V.symm,O,O,O,O,O,O,O,O,O,O,Zo⟩)
   have hB:begW [115,116,97,114,116] l[i].text=false:=Zy k;rw[hB,Zm C,Int.add_zero]at V;refine OK.skip (Ab.D.lp ⟨_,V.symm,O,O,O,O,O,O,O,O,O,O,Zo⟩)
  rintro T rfl;refine ro 3 O (RK.split (t:=123) O (fun j=>?_) (fun j=>?_))
  ·refine Rr 16 O I ?_;refine Ab.D.lp ⟨i+1,I,I,O,O,O,O,O,O,O,O,(rn (fun z=>some (X.bool z)) (by rw[rep_on g,j];rfl)),O,Zo⟩
  refine rr 2 O (kc (S.aP (n:=i) YI (zg O O) O (zt O) (zt O) O I O) ?_);refine rr 2 O ?_;refine kc (S.call (law10_begins (s:=l[i].text) (v:=[114,101,112,97,105,114,32])) call29 (zg O O) O (zc O (.cons (.bj (l:=[114,101,112,97,105,114,32]) O C) .nil)) O) ?_;refine Rr 10 O I ?_;refine Ab.D.lp ⟨i+1,I,I,O,O,O,O,O,O,O,O,(rn (fun z=>some (X.bool z)) (by rw[rep_on g,j];rfl)),O,Zo⟩
 obtain rfl:i=R l:=by omega
 rw[List.take_length];have hS:startsT l=(RJ n l).Yy.started:=by have:=starts_at h0 (R l) (Zq _);unfold tallyAt at this;rw[List.take_length]at this;exact this
 obtain⟨W,q2⟩:=shots_at h0 (R l) (Zq _);rw[List.take_length]at W q2;rw[hS]at W q2;obtain⟨r,hcl⟩:=coil_in h0;rw[hS];refine ro 14 O ?_;refine OK.loop (G:=Nat) [2,5,7] (fun i=>[(1,.sl (l.map Entry.cs)),(2,.ptr 2 0),(1002,.box n.cs),(5,.ptr 5 0),(1005,.box (RJ n l).Yy.cs),(7,.ptr 7 0),(1007,.box (RJ n l).cs),(9,bv (RJ n l).Yy.started),(10,.bool (repT l)),(12,bv (shotsC ((RJ n l).aC.take i))),(13,bv i)]) (fun i=>i<=R (RJ n l).aC) (fun i=>R (RJ n l).aC - i) 0 (Zr _) ⟨O,O,O,O,O,O,O,O,O,O,O,Zo⟩ (fun _=>O) ?_;rintro i hi;refine ro 6 O (kc (zk Wn O) (rr 3 O (kB O (fun M=>?_) (fun M=>?_))))
 ·have g:i<R (RJ n l).aC:=by omega
  have hcm:=r _ (Zt g);have hbd:=shots_nn ((RJ n l).aC.take i) (fun c hc=>by have:=r c (eν hc);omega);rw[sc]at hbd;refine ro 6 O (kV (.c (zf XQ O) (.c (zl T8 O O O O) (.c (zm O) (.c (zI Wn O I O) (.c (S.field WZ .none O (zt O) O) (.c (zV Z8 O O) (.c (zf XQ O) (.c (zl T8 O O O O) (.c (zm O) (.c (zI Wn O I O) (.c (S.field P0 .none O (zt O) O) (.c (zV Z8 O O) (.c (zK gx call28 O) (.c (S.jP .none O (zt O)) .nil)))))))))))))) (Ab.D.code (kB O (fun L=>?_) (fun L=>?_))))
  ·exfalso;omega
  refine ro 7 O (kc (zI Wn O I O) ?_);refine Rr 12 O I (Ab.D.lp ⟨i+1,I,I,O,O,O,O,O,O,O,O,O,(yL (shots_on g)),O,Zo⟩)
 obtain rfl:i=R (RJ n l).aC:=by omega
 rw[List.take_length];refine ro 5 O (kc (zK (se (n:=n) I) call13 O) (jm O (kc (zK (XE (l:=l) I) call14 O) ?_)));refine kc (S.dB (xU (n:=n) (l:=l) (q:=[105,110,115,105,100,101]) I (Ni m) C) U call30 .none O (zc O (zc O (.cons (.bj (l:=[105,110,115,105,100,101]) O C) .nil))) O) ?_;refine rr 8 O ?_;rw[show(Cw n l [105,110,115,105,100,101]).1=joinT (insT (RJ n l))by rw[ins_ans h0],show(Cw n l [105,110,115,105,100,101]).2=0 by rw[ins_ans h0]];obtain⟨ho1,Z⟩:=ins_ok h0;obtain⟨w1,w2,w3⟩:=ins_words ho1 Z;have h:(R (insT (RJ n l)):Int)=(RJ n l).Yy.under+(RJ n l).Yy.inside:=ins_len _;refine OK.bN (jm O (kc (zK (C0 (l:=joinT (insT (RJ n l))) (c:=32) I) call31 O) (kc (zk Z2 O) ?_)));refine rr 3 O ?_;refine OK.join (G:=Int) [5] (fun Q=>[(5,.ptr 5 0),(1005,.box (RJ n l).Yy.cs),(9,bv (RJ n l).Yy.started),(10,.bool (repT l)),(12,bv (shotsC (RJ n l).aC)),(15,bv 0),(16,bv Q)]) (fun Q=>Q=(RJ n l).Yy.under+(RJ n l).Yy.inside) (fun _=>O) ?_ ?_
 ·refine ro 6 O (kB O (fun f=>?_) (fun f=>?_))
  ·refine ro 3 O ?_;refine Ab.D.lp ⟨_,(by first|(have e:=w2 f;rw[e]at h;exact h)|(rw[w3 (fun e=>f (by rw[e];rfl))];exact h)),O,O,O,O,O,O,O,Zo⟩
  refine OK.skip ?_;refine Ab.D.lp ⟨_,(by first|(have e:=w2 f;rw[e]at h;exact h)|(rw[w3 (fun e=>f (by rw[e];rfl))];exact h)),O,O,O,O,O,O,O,Zo⟩
 rintro Q rfl;refine kO ?_;rcases hr:repT l with _|_
 ·have hq:=W hr;refine ro 6 O (RK.bh (t:=177) O (fun d=>?_) (fun d=>?_))
  ·refine rr 2 O (RK.split (t:=179) O (fun b=>?_) (fun b=>?_))
   ·cases b
   refine rr 6 O (kc (S.not (zg O O) O (zt O)) (kc (S.move (zg O O) O (zt O)) (RK.split (t:=187) O (fun o=>?_) (fun o=>?_))))
   ·refine rr 7 O (RK.bh (t:=194) O (fun E=>?_) (fun E=>?_))
    ·refine rr 4 O (RK.bh (t:=198) O (fun a=>?_) (fun a=>?_))
     ·refine Rr 11 O I (kR O O ?_)
      first|rfl|simp
     exact absurd rfl a
    exfalso;omega
   exact absurd o C
  exact absurd rfl d
 refine ro 6 O (RK.bh (t:=177) O (fun d=>?_) (fun d=>?_))
 ·refine rr 2 O (RK.split (t:=179) O (fun b=>?_) (fun b=>?_))
  ·refine rr 5 O (RK.bh (t:=184) O (fun F=>?_) (fun F=>?_))
   ·refine rr 14 O (RK.bh (t:=198) O (fun a=>?_) (fun a=>?_))
    ·refine Rr 11 O I (kR O O ?_)
     first|rfl|simp
    exact absurd rfl a
   exfalso;omega
  cases b
 exact absurd rfl d
