import Derived.Test.YtkkbjdenehfpaaaGreatDoorTgN
set_option linter.all false
set_option maxHeartbeats 4000000
open List renaming length->R
namespace Go.Proofs.Z_
open Go.Ab Tryz
set_option maxRecDepth 9999
def kg(P:Z6->Prop)(hs:∀H x,P H->(Za H x).2=0->P (Za H x).1):∀(l:List Entry)(H:Z6)(i:Nat),(runT H i l).2.2=0->P H->P (runT H i l).1
 |[],_,_,_,h=>h
 |x::l,H,i,h0,h=>by
  rw[runT]at h0⊢;by_cases e:(Za H x).2=0
  ·rw[Zm<|Zp e]at h0⊢;exact kg P hs l _ _ h0<|hs H x h e
  rw[Zn e]at h0;exact absurd h0 e
variable{l:List Entry}{n:Net}
def CT(P:Z6->Prop)(hi:∀n p,Y_ p=0->P (Z6.init n p))(hs:∀H x,P H->(Za H x).2=0->P (Za H x).1)(h:(Z2 n l).2.2=0):P (Z2 n l).1:=by
 obtain⟨a,_,e⟩:=Ur h;rw[e]at h⊢;exact kg P hs l _ _ h<|hi _ _<|Sx (J6 a).2
def F5(h:(Z2 n l).2.2=0):HS (Z2 n l).1:=CT HS (λ_ _ h=>HS.init h) (λ_ x h _=>h.enter x) h
def PlOk(a b:Int):Prop:=b=a\/(a=0/\b=1)\/(a=1/\2<=b/\b<=4)
structure Mv(H H':Z6)(s:Bool):Prop where
 len:H'.parts.length=H.parts.length+if s=true then 1 else 0
 old:∀j,j<H.parts.length->PlOk (H.p j).place (H'.p j).place
 new:s=true->((H'.p H.parts.length).place=0/\0<=(H'.p H.parts.length).num/\(H'.p H.parts.length).num<=1000000)/\∀j,j<H.parts.length->(H.p j).place≠0
 nm:∀j,j<H.parts.length->(H'.p j).num=(H.p j).num
section
variable{H H':Z6}{s:Bool}{i:Nat}
def Mv.refl:Mv H H false:=⟨rfl,λ_ _=>.inl rfl,Z,λ_ _=>rfl⟩
def Mv.re(h:H'.parts=H.parts):Mv H H' false:=⟨by rw[h];rfl,λj _=>.inl (by unfold Z6.p;rw[h]),Z,λj _=>by unfold Z6.p;rw[h]⟩
def Mv.Zh{f:Part->Part}(c:i<R H.parts->PlOk (H.p i).place (f<|H.p i).place)(b:∀p,(f p).num=p.num:=by exactλ_=>rfl):Mv H (H.Zh i f) false:=
 ⟨aμ ..,λj a=>by
  rw[xR H i f a];split
  ·rename_i e;subst e;exact c a
  ·exact .inl rfl,Z,λj a=>by
  rw[xR H i f a];split
  ·exact b _
  rfl⟩
def Mv.WT(h:Mv H H' s)(j:Nat):Mv H (H'.WT j) s:=
 ⟨(aμ ..).trans h.len,λk a=>by rw[Jl];exact h.old k a,(λe=>by rw[Jl];exact h.new e),λk a=>by rw[Jl];exact h.nm k a⟩
def dZ(j:Nat)(a:j<R H'.parts):((H'.Yz i).p j).place=(H'.p j).place/\((H'.Yz i).p j).num=(H'.p j).num:=by
 unfold Z6.p Z6.Yz;dsimp only;rw[dp,Zv a];simp only[cφ,Option.getD_some];split<;>exact⟨rfl,rfl⟩
def Mv.Yz(h:Mv H H' false)(k:Nat):Mv H (H'.Yz k) false:=
 ⟨(Zx ..).trans h.len,λj a=>by rw[(dZ j<|by have:=h.len;simp at this;omega).1];exact h.old j a,Z,λj a=>by rw[(dZ j<|by have:=h.len;simp at this;omega).2];exact h.nm j a⟩
def Mv.about{n:Int}{f:Z6->Nat->HE}(a:∀i,H.U1 n=some i->Mv H (f H i).1 false):Mv H (YJ H n f).1 false:=by
 unfold YJ;cases e:H.U1 n with
 |none=>exact .refl
 |some i=>
  dsimp only;split
  ·exact(a i e).WT i
  exact a i e
def Ap(h:H.Tk=some i):(H.p i).place=0:=by
 obtain⟨hi,a⟩:=Y8 h;rw[Qp<|Zv hi];exact pf a
def Mv.start{n:Int}(h0:0<=n)(r c:ba)(h:(W_ H n r c).2=0):Mv H (W_ H n r c).1 true:=by
 by_cases b:ZW [Z8 (decide<|n<=1000000) 2,Z8 (H.U1 n).isNone 5,Z8 ((H.AI r).isSome&&(H.Ob c).isSome) 6,Z8 H.Tk.isNone 17]=0
 case neg=>rw[OG rfl b]at h;exact absurd h b
 obtain⟨l,_,g,u⟩:=G2 b;have l:=pf l;rw[Zw]at g;obtain⟨k,o⟩:=sk.1 g.1;obtain⟨j,a⟩:=sk.1 g.2;have d:=(VK o).1;have f:=(Y8 a).1;rw[Lf b o (Zv d) a<|Zv f]at h⊢;split
 ·rename_i t;rw[Zn t]at h;exact absurd h t
 have m:∀(j:Nat)(_:j<R H.parts)(cs:List<|XA×Int)(q:Part×bd),Z6.p {H with Z5:=cs,parts:=H.parts++[q]} j=H.p j:=λj a cs q=>by
  unfold Z6.p;dsimp only;rw[m6 a]
 refine⟨F,λj a=>.inl (by rw[m j a]),λ_=>⟨?_,λj a e=>?_⟩,λj a=>by rw[m j a]⟩
 ·unfold Z6.p;dsimp only;rw[aκ<|Zq _,dδ];exact⟨rfl,h0,l⟩
 have:=(T9 _ _ 0).1 (dρ.1 u) _<|Zt a;rw[Qp<|Zv a]at e;exact absurd e<|dg this
def Mv.rP(k:Nat)(L:Sv)(h0:0<=L.num)(h:(WQ k H L).2=0):Mv H (WQ k H L).1<|decide<|k=1:=by
 have b:∀{j:Nat},j≠1->decide (j=1)=false:=λh=>Zy h
 unfold WQ at h⊢;split
 ·exact .refl
 ·exact .start h0 _ _ h
 ·unfold Yl;cases e:H.Tk with
  |none=>exact .refl
  |some i=>
   dsimp only
   repeat' split
   all_goals first|exact .refl|exact Mv.WT (.Zh λ_=>.inl rfl) i|exact Mv.WT .refl i
 ·unfold Sz;cases e:H.Tk with
  |none=>exact .refl
  |some i=>exact Mv.WT (.Zh λ_=>.inr<|.inl ⟨Ap e,rfl⟩) i
 ·refine .about λi _=>?_
  unfold Wi;split
  ·rename_i a;dsimp only;refine .Zh λ_=>.inr (.inr ⟨?_,by dsimp only;omega⟩)
   unfold Pm at a;simp at a;exact a.1.1.1
  exact .refl
 ·refine .about λi _=>?_
  unfold Tu;split
  ·dsimp only;exact .Zh λ_=>.inr (.inr ⟨by assumption,by dsimp only;omega⟩)
  exact .refl
 ·unfold Tw;dsimp only;split<;>exact .re rfl
 ·unfold XZ;repeat' split
  all_goals exact .re rfl
 ·refine .about λi _=>?_
  unfold WU;split
  ·dsimp only;exact .Zh λ_=>.inl rfl
  exact .refl
 ·refine .about λi _=>?_
  unfold Xz;dsimp only
  repeat' split
  all_goals first|exact .refl|skip
  ·exact Mv.Yz (.Zh λ_=>.inr<|.inr ⟨Zu.1<|by assumption,by dsimp only;omega⟩) i
  dsimp only;exact .Zh λ_=>.inr (.inr ⟨Zu.1<|by assumption,by dsimp only;omega⟩)
 ·unfold XX;dsimp only;repeat' split
  all_goals exact .re rfl
 ·refine .about λi _=>?_
  unfold Xe;dsimp only;split<;>exact .re rfl
 rw[Zy<|by assumption];unfold Wo;split<;>exact .re rfl
def K_{x:Entry}{k:Nat}(h:H.tail x i k=0):(Q9 x.text<|kinds.getD k []).2=true:=by
 unfold Z6.tail at h;rw[ZW]at h;split at h
 ·rename_i b;exact absurd h b
 cases a:(Q9 x.text<|kinds.getD k []).2 with
 |true=>rfl
 |false=>rw[a]at h;exact absurd h C
end
def xp:∀(l:List Entry)(H:Z6)(i k:Nat),(runT H i l).2.2=0->(runT H i<|l.take k).2.2=0
 |[],_,_,k,h=>by rw[List.take_nil];exact h
 |x::l,H,i,0,h=>rfl
 |x::l,H,i,k+1,h=>by
  rw[List.take_succ_cons];rw[runT]at h⊢;by_cases e:(Za H x).2=0
  ·rw[Zm<|Zp e]at h⊢;exact xp l _ _ k h
  rw[Zn e]at h;exact absurd h e
def UP(h:(Z2 n l).2.2=0)(k:Nat):(Z2 n<|l.take k).2.2=0:=by
 obtain⟨a,b,e⟩:=Ur h;rw[Jn a<|by rw[sc];omega];rw[e]at h;exact xp _ _ _ k h
def vJ(h:¬(Z2 n l).2.2≠0):Xi n l=(Z2 n l).1.st:=Zm h
def backT_1(h:(Z2 n l).2.2≠0):Xi n l=State.zero:=Zn h
def Ay(A:HA):A.plain.st.ZJ=A.ZF.map (·.r):=by show(A.ZF.map _).map _=_;rw[fw];rfl
def sZ(A:HA):A.plain.st.Z5=A.Z5.map (·.c):=by show(A.Z5.map _).map _=_;rw[fw];rfl
def s6(A:HA):A.plain.st.parts=A.parts.map (·.p):=by show(A.parts.map _).map _=_;rw[fw];rfl
def st_cs(A:HA):A.plain.st.cs=[.sl<|A.ZF.map λv=>v.r.cs,.sl<|A.Z5.map λv=>v.c.cs,.sl<|A.parts.map λv=>v.p.cs,.sl<|A.Z3.map λi=>[bv (A.plain.p i).num],bv A.env.parts,bv A.env.trim,.sl<|A.env.rows.map λl=>[.sl<|l.map Range.cs]]:=by
 unfold State.cs;rw[Ay,sZ,s6];show [X.sl _,X.sl _,X.sl _,X.sl<|(A.Z3.map _).map _,X.int .i64 A.env.parts,X.int .i64 A.env.trim,_]=_;rw[fw,fw,fw,fw];rfl
def gH{A:HA}{m:Int}(d:A.Ok m){J:bm}(F:Y2 J)(g:∀h Y w,J h Y w->Z9 A.mem h Y w):Vi prog 36 [] [.raw<|pV A.b] [(3000,.res J)] [(3000,.res J)]<|.agg A.plain.st.cs:=by
 refine cG func36 O λ{_ _}=>?_
 have y:=d.m0;have z:=d.lv;have E:=d.lc;have B:=d.lp;have C:=d.lm;refine ro 10 O ?_;refine kc (zJ (us:=[bv A.env.parts,bv A.env.trim,.sl<|A.env.rows.map λl=>[.sl<|l.map Range.cs]]) L5 O<|J_ g<|Z9.KL (k:=.Y1) (xs:=A.cs) O ⟨.same _,.same _,.same _,Zo⟩ O) ?_;refine kc (zU bu43 O O)<|rr 10 O<|kc (zH (u:=.sl<|A.ZF.map P6) Ak O<|J_ g<|Z9.Xh (k:=.Y1) O O<|.sl d.vs)<|kc (zk va O)<|rr 4 O<|OK.VL 3 0 880 3 O O O O O ?_;refine OK.loop (G:=Nat) [2,3,880] (λi=>[(0,.raw<|pV A.b),(2,.ptr 2 0),(1002,.box [.ZM,.ZM,.ZM,.ZM,bv 0,bv 0,.ZM]),(3,.ptr 3 0),(1003,.box [.own 880 i,.ZM,.ZM,.ZM,bv A.env.parts,bv A.env.trim,.sl<|A.env.rows.map λl=>[.sl<|l.map Range.cs]]),(2880,.arr 3<|(A.ZF.take i).map λv=>v.r.cs),(20,.sl<|A.ZF.map P6),(21,bv<|R A.ZF),(22,bv i),(3000,.res J)]) (λi=>i<=R A.ZF) (λi=>R A.ZF - i) 0 (Zr _) ⟨O,O,O,O,O,(ZX N),O,O,O,O,Zo⟩ (λ_=>O) ?_;rintro i hi;refine ro 6 O<|kB O (λx=>?_) λx=>?_
 ·have a:i<R A.ZF:=by omega
  obtain⟨v,f⟩:=Yh a;have e:A.ZF[i]=v:=by rw[Zv a]at f;exact aγ f
  refine ro 6 O<|kc (zI va O I O) ?_;refine rr 4 O ?_;rw[e];refine kV (.c (zf Oy O)<|.c (zl Qq O O O O)<|.c (zm O)<|.c (zn O O)<|.c (zr Jd O)<|.c (zJ (us:=v.r.cs) ti160 O<|J_ g<|Z9.KL (k:=.v i) (xs:=v.cs) (HA.sv f) ⟨.same _,.same _,.same _,Zo⟩ O)<|.c (zM [[_,_,_]] sL O O O O)<|.c (zP sL O O (by rw[Zx,List.length_take_of_le hi]) N I<|by simp only[maxLen];omega)<|.c (zf Oy O)<|.c (zS Qq O O O O O O) .nil) ?_;refine Rd 6 O I ?_;refine Ab.D.lp ⟨i+1,I,I,O,O,O,O,O,(ZX<|by rw[mv a,ne];simp only[ta,H2,e];rfl),O,O,O,O,Zo⟩
 obtain rfl:i=R A.ZF:=by omega
 rw[List.take_length];refine ro 8 O<|kc (zH (u:=.sl<|A.Z5.map Lg) Al O<|J_ g<|Z9.Xh (k:=.Y1) O O<|.sl d.cs)<|kc (zk vo O)<|rr 4 O<|OK.TP 3 0 O O O O (Zx ..) O<|OK.VL 3 1 881 3 O O O O O ?_;refine OK.loop (G:=Nat) [2,3,881] (λi=>[(0,.raw<|pV A.b),(2,.ptr 2 0),(1002,.box [.ZM,.ZM,.ZM,.ZM,bv 0,bv 0,.ZM]),(3,.ptr 3 0),(1003,.box [.sl<|A.ZF.map λv=>v.r.cs,.own 881 i,.ZM,.ZM,bv A.env.parts,bv A.env.trim,.sl<|A.env.rows.map λl=>[.sl<|l.map Range.cs]]),(2881,.arr 3<|(A.Z5.take i).map λv=>v.c.cs),(39,.sl<|A.Z5.map Lg),(40,bv<|R A.Z5),(41,bv i),(3000,.res J)]) (λi=>i<=R A.Z5) (λi=>R A.Z5 - i) 0 (Zr _) ⟨O,O,O,O,O,(ZX N),O,O,O,O,Zo⟩ (λ_=>O) ?_;rintro i hi;refine ro 6 O<|kB O (λt=>?_) λt=>?_
 ·have a:i<R A.Z5:=by omega
  obtain⟨v,f⟩:=Yh a;have e:A.Z5[i]=v:=by rw[Zv a]at f;exact aγ f
  refine ro 6 O<|kc (zI vo O I O) ?_;refine rr 4 O ?_;rw[e];refine kV (.c (zf TU O)<|.c (zl dJ O O O O)<|.c (zm O)<|.c (zn O O)<|.c (zr Nl O)<|.c (zJ (us:=v.c.cs) ti64 O<|J_ g<|Z9.KL (k:=.c i) (xs:=v.cs) (HA.G6 f) ⟨.same _,.same _,.same _,Zo⟩ O)<|.c (zM [[_,_,_]] fW O O O O)<|.c (zP fW O O (by rw[Zx,List.length_take_of_le hi]) N I<|by simp only[maxLen];omega)<|.c (zf TU O)<|.c (zS dJ O O O O O O) .nil) ?_;refine Rd 6 O I ?_;refine Ab.D.lp ⟨i+1,I,I,O,O,O,O,O,(ZX<|by rw[mv a,ne];simp only[ta,H2,e];rfl),O,O,O,O,Zo⟩
 obtain rfl:i=R A.Z5:=by omega
 rw[List.take_length];refine ro 8 O<|kc (zH (u:=.sl<|A.parts.map Su) QF O<|J_ g<|Z9.Xh (k:=.Y1) O O<|.sl d.ps)<|kc (zk SC O)<|rr 4 O<|OK.TP 3 1 O O O O (Zx ..) O<|OK.VL 3 2 882 13 O O O O O ?_;refine OK.loop (G:=Nat) [2,3,882] (λi=>[(0,.raw<|pV A.b),(2,.ptr 2 0),(1002,.box [.ZM,.ZM,.ZM,.ZM,bv 0,bv 0,.ZM]),(3,.ptr 3 0),(1003,.box [.sl<|A.ZF.map λv=>v.r.cs,.sl<|A.Z5.map λv=>v.c.cs,.own 882 i,.ZM,bv A.env.parts,bv A.env.trim,.sl<|A.env.rows.map λl=>[.sl<|l.map Range.cs]]),(2882,.arr 13<|(A.parts.take i).map λv=>v.p.cs),(58,.sl<|A.parts.map Su),(59,bv<|R A.parts),(60,bv i),(3000,.res J)]) (λi=>i<=R A.parts) (λi=>R A.parts - i) 0 (Zr _) ⟨O,O,O,O,O,(ZX N),O,O,O,O,Zo⟩ (λ_=>O) ?_;rintro i hi;refine ro 6 O<|kB O (λq=>?_) λq=>?_
 ·have a:i<R A.parts:=by omega
  obtain⟨v,f⟩:=Yh a;have e:A.parts[i]=v:=by rw[Zv a]at f;exact aγ f
  refine ro 6 O<|kc (zI SC O I O) ?_;refine rr 4 O ?_;rw[e];refine kV (.c (zf Xk O)<|.c (zl Vg O O O O)<|.c (zm O)<|.c (zn O O)<|.c (zr Xu O)<|.c (zJ (us:=v.p.cs) K6 O<|J_ g<|Z9.KL (k:=.p i) (xs:=v.cs) (HA.XW f) ⟨.same _,.same _,.same _,.same _,.sl<|d.fs? f,.same _,.same _,.same _,.same _,.same _,.same _,.same _,.same _,Zo⟩ O)<|.c (zM [[_,_,_,_,_,_,_,_,_,_,_,_,_]] f_ O O O O)<|.c (zP f_ O O (by rw[Zx,List.length_take_of_le hi]) N I<|by simp only[maxLen];omega)<|.c (zf Xk O)<|.c (zS Vg O O O O O O) .nil) ?_;refine Rd 6 O I ?_;refine Ab.D.lp ⟨i+1,I,I,O,O,O,O,O,(ZX<|by rw[mv a,ne];simp only[ta,H2,e];rfl),O,O,O,O,Zo⟩
 obtain rfl:i=R A.parts:=by omega
 rw[List.take_length];refine ro 8 O<|kc (zH (u:=.sl<|A.Z3.map λi=>[.raw<|pV<|A.pb i]) QF O<|J_ g<|Z9.Xh (k:=.Y1) O O<|.sl d.ms) ?_;refine kc (zk SC O)<|rr 4 O<|OK.TP 3 2 O O O O (Zx ..) O<|OK.VL 3 3 883 1 O O O O O ?_;refine OK.loop (G:=Nat) [2,3,883] (λi=>[(0,.raw<|pV A.b),(2,.ptr 2 0),(1002,.box [.ZM,.ZM,.ZM,.ZM,bv 0,bv 0,.ZM]),(3,.ptr 3 0),(1003,.box [.sl<|A.ZF.map λv=>v.r.cs,.sl<|A.Z5.map λv=>v.c.cs,.sl<|A.parts.map λv=>v.p.cs,.own 883 i,bv A.env.parts,bv A.env.trim,.sl<|A.env.rows.map λl=>[.sl<|l.map Range.cs]]),(2883,.arr 1<|(A.Z3.take i).map λi=>[bv (A.plain.p i).num]),(77,.sl<|A.Z3.map λi=>[.raw<|pV<|A.pb i]),(78,bv<|R A.Z3),(79,bv i),(3000,.res J)]) (λi=>i<=R A.Z3) (λi=>R A.Z3 - i) 0 (Zr _) ⟨O,O,O,O,O,(ZX N),O,O,O,O,Zo⟩ (λ_=>O) ?_;rintro i hi;refine ro 6 O<|kB O (λo=>?_) λo=>?_
 ·have a:i<R A.Z3:=by omega
  have n:=d.mi _<|Zt a;obtain⟨v,f⟩:=Yh n;have j:=HA.RQ f;refine ro 6 O<|kc (zI SC O I O) ?_;refine rr 4 O ?_;rw[HA.CS f];refine kV (.c (zf BQ O)<|.c (zl Md O O O O)<|.c (zm O)<|.c (zn O O)<|.c (zr Xu O)<|.c (zr CC O)<|.c (zH YK O<|J_ g<|Z9.Xh (k:=.p A.Z3[i]) (HA.XW f) O<|.same _)<|.c (zM [[_]] Xr O O O O)<|.c (zP Xr O O (by rw[Zx,List.length_take_of_le hi]) N I<|by simp only[maxLen];omega)<|.c (zf BQ O)<|.c (zS Md O O O O O O) .nil) ?_;refine Rd 6 O I ?_;refine Ab.D.lp ⟨i+1,I,I,O,O,O,O,O,(ZX<|by rw[mv a,ne];simp only[ta,H2,j]),O,O,O,O,Zo⟩
 obtain rfl:i=R A.Z3:=by omega
 rw[List.take_length];refine ro 3 O<|OK.TP 3 3 O O O O (Zx ..) O<|ro 5 O<|OK.ret ⟨Y3.r1 (zy O O Zk O) ?_,O,Zo⟩;rw[st_cs];try rfl
def ET(f:R n.plan<=1000)(j:N6 l):Q7 prog 10 [.agg n.cs,.sl<|l.map Entry.cs]<|.Yy [.agg (Xi n l).cs,bv (Z2 n l).2.2]:=by
 refine cT func10 O λg=>?_
 refine ro 11 O ?_;refine RK.Ng (((R2 f j).at g)) (λ_=>Mf.ZV _ _ _) (λ_=>Mf.mono) call35 O (zc O<|zc O .nil) O λA=>?_
 refine rr 16 O<|kB O (λa=>?_) λa=>?_
 ·refine kr<|kc (zU bu43 O O)<|rr 5 O<|OK.ret<|Y3.r2 (.XU O O O O Zk O<|.k .ZM<|.k .ZM<|.k .ZM<|.k .ZM<|.k (.same O)<|.k (.same O)<|.k .ZM .z) (zo O O) ?_;rw[backT_1 a]
  try rfl
 have b:(Z2 n l).2.2=0:=Zu.1 a;refine ro 3 O<|OK.Ld b O λd c=>?_;rw[Jm b];refine OK.R3<|jm O<|kc (S.Wc ((λJ e h=>(gH d e h).Tq e)) call36 .none O (zc O .nil) O O) ?_;refine rr 4 O<|kT O O Zk O O O ?_;rw[vJ a,c,b]
 try rfl
variable{xs:bi}
def u5(h:Shape (.st<|.cons .str<|.cons (.int .i64) .nil) xs):∃p:Ze,xs=p.cs:=by
 obtain⟨a,b,rfl,⟨s,rfl⟩,c,d,rfl,⟨n,rfl⟩,rfl⟩:=h;exact⟨⟨s,n⟩,rfl⟩
def cW(h:Shape (.cons (.sl<|.st<|.cons .str<|.cons (.int .i64) .nil)<|.cons .str<|.cons (.int .i64)<|.cons (.st<|.cons (.int .i64)<|.cons (.int .i64) .nil) .nil) xs):∃p:Net,xs=p.cs:=by
 obtain⟨a,b,rfl,⟨vi,rfl,j⟩,c,d,rfl,⟨s,rfl⟩,e,f,rfl,⟨n,rfl⟩,g,k,rfl,⟨u,v,rfl,⟨lo,rfl⟩,y,z,rfl,⟨hi,rfl⟩,rfl⟩,rfl⟩:=h;obtain⟨l,rfl⟩:=EF (f:=Ze.cs) λr h=>u5<|j r h;exact⟨⟨l,s,n,lo,hi⟩,rfl⟩
def qT(h:Shape (.cons (.int .i64)<|.cons .str<|.cons .str .nil) xs):∃p:Entry,xs=p.cs:=by
 obtain⟨a,b,rfl,⟨n,rfl⟩,c,d,rfl,⟨s,rfl⟩,e,f,rfl,⟨t,rfl⟩,rfl⟩:=h;exact⟨⟨n,s,t⟩,rfl⟩
theorem AB{x:X}(h:Shape (.sl<|.st<|.cons (.int .i64)<|.cons .str<|.cons .str .nil) [x]):∃l:List Entry,x=.sl (l.map Entry.cs):=by
 obtain⟨vi,b,a⟩:=h;cases b;obtain⟨l,rfl⟩:=EF (f:=Entry.cs) λr h=>qT<|a r h;grind
