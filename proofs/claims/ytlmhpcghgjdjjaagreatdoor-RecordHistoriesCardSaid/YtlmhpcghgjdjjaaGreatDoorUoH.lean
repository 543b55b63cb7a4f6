import Derived.Test.YtlmhpcghgjdjjaaGreatDoorRqH
set_option linter.all false
namespace Go.Proofs.Z_
open Go.Ab
def ofV(r:ba)(k:Int)(p:Part):Bool:=decide<|p.Yr=r/\p.YD=k
def ofV_eq{r:ba}{k:Int}{p:Part}:Nq [.s p.Yr,.i p.YD] [.s r,.i k]=ofV r k p:=by simp[Nq,Pl.eq,ofV]
def numE_find(H:Z6)(num:Int):(if¬(0<=num/\num<=1000000)then 2 else if ZC (λp:Part=>decide<|p.num=num) 0 H.st.parts<0 then 6 else 0)=J9 num (H.U1 num).isSome:=by
 have e:H.U1 num=ix (λp:Part=>decide<|p.num=num) H.st.parts:=(Ui (λq:Part×bd=>q.1) (λp:Part=>decide<|p.num=num) H.parts 0).symm;rw[e];unfold J9;by_cases h:0<=num/\num<=1000000
 ·rw[Zm<|Zp h,Zz h];by_cases a:ZC (λp:Part=>decide<|p.num=num) 0 H.st.parts<0
  ·rw[Zn a,P9 a];rfl
  obtain⟨j,b⟩:=P_ a;rw[Zm a,b];rfl
 rw[Zn h,Zy h];rfl
def kg(P:Z6->Prop)(hs:∀H x,P H->(Za H x).2=0->P (Za H x).1):∀(l:List Entry)(H:Z6)(i:Nat),(runT H i l).2.2=0->P H->P (runT H i l).1
 |[],_,_,_,h=>h
 |x::l,H,i,h0,h=>by
  rw[runT]at h0⊢;by_cases e:(Za H x).2=0
  ·rw[Zm<|Zp e]at h0⊢;exact kg P hs l _ _ h0<|hs H x h e
  rw[Zn e]at h0;exact absurd h0 e
variable{l:List Entry}{n:Net}
def CT(P:Z6->Prop)(hi:∀n p,Y_ p=0->P (Z6.init n p))(hs:∀H x,P H->(Za H x).2=0->P (Za H x).1)(h:(Z2 n l).2.2=0):P (Z2 n l).1:=by
 obtain⟨a,_,e⟩:=Ur h;rw[e]at h⊢;exact kg P hs l _ _ h<|hi _ _<|Sx (J6 a).2
def F5(h:(Z2 n l).2.2=0):HS (Z2 n l).1:=CT HS (λ_ _ h=>HS.init h) (λ_ x h _=>h.enter x) h
def PlOk(a b:Int):Prop:=b=a\/(a=0/\b=1)\/(a=1/\2<=b/\b<=4)
structure Mv(H H':Z6)(s:Bool):Prop where
 len:H'.parts.length=H.parts.length+if s=true then 1 else 0
 old:∀j,j<H.parts.length->PlOk (H.p j).place (H'.p j).place
 new:s=true->((H'.p H.parts.length).place=0/\0<=(H'.p H.parts.length).num/\(H'.p H.parts.length).num<=1000000)/\∀j,j<H.parts.length->(H.p j).place≠0
 nm:∀j,j<H.parts.length->(H'.p j).num=(H.p j).num
section
variable{H H':Z6}{s:Bool}{i:Nat}
def Mv.refl:Mv H H false:=⟨rfl,λ_ _=>.inl rfl,Z,λ_ _=>rfl⟩
def Mv.re(h:H'.parts=H.parts):Mv H H' false:=⟨by rw[h];rfl,λj _=>.inl (by unfold Z6.p;rw[h]),Z,λj _=>by unfold Z6.p;rw[h]⟩
def Mv.Zh{f:Part->Part}(c:i<H.parts.length->PlOk (H.p i).place (f<|H.p i).place)(b:∀p,(f p).num=p.num:=by exactλ_=>rfl):Mv H (H.Zh i f) false:=
 ⟨aμ ..,λj a=>by
  rw[xR H i f a];split
  ·rename_i e;subst e;exact c a
  ·exact .inl rfl,Z,λj a=>by
  rw[xR H i f a];split
  ·exact b _
  rfl⟩
def Mv.WT(h:Mv H H' s)(j:Nat):Mv H (H'.WT j) s:=
 ⟨(aμ ..).trans h.len,λk a=>by rw[Jl];exact h.old k a,(λe=>by rw[Jl];exact h.new e),λk a=>by rw[Jl];exact h.nm k a⟩
def p_mkPl(j:Nat)(a:j<H'.parts.length):((H'.Yz i).p j).place=(H'.p j).place/\((H'.Yz i).p j).num=(H'.p j).num:=by
 unfold Z6.p Z6.Yz;dsimp only;rw[dp,Zv a];simp only[cφ,Option.getD_some];split<;>exact⟨rfl,rfl⟩
def Mv.Yz(h:Mv H H' false)(k:Nat):Mv H (H'.Yz k) false:=
 ⟨(Zx ..).trans h.len,λj a=>by rw[(p_mkPl j<|by have:=h.len;simp at this;omega).1];exact h.old j a,Z,λj a=>by rw[(p_mkPl j<|by have:=h.len;simp at this;omega).2];exact h.nm j a⟩
def Mv.about{n:Int}{f:Z6->Nat->HE}(a:∀i,H.U1 n=some i->Mv H (f H i).1 false):Mv H (YJ H n f).1 false:=by
 unfold YJ;cases e:H.U1 n with
 |none=>exact .refl
 |some i=>
  dsimp only;split
  ·exact(a i e).WT i
  exact a i e
def fS(h:H.Tk=some i):(H.p i).place=0:=by
 obtain⟨hi,a⟩:=Y8 h;rw[Qp<|Zv hi];exact pf a
def Mv.start{n:Int}(h0:0<=n)(r c:ba)(h:(W_ H n r c).2=0):Mv H (W_ H n r c).1 true:=by
 by_cases b:ZW [Z8 (decide<|n<=1000000) 2,Z8 (H.U1 n).isNone 5,Z8 ((H.AI r).isSome&&(H.Ob c).isSome) 6,Z8 H.Tk.isNone 17]=0
 case neg=>rw[OG rfl b]at h;exact absurd h b
 obtain⟨l,_,g,u⟩:=G2 b;have l:=pf l;rw[Zw]at g;obtain⟨k,o⟩:=sk.1 g.1;obtain⟨j,a⟩:=sk.1 g.2;have d:=(VK o).1;have f:=(Y8 a).1;rw[Lf b o (Zv d) a<|Zv f]at h⊢;split
 ·rename_i t;rw[Zn t]at h;exact absurd h t
 have m:∀(j:Nat)(_:j<H.parts.length)(cs:List<|XA×Int)(q:Part×bd),Z6.p {H with Z5:=cs,parts:=H.parts++[q]} j=H.p j:=λj a cs q=>by
  unfold Z6.p;dsimp only;rw[m6 a]
 refine⟨by simp,λj a=>.inl (by rw[m j a]),λ_=>⟨?_,λj a e=>?_⟩,λj a=>by rw[m j a]⟩
 ·unfold Z6.p;dsimp only;rw[aκ<|Zq _,dδ];exact⟨rfl,h0,l⟩
 have:=(T9 _ _ 0).1 (dρ.1 u) _<|Zt a;rw[Qp<|Zv a]at e;exact absurd e<|a6 this
def Mv.rP(k:Nat)(L:Sv)(h0:0<=L.num)(h:(WQ k H L).2=0):Mv H (WQ k H L).1<|decide<|k=1:=by
 have b:∀{j:Nat},j≠1->decide (j=1)=false:=λh=>Zy h
 unfold WQ at h⊢;split
 ·exact .refl
 ·exact .start h0 _ _ h
 ·unfold Yl;cases e:H.Tk with
  |none=>exact .refl
  |some i=>
   dsimp only
   repeat' split
   all_goals first|exact .refl|exact Mv.WT (.Zh λ_=>.inl rfl) i|exact Mv.WT .refl i
 ·unfold Sz;cases e:H.Tk with
  |none=>exact .refl
  |some i=>exact Mv.WT (.Zh λ_=>.inr<|.inl ⟨fS e,rfl⟩) i
 ·refine .about λi _=>?_
  unfold Wi;split
  ·rename_i a;dsimp only;refine .Zh λ_=>.inr (.inr ⟨?_,by dsimp only;omega⟩)
   unfold Pm at a;simp at a;exact a.1.1.1
  exact .refl
 ·refine .about λi _=>?_
  unfold Tu;split
  ·dsimp only;exact .Zh λ_=>.inr (.inr ⟨by assumption,by dsimp only;omega⟩)
  exact .refl
 ·unfold Tw;dsimp only;split<;>exact .re rfl
 ·unfold XZ;repeat' split
  all_goals exact .re rfl
 ·refine .about λi _=>?_
  unfold WU;split
  ·dsimp only;exact .Zh λ_=>.inl rfl
  exact .refl
 ·refine .about λi _=>?_
  unfold Xz;dsimp only
  repeat' split
  all_goals first|exact .refl|skip
  ·exact Mv.Yz (.Zh λ_=>.inr<|.inr ⟨Zu.1<|by assumption,by dsimp only;omega⟩) i
  dsimp only;exact .Zh λ_=>.inr (.inr ⟨Zu.1<|by assumption,by dsimp only;omega⟩)
 ·unfold XX;dsimp only;repeat' split
  all_goals exact .re rfl
 ·refine .about λi _=>?_
  unfold Xe;dsimp only;split<;>exact .re rfl
 rw[Zy<|by assumption];unfold Wo;split<;>exact .re rfl
def fR{x:Entry}{k:Nat}(h:H.tail x i k=0):(Q9 x.text<|kinds.getD k []).2=true:=by
 unfold Z6.tail at h;rw[ZW]at h;split at h
 ·rename_i b;exact absurd h b
 cases a:(Q9 x.text<|kinds.getD k []).2 with
 |true=>rfl
 |false=>rw[a]at h;exact absurd h C
end
def xp:∀(l:List Entry)(H:Z6)(i k:Nat),(runT H i l).2.2=0->(runT H i<|l.take k).2.2=0
 |[],_,_,k,h=>by rw[List.take_nil];exact h
 |x::l,H,i,0,h=>rfl
 |x::l,H,i,k+1,h=>by
  rw[List.take_succ_cons];rw[runT]at h⊢;by_cases e:(Za H x).2=0
  ·rw[Zm<|Zp e]at h⊢;exact xp l _ _ k h
  rw[Zn e]at h;exact absurd h e
def UP(h:(Z2 n l).2.2=0)(k:Nat):(Z2 n<|l.take k).2.2=0:=by
 obtain⟨a,b,e⟩:=Ur h;rw[Jn a<|by rw[sc];omega];rw[e]at h;exact xp _ _ _ k h
def xT(h:¬(Z2 n l).2.2≠0):Xi n l=(Z2 n l).1.st:=Zm h
variable{xs:bi}
def u5(h:Shape (.st<|.cons .str<|.cons (.int .i64) .nil) xs):∃p:Ze,xs=p.cs:=by
 obtain⟨a,b,rfl,⟨s,rfl⟩,c,d,rfl,⟨n,rfl⟩,rfl⟩:=h;exact⟨⟨s,n⟩,rfl⟩
def cW(h:Shape (.cons (.sl<|.st<|.cons .str<|.cons (.int .i64) .nil)<|.cons .str<|.cons (.int .i64)<|.cons (.st<|.cons (.int .i64)<|.cons (.int .i64) .nil) .nil) xs):∃p:Net,xs=p.cs:=by
 obtain⟨a,b,rfl,⟨rows,rfl,j⟩,c,d,rfl,⟨s,rfl⟩,e,f,rfl,⟨n,rfl⟩,g,k,rfl,⟨u,v,rfl,⟨lo,rfl⟩,y,z,rfl,⟨hi,rfl⟩,rfl⟩,rfl⟩:=h;obtain⟨l,rfl⟩:=EF (f:=Ze.cs) λr h=>u5<|j r h;exact⟨⟨l,s,n,lo,hi⟩,rfl⟩
def qT(h:Shape (.cons (.int .i64)<|.cons .str<|.cons .str .nil) xs):∃p:Entry,xs=p.cs:=by
 obtain⟨a,b,rfl,⟨n,rfl⟩,c,d,rfl,⟨s,rfl⟩,e,f,rfl,⟨t,rfl⟩,rfl⟩:=h;exact⟨⟨n,s,t⟩,rfl⟩
theorem AB{x:X}(h:Shape (.sl<|.st<|.cons (.int .i64)<|.cons .str<|.cons .str .nil) [x]):∃l:List Entry,x=.sl (l.map Entry.cs):=by
 obtain⟨rows,b,a⟩:=h;cases b;obtain⟨l,rfl⟩:=EF (f:=Entry.cs) λr h=>qT<|a r h;grind
