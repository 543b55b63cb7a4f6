import Derived.Test.YtdhdgbnafkeifaaGreatDoorUj
set_option linter.all false
namespace Go.Proofs.YtdhdgbnafkeifaaGreatDoor
open Go.Ab
def numE_find(H:ax)(num:Int):(if¬(0<=num/\num<=1000000)then 2 else if bq (fun p:Part=>decide (p.num=num)) 0 H.st.parts<0 then 6 else 0)=sU num (H.vr num).isSome:=by
 have e:H.vr num=ix (fun p:Part=>decide (p.num=num)) H.st.parts:=(j4 (fun q:Part×bd=>q.1) (fun p:Part=>decide (p.num=num)) H.parts 0).symm;rw[e];unfold sU;by_cases h:0<=num/\num<=1000000
 ·rw[Zm (Zp h),Zz h];by_cases a:bq (fun p:Part=>decide (p.num=num)) 0 H.st.parts<0
  ·rw[Zn a,X1 a];rfl
  obtain⟨j,b⟩:=X2 a;rw[Zm a,b];rfl
 rw[Zn h,Zy h];rfl
def Pd(P:ax->Prop)(a:∀H x,P H->(bX H x).2=0->P (bX H x).1):∀(l:List Entry)(H:ax)(i:Nat),(runT H i l).2.2=0->P H->P (runT H i l).1
 |[],_,_,_,h=>h
 |x::l,H,i,h0,h=>by
  rw[runT]at h0⊢;by_cases e:(bX H x).2=0
  ·rw[Zm (Zp e)]at h0⊢;exact Pd P a l _ _ h0 (a H x h e)
  rw[Zn e]at h0;exact absurd h0 e
def To{n:Net}{l:List Entry}(P:ax->Prop)(hi:∀n p,bA p=0->P (ax.init n p))(a:∀H x,P H->(bX H x).2=0->P (bX H x).1)(h:(bl n l).2.2=0):P (bl n l).1:=by
 obtain⟨b,_,e⟩:=Sv h;rw[e]at h⊢;exact Pd P a l _ _ h (hi _ _ (vP (B6 b).2))
def LZ{n:Net}{l:List Entry}(h:(bl n l).2.2=0):HS (bl n l).1:=To HS (fun _ _ h=>HS.init h) (fun _ x h _=>h.enter x) h
end Go.Proofs.YtdhdgbnafkeifaaGreatDoor
namespace Go.Proofs.YtdhdgbnafkeifaaGreatDoor
open Go.Ab
def r_(a b:Int):Prop:=b=a\/(a=0/\b=1)\/(a=1/\2<=b/\b<=4)
structure Mv(H H':ax)(s:Bool):Prop where
 len:H'.parts.length=H.parts.length+if s=true then 1 else 0
 old:∀j,j<H.parts.length->r_ (H.p j).place (H'.p j).place
 new:s=true->((H'.p H.parts.length).place=0/\0<=(H'.p H.parts.length).num/\(H'.p H.parts.length).num<=1000000)/\∀j,j<H.parts.length->(H.p j).place≠0
 nm:∀j,j<H.parts.length->(H'.p j).num=(H.p j).num
section
variable{H H':ax}{s:Bool}{i:Nat}
def Mv.refl:Mv H H false:=⟨rfl,fun _ _=>.inl rfl,Z,fun _ _=>rfl⟩
def Mv.re(h:H'.parts=H.parts):Mv H H' false:=⟨by rw[h];rfl,fun j _=>.inl (by unfold ax.p;rw[h]),Z,fun j _=>by unfold ax.p;rw[h]⟩
def Mv.eC{f:Part->Part}(c:i<H.parts.length->r_ (H.p i).place (f (H.p i)).place)(b:∀p,(f p).num=p.num:=by exact fun _=>rfl):Mv H (H.eC i f) false:=
 ⟨aμ ..,fun j a=>by
  rw[D_ H i f a];split
  ·rename_i e;subst e;exact c a
  ·exact .inl rfl,Z,fun j a=>by
  rw[D_ H i f a];split
  ·exact b _
  rfl⟩
def Mv.jO(h:Mv H H' s)(j:Nat):Mv H (H'.jO j) s:=
 ⟨(aμ ..).trans h.len,fun k a=>by rw[N_];exact h.old k a,(fun e=>by rw[N_];exact h.new e),fun k a=>by rw[N_];exact h.nm k a⟩
def AT(j:Nat)(a:j<H'.parts.length):((H'.Ff i).p j).place=(H'.p j).place/\((H'.Ff i).p j).num=(H'.p j).num:=by
 unfold ax.p ax.Ff;dsimp only;rw[i7,Zv a];simp only[cφ,Option.getD_some];split<;>exact⟨rfl,rfl⟩
def Mv.Ff(h:Mv H H' false)(k:Nat):Mv H (H'.Ff k) false:=
 ⟨(Zx ..).trans h.len,fun j a=>by rw[(AT j (by have:=h.len;simp at this;omega)).1];exact h.old j a,Z,fun j a=>by rw[(AT j (by have:=h.len;simp at this;omega)).2];exact h.nm j a⟩
def Mv.about{n:Int}{f:ax->Nat->HE}(a:∀i,H.vr n=some i->Mv H (f H i).1 false):Mv H (cK H n f).1 false:=by
 unfold cK;cases e:H.vr n with
 |none=>exact .refl
 |some i=>
  dsimp only;split
  ·exact(a i e).jO i
  exact a i e
def J5(h:H.xE=some i):(H.p i).place=0:=by
 obtain⟨hi,a⟩:=eE h;rw[Wf (Zv hi)];exact pf a
def Mv.start{n:Int}(h0:0<=n)(r c:ba)(h:(fT H n r c).2=0):Mv H (fT H n r c).1 true:=by
 by_cases b:aF [ae (decide (n<=1000000)) 2,ae (H.vr n).isNone 5,ae ((H.Ec r).isSome&&(H.Bs c).isSome) 6,ae H.xE.isNone 17]=0
 case neg=>rw[xg rfl b]at h;exact absurd h b
 obtain⟨l,_,g,u⟩:=Dz b;have l:=pf l;rw[Zw]at g;obtain⟨k,o⟩:=sk.1 g.1;obtain⟨j,a⟩:=sk.1 g.2;have d:=(j5 o).1;have f:=(eE a).1;rw[DA b o (Zv d) a (Zv f)]at h⊢;split
 ·rename_i t;rw[Zn t]at h;exact absurd h t
 have m:∀(j:Nat)(_:j<H.parts.length)(cs:List (o6×Int))(q:Part×bd),ax.p {H with aC:=cs,parts:=H.parts++[q]} j=H.p j:=fun j a cs q=>by
  unfold ax.p;dsimp only;rw[m6 a]
 refine⟨by simp,fun j a=>.inl (by rw[m j a]),fun _=>⟨?_,fun j a e=>?_⟩,fun j a=>by rw[m j a]⟩
 ·unfold ax.p;dsimp only;rw[aκ (Zq _),dδ];exact⟨rfl,h0,l⟩
 have:=(YO _ _ 0).1 (dρ.1 u) _ (Zt a);rw[Wf (Zv a)]at e;exact absurd e (a6 this)
def Mv.IZ(k:Nat)(L:vN)(h0:0<=L.num)(h:(mO k H L).2=0):Mv H (mO k H L).1 (decide (k=1)):=by
 have b:∀{j:Nat},j≠1->decide (j=1)=false:=fun h=>Zy h
 unfold mO at h⊢;split
 ·exact .refl
 ·exact .start h0 _ _ h
 ·unfold frameT;cases e:H.xE with
  |none=>exact .refl
  |some i=>
   dsimp only
   repeat' split
   all_goals first|exact .refl|exact Mv.jO (.eC fun _=>.inl rfl) i|exact Mv.jO .refl i
 ·unfold n8;cases e:H.xE with
  |none=>exact .refl
  |some i=>exact Mv.jO (.eC fun _=>.inr (.inl ⟨J5 e,rfl⟩)) i
 ·refine .about fun i _=>?_
  unfold gj;split
  ·rename_i a;dsimp only;refine .eC fun _=>.inr (.inr ⟨?_,by dsimp only;omega⟩)
   unfold Ac at a;simp at a;exact a.1.1.1
  exact .refl
 ·refine .about fun i _=>?_
  unfold Ei;split
  ·dsimp only;exact .eC fun _=>.inr (.inr ⟨by assumption,by dsimp only;omega⟩)
  exact .refl
 ·unfold coilT;dsimp only;split<;>exact .re rfl
 ·unfold tS;repeat' split
  all_goals exact .re rfl
 ·refine .about fun i _=>?_
  unfold yE;split
  ·dsimp only;exact .eC fun _=>.inl rfl
  exact .refl
 ·refine .about fun i _=>?_
  unfold yQ;dsimp only
  repeat' split
  all_goals first|exact .refl|skip
  ·exact Mv.Ff (.eC fun _=>.inr (.inr ⟨Zu.1 (by assumption),by dsimp only;omega⟩)) i
  dsimp only;exact .eC fun _=>.inr (.inr ⟨Zu.1 (by assumption),by dsimp only;omega⟩)
 ·unfold eG;dsimp only;repeat' split
  all_goals exact .re rfl
 ·refine .about fun i _=>?_
  unfold fe;dsimp only;split<;>exact .re rfl
 rw[Zy (by assumption)];unfold gS;split<;>exact .re rfl
def tail_parse{x:Entry}{k:Nat}(h:H.tail x i k=0):(kf x.text (kinds.getD k [])).2=true:=by
 unfold ax.tail at h;rw[aF]at h;split at h
 ·rename_i b;exact absurd h b
 cases a:(kf x.text (kinds.getD k [])).2 with
 |true=>rfl
 |false=>rw[a]at h;exact absurd h C
def Mv.enter{x:Entry}(h:(bX H x).2=0):∃k,dS (aL 32 x.text).1=some k/\Mv H (bX H x).1 (decide (k=1)):=by
 unfold bX at h⊢;by_cases a:H.head x=0
 ·rw[Zm (Zp a)]at h⊢;obtain⟨i,hi⟩:=sk.1 (GZ a).2.1;obtain⟨k,d⟩:=sk.1 (GZ a).2.2.2.2.2.2;rw[hi,d]at h⊢;dsimp only at h⊢;by_cases c:H.tail x i k=0
  ·rw[Zm (Zp c)]at h⊢;by_cases b:(mO k H (fH x.text).1).2=0
   ·rw[Zm (Zp b)];have m:=Mv.IZ k _ (R2 ((Es d).1▸tail_parse c)).1 b;exact⟨k,rfl,m.len,m.old,m.new,m.nm⟩
   rw[Zn b]at h;exact absurd h b
  rw[Zn c]at h;exact absurd h c
 rw[Zn a]at h;exact absurd h a
end
def Tg:∀(l:List Entry)(H:ax)(i k:Nat),(runT H i l).2.2=0->(runT H i (l.take k)).2.2=0
 |[],_,_,k,h=>by rw[List.take_nil];exact h
 |x::l,H,i,0,h=>rfl
 |x::l,H,i,k+1,h=>by
  rw[List.take_succ_cons];rw[runT]at h⊢;by_cases e:(bX H x).2=0
  ·rw[Zm (Zp e)]at h⊢;exact Tg l _ _ k h
  rw[Zn e]at h;exact absurd h e
def Qj{n:Net}{l:List Entry}(h:(bl n l).2.2=0)(k:Nat):(bl n (l.take k)).2.2=0:=by
 obtain⟨a,b,e⟩:=Sv h;rw[Vq a (by rw[sc];omega)];rw[e]at h;exact Tg _ _ _ k h
end Go.Proofs.YtdhdgbnafkeifaaGreatDoor
namespace Go.Proofs.YtdhdgbnafkeifaaGreatDoor
open Go.Ab
def Q2{n:Net}{l:List Entry}(h:¬(bl n l).2.2≠0):RJ n l=(bl n l).1.st:=Zm h
end Go.Proofs.YtdhdgbnafkeifaaGreatDoor
namespace Go.Proofs.YtdhdgbnafkeifaaGreatDoor
open Go.Ab
def AO{xs:bi}(h:Shape (.st (.cons .str (.cons (.int .i64) .nil))) xs):∃p:bf,xs=p.cs:=by
 obtain⟨a,b,rfl,⟨s,rfl⟩,c,d,rfl,⟨n,rfl⟩,rfl⟩:=h;exact⟨⟨s,n⟩,rfl⟩
def Gg{xs:bi}(h:Shape (.cons (.sl (.st (.cons .str (.cons (.int .i64) .nil)))) (.cons .str (.cons (.int .i64) (.cons (.st (.cons (.int .i64) (.cons (.int .i64) .nil))) .nil)))) xs):∃p:Net,xs=p.cs:=by
 obtain⟨a,b,rfl,⟨rows,rfl,j⟩,c,d,rfl,⟨s,rfl⟩,e,f,rfl,⟨n,rfl⟩,g,k,rfl,⟨u,v,rfl,⟨lo,rfl⟩,y,z,rfl,⟨hi,rfl⟩,rfl⟩,rfl⟩:=h;obtain⟨l,rfl⟩:=yD (f:=bf.cs) (fun r h=>AO (j r h));exact⟨⟨l,s,n,lo,hi⟩,rfl⟩
end Go.Proofs.YtdhdgbnafkeifaaGreatDoor
namespace Go.Proofs.YtdhdgbnafkeifaaGreatDoor
open Go.Ab
def SD{xs:bi}(h:Shape (.cons (.int .i64) (.cons .str (.cons .str .nil))) xs):∃p:Entry,xs=p.cs:=by
 obtain⟨a,b,rfl,⟨n,rfl⟩,c,d,rfl,⟨s,rfl⟩,e,f,rfl,⟨t,rfl⟩,rfl⟩:=h;exact⟨⟨n,s,t⟩,rfl⟩
def RE{x:X}(h:Shape (.sl (.st (.cons (.int .i64) (.cons .str (.cons .str .nil))))) [x]):∃l:List Entry,x=.sl (l.map Entry.cs):=by
 obtain⟨rows,b,a⟩:=h;cases b;obtain⟨l,rfl⟩:=yD (f:=Entry.cs) (fun r h=>SD (a r h));grind
