import Derived.Test.YtdhdgbnafkeifaaGreatDoorUj
set_option linter.all false
open List renaming length->R
namespace Go.Proofs.YtdhdgbnafkeifaaGreatDoor
open Go.Ab Tryz
set_option maxRecDepth 9999
def Pd(P:ax->Prop)(a:∀H x,P H->(bX H x).2=0->P (bX H x).1):∀(l:List Entry)(H:ax)(i:Nat),(runT H i l).2.2=0->P H->P (runT H i l).1
 |[],_,_,_,h=>h
 |x::l,H,i,h0,h=>by
  rw[runT]at h0⊢;by_cases e:(bX H x).2=0
  ·rw[Zm (Zp e)]at h0⊢;exact Pd P a l _ _ h0 (a H x h e)
  rw[Zn e]at h0;exact absurd h0 e
def To{n:Net}{l:List Entry}(P:ax->Prop)(hi:∀n p,bA p=0->P (ax.init n p))(a:∀H x,P H->(bX H x).2=0->P (bX H x).1)(h:(bl n l).2.2=0):P (bl n l).1:=by
 obtain⟨b,_,e⟩:=Sv h;rw[e]at h⊢;exact Pd P a l _ _ h (hi _ _ (vP (B6 b).2))
def LZ{n:Net}{l:List Entry}(h:(bl n l).2.2=0):HS (bl n l).1:=To HS (fun _ _ h=>HS.init h) (fun _ x h _=>h.enter x) h
end Go.Proofs.YtdhdgbnafkeifaaGreatDoor
namespace Go.Proofs.YtdhdgbnafkeifaaGreatDoor
open Go.Ab Tryz
def r_(a b:Int):Prop:=b=a\/(a=0/\b=1)\/(a=1/\2<=b/\b<=4)
structure Mv(H H':ax)(s:Bool):Prop where
 len:H'.parts.length=H.parts.length+if s=true then 1 else 0
 old:∀j,j<H.parts.length->r_ (H.p j).place (H'.p j).place
 new:s=true->((H'.p H.parts.length).place=0/\0<=(H'.p H.parts.length).num/\(H'.p H.parts.length).num<=1000000)/\∀j,j<H.parts.length->(H.p j).place≠0
 nm:∀j,j<H.parts.length->(H'.p j).num=(H.p j).num
section
variable{H H':ax}{s:Bool}{i:Nat}
def Mv.refl:Mv H H false:=⟨rfl,fun _ _=>.inl rfl,Z,fun _ _=>rfl⟩
def Mv.re(h:H'.parts=H.parts):Mv H H' false:=⟨by rw[h];rfl,fun j _=>.inl (by unfold ax.p;rw[h]),Z,fun j _=>by unfold ax.p;rw[h]⟩
def Mv.eC{f:Part->Part}(c:i<R H.parts->r_ (H.p i).place (f (H.p i)).place)(b:∀p,(f p).num=p.num:=by exact fun _=>rfl):Mv H (H.eC i f) false:=
 ⟨aμ ..,fun j a=>by
  rw[D_ H i f a];split
  ·rename_i e;subst e;exact c a
  ·exact .inl rfl,Z,fun j a=>by
  rw[D_ H i f a];split
  ·exact b _
  rfl⟩
def Mv.jO(h:Mv H H' s)(j:Nat):Mv H (H'.jO j) s:=
 ⟨(aμ ..).trans h.len,fun k a=>by rw[N_];exact h.old k a,(fun e=>by rw[N_];exact h.new e),fun k a=>by rw[N_];exact h.nm k a⟩
def AT(j:Nat)(a:j<R H'.parts):((H'.Ff i).p j).place=(H'.p j).place/\((H'.Ff i).p j).num=(H'.p j).num:=by
 unfold ax.p ax.Ff;dsimp only;rw[i7,Zv a];simp only[cφ,Option.getD_some];split<;>exact⟨rfl,rfl⟩
def Mv.Ff(h:Mv H H' false)(k:Nat):Mv H (H'.Ff k) false:=
 ⟨(Zx ..).trans h.len,fun j a=>by rw[(AT j (by have:=h.len;simp at this;omega)).1];exact h.old j a,Z,fun j a=>by rw[(AT j (by have:=h.len;simp at this;omega)).2];exact h.nm j a⟩
def Mv.about{n:Int}{f:ax->Nat->HE}(a:∀i,H.vr n=some i->Mv H (f H i).1 false):Mv H (cK H n f).1 false:=by
 unfold cK;cases e:H.vr n with
 |none=>exact .refl
 |some i=>
  dsimp only;split
  ·exact(a i e).jO i
  exact a i e
def J5(h:H.xE=some i):(H.p i).place=0:=by
 obtain⟨hi,a⟩:=eE h;rw[Wf (Zv hi)];exact pf a
def Mv.start{n:Int}(h0:0<=n)(r c:ba)(h:(fT H n r c).2=0):Mv H (fT H n r c).1 true:=by
 by_cases b:aF [ae (decide (n<=1000000)) 2,ae (H.vr n).isNone 5,ae ((H.Ec r).isSome&&(H.Bs c).isSome) 6,ae H.xE.isNone 17]=0
 case neg=>rw[xg rfl b]at h;exact absurd h b
 obtain⟨l,_,g,u⟩:=Dz b;have l:=pf l;rw[Zw]at g;obtain⟨k,o⟩:=sk.1 g.1;obtain⟨j,a⟩:=sk.1 g.2;have d:=(j5 o).1;have f:=(eE a).1;rw[DA b o (Zv d) a (Zv f)]at h⊢;split
 ·rename_i t;rw[Zn t]at h;exact absurd h t
 have m:∀(j:Nat)(_:j<R H.parts)(cs:List (o6×Int))(q:Part×bd),ax.p {H with aC:=cs,parts:=H.parts++[q]} j=H.p j:=fun j a cs q=>by
  unfold ax.p;dsimp only;rw[m6 a]
 refine⟨F,fun j a=>.inl (by rw[m j a]),fun _=>⟨?_,fun j a e=>?_⟩,fun j a=>by rw[m j a]⟩
 ·unfold ax.p;dsimp only;rw[aκ (Zq _),dδ];exact⟨rfl,h0,l⟩
 have:=(YO _ _ 0).1 (dρ.1 u) _ (Zt a);rw[Wf (Zv a)]at e;exact absurd e (a6 this)
def Mv.IZ(k:Nat)(L:vN)(h0:0<=L.num)(h:(mO k H L).2=0):Mv H (mO k H L).1 (decide (k=1)):=by
 have b:∀{j:Nat},j≠1->decide (j=1)=false:=fun h=>Zy h
 unfold mO at h⊢;split
 ·exact .refl
 ·exact .start h0 _ _ h
 ·unfold frameT;cases e:H.xE with
  |none=>exact .refl
  |some i=>
   dsimp only
   repeat' split
   all_goals first|exact .refl|exact Mv.jO (.eC fun _=>.inl rfl) i|exact Mv.jO .refl i
 ·unfold n8;cases e:H.xE with
  |none=>exact .refl
  |some i=>exact Mv.jO (.eC fun _=>.inr (.inl ⟨J5 e,rfl⟩)) i
 ·refine .about fun i _=>?_
  unfold gj;split
  ·rename_i a;dsimp only;refine .eC fun _=>.inr (.inr ⟨?_,by dsimp only;omega⟩)
   unfold Ac at a;simp at a;exact a.1.1.1
  exact .refl
 ·refine .about fun i _=>?_
  unfold Ei;split
  ·dsimp only;exact .eC fun _=>.inr (.inr ⟨by assumption,by dsimp only;omega⟩)
  exact .refl
 ·unfold qj;dsimp only;split<;>exact .re rfl
 ·unfold tS;repeat' split
  all_goals exact .re rfl
 ·refine .about fun i _=>?_
  unfold yE;split
  ·dsimp only;exact .eC fun _=>.inl rfl
  exact .refl
 ·refine .about fun i _=>?_
  unfold yQ;dsimp only
  repeat' split
  all_goals first|exact .refl|skip
  ·exact Mv.Ff (.eC fun _=>.inr (.inr ⟨Zu.1 (by assumption),by dsimp only;omega⟩)) i
  dsimp only;exact .eC fun _=>.inr (.inr ⟨Zu.1 (by assumption),by dsimp only;omega⟩)
 ·unfold eG;dsimp only;repeat' split
  all_goals exact .re rfl
 ·refine .about fun i _=>?_
  unfold fe;dsimp only;split<;>exact .re rfl
 rw[Zy (by assumption)];unfold gS;split<;>exact .re rfl
def tail_parse{x:Entry}{k:Nat}(h:H.tail x i k=0):(kf x.text (kinds.getD k [])).2=true:=by
 unfold ax.tail at h;rw[aF]at h;split at h
 ·rename_i b;exact absurd h b
 cases a:(kf x.text (kinds.getD k [])).2 with
 |true=>rfl
 |false=>rw[a]at h;exact absurd h C
def Mv.enter{x:Entry}(h:(bX H x).2=0):∃k,dS (aL 32 x.text).1=some k/\Mv H (bX H x).1 (decide (k=1)):=by
 unfold bX at h⊢;by_cases a:H.head x=0
 ·rw[Zm (Zp a)]at h⊢;obtain⟨i,hi⟩:=sk.1 (GZ a).2.1;obtain⟨k,d⟩:=sk.1 (GZ a).2.2.2.2.2.2;rw[hi,d]at h⊢;dsimp only at h⊢;by_cases c:H.tail x i k=0
  ·rw[Zm (Zp c)]at h⊢;by_cases b:(mO k H (fH x.text).1).2=0
   ·rw[Zm (Zp b)];have m:=Mv.IZ k _ (R2 ((Es d).1▸tail_parse c)).1 b;exact⟨k,rfl,m.len,m.old,m.new,m.nm⟩
   rw[Zn b]at h;exact absurd h b
  rw[Zn c]at h;exact absurd h c
 rw[Zn a]at h;exact absurd h a
def ax.Pl(H:ax):Prop:=∀j,j<R H.parts->0<=(H.p j).place/\(H.p j).place<=4
def Mv.pl(m:Mv H H' s)(h:H.Pl):H'.Pl:=fun j c=>by
 rcases w7 j (R H.parts) with q|q
 ·have a:=m.old j q;have b:=h j q;unfold r_ at a;omega
 have l:=m.len;cases s with
 |false=>simp at l;omega
 |true=>
  have a:=(m.new rfl).1.1;simp at l;rw[show j=R H.parts by omega,a];decide
end
def L0{n:Net}{l:List Entry}(h:(bl n l).2.2=0):(bl n l).1.Pl:=To ax.Pl (fun _ _ _ j b=>absurd b (bπ j)) (fun H x a e=>by
 obtain⟨k,_,m⟩:=Mv.enter e;exact m.pl a) h
def I_{n:Net}{l:List Entry}(h:(bl n l).2.2=0):∀(i:Nat)(hi:i<R (RJ n l).parts),0<=(RJ n l).parts[i].place/\(RJ n l).parts[i].place<=4:=by
 have b:RJ n l=(bl n l).1.st:=Zm (Zp h);rw[b];intro i hi;have a:i<R (bl n l).1.parts:=by
  have e:R (bl n l).1.st.parts=R (bl n l).1.parts:=Zx ..;omega
 have k:=L0 h i a;rw[Wf (Zv a)]at k;have e:(bl n l).1.st.parts[i]=(bl n l).1.parts[i].1:=bκ ..;rw[e];exact k
def Tg:∀(l:List Entry)(H:ax)(i k:Nat),(runT H i l).2.2=0->(runT H i (l.take k)).2.2=0
 |[],_,_,k,h=>by rw[List.take_nil];exact h
 |x::l,H,i,0,h=>rfl
 |x::l,H,i,k+1,h=>by
  rw[List.take_succ_cons];rw[runT]at h⊢;by_cases e:(bX H x).2=0
  ·rw[Zm (Zp e)]at h⊢;exact Tg l _ _ k h
  rw[Zn e]at h;exact absurd h e
def Qj{n:Net}{l:List Entry}(h:(bl n l).2.2=0)(k:Nat):(bl n (l.take k)).2.2=0:=by
 obtain⟨a,b,e⟩:=Sv h;rw[Vq a (by rw[sc];omega)];rw[e]at h;exact Tg _ _ _ k h
def State.Yy(s:State):iv:=⟨(R s.parts:Int),placesOf s.parts 0,placesOf s.parts 1,placesOf s.parts 2,placesOf s.parts 3,placesOf s.parts 4⟩
def Lv(H:ax):H.st.Yy=H.counts:=by unfold State.Yy ax.counts ax.st;simp
end Go.Proofs.YtdhdgbnafkeifaaGreatDoor
namespace Go.Proofs.YtdhdgbnafkeifaaGreatDoor
open Go.Ab Tryz
def Q2{n:Net}{l:List Entry}(h:¬(bl n l).2.2≠0):RJ n l=(bl n l).1.st:=Zm h
def sS.take{l:List Entry}(h:sS l)(k:Nat):sS (l.take k):=fun x a=>h x (eν a)
end Go.Proofs.YtdhdgbnafkeifaaGreatDoor
namespace Go.Proofs.YtdhdgbnafkeifaaGreatDoor
open Go.Ab Tryz
def AO{xs:bi}(h:Shape (.st (.cons .str (.cons (.int .i64) .nil))) xs):∃p:bf,xs=p.cs:=by
 obtain⟨a,b,rfl,⟨s,rfl⟩,c,d,rfl,⟨n,rfl⟩,rfl⟩:=h;exact⟨⟨s,n⟩,rfl⟩
def Gg{xs:bi}(h:Shape (.cons (.sl (.st (.cons .str (.cons (.int .i64) .nil)))) (.cons .str (.cons (.int .i64) (.cons (.st (.cons (.int .i64) (.cons (.int .i64) .nil))) .nil)))) xs):∃p:Net,xs=p.cs:=by
 obtain⟨a,b,rfl,⟨rows,rfl,j⟩,c,d,rfl,⟨s,rfl⟩,e,f,rfl,⟨n,rfl⟩,g,k,rfl,⟨u,v,rfl,⟨lo,rfl⟩,y,z,rfl,⟨hi,rfl⟩,rfl⟩,rfl⟩:=h;obtain⟨l,rfl⟩:=yD (f:=bf.cs) (fun r h=>AO (j r h));exact⟨⟨l,s,n,lo,hi⟩,rfl⟩
end Go.Proofs.YtdhdgbnafkeifaaGreatDoor
namespace Go.Proofs.YtdhdgbnafkeifaaGreatDoor
open Go.Ab Tryz
def SD{xs:bi}(h:Shape (.cons (.int .i64) (.cons .str (.cons .str .nil))) xs):∃p:Entry,xs=p.cs:=by
 obtain⟨a,b,rfl,⟨n,rfl⟩,c,d,rfl,⟨s,rfl⟩,e,f,rfl,⟨t,rfl⟩,rfl⟩:=h;exact⟨⟨n,s,t⟩,rfl⟩
def RE{x:X}(h:Shape (.sl (.st (.cons (.int .i64) (.cons .str (.cons .str .nil))))) [x]):∃l:List Entry,x=.sl (l.map Entry.cs):=by
 obtain⟨rows,b,a⟩:=h;cases b;obtain⟨l,rfl⟩:=yD (f:=Entry.cs) (fun r h=>SD (a r h));grind
end Go.Proofs.YtdhdgbnafkeifaaGreatDoor
namespace Go.Proofs.YtdhdgbnafkeifaaGreatDoor
open Go.Ab Tryz
def Ln{n:Net}{l:List Entry}(h:¬(bl n l).2.2≠0):mZ n l=((RJ n l).Yy,0):=by unfold mZ;rw[Zm h,Q2 h,Lv]
end Go.Proofs.YtdhdgbnafkeifaaGreatDoor
namespace Go.Proofs.YtdhdgbnafkeifaaGreatDoor
open Go.Ab Tryz
def fst32:∀l:ba,32∈l->∃i,∃hi:i<R l,l[i]=32/\∀j (a:j<i),¬l[j]=32
 |[],h=>by cases h
 |b::l,h=>by
  by_cases c:b=32
  ·exact⟨0,F,c,fun j a=>absurd a (bπ j)⟩
  rcases sf.1 h with e|h
  ·exact absurd e.symm c
  obtain⟨i,hi,e,d⟩:=fst32 l h;refine⟨i+1,by simpa using hi,by simpa using e,fun j a=>?_⟩;cases j with
  |zero=>exact c
  |succ j=>have:=d j I;simpa using this
def cut_word{w l:ba}(hw:∀b∈w,¬b=32):l.take (R w+1)=w++[32]↔(aL 32 l).1=w/\(aL 32 l).2.2=true:=by
 constructor
 ·intro h;have g:R w<R l:=by
   have:=rn List.length h;rw[sc,Zs,R0]at this;omega
  have m:∀(j:Nat)(a:j<R w+1),l[j]?=(w++[32])[j]?:=fun j a=>by
   rw[←h,List.getElem?_take_of_lt a]
  have e:=JI (l:=l) (i:=R w) g (fun j a=>by
   have q:=m j I;rw[Zv I,m6 a,Zv a]at q;rw[aγ q];exact hw _ (Zt a)) (by
   have q:=m (R w) I;rw[Zv g,aκ (Zq _),dδ]at q;exact aγ q)
  rw[e];refine⟨?_,rfl⟩;have:=rn (List.take (R w)) h;rw[ra,Nat.min_eq_left I,aε (Zq _),List.take_length]at this;exact this
 intro ⟨f,n⟩;by_cases h0:32∈l
 ·obtain⟨k,c,d,o⟩:=fst32 l h0;rw[JI c o d]at f;have hlen:R w=k:=by rw[←f,sc];omega
  rw[hlen,mv c,d,←f]
 rw[oI (NB fun j a q=>h0 (q▸Zt a))]at n;cases n
def begW(w t:ba):Bool:=decide (t.take (R w+1)=w++[32])
def enter_beg{H:ax}{x:Entry}{k j:Nat}(h:(bX H x).2=0)(g:dS (aL 32 x.text).1=some k)(n:j=1\/j=7):begW (gR.getD j []) x.text=decide (k=j):=by
 unfold begW;have l:j<13:=I
 have hw:∀b∈gR.getD j [],¬b=32:=by rcases n with rfl|rfl<;>decide
 obtain⟨c,f⟩:=eE g;have f:(aL 32 x.text).1=gR.getD k []:=by
  have:=pf f;rw[this,pv,Zv c];rfl
 refine decide_eq_decide.2 ((cut_word hw).trans ⟨fun e=>?_,fun e=>?_⟩)
 ·have a:=MQ j l;rw[←e.1,g]at a;exact aγ a
 subst e;refine⟨f,?_⟩;unfold bX at h;have a:H.head x=0:=by
  by_cases a:H.head x=0
  ·exact a
  rw[Zn a]at h;exact h
 rw[Zm (Zp a)]at h;obtain⟨i,hi⟩:=sk.1 (GZ a).2.1;rw[hi,g]at h;dsimp only at h;have d:H.tail x i k=0:=by
  by_cases d:H.tail x i k=0
  ·exact d
  rw[Zn d]at h;exact h
 have m:=tail_parse d;cases o:(aL 32 x.text).2.2 with
 |true=>rfl
 |false=>
  unfold kf at m;rw[o]at m;rcases n with rfl|rfl<;>simp[kinds,aH]at m
def runT_snoc:∀(l:List Entry)(H:ax)(i:Nat)(x:Entry),(runT H i (l++[x])).2.2=0->(runT H i l).2.2=0/\(bX (runT H i l).1 x).2=0/\(runT H i (l++[x])).1=(bX (runT H i l).1 x).1
 |[],H,i,x,h=>by
  rw[bε,runT]at h⊢;by_cases e:(bX H x).2=0
  ·rw[Zm (Zp e)];exact⟨rfl,e,rfl⟩
  rw[Zn e]at h;exact absurd h e
 |y::l,H,i,x,h=>by
  rw[H5,runT]at h⊢;by_cases e:(bX H y).2=0
  ·rw[Zm (Zp e)]at h⊢;rw[runT,Zm (Zp e)];exact runT_snoc l _ _ x h
  rw[Zn e]at h;exact absurd h e
def replay_next{n:Net}{l:List Entry}(h:(bl n l).2.2=0){i:Nat}(hi:i<R l):(bX (bl n (l.take i)).1 l[i]).2=0/\(bl n (l.take (i+1))).1=(bX (bl n (l.take i)).1 l[i]).1:=by
 have a:=Qj h (i+1);obtain⟨_,_,b⟩:=Sv a;obtain⟨_,_,c⟩:=Sv (Qj h i);rw[b]at a⊢;rw[c];rw[mv hi]at a⊢;exact(runT_snoc _ _ _ _ a).2
def places_mono{k:Int}:∀(a b:List Part),R a<=R b->(∀(j:Nat)(g:j<R a)(f:j<R b),a[j].place=k->b[j].place=k)->placesOf a k<=placesOf b k
 |[],b,_,_=>by unfold placesOf;simp
 |x::a,[],h,_=>by simp at h
 |x::a,y::b,h,hp=>by
  have d:=places_mono a b (by simpa using h) fun j g f e=>by have:=hp (j+1) (by simpa using g) (by simpa using f);simpa using this (by simpa using e)
  have h0:x.place=k->y.place=k:=hp 0 F F;unfold placesOf at d⊢;by_cases c:x.place=k
  ·rw[qk (by simpa using c),qk (by simpa using h0 c)];simp;omega
  rw[List.filter_cons_of_neg (by simpa using c),ci];split
  ·simp;omega
  exact d
def places_sum:∀(a:List Part),(∀p∈a,0<=p.place/\p.place<=4)->(R a:Int)=placesOf a 0+placesOf a 1+placesOf a 2+placesOf a 3+placesOf a 4
 |[],_=>by simp[placesOf]
 |x::a,h=>by
  have d:=places_sum a fun p b=>h p (by simp[b])
  have f:=h x F;have key:∀k:Int,placesOf (x::a) k=placesOf a k+if x.place=k then 1 else 0:=fun k=>by
   unfold placesOf;rw[ci];by_cases c:x.place=k<;>simp[c]
  rw[key,key,key,key,key,tt];rcases(show x.place=0\/x.place=1\/x.place=2\/x.place=3\/x.place=4 by omega)with e|e|e|e|e<;>simp[e]<;>omega
def Mv.places{H H':ax}{s:Bool}(m:Mv H H' s){k:Int}(g:2<=k):placesOf H.st.parts k<=placesOf H'.st.parts k:=by
 have e:∀G:ax,R G.st.parts=R G.parts:=fun G=>Zx ..
 have d:∀(G:ax)(j:Nat)(b:j<R G.st.parts),G.st.parts[j]=G.p j:=fun G j b=>by
  have a:j<R G.parts:=by rw[←e];exact b
  rw[Wf (Zv a)];exact bκ ..
 have f:=m.len;refine places_mono _ _ (by rw[e,e];omega) fun j c l h=>?_
 rw[d]at h⊢;have:=m.old j (by rw[←e];exact c);unfold r_ at this;omega
def tallyAt(n:Net)(l:List Entry)(i:Nat):iv:=(RJ n (l.take i)).Yy
structure TallyOk(t:iv):Prop where
 sum:t.started=t.under+t.inside+t.good+t.bad+t.cut
 nn:0<=t.under/\0<=t.inside/\0<=t.good/\0<=t.bad/\0<=t.cut
 le:t.started<=12
def back_tally{n:Net}{l:List Entry}(h:(bl n l).2.2=0):TallyOk (RJ n l).Yy:=by
 have d:RJ n l=(bl n l).1.st:=Zm (Zp h);have b:=I_ h;refine⟨places_sum _ fun p a=>?_,⟨(wj _ _).1,(wj _ _).1,(wj _ _).1,(wj _ _).1,(wj _ _).1⟩,?_⟩
 ·obtain⟨j,c,rfl⟩:=dγ.1 a;exact b j c
 have:=(LZ h).inv.lp;have e:R (bl n l).1.st.parts=R (bl n l).1.parts:=Zx ..;show(R (RJ n l).parts:Int)<=12;rw[d];omega
structure TallyOn(t t':iv)(s:Bool):Prop where
 started:t'.started=t.started+if s=true then 1 else 0
 good:t.good<=t'.good
 bad:t.bad<=t'.bad
 cut:t.cut<=t'.cut
def tally_next{n:Net}{l:List Entry}(h:(bl n l).2.2=0){i:Nat}(hi:i<R l):TallyOn (tallyAt n l i) (tallyAt n l (i+1)) (begW [115,116,97,114,116] l[i].text):=by
 obtain⟨a,e⟩:=replay_next h hi;obtain⟨k,c,m⟩:=Mv.enter a;have d:=enter_beg (j:=1) a c (.inl rfl);have b:begW [115,116,97,114,116] l[i].text=decide (k=1):=d;have g:RJ n (l.take i)=(bl n (l.take i)).1.st:=Zm (Zp (Qj h i));have f:RJ n (l.take (i+1))=(bX (bl n (l.take i)).1 l[i]).1.st:=by rw[←e];exact Zm (Zp (Qj h (i+1)))
 unfold tallyAt;rw[b,g,f];refine⟨?_,m.places C,m.places C,m.places C⟩;have:=m.len;show(R (_:List Part):Int)=(R (_:List Part):Int)+_;rw[show(R (ax.st _).parts)=_ from Zx ..,show(R (ax.st (bl n (l.take i)).1).parts)=_ from Zx ..,this];split<;>simp
def tally_0{n:Net}{l:List Entry}(h:(bl n l).2.2=0):tallyAt n l 0=iv.zero:=by
 have a:RJ n (l.take 0)=(bl n (l.take 0)).1.st:=Zm (Zp (Qj h 0));obtain⟨_,_,e⟩:=Sv (Qj h 0);unfold tallyAt;rw[a,e];rfl
def counts_at{n:Net}{l:List Entry}(h:(bl n l).2.2=0)(i:Nat):mZ n (l.take i)=(tallyAt n l i,0):=Ln (Zp (Qj h i))
def lastT(n:Net)(l:List Entry)(i:Nat):iv:=if i=0 then iv.zero else tallyAt n l (i - 1)
def last_ok{n:Net}{l:List Entry}(h:(bl n l).2.2=0)(i:Nat):TallyOk (lastT n l i):=by
 unfold lastT;split
 ·exact⟨rfl,C,C⟩
 exact back_tally (Qj h _)
def last_on{n:Net}{l:List Entry}(h:(bl n l).2.2=0)(i:Nat)(hi:i<=R l):(lastT n l i).good<=(tallyAt n l i).good/\(lastT n l i).bad<=(tallyAt n l i).bad/\(lastT n l i).cut<=(tallyAt n l i).cut:=by
 cases i with
 |zero=>rw[tally_0 h];exact⟨Int.le_refl 0,Int.le_refl 0,Int.le_refl 0⟩
 |succ j=>
  have m:=tally_next h (i:=j) I;exact⟨m.good,m.bad,m.cut⟩
def last_0{n:Net}{l:List Entry}(h:(bl n l).2.2=0){i:Nat}(hi:i=0):tallyAt n l i=lastT n l i:=by
 subst hi;exact tally_0 h
def last_st{n:Net}{l:List Entry}(h:(bl n l).2.2=0){i:Nat}(hi:0<i)(a:i - 1<R l):(tallyAt n l i).started=(lastT n l i).started+if begW [115,116,97,114,116] l[i - 1].text=true then 1 else 0:=by
 have m:=(tally_next h a).started;unfold lastT;rw[Zm I];rw[show i - 1+1=i by omega]at m;exact m
end Go.Proofs.YtdhdgbnafkeifaaGreatDoor
namespace Go.Proofs.YtdhdgbnafkeifaaGreatDoor
open Go.Ab Tryz
def top_begins{s v:ba}:Ct prog 47 [.str s,.str v] (.bool (decide (s.take (R v)=v))):=by
 refine cI func47 O (OK.ux (t:=0) (z:=s) O O fun hlen=>?_);unfold maxLen at hlen;refine ro 13 O (RK.bh (t:=10) O (fun a=>?_) (fun a=>?_))
 ·refine rr 3 O ?_;refine kc (S.ir (hi:=R v) (l':=s.take (R v)) fR (zg O O) O (zt O) (.inl ⟨O,O,O⟩) (.inr ⟨_,_,O,(zt O),O⟩) I I (by rw[aα])) ?_;refine rr 6 O (kR O O ?_);rfl
 have b:¬s.take (R v)=v:=fun e=>a (by have:=rn List.length e;rw[sc]at this;omega)
 rw[Zy b];refine rr 10 O (kR O O ?_);rfl
def top_awake:gz prog 46 [] (.bool true):=by
 refine cT func46 O fun a=>?_
 refine ro 7 O (kc (zK ov call49 O) (kc (zK ow call50 O) (kc (S.dB (AK) a call48 .none O (zc O (zc O (zD O))) O) (rr 9 O (kc (zK ov call49 O) (kc (zK ow call50 O) ?_))))));refine kc (S.dB (C6) a call30 .none O (zc O (zc O (.cons (.bj (l:=[112,97,114,116,32,50]) O C) .nil))) O) ?_;refine rr 13 O ?_;refine kc (S.mkData (rows:=[[_],[_],[_],[_],[_],[_],[_]]) ZM (zg O O) O (zC O (zC O (zC O (zC O (zC O (zC O (zD O))))))) O O O O O O O) (kc (S.call (AL) call21 (zg O O) O (zc O (zc O .nil)) O) ?_);refine rr 12 O (kR O O ?_);rfl
set_option maxHeartbeats 4000000 in
def law_TopRecordCounts{n:Net}{l:List Entry}:gz prog 8 [.agg n.cs,.sl (l.map Entry.cs)] (.bool true):=by
 refine cT func8 O fun M=>?_
 refine ro 9 O (kc (S.dB (top_awake) M call46 .none O .nil O) (kc (S.not .none O (zt O)) (rr 9 O (kc (zK (AX (n:=n)) call10 O) (kc (S.not .none O (zt O)) (jm O (RK.split (t:=15) O (fun p=>?_) (fun p=>?_))))))))
 ·refine rr 18 O (kR O O ?_);rfl
 refine kc (S.move (zg O O) O (zt O)) (kc (S.call (Wc (l:=l)) call11 (zg O O) O (zc O .nil) O) (kc (S.not (zg O O) O (zt O)) (rr 2 O (RK.split (t:=20) O (fun o=>?_) (fun o=>?_)))))
 ·refine rr 13 O (kR O O ?_);rfl
 have x:mo n=true:=by simpa using p
 have r:Z1 l=true:=by simpa using o
 obtain⟨Z,Y⟩:=C9 x;obtain⟨W,u⟩:=OL r;have j:∀y∈l,R y.text<=100000:=fun y P=>by have:=u y P;omega
 refine rr 2 O (kc (S.call (TG (n:=n) (l:=l) I j) call17 (zg O O) O (zc O (zc O .nil)) O) ?_);refine rr 4 O (kB O (fun q=>?_) (fun q=>?_))
 ·refine ro 5 O (kR O O ?_);rfl
 have h0:(bl n l).2.2=0:=Zu.1 q;refine ro 14 O ?_;refine OK.loop (G:=Nat) [2,5] (fun i=>[(1,.sl (l.map Entry.cs)),(2,.ptr 2 0),(1002,.box n.cs),(5,.ptr 5 0),(1005,.box (lastT n l i).cs),(6,bv i)]) (fun i=>i<=R l+1) (fun i=>R l+1 - i) 0 (Zr _) ⟨O,O,O,O,O,O,Zo⟩ (fun _=>O) ?_;rintro i hi;refine ro 5 O (kc (zk YI O) (rr 3 O (kB O (fun L=>?_) (fun L=>?_))))
 ·have w:i<=R l:=I
  have g:TallyOk (tallyAt n l i):=back_tally (Qj h0 i);have h:=last_ok h0 i;have T:=g.sum;have U:=g.nn;have hle:=g.le;have V:=h.nn;have Q:=h.sum;have X:=h.le;obtain⟨m1,m2,m3⟩:=last_on h0 i w;refine ro 5 O ?_;refine kV (.c (zL XB O O O O) (.c (zK (se (n:=n) I) call13 O) (.c (zm O) (.c (zm O) (.c (S.slice (hi:=i) (l':=l.take i) YI (fun _=>O) .none O (zt O) (.inl ⟨O,O,O⟩) (.inr ⟨_,_,O,(zt O),O⟩) I I (by rw[aα])) (.c (zK (XE (l:=l.take i) (by rw[sc];omega)) call14 O) (.c (S.dB (rec_CountsOf (n:=n) (l:=l.take i) I ((Ni j).take i)) M call26 .none O (zc O (zc O .nil)) O) (.c (zm O) (.c (zX O O O) (.c (zX O O O) (.c (zA (c:=7) ze70 O) (.c (zS LC O O O O O O) (.c (za O) .nil))))))))))))) ?_;refine rd 3 O ?_;rw[show(mZ n (l.take i)).1=tallyAt n l i by rw[counts_at h0 i],show(mZ n (l.take i)).2=0 by rw[counts_at h0 i]];refine ro 4 O (RK.bh (t:=44) O (fun m=>?_) (fun m=>?_))
  ·exact absurd rfl m
  refine Rr 19 O I (RK.bh (t:=63) O (fun k=>?_) (fun k=>?_))
  ·exact absurd T k
  refine rr 5 O (RK.bh (t:=68) O (fun J=>?_) (fun J=>?_))
  ·exfalso;omega
  refine rr 5 O (RK.bh (t:=73) O (fun F=>?_) (fun F=>?_))
  ·exfalso;omega
  refine rr 7 O (RK.bh (t:=80) O (fun E=>?_) (fun E=>?_))
  ·exfalso;omega
  refine rr 7 O (RK.bh (t:=87) O (fun B=>?_) (fun B=>?_))
  ·exfalso;omega
  refine rr 8 O (kB O (fun K=>?_) (fun K=>?_))
  ·exfalso;omega
  refine ro 8 O (RK.bh (t:=96) O (fun A=>?_) (fun A=>?_))
  ·have N:=last_0 h0 (i:=i) I;refine rr 2 O (kc (S.t_ [(tallyAt n l i).started,(tallyAt n l i).under,(tallyAt n l i).inside,(tallyAt n l i).good,(tallyAt n l i).bad,(tallyAt n l i).cut] [(lastT n l i).started,(lastT n l i).under,(lastT n l i).inside,(lastT n l i).good,(lastT n l i).bad,(lastT n l i).cut] eq70 (zg O O) O (zt O) (zt O) O O O O) (rr 3 O (kB O (fun f=>?_) (fun f=>?_))))
   ·exact absurd (by rw[N]) f
   refine ro 9 O (kB O (fun d=>?_) (fun d=>?_))
   ·have e:i - 1<R l:=I
    have z:=last_st h0 (i:=i) I e;exfalso;omega
   refine Ro 13 O I ?_;refine Ab.D.lp ⟨i+1,I,I,O,O,O,O,(s8 (by unfold lastT;rfl)),O,Zo⟩
  refine rr 16 O (kB O (fun d=>?_) (fun d=>?_))
  ·have e:i - 1<R l:=I
   have z:=last_st h0 (i:=i) I e;refine Ro 13 O I (kc (S.aP (n:=i - 1) YI .none O (zt O) (zt O) I e O) ?_);refine rr 2 O (kc (zK (top_begins (s:=l[i - 1].text) (v:=[115,116,97,114,116,32])) call47 O) (kD (kB O (fun b=>?_) (fun b=>?_))))
   ·have hB:begW [115,116,97,114,116] l[i - 1].text=true:=Zz b;rw[hB,Zn rfl]at z;refine Ro 14 O I (kB O (fun a=>?_) (fun a=>?_))
    ·exfalso;omega
    refine Ro 13 O I ?_;refine Ab.D.lp ⟨i+1,I,I,O,O,O,O,(s8 (by unfold lastT;rfl)),O,Zo⟩
   have hB:begW [115,116,97,114,116] l[i - 1].text=false:=Zy b;rw[hB,Zm C]at z;refine ro 10 O (kB O (fun a=>?_) (fun a=>?_))
   ·exfalso;omega
   refine Ro 13 O I ?_;refine Ab.D.lp ⟨i+1,I,I,O,O,O,O,(s8 (by unfold lastT;rfl)),O,Zo⟩
  exfalso;omega
 refine ro 7 O (kR O O ?_);rfl
