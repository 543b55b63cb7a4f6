import Derived.Test.YtdhdgbnafkeifaaGreatDoorUj
set_option linter.all false
set_option maxHeartbeats 4000000
open List renaming length->R
namespace Go.Proofs.YtdhdgbnafkeifaaGreatDoor
open Go.Ab Tryz
set_option maxRecDepth 9999
def PK{r:ba}{k:Int}:(!Ap [.s r,.i k] [.s r,.i k])=false:=by simp[Ap,Pl.eq]
def Pd(P:ax->Prop)(a:∀H x,P H->(bX H x).2=0->P (bX H x).1):∀(l:List Entry)(H:ax)(i:Nat),(runT H i l).2.2=0->P H->P (runT H i l).1
 |[],_,_,_,h=>h
 |x::l,H,i,h0,h=>by
  rw[runT]at h0⊢;by_cases e:(bX H x).2=0
  ·rw[Zm (Zp e)]at h0⊢;exact Pd P a l _ _ h0 (a H x h e)
  rw[Zn e]at h0;exact absurd h0 e
def To{n:Net}{l:List Entry}(P:ax->Prop)(hi:∀n p,bA p=0->P (ax.init n p))(a:∀H x,P H->(bX H x).2=0->P (bX H x).1)(h:(bl n l).2.2=0):P (bl n l).1:=by
 obtain⟨b,_,e⟩:=Sv h;rw[e]at h⊢;exact Pd P a l _ _ h (hi _ _ (vP (B6 b).2))
def LZ{n:Net}{l:List Entry}(h:(bl n l).2.2=0):HS (bl n l).1:=To HS (fun _ _ h=>HS.init h) (fun _ x h _=>h.enter x) h
def v_:Hf prog 39 4:=Hf.AS (T:=37) (am:=3) V underlying39 V V underlying37 V V isAgg37 sizeOf37 underlying3 isAgg3
def Tm{a:Part}:Ct prog 18 [.agg a.cs,.agg a.cs] (.bool true):=by
 refine cI func18 O (OK.Xq 0 4 (a.frames.map Frame.cs) O O O fun hlen=>?_);rw[Zx]at hlen;unfold maxLen at hlen;refine ro 16 O (RK.bh (t:=11) O (fun l=>?_) (fun l=>?_))
 ·exact absurd rfl l
 refine rr 4 O (kc (S.A_ (b:=false) [.s [],.i 0] [.s a.oF,.i a.iN] [.s a.oF,.i a.iN] Td (zg O O) O (zt O) (zt O) O O O O PK) (rr 9 O (RK.bh (t:=25) O (fun k=>?_) (fun k=>?_))))
 ·exact absurd rfl k
 refine rr 7 O (RK.bh (t:=32) O (fun j=>?_) (fun j=>?_))
 ·exact absurd rfl j
 refine rr 4 O (kc (S.u_ underlying4 (zg O O) O (zt O) (zt O)) (rr 2 O (RK.bh (t:=39) O (fun h=>?_) (fun h=>?_))))
 ·simp at h
 refine rr 7 O (RK.bh (t:=46) O (fun g=>?_) (fun g=>?_))
 ·exact absurd rfl g
 refine rr 4 O (kc (S.u_ underlying4 (zg O O) O (zt O) (zt O)) (rr 2 O (RK.bh (t:=53) O (fun f=>?_) (fun f=>?_))))
 ·simp at f
 refine rr 4 O (kc (S.t_ [a.depth.lo.num,a.depth.lo.den,a.depth.hi.num,a.depth.hi.den] [a.depth.lo.num,a.depth.lo.den,a.depth.hi.num,a.depth.hi.den] v_ (zg O O) O (zt O) (zt O) O O O O) (rr 2 O (RK.bh (t:=60) O (fun e=>?_) (fun e=>?_))))
 ·exact absurd rfl e
 refine rr 2 O (kc (S.Hp Y8 (zg O O) O (zt O)) (rr 2 O (kc (S.Hp Y8 (zg O O) O (zt O)) (rr 4 O (kB O (fun m=>?_) (fun m=>?_))))))
 ·exact absurd rfl m
 refine ro 9 O ?_;refine OK.loop (G:=Nat) [2,3] (fun i=>[(2,.ptr 2 0),(1002,.box a.cs),(3,.ptr 3 0),(1003,.box a.cs),(5,bv i)]) (fun i=>i<=R a.frames) (fun i=>R a.frames - i) 0 (Zr _) ⟨O,O,O,O,O,Zo⟩ (fun _=>O) ?_;rintro i hi;refine ro 6 O (kc (zk Y8 O) (rr 3 O (kB O (fun o=>?_) (fun o=>?_))))
 ·have p:i<R a.frames:=by omega
  refine ro 5 O ?_;refine kV (.c (zf Zf O) (.c (zl XO O O O O) (.c (zm O) (.c (zI Y8 O I O) (.c (S.field VQ .none O (zt O) O) (.c (zV Z8 O O) (.c (zf Zf O) (.c (zl XO O O O O) (.c (zm O) (.c (zI Y8 O I O) (.c (S.field VQ .none O (zt O) O) (.c (zV Z8 O O) (.c (S.neq .none O (zt O) (zt O)) (.c (zm O) (.c (S.dH Zf (.yes O O O F) O (zt O)) (.c (S.fc XO (.yes O O O F) O (zt O) O O O O) (.c (S.move (.yes O O O F) O (zt O)) (.c (S.aP (n:=i) Y8 (.yes O O O F) O (zt O) (zt O) O I O) (.c (S.field Yg (.yes O O O F) O (zt O) O) (.c (S.Hz Zd (.yes O O O F) O (zt O) O) (.c (S.dH Zf (.yes O O O F) O (zt O)) (.c (S.fc XO (.yes O O O F) O (zt O) O O O O) (.c (S.move (.yes O O O F) O (zt O)) (.c (S.aP (n:=i) Y8 (.yes O O O F) O (zt O) (zt O) O I O) (.c (S.field Yg (.yes O O O F) O (zt O) O) (.c (S.Hz Zd (.yes O O O F) O (zt O) O) (.c (S.call (AM (a:=a.frames[i].values) (b:=a.frames[i].values)) call21 (.yes O O O F) O (zc O (zc O .nil)) O) (.c (S.jP (.yes O O O F) O (zt O)) (.c (S.aO .none O (zt O) (zt O) F) .nil))))))))))))))))))))))))))))) ?_;refine Ab.D.code (kB O (fun d=>?_) (fun d=>?_))
  ·simp at d
  refine Ro 8 O I (Ab.D.lp ⟨i+1,I,I,O,O,O,O,O,Zo⟩)
 refine ro 7 O (kR O O ?_);rfl
end Go.Proofs.YtdhdgbnafkeifaaGreatDoor
namespace Go.Proofs.YtdhdgbnafkeifaaGreatDoor
open Go.Ab Tryz
def r_(a b:Int):Prop:=b=a\/(a=0/\b=1)\/(a=1/\2<=b/\b<=4)
structure Mv(H H':ax)(s:Bool):Prop where
 len:H'.parts.length=H.parts.length+if s=true then 1 else 0
 old:∀j,j<H.parts.length->r_ (H.p j).place (H'.p j).place
 new:s=true->((H'.p H.parts.length).place=0/\0<=(H'.p H.parts.length).num/\(H'.p H.parts.length).num<=1000000)/\∀j,j<H.parts.length->(H.p j).place≠0
 nm:∀j,j<H.parts.length->(H'.p j).num=(H.p j).num
section
variable{H H':ax}{s:Bool}{i:Nat}
def Mv.refl:Mv H H false:=⟨rfl,fun _ _=>.inl rfl,Z,fun _ _=>rfl⟩
def Mv.re(h:H'.parts=H.parts):Mv H H' false:=⟨by rw[h];rfl,fun j _=>.inl (by unfold ax.p;rw[h]),Z,fun j _=>by unfold ax.p;rw[h]⟩
def Mv.eC{f:Part->Part}(c:i<R H.parts->r_ (H.p i).place (f (H.p i)).place)(b:∀p,(f p).num=p.num:=by exact fun _=>rfl):Mv H (H.eC i f) false:=
 ⟨aμ ..,fun j a=>by
  rw[D_ H i f a];split
  ·rename_i e;subst e;exact c a
  ·exact .inl rfl,Z,fun j a=>by
  rw[D_ H i f a];split
  ·exact b _
  rfl⟩
def Mv.jO(h:Mv H H' s)(j:Nat):Mv H (H'.jO j) s:=
 ⟨(aμ ..).trans h.len,fun k a=>by rw[N_];exact h.old k a,(fun e=>by rw[N_];exact h.new e),fun k a=>by rw[N_];exact h.nm k a⟩
def AT(j:Nat)(a:j<R H'.parts):((H'.Ff i).p j).place=(H'.p j).place/\((H'.Ff i).p j).num=(H'.p j).num:=by
 unfold ax.p ax.Ff;dsimp only;rw[i7,Zv a];simp only[cφ,Option.getD_some];split<;>exact⟨rfl,rfl⟩
def Mv.Ff(h:Mv H H' false)(k:Nat):Mv H (H'.Ff k) false:=
 ⟨(Zx ..).trans h.len,fun j a=>by rw[(AT j (by have:=h.len;simp at this;omega)).1];exact h.old j a,Z,fun j a=>by rw[(AT j (by have:=h.len;simp at this;omega)).2];exact h.nm j a⟩
def Mv.about{n:Int}{f:ax->Nat->HE}(a:∀i,H.vr n=some i->Mv H (f H i).1 false):Mv H (cK H n f).1 false:=by
 unfold cK;cases e:H.vr n with
 |none=>exact .refl
 |some i=>
  dsimp only;split
  ·exact(a i e).jO i
  exact a i e
def J5(h:H.xE=some i):(H.p i).place=0:=by
 obtain⟨hi,a⟩:=eE h;rw[Wf (Zv hi)];exact pf a
def Mv.start{n:Int}(h0:0<=n)(r c:ba)(h:(fT H n r c).2=0):Mv H (fT H n r c).1 true:=by
 by_cases b:aF [ae (decide (n<=1000000)) 2,ae (H.vr n).isNone 5,ae ((H.Ec r).isSome&&(H.Bs c).isSome) 6,ae H.xE.isNone 17]=0
 case neg=>rw[xg rfl b]at h;exact absurd h b
 obtain⟨l,_,g,u⟩:=Dz b;have l:=pf l;rw[Zw]at g;obtain⟨k,o⟩:=sk.1 g.1;obtain⟨j,a⟩:=sk.1 g.2;have d:=(j5 o).1;have f:=(eE a).1;rw[DA b o (Zv d) a (Zv f)]at h⊢;split
 ·rename_i t;rw[Zn t]at h;exact absurd h t
 have m:∀(j:Nat)(_:j<R H.parts)(cs:List (o6×Int))(q:Part×bd),ax.p {H with aC:=cs,parts:=H.parts++[q]} j=H.p j:=fun j a cs q=>by
  unfold ax.p;dsimp only;rw[m6 a]
 refine⟨F,fun j a=>.inl (by rw[m j a]),fun _=>⟨?_,fun j a e=>?_⟩,fun j a=>by rw[m j a]⟩
 ·unfold ax.p;dsimp only;rw[aκ (Zq _),dδ];exact⟨rfl,h0,l⟩
 have:=(YO _ _ 0).1 (dρ.1 u) _ (Zt a);rw[Wf (Zv a)]at e;exact absurd e (a6 this)
def Mv.IZ(k:Nat)(L:vN)(h0:0<=L.num)(h:(mO k H L).2=0):Mv H (mO k H L).1 (decide (k=1)):=by
 have b:∀{j:Nat},j≠1->decide (j=1)=false:=fun h=>Zy h
 unfold mO at h⊢;split
 ·exact .refl
 ·exact .start h0 _ _ h
 ·unfold frameT;cases e:H.xE with
  |none=>exact .refl
  |some i=>
   dsimp only
   repeat' split
   all_goals first|exact .refl|exact Mv.jO (.eC fun _=>.inl rfl) i|exact Mv.jO .refl i
 ·unfold n8;cases e:H.xE with
  |none=>exact .refl
  |some i=>exact Mv.jO (.eC fun _=>.inr (.inl ⟨J5 e,rfl⟩)) i
 ·refine .about fun i _=>?_
  unfold gj;split
  ·rename_i a;dsimp only;refine .eC fun _=>.inr (.inr ⟨?_,by dsimp only;omega⟩)
   unfold Ac at a;simp at a;exact a.1.1.1
  exact .refl
 ·refine .about fun i _=>?_
  unfold Ei;split
  ·dsimp only;exact .eC fun _=>.inr (.inr ⟨by assumption,by dsimp only;omega⟩)
  exact .refl
 ·unfold qj;dsimp only;split<;>exact .re rfl
 ·unfold tS;repeat' split
  all_goals exact .re rfl
 ·refine .about fun i _=>?_
  unfold yE;split
  ·dsimp only;exact .eC fun _=>.inl rfl
  exact .refl
 ·refine .about fun i _=>?_
  unfold yQ;dsimp only
  repeat' split
  all_goals first|exact .refl|skip
  ·exact Mv.Ff (.eC fun _=>.inr (.inr ⟨Zu.1 (by assumption),by dsimp only;omega⟩)) i
  dsimp only;exact .eC fun _=>.inr (.inr ⟨Zu.1 (by assumption),by dsimp only;omega⟩)
 ·unfold eG;dsimp only;repeat' split
  all_goals exact .re rfl
 ·refine .about fun i _=>?_
  unfold fe;dsimp only;split<;>exact .re rfl
 rw[Zy (by assumption)];unfold gS;split<;>exact .re rfl
def tail_parse{x:Entry}{k:Nat}(h:H.tail x i k=0):(kf x.text (kinds.getD k [])).2=true:=by
 unfold ax.tail at h;rw[aF]at h;split at h
 ·rename_i b;exact absurd h b
 cases a:(kf x.text (kinds.getD k [])).2 with
 |true=>rfl
 |false=>rw[a]at h;exact absurd h C
def Mv.enter{x:Entry}(h:(bX H x).2=0):∃k,dS (aL 32 x.text).1=some k/\Mv H (bX H x).1 (decide (k=1)):=by
 unfold bX at h⊢;by_cases a:H.head x=0
 ·rw[Zm (Zp a)]at h⊢;obtain⟨i,hi⟩:=sk.1 (GZ a).2.1;obtain⟨k,d⟩:=sk.1 (GZ a).2.2.2.2.2.2;rw[hi,d]at h⊢;dsimp only at h⊢;by_cases c:H.tail x i k=0
  ·rw[Zm (Zp c)]at h⊢;by_cases b:(mO k H (fH x.text).1).2=0
   ·rw[Zm (Zp b)];have m:=Mv.IZ k _ (R2 ((Es d).1▸tail_parse c)).1 b;exact⟨k,rfl,m.len,m.old,m.new,m.nm⟩
   rw[Zn b]at h;exact absurd h b
  rw[Zn c]at h;exact absurd h c
 rw[Zn a]at h;exact absurd h a
def ax.Pl(H:ax):Prop:=∀j,j<R H.parts->0<=(H.p j).place/\(H.p j).place<=4
def Mv.pl(m:Mv H H' s)(h:H.Pl):H'.Pl:=fun j c=>by
 rcases w7 j (R H.parts) with q|q
 ·have a:=m.old j q;have b:=h j q;unfold r_ at a;omega
 have l:=m.len;cases s with
 |false=>simp at l;omega
 |true=>
  have a:=(m.new rfl).1.1;simp at l;rw[show j=R H.parts by omega,a];decide
end
def L0{n:Net}{l:List Entry}(h:(bl n l).2.2=0):(bl n l).1.Pl:=To ax.Pl (fun _ _ _ j b=>absurd b (bπ j)) (fun H x a e=>by
 obtain⟨k,_,m⟩:=Mv.enter e;exact m.pl a) h
def I_{n:Net}{l:List Entry}(h:(bl n l).2.2=0):∀(i:Nat)(hi:i<R (RJ n l).parts),0<=(RJ n l).parts[i].place/\(RJ n l).parts[i].place<=4:=by
 have b:RJ n l=(bl n l).1.st:=Zm (Zp h);rw[b];intro i hi;have a:i<R (bl n l).1.parts:=by
  have e:R (bl n l).1.st.parts=R (bl n l).1.parts:=Zx ..;omega
 have k:=L0 h i a;rw[Wf (Zv a)]at k;have e:(bl n l).1.st.parts[i]=(bl n l).1.parts[i].1:=bκ ..;rw[e];exact k
def Y3(l:List Entry)(t:Int):List Entry:=l.takeWhile fun x=>decide (x.at_<=t)
def Tg:∀(l:List Entry)(H:ax)(i k:Nat),(runT H i l).2.2=0->(runT H i (l.take k)).2.2=0
 |[],_,_,k,h=>by rw[eπ];exact h
 |x::l,H,i,0,h=>rfl
 |x::l,H,i,k+1,h=>by
  rw[List.take_succ_cons];rw[runT]at h⊢;by_cases e:(bX H x).2=0
  ·rw[Zm (Zp e)]at h⊢;exact Tg l _ _ k h
  rw[Zn e]at h;exact absurd h e
def Qj{n:Net}{l:List Entry}(h:(bl n l).2.2=0)(k:Nat):(bl n (l.take k)).2.2=0:=by
 obtain⟨a,b,e⟩:=Sv h;rw[Vq a (by rw[sc];omega)];rw[e]at h;exact Tg _ _ _ k h
def Ls{H:ax}{x:Entry}(h:(bX H x).2=0):H.time<=x.at_:=by
 have a:H.head x=0:=by
  unfold bX at h;by_cases a:H.head x=0
  ·exact a
  rw[Zn a]at h;exact h
 exact(GZ a).2.2.2.1
def Qk:∀(l:List Entry)(H:ax)(i:Nat),(runT H i l).2.2=0->(∀x∈l,H.time<=x.at_)/\l.Pairwise fun x y=>x.at_<=y.at_
 |[],_,_,_=>⟨fun x h=>(by cases h),List.Pairwise.nil⟩
 |x::l,H,i,h=>by
  rw[runT]at h;by_cases e:(bX H x).2=0
  ·rw[Zm (Zp e)]at h;obtain⟨a,b⟩:=Qk l _ _ h;rw[(S8 e).2]at a;have c:=Ls e;refine⟨fun y d=>?_,List.Pairwise.cons a b⟩;rcases sf.1 d with rfl|d
   ·exact c
   have:=a y d;omega
  rw[Zn e]at h;exact absurd h e
def TK(t:Int):∀(l:List Entry)(k:Nat),(∀x∈l.take k,x.at_<=t)->(∀x∈l.drop k,t<x.at_)->Y3 l t=l.take k
 |[],_,_,_=>by rw[eπ];rfl
 |x::l,0,_,h=>by
  have:=h x F;unfold Y3;rw[dκ (by simpa using this)];rfl
 |x::l,k+1,h1,h2=>by
  have b:=TK t l k (fun y a=>h1 y (by simp[a])) (fun y a=>h2 y (by simpa using a));have:=h1 x F;unfold Y3 at b⊢;rw[dμ (by simpa using this),b];rfl
def LP{n:Net}{l:List Entry}{t:Int}{k:Nat}(h:(bl n l).2.2=0)(o:k<=R l)(g:∀x∈l.drop k,t<x.at_)(j:∀(a:k - 1<R l),0<k->l[k - 1].at_<=t):Y3 l t=l.take k:=by
 refine TK t l k (fun x c=>?_) g;obtain⟨m,_,e⟩:=Sv h;rw[e]at h;have d:=aπ.1 (Qk _ _ _ h).2;obtain⟨i,hi,rfl⟩:=dγ.1 c;rw[sc]at hi;rw[dξ];have a:k - 1<R l:=I
 have f:=j a I;by_cases b:i=k - 1
 ·subst b;exact f
 have:=d i (k - 1) I a I;omega
def State.Yy(s:State):iv:=⟨(R s.parts:Int),placesOf s.parts 0,placesOf s.parts 1,placesOf s.parts 2,placesOf s.parts 3,placesOf s.parts 4⟩
def Lv(H:ax):H.st.Yy=H.counts:=by unfold State.Yy ax.counts ax.st;simp
def XN{l:List Part}{i:Nat}(h:i<R l)(k:Int):placesOf (l.take (i+1)) k=if l[i].place=k then placesOf (l.take i) k+1 else placesOf (l.take i) k:=by
 unfold placesOf;rw[mv h,List.filter_append,Zs];by_cases a:l[i].place=k
 ·simp[a]
 simp[a]
end Go.Proofs.YtdhdgbnafkeifaaGreatDoor
namespace Go.Proofs.YtdhdgbnafkeifaaGreatDoor
open Go.Ab Tryz
def Q2{n:Net}{l:List Entry}(h:¬(bl n l).2.2≠0):RJ n l=(bl n l).1.st:=Zm h
def M7{n:Net}{l:List Entry}(h:(bl n l).2.2≠0):RJ n l=State.zero:=Zn h
def Tj(A:HA):A.plain.st.yB=A.aU.map (·.r):=by show(A.aU.map _).map _=_;rw[x3];rfl
def Qe(A:HA):A.plain.st.aC=A.aC.map (·.c):=by show(A.aC.map _).map _=_;rw[x3];rfl
def Qf(A:HA):A.plain.st.parts=A.parts.map (·.p):=by show(A.parts.map _).map _=_;rw[x3];rfl
def st_cs(A:HA):A.plain.st.cs=[.sl (A.aU.map fun v=>v.r.cs),.sl (A.aC.map fun v=>v.c.cs),.sl (A.parts.map fun v=>v.p.cs),.sl (A.aI.map fun i=>[bv (A.plain.p i).num]),bv A.env.parts,bv A.env.trim,.sl (A.env.rows.map fun l=>[.sl (l.map Range.cs)])]:=by
 unfold State.cs;rw[Tj,Qe,Qf];show [X.sl _,X.sl _,X.sl _,X.sl ((A.aI.map _).map _),X.int .i64 A.env.parts,X.int .i64 A.env.trim,_]=_;rw[x3,x3,x3,x3];rfl
def M4(n:Net)(l:List Entry)(t:Int):Int:=aF [(bl n l).2.2,ae (decide (0<=t/\t<=1000000000000)) 2]
def uf(n:Net)(l:List Entry)(t:Int):State:=if M4 n l t≠0 then State.zero else RJ n (Y3 l t)
def atE_0{n:Net}{l:List Entry}{t:Int}(h:M4 n l t=0):(bl n l).2.2=0:=by
 unfold M4 at h;rw[aF]at h;by_cases a:(bl n l).2.2=0
 ·exact a
 rw[Zn a]at h;exact absurd h a
def sS.take{l:List Entry}(h:sS l)(k:Nat):sS (l.take k):=fun x a=>h x (eν a)
def PhLt{p:Ph}{l:List Ph}(h:p∈l):SizeOf.sizeOf p.body<SizeOf.sizeOf l:=by
 have a:=List.sizeOf_lt_of_mem h;cases p;simp only[Ph.mk.sizeOf_spec]at a;show SizeOf.sizeOf (_:List Ph)<_;simp only[Ph.body];omega
def Lm{r:ba}{a b:Int}:(!Ap [.s r,.i a,.i b] [.s r,.i a,.i b])=false:=by simp[Ap,Pl.eq]
def L3{l:List Entry}{t:Int}{i:Nat}(h:∀(j:Nat)(d:j<R l),j<i->l[j].at_<=t)(hi:i<=R l)(e:∀(c:i<R l),t<l[i].at_):Y3 l t=l.take i:=by
 induction l generalizing i with
 |nil=>rw[eπ];rfl
 |cons x l f=>
  cases i with
  |zero=>
   have:=e F;unfold Y3;rw[dκ (by simpa using this)];rfl
  |succ i=>
   have a:=h 0 F I;have b:=f (i:=i) (fun j d g=>by have:=h (j+1) (by simpa using d) I;simpa using this) (by simpa using hi) (fun c=>by have:=e (by simpa using c);simpa using this);unfold Y3 at b⊢;rw[dμ (by simpa using a),b];rfl
def LY{A:HA}{m:Int}(d:A.Ok m){J:bm}(F:aZ J)(g:∀h Y w,J h Y w->aa A.mem h Y w):dF prog 60 [] [.raw (pV A.b)] [(3000,.res J)] [(3000,.res J)] (.agg A.plain.st.cs):=by
 refine cG func60 O fun{_ _}=>?_
 have y:=d.m0;have z:=d.lv;have E:=d.lc;have B:=d.lp;have C:=d.lm;refine ro 10 O ?_;refine kc (zJ (us:=[bv A.env.parts,bv A.env.trim,.sl (A.env.rows.map fun l=>[.sl (l.map Range.cs)])]) V7 O (td g (aa.Ej (k:=.bn) (xs:=A.cs) O ⟨.same _,.same _,.same _,Zo⟩ O))) ?_;refine kc (zU P7 O O) (rr 10 O (kc (zH (u:=.sl (A.aU.map jU)) Lr O (td g (aa.dQ (k:=.bn) O O (.sl d.vs)))) (kc (zk Qm O) (rr 4 O (OK.nP 3 0 880 3 O O O O O ?_)))));refine OK.loop (G:=Nat) [2,3,880] (fun i=>[(0,.raw (pV A.b)),(2,.ptr 2 0),(1002,.box [.bO,.bO,.bO,.bO,bv 0,bv 0,.bO]),(3,.ptr 3 0),(1003,.box [.own 880 i,.bO,.bO,.bO,bv A.env.parts,bv A.env.trim,.sl (A.env.rows.map fun l=>[.sl (l.map Range.cs)])]),(2880,.arr 3 ((A.aU.take i).map fun v=>v.r.cs)),(20,.sl (A.aU.map jU)),(21,bv (R A.aU)),(22,bv i),(3000,.res J)]) (fun i=>i<=R A.aU) (fun i=>R A.aU - i) 0 (Zr _) ⟨O,O,O,O,O,(bH N),O,O,O,O,Zo⟩ (fun _=>O) ?_;rintro i hi;refine ro 6 O (kB O (fun x=>?_) (fun x=>?_))
 ·have a:i<R A.aU:=by omega
  obtain⟨v,f⟩:=at_of_lt a;have e:A.aU[i]=v:=by rw[Zv a]at f;exact aγ f
  refine ro 6 O (kc (zI Qm O I O) ?_);refine rr 4 O ?_;rw[e];refine kV (.c (zf YS O) (.c (zl VL O O O O) (.c (zm O) (.c (zn O O) (.c (zr VP O) (.c (zJ (us:=v.r.cs) IF O (td g (aa.Ej (k:=.v i) (xs:=v.cs) (HA.Cz f) ⟨.same _,.same _,.same _,Zo⟩ O))) (.c (zM [[_,_,_]] LS O O O O) (.c (zP LS O O (by rw[Zx,List.length_take_of_le hi]) N I (by simp only[maxLen];omega)) (.c (zf YS O) (.c (zS VL O O O O O O) .nil)))))))))) ?_;refine Rd 6 O I ?_;refine Ab.D.lp ⟨i+1,I,I,O,O,O,O,O,(bH (by rw[mv a,ne];simp only[ta,H2,e];rfl)),O,O,O,O,Zo⟩
 obtain rfl:i=R A.aU:=by omega
 rw[List.take_length];refine ro 8 O (kc (zH (u:=.sl (A.aC.map cRow)) Th O (td g (aa.dQ (k:=.bn) O O (.sl d.cs)))) (kc (zk Qn O) (rr 4 O (OK.Yp 3 0 O O O O (Zx ..) O (OK.nP 3 1 881 3 O O O O O ?_)))));refine OK.loop (G:=Nat) [2,3,881] (fun i=>[(0,.raw (pV A.b)),(2,.ptr 2 0),(1002,.box [.bO,.bO,.bO,.bO,bv 0,bv 0,.bO]),(3,.ptr 3 0),(1003,.box [.sl (A.aU.map fun v=>v.r.cs),.own 881 i,.bO,.bO,bv A.env.parts,bv A.env.trim,.sl (A.env.rows.map fun l=>[.sl (l.map Range.cs)])]),(2881,.arr 3 ((A.aC.take i).map fun v=>v.c.cs)),(39,.sl (A.aC.map cRow)),(40,bv (R A.aC)),(41,bv i),(3000,.res J)]) (fun i=>i<=R A.aC) (fun i=>R A.aC - i) 0 (Zr _) ⟨O,O,O,O,O,(bH N),O,O,O,O,Zo⟩ (fun _=>O) ?_;rintro i hi;refine ro 6 O (kB O (fun t=>?_) (fun t=>?_))
 ·have a:i<R A.aC:=by omega
  obtain⟨v,f⟩:=at_of_lt a;have e:A.aC[i]=v:=by rw[Zv a]at f;exact aγ f
  refine ro 6 O (kc (zI Qn O I O) ?_);refine rr 4 O ?_;rw[e];refine kV (.c (zf XQ O) (.c (zl T8 O O O O) (.c (zm O) (.c (zn O O) (.c (zr Xs O) (.c (zJ (us:=v.c.cs) KY O (td g (aa.Ej (k:=.c i) (xs:=v.cs) (HA.xQ f) ⟨.same _,.same _,.same _,Zo⟩ O))) (.c (zM [[_,_,_]] LU O O O O) (.c (zP LU O O (by rw[Zx,List.length_take_of_le hi]) N I (by simp only[maxLen];omega)) (.c (zf XQ O) (.c (zS T8 O O O O O O) .nil)))))))))) ?_;refine Rd 6 O I ?_;refine Ab.D.lp ⟨i+1,I,I,O,O,O,O,O,(bH (by rw[mv a,ne];simp only[ta,H2,e];rfl)),O,O,O,O,Zo⟩
 obtain rfl:i=R A.aC:=by omega
 rw[List.take_length];refine ro 8 O (kc (zH (u:=.sl (A.parts.map iA)) YC O (td g (aa.dQ (k:=.bn) O O (.sl d.ps)))) (kc (zk Zc O) (rr 4 O (OK.Yp 3 1 O O O O (Zx ..) O (OK.nP 3 2 882 13 O O O O O ?_)))));refine OK.loop (G:=Nat) [2,3,882] (fun i=>[(0,.raw (pV A.b)),(2,.ptr 2 0),(1002,.box [.bO,.bO,.bO,.bO,bv 0,bv 0,.bO]),(3,.ptr 3 0),(1003,.box [.sl (A.aU.map fun v=>v.r.cs),.sl (A.aC.map fun v=>v.c.cs),.own 882 i,.bO,bv A.env.parts,bv A.env.trim,.sl (A.env.rows.map fun l=>[.sl (l.map Range.cs)])]),(2882,.arr 13 ((A.parts.take i).map fun v=>v.p.cs)),(58,.sl (A.parts.map iA)),(59,bv (R A.parts)),(60,bv i),(3000,.res J)]) (fun i=>i<=R A.parts) (fun i=>R A.parts - i) 0 (Zr _) ⟨O,O,O,O,O,(bH N),O,O,O,O,Zo⟩ (fun _=>O) ?_;rintro i hi;refine ro 6 O (kB O (fun q=>?_) (fun q=>?_))
 ·have a:i<R A.parts:=by omega
  obtain⟨v,f⟩:=at_of_lt a;have e:A.parts[i]=v:=by rw[Zv a]at f;exact aγ f
  refine ro 6 O (kc (zI Zc O I O) ?_);refine rr 4 O ?_;rw[e];refine kV (.c (zf ZZ O) (.c (zl ZA O O O O) (.c (zm O) (.c (zn O O) (.c (zr ZX O) (.c (zJ (us:=v.p.cs) T7 O (td g (aa.Ej (k:=.p i) (xs:=v.cs) (HA.dm f) ⟨.same _,.same _,.same _,.same _,.sl (d.IE f),.same _,.same _,.same _,.same _,.same _,.same _,.same _,.same _,Zo⟩ O))) (.c (zM [[_,_,_,_,_,_,_,_,_,_,_,_,_]] LV O O O O) (.c (zP LV O O (by rw[Zx,List.length_take_of_le hi]) N I (by simp only[maxLen];omega)) (.c (zf ZZ O) (.c (zS ZA O O O O O O) .nil)))))))))) ?_;refine Rd 6 O I ?_;refine Ab.D.lp ⟨i+1,I,I,O,O,O,O,O,(bH (by rw[mv a,ne];simp only[ta,H2,e];rfl)),O,O,O,O,Zo⟩
 obtain rfl:i=R A.parts:=by omega
 rw[List.take_length];refine ro 8 O (kc (zH (u:=.sl (A.aI.map fun i=>[.raw (pV (A.pb i))])) YC O (td g (aa.dQ (k:=.bn) O O (.sl d.ms)))) ?_);refine kc (zk Zc O) (rr 4 O (OK.Yp 3 2 O O O O (Zx ..) O (OK.nP 3 3 883 1 O O O O O ?_)));refine OK.loop (G:=Nat) [2,3,883] (fun i=>[(0,.raw (pV A.b)),(2,.ptr 2 0),(1002,.box [.bO,.bO,.bO,.bO,bv 0,bv 0,.bO]),(3,.ptr 3 0),(1003,.box [.sl (A.aU.map fun v=>v.r.cs),.sl (A.aC.map fun v=>v.c.cs),.sl (A.parts.map fun v=>v.p.cs),.own 883 i,bv A.env.parts,bv A.env.trim,.sl (A.env.rows.map fun l=>[.sl (l.map Range.cs)])]),(2883,.arr 1 ((A.aI.take i).map fun i=>[bv (A.plain.p i).num])),(77,.sl (A.aI.map fun i=>[.raw (pV (A.pb i))])),(78,bv (R A.aI)),(79,bv i),(3000,.res J)]) (fun i=>i<=R A.aI) (fun i=>R A.aI - i) 0 (Zr _) ⟨O,O,O,O,O,(bH N),O,O,O,O,Zo⟩ (fun _=>O) ?_;rintro i hi;refine ro 6 O (kB O (fun o=>?_) (fun o=>?_))
 ·have a:i<R A.aI:=by omega
  have n:=d.mi _ (Zt a);obtain⟨v,f⟩:=at_of_lt n;have j:=HA.mb f;refine ro 6 O (kc (zI Zc O I O) ?_);refine rr 4 O ?_;rw[HA.Bt f];refine kV (.c (zf Tk O) (.c (zl Zd O O O O) (.c (zm O) (.c (zn O O) (.c (zr ZX O) (.c (zr Lu O) (.c (zH Z8 O (td g (aa.dQ (k:=.p A.aI[i]) (HA.dm f) O (.same _)))) (.c (zM [[_]] ZM O O O O) (.c (zP ZM O O (by rw[Zx,List.length_take_of_le hi]) N I (by simp only[maxLen];omega)) (.c (zf Tk O) (.c (zS Zd O O O O O O) .nil))))))))))) ?_;refine Rd 6 O I ?_;refine Ab.D.lp ⟨i+1,I,I,O,O,O,O,O,(bH (by rw[mv a,ne];simp only[ta,H2,j])),O,O,O,O,Zo⟩
 obtain rfl:i=R A.aI:=by omega
 rw[List.take_length];refine ro 3 O (OK.Yp 3 3 O O O O (Zx ..) O (ro 5 O (OK.ret ⟨aA.r1 (zy O O Z_ O) ?_,O,Zo⟩)));rw[st_cs];try rfl
def UC{n:Net}{l:List Entry}(f:R n.aS<=1000)(j:sS l):gz prog 27 [.agg n.cs,.sl (l.map Entry.cs)] (.cf [.agg (RJ n l).cs,bv (bl n l).2.2]):=by
 refine cT func27 O fun g=>?_
 refine ro 11 O ?_;refine RK.qz (((lY f j).at g)) (fun _=>pP.az _ _ _) (fun _=>pP.mono) call53 O (zc O (zc O .nil)) O fun A=>?_
 refine rr 16 O (kB O (fun a=>?_) (fun a=>?_))
 ·refine kr (kc (zU P7 O O) (rr 5 O (OK.ret (aA.r2 (.bG O O O O Z_ O (.k .bO (.k .bO (.k .bO (.k .bO (.k (.same O) (.k (.same O) (.k .bO .z)))))))) (zo O O) ?_))));rw[M7 a]
  try rfl
 have b:(bl n l).2.2=0:=Zu.1 a;refine ro 3 O (OK.ud b O fun d c=>?_);rw[uc b];refine OK.bN (jm O (kc (S.fI ((fun J e h=>(LY d e h).jR e)) call60 .none O (zc O .nil) O O) ?_));refine rr 4 O (kT O O Z_ O O O ?_);rw[Q2 a,c,b]
 try rfl
def Qg{n:Net}{l:List Entry}{t:Int}(u:R n.aS<=1000)(y:sS l):gz prog 37 [.agg n.cs,.sl (l.map Entry.cs),bv t] (.cf [.agg (uf n l t).cs,bv (M4 n l t)]):=by
 refine cT func37 O fun w=>?_
 refine OK.eW (rows:=l.map Entry.cs) (t:=1) O O fun hlen=>?_
 rw[Zx]at hlen;unfold maxLen at hlen;refine ro 11 O ?_;refine RK.qz (((lY u y).at w)) (fun _=>pP.az _ _ _) (fun _=>pP.mono) call53 O (zc O (zc O .nil)) O fun A=>?_
 refine rr 14 O (kc (zK cv call62 O) (kc (zK ak call66 O) ?_));refine RK.c (zM [[_],[_]] ZF O O O O) (kc (S.callL (bF (l:=[_,_])) call65 .none O (zc O .nil) (.cons (.p (.own O O) O) .nil) O) ?_);refine rr 9 O (kB O (fun e=>?_) (fun e=>?_))
 ·have q:M4 n l t≠0:=e;have o:uf n l t=State.zero:=Zn q;refine kr (kc (zU P7 O O) (rr 5 O (OK.ret (aA.r2 (.bG O O O O Z_ O (.k .bO (.k .bO (.k .bO (.k .bO (.k (.same O) (.k (.same O) (.k .bO .z)))))))) (zo O O) ?_))));rw[o];try rfl
 have d:M4 n l t=0:=Zu.1 e;have h0:=atE_0 d;refine ro 5 O (kc (zk YI O) (rr 5 O ?_));refine OK.loop (G:=Nat) [3,6] (fun k=>[(1,.sl (l.map Entry.cs)),(2,bv t),(3,.ptr 3 0),(1003,.box n.cs),(6,.ptr 6 0),(1006,.box [.bO,.bO,.bO,.bO,bv 0,bv 0,.bO]),(11,bv k)]) (fun k=>k<=R l/\∀x∈l.drop k,t<x.at_) (fun k=>k) (R l) ⟨Zq _,F⟩ ⟨O,O,O,O,O,O,O,Zo⟩ (fun _=>O) ?_;rintro k ⟨E,v⟩;refine kO (OK.join (G:=Bool) [3,6] (fun f=>[(1,.sl (l.map Entry.cs)),(2,bv t),(3,.ptr 3 0),(1003,.box n.cs),(6,.ptr 6 0),(1006,.box [.bO,.bO,.bO,.bO,bv 0,bv 0,.bO]),(11,bv k),(42,.bool f)]) (fun f=>(f=true->0<k)/\(f=false->∀(B:k - 1<R l),0<k->l[k - 1].at_<=t)/\(f=true->∀(B:k - 1<R l),t<l[k - 1].at_)) (fun _=>O) ?_ ?_)
 ·refine ro 4 O (RK.bh (t:=33) O (fun r=>?_) (fun r=>?_))
  ·have a:k - 1<R l:=I
   refine Rr 3 O I (kc (S.aP (n:=k - 1) YI (zg O O) O (zt O) (zt O) I a O) ?_);refine rr 6 O ?_;refine Ab.D.lp ⟨(decide (l[k - 1].at_>t)),(by simp_all<;>omega),O,O,O,O,O,O,O,O,Zo⟩
  refine rr 10 O ?_;refine Ab.D.lp ⟨false,(by simp_all<;>omega),O,O,O,O,O,O,O,O,Zo⟩
 rintro f ⟨m,j,h⟩;refine OK.cond O O (fun b=>?_) (fun b=>?_)
 ·have C:=m (by simpa using b);have a:k - 1<R l:=I
  refine Ro 9 O I ?_;refine Ab.D.lp ⟨k - 1,⟨I,fun x g=>by rw[np a,show k - 1+1=k by omega]at g;rcases sf.1 g with rfl|g;exact h (by simpa using b) a;exact v x g⟩,I,O,O,O,O,O,O,(yL I),Zo⟩
 have J:=LP h0 E v (j (by simpa using b));have o:uf n l t=RJ n (l.take k):=by unfold uf;rw[Zm (Zp d),J]
 have K:=Qj h0 k;refine ro 3 O ?_;refine kV (.c (zL XB O O O O) (.c (zm O) (.c (zm O) (.c (S.slice (hi:=k) (l':=l.take k) YI (fun _=>O) .none O (zt O) (.inl ⟨O,O,O⟩) (.inr ⟨_,_,O,(zt O),O⟩) I I (by rw[aα])) (.c (S.dB (UC (n:=n) (l:=l.take k) u (y.take k)) w call27 .none O (zc O (zc O .nil)) O) (.c (zX O O O) (.c (zX O O O) (.c (zS Z_ O O O O O O) (.c (za O) .nil))))))))) ?_;refine Ab.D.code (kT O O Z_ O O O ?_);rw[o,d,K]
 try rfl
def P3{l:List Ph}(e:∀p∈l,Ct prog 72 [.sl (p.body.map Ph.cs),.sl (p.body.map Ph.cs)] (.bool true)):Ct prog 72 [.sl (l.map Ph.cs),.sl (l.map Ph.cs)] (.bool true):=by
 refine cI func72 O (OK.eW (rows:=l.map Ph.cs) (t:=0) O O fun hlen=>?_);rw[Zx]at hlen;unfold maxLen at hlen;rw[Fx];refine ro 9 O (kc (zk Z9 O) (jm O (kc (zk Z9 O) (rr 3 O (kB O (fun a=>?_) (fun a=>?_))))))
 ·exact absurd rfl a
 refine ro 9 O ?_;refine OK.loop (G:=Nat) [] (fun i=>[(0,.sl (l.map Ph.cx)),(1,.sl (l.map Ph.cx)),(5,bv i)]) (fun i=>i<=R l) (fun i=>R l - i) 0 (Zr _) ⟨O,O,O,Zo⟩ (fun _=>O) ?_;rintro i hi;refine ro 5 O (kc (zk Z9 O) (rr 3 O (kB O (fun d=>?_) (fun d=>?_))))
 ·have b:i<R l:=by omega
  refine ro 5 O ?_;refine kV (.c (zm O) (.c (zm O) (.c (zI Z9 O I O) (.c (S.field V_ .none O (zt O) O) (.c (zV Z8 O O) (.c (zm O) (.c (zm O) (.c (zI Z9 O I O) (.c (S.field V_ .none O (zt O) O) (.c (zV Z8 O O) (.c (S.neq .none O (zt O) (zt O)) (.c (zm O) (.c (S.move (.yes O O O F) O (zt O)) (.c (S.move (.yes O O O F) O (zt O)) (.c (S.aP (n:=i) Z9 (.yes O O O F) O (zt O) (zt O) O I O) (.c (S.field RD (.yes O O O F) O (zt O) O) (.c (S.Hz Z8 (.yes O O O F) O (zt O) O) (.c (S.move (.yes O O O F) O (zt O)) (.c (S.move (.yes O O O F) O (zt O)) (.c (S.aP (n:=i) Z9 (.yes O O O F) O (zt O) (zt O) O I O) (.c (S.field RD (.yes O O O F) O (zt O) O) (.c (S.Hz Z8 (.yes O O O F) O (zt O) O) (.c (S.neq (.yes O O O F) O (zt O) (zt O)) (.c (S.aO .none O (zt O) (zt O) F) (.c (zm O) (.c (S.move (.yes O O O F) O (zt O)) (.c (S.move (.yes O O O F) O (zt O)) (.c (S.aP (n:=i) Z9 (.yes O O O F) O (zt O) (zt O) O I O) (.c (S.field RH (.yes O O O F) O (zt O) O) (.c (S.Hz Z8 (.yes O O O F) O (zt O) O) (.c (S.move (.yes O O O F) O (zt O)) (.c (S.move (.yes O O O F) O (zt O)) (.c (S.aP (n:=i) Z9 (.yes O O O F) O (zt O) (zt O) O I O) (.c (S.field RH (.yes O O O F) O (zt O) O) (.c (S.Hz Z8 (.yes O O O F) O (zt O) O) (.c (S.neq (.yes O O O F) O (zt O) (zt O)) (.c (S.aO .none O (zt O) (zt O) F) (.c (zm O) (.c (S.move (.yes O O O F) O (zt O)) (.c (S.move (.yes O O O F) O (zt O)) (.c (S.aP (n:=i) Z9 (.yes O O O F) O (zt O) (zt O) O I O) (.c (S.field WW (.yes O O O F) O (zt O) O) (.c (S.Hz Z8 (.yes O O O F) O (zt O) O) (.c (S.move (.yes O O O F) O (zt O)) (.c (S.move (.yes O O O F) O (zt O)) (.c (S.aP (n:=i) Z9 (.yes O O O F) O (zt O) (zt O) O I O) (.c (S.field WW (.yes O O O F) O (zt O) O) (.c (S.Hz Z8 (.yes O O O F) O (zt O) O) (.c (S.neq (.yes O O O F) O (zt O) (zt O)) (.c (S.aO .none O (zt O) (zt O) F) (.c (zm O) (.c (S.move (.yes O O O F) O (zt O)) (.c (S.move (.yes O O O F) O (zt O)) (.c (S.aP (n:=i) Z9 (.yes O O O F) O (zt O) (zt O) O I O) (.c (S.field RM (.yes O O O F) O (zt O) O) (.c (S.Hz Z8 (.yes O O O F) O (zt O) O) (.c (S.move (.yes O O O F) O (zt O)) (.c (S.move (.yes O O O F) O (zt O)) (.c (S.aP (n:=i) Z9 (.yes O O O F) O (zt O) (zt O) O I O) (.c (S.field RM (.yes O O O F) O (zt O) O) (.c (S.Hz Z8 (.yes O O O F) O (zt O) O) (.c (S.neq (.yes O O O F) O (zt O) (zt O)) (.c (S.aO .none O (zt O) (zt O) F) (.c (zm O) (.c (S.move (.yes O O O F) O (zt O)) (.c (S.move (.yes O O O F) O (zt O)) (.c (S.aP (n:=i) Z9 (.yes O O O F) O (zt O) (zt O) O I O) (.c (S.field T3 (.yes O O O F) O (zt O) O) (.c (S.Hz Xl (.yes O O O F) O (zt O) O) (.c (S.move (.yes O O O F) O (zt O)) (.c (S.move (.yes O O O F) O (zt O)) (.c (S.aP (n:=i) Z9 (.yes O O O F) O (zt O) (zt O) O I O) (.c (S.field T3 (.yes O O O F) O (zt O) O) (.c (S.Hz Xl (.yes O O O F) O (zt O) O) (.c (S.call (e l[i] (Zt b)) call72 (.yes O O O F) O (zc O (zc O .nil)) O) (.c (S.not (.yes O O O F) O (zt O)) (.c (S.aO .none O (zt O) (zt O) F) .nil))))))))))))))))))))))))))))))))))))))))))))))))))))))))))))))))))))))))))))) ?_;refine Rd 10 O I (Ab.D.lp ⟨i+1,I,I,O,O,O,Zo⟩)
 refine ro 7 O (kR O O ?_);rfl
def Te:∀(d:Nat)(l:List Ph),SizeOf.sizeOf l<d->Ct prog 72 [.sl (l.map Ph.cs),.sl (l.map Ph.cs)] (.bool true)
 |0,_,h=>absurd h (bπ _)
 |d+1,l,h=>P3 fun p a=>Te d p.body (by have:=PhLt a;omega)
def Zj{s:State}:Ct prog 38 [.agg s.cs,.agg s.cs] (.bool true):=by
 refine cI func38 O (OK.Xq 0 0 (s.yB.map Rec.cs) O O O fun f=>?_);rw[Zx]at f;unfold maxLen at f;refine OK.Xq 0 1 (s.aC.map o6.cs) O O O fun e=>?_
 rw[Zx]at e;unfold maxLen at e;refine OK.Xq 0 2 (s.parts.map Part.cs) O O O fun d=>?_
 rw[Zx]at d;unfold maxLen at d;refine ro 12 O (kc (zk VB O) (rr 2 O (kc (zk VB O) (rr 2 O (RK.bh (t:=15) O (fun l=>?_) (fun l=>?_))))))
 ·exact absurd rfl l
 refine rr 2 O (kc (S.Hp Wn (zg O O) O (zt O)) (rr 2 O (kc (S.Hp Wn (zg O O) O (zt O)) (rr 3 O (RK.bh (t:=24) O (fun k=>?_) (fun k=>?_))))))
 ·exact absurd rfl k
 refine rr 2 O (kc (S.Hp ZH (zg O O) O (zt O)) (rr 2 O (kc (S.Hp ZH (zg O O) O (zt O)) (rr 3 O (RK.bh (t:=33) O (fun j=>?_) (fun j=>?_))))))
 ·exact absurd rfl j
 refine rr 4 O (kc (S.call (AM (a:=s.aI) (b:=s.aI)) call21 (zg O O) O (zc O (zc O .nil)) O) (kc (S.jP (zg O O) O (zt O)) (rr 2 O (RK.bh (t:=41) O (fun h=>?_) (fun h=>?_)))))
 ·exact absurd rfl h
 refine rr 4 O (kc (S.call (Vu (a:=s.env) (b:=s.env)) call71 (zg O O) O (zc O (zc O .nil)) O) (kc (S.jP (zg O O) O (zt O)) (rr 3 O (kB O (fun m=>?_) (fun m=>?_)))))
 ·exact absurd rfl m
 refine ro 9 O ?_;refine OK.loop (G:=Nat) [2,3] (fun i=>[(2,.ptr 2 0),(1002,.box s.cs),(3,.ptr 3 0),(1003,.box s.cs),(5,bv i)]) (fun i=>i<=R s.yB) (fun i=>R s.yB - i) 0 (Zr _) ⟨O,O,O,O,O,Zo⟩ (fun _=>O) ?_;rintro i hi;refine ro 6 O (kc (zk VB O) (rr 3 O (kB O (fun q=>?_) (fun q=>?_))))
 ·have g:i<R s.yB:=by omega
  refine ro 5 O ?_;refine kV (.c (zf YS O) (.c (zl VL O O O O) (.c (zm O) (.c (zI VB O I O) (.c (S.field VN .none O (zt O) O) (.c (S.fG MO .none O (zt O) O O) (.c (zf YS O) (.c (zl VL O O O O) (.c (zm O) (.c (zI VB O I O) (.c (S.field VN .none O (zt O) O) (.c (S.fG MO .none O (zt O) O O) (.c (S.A_ (b:=false) [.s [],.i 0] [.s s.yB[i].name,.i s.yB[i].iN] [.s s.yB[i].name,.i s.yB[i].iN] Td .none O (zt O) (zt O) O O O O PK) (.c (zm O) (.c (S.dH YS (.yes O O O W) O (zt O)) (.c (S.fc VL (.yes O O O W) O (zt O) O O O O) (.c (S.move (.yes O O O W) O (zt O)) (.c (S.aP (n:=i) VB (.yes O O O W) O (zt O) (zt O) O I O) (.c (S.field Qh (.yes O O O W) O (zt O) O) (.c (S.Hz Xl (.yes O O O W) O (zt O) O) (.c (S.dH YS (.yes O O O W) O (zt O)) (.c (S.fc VL (.yes O O O W) O (zt O) O O O O) (.c (S.move (.yes O O O W) O (zt O)) (.c (S.aP (n:=i) VB (.yes O O O W) O (zt O) (zt O) O I O) (.c (S.field Qh (.yes O O O W) O (zt O) O) (.c (S.Hz Xl (.yes O O O W) O (zt O) O) (.c (S.call (Te _ s.yB[i].phases (cπ _)) call72 (.yes O O O W) O (zc O (zc O .nil)) O) (.c (S.not (.yes O O O W) O (zt O)) (.c (S.aO .none O (zt O) (zt O) W) .nil))))))))))))))))))))))))))))) ?_;refine Rd 10 O I (Ab.D.lp ⟨i+1,I,I,O,O,O,O,O,Zo⟩)
 refine ro 9 O ?_;refine OK.loop (G:=Nat) [2,3] (fun i=>[(2,.ptr 2 0),(1002,.box s.cs),(3,.ptr 3 0),(1003,.box s.cs),(6,bv i)]) (fun i=>i<=R s.aC) (fun i=>R s.aC - i) 0 (Zr _) ⟨O,O,O,O,O,Zo⟩ (fun _=>O) ?_;rintro i hi;refine ro 6 O (kc (zk Wn O) (rr 3 O (kB O (fun p=>?_) (fun p=>?_))))
 ·have g:i<R s.aC:=by omega
  refine ro 5 O (kV (.c (zf XQ O) (.c (zl T8 O O O O) (.c (zm O) (.c (zI Wn O I O) (.c (S.fG KY .none O (zt O) O O) (.c (zf XQ O) (.c (zl T8 O O O O) (.c (zm O) (.c (zI Wn O I O) (.c (S.fG KY .none O (zt O) O O) (.c (S.A_ (b:=false) [.s [],.i 0,.i 0] [.s s.aC[i].name,.i s.aC[i].nM,.i s.aC[i].shots] [.s s.aC[i].name,.i s.aC[i].nM,.i s.aC[i].shots] eqp80 .none O (zt O) (zt O) O O O O Lm) .nil))))))))))) ?_);refine Rd 10 O I (Ab.D.lp ⟨i+1,I,I,O,O,O,O,O,Zo⟩)
 refine ro 9 O ?_;refine OK.loop (G:=Nat) [2,3] (fun i=>[(2,.ptr 2 0),(1002,.box s.cs),(3,.ptr 3 0),(1003,.box s.cs),(7,bv i)]) (fun i=>i<=R s.parts) (fun i=>R s.parts - i) 0 (Zr _) ⟨O,O,O,O,O,Zo⟩ (fun _=>O) ?_;rintro i hi;refine ro 6 O (kc (zk ZH O) (rr 3 O (kB O (fun o=>?_) (fun o=>?_))))
 ·have g:i<R s.parts:=by omega
  refine ro 5 O (kV (.c (zf ZZ O) (.c (zl ZA O O O O) (.c (zm O) (.c (zI ZH O I O) (.c (S.fG T7 .none O (zt O) O O) (.c (zf ZZ O) (.c (zl ZA O O O O) (.c (zm O) (.c (zI ZH O I O) (.c (S.fG T7 .none O (zt O) O O) (.c (zK (Tm (a:=s.parts[i])) call18 O) (.c (S.not .none O (zt O)) .nil)))))))))))) ?_);refine Rd 10 O I (Ab.D.lp ⟨i+1,I,I,O,O,O,O,O,Zo⟩)
 refine ro 7 O (kR O O ?_);rfl
def Qi{l:List Entry}{t:Int}:Ct prog 41 [.sl (l.map Entry.cs),bv t] (.sl ((Y3 l t).map Entry.cs)):=by
 refine cI func41 O (OK.eW (rows:=l.map Entry.cs) (t:=0) O O fun hlen=>?_);rw[Zx]at hlen;unfold maxLen at hlen;refine kr (kc (S.assign .none O .fW) (rr 9 O ?_));refine OK.loop (G:=Nat) [] (fun i=>[(0,.sl (l.map Entry.cs)),(1,bv t),(5,bv i)]) (fun i=>i<=R l/\∀(j:Nat)(g:j<R l),j<i->l[j].at_<=t) (fun i=>R l - i) 0 ⟨Zr _,fun j _ h=>absurd h I⟩ ⟨O,O,O,Zo⟩ (fun _=>O) ?_;rintro i ⟨hi,k⟩;refine kO (OK.join (G:=Bool) [] (fun b=>[(0,.sl (l.map Entry.cs)),(1,bv t),(5,bv i),(18,.bool b)]) (fun b=>(b=true->∃m:i<R l,l[i].at_<=t)/\(b=false->∀m:i<R l,t<l[i].at_)) (fun _=>O) ?_ ?_)
 ·refine ro 3 O (kc (zk YI O) (rr 2 O (RK.bh (t:=10) O (fun f=>?_) (fun f=>?_))))
  ·have c:i<R l:=I
   refine rr 2 O (kc (S.aP (n:=i) YI (zg O O) O (zt O) (zt O) O I O) ?_);refine rr 6 O ?_;refine Ab.D.lp ⟨(decide (l[i].at_<=t)),(by simp_all<;>omega),O,O,O,O,Zo⟩
  refine rr 9 O ?_;refine Ab.D.lp ⟨false,(by simp_all<;>omega),O,O,O,O,Zo⟩
 rintro b ⟨e,d⟩;refine OK.cond O O (fun a=>?_) (fun a=>?_)
 ·obtain⟨c,hle⟩:=e (by simpa using a);refine Ro 9 O I ?_;refine Ab.D.lp ⟨i+1,⟨I,fun j g h=>by rcases w7 j i with q|q;exact k j g q;obtain rfl:j=i:=I;exact hle⟩,I,O,O,O,Zo⟩
 refine ro 3 O ?_;have o:=L3 k hi (d (by simpa using a));refine ro 3 O ?_;refine kc (S.slice (hi:=i) (l':=l.take i) YI (fun _=>O) .none O (zt O) (.inl ⟨O,O,O⟩) (.inr ⟨_,_,O,(zt O),O⟩) I I (by rw[aα])) ?_;refine rr 3 O (kR O O ?_);rw[o]
def SM{s:State}(n:R s.parts<=100)(e:∀(i:Nat)(hi:i<R s.parts),0<=s.parts[i].place/\s.parts[i].place<=4):Ct prog 39 [.agg s.cs] (.agg s.Yy.cs):=by
 refine cI func39 O (ro 18 O ?_);refine OK.loop (G:=Nat) [1,2,3] (fun i=>[(1,.ptr 1 0),(1001,.box s.cs),(2,.ptr 2 0),(1002,.box [bv 0,bv 0,bv 0,bv 0,bv 0,bv 0]),(3,.ptr 3 0),(1003,.box [bv (placesOf (s.parts.take i) 0),bv (placesOf (s.parts.take i) 1),bv (placesOf (s.parts.take i) 2),bv (placesOf (s.parts.take i) 3),bv (placesOf (s.parts.take i) 4)]),(4,bv i)]) (fun i=>i<=R s.parts) (fun i=>R s.parts - i) 0 (Zr _) ⟨O,O,O,O,O,O,O,Zo⟩ (fun _=>O) ?_;rintro i hi;refine ro 6 O (kc (zk ZH O) (rr 3 O (kB O (fun o=>?_) (fun o=>?_))))
 ·have b:i<R s.parts:=by omega
  have m:=e i b;have d:=fun k=>wj (s.parts.take i) k
  have l:=d 0;have j:=d 1;have h:=d 2;have g:=d 3;have f:=d 4;rw[sc]at l j h g f;refine ro 4 O ?_;rcases(show s.parts[i].place=0\/s.parts[i].place=1\/s.parts[i].place=2\/s.parts[i].place=3\/s.parts[i].place=4 by omega)with h5|h5|h5|h5|h5
  ·have a:([bv (placesOf (s.parts.take i) 0+1),bv (placesOf (s.parts.take i) 1),bv (placesOf (s.parts.take i) 2),bv (placesOf (s.parts.take i) 3),bv (placesOf (s.parts.take i) 4)]:bi)=[bv (placesOf (s.parts.take (i+1)) 0),bv (placesOf (s.parts.take (i+1)) 1),bv (placesOf (s.parts.take (i+1)) 2),bv (placesOf (s.parts.take (i+1)) 3),bv (placesOf (s.parts.take (i+1)) 4)]:=by simp only[XN b,h5];simp
   refine kV (.c (zf ZZ O) (.c (zl ZA O O O O) (.c (zm O) (.c (zI ZH O I O) (.c (S.field Zl .none O (zt O) O) (.c (zV Z8 O O) (.c (zf ZZ O) (.c (zl ZA O O O O) (.c (zm O) (.c (zI ZH O I O) (.c (S.field Zl .none O (zt O) O) (.c (zV Z8 O O) (.c (S.qf (i:=0) underlying156 sizeOf3 .none O (zt O) (zt O) h5 C) (.c (zl Z8 O O O O) (.c (zp O O I) (.c (S.qf (i:=0) underlying156 sizeOf3 .none O (zt O) (zt O) h5 C) (.c (zS Z8 O O O O O O) .nil))))))))))))))))) ?_;refine Rd 7 O I (Ab.D.lp ⟨i+1,I,I,O,O,O,O,O,(s8 a),O,Zo⟩)
  ·have a:([bv (placesOf (s.parts.take i) 0),bv (placesOf (s.parts.take i) 1+1),bv (placesOf (s.parts.take i) 2),bv (placesOf (s.parts.take i) 3),bv (placesOf (s.parts.take i) 4)]:bi)=[bv (placesOf (s.parts.take (i+1)) 0),bv (placesOf (s.parts.take (i+1)) 1),bv (placesOf (s.parts.take (i+1)) 2),bv (placesOf (s.parts.take (i+1)) 3),bv (placesOf (s.parts.take (i+1)) 4)]:=by simp only[XN b,h5];simp
   refine kV (.c (zf ZZ O) (.c (zl ZA O O O O) (.c (zm O) (.c (zI ZH O I O) (.c (S.field Zl .none O (zt O) O) (.c (zV Z8 O O) (.c (zf ZZ O) (.c (zl ZA O O O O) (.c (zm O) (.c (zI ZH O I O) (.c (S.field Zl .none O (zt O) O) (.c (zV Z8 O O) (.c (S.qf (i:=1) underlying156 sizeOf3 .none O (zt O) (zt O) h5 C) (.c (zl Z8 O O O O) (.c (zp O O I) (.c (S.qf (i:=1) underlying156 sizeOf3 .none O (zt O) (zt O) h5 C) (.c (zS Z8 O O O O O O) .nil))))))))))))))))) ?_;refine Rd 7 O I (Ab.D.lp ⟨i+1,I,I,O,O,O,O,O,(s8 a),O,Zo⟩)
  ·have a:([bv (placesOf (s.parts.take i) 0),bv (placesOf (s.parts.take i) 1),bv (placesOf (s.parts.take i) 2+1),bv (placesOf (s.parts.take i) 3),bv (placesOf (s.parts.take i) 4)]:bi)=[bv (placesOf (s.parts.take (i+1)) 0),bv (placesOf (s.parts.take (i+1)) 1),bv (placesOf (s.parts.take (i+1)) 2),bv (placesOf (s.parts.take (i+1)) 3),bv (placesOf (s.parts.take (i+1)) 4)]:=by simp only[XN b,h5];simp
   refine kV (.c (zf ZZ O) (.c (zl ZA O O O O) (.c (zm O) (.c (zI ZH O I O) (.c (S.field Zl .none O (zt O) O) (.c (zV Z8 O O) (.c (zf ZZ O) (.c (zl ZA O O O O) (.c (zm O) (.c (zI ZH O I O) (.c (S.field Zl .none O (zt O) O) (.c (zV Z8 O O) (.c (S.qf (i:=2) underlying156 sizeOf3 .none O (zt O) (zt O) h5 C) (.c (zl Z8 O O O O) (.c (zp O O I) (.c (S.qf (i:=2) underlying156 sizeOf3 .none O (zt O) (zt O) h5 C) (.c (zS Z8 O O O O O O) .nil))))))))))))))))) ?_;refine Rd 7 O I (Ab.D.lp ⟨i+1,I,I,O,O,O,O,O,(s8 a),O,Zo⟩)
  ·have a:([bv (placesOf (s.parts.take i) 0),bv (placesOf (s.parts.take i) 1),bv (placesOf (s.parts.take i) 2),bv (placesOf (s.parts.take i) 3+1),bv (placesOf (s.parts.take i) 4)]:bi)=[bv (placesOf (s.parts.take (i+1)) 0),bv (placesOf (s.parts.take (i+1)) 1),bv (placesOf (s.parts.take (i+1)) 2),bv (placesOf (s.parts.take (i+1)) 3),bv (placesOf (s.parts.take (i+1)) 4)]:=by simp only[XN b,h5];simp
   refine kV (.c (zf ZZ O) (.c (zl ZA O O O O) (.c (zm O) (.c (zI ZH O I O) (.c (S.field Zl .none O (zt O) O) (.c (zV Z8 O O) (.c (zf ZZ O) (.c (zl ZA O O O O) (.c (zm O) (.c (zI ZH O I O) (.c (S.field Zl .none O (zt O) O) (.c (zV Z8 O O) (.c (S.qf (i:=3) underlying156 sizeOf3 .none O (zt O) (zt O) h5 C) (.c (zl Z8 O O O O) (.c (zp O O I) (.c (S.qf (i:=3) underlying156 sizeOf3 .none O (zt O) (zt O) h5 C) (.c (zS Z8 O O O O O O) .nil))))))))))))))))) ?_;refine Rd 7 O I (Ab.D.lp ⟨i+1,I,I,O,O,O,O,O,(s8 a),O,Zo⟩)
  have a:([bv (placesOf (s.parts.take i) 0),bv (placesOf (s.parts.take i) 1),bv (placesOf (s.parts.take i) 2),bv (placesOf (s.parts.take i) 3),bv (placesOf (s.parts.take i) 4+1)]:bi)=[bv (placesOf (s.parts.take (i+1)) 0),bv (placesOf (s.parts.take (i+1)) 1),bv (placesOf (s.parts.take (i+1)) 2),bv (placesOf (s.parts.take (i+1)) 3),bv (placesOf (s.parts.take (i+1)) 4)]:=by simp only[XN b,h5];simp
  refine kV (.c (zf ZZ O) (.c (zl ZA O O O O) (.c (zm O) (.c (zI ZH O I O) (.c (S.field Zl .none O (zt O) O) (.c (zV Z8 O O) (.c (zf ZZ O) (.c (zl ZA O O O O) (.c (zm O) (.c (zI ZH O I O) (.c (S.field Zl .none O (zt O) O) (.c (zV Z8 O O) (.c (S.qf (i:=4) underlying156 sizeOf3 .none O (zt O) (zt O) h5 C) (.c (zl Z8 O O O O) (.c (zp O O I) (.c (S.qf (i:=4) underlying156 sizeOf3 .none O (zt O) (zt O) h5 C) (.c (zS Z8 O O O O O O) .nil))))))))))))))))) ?_;refine Rd 7 O I (Ab.D.lp ⟨i+1,I,I,O,O,O,O,O,(s8 a),O,Zo⟩)
 refine ro 3 O ?_;obtain rfl:i=R s.parts:=by omega
 rw[List.take_length];refine ro 3 O (kc (zk ZH O) ?_);refine kc (S.qf (i:=0) underlying156 sizeOf3 .none O (zt O) (.af O) O C) (kc (zl Z8 O O O O) (kc (S.qf (i:=1) underlying156 sizeOf3 .none O (zt O) (.af O) O C) (kc (zl Z8 O O O O) (kc (S.qf (i:=2) underlying156 sizeOf3 .none O (zt O) (.af O) O C) (kc (zl Z8 O O O O) (kc (S.qf (i:=3) underlying156 sizeOf3 .none O (zt O) (.af O) O C) (kc (zl Z8 O O O O) (kc (S.qf (i:=4) underlying156 sizeOf3 .none O (zt O) (.af O) O C) (kc (zl Z8 O O O O) (kc (zU K5 O O) ?_))))))))));refine rr 3 O (OK.ret (aA.r1 (zy O O LC O) ?_));rfl
end Go.Proofs.YtdhdgbnafkeifaaGreatDoor
namespace Go.Proofs.YtdhdgbnafkeifaaGreatDoor
open Go.Ab Tryz
def AO{xs:bi}(h:Shape (.st (.cons .str (.cons (.int .i64) .nil))) xs):∃p:bf,xs=p.cs:=by
 obtain⟨a,b,rfl,⟨s,rfl⟩,c,d,rfl,⟨n,rfl⟩,rfl⟩:=h;exact⟨⟨s,n⟩,rfl⟩
def Gg{xs:bi}(h:Shape (.cons (.sl (.st (.cons .str (.cons (.int .i64) .nil)))) (.cons .str (.cons (.int .i64) (.cons (.st (.cons (.int .i64) (.cons (.int .i64) .nil))) .nil)))) xs):∃p:Net,xs=p.cs:=by
 obtain⟨a,b,rfl,⟨rows,rfl,j⟩,c,d,rfl,⟨s,rfl⟩,e,f,rfl,⟨n,rfl⟩,g,k,rfl,⟨u,v,rfl,⟨lo,rfl⟩,y,z,rfl,⟨hi,rfl⟩,rfl⟩,rfl⟩:=h;obtain⟨l,rfl⟩:=yD (f:=bf.cs) (fun r h=>AO (j r h));exact⟨⟨l,s,n,lo,hi⟩,rfl⟩
end Go.Proofs.YtdhdgbnafkeifaaGreatDoor
namespace Go.Proofs.YtdhdgbnafkeifaaGreatDoor
open Go.Ab Tryz
def SD{xs:bi}(h:Shape (.cons (.int .i64) (.cons .str (.cons .str .nil))) xs):∃p:Entry,xs=p.cs:=by
 obtain⟨a,b,rfl,⟨n,rfl⟩,c,d,rfl,⟨s,rfl⟩,e,f,rfl,⟨t,rfl⟩,rfl⟩:=h;exact⟨⟨n,s,t⟩,rfl⟩
def RE{x:X}(h:Shape (.sl (.st (.cons (.int .i64) (.cons .str (.cons .str .nil))))) [x]):∃l:List Entry,x=.sl (l.map Entry.cs):=by
 obtain⟨rows,b,a⟩:=h;cases b;obtain⟨l,rfl⟩:=yD (f:=Entry.cs) (fun r h=>SD (a r h));grind
end Go.Proofs.YtdhdgbnafkeifaaGreatDoor
namespace Go.Proofs.YtdhdgbnafkeifaaGreatDoor
open Go.Ab Tryz
def L4{l:List Entry}{t:Int}{x:Entry}(h:x∈Y3 l t):x∈l:=(List.takeWhile_sublist _).mem h
def Lo{n:Net}{l:List Entry}(h:(bl n l).2.2≠0):mZ n l=(iv.zero,(bl n l).2.2):=Zn h
def Ln{n:Net}{l:List Entry}(h:¬(bl n l).2.2≠0):mZ n l=((RJ n l).Yy,0):=by unfold mZ;rw[Zm h,Q2 h,Lv]
def at_1{n:Net}{l:List Entry}{t:Int}(h:(bl n l).2.2≠0):M4 n l t=(bl n l).2.2/\uf n l t=State.zero:=by
 have e:M4 n l t=(bl n l).2.2:=W4 h;exact⟨e,Zn (by rw[e];exact h)⟩
def at_2{n:Net}{l:List Entry}{t:Int}(h:(bl n l).2.2=0)(a:¬(0<=t/\t<=1000000000000)):M4 n l t=2/\uf n l t=State.zero:=by
 have e:M4 n l t=2:=by unfold M4;rw[h,W0,Zy a];rfl
 exact⟨e,Zn (by rw[e];decide)⟩
def at_0{n:Net}{l:List Entry}{t:Int}(h:(bl n l).2.2=0)(a:0<=t/\t<=1000000000000):M4 n l t=0/\uf n l t=RJ n (Y3 l t):=by
 have e:M4 n l t=0:=by unfold M4;rw[h,W0,Zz a];rfl
 exact⟨e,Zm (by rw[e];decide)⟩
def DO:Hf prog 70 6:=Hf.z6 (T:=3) V underlying70 V V underlying3 isAgg3
def Vg{n:Net}{l:List Entry}{t:Int}:gz prog 6 [.agg n.cs,.sl (l.map Entry.cs),bv t] (.bool true):=by
 refine cT func6 O fun q=>?_
 refine ro 9 O (kc (S.dB (wR) q call9 .none O .nil O) (kc (S.not .none O (zt O)) (rr 9 O (kc (zK (AX (n:=n)) call10 O) (kc (S.not .none O (zt O)) (jm O (RK.split (t:=19) O (fun o=>?_) (fun o=>?_))))))))
 ·refine rr 12 O (kR O O ?_)
  first|rfl|simp
 refine kc (S.move (zg O O) O (zt O)) (kc (S.call (Wc (l:=l)) call11 (zg O O) O (zc O .nil) O) (kc (S.not (zg O O) O (zt O)) (rr 3 O (OK.cond O O (fun p=>?_) (fun p=>?_)))))
 ·refine ro 5 O (kR O O ?_)
  first|rfl|simp
 have w:mo n=true:=by simpa using o
 have u:Z1 l=true:=by simpa using p
 obtain⟨B,A⟩:=C9 w;obtain⟨z,v⟩:=OL u;have a:∀y∈l,R y.text<=100000:=fun y r=>by have:=v y r;omega
 refine ro 5 O (kc (zK (se (n:=n) I) call13 O) (jm O (kc (zK (XE (l:=l) I) call14 O) (kc (S.dB (UC (n:=n) (l:=l) I (Ni a)) q call27 .none O (zc O (zc O .nil)) O) ?_))));refine rr 11 O (kc (zK (se (n:=n) I) call13 O) (jm O (kc (zK (XE (l:=l) I) call14 O) (jm O (kc (S.dB (Qg (n:=n) (l:=l) (t:=t) I (Ni a)) q call37 .none O (zc O (zc O (zc O .nil))) O) ?_)))));refine rr 11 O (kc (zK (se (n:=n) I) call13 O) (jm O (kc (zK (XE (l:=l) I) call14 O) (kc (S.dB (rec_CountsOf (n:=n) (l:=l) I (Ni a)) q call26 .none O (zc O (zc O .nil)) O) ?_))));refine rr 13 O (kc (zK (TG (n:=n) (l:=l) I a) call17 O) ?_);refine rr 9 O (kB O (fun b=>?_) (fun b=>?_))
 ·obtain⟨d,h⟩:=at_1 (t:=t) b;rw[M7 b,h,Lo b,d];refine ro 6 O (RK.bh (t:=57) O (fun m=>?_) (fun m=>?_))
  ·refine rr 5 O (RK.bh (t:=62) O (fun k=>?_) (fun k=>?_))
   ·refine rr 5 O (RK.bh (t:=67) O (fun j=>?_) (fun j=>?_))
    ·refine kc (S.xK Z_ (zg O O) O (zt O) O O O O) (kc (S.build P7 O (zg O O) O .nil O O) (kc (S.callL (Zj (s:=State.zero)) call38 (zg O O) O (zc O (zc O .nil)) (.cons (.same O) (.cons (.agg (.cons .bO (.cons .bO (.cons .bO (.cons .bO (.cons (.same O) (.cons (.same O) (.cons .bO .nil))))))) O) .nil)) O) (rr 3 O (kc (S.build P7 O (zg O O) O .nil O O) (kc (S.callL (Zj (s:=State.zero)) call38 (zg O O) O (zc O (zc O .nil)) (.cons (.same O) (.cons (.agg (.cons .bO (.cons .bO (.cons .bO (.cons .bO (.cons (.same O) (.cons (.same O) (.cons .bO .nil))))))) O) .nil)) O) (rr 3 O (kc (S.build K5 O (zg O O) O .nil O O) (kc (S.II [0,0,0,0,0,0] [0,0,0,0,0,0] DO (zg O O) O (zt O) (zt O) O O O O) (rr 4 O (kR O O ?_))))))))))
     first|rfl|simp
    exact absurd rfl j
   exact absurd rfl k
  exact absurd rfl m
 have h0:=Zu.1 b;have x:(RJ n l).Sm:=Q2 b▸(LZ h0).good.sm;rw[Ln b,h0];refine ro 4 O ?_;refine kV (.c (zm O) (.c (zN O O) (.c (zm O) (.c (S.xK Z_ (.yes O O O F) O (zt O) O O O O) (.c (S.xK XB (.yes O O O F) O (zt O) O O O O) (.c (S.move (.yes O O O F) O (zt O)) (.c (S.call (Xj (n:=n) (l:=l) I (Sv h0).1 a) call19 (.yes O O O F) O (zc O (zc O .nil)) O) (.c (S.call (Zj (s:=RJ n l)) call38 (.yes O O O F) O (zc O (zc O .nil)) O) (.c (S.not (.yes O O O F) O (zt O)) (.c (S.aO .none O (zt O) (zt O) F) (.c (zm O) (.c (S.move (.yes O O O W) O (zt O)) (.c (S.neq (.yes O O O W) O (zt O) (.af O)) (.c (S.aO .none O (zt O) (zt O) W) (.c (zm O) (.c (S.xK LC (.yes O O O F) O (zt O) O O O O) (.c (S.xK XB (.yes O O O F) O (zt O) O O O O) (.c (S.move (.yes O O O F) O (zt O)) (.c (S.call (Xj (n:=n) (l:=l) I (Sv h0).1 a) call19 (.yes O O O F) O (zc O (zc O .nil)) O) (.c (S.call (SM (s:=RJ n l) x.lp (I_ h0)) call39 (.yes O O O F) O (zc O .nil) O) (.c (S.t_ [(RJ n l).Yy.started,(RJ n l).Yy.under,(RJ n l).Yy.inside,(RJ n l).Yy.good,(RJ n l).Yy.bad,(RJ n l).Yy.cut] [(RJ n l).Yy.started,(RJ n l).Yy.under,(RJ n l).Yy.inside,(RJ n l).Yy.good,(RJ n l).Yy.bad,(RJ n l).Yy.cut] DO (.yes O O O F) O (zt O) (zt O) O O O O) (.c (S.aO .none O (zt O) (zt O) F) .nil)))))))))))))))))))))) ?_;refine Ab.D.code (kB O (fun g=>?_) (fun g=>?_))
 ·simp at g
 refine ro 6 O (kc (zK (S3 (n:=t)) call40 O) (kc (S.jP .none O (zt O)) (kD (kB O (fun e=>?_) (fun e=>?_)))))
 ·obtain⟨d,h⟩:=at_2 h0 e;rw[h,d];refine ro 5 O (RK.bh (t:=109) O (fun f=>?_) (fun f=>?_))
  ·refine kc (S.xK Z_ (zg O O) O (zt O) O O O O) (kc (S.build P7 O (zg O O) O .nil O O) (kc (S.callL (Zj (s:=State.zero)) call38 (zg O O) O (zc O (zc O .nil)) (.cons (.same O) (.cons (.agg (.cons .bO (.cons .bO (.cons .bO (.cons .bO (.cons (.same O) (.cons (.same O) (.cons .bO .nil))))))) O) .nil)) O) (rr 4 O (kR O O ?_))))
   first|rfl|simp
  exact absurd rfl f
 obtain⟨d,h⟩:=at_0 h0 (Zu.1 e);rw[h,d];refine ro 3 O ?_;refine kV (.c (zm O) (.c (zE O O) (.c (zm O) (.c (S.xK Z_ (.yes O O O F) O (zt O) O O O O) (.c (S.xK XB (.yes O O O F) O (zt O) O O O O) (.c (S.move (.yes O O O F) O (zt O)) (.c (S.move (.yes O O O F) O (zt O)) (.c (S.call (Qi (l:=l) (t:=t)) call41 (.yes O O O F) O (zc O (zc O .nil)) O) (.c (S.call (Xj (n:=n) (l:=Y3 l t) I (Sv h0).1 (fun y r=>a y (L4 r))) call19 (.yes O O O F) O (zc O (zc O .nil)) O) (.c (S.call (Zj (s:=RJ n (Y3 l t))) call38 (.yes O O O F) O (zc O (zc O .nil)) O) (.c (S.aQ .none O (zt O) (zt O) F) (.c (za O) .nil)))))))))))) ?_;refine Ab.D.code (kR O O ?_)
 first|rfl|simp
