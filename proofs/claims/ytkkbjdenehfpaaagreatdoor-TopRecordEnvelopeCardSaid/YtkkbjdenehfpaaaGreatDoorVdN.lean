import Derived.Test.YtkkbjdenehfpaaaGreatDoorUvN
set_option linter.all false
open List renaming length->R
namespace Go.Proofs.Z_
open Go.Ab
def Z6.es(H:Z6)(j:Nat):bd:=(H.parts[j]?.map (·.2)).getD []
def UL(H:Z6)(k:Nat)(L:Sv)(j:Nat):Bool:=match k with
 |2=>decide<|H.Tk=some j
 |3=>decide<|H.Tk=some j
 |4=>decide<|H.U1 L.num=some j
 |5=>decide<|H.U1 L.num=some j
 |8=>decide<|H.U1 L.num=some j
 |11=>decide<|H.U1 L.num=some j
 |9=>match H.U1 L.num with
  |some i=>decide (i=j)||(decide (i≠j)&&H.outside (Y6 (Y9 L.rest).1 H.XR.limit).1&&decide ((H.p j).Yr=(H.p i).Yr/\(H.p j).YD=(H.p i).YD)&&Yu (H.p j))
  |none=>false
 |_=>false
structure E5(p p':Part):Prop where
 num:p'.num=p.num
 Yr:p'.Yr=p.Yr
 YD:p'.YD=p.YD
 Yb:p'.Yb=p.Yb
def E5.refl(p:Part):E5 p p:=⟨rfl,rfl,rfl,rfl⟩
theorem E5.trans{p q r:Part}(a:E5 p q)(b:E5 q r):E5 p r:=⟨b.num.trans a.num,b.Yr.trans a.Yr,b.YD.trans a.YD,b.Yb.trans a.Yb⟩
structure Tv(H H':Z6)(t:Nat->Bool):Prop where
 le:H.parts.length<=H'.parts.length
 keep:∀j,j<H.parts.length->E5 (H.p j) (H'.p j)
 es:∀j,j<H.parts.length->H'.es j=H.es j++if t j=true then [H.entries]else []
 sw:H'.entries=H.entries
variable{n:Int}{L:Sv}
variable{i:Nat}
section
variable{H H':Z6}{t:Nat->Bool}
def Tv.refl(a:∀j,j<R H.parts->t j=false):Tv H H t:=⟨Zq _,λ_ _=>.refl _,λj b=>by rw[a j b];simp,rfl⟩
def Tv.re(h:H'.parts=H.parts)(c:H'.entries=H.entries)(a:∀j,j<R H.parts->t j=false):Tv H H' t:=
 ⟨by rw[h];exact Zq _,λj _=>by unfold Z6.p;rw[h];exact .refl _,λj b=>by rw[a j b];unfold Z6.es;rw[h];simp,c⟩
def cm(H:Z6)(i j:Nat)(f:Part->Part):(H.Zh i f).es j=H.es j:=by
 unfold Z6.es Z6.Zh;dsimp only;rw[ei];cases H.parts[j]? with
 |none=>rfl
 |some q=>by_cases e:i=j<;>simp[e]
def j7(H:Z6)(i j:Nat)(a:j<R H.parts):(H.WT i).es j=H.es j++if i=j then [H.entries]else []:=by
 unfold Z6.es Z6.WT;dsimp only;rw[ei,Zv a];by_cases e:i=j<;>simp[e]
def Tv.Zh{f:Part->Part}(c:∀p,E5 p<|f p)(b:∀j,j<R H.parts->t j=false):Tv H (H.Zh i f) t:=
 ⟨by show _<=R (H.parts.modify _ _);rw[aμ];exact Zq _,λj a=>by
  rw[xR H i f a];split
  ·exact c _
  exact .refl _,λj a=>by rw[cm,b j a];simp,rfl⟩
def Tv.WT(h:Tv H H' λ_=>false)(b:∀j,j<R H.parts->t j=decide (i=j)):Tv H (H'.WT i) t:=
 ⟨by show _<=R (H'.parts.modify _ _);rw[aμ];exact h.le,λj a=>by rw[Jl];exact h.keep j a,λj a=>by
  rw[j7 _ _ _<|rp a h.le,h.es j a,h.sw,b j a];simp,h.sw⟩
def mR(H:Z6)(i j:Nat)(a:j<R H.parts):(H.Yz i).es j=H.es j++if(decide ((H.p j).Yr=(H.p i).Yr)&&decide ((H.p j).YD=(H.p i).YD)&&Yu (H.p j))=true then [H.entries]else []:=by
 have b:=Qp<|Zv a;unfold Z6.es Z6.Yz;dsimp only;rw[dp,Zv a,b];simp only[cφ,Option.getD_some];split<;>simp_all
def wA(H:Z6)(i j:Nat)(a:j<R H.parts):E5 (H.p j)<|(H.Yz i).p j:=by
 unfold Z6.p Z6.Yz;dsimp only;rw[dp,Zv a];simp only[cφ,Option.getD_some];split<;>exact⟨rfl,rfl,rfl,rfl⟩
def Tv.start(n:Int)(r c:ba)(h:(W_ H n r c).2=0):Tv H (W_ H n r c).1 λ_=>false:=by
 by_cases b:ZW [Z8 (decide<|n<=1000000) 2,Z8 (H.U1 n).isNone 5,Z8 ((H.AI r).isSome&&(H.Ob c).isSome) 6,Z8 H.Tk.isNone 17]=0
 case neg=>rw[OG rfl b]at h;exact absurd h b
 obtain⟨_,_,f,_⟩:=G2 b;rw[Zw]at f;obtain⟨k,g⟩:=sk.1 f.1;obtain⟨j,a⟩:=sk.1 f.2;have d:=(VK g).1;have e:=(Y8 a).1;rw[Lf b g (Zv d) a<|Zv e]at h⊢;split
 ·rename_i m;rw[Zn m]at h;exact absurd h m
 refine⟨F,λj a=>?_,λj a=>?_,rfl⟩
 ·unfold Z6.p;dsimp only;rw[m6 a];exact .refl _
 unfold Z6.es;dsimp only;rw[m6 a];simp
def Tv.about{f:Z6->Nat->HE}(h:(YJ H n f).2=0)(a:∀i,H.U1 n=some i->(f H i).2=0->Tv H ((f H i).1.WT i) t):Tv H (YJ H n f).1 t:=by
 unfold YJ at h⊢;cases e:H.U1 n with
 |none=>rw[e]at h;exact absurd h F
 |some i=>
  rw[e]at h;dsimp only at h⊢;by_cases h0:(f H i).2=0
  ·rw[Zn h0];exact a i e h0
  rw[Zm h0]at h;exact absurd h h0
def fD(hi:H.U1 L.num=some i)(h:(Xz L.rest H i).2=0):Tv H ((Xz L.rest H i).1.WT i)<|UL H 9 L:=by
 have d:=o9 hi;have r:∀j,UL H 9 L j=(decide (i=j)||(decide (i≠j)&&H.outside (Y6 (Y9 L.rest).1 H.XR.limit).1&&decide ((H.p j).Yr=(H.p i).Yr/\(H.p j).YD=(H.p i).YD)&&Yu (H.p j))):=λj=>by
  show(match H.U1 L.num with|some i=>_|none=>_)=_;rw[hi]
 unfold Xz at h⊢;by_cases u:(H.p i).place≠1
 ·rw[Zn u]at h;exact absurd h F
 rw[Zm u]at h⊢;by_cases q:(Y9 L.rest).2≠0
 ·rw[Zn q]at h;exact absurd h q
 rw[Zm q]at h⊢;dsimp only at h⊢;by_cases o:(Y6 (Y9 L.rest).1 H.XR.limit).2≠0
 ·rw[Zn o]at h;exact absurd h o
 rw[Zm o];dsimp only;have a:Tv H (H.Zh i λp=>{p with place:=4,depth:=(Y6 (Y9 L.rest).1 H.XR.limit).1}) λ_=>false:=.Zh (λ_=>⟨rfl,rfl,rfl,rfl⟩) λ_ _=>rfl
 generalize f:(H.Zh i λp=>{p with place:=4,depth:=(Y6 (Y9 L.rest).1 H.XR.limit).1})=H1 at a⊢;have m:(H1.p i).place=4:=by rw[←f,xR H i _ d,Zn rfl]
 have g:∀j,j<R H.parts->i≠j->H1.p j=H.p j:=λj b e=>by rw[←f,xR H i _ b,Zm e]
 have c:=a.keep i d;cases s:H.outside (Y6 (Y9 L.rest).1 H.XR.limit).1 with
 |false=>
  rw[Zm C];refine a.WT λj b=>?_
  rw[r j,s];simp
 |true=>
  rw[Zn rfl];have xf:R H.parts<=R (H1.Yz i).parts:=by
   show _<=R (H1.parts.map _);rw[Zx];exact a.le
  refine⟨by show _<=R ((H1.Yz i).parts.modify _ _);rw[aμ];exact xf,λj b=>?_,λj b=>?_,a.sw⟩
  ·rw[Jl];exact(a.keep j b).trans<|wA H1 i j<|rp b a.le
  rw[j7 _ _ _<|rp b xf,mR _ _ _<|rp b a.le,a.es j b,r j,s];have x:(H1.Yz i).entries=H.entries:=a.sw;rw[x,a.sw];by_cases e:i=j
  ·subst e;have:Yu (H1.p i)=false:=by unfold Yu;rw[m];rfl
   rw[this];simp
  rw[g j b e,c.Yr,c.YD];by_cases w:(H.p j).Yr=(H.p i).Yr<;>by_cases v:(H.p j).YD=(H.p i).YD<;>cases Yu (H.p j)<;>simp[e,w,v]
def Tv.rP(k:Nat)(L:Sv)(h:(WQ k H L).2=0):Tv H (WQ k H L).1<|UL H k L:=by
 unfold WQ at h⊢;split
 ·exact .refl λ_ _=>rfl
 ·exact .start _ _ _ h
 ·change (Yl H (ZI L.rest).1 (ZI L.rest).2).2=0 at h;unfold Yl at h⊢;cases e:H.Tk with
  |none=>rw[e]at h;exact absurd h F
  |some i=>
   rw[e]at h;have a:∀j,UL H 2 L j=decide (i=j):=λj=>by show decide (H.Tk=some j)=_;rw[e];simp
   dsimp only at h⊢;by_cases b:(ZI L.rest).2≠0
   ·rw[Zn b]at h;exact absurd h b
   rw[Zm b]at h⊢;by_cases c:Yp H.plan (ZI L.rest).1≠0
   ·rw[Zn c]at h;exact absurd h c
   rw[Zm c]at h⊢;cases f:(H.p i).frames.find? (λg=>decide<|g.tick=(ZI L.rest).1.tick)with
   |none=>
    dsimp only;exact Tv.WT (.Zh (λ_=>⟨rfl,rfl,rfl,rfl⟩) λ_ _=>rfl) λj _=>a j
   |some g=>
    rw[f]at h;dsimp only at h⊢;by_cases d:g.values=(ZI L.rest).1.values
    ·rw[Zn d];exact(Tv.refl (t:=λ_=>false) λ_ _=>rfl).WT λj _=>a j
    rw[Zm d]at h;exact absurd h F
 ·change (Sz H).2=0 at h;unfold Sz at h⊢;cases e:H.Tk with
  |none=>rw[e]at h;exact absurd h F
  |some i=>
   have a:∀j,UL H 3 L j=decide (i=j):=λj=>by show decide (H.Tk=some j)=_;rw[e];simp
   exact Tv.WT (.Zh (λ_=>⟨rfl,rfl,rfl,rfl⟩) λ_ _=>rfl) λj _=>a j
 ·refine .about h λi hi h0=>?_
  have a:∀j,UL H 4 L j=decide (i=j):=λj=>by show decide (H.U1 L.num=some j)=_;rw[hi];simp
  unfold Wi at h0⊢;split at h0
  ·rename_i b;rw[Zn b];dsimp only;exact Tv.WT (.Zh (λ_=>⟨rfl,rfl,rfl,rfl⟩) λ_ _=>rfl) λj _=>a j
  exact absurd h0 F
 ·refine .about h λi hi h0=>?_
  have a:∀j,UL H 5 L j=decide (i=j):=λj=>by show decide (H.U1 L.num=some j)=_;rw[hi];simp
  unfold Tu at h0⊢;split at h0
  ·rename_i b;rw[Zn b];dsimp only;exact Tv.WT (.Zh (λ_=>⟨rfl,rfl,rfl,rfl⟩) λ_ _=>rfl) λj _=>a j
  exact absurd h0 F
 ·unfold Tw;dsimp only;split<;>exact .re rfl rfl λ_ _=>rfl
 ·unfold XZ;repeat' split
  all_goals exact .re rfl rfl λ_ _=>rfl
 ·refine .about h λi hi h0=>?_
  have a:∀j,UL H 8 L j=decide (i=j):=λj=>by show decide (H.U1 L.num=some j)=_;rw[hi];simp
  unfold WU at h0⊢;split at h0
  ·rename_i b;rw[Zn b];dsimp only;exact Tv.WT (.Zh (λ_=>⟨rfl,rfl,rfl,rfl⟩) λ_ _=>rfl) λj _=>a j
  exact absurd h0 F
 ·exact .about h λi hi h0=>fD hi h0
 ·unfold XX;dsimp only;repeat' split
  all_goals exact .re rfl rfl λ_ _=>rfl
 ·refine .about h λi hi h0=>?_
  have a:∀j,UL H 11 L j=decide (i=j):=λj=>by show decide (H.U1 L.num=some j)=_;rw[hi];simp
  unfold Xe at h0⊢;dsimp only at h0⊢;split at h0
  ·rename_i b;rw[Zn b];exact Tv.WT (.re rfl rfl λ_ _=>rfl) λj _=>a j
  rename_i b;exact absurd h0 b
 have a:∀j,UL H k L j=false:=λj=>by
  unfold UL;split<;>first|rfl|(exfalso;simp_all;done)
 unfold Wo;split<;>exact .re rfl rfl λj _=>a j
end
def sH{n:Net}{l:List Entry}(h:(Z2 n l).2.2=0):(Z2 n l).1.XR=n/\(Z2 n l).1.plan=(ZO n.plan).1:=by
 have vy:∀(l:List Entry)(H:Z6)(i:Nat),(runT H i l).1.XR=H.XR/\(runT H i l).1.plan=H.plan:=by
  intro l
  induction l with
  |nil=>intro H i;exact⟨rfl,rfl⟩
  |cons x l a=>
   intro H i;have e:=UY H x;rw[runT];split
   ·exact⟨e.2,e.1⟩
   exact⟨(a _ _).1.trans e.2,(a _ _).2.trans e.1⟩
 obtain⟨_,_,e⟩:=Ur h;rw[e];exact vy _ _ _
variable{H:Z6}
def Gl{x:Entry}(h:(Za H x).2=0):∃k,k<13/\X2 (ZQ 32 x.text).1=some k/\(Yn x.text).2=true/\(WQ k H (Yn x.text).1).2=0/\(Za H x).1={(WQ k H (Yn x.text).1).1 with time:=x.at_,entries:=(WQ k H (Yn x.text).1).1.entries+1}:=by
 unfold Za at h⊢;by_cases a:H.head x=0
 ·rw[Zm<|Zp a]at h⊢;obtain⟨i,hi⟩:=sk.1 (HV a).2.1;obtain⟨k,d⟩:=sk.1 (HV a).2.2.2.2.2.2;rw[hi,d]at h⊢;dsimp only at h⊢;by_cases c:H.tail x i k=0
  ·rw[Zm<|Zp c]at h⊢;by_cases b:(WQ k H (Yn x.text).1).2=0
   ·rw[Zm<|Zp b];exact⟨k,(Y8 d).1,rfl,(text_eq d).1▸K_ c,b,rfl⟩
   rw[Zn b]at h;exact absurd h b
  rw[Zn c]at h;exact absurd h c
 rw[Zn a]at h;exact absurd h a
def vF{r c:ba}(h:(W_ H n r c).2=0):∃(j:Nat)(v:Rec×Int)(q:XA×Int),v∈H.ZF/\v.1.name=r/\(rZ H->v.1.YD=H.st.YD r)/\H.Z5[j]?=some q/\q.1.name=c/\H.U1 n=none/\H.Tk=none/\n<=1000000/\q.1.ZA<q.1.Wb/\(W_ H n r c).1={H with Z5:=H.Z5.modify j λq=>({q.1 with ZA:=q.1.ZA+1},q.2),parts:=H.parts++[(⟨n,v.1.name,v.1.YD,q.1.name,[],0,false,0,false,Span.zero⟩,[v.2,q.2,H.entries])]}:=by
 by_cases d:ZW [Z8 (decide<|n<=1000000) 2,Z8 (H.U1 n).isNone 5,Z8 ((H.AI r).isSome&&(H.Ob c).isSome) 6,Z8 H.Tk.isNone 17]=0
 case neg=>rw[OG rfl d]at h;exact absurd h d
 obtain⟨w,u,o,s⟩:=G2 d;rw[Zw]at o;obtain⟨k,g⟩:=sk.1 o.1;obtain⟨j,p⟩:=sk.1 o.2;obtain⟨a,f⟩:=VK g;obtain⟨b,m⟩:=Y8 p;rw[Lf d g (Zv a) p<|Zv b]at h⊢;split
 ·rename_i e;rw[Zn e]at h;exact absurd h e
 rename_i e;refine⟨j,H.ZF[k],H.Z5[j],Zt a,by simpa using f,λhi=>?_,Zv b,by simpa using m,dρ.1 u,dρ.1 s,pf w,pf (sA<|Zu.1 e).1,rfl⟩;have:=vu hi.YD r;rw[g]at this;simp only[Zv a]at this;exact this
def Z6.cn(H:Z6):List<|ba×Int:=H.Z5.map λq=>(q.1.name,q.2)
variable{k:Nat}
def DI(a:k=2\/k=3)(h:(WQ k H L).2=0):∃u,H.Tk=some u:=by
 cases e:H.Tk with
 |some u=>exact⟨u,rfl⟩
 |none=>
  exfalso;rcases a with rfl|rfl
  ·have h:(Yl H (ZI L.rest).1 (ZI L.rest).2).2=0:=h;unfold Yl at h;rw[e]at h;exact absurd h F
  have h:(Sz H).2=0:=h;unfold Sz at h;rw[e]at h;exact absurd h F
def Zj(n:Net)(l:List Entry)(t:Nat):Z6:=(Z2 n<|l.take t).1
def Vq(l:List Entry)(t:Nat):Nat:=(l[t]?.bind λx=>X2 (ZQ 32 x.text).1).getD 13
def Ss(l:List Entry)(t:Nat):Sv:=((l[t]?.map λx=>(Yn x.text).1)).getD ⟨[],[],[],[],0⟩
structure StepAt(n:Net)(l:List Entry)(i:Nat):Prop where
 lt:Vq l i<13
 num:0<=(Ss l i).num
 verb:(Ss l i).verb=Z4.getD (Vq l i) []
 hs:HS (Zj n l i)
 XR:(Zj n l i).XR=n
 ok:(WQ (Vq l i) (Zj n l i)<|Ss l i).2=0
 sw:(Zj n l i).entries=(i:Int)
 next:∃t,Zj n l (i+1)={(WQ (Vq l i) (Zj n l i)<|Ss l i).1 with time:=t,entries:=(WQ (Vq l i) (Zj n l i)<|Ss l i).1.entries+1}
def Sq{n:Net}{l:List Entry}(h:(Z2 n l).2.2=0){i:Nat}(hi:i<R l):StepAt n l i:=by
 obtain⟨p,o⟩:=Aq h hi;obtain⟨k,j,e,g,m,f⟩:=Gl p;have b:Vq l i=k:=by unfold Vq;rw[Zv hi];simp[e]
 have a:Ss l i=(Yn l[i].text).1:=by unfold Ss;rw[Zv hi];rfl
 refine⟨b▸j,a▸(G3 g).1,?_,F5<|UP h i,(sH<|UP h i).1,?_,?_,?_⟩
 ·rw[b,a];obtain⟨d,c⟩:=Y8 e;rw[show(Yn l[i].text).1.verb=(ZQ 32 l[i].text).1 from As _,TJ d];simpa using c
 ·rw[b,a];exact m
 ·have:=fQ<|UP h i;rw[List.length_take_of_le<|Nat.le_of_lt hi]at this;exact this
 rw[b,a];exact⟨l[i].at_,o.trans f⟩
variable{l:List Entry}
section
variable{n:Net}
def Aj(a:k=1)(h:(WQ k H L).2=0):∃v∈H.ZF,∃q∈H.cn,H.U1 L.num=none/\v.1.name=L.Yr/\q.1=L.Yb/\(WQ k H L).1.parts=H.parts++[((⟨L.num,v.1.name,v.1.YD,q.1,[],0,false,0,false,Span.zero⟩:Part),[v.2,q.2,H.entries])]:=by
 subst a;obtain⟨j,v,q,g,f,_,d,c,b,_,_,_,e⟩:=vF h;refine⟨v,g,(q.1.name,q.2),rx.2 ⟨q,mr d,rfl⟩,b,f,c,?_⟩;show(W_ H L.num L.Yr L.Yb).1.parts=_;rw[e]
def CU{E:Z6}{q:Part×bd}(h:E.parts=H.parts++[q]):E.p (R H.parts)=q.1/\E.es (R H.parts)=q.2/\R E.parts=R H.parts+1:=by
 unfold Z6.p Z6.es;rw[h,aκ<|Zq _,dδ,Zs];exact⟨rfl,rfl,rfl⟩
def vR(a:k≠1)(h0:0<=L.num)(h:(WQ k H L).2=0):R (WQ k H L).1.parts=R H.parts:=by
 have:=(Mv.rP k L h0 h).len;rw[Zy a]at this;simpa using this
end
def wv(n:Net)(l:List Entry):Zj n l (R l)=(Z2 n l).1:=by unfold Zj;rw[List.take_length]
def cut_eq{l:ba}(h:(ZQ 32 l).2.2=true):l=(ZQ 32 l).1++32::(ZQ 32 l).2.1:=by
 by_cases h0:32∈l
 ·obtain⟨k,a,b,d⟩:=dM l h0;rw[ku a d b];show l=l.take k++32::l.drop (k+1);rw[←b,←np a,a7]
 rw[Nz<|xQ λj c q=>h0<|q▸Zt c]at h;cases h
def aa{t:ba}(c:X2 (ZQ 32 t).1=some k):k<13/\(ZQ 32 t).1=Z4.getD k []:=by
 obtain⟨a,b⟩:=Y8 c;exact⟨a,by rw[TJ a];simpa using b⟩
def fF(p:Part):ba:=[115,116,97,114,116]++32::(Lib.itoa p.num++32::(p.Yr++32::p.Yb))
def len3{α:Type}{l:List α}(h:R l=3):∃a b c,l=[a,b,c]:=by
 match l,h with
 |[a,b,c],_=>exact⟨a,b,c,rfl⟩
def sx{t:ba}(x:X2 (ZQ 32 t).1=some 1)(h:(Yn t).2=true):t=[115,116,97,114,116]++32::(Lib.itoa (Yn t).1.num++32::((Yn t).1.Yr++32::(Yn t).1.Yb)):=by
 have d:=(aa x).2;have d:(ZQ 32 t).1=Z4[1]:=d;have e:Yn t=if(R<|Z7 32 (ZQ 32 t).2.1)≠3\/(Z7 32 (ZQ 32 t).2.1).getD 1 []=[]\/(Z7 32 (ZQ 32 t).2.1).getD 2 []=[]then(⟨(ZQ 32 t).1,[],[],(ZQ 32 t).2.1,0⟩,false)else(⟨(ZQ 32 t).1,(Z7 32 (ZQ 32 t).2.1).getD 1 [],(Z7 32 (ZQ 32 t).2.1).getD 2 [],(ZQ 32 t).2.1,(Ut<|(Z7 32 (ZQ 32 t).2.1).getD 0 []).1⟩,(Ut<|(Z7 32 (ZQ 32 t).2.1).getD 0 []).2):=by
  unfold Yn;dsimp only;rw[Zm (c:=(ZQ 32 t).1=Z4[0]\/(ZQ 32 t).1=Z4[2]) (by rw[d];decide),Zm (c:=(ZQ 32 t).1=Z4[3]) (by rw[d];decide),Zn (c:=(ZQ 32 t).1=Z4[1]) d]
 rw[e]at h⊢;by_cases o:R (Z7 32 (ZQ 32 t).2.1)≠3\/(Z7 32 (ZQ 32 t).2.1).getD 1 []=[]\/(Z7 32 (ZQ 32 t).2.1).getD 2 []=[]
 ·rw[Zn o]at h;cases h
 rw[Zm o]at h⊢;obtain⟨a,b,c,f⟩:=len3<|Zu.1 λq=>o<|.inl q;have u:=Am _ f;rw[f]at h⊢;have h:(Ut a).2=true:=h;have g:(ZQ 32 t).2.2=true:=by
  cases g:(ZQ 32 t).2.2 with
  |true=>rfl
  |false=>
   rw[(Oc g).2]at f;exact absurd (show 1=3 from rn List.length f) C
 have p:=cut_eq g;obtain⟨s,r⟩:=Nw a;rw[s]at h;have v:=r h;have m:TF a 7=true:=by rw[←Tt a I];exact h
 obtain⟨j,w⟩:=XS.1 m;have y:=(He j I).2.2;rw[d,←u]at p;refine p.trans ?_;show _=[115,116,97,114,116]++32::(Lib.itoa (Ut a).1++32::(b++32::c));rw[v,y];simp[xX,Z4]
section
variable{n:Net}
structure TextAt(l:List Entry)(i:Nat)(hi:i<l.length):Prop where
 vx:X2 (ZQ 32 l[i].text).1=some (Vq l i)
 ok:(Yn l[i].text).2=true
 ln:Ss l i=(Yn l[i].text).1
def fE(h:(Z2 n l).2.2=0)(hi:i<R l):TextAt l i hi:=by
 obtain⟨c,j⟩:=Aq h hi;obtain⟨k,f,a,b,g,e⟩:=Gl c;have d:Vq l i=k:=by unfold Vq;rw[Zv hi];simp[a]
 exact⟨by rw[d];exact a,b,by unfold Ss;rw[Zv hi];rfl⟩
end
structure Nx(k:Nat)(p p':Part):Prop where
 mkd:p.marked=true->p'.marked=true
 st:p.place≠0->p'.WD=p.WD/\p'.verdict=p.verdict/\p'.frames=p.frames
 zr:k≠3->p.place=0->p'.place=0
 gd:p'.place=2->(p.place=2/\p'.marked=p.marked)\/(Pm p=true/\p'.marked=p.marked)
def vr(k:Nat)(H H':Z6):Prop:=∀j,j<R H.parts->Nx k (H.p j) (H'.p j)
section
variable{H H':Z6}{k i:Nat}
def Nx.refl(k:Nat)(p:Part):Nx k p p:=⟨id,λ_=>⟨rfl,rfl,rfl⟩,λ_=>id,λh=>.inl ⟨h,rfl⟩⟩
def vr.re(h:H'.parts=H.parts):vr k H H':=λj _=>by
 have:H'.p j=H.p j:=by unfold Z6.p;rw[h]
 rw[this];exact .refl _ _
def vr.Zh{f:Part->Part}(b:i<R H.parts->Nx k (H.p i) (f<|H.p i)):vr k H<|H.Zh i f:=λj a=>by
 rw[xR H i f a];split
 ·rename_i e;subst e;exact b a
 exact .refl _ _
def vr.WT(h:vr k H H')(j:Nat):vr k H<|H'.WT j:=λm a=>by rw[Jl];exact h m a
def vr.about{f:Z6->Nat->HE}(a:∀i,vr k H (f H i).1):vr k H (YJ H n f).1:=by
 unfold YJ;cases H.U1 n with
 |none=>exact .re rfl
 |some i=>
  dsimp only;split
  ·exact(a i).WT i
  exact a i
def may_1{p:Part}(h:Pm p=true):p.place=1/\p.WD=true/\p.verdict=0/\p.marked=false:=by
 unfold Pm at h;simp at h;exact⟨h.1.1.1,h.1.1.2,h.1.2,h.2⟩
def lH(H:Z6)(i j:Nat)(a:j<R H.parts):(H.Yz i).p j=H.p j\/(Yu (H.p j)=true/\(H.Yz i).p j={H.p j with marked:=true}):=by
 unfold Z6.p Z6.Yz;dsimp only;rw[dp,Zv a];simp only[cφ,Option.getD_some];split
 ·rename_i h;rw[Zw]at h;exact .inr ⟨h.2,rfl⟩
 exact .inl rfl
def Nx.trans1{p q r:Part}(a:Nx k p q)(h:r=q\/(Yu q=true/\r={q with marked:=true})):Nx k p r:=by
 rcases h with h|⟨b,c⟩
 ·rw[h];exact a
 rw[c];refine⟨λ_=>rfl,a.st,a.zr,λe=>?_⟩;have e:q.place=2:=e;unfold Yu at b;rw[e]at b;exact absurd b C
def vr.rP(k:Nat)(L:Sv):vr k H (WQ k H L).1:=by
 have o:∀{p:Part}{b d},p.place=1->b≠2->Nx k p {p with place:=b,depth:=d}:=λg m=>⟨id,λ_=>⟨rfl,rfl,rfl⟩,λ_ h=>(by rw[g]at h;cases h),λh=>absurd h m⟩
 unfold WQ;split
 ·exact .re rfl
 ·intro j c;unfold W_;dsimp only;have e:∀(cs:List<|XA×Int)(q:Part×bd),Z6.p {H with Z5:=cs,parts:=H.parts++[q]} j=H.p j:=λcs q=>by
   unfold Z6.p;dsimp only;rw[m6 c]
  repeat' split
  all_goals first|exact .refl _ _|(rw[e];exact .refl _ _)
 ·unfold Yl;cases e:H.Tk with
  |none=>exact .re rfl
  |some i=>
   have h0:=Ap e;dsimp only
   repeat' split
   all_goals first|exact .re rfl|exact vr.WT (.re rfl) i|exact vr.WT (.Zh λ_=>⟨id,λh=>absurd h0 h,λ_ _=>h0,λh=>by rw[show({H.p i with frames:=(H.p i).frames++[(ZI L.rest).1]}:Part).place=(H.p i).place from rfl,h0]at h;cases h⟩) i
 ·unfold Sz;cases e:H.Tk with
  |none=>exact .re rfl
  |some i=>
   have h0:=Ap e;exact vr.WT (.Zh λ_=>⟨id,λh=>absurd h0 h,λh=>absurd rfl h,λh=>by cases h⟩) i
 ·refine .about λi=>?_
  unfold Wi;split
  ·rename_i a;dsimp only;exact .Zh λ_=>⟨id,λ_=>⟨rfl,rfl,rfl⟩,λ_ h=>(by rw[(may_1 a).1]at h;cases h),λ_=>.inr ⟨a,rfl⟩⟩
  exact .re rfl
 ·refine .about λi=>?_
  unfold Tu;split
  ·rename_i a;dsimp only;exact .Zh λ_=>⟨id,λ_=>⟨rfl,rfl,rfl⟩,λ_ h=>(by rw[a]at h;cases h),λh=>by cases h⟩
  exact .re rfl
 ·unfold Tw;dsimp only;split<;>exact .re rfl
 ·unfold XZ;repeat' split
  all_goals exact .re rfl
 ·refine .about λi=>?_
  unfold WU;split
  ·rename_i a;dsimp only;refine .Zh λ_=>⟨λ_=>rfl,λ_=>⟨rfl,rfl,rfl⟩,λ_=>id,λh=>?_⟩
   have h:(H.p i).place=2:=h;unfold Yu at a;rw[h]at a;exact absurd a F
  exact .re rfl
 ·refine .about λi=>?_
  unfold Xz;dsimp only;split
  ·exact .re rfl
  rename_i a;have a:=Zu.1 a;split
  ·exact .re rfl
  split
  ·exact .re rfl
  dsimp only;have f:vr 9 H<|H.Zh i λp=>{p with place:=4,depth:=(Y6 (Y9 L.rest).1 H.XR.limit).1}:=.Zh λ_=>⟨id,λ_=>⟨rfl,rfl,rfl⟩,λ_ h=>(by rw[a]at h;cases h),λh=>by cases h⟩
  split
  ·exactλj c=>(f j c).trans1 (lH _ _ _<|by show j<R (H.parts.modify _ _);rw[aμ];exact c)
  exact f
 ·unfold XX;dsimp only;repeat' split
  all_goals exact .re rfl
 ·refine .about λi=>?_
  unfold Xe;dsimp only;split<;>exact .re rfl
 unfold Wo;split<;>exact .re rfl
