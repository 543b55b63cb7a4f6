import Derived.Test.YtkkbjdenehfpaaaGreatDoorUs
set_option linter.all false
open List renaming length->R
namespace Go.Proofs.Z_
open Go.Ab
variable{l:List Entry}{n:Net}
def fQ(h:(Z2 n l).2.2=0):(Z2 n l).1.entries=(R l:Int):=by
 obtain⟨_,_,e⟩:=Ur h;rw[e]at h⊢;rw[sI _ _ _ h];show 0+(R l:Int)=_;omega
def gK{x:Entry}(h:(Z2 n l).2.2=0)(b:(Za (Z2 n l).1 x).2=0):(Z2 n<|l++[x]).2.2=0/\(Z2 n<|l++[x]).1=(Za (Z2 n l).1 x).1:=by
 have a:(Z2 n<|l++[x]).2.2=0:=(aL h).trans b;obtain⟨_,_,c⟩:=Ur a;obtain⟨_,_,d⟩:=Ur h;refine⟨a,?_⟩;rw[c]at a⊢;rw[d];exact(z8 _ _ _ _ a).2.2
def Z6.es(H:Z6)(j:Nat):bd:=(H.parts[j]?.map (·.2)).getD []
def UL(H:Z6)(k:Nat)(L:Sv)(j:Nat):Bool:=match k with
 |2=>decide<|H.Tk=some j
 |3=>decide<|H.Tk=some j
 |4=>decide<|H.U1 L.num=some j
 |5=>decide<|H.U1 L.num=some j
 |8=>decide<|H.U1 L.num=some j
 |11=>decide<|H.U1 L.num=some j
 |9=>match H.U1 L.num with
  |some i=>decide (i=j)||(decide (i≠j)&&H.outside (Y6 (Y9 L.rest).1 H.XR.limit).1&&decide ((H.p j).Yr=(H.p i).Yr/\(H.p j).YD=(H.p i).YD)&&Yu (H.p j))
  |none=>false
 |_=>false
structure E5(p p':Part):Prop where
 num:p'.num=p.num
 Yr:p'.Yr=p.Yr
 YD:p'.YD=p.YD
 Yb:p'.Yb=p.Yb
def E5.refl(p:Part):E5 p p:=⟨rfl,rfl,rfl,rfl⟩
theorem E5.trans{p q r:Part}(a:E5 p q)(b:E5 q r):E5 p r:=⟨b.num.trans a.num,b.Yr.trans a.Yr,b.YD.trans a.YD,b.Yb.trans a.Yb⟩
structure Tv(H H':Z6)(t:Nat->Bool):Prop where
 le:H.parts.length<=H'.parts.length
 keep:∀j,j<H.parts.length->E5 (H.p j) (H'.p j)
 es:∀j,j<H.parts.length->H'.es j=H.es j++if t j=true then [H.entries]else []
 sw:H'.entries=H.entries
variable{L:Sv}{f:Z6->Nat->HE}
variable{H:Z6}{i:Nat}
section
variable{H':Z6}{t:Nat->Bool}
def Tv.refl(a:∀j,j<R H.parts->t j=false):Tv H H t:=⟨Zq _,λ_ _=>.refl _,λj b=>by rw[a j b];simp,rfl⟩
def Tv.re(h:H'.parts=H.parts)(c:H'.entries=H.entries)(a:∀j,j<R H.parts->t j=false):Tv H H' t:=
 ⟨by rw[h];exact Zq _,λj _=>by unfold Z6.p;rw[h];exact .refl _,λj b=>by rw[a j b];unfold Z6.es;rw[h];simp,c⟩
def es_setP(H:Z6)(i j:Nat)(f:Part->Part):(H.Zh i f).es j=H.es j:=by
 unfold Z6.es Z6.Zh;dsimp only;rw[dj];cases H.parts[j]? with
 |none=>rfl
 |some q=>by_cases e:i=j<;>simp[e]
def j7(H:Z6)(i j:Nat)(a:j<R H.parts):(H.WT i).es j=H.es j++if i=j then [H.entries]else []:=by
 unfold Z6.es Z6.WT;dsimp only;rw[dj,Zv a];by_cases e:i=j<;>simp[e]
def Tv.Zh{f:Part->Part}(c:∀p,E5 p<|f p)(b:∀j,j<R H.parts->t j=false):Tv H (H.Zh i f) t:=
 ⟨by show _<=R (H.parts.modify _ _);rw[aμ];exact Zq _,λj a=>by
  rw[xR H i f a];split
  ·exact c _
  exact .refl _,λj a=>by rw[es_setP,b j a];simp,rfl⟩
def Tv.WT(h:Tv H H' λ_=>false)(b:∀j,j<R H.parts->t j=decide (i=j)):Tv H (H'.WT i) t:=
 ⟨by show _<=R (H'.parts.modify _ _);rw[aμ];exact h.le,λj a=>by rw[Jl];exact h.keep j a,λj a=>by
  rw[j7 _ _ _<|rp a h.le,h.es j a,h.sw,b j a];simp,h.sw⟩
def mR(H:Z6)(i j:Nat)(a:j<R H.parts):(H.Yz i).es j=H.es j++if(decide ((H.p j).Yr=(H.p i).Yr)&&decide ((H.p j).YD=(H.p i).YD)&&Yu (H.p j))=true then [H.entries]else []:=by
 have b:=Qp<|Zv a;unfold Z6.es Z6.Yz;dsimp only;rw[dp,Zv a,b];simp only[cφ,Option.getD_some];split<;>simp_all
def wA(H:Z6)(i j:Nat)(a:j<R H.parts):E5 (H.p j)<|(H.Yz i).p j:=by
 unfold Z6.p Z6.Yz;dsimp only;rw[dp,Zv a];simp only[cφ,Option.getD_some];split<;>exact⟨rfl,rfl,rfl,rfl⟩
def Tv.start(n:Int)(r c:ba)(h:(W_ H n r c).2=0):Tv H (W_ H n r c).1 λ_=>false:=by
 by_cases b:ZW [Z8 (decide<|n<=1000000) 2,Z8 (H.U1 n).isNone 5,Z8 ((H.AI r).isSome&&(H.Ob c).isSome) 6,Z8 H.Tk.isNone 17]=0
 case neg=>rw[OG rfl b]at h;exact absurd h b
 obtain⟨_,_,f,_⟩:=G2 b;rw[Zw]at f;obtain⟨k,g⟩:=sk.1 f.1;obtain⟨j,a⟩:=sk.1 f.2;have d:=(VK g).1;have e:=(Y8 a).1;rw[Lf b g (Zv d) a<|Zv e]at h⊢;split
 ·rename_i m;rw[Zn m]at h;exact absurd h m
 refine⟨F,λj a=>?_,λj a=>?_,rfl⟩
 ·unfold Z6.p;dsimp only;rw[m6 a];exact .refl _
 unfold Z6.es;dsimp only;rw[m6 a];simp
def Tv.about{n:Int}(h:(YJ H n f).2=0)(a:∀i,H.U1 n=some i->(f H i).2=0->Tv H ((f H i).1.WT i) t):Tv H (YJ H n f).1 t:=by
 unfold YJ at h⊢;cases e:H.U1 n with
 |none=>rw[e]at h;exact absurd h F
 |some i=>
  rw[e]at h;dsimp only at h⊢;by_cases h0:(f H i).2=0
  ·rw[Zn h0];exact a i e h0
  rw[Zm h0]at h;exact absurd h h0
def sect_tv(hi:H.U1 L.num=some i)(h:(Xz L.rest H i).2=0):Tv H ((Xz L.rest H i).1.WT i)<|UL H 9 L:=by
 have d:=o9 hi;have q:∀j,UL H 9 L j=(decide (i=j)||(decide (i≠j)&&H.outside (Y6 (Y9 L.rest).1 H.XR.limit).1&&decide ((H.p j).Yr=(H.p i).Yr/\(H.p j).YD=(H.p i).YD)&&Yu (H.p j))):=λj=>by
  show(match H.U1 L.num with|some i=>_|none=>_)=_;rw[hi]
 unfold Xz at h⊢;by_cases s:(H.p i).place≠1
 ·rw[Zn s]at h;exact absurd h F
 rw[Zm s]at h⊢;by_cases o:(Y9 L.rest).2≠0
 ·rw[Zn o]at h;exact absurd h o
 rw[Zm o]at h⊢;dsimp only at h⊢;by_cases m:(Y6 (Y9 L.rest).1 H.XR.limit).2≠0
 ·rw[Zn m]at h;exact absurd h m
 rw[Zm m];dsimp only;have a:Tv H (H.Zh i λp=>{p with place:=4,depth:=(Y6 (Y9 L.rest).1 H.XR.limit).1}) λ_=>false:=.Zh (λ_=>⟨rfl,rfl,rfl,rfl⟩) λ_ _=>rfl
 generalize f:(H.Zh i λp=>{p with place:=4,depth:=(Y6 (Y9 L.rest).1 H.XR.limit).1})=H1 at a⊢;have k:(H1.p i).place=4:=by rw[←f,xR H i _ d,Zn rfl]
 have g:∀j,j<R H.parts->i≠j->H1.p j=H.p j:=λj b e=>by rw[←f,xR H i _ b,Zm e]
 have c:=a.keep i d;cases r:H.outside (Y6 (Y9 L.rest).1 H.XR.limit).1 with
 |false=>
  rw[Zm C];refine a.WT λj b=>?_
  rw[q j,r];simp
 |true=>
  rw[Zn rfl];have x3:R H.parts<=R (H1.Yz i).parts:=by
   show _<=R (H1.parts.map _);rw[Zx];exact a.le
  refine⟨by show _<=R ((H1.Yz i).parts.modify _ _);rw[aμ];exact x3,λj b=>?_,λj b=>?_,a.sw⟩
  ·rw[Jl];exact(a.keep j b).trans<|wA H1 i j<|rp b a.le
  rw[j7 _ _ _<|rp b x3,mR _ _ _<|rp b a.le,a.es j b,q j,r];have w:(H1.Yz i).entries=H.entries:=a.sw;rw[w,a.sw];by_cases e:i=j
  ·subst e;have:Yu (H1.p i)=false:=by unfold Yu;rw[k];rfl
   rw[this];simp
  rw[g j b e,c.Yr,c.YD];by_cases v:(H.p j).Yr=(H.p i).Yr<;>by_cases u:(H.p j).YD=(H.p i).YD<;>cases Yu (H.p j)<;>simp[e,v,u]
def Tv.rP(k:Nat)(L:Sv)(h:(WQ k H L).2=0):Tv H (WQ k H L).1<|UL H k L:=by
 unfold WQ at h⊢;split
 ·exact .refl λ_ _=>rfl
 ·exact .start _ _ _ h
 ·change (Yl H (ZI L.rest).1 (ZI L.rest).2).2=0 at h;unfold Yl at h⊢;cases e:H.Tk with
  |none=>rw[e]at h;exact absurd h F
  |some i=>
   rw[e]at h;have a:∀j,UL H 2 L j=decide (i=j):=λj=>by show decide (H.Tk=some j)=_;rw[e];simp
   dsimp only at h⊢;by_cases b:(ZI L.rest).2≠0
   ·rw[Zn b]at h;exact absurd h b
   rw[Zm b]at h⊢;by_cases c:Yp H.plan (ZI L.rest).1≠0
   ·rw[Zn c]at h;exact absurd h c
   rw[Zm c]at h⊢;cases f:(H.p i).frames.find? (λg=>decide<|g.tick=(ZI L.rest).1.tick)with
   |none=>
    dsimp only;exact Tv.WT (.Zh (λ_=>⟨rfl,rfl,rfl,rfl⟩) λ_ _=>rfl) λj _=>a j
   |some g=>
    rw[f]at h;dsimp only at h⊢;by_cases d:g.values=(ZI L.rest).1.values
    ·rw[Zn d];exact(Tv.refl (t:=λ_=>false) λ_ _=>rfl).WT λj _=>a j
    rw[Zm d]at h;exact absurd h F
 ·change (Sz H).2=0 at h;unfold Sz at h⊢;cases e:H.Tk with
  |none=>rw[e]at h;exact absurd h F
  |some i=>
   have a:∀j,UL H 3 L j=decide (i=j):=λj=>by show decide (H.Tk=some j)=_;rw[e];simp
   exact Tv.WT (.Zh (λ_=>⟨rfl,rfl,rfl,rfl⟩) λ_ _=>rfl) λj _=>a j
 ·refine .about h λi hi h0=>?_
  have a:∀j,UL H 4 L j=decide (i=j):=λj=>by show decide (H.U1 L.num=some j)=_;rw[hi];simp
  unfold Wi at h0⊢;split at h0
  ·rename_i b;rw[Zn b];dsimp only;exact Tv.WT (.Zh (λ_=>⟨rfl,rfl,rfl,rfl⟩) λ_ _=>rfl) λj _=>a j
  exact absurd h0 F
 ·refine .about h λi hi h0=>?_
  have a:∀j,UL H 5 L j=decide (i=j):=λj=>by show decide (H.U1 L.num=some j)=_;rw[hi];simp
  unfold Tu at h0⊢;split at h0
  ·rename_i b;rw[Zn b];dsimp only;exact Tv.WT (.Zh (λ_=>⟨rfl,rfl,rfl,rfl⟩) λ_ _=>rfl) λj _=>a j
  exact absurd h0 F
 ·unfold Tw;dsimp only;split<;>exact .re rfl rfl λ_ _=>rfl
 ·unfold XZ;repeat' split
  all_goals exact .re rfl rfl λ_ _=>rfl
 ·refine .about h λi hi h0=>?_
  have a:∀j,UL H 8 L j=decide (i=j):=λj=>by show decide (H.U1 L.num=some j)=_;rw[hi];simp
  unfold WU at h0⊢;split at h0
  ·rename_i b;rw[Zn b];dsimp only;exact Tv.WT (.Zh (λ_=>⟨rfl,rfl,rfl,rfl⟩) λ_ _=>rfl) λj _=>a j
  exact absurd h0 F
 ·exact .about h λi hi h0=>sect_tv hi h0
 ·unfold XX;dsimp only;repeat' split
  all_goals exact .re rfl rfl λ_ _=>rfl
 ·refine .about h λi hi h0=>?_
  have a:∀j,UL H 11 L j=decide (i=j):=λj=>by show decide (H.U1 L.num=some j)=_;rw[hi];simp
  unfold Xe at h0⊢;dsimp only at h0⊢;split at h0
  ·rename_i b;rw[Zn b];exact Tv.WT (.re rfl rfl λ_ _=>rfl) λj _=>a j
  rename_i b;exact absurd h0 b
 have a:∀j,UL H k L j=false:=λj=>by
  unfold UL;split<;>first|rfl|(exfalso;simp_all;done)
 unfold Wo;split<;>exact .re rfl rfl λj _=>a j
end
def sH(h:(Z2 n l).2.2=0):(Z2 n l).1.XR=n/\(Z2 n l).1.plan=(ZO n.plan).1:=by
 have vv:∀(l:List Entry)(H:Z6)(i:Nat),(runT H i l).1.XR=H.XR/\(runT H i l).1.plan=H.plan:=by
  intro l
  induction l with
  |nil=>intro H i;exact⟨rfl,rfl⟩
  |cons x l a=>
   intro H i;have e:=UY H x;rw[runT];split
   ·exact⟨e.2,e.1⟩
   exact⟨(a _ _).1.trans e.2,(a _ _).2.trans e.1⟩
 obtain⟨_,_,e⟩:=Ur h;rw[e];exact vv _ _ _
variable{H:Z6}
def Gl{x:Entry}(h:(Za H x).2=0):∃k,k<13/\X2 (ZQ 32 x.text).1=some k/\(Yn x.text).2=true/\(WQ k H (Yn x.text).1).2=0/\(Za H x).1={(WQ k H (Yn x.text).1).1 with time:=x.at_,entries:=(WQ k H (Yn x.text).1).1.entries+1}:=by
 unfold Za at h⊢;by_cases a:H.head x=0
 ·rw[Zm<|Zp a]at h⊢;obtain⟨i,hi⟩:=sk.1 (HV a).2.1;obtain⟨k,d⟩:=sk.1 (HV a).2.2.2.2.2.2;rw[hi,d]at h⊢;dsimp only at h⊢;by_cases c:H.tail x i k=0
  ·rw[Zm<|Zp c]at h⊢;by_cases b:(WQ k H (Yn x.text).1).2=0
   ·rw[Zm<|Zp b];exact⟨k,(Y8 d).1,rfl,(text_eq d).1▸K_ c,b,rfl⟩
   rw[Zn b]at h;exact absurd h b
  rw[Zn c]at h;exact absurd h c
 rw[Zn a]at h;exact absurd h a
def sB{n:Int}(h:(YJ H n f).2=0):∃i,H.U1 n=some i/\(f H i).2=0/\(YJ H n f).1=(f H i).1.WT i:=by
 unfold YJ at h⊢;cases e:H.U1 n with
 |none=>rw[e]at h;exact absurd h F
 |some i=>
  rw[e]at h;dsimp only at h⊢;by_cases h0:(f H i).2=0
  ·rw[Zn h0];exact⟨i,rfl,h0,rfl⟩
  rw[Zm h0]at h;exact absurd h h0
variable{c r:ba}
def vF{n:Int}(h:(W_ H n r c).2=0):∃(j:Nat)(v:Rec×Int)(q:XA×Int),v∈H.ZF/\v.1.name=r/\(rZ H->v.1.YD=H.st.YD r)/\H.Z5[j]?=some q/\q.1.name=c/\H.U1 n=none/\H.Tk=none/\n<=1000000/\q.1.ZA<q.1.Wb/\(W_ H n r c).1={H with Z5:=H.Z5.modify j λq=>({q.1 with ZA:=q.1.ZA+1},q.2),parts:=H.parts++[(⟨n,v.1.name,v.1.YD,q.1.name,[],0,false,0,false,Span.zero⟩,[v.2,q.2,H.entries])]}:=by
 by_cases d:ZW [Z8 (decide<|n<=1000000) 2,Z8 (H.U1 n).isNone 5,Z8 ((H.AI r).isSome&&(H.Ob c).isSome) 6,Z8 H.Tk.isNone 17]=0
 case neg=>rw[OG rfl d]at h;exact absurd h d
 obtain⟨w,u,o,s⟩:=G2 d;rw[Zw]at o;obtain⟨k,g⟩:=sk.1 o.1;obtain⟨j,p⟩:=sk.1 o.2;obtain⟨a,f⟩:=VK g;obtain⟨b,m⟩:=Y8 p;rw[Lf d g (Zv a) p<|Zv b]at h⊢;split
 ·rename_i e;rw[Zn e]at h;exact absurd h e
 rename_i e;refine⟨j,H.ZF[k],H.Z5[j],Zt a,by simpa using f,λhi=>?_,Zv b,by simpa using m,dρ.1 u,dρ.1 s,pf w,pf (sA<|Zu.1 e).1,rfl⟩;have:=vu hi.YD r;rw[g]at this;simp only[Zv a]at this;exact this
def Z6.cn(H:Z6):List<|ba×Int:=H.Z5.map λq=>(q.1.name,q.2)
def lN{α β:Type}(f:α->β)(g:α->α)(a:∀x,f (g x)=f x)(l:List α)(j:Nat):(l.modify j g).map f=l.map f:=by
 refine P2 λi=>?_
 rw[dp,dj,dp];cases l[i]? with
 |none=>simp
 |some x=>by_cases e:j=i<;>simp[e,a]
variable{m:Int}{i:Nat}{E:Z6}{t:ba}
def Mr{n:Int}(a:∀i,(f H i).1.ZF=H.ZF/\(f H i).1.cn=H.cn):(YJ H n f).1.ZF=H.ZF/\(YJ H n f).1.cn=H.cn:=by
 unfold YJ;cases H.U1 n with
 |none=>exact⟨rfl,rfl⟩
 |some i=>
  dsimp only;split
  ·exact a i
  exact a i
def cD(k:Nat)(L:Sv):(k≠10->(WQ k H L).1.ZF=H.ZF)/\(k≠6->(WQ k H L).1.cn=H.cn):=by
 have both:∀{G:Z6}{j:Nat},G.ZF=H.ZF/\G.cn=H.cn->(j≠10->G.ZF=H.ZF)/\(j≠6->G.cn=H.cn):=λh=>⟨λ_=>h.1,λ_=>h.2⟩
 unfold WQ;split
 ·exact both ⟨rfl,rfl⟩
 ·refine both ?_;unfold W_;dsimp only
  repeat' split
  all_goals first|exact⟨rfl,rfl⟩|exact⟨rfl,lN (λq:XA×Int=>(q.1.name,q.2)) (λq=>({q.1 with ZA:=q.1.ZA+1},q.2)) (λ_=>rfl) H.Z5 _⟩
 ·refine both ?_;unfold Yl;repeat' split
  all_goals exact⟨rfl,rfl⟩
 ·refine both ?_;unfold Sz;split<;>exact⟨rfl,rfl⟩
 ·exact both (Mr λi=>by unfold Wi;split<;>exact⟨rfl,rfl⟩)
 ·exact both (Mr λi=>by unfold Tu;split<;>exact⟨rfl,rfl⟩)
 ·refine⟨λ_=>?_,λh=>absurd rfl h⟩;unfold Tw;dsimp only;split<;>rfl
 ·refine both ?_;unfold XZ;repeat' split
  all_goals first|exact⟨rfl,rfl⟩|exact⟨rfl,lN (λq:XA×Int=>(q.1.name,q.2)) (λq=>({q.1 with ZA:=0},q.2)) (λ_=>rfl) H.Z5 _⟩
 ·exact both (Mr λi=>by unfold WU;split<;>exact⟨rfl,rfl⟩)
 ·refine both<|Mr λi=>?_;unfold Xz;dsimp only
  repeat' split
  all_goals exact⟨rfl,rfl⟩
 ·refine⟨λh=>absurd rfl h,λ_=>?_⟩;unfold XX;dsimp only;repeat' split
  all_goals rfl
 ·refine both<|Mr λi=>?_;unfold Xe;dsimp only;split<;>exact⟨rfl,rfl⟩
 refine both ?_;unfold Wo;split<;>exact⟨rfl,rfl⟩
def yB(d:Hh H.ZF)(h:(XX H r t).2=0):∃ph,(XX H r t).1.ZF=H.ZF++[(⟨r,H.st.YD r+1,ph⟩,H.entries)]:=by
 have e:=vu d r;unfold XX at h⊢;split
 ·rename_i a;rw[Zn a]at h;exact absurd h F
 rename_i a;rw[Zm a]at h;dsimp only at h⊢;split
 ·rename_i b;rw[Zn b]at h;exact absurd h b
 refine⟨(VJ t).1,?_⟩;dsimp only;congr 4;rw[←e];cases c:H.AI r with
 |none=>rfl
 |some j=>
  have f:=(VK c).1;simp only[bφ,Zv f]
def vP(h:(Tw H c m).2=0):H.Ob c=none/\(Tw H c m).1.cn=H.cn++[(c,H.entries)]:=by
 unfold Tw at h⊢;dsimp only at h⊢;split
 ·rename_i a;refine⟨?_,by unfold Z6.cn;simp⟩;cases d:H.Ob c with
  |none=>rfl
  |some j=>rw[d]at a;cases b:YA c<;>rw[b]at a<;>exact absurd a (by simp[ZW,Z8])
 rename_i a;rw[Zm a]at h;exact absurd h a
def G7:H.Ob c=none↔∀q∈H.cn,q.1≠c:=by
 refine(T9 _ _ 0).trans ⟨λh q a=>?_,λh q a=>?_⟩
 ·obtain⟨x,b,rfl⟩:=rx.1 a;exact dg<|h x b
 exact Zy<|h _<|rx.2 ⟨q,a,rfl⟩
def OI:H.U1 m=none↔∀j,j<R H.parts->(H.p j).num≠m:=by
 refine(T9 _ _ 0).trans ⟨λh j a=>?_,λh q b=>?_⟩
 ·have:=h _<|Zt a;rw[Qp<|Zv a];exact dg this
 obtain⟨j,a,rfl⟩:=dl b;have:=h j a;rw[Qp<|Zv a]at this;exact Zy this
def J8(h:H.U1 m=some i):(H.p i).num=m:=by
 obtain⟨b,a⟩:=Y8 h;rw[Qp<|Zv b];exact pf a
def HS.pIx2(h:HS H)(hi:i<R H.parts):H.U1 (H.p i).num=some i:=by rw[←C6];exact h.U1 hi
def Et{ph:List Ph}{e:Int}(h:E.ZF=H.ZF++[(⟨r,H.st.YD r+1,ph⟩,e)])(s:ba):E.st.YD s=H.st.YD s+if s=r then 1 else 0:=by
 unfold State.YD Z6.st;dsimp only;rw[h,ne,List.filter_append,Zs];by_cases q:s=r
 ·subst q;simp
 have:¬r=s:=λe=>q e.symm
 simp[q,this]
def vI(h:E.ZF=H.ZF)(s:ba):E.st.YD s=H.st.YD s:=by unfold State.YD Z6.st;dsimp only;rw[h]
def fS(a:Hh H.ZF){v:Rec×Int}(h:v∈H.ZF):v.1.YD<=H.st.YD v.1.name:=by
 obtain⟨i,hi,rfl⟩:=dl h;rw[a i _<|Zv hi];have e:H.st.YD H.ZF[i].1.name=(R (H.ZF.filter λr=>decide<|r.1.name=H.ZF[i].1.name):Int):=by
  show(R ((H.ZF.map (·.1)).filter λr=>decide<|r.name=H.ZF[i].1.name):Int)=_;rw[pA,Zx];rfl
 rw[e];have:=((List.take_sublist (i+1) H.ZF).filter λr=>decide<|r.1.name=H.ZF[i].1.name).length_le;omega
def C5(H:Z6)(hi:i<R H.parts)(d:Span):((H.Zh i λp=>{p with place:=4,depth:=d}).p i).depth=d:=by rw[xR H i _ hi,Zn rfl]
def Ap(H:Z6)(i j:Nat)(a:j<R H.parts):((H.Yz i).p j).depth=(H.p j).depth:=by
 unfold Z6.p Z6.Yz;dsimp only;rw[dp,Zv a];simp only[cφ,Option.getD_some];split<;>rfl
def sect_ok{vj:ba}(hi:i<R H.parts)(h:(Xz vj H i).2=0):((H.p i).place=1/\¬(Y6 (Y9 vj).1 H.XR.limit).2≠0)/\(((Xz vj H i).1.WT i).p i).depth=(Y6 (Y9 vj).1 H.XR.limit).1:=by
 rw[Jl];unfold Xz at h⊢;by_cases c:(H.p i).place≠1
 ·rw[Zn c]at h;exact absurd h F
 rw[Zm c]at h⊢;by_cases b:(Y9 vj).2≠0
 ·rw[Zn b]at h;exact absurd h b
 rw[Zm b]at h⊢;dsimp only at h⊢;by_cases a:(Y6 (Y9 vj).1 H.XR.limit).2≠0
 ·rw[Zn a]at h;exact absurd h a
 rw[Zm a];dsimp only;refine⟨⟨Zu.1 c,a⟩,?_⟩;split
 ·rw[Ap _ _ _ (by show i<R (H.parts.modify _ _);rw[aμ];exact hi),C5 H hi]
 rw[C5 H hi]
def vB(E:Z6)(k:Nat)(L:Sv)(r:ba)(v:Int):Bool:=decide (k=10)&&(decide (L.Yr=r)&&decide (E.st.YD r=v))
def cB(k:Nat)(L:Sv)(c:ba):Bool:=decide (k=6)&&decide (L.Yb=c)
def nB(n:Net)(H E:Z6)(k:Nat)(L:Sv)(m:Int)(r:ba)(v:Int):Bool:=match k with
 |1=>decide<|L.num=m
 |4=>decide<|L.num=m
 |5=>decide<|L.num=m
 |8=>decide<|L.num=m
 |11=>decide<|L.num=m
 |2=>decide<|(H.p<|H.Tk.getD 0).num=m
 |3=>decide<|(H.p<|H.Tk.getD 0).num=m
 |9=>decide (L.num=m)||match H.U1 m with
  |some j=>decide ((E.p<|(E.U1 L.num).getD 0).Yr=r/\(E.p<|(E.U1 L.num).getD 0).YD=v)&&KC n (E.p<|(E.U1 L.num).getD 0).depth&&Yu (H.p j)
  |none=>false
 |_=>false
def r9(n:Net)(H E:Z6)(k:Nat)(L:Sv)(q:Part):Bool:=vB E k L q.Yr q.YD||(cB k L q.Yb||nB n H E k L q.num q.Yr q.YD)
def Z6.Pc(H:Z6):Prop:=∀j,j<R H.parts->(∃v∈H.ZF,v.1.name=(H.p j).Yr/\v.1.YD=(H.p j).YD)/\∃q∈H.cn,q.1=(H.p j).Yb
variable{k:Nat}
def DI(a:k=2\/k=3)(h:(WQ k H L).2=0):∃u,H.Tk=some u:=by
 cases e:H.Tk with
 |some u=>exact⟨u,rfl⟩
 |none=>
  exfalso;rcases a with rfl|rfl
  ·have h:(Yl H (ZI L.rest).1 (ZI L.rest).2).2=0:=h;unfold Yl at h;rw[e]at h;exact absurd h F
  have h:(Sz H).2=0:=h;unfold Sz at h;rw[e]at h;exact absurd h F
def Uh(a:k=4\/k=5\/k=8\/k=9\/k=11)(h:(WQ k H L).2=0):∃i,H.U1 L.num=some i:=by
 rcases a with rfl|rfl|rfl|rfl|rfl<;>exact(sB h).imp λ_ h=>h.1
def yA{j:Nat}(d:HS H)(o:H.Pc)(J:H.XR=n)(M:k<13)(h:(WQ k H L).2=0)(c:j<R H.parts):r9 n H (WQ k H L).1 k L (H.p j)=UL H k L j:=by
 have a:∀{i:Nat},H.U1 L.num=some i->decide (L.num=(H.p j).num)=decide (H.U1 L.num=some j):=λ{i} e=>by
  refine decide_eq_decide.2 ⟨λq=>by rw[q];exact d.pIx2 c,λq=>(J8 q).symm⟩
 unfold r9 vB cB;rcases(show k=0\/k=1\/k=2\/k=3\/k=4\/k=5\/k=6\/k=7\/k=8\/k=9\/k=10\/k=11\/k=12 by omega)with rfl|rfl|rfl|rfl|rfl|rfl|rfl|rfl|rfl|rfl|rfl|rfl|rfl
 ·rfl
 ·obtain⟨_,_,_,_,_,_,_,_,G,_⟩:=vF h;show decide (L.num=(H.p j).num)=false;exact Zy λe=>OI.1 G j c e.symm
 ·obtain⟨u,m⟩:=DI (.inl rfl) h;show decide ((H.p<|H.Tk.getD 0).num=(H.p j).num)=decide (H.Tk=some j);rw[m];exact decide_eq_decide.2 ⟨λe=>by rw[d.EV _ _ (Y8 m).1 c e],λe=>by rw[aγ e];rfl⟩
 ·obtain⟨u,m⟩:=DI (.inr rfl) h;show decide ((H.p<|H.Tk.getD 0).num=(H.p j).num)=decide (H.Tk=some j);rw[m];exact decide_eq_decide.2 ⟨λe=>by rw[d.EV _ _ (Y8 m).1 c e],λe=>by rw[aγ e];rfl⟩
 ·exact a (Uh (.inl rfl) h).choose_spec
 ·exact a (Uh (.inr<|.inl rfl) h).choose_spec
 ·obtain⟨K,_⟩:=vP h;obtain⟨_,q,F,e⟩:=o j c;have:decide (L.Yb=(H.p j).Yb)=false:=Zy λA=>G7.1 K q F<|e.trans A.symm
  show(false||(true&&decide (L.Yb=(H.p j).Yb)||false))=false;rw[this];rfl
 ·rfl
 ·exact a (Uh (.inr<|.inr<|.inl rfl) h).choose_spec
 ·have B:=Tv.rP 9 L h;have z:=d.rP 9 L;obtain⟨i,hi,h0,e⟩:=sB (H:=H) (n:=L.num) (f:=Xz L.rest) h;have b:=o9 hi;have x:=(sect_ok b h0).2;rw[←e]at x;change ((WQ 9 H L).1.p i).depth=_ at x;have g:=B.keep i b;have y:(WQ 9 H L).1.U1 L.num=some i:=by
   have:=z.pIx2 (i:=i)<|rp b B.le;rw[g.num,J8 hi]at this;exact this
  have I:KC n (Y6 (Y9 L.rest).1 H.XR.limit).1=H.outside (Y6 (Y9 L.rest).1 H.XR.limit).1:=by
   subst J;unfold Z6.outside KC;rw[Bool.not_and,fj,fj]
  show(decide (L.num=(H.p j).num)||match H.U1 (H.p j).num with
   |some D=>decide (((WQ 9 H L).1.p<|((WQ 9 H L).1.U1 L.num).getD 0).Yr=(H.p j).Yr/\((WQ 9 H L).1.p<|((WQ 9 H L).1.U1 L.num).getD 0).YD=(H.p j).YD)&&KC n ((WQ 9 H L).1.p<|((WQ 9 H L).1.U1 L.num).getD 0).depth&&Yu (H.p D)
   |none=>false)=match H.U1 L.num with
   |some i=>decide (i=j)||(decide (i≠j)&&H.outside (Y6 (Y9 L.rest).1 H.XR.limit).1&&decide ((H.p j).Yr=(H.p i).Yr/\(H.p j).YD=(H.p i).YD)&&Yu (H.p j))
   |none=>false
  rw[d.pIx2 c,y,hi];simp only[Option.getD_some,x,I,g.Yr,g.YD];by_cases q:i=j
  ·subst q;rw[Zz (J8 hi).symm];simp
  have C:¬L.num=(H.p j).num:=λA=>q<|d.EV i j b c<|(J8 hi).trans A
  rw[Zy C];simp only[q,decide_false,fg,ne_eq,not_false_eq_true,decide_true,tn];rw[Bool.and_comm<|H.outside _];congr 2;exact decide_eq_decide.2 ⟨λe=>⟨e.1.symm,e.2.symm⟩,λe=>⟨e.1.symm,e.2.symm⟩⟩
 ·obtain⟨ph,E⟩:=yB d.inv.YD h;obtain⟨⟨v,w,s,r⟩,_⟩:=o j c;have x3:=fS d.inv.YD w;rw[s,r]at x3;have z:=Et E (H.p j).Yr;show(true&&(decide (L.Yr=(H.p j).Yr)&&decide ((XX H L.Yr L.rest).1.st.YD (H.p j).Yr=(H.p j).YD))||(false||false))=false;rw[z];by_cases q:L.Yr=(H.p j).Yr
  ·rw[Zn q.symm,Zy (show¬H.st.YD (H.p j).Yr+1=(H.p j).YD by omega)];simp
  rw[Zy q];rfl
 ·exact a (Uh (.inr<|.inr<|.inr<|.inr rfl) h).choose_spec
 rfl
def Zj(n:Net)(l:List Entry)(t:Nat):Z6:=(Z2 n<|l.take t).1
def Vq(l:List Entry)(t:Nat):Nat:=(l[t]?.bind λx=>X2 (ZQ 32 x.text).1).getD 13
def Ss(l:List Entry)(t:Nat):Sv:=((l[t]?.map λx=>(Yn x.text).1)).getD ⟨[],[],[],[],0⟩
def vT(n:Net)(l:List Entry)(r:ba)(v:Int)(t:Nat):Bool:=vB (Zj n l<|t+1) (Vq l t) (Ss l t) r v
def cTh(l:List Entry)(c:ba)(t:Nat):Bool:=cB (Vq l t) (Ss l t) c
def nT(n:Net)(l:List Entry)(m:Int)(r:ba)(v:Int)(t:Nat):Bool:=nB n (Zj n l t) (Zj n l<|t+1) (Vq l t) (Ss l t) m r v
def Mz(n:Net)(l:List Entry)(q:Part)(t:Nat):Bool:=r9 n (Zj n l t) (Zj n l<|t+1) (Vq l t) (Ss l t) q
def sN{p q:Part}(h:E5 p q):Mz n l q=Mz n l p:=by
 funext t;unfold Mz r9;rw[h.Yr,h.YD,h.Yb,h.num]
structure StepAt(n:Net)(l:List Entry)(i:Nat):Prop where
 lt:Vq l i<13
 num:0<=(Ss l i).num
 verb:(Ss l i).verb=Z4.getD (Vq l i) []
 hs:HS (Zj n l i)
 XR:(Zj n l i).XR=n
 ok:(WQ (Vq l i) (Zj n l i)<|Ss l i).2=0
 sw:(Zj n l i).entries=(i:Int)
 next:∃t,Zj n l (i+1)={(WQ (Vq l i) (Zj n l i)<|Ss l i).1 with time:=t,entries:=(WQ (Vq l i) (Zj n l i)<|Ss l i).1.entries+1}
def Sq(h:(Z2 n l).2.2=0)(hi:i<R l):StepAt n l i:=by
 obtain⟨p,o⟩:=Aq h hi;obtain⟨k,j,e,g,m,f⟩:=Gl p;have b:Vq l i=k:=by unfold Vq;rw[Zv hi];simp[e]
 have a:Ss l i=(Yn l[i].text).1:=by unfold Ss;rw[Zv hi];rfl
 refine⟨b▸j,a▸(G3 g).1,?_,F5<|UP h i,(sH<|UP h i).1,?_,?_,?_⟩
 ·rw[b,a];obtain⟨d,c⟩:=Y8 e;rw[show(Yn l[i].text).1.verb=(ZQ 32 l[i].text).1 from As _,TJ d];simpa using c
 ·rw[b,a];exact m
 ·have:=fQ<|UP h i;rw[List.length_take_of_le<|ft hi]at this;exact this
 rw[b,a];exact⟨l[i].at_,o.trans f⟩
def filter_or{α:Type}(p q:α->Bool):∀(l:List α),(∀x∈l,¬(p x=true/\q x=true))->(l.filter λx=>p x||q x).Perm (l.filter p++l.filter q)
 |[],_=>.nil
 |x::l,h=>by
  have a:=filter_or p q l λy b=>h y<|rl _ b
  have c:=h x rv;rw[eK,eK,eK];cases e:p x<;>cases d:q x
  ·simpa using a
  ·simp only[Bool.or_true,if_true,bξ,if_false];exact(a.cons x).trans List.perm_middle.symm
  ·simp only[Bool.or_false,if_true,bξ,if_false,H5];exact a.cons x
  exact absurd ⟨e,d⟩ c
def OQ(p:Nat->Bool)(i:Nat):(List.range<|i+1).filter p=(List.range i).filter p++if p i=true then [i]else []:=by
 rw[cε,List.filter_append,eK,List.filter_nil]
structure gR(n:Net)(l:List Entry)(i:Nat):Prop where
 pc:(Zj n l i).Pc
 vr:∀v∈(Zj n l i).ZF,0<=v.2/\(List.range i).filter (vT n l v.1.name v.1.YD)=[v.2.toNat]
 cr:∀c∈(Zj n l i).cn,0<=c.2/\(List.range i).filter (cTh l c.1)=[c.2.toNat]
 vm:∀t,t<i->∀r v,vT n l r v t=true->v<=(Zj n l i).st.YD r
 cm:∀t,t<i->∀c,cTh l c t=true->∃q∈(Zj n l i).cn,q.1=c
 nm:∀t,t<i->∀m r v,(Zj n l i).U1 m=none->nT n l m r v t=false
 es:∀j,j<(Zj n l i).parts.length->((Zj n l i).es j).Perm (((List.range i).filter<|Mz n l<|(Zj n l i).p j).map Int.ofNat)
def hist_0(h:(Z2 n l).2.2=0):gR n l 0:=by
 have e:Zj n l 0=Z6.init n (ZO n.plan).1:=by
  obtain⟨_,_,e⟩:=Ur<|UP h 0;show(Z2 n<|l.take 0).1=_;rw[e];rfl
 refine⟨?_,?_,?_,λt a=>absurd a<|bπ t,λt a=>absurd a<|bπ t,λt a=>absurd a<|bπ t,?_⟩
 ·rw[e];exactλj c=>absurd c<|bπ j
 ·rw[e];exactλv b=>by cases b
 ·rw[e];exactλv b=>by cases b
 rw[e];exactλj c=>absurd c<|bπ j
section
variable{n:Net}{l:List Entry}
def Aj(a:k=1)(h:(WQ k H L).2=0):∃v∈H.ZF,∃q∈H.cn,H.U1 L.num=none/\v.1.name=L.Yr/\q.1=L.Yb/\(WQ k H L).1.parts=H.parts++[((⟨L.num,v.1.name,v.1.YD,q.1,[],0,false,0,false,Span.zero⟩:Part),[v.2,q.2,H.entries])]:=by
 subst a;obtain⟨j,v,q,g,f,_,d,c,b,_,_,_,e⟩:=vF h;refine⟨v,g,(q.1.name,q.2),rx.2 ⟨q,mr d,rfl⟩,b,f,c,?_⟩;show(W_ H L.num L.Yr L.Yb).1.parts=_;rw[e]
def CU{q:Part×bd}(h:E.parts=H.parts++[q]):E.p (R H.parts)=q.1/\E.es (R H.parts)=q.2/\R E.parts=R H.parts+1:=by
 unfold Z6.p Z6.es;rw[h,aκ<|Zq _,dδ,Zs];exact⟨rfl,rfl,rfl⟩
def vR(a:k≠1)(h0:0<=L.num)(h:(WQ k H L).2=0):R (WQ k H L).1.parts=R H.parts:=by
 have:=(Mv.rP k L h0 h).len;rw[Zy a]at this;simpa using this
def hist_on(h:(Z2 n l).2.2=0)(hi:i<R l)(am:gR n l i):gR n l<|i+1:=by
 have S:=Sq h hi;obtain⟨tm,F⟩:=S.next;have hT:=Tv.rP _ _ S.ok;obtain⟨gv,gc⟩:=cD (H:=Zj n l i) (Vq l i)<|Ss l i;have hE:=S.hs.rP (Vq l i)<|Ss l i;have hpl:R (Zj n l<|i+1).parts=R (WQ (Vq l i) (Zj n l i)<|Ss l i).1.parts:=by rw[F]
 have hpp:∀j,(Zj n l<|i+1).p j=(WQ (Vq l i) (Zj n l i)<|Ss l i).1.p j:=λj=>by rw[F];rfl
 have hpe:∀j,(Zj n l<|i+1).es j=(WQ (Vq l i) (Zj n l i)<|Ss l i).1.es j:=λj=>by rw[F];rfl
 have P:(Zj n l<|i+1).ZF=(WQ (Vq l i) (Zj n l i)<|Ss l i).1.ZF:=by rw[F]
 have Q:(Zj n l<|i+1).cn=(WQ (Vq l i) (Zj n l i)<|Ss l i).1.cn:=by rw[F];rfl
 have Z:∀r,(Zj n l<|i+1).st.YD r=(WQ (Vq l i) (Zj n l i)<|Ss l i).1.st.YD r:=λr=>vI P r
 have hpx:∀m,(Zj n l<|i+1).U1 m=(WQ (Vq l i) (Zj n l i)<|Ss l i).1.U1 m:=λm=>by rw[F];rfl
 have J:∀q,Mz n l q i=r9 n (Zj n l i) (WQ (Vq l i) (Zj n l i)<|Ss l i).1 (Vq l i) (Ss l i) q:=λq=>by unfold Mz;rw[F];rfl
 have M:∀r v,vT n l r v i=vB (WQ (Vq l i) (Zj n l i)<|Ss l i).1 (Vq l i) (Ss l i) r v:=λr v=>by unfold vT vB;rw[Z]
 have hnT:∀m r v,nT n l m r v i=nB n (Zj n l i) (WQ (Vq l i) (Zj n l i)<|Ss l i).1 (Vq l i) (Ss l i) m r v:=λm r v=>by unfold nT;rw[F];rfl
 have T:∀c,cTh l c i=cB (Vq l i) (Ss l i) c:=λ_=>rfl
 have x:=S.sw;have hnum:=S.num;have W:=S.hs.inv.YD;have hnet:=S.XR;have hlt:=S.lt;have f:=S.ok;have hH:=S.hs;clear F S;generalize hkk:Vq l i=k at *;generalize hLL:Ss l i=L at *;generalize A:(WQ k (Zj n l i) L).1=E at *
 -- versions
 have w:(k≠10/\E.ZF=(Zj n l i).ZF)\/(k=10/\∃ph,E.ZF=(Zj n l i).ZF++[(⟨L.Yr,(Zj n l i).st.YD L.Yr+1,ph⟩,(i:Int))]):=by
  by_cases q:k=10
  ·subst q;have:=yB (r:=L.Yr) (t:=L.rest) W f;rw[show(XX (Zj n l i) L.Yr L.rest).1=E from A,x]at this;exact .inr ⟨rfl,this⟩
  exact .inl ⟨q,gv q⟩
 have y:(k≠6/\E.cn=(Zj n l i).cn)\/(k=6/\(Zj n l i).Ob L.Yb=none/\E.cn=(Zj n l i).cn++[(L.Yb,(i:Int))]):=by
  by_cases q:k=6
  ·subst q;have:=vP (c:=L.Yb) (m:=L.num) f;rw[show(Tw (Zj n l i) L.Yb L.num).1=E from A,x]at this;exact .inr ⟨rfl,this⟩
  exact .inl ⟨q,gc q⟩
 have X:∀r,(Zj n l i).st.YD r<=E.st.YD r:=λr=>by
  rcases w with⟨_,e⟩|⟨_,ph,e⟩
  ·rw[vI e];omega
  rw[Et e];split<;>omega
 have z:∀v∈(Zj n l i).ZF,v∈E.ZF:=λv g=>by
  rcases w with⟨_,e⟩|⟨_,ph,e⟩
  ·rw[e];exact g
  rw[e];exact sb _ g
 have s:∀c∈(Zj n l i).cn,c∈E.cn:=λv g=>by
  rcases y with⟨_,e⟩|⟨_,_,e⟩
  ·rw[e];exact g
  rw[e];exact sb _ g
 have G:∀m,E.U1 m=none->(Zj n l i).U1 m=none:=λm U=>OI.2 λj D e=>by
  exact OI.1 U j (rp D hT.le) (by rw[(hT.keep j D).num];exact e)
 have xc:(k≠1/\R E.parts=R (Zj n l i).parts)\/(k=1/\∃v∈(Zj n l i).ZF,∃q∈(Zj n l i).cn,(Zj n l i).U1 L.num=none/\v.1.name=L.Yr/\q.1=L.Yb/\E.parts=(Zj n l i).parts++[((⟨L.num,v.1.name,v.1.YD,q.1,[],0,false,0,false,Span.zero⟩:Part),[v.2,q.2,(i:Int)])]):=by
  by_cases q:k=1
  ·have:=Aj q f;rw[A,x]at this;exact .inr ⟨q,this⟩
  have:=vR q hnum f;rw[A]at this;exact .inl ⟨q,this⟩
 have hj2:∀j,j<R E.parts->j<R (Zj n l i).parts\/(k=1/\j=R (Zj n l i).parts):=λj D=>by
  rcases xc with⟨_,e⟩|⟨q,v,_,c,_,_,_,_,e⟩
  ·exact .inl I
  have:=(CU e).2.2;by_cases K:j<R (Zj n l i).parts
  ·exact .inl K
  exact .inr ⟨q,I⟩
 refine⟨λj D=>?_,λv g=>?_,λc o=>?_,λt B r v g=>?_,λt B c o=>?_,λt B m r v U=>?_,λj D=>?_⟩
 ·rw[hpl]at D;rw[hpp,P,Q];rcases hj2 j D with q|⟨q,rfl⟩
  ·have hk:=hT.keep j q;obtain⟨⟨v,V,v2,v3⟩,c,c1,c2⟩:=am.pc j q;exact⟨⟨v,z v V,v2.trans hk.Yr.symm,v3.trans hk.YD.symm⟩,c,s c c1,c2.trans hk.Yb.symm⟩
  rcases xc with⟨K,_⟩|⟨_,v,V,c,c1,_,_,_,e⟩
  ·exact absurd q K
  rw[(CU e).1];exact⟨⟨v,z v V,rfl,rfl⟩,c,s c c1,rfl⟩
 ·rw[P]at g;have old:v∈(Zj n l i).ZF->0<=v.2/\(List.range<|i+1).filter (vT n l v.1.name v.1.YD)=[v.2.toNat]:=λg=>by
   obtain⟨a,b⟩:=am.vr v g;refine⟨a,?_⟩;rw[OQ,b,M,Zm,i8];unfold vB;intro e;simp only[Zw,de]at e;obtain⟨e1,e2,e3⟩:=e;rcases w with⟨q,_⟩|⟨_,ph,q⟩
   ·exact q e1
   have:=fS W g;rw[Et q,Zn e2.symm]at e3;omega
  rcases w with⟨q,e⟩|⟨q,ph,e⟩
  ·rw[e]at g;exact old g
  rw[e]at g;rcases List.mem_append.1 g with g|g
  ·exact old g
  rw[pi.1 g];refine⟨eQ _,?_⟩;dsimp only;rw[OQ,fe.2 λt B O=>?_,M,Zn]
  ·rfl
  ·unfold vB;rw[Et e,Zn rfl,q];simp
  have:=am.vm t (ee.1 B) _ _ O;omega
 ·rw[Q]at o;have old:c∈(Zj n l i).cn->0<=c.2/\(List.range<|i+1).filter (cTh l c.1)=[c.2.toNat]:=λo=>by
   obtain⟨a,b⟩:=am.cr c o;refine⟨a,?_⟩;rw[OQ,b,T,Zm,i8];unfold cB;intro e;simp only[Zw,de]at e;rcases y with⟨q,_⟩|⟨_,q,_⟩
   ·exact q e.1
   exact G7.1 q c o e.2.symm
  rcases y with⟨q,e⟩|⟨q,K,e⟩
  ·rw[e]at o;exact old o
  rw[e]at o;rcases List.mem_append.1 o with o|o
  ·exact old o
  rw[pi.1 o];refine⟨eQ _,?_⟩;dsimp only;rw[OQ,fe.2 λt B O=>?_,T,Zn]
  ·rfl
  ·unfold cB;rw[q];simp
  obtain⟨d,d1,d2⟩:=am.cm t (ee.1 B) _ O;exact G7.1 K d d1 d2
 ·rw[Z];by_cases q:t=i
  ·subst q;rw[M]at g;unfold vB at g;simp only[Zw,de]at g;omega
  have:=am.vm t I r v g;have:=X r;omega
 ·rw[Q];by_cases q:t=i
  ·subst q;rw[T]at o;unfold cB at o;simp only[Zw,de]at o;rcases y with⟨q,_⟩|⟨_,_,e⟩
   ·exact absurd o.1 q
   rw[e];exact⟨_,ui _<|pi.2 rfl,o.2⟩
  obtain⟨d,d1,d2⟩:=am.cm t I c o;exact⟨d,s d d1,d2⟩
 ·rw[hpx]at U;by_cases q:t=i
  ·subst q;rw[hnT];have C:=G m U;have a1:∀{u:Nat},(Zj n l t).U1 L.num=some u->decide (L.num=m)=false:=λ{u} e=>Zy λe2=>by rw[e2,C]at e;cases e
   rcases(show k=0\/k=1\/k=2\/k=3\/k=4\/k=5\/k=6\/k=7\/k=8\/k=9\/k=10\/k=11\/k=12 by omega)with rfl|rfl|rfl|rfl|rfl|rfl|rfl|rfl|rfl|rfl|rfl|rfl|rfl
   ·rfl
   ·rcases xc with⟨q,_⟩|⟨_,v,_,c,_,_,_,_,e⟩
    ·exact absurd rfl q
    have:=OI.1 U (R (Zj n l t).parts) (by rw[(CU e).2.2];omega);rw[(CU e).1]at this;exact Zy this
   ·obtain⟨u,Y⟩:=DI (.inl rfl) f;show decide (((Zj n l t).p<|(Zj n l t).Tk.getD 0).num=m)=false;rw[Y];exact Zy<|OI.1 C u (Y8 Y).1
   ·obtain⟨u,Y⟩:=DI (.inr rfl) f;show decide (((Zj n l t).p<|(Zj n l t).Tk.getD 0).num=m)=false;rw[Y];exact Zy<|OI.1 C u (Y8 Y).1
   ·exact a1 (Uh (.inl rfl) f).choose_spec
   ·exact a1 (Uh (.inr<|.inl rfl) f).choose_spec
   ·rfl
   ·rfl
   ·exact a1 (Uh (.inr<|.inr<|.inl rfl) f).choose_spec
   ·unfold nB;rw[a1 (Uh (.inr<|.inr<|.inr<|.inl rfl) f).choose_spec,C];rfl
   ·rfl
   ·exact a1 (Uh (.inr<|.inr<|.inr<|.inr rfl) f).choose_spec
   rfl
  exact am.nm t I m r v<|G m U
 rw[hpl]at D;rw[hpp,hpe];rcases hj2 j D with q|⟨q,rfl⟩
 ·have B:Mz n l ((Zj n l i).p j) i=UL (Zj n l i) k L j:=by
   rw[J];have:=yA hH am.pc hnet hlt f q;rw[A]at this;exact this
  rw[sN<|hT.keep j q,hT.es j q,OQ,ne,B,x];refine(am.es j q).append ?_;cases UL (Zj n l i) k L j<;>exact .refl _
 rcases xc with⟨K,_⟩|⟨_,v,V,c,c1,hpn,_,_,e⟩
 ·exact absurd q K
 rw[(CU e).1,(CU e).2.1];have N:Mz n l ⟨L.num,v.1.name,v.1.YD,c.1,[],0,false,0,false,Span.zero⟩ i=true:=by
  rw[J];unfold r9;rw[q];show(_||(_||decide (L.num=L.num)))=true;simp
 have hfil:(List.range i).filter (Mz n l ⟨L.num,v.1.name,v.1.YD,c.1,[],0,false,0,false,Span.zero⟩)=(List.range i).filter λt=>vT n l v.1.name v.1.YD t||cTh l c.1 t:=by
  refine List.filter_congr λt B=>?_
  have h3:nT n l L.num v.1.name v.1.YD t=false:=am.nm t (ee.1 B) _ _ _ hpn;show(vT n l v.1.name v.1.YD t||(cTh l c.1 t||nT n l L.num v.1.name v.1.YD t))=_;rw[h3,Bool.or_false]
 rw[OQ,hfil,Zn N,ne];have hP:=filter_or (vT n l v.1.name v.1.YD) (cTh l c.1) (List.range i) λt _ h2=>by
  obtain⟨a,b⟩:=h2;unfold vT vB at a;unfold cTh cB at b;simp only[Zw,de]at a b;omega
 obtain⟨v0,vf⟩:=am.vr v V;obtain⟨c0,cf⟩:=am.cr c c1;rw[vf,cf]at hP;have hP2:=(hP.map Int.ofNat).append_right<|[i].map Int.ofNat;refine(List.Perm.of_eq ?_).trans hP2.symm;simp[dζ v0,dζ c0]
end
def JC{n:Net}{l:List Entry}(h:(Z2 n l).2.2=0):∀i,i<=R l->gR n l i
 |0,_=>hist_0 h
 |i+1,hi=>hist_on h hi<|JC h i I
def JB(n:Net)(l:List Entry)(q:Part):bd:=((List.range<|R l).filter<|Mz n l q).map Int.ofNat
def wv(n:Net)(l:List Entry):Zj n l (R l)=(Z2 n l).1:=by unfold Zj;rw[List.take_length]
def hist_eq(h:(Z2 n l).2.2=0)(k:0<=m/\m<=1000000){j:Nat}(e:(Z2 n l).1.U1 m=some j):Nn n l m=(JB n l<|(Z2 n l).1.p j,0):=by
 have g:=(JC h (R l)<|Zq _).es j;rw[wv]at g;have P:=g (Y8 e).1;have o:Wm n l m=0:=by
  unfold Wm J9;rw[Zm<|Zp h,e,Zz k];rfl
 unfold Nn;rw[Zm<|Zp o,e];refine rn (λz=>(z,(0:Int))) ?_;have d:(((Z2 n l).1.es j).mergeSort λx y=>decide<|x<=y).Pairwise (λx y=>x<=y):=by
  have:=eα (le:=λx y:Int=>decide<|x<=y) (by intro a b c d f;simp only[de]at *;omega) (by intro a b;simp only[ti,de];omega)<|(Z2 n l).1.es j;exact this.imp λh=>pf h
 refine((bμ _ _).trans P).eq_of_pairwise (λa b _ _ d f=>Int.le_antisymm d f) d ?_;unfold JB;rw[List.pairwise_map];exact(List.pairwise_lt_range.filter _).imp λh=>Int.ofNat_le.2<|ft h
def cut_eq{l:ba}(h:(ZQ 32 l).2.2=true):l=(ZQ 32 l).1++32::(ZQ 32 l).2.1:=by
 by_cases h0:32∈l
 ·obtain⟨k,a,b,d⟩:=dM l h0;rw[ku a d b];show l=l.take k++32::l.drop (k+1);rw[←b,←np a,a7]
 rw[Nz<|xQ λj c q=>h0<|q▸Zt c]at h;cases h
def aa(c:X2 (ZQ 32 t).1=some k):k<13/\(ZQ 32 t).1=Z4.getD k []:=by
 obtain⟨a,b⟩:=Y8 c;exact⟨a,by rw[TJ a];simpa using b⟩
def fF(p:Part):ba:=[115,116,97,114,116]++32::(Lib.itoa p.num++32::(p.Yr++32::p.Yb))
def len3{α:Type}{l:List α}(h:R l=3):∃a b c,l=[a,b,c]:=by
 match l,h with
 |[a,b,c],_=>exact⟨a,b,c,rfl⟩
def sx(w:X2 (ZQ 32 t).1=some 1)(h:(Yn t).2=true):t=[115,116,97,114,116]++32::(Lib.itoa (Yn t).1.num++32::((Yn t).1.Yr++32::(Yn t).1.Yb)):=by
 have d:=(aa w).2;have d:(ZQ 32 t).1=Z4[1]:=d;have e:Yn t=if(R<|Z7 32 (ZQ 32 t).2.1)≠3\/(Z7 32 (ZQ 32 t).2.1).getD 1 []=[]\/(Z7 32 (ZQ 32 t).2.1).getD 2 []=[]then(⟨(ZQ 32 t).1,[],[],(ZQ 32 t).2.1,0⟩,false)else(⟨(ZQ 32 t).1,(Z7 32 (ZQ 32 t).2.1).getD 1 [],(Z7 32 (ZQ 32 t).2.1).getD 2 [],(ZQ 32 t).2.1,(Ut<|(Z7 32 (ZQ 32 t).2.1).getD 0 []).1⟩,(Ut<|(Z7 32 (ZQ 32 t).2.1).getD 0 []).2):=by
  unfold Yn;dsimp only;rw[Zm (c:=(ZQ 32 t).1=Z4[0]\/(ZQ 32 t).1=Z4[2]) (by rw[d];decide),Zm (c:=(ZQ 32 t).1=Z4[3]) (by rw[d];decide),Zn (c:=(ZQ 32 t).1=Z4[1]) d]
 rw[e]at h⊢;by_cases m:R (Z7 32 (ZQ 32 t).2.1)≠3\/(Z7 32 (ZQ 32 t).2.1).getD 1 []=[]\/(Z7 32 (ZQ 32 t).2.1).getD 2 []=[]
 ·rw[Zn m]at h;cases h
 rw[Zm m]at h⊢;obtain⟨a,b,c,f⟩:=len3<|Zu.1 λq=>m<|.inl q;have s:=Am _ f;rw[f]at h⊢;have h:(Ut a).2=true:=h;have g:(ZQ 32 t).2.2=true:=by
  cases g:(ZQ 32 t).2.2 with
  |true=>rfl
  |false=>
   rw[(Oc g).2]at f;exact absurd (show 1=3 from rn List.length f) C
 have o:=cut_eq g;obtain⟨r,p⟩:=Nw a;rw[r]at h;have u:=p h;have k:TF a 7=true:=by rw[←Tt a I];exact h
 obtain⟨j,v⟩:=XS.1 k;have x:=(He j I).2.2;rw[d,←s]at o;refine o.trans ?_;show _=[115,116,97,114,116]++32::(Lib.itoa (Ut a).1++32::(b++32::c));rw[u,x];simp[xX,Z4]
section
variable{n:Net}{l:List Entry}{i:Nat}
structure TextAt(l:List Entry)(i:Nat)(hi:i<l.length):Prop where
 vx:X2 (ZQ 32 l[i].text).1=some (Vq l i)
 ok:(Yn l[i].text).2=true
 ln:Ss l i=(Yn l[i].text).1
def text_at(h:(Z2 n l).2.2=0)(hi:i<R l):TextAt l i hi:=by
 obtain⟨c,j⟩:=Aq h hi;obtain⟨k,f,a,b,g,e⟩:=Gl c;have d:Vq l i=k:=by unfold Vq;rw[Zv hi];simp[a]
 exact⟨by rw[d];exact a,b,by unfold Ss;rw[Zv hi];rfl⟩
