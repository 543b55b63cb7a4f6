import Derived.Test.YthibpafdakbpgaaGreatDoorUv
set_option linter.all false
set_option maxHeartbeats 4000000
open List renaming length->R
namespace Go.Proofs.YthibpafdakbpgaaGreatDoor
open Go.Ab Tryz
set_option maxRecDepth 9999
def Z6.es(H:Z6)(j:Nat):bd:=(H.parts[j]?.map (·.2)).getD []
def CK(H:Z6)(k:Nat)(L:Sv)(j:Nat):Bool:=match k with
 |2=>decide<|H.Tk=some j
 |3=>decide<|H.Tk=some j
 |4=>decide<|H.U1 L.num=some j
 |5=>decide<|H.U1 L.num=some j
 |8=>decide<|H.U1 L.num=some j
 |11=>decide<|H.U1 L.num=some j
 |9=>match H.U1 L.num with
  |some i=>decide (i=j)||(decide (i≠j)&&H.outside (Y6 (Y9 L.rest).1 H.XR.limit).1&&decide ((H.p j).Yr=(H.p i).Yr/\(H.p j).YD=(H.p i).YD)&&Yu (H.p j))
  |none=>false
 |_=>false
structure kW(p p':Part):Prop where
 num:p'.num=p.num
 Yr:p'.Yr=p.Yr
 YD:p'.YD=p.YD
 Yb:p'.Yb=p.Yb
def kW.refl(p:Part):kW p p:=⟨rfl,rfl,rfl,rfl⟩
theorem kW.trans{p q r:Part}(a:kW p q)(b:kW q r):kW p r:=⟨b.num.trans a.num,b.Yr.trans a.Yr,b.YD.trans a.YD,b.Yb.trans a.Yb⟩
structure Tv(H H':Z6)(t:Nat->Bool):Prop where
 le:H.parts.length<=H'.parts.length
 keep:∀j,j<H.parts.length->kW (H.p j) (H'.p j)
 es:∀j,j<H.parts.length->H'.es j=H.es j++if t j=true then [H.entries]else []
 sw:H'.entries=H.entries
variable{L:Sv}{f:Z6->Nat->HE}
variable{H H':Z6}{i:Nat}
section
variable{t:Nat->Bool}
def Tv.refl(a:∀j,j<R H.parts->t j=false):Tv H H t:=⟨Zq _,λ_ _=>.refl _,λj b=>by rw[a j b];simp,rfl⟩
def Tv.re(h:H'.parts=H.parts)(c:H'.entries=H.entries)(a:∀j,j<R H.parts->t j=false):Tv H H' t:=
 ⟨by rw[h];exact Zq _,λj _=>by unfold Z6.p;rw[h];exact .refl _,λj b=>by rw[a j b];unfold Z6.es;rw[h];simp,c⟩
def es_setP(H:Z6)(i j:Nat)(f:Part->Part):(H.Zh i f).es j=H.es j:=by
 unfold Z6.es Z6.Zh;dsimp only;rw[dT];cases H.parts[j]? with
 |none=>rfl
 |some q=>by_cases e:i=j<;>simp[e]
def ga(H:Z6)(i j:Nat)(a:j<R H.parts):(H.WT i).es j=H.es j++if i=j then [H.entries]else []:=by
 unfold Z6.es Z6.WT;dsimp only;rw[dT,Zv a];by_cases e:i=j<;>simp[e]
def Tv.Zh{f:Part->Part}(c:∀p,kW p<|f p)(b:∀j,j<R H.parts->t j=false):Tv H (H.Zh i f) t:=
 ⟨by show _<=R (H.parts.modify _ _);rw[aμ];exact Zq _,λj a=>by
  rw[xR H i f a];split
  ·exact c _
  exact .refl _,λj a=>by rw[es_setP,b j a];simp,rfl⟩
def Tv.WT(h:Tv H H' λ_=>false)(b:∀j,j<R H.parts->t j=decide (i=j)):Tv H (H'.WT i) t:=
 ⟨by show _<=R (H'.parts.modify _ _);rw[aμ];exact h.le,λj a=>by rw[Jl];exact h.keep j a,λj a=>by
  rw[ga _ _ _<|rp a h.le,h.es j a,h.sw,b j a];simp,h.sw⟩
def hU(H:Z6)(i j:Nat)(a:j<R H.parts):(H.Yz i).es j=H.es j++if(decide ((H.p j).Yr=(H.p i).Yr)&&decide ((H.p j).YD=(H.p i).YD)&&Yu (H.p j))=true then [H.entries]else []:=by
 have b:=Qp<|Zv a;unfold Z6.es Z6.Yz;dsimp only;rw[dp,Zv a,b];simp only[cφ,Option.getD_some];split<;>simp_all
def dx(H:Z6)(i j:Nat)(a:j<R H.parts):kW (H.p j)<|(H.Yz i).p j:=by
 unfold Z6.p Z6.Yz;dsimp only;rw[dp,Zv a];simp only[cφ,Option.getD_some];split<;>exact⟨rfl,rfl,rfl,rfl⟩
def Tv.start(n:Int)(r c:ba)(h:(W_ H n r c).2=0):Tv H (W_ H n r c).1 λ_=>false:=by
 by_cases b:ZW [Z8 (decide<|n<=1000000) 2,Z8 (H.U1 n).isNone 5,Z8 ((H.AI r).isSome&&(H.Ob c).isSome) 6,Z8 H.Tk.isNone 17]=0
 case neg=>rw[OG rfl b]at h;exact absurd h b
 obtain⟨_,_,f,_⟩:=G2 b;rw[Zw]at f;obtain⟨k,g⟩:=sk.1 f.1;obtain⟨j,a⟩:=sk.1 f.2;have d:=(VK g).1;have e:=(Y8 a).1;rw[Lf b g (Zv d) a<|Zv e]at h⊢;split
 ·rename_i m;rw[Zn m]at h;exact absurd h m
 refine⟨F,λj a=>?_,λj a=>?_,rfl⟩
 ·unfold Z6.p;dsimp only;rw[m6 a];exact .refl _
 unfold Z6.es;dsimp only;rw[m6 a];simp
def Tv.about{n:Int}(h:(YJ H n f).2=0)(a:∀i,H.U1 n=some i->(f H i).2=0->Tv H ((f H i).1.WT i) t):Tv H (YJ H n f).1 t:=by
 unfold YJ at h⊢;cases e:H.U1 n with
 |none=>rw[e]at h;exact absurd h F
 |some i=>
  rw[e]at h;dsimp only at h⊢;by_cases h0:(f H i).2=0
  ·rw[Zn h0];exact a i e h0
  rw[Zm h0]at h;exact absurd h h0
def sect_tv(hi:H.U1 L.num=some i)(h:(Xz L.rest H i).2=0):Tv H ((Xz L.rest H i).1.WT i)<|CK H 9 L:=by
 have d:=o9 hi;have r:∀j,CK H 9 L j=(decide (i=j)||(decide (i≠j)&&H.outside (Y6 (Y9 L.rest).1 H.XR.limit).1&&decide ((H.p j).Yr=(H.p i).Yr/\(H.p j).YD=(H.p i).YD)&&Yu (H.p j))):=λj=>by
  show(match H.U1 L.num with|some i=>_|none=>_)=_;rw[hi]
 unfold Xz at h⊢;by_cases u:(H.p i).place≠1
 ·rw[Zn u]at h;exact absurd h F
 rw[Zm u]at h⊢;by_cases q:(Y9 L.rest).2≠0
 ·rw[Zn q]at h;exact absurd h q
 rw[Zm q]at h⊢;dsimp only at h⊢;by_cases o:(Y6 (Y9 L.rest).1 H.XR.limit).2≠0
 ·rw[Zn o]at h;exact absurd h o
 rw[Zm o];dsimp only;have a:Tv H (H.Zh i λp=>{p with place:=4,depth:=(Y6 (Y9 L.rest).1 H.XR.limit).1}) λ_=>false:=.Zh (λ_=>⟨rfl,rfl,rfl,rfl⟩) λ_ _=>rfl
 generalize f:(H.Zh i λp=>{p with place:=4,depth:=(Y6 (Y9 L.rest).1 H.XR.limit).1})=H1 at a⊢;have m:(H1.p i).place=4:=by rw[←f,xR H i _ d,Zn rfl]
 have g:∀j,j<R H.parts->i≠j->H1.p j=H.p j:=λj b e=>by rw[←f,xR H i _ b,Zm e]
 have c:=a.keep i d;cases s:H.outside (Y6 (Y9 L.rest).1 H.XR.limit).1 with
 |false=>
  rw[Zm C];refine a.WT λj b=>?_
  rw[r j,s];simp
 |true=>
  rw[Zn rfl];have x2:R H.parts<=R (H1.Yz i).parts:=by
   show _<=R (H1.parts.map _);rw[Zx];exact a.le
  refine⟨by show _<=R ((H1.Yz i).parts.modify _ _);rw[aμ];exact x2,λj b=>?_,λj b=>?_,a.sw⟩
  ·rw[Jl];exact(a.keep j b).trans<|dx H1 i j<|rp b a.le
  rw[ga _ _ _<|rp b x2,hU _ _ _<|rp b a.le,a.es j b,r j,s];have x:(H1.Yz i).entries=H.entries:=a.sw;rw[x,a.sw];by_cases e:i=j
  ·subst e;have:Yu (H1.p i)=false:=by unfold Yu;rw[m];rfl
   rw[this];simp
  rw[g j b e,c.Yr,c.YD];by_cases w:(H.p j).Yr=(H.p i).Yr<;>by_cases v:(H.p j).YD=(H.p i).YD<;>cases Yu (H.p j)<;>simp[e,w,v]
def Tv.rP(k:Nat)(L:Sv)(h:(WQ k H L).2=0):Tv H (WQ k H L).1<|CK H k L:=by
 unfold WQ at h⊢;split
 ·exact .refl λ_ _=>rfl
 ·exact .start _ _ _ h
 ·change (Yl H (ZI L.rest).1 (ZI L.rest).2).2=0 at h;unfold Yl at h⊢;cases e:H.Tk with
  |none=>rw[e]at h;exact absurd h F
  |some i=>
   rw[e]at h;have a:∀j,CK H 2 L j=decide (i=j):=λj=>by show decide (H.Tk=some j)=_;rw[e];simp
   dsimp only at h⊢;by_cases b:(ZI L.rest).2≠0
   ·rw[Zn b]at h;exact absurd h b
   rw[Zm b]at h⊢;by_cases c:Yp H.plan (ZI L.rest).1≠0
   ·rw[Zn c]at h;exact absurd h c
   rw[Zm c]at h⊢;cases f:(H.p i).frames.find? (λg=>decide<|g.tick=(ZI L.rest).1.tick)with
   |none=>
    dsimp only;exact Tv.WT (.Zh (λ_=>⟨rfl,rfl,rfl,rfl⟩) λ_ _=>rfl) λj _=>a j
   |some g=>
    rw[f]at h;dsimp only at h⊢;by_cases d:g.values=(ZI L.rest).1.values
    ·rw[Zn d];exact(Tv.refl (t:=λ_=>false) λ_ _=>rfl).WT λj _=>a j
    rw[Zm d]at h;exact absurd h F
 ·change (Sz H).2=0 at h;unfold Sz at h⊢;cases e:H.Tk with
  |none=>rw[e]at h;exact absurd h F
  |some i=>
   have a:∀j,CK H 3 L j=decide (i=j):=λj=>by show decide (H.Tk=some j)=_;rw[e];simp
   exact Tv.WT (.Zh (λ_=>⟨rfl,rfl,rfl,rfl⟩) λ_ _=>rfl) λj _=>a j
 ·refine .about h λi hi h0=>?_
  have a:∀j,CK H 4 L j=decide (i=j):=λj=>by show decide (H.U1 L.num=some j)=_;rw[hi];simp
  unfold Wi at h0⊢;split at h0
  ·rename_i b;rw[Zn b];dsimp only;exact Tv.WT (.Zh (λ_=>⟨rfl,rfl,rfl,rfl⟩) λ_ _=>rfl) λj _=>a j
  exact absurd h0 F
 ·refine .about h λi hi h0=>?_
  have a:∀j,CK H 5 L j=decide (i=j):=λj=>by show decide (H.U1 L.num=some j)=_;rw[hi];simp
  unfold Tu at h0⊢;split at h0
  ·rename_i b;rw[Zn b];dsimp only;exact Tv.WT (.Zh (λ_=>⟨rfl,rfl,rfl,rfl⟩) λ_ _=>rfl) λj _=>a j
  exact absurd h0 F
 ·unfold Tw;dsimp only;split<;>exact .re rfl rfl λ_ _=>rfl
 ·unfold XZ;repeat' split
  all_goals exact .re rfl rfl λ_ _=>rfl
 ·refine .about h λi hi h0=>?_
  have a:∀j,CK H 8 L j=decide (i=j):=λj=>by show decide (H.U1 L.num=some j)=_;rw[hi];simp
  unfold WU at h0⊢;split at h0
  ·rename_i b;rw[Zn b];dsimp only;exact Tv.WT (.Zh (λ_=>⟨rfl,rfl,rfl,rfl⟩) λ_ _=>rfl) λj _=>a j
  exact absurd h0 F
 ·exact .about h λi hi h0=>sect_tv hi h0
 ·unfold XX;dsimp only;repeat' split
  all_goals exact .re rfl rfl λ_ _=>rfl
 ·refine .about h λi hi h0=>?_
  have a:∀j,CK H 11 L j=decide (i=j):=λj=>by show decide (H.U1 L.num=some j)=_;rw[hi];simp
  unfold Xe at h0⊢;dsimp only at h0⊢;split at h0
  ·rename_i b;rw[Zn b];exact Tv.WT (.re rfl rfl λ_ _=>rfl) λj _=>a j
  rename_i b;exact absurd h0 b
 have a:∀j,CK H k L j=false:=λj=>by
  unfold CK;split<;>first|rfl|(exfalso;simp_all;done)
 unfold Wo;split<;>exact .re rfl rfl λj _=>a j
end
variable{l:List Entry}{n:Net}
def sH(h:(Z2 n l).2.2=0):(Z2 n l).1.XR=n/\(Z2 n l).1.plan=(ZO n.plan).1:=by
 have vv:∀(l:List Entry)(H:Z6)(i:Nat),(runT H i l).1.XR=H.XR/\(runT H i l).1.plan=H.plan:=by
  intro l
  induction l with
  |nil=>intro H i;exact⟨rfl,rfl⟩
  |cons x l a=>
   intro H i;have e:=UY H x;rw[runT];split
   ·exact⟨e.2,e.1⟩
   exact⟨(a _ _).1.trans e.2,(a _ _).2.trans e.1⟩
 obtain⟨_,_,e⟩:=Ur h;rw[e];exact vv _ _ _
variable{H:Z6}
def dZ{x:Entry}(h:(Za H x).2=0):∃k,k<13/\X2 (ZQ 32 x.text).1=some k/\(Yn x.text).2=true/\(WQ k H (Yn x.text).1).2=0/\(Za H x).1={(WQ k H (Yn x.text).1).1 with time:=x.at_,entries:=(WQ k H (Yn x.text).1).1.entries+1}:=by
 unfold Za at h⊢;by_cases a:H.head x=0
 ·rw[Zm<|Zp a]at h⊢;obtain⟨i,hi⟩:=sk.1 (HV a).2.1;obtain⟨k,d⟩:=sk.1 (HV a).2.2.2.2.2.2;rw[hi,d]at h⊢;dsimp only at h⊢;by_cases c:H.tail x i k=0
  ·rw[Zm<|Zp c]at h⊢;by_cases b:(WQ k H (Yn x.text).1).2=0
   ·rw[Zm<|Zp b];exact⟨k,(Y8 d).1,rfl,(text_eq d).1▸fR c,b,rfl⟩
   rw[Zn b]at h;exact absurd h b
  rw[Zn c]at h;exact absurd h c
 rw[Zn a]at h;exact absurd h a
def lN{n:Int}(h:(YJ H n f).2=0):∃i,H.U1 n=some i/\(f H i).2=0/\(YJ H n f).1=(f H i).1.WT i:=by
 unfold YJ at h⊢;cases e:H.U1 n with
 |none=>rw[e]at h;exact absurd h F
 |some i=>
  rw[e]at h;dsimp only at h⊢;by_cases h0:(f H i).2=0
  ·rw[Zn h0];exact⟨i,rfl,h0,rfl⟩
  rw[Zm h0]at h;exact absurd h h0
variable{r:ba}
def sM{n:Int}{c:ba}(h:(W_ H n r c).2=0):∃(j:Nat)(v:Rec×Int)(q:XA×Int),v∈H.ZF/\v.1.name=r/\(rZ H->v.1.YD=H.st.YD r)/\H.Z5[j]?=some q/\q.1.name=c/\H.U1 n=none/\H.Tk=none/\n<=1000000/\q.1.ZA<q.1.Wb/\(W_ H n r c).1={H with Z5:=H.Z5.modify j λq=>({q.1 with ZA:=q.1.ZA+1},q.2),parts:=H.parts++[(⟨n,v.1.name,v.1.YD,q.1.name,[],0,false,0,false,Span.zero⟩,[v.2,q.2,H.entries])]}:=by
 by_cases d:ZW [Z8 (decide<|n<=1000000) 2,Z8 (H.U1 n).isNone 5,Z8 ((H.AI r).isSome&&(H.Ob c).isSome) 6,Z8 H.Tk.isNone 17]=0
 case neg=>rw[OG rfl d]at h;exact absurd h d
 obtain⟨w,u,o,s⟩:=G2 d;rw[Zw]at o;obtain⟨k,g⟩:=sk.1 o.1;obtain⟨j,p⟩:=sk.1 o.2;obtain⟨a,f⟩:=VK g;obtain⟨b,m⟩:=Y8 p;rw[Lf d g (Zv a) p<|Zv b]at h⊢;split
 ·rename_i e;rw[Zn e]at h;exact absurd h e
 rename_i e;refine⟨j,H.ZF[k],H.Z5[j],Zt a,by simpa using f,λhi=>?_,Zv b,by simpa using m,dρ.1 u,dρ.1 s,pf w,pf (sA<|Zu.1 e).1,rfl⟩;have:=vu hi.YD r;rw[g]at this;simp only[Zv a]at this;exact this
def Z6.cn(H:Z6):List<|ba×Int:=H.Z5.map λq=>(q.1.name,q.2)
def gO{α β:Type}(f:α->β)(g:α->α)(a:∀x,f (g x)=f x)(l:List α)(j:Nat):(l.modify j g).map f=l.map f:=by
 refine P2 λi=>?_
 rw[dp,dT,dp];cases l[i]? with
 |none=>simp
 |some x=>by_cases e:j=i<;>simp[e,a]
variable{m:Int}{i:Nat}{E:Z6}{t:ba}
def j4{n:Int}(a:∀i,(f H i).1.ZF=H.ZF/\(f H i).1.cn=H.cn):(YJ H n f).1.ZF=H.ZF/\(YJ H n f).1.cn=H.cn:=by
 unfold YJ;cases H.U1 n with
 |none=>exact⟨rfl,rfl⟩
 |some i=>
  dsimp only;split
  ·exact a i
  exact a i
def gU(k:Nat)(L:Sv):(k≠10->(WQ k H L).1.ZF=H.ZF)/\(k≠6->(WQ k H L).1.cn=H.cn):=by
 have both:∀{G:Z6}{j:Nat},G.ZF=H.ZF/\G.cn=H.cn->(j≠10->G.ZF=H.ZF)/\(j≠6->G.cn=H.cn):=λh=>⟨λ_=>h.1,λ_=>h.2⟩
 unfold WQ;split
 ·exact both ⟨rfl,rfl⟩
 ·refine both ?_;unfold W_;dsimp only
  repeat' split
  all_goals first|exact⟨rfl,rfl⟩|exact⟨rfl,gO (λq:XA×Int=>(q.1.name,q.2)) (λq=>({q.1 with ZA:=q.1.ZA+1},q.2)) (λ_=>rfl) H.Z5 _⟩
 ·refine both ?_;unfold Yl;repeat' split
  all_goals exact⟨rfl,rfl⟩
 ·refine both ?_;unfold Sz;split<;>exact⟨rfl,rfl⟩
 ·exact both (j4 λi=>by unfold Wi;split<;>exact⟨rfl,rfl⟩)
 ·exact both (j4 λi=>by unfold Tu;split<;>exact⟨rfl,rfl⟩)
 ·refine⟨λ_=>?_,λh=>absurd rfl h⟩;unfold Tw;dsimp only;split<;>rfl
 ·refine both ?_;unfold XZ;repeat' split
  all_goals first|exact⟨rfl,rfl⟩|exact⟨rfl,gO (λq:XA×Int=>(q.1.name,q.2)) (λq=>({q.1 with ZA:=0},q.2)) (λ_=>rfl) H.Z5 _⟩
 ·exact both (j4 λi=>by unfold WU;split<;>exact⟨rfl,rfl⟩)
 ·refine both<|j4 λi=>?_;unfold Xz;dsimp only
  repeat' split
  all_goals exact⟨rfl,rfl⟩
 ·refine⟨λh=>absurd rfl h,λ_=>?_⟩;unfold XX;dsimp only;repeat' split
  all_goals rfl
 ·refine both<|j4 λi=>?_;unfold Xe;dsimp only;split<;>exact⟨rfl,rfl⟩
 refine both ?_;unfold Wo;split<;>exact⟨rfl,rfl⟩
def cD(d:Hh H.ZF)(h:(XX H r t).2=0):∃ph,(XX H r t).1.ZF=H.ZF++[(⟨r,H.st.YD r+1,ph⟩,H.entries)]:=by
 have e:=vu d r;unfold XX at h⊢;split
 ·rename_i a;rw[Zn a]at h;exact absurd h F
 rename_i a;rw[Zm a]at h;dsimp only at h⊢;split
 ·rename_i b;rw[Zn b]at h;exact absurd h b
 refine⟨(VJ t).1,?_⟩;dsimp only;congr 4;rw[←e];cases c:H.AI r with
 |none=>rfl
 |some j=>
  have f:=(VK c).1;simp only[bφ,Zv f]
def vp{c:ba}(h:(Tw H c m).2=0):H.Ob c=none/\(Tw H c m).1.cn=H.cn++[(c,H.entries)]:=by
 unfold Tw at h⊢;dsimp only at h⊢;split
 ·rename_i a;refine⟨?_,by unfold Z6.cn;simp⟩;cases d:H.Ob c with
  |none=>rfl
  |some j=>rw[d]at a;cases b:YA c<;>rw[b]at a<;>exact absurd a (by simp[ZW,Z8])
 rename_i a;rw[Zm a]at h;exact absurd h a
def DA{c:ba}:H.Ob c=none↔∀q∈H.cn,q.1≠c:=by
 refine(T9 _ _ 0).trans ⟨λh q a=>?_,λh q a=>?_⟩
 ·obtain⟨x,b,rfl⟩:=rx.1 a;exact a6<|h x b
 exact Zy<|h _<|rx.2 ⟨q,a,rfl⟩
def r9:H.U1 m=none↔∀j,j<R H.parts->(H.p j).num≠m:=by
 refine(T9 _ _ 0).trans ⟨λh j a=>?_,λh q b=>?_⟩
 ·have:=h _<|Zt a;rw[Qp<|Zv a];exact a6 this
 obtain⟨j,a,rfl⟩:=dl b;have:=h j a;rw[Qp<|Zv a]at this;exact Zy this
def iZ(h:H.U1 m=some i):(H.p i).num=m:=by
 obtain⟨b,a⟩:=Y8 h;rw[Qp<|Zv b];exact pf a
def HS.pIx2(h:HS H)(hi:i<R H.parts):H.U1 (H.p i).num=some i:=by rw[←C6];exact h.U1 hi
def My{ph:List Ph}{e:Int}(h:E.ZF=H.ZF++[(⟨r,H.st.YD r+1,ph⟩,e)])(s:ba):E.st.YD s=H.st.YD s+if s=r then 1 else 0:=by
 unfold State.YD Z6.st;dsimp only;rw[h,ne,List.filter_append,Zs];by_cases q:s=r
 ·subst q;simp
 have:¬r=s:=λe=>q e.symm
 simp[q,this]
def Mz(h:E.ZF=H.ZF)(s:ba):E.st.YD s=H.st.YD s:=by unfold State.YD Z6.st;dsimp only;rw[h]
def lq(a:Hh H.ZF){v:Rec×Int}(h:v∈H.ZF):v.1.YD<=H.st.YD v.1.name:=by
 obtain⟨i,hi,rfl⟩:=dl h;rw[a i _<|Zv hi];have e:H.st.YD H.ZF[i].1.name=(R (H.ZF.filter λr=>decide<|r.1.name=H.ZF[i].1.name):Int):=by
  show(R ((H.ZF.map (·.1)).filter λr=>decide<|r.name=H.ZF[i].1.name):Int)=_;rw[pA,Zx];rfl
 rw[e];have:=((List.take_sublist (i+1) H.ZF).filter λr=>decide<|r.1.name=H.ZF[i].1.name).length_le;omega
def DG(H:Z6)(hi:i<R H.parts)(d:Span):((H.Zh i λp=>{p with place:=4,depth:=d}).p i).depth=d:=by rw[xR H i _ hi,Zn rfl]
def CU(H:Z6)(i j:Nat)(a:j<R H.parts):((H.Yz i).p j).depth=(H.p j).depth:=by
 unfold Z6.p Z6.Yz;dsimp only;rw[dp,Zv a];simp only[cφ,Option.getD_some];split<;>rfl
def sect_ok{vj:ba}(hi:i<R H.parts)(h:(Xz vj H i).2=0):((H.p i).place=1/\¬(Y6 (Y9 vj).1 H.XR.limit).2≠0)/\(((Xz vj H i).1.WT i).p i).depth=(Y6 (Y9 vj).1 H.XR.limit).1:=by
 rw[Jl];unfold Xz at h⊢;by_cases c:(H.p i).place≠1
 ·rw[Zn c]at h;exact absurd h F
 rw[Zm c]at h⊢;by_cases b:(Y9 vj).2≠0
 ·rw[Zn b]at h;exact absurd h b
 rw[Zm b]at h⊢;dsimp only at h⊢;by_cases a:(Y6 (Y9 vj).1 H.XR.limit).2≠0
 ·rw[Zn a]at h;exact absurd h a
 rw[Zm a];dsimp only;refine⟨⟨Zu.1 c,a⟩,?_⟩;split
 ·rw[CU _ _ _ (by show i<R (H.parts.modify _ _);rw[aμ];exact hi),DG H hi]
 rw[DG H hi]
def vB(E:Z6)(k:Nat)(L:Sv)(r:ba)(v:Int):Bool:=decide (k=10)&&(decide (L.Yr=r)&&decide (E.st.YD r=v))
def cB(k:Nat)(L:Sv)(c:ba):Bool:=decide (k=6)&&decide (L.Yb=c)
def nB(n:Net)(H E:Z6)(k:Nat)(L:Sv)(m:Int)(r:ba)(v:Int):Bool:=match k with
 |1=>decide<|L.num=m
 |4=>decide<|L.num=m
 |5=>decide<|L.num=m
 |8=>decide<|L.num=m
 |11=>decide<|L.num=m
 |2=>decide<|(H.p<|H.Tk.getD 0).num=m
 |3=>decide<|(H.p<|H.Tk.getD 0).num=m
 |9=>decide (L.num=m)||match H.U1 m with
  |some j=>decide ((E.p<|(E.U1 L.num).getD 0).Yr=r/\(E.p<|(E.U1 L.num).getD 0).YD=v)&&KC n (E.p<|(E.U1 L.num).getD 0).depth&&Yu (H.p j)
  |none=>false
 |_=>false
def CW(n:Net)(H E:Z6)(k:Nat)(L:Sv)(q:Part):Bool:=vB E k L q.Yr q.YD||(cB k L q.Yb||nB n H E k L q.num q.Yr q.YD)
def Z6.Pc(H:Z6):Prop:=∀j,j<R H.parts->(∃v∈H.ZF,v.1.name=(H.p j).Yr/\v.1.YD=(H.p j).YD)/\∃q∈H.cn,q.1=(H.p j).Yb
variable{k:Nat}
def rR(a:k=2\/k=3)(h:(WQ k H L).2=0):∃u,H.Tk=some u:=by
 cases e:H.Tk with
 |some u=>exact⟨u,rfl⟩
 |none=>
  exfalso;rcases a with rfl|rfl
  ·have h:(Yl H (ZI L.rest).1 (ZI L.rest).2).2=0:=h;unfold Yl at h;rw[e]at h;exact absurd h F
  have h:(Sz H).2=0:=h;unfold Sz at h;rw[e]at h;exact absurd h F
def Dh(a:k=4\/k=5\/k=8\/k=9\/k=11)(h:(WQ k H L).2=0):∃i,H.U1 L.num=some i:=by
 rcases a with rfl|rfl|rfl|rfl|rfl<;>exact(lN h).imp λ_ h=>h.1
variable{j:Nat}
def aa(d:HS H)(o:H.Pc)(J:H.XR=n)(M:k<13)(h:(WQ k H L).2=0)(c:j<R H.parts):CW n H (WQ k H L).1 k L (H.p j)=CK H k L j:=by
 have a:∀{i:Nat},H.U1 L.num=some i->decide (L.num=(H.p j).num)=decide (H.U1 L.num=some j):=λ{i} e=>by
  refine decide_eq_decide.2 ⟨λq=>by rw[q];exact d.pIx2 c,λq=>(iZ q).symm⟩
 unfold CW vB cB;rcases(show k=0\/k=1\/k=2\/k=3\/k=4\/k=5\/k=6\/k=7\/k=8\/k=9\/k=10\/k=11\/k=12 by omega)with rfl|rfl|rfl|rfl|rfl|rfl|rfl|rfl|rfl|rfl|rfl|rfl|rfl
 ·rfl
 ·obtain⟨_,_,_,_,_,_,_,_,G,_⟩:=sM h;show decide (L.num=(H.p j).num)=false;exact Zy λe=>r9.1 G j c e.symm
 ·obtain⟨u,m⟩:=rR (.inl rfl) h;show decide ((H.p<|H.Tk.getD 0).num=(H.p j).num)=decide (H.Tk=some j);rw[m];exact decide_eq_decide.2 ⟨λe=>by rw[d.EV _ _ (Y8 m).1 c e],λe=>by rw[aγ e];rfl⟩
 ·obtain⟨u,m⟩:=rR (.inr rfl) h;show decide ((H.p<|H.Tk.getD 0).num=(H.p j).num)=decide (H.Tk=some j);rw[m];exact decide_eq_decide.2 ⟨λe=>by rw[d.EV _ _ (Y8 m).1 c e],λe=>by rw[aγ e];rfl⟩
 ·exact a (Dh (.inl rfl) h).choose_spec
 ·exact a (Dh (.inr<|.inl rfl) h).choose_spec
 ·obtain⟨K,_⟩:=vp h;obtain⟨_,q,F,e⟩:=o j c;have:decide (L.Yb=(H.p j).Yb)=false:=Zy λA=>DA.1 K q F<|e.trans A.symm
  show(false||(true&&decide (L.Yb=(H.p j).Yb)||false))=false;rw[this];rfl
 ·rfl
 ·exact a (Dh (.inr<|.inr<|.inl rfl) h).choose_spec
 ·have B:=Tv.rP 9 L h;have z:=d.rP 9 L;obtain⟨i,hi,h0,e⟩:=lN (H:=H) (n:=L.num) (f:=Xz L.rest) h;have b:=o9 hi;have x:=(sect_ok b h0).2;rw[←e]at x;change ((WQ 9 H L).1.p i).depth=_ at x;have g:=B.keep i b;have y:(WQ 9 H L).1.U1 L.num=some i:=by
   have:=z.pIx2 (i:=i)<|rp b B.le;rw[g.num,iZ hi]at this;exact this
  have I:KC n (Y6 (Y9 L.rest).1 H.XR.limit).1=H.outside (Y6 (Y9 L.rest).1 H.XR.limit).1:=by
   subst J;unfold Z6.outside KC;rw[Bool.not_and,fj,fj]
  show(decide (L.num=(H.p j).num)||match H.U1 (H.p j).num with
   |some D=>decide (((WQ 9 H L).1.p<|((WQ 9 H L).1.U1 L.num).getD 0).Yr=(H.p j).Yr/\((WQ 9 H L).1.p<|((WQ 9 H L).1.U1 L.num).getD 0).YD=(H.p j).YD)&&KC n ((WQ 9 H L).1.p<|((WQ 9 H L).1.U1 L.num).getD 0).depth&&Yu (H.p D)
   |none=>false)=match H.U1 L.num with
   |some i=>decide (i=j)||(decide (i≠j)&&H.outside (Y6 (Y9 L.rest).1 H.XR.limit).1&&decide ((H.p j).Yr=(H.p i).Yr/\(H.p j).YD=(H.p i).YD)&&Yu (H.p j))
   |none=>false
  rw[d.pIx2 c,y,hi];simp only[Option.getD_some,x,I,g.Yr,g.YD];by_cases q:i=j
  ·subst q;rw[Zz (iZ hi).symm];simp
  have C:¬L.num=(H.p j).num:=λA=>q<|d.EV i j b c<|(iZ hi).trans A
  rw[Zy C];simp only[q,decide_false,ai,ne_eq,not_false_eq_true,decide_true,tn];rw[Bool.and_comm<|H.outside _];congr 2;exact decide_eq_decide.2 ⟨λe=>⟨e.1.symm,e.2.symm⟩,λe=>⟨e.1.symm,e.2.symm⟩⟩
 ·obtain⟨ph,E⟩:=cD d.inv.YD h;obtain⟨⟨v,w,s,r⟩,_⟩:=o j c;have x2:=lq d.inv.YD w;rw[s,r]at x2;have z:=My E (H.p j).Yr;show(true&&(decide (L.Yr=(H.p j).Yr)&&decide ((XX H L.Yr L.rest).1.st.YD (H.p j).Yr=(H.p j).YD))||(false||false))=false;rw[z];by_cases q:L.Yr=(H.p j).Yr
  ·rw[Zn q.symm,Zy (show¬H.st.YD (H.p j).Yr+1=(H.p j).YD by omega)];simp
  rw[Zy q];rfl
 ·exact a (Dh (.inr<|.inr<|.inr<|.inr rfl) h).choose_spec
 rfl
def VD(n:Net)(l:List Entry)(t:Nat):Z6:=(Z2 n<|l.take t).1
def Qf(l:List Entry)(t:Nat):Nat:=(l[t]?.bind λx=>X2 (ZQ 32 x.text).1).getD 13
def Gt(l:List Entry)(t:Nat):Sv:=((l[t]?.map λx=>(Yn x.text).1)).getD ⟨[],[],[],[],0⟩
def vT(n:Net)(l:List Entry)(r:ba)(v:Int)(t:Nat):Bool:=vB (VD n l<|t+1) (Qf l t) (Gt l t) r v
def Nc(l:List Entry)(c:ba)(t:Nat):Bool:=cB (Qf l t) (Gt l t) c
def nT(n:Net)(l:List Entry)(m:Int)(r:ba)(v:Int)(t:Nat):Bool:=nB n (VD n l t) (VD n l<|t+1) (Qf l t) (Gt l t) m r v
def E0(n:Net)(l:List Entry)(q:Part)(t:Nat):Bool:=CW n (VD n l t) (VD n l<|t+1) (Qf l t) (Gt l t) q
variable{p q:Part}
def own_keep(h:kW p q):E0 n l q=E0 n l p:=by
 funext t;unfold E0 CW;rw[h.Yr,h.YD,h.Yb,h.num]
structure StepAt(n:Net)(l:List Entry)(i:Nat):Prop where
 lt:Qf l i<13
 num:0<=(Gt l i).num
 verb:(Gt l i).verb=Z4.getD (Qf l i) []
 hs:HS (VD n l i)
 XR:(VD n l i).XR=n
 ok:(WQ (Qf l i) (VD n l i)<|Gt l i).2=0
 sw:(VD n l i).entries=(i:Int)
 next:∃t,VD n l (i+1)={(WQ (Qf l i) (VD n l i)<|Gt l i).1 with time:=t,entries:=(WQ (Qf l i) (VD n l i)<|Gt l i).1.entries+1}
def AH(h:(Z2 n l).2.2=0)(hi:i<R l):StepAt n l i:=by
 obtain⟨q,p⟩:=Aq h hi;obtain⟨k,m,e,g,o,f⟩:=dZ q;have b:Qf l i=k:=by unfold Qf;rw[Zv hi];simp[e]
 have a:Gt l i=(Yn l[i].text).1:=by unfold Gt;rw[Zv hi];rfl
 refine⟨b▸m,a▸(G3 g).1,?_,F5<|UP h i,(sH<|UP h i).1,?_,?_,?_⟩
 ·rw[b,a];obtain⟨d,c⟩:=Y8 e;rw[show(Yn l[i].text).1.verb=(ZQ 32 l[i].text).1 from As _,TJ d];simpa using c
 ·rw[b,a];exact o
 ·have:=fQ<|UP h i;rw[List.length_take_of_le<|ft hi]at this;exact this
 rw[b,a];exact⟨l[i].at_,p.trans f⟩
def filter_or{α:Type}(p q:α->Bool):∀(l:List α),(∀x∈l,¬(p x=true/\q x=true))->(l.filter λx=>p x||q x).Perm (l.filter p++l.filter q)
 |[],_=>.nil
 |x::l,h=>by
  have a:=filter_or p q l λy b=>h y<|rl _ b
  have c:=h x rv;rw[eK,eK,eK];cases e:p x<;>cases d:q x
  ·simpa using a
  ·simp only[ax,if_true,bξ,if_false];exact(a.cons x).trans List.perm_middle.symm
  ·simp only[ce,if_true,bξ,if_false,H5];exact a.cons x
  exact absurd ⟨e,d⟩ c
def sD(p:Nat->Bool)(i:Nat):(List.range<|i+1).filter p=(List.range i).filter p++if p i=true then [i]else []:=by
 rw[cε,List.filter_append,eK,List.filter_nil]
structure dK(n:Net)(l:List Entry)(i:Nat):Prop where
 pc:(VD n l i).Pc
 vr:∀v∈(VD n l i).ZF,0<=v.2/\(List.range i).filter (vT n l v.1.name v.1.YD)=[v.2.toNat]
 cr:∀c∈(VD n l i).cn,0<=c.2/\(List.range i).filter (Nc l c.1)=[c.2.toNat]
 vm:∀t,t<i->∀r v,vT n l r v t=true->v<=(VD n l i).st.YD r
 cm:∀t,t<i->∀c,Nc l c t=true->∃q∈(VD n l i).cn,q.1=c
 nm:∀t,t<i->∀m r v,(VD n l i).U1 m=none->nT n l m r v t=false
 es:∀j,j<(VD n l i).parts.length->((VD n l i).es j).Perm (((List.range i).filter<|E0 n l<|(VD n l i).p j).map Int.ofNat)
def hist_0(h:(Z2 n l).2.2=0):dK n l 0:=by
 have e:VD n l 0=Z6.init n (ZO n.plan).1:=by
  obtain⟨_,_,e⟩:=Ur<|UP h 0;show(Z2 n<|l.take 0).1=_;rw[e];rfl
 refine⟨?_,?_,?_,λt a=>absurd a<|bπ t,λt a=>absurd a<|bπ t,λt a=>absurd a<|bπ t,?_⟩
 ·rw[e];exactλj c=>absurd c<|bπ j
 ·rw[e];exactλv b=>by cases b
 ·rw[e];exactλv b=>by cases b
 rw[e];exactλj c=>absurd c<|bπ j
def Ap(a:k=1)(h:(WQ k H L).2=0):∃v∈H.ZF,∃q∈H.cn,H.U1 L.num=none/\v.1.name=L.Yr/\q.1=L.Yb/\(WQ k H L).1.parts=H.parts++[((⟨L.num,v.1.name,v.1.YD,q.1,[],0,false,0,false,Span.zero⟩:Part),[v.2,q.2,H.entries])]:=by
 subst a;obtain⟨j,v,q,g,f,_,d,c,b,_,_,_,e⟩:=sM h;refine⟨v,g,(q.1.name,q.2),rx.2 ⟨q,mr d,rfl⟩,b,f,c,?_⟩;show(W_ H L.num L.Yr L.Yb).1.parts=_;rw[e]
def DF{q:Part×bd}(h:E.parts=H.parts++[q]):E.p (R H.parts)=q.1/\E.es (R H.parts)=q.2/\R E.parts=R H.parts+1:=by
 unfold Z6.p Z6.es;rw[h,aκ<|Zq _,dδ,Zs];exact⟨rfl,rfl,rfl⟩
def f_(a:k≠1)(h0:0<=L.num)(h:(WQ k H L).2=0):R (WQ k H L).1.parts=R H.parts:=by
 have:=(Mv.rP k L h0 h).len;rw[Zy a]at this;simpa using this
def hist_on(h:(Z2 n l).2.2=0)(hi:i<R l)(am:dK n l i):dK n l<|i+1:=by
 have S:=AH h hi;obtain⟨tm,F⟩:=S.next;have hT:=Tv.rP _ _ S.ok;obtain⟨gv,gc⟩:=gU (H:=VD n l i) (Qf l i)<|Gt l i;have hE:=S.hs.rP (Qf l i)<|Gt l i;have hpl:R (VD n l<|i+1).parts=R (WQ (Qf l i) (VD n l i)<|Gt l i).1.parts:=by rw[F]
 have hpp:∀j,(VD n l<|i+1).p j=(WQ (Qf l i) (VD n l i)<|Gt l i).1.p j:=λj=>by rw[F];rfl
 have hpe:∀j,(VD n l<|i+1).es j=(WQ (Qf l i) (VD n l i)<|Gt l i).1.es j:=λj=>by rw[F];rfl
 have P:(VD n l<|i+1).ZF=(WQ (Qf l i) (VD n l i)<|Gt l i).1.ZF:=by rw[F]
 have T:(VD n l<|i+1).cn=(WQ (Qf l i) (VD n l i)<|Gt l i).1.cn:=by rw[F];rfl
 have hst:∀r,(VD n l<|i+1).st.YD r=(WQ (Qf l i) (VD n l i)<|Gt l i).1.st.YD r:=λr=>Mz P r
 have hpx:∀m,(VD n l<|i+1).U1 m=(WQ (Qf l i) (VD n l i)<|Gt l i).1.U1 m:=λm=>by rw[F];rfl
 have J:∀q,E0 n l q i=CW n (VD n l i) (WQ (Qf l i) (VD n l i)<|Gt l i).1 (Qf l i) (Gt l i) q:=λq=>by unfold E0;rw[F];rfl
 have M:∀r v,vT n l r v i=vB (WQ (Qf l i) (VD n l i)<|Gt l i).1 (Qf l i) (Gt l i) r v:=λr v=>by unfold vT vB;rw[hst]
 have hnT:∀m r v,nT n l m r v i=nB n (VD n l i) (WQ (Qf l i) (VD n l i)<|Gt l i).1 (Qf l i) (Gt l i) m r v:=λm r v=>by unfold nT;rw[F];rfl
 have U:∀c,Nc l c i=cB (Qf l i) (Gt l i) c:=λ_=>rfl
 have x:=S.sw;have hnum:=S.num;have X:=S.hs.inv.YD;have hnet:=S.XR;have hlt:=S.lt;have f:=S.ok;have hH:=S.hs;clear F S;generalize hkk:Qf l i=k at *;generalize hLL:Gt l i=L at *;generalize A:(WQ k (VD n l i) L).1=E at *
 -- versions
 have w:(k≠10/\E.ZF=(VD n l i).ZF)\/(k=10/\∃ph,E.ZF=(VD n l i).ZF++[(⟨L.Yr,(VD n l i).st.YD L.Yr+1,ph⟩,(i:Int))]):=by
  by_cases q:k=10
  ·subst q;have:=cD (r:=L.Yr) (t:=L.rest) X f;rw[show(XX (VD n l i) L.Yr L.rest).1=E from A,x]at this;exact .inr ⟨rfl,this⟩
  exact .inl ⟨q,gv q⟩
 have y:(k≠6/\E.cn=(VD n l i).cn)\/(k=6/\(VD n l i).Ob L.Yb=none/\E.cn=(VD n l i).cn++[(L.Yb,(i:Int))]):=by
  by_cases q:k=6
  ·subst q;have:=vp (c:=L.Yb) (m:=L.num) f;rw[show(Tw (VD n l i) L.Yb L.num).1=E from A,x]at this;exact .inr ⟨rfl,this⟩
  exact .inl ⟨q,gc q⟩
 have Y:∀r,(VD n l i).st.YD r<=E.st.YD r:=λr=>by
  rcases w with⟨_,e⟩|⟨_,ph,e⟩
  ·rw[Mz e];omega
  rw[My e];split<;>omega
 have z:∀v∈(VD n l i).ZF,v∈E.ZF:=λv g=>by
  rcases w with⟨_,e⟩|⟨_,ph,e⟩
  ·rw[e];exact g
  rw[e];exact sb _ g
 have s:∀c∈(VD n l i).cn,c∈E.cn:=λv g=>by
  rcases y with⟨_,e⟩|⟨_,_,e⟩
  ·rw[e];exact g
  rw[e];exact sb _ g
 have G:∀m,E.U1 m=none->(VD n l i).U1 m=none:=λm V=>r9.2 λj D e=>by
  exact r9.1 V j (rp D hT.le) (by rw[(hT.keep j D).num];exact e)
 have x3:(k≠1/\R E.parts=R (VD n l i).parts)\/(k=1/\∃v∈(VD n l i).ZF,∃q∈(VD n l i).cn,(VD n l i).U1 L.num=none/\v.1.name=L.Yr/\q.1=L.Yb/\E.parts=(VD n l i).parts++[((⟨L.num,v.1.name,v.1.YD,q.1,[],0,false,0,false,Span.zero⟩:Part),[v.2,q.2,(i:Int)])]):=by
  by_cases q:k=1
  ·have:=Ap q f;rw[A,x]at this;exact .inr ⟨q,this⟩
  have:=f_ q hnum f;rw[A]at this;exact .inl ⟨q,this⟩
 have hj2:∀j,j<R E.parts->j<R (VD n l i).parts\/(k=1/\j=R (VD n l i).parts):=λj D=>by
  rcases x3 with⟨_,e⟩|⟨q,v,_,c,_,_,_,_,e⟩
  ·exact .inl I
  have:=(DF e).2.2;by_cases K:j<R (VD n l i).parts
  ·exact .inl K
  exact .inr ⟨q,I⟩
 refine⟨λj D=>?_,λv g=>?_,λc o=>?_,λt B r v g=>?_,λt B c o=>?_,λt B m r v V=>?_,λj D=>?_⟩
 ·rw[hpl]at D;rw[hpp,P,T];rcases hj2 j D with q|⟨q,rfl⟩
  ·have hk:=hT.keep j q;obtain⟨⟨v,W,v2,v3⟩,c,c1,c2⟩:=am.pc j q;exact⟨⟨v,z v W,v2.trans hk.Yr.symm,v3.trans hk.YD.symm⟩,c,s c c1,c2.trans hk.Yb.symm⟩
  rcases x3 with⟨K,_⟩|⟨_,v,W,c,c1,_,_,_,e⟩
  ·exact absurd q K
  rw[(DF e).1];exact⟨⟨v,z v W,rfl,rfl⟩,c,s c c1,rfl⟩
 ·rw[P]at g;have old:v∈(VD n l i).ZF->0<=v.2/\(List.range<|i+1).filter (vT n l v.1.name v.1.YD)=[v.2.toNat]:=λg=>by
   obtain⟨a,b⟩:=am.vr v g;refine⟨a,?_⟩;rw[sD,b,M,Zm,i8];unfold vB;intro e;simp only[Zw,de]at e;obtain⟨e1,e2,e3⟩:=e;rcases w with⟨q,_⟩|⟨_,ph,q⟩
   ·exact q e1
   have:=lq X g;rw[My q,Zn e2.symm]at e3;omega
  rcases w with⟨q,e⟩|⟨q,ph,e⟩
  ·rw[e]at g;exact old g
  rw[e]at g;rcases List.mem_append.1 g with g|g
  ·exact old g
  rw[pi.1 g];refine⟨eQ _,?_⟩;dsimp only;rw[sD,fe.2 λt B O=>?_,M,Zn]
  ·rfl
  ·unfold vB;rw[My e,Zn rfl,q];simp
  have:=am.vm t (ek.1 B) _ _ O;omega
 ·rw[T]at o;have old:c∈(VD n l i).cn->0<=c.2/\(List.range<|i+1).filter (Nc l c.1)=[c.2.toNat]:=λo=>by
   obtain⟨a,b⟩:=am.cr c o;refine⟨a,?_⟩;rw[sD,b,U,Zm,i8];unfold cB;intro e;simp only[Zw,de]at e;rcases y with⟨q,_⟩|⟨_,q,_⟩
   ·exact q e.1
   exact DA.1 q c o e.2.symm
  rcases y with⟨q,e⟩|⟨q,K,e⟩
  ·rw[e]at o;exact old o
  rw[e]at o;rcases List.mem_append.1 o with o|o
  ·exact old o
  rw[pi.1 o];refine⟨eQ _,?_⟩;dsimp only;rw[sD,fe.2 λt B O=>?_,U,Zn]
  ·rfl
  ·unfold cB;rw[q];simp
  obtain⟨d,d1,d2⟩:=am.cm t (ek.1 B) _ O;exact DA.1 K d d1 d2
 ·rw[hst];by_cases q:t=i
  ·subst q;rw[M]at g;unfold vB at g;simp only[Zw,de]at g;omega
  have:=am.vm t I r v g;have:=Y r;omega
 ·rw[T];by_cases q:t=i
  ·subst q;rw[U]at o;unfold cB at o;simp only[Zw,de]at o;rcases y with⟨q,_⟩|⟨_,_,e⟩
   ·exact absurd o.1 q
   rw[e];exact⟨_,ui _<|pi.2 rfl,o.2⟩
  obtain⟨d,d1,d2⟩:=am.cm t I c o;exact⟨d,s d d1,d2⟩
 ·rw[hpx]at V;by_cases q:t=i
  ·subst q;rw[hnT];have C:=G m V;have a1:∀{u:Nat},(VD n l t).U1 L.num=some u->decide (L.num=m)=false:=λ{u} e=>Zy λe2=>by rw[e2,C]at e;cases e
   rcases(show k=0\/k=1\/k=2\/k=3\/k=4\/k=5\/k=6\/k=7\/k=8\/k=9\/k=10\/k=11\/k=12 by omega)with rfl|rfl|rfl|rfl|rfl|rfl|rfl|rfl|rfl|rfl|rfl|rfl|rfl
   ·rfl
   ·rcases x3 with⟨q,_⟩|⟨_,v,_,c,_,_,_,_,e⟩
    ·exact absurd rfl q
    have:=r9.1 V (R (VD n l t).parts) (by rw[(DF e).2.2];omega);rw[(DF e).1]at this;exact Zy this
   ·obtain⟨u,Z⟩:=rR (.inl rfl) f;show decide (((VD n l t).p<|(VD n l t).Tk.getD 0).num=m)=false;rw[Z];exact Zy<|r9.1 C u (Y8 Z).1
   ·obtain⟨u,Z⟩:=rR (.inr rfl) f;show decide (((VD n l t).p<|(VD n l t).Tk.getD 0).num=m)=false;rw[Z];exact Zy<|r9.1 C u (Y8 Z).1
   ·exact a1 (Dh (.inl rfl) f).choose_spec
   ·exact a1 (Dh (.inr<|.inl rfl) f).choose_spec
   ·rfl
   ·rfl
   ·exact a1 (Dh (.inr<|.inr<|.inl rfl) f).choose_spec
   ·unfold nB;rw[a1 (Dh (.inr<|.inr<|.inr<|.inl rfl) f).choose_spec,C];rfl
   ·rfl
   ·exact a1 (Dh (.inr<|.inr<|.inr<|.inr rfl) f).choose_spec
   rfl
  exact am.nm t I m r v<|G m V
 rw[hpl]at D;rw[hpp,hpe];rcases hj2 j D with q|⟨q,rfl⟩
 ·have B:E0 n l ((VD n l i).p j) i=CK (VD n l i) k L j:=by
   rw[J];have:=aa hH am.pc hnet hlt f q;rw[A]at this;exact this
  rw[own_keep<|hT.keep j q,hT.es j q,sD,ne,B,x];refine(am.es j q).append ?_;cases CK (VD n l i) k L j<;>exact .refl _
 rcases x3 with⟨K,_⟩|⟨_,v,W,c,c1,hpn,_,_,e⟩
 ·exact absurd q K
 rw[(DF e).1,(DF e).2.1];have N:E0 n l ⟨L.num,v.1.name,v.1.YD,c.1,[],0,false,0,false,Span.zero⟩ i=true:=by
  rw[J];unfold CW;rw[q];show(_||(_||decide (L.num=L.num)))=true;simp
 have hfil:(List.range i).filter (E0 n l ⟨L.num,v.1.name,v.1.YD,c.1,[],0,false,0,false,Span.zero⟩)=(List.range i).filter λt=>vT n l v.1.name v.1.YD t||Nc l c.1 t:=by
  refine List.filter_congr λt B=>?_
  have h3:nT n l L.num v.1.name v.1.YD t=false:=am.nm t (ek.1 B) _ _ _ hpn;show(vT n l v.1.name v.1.YD t||(Nc l c.1 t||nT n l L.num v.1.name v.1.YD t))=_;rw[h3,ce]
 rw[sD,hfil,Zn N,ne];have hP:=filter_or (vT n l v.1.name v.1.YD) (Nc l c.1) (List.range i) λt _ h2=>by
  obtain⟨a,b⟩:=h2;unfold vT vB at a;unfold Nc cB at b;simp only[Zw,de]at a b;omega
 obtain⟨v0,vf⟩:=am.vr v W;obtain⟨c0,cf⟩:=am.cr c c1;rw[vf,cf]at hP;have hP2:=(hP.map Int.ofNat).append_right<|[i].map Int.ofNat;refine(List.Perm.of_eq ?_).trans hP2.symm;simp[dζ v0,dζ c0]
def QF{n:Net}{l:List Entry}(h:(Z2 n l).2.2=0):∀i,i<=R l->dK n l i
 |0,_=>hist_0 h
 |i+1,hi=>hist_on h hi<|QF h i I
def sB(n:Net)(l:List Entry)(q:Part):bd:=((List.range<|R l).filter<|E0 n l q).map Int.ofNat
def Al(n:Net)(l:List Entry):VD n l (R l)=(Z2 n l).1:=by unfold VD;rw[List.take_length]
def hist_eq(h:(Z2 n l).2.2=0)(o:0<=m/\m<=1000000)(e:(Z2 n l).1.U1 m=some j):Nn n l m=(sB n l<|(Z2 n l).1.p j,0):=by
 have g:=(QF h (R l)<|Zq _).es j;rw[Al]at g;have P:=g (Y8 e).1;have q:Wm n l m=0:=by
  unfold Wm J9;rw[Zm<|Zp h,e,Zz o];rfl
 unfold Nn;rw[Zm<|Zp q,e];refine rn (λz=>(z,(0:Int))) ?_;have d:(((Z2 n l).1.es j).mergeSort λx y=>decide<|x<=y).Pairwise (λx y=>x<=y):=by
  have:=eα (le:=λx y:Int=>decide<|x<=y) (by intro a b c d f;simp only[de]at *;omega) (by intro a b;simp only[ti,de];omega)<|(Z2 n l).1.es j;exact this.imp λh=>pf h
 refine((bμ _ _).trans P).eq_of_pairwise (λa b _ _ d f=>Int.le_antisymm d f) d ?_;unfold sB;rw[co];exact(List.pairwise_lt_range.filter _).imp λh=>Int.ofNat_le.2<|ft h
def cut_eq{l:ba}(h:(ZQ 32 l).2.2=true):l=(ZQ 32 l).1++32::(ZQ 32 l).2.1:=by
 by_cases h0:32∈l
 ·obtain⟨k,a,b,d⟩:=fst32 l h0;rw[ku a d b];show l=l.take k++32::l.drop (k+1);rw[←b,←np a,a7]
 rw[Nz<|xQ λj c q=>h0<|q▸Zt c]at h;cases h
def fT(c:X2 (ZQ 32 t).1=some k):k<13/\(ZQ 32 t).1=Z4.getD k []:=by
 obtain⟨a,b⟩:=Y8 c;exact⟨a,by rw[TJ a];simpa using b⟩
def Qr(p:Part):ba:=[115,116,97,114,116]++32::(Lib.itoa p.num++32::(p.Yr++32::p.Yb))
def CJ:ba:=[101,110,100]
def len3{α:Type}{l:List α}(h:R l=3):∃a b c,l=[a,b,c]:=by
 match l,h with
 |[a,b,c],_=>exact⟨a,b,c,rfl⟩
def kI(y:X2 (ZQ 32 t).1=some 1)(h:(Yn t).2=true):t=[115,116,97,114,116]++32::(Lib.itoa (Yn t).1.num++32::((Yn t).1.Yr++32::(Yn t).1.Yb)):=by
 have d:=(fT y).2;have d:(ZQ 32 t).1=Z4[1]:=d;have e:Yn t=if(R<|Z7 32 (ZQ 32 t).2.1)≠3\/(Z7 32 (ZQ 32 t).2.1).getD 1 []=[]\/(Z7 32 (ZQ 32 t).2.1).getD 2 []=[]then(⟨(ZQ 32 t).1,[],[],(ZQ 32 t).2.1,0⟩,false)else(⟨(ZQ 32 t).1,(Z7 32 (ZQ 32 t).2.1).getD 1 [],(Z7 32 (ZQ 32 t).2.1).getD 2 [],(ZQ 32 t).2.1,(Ut<|(Z7 32 (ZQ 32 t).2.1).getD 0 []).1⟩,(Ut<|(Z7 32 (ZQ 32 t).2.1).getD 0 []).2):=by
  unfold Yn;dsimp only;rw[Zm (c:=(ZQ 32 t).1=Z4[0]\/(ZQ 32 t).1=Z4[2]) (by rw[d];decide),Zm (c:=(ZQ 32 t).1=Z4[3]) (by rw[d];decide),Zn (c:=(ZQ 32 t).1=Z4[1]) d]
 rw[e]at h⊢;by_cases p:R (Z7 32 (ZQ 32 t).2.1)≠3\/(Z7 32 (ZQ 32 t).2.1).getD 1 []=[]\/(Z7 32 (ZQ 32 t).2.1).getD 2 []=[]
 ·rw[Zn p]at h;cases h
 rw[Zm p]at h⊢;obtain⟨a,b,c,f⟩:=len3<|Zu.1 λq=>p<|.inl q;have v:=Am _ f;rw[f]at h⊢;have h:(Ut a).2=true:=h;have g:(ZQ 32 t).2.2=true:=by
  cases g:(ZQ 32 t).2.2 with
  |true=>rfl
  |false=>
   rw[(Oc g).2]at f;exact absurd (show 1=3 from rn List.length f) C
 have r:=cut_eq g;obtain⟨u,s⟩:=Nw a;rw[u]at h;have w:=s h;have o:TF a 7=true:=by rw[←Tt a I];exact h
 obtain⟨m,x⟩:=XS.1 o;have z:=(He m I).2.2;rw[d,←v]at r;refine r.trans ?_;show _=[115,116,97,114,116]++32::(Lib.itoa (Ut a).1++32::(b++32::c));rw[w,z];simp[xX,Z4]
def end_text(d:X2 (ZQ 32 t).1=some 3)(h:(Yn t).2=true):t=CJ:=by
 have a:(ZQ 32 t).1=Z4[3]:=(fT d).2;have e:Yn t=(⟨(ZQ 32 t).1,[],[],(ZQ 32 t).2.1,0⟩,!(ZQ 32 t).2.2):=by
  unfold Yn;dsimp only;rw[Zm (c:=(ZQ 32 t).1=Z4[0]\/(ZQ 32 t).1=Z4[2]) (by rw[a];decide),Zn (c:=(ZQ 32 t).1=Z4[3]) a]
 rw[e]at h;have b:(ZQ 32 t).2.2=false:=by simpa using h
 exact(Oc b).1.symm.trans a
structure sx(l:List Entry)(i:Nat)(hi:i<l.length):Prop where
 vx:X2 (ZQ 32 l[i].text).1=some (Qf l i)
 ok:(Yn l[i].text).2=true
 ln:Gt l i=(Yn l[i].text).1
def dA(h:(Z2 n l).2.2=0)(hi:i<R l):sx l i hi:=by
 obtain⟨c,m⟩:=Aq h hi;obtain⟨k,f,a,b,g,e⟩:=dZ c;have d:Qf l i=k:=by unfold Qf;rw[Zv hi];simp[a]
 exact⟨by rw[d];exact a,b,by unfold Gt;rw[Zv hi];rfl⟩
def kinds_ne(b:j<13)(c:j≠3):∃a r,kinds.getD j []=a::r:=by
 rcases(show j=0\/j=1\/j=2\/j=4\/j=5\/j=6\/j=7\/j=8\/j=9\/j=10\/j=11\/j=12 by omega)with rfl|rfl|rfl|rfl|rfl|rfl|rfl|rfl|rfl|rfl|rfl|rfl<;>exact⟨_,_,rfl⟩
def sx.more{hi:i<R l}(T:sx l i hi)(d:Qf l i≠3):(ZQ 32 l[i].text).2.2=true:=by
 cases c:(ZQ 32 l[i].text).2.2 with
 |true=>rfl
 |false=>
  have b:=(text_eq T.vx).1.trans T.ok;obtain⟨a,r,e⟩:=kinds_ne (fT T.vx).1 d;unfold Q9 at b;rw[c,e,Zl,Zn rfl]at b;cases b
def verbs_nb(a:j<13):∀b∈Z4.getD j [],¬b=32:=by
 rcases(show j=0\/j=1\/j=2\/j=3\/j=4\/j=5\/j=6\/j=7\/j=8\/j=9\/j=10\/j=11\/j=12 by omega)with rfl|rfl|rfl|rfl|rfl|rfl|rfl|rfl|rfl|rfl|rfl|rfl|rfl<;>decide
def sx.gS{hi:i<R l}(T:sx l i hi)(b:j<13)(d:j≠3):begW (Z4.getD j []) l[i].text=decide (Qf l i=j):=by
 obtain⟨c,a⟩:=fT T.vx;unfold begW;refine decide_eq_decide.2<|(mQ<|verbs_nb b).trans ⟨λe=>?_,λe=>?_⟩
 ·exact aν λq=>verb_ne c b q<|a.symm.trans e.1
 subst e;exact⟨a,T.more d⟩
def CD(w c t:ba):Bool:=decide<|t.take (R w+1+(R c+1))=w++32::(c++[32])
def fE{w c:ba}(a:(ZQ 32 t).2.2=true)(hw:(ZQ 32 t).1=w)(d:∀b∈c,¬b=32):CD w c t=decide ((ZQ 32 (ZQ 32 t).2.1).1=c/\(ZQ 32 (ZQ 32 t).2.1).2.2=true):=by
 unfold CD;refine decide_eq_decide.2<|Iff.trans ?_<|mQ d;have e:=cut_eq a;rw[hw]at e;generalize (ZQ 32 t).2.1=r at *;rw[e,cξ,show R w+1+(R c+1) - R w=(R c+1)+1 by omega,sg (show R w<=_ by omega),fg];constructor
 ·intro h;have:=List.append_cancel_left h;simpa using this
 intro h;rw[h]
def lR{w c:ba}(h:CD w c t=true):begW w t=true:=by
 unfold CD at h;unfold begW;have h:=pf h;refine Zz ?_;have a:=rn (List.take<|R w+1) h;rw[ra,fa I]at a;rw[a,cξ,sg I];simp
def sx.recipe{hi:i<R l}(T:sx l i hi)(m:∀b∈r,¬b=32):CD (Z4.getD 10 []) r l[i].text=(decide (Qf l i=10)&&decide ((Gt l i).Yr=r)):=by
 by_cases d:Qf l i=10
 ·obtain⟨_,g⟩:=fT T.vx;rw[d]at g;rw[fE (T.more I) g m,Zz d,tn,T.ln];have f:(ZQ 32 l[i].text).1=Z4[10]:=g;have e:Yn l[i].text=(⟨(ZQ 32 l[i].text).1,(ZQ 32 (ZQ 32 l[i].text).2.1).1,[],(ZQ 32 (ZQ 32 l[i].text).2.1).2.1,0⟩,(ZQ 32 (ZQ 32 l[i].text).2.1).2.2&&decide ((ZQ 32 (ZQ 32 l[i].text).2.1).1≠[])):=by
   unfold Yn;dsimp only;rw[f];rfl
  have c:=T.ok;rw[e]at c⊢;have a:(ZQ 32 (ZQ 32 l[i].text).2.1).2.2=true:=(Zw _ _▸c).1;exact decide_eq_decide.2 ⟨λh=>h.1,λh=>⟨h,a⟩⟩
 rw[Zy d,tp];cases h:CD (Z4.getD 10 []) r l[i].text with
 |false=>rfl
 |true=>
  have:=lR h;rw[T.gS C C,Zy d]at this;cases this
def sx.Yb{hi:i<R l}(T:sx l i hi){c:ba}(r:∀b∈c,¬b=32):CD (Z4.getD 6 []) c l[i].text=Nc l c i:=by
 unfold Nc cB;by_cases d:Qf l i=6
 ·obtain⟨_,g⟩:=fT T.vx;rw[d]at g;rw[fE (T.more I) g r,Zz d,tn,T.ln];have f:(ZQ 32 l[i].text).1=Z4[6]:=g;have e:Yn l[i].text=if(R<|Z7 32 (ZQ 32 l[i].text).2.1)≠2\/(Z7 32 (ZQ 32 l[i].text).2.1).getD 0 []=[]then(⟨(ZQ 32 l[i].text).1,[],[],(ZQ 32 l[i].text).2.1,0⟩,false)else(⟨(ZQ 32 l[i].text).1,[],(Z7 32 (ZQ 32 l[i].text).2.1).getD 0 [],(ZQ 32 l[i].text).2.1,(Ut<|(Z7 32 (ZQ 32 l[i].text).2.1).getD 1 []).1⟩,(Ut<|(Z7 32 (ZQ 32 l[i].text).2.1).getD 1 []).2):=by
   unfold Yn;dsimp only;rw[f];rfl
  have a:=T.ok;rw[e]at a⊢;split at a
  ·cases a
  rename_i o;rw[Zm o];dsimp only;have p:R (Z7 32 (ZQ 32 l[i].text).2.1)=2:=Zu.1 λq=>o<|.inl q
  have m:(ZQ 32 (ZQ 32 l[i].text).2.1).2.2=true:=by
   cases m:(ZQ 32 (ZQ 32 l[i].text).2.1).2.2 with
   |true=>rfl
   |false=>rw[(GZ _).2 m]at p;cases p
  rw[Rc];exact decide_eq_decide.2 ⟨λh=>h.1,λh=>⟨h,m⟩⟩
 rw[Zy d,tp];cases h:CD (Z4.getD 6 []) c l[i].text with
 |false=>rfl
 |true=>
  have:=lR h;rw[T.gS C C,Zy d]at this;cases this
def sx.end_{hi:i<R l}(T:sx l i hi):decide (l[i].text=CJ)=decide (Qf l i=3):=by
 refine decide_eq_decide.2 ⟨λe=>?_,λe=>?_⟩
 ·have a:=T.vx;rw[e,show X2 (ZQ 32 CJ).1=some 3 by decide]at a;exact(aγ a).symm
 have a:=T.vx;rw[e]at a;exact end_text a T.ok
structure Nx(k:Nat)(p p':Part):Prop where
 mkd:p.marked=true->p'.marked=true
 st:p.place≠0->p'.WD=p.WD/\p'.verdict=p.verdict/\p'.frames=p.frames
 zr:k≠3->p.place=0->p'.place=0
 gd:p'.place=2->(p.place=2/\p'.marked=p.marked)\/(Pm p=true/\p'.marked=p.marked)
def lM(k:Nat)(H H':Z6):Prop:=∀j,j<R H.parts->Nx k (H.p j) (H'.p j)
section
variable{k:Nat}
def Nx.refl(k:Nat)(p:Part):Nx k p p:=⟨id,λ_=>⟨rfl,rfl,rfl⟩,λ_=>id,λh=>.inl ⟨h,rfl⟩⟩
def lM.re(h:H'.parts=H.parts):lM k H H':=λj _=>by
 have:H'.p j=H.p j:=by unfold Z6.p;rw[h]
 rw[this];exact .refl _ _
def lM.Zh{f:Part->Part}(b:i<R H.parts->Nx k (H.p i) (f<|H.p i)):lM k H<|H.Zh i f:=λj a=>by
 rw[xR H i f a];split
 ·rename_i e;subst e;exact b a
 exact .refl _ _
def lM.WT(h:lM k H H')(j:Nat):lM k H<|H'.WT j:=λm a=>by rw[Jl];exact h m a
def lM.about{n:Int}(a:∀i,lM k H (f H i).1):lM k H (YJ H n f).1:=by
 unfold YJ;cases H.U1 n with
 |none=>exact .re rfl
 |some i=>
  dsimp only;split
  ·exact(a i).WT i
  exact a i
def may_1(h:Pm p=true):p.place=1/\p.WD=true/\p.verdict=0/\p.marked=false:=by
 unfold Pm at h;simp at h;exact⟨h.1.1.1,h.1.1.2,h.1.2,h.2⟩
def mark_all(H:Z6)(i j:Nat)(a:j<R H.parts):(H.Yz i).p j=H.p j\/(Yu (H.p j)=true/\(H.Yz i).p j={H.p j with marked:=true}):=by
 unfold Z6.p Z6.Yz;dsimp only;rw[dp,Zv a];simp only[cφ,Option.getD_some];split
 ·rename_i h;rw[Zw]at h;exact .inr ⟨h.2,rfl⟩
 exact .inl rfl
def Nx.trans1{r:Part}(a:Nx k p q)(h:r=q\/(Yu q=true/\r={q with marked:=true})):Nx k p r:=by
 rcases h with h|⟨b,c⟩
 ·rw[h];exact a
 rw[c];refine⟨λ_=>rfl,a.st,a.zr,λe=>?_⟩;have e:q.place=2:=e;unfold Yu at b;rw[e]at b;exact absurd b C
def lM.rP(k:Nat)(L:Sv):lM k H (WQ k H L).1:=by
 have o:∀{p:Part}{b d},p.place=1->b≠2->Nx k p {p with place:=b,depth:=d}:=λg m=>⟨id,λ_=>⟨rfl,rfl,rfl⟩,λ_ h=>(by rw[g]at h;cases h),λh=>absurd h m⟩
 unfold WQ;split
 ·exact .re rfl
 ·intro j c;unfold W_;dsimp only;have e:∀(cs:List<|XA×Int)(q:Part×bd),Z6.p {H with Z5:=cs,parts:=H.parts++[q]} j=H.p j:=λcs q=>by
   unfold Z6.p;dsimp only;rw[m6 c]
  repeat' split
  all_goals first|exact .refl _ _|(rw[e];exact .refl _ _)
 ·unfold Yl;cases e:H.Tk with
  |none=>exact .re rfl
  |some i=>
   have h0:=fS e;dsimp only
   repeat' split
   all_goals first|exact .re rfl|exact lM.WT (.re rfl) i|exact lM.WT (.Zh λ_=>⟨id,λh=>absurd h0 h,λ_ _=>h0,λh=>by rw[show({H.p i with frames:=(H.p i).frames++[(ZI L.rest).1]}:Part).place=(H.p i).place from rfl,h0]at h;cases h⟩) i
 ·unfold Sz;cases e:H.Tk with
  |none=>exact .re rfl
  |some i=>
   have h0:=fS e;exact lM.WT (.Zh λ_=>⟨id,λh=>absurd h0 h,λh=>absurd rfl h,λh=>by cases h⟩) i
 ·refine .about λi=>?_
  unfold Wi;split
  ·rename_i a;dsimp only;exact .Zh λ_=>⟨id,λ_=>⟨rfl,rfl,rfl⟩,λ_ h=>(by rw[(may_1 a).1]at h;cases h),λ_=>.inr ⟨a,rfl⟩⟩
  exact .re rfl
 ·refine .about λi=>?_
  unfold Tu;split
  ·rename_i a;dsimp only;exact .Zh λ_=>⟨id,λ_=>⟨rfl,rfl,rfl⟩,λ_ h=>(by rw[a]at h;cases h),λh=>by cases h⟩
  exact .re rfl
 ·unfold Tw;dsimp only;split<;>exact .re rfl
 ·unfold XZ;repeat' split
  all_goals exact .re rfl
 ·refine .about λi=>?_
  unfold WU;split
  ·rename_i a;dsimp only;refine .Zh λ_=>⟨λ_=>rfl,λ_=>⟨rfl,rfl,rfl⟩,λ_=>id,λh=>?_⟩
   have h:(H.p i).place=2:=h;unfold Yu at a;rw[h]at a;exact absurd a F
  exact .re rfl
 ·refine .about λi=>?_
  unfold Xz;dsimp only;split
  ·exact .re rfl
  rename_i a;have a:=Zu.1 a;split
  ·exact .re rfl
  split
  ·exact .re rfl
  dsimp only;have f:lM 9 H<|H.Zh i λp=>{p with place:=4,depth:=(Y6 (Y9 L.rest).1 H.XR.limit).1}:=.Zh λ_=>⟨id,λ_=>⟨rfl,rfl,rfl⟩,λ_ h=>(by rw[a]at h;cases h),λh=>by cases h⟩
  split
  ·exactλj c=>(f j c).trans1 (mark_all _ _ _<|by show j<R (H.parts.modify _ _);rw[aμ];exact c)
  exact f
 ·unfold XX;dsimp only;repeat' split
  all_goals exact .re rfl
 ·refine .about λi=>?_
  unfold Xe;dsimp only;split<;>exact .re rfl
 unfold Wo;split<;>exact .re rfl
end
variable{u:Nat}
section
variable{Q:Part}
def own_10(a:Qf l i=10)(h:(Gt l i).Yr=Q.Yr):E0 n l Q i=decide (QA (λr:Rec=>decide<|r.name=(Gt l i).Yr) (VD n l<|i+1).st.ZJ=Q.YD):=by
 unfold E0 CW;rw[a];show(true&&(decide ((Gt l i).Yr=Q.Yr)&&decide ((VD n l<|i+1).st.YD Q.Yr=Q.YD))||(false||false))=_;rw[Zz h,h];simp only[tn,ce];rfl
def own_n(a:Qf l i=1\/Qf l i=4\/Qf l i=5\/Qf l i=8\/Qf l i=11):E0 n l Q i=decide ((Gt l i).num=Q.num):=by
 unfold E0 CW;rcases a with a|a|a|a|a<;>rw[a]<;>show(false||(false||decide ((Gt l i).num=Q.num)))=_<;>simp
def own_u(a:Qf l i=2\/Qf l i=3)(b:(VD n l i).Tk=some u):E0 n l Q i=decide (((VD n l i).p u).num=Q.num):=by
 unfold E0 CW;rcases a with a|a<;>rw[a]<;>show(false||(false||decide (((VD n l i).p<|(VD n l i).Tk.getD 0).num=Q.num)))=_<;>rw[b]<;>simp
def own_0(S:StepAt n l i)(h:Qf l i≠10/\Qf l i≠6/\Qf l i≠1/\Qf l i≠4/\Qf l i≠5/\Qf l i≠8/\Qf l i≠11/\Qf l i≠2/\Qf l i≠3/\Qf l i≠9):E0 n l Q i=false:=by
 have:=S.lt;unfold E0 CW;rcases(show Qf l i=0\/Qf l i=7\/Qf l i=12 by omega)with hk|hk|hk<;>rw[hk]<;>rfl
end
def P8(s:ba)(l:List Entry):Bool:=l.any λx=>decide<|x.text=s
def OQ(s:ba):Bool->List Entry->Bool
 |_,[]=>false
 |o,x::l=>if x.text=s then OQ s true l else if o=true/\x.text=CJ then true else OQ s o l
def fN{s:ba}(hs:s≠CJ)(x:Entry):∀(l:List Entry)(o:Bool),OQ s o (l++[x])=(OQ s o l||((o||P8 s l)&&decide (x.text=CJ)))
 |[],o=>by
  rw[bε,OQ,OQ,OQ,OQ];by_cases h:x.text=s
  ·rw[Zn h,Zy λe=>hs<|h.symm.trans e];simp
  rw[Zm h];cases o<;>by_cases a:x.text=CJ<;>simp[a,P8]
 |y::l,o=>by
  rw[H5,OQ,OQ];by_cases h:y.text=s
  ·rw[Zn h,Zn h,fN hs x l true];simp[P8,h]
  rw[Zm h,Zm h];split
  ·simp
  rw[fN hs x l o];simp[P8,h]
def Ay(h:(Z2 n l).2.2=0)(hi:i<R l):R (VD n l i).parts<=R (VD n l<|i+1).parts/\∀j,j<R (VD n l i).parts->kW ((VD n l i).p j) ((VD n l<|i+1).p j):=by
 have S:=AH h hi;obtain⟨d,c⟩:=S.next;have a:=Tv.rP _ _ S.ok;rw[c];exact⟨a.le,λj b=>a.keep j b⟩
def gN(h:(Z2 n l).2.2=0){t:Nat}(f:j<R (VD n l t).parts):∀d,t+d<=R l->j<R (VD n l<|t+d).parts/\kW ((VD n l t).p j) ((VD n l<|t+d).p j)
 |0,_=>⟨f,.refl _⟩
 |d+1,hd=>by
  obtain⟨a,b⟩:=gN h f d I;obtain⟨c,e⟩:=Ay h (i:=t+d) I;exact⟨rp a c,b.trans<|e j a⟩
def j7(h:(Z2 n l).2.2=0){t:Nat}(b:t<=R l)(a:j<R (VD n l t).parts):j<R (Z2 n l).1.parts/\kW ((VD n l t).p j) ((Z2 n l).1.p j):=by
 have:=gN h a (R l - t) I;rw[show t+(R l - t)=R l by omega,Al]at this;exact this
def Jc(h:kW p q):Qr q=Qr p:=by unfold Qr;rw[h.num,h.Yr,h.Yb]
structure StartAt(n:Net)(l:List Entry)(i:Nat):Prop where
 len:(VD n l<|i+1).parts.length=(VD n l i).parts.length+1
 text:∀hi:i<l.length,l[i].text=Qr ((VD n l<|i+1).p (VD n l i).parts.length)
 num:((VD n l<|i+1).p (VD n l i).parts.length).num=(Gt l i).num
 pl:((VD n l<|i+1).p (VD n l i).parts.length).place=0
 no:(VD n l i).U1 (Gt l i).num=none
 es:((VD n l<|i+1).es (VD n l i).parts.length).length=3
def sK(h:(Z2 n l).2.2=0)(hi:i<R l)(d:Qf l i=1):StartAt n l i:=by
 have S:=AH h hi;have T:=dA h hi;obtain⟨w,a⟩:=S.next;obtain⟨v,_,q,_,m,g,f,e⟩:=Ap d S.ok;obtain⟨u,s,r⟩:=DF e;have b:(VD n l<|i+1).p (R (VD n l i).parts)=_:=(by rw[a];rfl:(VD n l<|i+1).p (R (VD n l i).parts)=(WQ (Qf l i) (VD n l i)<|Gt l i).1.p (R (VD n l i).parts)).trans u;have o:(VD n l<|i+1).es (R (VD n l i).parts)=_:=(by rw[a];rfl:(VD n l<|i+1).es (R (VD n l i).parts)=(WQ (Qf l i) (VD n l i)<|Gt l i).1.es (R (VD n l i).parts)).trans s;refine⟨by rw[a];exact r,λ_=>?_,by rw[b],by rw[b],m,by rw[o];rfl⟩;have c:=T.vx;rw[d]at c;rw[kI c T.ok,←T.ln,b];unfold Qr;dsimp only;rw[g,f]
def DJ(h:(Z2 n l).2.2=0)(hi:i<R l)(a:Qf l i≠1):R (VD n l<|i+1).parts=R (VD n l i).parts:=by
 have S:=AH h hi;obtain⟨c,b⟩:=S.next;rw[b];exact f_ a S.num S.ok
def started(h:(Z2 n l).2.2=0):∀t,t<=R l->∀j,j<R (VD n l t).parts->∃s,s<t/\Qf l s=1/\R (VD n l s).parts=j/\∃hs:s<R l,l[s].text=Qr ((VD n l t).p j)
 |0,_,j,hj=>by
  obtain⟨_,_,e⟩:=Ur<|UP h 0;have:VD n l 0=Z6.init n (ZO n.plan).1:=by show(Z2 n<|l.take 0).1=_;rw[e];rfl
  rw[this]at hj;exact absurd hj<|bπ _
 |t+1,ht,j,hj=>by
  by_cases q:j<R (VD n l t).parts
  ·obtain⟨s,a,b,c,d,e⟩:=started h t I j q;exact⟨s,I,b,c,d,e.trans (Jc<|(Ay h (i:=t) I).2 j q).symm⟩
  by_cases f:Qf l t=1
  ·have A:=sK h (i:=t) I f;have g:=A.len;obtain rfl:j=R (VD n l t).parts:=I
   exact⟨t,I,f,rfl,I,A.text _⟩
  rw[DJ h (i:=t) I f]at hj;exact absurd hj q
def DE(h:(Z2 n l).2.2=0){a b:Nat}(d:a<R (Z2 n l).1.parts)(c:b<R (Z2 n l).1.parts)(e:((Z2 n l).1.p a).num=((Z2 n l).1.p b).num):a=b:=(F5 h).EV a b d c e
def Ni(h:(Z2 n l).2.2=0)(hi:i<R l)(o:j<R (Z2 n l).1.parts):l[i].text=Qr ((Z2 n l).1.p j)↔Qf l i=1/\R (VD n l i).parts=j:=by
 constructor
 ·intro e;have m:=started h (R l) (Zq _) j (by rw[Al];exact o);rw[Al]at m;obtain⟨s,_,a,b,hs,c⟩:=m;have T:=dA h hi;have v:=dA h hs;have q:l[i].text=l[s].text:=e.trans c.symm;have g:=T.vx;have w:=v.vx;rw[q,w,a]at g;have d:Qf l i=1:=(aγ g).symm;refine⟨d,?_⟩;have x:Gt l i=Gt l s:=by rw[T.ln,v.ln,q]
  have A:=sK h hi d;have B:=sK h hs a;have f:=j7 h (t:=i+1) I (j:=R (VD n l i).parts) (by rw[A.len];omega);have u:=j7 h (t:=s+1) I (j:=R (VD n l s).parts) (by rw[B.len];omega);rw[b]at u;have r:=B.num;rw[b]at r;refine DE h f.1 o ?_;rw[f.2.num,A.num,u.2.num,r,x]
 intro ⟨d,e⟩;have A:=sK h hi d;have f:=j7 h (t:=i+1) I (j:=R (VD n l i).parts) (by rw[A.len];omega);rw[A.text hi,←Jc f.2,e]
def dB(p:Part):Qr p≠CJ:=λe=>by
 have:=rn List.length e;unfold Qr CJ at this;simp at this
def step_Nx(h:(Z2 n l).2.2=0)(hi:i<R l):∀j,j<R (VD n l i).parts->Nx (Qf l i) ((VD n l i).p j) ((VD n l<|i+1).p j)/\PlOk ((VD n l i).p j).place ((VD n l<|i+1).p j).place:=λj a=>by
 have S:=AH h hi;obtain⟨c,b⟩:=S.next;have m:=Mv.rP (Qf l i) (Gt l i) S.num S.ok;rw[b];exact⟨lM.rP (Qf l i) (Gt l i) j a,m.old j a⟩
def end_place(h:(Z2 n l).2.2=0)(hi:i<R l)(b:Qf l i=3)(a:(VD n l i).Tk=some u):(VD n l<|i+1).p u=Sy (VD n l i).plan (VD n l i).env (VD n l i).YX ((VD n l i).p u):=by
 have S:=AH h hi;obtain⟨d,c⟩:=S.next;rw[c,b];show(Sz<|VD n l i).1.p u=_;unfold Sz;rw[a];dsimp only;rw[Jl,xR _ _ _ (Y8 a).1,Zn rfl]
structure Trk(n:Net)(l:List Entry)(j t:Nat):Prop where
 b:P8 (Qr<|(Z2 n l).1.p j) (l.take t)=decide (j<(VD n l t).parts.length)
 e:OQ (Qr<|(Z2 n l).1.p j) false (l.take t)=(decide (j<(VD n l t).parts.length)&&decide (((VD n l t).p j).place≠0))
def vo(h:(Z2 n l).2.2=0){t:Nat}(a:(VD n l t).Tk=some u)(b:j<R (VD n l t).parts)(h0:((VD n l t).p j).place=0):u=j:=
 (e_<|UP h t).1 u j (Y8 a).1 b (fS a) h0
def trk(h:(Z2 n l).2.2=0)(x:j<R (Z2 n l).1.parts):∀t,t<=R l->Trk n l j t
 |0,_=>by
  obtain⟨_,_,e⟩:=Ur<|UP h 0;have f:VD n l 0=Z6.init n (ZO n.plan).1:=by show(Z2 n<|l.take 0).1=_;rw[e];rfl
  constructor
  ·rw[f];rfl
  rw[f];rfl
 |t+1,ht=>by
  have B:=trk h x t I;have c:t<R l:=I
  have D:=Ni h c x;have T:=dA h c;have s:=B.b;have E:=B.e;have z:P8 (Qr<|(Z2 n l).1.p j) (l.take<|t+1)=(decide (j<R (VD n l t).parts)||decide (Qf l t=1/\R (VD n l t).parts=j)):=by
   rw[mv c];unfold P8 at s⊢;rw[fb,s,nz,List.any_nil,ce];congr 1;exact decide_eq_decide.2 D
  have y:OQ (Qr<|(Z2 n l).1.p j) false (l.take<|t+1)=((decide (j<R (VD n l t).parts)&&decide (((VD n l t).p j).place≠0))||(decide (j<R (VD n l t).parts)&&decide (Qf l t=3))):=by
   rw[mv c,fN<|dB _,E,ai,s,T.end_]
  have g:=step_Nx h c;by_cases r:Qf l t=1
  ·have A:=sK h c r;have qf:=A.len;constructor
   ·rw[z,qf];rw[cδ];simp only[ti,de];omega
   rw[y,qf,Zy (show¬Qf l t=3 by omega),bυ,ce];by_cases q:j<R (VD n l t).parts
   ·have m:=(g j q).1.zr I;have o:=(g j q).2;unfold PlOk at o;rw[Zz q,Zz (show j<R (VD n l t).parts+1 by omega)];congr 1;refine decide_eq_decide.2 ⟨λa b=>?_,λa b=>a<|m b⟩;omega
   rw[Zy q];by_cases C:j<R (VD n l t).parts+1
   ·obtain rfl:j=R (VD n l t).parts:=I
    rw[A.pl];simp
   rw[Zy C];rfl
  have qf:=DJ h c r;constructor
  ·rw[z,qf,Zy (p:=Qf l t=1/\R (VD n l t).parts=j) λq=>r q.1,ce]
  rw[y,qf];by_cases q:j<R (VD n l t).parts
  ·have o:=(g j q).2;unfold PlOk at o;rw[Zz q,tn,tn,tn];by_cases d:Qf l t=3
   ·rw[Zz d,ax];refine(Zz (p:=((VD n l<|t+1).p j).place≠0) λf=>?_).symm;obtain⟨u,w⟩:=rR (.inr d) (AH h c).ok;have v:((VD n l t).p j).place=0:=I
    have:=vo h w q v;subst this;rw[end_place h c d w]at f;cases f
   rw[Zy d,ce];have m:=(g j q).1.zr d;refine decide_eq_decide.2 ⟨λa b=>?_,λa b=>a<|m b⟩;omega
  rw[Zy q];rfl
def es3(h:(Z2 n l).2.2=0):∀t,t<=R l->∀j,j<R (VD n l t).parts->3<=R ((VD n l t).es j)
 |0,_,j,hj=>by
  obtain⟨_,_,e⟩:=Ur<|UP h 0;have:VD n l 0=Z6.init n (ZO n.plan).1:=by show(Z2 n<|l.take 0).1=_;rw[e];rfl
  rw[this]at hj;exact absurd hj<|bπ _
 |t+1,ht,j,hj=>by
  have S:=AH h (i:=t) I;obtain⟨d,c⟩:=S.next;have b:=Tv.rP _ _ S.ok;by_cases q:j<R (VD n l t).parts
  ·have:=es3 h t I j q;rw[show(VD n l<|t+1).es j=(WQ (Qf l t) (VD n l t)<|Gt l t).1.es j by rw[c];rfl,b.es j q,Zs];omega
  by_cases a:Qf l t=1
  ·have A:=sK h (i:=t) I a;have f:=A.len;obtain rfl:j=R (VD n l t).parts:=I
   rw[A.es];omega
  rw[DJ h (i:=t) I a]at hj;exact absurd hj q
def has_hist(q:Part)(hi:i<R l):Ar (sB n l q) (i:Int)=E0 n l q i:=by
 unfold Ar sB;rw[cδ,dτ];constructor
 ·rintro⟨x,hx,e⟩;obtain⟨t,a,rfl⟩:=rx.1 hx;have e:=pf e;have:t=i:=Int.ofNat.inj e;rw[←this];exact(eI.1 a).2
 intro e;exact⟨(i:Int),rx.2 ⟨i,eI.2 ⟨ek.2 hi,e⟩,rfl⟩,Zz rfl⟩
def told_1(h:(Z2 n l).2.2=0)(hi:i<R l)(c:j<R (Z2 n l).1.parts)(e:l[i].text=Qr ((Z2 n l).1.p j)):E0 n l ((Z2 n l).1.p j) i=true/\P8 (Qr<|(Z2 n l).1.p j) (l.take i)=false:=by
 obtain⟨a,d⟩:=(Ni h hi c).1 e;have A:=sK h hi a;have f:=j7 h (t:=i+1) I (j:=R (VD n l i).parts) (by rw[A.len];omega);refine⟨?_,?_⟩
 ·rw[own_n<|.inl a];refine Zz ?_;rw[←d,f.2.num,A.num]
 rw[(trk h c i I).b];exact Zy I
def yz(h:(Z2 n l).2.2=0)(hi:i<R l)(f:j<R (Z2 n l).1.parts)(d:Qf l i=2\/Qf l i=3):E0 n l ((Z2 n l).1.p j) i=(P8 (Qr<|(Z2 n l).1.p j) (l.take i)&&!OQ (Qr<|(Z2 n l).1.p j) false (l.take i)):=by
 obtain⟨u,a⟩:=rR d (AH h hi).ok;have T:=trk h f i I;rw[own_u d a,T.b,T.e];have c:=j7 h (t:=i) I (Y8 a).1;by_cases e:u=j
 ·subst e;have:=fS a;rw[Zz c.2.num.symm,Zz (show u<R (VD n l i).parts from(Y8 a).1),this];rfl
 rw[Zy λq=>e<|DE h c.1 f<|c.2.num.trans q];by_cases q:j<R (VD n l i).parts
 ·rw[Zz q,Zz (p:=((VD n l i).p j).place≠0) λg=>e<|vo h a q g];rfl
 rw[Zy q];rfl
def told_3(e:Nc l ((Z2 n l).1.p j).Yb i=true):E0 n l ((Z2 n l).1.p j) i=true:=by
 show(_||(Nc l ((Z2 n l).1.p j).Yb i||_))=true;rw[e];simp
def told_4(a:Qf l i=10)(e:(Gt l i).Yr=((Z2 n l).1.p j).Yr):E0 n l ((Z2 n l).1.p j) i=decide ((VD n l<|i+1).st.YD ((Z2 n l).1.p j).Yr=((Z2 n l).1.p j).YD):=by
 rw[own_10 a e,e];rfl
def kJ(h:(Z2 n l).2.2=0)(hi:i<R l)(a:Qf l i=0\/Qf l i=7\/Qf l i=12):E0 n l ((Z2 n l).1.p j) i=false:=own_0 (AH h hi) I
def told_6(h:(Z2 n l).2.2=0)(hi:i<R l)(c:j<R (Z2 n l).1.parts)(f:E0 n l ((Z2 n l).1.p j) i=true)(s:Qf l i≠6)(r:Qf l i≠10):P8 (Qr<|(Z2 n l).1.p j) (l.take<|i+1)=true:=by
 rw[(trk h c (i+1) I).b];refine Zz<|aν λq=>?_;have u:=QF h (i+1) I;have g:(VD n l<|i+1).U1 ((Z2 n l).1.p j).num=none:=r9.2 λa m e=>by
  have d:=j7 h (t:=i+1) I m;have:=DE h d.1 c<|d.2.num.trans e;omega
 have o:=u.nm i I _ ((Z2 n l).1.p j).Yr ((Z2 n l).1.p j).YD g;have:E0 n l ((Z2 n l).1.p j) i=false:=by
  show(vB _ (Qf l i) _ _ _||(cB (Qf l i) _ _||nT n l _ _ _ i))=false;rw[o];unfold vB cB;rw[Zy s,Zy r];rfl
 rw[f]at this;cases this
def K6(h:(Z2 n l).2.2=0)(hi:i<R l)(r:ba):(VD n l<|i+1).st.YD r=(VD n l i).st.YD r+if Qf l i=10/\(Gt l i).Yr=r then 1 else 0:=by
 have S:=AH h hi;obtain⟨d,b⟩:=S.next;have a:(VD n l<|i+1).ZF=(WQ (Qf l i) (VD n l i)<|Gt l i).1.ZF:=by rw[b]
 rw[Mz a];by_cases k:Qf l i=10
 ·obtain⟨ph,e⟩:=cD (r:=(Gt l i).Yr) (t:=(Gt l i).rest) S.hs.inv.YD (by have:=S.ok;rw[k]at this;exact this);have c:(WQ (Qf l i) (VD n l i)<|Gt l i).1.ZF=(VD n l i).ZF++[(⟨(Gt l i).Yr,(VD n l i).st.YD (Gt l i).Yr+1,ph⟩,(VD n l i).entries)]:=by rw[k];exact e
  rw[My c];by_cases q:(Gt l i).Yr=r
  ·rw[Zn q.symm,Zn ⟨k,q⟩]
  rw[Zm λe=>q e.symm,Zm λe=>q e.2]
 rw[Mz<|(gU _ _).1 k,Zm λe=>k e.1];omega
def told_end(h:(Z2 n l).2.2=0)(a:j<R (Z2 n l).1.parts):P8 (Qr<|(Z2 n l).1.p j) l=true/\((List.range<|R l).any<|Nc l ((Z2 n l).1.p j).Yb)=true/\((Z2 n l).1.p j).YD<=(Z2 n l).1.st.YD ((Z2 n l).1.p j).Yr:=by
 have T:=(trk h a (R l)<|Zq _).b;have m:=QF h (R l)<|Zq _;rw[List.take_length,Al]at T;obtain⟨⟨v,f,e,d⟩,c,q,g⟩:=m.pc j (by rw[Al];exact a);have o:=(m.cr c q).2;rw[Al]at f e d g;refine⟨T.trans<|Zz a,dτ.2 ⟨c.2.toNat,?_⟩,?_⟩
 ·have:c.2.toNat∈(List.range<|R l).filter (Nc l c.1):=by rw[o];exact pi.2 rfl
  rw[g]at this;exact⟨(eI.1 this).1,(eI.1 this).2⟩
 rw[←e,←d];exact lq (F5 h).inv.YD f
def hist_asc(q:Part):(∀x∈sB n l q,0<=x/\x<=(R l:Int) - 1)/\(sB n l q).Pairwise (· < ·):=by
 unfold sB;refine⟨λx a=>?_,?_⟩
 ·obtain⟨t,b,rfl⟩:=rx.1 a;have:=ek.1 (eI.1 b).1;show 0<=(t:Int)/\(t:Int)<=_;omega
 rw[co];exact(List.pairwise_lt_range.filter _).imp λh=>Int.ofNat_lt.2 h
def hist_len(h:(Z2 n l).2.2=0)(a:j<R (Z2 n l).1.parts):3<=R (sB n l<|(Z2 n l).1.p j):=by
 have b:=(QF h (R l)<|Zq _).es j;have E:=es3 h (R l) (Zq _) j;rw[Al]at b E;have:=(b a).length_eq;have:=E a;unfold sB;omega
variable{s:ba}
def xW{v:ba}:Ct prog 52 [.str s,.str v]<|.bool<|decide<|s.take (R v)=v:=by
 refine cI func52 O<|OK.Gz (t:=0) (z:=s) O O λqf=>?_;unfold maxLen at qf;refine ro 13 O<|RK.ZS (t:=10) O (λa=>?_) λa=>?_
 ·refine rr 3 O ?_;refine kc (S.VI (hi:=R v) (l':=s.take<|R v) W6 (zg O O) O (zt O) (.inl ⟨O,O,O⟩) (.inr ⟨_,_,O,(zt O),O⟩) I I<|by rw[aα]) ?_;refine rr 6 O<|kR O O ?_;rfl
 have b:¬s.take (R v)=v:=λe=>a (by have:=rn List.length e;rw[sc]at this;omega)
 rw[Zy b];refine rr 10 O<|kR O O ?_;rfl
def lP{α:Type}{g:Nat->α->Bool}{P:α->Prop}(b:∀i x,g i x=true->P x):∀(i:Nat)(l:List α),UQ g i l=true->∀x∈l,P x
 |_,[],_,x,a=>by cases a
 |i,y::l,h,x,a=>by
  rw[UQ,Zw]at h;rcases sf.1 a with rfl|a
  ·exact b _ _ h.1
  exact lP b _ l h.2 x a
def gP(h:YA s=true):∀b∈s,¬b=32:=by
 unfold YA at h;rw[Zw]at h;intro b c e;have k:=lP (P:=λb=>¬b=32) (λi x a e=>by subst e;exact absurd a<|by unfold X3;simp) 0 s h.1 b c;exact k e
structure Nb(H:Z6):Prop where
 v:∀q∈H.ZF,YA q.1.name=true
 c:∀q∈H.cn,YA q.1=true
variable{c:ba}
def coil_nm(h:(Tw H c m).2=0):YA c=true:=by
 cases a:YA c with
 |true=>rfl
 |false=>
  exfalso;unfold Tw at h;rw[a]at h;exact absurd h (by simp[ZW,Z8])
def aL(h:(XX H r t).2=0):YA r=true:=by
 cases a:YA r with
 |true=>rfl
 |false=>
  exfalso;unfold XX at h;rw[Zn a]at h;exact absurd h (show¬(4:Int)=0 by decide)
def Nb.enter(a:Hh H.ZF)(h:Nb H){x:Entry}(g:(Za H x).2=0):Nb (Za H x).1:=by
 obtain⟨k,s,_,_,b,f⟩:=dZ g;obtain⟨o,p⟩:=gU (H:=H) k (Yn x.text).1;rw[f];constructor
 ·show∀q∈(WQ k H (Yn x.text).1).1.ZF,_;by_cases q:k=10
  ·subst q;obtain⟨ph,e⟩:=cD (r:=(Yn x.text).1.Yr) (t:=(Yn x.text).1.rest) a b;have d:(WQ 10 H (Yn x.text).1).1.ZF=_:=e;rw[d];intro v a;rcases List.mem_append.1 a with a|a
   ·exact h.v v a
   rw[pi.1 a];exact aL b
  rw[o q];exact h.v
 show∀q∈(WQ k H (Yn x.text).1).1.cn,_;by_cases q:k=6
 ·subst q;have e:=(vp (c:=(Yn x.text).1.Yb) (m:=(Yn x.text).1.num) b).2;have d:(WQ 6 H (Yn x.text).1).1.cn=_:=e;rw[d];intro v a;rcases List.mem_append.1 a with a|a
  ·exact h.c v a
  rw[pi.1 a];exact coil_nm b
 rw[p q];exact h.c
def aM(h:(Z2 n l).2.2=0):Nb (Z2 n l).1:=
 (CT (λH=>HS H/\Nb H) (λ_ _ a=>⟨.init a,⟨λq b=>(by cases b),λq b=>(by cases b)⟩⟩) (λH x a e=>⟨a.1.enter x,a.2.enter a.1.inv.YD e⟩) h).2
def part_nb(h:(Z2 n l).2.2=0)(g:j<R (Z2 n l).1.parts):(∀b∈((Z2 n l).1.p j).Yr,¬b=32)/\(∀b∈((Z2 n l).1.p j).Yb,¬b=32):=by
 have d:=(QF h (R l)<|Zq _).pc j;rw[Al]at d;obtain⟨⟨v,f,e,_⟩,c,o,m⟩:=d g;have a:=aM h;exact⟨e▸gP (a.v v f),m▸gP (a.c c o)⟩
def part_len(h:(Z2 n l).2.2=0)(a:j<R (Z2 n l).1.parts):R ((Z2 n l).1.p j).Yr<=12/\R ((Z2 n l).1.p j).Yb<=12:=by
 have:=(bz h).p _<|Zt a;rw[←Qp (Zv a)]at this;exact this
def sx.rcpv{hi:i<R l}(T:sx l i hi)(a:∀b∈c,¬b=32):(l[i].text.take (R (([114,101,99,105,112,101,32]++c)++[32]))=([114,101,99,105,112,101,32]++c)++[32])↔Qf l i=10/\(Gt l i).Yr=c:=by
 have k:=T.recipe a;unfold CD at k;rw[cδ,de,Zw,de,de]at k;refine Iff.trans ?_ k;have e:(([114,101,99,105,112,101,32]++c)++[32]:ba)=Z4.getD 10 []++32::(c++[32]):=by simp[Z4]
 have d:R (([114,101,99,105,112,101,32]++c)++[32]:ba)=R (Z4.getD 10 [])+1+(R c+1):=by simp[Z4];omega
 rw[d,e]
def sx.coilv{hi:i<R l}(T:sx l i hi)(a:∀b∈c,¬b=32):(l[i].text.take (R (([99,111,105,108,32]++c)++[32]))=([99,111,105,108,32]++c)++[32])↔Nc l c i=true:=by
 have k:=T.Yb a;unfold CD at k;rw[cδ,de]at k;refine Iff.trans ?_ k;have e:(([99,111,105,108,32]++c)++[32]:ba)=Z4.getD 6 []++32::(c++[32]):=by simp[Z4]
 have d:R (([99,111,105,108,32]++c)++[32]:ba)=R (Z4.getD 6 [])+1+(R c+1):=by simp[Z4];omega
 rw[d,e]
def ended_at{o:Bool}(a:i<u)(hi:i<R l):OQ s o ((l.take u).drop i)=if l[i].text=s then OQ s true ((l.take u).drop<|i+1)else if o=true/\l[i].text=CJ then true else OQ s o ((l.take u).drop<|i+1):=by
 rw[np (by rw[sc];omega),OQ,dξ]
def beg_on(s:ba)(hi:i<R l):P8 s (l.take<|i+1)=(P8 s (l.take i)||decide (l[i].text=s)):=by
 unfold P8;rw[mv hi,fb];simp
def C5(f:Nat->Bool)(i:Nat):(List.range<|i+1).any f=((List.range i).any f||f i):=by
 rw[cε,fb];simp
def ver_bd(h:(Z2 n l).2.2=0)(i:Nat)(r:ba):0<=(VD n l i).st.YD r/\(VD n l i).st.YD r<=6:=by
 have:=(F5<|UP h i).inv.lv;have e:R ((VD n l i).st.ZJ.filter λq=>decide<|q.name=r)<=R (VD n l i).st.ZJ:=cσ _ _;have a:R (VD n l i).st.ZJ=R (VD n l i).ZF:=Zx ..;unfold State.YD;show 0<=_/\_;change (R (VD n l i).ZF)<=6 at this;omega
def cT_6(h:Qf l i≠6):Nc l c i=false:=by
 unfold Nc cB;rw[Zy h];rfl
def b8(h:(Z2 n l).2.2=0)(a:j<R (Z2 n l).1.parts):Wm n l ((Z2 n l).1.p j).num=0/\G1 n l ((Z2 n l).1.p j).num=(Z2 n l).1.p j:=by
 have e:=(F5 h).pIx2 a;have c:=(e_ h).2 j a;have b:Wm n l ((Z2 n l).1.p j).num=0:=by
  unfold Wm J9;rw[Zm<|Zp h,e,Zz c];rfl
 refine⟨b,?_⟩;unfold G1 rW;rw[Zm<|Zp b,e,bφ,Zv a,Qp<|Zv a];rfl
def gQ{g:Part->Bool}:m∈H.numbers g↔∃j,j<R H.parts/\(H.p j).num=m/\g (H.p j)=true:=by
 unfold Z6.numbers;rw[rx];constructor
 ·rintro⟨q,hq,e⟩;obtain⟨c,b⟩:=eI.1 hq;obtain⟨j,a,rfl⟩:=dl c;exact⟨j,a,by rw[Qp<|Zv a];exact e,by rw[Qp<|Zv a];exact b⟩
 rintro⟨j,a,e,b⟩;rw[Qp<|Zv a]at e b;exact⟨_,eI.2 ⟨Zt a,b⟩,e⟩
def pof_part(h:(Z2 n l).2.2=0)(a:j<R (Z2 n l).1.parts):wu n l ((Z2 n l).1.p j).Yr ((Z2 n l).1.p j).YD=0/\af n l ((Z2 n l).1.p j).Yr ((Z2 n l).1.p j).YD=(Z2 n l).1.numbers (Ao ((Z2 n l).1.p j).Yr ((Z2 n l).1.p j).YD)/\Ar ((Z2 n l).1.numbers<|Ao ((Z2 n l).1.p j).Yr ((Z2 n l).1.p j).YD) ((Z2 n l).1.p j).num=true:=by
 have c:=(QF h (R l)<|Zq _).pc j;rw[Al]at c;obtain⟨⟨v,f,e,d⟩,_⟩:=c a;have b:wu n l ((Z2 n l).1.p j).Yr ((Z2 n l).1.p j).YD=0:=by
  unfold wu;rw[Zm<|Zp h,Zn];exact dτ.2 ⟨v,f,by unfold isV;exact Zz ⟨e,d⟩⟩
 refine⟨b,Zm<|Zp b,dτ.2 ⟨_,gQ.2 ⟨j,a,rfl,?_⟩,Zz rfl⟩⟩;unfold Ao;exact Zz ⟨rfl,rfl⟩
def pof_all(h:(Z2 n l).2.2=0){k:Int}(d:m∈(Z2 n l).1.numbers (Ao r k)):Wm n l m=0/\(G1 n l m).Yr=r/\(G1 n l m).YD=k:=by
 obtain⟨j,f,e,c⟩:=gQ.1 d;obtain⟨a,b⟩:=b8 h f;rw[e]at a b;rw[b];exact⟨a,(pf c).1,(pf c).2⟩
def num_len(H:Z6)(g:Part->Bool):R (H.numbers g)<=R H.parts:=by
 unfold Z6.numbers;rw[Zx];exact cσ _ _
def hist_le(n:Net)(l:List Entry)(q:Part):R (sB n l q)<=R l:=by
 unfold sB;rw[Zx];have:=cσ (E0 n l q)<|List.range<|R l;rw[List.length_range]at this;exact this
def back_part(h:(Z2 n l).2.2=0)(hi:i<R (Xi n l).parts):(Xi n l).parts[i]=(Z2 n l).1.p i:=by
 have e:∀(s:State)(hs:Xi n l=s)(a:i<R s.parts),(Xi n l).parts[i]=s.parts[i]:=λs hs a=>by subst hs;rfl
 have b:Xi n l=(Z2 n l).1.st:=xT<|Zp h;have a:i<R (Z2 n l).1.st.parts:=by rw[←b];exact hi
 exact(e _ b a).trans (st_at _ i a).2
def Gy(v:u<=R l):Ct prog 53 [.sl<|l.map Entry.cs,bv u,.str s]<|.bool<|OQ s false<|l.take u:=by
 refine cI func53 O<|OK.XF (v9:=l.map Entry.cs) (t:=0) O O λqf=>?_;rw[Zx]at qf;unfold maxLen at qf;refine ro 17 O ?_;refine OK.We [] (λ(i:Nat)(o:Bool)=>[(0,.sl<|l.map Entry.cs),(1,bv u),(2,.str s),(7,.bool o),(8,bv i)]) (λi o=>i<=u/\OQ s false (l.take u)=OQ s o ((l.take u).drop i)) (λi o=>u - i) 0 false ⟨Zr _,O⟩ ⟨O,O,O,O,O,Zo⟩ (λ_ _=>O) ?_;rintro i o ⟨hi,q⟩;refine ro 8 O<|kB O (λp=>?_) λp=>?_
 ·have h:i<u:=I
  have a:i<R l:=I
  have r:=q.trans<|ended_at (s:=s) (o:=o) h a;refine ro 8 O<|kc (zI Vy O a O)<|rr 6 O<|kB O (λf=>?_) λf=>?_
  ·have g:=r.trans<|Zn f;refine Ro 10 O I<|Ab.D.lp ⟨i+1,true,⟨I,g⟩,I,O,O,O,O,O,Zo⟩
  have b:=r.trans<|Zm f;refine ro 4 O<|RK.split (t:=22) O (λc=>?_) λc=>?_
  ·refine rr 2 O<|kc (S.Zi (n:=i) Vy (zg O O) O (zt O) (zt O) O a O)<|rr 6 O<|kB O (λd=>?_) λd=>?_
   ·have m:OQ s false (l.take u)=true:=b.trans<|Zn ⟨c,d⟩;refine ro 5 O<|kR O O ?_;rw[m];try rfl
   have g:=b.trans<|Zm λe=>d e.2;refine Ro 8 O I<|Ab.D.lp ⟨i+1,o,⟨I,g⟩,I,O,O,O,O,O,Zo⟩
  have g:=b.trans (Zm λe=>by rw[c]at e;cases e.1);refine Rr 18 O I<|Ab.D.lp ⟨i+1,o,⟨I,g⟩,I,O,O,O,O,O,Zo⟩
 have m:OQ s false (l.take u)=false:=by rw[q,show i=u by omega,ut<|by rw[sc];omega];rfl
 refine ro 7 O<|kR O O ?_;rw[m];try rfl
def kG(h0:(Z2 n l).2.2=0)(F:j<R (Z2 n l).1.parts):Ct prog 20 [.sl<|l.map Entry.cs,ints<|sB n l<|(Z2 n l).1.p j,.agg ((Z2 n l).1.p j).cs]<|.bool true:=by
 refine cI func20 O λ{_ _}=>?_
 have hl60:=(Ur h0).2.1;obtain⟨hr12,hc12⟩:=part_len h0 F;obtain⟨hrb,hcb⟩:=part_nb h0 F;have hnb:=(e_ h0).2 j F;have hil0:=OE<|mn ((Z2 n l).1.p j).num I;have hSt:((((([115,116,97,114,116,32]++Lib.itoa ((Z2 n l).1.p j).num)++[32])++((Z2 n l).1.p j).Yr)++[32])++((Z2 n l).1.p j).Yb)=(Qr<|(Z2 n l).1.p j):=by simp[Qr]
 obtain⟨Z,Y,hend3⟩:=told_end h0 F;obtain⟨hasc1,hasc2⟩:=hist_asc (n:=n) (l:=l)<|(Z2 n l).1.p j;have hhl:=hist_le n l<|(Z2 n l).1.p j;refine ro 7 O ?_;refine kV (.c (zf JC O)<|.c (zl YK O O O O)<|.c (zK r7 call51 O)<|.c (S.sJ .none O (.Vh (l:=[115,116,97,114,116,32]) O C) (zt O)<|by simp only[Zs,tt,aυ];omega)<|.c (S.sJ .none O (zt O) (.Vh (l:=[32]) O C)<|by simp only[Zs,tt,aυ];omega)<|.c (zf Vg O)<|.c (zf wo O)<|.c (zl T6 O O O O)<|.c (S.sJ .none O (zt O) (zt O)<|by simp only[Zs,tt,aυ];omega)<|.c (S.sJ .none O (zt O) (.Vh (l:=[32]) O C)<|by simp only[Zs,tt,aυ];omega)<|.c (zf DC O)<|.c (zl T6 O O O O)<|.c (S.sJ .none O (zt O) (zt O)<|by simp only[Zs,tt,aυ];omega)<|.c (za O) .nil) ?_;refine Ab.D.code<|kO ?_;rw[hSt];have hV0:(0:Int)=(VD n l 0).st.YD ((Z2 n l).1.p j).Yr:=by have:=Ur<|UP h0 0;show(0:Int)=(Z2 n<|l.take 0).1.st.YD _;rw[this.2.2];rfl
 refine ro 13 O ?_;refine OK.loop (G:=Nat) [5] (λi=>[(0,.sl<|l.map Entry.cs),(1,ints<|sB n l<|(Z2 n l).1.p j),(5,.ptr 5 0),(1005,.box ((Z2 n l).1.p j).cs),(7,.str<|Qr<|(Z2 n l).1.p j),(8,.bool<|P8 (Qr<|(Z2 n l).1.p j)<|l.take i),(9,.bool<|(List.range i).any<|Nc l ((Z2 n l).1.p j).Yb),(10,bv<|(VD n l i).st.YD ((Z2 n l).1.p j).Yr),(11,bv i)]) (λi=>i<=R l) (λi=>R l - i) 0 (Zr _) ⟨O,O,O,O,O,O,O,(OT hV0),O,Zo⟩ (λ_=>O) ?_;rintro i hi;refine ro 5 O<|kc (zk Vy O)<|rr 3 O<|kB O (λc32=>?_) λc32=>?_
 ·have b:i<R l:=I
  have T:=dA h0 b;have hvb:=ver_bd h0 i ((Z2 n l).1.p j).Yr;refine ro 5 O<|kV (.c (zm O)<|.c (zm O)<|.c (zI Vy O b O)<|.c (S.field Kz .none O (zt O) O)<|.c (zV T6 O O)<|.c (zm O)<|.c (zm O)<|.c (zK (sG (l:=sB n l<|(Z2 n l).1.p j) (n:=(i:Int))) call19 O)<|.c (za O)<|.c (za O) .nil)<|Ab.D.code ?_;refine OK.join (G:=Unit) [5] (λ_=>[(0,.sl<|l.map Entry.cs),(1,ints<|sB n l<|(Z2 n l).1.p j),(5,.ptr 5 0),(1005,.box ((Z2 n l).1.p j).cs),(7,.str<|Qr<|(Z2 n l).1.p j),(8,.bool<|P8 (Qr<|(Z2 n l).1.p j)<|l.take<|i+1),(9,.bool<|(List.range<|i+1).any<|Nc l ((Z2 n l).1.p j).Yb),(10,bv<|(VD n l<|i+1).st.YD ((Z2 n l).1.p j).Yr),(11,bv i),(12,.str l[i].text),(13,.bool<|E0 n l ((Z2 n l).1.p j) i)]) (λ_=>True) (λ_=>O) ?_ ?_
  ·refine OK.block<|kO ?_;rw[has_hist _ b];refine ro 7 O<|kB O (λK=>?_) λK=>?_
   ·obtain⟨ho1,hb1⟩:=told_1 h0 b F K;have W:=((Ni h0 b F).1 K).1;have hB:true=P8 (Qr<|(Z2 n l).1.p j) (l.take<|i+1):=by rw[beg_on _ b,Zz K,ax]
    have r:(List.range i).any (Nc l ((Z2 n l).1.p j).Yb)=(List.range<|i+1).any (Nc l ((Z2 n l).1.p j).Yb):=by rw[C5,cT_6 I,ce]
    have o:(VD n l i).st.YD ((Z2 n l).1.p j).Yr=(VD n l<|i+1).st.YD ((Z2 n l).1.p j).Yr:=by rw[K6 h0 b,Zm λe=>I,ed]
    refine ro 4 O<|kc (S.not .none O<|zt O)<|jm O<|RK.split (t:=49) O (λg49=>?_) λg49=>?_
    ·rw[ho1]at g49;cases g49
    refine rr 4 O<|OK.cond O O (λc51=>?_) λc51=>?_
    ·rw[hb1]at c51;cases c51
    refine ro 6 O<|Ab.D.lp ⟨(),Zo,O,O,O,O,O,(rn (λz=>some<|X.bool z) hB),(rn (λz=>some<|X.bool z) r),(OT o),O,O,O,Zo⟩
   have hB:P8 (Qr<|(Z2 n l).1.p j) (l.take i)=P8 (Qr<|(Z2 n l).1.p j) (l.take<|i+1):=by rw[beg_on _ b,Zy K,ce]
   refine ro 4 O<|kc (zK (xW (s:=l[i].text) (v:=[102,114,97,109,101,32])) call52 O)<|rr 3 O<|OK.mP O O (λx=>?_) λx=>?_
   ·have m:Qf l i=2\/Qf l i=3:=by first|exact .inl (pf<|(T.gS (j:=2) C C).symm.trans x)|exact .inr<|pf<|T.end_.symm.trans x
    have r:(List.range i).any (Nc l ((Z2 n l).1.p j).Yb)=(List.range<|i+1).any (Nc l ((Z2 n l).1.p j).Yb):=by rw[C5,cT_6 I,ce]
    have o:(VD n l i).st.YD ((Z2 n l).1.p j).Yr=(VD n l<|i+1).st.YD ((Z2 n l).1.p j).Yr:=by rw[K6 h0 b,Zm λe=>I,ed]
    refine ro 7 O<|RK.split (t:=58) O (λw=>?_) λw=>?_
    ·refine rr 3 O<|kc (S.call (Gy (l:=l) (u:=i) (s:=(Qr<|(Z2 n l).1.p j)) I) call53 (zg O O) O (zc O<|zc O<|zc O .nil) O)<|kc (S.not (zg O O) O<|zt O) ?_;refine rr 8 O<|kc (S.lS underlying4 .none O (zt O)<|zt O)<|kD<|kB O (λg=>?_) λg=>?_
     ·exact absurd (by rw[yz h0 b F m,w];rfl) g
     refine OK.skip<|Ab.D.blk<|Ab.D.lp ⟨(),Zo,O,O,O,O,O,(rn (λz=>some<|X.bool z) hB),(rn (λz=>some<|X.bool z) r),(OT o),O,O,O,Zo⟩
    refine rr 13 O<|kc (S.lS underlying4 .none O (zt O)<|zt O)<|kD<|kB O (λg=>?_) λg=>?_
    ·exact absurd (by rw[yz h0 b F m,w];rfl) g
    refine OK.skip<|Ab.D.blk<|Ab.D.lp ⟨(),Zo,O,O,O,O,O,(rn (λz=>some<|X.bool z) hB),(rn (λz=>some<|X.bool z) r),(OT o),O,O,O,Zo⟩
   refine ro 6 O<|OK.mP O O (λx=>?_) λx=>?_
   ·have m:Qf l i=2\/Qf l i=3:=by first|exact .inl (pf<|(T.gS (j:=2) C C).symm.trans x)|exact .inr<|pf<|T.end_.symm.trans x
    have r:(List.range i).any (Nc l ((Z2 n l).1.p j).Yb)=(List.range<|i+1).any (Nc l ((Z2 n l).1.p j).Yb):=by rw[C5,cT_6 I,ce]
    have o:(VD n l i).st.YD ((Z2 n l).1.p j).Yr=(VD n l<|i+1).st.YD ((Z2 n l).1.p j).Yr:=by rw[K6 h0 b,Zm λe=>I,ed]
    refine ro 4 O<|RK.split (t:=58) O (λw=>?_) λw=>?_
    ·refine rr 3 O<|kc (S.call (Gy (l:=l) (u:=i) (s:=(Qr<|(Z2 n l).1.p j)) I) call53 (zg O O) O (zc O<|zc O<|zc O .nil) O)<|kc (S.not (zg O O) O<|zt O) ?_;refine rr 8 O<|kc (S.lS underlying4 .none O (zt O)<|zt O)<|kD<|kB O (λg=>?_) λg=>?_
     ·exact absurd (by rw[yz h0 b F m,w];rfl) g
     refine OK.skip<|Ab.D.blk<|Ab.D.lp ⟨(),Zo,O,O,O,O,O,(rn (λz=>some<|X.bool z) hB),(rn (λz=>some<|X.bool z) r),(OT o),O,O,O,Zo⟩
    refine rr 13 O<|kc (S.lS underlying4 .none O (zt O)<|zt O)<|kD<|kB O (λg=>?_) λg=>?_
    ·exact absurd (by rw[yz h0 b F m,w];rfl) g
    refine OK.skip<|Ab.D.blk<|Ab.D.lp ⟨(),Zo,O,O,O,O,O,(rn (λz=>some<|X.bool z) hB),(rn (λz=>some<|X.bool z) r),(OT o),O,O,O,Zo⟩
   refine ro 5 O ?_;refine kc (S.sJ .none O (.Vh (l:=[99,111,105,108,32]) O C) (zt O)<|by simp only[Zs,tt,aυ];omega) ?_;refine kc (S.sJ .none O (zt O) (.Vh (l:=[32]) O C)<|by simp only[Zs,tt,aυ];omega) ?_;refine kc (zK (xW (s:=l[i].text) (v:=([99,111,105,108,32]++((Z2 n l).1.p j).Yb)++[32])) call52 O)<|rr 3 O<|kB O (λc68=>?_) λc68=>?_
   ·have y:=(T.coilv hcb).1 c68;have hk6:Qf l i=6:=by by_cases q:Qf l i=6;exact q;rw[cT_6 q]at y;cases y
    have ho3:=told_3 (n:=n) (j:=j) y;have r:true=(List.range<|i+1).any (Nc l ((Z2 n l).1.p j).Yb):=by rw[C5,y,ax]
    have o:(VD n l i).st.YD ((Z2 n l).1.p j).Yr=(VD n l<|i+1).st.YD ((Z2 n l).1.p j).Yr:=by rw[K6 h0 b,Zm λe=>I,ed]
    refine ro 4 O<|kc (S.not .none O<|zt O)<|kD<|OK.cond O O (λc76=>?_) λc76=>?_
    ·rw[ho3]at c76;cases c76
    refine ro 6 O<|Ab.D.lp ⟨(),Zo,O,O,O,O,O,(rn (λz=>some<|X.bool z) hB),(rn (λz=>some<|X.bool z) r),(OT o),O,O,O,Zo⟩
   have y:Nc l ((Z2 n l).1.p j).Yb i=false:=by cases q:Nc l ((Z2 n l).1.p j).Yb i;rfl;exact absurd ((T.coilv hcb).2 q) c68
   have r:(List.range i).any (Nc l ((Z2 n l).1.p j).Yb)=(List.range<|i+1).any (Nc l ((Z2 n l).1.p j).Yb):=by rw[C5,y,ce]
   refine ro 6 O ?_;refine kc (S.sJ .none O (.Vh (l:=[114,101,99,105,112,101,32]) O C) (zt O)<|by simp only[Zs,tt,aυ];omega) ?_;refine kc (S.sJ .none O (zt O) (.Vh (l:=[32]) O C)<|by simp only[Zs,tt,aυ];omega) ?_;refine kc (zK (xW (s:=l[i].text) (v:=([114,101,99,105,112,101,32]++((Z2 n l).1.p j).Yr)++[32])) call52 O)<|rr 3 O<|kB O (λc77=>?_) λc77=>?_
   ·obtain⟨L,hrc⟩:=(T.rcpv hrb).1 c77;have o:(VD n l i).st.YD ((Z2 n l).1.p j).Yr+1=(VD n l<|i+1).st.YD ((Z2 n l).1.p j).Yr:=by rw[K6 h0 b,Zn ⟨L,hrc⟩]
    have ho4:=told_4 (n:=n) (j:=j) L hrc;refine Ro 15 O I<|kc (S.lS underlying4 .none O (zt O)<|zt O)<|kD<|kB O (λc93=>?_) λc93=>?_
    ·exact absurd (by rw[ho4,←o]) c93
    refine OK.skip<|Ab.D.blk<|Ab.D.lp ⟨(),Zo,O,O,O,O,O,(rn (λz=>some<|X.bool z) hB),(rn (λz=>some<|X.bool z) r),(OT o),O,O,O,Zo⟩
   have o:(VD n l i).st.YD ((Z2 n l).1.p j).Yr=(VD n l<|i+1).st.YD ((Z2 n l).1.p j).Yr:=by rw[K6 h0 b,Zm λe=>c77<|(T.rcpv hrb).2 e,ed]
   refine ro 4 O<|kc (zK (xW (s:=l[i].text) (v:=[110,111,116,101,32])) call52 O)<|rr 3 O<|OK.mP O O (λf=>?_) λf=>?_
   ·have E:Qf l i=0\/Qf l i=7\/Qf l i=12:=by first|exact .inl (pf<|(T.gS (j:=0) C C).symm.trans f)|exact .inr (.inr<|pf<|(T.gS (j:=12) C C).symm.trans f)|exact .inr<|.inl<|pf<|(T.gS (j:=7) C C).symm.trans f
    have A:=kJ (j:=j) h0 b E;refine ro 8 O<|OK.cond O O (λd=>?_) λd=>?_
    ·rw[A]at d;cases d
    refine OK.skip<|Ab.D.blk<|Ab.D.lp ⟨(),Zo,O,O,O,O,O,(rn (λz=>some<|X.bool z) hB),(rn (λz=>some<|X.bool z) r),(OT o),O,O,O,Zo⟩
   refine ro 3 O<|kc (zK (xW (s:=l[i].text) (v:=[108,101,97,114,110,32])) call52 O)<|rr 3 O<|OK.mP O O (λf=>?_) λf=>?_
   ·have E:Qf l i=0\/Qf l i=7\/Qf l i=12:=by first|exact .inl (pf<|(T.gS (j:=0) C C).symm.trans f)|exact .inr (.inr<|pf<|(T.gS (j:=12) C C).symm.trans f)|exact .inr<|.inl<|pf<|(T.gS (j:=7) C C).symm.trans f
    have A:=kJ (j:=j) h0 b E;refine ro 8 O<|OK.cond O O (λd=>?_) λd=>?_
    ·rw[A]at d;cases d
    refine OK.skip<|Ab.D.blk<|Ab.D.lp ⟨(),Zo,O,O,O,O,O,(rn (λz=>some<|X.bool z) hB),(rn (λz=>some<|X.bool z) r),(OT o),O,O,O,Zo⟩
   refine OK.R3<|jm O<|kc (zK (xW (s:=l[i].text) (v:=[114,101,112,97,105,114,32])) call52 O)<|rr 3 O<|OK.mP O O (λf=>?_) λf=>?_
   ·have E:Qf l i=0\/Qf l i=7\/Qf l i=12:=by first|exact .inl (pf<|(T.gS (j:=0) C C).symm.trans f)|exact .inr (.inr<|pf<|(T.gS (j:=12) C C).symm.trans f)|exact .inr<|.inl<|pf<|(T.gS (j:=7) C C).symm.trans f
    have A:=kJ (j:=j) h0 b E;refine ro 5 O<|OK.cond O O (λd=>?_) λd=>?_
    ·rw[A]at d;cases d
    refine OK.skip<|Ab.D.blk<|Ab.D.lp ⟨(),Zo,O,O,O,O,O,(rn (λz=>some<|X.bool z) hB),(rn (λz=>some<|X.bool z) r),(OT o),O,O,O,Zo⟩
   refine OK.skip (Ab.D.blk<|Ab.D.lp ⟨(),Zo,O,O,O,O,O,(rn (λz=>some<|X.bool z) hB),(rn (λz=>some<|X.bool z) r),(OT o),O,O,O,Zo⟩)
  rintro _ _;refine ro 4 O<|RK.split (t:=103) O (λU=>?_) λU=>?_
  ·refine rr 4 O<|RK.ZS (t:=107) O (λg107=>?_) λg107=>?_
   ·refine kc (S.move (zg O O) O<|zt O)<|kc (S.not (zg O O) O<|zt O)<|rr 2 O<|RK.split (t:=111) O (λJ=>?_) λJ=>?_
    ·refine kc (S.move (zg O O) O<|zt O)<|kc (S.call (xW (s:=l[i].text) (v:=[99,111,105,108,32])) call52 (zg O O) O (zc O<|.cons (.Vh (l:=[99,111,105,108,32]) O C) .nil) O)<|kc (S.Xb (zg O O) O<|zt O) ?_;refine rr 2 O<|RK.ZS (t:=116) O (λP=>?_) λP=>?_
     ·refine kc (S.move (zg O O) O<|zt O)<|kc (S.call (xW (s:=l[i].text) (v:=[114,101,99,105,112,101,32])) call52 (zg O O) O (zc O<|.cons (.Vh (l:=[114,101,99,105,112,101,32]) O C) .nil) O)<|kc (S.Xb (zg O O) O<|zt O) ?_;refine rr 3 O<|kB O (λV=>?_) λV=>?_
      ·exfalso;have h6:=told_6 h0 b F U (λe=>P<|pf<|(T.gS (j:=6) C C).trans<|Zz e) λe=>V<|pf<|(T.gS (j:=10) C C).trans<|Zz e;rw[h6]at J;cases J
      refine Ro 8 O I<|Ab.D.lp ⟨i+1,I,I,O,O,O,O,O,O,O,O,O,Zo⟩
     refine Rr 15 O I<|Ab.D.lp ⟨i+1,I,I,O,O,O,O,O,O,O,O,O,Zo⟩
    refine Rr 20 O I<|Ab.D.lp ⟨i+1,I,I,O,O,O,O,O,O,O,O,O,Zo⟩
   refine Rr 24 O I<|Ab.D.lp ⟨i+1,I,I,O,O,O,O,O,O,O,O,O,Zo⟩
  refine Rr 28 O I<|Ab.D.lp ⟨i+1,I,I,O,O,O,O,O,O,O,O,O,Zo⟩
 obtain rfl:i=R l:=I
 rw[List.take_length,Z,Y,Al];refine ro 9 O ?_;refine OK.loop (G:=Nat) [5] (λk=>[(0,.sl<|l.map Entry.cs),(1,ints<|sB n l<|(Z2 n l).1.p j),(5,.ptr 5 0),(1005,.box ((Z2 n l).1.p j).cs),(8,.bool true),(9,.bool true),(10,bv<|(Z2 n l).1.st.YD ((Z2 n l).1.p j).Yr),(15,bv k)]) (λk=>k<=R (sB n l<|(Z2 n l).1.p j)) (λk=>R (sB n l<|(Z2 n l).1.p j) - k) 0 (Zr _) ⟨O,O,O,O,O,O,O,O,Zo⟩ (λ_=>O) ?_;rintro k hk;refine ro 5 O<|kc (zk Rh O)<|rr 3 O<|kB O (λc124=>?_) λc124=>?_
 ·have B:k<R (sB n l<|(Z2 n l).1.p j):=I
  have h:=hasc1 _<|Zt B;refine ro 5 O ?_;by_cases a:(k:Int)>0
  ·have W:k - 1<R (sB n l<|(Z2 n l).1.p j):=I
   have hlt:=aπ.1 hasc2 (k - 1) k W B I;refine kV (.c (zm O)<|.c (zm O)<|.c (zI Rh O B O)<|.c (zV YK O O)<|.c (zm O)<|.c (zk Vy O)<|.c (S.sub .none O (zt O) (.Zg O) (mn _ I)<|mn _ I)<|.c (zK (Y4 (n:=(sB n l<|(Z2 n l).1.p j)[k]) (lo:=0) (hi:=(R l:Int) - 1)) call54 O)<|.c (S.Xb .none O<|zt O)<|.c (zm O)<|.c (S.move (.yes O O O<|by simp[h]) O<|zt O)<|.c (S.gtr (.yes O O O<|by simp[h]) O (zt O)<|.Zg O)<|.c (S.move (.yes O O O<|by simp[h]) O<|zt O)<|.c (S.move (.yes O O O<|by first|rfl|exact Zz a|exact Zy a|(rw[Zz a];rfl)|(rw[Zy a];rfl)|simp[*]) O<|zt O)<|.c (S.move (.yes O O O<|by first|rfl|exact Zz a|exact Zy a|(rw[Zz a];rfl)|(rw[Zy a];rfl)|simp[*]) O<|zt O)<|.c (S.Zi (n:=k) Rh (.yes O O O<|by first|rfl|exact Zz a|exact Zy a|(rw[Zz a];rfl)|(rw[Zy a];rfl)|simp[*]) O (zt O) (zt O) O B O)<|.c (S.Q_ YK (.yes O O O<|by first|rfl|exact Zz a|exact Zy a|(rw[Zz a];rfl)|(rw[Zy a];rfl)|simp[*]) O (zt O) O)<|.c (S.move (.yes O O O<|by first|rfl|exact Zz a|exact Zy a|(rw[Zz a];rfl)|(rw[Zy a];rfl)|simp[*]) O<|zt O)<|.c (S.move (.yes O O O<|by first|rfl|exact Zz a|exact Zy a|(rw[Zz a];rfl)|(rw[Zy a];rfl)|simp[*]) O<|zt O)<|.c (S.sub (.yes O O O<|by first|rfl|exact Zz a|exact Zy a|(rw[Zz a];rfl)|(rw[Zy a];rfl)|simp[*]) O (zt O) (.Zg O) (mn _ I)<|mn _ I)<|.c (S.Zi (n:=k - 1) Rh (.yes O O O<|by first|rfl|exact Zz a|exact Zy a|(rw[Zz a];rfl)|(rw[Zy a];rfl)|simp[*]) O (zt O) (zt O) I W O)<|.c (S.Q_ YK (.yes O O O<|by first|rfl|exact Zz a|exact Zy a|(rw[Zz a];rfl)|(rw[Zy a];rfl)|simp[*]) O (zt O) O)<|.c (S.leq (.yes O O O<|by first|rfl|exact Zz a|exact Zy a|(rw[Zz a];rfl)|(rw[Zy a];rfl)|simp[*]) O (zt O)<|zt O)<|.c (S.Tc (.yes O O O<|by simp[h]) O (zt O) (zt O)<|by first|rfl|exact Zz a|exact Zy a|(rw[Zz a];rfl)|(rw[Zy a];rfl)|simp[*])<|.c (S.Ug .none O (zt O) (zt O)<|by simp[h]) .nil) ?_;refine Ab.D.code<|kB O (λc151=>?_) λc151=>?_
   ·exfalso;omega
   refine Ro 8 O I<|Ab.D.lp ⟨k+1,I,I,O,O,O,O,O,O,O,O,Zo⟩
  refine kV (.c (zm O)<|.c (zm O)<|.c (zI Rh O B O)<|.c (zV YK O O)<|.c (zm O)<|.c (zk Vy O)<|.c (S.sub .none O (zt O) (.Zg O) (mn _ I)<|mn _ I)<|.c (zK (Y4 (n:=(sB n l<|(Z2 n l).1.p j)[k]) (lo:=0) (hi:=(R l:Int) - 1)) call54 O)<|.c (S.Xb .none O<|zt O)<|.c (zm O)<|.c (S.move (.yes O O O<|by simp[h]) O<|zt O)<|.c (S.gtr (.yes O O O<|by simp[h]) O (zt O)<|.Zg O)<|.c (S.move (.yes O O O<|by simp[h]) O<|zt O)<|.c (zG O<|by first|rfl|exact Zz a|exact Zy a|(rw[Zz a];rfl)|(rw[Zy a];rfl)|simp[*])<|.c (zG O<|by first|rfl|exact Zz a|exact Zy a|(rw[Zz a];rfl)|(rw[Zy a];rfl)|simp[*])<|.c (zG O<|by first|rfl|exact Zz a|exact Zy a|(rw[Zz a];rfl)|(rw[Zy a];rfl)|simp[*])<|.c (zG O<|by first|rfl|exact Zz a|exact Zy a|(rw[Zz a];rfl)|(rw[Zy a];rfl)|simp[*])<|.c (zG O<|by first|rfl|exact Zz a|exact Zy a|(rw[Zz a];rfl)|(rw[Zy a];rfl)|simp[*])<|.c (zG O<|by first|rfl|exact Zz a|exact Zy a|(rw[Zz a];rfl)|(rw[Zy a];rfl)|simp[*])<|.c (zG O<|by first|rfl|exact Zz a|exact Zy a|(rw[Zz a];rfl)|(rw[Zy a];rfl)|simp[*])<|.c (zG O<|by first|rfl|exact Zz a|exact Zy a|(rw[Zz a];rfl)|(rw[Zy a];rfl)|simp[*])<|.c (zG O<|by first|rfl|exact Zz a|exact Zy a|(rw[Zz a];rfl)|(rw[Zy a];rfl)|simp[*])<|.c (zG O<|by first|rfl|exact Zz a|exact Zy a|(rw[Zz a];rfl)|(rw[Zy a];rfl)|simp[*])<|.c (S.Ug (.yes O O O<|by simp[h]) O (zt O) .Wx<|by first|rfl|exact Zz a|exact Zy a|(rw[Zz a];rfl)|(rw[Zy a];rfl)|simp[*])<|.c (S.Ug .none O (zt O) (zt O)<|by simp[h]) .nil) ?_;refine Rd 10 O I<|Ab.D.lp ⟨k+1,I,I,O,O,O,O,O,O,O,O,Zo⟩
 refine ro 6 O<|RK.split (t:=153) O (λN=>?_) λN=>?_
 ·refine rr 3 O<|RK.split (t:=156) O (λM=>?_) λM=>?_
  ·refine rr 9 O (kR O O ?_)
   first|rfl|exact Xj<|Zz I
  cases M
 cases N
def DD:Q7 prog 3 [.agg n.cs,.sl<|l.map Entry.cs]<|.bool true:=by
 refine cT func3 O λv=>?_
 refine ro 9 O<|kc (S.Xo Bp v call8 .none O .nil O)<|kc (S.not .none O<|zt O)<|rr 9 O<|kc (zK (tK (n:=n)) call9 O)<|kc (S.not .none O<|zt O)<|jm O<|RK.split (t:=22) O (λC=>?_) λC=>?_
 ·refine rr 18 O<|kR O O ?_;rfl
 refine kc (S.move (zg O O) O<|zt O)<|kc (S.call (C2 (l:=l)) call10 (zg O O) O (zc O .nil) O)<|kc (S.not (zg O O) O<|zt O)<|rr 2 O<|RK.split (t:=27) O (λB=>?_) λB=>?_
 ·refine rr 13 O<|kR O O ?_;rfl
 have V:NK n=true:=by simpa using C
 have L:Xv l=true:=by simpa using B
 obtain⟨hl1,hl2⟩:=mN V;obtain⟨hll,T⟩:=dz L;have e:∀y∈l,R y.text<=100000:=λy hy=>by have:=T y hy;omega
 refine rr 2 O<|kc (S.call (G9 (n:=n) (l:=l) I e) call11 (zg O O) O (zc O<|zc O .nil) O) ?_;refine rr 4 O<|kB O (λE=>?_) λE=>?_
 ·refine ro 5 O<|kR O O ?_;rfl
 have h0:(Z2 n l).2.2=0:=Zu.1 E;have hb:Xi n l=(Z2 n l).1.st:=xT<|Zp h0;have hlp:=(F5 h0).inv.lp;have hln:R (Xi n l).parts=R (Z2 n l).1.parts:=by rw[hb];exact Zx ..
 refine ro 5 O<|kc (zK (Tj (n:=n) I) call13 O)<|jm O<|kc (zK (S8 (l:=l) I) call14 O)<|kc (S.Xo (r_ (n:=n) (l:=l) I<|An e) v call12 .none O (zc O<|zc O .nil) O) ?_;refine rr 10 O ?_;rw[h0];refine ro 4 O<|RK.ZS (t:=43) O (λA=>?_) λA=>?_
 ·exact absurd rfl A
 refine rr 2 O<|kc (S.OF Xr (zg O O) O<|zt O)<|rr 4 O<|kB O (λc48=>?_) λc48=>?_
 ·exfalso;omega
 refine ro 9 O ?_;refine OK.loop (G:=Nat) [2,5] (λi=>[(1,.sl<|l.map Entry.cs),(2,.ptr 2 0),(1002,.box n.cs),(5,.ptr 5 0),(1005,.box (Xi n l).cs),(7,bv i)]) (λi=>i<=R (Xi n l).parts) (λi=>R (Xi n l).parts - i) 0 (Zr _) ⟨O,O,O,O,O,O,Zo⟩ (λ_=>O) ?_;rintro i hi;refine ro 6 O<|kc (zk Xr O)<|rr 3 O<|kB O (λZ=>?_) λZ=>?_
 ·have U:i<R (Xi n l).parts:=by omega
  have u:i<R (Z2 n l).1.parts:=by omega
  have X:=back_part h0 U;have W:=(e_ h0).2 i u;obtain⟨o,m⟩:=b8 h0 u;obtain⟨h,g,d⟩:=pof_part h0 u;have q:=hist_eq h0 W<|(F5 h0).pIx2 u;have f:=kG h0 u;have Y:=hist_len h0 u;rw[←X]at o m h g d q f Y;have z:(Nn n l (Xi n l).parts[i].num).1=sB n l (Xi n l).parts[i]:=by rw[q]
  have x:(Nn n l (Xi n l).parts[i].num).2=0:=by rw[q]
  have hN12:=num_len (Z2 n l).1<|Ao (Xi n l).parts[i].Yr (Xi n l).parts[i].YD;refine ro 5 O<|kV (.c (zL Pn O O O O)<|.c (zK (Tj (n:=n) I) call13 O)<|.c (zm O)<|.c (zK (S8 (l:=l) I) call14 O)<|.c (zf Xu O)<|.c (zl WC O O O O)<|.c (zm O)<|.c (zI Xr O I O)<|.c (S.field JC .none O (zt O) O)<|.c (zV YK O O)<|.c (S.Xo (cC (n:=n) (l:=l) (num:=(Xi n l).parts[i].num) I<|An e) v call15 .none O (zc O<|zc O<|zc O .nil) O)<|.c (zm O)<|.c (zX O O O)<|.c (zX O O O)<|.c (zA (c:=8) ze54 O)<|.c (zS C1 O O O O O O)<|.c (za O) .nil)<|Ab.D.code<|kO ?_;rw[o,m];refine kV (.c (zL Pn O O O O)<|.c (zK (Tj (n:=n) I) call13 O)<|.c (zm O)<|.c (zK (S8 (l:=l) I) call14 O)<|.c (zf Xu O)<|.c (zl WC O O O O)<|.c (zm O)<|.c (zI Xr O I O)<|.c (S.field Vg .none O (zt O) O)<|.c (S.Vj OI .none O (zt O) O O)<|.c (S.Xo (ry (n:=n) (l:=l) (r:=(Xi n l).parts[i].Yr) (k:=(Xi n l).parts[i].YD) I<|An e) v call16 .none O (zc O<|zc O<|zc O .nil) O)<|.c (zm O)<|.c (zX O O O)<|.c (zX O O O)<|.c (za O)<|.c (za O) .nil)<|Ab.D.code<|kO ?_;rw[h,g];refine kV (.c (zL Pn O O O O)<|.c (zK (Tj (n:=n) I) call13 O)<|.c (zm O)<|.c (zK (S8 (l:=l) I) call14 O)<|.c (zf Xu O)<|.c (zl WC O O O O)<|.c (zm O)<|.c (zI Xr O I O)<|.c (S.field JC .none O (zt O) O)<|.c (zV YK O O)<|.c (S.Xo (J7 (n:=n) (l:=l) (num:=(Xi n l).parts[i].num) I<|An e) v call17 .none O (zc O<|zc O<|zc O .nil) O)<|.c (zm O)<|.c (zX O O O)<|.c (zX O O O)<|.c (za O)<|.c (za O) .nil) ?_;refine rd 3 O ?_;rw[z,x];refine kV (.c (zm O)<|.c (zN O O)<|.c (zm O)<|.c (S.Hl C1 (.yes O O O F) O (zt O) O O O O)<|.c (S.VN Xu (.yes O O O F) O<|zt O)<|.c (S.YH WC (.yes O O O F) O (zt O) O O O O)<|.c (S.move (.yes O O O F) O<|zt O)<|.c (S.Zi (n:=i) Xr (.yes O O O F) O (zt O) (zt O) O I O)<|.c (S.Vj C1 (.yes O O O F) O (zt O) O O)<|.c (S.call (sF (a:=(Xi n l).parts[i])) call18 (.yes O O O F) O (zc O<|zc O .nil) O)<|.c (S.not (.yes O O O F) O<|zt O)<|.c (S.Ug .none O (zt O) (zt O) F)<|.c (zm O)<|.c (S.move (.yes O O O F) O<|zt O)<|.c (S.neq (.yes O O O F) O (zt O)<|.Zg O)<|.c (S.Ug .none O (zt O) (zt O) F)<|.c (zm O)<|.c (S.move (.yes O O O F) O<|zt O)<|.c (S.VN JC (.yes O O O F) O<|zt O)<|.c (S.YH YK (.yes O O O F) O (zt O) O O O O)<|.c (S.call (sG (l:=((Z2 n l).1.numbers<|Ao (Xi n l).parts[i].Yr (Xi n l).parts[i].YD)) (n:=(Xi n l).parts[i].num)) call19 (.yes O O O F) O (zc O<|zc O .nil) O)<|.c (S.not (.yes O O O F) O<|zt O)<|.c (S.Ug .none O (zt O) (zt O) F)<|.c (zm O)<|.c (S.move (.yes O O O<|by simp[d]) O<|zt O)<|.c (S.neq (.yes O O O<|by simp[d]) O (zt O)<|.Zg O)<|.c (S.Ug .none O (zt O) (zt O)<|by simp[d])<|.c (zm O)<|.c (S.move (.yes O O O F) O<|zt O)<|.c (S.OF Rh (.yes O O O F) O<|zt O)<|.c (S.lss (.yes O O O F) O (zt O)<|.Zg O)<|.c (S.Ug .none O (zt O) (zt O) F) .nil) ?_;refine Ab.D.code<|kB O (λK=>?_) λK=>?_
  ·exfalso;omega
  refine ro 9 O ?_;refine OK.loop (G:=Nat) [2,5,8] (λk=>[(1,.sl<|l.map Entry.cs),(2,.ptr 2 0),(1002,.box n.cs),(5,.ptr 5 0),(1005,.box (Xi n l).cs),(7,bv i),(8,.ptr 8 0),(1008,.box (Xi n l).parts[i].cs),(10,ints<|(Z2 n l).1.numbers<|Ao (Xi n l).parts[i].Yr (Xi n l).parts[i].YD),(12,ints<|sB n l (Xi n l).parts[i]),(14,bv k)]) (λk=>k<=R ((Z2 n l).1.numbers<|Ao (Xi n l).parts[i].Yr (Xi n l).parts[i].YD)) (λk=>R ((Z2 n l).1.numbers<|Ao (Xi n l).parts[i].Yr (Xi n l).parts[i].YD) - k) 0 (Zr _) ⟨O,O,O,O,O,O,O,O,O,O,O,Zo⟩ (λ_=>O) ?_;rintro k hk;refine ro 5 O<|kc (zk Rh O)<|rr 3 O<|kB O (λJ=>?_) λJ=>?_
  ·have w:k<R ((Z2 n l).1.numbers<|Ao (Xi n l).parts[i].Yr (Xi n l).parts[i].YD):=by omega
   obtain⟨P,N,M⟩:=pof_all h0<|Zt w;refine ro 5 O<|kV (.c (zL Pn O O O O)<|.c (zK (Tj (n:=n) I) call13 O)<|.c (zm O)<|.c (zK (S8 (l:=l) I) call14 O)<|.c (zm O)<|.c (zm O)<|.c (zI Rh O w O)<|.c (zV YK O O)<|.c (S.Xo (cC (n:=n) (l:=l) (num:=((Z2 n l).1.numbers<|Ao (Xi n l).parts[i].Yr (Xi n l).parts[i].YD)[k]) I<|An e) v call15 .none O (zc O<|zc O<|zc O .nil) O)<|.c (zm O)<|.c (zX O O O)<|.c (zX O O O)<|.c (zA (c:=15) ze54 O)<|.c (zS C1 O O O O O O)<|.c (za O) .nil)<|Ab.D.code<|kO ?_;rw[P];refine ro 4 O<|RK.ZS (t:=150) O (λp=>?_) λp=>?_
   ·exact absurd rfl p
   refine rr 4 O ?_;refine kc (S.pneq (b:=false) [.s [],.i 0] [.s (G1 n l ((Z2 n l).1.numbers<|Ao (Xi n l).parts[i].Yr (Xi n l).parts[i].YD)[k]).Yr,.i (G1 n l ((Z2 n l).1.numbers<|Ao (Xi n l).parts[i].Yr (Xi n l).parts[i].YD)[k]).YD] [.s (Xi n l).parts[i].Yr,.i (Xi n l).parts[i].YD] Gx (zg O O) O (zt O) (zt O) O O O O<|by rw[N,M];exact gR) ?_;refine Rr 12 O I<|Ab.D.lp ⟨k+1,I,I,O,O,O,O,O,O,O,O,O,O,O,Zo⟩
  refine ro 7 O<|kc (zK f call20 O)<|kc (S.not .none O<|zt O)<|Rr 11 O I<|Ab.D.lp ⟨i+1,I,I,O,O,O,O,O,O,Zo⟩
 refine ro 7 O<|kR O O ?_;rfl
