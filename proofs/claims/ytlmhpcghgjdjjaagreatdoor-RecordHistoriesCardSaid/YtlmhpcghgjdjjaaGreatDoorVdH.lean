import Derived.Test.YtlmhpcghgjdjjaaGreatDoorUvH
set_option linter.all false
set_option maxHeartbeats 4000000
open List renaming length->R
namespace Go.Proofs.Z_
open Go.Ab Tryz
set_option maxRecDepth 9999
def Z6.es(H:Z6)(j:Nat):bd:=(H.parts[j]?.map (·.2)).getD []
def CK(H:Z6)(k:Nat)(L:Sv)(j:Nat):Bool:=match k with
 |2=>decide<|H.Tk=some j
 |3=>decide<|H.Tk=some j
 |4=>decide<|H.U1 L.num=some j
 |5=>decide<|H.U1 L.num=some j
 |8=>decide<|H.U1 L.num=some j
 |11=>decide<|H.U1 L.num=some j
 |9=>match H.U1 L.num with
  |some i=>decide (i=j)||(decide (i≠j)&&H.outside (Y6 (Y9 L.rest).1 H.XR.limit).1&&decide ((H.p j).Yr=(H.p i).Yr/\(H.p j).YD=(H.p i).YD)&&Yu (H.p j))
  |none=>false
 |_=>false
structure kW(p p':Part):Prop where
 num:p'.num=p.num
 Yr:p'.Yr=p.Yr
 YD:p'.YD=p.YD
 Yb:p'.Yb=p.Yb
def kW.refl(p:Part):kW p p:=⟨rfl,rfl,rfl,rfl⟩
theorem kW.trans{p q r:Part}(a:kW p q)(b:kW q r):kW p r:=⟨b.num.trans a.num,b.Yr.trans a.Yr,b.YD.trans a.YD,b.Yb.trans a.Yb⟩
structure Tv(H H':Z6)(t:Nat->Bool):Prop where
 le:H.parts.length<=H'.parts.length
 keep:∀j,j<H.parts.length->kW (H.p j) (H'.p j)
 es:∀j,j<H.parts.length->H'.es j=H.es j++if t j=true then [H.entries]else []
 sw:H'.entries=H.entries
variable{L:Sv}{f:Z6->Nat->HE}
section
variable{H H':Z6}{t:Nat->Bool}{i:Nat}
def Tv.refl(a:∀j,j<R H.parts->t j=false):Tv H H t:=⟨Zq _,λ_ _=>.refl _,λj b=>by rw[a j b];simp,rfl⟩
def Tv.re(h:H'.parts=H.parts)(c:H'.entries=H.entries)(a:∀j,j<R H.parts->t j=false):Tv H H' t:=
 ⟨by rw[h];exact Zq _,λj _=>by unfold Z6.p;rw[h];exact .refl _,λj b=>by rw[a j b];unfold Z6.es;rw[h];simp,c⟩
def es_setP(H:Z6)(i j:Nat)(f:Part->Part):(H.Zh i f).es j=H.es j:=by
 unfold Z6.es Z6.Zh;dsimp only;rw[dT];cases H.parts[j]? with
 |none=>rfl
 |some q=>by_cases e:i=j<;>simp[e]
def es_addE(H:Z6)(i j:Nat)(a:j<R H.parts):(H.WT i).es j=H.es j++if i=j then [H.entries]else []:=by
 unfold Z6.es Z6.WT;dsimp only;rw[dT,Zv a];by_cases e:i=j<;>simp[e]
def Tv.Zh{f:Part->Part}(c:∀p,kW p<|f p)(b:∀j,j<R H.parts->t j=false):Tv H (H.Zh i f) t:=
 ⟨by show _<=R (H.parts.modify _ _);rw[aμ];exact Zq _,λj a=>by
  rw[xR H i f a];split
  ·exact c _
  exact .refl _,λj a=>by rw[es_setP,b j a];simp,rfl⟩
def Tv.WT(h:Tv H H' λ_=>false)(b:∀j,j<R H.parts->t j=decide (i=j)):Tv H (H'.WT i) t:=
 ⟨by show _<=R (H'.parts.modify _ _);rw[aμ];exact h.le,λj a=>by rw[Jl];exact h.keep j a,λj a=>by
  rw[es_addE _ _ _<|rp a h.le,h.es j a,h.sw,b j a];simp,h.sw⟩
def es_markAll(H:Z6)(i j:Nat)(a:j<R H.parts):(H.Yz i).es j=H.es j++if(decide ((H.p j).Yr=(H.p i).Yr)&&decide ((H.p j).YD=(H.p i).YD)&&Yu (H.p j))=true then [H.entries]else []:=by
 have b:=Qp<|Zv a;unfold Z6.es Z6.Yz;dsimp only;rw[dp,Zv a,b];simp only[cφ,Option.getD_some];split<;>simp_all
def dx(H:Z6)(i j:Nat)(a:j<R H.parts):kW (H.p j)<|(H.Yz i).p j:=by
 unfold Z6.p Z6.Yz;dsimp only;rw[dp,Zv a];simp only[cφ,Option.getD_some];split<;>exact⟨rfl,rfl,rfl,rfl⟩
def Tv.start(n:Int)(r c:ba)(h:(W_ H n r c).2=0):Tv H (W_ H n r c).1 λ_=>false:=by
 by_cases b:ZW [Z8 (decide<|n<=1000000) 2,Z8 (H.U1 n).isNone 5,Z8 ((H.AI r).isSome&&(H.Ob c).isSome) 6,Z8 H.Tk.isNone 17]=0
 case neg=>rw[OG rfl b]at h;exact absurd h b
 obtain⟨_,_,f,_⟩:=G2 b;rw[Zw]at f;obtain⟨k,g⟩:=sk.1 f.1;obtain⟨j,a⟩:=sk.1 f.2;have d:=(VK g).1;have e:=(Y8 a).1;rw[Lf b g (Zv d) a<|Zv e]at h⊢;split
 ·rename_i m;rw[Zn m]at h;exact absurd h m
 refine⟨F,λj a=>?_,λj a=>?_,rfl⟩
 ·unfold Z6.p;dsimp only;rw[m6 a];exact .refl _
 unfold Z6.es;dsimp only;rw[m6 a];simp
def Tv.about{n:Int}(h:(YJ H n f).2=0)(a:∀i,H.U1 n=some i->(f H i).2=0->Tv H ((f H i).1.WT i) t):Tv H (YJ H n f).1 t:=by
 unfold YJ at h⊢;cases e:H.U1 n with
 |none=>rw[e]at h;exact absurd h F
 |some i=>
  rw[e]at h;dsimp only at h⊢;by_cases h0:(f H i).2=0
  ·rw[Zn h0];exact a i e h0
  rw[Zm h0]at h;exact absurd h h0
def sect_tv(hi:H.U1 L.num=some i)(h:(Xz L.rest H i).2=0):Tv H ((Xz L.rest H i).1.WT i)<|CK H 9 L:=by
 have d:=o9 hi;have q:∀j,CK H 9 L j=(decide (i=j)||(decide (i≠j)&&H.outside (Y6 (Y9 L.rest).1 H.XR.limit).1&&decide ((H.p j).Yr=(H.p i).Yr/\(H.p j).YD=(H.p i).YD)&&Yu (H.p j))):=λj=>by
  show(match H.U1 L.num with|some i=>_|none=>_)=_;rw[hi]
 unfold Xz at h⊢;by_cases s:(H.p i).place≠1
 ·rw[Zn s]at h;exact absurd h F
 rw[Zm s]at h⊢;by_cases o:(Y9 L.rest).2≠0
 ·rw[Zn o]at h;exact absurd h o
 rw[Zm o]at h⊢;dsimp only at h⊢;by_cases m:(Y6 (Y9 L.rest).1 H.XR.limit).2≠0
 ·rw[Zn m]at h;exact absurd h m
 rw[Zm m];dsimp only;have a:Tv H (H.Zh i λp=>{p with place:=4,depth:=(Y6 (Y9 L.rest).1 H.XR.limit).1}) λ_=>false:=.Zh (λ_=>⟨rfl,rfl,rfl,rfl⟩) λ_ _=>rfl
 generalize f:(H.Zh i λp=>{p with place:=4,depth:=(Y6 (Y9 L.rest).1 H.XR.limit).1})=H1 at a⊢;have k:(H1.p i).place=4:=by rw[←f,xR H i _ d,Zn rfl]
 have g:∀j,j<R H.parts->i≠j->H1.p j=H.p j:=λj b e=>by rw[←f,xR H i _ b,Zm e]
 have c:=a.keep i d;cases r:H.outside (Y6 (Y9 L.rest).1 H.XR.limit).1 with
 |false=>
  rw[Zm C];refine a.WT λj b=>?_
  rw[q j,r];simp
 |true=>
  rw[Zn rfl];have hle:R H.parts<=R (H1.Yz i).parts:=by
   show _<=R (H1.parts.map _);rw[Zx];exact a.le
  refine⟨by show _<=R ((H1.Yz i).parts.modify _ _);rw[aμ];exact hle,λj b=>?_,λj b=>?_,a.sw⟩
  ·rw[Jl];exact(a.keep j b).trans<|dx H1 i j<|rp b a.le
  rw[es_addE _ _ _<|rp b hle,es_markAll _ _ _<|rp b a.le,a.es j b,q j,r];have w:(H1.Yz i).entries=H.entries:=a.sw;rw[w,a.sw];by_cases e:i=j
  ·subst e;have:Yu (H1.p i)=false:=by unfold Yu;rw[k];rfl
   rw[this];simp
  rw[g j b e,c.Yr,c.YD];by_cases v:(H.p j).Yr=(H.p i).Yr<;>by_cases u:(H.p j).YD=(H.p i).YD<;>cases Yu (H.p j)<;>simp[e,v,u]
def Tv.rP(k:Nat)(L:Sv)(h:(WQ k H L).2=0):Tv H (WQ k H L).1<|CK H k L:=by
 unfold WQ at h⊢;split
 ·exact .refl λ_ _=>rfl
 ·exact .start _ _ _ h
 ·change (Yl H (ZI L.rest).1 (ZI L.rest).2).2=0 at h;unfold Yl at h⊢;cases e:H.Tk with
  |none=>rw[e]at h;exact absurd h F
  |some i=>
   rw[e]at h;have a:∀j,CK H 2 L j=decide (i=j):=λj=>by show decide (H.Tk=some j)=_;rw[e];simp
   dsimp only at h⊢;by_cases b:(ZI L.rest).2≠0
   ·rw[Zn b]at h;exact absurd h b
   rw[Zm b]at h⊢;by_cases c:Yp H.plan (ZI L.rest).1≠0
   ·rw[Zn c]at h;exact absurd h c
   rw[Zm c]at h⊢;cases f:(H.p i).frames.find? (λg=>decide<|g.tick=(ZI L.rest).1.tick)with
   |none=>
    dsimp only;exact Tv.WT (.Zh (λ_=>⟨rfl,rfl,rfl,rfl⟩) λ_ _=>rfl) λj _=>a j
   |some g=>
    rw[f]at h;dsimp only at h⊢;by_cases d:g.values=(ZI L.rest).1.values
    ·rw[Zn d];exact(Tv.refl (t:=λ_=>false) λ_ _=>rfl).WT λj _=>a j
    rw[Zm d]at h;exact absurd h F
 ·change (Sz H).2=0 at h;unfold Sz at h⊢;cases e:H.Tk with
  |none=>rw[e]at h;exact absurd h F
  |some i=>
   have a:∀j,CK H 3 L j=decide (i=j):=λj=>by show decide (H.Tk=some j)=_;rw[e];simp
   exact Tv.WT (.Zh (λ_=>⟨rfl,rfl,rfl,rfl⟩) λ_ _=>rfl) λj _=>a j
 ·refine .about h λi hi h0=>?_
  have a:∀j,CK H 4 L j=decide (i=j):=λj=>by show decide (H.U1 L.num=some j)=_;rw[hi];simp
  unfold Wi at h0⊢;split at h0
  ·rename_i b;rw[Zn b];dsimp only;exact Tv.WT (.Zh (λ_=>⟨rfl,rfl,rfl,rfl⟩) λ_ _=>rfl) λj _=>a j
  exact absurd h0 F
 ·refine .about h λi hi h0=>?_
  have a:∀j,CK H 5 L j=decide (i=j):=λj=>by show decide (H.U1 L.num=some j)=_;rw[hi];simp
  unfold Tu at h0⊢;split at h0
  ·rename_i b;rw[Zn b];dsimp only;exact Tv.WT (.Zh (λ_=>⟨rfl,rfl,rfl,rfl⟩) λ_ _=>rfl) λj _=>a j
  exact absurd h0 F
 ·unfold Tw;dsimp only;split<;>exact .re rfl rfl λ_ _=>rfl
 ·unfold XZ;repeat' split
  all_goals exact .re rfl rfl λ_ _=>rfl
 ·refine .about h λi hi h0=>?_
  have a:∀j,CK H 8 L j=decide (i=j):=λj=>by show decide (H.U1 L.num=some j)=_;rw[hi];simp
  unfold WU at h0⊢;split at h0
  ·rename_i b;rw[Zn b];dsimp only;exact Tv.WT (.Zh (λ_=>⟨rfl,rfl,rfl,rfl⟩) λ_ _=>rfl) λj _=>a j
  exact absurd h0 F
 ·exact .about h λi hi h0=>sect_tv hi h0
 ·unfold XX;dsimp only;repeat' split
  all_goals exact .re rfl rfl λ_ _=>rfl
 ·refine .about h λi hi h0=>?_
  have a:∀j,CK H 11 L j=decide (i=j):=λj=>by show decide (H.U1 L.num=some j)=_;rw[hi];simp
  unfold Xe at h0⊢;dsimp only at h0⊢;split at h0
  ·rename_i b;rw[Zn b];exact Tv.WT (.re rfl rfl λ_ _=>rfl) λj _=>a j
  rename_i b;exact absurd h0 b
 have a:∀j,CK H k L j=false:=λj=>by
  unfold CK;split<;>first|rfl|(exfalso;simp_all;done)
 unfold Wo;split<;>exact .re rfl rfl λj _=>a j
end
variable{l:List Entry}{n:Net}
def sH(h:(Z2 n l).2.2=0):(Z2 n l).1.XR=n/\(Z2 n l).1.plan=(ZO n.plan).1:=by
 have key:∀(l:List Entry)(H:Z6)(i:Nat),(runT H i l).1.XR=H.XR/\(runT H i l).1.plan=H.plan:=by
  intro l
  induction l with
  |nil=>intro H i;exact⟨rfl,rfl⟩
  |cons x l a=>
   intro H i;have e:=UY H x;rw[runT];split
   ·exact⟨e.2,e.1⟩
   exact⟨(a _ _).1.trans e.2,(a _ _).2.trans e.1⟩
 obtain⟨_,_,e⟩:=Ur h;rw[e];exact key _ _ _
variable{H:Z6}
def dZ{x:Entry}(h:(Za H x).2=0):∃k,k<13/\X2 (ZQ 32 x.text).1=some k/\(Yn x.text).2=true/\(WQ k H (Yn x.text).1).2=0/\(Za H x).1={(WQ k H (Yn x.text).1).1 with time:=x.at_,entries:=(WQ k H (Yn x.text).1).1.entries+1}:=by
 unfold Za at h⊢;by_cases a:H.head x=0
 ·rw[Zm<|Zp a]at h⊢;obtain⟨i,hi⟩:=sk.1 (HV a).2.1;obtain⟨k,d⟩:=sk.1 (HV a).2.2.2.2.2.2;rw[hi,d]at h⊢;dsimp only at h⊢;by_cases c:H.tail x i k=0
  ·rw[Zm<|Zp c]at h⊢;by_cases b:(WQ k H (Yn x.text).1).2=0
   ·rw[Zm<|Zp b];exact⟨k,(Y8 d).1,rfl,(text_eq d).1▸fR c,b,rfl⟩
   rw[Zn b]at h;exact absurd h b
  rw[Zn c]at h;exact absurd h c
 rw[Zn a]at h;exact absurd h a
def about_ok{n:Int}(h:(YJ H n f).2=0):∃i,H.U1 n=some i/\(f H i).2=0/\(YJ H n f).1=(f H i).1.WT i:=by
 unfold YJ at h⊢;cases e:H.U1 n with
 |none=>rw[e]at h;exact absurd h F
 |some i=>
  rw[e]at h;dsimp only at h⊢;by_cases h0:(f H i).2=0
  ·rw[Zn h0];exact⟨i,rfl,h0,rfl⟩
  rw[Zm h0]at h;exact absurd h h0
variable{c r:ba}
def start_ok{n:Int}(h:(W_ H n r c).2=0):∃(j:Nat)(v:Rec×Int)(q:XA×Int),v∈H.ZF/\v.1.name=r/\(rZ H->v.1.YD=H.st.YD r)/\H.Z5[j]?=some q/\q.1.name=c/\H.U1 n=none/\H.Tk=none/\n<=1000000/\q.1.ZA<q.1.Wb/\(W_ H n r c).1={H with Z5:=H.Z5.modify j λq=>({q.1 with ZA:=q.1.ZA+1},q.2),parts:=H.parts++[(⟨n,v.1.name,v.1.YD,q.1.name,[],0,false,0,false,Span.zero⟩,[v.2,q.2,H.entries])]}:=by
 by_cases d:ZW [Z8 (decide<|n<=1000000) 2,Z8 (H.U1 n).isNone 5,Z8 ((H.AI r).isSome&&(H.Ob c).isSome) 6,Z8 H.Tk.isNone 17]=0
 case neg=>rw[OG rfl d]at h;exact absurd h d
 obtain⟨w,u,o,s⟩:=G2 d;rw[Zw]at o;obtain⟨k,g⟩:=sk.1 o.1;obtain⟨j,p⟩:=sk.1 o.2;obtain⟨a,f⟩:=VK g;obtain⟨b,m⟩:=Y8 p;rw[Lf d g (Zv a) p<|Zv b]at h⊢;split
 ·rename_i e;rw[Zn e]at h;exact absurd h e
 rename_i e;refine⟨j,H.ZF[k],H.Z5[j],Zt a,by simpa using f,λhi=>?_,Zv b,by simpa using m,dρ.1 u,dρ.1 s,pf w,pf (sA<|Zu.1 e).1,rfl⟩;have:=vu hi.YD r;rw[g]at this;simp only[Zv a]at this;exact this
def Z6.cn(H:Z6):List<|ba×Int:=H.Z5.map λq=>(q.1.name,q.2)
def map_mod{α β:Type}(f:α->β)(g:α->α)(a:∀x,f (g x)=f x)(l:List α)(j:Nat):(l.modify j g).map f=l.map f:=by
 refine P2 λi=>?_
 rw[dp,dT,dp];cases l[i]? with
 |none=>simp
 |some x=>by_cases e:j=i<;>simp[e,a]
variable{m:Int}{i:Nat}{E:Z6}
section
variable{H:Z6}
def j4{n:Int}(a:∀i,(f H i).1.ZF=H.ZF/\(f H i).1.cn=H.cn):(YJ H n f).1.ZF=H.ZF/\(YJ H n f).1.cn=H.cn:=by
 unfold YJ;cases H.U1 n with
 |none=>exact⟨rfl,rfl⟩
 |some i=>
  dsimp only;split
  ·exact a i
  exact a i
def eff_vc(k:Nat)(L:Sv):(k≠10->(WQ k H L).1.ZF=H.ZF)/\(k≠6->(WQ k H L).1.cn=H.cn):=by
 have both:∀{G:Z6}{j:Nat},G.ZF=H.ZF/\G.cn=H.cn->(j≠10->G.ZF=H.ZF)/\(j≠6->G.cn=H.cn):=λh=>⟨λ_=>h.1,λ_=>h.2⟩
 unfold WQ;split
 ·exact both ⟨rfl,rfl⟩
 ·refine both ?_;unfold W_;dsimp only
  repeat' split
  all_goals first|exact⟨rfl,rfl⟩|exact⟨rfl,map_mod (λq:XA×Int=>(q.1.name,q.2)) (λq=>({q.1 with ZA:=q.1.ZA+1},q.2)) (λ_=>rfl) H.Z5 _⟩
 ·refine both ?_;unfold Yl;repeat' split
  all_goals exact⟨rfl,rfl⟩
 ·refine both ?_;unfold Sz;split<;>exact⟨rfl,rfl⟩
 ·exact both (j4 λi=>by unfold Wi;split<;>exact⟨rfl,rfl⟩)
 ·exact both (j4 λi=>by unfold Tu;split<;>exact⟨rfl,rfl⟩)
 ·refine⟨λ_=>?_,λh=>absurd rfl h⟩;unfold Tw;dsimp only;split<;>rfl
 ·refine both ?_;unfold XZ;repeat' split
  all_goals first|exact⟨rfl,rfl⟩|exact⟨rfl,map_mod (λq:XA×Int=>(q.1.name,q.2)) (λq=>({q.1 with ZA:=0},q.2)) (λ_=>rfl) H.Z5 _⟩
 ·exact both (j4 λi=>by unfold WU;split<;>exact⟨rfl,rfl⟩)
 ·refine both<|j4 λi=>?_;unfold Xz;dsimp only
  repeat' split
  all_goals exact⟨rfl,rfl⟩
 ·refine⟨λh=>absurd rfl h,λ_=>?_⟩;unfold XX;dsimp only;repeat' split
  all_goals rfl
 ·refine both<|j4 λi=>?_;unfold Xe;dsimp only;split<;>exact⟨rfl,rfl⟩
 refine both ?_;unfold Wo;split<;>exact⟨rfl,rfl⟩
def cD(d:Hh H.ZF){t:ba}(h:(XX H r t).2=0):∃ph,(XX H r t).1.ZF=H.ZF++[(⟨r,H.st.YD r+1,ph⟩,H.entries)]:=by
 have e:=vu d r;unfold XX at h⊢;split
 ·rename_i a;rw[Zn a]at h;exact absurd h F
 rename_i a;rw[Zm a]at h;dsimp only at h⊢;split
 ·rename_i b;rw[Zn b]at h;exact absurd h b
 refine⟨(VJ t).1,?_⟩;dsimp only;congr 4;rw[←e];cases c:H.AI r with
 |none=>rfl
 |some j=>
  have f:=(VK c).1;simp only[bφ,Zv f]
def coil_ok(h:(Tw H c m).2=0):H.Ob c=none/\(Tw H c m).1.cn=H.cn++[(c,H.entries)]:=by
 unfold Tw at h⊢;dsimp only at h⊢;split
 ·rename_i a;refine⟨?_,by unfold Z6.cn;simp⟩;cases d:H.Ob c with
  |none=>rfl
  |some j=>rw[d]at a;cases b:YA c<;>rw[b]at a<;>exact absurd a (by simp[ZW,Z8])
 rename_i a;rw[Zm a]at h;exact absurd h a
def cIx_none:H.Ob c=none↔∀q∈H.cn,q.1≠c:=by
 refine(T9 _ _ 0).trans ⟨λh q a=>?_,λh q a=>?_⟩
 ·obtain⟨x,b,rfl⟩:=rx.1 a;exact a6<|h x b
 exact Zy<|h _<|rx.2 ⟨q,a,rfl⟩
def r9:H.U1 m=none↔∀j,j<R H.parts->(H.p j).num≠m:=by
 refine(T9 _ _ 0).trans ⟨λh j a=>?_,λh q b=>?_⟩
 ·have:=h _<|Zt a;rw[Qp<|Zv a];exact a6 this
 obtain⟨j,a,rfl⟩:=dl b;have:=h j a;rw[Qp<|Zv a]at this;exact Zy this
def iZ(h:H.U1 m=some i):(H.p i).num=m:=by
 obtain⟨b,a⟩:=Y8 h;rw[Qp<|Zv b];exact pf a
def HS.pIx2(h:HS H)(hi:i<R H.parts):H.U1 (H.p i).num=some i:=by rw[←C6];exact h.U1 hi
def ver_app{ph:List Ph}{e:Int}(h:E.ZF=H.ZF++[(⟨r,H.st.YD r+1,ph⟩,e)])(s:ba):E.st.YD s=H.st.YD s+if s=r then 1 else 0:=by
 unfold State.YD Z6.st;dsimp only;rw[h,ne,List.filter_append,Zs];by_cases q:s=r
 ·subst q;simp
 have:¬r=s:=λe=>q e.symm
 simp[q,this]
def ver_same(h:E.ZF=H.ZF)(s:ba):E.st.YD s=H.st.YD s:=by unfold State.YD Z6.st;dsimp only;rw[h]
def ver_le(a:Hh H.ZF){v:Rec×Int}(h:v∈H.ZF):v.1.YD<=H.st.YD v.1.name:=by
 obtain⟨i,hi,rfl⟩:=dl h;rw[a i _<|Zv hi];have e:H.st.YD H.ZF[i].1.name=(R (H.ZF.filter λr=>decide<|r.1.name=H.ZF[i].1.name):Int):=by
  show(R ((H.ZF.map (·.1)).filter λr=>decide<|r.name=H.ZF[i].1.name):Int)=_;rw[pA,Zx];rfl
 rw[e];have:=((List.take_sublist (i+1) H.ZF).filter λr=>decide<|r.1.name=H.ZF[i].1.name).length_le;omega
end
def setP_depth(H:Z6)(hi:i<R H.parts)(d:Span):((H.Zh i λp=>{p with place:=4,depth:=d}).p i).depth=d:=by rw[xR H i _ hi,Zn rfl]
def markAll_depth(H:Z6)(i j:Nat)(a:j<R H.parts):((H.Yz i).p j).depth=(H.p j).depth:=by
 unfold Z6.p Z6.Yz;dsimp only;rw[dp,Zv a];simp only[cφ,Option.getD_some];split<;>rfl
def sect_ok{rest:ba}(hi:i<R H.parts)(h:(Xz rest H i).2=0):((H.p i).place=1/\¬(Y6 (Y9 rest).1 H.XR.limit).2≠0)/\(((Xz rest H i).1.WT i).p i).depth=(Y6 (Y9 rest).1 H.XR.limit).1:=by
 rw[Jl];unfold Xz at h⊢;by_cases c:(H.p i).place≠1
 ·rw[Zn c]at h;exact absurd h F
 rw[Zm c]at h⊢;by_cases b:(Y9 rest).2≠0
 ·rw[Zn b]at h;exact absurd h b
 rw[Zm b]at h⊢;dsimp only at h⊢;by_cases a:(Y6 (Y9 rest).1 H.XR.limit).2≠0
 ·rw[Zn a]at h;exact absurd h a
 rw[Zm a];dsimp only;refine⟨⟨Zu.1 c,a⟩,?_⟩;split
 ·rw[markAll_depth _ _ _ (by show i<R (H.parts.modify _ _);rw[aμ];exact hi),setP_depth H hi]
 rw[setP_depth H hi]
def vB(E:Z6)(k:Nat)(L:Sv)(r:ba)(v:Int):Bool:=decide (k=10)&&(decide (L.Yr=r)&&decide (E.st.YD r=v))
def cB(k:Nat)(L:Sv)(c:ba):Bool:=decide (k=6)&&decide (L.Yb=c)
def nB(n:Net)(H E:Z6)(k:Nat)(L:Sv)(m:Int)(r:ba)(v:Int):Bool:=match k with
 |1=>decide<|L.num=m
 |4=>decide<|L.num=m
 |5=>decide<|L.num=m
 |8=>decide<|L.num=m
 |11=>decide<|L.num=m
 |2=>decide<|(H.p<|H.Tk.getD 0).num=m
 |3=>decide<|(H.p<|H.Tk.getD 0).num=m
 |9=>decide (L.num=m)||match H.U1 m with
  |some j=>decide ((E.p<|(E.U1 L.num).getD 0).Yr=r/\(E.p<|(E.U1 L.num).getD 0).YD=v)&&KC n (E.p<|(E.U1 L.num).getD 0).depth&&Yu (H.p j)
  |none=>false
 |_=>false
def ownB(n:Net)(H E:Z6)(k:Nat)(L:Sv)(q:Part):Bool:=vB E k L q.Yr q.YD||(cB k L q.Yb||nB n H E k L q.num q.Yr q.YD)
def Z6.Pc(H:Z6):Prop:=∀j,j<R H.parts->(∃v∈H.ZF,v.1.name=(H.p j).Yr/\v.1.YD=(H.p j).YD)/\∃q∈H.cn,q.1=(H.p j).Yb
variable{k:Nat}
def rR(a:k=2\/k=3)(h:(WQ k H L).2=0):∃u,H.Tk=some u:=by
 cases e:H.Tk with
 |some u=>exact⟨u,rfl⟩
 |none=>
  exfalso;rcases a with rfl|rfl
  ·have h:(Yl H (ZI L.rest).1 (ZI L.rest).2).2=0:=h;unfold Yl at h;rw[e]at h;exact absurd h F
  have h:(Sz H).2=0:=h;unfold Sz at h;rw[e]at h;exact absurd h F
def Dh(a:k=4\/k=5\/k=8\/k=9\/k=11)(h:(WQ k H L).2=0):∃i,H.U1 L.num=some i:=by
 rcases a with rfl|rfl|rfl|rfl|rfl<;>exact(about_ok h).imp λ_ h=>h.1
variable{j:Nat}
def own_touch(d:HS H)(o:H.Pc)(J:H.XR=n)(M:k<13)(h:(WQ k H L).2=0)(c:j<R H.parts):ownB n H (WQ k H L).1 k L (H.p j)=CK H k L j:=by
 have a:∀{i:Nat},H.U1 L.num=some i->decide (L.num=(H.p j).num)=decide (H.U1 L.num=some j):=λ{i} e=>by
  refine decide_eq_decide.2 ⟨λq=>by rw[q];exact d.pIx2 c,λq=>(iZ q).symm⟩
 unfold ownB vB cB;rcases(show k=0\/k=1\/k=2\/k=3\/k=4\/k=5\/k=6\/k=7\/k=8\/k=9\/k=10\/k=11\/k=12 by omega)with rfl|rfl|rfl|rfl|rfl|rfl|rfl|rfl|rfl|rfl|rfl|rfl|rfl
 ·rfl
 ·obtain⟨_,_,_,_,_,_,_,_,G,_⟩:=start_ok h;show decide (L.num=(H.p j).num)=false;exact Zy λe=>r9.1 G j c e.symm
 ·obtain⟨u,m⟩:=rR (.inl rfl) h;show decide ((H.p<|H.Tk.getD 0).num=(H.p j).num)=decide (H.Tk=some j);rw[m];exact decide_eq_decide.2 ⟨λe=>by rw[d.EV _ _ (Y8 m).1 c e],λe=>by rw[aγ e];rfl⟩
 ·obtain⟨u,m⟩:=rR (.inr rfl) h;show decide ((H.p<|H.Tk.getD 0).num=(H.p j).num)=decide (H.Tk=some j);rw[m];exact decide_eq_decide.2 ⟨λe=>by rw[d.EV _ _ (Y8 m).1 c e],λe=>by rw[aγ e];rfl⟩
 ·exact a (Dh (.inl rfl) h).choose_spec
 ·exact a (Dh (.inr<|.inl rfl) h).choose_spec
 ·obtain⟨K,_⟩:=coil_ok h;obtain⟨_,q,F,e⟩:=o j c;have:decide (L.Yb=(H.p j).Yb)=false:=Zy λA=>cIx_none.1 K q F<|e.trans A.symm
  show(false||(true&&decide (L.Yb=(H.p j).Yb)||false))=false;rw[this];rfl
 ·rfl
 ·exact a (Dh (.inr<|.inr<|.inl rfl) h).choose_spec
 ·have B:=Tv.rP 9 L h;have z:=d.rP 9 L;obtain⟨i,hi,h0,e⟩:=about_ok (H:=H) (n:=L.num) (f:=Xz L.rest) h;have b:=o9 hi;have x:=(sect_ok b h0).2;rw[←e]at x;change ((WQ 9 H L).1.p i).depth=_ at x;have g:=B.keep i b;have y:(WQ 9 H L).1.U1 L.num=some i:=by
   have:=z.pIx2 (i:=i)<|rp b B.le;rw[g.num,iZ hi]at this;exact this
  have I:KC n (Y6 (Y9 L.rest).1 H.XR.limit).1=H.outside (Y6 (Y9 L.rest).1 H.XR.limit).1:=by
   subst J;unfold Z6.outside KC;rw[Bool.not_and,fj,fj]
  show(decide (L.num=(H.p j).num)||match H.U1 (H.p j).num with
   |some D=>decide (((WQ 9 H L).1.p<|((WQ 9 H L).1.U1 L.num).getD 0).Yr=(H.p j).Yr/\((WQ 9 H L).1.p<|((WQ 9 H L).1.U1 L.num).getD 0).YD=(H.p j).YD)&&KC n ((WQ 9 H L).1.p<|((WQ 9 H L).1.U1 L.num).getD 0).depth&&Yu (H.p D)
   |none=>false)=match H.U1 L.num with
   |some i=>decide (i=j)||(decide (i≠j)&&H.outside (Y6 (Y9 L.rest).1 H.XR.limit).1&&decide ((H.p j).Yr=(H.p i).Yr/\(H.p j).YD=(H.p i).YD)&&Yu (H.p j))
   |none=>false
  rw[d.pIx2 c,y,hi];simp only[Option.getD_some,x,I,g.Yr,g.YD];by_cases q:i=j
  ·subst q;rw[Zz (iZ hi).symm];simp
  have C:¬L.num=(H.p j).num:=λA=>q<|d.EV i j b c<|(iZ hi).trans A
  rw[Zy C];simp only[q,decide_false,fM,ne_eq,not_false_eq_true,decide_true,tn];rw[Bool.and_comm<|H.outside _];congr 2;exact decide_eq_decide.2 ⟨λe=>⟨e.1.symm,e.2.symm⟩,λe=>⟨e.1.symm,e.2.symm⟩⟩
 ·obtain⟨ph,E⟩:=cD d.inv.YD h;obtain⟨⟨v,w,s,r⟩,_⟩:=o j c;have hle:=ver_le d.inv.YD w;rw[s,r]at hle;have z:=ver_app E (H.p j).Yr;show(true&&(decide (L.Yr=(H.p j).Yr)&&decide ((XX H L.Yr L.rest).1.st.YD (H.p j).Yr=(H.p j).YD))||(false||false))=false;rw[z];by_cases q:L.Yr=(H.p j).Yr
  ·rw[Zn q.symm,Zy (show¬H.st.YD (H.p j).Yr+1=(H.p j).YD by omega)];simp
  rw[Zy q];rfl
 ·exact a (Dh (.inr<|.inr<|.inr<|.inr rfl) h).choose_spec
 rfl
def VD(n:Net)(l:List Entry)(t:Nat):Z6:=(Z2 n<|l.take t).1
def Qf(l:List Entry)(t:Nat):Nat:=(l[t]?.bind λx=>X2 (ZQ 32 x.text).1).getD 13
def Gt(l:List Entry)(t:Nat):Sv:=((l[t]?.map λx=>(Yn x.text).1)).getD ⟨[],[],[],[],0⟩
def vT(n:Net)(l:List Entry)(r:ba)(v:Int)(t:Nat):Bool:=vB (VD n l<|t+1) (Qf l t) (Gt l t) r v
def cTh(l:List Entry)(c:ba)(t:Nat):Bool:=cB (Qf l t) (Gt l t) c
def nT(n:Net)(l:List Entry)(m:Int)(r:ba)(v:Int)(t:Nat):Bool:=nB n (VD n l t) (VD n l<|t+1) (Qf l t) (Gt l t) m r v
def E0(n:Net)(l:List Entry)(q:Part)(t:Nat):Bool:=ownB n (VD n l t) (VD n l<|t+1) (Qf l t) (Gt l t) q
def own_keep{p q:Part}(h:kW p q):E0 n l q=E0 n l p:=by
 funext t;unfold E0 ownB;rw[h.Yr,h.YD,h.Yb,h.num]
structure StepAt(n:Net)(l:List Entry)(i:Nat):Prop where
 lt:Qf l i<13
 num:0<=(Gt l i).num
 verb:(Gt l i).verb=Z4.getD (Qf l i) []
 hs:HS (VD n l i)
 XR:(VD n l i).XR=n
 ok:(WQ (Qf l i) (VD n l i)<|Gt l i).2=0
 sw:(VD n l i).entries=(i:Int)
 next:∃t,VD n l (i+1)={(WQ (Qf l i) (VD n l i)<|Gt l i).1 with time:=t,entries:=(WQ (Qf l i) (VD n l i)<|Gt l i).1.entries+1}
def AH(h:(Z2 n l).2.2=0)(hi:i<R l):StepAt n l i:=by
 obtain⟨p,o⟩:=Aq h hi;obtain⟨k,j,e,g,m,f⟩:=dZ p;have b:Qf l i=k:=by unfold Qf;rw[Zv hi];simp[e]
 have a:Gt l i=(Yn l[i].text).1:=by unfold Gt;rw[Zv hi];rfl
 refine⟨b▸j,a▸(G3 g).1,?_,F5<|UP h i,(sH<|UP h i).1,?_,?_,?_⟩
 ·rw[b,a];obtain⟨d,c⟩:=Y8 e;rw[show(Yn l[i].text).1.verb=(ZQ 32 l[i].text).1 from As _,TJ d];simpa using c
 ·rw[b,a];exact m
 ·have:=fQ<|UP h i;rw[List.length_take_of_le<|ft hi]at this;exact this
 rw[b,a];exact⟨l[i].at_,o.trans f⟩
def filter_or{α:Type}(p q:α->Bool):∀(l:List α),(∀x∈l,¬(p x=true/\q x=true))->(l.filter λx=>p x||q x).Perm (l.filter p++l.filter q)
 |[],_=>.nil
 |x::l,h=>by
  have a:=filter_or p q l λy b=>h y<|rl _ b
  have c:=h x rv;rw[eK,eK,eK];cases e:p x<;>cases d:q x
  ·simpa using a
  ·simp only[Bool.or_true,if_true,bξ,if_false];exact(a.cons x).trans List.perm_middle.symm
  ·simp only[ce,if_true,bξ,if_false,H5];exact a.cons x
  exact absurd ⟨e,d⟩ c
def sD(p:Nat->Bool)(i:Nat):(List.range<|i+1).filter p=(List.range i).filter p++if p i=true then [i]else []:=by
 rw[cε,List.filter_append,eK,List.filter_nil]
structure HistI(n:Net)(l:List Entry)(i:Nat):Prop where
 pc:(VD n l i).Pc
 vr:∀v∈(VD n l i).ZF,0<=v.2/\(List.range i).filter (vT n l v.1.name v.1.YD)=[v.2.toNat]
 cr:∀c∈(VD n l i).cn,0<=c.2/\(List.range i).filter (cTh l c.1)=[c.2.toNat]
 vm:∀t,t<i->∀r v,vT n l r v t=true->v<=(VD n l i).st.YD r
 cm:∀t,t<i->∀c,cTh l c t=true->∃q∈(VD n l i).cn,q.1=c
 nm:∀t,t<i->∀m r v,(VD n l i).U1 m=none->nT n l m r v t=false
 es:∀j,j<(VD n l i).parts.length->((VD n l i).es j).Perm (((List.range i).filter<|E0 n l<|(VD n l i).p j).map Int.ofNat)
def hist_0(h:(Z2 n l).2.2=0):HistI n l 0:=by
 have e:VD n l 0=Z6.init n (ZO n.plan).1:=by
  obtain⟨_,_,e⟩:=Ur<|UP h 0;show(Z2 n<|l.take 0).1=_;rw[e];rfl
 refine⟨?_,?_,?_,λt a=>absurd a<|bπ t,λt a=>absurd a<|bπ t,λt a=>absurd a<|bπ t,?_⟩
 ·rw[e];exactλj c=>absurd c<|bπ j
 ·rw[e];exactλv b=>by cases b
 ·rw[e];exactλv b=>by cases b
 rw[e];exactλj c=>absurd c<|bπ j
section
variable{n:Net}{l:List Entry}{i:Nat}
def start_new(a:k=1)(h:(WQ k H L).2=0):∃v∈H.ZF,∃q∈H.cn,H.U1 L.num=none/\v.1.name=L.Yr/\q.1=L.Yb/\(WQ k H L).1.parts=H.parts++[((⟨L.num,v.1.name,v.1.YD,q.1,[],0,false,0,false,Span.zero⟩:Part),[v.2,q.2,H.entries])]:=by
 subst a;obtain⟨j,v,q,g,f,_,d,c,b,_,_,_,e⟩:=start_ok h;refine⟨v,g,(q.1.name,q.2),rx.2 ⟨q,mr d,rfl⟩,b,f,c,?_⟩;show(W_ H L.num L.Yr L.Yb).1.parts=_;rw[e]
def p_app{q:Part×bd}(h:E.parts=H.parts++[q]):E.p (R H.parts)=q.1/\E.es (R H.parts)=q.2/\R E.parts=R H.parts+1:=by
 unfold Z6.p Z6.es;rw[h,aκ<|Zq _,dδ,Zs];exact⟨rfl,rfl,rfl⟩
def eff_len(a:k≠1)(h0:0<=L.num)(h:(WQ k H L).2=0):R (WQ k H L).1.parts=R H.parts:=by
 have:=(Mv.rP k L h0 h).len;rw[Zy a]at this;simpa using this
def hist_on(h:(Z2 n l).2.2=0)(hi:i<R l)(z:HistI n l i):HistI n l<|i+1:=by
 have S:=AH h hi;obtain⟨tm,G⟩:=S.next;have hT:=Tv.rP _ _ S.ok;obtain⟨gv,gc⟩:=eff_vc (H:=VD n l i) (Qf l i)<|Gt l i;have hE:=S.hs.rP (Qf l i)<|Gt l i;have hpl:R (VD n l<|i+1).parts=R (WQ (Qf l i) (VD n l i)<|Gt l i).1.parts:=by rw[G]
 have hpp:∀j,(VD n l<|i+1).p j=(WQ (Qf l i) (VD n l i)<|Gt l i).1.p j:=λj=>by rw[G];rfl
 have hpe:∀j,(VD n l<|i+1).es j=(WQ (Qf l i) (VD n l i)<|Gt l i).1.es j:=λj=>by rw[G];rfl
 have T:(VD n l<|i+1).ZF=(WQ (Qf l i) (VD n l i)<|Gt l i).1.ZF:=by rw[G]
 have U:(VD n l<|i+1).cn=(WQ (Qf l i) (VD n l i)<|Gt l i).1.cn:=by rw[G];rfl
 have hst:∀r,(VD n l<|i+1).st.YD r=(WQ (Qf l i) (VD n l i)<|Gt l i).1.st.YD r:=λr=>ver_same T r
 have hpx:∀m,(VD n l<|i+1).U1 m=(WQ (Qf l i) (VD n l i)<|Gt l i).1.U1 m:=λm=>by rw[G];rfl
 have K:∀q,E0 n l q i=ownB n (VD n l i) (WQ (Qf l i) (VD n l i)<|Gt l i).1 (Qf l i) (Gt l i) q:=λq=>by unfold E0;rw[G];rfl
 have N:∀r v,vT n l r v i=vB (WQ (Qf l i) (VD n l i)<|Gt l i).1 (Qf l i) (Gt l i) r v:=λr v=>by unfold vT vB;rw[hst]
 have hnT:∀m r v,nT n l m r v i=nB n (VD n l i) (WQ (Qf l i) (VD n l i)<|Gt l i).1 (Qf l i) (Gt l i) m r v:=λm r v=>by unfold nT;rw[G];rfl
 have V:∀c,cTh l c i=cB (Qf l i) (Gt l i) c:=λ_=>rfl
 have x:=S.sw;have hnum:=S.num;have Y:=S.hs.inv.YD;have hnet:=S.XR;have hlt:=S.lt;have f:=S.ok;have hH:=S.hs;clear G S;generalize hkk:Qf l i=k at *;generalize hLL:Gt l i=L at *;generalize B:(WQ k (VD n l i) L).1=E at *
 -- versions
 have w:(k≠10/\E.ZF=(VD n l i).ZF)\/(k=10/\∃ph,E.ZF=(VD n l i).ZF++[(⟨L.Yr,(VD n l i).st.YD L.Yr+1,ph⟩,(i:Int))]):=by
  by_cases q:k=10
  ·subst q;have:=cD (r:=L.Yr) (t:=L.rest) Y f;rw[show(XX (VD n l i) L.Yr L.rest).1=E from B,x]at this;exact .inr ⟨rfl,this⟩
  exact .inl ⟨q,gv q⟩
 have y:(k≠6/\E.cn=(VD n l i).cn)\/(k=6/\(VD n l i).Ob L.Yb=none/\E.cn=(VD n l i).cn++[(L.Yb,(i:Int))]):=by
  by_cases q:k=6
  ·subst q;have:=coil_ok (c:=L.Yb) (m:=L.num) f;rw[show(Tw (VD n l i) L.Yb L.num).1=E from B,x]at this;exact .inr ⟨rfl,this⟩
  exact .inl ⟨q,gc q⟩
 have Z:∀r,(VD n l i).st.YD r<=E.st.YD r:=λr=>by
  rcases w with⟨_,e⟩|⟨_,ph,e⟩
  ·rw[ver_same e];omega
  rw[ver_app e];split<;>omega
 have A:∀v∈(VD n l i).ZF,v∈E.ZF:=λv g=>by
  rcases w with⟨_,e⟩|⟨_,ph,e⟩
  ·rw[e];exact g
  rw[e];exact sb _ g
 have s:∀c∈(VD n l i).cn,c∈E.cn:=λv g=>by
  rcases y with⟨_,e⟩|⟨_,_,e⟩
  ·rw[e];exact g
  rw[e];exact sb _ g
 have J:∀m,E.U1 m=none->(VD n l i).U1 m=none:=λm W=>r9.2 λj F e=>by
  exact r9.1 W j (rp F hT.le) (by rw[(hT.keep j F).num];exact e)
 have hnew:(k≠1/\R E.parts=R (VD n l i).parts)\/(k=1/\∃v∈(VD n l i).ZF,∃q∈(VD n l i).cn,(VD n l i).U1 L.num=none/\v.1.name=L.Yr/\q.1=L.Yb/\E.parts=(VD n l i).parts++[((⟨L.num,v.1.name,v.1.YD,q.1,[],0,false,0,false,Span.zero⟩:Part),[v.2,q.2,(i:Int)])]):=by
  by_cases q:k=1
  ·have:=start_new q f;rw[B,x]at this;exact .inr ⟨q,this⟩
  have:=eff_len q hnum f;rw[B]at this;exact .inl ⟨q,this⟩
 have hj2:∀j,j<R E.parts->j<R (VD n l i).parts\/(k=1/\j=R (VD n l i).parts):=λj F=>by
  rcases hnew with⟨_,e⟩|⟨q,v,_,c,_,_,_,_,e⟩
  ·exact .inl I
  have:=(p_app e).2.2;by_cases M:j<R (VD n l i).parts
  ·exact .inl M
  exact .inr ⟨q,I⟩
 refine⟨λj F=>?_,λv g=>?_,λc o=>?_,λt C r v g=>?_,λt C c o=>?_,λt C m r v W=>?_,λj F=>?_⟩
 ·rw[hpl]at F;rw[hpp,T,U];rcases hj2 j F with q|⟨q,rfl⟩
  ·have hk:=hT.keep j q;obtain⟨⟨v,X,v2,v3⟩,c,c1,c2⟩:=z.pc j q;exact⟨⟨v,A v X,v2.trans hk.Yr.symm,v3.trans hk.YD.symm⟩,c,s c c1,c2.trans hk.Yb.symm⟩
  rcases hnew with⟨M,_⟩|⟨_,v,X,c,c1,_,_,_,e⟩
  ·exact absurd q M
  rw[(p_app e).1];exact⟨⟨v,A v X,rfl,rfl⟩,c,s c c1,rfl⟩
 ·rw[T]at g;have old:v∈(VD n l i).ZF->0<=v.2/\(List.range<|i+1).filter (vT n l v.1.name v.1.YD)=[v.2.toNat]:=λg=>by
   obtain⟨a,b⟩:=z.vr v g;refine⟨a,?_⟩;rw[sD,b,N,Zm,i8];unfold vB;intro e;simp only[Zw,de]at e;obtain⟨e1,e2,e3⟩:=e;rcases w with⟨q,_⟩|⟨_,ph,q⟩
   ·exact q e1
   have:=ver_le Y g;rw[ver_app q,Zn e2.symm]at e3;omega
  rcases w with⟨q,e⟩|⟨q,ph,e⟩
  ·rw[e]at g;exact old g
  rw[e]at g;rcases List.mem_append.1 g with g|g
  ·exact old g
  rw[pi.1 g];refine⟨eQ _,?_⟩;dsimp only;rw[sD,fe.2 λt C P=>?_,N,Zn]
  ·rfl
  ·unfold vB;rw[ver_app e,Zn rfl,q];simp
  have:=z.vm t (ek.1 C) _ _ P;omega
 ·rw[U]at o;have old:c∈(VD n l i).cn->0<=c.2/\(List.range<|i+1).filter (cTh l c.1)=[c.2.toNat]:=λo=>by
   obtain⟨a,b⟩:=z.cr c o;refine⟨a,?_⟩;rw[sD,b,V,Zm,i8];unfold cB;intro e;simp only[Zw,de]at e;rcases y with⟨q,_⟩|⟨_,q,_⟩
   ·exact q e.1
   exact cIx_none.1 q c o e.2.symm
  rcases y with⟨q,e⟩|⟨q,M,e⟩
  ·rw[e]at o;exact old o
  rw[e]at o;rcases List.mem_append.1 o with o|o
  ·exact old o
  rw[pi.1 o];refine⟨eQ _,?_⟩;dsimp only;rw[sD,fe.2 λt C P=>?_,V,Zn]
  ·rfl
  ·unfold cB;rw[q];simp
  obtain⟨d,d1,d2⟩:=z.cm t (ek.1 C) _ P;exact cIx_none.1 M d d1 d2
 ·rw[hst];by_cases q:t=i
  ·subst q;rw[N]at g;unfold vB at g;simp only[Zw,de]at g;omega
  have:=z.vm t I r v g;have:=Z r;omega
 ·rw[U];by_cases q:t=i
  ·subst q;rw[V]at o;unfold cB at o;simp only[Zw,de]at o;rcases y with⟨q,_⟩|⟨_,_,e⟩
   ·exact absurd o.1 q
   rw[e];exact⟨_,ui _<|pi.2 rfl,o.2⟩
  obtain⟨d,d1,d2⟩:=z.cm t I c o;exact⟨d,s d d1,d2⟩
 ·rw[hpx]at W;by_cases q:t=i
  ·subst q;rw[hnT];have D:=J m W;have a1:∀{u:Nat},(VD n l t).U1 L.num=some u->decide (L.num=m)=false:=λ{u} e=>Zy λe2=>by rw[e2,D]at e;cases e
   rcases(show k=0\/k=1\/k=2\/k=3\/k=4\/k=5\/k=6\/k=7\/k=8\/k=9\/k=10\/k=11\/k=12 by omega)with rfl|rfl|rfl|rfl|rfl|rfl|rfl|rfl|rfl|rfl|rfl|rfl|rfl
   ·rfl
   ·rcases hnew with⟨q,_⟩|⟨_,v,_,c,_,_,_,_,e⟩
    ·exact absurd rfl q
    have:=r9.1 W (R (VD n l t).parts) (by rw[(p_app e).2.2];omega);rw[(p_app e).1]at this;exact Zy this
   ·obtain⟨u,hu⟩:=rR (.inl rfl) f;show decide (((VD n l t).p<|(VD n l t).Tk.getD 0).num=m)=false;rw[hu];exact Zy<|r9.1 D u (Y8 hu).1
   ·obtain⟨u,hu⟩:=rR (.inr rfl) f;show decide (((VD n l t).p<|(VD n l t).Tk.getD 0).num=m)=false;rw[hu];exact Zy<|r9.1 D u (Y8 hu).1
   ·exact a1 (Dh (.inl rfl) f).choose_spec
   ·exact a1 (Dh (.inr<|.inl rfl) f).choose_spec
   ·rfl
   ·rfl
   ·exact a1 (Dh (.inr<|.inr<|.inl rfl) f).choose_spec
   ·unfold nB;rw[a1 (Dh (.inr<|.inr<|.inr<|.inl rfl) f).choose_spec,D];rfl
   ·rfl
   ·exact a1 (Dh (.inr<|.inr<|.inr<|.inr rfl) f).choose_spec
   rfl
  exact z.nm t I m r v<|J m W
 rw[hpl]at F;rw[hpp,hpe];rcases hj2 j F with q|⟨q,rfl⟩
 ·have C:E0 n l ((VD n l i).p j) i=CK (VD n l i) k L j:=by
   rw[K];have:=own_touch hH z.pc hnet hlt f q;rw[B]at this;exact this
  rw[own_keep<|hT.keep j q,hT.es j q,sD,ne,C,x];refine(z.es j q).append ?_;cases CK (VD n l i) k L j<;>exact .refl _
 rcases hnew with⟨M,_⟩|⟨_,v,X,c,c1,hpn,_,_,e⟩
 ·exact absurd q M
 rw[(p_app e).1,(p_app e).2.1];have O:E0 n l ⟨L.num,v.1.name,v.1.YD,c.1,[],0,false,0,false,Span.zero⟩ i=true:=by
  rw[K];unfold ownB;rw[q];show(_||(_||decide (L.num=L.num)))=true;simp
 have hfil:(List.range i).filter (E0 n l ⟨L.num,v.1.name,v.1.YD,c.1,[],0,false,0,false,Span.zero⟩)=(List.range i).filter λt=>vT n l v.1.name v.1.YD t||cTh l c.1 t:=by
  refine List.filter_congr λt C=>?_
  have h3:nT n l L.num v.1.name v.1.YD t=false:=z.nm t (ek.1 C) _ _ _ hpn;show(vT n l v.1.name v.1.YD t||(cTh l c.1 t||nT n l L.num v.1.name v.1.YD t))=_;rw[h3,ce]
 rw[sD,hfil,Zn O,ne];have hP:=filter_or (vT n l v.1.name v.1.YD) (cTh l c.1) (List.range i) λt _ h2=>by
  obtain⟨a,b⟩:=h2;unfold vT vB at a;unfold cTh cB at b;simp only[Zw,de]at a b;omega
 obtain⟨v0,vf⟩:=z.vr v X;obtain⟨c0,cf⟩:=z.cr c c1;rw[vf,cf]at hP;have hP2:=(hP.map Int.ofNat).append_right<|[i].map Int.ofNat;refine(List.Perm.of_eq ?_).trans hP2.symm;simp[dζ v0,dζ c0]
end
def hist_at{n:Net}{l:List Entry}(h:(Z2 n l).2.2=0):∀i,i<=R l->HistI n l i
 |0,_=>hist_0 h
 |i+1,hi=>hist_on h hi<|hist_at h i I
def sB(n:Net)(l:List Entry)(q:Part):bd:=((List.range<|R l).filter<|E0 n l q).map Int.ofNat
def Al(n:Net)(l:List Entry):VD n l (R l)=(Z2 n l).1:=by unfold VD;rw[List.take_length]
def hist_eq(h:(Z2 n l).2.2=0)(k:0<=m/\m<=1000000)(e:(Z2 n l).1.U1 m=some j):Nn n l m=(sB n l<|(Z2 n l).1.p j,0):=by
 have g:=(hist_at h (R l)<|Zq _).es j;rw[Al]at g;have P:=g (Y8 e).1;have o:Wm n l m=0:=by
  unfold Wm J9;rw[Zm<|Zp h,e,Zz k];rfl
 unfold Nn;rw[Zm<|Zp o,e];refine rn (λz=>(z,(0:Int))) ?_;have d:(((Z2 n l).1.es j).mergeSort λx y=>decide<|x<=y).Pairwise (λx y=>x<=y):=by
  have:=eα (le:=λx y:Int=>decide<|x<=y) (by intro a b c d f;simp only[de]at *;omega) (by intro a b;simp only[ti,de];omega)<|(Z2 n l).1.es j;exact this.imp λh=>pf h
 refine((bμ _ _).trans P).eq_of_pairwise (λa b _ _ d f=>Int.le_antisymm d f) d ?_;unfold sB;rw[List.pairwise_map];exact(List.pairwise_lt_range.filter _).imp λh=>Int.ofNat_le.2<|ft h
section
variable{n:Net}{l:List Entry}{i:Nat}{Q:Part}
def StepAt.vk(S:StepAt n l i)(a:k<13)(h:(Gt l i).verb=Z4.getD k []):Qf l i=k:=
 aν λq=>verb_ne S.lt a q<|S.verb.symm.trans h
def own_10(a:Qf l i=10)(h:(Gt l i).Yr=Q.Yr):E0 n l Q i=decide (QA (λr:Rec=>decide<|r.name=(Gt l i).Yr) (VD n l<|i+1).st.ZJ=Q.YD):=by
 unfold E0 ownB;rw[a];show(true&&(decide ((Gt l i).Yr=Q.Yr)&&decide ((VD n l<|i+1).st.YD Q.Yr=Q.YD))||(false||false))=_;rw[Zz h,h];simp only[tn,ce];rfl
def own_10F(a:Qf l i=10)(h:¬(Gt l i).Yr=Q.Yr):E0 n l Q i=false:=by
 unfold E0 ownB;rw[a];show(true&&(decide ((Gt l i).Yr=Q.Yr)&&_)||(false||false))=_;rw[Zy h];rfl
def own_6(a:Qf l i=6):E0 n l Q i=decide ((Gt l i).Yb=Q.Yb):=by
 unfold E0 ownB;rw[a];show(false||(true&&decide ((Gt l i).Yb=Q.Yb)||false))=_;simp
def own_n(a:Qf l i=1\/Qf l i=4\/Qf l i=5\/Qf l i=8\/Qf l i=11):E0 n l Q i=decide ((Gt l i).num=Q.num):=by
 unfold E0 ownB;rcases a with a|a|a|a|a<;>rw[a]<;>show(false||(false||decide ((Gt l i).num=Q.num)))=_<;>simp
def own_u(a:Qf l i=2\/Qf l i=3){u:Nat}(b:(VD n l i).Tk=some u):E0 n l Q i=decide (((VD n l i).p u).num=Q.num):=by
 unfold E0 ownB;rcases a with a|a<;>rw[a]<;>show(false||(false||decide (((VD n l i).p<|(VD n l i).Tk.getD 0).num=Q.num)))=_<;>rw[b]<;>simp
def own_9(a:Qf l i=9):E0 n l Q i=(decide ((Gt l i).num=Q.num)||match(VD n l i).U1 Q.num with
  |some j=>decide (((VD n l<|i+1).p<|((VD n l<|i+1).U1 (Gt l i).num).getD 0).Yr=Q.Yr/\((VD n l<|i+1).p<|((VD n l<|i+1).U1 (Gt l i).num).getD 0).YD=Q.YD)&&KC n ((VD n l<|i+1).p<|((VD n l<|i+1).U1 (Gt l i).num).getD 0).depth&&Yu ((VD n l i).p j)
  |none=>false):=by
 unfold E0 ownB;rw[a];show(false||(false||nB n (VD n l i) (VD n l<|i+1) 9 (Gt l i) Q.num Q.Yr Q.YD))=_;rw[fM,fM];rfl
def own_9n(a:Qf l i=9)(h:(VD n l i).U1 Q.num=none):E0 n l Q i=decide ((Gt l i).num=Q.num):=by
 rw[own_9 a,h];simp
def own_9t(a:Qf l i=9)(h:(Gt l i).num=Q.num):E0 n l Q i=decide ((Gt l i).num=Q.num):=by
 rw[own_9 a,Zz h];simp
def own_9s(b:Qf l i=9)(h:¬(Gt l i).num=Q.num){u:Nat}(c:(VD n l i).U1 Q.num=some j)(a:(VD n l<|i+1).U1 (Gt l i).num=some u):E0 n l Q i=(ofV Q.Yr Q.YD ((VD n l<|i+1).p u)&&KC n ((VD n l<|i+1).p u).depth&&Yu ((VD n l i).p j)):=by
 rw[own_9 b,Zy h,c,a];rfl
def own_0(S:StepAt n l i)(h:Qf l i≠10/\Qf l i≠6/\Qf l i≠1/\Qf l i≠4/\Qf l i≠5/\Qf l i≠8/\Qf l i≠11/\Qf l i≠2/\Qf l i≠3/\Qf l i≠9):E0 n l Q i=false:=by
 have:=S.lt;unfold E0 ownB;rcases(show Qf l i=0\/Qf l i=7\/Qf l i=12 by omega)with hk|hk|hk<;>rw[hk]<;>rfl
def sect_at(h:(Z2 n l).2.2=0)(hi:i<R l)(r:Qf l i=9):∃u,(VD n l<|i+1).U1 (Gt l i).num=some u/\∃q b,((VD n l<|i+1).p u).depth=(Y6 q b).1/\¬(Y6 q b).2≠0:=by
 have S:=AH h hi;obtain⟨v,g⟩:=S.next;have c:=S.ok;have d:=Tv.rP _ _ S.ok;have m:=S.hs.rP (Qf l i)<|Gt l i;rw[r]at g c d m;obtain⟨u,k,h0,e⟩:=about_ok (H:=VD n l i) (n:=(Gt l i).num) (f:=Xz (Gt l i).rest) c;have a:=o9 k;obtain⟨⟨_,s⟩,o⟩:=sect_ok a h0;have j:(WQ 9 (VD n l i)<|Gt l i).1.U1 (Gt l i).num=some u:=by
  have:=m.pIx2 (i:=u)<|rp a d.le;rw[(d.keep u a).num,iZ k]at this;exact this
 refine⟨u,by rw[g];exact j,_,_,?_,s⟩;rw[g];show((WQ 9 (VD n l i)<|Gt l i).1.p u).depth=_;rw[←e]at o;exact o
end
def st_ix(h:H.U1 m=some j):∃a:j<R H.st.parts,ZC (λp:Part=>decide<|p.num=m) 0 H.st.parts=(j:Int)/\H.st.parts[j]=H.p j:=by
 have e:=(C6 H m).trans h;obtain⟨a,_⟩:=Y8 e;exact⟨a,Vs e,(st_at H j a).2⟩
def st_ux(h:H.Tk=some j):∃a:j<R H.st.parts,ZC (λp:Part=>decide<|p.place=0) 0 H.st.parts=(j:Int)/\H.st.parts[j]=H.p j:=by
 have e:=(E3 H).trans h;obtain⟨a,_⟩:=Y8 e;exact⟨a,Vs e,(st_at H j a).2⟩
def st_no(h:ZC (λp:Part=>decide<|p.num=m) 0 H.st.parts<0):H.U1 m=none:=(C6 H m).symm.trans<|P9 h
def st_of(h:¬ZC (λp:Part=>decide<|p.num=m) 0 H.st.parts<0):∃j,H.U1 m=some j:=by
 obtain⟨j,a⟩:=P_ h;exact⟨j,(C6 H m).symm.trans a⟩
def found_1(h:(Z2 n l).2.2=0):Wm n l m=(if¬(0<=m/\m<=1000000)then 2 else if ZC (λp:Part=>decide<|p.num=m) 0 (Xi n l).parts<0 then 6 else 0):=by
 rw[xT<|Zp h,numE_find];exact Zm<|Zp h
def found_2(h:¬(Z2 n l).2.2=0):Wm n l m=(Z2 n l).2.2:=Zn h
def found_r(h:Wm n l m=0):0<=m/\m<=1000000:=by
 unfold Wm at h;split at h
 ·rename_i b;exact absurd h b
 by_cases a:0<=m/\m<=1000000
 ·exact a
 unfold J9 at h;rw[Zy a]at h;exact absurd h (by simp[ZW,Z8])
def ref10_History{Q:Part}(hp:R n.plan<=1000)(h0:(Z2 n l).2.2=0)(hl:∀x∈l,R x.text<=100000)(hj:(Z2 n l).1.U1 m=some j)(hQ:(Z2 n l).1.p j=Q):Ct prog 28 [.agg n.cs,.sl<|l.map Entry.cs,bv m]<|ints<|sB n l Q:=by
 refine cI func28 O λ{_ _}=>?_
 have V:=(Ur h0).1;have hl60:=(Ur h0).2.1;have hb:Xi n l=(Z2 n l).1.st:=xT<|Zp h0;obtain⟨hjl,hix,hje⟩:=st_ix hj;have r:Q.num=m:=by rw[←hQ];exact iZ hj
 obtain⟨J,F⟩:∃J:Nat->bd,J=λi=>((List.range i).filter<|E0 n l Q).map Int.ofNat:=⟨_,rfl⟩
 refine ro 3 O<|kc (S.assign .none O .Ya)<|rr 6 O<|kc (zK (kG (n:=n) (l:=l) I V hl) call20 O) ?_;refine rr 5 O ?_;rw[hb];refine kV (.c (zf WC O)<|.c (zl Vg O O O O)<|.c (zL Zk O O O O)<|.c (zm O)<|.c (zK (Ns (s:=(Z2 n l).1.st) (n:=m)) call25 O)<|.c (S.Zi (n:=j) V6 .none O (zt O) (zt O) hix hjl O)<|.c (S.Vj L5 .none O (zt O) O O)<|.c (zA (c:=8) ze41 O)<|.c (zS L5 O O O O O O) .nil)<|rd 3 O<|RK.c (S.XG (k:=9) (sz:=1) .none O)<|rr 9 O ?_;refine OK.loop (G:=Nat) [3,8,9] (λi=>[(1,.sl<|l.map Entry.cs),(2,bv m),(3,.ptr 3 0),(1003,.box n.cs),(8,.ptr 8 0),(1008,.box Q.cs),(9,.own 9<|R<|J i),(2009,.arr 1<|Ye<|J i),(10,bv i)]) (λi=>i<=R l/\R (J i)<=i) (λi=>R l - i) 0 ⟨Zr _,by rw[F];simp⟩ ⟨O,O,O,O,O,(G5<|rn Part.cs<|hje.trans hQ),(ZH<|by rw[F];rfl),(ZX<|by rw[F];rfl),O,Zo⟩ (λ_=>O) ?_;rintro i ⟨hi,hol⟩;refine ro 5 O<|kc (zk Vy O)<|rr 3 O<|kB O (λc31=>?_) λc31=>?_
 ·have W:i<R l:=I
  have f:=AH h0 W;have hb1:Xi n (l.take i)=(VD n l i).st:=xT<|Zp<|UP h0 i;have hb2:Xi n (l.take<|i+1)=(VD n l<|i+1).st:=xT<|Zp<|UP h0<|i+1;have hL:Gt l i=(Yn l[i].text).1:=by unfold Gt;rw[Zv W];rfl
  refine ro 5 O ?_;refine kV (.c (zL Pn O O O O)<|.c (zm O)<|.c (zm O)<|.c (S.slice (hi:=i) (l':=l.take i) Vy (λ_=>O) .none O (zt O) (.inl ⟨O,O,O⟩) (.inr ⟨_,_,O,(zt O),O⟩) I I<|by rw[aα])<|.c (zK (kG (n:=n) (l:=l.take i) I V λy hy=>hl y<|eν hy) call20 O)<|.c (zL Pn O O O O)<|.c (zm O)<|.c (zm O)<|.c (zp O O I)<|.c (S.slice (hi:=(i+1)) (l':=l.take<|i+1) Vy (λ_=>O) .none O (zt O) (.inl ⟨O,O,O⟩) (.inr ⟨_,_,O,(zt O),O⟩) I I<|by rw[aα])<|.c (zK (kG (n:=n) (l:=l.take<|i+1) I V λy hy=>hl y<|eν hy) call20 O)<|.c (zA (c:=11) ga O)<|.c (zA (c:=12) ga O)<|.c (zS Zk O O O O O O)<|.c (zS Zk O O O O O O) .nil) ?_;refine Ab.D.code<|kO ?_;rw[hb1,hb2];refine ro 3 O<|kc (zI Vy O W O)<|rr 2 O ?_;refine kc (zK (C3 (s:=l[i].text)<|hl _<|Zt W) call71 O) ?_;refine rr 9 O ?_;rw[←hL];refine ro 4 O ?_;refine OK.join (G:=Bool) [3,8,9] (λo=>[(1,.sl<|l.map Entry.cs),(2,bv m),(3,.ptr 3 0),(1003,.box n.cs),(8,.ptr 8 0),(1008,.box Q.cs),(9,.own 9<|R<|J i),(2009,.arr 1<|Ye<|J i),(10,bv i),(15,.bool o)]) (λo=>E0 n l Q i=o) (λ_=>O) ?_ ?_
  ·refine ro 13 O<|kB O (λc56=>?_) λc56=>?_
   ·have v:=f.vk (k:=10) C c56;by_cases a:(Gt l i).Yr=Q.Yr
    ·have h:=own_10 (n:=n) v a;refine kV (.c (zf N7 O)<|.c (zl T6 O O O O)<|.c (zf TK O)<|.c (zf CU O)<|.c (zl T6 O O O O)<|.c (S.vl .none O (zt O)<|zt O)<|.c (zm O)<|.c (S.Hl Zk (.yes O O O<|by first|rfl|exact Zz a|exact Zy a|(rw[Zz a];rfl)|(rw[Zy a];rfl)|simp[*]) O (zt O) O O O O)<|.c (S.VN N7 (.yes O O O<|by first|rfl|exact Zz a|exact Zy a|(rw[Zz a];rfl)|(rw[Zy a];rfl)|simp[*]) O<|zt O)<|.c (S.YH T6 (.yes O O O<|by first|rfl|exact Zz a|exact Zy a|(rw[Zz a];rfl)|(rw[Zy a];rfl)|simp[*]) O (zt O) O O O O)<|.c (S.call (OS (s:=(VD n l<|i+1).st) (n:=(Gt l i).Yr)) call72 (.yes O O O<|by first|rfl|exact Zz a|exact Zy a|(rw[Zz a];rfl)|(rw[Zy a];rfl)|simp[*]) O (zc O<|zc O .nil) O)<|.c (S.VN TK (.yes O O O<|by first|rfl|exact Zz a|exact Zy a|(rw[Zz a];rfl)|(rw[Zy a];rfl)|simp[*]) O<|zt O)<|.c (S.VN Ao (.yes O O O<|by first|rfl|exact Zz a|exact Zy a|(rw[Zz a];rfl)|(rw[Zy a];rfl)|simp[*]) O<|zt O)<|.c (S.YH YK (.yes O O O<|by first|rfl|exact Zz a|exact Zy a|(rw[Zz a];rfl)|(rw[Zy a];rfl)|simp[*]) O (zt O) O O O O)<|.c (S.eql (.yes O O O<|by first|rfl|exact Zz a|exact Zy a|(rw[Zz a];rfl)|(rw[Zy a];rfl)|simp[*]) O (zt O)<|zt O)<|.c (S.Tc .none O (zt O) (zt O)<|by first|rfl|exact Zz a|exact Zy a|(rw[Zz a];rfl)|(rw[Zy a];rfl)|simp[*])<|.c (za O) .nil) ?_;refine Ab.D.blk ?_;refine Ab.D.lp ⟨_,h,O,O,O,O,O,O,(ZH N),(ZX N),O,O,Zo⟩
    have h:=own_10F (n:=n) v a;refine kV (.c (zf N7 O)<|.c (zl T6 O O O O)<|.c (zf TK O)<|.c (zf CU O)<|.c (zl T6 O O O O)<|.c (S.vl .none O (zt O)<|zt O)<|.c (zm O)<|.c (zG O<|by first|rfl|exact Zz a|exact Zy a|(rw[Zz a];rfl)|(rw[Zy a];rfl)|simp[*])<|.c (zG O<|by first|rfl|exact Zz a|exact Zy a|(rw[Zz a];rfl)|(rw[Zy a];rfl)|simp[*])<|.c (zG O<|by first|rfl|exact Zz a|exact Zy a|(rw[Zz a];rfl)|(rw[Zy a];rfl)|simp[*])<|.c (zG O<|by first|rfl|exact Zz a|exact Zy a|(rw[Zz a];rfl)|(rw[Zy a];rfl)|simp[*])<|.c (zG O<|by first|rfl|exact Zz a|exact Zy a|(rw[Zz a];rfl)|(rw[Zy a];rfl)|simp[*])<|.c (zG O<|by first|rfl|exact Zz a|exact Zy a|(rw[Zz a];rfl)|(rw[Zy a];rfl)|simp[*])<|.c (zG O<|by first|rfl|exact Zz a|exact Zy a|(rw[Zz a];rfl)|(rw[Zy a];rfl)|simp[*])<|.c (zG O<|by first|rfl|exact Zz a|exact Zy a|(rw[Zz a];rfl)|(rw[Zy a];rfl)|simp[*])<|.c (S.Ug .none O (zt O) .Wx<|by first|rfl|exact Zz a|exact Zy a|(rw[Zz a];rfl)|(rw[Zy a];rfl)|simp[*])<|.c (za O) .nil) ?_;refine Ab.D.blk ?_;refine Ab.D.lp ⟨_,h,O,O,O,O,O,O,(ZH N),(ZX N),O,O,Zo⟩
   refine ro 6 O<|kB O (λc74=>?_) λc74=>?_
   ·have v:=f.vk (k:=6) C c74;have h:=own_6 (n:=n) (Q:=Q) v;refine ro 9 O ?_;refine Ab.D.lp ⟨_,h,O,O,O,O,O,O,(ZH N),(ZX N),O,O,Zo⟩
   refine ro 7 O<|OK.condL O O (λg=>?_) λg=>?_
   ·have v:Qf l i=1\/Qf l i=4\/Qf l i=5\/Qf l i=8\/Qf l i=11:=by have q:=pf g;first|exact .inl (f.vk (k:=1) C q)|exact .inr (.inl<|f.vk (k:=4) C q)|exact .inr (.inr<|.inl<|f.vk (k:=5) C q)|exact .inr (.inr<|.inr<|.inl<|f.vk (k:=8) C q)|exact .inr<|.inr<|.inr<|.inr<|f.vk (k:=11) C q
    have h:E0 n l Q i=decide ((Gt l i).num=m):=by rw[own_n v,r]
    refine ro 11 O ?_;refine Ab.D.lp ⟨_,h,O,O,O,O,O,O,(ZH N),(ZX N),O,O,Zo⟩
   try have P:Qf l i≠1:=λe=>(a6 g) (by rw[f.verb,e];rfl)
   try have M:Qf l i≠4:=λe=>(a6 g) (by rw[f.verb,e];rfl)
   try have L:Qf l i≠5:=λe=>(a6 g) (by rw[f.verb,e];rfl)
   try have K:Qf l i≠8:=λe=>(a6 g) (by rw[f.verb,e];rfl)
   try have B:Qf l i≠11:=λe=>(a6 g) (by rw[f.verb,e];rfl)
   refine ro 6 O<|OK.condL O O (λg=>?_) λg=>?_
   ·have v:Qf l i=1\/Qf l i=4\/Qf l i=5\/Qf l i=8\/Qf l i=11:=by have q:=pf g;first|exact .inl (f.vk (k:=1) C q)|exact .inr (.inl<|f.vk (k:=4) C q)|exact .inr (.inr<|.inl<|f.vk (k:=5) C q)|exact .inr (.inr<|.inr<|.inl<|f.vk (k:=8) C q)|exact .inr<|.inr<|.inr<|.inr<|f.vk (k:=11) C q
    have h:E0 n l Q i=decide ((Gt l i).num=m):=by rw[own_n v,r]
    refine ro 11 O ?_;refine Ab.D.lp ⟨_,h,O,O,O,O,O,O,(ZH N),(ZX N),O,O,Zo⟩
   try have P:Qf l i≠1:=λe=>(a6 g) (by rw[f.verb,e];rfl)
   try have M:Qf l i≠4:=λe=>(a6 g) (by rw[f.verb,e];rfl)
   try have L:Qf l i≠5:=λe=>(a6 g) (by rw[f.verb,e];rfl)
   try have K:Qf l i≠8:=λe=>(a6 g) (by rw[f.verb,e];rfl)
   try have B:Qf l i≠11:=λe=>(a6 g) (by rw[f.verb,e];rfl)
   refine ro 6 O<|OK.condL O O (λg=>?_) λg=>?_
   ·have v:Qf l i=1\/Qf l i=4\/Qf l i=5\/Qf l i=8\/Qf l i=11:=by have q:=pf g;first|exact .inl (f.vk (k:=1) C q)|exact .inr (.inl<|f.vk (k:=4) C q)|exact .inr (.inr<|.inl<|f.vk (k:=5) C q)|exact .inr (.inr<|.inr<|.inl<|f.vk (k:=8) C q)|exact .inr<|.inr<|.inr<|.inr<|f.vk (k:=11) C q
    have h:E0 n l Q i=decide ((Gt l i).num=m):=by rw[own_n v,r]
    refine ro 11 O ?_;refine Ab.D.lp ⟨_,h,O,O,O,O,O,O,(ZH N),(ZX N),O,O,Zo⟩
   try have P:Qf l i≠1:=λe=>(a6 g) (by rw[f.verb,e];rfl)
   try have M:Qf l i≠4:=λe=>(a6 g) (by rw[f.verb,e];rfl)
   try have L:Qf l i≠5:=λe=>(a6 g) (by rw[f.verb,e];rfl)
   try have K:Qf l i≠8:=λe=>(a6 g) (by rw[f.verb,e];rfl)
   try have B:Qf l i≠11:=λe=>(a6 g) (by rw[f.verb,e];rfl)
   refine ro 6 O<|OK.condL O O (λg=>?_) λg=>?_
   ·have v:Qf l i=1\/Qf l i=4\/Qf l i=5\/Qf l i=8\/Qf l i=11:=by have q:=pf g;first|exact .inl (f.vk (k:=1) C q)|exact .inr (.inl<|f.vk (k:=4) C q)|exact .inr (.inr<|.inl<|f.vk (k:=5) C q)|exact .inr (.inr<|.inr<|.inl<|f.vk (k:=8) C q)|exact .inr<|.inr<|.inr<|.inr<|f.vk (k:=11) C q
    have h:E0 n l Q i=decide ((Gt l i).num=m):=by rw[own_n v,r]
    refine ro 11 O ?_;refine Ab.D.lp ⟨_,h,O,O,O,O,O,O,(ZH N),(ZX N),O,O,Zo⟩
   try have P:Qf l i≠1:=λe=>(a6 g) (by rw[f.verb,e];rfl)
   try have M:Qf l i≠4:=λe=>(a6 g) (by rw[f.verb,e];rfl)
   try have L:Qf l i≠5:=λe=>(a6 g) (by rw[f.verb,e];rfl)
   try have K:Qf l i≠8:=λe=>(a6 g) (by rw[f.verb,e];rfl)
   try have B:Qf l i≠11:=λe=>(a6 g) (by rw[f.verb,e];rfl)
   refine ro 5 O<|OK.condL O O (λg=>?_) λg=>?_
   ·have v:Qf l i=1\/Qf l i=4\/Qf l i=5\/Qf l i=8\/Qf l i=11:=by have q:=pf g;first|exact .inl (f.vk (k:=1) C q)|exact .inr (.inl<|f.vk (k:=4) C q)|exact .inr (.inr<|.inl<|f.vk (k:=5) C q)|exact .inr (.inr<|.inr<|.inl<|f.vk (k:=8) C q)|exact .inr<|.inr<|.inr<|.inr<|f.vk (k:=11) C q
    have h:E0 n l Q i=decide ((Gt l i).num=m):=by rw[own_n v,r]
    refine ro 8 O ?_;refine Ab.D.lp ⟨_,h,O,O,O,O,O,O,(ZH N),(ZX N),O,O,Zo⟩
   try have P:Qf l i≠1:=λe=>(a6 g) (by rw[f.verb,e];rfl)
   try have M:Qf l i≠4:=λe=>(a6 g) (by rw[f.verb,e];rfl)
   try have L:Qf l i≠5:=λe=>(a6 g) (by rw[f.verb,e];rfl)
   try have K:Qf l i≠8:=λe=>(a6 g) (by rw[f.verb,e];rfl)
   try have B:Qf l i≠11:=λe=>(a6 g) (by rw[f.verb,e];rfl)
   refine ro 7 O<|OK.condL O O (λA=>?_) λA=>?_
   ·have v:Qf l i=2\/Qf l i=3:=by have q:=pf A;first|exact .inl (f.vk (k:=2) C q)|exact .inr<|f.vk (k:=3) C q
    obtain⟨u,hu⟩:=rR v f.ok;obtain⟨U,T,E⟩:=st_ux hu;have h:E0 n l Q i=decide ((VD n l i).st.parts[u].num=m):=by rw[own_u v hu,r,E]
    refine ro 3 O<|kV (.c (zf WC O)<|.c (zl Vg O O O O)<|.c (zL Zk O O O O)<|.c (zK (SB (s:=(VD n l i).st)) call73 O)<|.c (S.Zi (n:=u) V6 .none O (zt O) (zt O) T U O)<|.c (S.field vp .none O (zt O) O)<|.c (zV YK O O)<|.c (zm O)<|.c (S.eql .none O (zt O)<|zt O)<|.c (za O) .nil)<|Ab.D.blk ?_;refine Ab.D.lp ⟨_,h,O,O,O,O,O,O,(ZH N),(ZX N),O,O,Zo⟩
   try have hx2:Qf l i≠2:=λe=>(a6 A) (by rw[f.verb,e];rfl)
   try have hx3:Qf l i≠3:=λe=>(a6 A) (by rw[f.verb,e];rfl)
   refine ro 5 O<|OK.condL O O (λA=>?_) λA=>?_
   ·have v:Qf l i=2\/Qf l i=3:=by have q:=pf A;first|exact .inl (f.vk (k:=2) C q)|exact .inr<|f.vk (k:=3) C q
    obtain⟨u,hu⟩:=rR v f.ok;obtain⟨U,T,E⟩:=st_ux hu;have h:E0 n l Q i=decide ((VD n l i).st.parts[u].num=m):=by rw[own_u v hu,r,E]
    refine kV (.c (zf WC O)<|.c (zl Vg O O O O)<|.c (zL Zk O O O O)<|.c (zK (SB (s:=(VD n l i).st)) call73 O)<|.c (S.Zi (n:=u) V6 .none O (zt O) (zt O) T U O)<|.c (S.field vp .none O (zt O) O)<|.c (zV YK O O)<|.c (zm O)<|.c (S.eql .none O (zt O)<|zt O)<|.c (za O) .nil)<|Ab.D.blk ?_;refine Ab.D.lp ⟨_,h,O,O,O,O,O,O,(ZH N),(ZX N),O,O,Zo⟩
   try have hx2:Qf l i≠2:=λe=>(a6 A) (by rw[f.verb,e];rfl)
   try have hx3:Qf l i≠3:=λe=>(a6 A) (by rw[f.verb,e];rfl)
   refine ro 6 O<|kB O (λc103=>?_) λc103=>?_
   ·have v:=f.vk (k:=9) C c103;obtain⟨u,hpu,am,lim,hdp,hcs⟩:=sect_at h0 W v;obtain⟨U,T,E⟩:=st_ix hpu;have hdb:=r8 hcs;rw[←hdp,←E]at hdb;refine ro 13 O<|kc (zK (Ns (s:=(VD n l i).st) (n:=m)) call25 O)<|rr 6 O<|kc (S.Xb .none O<|zt O)<|jm O<|RK.ZS (t:=114) O (λZ=>?_) λZ=>?_
    ·refine rr 5 O<|kB O (λc117=>?_) λc117=>?_
     ·obtain⟨w,hw⟩:=st_of (H:=VD n l i) (m:=m) I;obtain⟨hwl,hwx,hwe⟩:=st_ix hw;have hO9:=own_9s (Q:=Q) v (r.symm▸Z) (r.symm▸hw) hpu;rw[←E,←hwe]at hO9;refine kO<|kV (.c (zf WC O)<|.c (zl Vg O O O O)<|.c (zL Zk O O O O)<|.c (zf xU O)<|.c (zl YK O O O O)<|.c (zK (Ns (s:=(VD n l<|i+1).st) (n:=(Gt l i).num)) call25 O)<|.c (S.Zi (n:=u) V6 .none O (zt O) (zt O) T U O)<|.c (S.Vj L5 .none O (zt O) O O)<|.c (zA (c:=17) ze41 O)<|.c (zS L5 O O O O O O) .nil)<|rd 6 O<|kc (S.rY (b:=ofV Q.Yr Q.YD (VD n l<|i+1).st.parts[u]) [.s [],.i 0] [.s (VD n l<|i+1).st.parts[u].Yr,.i (VD n l<|i+1).st.parts[u].YD] [.s Q.Yr,.i Q.YD] ET .none O (zt O) (zt O) O O O O ofV_eq)<|jm O<|RK.ZS (t:=131) O (λY=>?_) λY=>?_
      ·have hv1:ofV Q.Yr Q.YD (VD n l<|i+1).st.parts[u]=true:=by simpa[ofV]using Y
       refine rr 3 O<|kc (S.call (Ho (n:=n) (d:=(VD n l<|i+1).st.parts[u].depth) (fZ V).1 (fZ V).2.1 hdb.1 hdb.2) call74 (zg O O) O (zc O<|zc O .nil) O)<|rr 2 O<|RK.split (t:=137) O (λX=>?_) λX=>?_
       ·have h:E0 n l Q i=Yu (VD n l i).st.parts[w]:=by rw[hO9,hv1,X];rfl
        refine rr 3 O<|kc (S.Zi (n:=w) V6 (zg O O) O (zt O) (zt O) hwx hwl O)<|kc (S.Vj L5 (zg O O) O (zt O) O O)<|kc (S.call (Ny (p:=(VD n l i).st.parts[w])) call75 (zg O O) O (zc O .nil) O)<|rr 4 O ?_;refine Ab.D.lp ⟨_,h,O,O,O,O,O,O,(ZH N),(ZX N),O,O,Zo⟩
       have h:E0 n l Q i=false:=by rw[hO9,hv1,X];rfl
       refine rr 10 O ?_;refine Ab.D.lp ⟨_,h,O,O,O,O,O,O,(ZH N),(ZX N),O,O,Zo⟩
      have h:E0 n l Q i=false:=by rw[hO9,show ofV Q.Yr Q.YD (VD n l<|i+1).st.parts[u]=false from by simpa[ofV]using Y];rfl
      refine rr 16 O ?_;refine Ab.D.lp ⟨_,h,O,O,O,O,O,O,(ZH N),(ZX N),O,O,Zo⟩
     have h:E0 n l Q i=decide ((Gt l i).num=m):=by rw[←r];exact own_9n v<|r.symm▸st_no I
     refine OK.skip<|Ab.D.blk ?_;refine Ab.D.lp ⟨_,h,O,O,O,O,O,O,(ZH N),(ZX N),O,O,Zo⟩
    have h:E0 n l Q i=decide ((Gt l i).num=m):=by rw[←r];exact own_9t v<|r.symm▸Zu.1 Z
    refine rr 8 O ?_;refine Ab.D.lp ⟨_,h,O,O,O,O,O,O,(ZH N),(ZX N),O,O,Zo⟩
   have h:E0 n l Q i=false:=own_0 f ⟨λe=>c56 (by rw[f.verb,e];rfl),λe=>c74 (by rw[f.verb,e];rfl),P,M,L,K,B,hx2,hx3,λe=>c103<|by rw[f.verb,e];rfl⟩;refine OK.skip<|Ab.D.blk ?_;refine Ab.D.lp ⟨_,h,O,O,O,O,O,O,(ZH N),(ZX N),O,O,Zo⟩
  rintro o rfl;refine ro 5 O<|OK.cond O O (λc145=>?_) λc145=>?_
  ·have z:J (i+1)=J i++[(i:Int)]:=by rw[F];dsimp only;rw[sD,Zn c145,ne];rfl
   refine ro 3 O ?_;refine RK.c (zM [[_]] Xr O O O O) ?_;refine kc (zP Xr O O (by simp[Ye]) N I<|by simp only[maxLen];omega) ?_;refine Rr 9 O I ?_;refine Ab.D.lp ⟨i+1,⟨I,by rw[z];first|(rw[Zs];simp;omega)|omega⟩,I,O,O,O,O,O,O,(ZH<|by first|(rw[z];simp;done)|rw[z]),(ZX<|by first|(rw[z];simp[Ye];done)|rw[z]),O,Zo⟩
  have z:J (i+1)=J i:=by rw[F];dsimp only;rw[sD,Zm (by rw[c145];decide),i8]
  refine Ro 8 O I ?_;refine Ab.D.lp ⟨i+1,⟨I,by rw[z];first|(rw[Zs];simp;omega)|omega⟩,I,O,O,O,O,O,O,(ZH<|by first|(rw[z];simp;done)|rw[z]),(ZX<|by first|(rw[z];simp[Ye];done)|rw[z]),O,Zo⟩
 have hOe:J i=sB n l Q:=by rw[F,show i=R l by omega];rfl
 rw[hOe];refine ro 8 O ?_;refine OK.ret<|Y3.r1 (.tmp O O (.c (.own O O N) O) O) ?_;rfl
def law_RecordHistories:Q7 prog 4 [.agg n.cs,.sl<|l.map Entry.cs,bv m]<|.bool true:=by
 refine cT func4 O λz=>?_
 refine ro 9 O<|kc (S.Xo Bp z call10 .none O .nil O)<|kc (S.not .none O<|zt O)<|rr 9 O<|kc (zK (tK (n:=n)) call11 O)<|kc (S.not .none O<|zt O)<|jm O<|RK.split (t:=15) O (λo=>?_) λo=>?_
 ·refine rr 12 O (kR O O ?_)
  first|rfl|simp
 refine kc (S.move (zg O O) O<|zt O)<|kc (S.call (C2 (l:=l)) call12 (zg O O) O (zc O .nil) O)<|kc (S.not (zg O O) O<|zt O)<|rr 3 O<|OK.cond O O (λq=>?_) λq=>?_
 ·refine ro 5 O (kR O O ?_)
  first|rfl|simp
 have v:NK n=true:=by simpa using o
 have r:Xv l=true:=by simpa using q
 obtain⟨E,C⟩:=mN v;obtain⟨B,u⟩:=dz r;have e:∀y∈l,R y.text<=100000:=λy A=>by have:=u y A;omega
 refine ro 5 O<|kc (zK (Tj (n:=n) I) call14 O)<|jm O<|kc (zK (S8 (l:=l) I) call15 O)<|jm O<|kc (S.Xo (J7 (n:=n) (l:=l) (num:=m) I<|An e) z call27 .none O (zc O<|zc O<|zc O .nil) O) ?_;refine rr 11 O<|kc (zK (G9 (n:=n) (l:=l) I e) call18 O) ?_;refine rr 3 O ?_;refine OK.join (G:=Int) [3] (λd=>[(1,.sl<|l.map Entry.cs),(2,bv m),(3,.ptr 3 0),(1003,.box n.cs),(7,ints (Nn n l m).1),(8,bv (Nn n l m).2),(9,bv d)]) (λd=>d=Wm n l m) (λ_=>O) ?_ ?_
 ·refine ro 6 O<|kB O (λc=>?_) λc=>?_
  ·refine ro 3 O<|kc (zK (kG (n:=n) (l:=l) I (Ur c).1 e) call20 O)<|jm O<|kc (zK (ref10_NumberErr (s:=Xi n l) (n:=m)) call24 O)<|ja O<|RK.nil ?_;refine Ab.D.lp ⟨_,(by first|exact(found_1 c).symm|exact(found_2 c).symm),O,O,O,O,O,O,O,Zo⟩
  refine OK.skip (Ab.D.lp ⟨_,(by first|exact(found_1 c).symm|exact(found_2 c).symm),O,O,O,O,O,O,O,Zo⟩)
 rintro d rfl;refine ro 7 O<|kB O (λg=>?_) λg=>?_
 ·have w:Nn n l m=([],Wm n l m):=Zn g;rw[w];refine ro 6 O<|RK.ZS (t:=44) O (λk=>?_) λk=>?_
  ·refine kc (S.move (zg O O) O<|zt O) (kc (S.OF Ym (zg O O) O<|zt O)<|rr 5 O<|kR O O ?_)
   first|rfl|simp
  exact absurd rfl k
 have f:Wm n l m=0:=Zu.1 g;have h0:(Z2 n l).2.2=0:=HO f;obtain⟨j,x⟩:=Ba f;have w:=hist_eq h0 (found_r f) x;rw[w];refine ro 7 O<|RK.ZS (t:=51) O (λh=>?_) λh=>?_
 ·refine rr 4 O<|kc (S.call (ref10_History (n:=n) (l:=l) (m:=m) I h0 e x O) call28 (zg O O) O (zc O<|zc O<|zc O .nil) O)<|kc (S.call (Me (a:=sB n l<|(Z2 n l).1.p j) (b:=sB n l<|(Z2 n l).1.p j)) call22 (zg O O) O (zc O<|zc O .nil) O) ?_;refine rr 4 O (kR O O ?_)
  first|rfl|simp
 exact absurd rfl h
