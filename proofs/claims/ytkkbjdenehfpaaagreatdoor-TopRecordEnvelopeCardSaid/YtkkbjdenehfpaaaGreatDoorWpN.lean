import Derived.Test.YtkkbjdenehfpaaaGreatDoorWkN
set_option linter.all false
set_option maxHeartbeats 1000000
open List renaming length->R
namespace Go.Proofs.Z_
open Go.Ab Tryz
set_option maxRecDepth 9999
def OI{r:ZG}(qk:R r.rows<=100000)(b:∀(i:Nat)(h:i<R r.rows),R r.rows[i].values<=100000):Ct prog 28 [.agg r.cs]<|.agg r.cs:=by
 refine cI func28 O<|ro 18 O<|OK.VL 3 0 890 2 O O O O O ?_;refine OK.loop (G:=Nat) [1,2,3,890] (λi=>[(1,.ptr 1 0),(1001,.box r.cs),(2,.ptr 2 0),(1002,.box [.ZM]),(3,.ptr 3 0),(1003,.box [.own 890 i]),(2890,.arr 2<|(r.rows.take i).map Row.cs),(4,bv i)]) (λi=>i<=R r.rows) (λi=>R r.rows - i) 0 (Zr _) ⟨O,O,O,O,O,O,(ZX N),O,Zo⟩ (λ_=>O) ?_;rintro i hi;refine ro 6 O<|kc (zk Oz O)<|rr 3 O<|kB O (λd=>?_) λd=>?_
 ·have a:=b i I;refine ro 4 O ?_;refine kV (.c (zf dB O)<|.c (zl vm O O O O)<|.c (zf dB O)<|.c (zl vm O O O O)<|.c (zm O)<|.c (zI Oz O I O)<|.c (S.field Mx .none O (zt O) O)<|.c (zV CI O O)<|.c (zf dB O)<|.c (zl vm O O O O)<|.c (zm O)<|.c (zI Oz O I O)<|.c (S.field Dz .none O (zt O) O)<|.c (zV Md O O)<|.c (zK (Oi (l:=r.rows[i].values) a) call62 O)<|.c (zU vO O O)<|.c (zM [[_,_]] fS O O O O)<|.c (zP fS O O (by simp;omega) N I<|by simp only[maxLen];omega)<|.c (zf dB O)<|.c (zS vm O O O O O O) .nil) ?_;refine Rd 7 O I ?_;refine Ab.D.lp ⟨i+1,I,I,O,O,O,O,O,O,(ZX<|by rw[←Wh I];simp only[ne,ta,H2];rfl),O,Zo⟩
 refine ro 8 O ?_;refine OK.ret<|Y3.r1 (.XU O O O O AD O<|.k (.own O O N) .z) ?_;rw[show i=R r.rows by omega,List.take_length];rfl
def Yp(p:Zf)(f:Frame):Int:=if¬(0<=f.tick/\f.tick<=p.ticks - 1)then 2 else Xt p f.values
def tq(p:Zf)(f:Frame):ZW [Z8 (decide<|0<=f.tick/\f.tick<=p.ticks - 1) 2,Xt p f.values]=Yp p f:=by
 rw[QG,Yp];by_cases h:0<=f.tick/\f.tick<=p.ticks - 1
 ·rw[Uf h,Zm F,Zm I]
 rw[U0 h,Zn C,Zn h]
variable{f:Frame}
theorem VM{p:Zf}(h:Yp p f=0):(0<=f.tick/\f.tick<=p.ticks - 1)/\R f.values=R p.ZY:=by
 unfold Yp at h;split at h
 ·cases h
 rename_i a;refine⟨Zu.1 a,?_⟩;grind [Xt]
def rowAt(vi:List Row)(f:Frame):Row:=vi.getD f.tick.toNat ⟨false,[]⟩
def Q2(p:Zf)(vi:List Row)(f:Frame):Int:=
 if Yp p f≠0 then Yp p f else if(rowAt vi f).known=true then Z8 (decide<|(rowAt vi f).values=f.values) 13 else 0
def UO(p:Zf)(vi:List Row)(f:Frame):List Row:=
 if Yp p f≠0 then vi else if(rowAt vi f).known=true then vi else vi.set f.tick.toNat ⟨true,f.values⟩
theorem EK(p:Zf)(vi:List Row)(f:Frame):R (UO p vi f)=R vi:=by
 grind [UO]
def Yd(p:Zf)(l:List Frame)(i:Nat):List Row:=(l.take i).foldl (UO p)<|List.replicate p.ticks.toNat ⟨false,[]⟩
def IV(p:Zf)(l:List Frame):Yd p l 0=List.replicate p.ticks.toNat ⟨false,[]⟩:=rfl
variable{l:List Frame}{i:Nat}
theorem PW(p:Zf)(h:i<R l):Yd p l (i+1)=UO p (Yd p l i) l[i]:=by
 grind [Yd,Wh]
def S3(p:Zf)(l:List Frame):∀i,i<=R l->R (Yd p l i)=p.ticks.toNat
 |0,_=>by rw[IV,bσ]
 |i+1,h=>by rw[PW p I,EK,S3 p l i I]
def RU(p:Zf)(l:List Frame)(i:Nat)(f:Frame):Int:=Q2 p (Yd p l i) f
def vg(p:Zf)(l:List Frame)(i:Nat)(f:Frame):Int:=
 if Yp p f≠0 then Yp p f else if((l.take i).any λx=>decide (x.tick=f.tick)&&!decide (x.values=f.values))=true then 13 else 0
def SH{α:Type}(g:Nat->α->Int):Nat->List α->Nat
 |i,[]=>i
 |i,x::l=>if g i x≠0 then i+1 else SH g (i+1) l
variable{α:Type}
def HF(g:Nat->α->Int){l:List α}(h:i<R l):SH g i (l.drop i)=if g i l[i]≠0 then i+1 else SH g (i+1) (l.drop<|i+1):=by
 rw[np h,SH]
def Fg{α:Type}(g:Nat->α->Int):∀(l:List α)(i:Nat),(ZP g i l).2=0->SH g i l=i+R l
 |[],i,_=>rfl
 |x::l,i,h=>by
  rw[ZP]at h;by_cases a:g i x≠0
  ·simp_all
  rw[Zm a]at h;rw[SH,Zm a,Fg g l (i+1) h,tt];omega
def AW{α:Type}(g:Nat->α->Int):∀(l:List α)(i:Nat),SH g i l<=i+R l
 |[],i=>Zq _
 |x::l,i=>by
  rw[SH,tt];split
  ·omega
  have:=AW g l<|i+1;omega
def Um(p:Zf)(l:List Frame):Int:=if Y_ p≠0 then Y_ p else if 40<R l then 8 else(ZP (RU p l) 0 l).2
def WG(p:Zf)(l:List Frame):ZG:=if Um p l=0 then⟨Yd p l<|R l⟩else⟨[]⟩
def VC(p:Zf)(l:List Frame):Int:=if 40<R l then 8 else(ZP (vg p l) 0 l).2
def V4(l:List Frame)(t:Nat):Row:=l.foldl (λr f=>if f.tick=(t:Int)then⟨true,f.values⟩else r) ⟨false,[]⟩
def V1(p:Zf)(l:List Frame):ZG:=⟨(List.range p.ticks.toNat).map<|V4 l⟩
theorem D3{t:Nat}(h:i<R l):V4 (l.take<|i+1) t=if l[i].tick=(t:Int)then⟨true,l[i].values⟩else V4 (l.take i) t:=by
 grind [V4,Wh]
variable{vi:List Row}
theorem uV:∀{i:Nat}(h:i<R vi),(vi.map Row.cs).flatten[i * 2+0]?=some (.bool vi[i].known):=by
 induction vi with
 |nil=>simp
 |cons r vi a=>
  intro i h;cases i with
  |zero=>rfl
  |succ i=>
   have:=a (i:=i) (by grind);rw[show(i+1) * 2+0=(i * 2+0)+2 by omega];exact this
theorem uW:∀{i:Nat}(h:i<R vi),(vi.map Row.cs).flatten[i * 2+1]?=some (ints vi[i].values):=by
 induction vi with
 |nil=>simp
 |cons r vi a=>
  intro i h;cases i with
  |zero=>rfl
  |succ i=>
   have:=a (i:=i) (by grind);rw[show(i+1) * 2+1=(i * 2+1)+2 by omega];exact this
def NH(p:Zf)(l:List Frame)(i:Nat):Prop:=∀t,t<p.ticks.toNat->
 ((((Yd p l i).getD t ⟨false,[]⟩).known=false->(Yd p l i).getD t ⟨false,[]⟩=⟨false,[]⟩/\∀x∈l.take i,x.tick≠(t:Int))/\
  (((Yd p l i).getD t ⟨false,[]⟩).known=true->(∃x∈l.take i,x.tick=(t:Int))/\∀x∈l.take i,x.tick=(t:Int)->x.values=((Yd p l i).getD t ⟨false,[]⟩).values))
theorem nq{p:Zf}(hi:i<R l)(h:NH p l i):RU p l i l[i]=vg p l i l[i]:=by
 unfold RU vg Q2;by_cases b:Yp p l[i]≠0
 ·omega
 rw[Zm b,Zm b];have f:=(VM<|Zu.1 b).1;have a:((l[i].tick.toNat:Nat):Int)=l[i].tick:=dζ f.1;obtain⟨o,k⟩:=h l[i].tick.toNat I;unfold rowAt;cases e:((Yd p l i).getD l[i].tick.toNat ⟨false,[]⟩).known with
 |false=>
  simp_all
 |true=>
  obtain⟨⟨x,n,d⟩,g⟩:=k e;rw[Zn rfl];rw[a]at d g;by_cases c:((Yd p l i).getD l[i].tick.toNat ⟨false,[]⟩).values=l[i].values
  ·rw[Uf c,Zm];simp_all
  rw[U0 c,Zn];grind
def CV(p:Zf)(l:List Frame):NH p l 0:=by
 intro t a;have e:(Yd p l 0).getD t ⟨false,[]⟩=⟨false,[]⟩:=by simp_all[IV]
 simp_all
theorem K3{p:Zf}(hi:i<R l)(h:NH p l i)(g:RU p l i l[i]=0):NH p l<|i+1:=by
 have qk:=S3 p l i I;unfold RU Q2 at g;have f:Yp p l[i]=0:=by
  omega
 have C:=(VM f).1;have w:((l[i].tick.toNat:Nat):Int)=l[i].tick:=dζ C.1;rw[Zm I]at g;intro t z;have a:∀x,x∈l.take (i+1)↔x∈l.take i\/x=l[i]:=λx=>by rw[←Wh hi,List.mem_append,pi]
 obtain⟨F,D⟩:=h t z;rw[PW p hi];unfold UO;rw[Zm I];by_cases n:(rowAt (Yd p l i) l[i]).known=true
 ·rw[Zn n]at g⊢;have G:(rowAt (Yd p l i) l[i]).values=l[i].values:=by
   grind [U0]
  refine⟨λb=>?_,λb=>?_⟩
  ·obtain⟨q,o⟩:=F b;refine⟨q,λx c=>?_⟩;rcases(a x).1 c with c|rfl
   all_goals grind [rowAt]
  obtain⟨⟨x,c,d⟩,o⟩:=D b;refine⟨⟨x,(a x).2<|.inl c,d⟩,λy k r=>?_⟩;rcases(a y).1 k with k|rfl
  all_goals simp_all[rowAt]
 rw[Zm n];by_cases u:l[i].tick.toNat=t
 ·have e:((Yd p l i).set l[i].tick.toNat ⟨true,l[i].values⟩).getD t ⟨false,[]⟩=⟨true,l[i].values⟩:=by
   simp_all
  rw[e];have B:((Yd p l i).getD t ⟨false,[]⟩).known=false:=by
   simp_all[rowAt]
  grind
 grind
def xV{p:Zf}{l:List Frame}:∀(n i:Nat),R l - i=n->i<=R l->NH p l i->
  ZP (RU p l) i (l.drop i)=ZP (vg p l) i (l.drop i)/\((ZP (RU p l) i<|l.drop i).2=0->NH p l (R l))
 |0,i,hn,hi,h=>by
  have e:i=R l:=I
  subst e;rw[da];exact⟨rfl,λ_=>h⟩
 |n+1,i,hn,hi,h=>by
  have a:i<R l:=I
  rw[Zd _ a,Zd _ a,nq a h];by_cases b:vg p l i l[i]≠0
  ·simp_all
  rw[Zm b,Zm b];exact xV n (i+1) I I (K3 a h<|by simp_all[nq])
def AT{p:Zf}(a:Y_ p=0):Um p l=VC p l:=by
 unfold Um VC;rw[Zm I];have:=(xV (p:=p) (l:=l) (R l) 0 rfl (Zr _)<|CV p l).1;rw[aα]at this;rw[this]
def Nv{t:Nat}:∀(l:List Frame)(r:Row),(∀x∈l,x.tick≠(t:Int))->l.foldl (λr f=>if f.tick=(t:Int)then⟨true,f.values⟩else r) r=r
 |[],_,_=>rfl
 |x::l,r,h=>by
  rw[aτ,Zm<|h x rv];exact Nv l r λy a=>h y<|rl _ a
def Qa{t:Nat}{v:bd}:∀(l:List Frame)(r:Row),(∀x∈l,x.tick=(t:Int)->x.values=v)->(r=⟨true,v⟩\/∃x∈l,x.tick=(t:Int))->l.foldl (λr f=>if f.tick=(t:Int)then⟨true,f.values⟩else r) r=⟨true,v⟩
 |[],r,_,h=>by
  simp_all
 |x::l,r,h,ho=>by
  rw[aτ];have b:=λy c=>h y<|rl _ c
  by_cases a:x.tick=(t:Int)
  ·rw[Zn a];exact Qa l _ b (.inl<|by simp_all)
  rw[Zm a];refine Qa l r b ?_;simp_all
theorem NB{p:Zf}(h:Um p l=0):WG p l=V1 p l:=by
 have k:Y_ p=0:=by
  grind [Um]
 have n:(ZP (RU p l) 0 l).2=0:=by
  unfold Um at h;omega
 have b:=(xV (p:=p) (l:=l) (R l) 0 rfl (Zr _)<|CV p l).2 (by simp_all);have qk:=S3 p l (R l)<|Zq _;rw[WG,Zn h,V1];congr 1;refine List.ext_getElem (by simp[qk]) λt g o=>?_
 rw[bκ,List.getElem_range];have f:t<p.ticks.toNat:=I
 obtain⟨c,a⟩:=b t f;rw[List.take_length]at c a;have e:(Yd p l<|R l).getD t ⟨false,[]⟩=(Yd p l<|R l)[t]:=getD_at g;rw[e]at c a;cases d:(Yd p l<|R l)[t].known with
 |false=>
  simp_all[V4,Nv]
 |true=>
  obtain⟨r1,r2⟩:=a d;rw[V4,Qa l _ r2<|.inr r1];rw[←d]
def Ol{a b:bd}:Ct prog 49 [ints a,ints b]<|.bool<|decide<|a=b:=by
 refine cI func49 O<|OK.XF (vi:=a.map λn=>[bv n]) (t:=0) O O λqk=>?_;rw[Zx]at qk;unfold maxLen at qk;refine ro 9 O<|kc (zk X9 O)<|jm O<|kc (zk X9 O)<|rr 3 O<|kB O (λf=>?_) λf=>?_
 ·refine ro 5 O<|kR O O ?_;exact AF (λe=>f<|by rw[e])
 have k:R a=R b:=by omega
 refine ro 6 O<|kc (zk X9 O)<|rr 4 O ?_;refine OK.loop (G:=Nat) [] (λi=>[(0,ints a),(1,ints b),(12,bv<|R a),(13,bv i)]) (λi=>i<=R a/\a.take i=b.take i) (λi=>R a - i) 0 ⟨Zr _,O⟩ ⟨O,O,O,O,Zo⟩ (λ_=>O) ?_;rintro i ⟨hi,g⟩;refine ro 6 O<|kB O (λh=>?_) λh=>?_
 ·refine ro 11 O<|kV (.c (zm O)<|.c (zm O)<|.c (zI X9 O I O)<|.c (zV YK O O)<|.c (zm O)<|.c (zm O)<|.c (zI X9 O I O)<|.c (zV YK O O)<|.c (S.neq .none O (zt O)<|zt O) .nil)<|Ab.D.code<|kB O (λd=>?_) λd=>?_
  ·refine ro 5 O<|kR O O ?_;exact AF (λe=>by subst e;exact d rfl)
  refine Ro 7 O I (Ab.D.lp ⟨i+1,⟨by omega,?_⟩,I,O,O,O,O,Zo⟩);simp only[ne_eq,Zu]at d;rw[mv I,mv I,g,d]
 refine ro 7 O<|kR O O ?_;have:i=R a:=by omega
 subst this;rw[List.take_length,k,List.take_length]at g;exact gi g
def GG{l:bd}(h0:0<R l)(qk:R l<=100000):Ct prog 50 [ints l]<|ints l:=by
 refine cI func50 O<|kr<|kc (S.assign .none O .Ya)<|rr 6 O ?_;refine kc (S.eqnil underlying38 .none O (zt O)<|by rw[Zx];exact h0) ?_;refine rr 7 O<|RK.c (zM [] Xr O O O O)<|jm O ?_;refine RK.c (S.V2 Xr .none O (zt O) O N (zt O) (by intro q a;obtain⟨b,_,rfl⟩:=rx.1 a;rfl) O (by simp only[Zx];omega)<|by simp only[maxLen,Zx];omega) ?_;refine rr 3 O ?_;refine OK.ret<|Y3.r1 (.tmp O O (.c (.own O O N) O) O) ?_;rfl
def MZ{p:Zf}(a:1<=p.ticks/\p.ticks<=12):Ct prog 48 [.agg p.cs,.agg f.cs]<|bv<|Yp p f:=by
 refine cI func48 O<|ro 8 O ?_;refine kV (.c (zf Hw O)<|.c (zl YK O O O O)<|.c (zf N7 O)<|.c (zf rT O)<|.c (zl YK O O O O)<|.c (S.sub .none O (zt O) (.Zg O) (mn _ I)<|mn _ I)<|.c (zK Ws call76 O)<|.c (zK Y7 call45 O)<|.c (zL Uz O O O O)<|.c (zf QE O)<|.c (zl Md O O O O)<|.c (zK Oo call77 O)<|.c (zM [[_],[_]] V6 O O O O)<|.c (S.XY (XB (l:=[_,_])) call44 .none O (zc O .nil) (.cons (.p (.own O O) O) .nil) O)<|.c (za O) .nil)<|Ab.D.code<|kR O O ?_;exact YL<|tq p f
def Ih{p:Zf}:Ct prog 213 [.agg p.cs,.agg f.cs]<|bv (if Y_ p=0 then Yp p f else Y_ p):=by
 refine cI func213 O<|ro 10 O<|kc (zK M0 call43 O)<|rr 15 O<|kB O (λa=>?_) λa=>?_
 ·have b:=X_ a;refine ro 3 O<|kc (zK (MZ I) call48 O) ?_;refine rr 9 O<|kR O O ?_;rw[Zn a]
 refine ro 8 O<|kR O O ?_;rw[Zm a]
variable{n:Nat}
def oq{p:Zf}(r:R vi=n)(q:n=p.ticks.toNat)(o:1<=p.ticks/\p.ticks<=12)(w:0<R p.ZY/\R p.ZY<=100000):Vi prog 47 [6,8,27] [bv i,.agg f.cs,.ptr 6 0,.ptr 8 0] [(1006,.box p.cs),(1008,.box [.own 27 n]),(2027,.arr 2<|vi.map Row.cs)] [(1006,.box p.cs),(1008,.box [.own 27 n]),(2027,.arr 2<|(UO p vi f).map Row.cs)]<|bv<|Q2 p vi f:=by
 refine cG func47 O λ{_ _}=>?_
 have a:R (vi.map Row.cs)=n:=by rw[Zx,r]
 refine ro 11 O<|kc (zK (MZ I) call48 O) ?_;refine rr 9 O<|kB O (λe=>?_) λe=>?_
 ·refine ro 6 O ?_;refine OK.ret ⟨Y3.r1 (zo O O) ?_,O,O,(ZX<|by rw[UO,Zn e]),Zo⟩;refine YL ?_;rw[Q2,Zn e]
 have u:Yp p f=0:=Zu.1 e;obtain⟨k,t⟩:=VM u;have h:((f.tick.toNat:Nat):Int)=f.tick:=dζ k.1;have g:f.tick.toNat<R vi:=I
 have b:rowAt vi f=vi[f.tick.toNat]:=getD_at g;refine ro 8 O<|kc (S.Mb (i:=f.tick.toNat) Oz .none O (zt O) O a (zt O) h.symm I) ?_;refine rr 7 O<|kc (S.LM .none O (zt O) O a)<|kc (S.rX Mx .none O (zt O) O a)<|kc (S.EZ CI .none O (zt O) O a<|uV g)<|kD<|OK.cond O O (λd=>?_) λd=>?_
 ·refine kO (kV (.c (zm O)<|.c (S.LM .none O (zt O) O a)<|.c (S.rX Dz .none O (zt O) O a)<|.c (S.EZ Md .none O (zt O) O a<|uW g)<|.c (zf QE O)<|.c (zl Md O O O O)<|.c (zK Ol call49 O)<|.c (zK Y7 call45 O)<|.c (za O) .nil)<|Ab.D.code<|OK.ret ⟨Y3.r1 (zo O O) ?_,O,O,(ZX<|by rw[UO,Zm I,b,Zn d]),Zo⟩);refine YL ?_;rw[Q2,Zm I,b,Zn d]
 refine ro 7 O<|kc (zK (GG (l:=f.values) I I) call50 O)<|kc (zU vO O O)<|kc (S.LM .none O (zt O) O a) ?_;refine RK.c (S.o8 (i:=f.tick.toNat) fM .none (zt O) (zt O) O a O I O O O (show _=(vi.set f.tick.toNat ⟨true,f.values⟩).map Row.cs by rw[bτ];rfl)) ?_;refine rr 7 O ?_;refine OK.ret ⟨Y3.r1 (zo O O) ?_,O,O,(ZX<|by rw[UO,Zm I,b,Zm<|by simp[d]]),Zo⟩;refine YL ?_;rw[Q2,Zm I,b,Zm<|by simp[d]]
def Dt{g:Nat->Frame->Int}{Φ:Value->Prop}{J:Nat->bm}(b:∀(i:Nat)(h:i<R l)(v:Value),Φ v->ND prog v [.int .i64 i,.agg l[i].cs] (.int .i64<|g i l[i]) (J i) (J<|i+1))(f:∀i,Y2<|J i):Vi prog 46 [] [.sl<|l.map Frame.cs,.cb Φ] [(3000,.res<|J 0)] [(3000,.res<|J<|SH g 0 l)]<|pair<|ZP g 0 l:=by
 refine cG func46 O<|OK.XF (vi:=l.map Frame.cs) (t:=0) O O λqk=>?_;rw[Zx]at qk;unfold maxLen at qk;refine ro 10 O<|kc (zk Qr O)<|rr 4 O ?_;refine OK.loop (G:=Nat) [] (λi=>[(1,.cb Φ),(9,.sl<|l.map Frame.cs),(10,bv<|R l),(11,bv i),(3000,.res<|J i)]) (λi=>i<=R l/\ZP g 0 l=ZP g i (l.drop i)/\SH g 0 l=SH g i (l.drop i)) (λi=>R l - i) 0 ⟨Zr _,O,O⟩ ⟨O,O,O,O,O,Zo⟩ (λ_=>O) ?_;rintro i ⟨hi,c,d⟩;refine ro 6 O<|kB O (λe=>?_) λe=>?_
 ·refine ro 7 O<|kc (zI Qr O I O) ?_;refine rr 11 O ?_;refine kc (S.Lm (J1:=J<|i+1) (b i I) (f _) .none O (zt O) (zc O<|zc O .nil) O O) ?_;refine rr 9 O<|kB O (λa=>?_) λa=>?_
  ·refine ro 8 O ?_;refine OK.ret ⟨Y3.r2 (zo O O) (zo O O) ?_,(OB<|by rw[d,HF _ I,Zn a]),Zo⟩;refine WM ?_;rw[c,Zd _ I,Zn a]
  refine Ro 7 O I (Ab.D.lp ⟨i+1,⟨by omega,?_,?_⟩,I,O,O,O,O,O,Zo⟩)
  ·rw[c,Zd _ I,Zm a]
  rw[d,HF _ I,Zm a]
 refine ro 8 O ?_;refine OK.ret ⟨Y3.r2 (zo O O) (zo O O) ?_,(OB<|by rw[d,show i=R l by omega,da];rfl),Zo⟩;refine WM ?_;rw[c,show i=R l by omega,da];rfl
def jt(p:Zf)(l:List Frame):ZW [Y_ p,Z8 (decide ((R l:Int)<=40)) 8]=if Y_ p≠0 then Y_ p else if 40<R l then 8 else 0:=by
 rw[QG];by_cases b:Y_ p≠0
 ·omega
 rw[Zm b,Zm b];by_cases a:40<R l
 ·rw[U0 I,Zn a]
 rw[Uf I,Zm a]
variable{k:Nat}
def af(hi:i<R l)(c:k<i)(b:l[k].tick=l[i].tick)(a:¬l[k].values=l[i].values):((l.take i).any λx=>decide (x.tick=l[i].tick)&&!decide (x.values=l[i].values))=true:=by
 rw[dτ];refine⟨l[k],?_,?_⟩
 ·have:(l.take i)[k]'(by rw[sc];omega)=l[k]:=dξ;rw[←this];exact Zt _
 rw[Zw,de,zd,ul];exact⟨b,a⟩
def clash_F(hi:i<R l)(h:∀(k:Nat)(a:k<i),¬(l[k].tick=l[i].tick/\¬l[k].values=l[i].values)):¬((l.take i).any λx=>decide (x.tick=l[i].tick)&&!decide (x.values=l[i].values))=true:=by
 rw[dτ];rintro⟨x,hx,hq⟩;rw[Zw,de,zd,ul]at hq;obtain⟨k,a,rfl⟩:=dl hx;rw[dξ]at hq;rw[sc]at a;exact h k I hq
def D7{p:Zf}:Ct prog 19 [.agg p.cs,.sl<|l.map Frame.cs]<|.Yy [.agg (WG p l).cs,bv<|Um p l]:=by
 refine cI func19 O λ{_ _}=>?_
 have hh:=jt p l;have d:Um p l=if Y_ p≠0 then Y_ p else if 40<R l then 8 else(ZP (RU p l) 0 l).2:=rfl
 refine ro 10 O<|kc (zK M0 call43 O)<|rr 13 O<|kc (zk Qr O)<|kc (S.leq .none O (zt O)<|.Zg O)<|kc (zK Y7 call45 O) ?_;refine RK.c (zM [[_],[_]] V6 O O O O)<|kc (S.XY (XB (l:=[_,_])) call44 .none O (zc O .nil) (.cons (.p (.own O O) O) .nil) O) ?_;refine rr 9 O<|kB O (λa=>?_) λa=>?_
 ·have f:Um p l=ZW [Y_ p,Z8 (decide ((R l:Int)<=40)) 8]:=by
   rw[hh]at a⊢;rw[d];by_cases r:Y_ p≠0
   ·rw[Zn r,Zn r]
   rw[Zm r]at a⊢;by_cases B:40<R l
   ·rw[Zm r,Zn B,Zn B]
   rw[Zm B]at a;exact absurd rfl a
  have w:¬Um p l=0:=by rw[f];exact a
  refine kr<|kc (zU bu75 O O)<|rr 5 O<|OK.ret<|Y3.r2 (.XU O O O O AD O<|.k .ZM .z) (zo O O) ?_;rw[WG,Zm w,f];rfl
 have u:Y_ p=0:=I
 have C:R l<=40:=I
 have H:=X_ u;have f:Um p l=(ZP (RU p l) 0 l).2:=by rw[d,Zm I,Zm I]
 have x:R (Yd p l<|SH (RU p l) 0 l)=p.ticks.toNat:=S3 p l _ (by have:=AW (RU p l) l 0;omega);have kS:∀(i:Nat)(h:i<R l),Vi prog 47 [6,8,27] ([bv i,.agg l[i].cs]++[.ptr 6 0,.ptr 8 0]) [(1006,.box p.cs),(1008,.box [.own 27 p.ticks.toNat]),(2027,.arr 2<|(Yd p l i).map Row.cs)] [(1006,.box p.cs),(1008,.box [.own 27 p.ticks.toNat]),(2027,.arr 2<|(Yd p l<|i+1).map Row.cs)] (bv<|RU p l i l[i]):=λi h=>by
  rw[PW p h];exact oq (S3 p l i I) rfl I I
 have F:∀(o:Ctx)(q:Value),Zc o (.fn 47 [.ptr 6 0,.ptr 8 0]) q->Vi prog 46 [] ([.sl<|l.map Frame.cs]++[.cb λv=>v=q]) [(3000,.res<|R5 [6,8,27] [(1006,.box p.cs),(1008,.box [.own 27 p.ticks.toNat]),(2027,.arr 2<|(Yd p l 0).map Row.cs)] o [(1006,.box p.cs),(1008,.box [.own 27 p.ticks.toNat]),(2027,.arr 2<|(Yd p l 0).map Row.cs)])] [(3000,.res<|R5 [6,8,27] [(1006,.box p.cs),(1008,.box [.own 27 p.ticks.toNat]),(2027,.arr 2<|(Yd p l 0).map Row.cs)] o [(1006,.box p.cs),(1008,.box [.own 27 p.ticks.toNat]),(2027,.arr 2<|(Yd p l<|SH (RU p l) 0 l).map Row.cs)])] (pair<|ZP (RU p l) 0 l):=λo q G=>Dt (l:=l) (g:=RU p l) (Φ:=λv=>v=q) (J:=λi=>R5 [6,8,27] [(1006,.box p.cs),(1008,.box [.own 27 p.ticks.toNat]),(2027,.arr 2<|(Yd p l 0).map Row.cs)] o [(1006,.box p.cs),(1008,.box [.own 27 p.ticks.toNat]),(2027,.arr 2<|(Yd p l i).map Row.cs)]) (λi h v e=>by subst e;exact vX (kS i h) call47 rfl G rfl rfl) λi=>R5.ZV rfl
 refine ro 6 O ?_;refine RK.c (S.make (k:=27) (n:=p.ticks.toNat) fS (⟨⟨t127,_,V,rfl,λh=>⟨.bool _,.I3 none 0<|Zr _,Zo⟩⟩⟩:MkI prog 127 [.bool false,.sl []]) .none O (zt O) (zt O) I I<|by unfold maxLen;omega) ?_;refine kc (zU bu75 O O)<|rr 7 O<|kc (S.LJ .none O (zt O) (zt O) O O) ?_;refine RK.c (S.dP (fs:=[6,8,27]) (t:=[(1006,.box p.cs),(1008,.box [.own 27 p.ticks.toNat]),(2027,.arr 2<|(Yd p l 0).map Row.cs)]) (t':=[(1006,.box p.cs),(1008,.box [.own 27 p.ticks.toNat]),(2027,.arr 2<|(Yd p l<|SH (RU p l) 0 l).map Row.cs)]) F call46 .none O (zc O<|zc O .nil) O O O ⟨O,O,(ZX<|by rw[IV,List.map_replicate];rfl),Zo⟩ V V V V V O O) ?_;refine rr 13 O<|kB O (λb=>?_) λb=>?_
 ·refine kr<|kc (zU bu75 O O)<|rr 5 O<|OK.ret<|Y3.r2 (.XU O O O O AD O<|.k .ZM .z) (zo O O) ?_;rw[WG,Zm (by rw[f];exact b),f];rfl
 have y:(ZP (RU p l) 0 l).2=0:=Zu.1 b;have D:Um p l=0:=I
 have K:SH (RU p l) 0 l=R l:=by rw[Fg _ l 0 y,wc]
 refine ro 9 O ?_;refine OK.ret<|Y3.r2 (.XU O O O O AD O<|.k (.own O O N) .z) (zo O O) ?_;rw[WG,Zn D,D,K];rfl
def Gv{p:Zf}(l:1<=p.ticks/\p.ticks<=12):Ct prog 200 [.agg p.cs,.agg f.cs]<|bv<|Yp p f:=by
 refine cI func200 O<|OK.Qd 1 1 (f.values.map λn=>[bv n]) O O O λqk=>?_;rw[Zx]at qk;unfold maxLen at qk;refine Ro 15 O I<|kc (zK Y4 call98 O)<|kc (S.Xb .none O<|zt O)<|kD<|kB O (λc=>?_) λc=>?_
 ·refine ro 5 O<|kR O O ?_;refine YL ?_;rw[Yp,Zn c]
 have e:0<=f.tick/\f.tick<=p.ticks - 1:=Zu.1 c;have a:Yp p f=Xt p f.values:=by rw[Yp,Zm<|by simpa using e]
 refine ro 7 O<|kc (zk X9 O)<|rr 2 O<|kc (zk X1 O)<|rr 3 O<|kB O (λk=>?_) λk=>?_
 ·refine ro 5 O<|kR O O ?_;refine YL ?_;rw[a,Xt,Zn I]
 have d:R f.values=R p.ZY:=by omega
 refine ro 9 O ?_;refine OK.loop (G:=Nat) [2,3] (λi=>[(2,.ptr 2 0),(1002,.box p.cs),(3,.ptr 3 0),(1003,.box f.cs),(5,bv i)]) (λi=>i<=R f.values/\f.values.all isVal=(f.values.drop i).all isVal) (λi=>R f.values - i) 0 ⟨Zr _,O⟩ ⟨O,O,O,O,O,Zo⟩ (λ_=>O) ?_;rintro i ⟨hi,g⟩;refine ro 6 O<|kc (zk X9 O)<|rr 3 O<|kB O (λh=>?_) λh=>?_
 ·refine ro 9 O<|kc (zI X9 O I O)<|kc (zV YK O O)<|kc (zK E2 call246 O)<|kc (S.Xb .none O<|zt O)<|kD<|kB O (λb=>?_) λb=>?_
  ·refine ro 5 O<|kR O O ?_;refine YL ?_;rw[a,CM I d g<|by simpa using b]
  refine Ro 8 O I ?_;refine Ab.D.lp ⟨i+1,⟨by omega,CN I g<|by simpa using b⟩,I,O,O,O,O,O,Zo⟩
 refine ro 7 O<|kR O O ?_;refine YL ?_;rw[a,Xt,Zm I,g,show i=R f.values by omega,da];rfl
def z1{p:Zf}(n:1<=p.ticks/\p.ticks<=12)(h:∀x∈l,R x.values<=100000):Ct prog 207 [.agg p.cs,.sl<|l.map Frame.cs]<|.agg (V1 p l).cs:=by
 refine cI func207 O<|OK.XF (vi:=l.map Frame.cs) (t:=1) O O λqk=>?_;rw[Zx]at qk;unfold maxLen at qk;refine ro 18 O<|OK.VL 5 0 890 2 O O O O O ?_;refine OK.loop (G:=Nat) [2,4,5,890] (λi=>[(1,.sl<|l.map Frame.cs),(2,.ptr 2 0),(1002,.box p.cs),(4,.ptr 4 0),(1004,.box [.ZM]),(5,.ptr 5 0),(1005,.box [.own 890 i]),(2890,.arr 2<|((List.range i).map<|V4 l).map Row.cs),(6,bv i)]) (λi=>(i:Int)<=p.ticks) (λi=>p.ticks.toNat - i) 0 I ⟨O,O,O,O,O,O,O,(ZX N),O,Zo⟩ (λ_=>O) ?_;rintro i hi;refine ro 9 O<|kB O (λg=>?_) λg=>?_
 ·refine ro 6 O<|kc (zU vO O O)<|rr 11 O<|OK.QC 7 1 O O O O ?_;refine OK.loop (G:=Nat) [2,4,5,890,7] (λk=>[(1,.sl<|l.map Frame.cs),(2,.ptr 2 0),(1002,.box p.cs),(4,.ptr 4 0),(1004,.box [.ZM]),(5,.ptr 5 0),(1005,.box [.own 890 i]),(2890,.arr 2<|((List.range i).map<|V4 l).map Row.cs),(6,bv i),(7,.ptr 7 0),(1007,.box (V4 (l.take k) i).cs),(8,bv k)]) (λk=>k<=R l) (λk=>R l - k) 0 (Zr _) ⟨O,O,O,O,O,O,O,(ZX N),O,O,O,O,Zo⟩ (λ_=>O) ?_;rintro k o;refine ro 5 O<|kc (zk Qr O)<|rr 3 O<|kB O (λf=>?_) λf=>?_
  ·have d:=h l[k]<|Zt I;have a:=D3 (t:=i) (show k<R l by omega);refine ro 8 O<|kc (zI Qr O I O) ?_;refine rr 6 O<|kB O (λb=>?_) λb=>?_
   ·rw[Zn b]at a;refine ro 3 O<|kc (zI Qr O I O) ?_;refine rr 2 O<|kc (zK (Oi (l:=l[k].values) d) call62 O)<|kc (zU vO O O)<|Rr 9 O I ?_;refine Ab.D.lp ⟨k+1,I,I,O,O,O,O,O,O,O,(ZX N),O,O,(show _=some (X.box (V4 (l.take<|k+1) i).cs)by rw[a];rfl),O,Zo⟩
   rw[Zm b]at a;refine Ro 8 O I ?_;refine Ab.D.lp ⟨k+1,I,I,O,O,O,O,O,O,O,(ZX N),O,O,(show _=some (X.box (V4 (l.take<|k+1) i).cs)by rw[a];rfl),O,Zo⟩
  have e:k=R l:=by omega
  subst e;rw[List.take_length]at *;refine ro 6 O ?_;refine RK.c (zM [[_,_]] fS O O O O) ?_;refine kc (zP fS O O F N I<|by simp only[maxLen];omega) ?_;refine Rr 10 O I ?_;refine Ab.D.lp ⟨i+1,I,I,O,O,O,O,O,O,O,(ZX<|by rw[cε,ne,ne];rfl),O,Zo⟩
 refine ro 8 O ?_;refine OK.ret<|Y3.r1 (.XU O O O O AD O<|.k (.own O O N) .z) ?_;rw[show i=p.ticks.toNat by omega];rfl
def C1(a:R f.values<=100000):Ct prog 51 [.agg f.cs]<|.agg f.cs:=by
 refine cI func51 O<|ro 7 O<|kV (.c (zf Hw O)<|.c (zl YK O O O O)<|.c (zf QE O)<|.c (zl Md O O O O)<|.c (zK (Oi (l:=f.values) a) call62 O)<|.c (zU xT O O)<|.c (zS Ni O O O O O O) .nil)<|Ab.D.code<|OK.ret<|Y3.r1 (zy O O Ni O) ?_;rfl
def Z7(c:UInt8):ba->List ba
 |[]=>[[]]
 |b::l=>if b=c then []::Z7 c l else match Z7 c l with
  |[]=>[[b]]
  |p::ps=>(b::p)::ps
theorem UN(c:UInt8):∀l,Z7 c l≠[]
 |[]=>by simp[Z7]
 |b::l=>by
  grind [Z7]
variable{c:UInt8}
theorem S5{b:UInt8}{l:ba}(h:b≠c){p:ba}{ps:List ba}(hs:Z7 c l=p::ps):Z7 c (b::l)=(b::p)::ps:=by
 rw[Z7,Zm h,hs]
theorem PE{b:UInt8}{l:ba}:Lib.indexByte (b::l) c=if b=c then 0 else if Lib.indexByte l c<0 then -1 else Lib.indexByte l c+1:=by
 have a:=Lib.indexByte_ge l c;show(if(b==c)=true then 0 else if(Lib.indexByte l c== -1)=true then -1 else Lib.indexByte l c+1)=_;grind
def RM{c:UInt8}:∀{l:ba},Lib.indexByte l c<0->Z7 c l=[l]
 |[],_=>rfl
 |b::l,h=>by
  rw[PE]at h;split at h
  ·omega
  rename_i d;split at h
  ·rename_i a;exact S5 d<|RM a
  omega
theorem Ud{c:UInt8}:∀{l:ba},¬Lib.indexByte l c<0->(Lib.indexByte l c).toNat<R l/\Z7 c l=l.take (Lib.indexByte l c).toNat::Z7 c (l.drop<|(Lib.indexByte l c).toNat+1)
 |[],h=>by simp[Lib.indexByte]at h
 |b::l,h=>by
  rw[PE]at h⊢;by_cases d:b=c
  ·simp_all[Z7]
  rw[Zm d]at h⊢;by_cases a:Lib.indexByte l c<0
  ·omega
  rw[Zm a]at h⊢;obtain⟨g1,g2⟩:=Ud a;grind [S5]
theorem L3(c:UInt8):∀l,R (Z7 c l)=Lib.countByte l c+1
 |[]=>rfl
 |b::l=>by
  have a:=L3 c l;unfold Lib.countByte at a⊢;rw[Z7,List.count_cons];grind
theorem Xs{c:UInt8}:∀{l:ba},∀p∈Z7 c l,R p<=R l
 |[],p,a=>by simp_all[Z7]
 |b::l,p,a=>by
  rw[Z7]at a;split at a
  ·rcases sf.1 a with rfl|a
   ·simp
   have:=Xs p a;grind
  split at a
  ·simp_all
  rename_i q ps hs;rcases sf.1 a with rfl|a
  ·have:=Xs q (by rw[hs];simp);simp_all
  have:=Xs p (by rw[hs];simp_all);grind
def DV(l:ba)(c:UInt8): -1<=Lib.indexByte l c/\Lib.indexByte l c<=R l:=by
 refine⟨Lib.indexByte_ge l c,?_⟩;by_cases h:Lib.indexByte l c<0
 ·omega
 have:=(Ud h).1;omega
def ZQ(c:UInt8)(l:ba):ba×ba×Bool:=if 0<=Lib.indexByte l c then(l.take (Lib.indexByte l c).toNat,l.drop<|(Lib.indexByte l c).toNat+1,true)else(l,[],false)
theorem KG{l:ba}(h:0<=Lib.indexByte l c):ZQ c l=(l.take (Lib.indexByte l c).toNat,l.drop<|(Lib.indexByte l c).toNat+1,true):=Zn h
theorem Nz{l:ba}(h:¬0<=Lib.indexByte l c):ZQ c l=(l,[],false):=Zm h
def Rn(c:UInt8)(l:ba):Z7 c l=if(ZQ c l).2.2=true then(ZQ c l).1::Z7 c (ZQ c l).2.1 else [l]:=by
 by_cases h:0<=Lib.indexByte l c
 ·rw[KG h,Zn rfl];simp_all[Ud]
 simp_all[Nz,RM]
def TJ{l:List α}{d:α}(h:k<R l):l.getD k d=l[k]:=by simp_all
theorem fI{a b:UInt8}:((a.toNat:Int)=(b.toNat:Int))↔a=b:=by
 grind [UInt8.toNat_inj]
def jZ(c:UInt8):((c.toNat:Int)).toNat.toUInt8=c:=F
def Gg{l:ba}(hi:i<R (Z7 c l)){p:ba}(a:(Z7 c l)[i]=p):
  (((Z7 c l).take i++List.replicate (R (Z7 c l) - i) []).map λs=>[X.str s]).set i [X.str p]=(((Z7 c l).take (i+1)++List.replicate (R (Z7 c l) - (i+1)) []).map λs=>[X.str s]):=by
 rw[show(R<|Z7 c l) - i=(R (Z7 c l) - (i+1))+1 by omega,List.replicate_succ,mv hi,a,ne,ne,ne];rw[List.set_append_right _ _<|by simp;omega];simp[Nat.min_eq_left<|Nat.le_of_lt hi]
def lE(a:ba):List ba->List ba
 |[]=>[a]
 |p::ps=>(a++p)::ps
def vM{L:List ba}(h:L≠[]):lE [] L=L:=by cases L with|nil=>simp_all|cons p ps=>rfl
def att_c{a r:ba}{b:UInt8}(h:b=c):lE a (Z7 c<|b::r)=a::lE [] (Z7 c r):=by
 rw[Z7,Zn h,vM<|UN c r];simp[lE]
theorem att_n{a r:ba}{b:UInt8}(h:¬b=c):lE a (Z7 c<|b::r)=lE (a++[b]) (Z7 c r):=by
 grind [Z7,lE]
variable{σ:Type}
theorem wL{g:σ->α->σ×Bool}{b:σ}{d:α}{vk:List α}:∀{a:List α},(ZZ g b a).2=true->(g (ZZ g b a).1 d).2=false->ZZ g b (a++d::vk)=((g (ZZ g b a).1 d).1,false):=by
 intro a
 induction a generalizing b with
 |nil=>
  simp_all[ZZ]
 |cons x a c=>
  grind [ZZ]
theorem wK{g:σ->α->σ×Bool}{a:σ}{d:α}{xr:List α}(b:(ZZ g a xr).2=true)(c:(g (ZZ g a xr).1 d).2=true):ZZ g a (xr++[d])=((g (ZZ g a xr).1 d).1,true):=by
 rw[QM,Zn b];grind
variable{J:bm}
def tN{J':bm}(h:J=J'):some (X.res J)=some (X.res J'):=by rw[h]
abbrev dI(σ:Type)(J:σ->bm)(g:σ->ba->σ×Bool)(s0:σ)(Φ:Value->Prop)(D:List ba):Prop:=
 ∀v,Φ v->∀(i:Nat)(x:ba),D[i]?=some x->(ZZ g s0<|D.take i).2=true->ND prog v [.str x] (.bool (g (ZZ g s0<|D.take i).1 x).2) (J (ZZ g s0<|D.take i).1) (J (g (ZZ g s0<|D.take i).1 x).1)
theorem rq{J:σ->bm}{g:σ->ba->σ×Bool}{a:σ}{Φ:Value->Prop}{D xr vk:List ba}{d:ba}(c:dI σ J g a Φ D)(h:D=xr++d::vk)(b:(ZZ g a xr).2=true):
  ∀v,Φ v->ND prog v [.str d] (.bool (g (ZZ g a xr).1 d).2) (J (ZZ g a xr).1) (J (g (ZZ g a xr).1 d).1):=by
 intro v e;have f:D.take (R xr)=xr:=by grind
 grind
def aI:kN prog 278 Lib.indexByte:=λs c w=>by
 rw[run_callFunc_extern func278 V V V (e:=Extern.BytealgIndexByte.indexByte) V,Lib.run_indexByteString];rfl
def aH:kN prog 295 (λl c=>(Lib.countByte l c:Int)):=λs c w=>by
 rw[run_callFunc_extern func295 V V V (e:=Extern.BytealgCount.count) V,Lib.run_countString];rfl
def EJ{l:ba}(b:R l<=100000):Ct prog 237 [.str l,.int .u8 (c.toNat:Int)]<|bv<|Lib.indexByte l c:=by
 refine cI func237 O λ{_ _}=>?_
 have a:=DV l c;refine ro 9 O ?_;refine kc (S.d_ (n:=Lib.indexByte l c) aI .none O (zt O) (zt O) (by rw[jZ])<|mn _ I) ?_;refine rr 3 O<|kR O O ?_;rfl
def CE{l:ba}(f:R l<=100000):Ct prog 193 [.str l,.str [c]]<|bv<|Lib.indexByte l c:=by
 refine cI func193 O<|ro 19 O<|RK.ZS (t:=19) O (λa=>?_) λa=>?_
 ·exfalso;simp at a
 refine rr 7 O<|kB O (λd=>?_) λd=>?_
 ·have e:[c]=l:=by simpa using d
  refine ro 5 O<|kR O O ?_;refine YL ?_;rw[←e,PE,Zn rfl]
 refine ro 7 O<|kB O (λb=>?_) λb=>?_
 ·refine ro 4 O<|kc (S.Xc (n:=0) W6 .none O (zt O) (.Zg O) O I)<|kc (zK (EJ (l:=l) (c:=c) f) call237 O) ?_;refine rr 3 O<|kR O O ?_;rfl
 exact absurd (show((R ([c]:ba):Nat):Int)=1 from rfl) b
def Gi{l:ba}(a:R l<=100000):Ct prog 259 [.str l,.str [c]]<|bv<|Lib.indexByte l c:=by
 refine cI func259 O<|ro 9 O<|kc (zK (CE I) call193 O) ?_;refine rr 3 O<|kR O O ?_;rfl
def cZ{l:ba}(e:R l<=100000):Ct prog 145 [.str l,.str [c]]<|.Yy [.str (ZQ c l).1,.str (ZQ c l).2.1,.bool (ZQ c l).2.2]:=by
 refine cI func145 O λ{_ _}=>?_
 have d:=DV l c;refine ro 12 O<|kc (zK (CE I) call193 O) ?_;refine rr 9 O<|kB O (λa=>?_) λa=>?_
 ·have b:=Ud (c:=c) (l:=l) I;refine kO ?_;refine kV (.c (zm O)<|.c (zm O)<|.c (S.VI (hi:=(Lib.indexByte l c).toNat) (l':=l.take (Lib.indexByte l c).toNat) W6 .none O (zt O) (.inl ⟨O,O,O⟩) (.inr ⟨_,_,O,(zt O),I⟩) I I O)<|.c (zm O)<|.c (zm O)<|.c (zm O)<|.c (S.qV underlying9 .none O<|zt O)<|.c (S.add .none O (zt O) (zt O) (mn _<|by simp;omega)<|mn _<|by simp;omega)<|.c (S.VI (lo:=(Lib.indexByte l c).toNat+1) (l':=l.drop<|(Lib.indexByte l c).toNat+1) W6 .none O (zt O) (.inr ⟨_,_,O,(zt O),(by simp;omega)⟩) (.inl ⟨O,O,O⟩) I I<|by rw[List.take_length])<|.c (za O)<|.c (za O)<|.c (zb O) .nil) ?_;refine Ab.D.code<|OK.ret<|Y3.r3 (zo O O) (zo O O) (zo O O) ?_;rw[KG I]
  all_goals rfl
 refine ro 10 O<|OK.ret<|Y3.r3 (zo O O) (zo O O) (zo O O) ?_;rw[Nz I]
def J3{l:ba}(a:R l<=100000):Ct prog 90 [.str l,.str [c]]<|.Yy [.str (ZQ c l).1,.str (ZQ c l).2.1,.bool (ZQ c l).2.2]:=by
 refine cI func90 O<|ro 11 O<|kc (zK (cZ I) call145 O) ?_;refine rr 8 O<|OK.ret<|Y3.r3 (zo O O) (zo O O) (zo O O) ?_;rfl
def u7{l:ba}(e:R l<=100000):Ct prog 258 [.str l,.str [c]]<|bv (Lib.countByte l c:Int):=by
 refine cI func258 O λ{_ _}=>?_
 have d:Lib.countByte l c<=R l:=dα;refine ro 13 O<|kB O (λb=>?_) λb=>?_
 ·exfalso;simp at b
 refine ro 10 O<|kB O (λa=>?_) λa=>?_
 ·refine ro 4 O<|kc (S.Xc (n:=0) W6 .none O (zt O) (.Zg O) O I) ?_;refine kc (S.d_ (n:=(Lib.countByte l c:Int)) aH .none O (zt O) (zt O) F<|mn _ I) ?_;refine rr 3 O<|kR O O ?_;rfl
 exact absurd (show((R ([c]:ba):Nat):Int)=1 from rfl) a
def EL{l:ba}(H:R l<=100000):Ct prog 209 [.str l,.str [c],bv 0,bv<|-1]<|.sl<|(Z7 c l).map λs=>[.str s]:=by
 refine cI func209 O λ{_ _}=>?_
 have K:Lib.countByte l c<=R l:=dα;have z:=L3 c l;refine kr<|kc (S.assign .none O .Ya)<|rr 9 O<|kB O (λr=>?_) λr=>?_
 ·exact absurd r C
 refine ro 9 O<|kB O (λq=>?_) λq=>?_
 ·exact absurd q F
 refine ro 9 O<|kB O (λp=>?_) λp=>?_
 ·refine ro 3 O<|kc (zK (u7 (l:=l) (c:=c) H) call258 O)<|Rr 10 O I<|kc (S.min2 .none O (zt O)<|zt O) ?_;refine rr 6 O ?_;refine RK.c (S.make (k:=31) (n:=R<|Z7 c l) Qf (⟨⟨t9,_,V,rfl,λh=>⟨.str _ C,Zo⟩⟩⟩:MkI prog 9 [.str []]) .none O (zt O) (zt O) I I<|by unfold maxLen;omega) ?_;refine Rr 17 O I ?_;refine OK.We [31] (λ(i:Nat)(vk:ba)=>[(0,.str vk),(1,.str [c]),(2,bv 0),(3,bv<|(R (Z7 c l):Int) - 1),(9,.own 31<|R<|Z7 c l),(2031,.arr 1<|((Z7 c l).take i++List.replicate (R (Z7 c l) - i) []).map λs=>[.str s]),(10,bv i)]) (λi vk=>i<R (Z7 c l)/\(Z7 c l).drop i=Z7 c vk/\R vk<=R l) (λi vk=>R (Z7 c l) - i) 0 l ⟨by omega,by rw[aα],Zq _⟩ ⟨O,O,O,(OT I),(ZH I),(ZX<|by first|(simp;done)|(simp;omega)),O,Zo⟩ (λ_ _=>O) ?_;rintro i vk ⟨hi,b,G⟩;refine ro 8 O<|kB O (λx=>?_) λx=>?_
  ·have u:R vk<=100000:=by omega
   have J:=DV vk c;refine ro 7 O<|kc (zK (Gi (l:=vk) (c:=c) u) call259 O)<|rr 10 O<|kB O (λo=>?_) λo=>?_
   ·exfalso;rw[RM o]at b;have:=rn List.length b;rw[vd,R0]at this;omega
   obtain⟨B,t⟩:=Ud (c:=c) (l:=vk) I;have a:=np hi;rw[b,t]at a;obtain⟨d,g⟩:(Z7 c l)[i]=vk.take (Lib.indexByte vk c).toNat/\(Z7 c l).drop (i+1)=Z7 c (vk.drop<|(Lib.indexByte vk c).toNat+1):=by
    rw[v6]at a;exact⟨a.1.symm,a.2.symm⟩
   refine Ro 10 O I ?_;refine kc (S.VI (hi:=(Lib.indexByte vk c).toNat) (l':=vk.take (Lib.indexByte vk c).toNat) W6 .none O (zt O) (.inl ⟨O,O,O⟩) (.inr ⟨_,_,O,(zt O),I⟩) I I O) ?_;refine kc (S.Mb (i:=i) X1 .none O (zt O) O (by simp;omega) (zt O) O hi) ?_;refine RK.c (S.wW (i:=i) T6 O .none (zt O) (zt O) O (by simp;omega) O hi O O (show _=((Z7 c l).take (i+1)++List.replicate (R (Z7 c l) - (i+1)) []).map (λs=>[X.str s])from Gg hi d)) ?_;refine rr 8 O ?_;refine kc (S.add .none O (zt O) (zt O) (mn _<|by simp;omega)<|mn _<|by simp;omega) ?_;refine kc (S.VI (lo:=(Lib.indexByte vk c).toNat+1) (l':=vk.drop<|(Lib.indexByte vk c).toNat+1) W6 .none O (zt O) (.inr ⟨_,_,O,(zt O),(by simp;omega)⟩) (.inl ⟨O,O,O⟩) I I<|by rw[List.take_length]) ?_;refine Rr 9 O I ?_;refine Ab.D.lp ⟨i+1,vk.drop<|(Lib.indexByte vk c).toNat+1,⟨by omega,g,by rw[vd];omega⟩,I,O,O,O,O,O,O,O,Zo⟩
  have f:i+1=R (Z7 c l):=by omega
  have a:=np hi;have w:(Z7 c l).drop (i+1)=[]:=ut I;rw[w,b]at a;have e:Z7 c vk=[vk]:=by
   by_cases y:Lib.indexByte vk c<0
   ·exact RM y
   exfalso;rw[(Ud y).2]at a;exact UN _ _ (List.cons.inj a).2
  rw[e,v6]at a;have d:(Z7 c l)[i]=vk:=a.1.symm;refine ro 7 O ?_;refine kc (S.Mb (i:=i) X1 .none O (zt O) O (by simp;omega) (zt O) O hi) ?_;refine RK.c (S.wW (i:=i) T6 O .none (zt O) (zt O) O (by simp;omega) O hi O O (show _=(Z7 c l).map (λs=>[X.str s])by rw[Gg hi d,f,List.take_length,dδ,List.replicate_zero,i8])) ?_;refine rr 3 O ?_;refine OK.freeze 9 O O O F ?_;refine Ro 4 O I ?_;refine kc (S.slice (hi:=i+1) (l':=Z7 c l) X1 (λ_=>O) .none O (zt O) (.inl ⟨O,O,O⟩) (.inr ⟨_,_,O,(zt O),I⟩) I I<|by rw[f,List.take_length,aα]) ?_;refine rr 3 O<|kR O O ?_;rfl
 exact absurd C p
def Gj{l:ba}(a:R l<=100000):Ct prog 165 [.str l,.str [c]]<|.sl<|(Z7 c l).map λs=>[.str s]:=by
 refine cI func165 O<|kr<|kc (S.assign .none O .Ya)<|rr 6 O<|kc (zK (EL I) call209 O) ?_;refine rr 3 O<|kR O O ?_;rfl
def EM{l:ba}:gl prog 320 [.str l,.str [c],bv 0] 334 [[.str [c]],[.str l],[bv 0]]:=by
 refine gl.intro (kb:=[(4,[.str [c]]),(3,[.str l]),(5,[bv 0])]) func320 rfl ntmps320 results320 rfl rfl rfl F λw h=>?_
 refine ro 5 O<|kc (S.assign .none O .Re)<|rr 4 O<|kc (S.tR .none O (zt O) (zt O) (zt O) O O O)<|rr 3 O ?_;exact OK.ret ⟨.inl rfl,rfl,rfl,⟨rfl,rfl,rfl,Zo⟩,rfl⟩
def Na{l:ba}:gl prog 298 [.str l,.str [c]] 334 [[.str [c]],[.str l],[bv 0]]:=by
 refine gl.intro (kb:=[(871,[.str [c]]),(872,[.str l]),(873,[bv 0])]) func298 rfl ntmps298 results298 rfl rfl rfl F λw h=>?_
 refine kr<|kc (S.assign .none O .Re)<|rr 6 O<|RK.c (S.vV [871,872,873] (EM (l:=l) (c:=c)) call320 .none O (zc O<|zc O<|zD O) O)<|rr 3 O ?_;exact OK.ret ⟨.inl rfl,rfl,rfl,⟨rfl,rfl,rfl,Zo⟩,rfl⟩
def G0{l:ba}(B:R l<=100000)(J:σ->bm)(g:σ->ba->σ×Bool)(e:σ)(Φ:Value->Prop)(n:∀s,Y2<|J s)(o:dI σ J g e Φ<|Z7 c l):Vi prog 334 [871,872,873] [.cb Φ,.ptr 871 0,.ptr 872 0,.ptr 873 0] [(3000,.res<|J e),(1871,.box [.str [c]]),(1872,.box [.str l]),(1873,.box [.int .i64 0])] [(3000,.res<|J (ZZ g e<|Z7 c l).1)]<|.Yy []:=by
 refine cG func334 O<|ro 8 O<|kB O (λq=>?_) λq=>?_
 ·exfalso;simp at q
 refine ro 4 O ?_;refine OK.We [871,872,873] (λ(vk:ba)(a:List ba)=>[(0,.cb Φ),(1,.ptr 871 0),(2,.ptr 872 0),(3,.ptr 873 0),(1871,.box [.str [c]]),(1872,.box [.str vk]),(1873,.box [bv 0]),(3000,.res<|J (ZZ g e a).1)]) (λvk a=>(ZZ g e a).2=true/\Z7 c l=a++Z7 c vk/\R vk<=R l) (λvk a=>R vk) l ([]) ⟨O,O,Zq _⟩ ⟨O,O,O,O,O,O,O,O,Zo⟩ (λ_ _=>O) ?_;rintro vk a ⟨b,w,y⟩;have t:R vk<=100000:=I
 have z:=DV vk c;refine ro 5 O<|kc (zK (Gi (l:=vk) (c:=c) t) call259 O)<|rr 10 O<|kB O (λu=>?_) λu=>?_
 ·have p:Z7 c l=a++[vk]:=by rw[w,RM I]
  refine ro 5 O ?_;refine kc (S.Lm (J1:=J (g (ZZ g e a).1 vk).1) (rq o p b) (n _) .none O (zt O) (zc O .nil) O O)<|RK.nil ?_;exact⟨⟨.inr rfl,[],Zo,rfl⟩,tN (by rw[p,QM,Zn b]),Zo⟩
 obtain⟨x,r⟩:=Ud (c:=c) (l:=vk) I;have h:Z7 c l=a++vk.take (Lib.indexByte vk c).toNat::Z7 c (vk.drop<|(Lib.indexByte vk c).toNat+1):=by rw[w,r]
 refine Ro 8 O I ?_;refine kc (S.VI (hi:=(Lib.indexByte vk c).toNat) (l':=vk.take (Lib.indexByte vk c).toNat) W6 .none O (zt O) (.inl ⟨O,O,O⟩) (.inr ⟨_,_,O,(zt O),I⟩) I I O) ?_;refine rr 8 O ?_;refine kc (S.Lm (J1:=J (g (ZZ g e a).1<|vk.take (Lib.indexByte vk c).toNat).1) (rq o h b) (n _) .none O (zt O) (zc O .nil) O O)<|kc (S.not .none O<|zt O)<|kD<|OK.cond O O (λk=>?_) λk=>?_
 ·have f:(g (ZZ g e a).1<|vk.take (Lib.indexByte vk c).toNat).2=false:=by simpa using k
  exact OK.ret ⟨⟨.inl rfl,[],Zo,rfl⟩,tN (by rw[h,wL b f]),Zo⟩
 have d:(g (ZZ g e a).1<|vk.take (Lib.indexByte vk c).toNat).2=true:=by simpa using k
 refine ro 7 O ?_;refine kc (S.add .none O (zt O) (zt O) (mn _<|by simp;omega)<|mn _<|by simp;omega) ?_;refine kc (S.VI (lo:=(Lib.indexByte vk c).toNat+1) (l':=vk.drop<|(Lib.indexByte vk c).toNat+1) W6 .none O (zt O) (.inr ⟨_,_,O,(zt O),(by simp;omega)⟩) (.inl ⟨O,O,O⟩) I I<|by rw[List.take_length]) ?_;refine rr 3 O ?_;refine Ab.D.lp ⟨vk.drop<|(Lib.indexByte vk c).toNat+1,a++[vk.take (Lib.indexByte vk c).toNat],⟨by rw[wK b d],by rw[h];simp,by rw[vd];omega⟩,(by rw[vd];omega),O,O,O,O,O,O,O,(tN<|by rw[wK b d]),Zo⟩
def Ga{l:ba}(e:R l<=100000):Dd prog 334 [(871,[.str [c]]),(872,[.str l]),(873,[bv 0])] [.ptr 871 0,.ptr 872 0,.ptr 873 0] (λs=>[.str s])<|Z7 c l:=
 λJ g d Φ a b=>G0 e J g d Φ a b
def Z6.WT(H:Z6)(i:Nat):Z6:={H with parts:=H.parts.modify i λq=>(q.1,q.2++[H.entries])}
def Z6.Zh(H:Z6)(i:Nat)(f:Part->Part):Z6:={H with parts:=H.parts.modify i λq=>(f q.1,q.2)}
def Z6.p(H:Z6)(i:Nat):Part:=(H.parts[i]?.map (·.1)).getD ⟨0,[],0,[],[],0,false,0,false,Span.zero⟩
variable{m':Int}{H:Z6}{v w:ZN}
variable{A:HA}{m:Int}
section
variable{j:Nat}
def HA.atH(A:HA):A.mem .Y1=some (A.b,.box A.cs):=rfl
def HA.XW(h:A.parts[i]?=some v):A.mem (.p i)=some (v.b,.box v.cs):=by show(A.parts[i]?.map _)=_;rw[h];rfl
def HA.G6{v:VP}(h:A.Z5[i]?=some v):A.mem (.c i)=some (v.b,.box v.cs):=by show(A.Z5[i]?.map _)=_;rw[h];rfl
def HA.sv{v:Qc}(h:A.ZF[i]?=some v):A.mem (.v i)=some (v.b,.box v.cs):=by show(A.ZF[i]?.map _)=_;rw[h];rfl
def HA.Ok.fs?(a:A.Ok m)(h:A.parts[i]?=some v):Vk A.mem (.f i) (v.fh.v<|R v.p.frames) 2<|v.p.frames.map Frame.cs:=
 HT (by show(A.parts[i]?.bind _)=_;rw[h];rfl) (Zx ..) λe=>by rw[a.fh _ (mr h) e];rfl
def HA.Ok.es?(a:A.Ok m)(h:A.parts[i]?=some v):TL A.mem (.e i) (v.eh.v<|R v.es) 1<|Ye v.es:=
 cM (by show(A.parts[i]?.bind _)=_;rw[h];rfl) (Zx ..) λe=>by rw[a.eh _ (mr h) e];rfl
def HA.CS(h:A.parts[i]?=some v):A.pb i=v.b:=by rw[HA.pb,h];rfl
def HA.cb?{v:VP}(h:A.Z5[i]?=some v):A.cb i=v.b:=by rw[HA.cb,h];rfl
def HA.vb?{v:Qc}(h:A.ZF[i]?=some v):A.vb i=v.b:=by rw[HA.vb,h];rfl
def HA.atPb(h:A.parts[i]?=some v):A.mem (.p i)=some (A.pb i,.box v.cs):=by rw[HA.CS h];exact HA.XW h
def HA.atVb{v:Qc}(h:A.ZF[i]?=some v):A.mem (.v i)=some (A.vb i,.box v.cs):=by rw[HA.vb? h];exact HA.sv h
theorem HA.RQ(h:A.parts[i]?=some v):A.plain.p i=v.p:=by show((A.parts.map _)[i]?.map _).getD _=_;simp_all
def Vx{f:Nat->Nat}{o:Option Nat}{b:Nat}(h:o=some i)(a:f i=b):Iw f o=pV b:=by subst h;subst a;rfl
def tX{f:Nat->Nat}{o:Option Nat}(h:o=none):Iw f o=.pointer none:=by subst h;rfl
theorem RA{l:List α}{x:α}(h:l[i]?=some x):i<R l:=by grind
theorem N0{l:List α}{x y:α}(h:l[i]?=some x):(l.set i y)[i]?=some y:=by grind
theorem WH{l:List α}{x:α}(h:l[i]?=some x)(f:α->α):l.modify i f=l.set i (f x):=by
 refine P2 λk=>?_
 grind
theorem YW{l:List α}{x:α}(h:l[i]?=some x):l.set i x=l:=by
 refine P2 λk=>?_
 grind
def HA.Yi(h:A.parts[i]?=some v):A.plain.parts[i]?=some (v.p,v.es):=by show(A.parts.map _)[i]?=_;simp_all
def Z6.T4{p:Part}{es:bd}(h:H.parts[i]?=some (p,es))(f:Part->Part):H.Zh i (λ_=>f p)=H.Zh i f:=by
 simp_all[Z6.Zh,WH]
def HA.Q0(h:A.parts[i]?=some v):(A.Zh i w).plain={A.plain with parts:=A.plain.parts.set i (w.p,w.es)}:=by
 show Z6.mk _ _ _ _ ((A.parts.set i w).map _) _ _ _ _ _=Z6.mk _ _ _ _ ((A.parts.map _).set i _) _ _ _ _ _;rw[bτ];rfl
def HA.JZ(d:A.Ok m)(h:A.parts[i]?=some v)(n:m<=m')(u:m'<=1000)(r:w.fh=none->w.p.frames=[])(t:w.eh=none->w.es=[])(g:(R w.p.frames:Int)<=m')(xf:(R w.es:Int)<=m'+3)(c:0<=w.p.place/\w.p.place<=4)(f:R w.p.Yr<=12/\R w.p.Yb<=12):(A.Zh i w).Ok m':=by
 have a:=d.more n u;have b:∀{q:ZN->Prop},q w->(∀v∈A.parts,q v)->∀v∈(A.Zh i w).parts,q v:=λx y v l=>by
  rcases aξ l with l|rfl
  all_goals simp_all
 refine⟨a.vh,a.ch,λe=>?_,a.mh,b r a.fh,b t a.eh,a.m0,a.en,a.lv,a.lc,?_,a.lm,b g a.lf,b xf a.le,λk o=>?_,a.cl,a.vb,b c a.pl,b f a.nl,a.vn,a.cn⟩
 ·show A.parts.set i w=[];rw[a.ph e];rfl
 ·show(R (A.parts.set i w):Int)<=m';rw[wi];exact a.lp
 show k<R (A.parts.set i w);rw[wi];exact a.mi k o
end
variable{A:HA}{Y:Nat->Prop}
section
variable{E:Env}{U:bc}{s:St}{qf:Code}{Q:bo}{v:ZN}
def OK.Eo{M:HM Key}(g:A.Ok m)(c:A.parts[i]?=some v)(n:Ab.look s 3000=some (.res<|Z9 M))(x:w.b=v.b)(d:M (.p i)=some (w.b,.box w.cs))(r:M (.f i)=w.fh.map λq=>(q.1,.Te 2 q.2<|w.p.frames.map Frame.cs))(t:M (.e i)=w.eh.map λq=>(q.1,.row 1 q.2<|Ye w.es))
  (l:∀k,k≠.p i->k≠.f i->k≠.e i->M k=A.mem k) (h:(A.Zh i w).pb=A.pb->OK E qf Q U ((3000,.res<|Z9 (A.Zh i w).mem)::s)):OK E qf Q U s:=by
 have hi:=RA c;have a:w.b=A.parts[i].b:=by simp_all
 exact OK.YS n (Z9.ZV _) (λh Y u o=>o.less<|HA.qR hi a d r t l)<|h<|A.xx hi a
structure HA.GC(A A1:HA)(i:Nat)(w:ZN)(H:Z6)(m:Int):Prop where
 ok:A1.Ok m
 b:A1.b=A.b
 pb:A1.pb=A.pb
 len:A1.parts.length=A.parts.length
 at_:A1.parts[i]?=some w
 plain:A1.plain=H
def HA.n8(a:A.parts[i]?=some v):A.mem (.f i)=v.fh.map λq=>(q.1,.Te 2 q.2<|v.p.frames.map Frame.cs):=by show(A.parts[i]?.bind _)=_;rw[a];rfl
def HA.n7(a:A.parts[i]?=some v):A.mem (.e i)=v.eh.map λq=>(q.1,.row 1 q.2<|Ye v.es):=by show(A.parts[i]?.bind _)=_;rw[a];rfl
def OK.KV(d:Part)(a:A.Ok m)(f:A.parts[i]?=some v)(r:Ab.look s 3000=some (.res<|Z9<|A.mem.set (.p i)<|some (v.b,.box ({v with p:=d}:ZN).cs)))(g:d.frames=v.p.frames)(l:0<=d.place/\d.place<=4)
  (h:∀q:HA,A.GC q i {v with p:=d} (A.plain.Zh i λ_=>d) m->OK E qf Q U ((3000,.res<|Z9 q.mem)::s)) (o:d.Yr=v.p.Yr/\d.Yb=v.p.Yb:=by exact⟨rfl,rfl⟩):OK E qf Q U s:=by
 have c:=mr f;refine OK.Eo (w:={v with p:=d}) a f r O (HM.YW ..) ?_ ?_ (λk t _ _=>HM.Z0 _ _ t) λn=>h _ ⟨?_,O,n,wi ..,N0 f,?_⟩
 ·simp_all[HM.Z0,HA.n8]
 ·simp_all[HM.Z0,HA.n7]
 ·exact HA.JZ a f (Int.le_refl _) a.m0.2 (λe=>by rw[g];exact a.fh v c e) (a.eh v c) (by rw[g];exact a.lf v c) (a.le v c) l (by show R d.Yr<=12/\R d.Yb<=12;rw[o.1,o.2];exact a.nl v c)
 rw[HA.Q0 f,Z6.Zh,WH<|HA.Yi f]
def PN(v:ZN)(q:Nat×Nat)(n:Int):v.p.cells (.raw<|v.fh.v<|R v.p.frames)++[.raw<|.slice (some ⟨q.1,0,none⟩) (R (Ye v.es)+1) q.2]=({v with eh:=some q,es:=v.es++[n]}:ZN).cs:=by
 simp[ZN.cs,Hd.v,Ye]
theorem OK.wY(q:Nat×Nat)(n:Int)(c:A.Ok m)(o:m+1<=1000)(d:A.parts[i]?=some v)(r:Ab.look s 3000=some (.res<|Z9<|(A.mem.set (.e i)<|some (q.1,.row 1 q.2<|Ye v.es++[[bv n]])).set (.p i)<|some (v.b,.box ({v with eh:=some q,es:=v.es++[n]}:ZN).cs)))
  (l:n=A.entries) (h:∀g:HA,A.GC g i {v with eh:=some q,es:=v.es++[n]} (A.plain.WT i) (m+1)->OK E qf Q U ((3000,.res<|Z9 g.mem)::s)):OK E qf Q U s:=by
 have a:=mr d;refine OK.Eo (w:={v with eh:=some q,es:=v.es++[n]}) c d r O (HM.YW ..) ?_ ?_ (λk u _ t=>by simp_all[HM.Z0]) λf=>h _ ⟨?_,O,f,wi ..,N0 d,?_⟩
 ·simp_all[HM.Z0,HA.n8]
 ·simp[HM.Z0,HM.YW]
 ·refine HA.JZ c d I o (c.fh v a) Z (by have:=c.lf v a;grind) ?_ (c.pl v a)<|c.nl v a;have:=c.le v a;grind
 subst l;rw[HA.Q0 d,Z6.WT,WH<|HA.Yi d];rfl
def o_(v:ZN)(q:Nat×Nat)(f:Frame):({v.p with frames:=v.p.frames++[f]}:Part).cells (.raw<|.slice (some ⟨q.1,0,none⟩) (R (v.p.frames.map Frame.cs)+1) q.2)++[.raw<|v.eh.v<|R v.es]=({v with fh:=some q,p:={v.p with frames:=v.p.frames++[f]}}:ZN).cs:=by
 simp[ZN.cs,Hd.v]
theorem OK.partF(q:Nat×Nat)(f:Frame)(c:A.Ok m)(l:m+1<=1000)(d:A.parts[i]?=some v)(n:Ab.look s 3000=some (.res<|Z9<|(A.mem.set (.f i)<|some (q.1,.Te 2 q.2<|v.p.frames.map Frame.cs++[f.cs])).set (.p i)<|some (v.b,.box ({v with fh:=some q,p:={v.p with frames:=v.p.frames++[f]}}:ZN).cs)))
  (h:∀g:HA,A.GC g i {v with fh:=some q,p:={v.p with frames:=v.p.frames++[f]}} (A.plain.Zh i λp=>{p with frames:=p.frames++[f]}) (m+1)->OK E qf Q U ((3000,.res<|Z9 g.mem)::s)):OK E qf Q U s:=by
 have a:=mr d;refine OK.Eo (w:={v with fh:=some q,p:={v.p with frames:=v.p.frames++[f]}}) c d n O (HM.YW ..) ?_ ?_ (λk r o _=>by simp_all[HM.Z0]) λe=>h _ ⟨?_,O,e,wi ..,N0 d,?_⟩
 ·simp[HM.Z0,HM.YW]
 ·simp_all[HM.Z0,HA.n7]
 ·refine HA.JZ c d I l Z (c.eh v a) ?_ (by have:=c.le v a;grind) (c.pl v a)<|c.nl v a;have:=c.lf v a;simp_all
 rw[HA.Q0 d,Z6.Zh,WH<|HA.Yi d]
def HA.GC.jp{A1:HA}{d:Z6}(h:A.GC A1 i w H m)(f:m<=m')(k:m'<=1000)(e:H=d){a:Mem}{c:World}(g:Z9 A1.mem a Y c):JP A d m' a Y c:=⟨A1,⟨h.ok.more f k,h.b,h.pb,h.len,h.plain.trans e⟩,g⟩
def HA.jp(a:A.Ok m)(d:m<=m')(g:m'<=1000)(e:H=A.plain){b:Mem}{c:World}(f:Z9 A.mem b Y c):JP A H m' b Y c:=⟨A,⟨a.more d g,rfl,rfl,rfl,e.symm⟩,f⟩
def HA.jx(a:A.Ok m)(f:m<=m')(h:m'<=1000)(e:H=A.plain){c:Mem}{d:World}(g:Z9 A.mem c Y d):JX A.b H m' c Y d:=⟨A,⟨rfl,e.symm,a.more f h⟩,g⟩
def Sg{A1:HA}{b:Nat}(a:A1.Ok m)(f:m<=m')(k:m'<=1000)(h:A1.b=b)(e:A1.plain=H){c:Mem}{d:World}(g:Z9 A1.mem c Y d):JX b H m' c Y d:=⟨A1,⟨h,e,a.more f k⟩,g⟩
end
def W9(g:α->Bool)(l:List α):Option Nat:=(ix g l.reverse).map λj=>R l - 1 - j
def SF(g:α->Bool)(l:List α)(q:Option Nat)(i:Nat):Option Nat×Option Code:=if(l[i]?.map g).getD false then(some i,some .ret)else(q,none)
variable{q:Option Nat}
def back_T{g:α->Bool}{l:List α}{x:α}(h:l[i]?=some x)(a:g x=true):SF g l q i=(some i,some .ret):=by simp_all[SF]
def back_F{g:α->Bool}{l:List α}{x:α}(h:l[i]?=some x)(a:¬g x=true):SF g l q i=(q,none):=by simp_all[SF]
def back_eq{α:Type}(g:α->Bool)(l:List α):∀L:bc,ZZ (Ab.stepG<|SF g l) ((none:Option Nat),none) L=match L.find? (λi=>(l[i]?.map g).getD false)with|some i=>((some i,some .ret),false)|none=>((none,none),true)
 |[]=>rfl
 |i::L=>by
  rw[ZZ,eβ];cases a:(l[i]?.map g).getD false with
  |true=>
   simp_all[SF,Ab.stepG]
  |false=>
   have e:SF g l none i=(none,none):=by simp_all[SF]
   simp only[Ab.stepG,e,Option.isNone_none,if_true];exact back_eq g l L
theorem FB{α:Type}(g:α->Bool):∀(l:List α)(k:Nat),VF g k l=((List.range<|R l).find? λi=>(l[i]?.map g).getD false).map (· +k)
 |[],_=>rfl
 |x::l,k=>by
  rw[VF,tt,List.range_succ_eq_map,eβ];cases a:g x with
  |true=>simp[a]
  |false=>
   simp only[List.getElem?_cons_zero,cφ,Option.getD_some,a,bξ,if_false,List.find?_map];rw[FB g l<|k+1];have e:((λi=>((x::l)[i]?.map g).getD false)∘Nat.succ)=λi=>(l[i]?.map g).getD false:=by rfl
   rw[e];cases (List.range<|R l).find? (λi=>(l[i]?.map g).getD false)<;>grind
theorem FG(g:α->Bool)(l:List α):W9 g l=(List.range<|R l).reverse.find? (λi=>(l[i]?.map g).getD false):=by
 have a:(List.range<|R l).reverse=(List.range<|R l).map λi=>R l - 1 - i:=by
  refine P2 λk=>?_
  grind
 unfold W9 ix;rw[FB,eτ,a,List.find?_map,Option.map_map];have e:(List.range<|R l).find? (λi=>(l.reverse[i]?.map g).getD false)=(List.range<|R l).find? ((λi=>(l[i]?.map g).getD false)∘λi=>R l - 1 - i):=by
  have vy:∀L:bc,(∀i∈L,i<R l)->L.find? (λi=>(l.reverse[i]?.map g).getD false)=L.find? ((λi=>(l[i]?.map g).getD false)∘λi=>R l - 1 - i):=by
   intro L
   induction L<;>grind
  simp_all
 rw[e];rfl
theorem sS{g:α->Bool}{l:List α}(h:ZZ (Ab.stepG<|SF g l) ((none:Option Nat),none) (List.range<|R l).reverse=((q,none),true)):q=none/\W9 g l=none:=by
 rw[back_eq,←FG]at h;grind
theorem sU{g:α->Bool}{l:List α}{a:Code}(h:(ZZ (Ab.stepG<|SF g l) ((none:Option Nat),none) (List.range<|R l).reverse).1=(q,some a)):q=W9 g l/\a=.ret:=by
 rw[back_eq,←FG]at h;grind
theorem fk(b:1<=k)(a:k<=n):(List.range n).reverse[n - k]?=some (k - 1):=by
 grind
theorem xl(d:1<=k)(c:k<=n):(List.range n).reverse.take (n - (k - 1))=(List.range n).reverse.take (n - k)++[k - 1]:=by
 obtain⟨b,a⟩:=ae.1<|fk d c;rw[show n - (k - 1)=n - k+1 by omega,mv b,a]
theorem qJ(b:1<=k)(a:k<=n):∃vk,(List.range n).reverse=(List.range n).reverse.take (n - k)++(k - 1)::vk:=by
 have h:=(a7 (n - (k - 1)) (List.range n).reverse).symm;grind [xl]
variable{β:Type}
def En(f:α->β)(o:Option α):(!(o.map f).isNone)=o.isSome:=F
def M1(o:Option α):(!o.isNone)=o.isSome:=F
def GK(f:α->β)(o:Option α):(o.map f).isNone=o.isNone:=F
theorem Ta{f:α->β}{o:Option α}(h:(o.map f).isNone=false):∃i,o=some i:=by cases o<;>grind
def RB{f:α->β}{o:Option α}(h:(o.map f).isNone=true):o=none:=by simp_all
def Yh{l:List α}(h:i<R l):∃x,l[i]?=some x:=by simp_all
theorem sO:∀(l:List Row),(!decide (0<=ZC (λr=>!r.known) 0 l))=l.all λr=>r.known:=by
 have vy:∀(l:List Row)(k:Nat),(!decide (0<=ZC (λr=>!r.known) k l))=l.all λr=>r.known:=by
  intro l
  induction l with
  |nil=>intro k;rfl
  |cons r l a=>
   grind [ZC]
 simp_all
def J9(n:Int)(o:Bool):Int:=ZW [Z8 (decide<|0<=n/\n<=1000000) 2,Z8 o 6]
def R1(g:Part->Bool)(l:List ZN):bd:=(l.filter λv=>g v.p).map λv=>v.p.num
variable{g:Part->Bool}
theorem bQ{l:List ZN}(h:i<R l)(a:g l[i].p=true):R1 g (l.take<|i+1)=R1 g (l.take i)++[l[i].p.num]:=by
 grind [R1,List.take_succ_eq_append_getElem]
theorem bP{l:List ZN}(h:i<R l)(a:g l[i].p=false):R1 g (l.take<|i+1)=R1 g (l.take i):=by
 grind [R1,List.take_succ_eq_append_getElem]
def sy{U:bc}{vt:bi}(h:vt.all (Np [])=true):vt.all (Np U)=true:=by
 rw[bj]at h⊢;intro x a;have:=h x a;cases x<;>simp_all[Np]
def BE(g:Part->Bool)(l:List ZN):R (R1 g l)<=R l:=by
 simp[R1,cσ]
def NS(a:A.parts[i]?=some v)(e:Y2 J)(c:∀h Y w,J h Y w->Z9 A.mem h Y w):Vi prog 89 [] [.raw<|pV v.b] [(3000,.res J)] [(3000,.res J)]<|.bool<|Yu v.p:=by
 refine cG func89 O<|ro 11 O ?_;refine kc (zH YK O<|J_ c<|Z9.Xh (k:=.p i) (HA.XW a) O<|.same _) ?_;refine rr 2 O<|RK.ZS (t:=9) O (λd=>?_) λd=>?_
 ·refine rr 10 O<|OK.ret ⟨Y3.r1 (zo O O) ?_,O,Zo⟩;simp[Yu, *]
 refine rr 4 O ?_;refine kc (S.Uc YK (zg O O) O (zt O) O<|J_ c<|Z9.Xh (k:=.p i) (HA.XW a) O<|.same _) ?_;refine rr 5 O<|OK.ret ⟨Y3.r1 (zo O O) ?_,O,Zo⟩;simp[Yu, *]
def G8(a:A.parts[i]?=some v)(g:Y2 J)(c:∀h Y w,J h Y w->Z9 A.mem h Y w):Vi prog 220 [] [.raw<|pV v.b] [(3000,.res J)] [(3000,.res J)]<|.bool<|Pm v.p:=by
 refine cG func220 O<|ro 11 O ?_;refine kc (zH YK O<|J_ c<|Z9.Xh (k:=.p i) (HA.XW a) O<|.same _) ?_;refine rr 2 O<|RK.ZS (t:=9) O (λf=>?_) λf=>?_
 ·refine rr 4 O ?_;refine kc (S.Uc CI (zg O O) O (zt O) O<|J_ c<|Z9.Xh (k:=.p i) (HA.XW a) O<|.same _) ?_;refine rr 2 O<|RK.split (t:=16) O (λe=>?_) λe=>?_
  ·refine rr 4 O ?_;refine kc (S.Uc YK (zg O O) O (zt O) O<|J_ c<|Z9.Xh (k:=.p i) (HA.XW a) O<|.same _) ?_;refine rr 3 O<|RK.ZS (t:=24) O (λd=>?_) λd=>?_
   ·refine rr 4 O ?_;refine kc (S.Uc CI (zg O O) O (zt O) O<|J_ c<|Z9.Xh (k:=.p i) (HA.XW a) O<|.same _)<|kc (S.not (zg O O) O<|zt O) ?_;refine rr 4 O<|OK.ret ⟨Y3.r1 (zo O O) ?_,O,Zo⟩;simp[Pm, *]
   refine rr 10 O<|OK.ret ⟨Y3.r1 (zo O O) ?_,O,Zo⟩;simp[Pm, *]
  refine rr 18 O<|OK.ret ⟨Y3.r1 (zo O O) ?_,O,Zo⟩;simp[Pm, *]
 refine rr 25 O<|OK.ret ⟨Y3.r1 (zo O O) ?_,O,Zo⟩;simp[Pm, *]
def Es{l:List Qc}:gl prog 147 [.sl<|l.map P6] 196 [[.sl<|l.map P6]]:=by
 refine gl.intro (kb:=[(1,[.sl<|l.map P6])]) func147 rfl ntmps147 results147 rfl rfl rfl F λw h=>?_
 refine ro 3 O<|kc (S.assign .none O .Re)<|rr 4 O<|kc (S.Xd .none O (zt O) O)<|rr 3 O ?_;exact OK.ret ⟨.inl rfl,rfl,rfl,⟨rfl,Zo⟩,rfl⟩
def GR(H:(R A.ZF:Int)<=1000)(J:σ->bm)(g:σ->Nat->σ×Bool)(a:σ)(Φ:Value->Prop)(t:∀s,Y2<|J s)(z:∀v,Φ v->∀(i:Nat)(x:Nat),(List.range<|R A.ZF).reverse[i]?=some x->(ZZ g a<|(List.range<|R A.ZF).reverse.take i).2=true->ND prog v [.int .i64 x,.raw<|pV<|A.vb x] (.bool (g (ZZ g a<|(List.range<|R A.ZF).reverse.take i).1 x).2) (J (ZZ g a<|(List.range<|R A.ZF).reverse.take i).1) (J (g (ZZ g a<|(List.range<|R A.ZF).reverse.take i).1 x).1)):Vi prog 196 [874] [.cb Φ,.ptr 874 0] [(3000,.res<|J a),(1874,.box [.sl<|A.ZF.map P6])] [(3000,.res<|J (ZZ g a (List.range<|R A.ZF).reverse).1)]<|.Yy []:=by
 refine cG func196 O<|ro 3 O<|kc (zk va O)<|Rr 5 O I ?_;refine OK.loop (G:=Nat) [874] (λk=>[(0,.cb Φ),(1,.ptr 874 0),(1874,.box [.sl<|A.ZF.map P6]),(3,bv<|(k:Int) - 1),(3000,.res<|J (ZZ g a<|(List.range<|R A.ZF).reverse.take<|R A.ZF - k).1)]) (λk=>k<=R A.ZF/\(ZZ g a<|(List.range<|R A.ZF).reverse.take<|R A.ZF - k).2=true) (λk=>k) (R A.ZF) ⟨Zq _,by rw[dδ];rfl⟩ ⟨O,O,O,O,(tN<|by rw[dδ];rfl),Zo⟩ (λ_=>O) ?_;rintro k ⟨y,c⟩;refine ro 7 O<|kB O (λK=>?_) λK=>?_
 ·have h:1<=k:=by omega
  have p:k - 1<R A.ZF:=by omega
  have o:=xl h y;have B:=fk h y;have r:=HA.vb_at p;have w:((k:Nat):Int) - 1=((k - 1:Nat):Int):=by omega
  have q:∀v,Φ v->ND prog v [.int .i64<|((k:Nat):Int) - 1,.raw<|pV A.ZF[k - 1].b] (.bool (g (ZZ g a<|(List.range<|R A.ZF).reverse.take<|R A.ZF - k).1<|k - 1).2) (J (ZZ g a<|(List.range<|R A.ZF).reverse.take<|R A.ZF - k).1) (J (g (ZZ g a<|(List.range<|R A.ZF).reverse.take<|R A.ZF - k).1<|k - 1).1):=λv C=>by rw[w,←r];exact z v C _ _ B c
  refine ro 10 O<|kc (S.Zi (n:=k - 1) va .none O (zt O) (zt O) I p O)<|kc (zV vG O O) ?_;refine kc (S.Lm (J1:=J (g (ZZ g a<|(List.range<|R A.ZF).reverse.take<|R A.ZF - k).1<|k - 1).1) q (t _) .none O (zt O) (zc O<|zc O .nil) O O)<|kc (S.not .none O<|zt O)<|kD<|OK.cond O O (λl=>?_) λl=>?_
  ·have f:(g (ZZ g a<|(List.range<|R A.ZF).reverse.take<|R A.ZF - k).1<|k - 1).2=false:=by simpa using l
   obtain⟨vk,u⟩:=qJ h y;have e:=wL (vk:=vk) c f;rw[←u]at e;exact OK.ret ⟨⟨.inl rfl,[],Zo,rfl⟩,tN (by rw[e]),Zo⟩
  have d:(g (ZZ g a<|(List.range<|R A.ZF).reverse.take<|R A.ZF - k).1<|k - 1).2=true:=by simpa using l
  refine Ro 8 O I ?_;refine Ab.D.lp ⟨k - 1,⟨by omega,by rw[o,wK c d]⟩,I,O,O,O,(OT I),(tN<|by rw[o,wK c d]),Zo⟩
 refine OK.exit O ?_;exact⟨⟨.inr rfl,[],Zo,rfl⟩,tN (by rw[show k=0 by omega,ek,sg F]),Zo⟩
def Cd(b:(R A.ZF:Int)<=1000):Dd prog 196 [(874,[.sl<|A.ZF.map P6])] [.ptr 874 0] (λ(i:Nat)=>[bv (i:Int),.raw<|pV<|A.vb i]) (List.range<|R A.ZF).reverse:=
 λJ g d Φ a c=>GR b J g d Φ a c
variable{m:Int}
def NT(a:A.Ok m){n:ba}(G:Y2 J)(p:∀h Y w,J h Y w->Z9 A.mem h Y w):Vi prog 96 [] [.raw<|pV A.b,.str n] [(3000,.res J)] [(3000,.res J)]<|.raw<|Iw A.vb<|W9 (λv=>decide<|v.r.name=n) A.ZF:=by
 refine cG func96 O<|ro 12 O<|kc (zH (u:=.sl<|A.ZF.map P6) Ak O<|J_ p<|Z9.Xh (k:=.Y1) O O<|.sl a.vs)<|RK.c (S.vV [874] (Es (l:=A.ZF)) call147 .none O (zc O .nil) O)<|rr 3 O ?_;refine OK.QW (ps:=[12,13]) (encs:=(λ(i:Nat)=>[bv (i:Int),.raw<|pV<|A.vb i])) (L:=(List.range<|R A.ZF).reverse) [3,4] [(3,.ptr 3 0),(4,.ptr 4 0)] (λq=>[(1003,.box [.str n]),(1004,.box [.raw<|Iw A.vb q]),(3000,.res J)]) (none:Option Nat) (SF (λv=>decide<|v.r.name=n) A.ZF) [(874,[.sl<|A.ZF.map P6])] ((Cd<|by have:=a.lv;have:=a.m0;omega)) ⟨O,Zo⟩ O call196 (.inl O) (zt O) O ⟨O,O,O,O,O,Zo⟩ (λ_=>O) (λ_=>O) (λ_=>O) (λ_=>O) (λ_=>O) C O ?_ ?_ ?_
 ·rintro i x q t e lr c0 w0 F B z y;have f:x<R A.ZF:=by have:=mr t;simpa using this
  obtain⟨v,g⟩:=Yh f;refine OK.R3<|ja O<|RK.nil ?_;refine⟨rfl,?_⟩;refine OK.block<|kO<|kV (.c (zm O)<|.c (zn O O)<|.c (zr Jd O)<|.c (zr Jc O)<|.c (zr ru O)<|.c (zH T6 O<|J_ p<|Z9.Xh (k:=.v x) (HA.atVb g) O<|.same _)<|.c (zl T6 O O O O)<|.c (S.vl .none O (zt O)<|zt O) .nil)<|Ab.D.code<|kB O (λd=>?_) λd=>?_
  ·refine ro 6 O<|OK.ret ?_;rw[back_T g<|by simpa using d];exact⟨rfl,rfl,rfl,rfl,Zo⟩
  refine OK.skip<|Ab.D.blk ?_;rw[back_F g<|by simpa using d];exact⟨rfl,rfl,rfl,rfl,Zo⟩
 ·rintro q e;obtain⟨rfl,o⟩:=sS e;refine rd 4 O<|kc (S.store vG .none (zt O) .Re O O O O O O)<|kD<|OK.ret ⟨Y3.r1 (.Py O O O O vG (.same O) O) ?_,O,Zo⟩;exact xd o
 rintro q H e;obtain⟨rfl,rfl⟩:=sU e;refine OK.ret ⟨Y3.r1 (.Py O O O O vG (.same O) O) ?_,O,Zo⟩;rfl
def NU(a:A.Ok m)(d:A.parts[i]?=some v)(f:Y2 J)(e:∀h Y w,J h Y w->Z9 A.mem h Y w):Vi prog 216 [] [.raw<|pV A.b,.raw<|pV v.b] [(3000,.res J)] [(3000,.res J)]<|.agg (WG A.plan v.p.frames).cs:=by
 refine cG func216 O<|ro 6 O ?_;refine kV (.c (zm O)<|.c (zn O O)<|.c (zr TK O)<|.c (zr I2 O)<|.c (zJ (us:=A.plan.cs) Nb O<|J_ e<|Z9.KL (k:=.Y1) (xs:=A.cs) O ⟨.same _,.same _,Zo⟩ O)<|.c (zm O)<|.c (zn O O)<|.c (zr Xu O)<|.c (zr Vr O)<|.c (zH (u:=.sl<|v.p.frames.map Frame.cs) P8 O<|J_ e<|Z9.Xh (k:=.p i) (HA.XW d) O<|.sl<|a.fs? d)<|.c (zK D7 call19 O)<|.c (zm O)<|.c (zX O O O)<|.c (zX O O O)<|.c (zA (c:=5) sB O)<|.c (zS AD O O O O O O)<|.c (za O) .nil) ?_;refine rd 7 O<|OK.ret ⟨Y3.r1 (zy O O AD O) ?_,O,Zo⟩;rfl
def Eu{r:Row}:Ct prog 263 [.agg r.cs]<|.bool<|!r.known:=by
 refine cI func263 O<|ro 10 O<|kc (S.not .none O<|zt O)<|rr 3 O<|kR O O ?_;rfl
def uz{l:List Row}:Ct prog 297 [.sl<|l.map Row.cs,.fn 263 []]<|bv<|ZC (λr=>!r.known) 0 l:=by
 refine cI func297 O<|OK.XF (vi:=l.map Row.cs) (t:=0) O O λqk=>?_;rw[Zx]at qk;unfold maxLen at qk;refine ro 9 O<|kc (zk Oz O)<|rr 4 O ?_;refine OK.loop (G:=Nat) [] (λi=>[(0,.sl<|l.map Row.cs),(1,.fn 263 []),(7,bv<|R l),(8,bv i)]) (λi=>i<=R l/\ZC (λr=>!r.known) 0 l=ZC (λr=>!r.known) i (l.drop i)) (λi=>R l - i) 0 ⟨Zr _,O⟩ ⟨O,O,O,O,Zo⟩ (λ_=>O) ?_;rintro i ⟨hi,a⟩;refine ro 6 O<|kB O (λd=>?_) λd=>?_
 ·have c:i<R l:=by omega
  refine ro 15 O<|kc (zI Oz O I O)<|kc (S.Vj fM .none O (zt O) O O)<|kc (S.Tm (Eu (r:=l[i])) call263 .none O (zt O) (zc O .nil) O O O)<|kD<|OK.cond O O (λb=>?_) λb=>?_
  ·refine ro 6 O<|kR O O ?_;refine YL ?_;rw[a,Y0 _ I];simp_all
  refine Ro 7 O I (Ab.D.lp ⟨i+1,⟨by omega,?_⟩,I,O,O,O,O,Zo⟩);rw[a,Y0 _ I];simp_all
 refine ro 7 O<|kR O O ?_;refine YL ?_;have:i=R l:=by omega
 subst this;rw[a,da];rfl
def uw{l:List Row}:Ct prog 262 [.sl<|l.map Row.cs,.fn 263 []]<|.bool<|decide<|0<=ZC (λr=>!r.known) 0 l:=by
 refine cI func262 O<|ro 9 O<|kc (zK (uz (l:=l)) call297 O)<|rr 4 O<|kR O O ?_;rfl
def KX(a:A.Ok m)(e:A.parts[i]?=some v)(d:Y2 J)(f:∀h Y w,J h Y w->Z9 A.mem h Y w):Vi prog 217 [] [.raw<|pV A.b,.raw<|pV v.b] [(3000,.res J)] [(3000,.res J)]<|.bool<|(WG A.plan v.p.frames).rows.all λr=>r.known:=by
 refine cG func217 O<|ro 9 O<|RK.c (S.VO (((NU a e d f).Tq d)) d call216 .none O (zc O<|zc O .nil) O O) ?_;refine kc (S.aO (Tf:=73) ⟨_,_,underlying75,O,O,O⟩ vm .none O (zt O) O O)<|kc (S.call (uw (l:=(WG A.plan v.p.frames).rows)) call262 .none O (zc O<|.cons .Nt .nil) O)<|kc (S.Xb .none O<|zt O) ?_;refine rr 3 O<|OK.ret ⟨Y3.r1 (zo O O) ?_,O,Zo⟩;refine Xj ?_;rw[←sO];exact cδ.2 F
def B8(a:A.Ok m){n:Int}(d:Y2 J)(e:∀h Y w,J h Y w->Z9 A.mem h Y w):Vi prog 70 [] [.raw<|pV A.b,.int .i64 n] [(3000,.res J)] [(3000,.res J)]<|.Yy [.raw<|Iw A.pb<|ix (λv=>decide<|v.p.num=n) A.parts,.int .i64<|J9 n (ix (λv=>decide<|v.p.num=n) A.parts).isSome]:=by
 refine cG func70 O<|kr<|kc (S.assign .none O .Re)<|rr 7 O<|RK.c (S.VO (((II a d e).Tq d)) d call116 .none O (zc O<|zc O .nil) O O)<|rr 7 O<|kc (zK XL call107 O)<|kc (zK ZT call68 O)<|jm O<|kc (S.uf underlying104 .none O<|zt O)<|kc (zK ZT call68 O) ?_;refine RK.c (zM [[_],[_]] V6 O O O O)<|kc (S.XY (YI (l:=[_,_])) call67 .none O (zc O .nil) (.cons (.p (.own O O) O) .nil) O) ?_;refine rr 4 O<|OK.ret ⟨Y3.r2 (zo O O) (zo O O) ?_,O,Zo⟩;simp only[En];rfl
def E1(d:A.Ok m)(y:Y2 J)(z:∀h Y w,J h Y w->Z9 A.mem h Y w){f:Nat}{vt:bi}(l:∀vj w,(callFunc f vj).run prog w=.ok (.enter f vj) w)(o:vt.all (Np [])=true)(r:vt.all (λu=>!Yx u)=true)(F:∀(i:Nat)(v:ZN),A.parts[i]?=some v->Vi prog f [] (.raw (pV v.b)::vt) [(3000,.res J)] [(3000,.res J)] (.bool<|g v.p)):Vi prog 88 [] [.raw<|pV A.b,.fn f vt] [(3000,.res J)] [(3000,.res J)]<|ints<|R1 g A.parts:=by
 refine cG func88 O λ{_ _}=>?_
 have C:=d.lp;have B:=d.m0;refine kr<|kc (S.assign .none O .Ya)<|rr 4 O<|RK.c (S.XG (k:=5) (sz:=1) .none O)<|rr 8 O<|kc (zH (u:=.sl<|A.parts.map Su) QF O<|J_ z<|Z9.Xh (k:=.Y1) O O<|.sl d.ps)<|kc (zk SC O)<|rr 4 O ?_;refine OK.loop (G:=Nat) [5] (λi=>[(0,.raw<|pV A.b),(1,.fn f vt),(5,.own 5<|R<|R1 g<|A.parts.take i),(2005,.arr 1<|Ye<|R1 g<|A.parts.take i),(11,.sl<|A.parts.map Su),(12,bv<|R A.parts),(13,bv i),(3000,.res J)]) (λi=>i<=R A.parts) (λi=>R A.parts - i) 0 (Zr _) ⟨O,O,(ZH N),(ZX N),O,O,O,O,Zo⟩ (λ_=>rn (λb=>b&&true)<|sy (U:=[5]) o) ?_;rintro i hi;refine ro 6 O<|kB O (λt=>?_) λt=>?_
 ·have e:i<R A.parts:=by omega
  have x:A.parts[i]?=some A.parts[i]:=Zv e;have q:=BE g<|A.parts.take i;rw[sc]at q;refine ro 6 O<|kc (zI SC O I O) ?_;refine rr 8 O ?_;refine RK.c (S.Gs (((F i _ x).Tq y)) y l .none O (zt O) (zc O .nil) O O o r) ?_;refine kD<|OK.cond O O (λn=>?_) λn=>?_
  ·have a:=bQ e n;refine ro 6 O ?_;refine kc (zH YK O<|J_ z<|Z9.Xh (k:=.p i) (HA.XW x) O<|.same _)<|RK.c (zM [[_]] Xr O O O O) ?_;refine kc (zP Xr O O (by simp[Ye]) N I<|by simp only[maxLen];omega) ?_;refine Rr 8 O I ?_;refine Ab.D.lp ⟨i+1,I,I,O,O,(ZH<|by first|(rw[a];simp;done)|rw[a]),(ZX<|by first|(rw[a];simp[Ye];done)|rw[a]),O,O,O,O,Zo⟩
  have a:=bP e (by simpa using n);refine Ro 7 O I ?_;refine Ab.D.lp ⟨i+1,I,I,O,O,(ZH<|by first|(rw[a];simp;done)|rw[a]),(ZX<|by first|(rw[a];simp[Ye];done)|rw[a]),O,O,O,O,Zo⟩
 refine ro 8 O ?_;refine OK.ret ⟨Y3.r1 (.tmp O O (.c (.own O O N) O) O) ?_,O,Zo⟩;rw[show i=R A.parts by omega,List.take_length]
 all_goals rfl
def Ui{α β:Type}(f:α->β)(g:β->Bool):∀(l:List α)(i:Nat),VF g i (l.map f)=VF (λx=>g<|f x) i l
 |[],_=>rfl
 |x::l,i=>by simp only[ta,VF,Ui f g l<|i+1]
def yL(f:α->β)(g:β->Bool)(l:List α):W9 g (l.map f)=W9 (λx=>g<|f x) l:=by
 unfold W9 ix;rw[←List.map_reverse,Ui,Zx]
theorem VK{g:α->Bool}{l:List α}{j:Nat}(h:W9 g l=some j):∃a:j<R l,g l[j]=true:=by
 unfold W9 at h;cases hi:ix g l.reverse with
 |none=>simp_all
 |some i=>
  rw[hi]at h;cases h;obtain⟨c,b⟩:=Y8 hi;grind
abbrev HE:=Z6×Int
def Z6.U1(H:Z6)(n:Int):Option Nat:=ix (λq=>decide<|q.1.num=n) H.parts
def Z6.Ob(H:Z6)(n:ba):Option Nat:=ix (λq=>decide<|q.1.name=n) H.Z5
def Z6.AI(H:Z6)(n:ba):Option Nat:=W9 (λq=>decide<|q.1.name=n) H.ZF
def Z6.Tk(H:Z6):Option Nat:=ix (λq=>decide<|q.1.place=0) H.parts
def HA.TR(A:HA)(n:Int):A.plain.U1 n=ix (λv=>decide<|v.p.num=n) A.parts:=Ui (λv:ZN=>(v.p,v.es)) _ _ _
def HA.OY(A:HA)(n:ba):A.plain.Ob n=ix (λv=>decide<|v.c.name=n) A.Z5:=Ui (λv:VP=>(v.c,v.entry)) _ _ _
def HA.L6(A:HA)(n:ba):A.plain.AI n=W9 (λv=>decide<|v.r.name=n) A.ZF:=yL (λv:Qc=>(v.r,v.entry)) _ _
def HA.RO(A:HA):A.plain.Tk=ix (λv=>decide<|v.p.place=0) A.parts:=Ui (λv:ZN=>(v.p,v.es)) _ _ _
def YJ(H:Z6)(n:Int)(f:Z6->Nat->HE):HE:=match H.U1 n with
 |none=>(H,6)
 |some i=>if(f H i).2=0 then((f H i).1.WT i,0)else f H i
def Wi(H:Z6)(i:Nat):HE:=if Pm (H.p i)then(H.Zh i λp=>{p with place:=2},0)else(H,24)
def Tu(H:Z6)(i:Nat):HE:=if(H.p i).place=1 then(H.Zh i λp=>{p with place:=3},0)else(H,20)
def WU(H:Z6)(i:Nat):HE:=if Yu (H.p i)&&!(H.p i).marked then(H.Zh i λp=>{p with marked:=true},0)else(H,20)
def Tw(H:Z6)(qe:ba)(Wb:Int):HE:=
 let e:=ZW [Z8 (YA qe) 4,Z8 (H.Ob qe).isNone 5,Z8 (decide<|1<=Wb/\Wb<=1000) 2,Z8 (decide ((R H.Z5:Int)<4)) 16]
 if e=0 then({H with Z5:=H.Z5++[(⟨qe,Wb,0⟩,H.entries)]},0)else(H,e)
def Z6.busy(H:Z6)(qe:ba):Bool:=match H.Tk with
 |some i=>decide<|(H.p i).Yb=qe
 |none=>false
def XZ(H:Z6)(qe:ba):HE:=match H.Ob qe with
 |none=>(H,6)
 |some j=>if H.busy qe then(H,17)else({H with Z5:=H.Z5.modify j λq=>({q.1 with ZA:=0},q.2)},0)
def W_(H:Z6)(n:Int)(r c:ba):HE:=
 let e:=ZW [Z8 (decide<|n<=1000000) 2,Z8 (H.U1 n).isNone 5,Z8 ((H.AI r).isSome&&(H.Ob c).isSome) 6,Z8 H.Tk.isNone 17]
 if e≠0 then(H,e)else match(H.AI r).bind (H.ZF[·]?),H.Ob c with
 |some v,some j=>match H.Z5[j]? with
  |some q=>
   let a:=ZW [Z8 (decide<|q.1.ZA<q.1.Wb) 22,Z8 (decide ((R H.parts:Int)<12)) 16]
   if a≠0 then(H,a)else({H with Z5:=H.Z5.modify j λq=>({q.1 with ZA:=q.1.ZA+1},q.2),parts:=H.parts++[(⟨n,v.1.name,v.1.YD,q.1.name,[],0,false,0,false,Span.zero⟩,[v.2,q.2,H.entries])]},0)
  |none=>(H,6)
 |_,_=>(H,6)
