import Derived.Test.YtkkbjdenehfpaaaGreatDoorTpN
set_option linter.all false
set_option maxHeartbeats 4000000
open List renaming length->R
namespace Go.Proofs.Z_
open Go.Ab Tryz
set_option maxRecDepth 9999
variable{l:ba}
def tZ(h:WZ 1 0 (Z7 32 l)=none):ZI l=(⟨0,[]⟩,7):=by
 rw[DO<|Wv 32 l]at h;split at h
 all_goals simp_all[BK,BJ]
def t_{r:bd}(h:WZ 1 0 (Z7 32 l)=some r):∃v vs,r=v::vs/\ZI l=(⟨v,vs⟩,0):=by
 rw[DO<|Wv 32 l]at h;split at h
 ·rename_i c;rw[M2]at h;obtain⟨vs,a,rfl⟩:=h;exact⟨_,vs,rfl,BL c a⟩
 cases h
def IT(o:R l<=100000 - 1):Ct prog 199 [.str l]<|.Yy [.agg (ZI l).1.cs,bv (ZI l).2]:=by
 refine cI func199 O λ{_ _}=>?_
 have j:=Wv 32 l;have m:=WJ (c:=32) (l:=l);have f:∀w∈Z7 32 l,R w<=100000:=λw hw=>by have:=Xs w hw;omega
 refine ro 9 O<|kc (zK (Rl (l:=l) (c:=32) I) call39 O) ?_;refine kc (zK (K1 (l:=Z7 32 l) (k:=1) I C f) call40 O) ?_;refine rr 11 O<|kc (S.not .none O<|zt O)<|kD<|OK.cond O O (λd=>?_) λd=>?_
 ·have g:WZ 1 0 (Z7 32 l)=none:=by simpa using d
  have a:=tZ g;refine kr<|kc (zU xT O O)<|rr 4 O<|OK.ret<|Y3.r2 (.XU O O O O Ni O<|.k (.same O)<|.k .ZM .z) (zo O O) ?_;rw[a]
  all_goals rfl
 obtain⟨r,e⟩:∃r,WZ 1 0 (Z7 32 l)=some r:=sk.1 (by simpa using d);obtain⟨v,vs,rfl,a⟩:=t_ e;rw[e];refine ro 3 O ?_;refine kV (.c (zm O)<|.c (S.Zi (n:=0) X9 .none O (zt O) (.Zg O) O F O)<|.c (zV YK O O)<|.c (zm O)<|.c (S.slice (lo:=1) (l':=vs) X9 (λ_=>O) .none O (zt O) (.inr ⟨_,_,O,(.Zg O),O⟩) (.inl ⟨O,O,O⟩) F I F)<|.c (zU xT O O)<|.c (zS Ni O O O O O O)<|.c (zi O O) .nil) ?_;refine Ab.D.code<|kT O O Ni O O O ?_;rw[a]
 all_goals rfl
def s8{l:List ba}(g:R l<=100000):Ct prog 167 [.sl<|l.map λs=>[.str s]]<|.sl<|l.map λs=>[.str s]:=by
 refine cI func167 O<|kr<|kc (S.assign .none O .Ya)<|rr 6 O<|RK.xE (t:=3) O O λf a=>?_;refine kc (S.mL underlying66 .none O<|zt O)<|kD<|OK.cond O O (λd=>?_) λd=>?_
 ·refine kr<|kc (S.assign .none O .Ya)<|kD<|kR O O ?_;rw[bα.1<|a d];rfl
 refine ro 4 O<|RK.c (zM [] Qf O O O O)<|jm O ?_;refine RK.c (S.V2 Qf .none O (zt O) O N (zt O) (by intro q e;obtain⟨x,_,rfl⟩:=rx.1 e;rfl) (Zx ..) I<|by simp only[maxLen];omega) ?_;refine rr 3 O ?_;refine OK.ret<|Y3.r1 (.tmp O O (.c (.own O O N) O) O) ?_;rfl
def FK:Zf:=⟨[],0⟩
def ZO(l:List UInt8):Zf×Int:=if RX ((Z7 32 l).getD 0 [])=true∧((Z7 32 l).any fun w=>decide ([]=w))=false then
    if Y_ ⟨(Z7 32 l).drop 1,WR<|(Z7 32 l).getD 0 []⟩≠0 then(FK,Y_ ⟨(Z7 32 l).drop 1,WR<|(Z7 32 l).getD 0 []⟩)else(⟨(Z7 32 l).drop 1,WR<|(Z7 32 l).getD 0 []⟩,0)
 else(FK,7)
theorem M5(h:RX ((Z7 32 l)[0]'(Wv 32 l))=false\/((Z7 32 l).any λw=>decide ([]=w))=true):ZO l=(FK,7):=by
 unfold ZO;grind
def BM{p:Zf}(a:p=⟨(Z7 32 l).drop 1,WR<|(Z7 32 l)[0]'(Wv 32 l)⟩)(h:RX ((Z7 32 l)[0]'(Wv 32 l))=true)(c:((Z7 32 l).any λw=>decide ([]=w))=false):ZO l=if Y_ p≠0 then(FK,Y_ p)else(p,0):=by
 simp_all[ZO,Wv]
def GH(A:R l<=100000 - 1):Q7 prog 108 [.str l]<|.Yy [.agg (ZO l).1.cs,bv (ZO l).2]:=by
 refine cT func108 O λy=>?_
 have j:=Wv 32 l;have x:=WJ (c:=32) (l:=l);have o:∀w∈Z7 32 l,R w<=100000:=λw hw=>by have:=Xs w hw;omega
 refine ro 9 O<|kc (zK (Gj (l:=l) (c:=32) I) call165 O) ?_;refine rr 6 O<|kc (S.Zi (n:=0) X1 .none O (zt O) (.Zg O) O j O)<|kc (zV T6 O O) ?_;refine kc (S.Xo (NN (l:=(Z7 32 l)[0]) (b:=false)<|o _<|Zt j) y call166 .none O (zc O<|.cons .Wx .nil) O) ?_;refine rr 11 O<|kc (S.not .none O<|zt O)<|jm O<|RK.split (t:=21) O (λe=>?_) λe=>?_
 ·have d:RX (Z7 32 l)[0]=false:=by rw[←Ej];simpa using e
  have a:=M5<|.inl d;refine rr 8 O<|kc (zU gz O O)<|rr 4 O<|OK.ret<|Y3.r2 (.XU O O O O Nb O<|.k .ZM<|.k (.same O) .z) (zo O O) ?_;rw[a]
  all_goals rfl
 have d:RX (Z7 32 l)[0]=true:=by rw[←Ej];simpa using e
 obtain⟨u,r,q⟩:=ow d;refine kc (S.move (zg O O) O<|zt O)<|kc (S.call (Mq (l:=Z7 32 l) (v:=[])) call131 (zg O O) O (zc O<|.cons (.Vh (l:=[]) O C) .nil) O) ?_;refine rr 3 O<|OK.cond O O (λg=>?_) λg=>?_
 ·have a:=M5<|.inr g;refine kr<|kc (zU gz O O)<|rr 4 O<|OK.ret<|Y3.r2 (.XU O O O O Nb O<|.k .ZM<|.k (.same O) .z) (zo O O) ?_;rw[a]
  all_goals rfl
 have m:=BM rfl d g;rw[q];refine ro 5 O ?_;refine kc (S.slice (lo:=1) (l':=(Z7 32 l).drop 1) X1 (λ_=>O) .none O (zt O) (.inr ⟨_,_,O,(.Zg O),O⟩) (.inl ⟨O,O,O⟩) I I<|by rw[List.take_length]) ?_;refine kc (zK (s8 (l:=(Z7 32 l).drop 1)<|by rw[vd];omega) call167 O) ?_;refine jm O<|kc (zU gz O O)<|rr 8 O<|kc (zK (Om (p:=(⟨(Z7 32 l).drop 1,WR (Z7 32 l)[0]⟩:Zf))) call75 O)<|rr 13 O<|kB O (λf=>?_) λf=>?_
 ·have a:ZO l=(FK,Y_ (⟨(Z7 32 l).drop 1,WR (Z7 32 l)[0]⟩:Zf)):=by rw[m];exact Zn f
  refine kr<|kc (zU gz O O)<|rr 5 O<|OK.ret<|Y3.r2 (.XU O O O O Nb O<|.k .ZM<|.k (.same O) .z) (zo O O) ?_;rw[a]
  all_goals rfl
 have a:ZO l=((⟨(Z7 32 l).drop 1,WR (Z7 32 l)[0]⟩:Zf),0):=by rw[m];exact Zm f
 refine ro 9 O<|kT O O Nb O O O ?_;rw[a]
 all_goals rfl
variable{w:ba}
def h_:WZ 1 0 [w]=if RX w=true then some [WR w]else none:=by
 have h:=DO (l:=[w]) F;rw[h];rfl
theorem dn{l:List ba}(h:0<R l):l.take 1=[l[0]]:=by
 cases l<;>grind
def P4(B:R l<=100000 - 1):Ct prog 17 [.str l]<|.Yy [.agg (ZO l).1.cs,bv (ZO l).2]:=by
 refine cI func17 O λ{_ _}=>?_
 have m:=Wv 32 l;have A:=WJ (c:=32) (l:=l);have r:∀w∈Z7 32 l,R w<=100000:=λw hw=>by have:=Xs w hw;omega
 have f:=h_ (w:=(Z7 32 l)[0]);have y:R ((Z7 32 l).drop 1)<=100000:=by rw[vd];omega
 refine ro 8 O<|kc (zU gz O O)<|rr 7 O<|kc (zK (Rl (l:=l) (c:=32) I) call39 O) ?_;refine rr 6 O ?_;refine kc (S.slice (hi:=1) (l':=[(Z7 32 l)[0]]) X1 (λ_=>O) .none O (zt O) (.inl ⟨O,O,O⟩) (.inr ⟨_,_,O,(.Zg O),O⟩) I I<|by rw[aα,dn m]) ?_;refine kc (zK (K1 (l:=[(Z7 32 l)[0]]) (k:=1) F C λw hw=>by rw[pi.1 hw];exact r _<|Zt m) call40 O) ?_;refine rr 11 O<|kc (S.not .none O<|zt O)<|jm O<|RK.split (t:=21) O (λd=>?_) λd=>?_
 ·have e:RX (Z7 32 l)[0]=false:=by
   cases u:RX (Z7 32 l)[0]with
   |false=>rfl
   |true=>rw[f,Zn u]at d;cases d
  have a:=M5<|.inl e;refine rr 13 O<|OK.ret<|Y3.r2 (.XU O O O O Nb O<|.k .ZM<|.k (.same O) .z) (zo O O) ?_;rw[a]
  all_goals rfl
 have e:RX (Z7 32 l)[0]=true:=by
  cases u:RX (Z7 32 l)[0]with
  |true=>rfl
  |false=>rw[f,u]at d;cases d
 rw[Zn e]at f;refine kc (S.move (zg O O) O<|zt O)<|kc (S.call (Ml (l:=Z7 32 l) (s:=[])) call41 (zg O O) O (zc O<|.cons (.Vh (l:=[]) O C) .nil) O) ?_;refine rr 3 O<|OK.cond O O (λj=>?_) λj=>?_
 ·have a:=M5<|.inr j;refine ro 7 O<|OK.ret<|Y3.r2 (.XU O O O O Nb O<|.k .ZM<|.k (.same O) .z) (zo O O) ?_;rw[a]
  all_goals rfl
 have o:=BM rfl e j;rw[f];refine ro 3 O ?_;refine kV (.c (zm O)<|.c (S.Zi (n:=0) X9 .none O (zt O) (.Zg O) O F O)<|.c (zV YK O O)<|.c (zM [] Qf O O O O)<|.c (zm O)<|.c (S.slice (lo:=1) (l':=(Z7 32 l).drop 1) X1 (λ_=>O) .none O (zt O) (.inr ⟨_,_,O,(.Zg O),O⟩) (.inl ⟨O,O,O⟩) I I<|by rw[List.take_length])<|.c (S.frz (x2:=((Z7 32 l).drop 1).map λs=>[.str s]) (S.V2 Qf .none O (zt O) O N (zt O) (by intro q v;obtain⟨x,_,rfl⟩:=rx.1 v;rfl) (Zx ..) I<|by simp only[maxLen];omega) F F O O)<|.c (zU gz O O)<|.c (zA (c:=8) ze68 O)<|.c (zS Nb O O O O O O) .nil) ?_;refine rd 5 O<|kc (zK (Cp (p:=(⟨(Z7 32 l).drop 1,WR (Z7 32 l)[0]⟩:Zf))) call42 O)<|rr 9 O<|kB O (λg=>?_) λg=>?_
 ·have a:ZO l=(FK,Y_ (⟨(Z7 32 l).drop 1,WR (Z7 32 l)[0]⟩:Zf)):=by rw[o];exact Zn g
  refine ro 8 O<|OK.ret<|Y3.r2 (.XU O O O O Nb O<|.k .ZM<|.k (.same O) .z) (zo O O) ?_;rw[a]
  all_goals rfl
 have a:ZO l=((⟨(Z7 32 l).drop 1,WR (Z7 32 l)[0]⟩:Zf),0):=by rw[o];exact Zm g
 refine ro 9 O<|kT O O Nb O O O ?_;rw[a]
 all_goals rfl
def Li(v:Int):Prop:=0<=v/\R (Lib.itoa v)<=5
def oW(h:YB w 5=true):Li (YZ w)/\w=Lib.itoa (YZ w):=by
 unfold YB at h;simp only[Zw,de]at h;obtain⟨_,c,a,d⟩:=h;exact⟨⟨c,by simp_all⟩,a.symm⟩
variable{v:Int}
theorem oV(h:Li v):YB (Lib.itoa v) 5=true/\YZ (Lib.itoa v)=v:=by
 have e:=MO h.1;have a:TF (Lib.itoa v) 5=true:=XS.2 ⟨by grind [Ls],h.2⟩;refine⟨by simp_all[Tt],?_⟩;have h0:=h.1;rw[O8 I a,e,v8];omega
theorem nJ(h:Li v):∀b∈Lib.itoa v,W0 b=true:=by
 rw[MO h.1];exact bj.1<|Jx _
variable{b:UInt8}
theorem mu(h:W0 b=true):X8 b=false:=by
 have d:48<=b.toNat/\b.toNat<=57:=pf h;have e:∀c:UInt8,c.toNat<48\/57<c.toNat->(b==c)=false:=λc a=>by
  grind
 simp_all[X8]
theorem LC(h:Li v):∀b∈Lib.itoa v,X8 b=false:=by grind [mu,nJ]
def Stop(r:ba):Prop:=r=[]\/∃b t,r=b::t/\X8 b=true
variable{r:ba}
theorem CQ(hw:∀b∈w,X8 b=false)(a:Stop r):X7 (w++r)=(w,r):=by
 have d:r.takeWhile (λb=>!X8 b)=[]/\r.dropWhile (λb=>!X8 b)=r:=by
  rcases a with rfl|⟨b,t,rfl,c⟩
  all_goals simp_all
 simp_all[X7]
def CR(s:ba):s=(X7 s).1++(X7 s).2/\Stop (X7 s).2:=by
 refine⟨(List.takeWhile_append_dropWhile ..).symm,?_⟩;show Stop (s.dropWhile λb=>!X8 b)
 induction s with
 |nil=>exact .inl rfl
 |cons b s a=>
  rw[List.dropWhile_cons];cases c:X8 b with
  |true=>exact .inr ⟨b,s,rfl,c⟩
  |false=>exact a
def MI(p s:ba):YY p (p++s)=(true,s):=by
 simp[yF]
variable{s:ba}
theorem JG{p:ba}(h:(YY p s).1=true):s=p++(YY p s).2:=by
 unfold YY at h⊢;split
 ·rename_i a;rw[pre_eq,Zw]at a;have:=pf a.2;grind [List.take_append_drop]
 simp_all
theorem nx{c:UInt8}(h:s=[]\/∃b t,s=b::t/\b≠c):YY [c] s=(false,s):=by
 refine yE ?_;grind
theorem oT(h:Li v)(a:Stop r):Vu (32::(Lib.itoa v++r))=((v,true),r):=by
 have e:=MI [32]<|Lib.itoa v++r;have d:(YY [32]<|32::(Lib.itoa v++r)).1=true:=rn Prod.fst e;have c:(YY [32]<|32::(Lib.itoa v++r)).2=Lib.itoa v++r:=rn Prod.snd e;grind [yX,CQ,LC,oV]
theorem oU(h:(Vu s).1.2=true):∃v,Li v/\Stop (Vu s).2/\s=32::(Lib.itoa v++(Vu s).2)/\(Vu s).1.1=v:=by
 cases d:(YY [32] s).1 with
 |false=>simp_all[oS]
 |true=>
  rw[yX d]at h⊢;obtain⟨c,f⟩:=oW h;obtain⟨e,a⟩:=CR (YY [32] s).2;refine⟨_,c,a,?_,rfl⟩;grind [JG]
def TQ:bd->ba
 |[]=>[]
 |v::vs=>32::(Lib.itoa v++TQ vs)
def Qy:bc->bd->Ph->Ph
 |f::fs,v::vs,p=>Qy fs vs<|p.Kx f v
 |_,_,p=>p
def FP(vs:bd)(a:Stop r):Stop<|TQ vs++r:=by
 cases vs with
 |nil=>exact a
 |cons v vs=>exact .inr ⟨32,_,rfl,C⟩
theorem FL:∀(fs:bc)(vs:bd)(p:Ph){r:ba},R vs=R fs->(∀v∈vs,Li v)->Stop r->Wk fs p (TQ vs++r)=(some<|Qy fs vs p,r)
 |[],[],p,r,_,_,_=>rfl
 |f::fs,v::vs,p,r,hl,hv,hr=>by
  have e:TQ (v::vs)++r=32::(Lib.itoa v++(TQ vs++r)):=by simp[TQ]
  have c:=oT (hv v rv)<|FP vs hr;rw[e,Wk,c,Zn rfl,FL fs vs (p.Kx f v) (by grind) (λx a=>hv x<|rl _ a) hr];rfl
theorem FN:∀(fs:bc)(p q:Ph){s:ba},(Wk fs p s).1=some q->∃vs,R vs=R fs/\(∀v∈vs,Li v)/\s=TQ vs++(Wk fs p s).2/\q=Qy fs vs p/\(fs≠[]->Stop (Wk fs p s).2)
 |[],p,q,s,h=>⟨[],rfl,(λv l=>by cases l),rfl,(by cases h;rfl),λh=>absurd rfl h⟩
 |f::fs,p,q,s,h=>by
  rw[Wk]at h⊢;cases a:(Vu s).1.2 with
  |false=>simp_all
  |true=>
   rw[a,Zn rfl]at h;rw[Zn rfl];obtain⟨v,t,j,r,e⟩:=oU a;obtain⟨vs,d,o,n,c,m⟩:=FN fs _ q h;refine⟨v::vs,by simp[d],λx u=>?_,?_,?_,λ_=>?_⟩
   ·grind
   ·grind [TQ]
   ·rw[c,e];rfl
   cases fs with
   |nil=>exact j
   |cons g w=>grind
theorem tg(k:Nat):ZE k≠[]:=by unfold ZE;grind
def CY(k:Nat):ba:=XP.getD k []
variable{k:Nat}
def Io(h:k<6):∀b∈CY k,X8 b=false:=by
 match k,h with
 |0,_=>decide
 |1,_=>decide
 |2,_=>decide
 |3,_=>decide
 |4,_=>decide
 |5,_=>decide
def oJ(h:k<6):ix (λn=>decide<|CY k=n) XP=some k:=by
 match k,h with
 |0,_=>rfl
 |1,_=>rfl
 |2,_=>rfl
 |3,_=>rfl
 |4,_=>rfl
 |5,_=>rfl
def BA(h:ix (λn=>decide<|w=n) XP=some k):k<6/\w=CY k:=by
 obtain⟨a,d⟩:=Y8 h;have c:w=XP[k]:=pf d;refine⟨a,?_⟩;rw[c];exact(TJ a).symm
def tH(h:k<6)(a:Stop r):XV (CY k++r)=(some k,r):=by
 unfold XV;rw[CQ (Io h) a];simp_all[oJ]
def tI(h:(XV s).1=some k):k<6/\s=CY k++(XV s).2/\Stop (XV s).2:=by
 obtain⟨e,d⟩:=BA h;obtain⟨c,a⟩:=CR s;refine⟨e,?_,a⟩;rw[←d];exact c
structure Oe(k:Nat)(vs:bd):Prop where
 k6:k<6
 len:vs.length=(ZE k).length
 num:∀v∈vs,Li v
def Xx(k:Nat)(vs:bd):ba:=CY k++TQ vs
def VA(k:Nat)(vs:bd):Ph:=Qy (ZE k) vs<|.mk k 0 0 0 0 []
variable{vs:bd}
def LQ{ls:ba->(List Ph×Bool)×ba}(h:Oe k vs)(a:Stop r):TS ls (Xx k vs++r)=if k≠5 then((VA k vs,true),r)else if(YY [32,40] r).1=false then((Ph.zero,false),(YY [32,40] r).2)else
  if(ls (YY [32,40] r).2).1.2=true then(((VA k vs).setBody (ls (YY [32,40] r).2).1.1,(YY [41] (ls (YY [32,40] r).2).2).1),(YY [41] (ls (YY [32,40] r).2).2).2)else(((VA k vs).setBody (ls (YY [32,40] r).2).1.1,false),(ls (YY [32,40] r).2).2):=by
 have e:Xx k vs++r=CY k++(TQ vs++r):=by unfold Xx;simp
 have d:=tH h.k6<|FP vs a;have c:=FL (ZE k) vs (.mk k 0 0 0 0 []) h.len h.num a;unfold TS;rw[e,d];dsimp only;rw[c];rfl
variable{t:ba}
def pG{ls:ba->(List Ph×Bool)×ba}(h:Oe 5 vs){b:List Ph}(c:ls t=((b,true),41::r)):TS ls (Xx 5 vs++(32::40::t))=(((VA 5 vs).setBody b,true),r):=by
 have e:=MI [32,40] t;have a:YY [32,40] (32::40::t)=(true,t):=e;have d:YY [41] (41::r)=(true,r):=MI [41] r;rw[LQ h<|.inr ⟨32,_,rfl,C⟩,Zm C,a];simp_all
theorem pF{ls:ba->(List Ph×Bool)×ba}(h:(TS ls s).1.2=true):∃k vs,Oe k vs/\((k≠5/\∃r,Stop r/\s=Xx k vs++r/\TS ls s=((VA k vs,true),r))\/(k=5/\∃t b r,s=Xx k vs++(32::40::t)/\ls t=((b,true),41::r)/\TS ls s=(((VA k vs).setBody b,true),r))):=by
 cases n:(XV s).1 with
 |none=>simp_all[TS]
 |some k=>
  obtain⟨k6,x,_⟩:=tI n;cases m:(Wk (ZE k) (.mk k 0 0 0 0 []) (XV s).2).1 with
  |none=>
   grind [TS]
  |some p=>
   obtain⟨vs,j,g,f,w,d⟩:=FN _ _ _ m;have c:=d<|tg k;generalize (Wk (ZE k) (.mk k 0 0 0 0 []) (XV s).2).2=r at f c;have l:Oe k vs:=⟨k6,j,g⟩;have es:s=Xx k vs++r:=by grind [Xx]
   have e:=LQ (ls:=ls) l c;rw[←es]at e;by_cases q:k=5
   ·rw[Zm<|Zp q]at e;cases hh:(YY [32,40] r).1 with
    |false=>grind
    |true=>
     rw[hh,Zm C]at e;have u:=JG hh;generalize (YY [32,40] r).2=t at e u;cases o:(ls t).1.2 with
     |false=>grind
     |true=>
      rw[o,Zn rfl]at e;rw[e]at h;have a:(YY [41] (ls t).2).1=true:=h;have v:=JG a;grind
   grind
def TA:ba->Nat->ba->List ba->List ba×Bool
 |[],d,cur,qm=>(qm++[cur],decide<|d=0)
 |b::r,d,cur,qm=>
  if b=40 then TA r (d+1) (cur++[b]) qm
  else if b=41 then(if d=0 then([],false)else TA r (d - 1) (cur++[b]) qm)
  else if b=59/\d=0 then TA r d [] (qm++[cur])
  else TA r d (cur++[b]) qm
abbrev Yk(s:ba):List ba×Bool:=TA s 0 [] []
def M3(w:ba):Option Int:=if YB w 5=true then some (YZ w)else none
def ff(h:ba)(b:List Ph):Option Ph:=match ix (λn=>decide<|(Z7 32 h).getD 0 []=n) XP with
 |none=>none
 |some k=>if decide (k=5)≠decide (0<R b)then none else if(R<|Z7 32 h)≠R (ZE k)+1 then none else match YT M3 ((Z7 32 h).drop 1)with
  |none=>none
  |some vs=>some<|(VA k vs).setBody b
def Wl(ls:ba->Option (List Ph))(s:ba):Option Ph:=match ix (λb=>b==40) s with
 |none=>ff s []
 |some i=>if i=0\/s.getD (i - 1) 0≠32\/s.getD (R s - 1) 0≠41 then none else match ls ((s.take<|R s - 1).drop<|i+1)with
  |none=>none
  |some b=>ff (s.take<|i - 1) b
def IU:Nat->ba->Option (List Ph)
 |0,_=>none
 |n+1,s=>if(Yk s).2=true then YT (Wl<|IU n) (Yk s).1 else none
abbrev RZ(s:ba):Option<|List Ph:=IU (s.length+1) s
def xX(p:ba)(ps:List ba):ba:=p++(ps.map λq=>32::q).flatten
def Am:∀(l:ba){p:ba}{ps:List ba},Z7 32 l=p::ps->xX p ps=l
 |[],p,ps,h=>by
  simp only[Z7,v6]at h;obtain⟨rfl,rfl⟩:=h;rfl
 |b::l,p,ps,h=>by
  obtain⟨q,a,c⟩:∃q a,Z7 32 l=q::a:=by
   cases hs:Z7 32 l with
   |nil=>exact absurd hs<|UN 32 l
   |cons q a=>simp
  have e:=Am l c;by_cases d:b=32
  ·subst d;rw[Z7,Zn rfl,c]at h;simp only[v6]at h;obtain⟨rfl,rfl⟩:=h;simp_all[xX]
  rw[S5 d c]at h;simp only[v6]at h;obtain⟨rfl,rfl⟩:=h;simp_all[xX]
theorem FO:∀vs:bd,((vs.map Lib.itoa).map λq=>(32:UInt8)::q).flatten=TQ vs
 |[]=>rfl
 |v::vs=>by
  simp only[ta,P1,FO vs,TQ,H5]
theorem Fq:∀{L:List ba}{vs:bd},YT M3 L=some vs->L=vs.map Lib.itoa/\∀v∈vs,Li v
 |[],vs,h=>by simp only[YT,bθ]at h;simp_all
 |w::L,vs,h=>by
  rw[YT]at h;unfold M3 at h;by_cases a:YB w 5=true
  ·rw[Zn a]at h;dsimp only at h;rw[M2]at h;obtain⟨r,c,rfl⟩:=h;obtain⟨e,g⟩:=Fq (show YT M3 L=some r from c);obtain⟨f,d⟩:=oW a;grind
  simp_all
def ME:∀{vs:bd},(∀v∈vs,Li v)->YT M3 (vs.map Lib.itoa)=some vs
 |[],_=>rfl
 |v::vs,h=>by
  obtain⟨c,a⟩:=oV<|h v rv;rw[ta,YT,M3,Zn c,a];dsimp only;rw[ME λx d=>h x<|rl _ d];rfl
def I8:∀(w:ba)(vs:bd),32∉w->(∀v∈vs,Li v)->Z7 32 (w++TQ vs)=w::vs.map Lib.itoa
 |w,[],hw,_=>by rw[TQ,i8];exact I9 hw
 |w,v::vs,hw,hv=>by
  have a:(32:UInt8)∉Lib.itoa v:=λd=>by
   have:=LC (hv v rv) 32 d;exact absurd this C
  rw[TQ,Gf _ hw,I8 (Lib.itoa v) vs a λx c=>hv x<|rl _ c];rfl
def nm_32(h:k<6):(32:UInt8)∉CY k:=λa=>absurd (Io h 32 a) C
theorem qC(h:Oe k vs){b:List Ph}(a:k=5↔0<R b):ff (Xx k vs) b=some ((VA k vs).setBody b):=by
 have hs:Z7 32 (Xx k vs)=CY k::vs.map Lib.itoa:=I8 (CY k) vs (nm_32 h.k6) h.num;unfold ff;rw[hs];show(match ix (λn=>decide<|CY k=n) XP with|none=>_|some k=>_)=_;rw[oJ h.k6];dsimp only;rw[Zm<|Zp<|decide_eq_decide.2 a,Zm<|by simp[h.len]];show(match YT M3 (vs.map Lib.itoa)with|none=>_|some vs=>_)=_;rw[ME h.num]
variable{p:Ph}
theorem xe{h:ba}{b:List Ph}(e:ff h b=some p):∃k vs,Oe k vs/\h=Xx k vs/\(k=5↔0<R b)/\p=(VA k vs).setBody b:=by
 unfold ff at e;obtain⟨w,a,hs⟩:∃w a,Z7 32 h=w::a:=by
  cases hs:Z7 32 h<;>grind
 rw[hs]at e;have l:=Am h hs;split at e
 ·cases e
 rename_i k g;obtain⟨k6,hw⟩:=BA g;have hw:w=CY k:=hw;by_cases c:decide (k=5)≠decide (0<R b)
 ·simp_all
 rw[Zm c]at e;have c:decide (k=5)=decide (0<R b):=Zu.1 c;by_cases j:R (w::a)≠R (ZE k)+1
 ·simp_all
 rw[Zm j]at e;have e:(match YT M3 a with|none=>none|some vs=>some<|(VA k vs).setBody b)=some p:=e;cases d:YT M3 a with
 |none=>simp_all
 |some vs=>
  rw[d]at e;obtain⟨g1,g2⟩:=Fq d;have f:R vs=R (ZE k):=by
   simp_all
  refine⟨k,vs,⟨k6,f,g2⟩,?_,decide_eq_decide.1 c,?_⟩
  all_goals grind [xX,Xx,FO]
variable{a:ba}
theorem ix_40(f:∀b∈a,b≠40):ix (λb=>b==40) (a++40::t)=some (R a):=by
 have vy:∀(a:ba)(k:Nat),(∀b∈a,b≠40)->VF (λb=>b==40) k (a++40::t)=some (k+R a):=by
  intro a
  induction a with
  |nil=>simp[VF]
  |cons b a c=>
   intro k h;have e:(b==40)=false:=by simp_all
   rw[H5,VF,e,Zm C,c (k+1) λx d=>h x<|rl _ d,tt];grind
 simp_all
theorem iy(c:∀b∈a,b≠40):ix (λb=>b==40) a=none:=by simp_all[T9]
def It:∀{vs:bd},(∀v∈vs,Li v)->∀b∈TQ vs,b≠40/\b≠41/\b≠59
 |[],_,b,a=>by cases a
 |v::vs,h,b,a=>by
  rw[TQ,sf,List.mem_append]at a;rcases a with rfl|a|a
  ·decide
  ·have hs:=LC (h v rv) b a;refine⟨λe=>?_,λe=>?_,λe=>?_⟩<;>subst e<;>exact absurd hs C
  exact It (λx c=>h x<|rl _ c) b a
theorem QJ(h:Oe k vs):∀b∈Xx k vs,b≠40/\b≠41/\b≠59:=by
 intro b a;rcases List.mem_append.1 a with a|a
 ·have hs:=Io h.k6 b a;refine⟨λe=>?_,λe=>?_,λe=>?_⟩<;>subst e<;>exact absurd hs C
 exact It h.num b a
def uZ(p:Ph)(f:Nat)(n:Int):(p.Kx f n).body=p.body:=by
 cases p with
 |mk k w l t e b=>
  match f with
  |0=>rfl
  |1=>rfl
  |2=>rfl
  |3=>rfl
  |4=>rfl
  |f+5=>rfl
theorem K5:(VA k vs).setBody []=VA k vs:=by
 have vy:∀(fs:bc)(vs:bd)(p:Ph),p.body=[]->(Qy fs vs p).body=[]:=by
  intro fs
  induction fs with
  |nil=>simp[Qy]
  |cons f fs a=>
   intro vs p h;cases vs with
   |nil=>grind [Qy]
   |cons v vs=>
    simp_all[Qy,uZ]
 have h:=vy (ZE k) vs (.mk k 0 0 0 0 []) rfl;show(VA k vs).setBody []=VA k vs;have h:(VA k vs).body=[]:=h;revert h;generalize VA k vs=p;cases p;intro h;have h:_=[]:=h;simp only[Ph.body]at h;subst h;rfl
variable{ls:ba->Option (List Ph)}
theorem uX(h:Oe k vs)(a:k≠5):Wl ls (Xx k vs)=some (VA k vs):=by
 grind [Wl,iy,QJ,qC,K5]
theorem jF(h:Oe 5 vs){u:ba}{b:List Ph}(a:ls u=some b)(h0:0<R b):Wl ls (Xx 5 vs++(32::40::(u++[41])))=some ((VA 5 vs).setBody b):=by
 have e:Xx 5 vs++(32::40::(u++[41]))=(Xx 5 vs++[32])++40::(u++[41]):=F
 have hi:ix (λb=>b==40) (Xx 5 vs++(32::40::(u++[41])))=some (R (Xx 5 vs)+1):=by
  grind [ix_40,QJ]
 have qk:R (Xx 5 vs++(32::40::(u++[41])))=R (Xx 5 vs)+R u+3:=by simp;omega
 unfold Wl;rw[hi];dsimp only;rw[Zm]
 ·have c:((Xx 5 vs++(32::40::(u++[41]))).take<|R (Xx 5 vs++(32::40::(u++[41]))) - 1).drop (R (Xx 5 vs)+1+1)=u:=by
   rw[qk,show Xx 5 vs++(32::40::(u++[41]))=(Xx 5 vs++(32::40::u))++[41]by simp,aε (by simp;omega),sg (by simp;omega),
    show Xx 5 vs++(32::40::u)=(Xx 5 vs++[32,40])++u by simp,List.drop_append_of_le_length F,ut F]
   rfl
  rw[c,a];dsimp only;rw[show(R<|Xx 5 vs)+1 - 1=R (Xx 5 vs) by omega,aε<|Zq _,List.take_length];exact qC h ⟨λ_=>h0,λ_=>rfl⟩
 simp
theorem jE(a:∀s b,ls s=some b->0<R b)(e:Wl ls s=some p):∃k vs,Oe k vs/\((k≠5/\s=Xx k vs/\p=VA k vs)\/(k=5/\∃u b,s=Xx k vs++(32::40::(u++[41]))/\ls u=some b/\p=(VA k vs).setBody b)):=by
 unfold Wl at e;split at e
 ·grind [xe,K5]
 rename_i i hi;by_cases c:i=0\/s.getD (i - 1) 0≠32\/s.getD (R s - 1) 0≠41
 ·simp_all
 rw[Zm c]at e;simp only[eη,Zu]at c;obtain⟨m,r,o⟩:=c;obtain⟨l,d⟩:=Y8 hi;have d:s[i]=40:=by grind
 split at e
 ·cases e
 rename_i b f;obtain⟨k,vs,w,v,t,q⟩:=xe e;have n:k=5:=t.2<|a _ _ f;refine⟨k,vs,w,.inr ⟨n,_,b,?_,f,q⟩⟩;have g:i+1<R s:=by
  grind
 rw[←v];refine P2 λj=>?_
 rcases dT j (i - 1)with hj|hj|hj
 ·grind
 ·grind
 rw[aκ<|by grind,sc,show min (i - 1) (R s)=i - 1 by omega];grind
theorem eX(s:ba):∀(d:Nat)(a:ba)(qm:List ba),(TA s d a qm).2=true->(TA s d a qm).1≠[]:=by
 induction s with
 |nil=>simp[TA]
 |cons b r c=>
  intro d a qm h;rw[TA]at h⊢;grind
theorem cA(s:ba):∀(d:Nat)(a:ba)(qm:List ba),∀p∈(TA s d a qm).1,p∈qm\/R p<=R a+R s:=by
 induction s with
 |nil=>
  intro d a qm p c;rw[TA]at c;grind
 |cons b r e=>
  grind [TA]
def O_{s p:ba}(h:p∈(Yk s).1):R p<=R s:=by
 rcases cA s 0 [] [] p h with h|h
 all_goals simp_all
theorem Cx{a:ba->Option (List Ph)}(h:∀c,R c<R s->ls c=a c):Wl ls s=Wl a s:=by
 grind [Wl]
def Lw{α β:Type}{f g:α->Option β}:∀{l:List α},(∀x∈l,f x=g x)->YT f l=YT g l
 |[],_=>rfl
 |a::l,h=>by rw[YT,YT,h a rv,Lw λx c=>h x<|rl _ c]
theorem Cv:∀(n m:Nat)(s:ba),R s<n->R s<m->IU n s=IU m s
 |0,_,_,h,_=>by omega
 |_+1,0,_,_,h=>by omega
 |n+1,m+1,s,h1,h2=>by
  rw[IU,IU];have e:YT (Wl<|IU n) (Yk s).1=YT (Wl<|IU m) (Yk s).1:=Lw λp c=>Cx λa hs=>by
   have:=O_ c;exact Cv n m a I I
  rw[e]
theorem PV(s:ba):RZ s=if(Yk s).2=true then YT (Wl RZ) (Yk s).1 else none:=by
 show IU (R s+1) s=_;rw[IU];have e:YT (Wl<|IU<|R s) (Yk s).1=YT (Wl RZ) (Yk s).1:=Lw λp a=>Cx λc hs=>by
  have:=O_ a;grind [Cv]
 rw[e]
def xg{l:List Ph}(h:RZ s=some l):0<R l:=by
 rw[PV]at h;split at h
 ·rename_i a;rw[SM h];simp_all[aη,eX]
 cases h
def V_:List ba->ba
 |[]=>[]
 |[p]=>p
 |p::q::ps=>p++59::V_ (q::ps)
theorem U7{p:ba}{ps:List ba}(h:ps≠[]):V_ (p::ps)=p++59::V_ ps:=by
 cases ps with
 |nil=>simp_all
 |cons q ps=>rfl
def HZ:∀(qm:List ba)(a b:ba),V_ (qm++[a++b])=V_ (qm++[a])++b
 |[],a,b=>rfl
 |p::qm,a,b=>by
  rw[H5,H5,U7 F,U7 F,HZ qm a b];simp
theorem FD:∀(qm:List ba)(a:ba),V_ ((qm++[a])++[[]])=V_ (qm++[a])++[59]
 |[],a=>by rfl
 |p::qm,a=>by
  have:=FD qm a;simp_all[U7]
theorem je(s:ba):∀(d:Nat)(a:ba)(qm:List ba),(TA s d a qm).2=true->V_ (TA s d a qm).1=V_ (qm++[a])++s:=by
 induction s with
 |nil=>simp[TA]
 |cons b r j=>
  intro d a qm h;have vy:∀c,(TA r c (a++[b]) qm).2=true->V_ (TA r c (a++[b]) qm).1=V_ (qm++[a])++b::r:=λc h=>by
   simp_all[HZ]
  rw[TA]at h⊢;split
  ·grind
  rename_i g;rw[Zm g]at h;split
  ·grind
  rename_i f;rw[Zm f]at h;split
  ·rename_i e;rw[Zn e]at h;grind [FD]
  grind
def Pr(p:ba):Prop:=∀(d:Nat)(a:ba)(qm:List ba)(r:ba),TA (p++r) d a qm=TA r d (a++p) qm
def Dg(u:ba):Prop:=∀(d:Nat)(a:ba)(qm:List ba)(r:ba),TA (u++r) (d+1) a qm=TA r (d+1) (a++u) qm
theorem Sr:∀{w:ba},(∀b∈w,b≠40/\b≠41/\b≠59)->Pr w
 |[],_=>λd a qm r=>by simp
 |b::w,h=>λd a qm r=>by
  obtain⟨j,g,f⟩:=h b rv;rw[H5,TA,Zm j,Zm g,Zm λe=>f e.1,Sr λx c=>h x<|rl _ c];simp
def Pr.one{p:ba}(h:Pr p):Dg p:=λd a qm r=>h (d+1) a qm r
def Gm{b:ba}(e:Pr a)(c:Pr b):Pr<|a++b:=λd f qm r=>by
 rw[m7,e,c,m7]
def rB{u:ba}(h:Dg u):Pr<|40::(u++[41]):=λd a qm r=>by
 rw[H5,TA,Zn rfl,m7,h,aδ,TA,Zm C,Zn rfl,Zm I,Nat.add_sub_cancel];simp
def La:∀{L:List ba},(∀p∈L,Pr p)->Dg (V_ L)
 |[],_=>λd a qm r=>by show TA r _ a qm=TA r _ (a++[]) qm;simp
 |[p],h=>(h p rv).one
 |p::q::ps,h=>λd a qm r=>by
  have f:=h p rv;have c:=La (L:=q::ps) λx e=>h x<|rl _ e
  rw[U7 F,m7,f,H5,TA,Zm C,Zm C,Zm I,c];simp
theorem Iz:∀(L:List ba)(p a:ba)(qm:List ba),(∀q∈p::L,Pr q)->TA (V_<|p::L) 0 a qm=(qm++(a++p)::L,true)
 |[],p,a,qm,h=>by
  have d:=h p rv 0 a qm [];rw[i8]at d;show TA p 0 a qm=_;grind [TA]
 |q::L,p,a,qm,h=>by
  rw[U7 F,h p rv,TA,Zm C,Zm C,Zn ⟨rfl,rfl⟩,Iz L q [] _ λx c=>h x<|rl _ c];simp
def Ends(t:ba):Prop:=t=[]\/∃b r,t=b::r/\(b=41\/b=59)
def Ends.stop(h:Ends t):Stop t:=by
 rcases h with rfl|⟨b,r,rfl,rfl|rfl⟩
 ·exact .inl rfl
 ·exact .inr ⟨41,r,rfl,C⟩
 exact .inr ⟨59,r,rfl,C⟩
def Close(t:ba):Prop:=t=[]\/∃r,t=41::r
theorem qt(n:Nat):∀s:ba,R s<=n->∀(l:List Ph)(t:ba),RZ s=some l->Close t->US (s++t)=((l,true),t):=by
 induction n using Nat.strongRecOn with
 |ind n M=>
  intro s hs l t v C;rw[PV]at v;split at v
  ·rename_i d;have D:=je s 0 [] [] d;have y:=eX s 0 [] [] d;have qk:=λp o=>O_ (s:=s) (p:=p) o
   have D:V_ (Yk s).1=s:=D;have ph:∀p:ba,R p<=n->∀(x:Ph)(r:ba),Wl RZ p=some x->Ends r->Th (p++r)=((x,true),r):=by
    intro p o x r c I;obtain⟨k,vs,B,h⟩:=jE (λs b K=>xg K) c;rcases h with⟨A,rfl,rfl⟩|⟨A,u,b,rfl,H,rfl⟩
    ·show TS US _=_;rw[LQ B I.stop,Zn A]
    subst A;have w:R u<n:=by grind
    have j:=M (R u) w u (Zq _) b (41::r) H<|.inr ⟨r,rfl⟩;show TS US _=_;rw[show Xx 5 vs++(32::40::(u++[41]))++r=Xx 5 vs++(32::40::(u++41::r))by simp];exact pG B j
   have vy:∀(L:List ba)(l a:List Ph)(m:Nat),L≠[]->(∀p∈L,R p<=n)->YT (Wl RZ) L=some l->R (V_ L++t)<m->KN m a (V_ L++t)=((a++l,true),t):=by
    intro L
    induction L with
    |nil=>simp
    |cons p L G=>
     intro l a m _ E g f;rw[YT]at g;cases c:Wl RZ p with
     |none=>simp_all
     |some x=>
      rw[c]at g;dsimp only at g;rw[M2]at g;obtain⟨N,F,rfl⟩:=g;cases L with
      |nil=>
       simp only[YT,bθ]at F;subst F;have J:Ends t:=by
        rcases C with rfl|⟨r,rfl⟩
        ·exact .inl rfl
        exact .inr ⟨41,r,rfl,.inl rfl⟩
       have j:=ph p (E p rv) x t c J;have z:YY [59] t=(false,t):=nx (by
        rcases C with rfl|⟨r,rfl⟩
        all_goals simp)
       have f:R (p++t)<m:=f;show KN m a (p++t)=_;rw[PI m a _ f,j];simp_all
      |cons q L=>
       have j:=ph p (E p rv) x (59::(V_ (q::L)++t)) c<|.inr ⟨59,_,rfl,.inr rfl⟩;have e:V_ (p::q::L)++t=p++59::(V_ (q::L)++t):=by simp[U7]
       have z:YY [59] (59::(V_ (q::L)++t))=(true,V_ (q::L)++t):=MI [59] _;rw[e]at f⊢;rw[PI m a _ f,j];simp_all
   have h:=vy (Yk s).1 l [] (R (s++t)+1) y (λp o=>di (qk p o) hs) v (by simp_all);grind
  cases v
theorem pM(n:Nat):∀s:ba,R s<=n->∀(l:List Ph)(t:ba),US s=((l,true),t)->∃u,s=u++t/\RZ u=some l/\Dg u:=by
 induction n using Nat.strongRecOn with
 |ind n V=>
  intro s hs l t T;have ph:∀s:ba,R s<=n->(Th s).1.2=true->∃p,s=p++(Th s).2/\Wl RZ p=some (Th s).1.1/\Pr p:=by
   intro s hs h;obtain⟨k,vs,B,h⟩:=pF (ls:=US) h;rcases h with⟨G,r,W,O,d⟩|⟨G,t,b,r,N,E,d⟩
   ·have d:Th s=((VA k vs,true),r):=d;grind [uX,Sr,QJ]
   subst G;have d:Th s=(((VA 5 vs).setBody b,true),r):=d;have v:R t<n:=by grind
   obtain⟨u,J,x,H⟩:=V (R t) v t (Zq _) b (41::r) E;rw[d];refine⟨Xx 5 vs++(32::40::(u++[41])),?_,jF B x<|xg x,?_⟩
   ·simp_all
   refine Gm (Sr<|QJ B)<|Gm (a:=[32]) (Sr λb E=>?_)<|rB H;simp_all
  have vy:∀(m:Nat)(s:ba)(c l:List Ph)(t:ba),R s<=m->m<=n->KN (R s+1) c s=((l,true),t)->∃L f,l=c++f/\L≠[]/\s=V_ L++t/\YT (Wl RZ) L=some f/\∀p∈L,Pr p:=by
   intro m
   induction m with
   |zero=>
    intro s c l t h0 _ h;have:s=[]:=tz I;subst this;rw[PI _ c _ F]at h;have e:(Th []).1.2=false:=rfl;simp_all
   |succ m o=>
    intro s c l t h0 Q h;rw[PI _ c s<|cπ _]at h;cases D:(Th s).1.2 with
    |false=>simp_all
    |true=>
     rw[D,Zm C]at h;obtain⟨p,J,x,H⟩:=ph s I D;cases g:(YY [59] (Th s).2).1 with
     |false=>
      rw[g,Zm C]at h;have M:YY [59] (Th s).2=(false,(Th s).2):=by
       unfold YY at g⊢;grind
      rw[M]at h;simp only[aψ,and_true]at h;obtain⟨rfl,rfl⟩:=h;refine⟨[p],[(Th s).1.1],rfl,F,J,?_,λq P=>by grind⟩;grind [YT]
     |true=>
      rw[g,Zn rfl]at h;have U:=JG g;have S:=Lz g C;have xf:=pH s;obtain⟨L,f,j,K,A,z,y⟩:=o _ _ _ _ I I h;refine⟨p::L,(Th s).1.1::f,by grind,F,?_,?_,λq P=>?_⟩
      ·grind [U7]
      ·grind [YT]
      grind
  obtain⟨L,f,j,K,A,z,y⟩:=vy n s [] l t hs (Zq _) T;rw[bε]at j;subst j;refine⟨V_ L,A,?_,La y⟩;cases L with
  |nil=>simp_all
  |cons p L=>
   have w:Yk (V_<|p::L)=(p::L,true):=by
    simp_all[Iz]
   rw[PV,w,Zn rfl];exact z
theorem qE(s:ba):RZ s=if(US s).1.2=true/\(US s).2=[]then some (US s).1.1 else none:=by
 by_cases h:(US s).1.2=true/\(US s).2=[]
 ·rw[Zn h];obtain⟨u,e,d,_⟩:=pM (R s) s (Zq _) (US s).1.1 [] (by grind);simp_all
 rw[Zm h];cases a:RZ s with
 |none=>rfl
 |some l=>
  have c:=qt (R s) s (Zq _) l [] a<|.inl rfl;simp_all
variable{qm:List ba}{d:Nat}{cur:ba}
def pt_40(h:b=40):TA (b::r) d cur qm=TA r (d+1) (cur++[b]) qm:=Zn h
def cy(h:b=41)(h0:d=0):TA (b::r) d cur qm=([],false):=by subst h;exact Zn h0
def cw(h:b=41)(h0:¬d=0):TA (b::r) d cur qm=TA r (d - 1) (cur++[b]) qm:=by subst h;exact Zm h0
def pt_59(h:b=59)(h0:d=0):TA (b::r) d cur qm=TA r d [] (qm++[cur]):=by subst h;rw[TA,Zm C,Zm C,Zn ⟨rfl,h0⟩]
def pt_o(h:¬b=40)(c:¬b=41)(a:¬(b=59/\d=0)):TA (b::r) d cur qm=TA r d (cur++[b]) qm:=by simp_all[TA]
def Qw:bc->List ba->Ph->Ph×Bool
 |f::fs,w::ws,p=>if YB w 5=true then Qw fs ws (p.Kx f<|YZ w)else(p,false)
 |_,_,p=>(p,true)
def tG(w:ba)(n:Nat):Int:=match ix (λm=>decide<|w=m) XP with
 |some k=>if k<n then(k:Int)else -1
 |none=> -1
def Bh(h:ba)(b:List Ph):Ph×Bool:=match ix (λn=>decide<|(Z7 32 h).getD 0 []=n) XP with
 |none=>(.mk (-1) 0 0 0 0 b,false)
 |some k=>if decide (k=5)≠decide (0<R b)then(.mk k 0 0 0 0 b,false)else if(R<|Z7 32 h)≠R (ZE k)+1 then(.mk k 0 0 0 0 b,false)else Qw (ZE k) ((Z7 32 h).drop 1) (.mk k 0 0 0 0 b)
def eU(ls:ba->Option (List Ph))(s:ba):Ph×Bool:=match ix (λb=>b==40) s with
 |none=>Bh s []
 |some i=>if i=0\/s.getD (i - 1) 0≠32\/s.getD (R s - 1) 0≠41 then(Ph.zero,false)else match ls ((s.take<|R s - 1).drop<|i+1)with
  |none=>(Ph.zero,false)
  |some b=>Bh (s.take<|i - 1) b
variable{α:Type}
def o7(q:α×Bool):Option α:=if q.2=true then some q.1 else none
def EH(p:Ph)(f:Nat)(n:Int)(b:List Ph):(p.Kx f n).setBody b=(p.setBody b).Kx f n:=by
 cases p;rcases(show f=1\/f=2\/f=3\/f=4\/(f≠1/\f≠2/\f≠3/\f≠4)by omega)with rfl|rfl|rfl|rfl|⟨h1,h2,h3,h4⟩
 ·rfl
 ·rfl
 ·rfl
 ·rfl
 match f,h1,h2,h3,h4 with
 |0,_,_,_,_=>rfl
 |n+5,_,_,_,_=>rfl
def Ow:∀(fs:bc)(vs:bd)(p:Ph)(b:List Ph),(Qy fs vs p).setBody b=Qy fs vs (p.setBody b)
 |f::fs,v::vs,p,b=>by rw[Qy,Ow fs vs,EH];rfl
 |[],_,p,b=>rfl
 |_::_,[],p,b=>rfl
theorem BG:∀(fs:bc)(a:List ba)(p:Ph),R a=R fs->o7 (Qw fs a p)=(YT M3 a).map λvs=>Qy fs vs p
 |[],[],p,_=>rfl
 |f::fs,w::a,p,h=>by
  by_cases hw:YB w 5=true
  ·rw[Qw,Zn hw,BG fs a _<|by grind];have c:M3 w=some (YZ w):=Zn hw;simp only[YT,c];cases YT M3 a<;>rfl
  have c:M3 w=none:=Zm hw;rw[Qw,Zm hw];simp only[YT,c];rfl
 |[],_::_,_,h=>by simp at h
 |_::_,[],_,h=>by simp at h
def ny(h:ba)(b:List Ph):ff h b=o7 (Bh h b):=by
 unfold ff Bh;cases ix (λn=>decide<|(Z7 32 h).getD 0 []=n) XP with
 |none=>rfl
 |some k=>
  dsimp only;split
  ·rfl
  split
  ·rfl
  rename_i c a;rw[BG _ _ _<|by simp_all];cases YT M3 ((Z7 32 h).drop 1)with
  |none=>rfl
  |some vs=>exact rn some<|Ow _ _ _ _
def pI(ls:ba->Option (List Ph))(s:ba):Wl ls s=o7 (eU ls s):=by
 unfold Wl eU;cases ix (λb=>b==40) s with
 |none=>exact ny _ _
 |some i=>
  dsimp only;split
  ·rfl
  cases ls ((s.take<|R s - 1).drop<|i+1)with
  |none=>rfl
  |some b=>exact ny _ _
def bU{q:α×Bool}(h:q.2=true):o7 q=some q.1:=Zn h
theorem bT{q:α×Bool}(h:q.2=false):o7 q=none:=Zm (by grind)
abbrev Hf(s:ba):Ph×Bool:=eU RZ s
def KO(s:ba):List Ph×Bool:=match RZ s with
 |some l=>(l,true)
 |none=>([],false)
def yN(h:RZ s=none):KO s=([],false):=by unfold KO;rw[h]
def yO{l:List Ph}(h:RZ s=some l):KO s=(l,true):=by unfold KO;rw[h]
def lsO_b(h:(Yk s).2=false):KO s=([],false):=by simp_all[yN,PV]
def lsO_g(h:(Yk s).2=true):RZ s=YT (Wl RZ) (Yk s).1:=by rw[PV,Zn h]
theorem cz(s:ba):∀(d:Nat)(a:ba)(qm:List ba),R (TA s d a qm).1<=R qm+R s+1:=by
 induction s with
 |nil=>intro d a qm;show(R<|qm++[a])<=_;simp
 |cons b r c=>
  intro d a qm;have j:=c (d+1) (a++[b]) qm;have g:=c (d - 1) (a++[b]) qm;have e:=c d []<|qm++[a];have f:=c d (a++[b]) qm;rw[Zs,R0]at e;rw[tt,TA];grind
theorem jl(h:¬2000<R s)(c:(KO s).2=false):VJ s=([],7):=by
 refine y4 h ?_;have e:=qE s;by_cases a:(US s).1.2=true/\(US s).2=[]
 ·simp_all[yO]
 grind
def jo(c:(KO s).2=true):(US s).1.2=true/\(US s).2=[]/\(KO s).1=(US s).1.1:=by
 have e:=qE s;by_cases a:(US s).1.2=true/\(US s).2=[]
 all_goals simp_all[yO,yN]
def bM(a:k<6):([.str [104,101,97,116],.str [100,119,101,108,108],.str [113,117,101,110,99,104],.str [117,110,116,105,108],.str [99,111,111,108],.str [114,101,112,101,97,116]]:bi)[k]?=some (.str<|CY k):=match k,a with
 |0,_=>rfl
 |1,_=>rfl
 |2,_=>rfl
 |3,_=>rfl
 |4,_=>rfl
 |5,_=>rfl
def zZ(E:R s<=100000):Ct prog 254 [.str s]<|.Yy [.sl<|(Yk s).1.map λp=>[.str p],.bool (Yk s).2]:=by
 refine cI func254 O<|kr<|kc (S.assign .none O .Ya)<|rr 5 O<|RK.c (S.XG (k:=4) (sz:=1) .none O)<|rr 15 O ?_;refine OK.rU [4] (λ(i:Nat)(f:Nat)(d:Nat)(qm:List ba)=>[(0,.str s),(4,.own 4<|R qm),(2004,.arr 1<|qm.map λp=>[.str p]),(5,bv d),(6,bv f),(7,bv i)]) (λi f d qm=>((f<=i/\i<=R s)/\d<=i/\R qm<=i)/\Yk s=TA (s.drop i) d ((s.take i).drop f) qm) (λi f d qm=>R s - i) 0 0 0 ([]) ⟨⟨⟨Zq _,Zr _⟩,Zq _,Zq _⟩,O⟩ ⟨O,(ZH N),(ZX N),O,O,O,Zo⟩ (λ_ _ _ _=>O) ?_;rintro i f d qm ⟨⟨hi,G,C⟩,u⟩;refine ro 9 O<|kB O (λB=>?_) λB=>?_
 ·have r:i<R s:=by omega
  have m:=np r;have q:=Gn (a:=f) hi.1 r;refine ro 9 O<|kc (S.Xc (n:=i) W6 .none O (zt O) (zt O) O r)<|rr 9 O<|kB O (λx=>?_) λx=>?_
  ·have y:s[i]=40:=Q5 x;have g:Yk s=TA (s.drop<|i+1) (d+1) ((s.take<|i+1).drop f) qm:=by rw[u,m,pt_40 y,←q]
   refine Ro 13 O I<|kB O (λj=>?_) λj=>?_
   ·exfalso;omega
   refine Ro 8 O I ?_;refine Ab.D.lp ⟨i+1,f,d+1,qm,⟨⟨by omega,by omega,by first|omega|(simp;omega)⟩,g⟩,I,O,(ZH F),(ZX F),(OT I),(OT I),O,Zo⟩
  have y:¬s[i]=40:=λe=>x (by rw[e];rfl)
  refine ro 6 O<|kB O (λw=>?_) λw=>?_
  ·have o:s[i]=41:=Q5 w;refine Ro 13 O I<|kB O (λj=>?_) λj=>?_
   ·have z:Yk s=([],false):=by rw[u,m,cy o I]
    refine kr<|kc (S.assign .none O .Ya)<|rr 3 O<|kS O O O O ?_;rw[z];rfl
   have g:Yk s=TA (s.drop<|i+1) (d - 1) ((s.take<|i+1).drop f) qm:=by rw[u,m,cw o I,←q]
   refine Ro 8 O I ?_;refine Ab.D.lp ⟨i+1,f,d - 1,qm,⟨⟨by omega,by omega,by first|omega|(simp;omega)⟩,g⟩,I,O,(ZH F),(ZX F),(OT I),(OT I),O,Zo⟩
  have o:¬s[i]=41:=λe=>w (by rw[e];rfl)
  refine ro 6 O<|kB O (λv=>?_) λv=>?_
  ·have t:s[i]=59:=Q5 v;refine ro 6 O<|kB O (λA=>?_) λA=>?_
   ·have g:Yk s=TA (s.drop<|i+1) d ((s.take<|i+1).drop<|i+1) (qm++[((s.take i).drop f)]):=by rw[u,m,pt_59 t I,ut (l:=s.take<|i+1)<|by rw[sc];omega]
    refine ro 5 O ?_;refine kc (S.VI (lo:=f) (hi:=i) (l':=((s.take i).drop f)) W6 .none O (zt O) (.inr ⟨_,_,O,(zt O),O⟩) (.inr ⟨_,_,O,(zt O),O⟩) I I O)<|RK.c (zM [[_]] Qf O O O O) ?_;refine kc (zP Qf O O F N I<|by simp only[maxLen];omega) ?_;refine Rr 13 O I<|kB O (λj=>?_) λj=>?_
    ·exfalso;omega
    refine Ro 8 O I ?_;refine Ab.D.lp ⟨i+1,i+1,d,qm++[((s.take i).drop f)],⟨⟨by omega,by omega,by first|omega|(simp;omega)⟩,g⟩,I,O,(ZH F),(ZX F),(OT I),(OT I),O,Zo⟩
   have g:Yk s=TA (s.drop<|i+1) d ((s.take<|i+1).drop f) qm:=by rw[u,m,pt_o y o λh=>by omega,←q]
   refine ro 9 O<|kB O (λj=>?_) λj=>?_
   ·exfalso;omega
   refine Ro 8 O I ?_;refine Ab.D.lp ⟨i+1,f,d,qm,⟨⟨by omega,by omega,by first|omega|(simp;omega)⟩,g⟩,I,O,(ZH F),(ZX F),(OT I),(OT I),O,Zo⟩
  have t:¬s[i]=59:=λe=>v (by rw[e];rfl)
  have g:Yk s=TA (s.drop<|i+1) d ((s.take<|i+1).drop f) qm:=by rw[u,m,pt_o y o λh=>t h.1,←q]
  refine ro 9 O<|kB O (λj=>?_) λj=>?_
  ·exfalso;omega
  refine Ro 8 O I ?_;refine Ab.D.lp ⟨i+1,f,d,qm,⟨⟨by omega,by omega,by first|omega|(simp;omega)⟩,g⟩,I,O,(ZH F),(ZX F),(OT I),(OT I),O,Zo⟩
 have z:Yk s=(qm++[s.drop f],decide ((d:Int)=0)):=by rw[u,ut (l:=s) (i:=i) I,sg I,show decide ((d:Int)=0)=decide (d=0)from decide_eq_decide.2 I];rfl
 refine ro 7 O ?_;refine kc (S.VI (lo:=f) (l':=s.drop f) W6 .none O (zt O) (.inr ⟨_,_,O,(zt O),O⟩) (.inl ⟨O,O,O⟩) I I<|by rw[List.take_length]) ?_;refine RK.c (zM [[_]] Qf O O O O) ?_;refine kc (zP Qf O O F N I<|by simp only[maxLen];omega) ?_;refine rr 6 O ?_;refine OK.ret<|Y3.r2 (.tmp O O (.c (.own O O N) O) O) (zo O O) ?_;rw[z,ne]
 all_goals rfl
def Kv(v:R s<=100000)(t:∀q:ba,R q<=R s->Ct prog 255 [.str q] (.Yy [.agg (Hf q).1.cx,.bool (Hf q).2])):Ct prog 205 [.str s]<|.Yy [.sl<|(KO s).1.map Ph.cs,.bool (KO s).2]:=by
 refine cI func205 O λ{_ _}=>?_
 have r:R (Yk s).1<=R s+1:=by have:=cz s 0 [] [];rwa [aυ,wc]at this
 have j:=@O_ s;refine kr<|kc (S.assign .none O .Ya)<|rr 6 O<|kc (zK (zZ I) call254 O) ?_;refine rr 11 O<|kc (S.not .none O<|zt O)<|kD<|OK.cond O O (λe=>?_) λe=>?_
 ·have g:=lsO_b (s:=s) (by simpa using e);refine kr<|kc (S.assign .none O .Ya)<|rr 3 O<|kS O O O O ?_;rw[g];rfl
 have l:(Yk s).2=true:=by simpa using e
 have f:=lsO_g l;refine ro 4 O<|RK.c (S.XG (k:=6) (sz:=6) .none O)<|rr 9 O ?_;refine OK.We [6] (λ(i:Nat)(qm:List Ph)=>[(4,.sl<|(Yk s).1.map λp=>[.str p]),(6,.own 6<|R qm),(2006,.arr 6<|qm.map Ph.cx),(7,bv i)]) (λi qm=>(i<=R (Yk s).1/\R qm<=i)/\YT (Wl RZ) (Yk s).1=(YT (Wl RZ)<|(Yk s).1.drop i).map (qm++ ·)) (λi qm=>R (Yk s).1 - i) 0 ([]) ⟨⟨Zr _,Zq _⟩,by simp⟩ ⟨O,(ZH N),(ZX N),O,Zo⟩ (λ_ _=>O) ?_;rintro i qm ⟨⟨hi,u⟩,n⟩;refine ro 5 O<|kc (zk X1 O)<|rr 3 O<|kB O (λo=>?_) λo=>?_
 ·have a:i<R (Yk s).1:=by omega
  refine ro 8 O<|kc (zI X1 O I O)<|kc (zV T6 O O) ?_;refine kc (zK (t _<|j<|Zt a) call255 O) ?_;refine rr 12 O<|kc (S.not .none O<|zt O)<|kD<|OK.cond O O (λd=>?_) λd=>?_
  ·have g:KO s=([],false):=yN (f.trans<|QH n a<|by rw[pI];exact bT<|by simpa using d);refine kr<|kc (S.assign .none O .Ya)<|rr 3 O<|kS O O O O ?_;rw[g];rfl
  have m:(Hf (Yk s).1[i]).2=true:=by simpa using d
  refine ro 5 O ?_;refine RK.c (zM [[_,_,_,_,_,_]] My O O O O) ?_;refine kc (zP My O O F N I<|by simp only[maxLen];omega) ?_;refine Rr 9 O I ?_;refine Ab.D.lp ⟨i+1,qm++[(Hf (Yk s).1[i]).1],⟨⟨by omega,by rw[Zs,R0];omega⟩,JF n a<|by rw[pI];exact bU m⟩,I,O,(ZH F),(ZX<|by rw[ne];rfl),O,Zo⟩
 have g:KO s=(qm,true):=yO<|f.trans<|MC n I;refine ro 9 O ?_;refine OK.ret<|Y3.r2 (.tmp O O (.c (.own O O N) O) O) (zo O O) ?_;rw[g,yp];try rfl
def uQ(a:k<6):Ct prog 287 [bv k]<|.str<|CY k:=by
 refine cI func287 O<|ro 9 O<|kc (zK Y4 call98 O)<|kc (S.Xb .none O<|zt O)<|kD<|kB O (λc=>?_) λc=>?_
 ·exfalso;omega
 refine ro 4 O<|kc (zU bu425 O O)<|jm O<|kc (S.lg (i:=k) underlying425 T6 .none O (zt O) (zt O) O I (bM a) O) ?_;refine rr 3 O<|kR O O ?_;rfl
variable{i:Nat}
def Uk{l:List α}{d:α}(h:i<R l):l.getD i d=l[i]:=by simp_all
abbrev eT(b:Nat)(p:Ph):HM Unit:=λ_=>some (b,.box p.cx)
def QV(M:HM Unit)(b:Nat)(p:Ph):M.set () (some (b,.box p.cx))=eT b p:=by rfl
theorem kUp_0(w:ba):tG w 0= -1:=by grind [tG]
def eD(a:k<6)(h:w=CY k):tG w (k+1)=k:=by simp_all[tG,oJ]
theorem eC(h:¬w=CY k):tG w (k+1)=tG w k:=by
 unfold tG;cases e:ix (λm=>decide<|w=m) XP with
 |none=>rfl
 |some j=>
  have c:j≠k:=λa=>h (a▸(BA e).2)
  grind
def kUp_n(h:ix (λm=>decide<|w=m) XP=none):tG w 6= -1:=by unfold tG;rw[h]
def kUp_s(h:ix (λm=>decide<|w=m) XP=some k):tG w 6=k:=by unfold tG;rw[h];exact Zn (BA h).1
section
variable{h s:ba}{b:List Ph}{k i:Nat}
def hdX_k(e:ix (λn=>decide<|(Z7 32 h).getD 0 []=n) XP=none):Bh h b=(.mk (-1) 0 0 0 0 b,false):=by unfold Bh;rw[e]
def hdX_m(e:ix (λn=>decide<|(Z7 32 h).getD 0 []=n) XP=some k)(a:decide (k=5)≠decide (0<R b)):Bh h b=(.mk k 0 0 0 0 b,false):=by simp_all[Bh]
def hdX_l(e:ix (λn=>decide<|(Z7 32 h).getD 0 []=n) XP=some k)(c:¬decide (k=5)≠decide (0<R b))(a:R (Z7 32 h)≠R (ZE k)+1):Bh h b=(.mk k 0 0 0 0 b,false):=by simp_all[Bh]
def hdX_n(e:ix (λn=>decide<|(Z7 32 h).getD 0 []=n) XP=some k)(c:¬decide (k=5)≠decide (0<R b))(a:¬R (Z7 32 h)≠R (ZE k)+1):Bh h b=Qw (ZE k) ((Z7 32 h).drop 1) (.mk k 0 0 0 0 b):=by simp_all[Bh]
def pJ(e:ix (λb=>b==40) s=none):Hf s=Bh s []:=by unfold Hf eU;rw[e]
def cq(e:ix (λb=>b==40) s=some i)(h:i=0):Hf s=(Ph.zero,false):=by simp_all[eU]
def cu(e:ix (λb=>b==40) s=some i)(hi:i - 1<R s)(h:¬s[i - 1]=32):Hf s=(Ph.zero,false):=by simp_all[eU]
def cv(e:ix (λb=>b==40) s=some i)(hi:R s - 1<R s)(h:¬s[R s - 1]=41):Hf s=(Ph.zero,false):=by simp_all[eU]
abbrev ij(s:ba)(i:Nat):ba:=(s.take<|s.length - 1).drop<|i+1
theorem phX_c(e:ix (λb=>b==40) s=some i)(h0:¬i=0)(hi:i - 1<R s)(h:s[i - 1]=32)(a:R s - 1<R s)(c:s[R s - 1]=41):Hf s=if(KO<|ij s i).2=true then Bh (s.take<|i - 1) (KO<|ij s i).1 else(Ph.zero,false):=by
 unfold Hf eU;rw[e];refine(Zm ?_).trans ?_
 ·simp_all
 unfold KO;grind
end
def uP(k:Nat):Bool:=decide<|k=0\/k=3
def uL(k:Nat):Bool:=decide<|k=2\/k=4
def uK(k:Nat):Bool:=decide<|k=3\/k=4
def uB(k:Nat):Bool:=decide<|k=5
def fK(k:Nat):bc:=if uK k=true then [4]else []
def fP(k:Nat):bc:=fK k++if uP k=true then [1]else []
def fL(k:Nat):bc:=fP k++if uL k=true then [2]else []
def fL_3(h:k<6):ZE k=fL k++[3]:=match k,h with
 |0,_=>rfl
 |1,_=>rfl
 |2,_=>rfl
 |3,_=>rfl
 |4,_=>rfl
 |5,_=>rfl
def fK_T(h:uK k=true):fK k=[4]:=Zn h
theorem fK_F(h:uK k=false):fK k=[]:=Zm (by grind)
theorem fP_T(h:uP k=true):fP k=fK k++[1]:=by unfold fP;grind
def fP_F(h:uP k=false):fP k=fK k:=by simp_all[fP]
theorem fL_T(h:uL k=true):fL k=fP k++[2]:=by unfold fL;grind
def fL_F(h:uL k=false):fL k=fP k:=by simp_all[fL]
theorem aJ(k:Nat):R (fK k)<=1/\R (fP k)<=2/\R (fL k)<=3:=by
 grind [fL,fP,fK]
abbrev pR(b:Nat)(fs:bc):List bi:=fs.map λf=>[X.raw<|.pointer<|some ⟨b,0+f,none⟩]
def oX{a:List ba}(hi:i<R (ZE k))(hw:i+1<R a)(h:YB a[i+1] 5=true):Qw ((ZE k).drop i) (a.drop<|i+1) p=Qw ((ZE k).drop<|i+1) (a.drop<|i+2) (p.Kx (ZE k)[i]<|YZ a[i+1]):=by
 rw[np hi,np hw,Qw,Zn h]
theorem BH{a:List ba}(hi:i<R (ZE k))(hw:i+1<R a)(h:YB a[i+1] 5=false):Qw ((ZE k).drop i) (a.drop<|i+1) p=(p,false):=by
 rw[np hi,np hw,Qw,Zm<|by grind]
def gx{f:Nat}(h:1<=f/\f<=4)(n:Int):p.cx.take (0+f)++((Yv<|bv n).map xI++p.cx.drop (0+f+1))=(p.Kx f n).cx:=by
 cases p;rcases(show f=1\/f=2\/f=3\/f=4 by omega)with rfl|rfl|rfl|rfl<;>rfl
def ay{f:Nat}(h:1<=f/\f<=4):Nat.ble (0+f+1) (R p.cx)=true:=by
 rcases(show f=1\/f=2\/f=3\/f=4 by omega)with rfl|rfl|rfl|rfl<;>rfl
def iU(h:(Wn w 5).2=true)(h0:0<=(Wn w 5).1):YB w 5=true/\(Wn w 5).1=YZ w:=by
 have c:=@PM w 5;have a:TF w 5=true:=by simp_all
 exact⟨by simp_all[Tt],by rw[c.2 a,O8 C a]⟩
theorem wU(h:(Wn w 5).2=false\/(Wn w 5).1<0):YB w 5=false:=by
 rw[Tt w C,←(@PM w 5).1];grind
theorem m5{n:Nat}(h:decide ((k:Int)=5)=decide (0<n)):¬decide (k=5)≠decide (0<n):=by
 grind
theorem m5n{n:Nat}(h:¬decide ((k:Int)=5)=decide (0<n)):decide (k=5)≠decide (0<n):=by grind
def uO(h:k<6):Ct prog 288 [bv k]<|.agg [.bool<|uP k,.bool<|uL k,.bool<|uK k,.bool<|uB k]:=match k,h with
 |0,_=>Vd (k:=0)
 |1,_=>Vd (k:=1)
 |2,_=>Vd (k:=2)
 |3,_=>Vd (k:=3)
 |4,_=>Vd (k:=4)
 |5,_=>Vd (k:=5)
def LX(hl:R s<=100000)(hls:∀q:ba,R q<R s->Ct prog 205 [.str q] (.Yy [.sl<|(KO q).1.map Ph.cs,.bool (KO q).2])):Ct prog 255 [.str s]<|.Yy [.agg (Hf s).1.cx,.bool (Hf s).2]:=by
 refine cI func255 O<|OK.OC Unit<|ro 16 O ?_;refine OK.join (G:=(Nat×ba×List Ph)) [2] (λg=>[(0,.str g.2.1),(2,.ptr 2 0),(1002,.box [bv 0,bv 0,bv 0,bv 0,bv 0,.ZM]),(4,.raw<|pV g.1),(3000,.res<|Z9<|eT g.1<|Ph.mk 0 0 0 0 0 g.2.2)]) (λg=>Hf s=Bh g.2.1 g.2.2/\R g.2.1<=R s) (λ_=>O) ?_ ?_
 ·refine kO<|OK.eu (qs:=Ph.zero.cx) [2] [(0,.str s),(2,.ptr 2 0),(1002,.box [bv 0,bv 0,bv 0,bv 0,bv 0,.ZM])] 4 () O O O O O O ⟨O,O,O,Zo⟩ O O ⟨.inl ⟨O,O⟩,.inl ⟨O,O⟩,.inl ⟨O,O⟩,.inl ⟨O,O⟩,.inl ⟨O,O⟩,.inr ⟨O,O⟩,Zo⟩ λb=>?_;refine ro 5 O ?_;refine OK.loop (G:=Nat) [2] (λi=>[(0,.str s),(2,.ptr 2 0),(1002,.box [bv 0,bv 0,bv 0,bv 0,bv 0,.ZM]),(4,.raw<|pV b),(6,bv i),(3000,.res<|Z9<|eT b<|Ph.mk 0 0 0 0 0 [])]) (λi=>i<=R s/\ix (λb=>b==40) s=VF (λb=>b==40) i (s.drop i)) (λi=>R s - i) 0 ⟨Zr _,O⟩ ⟨O,O,O,O,O,(AE<|QV _ _<|Ph.mk 0 0 0 0 0 []),Zo⟩ (λ_=>O) ?_;rintro i ⟨hi,E⟩;refine ro 9 O<|kB O (λc19=>?_) λc19=>?_
  ·have j:i<R s:=by omega
   refine ro 8 O<|kc (S.Xc (n:=i) W6 .none O (zt O) (zt O) O j)<|rr 3 O<|kB O (λT=>?_) λT=>?_
   ·have hb:s[i]=40:=Q5 T;have he:ix (λb=>b==40) s=some i:=by rw[E,Wf _ j,hb];rfl
    refine ro 6 O<|RK.ZS (t:=28) O (λg28=>?_) λg28=>?_
    ·have f:Hf s=(Ph.zero,false):=cq he I;refine rr 19 O ?_;refine kc (zJ (us:=Ph.zero.cx) X0 O<|Z9.KL (k:=()) (xs:=Ph.zero.cx) O ⟨.same _,.same _,.same _,.same _,.same _,.same _,Zo⟩ O) ?_;refine rr 4 O<|kT O O X0 O O O ?_;rw[f];try rfl
    have hi0:¬i=0:=by omega
    have Z:i - 1<R s:=by omega
    have Y:R s - 1<R s:=by omega
    refine Rr 3 O I<|kc (S.Xc (n:=(i - 1)) W6 (zg O O) O (zt O) (zt O) I I) ?_;refine rr 3 O<|RK.ZS (t:=35) O (λK=>?_) λK=>?_
    ·have f:Hf s=(Ph.zero,false):=cu he Z λe=>K (by rw[e];rfl)
     refine rr 12 O ?_;refine kc (zJ (us:=Ph.zero.cx) X0 O<|Z9.KL (k:=()) (xs:=Ph.zero.cx) O ⟨.same _,.same _,.same _,.same _,.same _,.same _,Zo⟩ O) ?_;refine rr 4 O<|kT O O X0 O O O ?_;rw[f];try rfl
    have hb32:s[i - 1]=32:=Q5<|Zu.1 K;refine Rr 4 O I<|kc (S.Xc (n:=(R s - 1)) W6 (zg O O) O (zt O) (zt O) I I) ?_;refine rr 4 O<|kB O (λQ=>?_) λQ=>?_
    ·have f:Hf s=(Ph.zero,false):=cv he Y λe=>Q (by rw[e];rfl)
     refine kr<|kc (zJ (us:=Ph.zero.cx) X0 O<|Z9.KL (k:=()) (xs:=Ph.zero.cx) O ⟨.same _,.same _,.same _,.same _,.same _,.same _,Zo⟩ O) ?_;refine rr 4 O<|kT O O X0 O O O ?_;rw[f];try rfl
    have H:s[R s - 1]=41:=Q5<|Zu.1 Q;have U:=phX_c he hi0 Z hb32 Y H;have hi3:i≠R s - 1:=λe=>absurd (by rw[←H];simp only[←e];exact hb) (show¬(41:UInt8)=40 by decide)
    have hlt:R (ij s i)<R s:=by rw[vd,sc];omega
    refine ro 3 O ?_;refine kV (.c (zm O)<|.c (zm O)<|.c (S.sub .none O (zt O) (.Zg O) (mn _ I)<|mn _ I)<|.c (S.VI (hi:=(i - 1)) (l':=s.take<|i - 1) W6 .none O (zt O) (.inl ⟨O,O,O⟩) (.inr ⟨_,_,O,(zt O),I⟩) (Zr _) I O)<|.c (zm O)<|.c (zm O)<|.c (zp O O I)<|.c (zm O)<|.c (S.qV underlying9 .none O<|zt O)<|.c (S.sub .none O (zt O) (.Zg O) (mn _ I)<|mn _ I)<|.c (S.VI (lo:=(i+1)) (hi:=(R s - 1)) (l':=ij s i) W6 .none O (zt O) (.inr ⟨_,_,O,(zt O),O⟩) (.inr ⟨_,_,O,(zt O),I⟩) I I O)<|.c (za O)<|.c (za O) .nil) ?_;refine rd 4 O ?_;refine kc (zK (hls _ hlt) call205 O) ?_;refine rr 11 O<|kc (S.not .none O<|zt O)<|kD<|OK.cond O O (λP=>?_) λP=>?_
    ·have f:Hf s=(Ph.zero,false):=U.trans (Zm<|by simpa using P);refine kr<|kc (zJ (us:=Ph.zero.cx) X0 O<|Z9.KL (k:=()) (xs:=Ph.zero.cx) O ⟨.same _,.same _,.same _,.same _,.same _,.same _,Zo⟩ O) ?_;refine rr 4 O<|kT O O X0 O O O ?_;rw[f];try rfl
    have f:Hf s=Bh (s.take<|i - 1) (KO<|ij s i).1:=U.trans (Zn<|by simpa using P);refine ro 6 O<|kc (S.Yf (xs:=Ph.zero.cx) (xs':=(Ph.mk 0 0 0 0 0 (KO<|ij s i).1).cx) (()) EX .none (zt O) (zt O) O O O O O O O)<|rr 3 O ?_;refine Ab.D.lp ⟨(b,s.take<|i - 1,(KO<|ij s i).1),⟨f,by first|exact Zq _|(rw[sc];omega)⟩,O,O,O,O,(AE<|by first|exact QV _ _ (Ph.mk 0 0 0 0 0 (KO<|ij s i).1)|rfl),Zo⟩
   have hb:¬s[i]=40:=λe=>T (by rw[e];rfl)
   refine Ro 8 O I ?_;refine Ab.D.lp ⟨i+1,⟨by omega,by rw[E,Wf _ j,Zm<|by rw[beq_iff_eq];exact hb]⟩,I,O,O,O,O,O,O,Zo⟩
  have f:Hf s=Bh s []:=pJ (by rw[E,ut I];rfl);refine OK.exit O ?_;refine Ab.D.lp ⟨(b,s,[]),⟨f,by first|exact Zq _|(rw[sc];omega)⟩,O,O,O,O,(AE<|by first|exact QV _ _ (Ph.mk 0 0 0 0 0 (KO<|ij s i).1)|rfl),Zo⟩
 rintro g ⟨u,hgl⟩;obtain⟨b,o,r⟩:=g;dsimp only at u hgl⊢;have h0:0<R (Z7 32 o):=aη.2<|UN 32 o;have hW:((Z7 32 o).getD 0 [])=(Z7 32 o)[0]:=Uk h0;refine ro 3 O<|kc (zK (Rl (l:=o) (c:=32) I) call39 O) ?_;refine rr 6 O<|kc (S.Yf (xs:=(Ph.mk 0 0 0 0 0 r).cx) (xs':=(Ph.mk (-1) 0 0 0 0 r).cx) (()) YK .none (zt O) (.Zg O) O O O O O O O)<|rr 9 O ?_;refine OK.loop (G:=Nat) [2] (λn=>[(2,.ptr 2 0),(1002,.box [bv 0,bv 0,bv 0,bv 0,bv 0,.ZM]),(4,.raw<|pV b),(9,.sl<|(Z7 32 o).map λp=>[.str p]),(10,bv n),(3000,.res<|Z9<|eT b<|Ph.mk (tG ((Z7 32 o).getD 0 []) n) 0 0 0 0 r)]) (λn=>n<=6) (λn=>6 - n) 0 (Zr _) ⟨O,O,O,O,O,(AE<|by rw[kUp_0];exact QV _ _<|Ph.mk (-1) 0 0 0 0 r),Zo⟩ (λ_=>O) ?_;rintro n hn;refine ro 7 O<|kB O (λc69=>?_) λc69=>?_
 ·refine ro 5 O<|kV (.c (zm O)<|.c (S.Zi (n:=0) X1 .none O (zt O) (.Zg O) O h0 O)<|.c (zV T6 O O)<|.c (zm O)<|.c (zK (uQ (k:=n) I) call287 O)<|.c (S.vl .none O (zt O)<|zt O) .nil)<|Ab.D.code<|kB O (λM=>?_) λM=>?_
  ·have hw:((Z7 32 o).getD 0 [])=CY n:=hW.trans M;refine ro 3 O<|kc (S.Yf (xs:=(Ph.mk (tG ((Z7 32 o).getD 0 []) n) 0 0 0 0 r).cx) (xs':=(Ph.mk n 0 0 0 0 r).cx) (()) YK .none (zt O) (zt O) O O O O O O O)<|Rr 8 O I ?_;refine Ab.D.lp ⟨n+1,I,I,O,O,O,O,O,(AE<|by first|(rw[eD I hw];exact QV _ _<|Ph.mk n 0 0 0 0 r)|rw[eC hw]),Zo⟩
  have hw:¬((Z7 32 o).getD 0 [])=CY n:=λe=>M<|hW.symm.trans e
  refine Ro 8 O I ?_;refine Ab.D.lp ⟨n+1,I,I,O,O,O,O,O,(AE<|by first|(rw[eD I hw];exact QV _ _<|Ph.mk n 0 0 0 0 r)|rw[eC hw]),Zo⟩
 refine ro 4 O ?_;rcases hek:ix (λm=>decide (((Z7 32 o).getD 0 [])=m)) XP with _|k
 ·rw[show n=6 by omega,kUp_n hek];have f:=u.trans<|hdX_k hek;refine ro 2 O ?_;refine kc (zH YK O<|Z9.Xh (k:=()) O O<|.same _) ?_;refine rr 2 O<|RK.ZS (t:=83) O (λx=>?_) λx=>?_
  ·refine rr 14 O ?_;refine kc (zJ (us:=(Ph.mk (-1) 0 0 0 0 r).cx) X0 O<|Z9.KL (k:=()) (xs:=(Ph.mk (-1) 0 0 0 0 r).cx) O ⟨.same _,.same _,.same _,.same _,.same _,.same _,Zo⟩ O) ?_;refine rr 4 O<|kT O O X0 O O O ?_;rw[f];try rfl
  exact absurd (show(-1:Int)<0 by decide) x
 rw[show n=6 by omega,kUp_s hek];have W:=(BA hek).1;refine ro 2 O ?_;refine kc (zH YK O<|Z9.Xh (k:=()) O O<|.same _) ?_;refine rr 2 O<|RK.ZS (t:=83) O (λx=>?_) λx=>?_
 ·exact absurd (show((k:Nat):Int)<0 from x) I
 refine kc (S.Ub gM (zg O O) O<|zt O)<|kc (S.Uc YK (zg O O) O (zt O) O<|Z9.Xh (k:=()) O O<|.same _) ?_;refine rr 2 O ?_;refine kc (S.Uc EX (zg O O) O (zt O) O<|Z9.Xh (k:=()) O O<|.same _)<|kc (S.OF XQ (zg O O) O<|zt O)<|kc (S.gtr (zg O O) O (zt O)<|.Zg O)<|kc (S.lS underlying4 (zg O O) O (zt O)<|zt O) ?_;refine rr 3 O<|kB O (λz=>?_) λz=>?_
 ·simp[Ph.kind,Ph.body]at z;have f:=u.trans<|hdX_m hek (b:=r)<|m5n z;refine kr<|kc (zJ (us:=(Ph.mk k 0 0 0 0 r).cx) X0 O<|Z9.KL (k:=()) (xs:=(Ph.mk k 0 0 0 0 r).cx) O ⟨.same _,.same _,.same _,.same _,.same _,.same _,Zo⟩ O) ?_;refine rr 4 O<|kT O O X0 O O O ?_;rw[f];try rfl
 simp[Ph.kind,Ph.body]at z;have hm:¬decide (k=5)≠decide (0<R r):=m5 z;have hfl:=aJ k;refine ro 5 O ?_;refine kc (zH YK O<|Z9.Xh (k:=()) O O<|.same _)<|kc (zK (uO W) call288 O) ?_;refine rr 6 O<|RK.c (S.XG (k:=12) (sz:=1) .none O)<|kD ?_;refine OK.join (G:=Unit) [12,11,2] (λ_=>[(2,.ptr 2 0),(1002,.box [bv 0,bv 0,bv 0,bv 0,bv 0,.ZM]),(4,.raw<|pV b),(9,.sl<|(Z7 32 o).map λp=>[.str p]),(11,.ptr 11 0),(1011,.box [.bool<|uP k,.bool<|uL k,.bool<|uK k,.bool<|uB k]),(12,.own 12<|R<|fK k),(2012,.arr 1<|pR b<|fK k),(3000,.res<|Z9<|eT b<|Ph.mk k 0 0 0 0 r)]) (λ_=>True) (λ_=>O) ?_ ?_
 ·refine ro 6 O<|OK.cond O O (λL=>?_) λL=>?_
  ·have a:=fK_T L;refine ro 3 O ?_;refine RK.c (zM [[_]] Qz O O O O) ?_;refine kc (zP Qz O O F N I<|by simp only[maxLen];omega) ?_;refine ja O (RK.nil<|Ab.D.lp ⟨(),Zo,O,O,O,O,O,O,(ZH<|by simp[a]),(ZX<|by simp[a]),O,Zo⟩)
  have a:=fK_F L;refine OK.skip (Ab.D.lp ⟨(),Zo,O,O,O,O,O,O,(ZH<|by simp[a]),(ZX<|by simp[a]),O,Zo⟩)
 rintro _ _;refine OK.join (G:=Unit) [12,11,2] (λ_=>[(2,.ptr 2 0),(1002,.box [bv 0,bv 0,bv 0,bv 0,bv 0,.ZM]),(4,.raw<|pV b),(9,.sl<|(Z7 32 o).map λp=>[.str p]),(11,.ptr 11 0),(1011,.box [.bool<|uP k,.bool<|uL k,.bool<|uK k,.bool<|uB k]),(12,.own 12<|R<|fP k),(2012,.arr 1<|pR b<|fP k),(3000,.res<|Z9<|eT b<|Ph.mk k 0 0 0 0 r)]) (λ_=>True) (λ_=>O) ?_ ?_
 ·refine ro 6 O<|OK.cond O O (λB=>?_) λB=>?_
  ·have a:=fP_T B;refine ro 3 O ?_;refine RK.c (zM [[_]] Qz O O O O) ?_;refine kc (zP Qz O O F N I<|by simp only[maxLen];omega) ?_;refine ja O (RK.nil<|Ab.D.lp ⟨(),Zo,O,O,O,O,O,O,(ZH<|by simp[a]),(ZX<|by simp[a]),O,Zo⟩)
  have a:=fP_F B;refine OK.skip (Ab.D.lp ⟨(),Zo,O,O,O,O,O,O,(ZH<|by simp[a]),(ZX<|by simp[a]),O,Zo⟩)
 rintro _ _;refine OK.join (G:=Unit) [12,11,2] (λ_=>[(2,.ptr 2 0),(1002,.box [bv 0,bv 0,bv 0,bv 0,bv 0,.ZM]),(4,.raw<|pV b),(9,.sl<|(Z7 32 o).map λp=>[.str p]),(11,.ptr 11 0),(1011,.box [.bool<|uP k,.bool<|uL k,.bool<|uK k,.bool<|uB k]),(12,.own 12<|R<|fL k),(2012,.arr 1<|pR b<|fL k),(3000,.res<|Z9<|eT b<|Ph.mk k 0 0 0 0 r)]) (λ_=>True) (λ_=>O) ?_ ?_
 ·refine ro 6 O<|OK.cond O O (λA=>?_) λA=>?_
  ·have a:=fL_T A;refine ro 3 O ?_;refine RK.c (zM [[_]] Qz O O O O) ?_;refine kc (zP Qz O O F N I<|by simp only[maxLen];omega) ?_;refine ja O (RK.nil<|Ab.D.lp ⟨(),Zo,O,O,O,O,O,O,(ZH<|by simp[a]),(ZX<|by simp[a]),O,Zo⟩)
  have a:=fL_F A;refine OK.skip (Ab.D.lp ⟨(),Zo,O,O,O,O,O,O,(ZH<|by simp[a]),(ZX<|by simp[a]),O,Zo⟩)
 rintro _ _;refine ro 4 O ?_;refine RK.c (zM [[_]] Qz O O O O) ?_;refine kc (zP Qz O O F N I<|by simp only[maxLen];omega) ?_;refine rr 5 O ?_;have hf3:=fL_3 W;have hfr:pR b (fL k)++[[X.raw<|.pointer<|some ⟨b,0+3,none⟩]]=pR b (ZE k):=by rw[hf3];show _=List.map _ _;rw[ne];rfl
 have hfn:R (ZE k)=R (fL k)+1:=by rw[hf3,Zs,R0]
 refine OK.freeze 12 O O O F ?_;rw[hfr];refine OK.R3<|jm O<|kc (zk X1 O)<|jm O<|kc (zk vE O)<|Rr 4 O I<|kB O (λc124=>?_) λc124=>?_
 ·have f:=u.trans<|hdX_l hek hm I;refine kr<|kc (zJ (us:=(Ph.mk k 0 0 0 0 r).cx) X0 O<|Z9.KL (k:=()) (xs:=(Ph.mk k 0 0 0 0 r).cx) O ⟨.same _,.same _,.same _,.same _,.same _,.same _,Zo⟩ O) ?_;refine rr 4 O<|kT O O X0 O O O ?_;rw[f];try rfl
 have hln:R (Z7 32 o)=R (ZE k)+1:=by omega
 have hpn:=u.trans<|hdX_n hek hm<|Zp hln;refine ro 9 O ?_;refine OK.We [2] (λ(i:Nat)(p:Ph)=>[(2,.ptr 2 0),(1002,.box [bv 0,bv 0,bv 0,bv 0,bv 0,.ZM]),(4,.raw<|pV b),(9,.sl<|(Z7 32 o).map λp=>[.str p]),(12,.sl<|pR b<|ZE k),(13,bv i),(3000,.res<|Z9<|eT b p)]) (λi p=>i<=R (ZE k)/\Hf s=Qw ((ZE k).drop i) ((Z7 32 o).drop<|i+1) p) (λi p=>R (ZE k) - i) 0 ((Ph.mk k 0 0 0 0 r)) ⟨Zr _,hpn⟩ ⟨O,O,O,O,O,O,O,Zo⟩ (λ_ _=>O) ?_;rintro i p ⟨hi,E⟩;refine ro 5 O<|kc (zk vE O)<|rr 3 O<|kB O (λc129=>?_) λc129=>?_
 ·have j:i<R (ZE k):=by omega
  have v:i+1<R (Z7 32 o):=by omega
  refine Ro 9 O I<|kc (S.Zi (n:=(i+1)) X1 .none O (zt O) (zt O) O v O)<|kc (zV T6 O O) ?_;refine kc (zK (Sw (d:=5) (by have:=Xs (c:=32) _<|Zt v;omega) C) call73 O) ?_;refine rr 11 O<|kc (S.not .none O<|zt O)<|jm O<|RK.split (t:=143) O (λy=>?_) λy=>?_
  ·have f:=E.trans (BH j v<|wU<|.inl<|by simpa using y);refine rr 8 O ?_;refine kc (zJ (us:=p.cx) X0 O<|Z9.KL (k:=()) (xs:=p.cx) O ⟨.same _,.same _,.same _,.same _,.same _,.same _,Zo⟩ O) ?_;refine rr 4 O<|kT O O X0 O O O ?_;rw[f];try rfl
  refine rr 5 O<|kB O (λJ=>?_) λJ=>?_
  ·have f:=E.trans<|BH j v<|wU<|.inr J;refine kr<|kc (zJ (us:=p.cx) X0 O<|Z9.KL (k:=()) (xs:=p.cx) O ⟨.same _,.same _,.same _,.same _,.same _,.same _,Zo⟩ O) ?_;refine rr 4 O<|kT O O X0 O O O ?_;rw[f];try rfl
  have V:=iU (w:=(Z7 32 o)[i+1]) (by simpa using y) I;rw[V.2];refine ro 5 O<|kc (zI vE O j O)<|rr 3 O ?_;refine kc (S.Yf (xs:=p.cx) (xs':=(p.Kx (ZE k)[i]<|YZ (Z7 32 o)[i+1]).cx) (()) YK .none (zt O) (zt O) O O O O O (ay<|Rq j)<|gx (Rq j) _) ?_;refine Rr 8 O I ?_;refine Ab.D.lp ⟨i+1,(p.Kx (ZE k)[i]<|YZ (Z7 32 o)[i+1]),⟨by omega,by rw[E,oX j v V.1]⟩,I,O,O,O,O,O,O,(AE<|QV _ _ _),Zo⟩
 have f:Hf s=(p,true):=by rw[E,ut (l:=ZE k) I];rfl
 refine ro 4 O ?_;refine kc (zJ (us:=p.cx) X0 O<|Z9.KL (k:=()) (xs:=p.cx) O ⟨.same _,.same _,.same _,.same _,.same _,.same _,Zo⟩ O) ?_;refine rr 4 O<|kT O O X0 O O O ?_;rw[f];try rfl
def IP(a:R s<=100000):Ct prog 205 [.str s]<|.Yy [.sl<|(KO s).1.map Ph.cs,.bool (KO s).2]:=by
 have vy:∀(n:Nat)(s:ba),R s<n->R s<=100000->Ct prog 205 [.str s] (.Yy [.sl<|(KO s).1.map Ph.cs,.bool (KO s).2]):=by
  intro n
  induction n with
  |zero=>intro s h;omega
  |succ n c=>exactλs h a=>Kv a λq e=>LX I λr d=>c r I I
 exact vy _ s (cπ _) a
def LW(j:R s<=100000):Ct prog 158 [.str s]<|.Yy [.sl<|(VJ s).1.map Ph.cs,bv (VJ s).2]:=by
 refine cI func158 O<|kr<|kc (S.assign .none O .Ya)<|rr 11 O<|kB O (λn=>?_) λn=>?_
 ·have a:=pS (s:=s) I;refine kr<|kc (S.assign .none O .Ya)<|rr 3 O<|kS O O O O ?_;rw[a];try rfl
 have e:¬2000<R s:=I
 refine ro 5 O<|kc (zK (IP (s:=s) j) call205 O)<|rr 11 O<|kc (S.not .none O<|zt O)<|kD<|OK.cond O O (λd=>?_) λd=>?_
 ·have a:=jl e (by simpa using d);refine kr<|kc (S.assign .none O .Ya)<|rr 3 O<|kS O O O O ?_;rw[a];try rfl
 obtain⟨g,f,m⟩:=jo (s:=s) (by simpa using d);rw[m];refine ro 6 O<|kc (zK (IM (l:=(US s).1.1)) call206 O)<|rr 9 O<|kB O (λc=>?_) λc=>?_
 ·have a:=pT e g f c;refine ro 3 O<|kc (S.assign .none O .Ya)<|rr 3 O<|kS O O O O ?_;rw[a];try rfl
 have a:=pQ e g f<|Zu.1 c;refine ro 9 O<|kS O O O O ?_;rw[a];try rfl
def QA(g:α->Bool)(l:List α):Int:=(R (l.filter g):Int)
theorem AU(g:α->Bool){l:List α}(h:i<R l):QA g (l.take<|i+1)=if g l[i]=true then QA g (l.take i)+1 else QA g (l.take i):=by
 grind [QA,List.take_succ_eq_append_getElem]
def l6(g:α->Bool)(l:List α):QA g l<=R l:=by
 simp[QA,cσ]
def E7(g:α->Bool){l:List α}(h:i<R l):(l.drop i).all g=(g l[i]&&(l.drop<|i+1).all g):=by
 rw[np h,so]
def Ns{s:State}{n:Int}:Ct prog 18 [.agg s.cs,bv n]<|bv<|ZC (λp:Part=>decide<|p.num=n) 0 s.parts:=by
 refine cI func18 O<|OK.Qd 0 2 (s.parts.map Part.cs) O O O λqk=>?_;rw[Zx]at qk;unfold maxLen at qk;refine ro 13 O ?_;refine OK.loop (G:=Nat) [2] (λi=>[(2,.ptr 2 0),(1002,.box s.cs),(5,bv i),(1,bv n)]) (λi=>i<=R s.parts/\ZC (λp:Part=>decide<|p.num=n) 0 s.parts=ZC (λp:Part=>decide<|p.num=n) i (s.parts.drop i)) (λi=>R s.parts - i) 0 ⟨Zr _,O⟩ ⟨O,O,O,O,Zo⟩ (λ_=>O) ?_;rintro i ⟨hi,a⟩;refine ro 6 O<|kc (zk VD O)<|rr 3 O<|kB O (λd=>?_) λd=>?_
 ·have e:i<R s.parts:=by omega
  refine ro 9 O<|kc (zI VD O I O) ?_;refine rr 6 O<|kB O (λc=>?_) λc=>?_
  ·refine ro 6 O<|kR O O ?_;refine YL ?_;rw[a,Y0 _ I];simp_all
  refine Ro 8 O I (Ab.D.lp ⟨i+1,⟨by omega,?_⟩,I,O,O,O,O,Zo⟩);rw[a,Y0 _ I];simp_all
 refine ro 7 O<|kR O O ?_;refine YL ?_;have:i=R s.parts:=by omega
 subst this;rw[a,da];rfl
variable{n:ba}
def NV{s:State}:Ct prog 154 [.agg s.cs,.str n]<|bv<|ZC (λp:XA=>decide<|p.name=n) 0 s.Z5:=by
 refine cI func154 O<|OK.Qd 0 1 (s.Z5.map XA.cs) O O O λqk=>?_;rw[Zx]at qk;unfold maxLen at qk;refine ro 13 O ?_;refine OK.loop (G:=Nat) [2] (λi=>[(2,.ptr 2 0),(1002,.box s.cs),(5,bv i),(1,.str n)]) (λi=>i<=R s.Z5/\ZC (λp:XA=>decide<|p.name=n) 0 s.Z5=ZC (λp:XA=>decide<|p.name=n) i (s.Z5.drop i)) (λi=>R s.Z5 - i) 0 ⟨Zr _,O⟩ ⟨O,O,O,O,Zo⟩ (λ_=>O) ?_;rintro i ⟨hi,a⟩;refine ro 6 O<|kc (zk rN O)<|rr 3 O<|kB O (λd=>?_) λd=>?_
 ·have e:i<R s.Z5:=by omega
  refine ro 9 O<|kc (zI rN O I O) ?_;refine rr 6 O<|kB O (λc=>?_) λc=>?_
  ·refine ro 6 O<|kR O O ?_;refine YL ?_;rw[a,Y0 _ I];simp_all
  refine Ro 8 O I (Ab.D.lp ⟨i+1,⟨by omega,?_⟩,I,O,O,O,O,Zo⟩);rw[a,Y0 _ I];simp_all
 refine ro 7 O<|kR O O ?_;refine YL ?_;have:i=R s.Z5:=by omega
 subst this;rw[a,da];rfl
def SB{s:State}:Ct prog 155 [.agg s.cs]<|bv<|ZC (λp:Part=>decide<|p.place=0) 0 s.parts:=by
 refine cI func155 O<|OK.Qd 0 2 (s.parts.map Part.cs) O O O λqk=>?_;rw[Zx]at qk;unfold maxLen at qk;refine ro 13 O ?_;refine OK.loop (G:=Nat) [1] (λi=>[(1,.ptr 1 0),(1001,.box s.cs),(3,bv i)]) (λi=>i<=R s.parts/\ZC (λp:Part=>decide<|p.place=0) 0 s.parts=ZC (λp:Part=>decide<|p.place=0) i (s.parts.drop i)) (λi=>R s.parts - i) 0 ⟨Zr _,O⟩ ⟨O,O,O,Zo⟩ (λ_=>O) ?_;rintro i ⟨hi,a⟩;refine ro 6 O<|kc (zk VD O)<|rr 3 O<|kB O (λe=>?_) λe=>?_
 ·have d:i<R s.parts:=by omega
  refine ro 9 O<|kc (zI VD O I O) ?_;refine rr 5 O<|kB O (λc=>?_) λc=>?_
  ·refine ro 6 O<|kR O O ?_;refine YL ?_;rw[a,Y0 _ I];simp_all
  refine Ro 8 O I (Ab.D.lp ⟨i+1,⟨by omega,?_⟩,I,O,O,O,Zo⟩);rw[a,Y0 _ I];simp_all
 refine ro 7 O<|kR O O ?_;refine YL ?_;have:i=R s.parts:=by omega
 subst this;rw[a,da];rfl
def Ez{s:Net}:Ct prog 99 [.agg s.cs,.str n]<|bv<|ZC (λp:Ze=>decide<|p.name=n) 0 s.ZU:=by
 refine cI func99 O<|OK.Qd 0 0 (s.ZU.map Ze.cs) O O O λqk=>?_;rw[Zx]at qk;unfold maxLen at qk;refine ro 13 O ?_;refine OK.loop (G:=Nat) [2] (λi=>[(2,.ptr 2 0),(1002,.box s.cs),(5,bv i),(1,.str n)]) (λi=>i<=R s.ZU/\ZC (λp:Ze=>decide<|p.name=n) 0 s.ZU=ZC (λp:Ze=>decide<|p.name=n) i (s.ZU.drop i)) (λi=>R s.ZU - i) 0 ⟨Zr _,O⟩ ⟨O,O,O,O,Zo⟩ (λ_=>O) ?_;rintro i ⟨hi,a⟩;refine ro 6 O<|kc (zk RL O)<|rr 3 O<|kB O (λd=>?_) λd=>?_
 ·have e:i<R s.ZU:=by omega
  refine ro 9 O<|kc (zI RL O I O) ?_;refine rr 6 O<|kB O (λc=>?_) λc=>?_
  ·refine ro 6 O<|kR O O ?_;refine YL ?_;rw[a,Y0 _ I];simp_all
  refine Ro 8 O I (Ab.D.lp ⟨i+1,⟨by omega,?_⟩,I,O,O,O,O,Zo⟩);rw[a,Y0 _ I];simp_all
 refine ro 7 O<|kR O O ?_;refine YL ?_;have:i=R s.ZU:=by omega
 subst this;rw[a,da];rfl
def OS{s:State}:Ct prog 159 [.agg s.cs,.str n]<|bv<|QA (λr:Rec=>decide<|r.name=n) s.ZJ:=by
 refine cI func159 O<|OK.Qd 0 0 (s.ZJ.map Rec.cs) O O O λqk=>?_;rw[Zx]at qk;unfold maxLen at qk;refine ro 18 O ?_;refine OK.loop (G:=Nat) [2] (λi=>[(2,.ptr 2 0),(1002,.box s.cs),(1,.str n),(5,bv<|QA (λr:Rec=>decide<|r.name=n)<|s.ZJ.take i),(6,bv i)]) (λi=>i<=R s.ZJ) (λi=>R s.ZJ - i) 0 (Zr _) ⟨O,O,O,O,O,Zo⟩ (λ_=>O) ?_;rintro i hi;refine ro 6 O<|kc (zk Rh O)<|rr 3 O<|kB O (λe=>?_) λe=>?_
 ·have a:i<R s.ZJ:=by omega
  have c:=l6 (λr:Rec=>decide<|r.name=n)<|s.ZJ.take i;rw[sc]at c;have f:0<=QA (λr:Rec=>decide<|r.name=n) (s.ZJ.take i):=Int.natCast_nonneg _;refine ro 9 O<|kc (zI Rh O I O) ?_;refine rr 7 O<|kB O (λd=>?_) λd=>?_
  ·refine Ro 12 O I ?_;refine Ab.D.lp ⟨i+1,I,I,O,O,O,(OT<|by rw[AU _ a];simp_all),O,Zo⟩
  refine Ro 8 O I ?_;refine Ab.D.lp ⟨i+1,I,I,O,O,O,(OT<|by rw[AU _ a];simp_all),O,Zo⟩
 refine ro 8 O<|kR O O ?_;refine YL ?_;rw[show i=R s.ZJ by omega,List.take_length]
def KZ{r:ZG}:Ct prog 160 [.agg r.cs]<|.bool<|r.rows.all λx=>x.known:=by
 refine cI func160 O<|OK.Qd 0 0 (r.rows.map Row.cs) O O O λqk=>?_;rw[Zx]at qk;unfold maxLen at qk;refine ro 13 O ?_;refine OK.loop (G:=Nat) [1] (λi=>[(1,.ptr 1 0),(1001,.box r.cs),(3,bv i)]) (λi=>i<=R r.rows/\(r.rows.all λx=>x.known)=((r.rows.drop i).all λx=>x.known)) (λi=>R r.rows - i) 0 ⟨Zr _,O⟩ ⟨O,O,O,Zo⟩ (λ_=>O) ?_;rintro i ⟨hi,a⟩;refine ro 6 O<|kc (zk Oz O)<|rr 3 O<|kB O (λe=>?_) λe=>?_
 ·have d:i<R r.rows:=by omega
  refine ro 9 O<|kc (zI Oz O I O) ?_;refine rr 2 O<|kc (S.not .none O<|zt O)<|kD<|OK.cond O O (λc=>?_) λc=>?_
  ·refine ro 5 O<|kR O O ?_;refine Xj ?_;rw[a,E7 _ I];simp_all
  refine Ro 8 O I (Ab.D.lp ⟨i+1,⟨by omega,?_⟩,I,O,O,O,Zo⟩);rw[a,E7 _ I];simp_all
 refine ro 7 O<|kR O O ?_;refine Xj ?_;have:i=R r.rows:=by omega
 subst this;rw[a,da];rfl
def w_{p:Part}:Ct prog 153 [.agg p.cs]<|.bool<|Pm p:=by
 refine cI func153 O<|ro 12 O<|RK.ZS (t:=6) O (λd=>?_) λd=>?_
 ·refine rr 4 O<|RK.split (t:=10) O (λc=>?_) λc=>?_
  ·refine rr 5 O<|RK.ZS (t:=15) O (λa=>?_) λa=>?_
   ·refine rr 2 O<|kc (S.not (zg O O) O<|zt O)<|rr 4 O<|kR O O ?_;simp[Pm, *]
   refine rr 7 O<|kR O O ?_;simp[Pm, *]
  refine rr 12 O<|kR O O ?_;simp[Pm, *]
 refine rr 16 O<|kR O O ?_;simp[Pm, *]
def Ny{p:Part}:Ct prog 156 [.agg p.cs]<|.bool<|Yu p:=by
 refine cI func156 O<|ro 12 O<|RK.ZS (t:=6) O (λa=>?_) λa=>?_
 ·refine rr 7 O<|kR O O ?_;simp[Yu, *]
 refine rr 7 O<|kR O O ?_;simp[Yu, *]
