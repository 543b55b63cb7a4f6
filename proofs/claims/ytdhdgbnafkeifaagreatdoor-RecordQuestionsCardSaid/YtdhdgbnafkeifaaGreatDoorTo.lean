import Derived.Test.YtdhdgbnafkeifaaGreatDoorTu
set_option linter.all false
set_option maxHeartbeats 2000000
open List renaming length->R
namespace Go.Proofs.YtdhdgbnafkeifaaGreatDoor
open Go.Ab Tryz
set_option maxRecDepth 9999
def Kt{w:ba}(h:(iE w 7).2=true)(e:¬(iE w 7).1<0):YV w=some (iE w 7).1:=by
 obtain⟨j,b⟩:=B4 (l:=w) (d:=7);have a:iF w 7=true:=by simp_all
 rw[Rp (by simp_all[tW]),yN I a,b a]
def N4{w:ba}(h:(iE w 7).2=false\/(iE w 7).1<0):YV w=none:=by
 obtain⟨a,_⟩:=B4 (l:=w) (d:=7);refine WA ?_;rw[tW w I,←a];grind
def OE{n:Nat}{p:ba}(h:fy YV (aj 32 p)=none):Ja n p=none:=by rw[WJ,h]
def KM{n:Nat}{p:ba}{a:bd}(h:fy YV (aj 32 p)=some a)(b:¬R a=n):Ja n p=none:=by rw[WJ,h];grind
def KN{n:Nat}{p:ba}{a:bd}(h:fy YV (aj 32 p)=some a)(b:R a=n):Ja n p=some a:=by rw[WJ,h];grind
def Tu{i:Nat}{b x:jI}(h:(xk x.depth&&xk x.diag&&ve x.lo&&ve x.hi)=false):Fe i b x=2:=by
 simp_all[Tt,aF,ae]
def Ka{i:Nat}{b x:jI}(h:(xk x.depth&&xk x.diag&&ve x.lo&&ve x.hi)=true)(a:x.lo>x.hi):Fe i b x=9:=by
 have e:decide (x.lo<=x.hi)=false:=Zy I;simp_all[Tt,aF,ae]
def Kb{i:Nat}{b x:jI}(h:(xk x.depth&&xk x.diag&&ve x.lo&&ve x.hi)=true)(d:¬x.lo>x.hi):Fe i b x=if i=0 then ae (decide (2 * x.depth>=5 * x.diag)) 17 else ae (decide (x.depth - b.depth>=3 * max x.diag b.diag)) 17:=by
 have e:decide (x.lo<=x.hi)=true:=Zz I;have a:¬aF [ae true 2,ae (decide (x.lo<=x.hi)) 9]≠0:=by rw[e];simp[aF,ae]
 grind [Ra,Rb]
def Mf{n:Int}(h:0<=n):zO n 1=⟨n,1⟩:=by
 grind [Yq,Tr,zO]
def line_eq(x y u v l:Int):y * (v - u)+(v - l) * (x - y)=x * (v - u)+(y - x) * (l - u):=by
 grind
def Ke{α:Type}{g:α->Bool}{l:List α}{i:Nat}(b:ix g l=iR g i (l.drop i))(h:i<R l)(a:g l[i]=true):ix g l=some i:=by rw[b,gL _ h,Zn a]
def Mc{α:Type}{g:α->Bool}{l:List α}{i:Nat}(b:ix g l=iR g i (l.drop i))(h:i<R l)(a:g l[i]=false):ix g l=iR g (i+1) (l.drop (i+1)):=by simp_all[gL]
def Kc{α:Type}{g:α->Bool}{l:List α}{i:Nat}(a:ix g l=iR g i (l.drop i))(h:i=R l):ix g l=none:=by rw[a,h,no];rfl
def YG{α:Type}{g:Nat->α->Int}{l:List α}{i:Nat}(b:aK g 0 l=aK g i (l.drop i))(h:i<R l){e:Int}(a:g i l[i]=e)(d:e≠0):aK g 0 l=((i:Int),e):=by simp_all[bE]
def Qc{α:Type}{g:Nat->α->Int}{l:List α}{i:Nat}(b:aK g 0 l=aK g i (l.drop i))(h:i<R l)(a:g i l[i]=0):aK g 0 l=aK g (i+1) (l.drop (i+1)):=by simp_all[bE]
def X8{l:List jI}(h:¬Zk l≠0){p:Int×Int}(a:aK (O3 l) 0 l=p):FU l=p:=(TV h).trans a
def MH{l:List jI}(h:(R l:Int)<2):FU l=(0,10):=by
 have e:Zk l=10:=by unfold Zk;rw[Zy (show¬(R l:Int)>=2 by omega)];rfl
 simp_all[VY]
def KW{l:List jI}(h:¬(R l:Int)<2)(a:(R l:Int)>20):FU l=(0,8):=by
 have e:Zk l=8:=by unfold Zk;rw[Zz (show(R l:Int)>=2 by omega),Zy (show¬(R l:Int)<=20 by omega)];rfl
 simp_all[VY]
def KV{l:List jI}(h:¬(R l:Int)<2)(a:¬(R l:Int)>20):¬Zk l≠0:=by
 unfold Zk;rw[Zz (show(R l:Int)>=2 by omega),Zz (show(R l:Int)<=20 by omega)];decide
def Sl{s:ba}{n:Nat}(P:R s<=100000):Ct prog 280 [.str s,bv (n:Int)] (.cf [.sl ((Is n s).1.map fun r=>[ints r]),bv (Is n s).2]):=by
 refine cI func280 O fun{_ _}=>?_
 have M:=n9 (c:=59) (l:=s);refine kr (kc (S.assign .none O .fW) (rr 11 O (kB O (fun G=>?_) (fun G=>?_))))
 ·refine kr (kc (S.assign .none O .fW) (rr 3 O (kS O O O O ?_)));rw[QE I]
  all_goals rfl
 refine ro 5 O (kc (zK (C0 (l:=s) (c:=59) I) call31 O) ?_);refine rr 5 O (RK.c (S.iI (k:=7) (sz:=1) .none O) (rr 9 O ?_));refine OK.mP [7] (fun(k:Nat)(out:List bd)=>[(1,bv (n:Int)),(6,.sl ((aj 59 s).map fun w=>[.str w])),(7,.own 7 (R out)),(2007,.arr 1 (out.map fun r=>[ints r])),(8,bv (k:Int))]) (fun k out=>k<=R (aj 59 s)/\fy (Ja n) (aj 59 s)=(fy (Ja n) ((aj 59 s).drop k)).map (out++ ·)/\R out<=k) (fun k out=>R (aj 59 s) - k) (0) ([]) ⟨Zr _,by rw[aα];cases fy (Ja n) (aj 59 s)<;>simp,Zq _⟩ ⟨O,O,(cw N),(bH N),O,Zo⟩ (fun _ _=>O) ?_;rintro k out ⟨Q,x,K⟩;refine ro 5 O (kc (zk Z2 O) (rr 3 O (kB O (fun E=>?_) (fun E=>?_))))
 ·have a:k<R (aj 59 s):=by omega
  have J:=gH _ (Zt a);have L:=n9 (c:=32) (l:=(aj 59 s)[k]);refine ro 8 O (kc (zI Z2 O I O) (kc (zV Y9 O O) (kc (zK (C0 (l:=(aj 59 s)[k]) (c:=32) I) call31 O) ?_)));refine rr 5 O (RK.c (S.iI (k:=10) (sz:=1) .none O) (rr 9 O ?_));refine OK.mP [7,10] (fun(j:Nat)(row:bd)=>[(1,bv (n:Int)),(6,.sl ((aj 59 s).map fun w=>[.str w])),(7,.own 7 (R out)),(2007,.arr 1 (out.map fun r=>[ints r])),(8,bv (k:Int)),(9,.sl ((aj 32 (aj 59 s)[k]).map fun w=>[.str w])),(10,.own 10 (R row)),(2010,.arr 1 (row.map fun v=>[bv v])),(11,bv (j:Int))]) (fun j row=>j<=R (aj 32 (aj 59 s)[k])/\fy YV (aj 32 (aj 59 s)[k])=(fy YV ((aj 32 (aj 59 s)[k]).drop j)).map (row++ ·)/\R row<=j) (fun j row=>R (aj 32 (aj 59 s)[k]) - j) (0) ([]) ⟨Zr _,by rw[aα];cases fy YV (aj 32 (aj 59 s)[k])<;>simp,Zq _⟩ ⟨O,O,(cw N),(bH N),O,O,(cw N),(bH N),O,Zo⟩ (fun _ _=>O) ?_;rintro j row ⟨T,h,H⟩;refine ro 5 O (kc (zk Z2 O) (rr 3 O (kB O (fun C=>?_) (fun C=>?_))))
  ·have e:j<R (aj 32 (aj 59 s)[k]):=by omega
   have y:R (aj 32 (aj 59 s)[k])[j]<=100000:=by have:=gH _ (Zt e);omega
   refine ro 8 O (kc (zI Z2 O I O) (kc (zV Y9 O O) (kc (zK (vU (l:=(aj 32 (aj 59 s)[k])[j]) (d:=7) y I) call104 O) ?_)));refine rr 11 O (kc (S.not .none O (zt O)) (jm O (RK.split (t:=46) O (fun o=>?_) (fun o=>?_))))
   ·have b:YV (aj 32 (aj 59 s)[k])[j]=none:=N4 (.inl (by simpa using o));refine rr 8 O (kc (S.assign .none O .fW) (rr 3 O (kS O O O O ?_)));rw[VV I (EN x a (OE (EN h e b)))]
    all_goals rfl
   refine rr 5 O (kB O (fun p=>?_) (fun p=>?_))
   ·have b:YV (aj 32 (aj 59 s)[k])[j]=none:=N4 (.inr (by simpa using p));refine kr (kc (S.assign .none O .fW) (rr 3 O (kS O O O O ?_)));rw[VV I (EN x a (OE (EN h e b)))]
    all_goals rfl
   have q:YV (aj 32 (aj 59 s)[k])[j]=some (iE (aj 32 (aj 59 s)[k])[j] 7).1:=Kt (by simpa using o) (by simpa using p);refine ro 5 O ?_;refine RK.c (zM [[_]] ZM O O O O) ?_;refine kc (zP ZM O O F N I (by simp only[maxLen];omega)) ?_;refine Rr 9 O I ?_;refine Ab.D.lp ⟨j+1,row++[(iE (aj 32 (aj 59 s)[k])[j] 7).1],⟨by omega,EM h e q,by simp;omega⟩,I,O,O,(cw N),(bH N),O,O,(cw N),(bH N),O,Zo⟩
  refine ro 4 O ?_;have u:fy YV (aj 32 (aj 59 s)[k])=some row:=CM h I;refine OK.freeze 10 O O O F ?_;refine OK.bN (jm O (kc (zk Z4 O) (rr 4 O (kB O (fun B=>?_) (fun B=>?_)))))
  ·have m:¬R row=n:=by omega
   refine kr (kc (S.assign .none O .fW) (rr 3 O (kS O O O O ?_)));rw[VV I (EN x a (KM u m))]
   all_goals rfl
  have m:R row=n:=by omega
  refine ro 5 O ?_;refine RK.c (zM [[_]] MW O O O O) ?_;refine kc (zP MW O O F N I (by simp only[maxLen];omega)) ?_;refine Rr 9 O I ?_;refine Ab.D.lp ⟨k+1,out++[row],⟨by omega,EM x a (KN u m),by simp;omega⟩,I,O,O,(cw N),(bH (by rw[ne];rfl)),O,Zo⟩
 refine ro 3 O ?_;have z:fy (Ja n) (aj 59 s)=some out:=CM x I;refine ro 6 O ?_;refine OK.ret (aA.r2 (.tmp O O (.c (.own O O N) O) O) (zo O O) ?_);rw[QD I z]
 all_goals rfl
def Wh{n:Int}:Ct prog 364 [bv n] (.bool (ve n)):=by
 refine cI func364 O (ro 8 O (kc (zK gx call28 O) (rr 3 O (kR O O ?_))));rfl
def Xw{l:List jI}:Ct prog 325 [.agg [.sl (l.map jI.cs)]] (.cf [bv (FU l).1,bv (FU l).2]):=by
 refine cI func325 O (ro 12 O (kc (zk YN O) (rr 3 O (kB O (fun V=>?_) (fun V=>?_)))))
 ·have d:=MH (l:=l) I;refine ro 6 O (kS O O O O ?_);rw[d];try rfl
 refine ro 7 O (kc (zk YN O) (rr 3 O (kB O (fun Q=>?_) (fun Q=>?_))))
 ·have d:=KW (l:=l) I I;refine ro 6 O (kS O O O O ?_);rw[d];try rfl
 have k:=KV (l:=l) I I;refine ro 9 O ?_;refine OK.loop (G:=Nat) [1] (fun i=>[(1,.ptr 1 0),(1001,.box [.sl (l.map jI.cs)]),(4,bv i)]) (fun i=>i<=R l/\aK (O3 l) 0 l=aK (O3 l) i (l.drop i)/\QN l i) (fun i=>R l - i) 0 ⟨Zr _,O,fun j y h=>absurd h (bπ _)⟩ ⟨O,O,O,Zo⟩ (fun _=>O) ?_;rintro i ⟨hi,o,p⟩;refine ro 6 O (kc (zk YN O) (rr 3 O (kB O (fun P=>?_) (fun P=>?_))))
 ·have a:i<R l:=by omega
  have b:i - 1<R l:=by omega
  refine ro 9 O (kc (zI YN O I O) ?_);refine rr 10 O (kc (zK gx call28 O) (kc (S.jP .none O (zt O)) (jm O (RK.bh (t:=30) O (fun L=>?_) (fun L=>?_)))))
  ·have d:=X8 k (YG o a ((YY b _).trans (Tu (by first|(simp_all[xk,ve];done)|(simp_all[xk,ve];intros;omega)))) C);refine rr 29 O (kS O O O O ?_);rw[d];try rfl
  refine rr 2 O (kc (S.call (gx) call28 (zg O O) O (zc O (zC O (zD O))) O) (kc (S.jP (zg O O) O (zt O)) (rr 2 O (RK.bh (t:=36) O (fun K=>?_) (fun K=>?_)))))
  ·have d:=X8 k (YG o a ((YY b _).trans (Tu (by first|(simp_all[xk,ve];done)|(simp_all[xk,ve];intros;omega)))) C);refine rr 23 O (kS O O O O ?_);rw[d];try rfl
  refine rr 3 O (kc (S.call (Wh) call364 (zg O O) O (zc O .nil) O) (kc (S.not (zg O O) O (zt O)) (rr 2 O (RK.split (t:=43) O (fun J=>?_) (fun J=>?_)))))
  ·have d:=X8 k (YG o a ((YY b _).trans (Tu (by first|(simp_all[xk,ve];done)|(simp_all[xk,ve];intros;omega)))) C);refine rr 16 O (kS O O O O ?_);rw[d];try rfl
  refine rr 3 O (kc (S.call (Wh) call364 (zg O O) O (zc O .nil) O) (kc (S.not (zg O O) O (zt O)) (rr 3 O (OK.cond O O (fun N=>?_) (fun N=>?_)))))
  ·have d:=X8 k (YG o a ((YY b _).trans (Tu (by first|(simp_all[xk,ve];done)|(simp_all[xk,ve];intros;omega)))) C);refine ro 7 O (kS O O O O ?_);rw[d];try rfl
  have x:(xk l[i].depth&&xk l[i].diag&&ve l[i].lo&&ve l[i].hi)=true:=by simp_all[xk,ve]
  obtain⟨U,T⟩:(1<=l[i].depth/\l[i].depth<=10000)/\(1<=l[i].diag/\l[i].diag<=10000):=by
   simp only[Zw]at x;exact⟨pf x.1.1.1,pf x.1.1.2⟩
  refine ro 14 O (kB O (fun u=>?_) (fun u=>?_))
  ·have d:=X8 k (YG o a ((YY b _).trans (Ka x u)) C);refine ro 7 O (kS O O O O ?_);rw[d];try rfl
  have z:=(YY b l[i]).trans (Kb x u);refine ro 8 O (RK.bh (t:=61) O (fun H=>?_) (fun H=>?_))
  ·refine rr 2 O ?_;refine kc (S.mul (zg O O) O (.af O) (zt O) (mn _ I) (mn _ I)) ?_;refine rr 2 O ?_;refine kc (S.mul (zg O O) O (.af O) (zt O) (mn _ I) (mn _ I)) ?_;refine rr 4 O (kB O (fun M=>?_) (fun M=>?_))
   ·have d:=X8 k (YG o a (z.trans (by rw[Zn (show i=0 by omega),Zy (show¬2 * l[i].depth>=5 * l[i].diag by omega)];try rfl)) (by decide:(17:Int)≠0));refine ro 7 O (kS O O O O ?_);rw[d];try rfl
   refine ro 3 O ?_;by_cases F:(i:Int)>0
   ·have m:XX l[i - 1]:=(p.prev a).resolve_left I;have E:=m.depth;have B:=m.diag;exfalso;omega
   refine kV (.c (zm O) (.c (S.gtr .none O (zt O) (.af O)) (.c (zm O) (.c (zG O W) (.c (zG O W) (.c (zG O W) (.c (zG O W) (.c (zG O W) (.c (zG O W) (.c (zG O W) (.c (zG O W) (.c (zG O W) (.c (zG O W) (.c (zG O W) (.c (zG O W) (.c (zG O W) (.c (zG O W) (.c (zG O W) (.c (zG O W) (.c (zG O W) (.c (zG O W) (.c (zG O W) (.c (zG O W) (.c (zG O W) (.c (zG O W) (.c (S.aO .none O (zt O) .aJ W) .nil)))))))))))))))))))))))))) ?_;refine Rd 10 O I ?_;have w:O3 l i l[i]=0:=by
    rw[z];split
    ·rw[Zz (show 2 * l[i].depth>=5 * l[i].diag by omega)];rfl
    rw[Zz (show l[i].depth - l[i - 1].depth>=3 * max l[i].diag l[i - 1].diag by first|omega|(split at q<;>omega))];rfl
   refine Ab.D.lp ⟨i+1,⟨by omega,Qc o a w,p.succ a (VS (fun e=>e ((YY b _).symm.trans w))).1⟩,I,O,O,O,Zo⟩
  refine rr 14 O ?_;by_cases F:(i:Int)>0
  ·have m:XX l[i - 1]:=(p.prev a).resolve_left I;have E:=m.depth;have B:=m.diag;refine kV (.c (zm O) (.c (S.gtr .none O (zt O) (.af O)) (.c (zm O) (.c (S.dH XM (.yes O O O W) O (zt O)) (.c (S.fc Z8 (.yes O O O W) O (zt O) O O O O) (.c (S.dH XL (.yes O O O W) O (zt O)) (.c (S.fc TC (.yes O O O W) O (zt O) O O O O) (.c (S.move (.yes O O O W) O (zt O)) (.c (S.sub (.yes O O O W) O (zt O) (.af O) (mn _ I) (mn _ I)) (.c (S.aP (n:=(i - 1)) YN (.yes O O O W) O (zt O) (zt O) I b O) (.c (S.field XM (.yes O O O W) O (zt O) O) (.c (S.Hz Z8 (.yes O O O W) O (zt O) O) (.c (S.sub (.yes O O O W) O (zt O) (zt O) (mn _ I) (mn _ I)) (.c (S.dH SC (.yes O O O W) O (zt O)) (.c (S.fc Z8 (.yes O O O W) O (zt O) O O O O) (.c (S.dH XL (.yes O O O W) O (zt O)) (.c (S.fc TC (.yes O O O W) O (zt O) O O O O) (.c (S.move (.yes O O O W) O (zt O)) (.c (S.sub (.yes O O O W) O (zt O) (.af O) (mn _ I) (mn _ I)) (.c (S.aP (n:=(i - 1)) YN (.yes O O O W) O (zt O) (zt O) I b O) (.c (S.field SC (.yes O O O W) O (zt O) O) (.c (S.Hz Z8 (.yes O O O W) O (zt O) O) (.c (S.max2 (.yes O O O W) O (zt O) (zt O)) (.c (S.mul (.yes O O O W) O (.af O) (zt O) (mn _ I) (mn _ I)) (.c (S.lss (.yes O O O W) O (zt O) (zt O)) (.c (S.aQ .none O (zt O) (zt O) W) .nil)))))))))))))))))))))))))) ?_;refine Ab.D.code (kB O (fun q=>?_) (fun q=>?_))
   ·have d:=X8 k (YG o a (z.trans (by rw[Zm (show¬i=0 by omega),Zy (show¬l[i].depth - l[i - 1].depth>=3 * max l[i].diag l[i - 1].diag by split at q<;>omega)];try rfl)) (by decide:(17:Int)≠0));refine ro 7 O (kS O O O O ?_);rw[d];try rfl
   refine Ro 8 O I ?_;have w:O3 l i l[i]=0:=by
    rw[z];split
    ·rw[Zz (show 2 * l[i].depth>=5 * l[i].diag by omega)];rfl
    rw[Zz (show l[i].depth - l[i - 1].depth>=3 * max l[i].diag l[i - 1].diag by first|omega|(split at q<;>omega))];rfl
   refine Ab.D.lp ⟨i+1,⟨by omega,Qc o a w,p.succ a (VS (fun e=>e ((YY b _).symm.trans w))).1⟩,I,O,O,O,Zo⟩
  exfalso;omega
 refine ro 3 O ?_;have d:=X8 k (o.trans (by rw[show i=R l by omega,no];try rfl));refine ro 5 O (kS O O O O ?_);rw[d];try rfl
def WH{l:List jI}:Ct prog 281 [.agg [.sl (l.map jI.cs)]] (bv (FU l).2):=by
 refine cI func281 O (ro 9 O (kc (zK (Xw (l:=l)) call325 O) (rr 13 O (kR O O ?_))));rfl
def Xx{s:ba}(p:R s<=100000):Ct prog 230 [.str s] (.cf [.agg [.sl ((DH s).1.map jI.cs)],bv (DH s).2]):=by
 refine cI func230 O fun{_ _}=>?_
 have t:=Uu (n:=4) p;refine ro 9 O (kc (zK (Sl (n:=4) p) call280 O) (rr 14 O (kB O (fun a=>?_) (fun a=>?_))))
 ·have b:=Xn (s:=s) (by rw[Zm a];exact a);rw[Zm a]at b;refine kr (kc (zU Nj O O) (rr 5 O (OK.ret (aA.r2 (.bG O O O O UO O (.k .bO .z)) (zo O O) ?_))));rw[b];try rfl
 have d:(Is 4 s).2=0:=Zu.1 a;refine ro 14 O (OK.nP 6 0 880 4 O O O O O ?_);refine OK.loop (G:=Nat) [2,6,880] (fun k=>[(2,.ptr 2 0),(1002,.box [.bO]),(4,.sl ((Is 4 s).1.map fun r=>[ints r])),(6,.ptr 6 0),(1006,.box [.own 880 k]),(2880,.arr 4 ((((Is 4 s).1.take k).map xj).map jI.cs)),(7,bv k)]) (fun k=>k<=R (Is 4 s).1) (fun k=>R (Is 4 s).1 - k) 0 (Zr _) ⟨O,O,O,O,O,(bH N),O,Zo⟩ (fun _=>O) ?_;rintro k u;refine ro 5 O (kc (zk Tp O) (rr 3 O (kB O (fun o=>?_) (fun o=>?_))))
 ·have h:k<R (Is 4 s).1:=by omega
  have q:=Uv (Zt h);have m:(xj (Is 4 s).1[k]).cs=[bv ((Is 4 s).1[k][0]),bv ((Is 4 s).1[k][1]),bv ((Is 4 s).1[k][2]),bv ((Is 4 s).1[k][3])]:=by unfold xj jI.cs;rw[tX I,tX I,tX I,tX I]
  refine ro 4 O ?_;refine kV (.c (zf XL O) (.c (zl TC O O O O) (.c (zm O) (.c (zm O) (.c (zI Tp O I O) (.c (zV Zd O O) (.c (S.aP (n:=0) Z4 .none O (zt O) (.af O) O I O) (.c (zV Z8 O O) (.c (zm O) (.c (zm O) (.c (zI Tp O I O) (.c (zV Zd O O) (.c (S.aP (n:=1) Z4 .none O (zt O) (.af O) O I O) (.c (zV Z8 O O) (.c (zm O) (.c (zm O) (.c (zI Tp O I O) (.c (zV Zd O O) (.c (S.aP (n:=2) Z4 .none O (zt O) (.af O) O I O) (.c (zV Z8 O O) (.c (zm O) (.c (zm O) (.c (zI Tp O I O) (.c (zV Zd O O) (.c (S.aP (n:=3) Z4 .none O (zt O) (.af O) O I O) (.c (zV Z8 O O) (.c (zU M6 O O) (.c (zU B_ O O) (.c (zM [[_,_,_,_]] MI O O O O) (.c (zP MI O O (Qt _ I) N I (by simp only[maxLen];omega)) (.c (zf XL O) (.c (zS TC O O O O O O) .nil)))))))))))))))))))))))))))))))) ?_;refine Rd 7 O I ?_;refine Ab.D.lp ⟨k+1,I,I,O,O,O,O,O,(bH (by rw[RV h,m];try rfl)),O,Zo⟩
 refine ro 4 O ?_;have j:k=R (Is 4 s).1:=by omega
 subst j;rw[List.take_length];refine OK.Yp 6 0 O O O O (by rw[Zx,Zx]) O ?_;refine ro 2 O (kc (zK (WH (l:=(Is 4 s).1.map xj)) call281 O) (rr 9 O (kB O (fun e=>?_) (fun e=>?_))))
 ·have b:=Xn (s:=s) (by rw[Zn d];exact e);rw[Zn d]at b;refine kr (kc (zU Nj O O) (rr 5 O (OK.ret (aA.r2 (.bG O O O O UO O (.k .bO .z)) (zo O O) ?_))));rw[b];try rfl
 have b:=TW (s:=s) (by rw[Zn d];exact e);refine ro 9 O (kT O O UO O O O ?_);rw[b];try rfl
def Sj{l:List jI}(e:R l<=20):Ct prog 283 [.agg [.sl (l.map jI.cs)],bv 0] (.sl ((GX l).map UF)):=by
 refine cI func283 O (ro 3 O (kc (S.assign .none O .fW) (rr 4 O (RK.c (S.iI (k:=5) (sz:=2) .none O) (rr 9 O ?_)))));refine OK.loop (G:=Nat) [2,5] (fun i=>[(1,bv 0),(2,.ptr 2 0),(1002,.box [.sl (l.map jI.cs)]),(5,.own 5 i),(2005,.arr 2 (((GX l).take i).map UF)),(6,bv i)]) (fun i=>i<=R l) (fun i=>R l - i) 0 (Zr _) ⟨O,O,O,(cw N),(bH N),O,Zo⟩ (fun _=>O) ?_;rintro i hi;refine ro 6 O (kc (zk YN O) (rr 3 O (kB O (fun d=>?_) (fun d=>?_))))
 ·have b:i<R l:=by omega
  refine ro 9 O (kc (zI YN O I O) ?_);refine rr 5 O ?_;refine kV (.c (zm O) (.c (zf XM O) (.c (zl Z8 O O O O) (.c (zf Yw O) (.c (zf Ze O) (.c (zl Z8 O O O O) (.c (zf Yw O) (.c (zf YU O) (.c (zl Z8 O O O O) (.c (zM [[_],[_]] ZM O O O O) (.c (zm O) (.c (S.tO (i:=0) Z4 .none O (zt O) O O (zt O) O I) (.c (S.BG Z8 .none O (zt O) O O O) (.c (zU C_ O O) (.c (zM [[_,_]] M3 O O O O) (.c (zP M3 O O (VU (U6 l) hi) N I (by simp only[maxLen];omega)) (.c (za O) .nil))))))))))))))))) ?_;refine Rd 7 O I ?_;refine Ab.D.lp ⟨i+1,I,I,O,O,O,O,(bH (by rw[NL b,ne];rfl)),O,Zo⟩
 refine ro 3 O ?_;have a:i=R l:=by omega
 rw[TA (U6 l) a];refine OK.freeze 5 O O O (by rw[Zx,U6];exact a.symm) ?_;refine ro 5 O (kR O O ?_);rfl
def Sk{l:List jI}(e:R l<=20):Ct prog 283 [.agg [.sl (l.map jI.cs)],bv 1] (.sl ((yu l).map UF)):=by
 refine cI func283 O (ro 3 O (kc (S.assign .none O .fW) (rr 4 O (RK.c (S.iI (k:=5) (sz:=2) .none O) (rr 9 O ?_)))));refine OK.loop (G:=Nat) [2,5] (fun i=>[(1,bv 1),(2,.ptr 2 0),(1002,.box [.sl (l.map jI.cs)]),(5,.own 5 i),(2005,.arr 2 (((yu l).take i).map UF)),(6,bv i)]) (fun i=>i<=R l) (fun i=>R l - i) 0 (Zr _) ⟨O,O,O,(cw N),(bH N),O,Zo⟩ (fun _=>O) ?_;rintro i hi;refine ro 6 O (kc (zk YN O) (rr 3 O (kB O (fun d=>?_) (fun d=>?_))))
 ·have b:i<R l:=by omega
  refine ro 9 O (kc (zI YN O I O) ?_);refine rr 5 O ?_;refine kV (.c (zm O) (.c (zf XM O) (.c (zl Z8 O O O O) (.c (zf Yw O) (.c (zf Ze O) (.c (zl Z8 O O O O) (.c (zf Yw O) (.c (zf YU O) (.c (zl Z8 O O O O) (.c (zM [[_],[_]] ZM O O O O) (.c (zm O) (.c (S.tO (i:=1) Z4 .none O (zt O) O O (zt O) O I) (.c (S.BG Z8 .none O (zt O) O O O) (.c (zU C_ O O) (.c (zM [[_,_]] M3 O O O O) (.c (zP M3 O O (VU (Xo l) hi) N I (by simp only[maxLen];omega)) (.c (za O) .nil))))))))))))))))) ?_;refine Rd 7 O I ?_;refine Ab.D.lp ⟨i+1,I,I,O,O,O,O,(bH (by rw[OZ b,ne];rfl)),O,Zo⟩
 refine ro 3 O ?_;have a:i=R l:=by omega
 rw[TA (Xo l) a];refine OK.freeze 5 O O O (by rw[Zx,Xo];exact a.symm) ?_;refine ro 5 O (kR O O ?_);rfl
def RL{n:Int}:Ct prog 326 [bv n] (.agg (zZ.mk n 1).cs):=by
 refine cI func326 O (ro 8 O (kc (zU Ws O O) (rr 3 O (OK.ret (aA.r1 (zy O O TT O) ?_)))));rfl
def O6{a b:Int}(m:0<=a/\a<=1000000000000)(k:0<=b/\b<=1000000000000):Ct prog 365 [bv a,bv b] (bv (HL a b)):=by
 refine cI func365 O (ro 7 O ?_);refine OK.mP [] (fun(x:Int)(y:Int)=>[(0,bv x),(1,bv y)]) (fun x y=>(0<=x/\x<=1000000000000)/\(0<=y/\y<=1000000000000)/\HL a b=HL x y) (fun x y=>y.toNat) (a) (b) ⟨m,k,O⟩ ⟨O,O,Zo⟩ (fun _ _=>O) ?_;rintro x y ⟨h,e,j⟩;refine ro 7 O (kB O (fun d=>?_) (fun d=>?_))
 ·have o:0<=x.tmod y:=bη y h.1;have p:x.tmod y<y:=bδ x I;refine ro 3 O ?_;refine kV (.c (zm O) (.c (zm O) (.c (zm O) (.c (S.rem .none O (zt O) (zt O) d O (mn _ I)) (.c (za O) (.c (za O) .nil)))))) (Ab.D.blk (Ab.D.lp ⟨y,x.tmod y,⟨e,⟨o,I⟩,?_⟩,I,O,O,Zo⟩));rw[j,Yq h.1 e.1 d]
 refine ro 5 O (kc (zK (O7 (n:=x) I) call103 O) ?_);refine rr 3 O (kR O O ?_);have:y=0:=I
 subst this;rw[j,Tr];refine cy ?_;omega
def S2{a b:Int}(h:0<=a/\a<=1000000000000)(m:1<=b/\b<=1000000000000):Ct prog 327 [bv a,bv b] (.agg (zO a b).cs):=by
 refine cI func327 O fun{_ _}=>?_
 have d:=W7 (a:=a) (b:=b) h.1 I;have k:=UB h.1 d;have j:=UB (a:=b) I d;refine ro 9 O (kc (zK (O6 ⟨I,I⟩ ⟨I,I⟩) call365 O) ?_);refine rr 10 O (kB O (fun e=>?_) (fun e=>?_))
 ·exfalso;omega
 refine ro 3 O ?_;refine kV (.c (zm O) (.c (zm O) (.c (S.quo .none O (zt O) (zt O) I (mn _ I) (mn _ I)) (.c (zm O) (.c (zm O) (.c (S.quo .none O (zt O) (zt O) I (mn _ I) (mn _ I)) (.c (zU Ws O O) (.c (zS TT O O O O O O) .nil)))))))) (Ab.D.code (OK.ret (aA.r1 (zy O O TT O) ?_)));rfl
def Vl{c:List (Int×Int)}(j:UL c){limit:Int}(z:0<=limit/\limit<=2000):Ct prog 282 [.sl (c.map UF),bv limit] (.cf [.agg (yt c limit).1.cs,.bool (yt c limit).2]):=by
 refine cI func282 O (OK.eW (rows:=c.map UF) (t:=0) O O fun hlen=>?_);rw[Zx]at hlen;unfold maxLen at hlen;refine kr (RK.c (zA (c:=4) ze37 O) (jb O (kD (kO (kr ?_)))));refine ji O O (kD (OK.block (OK.loop (G:=Nat) [4] (fun i=>[(0,.sl (c.map UF)),(1,bv limit),(4,.ptr 4 0),(1004,.box [bv 0,bv 0]),(6,bv i)]) (fun i=>i<=R c/\ix (ZG limit) c=iR (ZG limit) i (c.drop i)) (fun i=>R c - i) 0 ⟨Zr _,O⟩ ⟨O,O,O,O,O,Zo⟩ (fun _=>O) ?_)));rintro i ⟨hi,p⟩;refine OK.seq (kr ?_);refine jm O (jm O (kc (zk Qo O) (kc (S.lss .none O (zt O) (zt O)) (kD (kB O (fun w=>?_) (fun w=>?_))))))
 ·have d:i<R c:=by omega
  refine OK.skip (Ab.D.code (kO (OK.block (OK.seq (kr ?_)))));refine jm O (jm O (kc (zI Qo O I O) (kc (S.field JY .none O (zt O) O) (kc (zV Z8 O O) (jm O (kc (S.geq .none O (zt O) (zt O)) (kD (kB O (fun u=>?_) (fun u=>?_)))))))))
  ·refine OK.exit O (Ab.D.code (OK.bN ?_));refine jm O (kc (zp O O I) (ja O (RK.nil (Ab.D.lp ⟨i+1,⟨by omega,Mc p d (Zy I)⟩,I,O,O,O,O,O,Zo⟩))))
  have e:=Ke p d (Zz I);refine OK.skip (Ab.D.code (kO (kr ?_)));refine jm O (kc (zE O O) (kD (kB O (fun q=>?_) (fun q=>?_))))
  ·have o:i=0:=by omega
   subst o;have K:=j.at_ _ (Zt d);have h:=WT e d;rw[Mf I]at h;refine kr (jm O (kc (S.aP (n:=0) Qo .none O (zt O) (.af O) O d O) (kc (S.field JW .none O (zt O) O) (kc (zV Z8 O O) (kc (zK RL call326 O) (kc (zS TT O O O O O O) (jb O (kD (kT O O TT O O O ?_)))))))));rw[h];try rfl
  obtain⟨k,rfl⟩:∃k,i=k+1:=⟨i - 1,by omega⟩;have h:=WV e d;obtain⟨P,N,M,L⟩:=VT j z e d;have m:k<R c:=by omega
  have hle:=line_eq c[k+1].1 c[k].1 c[k+1].2 c[k].2 limit;have J:=j.at_ _ (Zt d);have H:=j.at_ _ (Zt m);have F:=j.num _ (Zt d);have E:=j.num _ (Zt m);have y:=XU (a:=c[k].1) (b:=c[k].2 - c[k+1].2) (A:=10000) (B:=2000) I I C;have x:=XU (a:=c[k].2 - limit) (b:=c[k+1].1 - c[k].1) (A:=2000) (B:=10000) I I C;rw[←hle]at h;refine OK.skip (Ab.D.code (kO (kV (.c (zm O) (.c (zm O) (.c (S.sub .none O (zt O) (.af O) (mn _ I) (mn _ I)) (.c (S.aP (n:=k) Qo .none O (zt O) (zt O) I m O) (.c (S.fG QS .none O (zt O) O O) (.c (zm O) (.c (zm O) (.c (S.aP (n:=(k+1)) Qo .none O (zt O) (zt O) O d O) (.c (S.fG QS .none O (zt O) O O) (.c (zA (c:=7) LR O) (.c (zA (c:=8) LR O) (.c (zS QS O O O O O O) (.c (zS QS O O O O O O) .nil))))))))))))) (kp (jf JW O (kc (zl Z8 O O O O) (jf JY O (kc (zl Z8 O O O O) (jf JY O (kc (zl Z8 O O O O) (kc (S.sub .none O (zt O) (zt O) (mn _ I) (mn _ I)) ?_)))))))))));refine kc (S.mul .none O (zt O) (zt O) (mn _ I) (mn _ I)) (jf JY O (kc (zl Z8 O O O O) (jm O (kc (S.sub .none O (zt O) (zt O) (mn _ I) (mn _ I)) (jf JW O (kc (zl Z8 O O O O) (jf JW O (kc (zl Z8 O O O O) (kc (S.sub .none O (zt O) (zt O) (mn _ I) (mn _ I)) (kc (S.mul .none O (zt O) (zt O) (mn _ I) (mn _ I)) (kc (S.add .none O (zt O) (zt O) (mn _ I) (mn _ I)) ?_)))))))))));refine jf JY O (kc (zl Z8 O O O O) (jf JY O (kc (zl Z8 O O O O) (kc (S.sub .none O (zt O) (zt O) (mn _ I) (mn _ I)) (kc (zK (S2 I I) call327 O) (kc (zS TT O O O O O O) (jb O (kD (kT O O TT O O O ?_)))))))));rw[h];try rfl
 refine OK.exit O (Ab.D.code (kO ?_));have h:=WU (Kc p I);refine OK.bN (kc (zU Ws O O) (kc (zS TT O O O O O O) (jb O (kD (kT O O TT O O O ?_)))));rw[h];try rfl
def PG{l:List jI}{limit:Int}(m:¬aF [(FU l).2,ae (ve limit) 2]≠0):Ct prog 231 [.agg [.sl (l.map jI.cs)],bv limit] (.cf [.agg (It l limit).1.cs,bv (It l limit).2]):=by
 refine cI func231 O fun{_ _}=>?_
 obtain⟨t,q⟩:=P_ m;have b:=VZ t;have j:0<=limit/\limit<=2000:=pf q;have h:=b.len;have p:0<R l:=I
 have o:0<R (yu l):=by rw[Xo];omega
 have d:((yu l).getD 0 (0,0)).2=l[0].hi:=by rw[tX o];simp[yu]
 refine ro 12 O (kc (S.aP (n:=0) YN .none O (zt O) (.af O) O p O) (rr 7 O (kB O (fun a=>?_) (fun a=>?_))))
 ·have k:=VH m (by rw[d];exact a);refine kr (kc (zU PO O O) (rr 4 O (kT O O VK O O O ?_)));rw[k];try rfl
 refine ro 5 O (kc (zK (Sk h.2) call283 O) (jm O (kc (zK (Vl b.upper j) call282 O) (rr 12 O (kc (S.not .none O (zt O)) (kD (OK.cond O O (fun e=>?_) (fun e=>?_))))))))
 ·have k:=VI m (by rw[d];exact a) (by simpa using e);refine kr (kc (zU PO O O) (rr 4 O (kT O O VK O O O ?_)));rw[k];try rfl
 have k:=S4 m (by rw[d];exact a) (by simpa using e);refine ro 5 O (kc (zK (Sj h.2) call283 O) (jm O (kc (zK (Vl b.lower j) call282 O) (rr 12 O (kc (zU PO O O) (rr 4 O (kT O O VK O O O ?_)))))));rw[k];try rfl
end Go.Proofs.YtdhdgbnafkeifaaGreatDoor
namespace Go.Proofs.YtdhdgbnafkeifaaGreatDoor
open Go.Ab Tryz
def Wt{α:Type}(g:Nat->α->Int):∀(l:List α)(k:Nat),(∀(i:Nat)(h:i<R l),g (k+i) l[i]=0)->(aK g k l).2=0
 |[],_,_=>rfl
 |x::l,k,h=>by
  have h0:g k x=0:=h 0 F;rw[aK,Zm (by simp[h0])];exact Wt g l (k+1) fun i hi=>by
   have:=h (i+1) (by grind);grind
def Iu(aS:bC)(l:List Frame):Prop:=(∀f∈l,dL aS f=0)/\∀(i j:Nat)(a b:Frame),l[i]?=some a->l[j]?=some b->a.tick=b.tick->i=j
def Iu.rec{aS:bC}{l:List Frame}(o:bA aS=0)(h:Iu aS l)(t:R l<=40):mC aS l=0:=by
 have h0:=Sy aS l;have key:∀i,i<=R l->Xp aS l i/\∀j (hj:j<i) (hjl:j<R l),pJ aS l j l[j]=0:=by
  intro i
  induction i with
  |zero=>simp_all
  |succ i d=>
   intro hi;obtain⟨q,w⟩:=d I;have b:i<R l:=I
   have u:pJ aS l i l[i]=0:=by
    rw[Nx b q,Ny,Zm (by simp[h.1 _ (Zt b)]),Zm ?_];intro e;obtain⟨x,m,a⟩:=dτ.1 e;simp only[Zw,tm]at a;obtain⟨k,p,rfl⟩:=i6 m;rw[sc]at p;rw[List.getElem_take]at a;have:=h.2 k i l[k] l[i] (Zv I) (Zv b) a.1;omega
   grind [Wj]
 unfold mC;rw[Zm (by simp[o]),Zm I];exact Wt _ l 0 fun i hi=>by
  grind
end Go.Proofs.YtdhdgbnafkeifaaGreatDoor
namespace Go.Proofs.YtdhdgbnafkeifaaGreatDoor
open Go.Ab Tryz
section
variable{A:SA}
def SA.Pz{q:Nat×Nat}(h:A.ch=some q):A.cs[1]?=some (.raw (.slice (some ⟨q.1,0,none⟩) (R A.aC) q.2)):=by show some (X.raw (A.ch.w _))=_;rw[h];rfl
def SA.YW{q:Nat×Nat}(h:A.ph=some q):A.cs[2]?=some (.raw (.slice (some ⟨q.1,0,none⟩) (R A.parts) q.2)):=by show some (X.raw (A.ph.w _))=_;rw[h];rfl
def SA.rawM{q:Nat×Nat}(h:A.mh=some q):A.cs[3]?=some (.raw (.slice (some ⟨q.1,0,none⟩) (R A.aI) q.2)):=by show some (X.raw (A.mh.w _))=_;rw[h];rfl
def SA.Jh{q:Nat×Nat}(h:A.ch=some q):A.mem .c=some (q.1,.row 3 q.2 (A.aC.map o6.cs)):=by show A.ch.map _=_;rw[h];rfl
def SA.Iz{q:Nat×Nat}(h:A.ph=some q):A.mem .p=some (q.1,.row 13 q.2 (A.parts.map pC)):=by show A.ph.map _=_;rw[h];rfl
def SA.atM{q:Nat×Nat}(h:A.mh=some q):A.mem .m=some (q.1,.row 1 q.2 (A.aI.map V1)):=by show A.mh.map _=_;rw[h];rfl
def ZB{α:Type}{q:Hd}{l:List α}{i:Nat}{x:α}(h:q=none->l=[])(a:l[i]?=some x):∃p,q=some p:=by
 cases q<;>grind
def Z7{α β:Type}{f:α->β}{l:List α}{i:Nat}{x:α}(h:l[i]?=some x):(l.map f)[i]?=some (f x):=by simp_all
def ZC{α:Type}{g:α->Bool}{l:List α}{i:Nat}(h:ix g l=some i):bq g 0 l=i:=by rw[my,h]
def SA.Ee(A:SA)(j:Nat)(c:o6):SA:={A with aC:=A.aC.set j c}
def SA.eC(A:SA)(i:Nat)(v:Hd×Part):SA:={A with parts:=A.parts.set i v}
def SA.Vt{q:Nat×Nat}(h:A.ch=some q)(j:Nat)(c:o6):A.mem.set .c (some (q.1,.row 3 q.2 ((A.aC.map o6.cs).set j c.cs)))=(A.Ee j c).mem:=funext fun k=>by
 cases k with
 |c=>show some _=A.ch.map _;rw[h,←bτ];rfl
 |_=>exact HM.ai _ _ Z
def SA.QG(j:Nat)(c:o6):(A.Ee j c).cs=A.cs:=by simp[SA.Ee,SA.cs]
def SA.Ok.Ee(h:A.Ok)(j:Nat)(c:o6):(A.Ee j c).Ok:=⟨h.rh,fun e=>by show A.aC.set j c=[];rw[h.ch e];rfl,h.ph,h.mh,h.fh⟩
def set_eq{α:Type}{l:List α}{i:Nat}{x:α}(h:l[i]?=some x)(f:α->α):l.set i (f x)=l.modify i f:=(cR h f).symm
def SA.TO{j:Nat}{c:o6}(h:A.aC[j]?=some c)(f:o6->o6):(A.Ee j (f c)).st={A.st with aC:=A.st.aC.modify j f}:=by simp_all[SA.Ee,SA.st,set_eq]
theorem SA.YM{q:Nat×Nat}(h:A.ph=some q){i:Nat}{v:Hd×Part}(a:A.parts[i]?=some v){p:Part}(b:p.frames=v.2.frames):A.mem.set .p (some (q.1,.row 13 q.2 ((A.parts.map pC).set i (p.cells (.raw (v.1.w (R v.2.frames)))))))=(A.eC i (v.1,p)).mem:=funext fun k=>by
 cases k with
 |p=>show some _=A.ph.map _;rw[h];show _=some (_,HK.row 13 _ ((A.parts.set i (v.1,p)).map pC));rw[bτ];unfold pC;dsimp only;rw[b]
 |f j=>
  refine(HM.ai _ _ Z).trans ?_;show A.parts[j]?.bind _=(A.parts.set i (v.1,p))[j]?.bind _;rw[aχ];split
  ·rename_i e;subst e;rw[a,Zn (sT.1 a).1];show Option.map _ v.1=Option.map _ v.1;rw[b]
  rfl
 |_=>exact HM.ai _ _ Z
def SA.Ux{q:Nat×Nat}(h:A.ph=some q){i:Nat}{hd:Hd}{a:Part}(b:A.parts[i]?=some (hd,a)){p:Part}(n:Nat)(d:p.frames=a.frames)(e:n=a.frames.length):A.mem.set .p (some (q.1,.row 13 q.2 ((A.parts.map pC).set i (p.cells (.raw (hd.w n))))))=(A.eC i (hd,p)).mem:=by grind [SA.YM]
def SA.Y7(i:Nat)(v:Hd×Part):(A.eC i v).cs=A.cs:=by simp[SA.eC,SA.cs]
def SA.Ok.eC(h:A.Ok){i:Nat}{v:Hd×Part}(a:v.1=none->v.2.frames=[]):(A.eC i v).Ok:=⟨h.rh,h.ch,fun e=>by show A.parts.set i v=[];rw[h.ph e];rfl,h.mh,fun w hw=>(aξ hw).elim (h.fh w) fun e=>e▸a⟩
def SA.YB{i:Nat}{v:Hd×Part}(h:A.parts[i]?=some v)(q:Hd)(f:Part->Part):(A.eC i (q,f v.2)).st=A.st.eC i f:=by
 simp_all[SA.eC,SA.st,State.eC,set_eq]
theorem SA.Zb{i:Nat}{v:Hd×Part}(h:A.parts[i]?=some v):A.st.p i=v.2:=by simp_all[State.p,SA.st]
def SA.YR{M:HM SK}{xs:bi}{s:State}(h:A.Ok)(d:M=A.mem)(a:xs=A.cs)(b:A.st=s):Gj M (.agg xs) (.agg s.cs):=by subst d;subst a;subst b;exact h.fz
def SA.rT(A:SA)(q:Nat×Nat)(p:Part):SA:={A with ph:=some q,parts:=A.parts++[(none,p)]}
def SA.N0(q:Nat×Nat)(p:Part):A.mem.set .p (some (q.1,.row 13 q.2 (A.parts.map pC++[pC (none,p)])))=(A.rT q p).mem:=funext fun k=>by
 cases k with
 |p=>show some _=some _;rw[←dι,←ne];rfl
 |f j=>
  refine(HM.ai _ _ Z).trans ?_;show A.parts[j]?.bind _=(A.parts++[(none,p)])[j]?.bind _;rcases w7 j (R A.parts) with h|h
  ·rw[m6 h]
  rw[aκ h,bζ h];cases j - R A.parts with
  |zero=>rfl
  |succ n=>rfl
 |_=>exact HM.ai _ _ Z
def SA.Ok.rT(h:A.Ok)(q:Nat×Nat){p:Part}(a:p.frames=[]):(A.rT q p).Ok:=⟨h.rh,h.ch,fun e=>(by cases e),h.mh,fun w hw=>(List.mem_append.1 hw).elim (h.fh w) fun e=>by simp_all⟩
def SA.addF(A:SA)(i:Nat)(q:Nat×Nat)(p:Part)(f:Frame):SA:=A.eC i (some q,{p with frames:=p.frames++[f]})
def SA.MV{c:Nat×Nat}(h:A.ph=some c){i:Nat}{v:Hd×Part}(a:A.parts[i]?=some v)(q:Nat×Nat)(f:Frame):(A.mem.set (.f i) (some (q.1,.gM 2 q.2 (v.2.frames.map Frame.cs++[f.cs])))).set .p (some (c.1,.row 13 c.2 ((A.parts.map pC).set i (v.2.cells (.raw (.slice (some ⟨q.1,0,none⟩) (R (v.2.frames.map Frame.cs)+1) q.2))))))=(A.addF i q v.2 f).mem:=funext fun k=>by
 cases k with
 |p=>
  show some _=A.ph.map _;rw[h];show _=some (_,HK.row 13 _ ((A.parts.set i _).map pC));rw[bτ,Zx];show _=some (_,HK.row 13 _ (List.set _ _ (pC (some q,{v.2 with frames:=v.2.frames++[f]}))));unfold pC;dsimp only;rw[Zs];rfl
 |f j=>
  refine(HM.ai _ _ Z).trans ?_;show(if SK.f j=SK.f i then _ else A.parts[j]?.bind _)=(A.parts.set i _)[j]?.bind _;rw[aχ];by_cases e:i=j
  ·subst e;rw[Zn rfl,Zn rfl,Zn (sT.1 a).1];show _=some (_,HK.gM 2 _ ((v.2.frames++[f]).map Frame.cs));rw[ne];rfl
  rw[Zm (fun h=>by cases h;exact e rfl),Zm e]
 |_=>exact(HM.ai _ _ Z).trans (HM.ai _ _ Z)
end
section
variable{α:Type}{g:α->Bool}{l:List α}
theorem NG:decide (bq g 0 l>=0)=(ix g l).isSome:=by
 rw[my];grind
def isS(h:bq g 0 l>=0):(ix g l).isSome=true:=by grind [NG]
def isN(h:¬bq g 0 l>=0):¬(ix g l).isSome=true:=by rw[←NG];simp_all
def X2(h:¬bq g 0 l<0):∃j,ix g l=some j:=sk.1 (isS I)
def X1(h:bq g 0 l<0):ix g l=none:=by
 have:=isN (g:=g) (l:=l) I;simp_all
end
def OP(s:State)(n:Int)(r c:ba)(j:Nat)(q:o6):SE:=if s.xE.isSome then(s,17)else if q.shots=q.nM then(s,22)else if R s.parts=12 then(s,16)
 else({s with aC:=s.aC.modify j fun c=>{c with shots:=c.shots+1},parts:=s.parts++[⟨n,r,s.iN r,c,[],0,false,0,false,Span.zero⟩]},0)
def Xz(s:State)(n:Int)(r c:ba):SE:=match s.Bs c with
 |none=>(s,6)
 |some j=>if s.iN r=0 then(s,6)else if s.xE.isSome then(s,17)else match s.aC[j]? with
  |none=>(s,6)
  |some q=>if q.shots=q.nM then(s,22)else if R s.parts=12 then(s,16)
   else({s with aC:=s.aC.modify j fun c=>{c with shots:=c.shots+1},parts:=s.parts++[⟨n,r,s.iN r,c,[],0,false,0,false,Span.zero⟩]},0)
section
variable{A:SA}{s:State}{n:Int}{r c:ba}
def MK(h:¬n>1000000):XA s n r c=if(s.vr n).isSome then(s,5)else Xz s n r c:=Zm h
def OR(h:s.iN r=0):Xz s n r c=(s,6):=by
 unfold Xz;grind
def OQ(h:s.Bs c=none):Xz s n r c=(s,6):=by unfold Xz;rw[h]
def ML{j:Nat}{q:o6}(d:s.Bs c=some j)(b:s.aC[j]?=some q)(a:¬s.iN r=0):Xz s n r c=OP s n r c j q:=by
 simp_all[Xz,OP]
theorem SA.X7:R A.st.parts=R A.parts:=Zx ..
def SA.Mj(q:Nat×Nat)(p:Part):(A.rT q p).st={A.st with parts:=A.st.parts++[p]}:=by simp[SA.rT,SA.st]
def SA.NZ(j:Nat)(d:o6)(q:Nat×Nat)(p:Part):([.raw (A.rh.w (R A.yB)),.raw (A.ch.w (R A.aC)),.raw (.slice (some ⟨q.1,0,none⟩) (R (A.parts.map pC)+1) q.2),.raw (A.mh.w (R A.aI)),bv A.env.parts,bv A.env.trim,.sl (A.env.rows.map fun l=>[.sl (l.map Range.cs)])]:bi)=((A.Ee j d).rT q p).cs:=by
 unfold SA.cs SA.rT SA.Ee;dsimp only;rw[wi,Zs,Zx];rfl
end
def Vc(p:bC)(l:List Frame):R (ZO p l).rows=p.aR.toNat:=by unfold ZO;simp
def Ud{l:List Frame}{t:Nat}:∀(m:List Frame)(r:Row),(∀f∈m,f∈l)->(r=⟨false,[]⟩\/∃f∈l,r=⟨true,f.values⟩)->
  (m.foldl (fun r f=>if f.tick=(t:Int)then⟨true,f.values⟩else r) r=⟨false,[]⟩\/∃f∈l,m.foldl (fun r f=>if f.tick=(t:Int)then⟨true,f.values⟩else r) r=⟨true,f.values⟩)
 |[],r,_,h=>h
 |f::m,r,hm,h=>by
  rw[aτ];refine Ud m _ (fun g a=>hm g (rl _ a)) ?_;grind
theorem U4(l:List Frame)(t:Nat):ZK l t=⟨false,[]⟩\/∃f∈l,ZK l t=⟨true,f.values⟩:=Ud l _ (fun _ h=>h) (.inl rfl)
def Xf{p:bC}{l:List Frame}(k:bA p=0)(j:∀f∈l,dL p f=0):(gB p (ZO p l)).2=0/\∀(i:Nat)(h:i<R (ZO p l).rows),R (ZO p l).rows[i].values<=R p.aq:=by
 have m:=jc k;have a:∀x∈(ZO p l).rows,rowErr p x=0/\R x.values<=R p.aq:=fun x b=>by
  unfold ZO at b;obtain⟨t,_,rfl⟩:=rx.1 b;rcases U4 l t with e|⟨f,d,e⟩
  ·rw[e];exact⟨rfl,Zr _⟩
  rw[e];have g:=j f d;have g2:=(D9 g).2;refine⟨?_,by simp_all⟩;unfold dL at g;rw[Zm (Zp (D9 (j f d)).1)]at g;unfold rowErr;simp_all
 refine⟨?_,fun i hi=>(a _ (Zt hi)).2⟩;unfold gB;rw[Zm (by rw[Vc];omega),Yx _ _ 0 fun i hi=>(a _ (Zt hi)).1]
section
variable{A:SA}{pl:bC}{i:Nat}{v:Hd×Part}
structure State.Good(pl:bC)(s:State):Prop where
 sm:s.Sm
 fr:∀p∈s.parts,Iu pl p.frames/\p.frames.length<=40
 ju:∀p∈s.parts,p.place=0->p.lP=false
 env:0<s.env.rows.length->(ki pl s.env).2=0
 pl:bA pl=0
def State.Good.nB(h:A.st.Good pl)(b:A.parts[i]?=some v):mC pl v.2.frames=0/\fM pl v.2.frames=ZO pl v.2.frames:=by
 have a:=h.fr v.2 (rx.2 ⟨v,mr b,rfl⟩);have d:=Iu.rec h.pl a.1 a.2;simp_all[Xe]
def State.Good.vals(h:A.st.Good pl)(a:A.parts[i]?=some v):∀x∈v.2.frames,R x.values<=100000:=(h.sm.fr v.2 (rx.2 ⟨v,mr a,rfl⟩)).2
def SA.pZ(h:A.parts[i]?=some v)(w:Hd×Part):(A.eC i w).parts[i]?=some w:=by
 show(A.parts.set i w)[i]?=_;grind
def SA.Uy(w w':Hd×Part):(A.eC i w).eC i w'=A.eC i w':=by simp[SA.eC]
def State.Good.both(h:A.st.Good pl)(a:A.parts[i]?=some v)(b:0<R A.env.rows):dZ pl A.env (ZO pl v.2.frames)=0:=by
 have d:=(h.fr v.2 (rx.2 ⟨v,mr a,rfl⟩)).1.1;have e:(ki pl A.env).2=0:=h.env b;unfold dZ;rw[Zm (by rw[h.pl];decide),Zm I];exact(Xf h.pl d).1
end
section
variable{A:SA}{pl:bC}{i:Nat}{v:Hd×Part}
def end_T(d:dZ pl A.env (ZO pl v.2.frames)=0)(a:fM pl v.2.frames=ZO pl v.2.frames)(b:0<R A.env.rows):rC pl A.st.env (decide (0<R A.st.env.rows)) v.2={v.2 with place:=1,lP:=true,verdict:=oX A.env (ZO pl v.2.frames)}:=by
 show rC pl A.env (decide (0<R A.env.rows)) v.2=_;unfold rC;simp_all
def end_F(a:fM pl v.2.frames=ZO pl v.2.frames)(d:v.2.lP=false)(b:¬0<R A.env.rows):rC pl A.st.env (decide (0<R A.st.env.rows)) v.2={v.2 with place:=1,verdict:=if(ZO pl v.2.frames).rows.all (fun x=>x.known)=true then v.2.verdict else 1}:=by
 show rC pl A.env (decide (0<R A.env.rows)) v.2=_;simp_all[rC,mw]
def Tw(h:ix (fun p:Part=>decide (p.place=0)) A.st.parts=some i):∃v,A.parts[i]?=some v/\i<R A.parts/\v.2.place=0:=by
 obtain⟨e,d⟩:=eE h;have a:i<R A.parts:=by grind [SA.X7]
 refine⟨A.parts[i],Zv a,a,?_⟩;have b:A.st.parts[i]=A.parts[i].2:=bκ ..;simp_all
def QH{α:Type}{l:List α}{i:Nat}{x y:α}(h:l[i]?=some x):(l.set i y)[i]?=some y:=by grind
end
section
variable{A:SA}{pl:bC}{i:Nat}{v:Hd×Part}{f:Frame}{e0:Int}{s:State}
def Ns(a:s.xE=some i)(h0:e0≠0):ZQ pl s f e0=(s,e0):=by simp_all[ZQ]
def Nt(a:s.xE=some i)(h:dL pl f≠0):ZQ pl s f 0=(s,dL pl f):=by simp_all[ZQ]
def Nu(b:A.st.xE=some i)(a:A.parts[i]?=some v)(h:¬dL pl f≠0)(d:v.2.frames.find? (fun g=>decide (g.tick=f.tick))=none):ZQ pl A.st f 0=(A.st.eC i fun p=>{p with frames:=p.frames++[f]},0):=by
 unfold ZQ;rw[b];refine(Zm C).trans ((Zm h).trans ?_);rw[SA.Zb a,d]
def Nv{g:Frame}(b:A.st.xE=some i)(a:A.parts[i]?=some v)(h:¬dL pl f≠0)(d:v.2.frames.find? (fun g=>decide (g.tick=f.tick))=some g):ZQ pl A.st f 0=if g.values=f.values then(A.st,0)else(A.st,13):=by
 simp_all[ZQ,SA.Zb]
theorem Ub{α:Type}{g:α->Bool}{l:List α}{j:Nat}(h:j<R l):(l.drop j).find? g=if g l[j]=true then some l[j]else(l.drop (j+1)).find? g:=by
 grind [List.drop_eq_getElem_cons]
end
def UJ{A:SA}(h:A.Ok)(P:A.st.Sm){L:vN}:dF prog 166 [] [.agg A.cs,.agg L.cs,bv (bq (fun p:Part=>decide (p.num=L.num)) 0 A.st.parts)] [(3000,.res (aa A.mem))] [(3000,.res JT)] (.cf [.agg (XA A.st L.num L.oF L.coil).1.cs,bv (XA A.st L.num L.oF L.coil).2]):=by
 refine cG func166 O fun{_ _}=>?_
 have H:=P.lp;rw[SA.X7]at H;refine ro 16 O (kB O (fun F=>?_) (fun F=>?_))
 ·have e:XA A.st L.num L.oF L.coil=(A.st,2):=Zn F;refine kr (RK.cF (zL Z_ O O O O) h.fz O O (rr 4 O (OK.ret ⟨aA.r2 (zy O O Z_ O) (zo O O) ?_,O,Zo⟩)));rw[e];try rfl
 have V:=MK (s:=A.st) (r:=L.oF) (c:=L.coil) F;refine ro 9 O (kB O (fun E=>?_) (fun E=>?_))
 ·have e:=V.trans (Zn (isS E));refine kr (RK.cF (zL Z_ O O O O) h.fz O O (rr 4 O (OK.ret ⟨aA.r2 (zy O O Z_ O) (zo O O) ?_,O,Zo⟩)));rw[e];try rfl
 have M:=V.trans (Zm (isN E));refine ro 3 O ?_;refine kV (.c (zL Z_ O O O O) (.c (zf Wl O) (.c (zl Y9 O O O O) (.c (S.YT (XF (s:=A.st) (n:=L.oF)) O call79 .none O (zc O (zc O .nil)) (⟨h.fz,Fz.same _ O,Zo⟩) O) (.c (zL Z_ O O O O) (.c (zf T6 O) (.c (zl Y9 O O O O) (.c (S.YT (Xu (s:=A.st) (n:=L.coil)) O call78 .none O (zc O (zc O .nil)) (⟨h.fz,Fz.same _ O,Zo⟩) O) (.c (za O) (.c (za O) .nil)))))))))) ?_;refine rd 7 O (RK.bh (t:=27) O (fun w=>?_) (fun w=>?_))
 ·have e:=M.trans (OR w);refine rr 8 O (RK.cF (zL Z_ O O O O) h.fz O O (rr 4 O (OK.ret ⟨aA.r2 (zy O O Z_ O) (zo O O) ?_,O,Zo⟩)));rw[e];try rfl
 refine rr 5 O (kB O (fun B=>?_) (fun B=>?_))
 ·have e:=M.trans (OQ (X1 B));refine kr (RK.cF (zL Z_ O O O O) h.fz O O (rr 4 O (OK.ret ⟨aA.r2 (zy O O Z_ O) (zo O O) ?_,O,Zo⟩)));rw[e];try rfl
 obtain⟨j,J⟩:=X2 B;have u:=ZC J;have o:j<R A.aC:=(eE J).1;obtain⟨x,b⟩:∃c,A.aC[j]?=some c:=⟨_,Zv o⟩;obtain⟨ch,a⟩:=ZB h.ch b;have W:=P.sh x (mr b);have U:=M.trans (ML (n:=L.num) (r:=L.oF) J b w);refine ro 6 O (kc (S.YT (YA (s:=A.st)) O call169 .none O (zc O .nil) (⟨h.fz,Zo⟩) O) (rr 3 O (kB O (fun z=>?_) (fun z=>?_))))
 ·have e:=U.trans (Zn (isS z));refine kr (RK.cF (zL Z_ O O O O) h.fz O O (rr 4 O (OK.ret ⟨aA.r2 (zy O O Z_ O) (zo O O) ?_,O,Zo⟩)));rw[e];try rfl
 have T:=U.trans (Zm (isN z));refine ro 4 O ?_;refine kV (.c (zf XQ O) (.c (S.fc T8 .none O (zt O) O O (SA.Pz a) O) (.c (zm O) (.c (S.hidx (i:=j) Wn .none O (zt O) (zt O) u o) (.c (zr WZ O) (.c (zH Z8 O (aa.V2 (k:=.c) (i:=j) (f:=2) (SA.Jh a) (Z7 b) O O (.same _))) (.c (zf XQ O) (.c (S.fc T8 .none O (zt O) O O (SA.Pz a) O) (.c (zm O) (.c (S.hidx (i:=j) Wn .none O (zt O) (zt O) u o) (.c (zr P0 O) (.c (zH Z8 O (aa.V2 (k:=.c) (i:=j) (f:=1) (SA.Jh a) (Z7 b) O O (.same _))) (.c (S.eql .none O (zt O) (zt O)) .nil))))))))))))) (Ab.D.code (kB O (fun y=>?_) (fun y=>?_)))
 ·have e:=T.trans (Zn y);refine kr (RK.cF (zL Z_ O O O O) h.fz O O (rr 4 O (OK.ret ⟨aA.r2 (zy O O Z_ O) (zo O O) ?_,O,Zo⟩)));rw[e];try rfl
 have Q:=T.trans (Zm y);refine ro 7 O ?_;refine kc (S.hlen ZH (by show R A.parts<=maxLen;unfold maxLen;omega) .none O (zt O)) ?_;refine rr 3 O (kB O (fun N=>?_) (fun N=>?_))
 ·have e:=Q.trans (Zn (by rw[SA.X7];omega));refine kr (RK.cF (zL Z_ O O O O) h.fz O O (rr 4 O (OK.ret ⟨aA.r2 (zy O O Z_ O) (zo O O) ?_,O,Zo⟩)));rw[e];try rfl
 have e:=Q.trans (Zm (by rw[SA.X7];omega));refine ro 3 O ?_;refine kV (.c (zf XQ O) (.c (S.fc T8 .none O (zt O) O O (SA.Pz a) O) (.c (zm O) (.c (zf XQ O) (.c (S.fc T8 .none O (zt O) O O (SA.Pz a) O) (.c (zm O) (.c (S.hidx (i:=j) Wn .none O (zt O) (zt O) u o) (.c (zr WZ O) (.c (zH Z8 O (aa.V2 (k:=.c) (i:=j) (f:=2) (SA.Jh a) (Z7 b) O O (.same _))) (.c (zp O O I) (.c (S.hidx (i:=j) Wn .none O (zt O) (zt O) u o) (.c (zr WZ O) (.c (S.ZP (rows':=(A.aC.map o6.cs).set j ({x with shots:=x.shots+1}:o6).cs) (.c) Z8 .none (zt O) (zt O) O (SA.Jh a) (Z7 b) O O O O C O) .nil))))))))))))) (Ab.D.code (kO ?_));rw[SA.Vt a];have G:=h.Ee j {x with shots:=x.shots+1};refine ro 8 O (kc (zU vp O O) (rr 2 O (kc (zU bu41 O O) (RK.nilH (d:=77) O O ?_))));refine RK.c (zM [[_,_,_,_,_,_,_,_,_,_,_,_,_]] LV O O O O) ?_;refine RK.xs (S.happR (m:=1) (rows2:=[pC (none,(⟨L.num,L.oF,A.st.iN L.oF,L.coil,[],0,false,0,false,Span.zero⟩:Part))]) .p LV O (zt O) G.ps (zt O) O O O C (by rw[Zx];show(R A.parts+1) * _<=_;omega) (by rw[Zx];show R A.parts+1<=_;unfold maxLen;omega)) (fun q=>?_);refine rr 5 O ?_;have K:=G.rT q (p:=(⟨L.num,L.oF,A.st.iN L.oF,L.coil,[],0,false,0,false,Span.zero⟩:Part)) rfl;have X:=(SA.Mj (A:=A.Ee j {x with shots:=x.shots+1}) q (⟨L.num,L.oF,A.st.iN L.oF,L.coil,[],0,false,0,false,Span.zero⟩:Part)).trans (by rw[SA.TO b fun c=>{c with shots:=c.shots+1}]);refine OK.bN (RK.cF (zL Z_ O O O O) (SA.YR K (SA.N0 _ _) (SA.NZ j _ q _) X) O O ?_);refine rr 4 O (OK.ret ⟨aA.r2 (zy O O Z_ O) (zo O O) ?_,O,Zo⟩);rw[e];try rfl
def Xv{n:Net}(a:R n.aS<=1000):Ct prog 176 [.agg n.cs] (.agg (bP n.aS).1.cs):=by
 refine cI func176 O (ro 10 O (kc (zK (sn (l:=n.aS) I) call118 O) ?_));refine rr 14 O (OK.ret (aA.r1 (zy O O SL O) ?_));rfl
def Yl{n:Net}{p:Part}(d:R n.aS<=1000)(a:bA (bP n.aS).1=0)(b:∀x∈p.frames,R x.values<=100000):Ct prog 173 [.agg n.cs,.agg p.cs] (.agg (ZO (bP n.aS).1 p.frames).cs):=by
 refine cI func173 O (ro 8 O ?_);refine kV (.c (zL XB O O O O) (.c (zK (Xv d) call176 O) (.c (zf Zf O) (.c (zl XO O O O O) (.c (zK (RC (p:=(bP n.aS).1) (l:=p.frames) (by have:=jc a;omega) b) call235 O) (.c (zS Wx O O O O O O) .nil)))))) ?_;refine Ab.D.code (OK.ret (aA.r1 (zy O O Wx O) ?_));rfl
def Sd{n:Net}(Q:R n.aS<=1000){A:SA}(y:A.Ok)(u:A.st.Good (bP n.aS).1):dF prog 168 [] [.agg n.cs,.agg A.cs] [(3000,.res (aa A.mem))] [(3000,.res JT)] (.cf [.agg (S7 (bP n.aS).1 (decide (0<R A.st.env.rows)) A.st).1.cs,bv (S7 (bP n.aS).1 (decide (0<R A.st.env.rows)) A.st).2]):=by
 refine cG func168 O (ro 11 O (kc (S.YT (YA (s:=A.st)) O call169 .none O (zc O .nil) (⟨y.fz,Zo⟩) O) (rr 10 O (kB O (fun B=>?_) (fun B=>?_)))))
 ·have D:A.st.xE=none:=X1 B;have J:S7 (bP n.aS).1 (decide (0<R A.st.env.rows)) A.st=(A.st,12):=by unfold S7;rw[D]
  refine kr (RK.cF (zL Z_ O O O O) y.fz O O (rr 4 O (OK.ret ⟨aA.r2 (zy O O Z_ O) (zo O O) ?_,O,Zo⟩)));rw[J];try rfl
 obtain⟨i,D⟩:=X2 B;have N:=ZC D;obtain⟨v,d,T,M⟩:=Tw D;obtain⟨V,m⟩:=ZB y.ph d;have J:S7 (bP n.aS).1 (decide (0<R A.st.env.rows)) A.st=(A.st.eC i (rC (bP n.aS).1 A.st.env (decide (0<R A.st.env.rows))),0):=by unfold S7;rw[show A.st.xE=some i from D]
 obtain⟨_,E⟩:=u.nB d;refine ro 5 O (kc (S.fc ZA .none O (zt O) O O (SA.YW m) O) (jm O (kc (S.hidx (i:=i) ZH .none O (zt O) (zt O) N T) (rr 4 O ?_))));refine kV (.c (zL XB O O O O) (.c (zm O) (.c (zn O O) (.c (zJ (us:=v.2.cs) T7 O (aa.UE (k:=.p) (i:=i) (f:=0) (SA.Iz m) (Z7 (f:=pC) d) O ⟨.same _,.same _,.same _,.same _,.sl (y.fs d),.same _,.same _,.same _,.same _,.same _,.same _,.same _,.same _,Zo⟩ O)) (.c (zK (Yl Q u.pl (u.vals d)) call173 O) (.c (zA (c:=8) LQ O) (.c (zS Wx O O O O O O) .nil))))))) ?_;refine rd 6 O ?_;refine kc (S.ZP (rows':=(A.parts.map pC).set i (({v.2 with place:=1}:Part).cells (.raw (v.1.w (R v.2.frames))))) (.p) Z8 .none (zt O) (.af O) O (SA.Iz m) (Z7 d) O O O O C O) ?_;refine rr 4 O ?_;rw[SA.YM m d (p:={v.2 with place:=1}) rfl];obtain⟨b,a⟩:∃b,b=A.eC i (v.1,{v.2 with place:=1}):=⟨_,rfl⟩;rw[←a];have e:b.ph=some V:=by rw[a];exact m
 have j:b.parts[i]?=some (v.1,{v.2 with place:=1}):=by rw[a];exact SA.pZ d _
 have o:=y.fh v (mr d);refine ro 4 O (kc (zk VC O) (rr 3 O (kB O (fun U=>?_) (fun U=>?_))))
 ·have F:0<R A.env.rows:=I
  have G:=u.both d F;have H:=ED G;have W:=jc u.pl;obtain⟨_,P⟩:=Xf u.pl (u.fr v.2 (rx.2 ⟨v,mr d,rfl⟩)).1.1;refine ro 6 O ?_;refine kc (zK (Sn (x:=A.env) (r:=ZO (bP n.aS).1 v.2.frames) H.fit (by rw[Vc];omega) (fun i h=>by have:=P i h;omega) (LN (u.env F)) (M1 H)) call229 O) ?_;refine rr 2 O ?_;refine kc (S.ZP (rows':=(b.parts.map pC).set i (({v.2 with place:=1,lP:=true}:Part).cells (.raw (v.1.w (R v.2.frames))))) (.p) SP .none (zt O) .aJ O (SA.Iz e) (Z7 j) O O O O C O) ?_;refine rr 2 O ?_;refine kc (S.ZP (rows':=(b.parts.map pC).set i (({v.2 with place:=1,lP:=true,verdict:=oX A.env (ZO (bP n.aS).1 v.2.frames)}:Part).cells (.raw (v.1.w (R v.2.frames))))) (.p) Z8 .none (zt O) (zt O) O (HM.bw _ _ _) (QH (Z7 j)) O O O O C (by rw[eυ];rfl)) ?_;refine rr 3 O ?_;rw[HM.set_set,SA.Ux e j (p:={v.2 with place:=1,lP:=true,verdict:=oX A.env (ZO (bP n.aS).1 v.2.frames)}) (R v.2.frames) rfl rfl];have t:(b.eC i (v.1,{v.2 with place:=1,lP:=true,verdict:=oX A.env (ZO (bP n.aS).1 v.2.frames)})).Ok:=SA.Ok.eC (by rw[a];exact y.eC o) o;have q:A.cs=(b.eC i (v.1,{v.2 with place:=1,lP:=true,verdict:=oX A.env (ZO (bP n.aS).1 v.2.frames)})).cs:=((SA.Y7 i _).trans (by rw[a];exact SA.Y7 _ _)).symm;have K:(b.eC i (v.1,{v.2 with place:=1,lP:=true,verdict:=oX A.env (ZO (bP n.aS).1 v.2.frames)})).st=A.st.eC i (rC (bP n.aS).1 A.st.env (decide (0<R A.st.env.rows))):=by rw[a,SA.Uy,←(end_T G E F)];exact SA.YB d v.1 _
  refine OK.bN (RK.cF (zL Z_ O O O O) (SA.YR t O q K) O O (rr 4 O (OK.ret ⟨aA.r2 (zy O O Z_ O) (zo O O) ?_,O,Zo⟩)));rw[J];try rfl
 have F:¬0<R A.env.rows:=I
 have L:=end_F (A:=A) E (u.ju v.2 (rx.2 ⟨v,mr d,rfl⟩) M) F;refine ro 3 O (kc (zK (Wg (r:=ZO (bP n.aS).1 v.2.frames)) call172 O) (kc (S.not .none O (zt O)) (kD (OK.cond O O (fun z=>?_) (fun z=>?_)))))
 ·rw[Zm (by simpa using z)]at L;refine ro 4 O ?_;refine kc (S.ZP (rows':=(b.parts.map pC).set i (({v.2 with place:=1,verdict:=1}:Part).cells (.raw (v.1.w (R v.2.frames))))) (.p) Z8 .none (zt O) (.af O) O (SA.Iz e) (Z7 j) O O O O C O) ?_;refine rr 3 O ?_;rw[SA.Ux e j (p:={v.2 with place:=1,verdict:=1}) (R v.2.frames) rfl rfl];have t:(b.eC i (v.1,{v.2 with place:=1,verdict:=1})).Ok:=SA.Ok.eC (by rw[a];exact y.eC o) o;have q:A.cs=(b.eC i (v.1,{v.2 with place:=1,verdict:=1})).cs:=((SA.Y7 i _).trans (by rw[a];exact SA.Y7 _ _)).symm;have K:(b.eC i (v.1,{v.2 with place:=1,verdict:=1})).st=A.st.eC i (rC (bP n.aS).1 A.st.env (decide (0<R A.st.env.rows))):=by rw[a,SA.Uy,←L];exact SA.YB d v.1 _
  refine OK.bN (RK.cF (zL Z_ O O O O) (SA.YR t O q K) O O (rr 4 O (OK.ret ⟨aA.r2 (zy O O Z_ O) (zo O O) ?_,O,Zo⟩)));rw[J];try rfl
 rw[Zn (by simpa using z)]at L;refine ro 3 O ?_;have t:b.Ok:=by rw[a];exact y.eC o
 have q:A.cs=b.cs:=by rw[a];exact(SA.Y7 _ _).symm
 have K:b.st=A.st.eC i (rC (bP n.aS).1 A.st.env (decide (0<R A.st.env.rows))):=by rw[a,←SA.YB d v.1,L]
 refine OK.bN (RK.cF (zL Z_ O O O O) (SA.YR t O q K) O O (rr 4 O (OK.ret ⟨aA.r2 (zy O O Z_ O) (zo O O) ?_,O,Zo⟩)));rw[J];try rfl
def TH{n:Net}(P:R n.aS<=1000){A:SA}(y:A.Ok)(U:A.st.Good (bP n.aS).1){L:vN}(Y:R L.rest<=600):dF prog 167 [] [.agg n.cs,.agg A.cs,.agg L.cs] [(3000,.res (aa A.mem))] [(3000,.res JT)] (.cf [.agg (ZQ (bP n.aS).1 A.st (aY L.rest).1 (aY L.rest).2).1.cs,bv (ZQ (bP n.aS).1 A.st (aY L.rest).1 (aY L.rest).2).2]):=by
 refine cG func167 O (ro 12 O (kc (S.YT (YA (s:=A.st)) O call169 .none O (zc O .nil) (⟨y.fz,Zo⟩) O) (rr 10 O (kB O (fun M=>?_) (fun M=>?_)))))
 ·have F:A.st.xE=none:=X1 M;have t:ZQ (bP n.aS).1 A.st (aY L.rest).1 (aY L.rest).2=(A.st,12):=by unfold ZQ;rw[F]
  refine kr (RK.cF (zL Z_ O O O O) y.fz O O (rr 4 O (OK.ret ⟨aA.r2 (zy O O Z_ O) (zo O O) ?_,O,Zo⟩)));rw[t];try rfl
 obtain⟨i,F⟩:=X2 M;have B:=ZC F;obtain⟨v,o,E,V⟩:=Tw F;obtain⟨X,d⟩:=ZB y.ph o;have W:=(U.fr v.2 (rx.2 ⟨v,mr o,rfl⟩)).2;refine ro 6 O (kc (zK (Vn (l:=L.rest) I) call227 O) ?_);refine rr 15 O (kB O (fun z=>?_) (fun z=>?_))
 ·refine kV (.c (zL XB O O O O) (.c (zK (Xv P) call176 O) (.c (zL Xm O O O O) (.c (zK (TM (p:=(bP n.aS).1) (f:=(aY L.rest).1) (by have:=jc U.pl;omega)) call228 O) (.c (za O) .nil))))) ?_;refine rd 8 O (kB O (fun e=>?_) (fun e=>?_))
  ·have t:=(rn (ZQ (bP n.aS).1 A.st (aY L.rest).1) z).trans (Nt (i:=i) F e);refine kr (RK.cF (zL Z_ O O O O) y.fz O O (rr 5 O (OK.ret ⟨aA.r2 (zy O O Z_ O) (zo O O) ?_,O,Zo⟩)));rw[t];try rfl
  have N:=e;refine ro 9 O ?_;refine OK.loop (G:=Nat) [4,6,9] (fun j=>[(4,.ptr 4 0),(1004,.box A.cs),(6,.ptr 6 0),(1006,.box [.bO,.bO,.bO,.bO,bv 0,bv 0,.bO]),(8,bv (bq (fun p:Part=>decide (p.place=0)) 0 A.st.parts)),(9,.ptr 9 0),(1009,.box (aY L.rest).1.cs),(11,bv j),(3000,.res (aa A.mem))]) (fun j=>j<=R v.2.frames/\v.2.frames.find? (fun g:Frame=>decide (g.tick=(aY L.rest).1.tick))=(v.2.frames.drop j).find? (fun g:Frame=>decide (g.tick=(aY L.rest).1.tick))) (fun j=>R v.2.frames - j) 0 ⟨Zr _,O⟩ ⟨O,O,O,O,O,O,O,O,O,Zo⟩ (fun _=>O) ?_;rintro j ⟨hj,Q⟩;refine ro 5 O (kc (S.fc ZA .none O (zt O) O O (SA.YW d) O) (jm O (kc (S.hidx (i:=i) ZH .none O (zt O) (zt O) B E) (kc (zr Zf O) (kc (zH (u:=.sl (v.2.frames.map Frame.cs)) XO O (aa.V2 (k:=.p) (i:=i) (f:=4) (SA.Iz d) (Z7 (f:=pC) o) O O (.sl (y.fs o)))) (kc (zk Y8 O) (rr 3 O (kB O (fun T=>?_) (fun T=>?_)))))))))
  ·have H:j<R v.2.frames:=I
   refine ro 7 O (kc (S.fc ZA .none O (zt O) O O (SA.YW d) O) (jm O (kc (S.hidx (i:=i) ZH .none O (zt O) (zt O) B E) (kc (zr Zf O) (kc (zH (u:=.sl (v.2.frames.map Frame.cs)) XO O (aa.V2 (k:=.p) (i:=i) (f:=4) (SA.Iz d) (Z7 (f:=pC) o) O O (.sl (y.fs o)))) (jm O (kc (zI Y8 O H O) (rr 14 O (kB O (fun K=>?_) (fun K=>?_))))))))))
   ·have t:=(rn (ZQ (bP n.aS).1 A.st (aY L.rest).1) z).trans (Nv F o N (Q.trans ((Ub H).trans (Zn (by simpa using K)))));refine ro 7 O (kc (zK (AM (a:=v.2.frames[j].values) (b:=(aY L.rest).1.values)) call21 O) (kc (S.jP .none O (zt O)) (kD (kB O (fun J=>?_) (fun J=>?_)))))
    ·rw[Zm (by simpa using J)]at t;refine kr (RK.cF (zL Z_ O O O O) y.fz O O (rr 4 O (OK.ret ⟨aA.r2 (zy O O Z_ O) (zo O O) ?_,O,Zo⟩)));rw[t];try rfl
    rw[Zn (by simpa using J)]at t;refine ro 4 O (RK.cF (zL Z_ O O O O) y.fz O O (rr 4 O (OK.ret ⟨aA.r2 (zy O O Z_ O) (zo O O) ?_,O,Zo⟩)));rw[t];try rfl
   refine Ro 8 O I ?_;refine Ab.D.lp ⟨j+1,⟨I,by rw[Q,Ub H,Zm (by simpa using K)]⟩,I,O,O,O,O,O,O,O,O,O,Zo⟩
  have t:=(rn (ZQ (bP n.aS).1 A.st (aY L.rest).1) z).trans (Nu F o N (Q.trans (by rw[ut I];rfl)));refine ro 3 O ?_;refine OK.Ye follows (ι:=(Nat×Nat)) (0,0) 11 O (S.Ie (s:=[(75,.raw (v.1.w (R v.2.frames))),(77,.own 77 1),(2077,.arr 2 [(aY L.rest).1.cs]),(3000,.res (aa A.mem))]) (m:=1) (rows2:=[(aY L.rest).1.cs]) (.f i) WO O (zt O) (y.fs o) (zt O) O O O C (by rw[Zx];omega) (by rw[Zx];unfold maxLen;omega)).st (fun q=>(.cs (zf ZZ O) (.cs (S.fc ZA .none O (zt O) O O (SA.YW d) O) (.cs (zm O) (.cs (zf ZZ O) (.cs (S.fc ZA .none O (zt O) O O (SA.YW d) O) (.cs (zm O) (.cs (S.hidx (i:=i) ZH .none O (zt O) (zt O) B E) (.cs (zr Zf O) (.cs (zH XO O (aa.V2 (k:=.p) (i:=i) (f:=4) (SA.Iz d) (Z7 (f:=pC) o) O O (.same _))) (.cs (zL Xm O O O O) (.cs (zM [[_,_]] WO O O O O)
   (.x ⟨O,O,O,O,Zo⟩ (.cn (S.hidx (i:=i) ZH .none O (zt O) (zt O) B E) (.cn (zr Zf O) (.cn (S.ZP (rows':=(A.parts.map pC).set i (v.2.cells (.raw (.slice (some ⟨q.1,0,none⟩) (R (v.2.frames.map Frame.cs)+1) q.2)))) (.p) XO .none (zt O) (zt O) O ((HM.ai _ _ Z).trans (SA.Iz d)) (Z7 (f:=pC) o) O O O O C O) .nil)))))))))))))))) (fun q=>?_)
  refine Ab.D.code (kO ?_);rw[SA.MV d o];refine OK.bN (RK.cF (zL Z_ O O O O) (SA.YR (A:=A.addF i q v.2 (aY L.rest).1) (y.eC fun h=>by cases h) O (SA.Y7 _ _).symm (SA.YB o (some q) fun p=>{p with frames:=p.frames++[(aY L.rest).1]})) O O ?_);refine rr 4 O (OK.ret ⟨aA.r2 (zy O O Z_ O) (zo O O) ?_,O,Zo⟩);rw[t];try rfl
 refine ro 9 O (kB O (fun e=>?_) (fun e=>?_))
 ·have t:=Ns (pl:=(bP n.aS).1) (s:=A.st) (i:=i) (f:=(aY L.rest).1) F e;refine kr (RK.cF (zL Z_ O O O O) y.fz O O (rr 5 O (OK.ret ⟨aA.r2 (zy O O Z_ O) (zo O O) ?_,O,Zo⟩)));rw[t];try rfl
 exact absurd (Zu.1 e) z
