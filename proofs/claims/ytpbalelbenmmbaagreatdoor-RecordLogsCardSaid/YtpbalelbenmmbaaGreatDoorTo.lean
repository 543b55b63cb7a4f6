import Derived.Test.YtpbalelbenmmbaaGreatDoorTu
set_option linter.all false
set_option maxHeartbeats 2000000
namespace Go.Proofs.YtpbalelbenmmbaaGreatDoor
open Go.Ab Tryz
set_option maxRecDepth 9999
def Kt{w:ba}(h1:(iE w 7).2=true)(h2:¬(iE w 7).1<0):YV w=some (iE w 7).1:=by
 obtain⟨e1,e2⟩:=B4 (l:=w) (d:=7);have hc:iF w 7=true:=by simp_all
 rw[Rp (by simp_all[tW]),yN I hc,e2 hc]
def N4{w:ba}(h:(iE w 7).2=false\/(iE w 7).1<0):YV w=none:=by
 obtain⟨e1,_⟩:=B4 (l:=w) (d:=7);refine WA ?_;rw[tW w I,←e1];grind
theorem OE{n:Nat}{p:ba}(h:fy YV (aj 32 p)=none):Ja n p=none:=by rw[WJ,h]
theorem KM{n:Nat}{p:ba}{ns:bd}(h:fy YV (aj 32 p)=some ns)(hn:¬ns.length=n):Ja n p=none:=by rw[WJ,h];grind
def KN{n:Nat}{p:ba}{ns:bd}(h:fy YV (aj 32 p)=some ns)(hn:ns.length=n):Ja n p=some ns:=by rw[WJ,h];grind
def Tu{i:Nat}{b x:jI}(h:(xk x.depth&&xk x.diag&&ve x.lo&&ve x.hi)=false):Fe i b x=2:=by
 simp_all[Tt,aF,ae]
def Ka{i:Nat}{b x:jI}(h:(xk x.depth&&xk x.diag&&ve x.lo&&ve x.hi)=true)(h2:x.lo>x.hi):Fe i b x=9:=by
 have e:decide (x.lo<=x.hi)=false:=Zy I;simp_all[Tt,aF,ae]
def Kb{i:Nat}{b x:jI}(h:(xk x.depth&&xk x.diag&&ve x.lo&&ve x.hi)=true)(h2:¬x.lo>x.hi):Fe i b x=if i=0 then ae (decide (2 * x.depth>=5 * x.diag)) 17 else ae (decide (x.depth - b.depth>=3 * max x.diag b.diag)) 17:=by
 have e:decide (x.lo<=x.hi)=true:=Zz I;have hn:¬aF [ae true 2,ae (decide (x.lo<=x.hi)) 9]≠0:=by rw[e];simp[aF,ae]
 grind [Ra,Rb]
def Mf{n:Int}(h:0<=n):zO n 1=⟨n,1⟩:=by
 grind [Yq,Tr,zO]
def line_eq(x y u v l:Int):y * (v - u)+(v - l) * (x - y)=x * (v - u)+(y - x) * (l - u):=by
 grind
def Ke{α:Type}{g:α->Bool}{l:List α}{i:Nat}(hg:ix g l=iR g i (l.drop i))(h:i<l.length)(hx:g l[i]=true):ix g l=some i:=by rw[hg,gL _ h,Zn hx]
def Mc{α:Type}{g:α->Bool}{l:List α}{i:Nat}(hg:ix g l=iR g i (l.drop i))(h:i<l.length)(hx:g l[i]=false):ix g l=iR g (i+1) (l.drop (i+1)):=by simp_all[gL]
def Kc{α:Type}{g:α->Bool}{l:List α}{i:Nat}(hg:ix g l=iR g i (l.drop i))(h:i=l.length):ix g l=none:=by rw[hg,h,co];rfl
def YG{α:Type}{g:Nat->α->Int}{l:List α}{i:Nat}(hg:aK g 0 l=aK g i (l.drop i))(h:i<l.length){e:Int}(hx:g i l[i]=e)(he:e≠0):aK g 0 l=((i:Int),e):=by simp_all[bE]
def Qc{α:Type}{g:Nat->α->Int}{l:List α}{i:Nat}(hg:aK g 0 l=aK g i (l.drop i))(h:i<l.length)(hx:g i l[i]=0):aK g 0 l=aK g (i+1) (l.drop (i+1)):=by simp_all[bE]
def X8{l:List jI}(h:¬Zk l≠0){p:Int×Int}(hg:aK (O3 l) 0 l=p):FU l=p:=(TV h).trans hg
def MH{l:List jI}(h:(l.length:Int)<2):FU l=(0,10):=by
 have e:Zk l=10:=by unfold Zk;rw[Zy (show¬(l.length:Int)>=2 by omega)];rfl
 simp_all[VY]
def KW{l:List jI}(h:¬(l.length:Int)<2)(h2:(l.length:Int)>20):FU l=(0,8):=by
 have e:Zk l=8:=by unfold Zk;rw[Zz (show(l.length:Int)>=2 by omega),Zy (show¬(l.length:Int)<=20 by omega)];rfl
 simp_all[VY]
def KV{l:List jI}(h:¬(l.length:Int)<2)(h2:¬(l.length:Int)>20):¬Zk l≠0:=by
 unfold Zk;rw[Zz (show(l.length:Int)>=2 by omega),Zz (show(l.length:Int)<=20 by omega)];decide
def Sl{s:ba}{n:Nat}(hl:s.length<=100000):Ct prog 253 [.str s,bv (n:Int)] (.cf [.sl ((Is n s).1.map fun r=>[ints r]),bv (Is n s).2]):=by
 refine cI func253 O fun{_ _}=>?_
 have hcn:=n9 (c:=59) (l:=s);refine kr (kc (S.assign .none O .fW) (rr 11 O (kB O (fun c16=>?_) (fun c16=>?_))))
 ·refine kr (kc (S.assign .none O .fW) (rr 3 O (kS O O O O ?_)));grind [QE]
 refine ro 5 O (kc (zK (C0 (l:=s) (c:=59) I) call68 O) ?_);refine rr 5 O (RK.c (S.iI (k:=7) (sz:=1) .none O) (rr 9 O ?_));refine OK.mP [7] (fun(k:Nat)(out:List bd)=>[(1,bv (n:Int)),(6,.sl ((aj 59 s).map fun w=>[.str w])),(7,.own 7 out.length),(2007,.arr 1 (out.map fun r=>[ints r])),(8,bv (k:Int))]) (fun k out=>k<=(aj 59 s).length/\fy (Ja n) (aj 59 s)=(fy (Ja n) ((aj 59 s).drop k)).map (out++ ·)/\out.length<=k) (fun k out=>(aj 59 s).length - k) (0) ([]) ⟨Zr _,by simp,Zq _⟩ ⟨O,O,(cw (by rfl)),(bH (by rfl)),O,Zo⟩ (fun _ _=>O) ?_;rintro k out ⟨hk,hg,hol⟩;refine ro 5 O (kc (zk Z9 O) (rr 3 O (kB O (fun c22=>?_) (fun c22=>?_))))
 ·have hkl:k<(aj 59 s).length:=by omega
  have hpl:=gH _ (Zt hkl);have hcw:=n9 (c:=32) (l:=(aj 59 s)[k]);refine ro 8 O (kc (zI Z9 O I O) (kc (zV Y9 O O) (kc (zK (C0 (l:=(aj 59 s)[k]) (c:=32) I) call68 O) ?_)));refine rr 5 O (RK.c (S.iI (k:=10) (sz:=1) .none O) (rr 9 O ?_));refine OK.mP [7,10] (fun(j:Nat)(row:bd)=>[(1,bv (n:Int)),(6,.sl ((aj 59 s).map fun w=>[.str w])),(7,.own 7 out.length),(2007,.arr 1 (out.map fun r=>[ints r])),(8,bv (k:Int)),(9,.sl ((aj 32 (aj 59 s)[k]).map fun w=>[.str w])),(10,.own 10 row.length),(2010,.arr 1 (row.map fun v=>[bv v])),(11,bv (j:Int))]) (fun j row=>j<=(aj 32 (aj 59 s)[k]).length/\fy YV (aj 32 (aj 59 s)[k])=(fy YV ((aj 32 (aj 59 s)[k]).drop j)).map (row++ ·)/\row.length<=j) (fun j row=>(aj 32 (aj 59 s)[k]).length - j) (0) ([]) ⟨Zr _,by simp,Zq _⟩ ⟨O,O,(cw I),(bH (by rfl)),O,O,(cw (by rfl)),(bH (by rfl)),O,Zo⟩ (fun _ _=>O) ?_;rintro j row ⟨hj,hgi,hrl⟩;refine ro 5 O (kc (zk Z9 O) (rr 3 O (kB O (fun c33=>?_) (fun c33=>?_))))
  ·have hjl:j<(aj 32 (aj 59 s)[k]).length:=by omega
   have hwl:(aj 32 (aj 59 s)[k])[j].length<=100000:=by have:=gH _ (Zt hjl);omega
   refine ro 8 O (kc (zI Z9 O I O) (kc (zV Y9 O O) (kc (zK (vU (l:=(aj 32 (aj 59 s)[k])[j]) (d:=7) hwl I) call108 O) ?_)));refine rr 11 O (kc (S.not .none O (zt O)) (jm O (RK.split (t:=46) O (fun g46=>?_) (fun g46=>?_))))
   ·have hbad:YV (aj 32 (aj 59 s)[k])[j]=none:=N4 (.inl (by grind));refine rr 8 O (kc (S.assign .none O .fW) (rr 3 O (kS O O O O ?_)));grind [VV,EN,OE]
   refine rr 5 O (kB O (fun c49=>?_) (fun c49=>?_))
   ·have hbad:YV (aj 32 (aj 59 s)[k])[j]=none:=N4 (.inr I);refine kr (kc (S.assign .none O .fW) (rr 3 O (kS O O O O ?_)));grind [VV,EN,OE]
   have hnum:YV (aj 32 (aj 59 s)[k])[j]=some (iE (aj 32 (aj 59 s)[k])[j] 7).1:=Kt (by grind) I;refine ro 5 O ?_;refine RK.c (zM [[_]] ZY O O O O) (kc (zP ZY O O F (by rfl) I (by grind [maxLen])) ?_);refine Rr 9 O I ?_;refine Ab.D.lp ⟨j+1,row++[(iE (aj 32 (aj 59 s)[k])[j] 7).1],⟨by omega,EM hgi hjl hnum,by simp;omega⟩,I,O,O,(cw I),(bH (by rfl)),O,O,(cw F),(bH F),O,Zo⟩
  refine ro 4 O ?_;have hgn:fy YV (aj 32 (aj 59 s)[k])=some row:=CM hgi I;refine OK.freeze 10 O O O F ?_;refine OK.bN (jm O (kc (zk Z4 O) (rr 4 O (kB O (fun c57=>?_) (fun c57=>?_)))))
  ·have hln:¬row.length=n:=by omega
   refine kr (kc (S.assign .none O .fW) (rr 3 O (kS O O O O ?_)));grind [VV,EN,KM]
  have hln:row.length=n:=by omega
  refine ro 5 O ?_;refine RK.c (zM [[_]] PX O O O O) (kc (zP PX O O F (by rfl) I (by grind [maxLen])) ?_);refine Rr 9 O I ?_;refine Ab.D.lp ⟨k+1,out++[row],⟨by omega,EM hg hkl (KN hgn hln),by simp;omega⟩,I,O,O,(cw F),(bH (by rw[dE];rfl)),O,Zo⟩
 refine ro 3 O ?_;have hgo:fy (Ja n) (aj 59 s)=some out:=CM hg I;refine ro 6 O ?_;refine OK.ret (aA.r2 (.tmp O O (.c (.own O O F) O) O) (zo O O) ?_);rw[QD I hgo]
 all_goals rfl
def Wh{n:Int}:Ct prog 340 [bv n] (.bool (ve n)):=by
 refine cI func340 O (ro 8 O (kc (zK gx call35 O) (rr 3 O (kR O O ?_))));rfl
def Xw{l:List jI}:Ct prog 300 [.agg [.sl (l.map jI.cs)]] (.cf [bv (FU l).1,bv (FU l).2]):=by
 refine cI func300 O (ro 12 O (kc (zk Y3 O) (rr 3 O (kB O (fun c9=>?_) (fun c9=>?_)))))
 ·have hT:=MH (l:=l) I;refine ro 6 O (kS O O O O ?_);simp_all
 refine ro 7 O (kc (zk Y3 O) (rr 3 O (kB O (fun c13=>?_) (fun c13=>?_))))
 ·have hT:=KW (l:=l) I I;refine ro 6 O (kS O O O O ?_);simp_all
 have hsz:=KV (l:=l) I I;refine ro 9 O ?_;refine OK.loop (G:=Nat) [1] (fun i=>[(1,.ptr 1 0),(1001,.box [.sl (l.map jI.cs)]),(4,bv i)]) (fun i=>i<=l.length/\aK (O3 l) 0 l=aK (O3 l) i (l.drop i)/\QN l i) (fun i=>l.length - i) 0 ⟨Zr _,O,fun j y h=>absurd h (wl _)⟩ ⟨O,O,O,Zo⟩ (fun _=>O) ?_;rintro i ⟨hi,hg,hio⟩;refine ro 6 O (kc (zk Y3 O) (rr 3 O (kB O (fun c18=>?_) (fun c18=>?_))))
 ·have hil:i<l.length:=by omega
  have hi1:i - 1<l.length:=by omega
  refine ro 9 O (kc (zI Y3 O I O) ?_);refine rr 10 O (kc (zK gx call35 O) (kc (S.jP .none O (zt O)) (jm O (RK.bh (t:=30) O (fun g30=>?_) (fun g30=>?_)))))
  ·have hT:=X8 hsz (YG hg hil ((YY hi1 _).trans (Tu (by grind [xk]))) C);refine rr 29 O (kS O O O O ?_);simp_all
  refine rr 2 O (kc (S.call (gx) call35 (zg O O) O (zc O (zC O (zD O))) O) (kc (S.jP (zg O O) O (zt O)) (rr 2 O (RK.bh (t:=36) O (fun g36=>?_) (fun g36=>?_)))))
  ·have hT:=X8 hsz (YG hg hil ((YY hi1 _).trans (Tu (by grind [xk]))) C);refine rr 23 O (kS O O O O ?_);simp_all
  refine rr 3 O (kc (S.call (Wh) call340 (zg O O) O (zc O .nil) O) (kc (S.not (zg O O) O (zt O)) (rr 2 O (RK.split (t:=43) O (fun g43=>?_) (fun g43=>?_)))))
  ·have hT:=X8 hsz (YG hg hil ((YY hi1 _).trans (Tu (by simp_all))) C);refine rr 16 O (kS O O O O ?_);simp_all
  refine rr 3 O (kc (S.call (Wh) call340 (zg O O) O (zc O .nil) O) (kc (S.not (zg O O) O (zt O)) (rr 3 O (OK.cond O O (fun c49=>?_) (fun c49=>?_)))))
  ·have hT:=X8 hsz (YG hg hil ((YY hi1 _).trans (Tu (by simp_all))) C);refine ro 7 O (kS O O O O ?_);simp_all
  have hR:(xk l[i].depth&&xk l[i].diag&&ve l[i].lo&&ve l[i].hi)=true:=by simp_all[xk,ve]
  obtain⟨hd1,hd2⟩:(1<=l[i].depth/\l[i].depth<=10000)/\(1<=l[i].diag/\l[i].diag<=10000):=by
   omega
  refine ro 14 O (kB O (fun c57=>?_) (fun c57=>?_))
  ·have hT:=X8 hsz (YG hg hil ((YY hi1 _).trans (Ka hR c57)) C);refine ro 7 O (kS O O O O ?_);simp_all
  have hE:=(YY hi1 l[i]).trans (Kb hR c57);refine ro 8 O (RK.bh (t:=61) O (fun g61=>?_) (fun g61=>?_))
  ·refine rr 2 O ?_;refine kc (S.mul (zg O O) O (.af O) (zt O) (ca _ I) (ca _ I)) ?_;refine rr 2 O ?_;refine kc (S.mul (zg O O) O (.af O) (zt O) (ca _ I) (ca _ I)) ?_;refine rr 4 O (kB O (fun c69=>?_) (fun c69=>?_))
   ·have hT:=X8 hsz (YG hg hil (hE.trans (by rw[Zn (show i=0 by omega),Zy (show¬2 * l[i].depth>=5 * l[i].diag by omega)];try rfl)) (by decide:(17:Int)≠0));refine ro 7 O (kS O O O O ?_);simp_all
   refine ro 3 O ?_;by_cases g73:(i:Int)>0
   ·omega
   refine kV (.c (zm O) (.c (S.gtr .none O (zt O) (.af O)) (.c (zm O) (.c (zG O (by simp_all)) (.c (zG O (by simp_all)) (.c (zG O (by simp_all)) (.c (zG O (by simp_all)) (.c (zG O (by simp_all)) (.c (zG O (by simp_all)) (.c (zG O (by simp_all)) (.c (zG O (by simp_all)) (.c (zG O (by simp_all)) (.c (zG O (by simp_all)) (.c (zG O (by simp_all)) (.c (zG O (by simp_all)) (.c (zG O (by simp_all)) (.c (zG O (by simp_all)) (.c (zG O (by simp_all)) (.c (zG O (by simp_all)) (.c (zG O (by simp_all)) (.c (zG O (by simp_all)) (.c (zG O (by simp_all)) (.c (zG O (by simp_all)) (.c (zG O (by simp_all)) (.c (zG O (by simp_all)) (.c (S.aO .none O (zt O) .aJ (by simp_all)) .nil)))))))))))))))))))))))))) ?_;refine Rd 10 O I ?_;have hz:O3 l i l[i]=0:=by
    rw[hE];split
    ·rw[Zz (show 2 * l[i].depth>=5 * l[i].diag by omega)];rfl
    omega
   refine Ab.D.lp ⟨i+1,⟨by omega,Qc hg hil hz,hio.succ hil (VS (fun e=>e ((YY hi1 _).symm.trans hz))).1⟩,I,O,O,O,Zo⟩
  refine rr 14 O ?_;by_cases g73:(i:Int)>0
  ·have hpv:XX l[i - 1]:=(hio.prev hil).resolve_left I;have hp1:=hpv.depth;have hp2:=hpv.diag;refine kV (.c (zm O) (.c (S.gtr .none O (zt O) (.af O)) (.c (zm O) (.c (S.dH Yh (.yes O O O (by simp_all)) O (zt O)) (.c (S.fc Z8 (.yes O O O (by simp_all)) O (zt O) O O O O) (.c (S.dH Yg (.yes O O O (by simp_all)) O (zt O)) (.c (S.fc VB (.yes O O O (by simp_all)) O (zt O) O O O O) (.c (S.move (.yes O O O (by simp_all)) O (zt O)) (.c (S.sub (.yes O O O (by simp_all)) O (zt O) (.af O) (ca _ I) (ca _ I)) (.c (S.aP (n:=(i - 1)) Y3 (.yes O O O (by simp_all)) O (zt O) (zt O) I hi1 O) (.c (S.field Yh (.yes O O O (by simp_all)) O (zt O) O) (.c (S.Hz Z8 (.yes O O O (by simp_all)) O (zt O) O) (.c (S.sub (.yes O O O (by simp_all)) O (zt O) (zt O) (ca _ I) (ca _ I)) (.c (S.dH Tk (.yes O O O (by simp_all)) O (zt O)) (.c (S.fc Z8 (.yes O O O (by simp_all)) O (zt O) O O O O) (.c (S.dH Yg (.yes O O O (by simp_all)) O (zt O)) (.c (S.fc VB (.yes O O O (by simp_all)) O (zt O) O O O O) (.c (S.move (.yes O O O (by simp_all)) O (zt O)) (.c (S.sub (.yes O O O (by simp_all)) O (zt O) (.af O) (ca _ I) (ca _ I)) (.c (S.aP (n:=(i - 1)) Y3 (.yes O O O (by simp_all)) O (zt O) (zt O) I hi1 O) (.c (S.field Tk (.yes O O O (by simp_all)) O (zt O) O) (.c (S.Hz Z8 (.yes O O O (by simp_all)) O (zt O) O) (.c (S.max2 (.yes O O O (by simp_all)) O (zt O) (zt O)) (.c (S.mul (.yes O O O (by simp_all)) O (.af O) (zt O) (ca _ I) (ca _ I)) (.c (S.lss (.yes O O O (by simp_all)) O (zt O) (zt O)) (.c (S.aQ .none O (zt O) (zt O) (by simp_all)) .nil)))))))))))))))))))))))))) ?_;refine Ab.D.code (kB O (fun c96=>?_) (fun c96=>?_))
   ·have hT:=X8 hsz (YG hg hil (hE.trans (by rw[Zm (show¬i=0 by omega),Zy (show¬l[i].depth - l[i - 1].depth>=3 * max l[i].diag l[i - 1].diag by omega)];try rfl)) (by decide:(17:Int)≠0));refine ro 7 O (kS O O O O ?_);simp_all
   refine Ro 8 O I ?_;have hz:O3 l i l[i]=0:=by
    rw[hE];split
    ·omega
    rw[Zz (show l[i].depth - l[i - 1].depth>=3 * max l[i].diag l[i - 1].diag by omega)];rfl
   refine Ab.D.lp ⟨i+1,⟨by omega,Qc hg hil hz,hio.succ hil (VS (fun e=>e ((YY hi1 _).symm.trans hz))).1⟩,I,O,O,O,Zo⟩
  omega
 refine ro 3 O ?_;have hT:=X8 hsz (hg.trans (by rw[show i=l.length by omega,co];try rfl));refine ro 5 O (kS O O O O ?_);rw[hT];try rfl
def WH{l:List jI}:Ct prog 254 [.agg [.sl (l.map jI.cs)]] (bv (FU l).2):=by
 refine cI func254 O (ro 9 O (kc (zK (Xw (l:=l)) call300 O) (rr 13 O (kR O O ?_))));rfl
def Xx{s:ba}(hl:s.length<=100000):Ct prog 200 [.str s] (.cf [.agg [.sl ((DH s).1.map jI.cs)],bv (DH s).2]):=by
 refine cI func200 O fun{_ _}=>?_
 have hRc:=Uu (n:=4) hl;refine ro 9 O (kc (zK (Sl (n:=4) hl) call253 O) (rr 14 O (kB O (fun c14=>?_) (fun c14=>?_))))
 ·have hT:=Xn (s:=s) (by rw[Zm c14];exact c14);rw[Zm c14]at hT;refine kr (kc (zU P3 O O) (rr 5 O (OK.ret (aA.r2 (.bG O O O O Wo O (.k .bO .z)) (zo O O) ?_))));rw[hT];try rfl
 have h14:(Is 4 s).2=0:=Zu.1 c14;refine ro 14 O (OK.nP 6 0 880 4 O O O O O ?_);refine OK.loop (G:=Nat) [2,6,880] (fun k=>[(2,.ptr 2 0),(1002,.box [.bO]),(4,.sl ((Is 4 s).1.map fun r=>[ints r])),(6,.ptr 6 0),(1006,.box [.own 880 k]),(2880,.arr 4 ((((Is 4 s).1.take k).map xj).map jI.cs)),(7,bv k)]) (fun k=>k<=(Is 4 s).1.length) (fun k=>(Is 4 s).1.length - k) 0 (Zr _) ⟨O,O,O,O,O,(bH N),O,Zo⟩ (fun _=>O) ?_;rintro k hk;refine ro 5 O (kc (zk Vu O) (rr 3 O (kB O (fun c20=>?_) (fun c20=>?_))))
 ·have hkl:k<(Is 4 s).1.length:=by omega
  have hr4:=Uv (Zt hkl);have hio:(xj (Is 4 s).1[k]).cs=[bv ((Is 4 s).1[k][0]),bv ((Is 4 s).1[k][1]),bv ((Is 4 s).1[k][2]),bv ((Is 4 s).1[k][3])]:=by unfold xj jI.cs;rw[tX I,tX I,tX I,tX I]
  refine ro 4 O ?_;refine kV (.c (zf Yg O) (.c (zl VB O O O O) (.c (zm O) (.c (zm O) (.c (zI Vu O I O) (.c (zV ZA O O) (.c (S.aP (n:=0) Z4 .none O (zt O) (.af O) O I O) (.c (zV Z8 O O) (.c (zm O) (.c (zm O) (.c (zI Vu O I O) (.c (zV ZA O O) (.c (S.aP (n:=1) Z4 .none O (zt O) (.af O) O I O) (.c (zV Z8 O O) (.c (zm O) (.c (zm O) (.c (zI Vu O I O) (.c (zV ZA O O) (.c (S.aP (n:=2) Z4 .none O (zt O) (.af O) O I O) (.c (zV Z8 O O) (.c (zm O) (.c (zm O) (.c (zI Vu O I O) (.c (zV ZA O O) (.c (S.aP (n:=3) Z4 .none O (zt O) (.af O) O I O) (.c (zV Z8 O O) (.c (zU M6 O O) (.c (zU K4 O O) (.c (zM [[_,_,_,_]] PW O O O O) (.c (zP PW O O (Qt _ I) N I (by simp only[maxLen];omega)) (.c (zf Yg O) (.c (zS VB O O O O O O) .nil)))))))))))))))))))))))))))))))) ?_;refine Rd 7 O I ?_;refine Ab.D.lp ⟨k+1,I,I,O,O,O,O,O,(bH (by rw[RV hkl,hio];try rfl)),O,Zo⟩
 refine ro 4 O ?_;have hke:k=(Is 4 s).1.length:=by omega
 subst hke;rw[fp];refine OK.Yp 6 0 O O O O (by rw[Zx,Zx]) O ?_;refine ro 2 O (kc (zK (WH (l:=(Is 4 s).1.map xj)) call254 O) (rr 9 O (kB O (fun c57=>?_) (fun c57=>?_))))
 ·have hT:=Xn (s:=s) (by rw[Zn h14];exact c57);rw[Zn h14]at hT;refine kr (kc (zU P3 O O) (rr 5 O (OK.ret (aA.r2 (.bG O O O O Wo O (.k .bO .z)) (zo O O) ?_))));rw[hT];try rfl
 have hT:=TW (s:=s) (by rw[Zn h14];exact c57);refine ro 9 O (kT O O Wo O O O ?_);rw[hT];try rfl
def Sj{l:List jI}(hn:l.length<=20):Ct prog 256 [.agg [.sl (l.map jI.cs)],bv 0] (.sl ((GX l).map UF)):=by
 refine cI func256 O (ro 3 O (kc (S.assign .none O .fW) (rr 4 O (RK.c (S.iI (k:=5) (sz:=2) .none O) (rr 9 O ?_)))));refine OK.loop (G:=Nat) [2,5] (fun i=>[(1,bv 0),(2,.ptr 2 0),(1002,.box [.sl (l.map jI.cs)]),(5,.own 5 i),(2005,.arr 2 (((GX l).take i).map UF)),(6,bv i)]) (fun i=>i<=l.length) (fun i=>l.length - i) 0 (Zr _) ⟨O,O,O,(cw I),(bH (by rfl)),O,Zo⟩ (fun _=>O) ?_;rintro i hi;refine ro 6 O (kc (zk Y3 O) (rr 3 O (kB O (fun c12=>?_) (fun c12=>?_))))
 ·have hil:i<l.length:=by omega
  refine ro 9 O (kc (zI Y3 O I O) ?_);refine rr 5 O ?_;refine kV (.c (zm O) (.c (zf Yh O) (.c (zl Z8 O O O O) (.c (zf YP O) (.c (zf Ze O) (.c (zl Z8 O O O O) (.c (zf YP O) (.c (zf YU O) (.c (zl Z8 O O O O) (.c (zM [[_],[_]] ZY O O O O) (.c (zm O) (.c (S.tO (i:=0) Z4 .none O (zt O) O O (zt O) O I) (.c (S.BG Z8 .none O (zt O) O O O) (.c (zU K5 O O) (.c (zM [[_,_]] PZ O O O O) (.c (zP PZ O O (VU (U6 l) hi) (by rfl) I (by grind [maxLen])) (.c (za O) .nil))))))))))))))))) ?_;refine Rd 7 O I ?_;refine Ab.D.lp ⟨i+1,I,I,O,O,O,O,(bH (by rw[NL hil,dE];rfl)),O,Zo⟩
 refine ro 3 O ?_;have hie:i=l.length:=by omega
 rw[TA (U6 l) hie];refine OK.freeze 5 O O O (by simp_all[U6]) ?_;refine ro 5 O (kR O O ?_);rfl
def Sk{l:List jI}(hn:l.length<=20):Ct prog 256 [.agg [.sl (l.map jI.cs)],bv 1] (.sl ((yu l).map UF)):=by
 refine cI func256 O (ro 3 O (kc (S.assign .none O .fW) (rr 4 O (RK.c (S.iI (k:=5) (sz:=2) .none O) (rr 9 O ?_)))));refine OK.loop (G:=Nat) [2,5] (fun i=>[(1,bv 1),(2,.ptr 2 0),(1002,.box [.sl (l.map jI.cs)]),(5,.own 5 i),(2005,.arr 2 (((yu l).take i).map UF)),(6,bv i)]) (fun i=>i<=l.length) (fun i=>l.length - i) 0 (Zr _) ⟨O,O,O,(cw I),(bH (by rfl)),O,Zo⟩ (fun _=>O) ?_;rintro i hi;refine ro 6 O (kc (zk Y3 O) (rr 3 O (kB O (fun c12=>?_) (fun c12=>?_))))
 ·have hil:i<l.length:=by omega
  refine ro 9 O (kc (zI Y3 O I O) ?_);refine rr 5 O ?_;refine kV (.c (zm O) (.c (zf Yh O) (.c (zl Z8 O O O O) (.c (zf YP O) (.c (zf Ze O) (.c (zl Z8 O O O O) (.c (zf YP O) (.c (zf YU O) (.c (zl Z8 O O O O) (.c (zM [[_],[_]] ZY O O O O) (.c (zm O) (.c (S.tO (i:=1) Z4 .none O (zt O) O O (zt O) O I) (.c (S.BG Z8 .none O (zt O) O O O) (.c (zU K5 O O) (.c (zM [[_,_]] PZ O O O O) (.c (zP PZ O O (VU (Xo l) hi) (by rfl) I (by grind [maxLen])) (.c (za O) .nil))))))))))))))))) ?_;refine Rd 7 O I ?_;refine Ab.D.lp ⟨i+1,I,I,O,O,O,O,(bH (by rw[OZ hil,dE];rfl)),O,Zo⟩
 refine ro 3 O ?_;have hie:i=l.length:=by omega
 rw[TA (Xo l) hie];refine OK.freeze 5 O O O (by simp_all[Xo]) ?_;refine ro 5 O (kR O O ?_);rfl
def RL{n:Int}:Ct prog 301 [bv n] (.agg (zZ.mk n 1).cs):=by
 refine cI func301 O (ro 8 O (kc (zU M9 O O) (rr 3 O (OK.ret (aA.r1 (zy O O XN O) ?_)))));rfl
def O6{a b:Int}(ha:0<=a/\a<=1000000000000)(hb:0<=b/\b<=1000000000000):Ct prog 341 [bv a,bv b] (bv (HL a b)):=by
 refine cI func341 O (ro 7 O ?_);refine OK.mP [] (fun(x:Int)(y:Int)=>[(0,bv x),(1,bv y)]) (fun x y=>(0<=x/\x<=1000000000000)/\(0<=y/\y<=1000000000000)/\HL a b=HL x y) (fun x y=>y.toNat) (a) (b) ⟨ha,hb,O⟩ ⟨O,O,Zo⟩ (fun _ _=>O) ?_;rintro x y ⟨hx,hy,hg⟩;refine ro 7 O (kB O (fun c6=>?_) (fun c6=>?_))
 ·have h3:0<=x.tmod y:=pw y hx.1;have h4:x.tmod y<y:=pr x I;refine ro 3 O ?_;refine kV (.c (zm O) (.c (zm O) (.c (zm O) (.c (S.rem .none O (zt O) (zt O) c6 O (ca _ I)) (.c (za O) (.c (za O) .nil)))))) (Ab.D.blk (Ab.D.lp ⟨y,x.tmod y,⟨hy,⟨h3,by omega⟩,?_⟩,I,O,O,Zo⟩));simp_all[Yq]
 refine ro 5 O (kc (zK (O7 (n:=x) I) call143 O) ?_);refine rr 3 O (kR O O ?_);grind [Tr]
def S2{a b:Int}(ha:0<=a/\a<=1000000000000)(hb:1<=b/\b<=1000000000000):Ct prog 302 [bv a,bv b] (.agg (zO a b).cs):=by
 refine cI func302 O fun{_ _}=>?_
 have hgp:=W7 (a:=a) (b:=b) ha.1 I;have ht1:=UB ha.1 hgp;have ht2:=UB (a:=b) I hgp;refine ro 9 O (kc (zK (O6 ⟨by omega,by omega⟩ ⟨by omega,by omega⟩) call341 O) ?_);refine rr 10 O (kB O (fun c10=>?_) (fun c10=>?_))
 ·omega
 refine ro 3 O ?_;refine kV (.c (zm O) (.c (zm O) (.c (S.quo .none O (zt O) (zt O) I (ca _ I) (ca _ I)) (.c (zm O) (.c (zm O) (.c (S.quo .none O (zt O) (zt O) I (ca _ I) (ca _ I)) (.c (zU M9 O O) (.c (zS XN O O O O O O) .nil)))))))) (Ab.D.code (OK.ret (aA.r1 (zy O O XN O) ?_)));rfl
def Vl{c:List (Int×Int)}(hc:UL c){limit:Int}(hl:0<=limit/\limit<=2000):Ct prog 255 [.sl (c.map UF),bv limit] (.cf [.agg (yt c limit).1.cs,.bool (yt c limit).2]):=by
 refine cI func255 O (OK.eW (rows:=c.map UF) (t:=0) O O fun hlen=>?_);rw[Zx]at hlen;unfold maxLen at hlen;refine ro 13 O ?_;refine OK.loop (G:=Nat) [4] (fun i=>[(0,.sl (c.map UF)),(1,bv limit),(4,.ptr 4 0),(1004,.box [bv 0,bv 0]),(6,bv i)]) (fun i=>i<=c.length/\ix (ZG limit) c=iR (ZG limit) i (c.drop i)) (fun i=>c.length - i) 0 ⟨Zr _,O⟩ ⟨O,O,O,O,O,Zo⟩ (fun _=>O) ?_;rintro i ⟨hi,hg⟩;refine ro 5 O (kc (zk SG O) (rr 3 O (kB O (fun c12=>?_) (fun c12=>?_))))
 ·have hil:i<c.length:=by omega
  refine ro 9 O (kc (zI SG O I O) ?_);refine rr 6 O (kB O (fun c21=>?_) (fun c21=>?_))
  ·refine Ro 7 O I (Ab.D.lp ⟨i+1,⟨by omega,Mc hg hil (Zy I)⟩,I,O,O,O,O,O,Zo⟩)
  have hix:=Ke hg hil (Zz I);refine ro 9 O (kB O (fun c23=>?_) (fun c23=>?_))
  ·have hi0:i=0:=by omega
   subst hi0;have hb:=hc.at_ _ (Zt hil);have hT:=WT hix hil;rw[Mf I]at hT;refine ro 3 O (kc (S.aP (n:=0) SG .none O (zt O) (.af O) O hil O) (rr 2 O (kc (zK RL call301 O) (rr 4 O (kT O O XN O O O ?_)))));rw[hT];try rfl
  obtain⟨k,rfl⟩:∃k,i=k+1:=⟨i - 1,by omega⟩;have hT:=WV hix hil;obtain⟨b1,b2,b3,b4⟩:=VT hc hl hix hil;have hk:k<c.length:=by omega
  have hle:=line_eq c[k+1].1 c[k].1 c[k+1].2 c[k].2 limit;have hb1:=hc.at_ _ (Zt hil);have hb2:=hc.at_ _ (Zt hk);have hb3:=hc.num _ (Zt hil);have hb4:=hc.num _ (Zt hk);have hm1:=XU (a:=c[k].1) (b:=c[k].2 - c[k+1].2) (A:=10000) (B:=2000) I I C;have hm2:=XU (a:=c[k].2 - limit) (b:=c[k+1].1 - c[k].1) (A:=2000) (B:=10000) I I C;rw[←hle]at hT;refine ro 3 O ?_;refine kV (.c (zm O) (.c (zm O) (.c (S.sub .none O (zt O) (.af O) (ca _ I) (ca _ I)) (.c (S.aP (n:=k) SG .none O (zt O) (zt O) I hk O) (.c (S.fG SQ .none O (zt O) O O) (.c (zm O) (.c (zm O) (.c (S.aP (n:=(k+1)) SG .none O (zt O) (zt O) O hil O) (.c (S.fG SQ .none O (zt O) O O) (.c (zA (c:=7) O1 O) (.c (zA (c:=8) O1 O) (.c (zS SQ O O O O O O) (.c (zS SQ O O O O O O) .nil))))))))))))) ?_;refine Rd 10 O I ?_;refine kc (S.mul .none O (zt O) (zt O) (ca _ I) (ca _ I)) ?_;refine Rr 9 O I ?_;refine kc (S.mul .none O (zt O) (zt O) (ca _ I) (ca _ I)) ?_;refine Rr 6 O I (kc (zK (S2 I I) call302 O) ?_);refine rr 4 O (kT O O XN O O O ?_);rw[hT];try rfl
 refine ro 3 O ?_;have hT:=WU (Kc hg I);refine OK.bN (kc (zU M9 O O) (rr 4 O (kT O O XN O O O ?_)));rw[hT];try rfl
def PG{l:List jI}{limit:Int}(hv:¬aF [(FU l).2,ae (ve limit) 2]≠0):Ct prog 201 [.agg [.sl (l.map jI.cs)],bv limit] (.cf [.agg (It l limit).1.cs,bv (It l limit).2]):=by
 refine cI func201 O fun{_ _}=>?_
 obtain⟨q1,q2⟩:=P_ hv;have htr:=VZ q1;have hlm:0<=limit/\limit<=2000:=dC q2;have hln:=htr.len;have hl0:0<l.length:=by omega
 have hu0:0<(yu l).length:=by rw[Xo];omega
 have hgd:((yu l).getD 0 (0,0)).2=l[0].hi:=by grind [yu]
 refine ro 12 O (kc (S.aP (n:=0) Y3 .none O (zt O) (.af O) O hl0 O) (rr 7 O (kB O (fun c17=>?_) (fun c17=>?_))))
 ·have hT:=VH hv I;refine kr (kc (zU QU O O) (rr 4 O (kT O O WN O O O ?_)));rw[hT];try rfl
 refine ro 5 O (kc (zK (Sk hln.2) call256 O) (jm O (kc (zK (Vl htr.upper hlm) call255 O) (rr 12 O (kc (S.not .none O (zt O)) (kD (OK.cond O O (fun c27=>?_) (fun c27=>?_))))))))
 ·have hT:=VI hv I (by grind);refine kr (kc (zU QU O O) (rr 4 O (kT O O WN O O O ?_)));rw[hT];try rfl
 have hT:=S4 hv I (by grind);refine ro 5 O (kc (zK (Sj hln.2) call256 O) (jm O (kc (zK (Vl htr.lower hlm) call255 O) (rr 12 O (kc (zU QU O O) (rr 4 O (kT O O WN O O O ?_)))))));rw[hT];try rfl
end Go.Proofs.YtpbalelbenmmbaaGreatDoor
namespace Go.Proofs.YtpbalelbenmmbaaGreatDoor
open Go.Ab Tryz
def Wt{α:Type}(g:Nat->α->Int):∀(l:List α)(k:Nat),(∀(i:Nat)(h:i<l.length),g (k+i) l[i]=0)->(aK g k l).2=0
 |[],_,_=>rfl
 |x::l,k,h=>by
  have h0:g k x=0:=h 0 F;rw[aK,Zm (by simp[h0])];exact Wt g l (k+1) fun i hi=>by
   have:=h (i+1) (by grind);grind
def Iu(aS:bC)(l:List Frame):Prop:=(∀f∈l,dL aS f=0)/\∀(i j:Nat)(a b:Frame),l[i]?=some a->l[j]?=some b->a.tick=b.tick->i=j
def Iu.rec{aS:bC}{l:List Frame}(hp:bA aS=0)(h:Iu aS l)(hl:l.length<=40):mC aS l=0:=by
 have h0:=Sy aS l;have key:∀i,i<=l.length->Xp aS l i/\∀j (hj:j<i) (hjl:j<l.length),pJ aS l j l[j]=0:=by
  intro i
  induction i with
  |zero=>simp_all
  |succ i ih=>
   intro hi;obtain⟨h1,h2⟩:=ih I;have hil:i<l.length:=by omega
   have hg:pJ aS l i l[i]=0:=by
    rw[Nx hil h1,Ny,Zm (by simp[h.1 _ (Zt hil)]),Zm ?_];intro e;obtain⟨x,hx,hxe⟩:=xv.1 e;simp only[Zw,jn]at hxe;obtain⟨k,hk,rfl⟩:=ip hx;rw[gn]at hk;rw[List.getElem_take]at hxe;have:=h.2 k i l[k] l[i] (Zv I) (Zv hil) hxe.1;omega
   grind [Wj]
 unfold mC;rw[Zm (by simp[hp]),Zm I];exact Wt _ l 0 fun i hi=>by
  grind
end Go.Proofs.YtpbalelbenmmbaaGreatDoor
namespace Go.Proofs.YtpbalelbenmmbaaGreatDoor
open Go.Ab Tryz
section
variable{A:SA}
def SA.Pz{q:Nat×Nat}(h:A.ch=some q):A.cs[1]?=some (.raw (.slice (some ⟨q.1,0,none⟩) A.aC.length q.2)):=by show some (X.raw (A.ch.w _))=_;rw[h];rfl
def SA.YW{q:Nat×Nat}(h:A.ph=some q):A.cs[2]?=some (.raw (.slice (some ⟨q.1,0,none⟩) A.parts.length q.2)):=by show some (X.raw (A.ph.w _))=_;rw[h];rfl
def SA.rawM{q:Nat×Nat}(h:A.mh=some q):A.cs[3]?=some (.raw (.slice (some ⟨q.1,0,none⟩) A.aI.length q.2)):=by show some (X.raw (A.mh.w _))=_;rw[h];rfl
def SA.Jh{q:Nat×Nat}(h:A.ch=some q):A.mem .c=some (q.1,.row 3 q.2 (A.aC.map o6.cs)):=by show A.ch.map _=_;rw[h];rfl
def SA.Iz{q:Nat×Nat}(h:A.ph=some q):A.mem .p=some (q.1,.row 13 q.2 (A.parts.map pC)):=by show A.ph.map _=_;rw[h];rfl
def SA.atM{q:Nat×Nat}(h:A.mh=some q):A.mem .m=some (q.1,.row 1 q.2 (A.aI.map V1)):=by show A.mh.map _=_;rw[h];rfl
def ZB{α:Type}{q:Hd}{l:List α}{i:Nat}{x:α}(h:q=none->l=[])(hx:l[i]?=some x):∃p,q=some p:=by
 cases q<;>grind
def Z7{α β:Type}{f:α->β}{l:List α}{i:Nat}{x:α}(h:l[i]?=some x):(l.map f)[i]?=some (f x):=by simp_all
def ZC{α:Type}{g:α->Bool}{l:List α}{i:Nat}(h:ix g l=some i):bq g 0 l=i:=by rw[my,h]
def SA.Ee(A:SA)(j:Nat)(c:o6):SA:={A with aC:=A.aC.set j c}
def SA.eC(A:SA)(i:Nat)(v:Hd×Part):SA:={A with parts:=A.parts.set i v}
def SA.Vt{q:Nat×Nat}(h:A.ch=some q)(j:Nat)(c:o6):A.mem.set .c (some (q.1,.row 3 q.2 ((A.aC.map o6.cs).set j c.cs)))=(A.Ee j c).mem:=funext fun k=>by
 cases k with
 |c=>show some _=A.ch.map _;rw[h,←sf];rfl
 |_=>exact HM.ai _ _ Z
def SA.QG(j:Nat)(c:o6):(A.Ee j c).cs=A.cs:=by simp[SA.Ee,SA.cs]
def SA.Ok.Ee(h:A.Ok)(j:Nat)(c:o6):(A.Ee j c).Ok:=⟨h.rh,fun e=>by show A.aC.set j c=[];rw[h.ch e];rfl,h.ph,h.mh,h.fh⟩
def set_eq{α:Type}{l:List α}{i:Nat}{x:α}(h:l[i]?=some x)(f:α->α):l.set i (f x)=l.modify i f:=(cR h f).symm
def SA.TO{j:Nat}{c:o6}(h:A.aC[j]?=some c)(f:o6->o6):(A.Ee j (f c)).st={A.st with aC:=A.st.aC.modify j f}:=by simp_all[SA.Ee,SA.st,set_eq]
theorem SA.YM{q:Nat×Nat}(h:A.ph=some q){i:Nat}{v:Hd×Part}(hv:A.parts[i]?=some v){p:Part}(hp:p.frames=v.2.frames):A.mem.set .p (some (q.1,.row 13 q.2 ((A.parts.map pC).set i (p.cells (.raw (v.1.w v.2.frames.length))))))=(A.eC i (v.1,p)).mem:=funext fun k=>by
 cases k with
 |p=>show some _=A.ph.map _;rw[h];show _=some (_,HK.row 13 _ ((A.parts.set i (v.1,p)).map pC));rw[sf];unfold pC;dsimp only;rw[hp]
 |f j=>
  refine(HM.ai _ _ Z).trans ?_;show A.parts[j]?.bind _=(A.parts.set i (v.1,p))[j]?.bind _;rw[pj];split
  ·rename_i e;subst e;rw[hv,Zn (dq.1 hv).1];show Option.map _ v.1=Option.map _ v.1;rw[hp]
  rfl
 |_=>exact HM.ai _ _ Z
def SA.Ux{q:Nat×Nat}(h:A.ph=some q){i:Nat}{hd:Hd}{p0:Part}(hv:A.parts[i]?=some (hd,p0)){p:Part}(n:Nat)(hp:p.frames=p0.frames)(hn:n=p0.frames.length):A.mem.set .p (some (q.1,.row 13 q.2 ((A.parts.map pC).set i (p.cells (.raw (hd.w n))))))=(A.eC i (hd,p)).mem:=by grind [SA.YM]
def SA.Y7(i:Nat)(v:Hd×Part):(A.eC i v).cs=A.cs:=by simp[SA.eC,SA.cs]
def SA.Ok.eC(h:A.Ok){i:Nat}{v:Hd×Part}(hv:v.1=none->v.2.frames=[]):(A.eC i v).Ok:=⟨h.rh,h.ch,fun e=>by show A.parts.set i v=[];rw[h.ph e];rfl,h.mh,fun w hw=>(pD hw).elim (h.fh w) fun e=>e▸hv⟩
theorem SA.YB{i:Nat}{v:Hd×Part}(h:A.parts[i]?=some v)(q:Hd)(f:Part->Part):(A.eC i (q,f v.2)).st=A.st.eC i f:=by
 simp_all[SA.eC,SA.st,State.eC,set_eq]
theorem SA.Zb{i:Nat}{v:Hd×Part}(h:A.parts[i]?=some v):A.st.p i=v.2:=by simp_all[State.p,SA.st]
def SA.YR{M:HM SK}{xs:bi}{s:State}(h:A.Ok)(hM:M=A.mem)(hx:xs=A.cs)(hs:A.st=s):Gj M (.agg xs) (.agg s.cs):=by subst hM;subst hx;subst hs;exact h.fz
def SA.rT(A:SA)(q:Nat×Nat)(p:Part):SA:={A with ph:=some q,parts:=A.parts++[(none,p)]}
def SA.N0(q:Nat×Nat)(p:Part):A.mem.set .p (some (q.1,.row 13 q.2 (A.parts.map pC++[pC (none,p)])))=(A.rT q p).mem:=funext fun k=>by
 cases k with
 |p=>show some _=some _;rw[←wy,←dE];rfl
 |f j=>
  refine(HM.ai _ _ Z).trans ?_;show A.parts[j]?.bind _=(A.parts++[(none,p)])[j]?.bind _;rcases mx j A.parts.length with h|h
  ·rw[ly h]
  rw[qk h,pv h];cases j - A.parts.length with
  |zero=>rfl
  |succ n=>rfl
 |_=>exact HM.ai _ _ Z
def SA.Ok.rT(h:A.Ok)(q:Nat×Nat){p:Part}(hp:p.frames=[]):(A.rT q p).Ok:=⟨h.rh,h.ch,fun e=>(by cases e),h.mh,fun w hw=>(List.mem_append.1 hw).elim (h.fh w) fun e=>by simp_all⟩
def SA.addF(A:SA)(i:Nat)(q:Nat×Nat)(p:Part)(f:Frame):SA:=A.eC i (some q,{p with frames:=p.frames++[f]})
def SA.MV{c:Nat×Nat}(h:A.ph=some c){i:Nat}{v:Hd×Part}(hv:A.parts[i]?=some v)(q:Nat×Nat)(f:Frame):(A.mem.set (.f i) (some (q.1,.gM 2 q.2 (v.2.frames.map Frame.cs++[f.cs])))).set .p (some (c.1,.row 13 c.2 ((A.parts.map pC).set i (v.2.cells (.raw (.slice (some ⟨q.1,0,none⟩) ((v.2.frames.map Frame.cs).length+1) q.2))))))=(A.addF i q v.2 f).mem:=funext fun k=>by
 cases k with
 |p=>
  show some _=A.ph.map _;rw[h];show _=some (_,HK.row 13 _ ((A.parts.set i _).map pC));rw[sf,Zx];show _=some (_,HK.row 13 _ (List.set _ _ (pC (some q,{v.2 with frames:=v.2.frames++[f]}))));unfold pC;dsimp only;rw[Zs];rfl
 |f j=>
  refine(HM.ai _ _ Z).trans ?_;show(if SK.f j=SK.f i then _ else A.parts[j]?.bind _)=(A.parts.set i _)[j]?.bind _;rw[pj];by_cases e:i=j
  ·subst e;rw[Zn rfl,Zn rfl,Zn (dq.1 hv).1];show _=some (_,HK.gM 2 _ ((v.2.frames++[f]).map Frame.cs));rw[dE];rfl
  rw[Zm (fun h=>by cases h;exact e rfl),Zm e]
 |_=>exact(HM.ai _ _ Z).trans (HM.ai _ _ Z)
end
section
variable{α:Type}{g:α->Bool}{l:List α}
theorem NG:decide (bq g 0 l>=0)=(ix g l).isSome:=by
 rw[my];grind
def isS(h:bq g 0 l>=0):(ix g l).isSome=true:=by grind [NG]
def isN(h:¬bq g 0 l>=0):¬(ix g l).isSome=true:=by rw[←NG];simp_all
def X2(h:¬bq g 0 l<0):∃j,ix g l=some j:=fj.1 (isS I)
def X1(h:bq g 0 l<0):ix g l=none:=by
 have:=isN (g:=g) (l:=l) I;simp_all
end
def OP(s:State)(n:Int)(r c:ba)(j:Nat)(q:o6):SE:=if s.xE.isSome then(s,17)else if q.shots=q.nM then(s,22)else if s.parts.length=12 then(s,16)
 else({s with aC:=s.aC.modify j fun c=>{c with shots:=c.shots+1},parts:=s.parts++[⟨n,r,s.iN r,c,[],0,false,0,false,Span.zero⟩]},0)
def Xz(s:State)(n:Int)(r c:ba):SE:=match s.Bs c with
 |none=>(s,6)
 |some j=>if s.iN r=0 then(s,6)else if s.xE.isSome then(s,17)else match s.aC[j]? with
  |none=>(s,6)
  |some q=>if q.shots=q.nM then(s,22)else if s.parts.length=12 then(s,16)
   else({s with aC:=s.aC.modify j fun c=>{c with shots:=c.shots+1},parts:=s.parts++[⟨n,r,s.iN r,c,[],0,false,0,false,Span.zero⟩]},0)
section
variable{A:SA}{s:State}{n:Int}{r c:ba}
def MK(h:¬n>1000000):XA s n r c=if(s.vr n).isSome then(s,5)else Xz s n r c:=Zm h
def OR(h:s.iN r=0):Xz s n r c=(s,6):=by
 unfold Xz;grind
def OQ(h:s.Bs c=none):Xz s n r c=(s,6):=by unfold Xz;rw[h]
def ML{j:Nat}{q:o6}(hj:s.Bs c=some j)(hq:s.aC[j]?=some q)(hv:¬s.iN r=0):Xz s n r c=OP s n r c j q:=by
 simp_all[Xz,OP]
theorem SA.X7:A.st.parts.length=A.parts.length:=Zx ..
def SA.Mj(q:Nat×Nat)(p:Part):(A.rT q p).st={A.st with parts:=A.st.parts++[p]}:=by simp[SA.rT,SA.st]
def SA.NZ(j:Nat)(d:o6)(q:Nat×Nat)(p:Part):([.raw (A.rh.w A.yB.length),.raw (A.ch.w A.aC.length),.raw (.slice (some ⟨q.1,0,none⟩) ((A.parts.map pC).length+1) q.2),.raw (A.mh.w A.aI.length),bv A.env.parts,bv A.env.trim,.sl (A.env.rows.map fun l=>[.sl (l.map Range.cs)])]:bi)=((A.Ee j d).rT q p).cs:=by
 unfold SA.cs SA.rT SA.Ee;dsimp only;rw[hK,Zs,Zx];rfl
end
def Vc(p:bC)(l:List Frame):(ZO p l).rows.length=p.aR.toNat:=by unfold ZO;simp
def Ud{l:List Frame}{t:Nat}:∀(m:List Frame)(r:Row),(∀f∈m,f∈l)->(r=⟨false,[]⟩\/∃f∈l,r=⟨true,f.values⟩)->
  (m.foldl (fun r f=>if f.tick=(t:Int)then⟨true,f.values⟩else r) r=⟨false,[]⟩\/∃f∈l,m.foldl (fun r f=>if f.tick=(t:Int)then⟨true,f.values⟩else r) r=⟨true,f.values⟩)
 |[],r,_,h=>h
 |f::m,r,hm,h=>by
  rw[pf];refine Ud m _ (fun g hg=>hm g (dg _ hg)) ?_;grind
theorem U4(l:List Frame)(t:Nat):ZK l t=⟨false,[]⟩\/∃f∈l,ZK l t=⟨true,f.values⟩:=Ud l _ (fun _ h=>h) (.inl rfl)
def Xf{p:bC}{l:List Frame}(hp:bA p=0)(h2:∀f∈l,dL p f=0):(gB p (ZO p l)).2=0/\∀(i:Nat)(h:i<(ZO p l).rows.length),(ZO p l).rows[i].values.length<=p.aq.length:=by
 have ht:=jc hp;have hrow:∀x∈(ZO p l).rows,rowErr p x=0/\x.values.length<=p.aq.length:=fun x hx=>by
  unfold ZO at hx;obtain⟨t,_,rfl⟩:=eI.1 hx;rcases U4 l t with e|⟨f,hf,e⟩
  ·rw[e];exact⟨rfl,Zr _⟩
  rw[e];have g:=h2 f hf;have g2:=(D9 g).2;refine⟨?_,by simp_all⟩;unfold dL at g;rw[Zm (Zp (D9 (h2 f hf)).1)]at g;unfold rowErr;simp_all
 refine⟨?_,fun i hi=>(hrow _ (Zt hi)).2⟩;unfold gB;rw[Zm (by rw[Vc];omega),Yx _ _ 0 fun i hi=>(hrow _ (Zt hi)).1]
section
variable{A:SA}{pl:bC}{i:Nat}{v:Hd×Part}
structure State.Good(pl:bC)(s:State):Prop where
 sm:s.Sm
 fr:∀p∈s.parts,Iu pl p.frames/\p.frames.length<=40
 ju:∀p∈s.parts,p.place=0->p.lP=false
 env:0<s.env.rows.length->(ki pl s.env).2=0
 pl:bA pl=0
def State.Good.nB(h:A.st.Good pl)(hv:A.parts[i]?=some v):mC pl v.2.frames=0/\fM pl v.2.frames=ZO pl v.2.frames:=by
 have h1:=h.fr v.2 (eI.2 ⟨v,ce hv,rfl⟩);have h2:=Iu.rec h.pl h1.1 h1.2;simp_all[Xe]
def State.Good.vals(h:A.st.Good pl)(hv:A.parts[i]?=some v):∀x∈v.2.frames,x.values.length<=100000:=(h.sm.fr v.2 (eI.2 ⟨v,ce hv,rfl⟩)).2
def SA.pZ(h:A.parts[i]?=some v)(w:Hd×Part):(A.eC i w).parts[i]?=some w:=by
 show(A.parts.set i w)[i]?=_;grind
theorem SA.Uy(w w':Hd×Part):(A.eC i w).eC i w'=A.eC i w':=by simp[SA.eC]
def State.Good.both(h:A.st.Good pl)(hv:A.parts[i]?=some v)(he:0<A.env.rows.length):dZ pl A.env (ZO pl v.2.frames)=0:=by
 have h1:=(h.fr v.2 (eI.2 ⟨v,ce hv,rfl⟩)).1.1;have h2:(ki pl A.env).2=0:=h.env he;unfold dZ;rw[Zm (by rw[h.pl];decide),Zm I];exact(Xf h.pl h1).1
end
section
variable{A:SA}{pl:bC}{i:Nat}{v:Hd×Part}
theorem end_T(he:dZ pl A.env (ZO pl v.2.frames)=0)(hr:fM pl v.2.frames=ZO pl v.2.frames)(hl:0<A.env.rows.length):rC pl A.st.env (decide (0<A.st.env.rows.length)) v.2={v.2 with place:=1,lP:=true,verdict:=oX A.env (ZO pl v.2.frames)}:=by
 show rC pl A.env (decide (0<A.env.rows.length)) v.2=_;unfold rC;simp_all
def end_F(hr:fM pl v.2.frames=ZO pl v.2.frames)(hj:v.2.lP=false)(hl:¬0<A.env.rows.length):rC pl A.st.env (decide (0<A.st.env.rows.length)) v.2={v.2 with place:=1,verdict:=if(ZO pl v.2.frames).rows.all (fun x=>x.known)=true then v.2.verdict else 1}:=by
 show rC pl A.env (decide (0<A.env.rows.length)) v.2=_;simp_all[rC,mw]
def Tw(h:ix (fun p:Part=>decide (p.place=0)) A.st.parts=some i):∃v,A.parts[i]?=some v/\i<A.parts.length/\v.2.place=0:=by
 obtain⟨h1,h2⟩:=eE h;have h3:i<A.parts.length:=by grind [SA.X7]
 refine⟨A.parts[i],Zv h3,h3,?_⟩;have h4:A.st.parts[i]=A.parts[i].2:=ti ..;simp_all
def QH{α:Type}{l:List α}{i:Nat}{x y:α}(h:l[i]?=some x):(l.set i y)[i]?=some y:=by grind
end
section
variable{A:SA}{pl:bC}{i:Nat}{v:Hd×Part}{f:Frame}{e0:Int}{s:State}
def Ns(hu:s.xE=some i)(h0:e0≠0):ZQ pl s f e0=(s,e0):=by simp_all[ZQ]
def Nt(hu:s.xE=some i)(h:dL pl f≠0):ZQ pl s f 0=(s,dL pl f):=by simp_all[ZQ]
def Nu(hu:A.st.xE=some i)(hv:A.parts[i]?=some v)(h:¬dL pl f≠0)(hk:v.2.frames.find? (fun g=>decide (g.tick=f.tick))=none):ZQ pl A.st f 0=(A.st.eC i fun p=>{p with frames:=p.frames++[f]},0):=by
 unfold ZQ;rw[hu];refine(Zm C).trans ((Zm h).trans ?_);rw[SA.Zb hv,hk]
def Nv{g:Frame}(hu:A.st.xE=some i)(hv:A.parts[i]?=some v)(h:¬dL pl f≠0)(hk:v.2.frames.find? (fun g=>decide (g.tick=f.tick))=some g):ZQ pl A.st f 0=if g.values=f.values then(A.st,0)else(A.st,13):=by
 simp_all[ZQ,SA.Zb]
theorem Ub{α:Type}{g:α->Bool}{l:List α}{j:Nat}(h:j<l.length):(l.drop j).find? g=if g l[j]=true then some l[j]else(l.drop (j+1)).find? g:=by
 grind [List.drop_eq_getElem_cons]
end
def UJ{A:SA}(hA:A.Ok)(hb:A.st.Sm){L:vN}:dF prog 127 [] [.agg A.cs,.agg L.cs,bv (bq (fun p:Part=>decide (p.num=L.num)) 0 A.st.parts)] [(3000,.res (aa A.mem))] [(3000,.res JT)] (.cf [.agg (XA A.st L.num L.oF L.coil).1.cs,bv (XA A.st L.num L.oF L.coil).2]):=by
 refine cG func127 O fun{_ _}=>?_
 have hl1:=hb.lp;rw[SA.X7]at hl1;refine ro 16 O (kB O (fun c12=>?_) (fun c12=>?_))
 ·have hT:XA A.st L.num L.oF L.coil=(A.st,2):=Zn c12;refine kr (RK.cF (zL Z_ O O O O) hA.fz O O (rr 4 O (OK.ret ⟨aA.r2 (zy O O Z_ O) (zo O O) ?_,O,Zo⟩)));rw[hT];try rfl
 have e1:=MK (s:=A.st) (r:=L.oF) (c:=L.coil) c12;refine ro 9 O (kB O (fun c15=>?_) (fun c15=>?_))
 ·have hT:=e1.trans (Zn (isS c15));refine kr (RK.cF (zL Z_ O O O O) hA.fz O O (rr 4 O (OK.ret ⟨aA.r2 (zy O O Z_ O) (zo O O) ?_,O,Zo⟩)));rw[hT];try rfl
 have e2:=e1.trans (Zm (isN c15));refine ro 3 O ?_;refine kV (.c (zL Z_ O O O O) (.c (zf WZ O) (.c (zl Y9 O O O O) (.c (S.YT (XF (s:=A.st) (n:=L.oF)) O call135 .none O (zc O (zc O .nil)) (⟨hA.fz,Fz.same _ O,Zo⟩) O) (.c (zL Z_ O O O O) (.c (zf VP O) (.c (zl Y9 O O O O) (.c (S.YT (Xu (s:=A.st) (n:=L.coil)) O call130 .none O (zc O (zc O .nil)) (⟨hA.fz,Fz.same _ O,Zo⟩) O) (.c (za O) (.c (za O) .nil)))))))))) ?_;refine rd 7 O (RK.bh (t:=27) O (fun g27=>?_) (fun g27=>?_))
 ·have hT:=e2.trans (OR g27);refine rr 8 O (RK.cF (zL Z_ O O O O) hA.fz O O (rr 4 O (OK.ret ⟨aA.r2 (zy O O Z_ O) (zo O O) ?_,O,Zo⟩)));rw[hT];try rfl
 refine rr 5 O (kB O (fun c30=>?_) (fun c30=>?_))
 ·have hT:=e2.trans (OQ (X1 c30));refine kr (RK.cF (zL Z_ O O O O) hA.fz O O (rr 4 O (OK.ret ⟨aA.r2 (zy O O Z_ O) (zo O O) ?_,O,Zo⟩)));rw[hT];try rfl
 obtain⟨j,hj⟩:=X2 c30;have hcj:=ZC hj;have hjl:j<A.aC.length:=(eE hj).1;obtain⟨cc,hcc⟩:∃c,A.aC[j]?=some c:=⟨_,Zv hjl⟩;obtain⟨ch,hch⟩:=ZB hA.ch hcc;have hck:=hb.sh cc (ce hcc);have e3:=e2.trans (ML (n:=L.num) (r:=L.oF) hj hcc g27);refine ro 6 O (kc (S.YT (YA (s:=A.st)) O call131 .none O (zc O .nil) (⟨hA.fz,Zo⟩) O) (rr 3 O (kB O (fun c34=>?_) (fun c34=>?_))))
 ·have hT:=e3.trans (Zn (isS c34));refine kr (RK.cF (zL Z_ O O O O) hA.fz O O (rr 4 O (OK.ret ⟨aA.r2 (zy O O Z_ O) (zo O O) ?_,O,Zo⟩)));rw[hT];try rfl
 have e4:=e3.trans (Zm (isN c34));refine ro 4 O ?_;refine kV (.c (zf Wx O) (.c (S.fc SR .none O (zt O) O O (SA.Pz hch) O) (.c (zm O) (.c (S.hidx (i:=j) TQ .none O (zt O) (zt O) hcj hjl) (.c (zr Yy O) (.c (zH Z8 O (aa.V2 (k:=.c) (i:=j) (f:=2) (SA.Jh hch) (Z7 hcc) O O (.same _))) (.c (zf Wx O) (.c (S.fc SR .none O (zt O) O O (SA.Pz hch) O) (.c (zm O) (.c (S.hidx (i:=j) TQ .none O (zt O) (zt O) hcj hjl) (.c (zr Th O) (.c (zH Z8 O (aa.V2 (k:=.c) (i:=j) (f:=1) (SA.Jh hch) (Z7 hcc) O O (.same _))) (.c (S.eql .none O (zt O) (zt O)) .nil))))))))))))) (Ab.D.code (kB O (fun c48=>?_) (fun c48=>?_)))
 ·have hT:=e4.trans (Zn c48);refine kr (RK.cF (zL Z_ O O O O) hA.fz O O (rr 4 O (OK.ret ⟨aA.r2 (zy O O Z_ O) (zo O O) ?_,O,Zo⟩)));rw[hT];try rfl
 have e5:=e4.trans (Zm c48);refine ro 7 O ?_;refine kc (S.hlen ZH (by grind [maxLen]) .none O (zt O)) ?_;refine rr 3 O (kB O (fun c53=>?_) (fun c53=>?_))
 ·have hT:=e5.trans (Zn (by rw[SA.X7];omega));refine kr (RK.cF (zL Z_ O O O O) hA.fz O O (rr 4 O (OK.ret ⟨aA.r2 (zy O O Z_ O) (zo O O) ?_,O,Zo⟩)));rw[hT];try rfl
 have hT:=e5.trans (Zm (by rw[SA.X7];omega));refine ro 3 O ?_;refine kV (.c (zf Wx O) (.c (S.fc SR .none O (zt O) O O (SA.Pz hch) O) (.c (zm O) (.c (zf Wx O) (.c (S.fc SR .none O (zt O) O O (SA.Pz hch) O) (.c (zm O) (.c (S.hidx (i:=j) TQ .none O (zt O) (zt O) hcj hjl) (.c (zr Yy O) (.c (zH Z8 O (aa.V2 (k:=.c) (i:=j) (f:=2) (SA.Jh hch) (Z7 hcc) O O (.same _))) (.c (zp O O I) (.c (S.hidx (i:=j) TQ .none O (zt O) (zt O) hcj hjl) (.c (zr Yy O) (.c (S.ZP (rows':=(A.aC.map o6.cs).set j ({cc with shots:=cc.shots+1}:o6).cs) (.c) Z8 .none (zt O) (zt O) O (SA.Jh hch) (Z7 hcc) O O O O C O) .nil))))))))))))) (Ab.D.code (kO ?_));rw[SA.Vt hch];have hA1:=hA.Ee j {cc with shots:=cc.shots+1};refine ro 8 O (kc (zU JB O O) (rr 2 O (kc (zU bu68 O O) (RK.nilH (d:=77) O O ?_))));refine RK.c (zM [[_,_,_,_,_,_,_,_,_,_,_,_,_]] LB O O O O) ?_;refine RK.xs (S.happR (m:=1) (rows2:=[pC (none,(⟨L.num,L.oF,A.st.iN L.oF,L.coil,[],0,false,0,false,Span.zero⟩:Part))]) .p LB O (zt O) hA1.ps (zt O) O O O C (by rw[Zx];show(A.parts.length+1) * _<=_;omega) (by rw[Zx];show A.parts.length+1<=_;unfold maxLen;omega)) (fun q=>?_);refine rr 5 O ?_;have hA2:=hA1.rT q (p:=(⟨L.num,L.oF,A.st.iN L.oF,L.coil,[],0,false,0,false,Span.zero⟩:Part)) rfl;have hS:=(SA.Mj (A:=A.Ee j {cc with shots:=cc.shots+1}) q (⟨L.num,L.oF,A.st.iN L.oF,L.coil,[],0,false,0,false,Span.zero⟩:Part)).trans (by rw[SA.TO hcc fun c=>{c with shots:=c.shots+1}]);refine OK.bN (RK.cF (zL Z_ O O O O) (SA.YR hA2 (SA.N0 _ _) (SA.NZ j _ q _) hS) O O ?_);refine rr 4 O (OK.ret ⟨aA.r2 (zy O O Z_ O) (zo O O) ?_,O,Zo⟩);rw[hT];try rfl
def Xv{n:Net}(hp:n.aS.length<=1000):Ct prog 140 [.agg n.cs] (.agg (bP n.aS).1.cs):=by
 refine cI func140 O (ro 10 O (kc (zK (sn (l:=n.aS) I) call44 O) ?_));refine rr 14 O (OK.ret (aA.r1 (zy O O Za O) ?_));rfl
def Yl{n:Net}{p:Part}(hp:n.aS.length<=1000)(hpl:bA (bP n.aS).1=0)(hv:∀x∈p.frames,x.values.length<=100000):Ct prog 137 [.agg n.cs,.agg p.cs] (.agg (ZO (bP n.aS).1 p.frames).cs):=by
 refine cI func137 O (ro 8 O ?_);refine kV (.c (zL XB O O O O) (.c (zK (Xv hp) call140 O) (.c (zf Zf O) (.c (zl XM O O O O) (.c (zK (RC (p:=(bP n.aS).1) (l:=p.frames) (by simp_all[jc]) hv) call205 O) (.c (zS XK O O O O O O) .nil)))))) ?_;refine Ab.D.code (OK.ret (aA.r1 (zy O O XK O) ?_));rfl
def Sd{n:Net}(hpn:n.aS.length<=1000){A:SA}(hA:A.Ok)(hg:A.st.Good (bP n.aS).1):dF prog 129 [] [.agg n.cs,.agg A.cs] [(3000,.res (aa A.mem))] [(3000,.res JT)] (.cf [.agg (S7 (bP n.aS).1 (decide (0<A.st.env.rows.length)) A.st).1.cs,bv (S7 (bP n.aS).1 (decide (0<A.st.env.rows.length)) A.st).2]):=by
 refine cG func129 O (ro 11 O (kc (S.YT (YA (s:=A.st)) O call131 .none O (zc O .nil) (⟨hA.fz,Zo⟩) O) (rr 10 O (kB O (fun c12=>?_) (fun c12=>?_)))))
 ·have hu:A.st.xE=none:=X1 c12;have hT:S7 (bP n.aS).1 (decide (0<A.st.env.rows.length)) A.st=(A.st,12):=by grind [S7]
  refine kr (RK.cF (zL Z_ O O O O) hA.fz O O (rr 4 O (OK.ret ⟨aA.r2 (zy O O Z_ O) (zo O O) ?_,O,Zo⟩)));rw[hT];try rfl
 obtain⟨i,hu⟩:=X2 c12;have hui:=ZC hu;obtain⟨v,hv,hil,hv0⟩:=Tw hu;obtain⟨pq,hph⟩:=ZB hA.ph hv;have hT:S7 (bP n.aS).1 (decide (0<A.st.env.rows.length)) A.st=(A.st.eC i (rC (bP n.aS).1 A.st.env (decide (0<A.st.env.rows.length))),0):=by unfold S7;rw[show A.st.xE=some i from hu]
 obtain⟨_,hrr⟩:=hg.nB hv;refine ro 5 O (kc (S.fc Zl .none O (zt O) O O (SA.YW hph) O) (jm O (kc (S.hidx (i:=i) ZH .none O (zt O) (zt O) hui hil) (rr 4 O ?_))));refine kV (.c (zL XB O O O O) (.c (zm O) (.c (zn O O) (.c (zJ (us:=v.2.cs) TU O (aa.UE (k:=.p) (i:=i) (f:=0) (SA.Iz hph) (Z7 (f:=pC) hv) O ⟨.same _,.same _,.same _,.same _,.sl (hA.fs hv),.same _,.same _,.same _,.same _,.same _,.same _,.same _,.same _,Zo⟩ O)) (.c (zK (Yl hpn hg.pl (hg.vals hv)) call137 O) (.c (zA (c:=8) O0 O) (.c (zS XK O O O O O O) .nil))))))) ?_;refine rd 6 O ?_;refine kc (S.ZP (rows':=(A.parts.map pC).set i (({v.2 with place:=1}:Part).cells (.raw (v.1.w v.2.frames.length)))) (.p) Z8 .none (zt O) (.af O) O (SA.Iz hph) (Z7 hv) O O O O C O) ?_;refine rr 4 O ?_;rw[SA.YM hph hv (p:={v.2 with place:=1}) rfl];obtain⟨A1,hA1e⟩:∃A1,A1=A.eC i (v.1,{v.2 with place:=1}):=⟨_,rfl⟩;rw[←hA1e];have hph1:A1.ph=some pq:=by rw[hA1e];exact hph
 have hv1:A1.parts[i]?=some (v.1,{v.2 with place:=1}):=by simp_all[SA.pZ]
 have hfh:=hA.fh v (ce hv);refine ro 4 O (kc (zk SI O) (rr 3 O (kB O (fun c30=>?_) (fun c30=>?_))))
 ·have hl:0<A.env.rows.length:=by omega
  have hbe:=hg.both hv hl;have hbb:=ED hbe;have hpp:=jc hg.pl;obtain⟨_,hrv⟩:=Xf hg.pl (hg.fr v.2 (eI.2 ⟨v,ce hv,rfl⟩)).1.1;refine ro 6 O ?_;refine kc (zK (Sn (x:=A.env) (r:=ZO (bP n.aS).1 v.2.frames) hbb.fit (by rw[Vc];omega) (fun i h=>by grind) (LN (hg.env hl)) (M1 hbb)) call199 O) ?_;refine rr 2 O ?_;refine kc (S.ZP (rows':=(A1.parts.map pC).set i (({v.2 with place:=1,lP:=true}:Part).cells (.raw (v.1.w v.2.frames.length)))) (.p) SP .none (zt O) .aJ O (SA.Iz hph1) (Z7 hv1) O O O O C O) ?_;refine rr 2 O ?_;refine kc (S.ZP (rows':=(A1.parts.map pC).set i (({v.2 with place:=1,lP:=true,verdict:=oX A.env (ZO (bP n.aS).1 v.2.frames)}:Part).cells (.raw (v.1.w v.2.frames.length)))) (.p) Z8 .none (zt O) (zt O) O (HM.bw _ _ _) (QH (Z7 hv1)) O O O O C (by rw[Ix];rfl)) ?_;refine rr 3 O ?_;rw[HM.set_set,SA.Ux hph1 hv1 (p:={v.2 with place:=1,lP:=true,verdict:=oX A.env (ZO (bP n.aS).1 v.2.frames)}) v.2.frames.length rfl rfl];have hA2:(A1.eC i (v.1,{v.2 with place:=1,lP:=true,verdict:=oX A.env (ZO (bP n.aS).1 v.2.frames)})).Ok:=SA.Ok.eC (by rw[hA1e];exact hA.eC hfh) hfh;have hcs:A.cs=(A1.eC i (v.1,{v.2 with place:=1,lP:=true,verdict:=oX A.env (ZO (bP n.aS).1 v.2.frames)})).cs:=((SA.Y7 i _).trans (by simp_all[SA.Y7])).symm;have hS:(A1.eC i (v.1,{v.2 with place:=1,lP:=true,verdict:=oX A.env (ZO (bP n.aS).1 v.2.frames)})).st=A.st.eC i (rC (bP n.aS).1 A.st.env (decide (0<A.st.env.rows.length))):=by grind [SA.Uy,end_T,SA.YB]
  refine OK.bN (RK.cF (zL Z_ O O O O) (SA.YR hA2 O hcs hS) O O (rr 4 O (OK.ret ⟨aA.r2 (zy O O Z_ O) (zo O O) ?_,O,Zo⟩)));rw[hT];try rfl
 have hl:¬0<A.env.rows.length:=by omega
 have hE:=end_F (A:=A) hrr (hg.ju v.2 (eI.2 ⟨v,ce hv,rfl⟩) hv0) hl;refine ro 3 O (kc (zK (Wg (r:=ZO (bP n.aS).1 v.2.frames)) call136 O) (kc (S.not .none O (zt O)) (kD (OK.cond O O (fun c43=>?_) (fun c43=>?_)))))
 ·rw[Zm (by grind)]at hE;refine ro 4 O ?_;refine kc (S.ZP (rows':=(A1.parts.map pC).set i (({v.2 with place:=1,verdict:=1}:Part).cells (.raw (v.1.w v.2.frames.length)))) (.p) Z8 .none (zt O) (.af O) O (SA.Iz hph1) (Z7 hv1) O O O O C O) ?_;refine rr 3 O ?_;rw[SA.Ux hph1 hv1 (p:={v.2 with place:=1,verdict:=1}) v.2.frames.length rfl rfl];have hA2:(A1.eC i (v.1,{v.2 with place:=1,verdict:=1})).Ok:=SA.Ok.eC (by rw[hA1e];exact hA.eC hfh) hfh;have hcs:A.cs=(A1.eC i (v.1,{v.2 with place:=1,verdict:=1})).cs:=((SA.Y7 i _).trans (by simp_all[SA.Y7])).symm;have hS:(A1.eC i (v.1,{v.2 with place:=1,verdict:=1})).st=A.st.eC i (rC (bP n.aS).1 A.st.env (decide (0<A.st.env.rows.length))):=by grind [SA.Uy,SA.YB]
  refine OK.bN (RK.cF (zL Z_ O O O O) (SA.YR hA2 O hcs hS) O O (rr 4 O (OK.ret ⟨aA.r2 (zy O O Z_ O) (zo O O) ?_,O,Zo⟩)));rw[hT];try rfl
 rw[Zn (by grind)]at hE;refine ro 3 O ?_;have hA2:A1.Ok:=by rw[hA1e];exact hA.eC hfh
 have hcs:A.cs=A1.cs:=by simp_all[SA.Y7]
 have hS:A1.st=A.st.eC i (rC (bP n.aS).1 A.st.env (decide (0<A.st.env.rows.length))):=by grind [SA.YB]
 refine OK.bN (RK.cF (zL Z_ O O O O) (SA.YR hA2 O hcs hS) O O (rr 4 O (OK.ret ⟨aA.r2 (zy O O Z_ O) (zo O O) ?_,O,Zo⟩)));rw[hT];try rfl
def TH{n:Net}(hpn:n.aS.length<=1000){A:SA}(hA:A.Ok)(hg:A.st.Good (bP n.aS).1){L:vN}(hl:L.rest.length<=600):dF prog 128 [] [.agg n.cs,.agg A.cs,.agg L.cs] [(3000,.res (aa A.mem))] [(3000,.res JT)] (.cf [.agg (ZQ (bP n.aS).1 A.st (aY L.rest).1 (aY L.rest).2).1.cs,bv (ZQ (bP n.aS).1 A.st (aY L.rest).1 (aY L.rest).2).2]):=by
 refine cG func128 O (ro 12 O (kc (S.YT (YA (s:=A.st)) O call131 .none O (zc O .nil) (⟨hA.fz,Zo⟩) O) (rr 10 O (kB O (fun c16=>?_) (fun c16=>?_)))))
 ·have hu:A.st.xE=none:=X1 c16;have hT:ZQ (bP n.aS).1 A.st (aY L.rest).1 (aY L.rest).2=(A.st,12):=by unfold ZQ;rw[hu]
  refine kr (RK.cF (zL Z_ O O O O) hA.fz O O (rr 4 O (OK.ret ⟨aA.r2 (zy O O Z_ O) (zo O O) ?_,O,Zo⟩)));rw[hT];try rfl
 obtain⟨i,hu⟩:=X2 c16;have hui:=ZC hu;obtain⟨v,hv,hil,hv0⟩:=Tw hu;obtain⟨pq,hph⟩:=ZB hA.ph hv;have hfl:=(hg.fr v.2 (eI.2 ⟨v,ce hv,rfl⟩)).2;refine ro 6 O (kc (zK (Vn (l:=L.rest) I) call197 O) ?_);refine rr 15 O (kB O (fun c25=>?_) (fun c25=>?_))
 ·refine kV (.c (zL XB O O O O) (.c (zK (Xv hpn) call140 O) (.c (zL Ye O O O O) (.c (zK (TM (p:=(bP n.aS).1) (f:=(aY L.rest).1) (by have:=jc hg.pl;omega)) call198 O) (.c (za O) .nil))))) ?_;refine rd 8 O (kB O (fun c31=>?_) (fun c31=>?_))
  ·have hT:=(eQ (ZQ (bP n.aS).1 A.st (aY L.rest).1) c25).trans (Nt (i:=i) hu c31);refine kr (RK.cF (zL Z_ O O O O) hA.fz O O (rr 5 O (OK.ret ⟨aA.r2 (zy O O Z_ O) (zo O O) ?_,O,Zo⟩)));rw[hT];try rfl
  have hf0:=c31;refine ro 9 O ?_;refine OK.loop (G:=Nat) [4,6,9] (fun j=>[(4,.ptr 4 0),(1004,.box A.cs),(6,.ptr 6 0),(1006,.box [.bO,.bO,.bO,.bO,bv 0,bv 0,.bO]),(8,bv (bq (fun p:Part=>decide (p.place=0)) 0 A.st.parts)),(9,.ptr 9 0),(1009,.box (aY L.rest).1.cs),(11,bv j),(3000,.res (aa A.mem))]) (fun j=>j<=v.2.frames.length/\v.2.frames.find? (fun g:Frame=>decide (g.tick=(aY L.rest).1.tick))=(v.2.frames.drop j).find? (fun g:Frame=>decide (g.tick=(aY L.rest).1.tick))) (fun j=>v.2.frames.length - j) 0 ⟨Zr _,O⟩ ⟨O,O,O,O,O,O,O,O,O,Zo⟩ (fun _=>O) ?_;rintro j ⟨hj,hk⟩;refine ro 5 O (kc (S.fc Zl .none O (zt O) O O (SA.YW hph) O) (jm O (kc (S.hidx (i:=i) ZH .none O (zt O) (zt O) hui hil) (kc (zr Zf O) (kc (zH (u:=.sl (v.2.frames.map Frame.cs)) XM O (aa.V2 (k:=.p) (i:=i) (f:=4) (SA.Iz hph) (Z7 (f:=pC) hv) O O (.sl (hA.fs hv)))) (kc (zk Xj O) (rr 3 O (kB O (fun c42=>?_) (fun c42=>?_)))))))))
  ·have hjl:j<v.2.frames.length:=by omega
   refine ro 7 O (kc (S.fc Zl .none O (zt O) O O (SA.YW hph) O) (jm O (kc (S.hidx (i:=i) ZH .none O (zt O) (zt O) hui hil) (kc (zr Zf O) (kc (zH (u:=.sl (v.2.frames.map Frame.cs)) XM O (aa.V2 (k:=.p) (i:=i) (f:=4) (SA.Iz hph) (Z7 (f:=pC) hv) O O (.sl (hA.fs hv)))) (jm O (kc (zI Xj O hjl O) (rr 14 O (kB O (fun c58=>?_) (fun c58=>?_))))))))))
   ·have hT:=(eQ (ZQ (bP n.aS).1 A.st (aY L.rest).1) c25).trans (Nv hu hv hf0 (hk.trans ((Ub hjl).trans (Zn (by simpa using c58)))));refine ro 7 O (kc (zK (AM (a:=v.2.frames[j].values) (b:=(aY L.rest).1.values)) call26 O) (kc (S.jP .none O (zt O)) (kD (kB O (fun c64=>?_) (fun c64=>?_)))))
    ·rw[Zm (by simpa using c64)]at hT;refine kr (RK.cF (zL Z_ O O O O) hA.fz O O (rr 4 O (OK.ret ⟨aA.r2 (zy O O Z_ O) (zo O O) ?_,O,Zo⟩)));rw[hT];try rfl
    rw[Zn (by simpa using c64)]at hT;refine ro 4 O (RK.cF (zL Z_ O O O O) hA.fz O O (rr 4 O (OK.ret ⟨aA.r2 (zy O O Z_ O) (zo O O) ?_,O,Zo⟩)));rw[hT];try rfl
   refine Ro 8 O I ?_;refine Ab.D.lp ⟨j+1,⟨by omega,by rw[hk,Ub hjl,Zm (by simpa using c58)]⟩,I,O,O,O,O,O,O,O,O,O,Zo⟩
  have hT:=(eQ (ZQ (bP n.aS).1 A.st (aY L.rest).1) c25).trans (Nu hu hv hf0 (hk.trans (by rw[nb I];rfl)));refine ro 3 O ?_;refine OK.drawY follows (ι:=(Nat×Nat)) (0,0) 11 O (S.Ie (s:=[(75,.raw (v.1.w v.2.frames.length)),(77,.own 77 1),(2077,.arr 2 [(aY L.rest).1.cs]),(3000,.res (aa A.mem))]) (m:=1) (rows2:=[(aY L.rest).1.cs]) (.f i) O5 O (zt O) (hA.fs hv) (zt O) O O O C (by rw[Zx];omega) (by rw[Zx];unfold maxLen;omega)).st (fun q=>(.cs (zf ZM O) (.cs (S.fc Zl .none O (zt O) O O (SA.YW hph) O) (.cs (zm O) (.cs (zf ZM O) (.cs (S.fc Zl .none O (zt O) O O (SA.YW hph) O) (.cs (zm O) (.cs (S.hidx (i:=i) ZH .none O (zt O) (zt O) hui hil) (.cs (zr Zf O) (.cs (zH XM O (aa.V2 (k:=.p) (i:=i) (f:=4) (SA.Iz hph) (Z7 (f:=pC) hv) O O (.same _))) (.cs (zL Ye O O O O) (.cs (zM [[_,_]] O5 O O O O)
   (.x ⟨O,O,O,O,Zo⟩ (.cn (S.hidx (i:=i) ZH .none O (zt O) (zt O) hui hil) (.cn (zr Zf O) (.cn (S.ZP (rows':=(A.parts.map pC).set i (v.2.cells (.raw (.slice (some ⟨q.1,0,none⟩) ((v.2.frames.map Frame.cs).length+1) q.2)))) (.p) XM .none (zt O) (zt O) O ((HM.ai _ _ Z).trans (SA.Iz hph)) (Z7 (f:=pC) hv) O O O O C O) .nil)))))))))))))))) (fun q=>?_)
  refine Ab.D.code (kO ?_);rw[SA.MV hph hv];refine OK.bN (RK.cF (zL Z_ O O O O) (SA.YR (A:=A.addF i q v.2 (aY L.rest).1) (hA.eC fun h=>by cases h) O (SA.Y7 _ _).symm (SA.YB hv (some q) fun p=>{p with frames:=p.frames++[(aY L.rest).1]})) O O ?_);refine rr 4 O (OK.ret ⟨aA.r2 (zy O O Z_ O) (zo O O) ?_,O,Zo⟩);rw[hT];try rfl
 refine ro 9 O (kB O (fun c31=>?_) (fun c31=>?_))
 ·have hT:=Ns (pl:=(bP n.aS).1) (s:=A.st) (i:=i) (f:=(aY L.rest).1) hu c31;refine kr (RK.cF (zL Z_ O O O O) hA.fz O O (rr 5 O (OK.ret ⟨aA.r2 (zy O O Z_ O) (zo O O) ?_,O,Zo⟩)));rw[hT];try rfl
 exact absurd (Zu.1 c31) c25
