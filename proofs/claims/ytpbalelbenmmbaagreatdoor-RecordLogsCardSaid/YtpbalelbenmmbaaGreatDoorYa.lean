import Derived.Test.YtpbalelbenmmbaaGreatDoorWk
set_option linter.all false
set_option maxHeartbeats 1000000
namespace Go.Proofs.YtpbalelbenmmbaaGreatDoor
open Go.Ab Tryz
set_option maxRecDepth 9999
def dL(p:bC)(f:Frame):Int:=if¬(0<=f.tick/\f.tick<=p.aR - 1)then 2 else eM p f.values
def Bp(p:bC)(f:Frame):aF [ae (decide (0<=f.tick/\f.tick<=p.aR - 1)) 2,eM p f.values]=dL p f:=by
 rw[jH,dL];by_cases h:0<=f.tick/\f.tick<=p.aR - 1
 ·rw[ga h,Zm F,Zm I]
 rw[gw h,Zn C,Zn h]
def D9{p:bC}{f:Frame}(h:dL p f=0):(0<=f.tick/\f.tick<=p.aR - 1)/\f.values.length=p.aq.length:=by
 unfold dL at h;split at h
 ·cases h
 rename_i h1;refine⟨Zu.1 h1,?_⟩;grind [eM]
def rowAt(rows:List Row)(f:Frame):Row:=rows.getD f.tick.toNat ⟨false,[]⟩
def nJ(p:bC)(rows:List Row)(f:Frame):Int:=
 if dL p f≠0 then dL p f else if(rowAt rows f).known=true then ae (decide ((rowAt rows f).values=f.values)) 13 else 0
def gy(p:bC)(rows:List Row)(f:Frame):List Row:=
 if dL p f≠0 then rows else if(rowAt rows f).known=true then rows else rows.set f.tick.toNat ⟨true,f.values⟩
def vm(p:bC)(rows:List Row)(f:Frame):(gy p rows f).length=rows.length:=by
 grind [gy]
def dV(p:bC)(l:List Frame)(i:Nat):List Row:=(l.take i).foldl (gy p) (List.replicate p.aR.toNat ⟨false,[]⟩)
def xA(p:bC)(l:List Frame):dV p l 0=List.replicate p.aR.toNat ⟨false,[]⟩:=rfl
def o5(p:bC){l:List Frame}{i:Nat}(h:i<l.length):dV p l (i+1)=gy p (dV p l i) l[i]:=by
 grind [dV,tF]
def mB(p:bC)(l:List Frame):∀i,i<=l.length->(dV p l i).length=p.aR.toNat
 |0,_=>by rw[xA,sc]
 |i+1,h=>by rw[o5 p I,vm,mB p l i I]
def pJ(p:bC)(l:List Frame)(i:Nat)(f:Frame):Int:=nJ p (dV p l i) f
def Ny(p:bC)(l:List Frame)(i:Nat)(f:Frame):Int:=
 if dL p f≠0 then dL p f else if((l.take i).any fun x=>decide (x.tick=f.tick)&&!decide (x.values=f.values))=true then 13 else 0
def gY{α:Type}(g:Nat->α->Int):Nat->List α->Nat
 |i,[]=>i
 |i,x::l=>if g i x≠0 then i+1 else gY g (i+1) l
def rO{α:Type}(g:Nat->α->Int){l:List α}{i:Nat}(h:i<l.length):gY g i (l.drop i)=if g i l[i]≠0 then i+1 else gY g (i+1) (l.drop (i+1)):=by
 rw[ci h,gY]
def tL{α:Type}(g:Nat->α->Int):∀(l:List α)(i:Nat),(aK g i l).2=0->gY g i l=i+l.length
 |[],i,_=>rfl
 |x::l,i,h=>by
  rw[aK]at h;by_cases hx:g i x≠0
  ·simp_all
  rw[Zm hx]at h;rw[gY,Zm hx,tL g l (i+1) h,ge];omega
theorem xB{α:Type}(g:Nat->α->Int):∀(l:List α)(i:Nat),gY g i l<=i+l.length
 |[],i=>Zq _
 |x::l,i=>by
  rw[gY,ge];split
  ·omega
  have:=xB g l (i+1);omega
def mC(p:bC)(l:List Frame):Int:=if bA p≠0 then bA p else if 40<l.length then 8 else(aK (pJ p l) 0 l).2
def fM(p:bC)(l:List Frame):aX:=if mC p l=0 then⟨dV p l l.length⟩else⟨[]⟩
def ZK(l:List Frame)(t:Nat):Row:=l.foldl (fun r f=>if f.tick=(t:Int)then⟨true,f.values⟩else r) ⟨false,[]⟩
def ZO(p:bC)(l:List Frame):aX:=⟨(List.range p.aR.toNat).map (ZK l)⟩
def Tz{l:List Frame}{t i:Nat}(h:i<l.length):ZK (l.take (i+1)) t=if l[i].tick=(t:Int)then⟨true,l[i].values⟩else ZK (l.take i) t:=by
 grind [ZK,tF]
def Bq{rows:List Row}:∀{i:Nat}(h:i<rows.length),(rows.map Row.cs).flatten[i * 2+0]?=some (.bool rows[i].known):=by
 induction rows with
 |nil=>simp
 |cons r rows ih=>
  intro i h;cases i with
  |zero=>rfl
  |succ i=>
   have:=ih (i:=i) (by grind);rw[show(i+1) * 2+0=(i * 2+0)+2 by omega];exact this
def Br{rows:List Row}:∀{i:Nat}(h:i<rows.length),(rows.map Row.cs).flatten[i * 2+1]?=some (ints rows[i].values):=by
 induction rows with
 |nil=>simp
 |cons r rows ih=>
  intro i h;cases i with
  |zero=>rfl
  |succ i=>
   have:=ih (i:=i) (by grind);rw[show(i+1) * 2+1=(i * 2+1)+2 by omega];exact this
def Xp(p:bC)(l:List Frame)(i:Nat):Prop:=∀t,t<p.aR.toNat->
 ((((dV p l i).getD t ⟨false,[]⟩).known=false->(dV p l i).getD t ⟨false,[]⟩=⟨false,[]⟩/\∀x∈l.take i,x.tick≠(t:Int))/\
  (((dV p l i).getD t ⟨false,[]⟩).known=true->(∃x∈l.take i,x.tick=(t:Int))/\∀x∈l.take i,x.tick=(t:Int)->x.values=((dV p l i).getD t ⟨false,[]⟩).values))
def Nx{p:bC}{l:List Frame}{i:Nat}(hi:i<l.length)(h:Xp p l i):pJ p l i l[i]=Ny p l i l[i]:=by
 unfold pJ Ny nJ;by_cases he:dL p l[i]≠0
 ·omega
 rw[Zm he,Zm he];have hf:=(D9 (Zu.1 he)).1;have hto:((l[i].tick.toNat:Nat):Int)=l[i].tick:=wp hf.1;obtain⟨h1,h2⟩:=h l[i].tick.toNat I;unfold rowAt;cases hk:((dV p l i).getD l[i].tick.toNat ⟨false,[]⟩).known with
 |false=>
  simp_all
 |true=>
  obtain⟨⟨x,hx,ht⟩,h3⟩:=h2 hk;rw[Zn rfl];rw[hto]at ht h3;by_cases hv:((dV p l i).getD l[i].tick.toNat ⟨false,[]⟩).values=l[i].values
  ·rw[ga hv,Zm];simp_all
  rw[gw hv,Zn];grind
def Sy(p:bC)(l:List Frame):Xp p l 0:=by
 intro t ht;have e:(dV p l 0).getD t ⟨false,[]⟩=⟨false,[]⟩:=by simp_all[xA]
 simp_all
theorem Wj{p:bC}{l:List Frame}{i:Nat}(hi:i<l.length)(h:Xp p l i)(he:pJ p l i l[i]=0):Xp p l (i+1):=by
 have hlen:=mB p l i I;unfold pJ nJ at he;have hf0:dL p l[i]=0:=by
  omega
 have hf:=(D9 hf0).1;have hto:((l[i].tick.toNat:Nat):Int)=l[i].tick:=wp hf.1;rw[Zm I]at he;intro t ht;have hmem:∀x,x∈l.take (i+1)↔x∈l.take i\/x=l[i]:=fun x=>by rw[←tF hi,List.mem_append,df]
 obtain⟨h1,h2⟩:=h t ht;rw[o5 p hi];unfold gy;rw[Zm I];by_cases hk:(rowAt (dV p l i) l[i]).known=true
 ·rw[Zn hk]at he⊢;have hv:(rowAt (dV p l i) l[i]).values=l[i].values:=by
   grind [gw]
  refine⟨fun hk2=>?_,fun hk2=>?_⟩
  ·obtain⟨q1,q2⟩:=h1 hk2;refine⟨q1,fun x hx=>?_⟩;rcases(hmem x).1 hx with hx|rfl
   all_goals grind [rowAt]
  obtain⟨⟨x,hx,hxt⟩,q2⟩:=h2 hk2;refine⟨⟨x,(hmem x).2 (.inl hx),hxt⟩,fun y hy hyt=>?_⟩;rcases(hmem y).1 hy with hy|rfl
  all_goals simp_all[rowAt]
 rw[Zm hk];by_cases htt:l[i].tick.toNat=t
 ·have e:((dV p l i).set l[i].tick.toNat ⟨true,l[i].values⟩).getD t ⟨false,[]⟩=⟨true,l[i].values⟩:=by
   simp_all
  rw[e];have hkt:((dV p l i).getD t ⟨false,[]⟩).known=false:=by
   simp_all[rowAt]
  grind
 grind
def Qr{p:bC}{l:List Frame}:∀(n i:Nat),l.length - i=n->i<=l.length->Xp p l i->
  aK (pJ p l) i (l.drop i)=aK (Ny p l) i (l.drop i)/\((aK (pJ p l) i (l.drop i)).2=0->Xp p l l.length)
 |0,i,hn,hi,h=>by
  have e:i=l.length:=by omega
  subst e;rw[co];exact⟨rfl,fun _=>h⟩
 |n+1,i,hn,hi,h=>by
  have hlt:i<l.length:=by omega
  rw[bE _ hlt,bE _ hlt,Nx hlt h];by_cases he:Ny p l i l[i]≠0
  ·simp_all
  rw[Zm he,Zm he];exact Qr n (i+1) I I (Wj hlt h (by simp_all[Nx]))
def Xa{t:Nat}:∀(l:List Frame)(r:Row),(∀x∈l,x.tick≠(t:Int))->l.foldl (fun r f=>if f.tick=(t:Int)then⟨true,f.values⟩else r) r=r
 |[],_,_=>rfl
 |x::l,r,h=>by
  rw[pf,Zm (h x dp)];exact Xa l r fun y hy=>h y (dg _ hy)
def X3{t:Nat}{v:bd}:∀(l:List Frame)(r:Row),(∀x∈l,x.tick=(t:Int)->x.values=v)->(r=⟨true,v⟩\/∃x∈l,x.tick=(t:Int))->l.foldl (fun r f=>if f.tick=(t:Int)then⟨true,f.values⟩else r) r=⟨true,v⟩
 |[],r,_,h=>by
  simp_all
 |x::l,r,h,ho=>by
  rw[pf];have hl:=fun y hy=>h y (dg _ hy)
  by_cases hx:x.tick=(t:Int)
  ·rw[Zn hx];exact X3 l _ hl (.inl (by simp_all))
  rw[Zm hx];refine X3 l r hl ?_;simp_all
def Xe{p:bC}{l:List Frame}(h:mC p l=0):fM p l=ZO p l:=by
 have hp:bA p=0:=by
  grind [mC]
 have hg:(aK (pJ p l) 0 l).2=0:=by
  unfold mC at h;omega
 have hok:=(Qr (p:=p) (l:=l) l.length 0 rfl (Zr _) (Sy p l)).2 (by simp_all);have hlen:=mB p l l.length (Zq _);rw[fM,Zn h,ZO];congr 1;refine List.ext_getElem (by simp[hlen]) fun t h1 h2=>?_
 rw[ti,List.getElem_range];have ht:t<p.aR.toNat:=by omega
 obtain⟨q1,q2⟩:=hok t ht;rw[fp]at q1 q2;have e:(dV p l l.length).getD t ⟨false,[]⟩=(dV p l l.length)[t]:=getD_at h1;rw[e]at q1 q2;cases hk:(dV p l l.length)[t].known with
 |false=>
  simp_all[ZK,Xa]
 |true=>
  obtain⟨r1,r2⟩:=q2 hk;rw[ZK,X3 l _ r2 (.inr r1)];rw[←hk]
end Go.Proofs.YtpbalelbenmmbaaGreatDoor
namespace Go.Proofs.YtpbalelbenmmbaaGreatDoor
open Go.Ab Tryz
def lN{a b:bd}:Ct prog 175 [ints a,ints b] (.bool (decide (a=b))):=by
 refine cI func175 O (OK.eW (rows:=a.map (fun n=>[bv n])) (t:=0) O O fun hlen=>?_);rw[Zx]at hlen;unfold maxLen at hlen;refine ro 9 O (kc (zk Z4 O) (jm O (kc (zk Z4 O) (rr 3 O (kB O (fun c10=>?_) (fun c10=>?_))))))
 ·refine ro 5 O (kR O O ?_);grind [ret_F]
 have hl:a.length=b.length:=by omega
 refine ro 6 O (kc (zk Z4 O) (rr 4 O ?_));refine OK.loop (G:=Nat) [] (fun i=>[(0,ints a),(1,ints b),(12,bv a.length),(13,bv i)]) (fun i=>i<=a.length/\a.take i=b.take i) (fun i=>a.length - i) 0 ⟨Zr _,O⟩ ⟨O,O,O,O,Zo⟩ (fun _=>O) ?_;rintro i ⟨hi,ht⟩;refine ro 6 O (kB O (fun c14=>?_) (fun c14=>?_))
 ·refine ro 11 O (kV (.c (zm O) (.c (zm O) (.c (zI Z4 O I O) (.c (zV Z8 O O) (.c (zm O) (.c (zm O) (.c (zI Z4 O I O) (.c (zV Z8 O O) (.c (S.neq .none O (zt O) (zt O)) .nil))))))))) (Ab.D.code (kB O (fun c24=>?_) (fun c24=>?_))))
  ·refine ro 5 O (kR O O ?_);exact ret_F (fun e=>by simp_all)
  refine Ro 7 O I (Ab.D.lp ⟨i+1,⟨by omega,?_⟩,I,O,O,O,O,Zo⟩);simp only[ne_eq,Zu]at c24;grind [List.take_succ_eq_append_getElem]
 refine ro 7 O (kR O O ?_);grind
def sB{l:bd}(h0:0<l.length)(hlen:l.length<=100000):Ct prog 282 [ints l] (ints l):=by
 refine cI func282 O (kr (kc (S.assign .none O .fW) (rr 6 O ?_)));refine kc (S.Hq underlying47 .none O (zt O) (by simp_all)) ?_;refine rr 7 O (RK.c (zM [] ZY O O O O) (jm O ?_));refine RK.c (S.mQ ZY .none O (zt O) O (by rfl) (zt O) F O (by grind) (by grind [maxLen])) ?_;refine rr 3 O ?_;refine OK.ret (aA.r1 (.tmp O O (.c (.own O O F) O) O) ?_);rfl
def nK{p:bC}{f:Frame}(hpt:1<=p.aR/\p.aR<=12):Ct prog 229 [.agg p.cs,.agg f.cs] (bv (dL p f)):=by
 refine cI func229 O (ro 8 O ?_);refine kV (.c (zf Td O) (.c (zl Z8 O O O O) (.c (zf Tj O) (.c (zf Ta O) (.c (zl Z8 O O O O) (.c (S.sub .none O (zt O) (.af O) (ca _ I) (ca _ I)) (.c (zK dJ call168 O) (.c (zK aT call164 O) (.c (zL SO O O O O) (.c (zf XQ O) (.c (zl ZA O O O O) (.c (zK lJ call276 O) (.c (zM [[_],[_]] ZX O O O O) (.c (S.callL (cC (l:=[_,_])) call163 .none O (zc O .nil) (.cons (.p (.own O O) O) .nil) O) (.c (za O) .nil))))))))))))))) (Ab.D.code (kR O O ?_));exact cy (Bp p f)
def rD{p:bC}{f:Frame}:Ct prog 172 [.agg p.cs,.agg f.cs] (bv (if bA p=0 then dL p f else bA p)):=by
 refine cI func172 O (ro 10 O (kc (zK ng call228 O) (rr 15 O (kB O (fun c13=>?_) (fun c13=>?_)))))
 ·have hpp:=jc c13;refine ro 3 O (kc (zK (nK I) call229 O) ?_);refine rr 9 O (kR O O ?_);grind
 refine ro 8 O (kR O O ?_);grind
def Ea{p:bC}{rows:List Row}{n:Nat}{i:Nat}{f:Frame}(hn:rows.length=n)(hnt:n=p.aR.toNat)(hpt:1<=p.aR/\p.aR<=12)(hc:0<p.aq.length/\p.aq.length<=100000):dF prog 281 [6,8,27] [bv i,.agg f.cs,.ptr 6 0,.ptr 8 0] [(1006,.box p.cs),(1008,.box [.own 27 n]),(2027,.arr 2 (rows.map Row.cs))] [(1006,.box p.cs),(1008,.box [.own 27 n]),(2027,.arr 2 ((gy p rows f).map Row.cs))] (bv (nJ p rows f)):=by
 refine cG func281 O fun{_ _}=>?_
 have hrl:(rows.map Row.cs).length=n:=by simp_all
 refine ro 11 O (kc (zK (nK I) call229 O) ?_);refine rr 9 O (kB O (fun c13=>?_) (fun c13=>?_))
 ·refine ro 6 O ?_;refine OK.ret ⟨aA.r1 (zo O O) ?_,O,O,(bH (by rw[gy,Zn c13])),Zo⟩;simp_all[nJ]
 have he:dL p f=0:=Zu.1 c13;obtain⟨hf1,hf2⟩:=D9 he;have hto:((f.tick.toNat:Nat):Int)=f.tick:=wp hf1.1;have hlt:f.tick.toNat<rows.length:=by omega
 have hrow:rowAt rows f=rows[f.tick.toNat]:=getD_at hlt;refine ro 8 O (kc (S.tO (i:=f.tick.toNat) Zj .none O (zt O) O hrl (zt O) hto.symm I) ?_);refine rr 7 O (kc (S.n7 .none O (zt O) O hrl) (kc (S.BH Qm .none O (zt O) O hrl) (kc (S.BG SP .none O (zt O) O hrl (Bq hlt)) (kD (OK.cond O O (fun c23=>?_) (fun c23=>?_))))))
 ·refine kO (kV (.c (zm O) (.c (S.n7 .none O (zt O) O hrl) (.c (S.BH Ti .none O (zt O) O hrl) (.c (S.BG ZA .none O (zt O) O hrl (Br hlt)) (.c (zf XQ O) (.c (zl ZA O O O O) (.c (zK lN call175 O) (.c (zK aT call164 O) (.c (za O) .nil))))))))) (Ab.D.code (OK.ret ⟨aA.r1 (zo O O) ?_,O,O,(bH (by simp_all[gy])),Zo⟩)));simp_all[nJ]
 refine ro 7 O (kc (zK (sB (l:=f.values) I I) call282 O) (kc (zU M7 O O) (kc (S.n7 .none O (zt O) O hrl) ?_)));refine RK.c (S.B5 (i:=f.tick.toNat) OV .none (zt O) (zt O) O hrl O I O O O (show _=(rows.set f.tick.toNat ⟨true,f.values⟩).map Row.cs by rw[sf];rfl)) ?_;refine rr 7 O ?_;refine OK.ret ⟨aA.r1 (zo O O) ?_,O,O,(bH (by simp_all[gy])),Zo⟩;simp_all[nJ]
def vo{l:List Frame}{g:Nat->Frame->Int}{Φ:Value->Prop}{J:Nat->bm}(hΦ:∀(i:Nat)(h:i<l.length)(v:Value),Φ v->nR prog v [.int .i64 i,.agg l[i].cs] (.int .i64 (g i l[i])) (J i) (J (i+1)))(hJ:∀i,aZ (J i)):dF prog 280 [] [.sl (l.map Frame.cs),.cb Φ] [(3000,.res (J 0))] [(3000,.res (J (gY g 0 l)))] (pair (aK g 0 l)):=by
 refine cG func280 O (OK.eW (rows:=l.map Frame.cs) (t:=0) O O fun hlen=>?_);rw[Zx]at hlen;unfold maxLen at hlen;refine ro 10 O (kc (zk Xj O) (rr 4 O ?_));refine OK.loop (G:=Nat) [] (fun i=>[(1,.cb Φ),(9,.sl (l.map Frame.cs)),(10,bv l.length),(11,bv i),(3000,.res (J i))]) (fun i=>i<=l.length/\aK g 0 l=aK g i (l.drop i)/\gY g 0 l=gY g i (l.drop i)) (fun i=>l.length - i) 0 ⟨Zr _,O,O⟩ ⟨O,O,O,O,O,Zo⟩ (fun _=>O) ?_;rintro i ⟨hi,hg,hN⟩;refine ro 6 O (kB O (fun c12=>?_) (fun c12=>?_))
 ·refine ro 7 O (kc (zI Xj O I O) ?_);refine rr 11 O ?_;refine kc (S.tQ (J1:=J (i+1)) (hΦ i I) (hJ _) .none O (zt O) (zc O (zc O .nil)) O O) ?_;refine rr 9 O (kB O (fun c21=>?_) (fun c21=>?_))
  ·refine ro 8 O ?_;refine OK.ret ⟨aA.r2 (zo O O) (zo O O) ?_,(lZ (by rw[hN,rO _ I,Zn c21])),Zo⟩;refine dD ?_;rw[hg,bE _ I,Zn c21]
  refine Ro 7 O I (Ab.D.lp ⟨i+1,⟨by omega,?_,?_⟩,I,O,O,O,O,O,Zo⟩)
  ·rw[hg,bE _ I,Zm c21]
  rw[hN,rO _ I,Zm c21]
 refine ro 8 O ?_;refine OK.ret ⟨aA.r2 (zo O O) (zo O O) ?_,(lZ (by rw[hN,show i=l.length by omega,co];rfl)),Zo⟩;refine dD ?_;rw[hg,show i=l.length by omega,co];rfl
end Go.Proofs.YtpbalelbenmmbaaGreatDoor
namespace Go.Proofs.YtpbalelbenmmbaaGreatDoor
open Go.Ab Tryz
def Fp(p:bC)(l:List Frame):aF [bA p,ae (decide ((l.length:Int)<=40)) 8]=if bA p≠0 then bA p else if 40<l.length then 8 else 0:=by
 rw[jH];by_cases h1:bA p≠0
 ·omega
 rw[Zm h1,Zm h1];by_cases h2:40<l.length
 ·rw[gw I,Zn h2]
 rw[ga I,Zm h2]
def uU{p:bC}{l:List Frame}:Ct prog 233 [.agg p.cs,.sl (l.map Frame.cs)] (.cf [.agg (fM p l).cs,bv (mC p l)]):=by
 refine cI func233 O fun{_ _}=>?_
 have hh:=Fp p l;have hre:mC p l=if bA p≠0 then bA p else if 40<l.length then 8 else(aK (pJ p l) 0 l).2:=rfl
 refine ro 10 O (kc (zK ng call228 O) (rr 13 O (kc (zk Xj O) (kc (S.leq .none O (zt O) (.af O)) (kc (zK aT call164 O) ?_)))));refine RK.c (zM [[_],[_]] ZX O O O O) (kc (S.callL (cC (l:=[_,_])) call163 .none O (zc O .nil) (.cons (.p (.own O O) O) .nil) O) ?_);refine rr 9 O (kB O (fun c22=>?_) (fun c22=>?_))
 ·have hq:mC p l=aF [bA p,ae (decide ((l.length:Int)<=40)) 8]:=by
   omega
  have hne:¬mC p l=0:=by omega
  refine kr (kc (zU M5 O O) (rr 5 O (OK.ret (aA.r2 (.bG O O O O XK O (.k .bO .z)) (zo O O) ?_))));rw[fM,Zm hne,hq];rfl
 have hp0:bA p=0:=by omega
 have hl40:l.length<=40:=by omega
 have hpp:=jc hp0;have hq:mC p l=(aK (pJ p l) 0 l).2:=by omega
 have hlenN:(dV p l (gY (pJ p l) 0 l)).length=p.aR.toNat:=mB p l _ (by grind [xB]);have kS:∀(i:Nat)(h:i<l.length),dF prog 281 [6,8,27] ([bv i,.agg l[i].cs]++[.ptr 6 0,.ptr 8 0]) [(1006,.box p.cs),(1008,.box [.own 27 p.aR.toNat]),(2027,.arr 2 ((dV p l i).map Row.cs))] [(1006,.box p.cs),(1008,.box [.own 27 p.aR.toNat]),(2027,.arr 2 ((dV p l (i+1)).map Row.cs))] (bv (pJ p l i l[i])):=fun i h=>by
  rw[o5 p h];exact Ea (mB p l i I) rfl I I
 have kE:∀(cL:Ctx)(v0:Value),aV cL (.fn 281 [.ptr 6 0,.ptr 8 0]) v0->dF prog 280 [] ([.sl (l.map Frame.cs)]++[.cb fun v=>v=v0]) [(3000,.res (ic [6,8,27] [(1006,.box p.cs),(1008,.box [.own 27 p.aR.toNat]),(2027,.arr 2 ((dV p l 0).map Row.cs))] cL [(1006,.box p.cs),(1008,.box [.own 27 p.aR.toNat]),(2027,.arr 2 ((dV p l 0).map Row.cs))]))] [(3000,.res (ic [6,8,27] [(1006,.box p.cs),(1008,.box [.own 27 p.aR.toNat]),(2027,.arr 2 ((dV p l 0).map Row.cs))] cL [(1006,.box p.cs),(1008,.box [.own 27 p.aR.toNat]),(2027,.arr 2 ((dV p l (gY (pJ p l) 0 l)).map Row.cs))]))] (pair (aK (pJ p l) 0 l)):=fun cL v0 hv=>vo (l:=l) (g:=pJ p l) (Φ:=fun v=>v=v0) (J:=fun i=>ic [6,8,27] [(1006,.box p.cs),(1008,.box [.own 27 p.aR.toNat]),(2027,.arr 2 ((dV p l 0).map Row.cs))] cL [(1006,.box p.cs),(1008,.box [.own 27 p.aR.toNat]),(2027,.arr 2 ((dV p l i).map Row.cs))]) (fun i h v e=>by subst e;exact yF (kS i h) call281 rfl hv rfl rfl) (fun i=>ic.az rfl)
 refine ro 6 O ?_;refine RK.c (S.make (k:=27) (n:=p.aR.toNat) MW (⟨⟨t303,_,by kernel_rfl,rfl,fun h=>⟨.bool _,.rP none 0 (Zr _),Zo⟩⟩⟩:IP prog 303 [.bool false,.sl []]) .none O (zt O) (zt O) I I (by unfold maxLen;omega)) ?_;refine kc (zU M5 O O) (rr 7 O (kc (S.s5 .none O (zt O) (zt O) O O) ?_));refine RK.c (S.Fu (fs:=[6,8,27]) (t:=[(1006,.box p.cs),(1008,.box [.own 27 p.aR.toNat]),(2027,.arr 2 ((dV p l 0).map Row.cs))]) (t':=[(1006,.box p.cs),(1008,.box [.own 27 p.aR.toNat]),(2027,.arr 2 ((dV p l (gY (pJ p l) 0 l)).map Row.cs))]) (kE) call280 .none O (zc O (zc O .nil)) O O O ⟨O,O,(bH (by rw[xA,List.map_replicate];rfl)),Zo⟩ V V V V V O O) ?_;refine rr 13 O (kB O (fun c36=>?_) (fun c36=>?_))
 ·refine kr (kc (zU M5 O O) (rr 5 O (OK.ret (aA.r2 (.bG O O O O XK O (.k .bO .z)) (zo O O) ?_))));rw[fM,Zm I,hq];rfl
 have he0:(aK (pJ p l) 0 l).2=0:=Zu.1 c36;have he:mC p l=0:=by omega
 have hN:gY (pJ p l) 0 l=l.length:=by rw[tL _ l 0 he0,gk]
 refine ro 9 O ?_;refine OK.ret (aA.r2 (.bG O O O O XK O (.k (.own O O (by simp_all)) .z)) (zo O O) ?_);rw[fM,Zn he,he,hN];rfl
def TM{p:bC}{f:Frame}(hpt:1<=p.aR/\p.aR<=12):Ct prog 198 [.agg p.cs,.agg f.cs] (bv (dL p f)):=by
 refine cI func198 O (OK.Xq 1 1 (f.values.map fun n=>[bv n]) O O O fun hlen=>?_);rw[Zx]at hlen;unfold maxLen at hlen;refine Ro 15 O I (kc (zK gx call35 O) (kc (S.jP .none O (zt O)) (kD (kB O (fun c12=>?_) (fun c12=>?_)))))
 ·refine ro 5 O (kR O O ?_);simp_all[dL]
 have hin:0<=f.tick/\f.tick<=p.aR - 1:=Zu.1 c12;have hfe:dL p f=eM p f.values:=by simp_all[dL]
 refine ro 7 O (kc (zk Z4 O) (rr 2 O (kc (zk Z9 O) (rr 3 O (kB O (fun c19=>?_) (fun c19=>?_))))))
 ·refine ro 5 O (kR O O ?_);refine cy ?_;rw[hfe,eM,Zn I]
 have hvl:f.values.length=p.aq.length:=by omega
 refine ro 9 O ?_;refine OK.loop (G:=Nat) [2,3] (fun i=>[(2,.ptr 2 0),(1002,.box p.cs),(3,.ptr 3 0),(1003,.box f.cs),(5,bv i)]) (fun i=>i<=f.values.length/\f.values.all isVal=(f.values.drop i).all isVal) (fun i=>f.values.length - i) 0 ⟨Zr _,O⟩ ⟨O,O,O,O,O,Zo⟩ (fun _=>O) ?_;rintro i ⟨hi,hg⟩;refine ro 6 O (kc (zk Z4 O) (rr 3 O (kB O (fun c24=>?_) (fun c24=>?_))))
 ·refine ro 9 O (kc (zI Z4 O I O) (kc (zV Z8 O O) (kc (zK Sq call250 O) (kc (S.jP .none O (zt O)) (kD (kB O (fun c33=>?_) (fun c33=>?_)))))))
  ·refine ro 5 O (kR O O ?_);refine cy ?_;rw[hfe,SS I hvl hg I]
  refine Ro 8 O I (Ab.D.lp ⟨i+1,⟨by omega,SU I hg I⟩,I,O,O,O,O,O,Zo⟩)
 refine ro 7 O (kR O O ?_);refine cy ?_;rw[hfe,eM,Zm I,hg,show i=f.values.length by omega,co];rfl
def RC{p:bC}{l:List Frame}(hpt:1<=p.aR/\p.aR<=12)(hv:∀x∈l,x.values.length<=100000):Ct prog 205 [.agg p.cs,.sl (l.map Frame.cs)] (.agg (ZO p l).cs):=by
 refine cI func205 O (OK.eW (rows:=l.map Frame.cs) (t:=1) O O fun hlen=>?_);rw[Zx]at hlen;unfold maxLen at hlen;refine ro 18 O (OK.nP 5 0 890 2 O O O O O ?_);refine OK.loop (G:=Nat) [2,4,5,890] (fun i=>[(1,.sl (l.map Frame.cs)),(2,.ptr 2 0),(1002,.box p.cs),(4,.ptr 4 0),(1004,.box [.bO]),(5,.ptr 5 0),(1005,.box [.own 890 i]),(2890,.arr 2 (((List.range i).map (ZK l)).map Row.cs)),(6,bv i)]) (fun i=>(i:Int)<=p.aR) (fun i=>p.aR.toNat - i) 0 I ⟨O,O,O,O,O,O,O,(bH (by rfl)),O,Zo⟩ (fun _=>O) ?_;rintro i hi;refine ro 9 O (kB O (fun c12=>?_) (fun c12=>?_))
 ·refine ro 6 O (kc (zU M7 O O) (rr 11 O (OK.Yf 7 1 O O O O ?_)));refine OK.loop (G:=Nat) [2,4,5,890,7] (fun k=>[(1,.sl (l.map Frame.cs)),(2,.ptr 2 0),(1002,.box p.cs),(4,.ptr 4 0),(1004,.box [.bO]),(5,.ptr 5 0),(1005,.box [.own 890 i]),(2890,.arr 2 (((List.range i).map (ZK l)).map Row.cs)),(6,bv i),(7,.ptr 7 0),(1007,.box (ZK (l.take k) i).cs),(8,bv k)]) (fun k=>k<=l.length) (fun k=>l.length - k) 0 (Zr _) ⟨O,O,O,O,O,O,O,(bH (by rfl)),O,O,O,O,Zo⟩ (fun _=>O) ?_;rintro k hk;refine ro 5 O (kc (zk Xj O) (rr 3 O (kB O (fun c19=>?_) (fun c19=>?_))))
  ·have hvk:=hv l[k] (Zt I);have hls:=Tz (t:=i) (show k<l.length by omega);refine ro 8 O (kc (zI Xj O I O) ?_);refine rr 6 O (kB O (fun c28=>?_) (fun c28=>?_))
   ·rw[Zn c28]at hls;refine ro 3 O (kc (zI Xj O I O) ?_);refine rr 2 O (kc (zK (XD (l:=l[k].values) hvk) call193 O) (kc (zU M7 O O) (Rr 9 O I ?_)));refine Ab.D.lp ⟨k+1,I,I,O,O,O,O,O,O,O,(bH (by rfl)),O,O,(show _=some (X.box (ZK (l.take (k+1)) i).cs)by rw[hls];rfl),O,Zo⟩
   rw[Zm c28]at hls;refine Ro 8 O I ?_;refine Ab.D.lp ⟨k+1,I,I,O,O,O,O,O,O,O,(bH (by rfl)),O,O,(show _=some (X.box (ZK (l.take (k+1)) i).cs)by rw[hls];rfl),O,Zo⟩
  have hkl:k=l.length:=by omega
  subst hkl;rw[fp]at *;refine ro 6 O ?_;refine RK.c (zM [[_,_]] MW O O O O) (kc (zP MW O O F (by rfl) I (by grind [maxLen])) ?_);refine Rr 10 O I ?_;refine Ab.D.lp ⟨i+1,I,I,O,O,O,O,O,O,O,(bH (by rw[tp,dE,dE];rfl)),O,Zo⟩
 refine ro 8 O ?_;refine OK.ret (aA.r1 (.bG O O O O XK O (.k (.own O O F) .z)) ?_);rw[show i=p.aR.toNat by omega];rfl
end Go.Proofs.YtpbalelbenmmbaaGreatDoor
namespace Go.Proofs.YtpbalelbenmmbaaGreatDoor
open Go.Ab Tryz
def aj(c:UInt8):ba->List ba
 |[]=>[[]]
 |b::l=>if b=c then []::aj c l else match aj c l with
  |[]=>[[b]]
  |p::ps=>(b::p)::ps
theorem gr(c:UInt8):∀l,aj c l≠[]
 |[]=>by simp[aj]
 |b::l=>by
  grind [aj]
theorem l8{b c:UInt8}{l:ba}(h:b≠c){p:ba}{ps:List ba}(hs:aj c l=p::ps):aj c (b::l)=(b::p)::ps:=by
 rw[aj,Zm h,hs]
def mM{b c:UInt8}{l:ba}:Lib.indexByte (b::l) c=if b=c then 0 else if Lib.indexByte l c<0 then -1 else Lib.indexByte l c+1:=by
 have hg:=Lib.indexByte_ge l c;show(if(b==c)=true then 0 else if(Lib.indexByte l c== -1)=true then -1 else Lib.indexByte l c+1)=_;grind
def split_neg{c:UInt8}:∀{l:ba},Lib.indexByte l c<0->aj c l=[l]
 |[],_=>rfl
 |b::l,h=>by
  rw[mM]at h;split at h
  ·omega
  rename_i h1;split at h
  ·rename_i h2;exact l8 h1 (split_neg h2)
  omega
def gI{c:UInt8}:∀{l:ba},¬Lib.indexByte l c<0->(Lib.indexByte l c).toNat<l.length/\aj c l=l.take (Lib.indexByte l c).toNat::aj c (l.drop ((Lib.indexByte l c).toNat+1))
 |[],h=>by simp[Lib.indexByte]at h
 |b::l,h=>by
  rw[mM]at h⊢;by_cases h1:b=c
  ·simp_all[aj]
  rw[Zm h1]at h⊢;by_cases h2:Lib.indexByte l c<0
  ·omega
  rw[Zm h2]at h⊢;obtain⟨g1,g2⟩:=gI h2;grind [l8]
def oa(c:UInt8):∀l,(aj c l).length=Lib.countByte l c+1
 |[]=>rfl
 |b::l=>by
  have ih:=oa c l;unfold Lib.countByte at ih⊢;rw[aj,List.count_cons];grind
def gH{c:UInt8}:∀{l:ba},∀p∈aj c l,p.length<=l.length
 |[],p,hp=>by simp_all[aj]
 |b::l,p,hp=>by
  rw[aj]at hp;split at hp
  ·rcases ed.1 hp with rfl|hp
   ·simp
   have:=gH p hp;grind
  split at hp
  ·simp_all
  rename_i q ps hs;rcases ed.1 hp with rfl|hp
  ·have:=gH q (by rw[hs];simp);simp_all
  have:=gH p (by rw[hs];simp_all);grind
def xP(l:ba)(c:UInt8): -1<=Lib.indexByte l c/\Lib.indexByte l c<=l.length:=by
 refine⟨Lib.indexByte_ge l c,?_⟩;by_cases h:Lib.indexByte l c<0
 ·omega
 have:=(gI h).1;omega
def aL(c:UInt8)(l:ba):ba×ba×Bool:=if 0<=Lib.indexByte l c then(l.take (Lib.indexByte l c).toNat,l.drop ((Lib.indexByte l c).toNat+1),true)else(l,[],false)
theorem qt{c:UInt8}{l:ba}(h:0<=Lib.indexByte l c):aL c l=(l.take (Lib.indexByte l c).toNat,l.drop ((Lib.indexByte l c).toNat+1),true):=Zn h
theorem oI{c:UInt8}{l:ba}(h:¬0<=Lib.indexByte l c):aL c l=(l,[],false):=Zm h
def iY(c:UInt8)(l:ba):aj c l=if(aL c l).2.2=true then(aL c l).1::aj c (aL c l).2.1 else [l]:=by
 by_cases h:0<=Lib.indexByte l c
 ·rw[qt h,Zn rfl];simp_all[gI]
 simp_all[oI,split_neg]
def tX{α:Type}{l:List α}{k:Nat}{d:α}(h:k<l.length):l.getD k d=l[k]:=by simp_all
theorem Fy{a b:UInt8}:((a.toNat:Int)=(b.toNat:Int))↔a=b:=by
 grind [UInt8.toNat_inj]
def EE(c:UInt8):((c.toNat:Int)).toNat.toUInt8=c:=by simp
def s6{c:UInt8}{l:ba}{i:Nat}(hi:i<(aj c l).length){p:ba}(hp:(aj c l)[i]=p):
  (((aj c l).take i++List.replicate ((aj c l).length - i) []).map fun s=>[X.str s]).set i [X.str p]=(((aj c l).take (i+1)++List.replicate ((aj c l).length - (i+1)) []).map fun s=>[X.str s]):=by
 rw[show(aj c l).length - i=((aj c l).length - (i+1))+1 by omega,Hn,dT hi,hp,dE,dE,dE];rw[List.set_append_right _ _ (by simp;omega)];simp[Nat.min_eq_left (Nat.le_of_lt hi)]
def Cp(p0:ba):List ba->List ba
 |[]=>[p0]
 |p::ps=>(p0++p)::ps
def yU{L:List ba}(h:L≠[]):Cp [] L=L:=by cases L with|nil=>simp_all|cons p ps=>rfl
theorem HC{c:UInt8}{p0 r:ba}{b:UInt8}(h:b=c):Cp p0 (aj c (b::r))=p0::Cp [] (aj c r):=by
 rw[aj,Zn h,yU (gr c r)];simp[Cp]
theorem HD{c:UInt8}{p0 r:ba}{b:UInt8}(h:¬b=c):Cp p0 (aj c (b::r))=Cp (p0++[b]) (aj c r):=by
 grind [aj,Cp]
def EF{σ α:Type}{g:σ->α->σ×Bool}{s0:σ}{d:α}{rest:List α}:∀{pre:List α},(au g s0 pre).2=true->(g (au g s0 pre).1 d).2=false->au g s0 (pre++d::rest)=((g (au g s0 pre).1 d).1,false):=by
 intro pre
 induction pre generalizing s0 with
 |nil=>
  simp_all[au]
 |cons x pre ih=>
  grind [au]
theorem FA{σ α:Type}{g:σ->α->σ×Bool}{s0:σ}{d:α}{pre:List α}(h1:(au g s0 pre).2=true)(h2:(g (au g s0 pre).1 d).2=true):au g s0 (pre++[d])=((g (au g s0 pre).1 d).1,true):=by
 rw[lR,Zn h1];grind
def Ed{J J':bm}(h:J=J'):some (X.res J)=some (X.res J'):=by rw[h]
abbrev K0(σ:Type)(J:σ->bm)(g:σ->ba->σ×Bool)(s0:σ)(Φ:Value->Prop)(D:List ba):Prop:=
 ∀v,Φ v->∀(i:Nat)(x:ba),D[i]?=some x->(au g s0 (D.take i)).2=true->nR prog v [.str x] (.bool (g (au g s0 (D.take i)).1 x).2) (J (au g s0 (D.take i)).1) (J (g (au g s0 (D.take i)).1 x).1)
def OT{σ:Type}{J:σ->bm}{g:σ->ba->σ×Bool}{s0:σ}{Φ:Value->Prop}{D pre rest:List ba}{d:ba}(hcb:K0 σ J g s0 Φ D)(hD:D=pre++d::rest)(hrun:(au g s0 pre).2=true):
  ∀v,Φ v->nR prog v [.str d] (.bool (g (au g s0 pre).1 d).2) (J (au g s0 pre).1) (J (g (au g s0 pre).1 d).1):=by
 intro v hv;have ht:D.take pre.length=pre:=by grind
 grind
def Gc:Cq prog 274 Lib.indexByte:=fun s c w=>by
 rw[run_callFunc_extern func274 V V V (e:=Extern.BytealgIndexByte.indexByte) V,Lib.run_indexByteString];rfl
def Ge:Cq prog 272 (fun l c=>(Lib.countByte l c:Int)):=fun s c w=>by
 rw[run_callFunc_extern func272 V V V (e:=Extern.BytealgCount.count) V,Lib.run_countString];rfl
def uo{l:ba}{c:UInt8}(hl:l.length<=100000):Ct prog 223 [.str l,.int .u8 (c.toNat:Int)] (bv (Lib.indexByte l c)):=by
 refine cI func223 O fun{_ _}=>?_
 have hib:=xP l c;refine ro 9 O ?_;refine kc (S.FB (n:=Lib.indexByte l c) Gc .none O (zt O) (zt O) (by rw[EE]) (ca _ I)) ?_;refine rr 3 O (kR O O ?_);rfl
def we{l:ba}{c:UInt8}(hl:l.length<=100000):Ct prog 169 [.str l,.str [c]] (bv (Lib.indexByte l c)):=by
 refine cI func169 O (ro 19 O (RK.bh (t:=19) O (fun g19=>?_) (fun g19=>?_)))
 ·simp_all
 refine rr 7 O (kB O (fun c16=>?_) (fun c16=>?_))
 ·have hlc:[c]=l:=by omega
  refine ro 5 O (kR O O ?_);refine cy ?_;rw[←hlc,mM,Zn rfl]
 refine ro 7 O (kB O (fun c24=>?_) (fun c24=>?_))
 ·refine ro 4 O (kc (S.fJ (n:=0) fR .none O (zt O) (.af O) O I) (kc (zK (uo (l:=l) (c:=c) hl) call223 O) ?_));refine rr 3 O (kR O O ?_);rfl
 simp_all
def As{l:ba}{c:UInt8}(hl:l.length<=100000):Ct prog 221 [.str l,.str [c]] (bv (Lib.indexByte l c)):=by
 refine cI func221 O (ro 9 O (kc (zK (we I) call169 O) ?_));refine rr 3 O (kR O O ?_);rfl
def Gf{l:ba}{c:UInt8}(hl:l.length<=100000):Ct prog 110 [.str l,.str [c]] (.cf [.str (aL c l).1,.str (aL c l).2.1,.bool (aL c l).2.2]):=by
 refine cI func110 O fun{_ _}=>?_
 have hib:=xP l c;refine ro 12 O (kc (zK (we I) call169 O) ?_);refine rr 9 O (kB O (fun c12=>?_) (fun c12=>?_))
 ·have hsp:=gI (c:=c) (l:=l) I;refine kO ?_;refine kV (.c (zm O) (.c (zm O) (.c (S.ir (hi:=(Lib.indexByte l c).toNat) (l':=l.take (Lib.indexByte l c).toNat) fR .none O (zt O) (.inl ⟨O,O,O⟩) (.inr ⟨_,_,O,(zt O),I⟩) I I O) (.c (zm O) (.c (zm O) (.c (zm O) (.c (S.dP underlying9 .none O (zt O)) (.c (S.add .none O (zt O) (zt O) (ca _ (by simp;omega)) (ca _ (by simp;omega))) (.c (S.ir (lo:=(Lib.indexByte l c).toNat+1) (l':=l.drop ((Lib.indexByte l c).toNat+1)) fR .none O (zt O) (.inr ⟨_,_,O,(zt O),(by simp;omega)⟩) (.inl ⟨O,O,O⟩) I I F) (.c (za O) (.c (za O) (.c (zb O) .nil)))))))))))) ?_;refine Ab.D.code (OK.ret (aA.r3 (zo O O) (zo O O) (zo O O) ?_));simp_all[qt]
 refine ro 10 O (OK.ret (aA.r3 (zo O O) (zo O O) (zo O O) ?_));grind [oI]
def str_Cut{l:ba}{c:UInt8}(hl:l.length<=100000):Ct prog 75 [.str l,.str [c]] (.cf [.str (aL c l).1,.str (aL c l).2.1,.bool (aL c l).2.2]):=by
 refine cI func75 O (ro 11 O (kc (zK (Gf I) call110 O) ?_));refine rr 8 O (OK.ret (aA.r3 (zo O O) (zo O O) (zo O O) ?_));rfl
def Au{l:ba}{c:UInt8}(hl:l.length<=100000):Ct prog 220 [.str l,.str [c]] (bv (Lib.countByte l c:Int)):=by
 refine cI func220 O fun{_ _}=>?_
 have hcn:Lib.countByte l c<=l.length:=wc;refine ro 13 O (kB O (fun c9=>?_) (fun c9=>?_))
 ·simp_all
 refine ro 10 O (kB O (fun c15=>?_) (fun c15=>?_))
 ·refine ro 4 O (kc (S.fJ (n:=0) fR .none O (zt O) (.af O) O I) ?_);refine kc (S.FB (n:=(Lib.countByte l c:Int)) Ge .none O (zt O) (zt O) F (ca _ I)) ?_;refine rr 3 O (kR O O ?_);rfl
 simp_all
def uq{l:ba}{c:UInt8}(hl:l.length<=100000):Ct prog 160 [.str l,.str [c],bv 0,bv (-1)] (.sl ((aj c l).map fun s=>[.str s])):=by
 refine cI func160 O fun{_ _}=>?_
 have hcn:Lib.countByte l c<=l.length:=wc;have hsl:=oa c l;refine kr (kc (S.assign .none O .fW) (rr 9 O (kB O (fun c13=>?_) (fun c13=>?_))))
 ·omega
 refine ro 9 O (kB O (fun c15=>?_) (fun c15=>?_))
 ·simp_all
 refine ro 9 O (kB O (fun c20=>?_) (fun c20=>?_))
 ·refine ro 3 O (kc (zK (Au (l:=l) (c:=c) hl) call220 O) (Rr 10 O I (kc (S.min2 .none O (zt O) (zt O)) ?_)));refine rr 6 O ?_;refine RK.c (S.make (k:=31) (n:=(aj c l).length) ZF (⟨⟨t9,_,by kernel_rfl,rfl,fun h=>⟨.str _ C,Zo⟩⟩⟩:IP prog 9 [.str []]) .none O (zt O) (zt O) I I (by unfold maxLen;omega)) ?_;refine Rr 17 O I ?_;refine OK.mP [31] (fun(i:Nat)(rest:ba)=>[(0,.str rest),(1,.str [c]),(2,bv 0),(3,bv (((aj c l).length:Int) - 1)),(9,.own 31 (aj c l).length),(2031,.arr 1 (((aj c l).take i++List.replicate ((aj c l).length - i) []).map fun s=>[.str s])),(10,bv i)]) (fun i rest=>i<(aj c l).length/\(aj c l).drop i=aj c rest/\rest.length<=l.length) (fun i rest=>(aj c l).length - i) (0) (l) ⟨by omega,by rfl,Zq _⟩ ⟨O,O,O,(yL I),(cw I),(bH F),O,Zo⟩ (fun _ _=>O) ?_;rintro i rest ⟨hi,hdr,hrl⟩;refine ro 8 O (kB O (fun c36=>?_) (fun c36=>?_))
  ·have hrb:rest.length<=100000:=by omega
   have hib:=xP rest c;refine ro 7 O (kc (zK (As (l:=rest) (c:=c) hrb) call221 O) (rr 10 O (kB O (fun c41=>?_) (fun c41=>?_))))
   ·exfalso;rw[split_neg c41]at hdr;have:=eQ List.length hdr;grind
   obtain⟨hs1,hs2⟩:=gI (c:=c) (l:=rest) I;have hdi:=ci hi;rw[hdr,hs2]at hdi;obtain⟨hgi,hdr2⟩:(aj c l)[i]=rest.take (Lib.indexByte rest c).toNat/\(aj c l).drop (i+1)=aj c (rest.drop ((Lib.indexByte rest c).toNat+1)):=by
    grind
   refine Ro 10 O I ?_;refine kc (S.ir (hi:=(Lib.indexByte rest c).toNat) (l':=rest.take (Lib.indexByte rest c).toNat) fR .none O (zt O) (.inl ⟨O,O,O⟩) (.inr ⟨_,_,O,(zt O),I⟩) I I O) ?_;refine kc (S.tO (i:=i) Z9 .none O (zt O) O (by simp;omega) (zt O) O hi) ?_;refine RK.c (S.yS (i:=i) Y9 O .none (zt O) (zt O) O (by simp;omega) O hi O O (show _=((aj c l).take (i+1)++List.replicate ((aj c l).length - (i+1)) []).map (fun s=>[X.str s])from s6 hi hgi)) ?_;refine rr 8 O ?_;refine kc (S.add .none O (zt O) (zt O) (ca _ (by simp;omega)) (ca _ (by simp;omega))) ?_;refine kc (S.ir (lo:=(Lib.indexByte rest c).toNat+1) (l':=rest.drop ((Lib.indexByte rest c).toNat+1)) fR .none O (zt O) (.inr ⟨_,_,O,(zt O),(by simp;omega)⟩) (.inl ⟨O,O,O⟩) I I F) ?_;refine Rr 9 O I (Ab.D.lp ⟨i+1,rest.drop ((Lib.indexByte rest c).toNat+1),⟨by omega,hdr2,by grind⟩,I,O,O,O,O,O,O,O,Zo⟩)
  have hie:i+1=(aj c l).length:=by omega
  have hdi:=ci hi;have hd0:(aj c l).drop (i+1)=[]:=nb I;rw[hd0,hdr]at hdi;have hone:aj c rest=[rest]:=by
   by_cases hx:Lib.indexByte rest c<0
   ·exact split_neg hx
   exfalso;rw[(gI hx).2]at hdi;grind [gr]
  rw[hone,na]at hdi;have hgi:(aj c l)[i]=rest:=hdi.1.symm;refine ro 7 O ?_;refine kc (S.tO (i:=i) Z9 .none O (zt O) O (by simp;omega) (zt O) O hi) ?_;refine RK.c (S.yS (i:=i) Y9 O .none (zt O) (zt O) O (by simp;omega) O hi O O (show _=(aj c l).map (fun s=>[X.str s])by rw[s6 hi hgi,hie,fp,AI,List.replicate_zero,lw])) ?_;refine rr 3 O ?_;refine OK.freeze 9 O O O F ?_;refine Ro 4 O I ?_;refine kc (S.slice (hi:=i+1) (l':=aj c l) Z9 (fun _=>O) .none O (zt O) (.inl ⟨O,O,O⟩) (.inr ⟨_,_,O,(zt O),I⟩) I I (by grind)) ?_;refine rr 3 O (kR O O ?_);rfl
 omega
def sY{l:ba}{c:UInt8}(hl:l.length<=100000):Ct prog 103 [.str l,.str [c]] (.sl ((aj c l).map fun s=>[.str s])):=by
 refine cI func103 O (kr (kc (S.assign .none O .fW) (rr 6 O (kc (zK (uq I) call160 O) ?_))));refine rr 3 O (kR O O ?_);rfl
def TS{l:ba}{c:UInt8}:Ht prog 328 [.str l,.str [c],bv 0] 350 [[.str [c]],[.str l],[bv 0]]:=by
 refine Ht.intro (kb:=[(4,[.str [c]]),(3,[.str l]),(5,[bv 0])]) func328 rfl ntmps328 results328 rfl rfl rfl F fun w h=>?_
 refine ro 5 O (kc (S.assign .none O .lq) (rr 4 O (kc (S.Pq .none O (zt O) (zt O) (zt O) O O O) (rr 3 O ?_))));exact OK.ret ⟨.inl rfl,rfl,rfl,⟨rfl,rfl,rfl,Zo⟩,rfl⟩
def Xk{l:ba}{c:UInt8}:Ht prog 284 [.str l,.str [c]] 350 [[.str [c]],[.str l],[bv 0]]:=by
 refine Ht.intro (kb:=[(871,[.str [c]]),(872,[.str l]),(873,[bv 0])]) func284 rfl ntmps284 results284 rfl rfl rfl F fun w h=>?_
 refine kr (kc (S.assign .none O .lq) (rr 6 O (RK.c (S.Hv [871,872,873] (TS (l:=l) (c:=c)) call328 .none O (zc O (zc O (zD O))) O) (rr 3 O ?_))));exact OK.ret ⟨.inl rfl,rfl,rfl,⟨rfl,rfl,rfl,Zo⟩,rfl⟩
def UK{l:ba}{c:UInt8}(hl:l.length<=100000){σ:Type}(J:σ->bm)(g:σ->ba->σ×Bool)(s0:σ)(Φ:Value->Prop)(hst:∀s,aZ (J s))(hcb:K0 σ J g s0 Φ (aj c l)):dF prog 350 [871,872,873] [.cb Φ,.ptr 871 0,.ptr 872 0,.ptr 873 0] [(3000,.res (J s0)),(1871,.box [.str [c]]),(1872,.box [.str l]),(1873,.box [.int .i64 0])] [(3000,.res (J (au g s0 (aj c l)).1))] (.cf []):=by
 refine cG func350 O (ro 8 O (kB O (fun c11=>?_) (fun c11=>?_)))
 ·simp_all
 refine ro 4 O ?_;refine OK.mP [871,872,873] (fun(rest:ba)(pre:List ba)=>[(0,.cb Φ),(1,.ptr 871 0),(2,.ptr 872 0),(3,.ptr 873 0),(1871,.box [.str [c]]),(1872,.box [.str rest]),(1873,.box [bv 0]),(3000,.res (J (au g s0 pre).1))]) (fun rest pre=>(au g s0 pre).2=true/\aj c l=pre++aj c rest/\rest.length<=l.length) (fun rest pre=>rest.length) (l) ([]) ⟨O,O,Zq _⟩ ⟨O,O,O,O,O,O,O,O,Zo⟩ (fun _ _=>O) ?_;rintro rest pre ⟨hrun,hD,hrl⟩;have hrb:rest.length<=100000:=by omega
 have hib:=xP rest c;refine ro 5 O (kc (zK (As (l:=rest) (c:=c) hrb) call221 O) (rr 10 O (kB O (fun c33=>?_) (fun c33=>?_))))
 ·have hD3:aj c l=pre++[rest]:=by simp_all[split_neg]
  refine ro 5 O ?_;refine kc (S.tQ (J1:=J (g (au g s0 pre).1 rest).1) (OT hcb hD3 hrun) (hst _) .none O (zt O) (zc O .nil) O O) (RK.nil ?_);exact⟨⟨.inr rfl,[],Zo,rfl⟩,Ed (by rw[hD3,lR,Zn hrun]),Zo⟩
 obtain⟨hs1,hs2⟩:=gI (c:=c) (l:=rest) I;have hD2:aj c l=pre++rest.take (Lib.indexByte rest c).toNat::aj c (rest.drop ((Lib.indexByte rest c).toNat+1)):=by rw[hD,hs2]
 refine Ro 8 O I ?_;refine kc (S.ir (hi:=(Lib.indexByte rest c).toNat) (l':=rest.take (Lib.indexByte rest c).toNat) fR .none O (zt O) (.inl ⟨O,O,O⟩) (.inr ⟨_,_,O,(zt O),I⟩) I I O) ?_;refine rr 8 O ?_;refine kc (S.tQ (J1:=J (g (au g s0 pre).1 (rest.take (Lib.indexByte rest c).toNat)).1) (OT hcb hD2 hrun) (hst _) .none O (zt O) (zc O .nil) O O) (kc (S.not .none O (zt O)) (kD (OK.cond O O (fun c42=>?_) (fun c42=>?_))))
 ·have hstop:(g (au g s0 pre).1 (rest.take (Lib.indexByte rest c).toNat)).2=false:=by grind
  exact OK.ret ⟨⟨.inl rfl,[],Zo,rfl⟩,Ed (by simp_all[EF]),Zo⟩
 have hcont:(g (au g s0 pre).1 (rest.take (Lib.indexByte rest c).toNat)).2=true:=by grind
 refine ro 7 O ?_;refine kc (S.add .none O (zt O) (zt O) (ca _ (by simp;omega)) (ca _ (by simp;omega))) ?_;refine kc (S.ir (lo:=(Lib.indexByte rest c).toNat+1) (l':=rest.drop ((Lib.indexByte rest c).toNat+1)) fR .none O (zt O) (.inr ⟨_,_,O,(zt O),(by simp;omega)⟩) (.inl ⟨O,O,O⟩) I I F) ?_;refine rr 3 O ?_;refine Ab.D.lp ⟨rest.drop ((Lib.indexByte rest c).toNat+1),pre++[rest.take (Lib.indexByte rest c).toNat],⟨by grind [FA],by grind,by grind⟩,(by grind),O,O,O,O,O,O,O,(Ed (by grind [FA])),Zo⟩
def Uw{l:ba}{c:UInt8}(hl:l.length<=100000):x8 prog 350 [(871,[.str [c]]),(872,[.str l]),(873,[bv 0])] [.ptr 871 0,.ptr 872 0,.ptr 873 0] (fun s=>[.str s]) (aj c l):=
 fun J g s0 Φ hst hcb=>UK hl J g s0 Φ hst hcb
end Go.Proofs.YtpbalelbenmmbaaGreatDoor
namespace Go.Proofs.YtpbalelbenmmbaaGreatDoor
open Go.Ab Tryz
def ax.jO(H:ax)(i:Nat):ax:={H with parts:=H.parts.modify i fun q=>(q.1,q.2++[H.entries])}
def ax.eC(H:ax)(i:Nat)(f:Part->Part):ax:={H with parts:=H.parts.modify i fun q=>(f q.1,q.2)}
def ax.p(H:ax)(i:Nat):Part:=(H.parts[i]?.map (·.1)).getD ⟨0,[],0,[],[],0,false,0,false,Span.zero⟩
section
variable{A:HA}{m:Int}{i j:Nat}
def HA.ID(A:HA):A.mem .bn=some (A.b,.box A.cs):=rfl
def HA.dm{v:aB}(h:A.parts[i]?=some v):A.mem (.p i)=some (v.b,.box v.cs):=by show(A.parts[i]?.map _)=_;rw[h];rfl
def HA.xQ{v:fk}(h:A.aC[i]?=some v):A.mem (.c i)=some (v.b,.box v.cs):=by show(A.aC[i]?.map _)=_;rw[h];rfl
def HA.Cz{v:jT}(h:A.aU[i]?=some v):A.mem (.v i)=some (v.b,.box v.cs):=by show(A.aU[i]?.map _)=_;rw[h];rfl
def HA.Ok.IE(hok:A.Ok m){v:aB}(h:A.parts[i]?=some v):fA A.mem (.f i) (v.fh.v v.p.frames.length) 2 (v.p.frames.map Frame.cs):=
 nN (by show(A.parts[i]?.bind _)=_;rw[h];rfl) (Zx ..) fun e=>by rw[hok.fh _ (ce h) e];rfl
def HA.Ok.IG(hok:A.Ok m){v:aB}(h:A.parts[i]?=some v):mG A.mem (.e i) (v.eh.v v.es.length) 1 (bM v.es):=
 Bx (by show(A.parts[i]?.bind _)=_;rw[h];rfl) (Zx ..) fun e=>by rw[hok.eh _ (ce h) e];rfl
def HA.Bt{v:aB}(h:A.parts[i]?=some v):A.pb i=v.b:=by rw[HA.pb,h];rfl
def HA.cb?{v:fk}(h:A.aC[i]?=some v):A.cb i=v.b:=by rw[HA.cb,h];rfl
def HA.IB{v:jT}(h:A.aU[i]?=some v):A.vb i=v.b:=by rw[HA.vb,h];rfl
def HA.I1{v:aB}(h:A.parts[i]?=some v):A.mem (.p i)=some (A.pb i,.box v.cs):=by rw[HA.Bt h];exact HA.dm h
def HA.I2{v:jT}(h:A.aU[i]?=some v):A.mem (.v i)=some (A.vb i,.box v.cs):=by rw[HA.IB h];exact HA.Cz h
theorem HA.mb{v:aB}(h:A.parts[i]?=some v):A.plain.p i=v.p:=by show((A.parts.map _)[i]?.map _).getD _=_;simp_all
def gd{f:Nat->Nat}{o:Option Nat}{b:Nat}(h:o=some i)(hb:f i=b):rW f o=pV b:=by subst h;subst hb;rfl
def Pu{f:Nat->Nat}{o:Option Nat}(h:o=none):rW f o=.pointer none:=by subst h;rfl
def gU{α:Type}{l:List α}{x:α}(h:l[i]?=some x):i<l.length:=by grind
def kA{α:Type}{l:List α}{x y:α}(h:l[i]?=some x):(l.set i y)[i]?=some y:=by grind
def cR{α:Type}{l:List α}{x:α}(h:l[i]?=some x)(f:α->α):l.modify i f=l.set i (f x):=by
 refine mv fun k=>?_
 grind
def bw{α:Type}{l:List α}{x:α}(h:l[i]?=some x):l.set i x=l:=by
 refine mv fun k=>?_
 grind
def HA.dh{v:aB}(h:A.parts[i]?=some v):A.plain.parts[i]?=some (v.p,v.es):=by show(A.parts.map _)[i]?=_;simp_all
def ax.pZ{H:ax}{p:Part}{es:bd}(h:H.parts[i]?=some (p,es))(f:Part->Part):H.eC i (fun _=>f p)=H.eC i f:=by
 simp_all[ax.eC,cR]
def HA.mj{v w:aB}(h:A.parts[i]?=some v):(A.eC i w).plain={A.plain with parts:=A.plain.parts.set i (w.p,w.es)}:=by
 show ax.mk _ _ _ _ ((A.parts.set i w).map _) _ _ _ _ _=ax.mk _ _ _ _ ((A.parts.map _).set i _) _ _ _ _ _;rw[sf];rfl
def HA.setP_ok{v w:aB}{m':Int}(hok:A.Ok m)(h:A.parts[i]?=some v)(hm:m<=m')(h1:m'<=1000)(hf:w.fh=none->w.p.frames=[])(he:w.eh=none->w.es=[])(hlf:(w.p.frames.length:Int)<=m')(hle:(w.es.length:Int)<=m'+3)(hpl:0<=w.p.place/\w.p.place<=4)(hnl:w.p.oF.length<=12/\w.p.coil.length<=12):(A.eC i w).Ok m':=by
 have ho:=hok.more hm h1;have hall:∀{q:aB->Prop},q w->(∀v∈A.parts,q v)->∀v∈(A.eC i w).parts,q v:=fun hq ha v hv=>by
  rcases pD hv with hv|rfl
  all_goals simp_all
 refine⟨ho.vh,ho.ch,fun e=>?_,ho.mh,hall hf ho.fh,hall he ho.eh,ho.m0,ho.en,ho.lv,ho.lc,?_,ho.lm,hall hlf ho.lf,hall hle ho.le,fun k hk=>?_,ho.cl,ho.vb,hall hpl ho.pl,hall hnl ho.nl,ho.vn,ho.cn⟩
 ·show A.parts.set i w=[];rw[ho.ph e];rfl
 ·show((A.parts.set i w).length:Int)<=m';rw[hK];exact ho.lp
 show k<(A.parts.set i w).length;rw[hK];exact ho.mi k hk
end
section
variable{E:Env}{U:bc}{s:St}{code:Code}{Q:bo}{A:HA}{m:Int}{i:Nat}{v:aB}
def OK.x7{w:aB}{M:HM Key}(hok:A.Ok m)(hv:A.parts[i]?=some v)(hl:Ab.look s 3000=some (.res (aa M)))(hb:w.b=v.b)(hp:M (.p i)=some (w.b,.box w.cs))(hf:M (.f i)=w.fh.map fun q=>(q.1,.gM 2 q.2 (w.p.frames.map Frame.cs)))(he:M (.e i)=w.eh.map fun q=>(q.1,.row 1 q.2 (bM w.es)))
  (ho:∀k,k≠.p i->k≠.f i->k≠.e i->M k=A.mem k) (h:(A.eC i w).pb=A.pb->OK E code Q U ((3000,.res (aa (A.eC i w).mem))::s)):OK E code Q U s:=by
 have hi:=gU hv;have hvb:w.b=A.parts[i].b:=by simp_all
 exact OK.bU hl (aa.az _) (fun h Y w' hj=>hj.less (HA.BA hi hvb hp hf he ho)) (h (A.yC hi hvb))
structure HA.uQ(A A1:HA)(i:Nat)(w:aB)(H:ax)(m:Int):Prop where
 ok:A1.Ok m
 b:A1.b=A.b
 pb:A1.pb=A.pb
 len:A1.parts.length=A.parts.length
 at_:A1.parts[i]?=some w
 plain:A1.plain=H
def HA.FI(hv:A.parts[i]?=some v):A.mem (.f i)=v.fh.map fun q=>(q.1,.gM 2 q.2 (v.p.frames.map Frame.cs)):=by show(A.parts[i]?.bind _)=_;rw[hv];rfl
def HA.CA(hv:A.parts[i]?=some v):A.mem (.e i)=v.eh.map fun q=>(q.1,.row 1 q.2 (bM v.es)):=by show(A.parts[i]?.bind _)=_;rw[hv];rfl
def OK.y9(p':Part)(hok:A.Ok m)(hv:A.parts[i]?=some v)(hl:Ab.look s 3000=some (.res (aa (A.mem.set (.p i) (some (v.b,.box ({v with p:=p'}:aB).cs))))))(hfr:p'.frames=v.p.frames)(hpl:0<=p'.place/\p'.place<=4)
  (h:∀A1:HA,A.uQ A1 i {v with p:=p'} (A.plain.eC i fun _=>p') m->OK E code Q U ((3000,.res (aa A1.mem))::s)) (hn:p'.oF=v.p.oF/\p'.coil=v.p.coil:=by exact⟨rfl,rfl⟩):OK E code Q U s:=by
 have hmem:=ce hv;refine OK.x7 (w:={v with p:=p'}) hok hv hl O (HM.bw ..) ?_ ?_ (fun k h1 _ _=>HM.ai _ _ h1) fun hpb=>h _ ⟨?_,O,hpb,hK ..,kA hv,?_⟩
 ·simp_all[HM.ai,HA.FI]
 ·simp_all[HM.ai,HA.CA]
 ·exact HA.setP_ok hok hv (Int.le_refl _) hok.m0.2 (fun e=>by rw[hfr];exact hok.fh v hmem e) (hok.eh v hmem) (by rw[hfr];exact hok.lf v hmem) (hok.le v hmem) hpl (by show p'.oF.length<=12/\p'.coil.length<=12;rw[hn.1,hn.2];exact hok.nl v hmem)
 rw[HA.mj hv,ax.eC,cR (HA.dh hv)]
def ni(v:aB)(q:Nat×Nat)(n:Int):v.p.cells (.raw (v.fh.v v.p.frames.length))++[.raw (.slice (some ⟨q.1,0,none⟩) ((bM v.es).length+1) q.2)]=({v with eh:=some q,es:=v.es++[n]}:aB).cs:=by
 simp[aB.cs,Hd.v,bM]
def OK.ze(q:Nat×Nat)(n:Int)(hok:A.Ok m)(hm:m+1<=1000)(hv:A.parts[i]?=some v)(hl:Ab.look s 3000=some (.res (aa ((A.mem.set (.e i) (some (q.1,.row 1 q.2 (bM v.es++[[bv n]])))).set (.p i) (some (v.b,.box ({v with eh:=some q,es:=v.es++[n]}:aB).cs))))))
  (hn:n=A.entries) (h:∀A1:HA,A.uQ A1 i {v with eh:=some q,es:=v.es++[n]} (A.plain.jO i) (m+1)->OK E code Q U ((3000,.res (aa A1.mem))::s)):OK E code Q U s:=by
 have hmem:=ce hv;refine OK.x7 (w:={v with eh:=some q,es:=v.es++[n]}) hok hv hl O (HM.bw ..) ?_ ?_ (fun k h1 _ h3=>by simp_all[HM.ai]) fun hpb=>h _ ⟨?_,O,hpb,hK ..,kA hv,?_⟩
 ·simp_all[HM.ai,HA.FI]
 ·simp[HM.ai,HM.bw]
 ·refine HA.setP_ok hok hv I hm (hok.fh v hmem) Z (by have:=hok.lf v hmem;grind) ?_ (hok.pl v hmem) (hok.nl v hmem);have:=hok.le v hmem;grind
 subst hn;rw[HA.mj hv,ax.jO,cR (HA.dh hv)];rfl
def CT(v:aB)(q:Nat×Nat)(f:Frame):({v.p with frames:=v.p.frames++[f]}:Part).cells (.raw (.slice (some ⟨q.1,0,none⟩) ((v.p.frames.map Frame.cs).length+1) q.2))++[.raw (v.eh.v v.es.length)]=({v with fh:=some q,p:={v.p with frames:=v.p.frames++[f]}}:aB).cs:=by
 simp[aB.cs,Hd.v]
def OK.HU(q:Nat×Nat)(f:Frame)(hok:A.Ok m)(hm:m+1<=1000)(hv:A.parts[i]?=some v)(hl:Ab.look s 3000=some (.res (aa ((A.mem.set (.f i) (some (q.1,.gM 2 q.2 (v.p.frames.map Frame.cs++[f.cs])))).set (.p i) (some (v.b,.box ({v with fh:=some q,p:={v.p with frames:=v.p.frames++[f]}}:aB).cs))))))
  (h:∀A1:HA,A.uQ A1 i {v with fh:=some q,p:={v.p with frames:=v.p.frames++[f]}} (A.plain.eC i fun p=>{p with frames:=p.frames++[f]}) (m+1)->OK E code Q U ((3000,.res (aa A1.mem))::s)):OK E code Q U s:=by
 have hmem:=ce hv;refine OK.x7 (w:={v with fh:=some q,p:={v.p with frames:=v.p.frames++[f]}}) hok hv hl O (HM.bw ..) ?_ ?_ (fun k h1 h2 _=>by simp_all[HM.ai]) fun hpb=>h _ ⟨?_,O,hpb,hK ..,kA hv,?_⟩
 ·simp[HM.ai,HM.bw]
 ·simp_all[HM.ai,HA.CA]
 ·refine HA.setP_ok hok hv I hm Z (hok.eh v hmem) ?_ (by have:=hok.le v hmem;grind) (hok.pl v hmem) (hok.nl v hmem);have:=hok.lf v hmem;simp_all
 rw[HA.mj hv,ax.eC,cR (HA.dh hv)]
def HA.uQ.jp{A A1:HA}{w:aB}{H H':ax}{m':Int}(h:A.uQ A1 i w H m)(hm:m<=m')(h1:m'<=1000)(e:H=H'){h':Mem}{Y:Nat->Prop}{ar:World}(hj:aa A1.mem h' Y ar):JP A H' m' h' Y ar:=⟨A1,⟨h.ok.more hm h1,h.b,h.pb,h.len,h.plain.trans e⟩,hj⟩
def HA.jp{H:ax}{m':Int}(hok:A.Ok m)(hm:m<=m')(h1:m'<=1000)(e:H=A.plain){h':Mem}{Y:Nat->Prop}{ar:World}(hj:aa A.mem h' Y ar):JP A H m' h' Y ar:=⟨A,⟨hok.more hm h1,rfl,rfl,rfl,e.symm⟩,hj⟩
def HA.jx{H:ax}{m':Int}(hok:A.Ok m)(hm:m<=m')(h1:m'<=1000)(e:H=A.plain){h':Mem}{Y:Nat->Prop}{ar:World}(hj:aa A.mem h' Y ar):JX A.b H m' h' Y ar:=⟨A,⟨rfl,e.symm,hok.more hm h1⟩,hj⟩
def jM{A1:HA}{b:Nat}{H:ax}{m':Int}(hok:A1.Ok m)(hm:m<=m')(h1:m'<=1000)(hb:A1.b=b)(hp:A1.plain=H){h':Mem}{Y:Nat->Prop}{ar:World}(hj:aa A1.mem h' Y ar):JX b H m' h' Y ar:=⟨A1,⟨hb,hp,hok.more hm h1⟩,hj⟩
end
def dG{α:Type}(g:α->Bool)(l:List α):Option Nat:=(ix g l.reverse).map fun j=>l.length - 1 - j
def gD{α:Type}(g:α->Bool)(l:List α)(q:Option Nat)(i:Nat):Option Nat×Option Code:=if(l[i]?.map g).getD false then(some i,some .ret)else(q,none)
def Gw{α:Type}{g:α->Bool}{l:List α}{q:Option Nat}{i:Nat}{x:α}(h:l[i]?=some x)(hg:g x=true):gD g l q i=(some i,some .ret):=by simp_all[gD]
def Gx{α:Type}{g:α->Bool}{l:List α}{q:Option Nat}{i:Nat}{x:α}(h:l[i]?=some x)(hg:¬g x=true):gD g l q i=(q,none):=by simp_all[gD]
def back_eq{α:Type}(g:α->Bool)(l:List α):∀L:bc,au (Ab.stepG (gD g l)) ((none:Option Nat),none) L=match L.find? (fun i=>(l[i]?.map g).getD false)with|some i=>((some i,some .ret),false)|none=>((none,none),true)
 |[]=>rfl
 |i::L=>by
  rw[au,BY];cases hp:(l[i]?.map g).getD false with
  |true=>
   simp_all[gD,Ab.stepG]
  |false=>
   have e:gD g l none i=(none,none):=by simp_all[gD]
   simp only[Ab.stepG,e,Option.isNone_none,if_true];exact back_eq g l L
def tu{α:Type}(g:α->Bool):∀(l:List α)(k:Nat),iR g k l=((List.range l.length).find? (fun i=>(l[i]?.map g).getD false)).map (· +k)
 |[],_=>rfl
 |x::l,k=>by
  rw[iR,ge,List.range_succ_eq_map,BY];cases hg:g x with
  |true=>simp[hg]
  |false=>
   simp only[List.getElem?_cons_zero,Ax,Option.getD_some,hg,sT,if_false,List.find?_map];rw[tu g l (k+1)];have e:((fun i=>((x::l)[i]?.map g).getD false)∘Nat.succ)=fun i=>(l[i]?.map g).getD false:=by rfl
   rw[e];cases (List.range l.length).find? (fun i=>(l[i]?.map g).getD false)<;>grind
def tv{α:Type}(g:α->Bool)(l:List α):dG g l=(List.range l.length).reverse.find? (fun i=>(l[i]?.map g).getD false):=by
 have hr:(List.range l.length).reverse=(List.range l.length).map fun i=>l.length - 1 - i:=by
  refine mv fun k=>?_
  grind
 unfold dG ix;rw[tu,If,hr,List.find?_map,Option.map_map];have e:(List.range l.length).find? (fun i=>(l.reverse[i]?.map g).getD false)=(List.range l.length).find? ((fun i=>(l[i]?.map g).getD false)∘fun i=>l.length - 1 - i):=by
  have key:∀L:bc,(∀i∈L,i<l.length)->L.find? (fun i=>(l.reverse[i]?.map g).getD false)=L.find? ((fun i=>(l[i]?.map g).getD false)∘fun i=>l.length - 1 - i):=by
   intro L
   induction L<;>grind
  simp_all
 rw[e];rfl
def AE{α:Type}{g:α->Bool}{l:List α}{q:Option Nat}(h:au (Ab.stepG (gD g l)) ((none:Option Nat),none) (List.range l.length).reverse=((q,none),true)):q=none/\dG g l=none:=by
 rw[back_eq,←tv]at h;grind
def AF{α:Type}{g:α->Bool}{l:List α}{q:Option Nat}{cd:Code}(h:(au (Ab.stepG (gD g l)) ((none:Option Nat),none) (List.range l.length).reverse).1=(q,some cd)):q=dG g l/\cd=.ret:=by
 rw[back_eq,←tv]at h;grind
def FJ{n k:Nat}(h1:1<=k)(h2:k<=n):(List.range n).reverse[n - k]?=some (k - 1):=by
 grind
theorem zh{n k:Nat}(h1:1<=k)(h2:k<=n):(List.range n).reverse.take (n - (k - 1))=(List.range n).reverse.take (n - k)++[k - 1]:=by
 obtain⟨hl,hv⟩:=dq.1 (FJ h1 h2);rw[show n - (k - 1)=n - k+1 by omega,dT hl,hv]
def CU{n k:Nat}(h1:1<=k)(h2:k<=n):∃rest,(List.range n).reverse=(List.range n).reverse.take (n - k)++(k - 1)::rest:=by
 have h:=(io (n - (k - 1)) (List.range n).reverse).symm;grind [zh]
def uR{α β:Type}(f:α->β)(o:Option α):(!(o.map f).isNone)=o.isSome:=by simp
def nj{α:Type}(o:Option α):(!o.isNone)=o.isSome:=by simp
def r8{α β:Type}(f:α->β)(o:Option α):(o.map f).isNone=o.isNone:=by simp
def je{α β:Type}{f:α->β}{o:Option α}(h:(o.map f).isNone=false):∃i,o=some i:=by cases o<;>grind
def ku{α β:Type}{f:α->β}{o:Option α}(h:(o.map f).isNone=true):o=none:=by simp_all
def at_of_lt{α:Type}{l:List α}{i:Nat}(h:i<l.length):∃x,l[i]?=some x:=by simp_all
def AG:∀(l:List Row),(!decide (0<=bq (fun r=>!r.known) 0 l))=l.all fun r=>r.known:=by
 have key:∀(l:List Row)(k:Nat),(!decide (0<=bq (fun r=>!r.known) k l))=l.all fun r=>r.known:=by
  intro l
  induction l with
  |nil=>intro k;rfl
  |cons r l ih=>
   grind [bq]
 simp_all
def sU(n:Int)(o:Bool):Int:=aF [ae (decide (0<=n/\n<=1000000)) 2,ae o 6]
def oc(g:Part->Bool)(l:List aB):bd:=(l.filter fun v=>g v.p).map fun v=>v.p.num
def Gy{g:Part->Bool}{l:List aB}{i:Nat}(h:i<l.length)(hg:g l[i].p=true):oc g (l.take (i+1))=oc g (l.take i)++[l[i].p.num]:=by
 grind [oc,List.take_succ_eq_append_getElem]
def Gz{g:Part->Bool}{l:List aB}{i:Nat}(h:i<l.length)(hg:g l[i].p=false):oc g (l.take (i+1))=oc g (l.take i):=by
 grind [oc,List.take_succ_eq_append_getElem]
def CV{U:bc}{caps:bi}(h:caps.all (mE [])=true):caps.all (mE U)=true:=by
 rw[dj]at h⊢;intro x hx;have:=h x hx;cases x<;>simp_all[mE]
def wu(g:Part->Bool)(l:List aB):(oc g l).length<=l.length:=by
 simp[oc,vd]
def xT{A:HA}{i:Nat}{v:aB}(hv:A.parts[i]?=some v){J:bm}(hS:aZ J)(hJ:∀h Y w,J h Y w->aa A.mem h Y w):dF prog 94 [] [.raw (pV v.b)] [(3000,.res J)] [(3000,.res J)] (.bool (gE v.p)):=by
 refine cG func94 O (ro 11 O ?_);refine kc (zH Z8 O (td hJ (aa.dQ (k:=.p i) (HA.dm hv) O (.same _)))) ?_;refine rr 2 O (RK.bh (t:=9) O (fun g9=>?_) (fun g9=>?_))
 ·refine rr 10 O (OK.ret ⟨aA.r1 (zo O O) ?_,O,Zo⟩);simp[gE, *]
 refine rr 4 O ?_;refine kc (S.aG Z8 (zg O O) O (zt O) O (td hJ (aa.dQ (k:=.p i) (HA.dm hv) O (.same _)))) ?_;refine rr 5 O (OK.ret ⟨aA.r1 (zo O O) ?_,O,Zo⟩);simp[gE, *]
def uS{A:HA}{i:Nat}{v:aB}(hv:A.parts[i]?=some v){J:bm}(hS:aZ J)(hJ:∀h Y w,J h Y w->aa A.mem h Y w):dF prog 50 [] [.raw (pV v.b)] [(3000,.res J)] [(3000,.res J)] (.bool (Ac v.p)):=by
 refine cG func50 O (ro 11 O ?_);refine kc (zH Z8 O (td hJ (aa.dQ (k:=.p i) (HA.dm hv) O (.same _)))) ?_;refine rr 2 O (RK.bh (t:=9) O (fun g9=>?_) (fun g9=>?_))
 ·refine rr 4 O ?_;refine kc (S.aG SP (zg O O) O (zt O) O (td hJ (aa.dQ (k:=.p i) (HA.dm hv) O (.same _)))) ?_;refine rr 2 O (RK.split (t:=16) O (fun g16=>?_) (fun g16=>?_))
  ·refine rr 4 O ?_;refine kc (S.aG Z8 (zg O O) O (zt O) O (td hJ (aa.dQ (k:=.p i) (HA.dm hv) O (.same _)))) ?_;refine rr 3 O (RK.bh (t:=24) O (fun g24=>?_) (fun g24=>?_))
   ·refine rr 4 O ?_;refine kc (S.aG SP (zg O O) O (zt O) O (td hJ (aa.dQ (k:=.p i) (HA.dm hv) O (.same _)))) (kc (S.not (zg O O) O (zt O)) ?_);refine rr 4 O (OK.ret ⟨aA.r1 (zo O O) ?_,O,Zo⟩);simp[Ac, *]
   refine rr 10 O (OK.ret ⟨aA.r1 (zo O O) ?_,O,Zo⟩);simp[Ac, *]
  refine rr 18 O (OK.ret ⟨aA.r1 (zo O O) ?_,O,Zo⟩);simp[Ac, *]
 refine rr 25 O (OK.ret ⟨aA.r1 (zo O O) ?_,O,Zo⟩);simp[Ac, *]
def uT{l:List jT}:Ht prog 159 [.sl (l.map jU)] 218 [[.sl (l.map jU)]]:=by
 refine Ht.intro (kb:=[(1,[.sl (l.map jU)])]) func159 rfl ntmps159 results159 rfl rfl rfl F fun w h=>?_
 refine ro 3 O (kc (S.assign .none O .lq) (rr 4 O (kc (S.dx .none O (zt O) O) (rr 3 O ?_))));exact OK.ret ⟨.inl rfl,rfl,rfl,⟨rfl,Zo⟩,rfl⟩
def r9{A:HA}(hlv:(A.aU.length:Int)<=1000){σ:Type}(J:σ->bm)(g:σ->Nat->σ×Bool)(s0:σ)(Φ:Value->Prop)(hst:∀s,aZ (J s))(hcb:∀v,Φ v->∀(i:Nat)(x:Nat),(List.range A.aU.length).reverse[i]?=some x->(au g s0 ((List.range A.aU.length).reverse.take i)).2=true->nR prog v [.int .i64 x,.raw (pV (A.vb x))] (.bool (g (au g s0 ((List.range A.aU.length).reverse.take i)).1 x).2) (J (au g s0 ((List.range A.aU.length).reverse.take i)).1) (J (g (au g s0 ((List.range A.aU.length).reverse.take i)).1 x).1)):dF prog 218 [874] [.cb Φ,.ptr 874 0] [(3000,.res (J s0)),(1874,.box [.sl (A.aU.map jU)])] [(3000,.res (J (au g s0 (List.range A.aU.length).reverse).1))] (.cf []):=by
 refine cG func218 O (ro 3 O (kc (zk OM O) (Rr 5 O I ?_)));refine OK.loop (G:=Nat) [874] (fun k=>[(0,.cb Φ),(1,.ptr 874 0),(1874,.box [.sl (A.aU.map jU)]),(3,bv ((k:Int) - 1)),(3000,.res (J (au g s0 ((List.range A.aU.length).reverse.take (A.aU.length - k))).1))]) (fun k=>k<=A.aU.length/\(au g s0 ((List.range A.aU.length).reverse.take (A.aU.length - k))).2=true) (fun k=>k) A.aU.length ⟨Zq _,by rw[AI];rfl⟩ ⟨O,O,O,O,(Ed (by rw[AI];rfl)),Zo⟩ (fun _=>O) ?_;rintro k ⟨hk,hrun⟩;refine ro 7 O (kB O (fun c8=>?_) (fun c8=>?_))
 ·have hk1:1<=k:=by omega
  have hjl:k - 1<A.aU.length:=by omega
  have htk:=zh hk1 hk;have hat:=FJ hk1 hk;have hvb:=HA.HV hjl;have hki:((k:Nat):Int) - 1=((k - 1:Nat):Int):=by omega
  have hcb2:∀v,Φ v->nR prog v [.int .i64 (((k:Nat):Int) - 1),.raw (pV A.aU[k - 1].b)] (.bool (g (au g s0 ((List.range A.aU.length).reverse.take (A.aU.length - k))).1 (k - 1)).2) (J (au g s0 ((List.range A.aU.length).reverse.take (A.aU.length - k))).1) (J (g (au g s0 ((List.range A.aU.length).reverse.take (A.aU.length - k))).1 (k - 1)).1):=fun v hv=>by grind
  refine ro 10 O (kc (S.aP (n:=k - 1) OM .none O (zt O) (zt O) I hjl O) (kc (zV SL O O) ?_));refine kc (S.tQ (J1:=J (g (au g s0 ((List.range A.aU.length).reverse.take (A.aU.length - k))).1 (k - 1)).1) (hcb2) (hst _) .none O (zt O) (zc O (zc O .nil)) O O) (kc (S.not .none O (zt O)) (kD (OK.cond O O (fun c18=>?_) (fun c18=>?_))))
  ·have hstop:(g (au g s0 ((List.range A.aU.length).reverse.take (A.aU.length - k))).1 (k - 1)).2=false:=by grind
   obtain⟨rest,hsp⟩:=CU hk1 hk;have hfin:=EF (rest:=rest) hrun hstop;rw[←hsp]at hfin;exact OK.ret ⟨⟨.inl rfl,[],Zo,rfl⟩,Ed (by rw[hfin]),Zo⟩
  have hcont:(g (au g s0 ((List.range A.aU.length).reverse.take (A.aU.length - k))).1 (k - 1)).2=true:=by grind
  refine Ro 8 O I ?_;refine Ab.D.lp ⟨k - 1,⟨by omega,by simp_all[FA]⟩,I,O,O,O,(yL I),(Ed (by simp_all[FA])),Zo⟩
 refine OK.exit O ?_;exact⟨⟨.inr rfl,[],Zo,rfl⟩,Ed (by rw[show k=0 by omega,Nat.sub_zero,eK F]),Zo⟩
def wN{A:HA}(hlv:(A.aU.length:Int)<=1000):x8 prog 218 [(874,[.sl (A.aU.map jU)])] [.ptr 874 0] (fun(i:Nat)=>[bv (i:Int),.raw (pV (A.vb i))]) (List.range A.aU.length).reverse:=
 fun J g s0 Φ hst hcb=>r9 hlv J g s0 Φ hst hcb
def l9{A:HA}{m:Int}(hok:A.Ok m){n:ba}{J:bm}(hS:aZ J)(hJ:∀h Y w,J h Y w->aa A.mem h Y w):dF prog 101 [] [.raw (pV A.b),.str n] [(3000,.res J)] [(3000,.res J)] (.raw (rW A.vb (dG (fun v=>decide (v.r.name=n)) A.aU))):=by
 refine cG func101 O (ro 12 O (kc (zH (u:=.sl (A.aU.map jU)) SJ O (td hJ (aa.dQ (k:=.bn) O O (.sl hok.vs)))) (RK.c (S.Hv [874] (uT (l:=A.aU)) call159 .none O (zc O .nil) O) (rr 3 O ?_))));refine OK.qX (ps:=[12,13]) (encs:=(fun(i:Nat)=>[bv (i:Int),.raw (pV (A.vb i))])) (L:=(List.range A.aU.length).reverse) [3,4] [(3,.ptr 3 0),(4,.ptr 4 0)] (fun q=>[(1003,.box [.str n]),(1004,.box [.raw (rW A.vb q)]),(3000,.res J)]) (none:Option Nat) (gD (fun v=>decide (v.r.name=n)) A.aU) [(874,[.sl (A.aU.map jU)])] ((wN (by have:=hok.lv;have:=hok.m0;omega))) ⟨O,Zo⟩ O call218 (.inl O) (zt O) O ⟨O,O,O,O,O,Zo⟩ (fun _=>O) (fun _=>O) (fun _=>O) (fun _=>O) (fun _=>O) C O ?_ ?_ ?_
 ·rintro i x q hx hq lr c0 w0 p1 p2 hR1 hR2;have hxl:x<A.aU.length:=by grind
  obtain⟨v,hv⟩:=at_of_lt hxl;refine OK.bN (ja O (RK.nil ?_));refine⟨rfl,?_⟩;refine OK.block (kO (kV (.c (zm O) (.c (zn O O) (.c (zr VN O) (.c (zr WY O) (.c (zr Q5 O) (.c (zH Y9 O (td hJ (aa.dQ (k:=.v x) (HA.I2 hv) O (.same _)))) (.c (zl Y9 O O O O) (.c (S.eN .none O (zt O) (zt O)) .nil)))))))) (Ab.D.code (kB O (fun c21=>?_) (fun c21=>?_)))))
  ·refine ro 6 O (OK.ret ?_);rw[Gw hv (by grind)];exact⟨rfl,rfl,rfl,rfl,Zo⟩
  refine OK.skip (Ab.D.blk ?_);rw[Gx hv (by grind)];exact⟨rfl,rfl,rfl,rfl,Zo⟩
 ·rintro q hq;obtain⟨rfl,hq2⟩:=AE hq;refine rd 4 O (kc (S.store SL .none (zt O) .lq O O O O O O) (kD (OK.ret ⟨aA.r1 (.wI O O O O SL (.same O) O) ?_,O,Zo⟩)));exact zj hq2
 rintro q cd hq;obtain⟨rfl,rfl⟩:=AF hq;refine OK.ret ⟨aA.r1 (.wI O O O O SL (.same O) O) ?_,O,Zo⟩;rfl
def mm{A:HA}{m:Int}(hok:A.Ok m){i:Nat}{v:aB}(hv:A.parts[i]?=some v){J:bm}(hS:aZ J)(hJ:∀h Y w,J h Y w->aa A.mem h Y w):dF prog 177 [] [.raw (pV A.b),.raw (pV v.b)] [(3000,.res J)] [(3000,.res J)] (.agg (fM A.aS v.p.frames).cs):=by
 refine cG func177 O (ro 6 O ?_);refine kV (.c (zm O) (.c (zn O O) (.c (zr Y5 O) (.c (zr WX O) (.c (zJ (us:=A.aS.cs) Za O (td hJ (aa.Ej (k:=.bn) (xs:=A.cs) O ⟨.same _,.same _,Zo⟩ O))) (.c (zm O) (.c (zn O O) (.c (zr ZZ O) (.c (zr Zf O) (.c (zH (u:=.sl (v.p.frames.map Frame.cs)) XM O (td hJ (aa.dQ (k:=.p i) (HA.dm hv) O (.sl (hok.IE hv))))) (.c (zK uU call233 O) (.c (zm O) (.c (zX O O O) (.c (zX O O O) (.c (zA (c:=5) O0 O) (.c (zS XK O O O O O O) (.c (za O) .nil))))))))))))))))) ?_;refine rd 7 O (OK.ret ⟨aA.r1 (zy O O XK O) ?_,O,Zo⟩);rfl
def uV{r:Row}:Ct prog 235 [.agg r.cs] (.bool (!r.known)):=by
 refine cI func235 O (ro 10 O (kc (S.not .none O (zt O)) (rr 3 O (kR O O ?_))));rfl
def AH{l:List Row}:Ct prog 283 [.sl (l.map Row.cs),.fn 235 []] (bv (bq (fun r=>!r.known) 0 l)):=by
 refine cI func283 O (OK.eW (rows:=l.map Row.cs) (t:=0) O O fun hlen=>?_);rw[Zx]at hlen;unfold maxLen at hlen;refine ro 9 O (kc (zk Zj O) (rr 4 O ?_));refine OK.loop (G:=Nat) [] (fun i=>[(0,.sl (l.map Row.cs)),(1,.fn 235 []),(7,bv l.length),(8,bv i)]) (fun i=>i<=l.length/\bq (fun r=>!r.known) 0 l=bq (fun r=>!r.known) i (l.drop i)) (fun i=>l.length - i) 0 ⟨Zr _,O⟩ ⟨O,O,O,O,Zo⟩ (fun _=>O) ?_;rintro i ⟨hi,hg⟩;refine ro 6 O (kB O (fun c9=>?_) (fun c9=>?_))
 ·have hil:i<l.length:=by omega
  refine ro 15 O (kc (zI Zj O I O) (kc (S.fG OV .none O (zt O) O O) (kc (S.ij (uV (r:=l[i])) call235 .none O (zt O) (zc O .nil) O O O) (kD (OK.cond O O (fun c16=>?_) (fun c16=>?_))))))
  ·refine ro 6 O (kR O O ?_);simp_all[bT]
  refine Ro 7 O I (Ab.D.lp ⟨i+1,⟨by omega,?_⟩,I,O,O,O,O,Zo⟩);simp_all[bT]
 refine ro 7 O (kR O O ?_);refine cy ?_;have:i=l.length:=by omega
 subst this;rw[hg,co];rfl
def AJ{l:List Row}:Ct prog 234 [.sl (l.map Row.cs),.fn 235 []] (.bool (decide (0<=bq (fun r=>!r.known) 0 l))):=by
 refine cI func234 O (ro 9 O (kc (zK (AH (l:=l)) call283 O) (rr 4 O (kR O O ?_))));rfl
def oT{A:HA}{m:Int}(hok:A.Ok m){i:Nat}{v:aB}(hv:A.parts[i]?=some v){J:bm}(hS:aZ J)(hJ:∀h Y w,J h Y w->aa A.mem h Y w):dF prog 178 [] [.raw (pV A.b),.raw (pV v.b)] [(3000,.res J)] [(3000,.res J)] (.bool ((fM A.aS v.p.frames).rows.all fun r=>r.known)):=by
 refine cG func178 O (ro 9 O (RK.c (S.ik (((mm hok hv hS hJ).jR hS)) hS call177 .none O (zc O (zc O .nil)) O O) ?_));refine kc (S.GA (Tf:=221) ⟨_,_,underlying223,O,O,O⟩ OU .none O (zt O) O O) (kc (S.call (AJ (l:=(fM A.aS v.p.frames).rows)) call234 .none O (zc O (.cons .oL .nil)) O) (kc (S.jP .none O (zt O)) ?_));refine rr 3 O (OK.ret ⟨aA.r1 (zo O O) ?_,O,Zo⟩);refine ew ?_;rw[←AG];grind
def vT{A:HA}{m:Int}(hok:A.Ok m){n:Int}{J:bm}(hS:aZ J)(hJ:∀h Y w,J h Y w->aa A.mem h Y w):dF prog 86 [] [.raw (pV A.b),.int .i64 n] [(3000,.res J)] [(3000,.res J)] (.cf [.raw (rW A.pb (ix (fun v=>decide (v.p.num=n)) A.parts)),.int .i64 (sU n (ix (fun v=>decide (v.p.num=n)) A.parts).isSome)]):=by
 refine cG func86 O (kr (kc (S.assign .none O .lq) (rr 7 O (RK.c (S.ik (((qY hok hS hJ).jR hS)) hS call141 .none O (zc O (zc O .nil)) O O) (rr 7 O (kc (zK cv call55 O) (kc (zK ak call58 O) (jm O (kc (S.ET underlying119 .none O (zt O)) (kc (zK ak call58 O) ?_))))))))));refine RK.c (zM [[_],[_]] ZX O O O O) (kc (S.callL (bF (l:=[_,_])) call57 .none O (zc O .nil) (.cons (.p (.own O O) O) .nil) O) ?_);refine rr 4 O (OK.ret ⟨aA.r2 (zo O O) (zo O O) ?_,O,Zo⟩);simp only[uR];rfl
def wv{A:HA}{m:Int}(hok:A.Ok m){J:bm}(hS:aZ J)(hJ:∀h Y w,J h Y w->aa A.mem h Y w){f:Nat}{caps:bi}(hcall:∀args w,(callFunc f args).run prog w=.ok (.enter f args) w)(hc1:caps.all (mE [])=true)(hc2:caps.all (fun u=>!bR u)=true){g:Part->Bool}(hf:∀(i:Nat)(v:aB),A.parts[i]?=some v->dF prog f [] (.raw (pV v.b)::caps) [(3000,.res J)] [(3000,.res J)] (.bool (g v.p))):dF prog 53 [] [.raw (pV A.b),.fn f caps] [(3000,.res J)] [(3000,.res J)] (ints (oc g A.parts)):=by
 refine cG func53 O fun{_ _}=>?_
 have hlp:=hok.lp;have hm0:=hok.m0;refine kr (kc (S.assign .none O .fW) (rr 4 O (RK.c (S.iI (k:=5) (sz:=1) .none O) (rr 8 O (kc (zH (u:=.sl (A.parts.map iA)) YD O (td hJ (aa.dQ (k:=.bn) O O (.sl hok.ps)))) (kc (zk YS O) (rr 4 O ?_)))))));refine OK.loop (G:=Nat) [5] (fun i=>[(0,.raw (pV A.b)),(1,.fn f caps),(5,.own 5 (oc g (A.parts.take i)).length),(2005,.arr 1 (bM (oc g (A.parts.take i)))),(11,.sl (A.parts.map iA)),(12,bv A.parts.length),(13,bv i),(3000,.res J)]) (fun i=>i<=A.parts.length) (fun i=>A.parts.length - i) 0 (Zr _) ⟨O,O,(cw (by rfl)),(bH (by rfl)),O,O,O,O,Zo⟩ (fun _=>eQ (fun b=>b&&true) (CV (U:=[5]) hc1)) ?_;rintro i hi;refine ro 6 O (kB O (fun c14=>?_) (fun c14=>?_))
 ·have hil:i<A.parts.length:=by omega
  have hv:A.parts[i]?=some A.parts[i]:=Zv hil;have hnl:=wu g (A.parts.take i);rw[gn]at hnl;refine ro 6 O (kc (zI YS O I O) ?_);refine rr 8 O ?_;refine RK.c (S.uy (((hf i _ hv).jR hS)) hS hcall .none O (zt O) (zc O .nil) O O hc1 hc2) ?_;refine kD (OK.cond O O (fun c19=>?_) (fun c19=>?_))
  ·have hnx:=Gy hil c19;refine ro 6 O ?_;refine kc (zH Z8 O (td hJ (aa.dQ (k:=.p i) (HA.dm hv) O (.same _)))) (RK.c (zM [[_]] ZY O O O O) (kc (zP ZY O O F (by rfl) I (by grind [maxLen])) ?_));refine Rr 8 O I ?_;refine Ab.D.lp ⟨i+1,I,I,O,O,(cw (by simp_all)),(bH (by simp_all)),O,O,O,O,Zo⟩
  have hnx:=Gz hil (by simpa using c19);refine Ro 7 O I ?_;refine Ab.D.lp ⟨i+1,I,I,O,O,(cw (by simp_all)),(bH (by simp_all)),O,O,O,O,Zo⟩
 refine ro 8 O ?_;refine OK.ret ⟨aA.r1 (.tmp O O (.c (.own O O F) O) O) ?_,O,Zo⟩;rw[show i=A.parts.length by omega,fp];rfl
end Go.Proofs.YtpbalelbenmmbaaGreatDoor
namespace Go.Proofs.YtpbalelbenmmbaaGreatDoor
open Go.Ab Tryz
def j4{α β:Type}(f:α->β)(g:β->Bool):∀(l:List α)(i:Nat),iR g i (l.map f)=iR (fun x=>g (f x)) i l
 |[],_=>rfl
 |x::l,i=>by simp only[fw,iR,j4 f g l (i+1)]
def xD{α β:Type}(f:α->β)(g:β->Bool)(l:List α):dG g (l.map f)=dG (fun x=>g (f x)) l:=by
 unfold dG ix;rw[←List.map_reverse,j4,Zx]
def j5{α:Type}{g:α->Bool}{l:List α}{j:Nat}(h:dG g l=some j):∃hj:j<l.length,g l[j]=true:=by
 unfold dG at h;cases hi:ix g l.reverse with
 |none=>simp_all
 |some i=>
  rw[hi]at h;cases h;obtain⟨h1,h2⟩:=eE hi;grind
abbrev HE:=ax×Int
def ax.vr(H:ax)(n:Int):Option Nat:=ix (fun q=>decide (q.1.num=n)) H.parts
def ax.Bs(H:ax)(n:ba):Option Nat:=ix (fun q=>decide (q.1.name=n)) H.aC
def ax.Ec(H:ax)(n:ba):Option Nat:=dG (fun q=>decide (q.1.name=n)) H.aU
def ax.xE(H:ax):Option Nat:=ix (fun q=>decide (q.1.place=0)) H.parts
def HA.gG(A:HA)(n:Int):A.plain.vr n=ix (fun v=>decide (v.p.num=n)) A.parts:=j4 (fun v:aB=>(v.p,v.es)) _ _ _
def HA.nU(A:HA)(n:ba):A.plain.Bs n=ix (fun v=>decide (v.c.name=n)) A.aC:=j4 (fun v:fk=>(v.c,v.entry)) _ _ _
def HA.nV(A:HA)(n:ba):A.plain.Ec n=dG (fun v=>decide (v.r.name=n)) A.aU:=xD (fun v:jT=>(v.r,v.entry)) _ _
theorem HA.nW(A:HA):A.plain.xE=ix (fun v=>decide (v.p.place=0)) A.parts:=j4 (fun v:aB=>(v.p,v.es)) _ _ _
def cK(H:ax)(n:Int)(f:ax->Nat->HE):HE:=match H.vr n with
 |none=>(H,6)
 |some i=>if(f H i).2=0 then((f H i).1.jO i,0)else f H i
def gj(H:ax)(i:Nat):HE:=if Ac (H.p i)then(H.eC i fun p=>{p with place:=2},0)else(H,24)
def Ei(H:ax)(i:Nat):HE:=if(H.p i).place=1 then(H.eC i fun p=>{p with place:=3},0)else(H,20)
def yE(H:ax)(i:Nat):HE:=if gE (H.p i)&&!(H.p i).marked then(H.eC i fun p=>{p with marked:=true},0)else(H,20)
def qj(H:ax)(name:ba)(nM:Int):HE:=
 let e:=aF [ae (bS name) 4,ae (H.Bs name).isNone 5,ae (decide (1<=nM/\nM<=1000)) 2,ae (decide ((H.aC.length:Int)<4)) 16]
 if e=0 then({H with aC:=H.aC++[(⟨name,nM,0⟩,H.entries)]},0)else(H,e)
def ax.busy(H:ax)(name:ba):Bool:=match H.xE with
 |some i=>decide ((H.p i).coil=name)
 |none=>false
def tS(H:ax)(name:ba):HE:=match H.Bs name with
 |none=>(H,6)
 |some j=>if H.busy name then(H,17)else({H with aC:=H.aC.modify j fun q=>({q.1 with shots:=0},q.2)},0)
def fT(H:ax)(n:Int)(r c:ba):HE:=
 let e:=aF [ae (decide (n<=1000000)) 2,ae (H.vr n).isNone 5,ae ((H.Ec r).isSome&&(H.Bs c).isSome) 6,ae H.xE.isNone 17]
 if e≠0 then(H,e)else match(H.Ec r).bind (H.aU[·]?),H.Bs c with
 |some v,some j=>match H.aC[j]? with
  |some q=>
   let e2:=aF [ae (decide (q.1.shots<q.1.nM)) 22,ae (decide ((H.parts.length:Int)<12)) 16]
   if e2≠0 then(H,e2)else({H with aC:=H.aC.modify j fun q=>({q.1 with shots:=q.1.shots+1},q.2),parts:=H.parts++[(⟨n,v.1.name,v.1.iN,q.1.name,[],0,false,0,false,Span.zero⟩,[v.2,q.2,H.entries])]},0)
  |none=>(H,6)
 |_,_=>(H,6)
