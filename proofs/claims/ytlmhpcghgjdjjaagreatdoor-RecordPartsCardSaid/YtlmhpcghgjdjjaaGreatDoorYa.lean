import Derived.Test.YtlmhpcghgjdjjaaGreatDoorWk
set_option linter.all false
set_option maxHeartbeats 1000000
open List renaming length->R
namespace Go.Proofs.Z9
open Go.Ab Tryz
set_option maxRecDepth 9999
def dL(p:bC)(f:Frame):Int:=if¬(0<=f.tick/\f.tick<=p.aR - 1)then 2 else eM p f.values
def Bp(p:bC)(f:Frame):aF [ae (decide (0<=f.tick/\f.tick<=p.aR - 1)) 2,eM p f.values]=dL p f:=by
 rw[jH,dL];by_cases h:0<=f.tick/\f.tick<=p.aR - 1
 ·rw[ga h,Zm F,Zm I]
 rw[gw h,Zn C,Zn h]
def D9{p:bC}{f:Frame}(h:dL p f=0):(0<=f.tick/\f.tick<=p.aR - 1)/\R f.values=R p.aq:=by
 unfold dL at h;split at h
 ·cases h
 rename_i a;refine⟨Zu.1 a,?_⟩;grind [eM]
def rowAt(rows:List Row)(f:Frame):Row:=rows.getD f.tick.toNat ⟨false,[]⟩
def nJ(p:bC)(rows:List Row)(f:Frame):Int:=
 if dL p f≠0 then dL p f else if(rowAt rows f).known=true then ae (decide ((rowAt rows f).values=f.values)) 13 else 0
def gy(p:bC)(rows:List Row)(f:Frame):List Row:=
 if dL p f≠0 then rows else if(rowAt rows f).known=true then rows else rows.set f.tick.toNat ⟨true,f.values⟩
def vm(p:bC)(rows:List Row)(f:Frame):R (gy p rows f)=R rows:=by
 grind [gy]
def dV(p:bC)(l:List Frame)(i:Nat):List Row:=(l.take i).foldl (gy p) (List.replicate p.aR.toNat ⟨false,[]⟩)
def xA(p:bC)(l:List Frame):dV p l 0=List.replicate p.aR.toNat ⟨false,[]⟩:=rfl
def o5(p:bC){l:List Frame}{i:Nat}(h:i<R l):dV p l (i+1)=gy p (dV p l i) l[i]:=by
 grind [dV,tF]
def mB(p:bC)(l:List Frame):∀i,i<=R l->R (dV p l i)=p.aR.toNat
 |0,_=>by rw[xA,bσ]
 |i+1,h=>by rw[o5 p I,vm,mB p l i I]
def pJ(p:bC)(l:List Frame)(i:Nat)(f:Frame):Int:=nJ p (dV p l i) f
def Ny(p:bC)(l:List Frame)(i:Nat)(f:Frame):Int:=
 if dL p f≠0 then dL p f else if((l.take i).any fun x=>decide (x.tick=f.tick)&&!decide (x.values=f.values))=true then 13 else 0
def gY{α:Type}(g:Nat->α->Int):Nat->List α->Nat
 |i,[]=>i
 |i,x::l=>if g i x≠0 then i+1 else gY g (i+1) l
def rO{α:Type}(g:Nat->α->Int){l:List α}{i:Nat}(h:i<R l):gY g i (l.drop i)=if g i l[i]≠0 then i+1 else gY g (i+1) (l.drop (i+1)):=by
 rw[np h,gY]
def tL{α:Type}(g:Nat->α->Int):∀(l:List α)(i:Nat),(aK g i l).2=0->gY g i l=i+R l
 |[],i,_=>rfl
 |x::l,i,h=>by
  rw[aK]at h;by_cases a:g i x≠0
  ·simp_all
  rw[Zm a]at h;rw[gY,Zm a,tL g l (i+1) h,tt];omega
def xB{α:Type}(g:Nat->α->Int):∀(l:List α)(i:Nat),gY g i l<=i+R l
 |[],i=>Zq _
 |x::l,i=>by
  rw[gY,tt];split
  ·omega
  have:=xB g l (i+1);omega
def mC(p:bC)(l:List Frame):Int:=if bA p≠0 then bA p else if 40<R l then 8 else(aK (pJ p l) 0 l).2
def fM(p:bC)(l:List Frame):aX:=if mC p l=0 then⟨dV p l (R l)⟩else⟨[]⟩
def ZK(l:List Frame)(t:Nat):Row:=l.foldl (fun r f=>if f.tick=(t:Int)then⟨true,f.values⟩else r) ⟨false,[]⟩
def ZO(p:bC)(l:List Frame):aX:=⟨(List.range p.aR.toNat).map (ZK l)⟩
def Tz{l:List Frame}{t i:Nat}(h:i<R l):ZK (l.take (i+1)) t=if l[i].tick=(t:Int)then⟨true,l[i].values⟩else ZK (l.take i) t:=by
 grind [ZK,tF]
def Bq{rows:List Row}:∀{i:Nat}(h:i<R rows),(rows.map Row.cs).flatten[i * 2+0]?=some (.bool rows[i].known):=by
 induction rows with
 |nil=>simp
 |cons r rows a=>
  intro i h;cases i with
  |zero=>rfl
  |succ i=>
   have:=a (i:=i) (by grind);rw[show(i+1) * 2+0=(i * 2+0)+2 by omega];exact this
def Br{rows:List Row}:∀{i:Nat}(h:i<R rows),(rows.map Row.cs).flatten[i * 2+1]?=some (ints rows[i].values):=by
 induction rows with
 |nil=>simp
 |cons r rows a=>
  intro i h;cases i with
  |zero=>rfl
  |succ i=>
   have:=a (i:=i) (by grind);rw[show(i+1) * 2+1=(i * 2+1)+2 by omega];exact this
def Xp(p:bC)(l:List Frame)(i:Nat):Prop:=∀t,t<p.aR.toNat->
 ((((dV p l i).getD t ⟨false,[]⟩).known=false->(dV p l i).getD t ⟨false,[]⟩=⟨false,[]⟩/\∀x∈l.take i,x.tick≠(t:Int))/\
  (((dV p l i).getD t ⟨false,[]⟩).known=true->(∃x∈l.take i,x.tick=(t:Int))/\∀x∈l.take i,x.tick=(t:Int)->x.values=((dV p l i).getD t ⟨false,[]⟩).values))
def Nx{p:bC}{l:List Frame}{i:Nat}(hi:i<R l)(h:Xp p l i):pJ p l i l[i]=Ny p l i l[i]:=by
 unfold pJ Ny nJ;by_cases b:dL p l[i]≠0
 ·omega
 rw[Zm b,Zm b];have f:=(D9 (Zu.1 b)).1;have a:((l[i].tick.toNat:Nat):Int)=l[i].tick:=dζ f.1;obtain⟨o,k⟩:=h l[i].tick.toNat I;unfold rowAt;cases e:((dV p l i).getD l[i].tick.toNat ⟨false,[]⟩).known with
 |false=>
  simp_all
 |true=>
  obtain⟨⟨x,n,d⟩,g⟩:=k e;rw[Zn rfl];rw[a]at d g;by_cases c:((dV p l i).getD l[i].tick.toNat ⟨false,[]⟩).values=l[i].values
  ·rw[ga c,Zm];simp_all
  rw[gw c,Zn];grind
def Sy(p:bC)(l:List Frame):Xp p l 0:=by
 intro t a;have e:(dV p l 0).getD t ⟨false,[]⟩=⟨false,[]⟩:=by simp_all[xA]
 simp_all
theorem Wj{p:bC}{l:List Frame}{i:Nat}(hi:i<R l)(h:Xp p l i)(g:pJ p l i l[i]=0):Xp p l (i+1):=by
 have hlen:=mB p l i I;unfold pJ nJ at g;have f:dL p l[i]=0:=by
  omega
 have C:=(D9 f).1;have w:((l[i].tick.toNat:Nat):Int)=l[i].tick:=dζ C.1;rw[Zm I]at g;intro t z;have a:∀x,x∈l.take (i+1)↔x∈l.take i\/x=l[i]:=fun x=>by rw[←tF hi,List.mem_append,pi]
 obtain⟨F,D⟩:=h t z;rw[o5 p hi];unfold gy;rw[Zm I];by_cases n:(rowAt (dV p l i) l[i]).known=true
 ·rw[Zn n]at g⊢;have G:(rowAt (dV p l i) l[i]).values=l[i].values:=by
   grind [gw]
  refine⟨fun b=>?_,fun b=>?_⟩
  ·obtain⟨q,o⟩:=F b;refine⟨q,fun x c=>?_⟩;rcases(a x).1 c with c|rfl
   all_goals grind [rowAt]
  obtain⟨⟨x,c,d⟩,o⟩:=D b;refine⟨⟨x,(a x).2 (.inl c),d⟩,fun y k r=>?_⟩;rcases(a y).1 k with k|rfl
  all_goals simp_all[rowAt]
 rw[Zm n];by_cases u:l[i].tick.toNat=t
 ·have e:((dV p l i).set l[i].tick.toNat ⟨true,l[i].values⟩).getD t ⟨false,[]⟩=⟨true,l[i].values⟩:=by
   simp_all
  rw[e];have B:((dV p l i).getD t ⟨false,[]⟩).known=false:=by
   simp_all[rowAt]
  grind
 grind
def Qr{p:bC}{l:List Frame}:∀(n i:Nat),R l - i=n->i<=R l->Xp p l i->
  aK (pJ p l) i (l.drop i)=aK (Ny p l) i (l.drop i)/\((aK (pJ p l) i (l.drop i)).2=0->Xp p l (R l))
 |0,i,hn,hi,h=>by
  have e:i=R l:=I
  subst e;rw[no];exact⟨rfl,fun _=>h⟩
 |n+1,i,hn,hi,h=>by
  have a:i<R l:=I
  rw[bE _ a,bE _ a,Nx a h];by_cases b:Ny p l i l[i]≠0
  ·simp_all
  rw[Zm b,Zm b];exact Qr n (i+1) I I (Wj a h (by simp_all[Nx]))
def Xa{t:Nat}:∀(l:List Frame)(r:Row),(∀x∈l,x.tick≠(t:Int))->l.foldl (fun r f=>if f.tick=(t:Int)then⟨true,f.values⟩else r) r=r
 |[],_,_=>rfl
 |x::l,r,h=>by
  rw[aτ,Zm (h x rv)];exact Xa l r fun y a=>h y (rl _ a)
def X3{t:Nat}{v:bd}:∀(l:List Frame)(r:Row),(∀x∈l,x.tick=(t:Int)->x.values=v)->(r=⟨true,v⟩\/∃x∈l,x.tick=(t:Int))->l.foldl (fun r f=>if f.tick=(t:Int)then⟨true,f.values⟩else r) r=⟨true,v⟩
 |[],r,_,h=>by
  simp_all
 |x::l,r,h,ho=>by
  rw[aτ];have b:=fun y c=>h y (rl _ c)
  by_cases a:x.tick=(t:Int)
  ·rw[Zn a];exact X3 l _ b (.inl (by simp_all))
  rw[Zm a];refine X3 l r b ?_;simp_all
def Xe{p:bC}{l:List Frame}(h:mC p l=0):fM p l=ZO p l:=by
 have k:bA p=0:=by
  grind [mC]
 have n:(aK (pJ p l) 0 l).2=0:=by
  unfold mC at h;omega
 have b:=(Qr (p:=p) (l:=l) (R l) 0 rfl (Zr _) (Sy p l)).2 (by simp_all);have hlen:=mB p l (R l) (Zq _);rw[fM,Zn h,ZO];congr 1;refine List.ext_getElem (by simp[hlen]) fun t g o=>?_
 rw[bκ,List.getElem_range];have f:t<p.aR.toNat:=I
 obtain⟨c,a⟩:=b t f;rw[List.take_length]at c a;have e:(dV p l (R l)).getD t ⟨false,[]⟩=(dV p l (R l))[t]:=getD_at g;rw[e]at c a;cases d:(dV p l (R l))[t].known with
 |false=>
  simp_all[ZK,Xa]
 |true=>
  obtain⟨r1,r2⟩:=a d;rw[ZK,X3 l _ r2 (.inr r1)];rw[←d]
end Go.Proofs.Z9
namespace Go.Proofs.Z9
open Go.Ab Tryz
def lN{a b:bd}:Ct prog 203 [ints a,ints b] (.bool (decide (a=b))):=by
 refine cI func203 O (OK.eW (rows:=a.map (fun n=>[bv n])) (t:=0) O O fun hlen=>?_);rw[Zx]at hlen;unfold maxLen at hlen;refine ro 9 O (kc (zk Z4 O) (jm O (kc (zk Z4 O) (rr 3 O (kB O (fun f=>?_) (fun f=>?_))))))
 ·refine ro 5 O (kR O O ?_);exact ret_F (fun e=>f (by rw[e]))
 have k:R a=R b:=by omega
 refine ro 6 O (kc (zk Z4 O) (rr 4 O ?_));refine OK.loop (G:=Nat) [] (fun i=>[(0,ints a),(1,ints b),(12,bv (R a)),(13,bv i)]) (fun i=>i<=R a/\a.take i=b.take i) (fun i=>R a - i) 0 ⟨Zr _,O⟩ ⟨O,O,O,O,Zo⟩ (fun _=>O) ?_;rintro i ⟨hi,g⟩;refine ro 6 O (kB O (fun h=>?_) (fun h=>?_))
 ·refine ro 11 O (kV (.c (zm O) (.c (zm O) (.c (zI Z4 O I O) (.c (zV Z8 O O) (.c (zm O) (.c (zm O) (.c (zI Z4 O I O) (.c (zV Z8 O O) (.c (S.neq .none O (zt O) (zt O)) .nil))))))))) (Ab.D.code (kB O (fun d=>?_) (fun d=>?_))))
  ·refine ro 5 O (kR O O ?_);exact ret_F (fun e=>by subst e;exact d rfl)
  refine Ro 7 O I (Ab.D.lp ⟨i+1,⟨by omega,?_⟩,I,O,O,O,O,Zo⟩);simp only[ne_eq,Zu]at d;rw[mv I,mv I,g,d]
 refine ro 7 O (kR O O ?_);have:i=R a:=by omega
 subst this;rw[List.take_length,k,List.take_length]at g;exact FR g
def sB{l:bd}(h0:0<R l)(hlen:R l<=100000):Ct prog 305 [ints l] (ints l):=by
 refine cI func305 O (kr (kc (S.assign .none O .fW) (rr 6 O ?_)));refine kc (S.Hq underlying49 .none O (zt O) (by rw[Zx];exact h0)) ?_;refine rr 7 O (RK.c (zM [] ZM O O O O) (jm O ?_));refine RK.c (S.mQ ZM .none O (zt O) O N (zt O) (by intro q a;obtain⟨b,_,rfl⟩:=rx.1 a;rfl) O (by simp only[Zx];omega) (by simp only[maxLen,Zx];omega)) ?_;refine rr 3 O ?_;refine OK.ret (aA.r1 (.tmp O O (.c (.own O O N) O) O) ?_);rfl
def nK{p:bC}{f:Frame}(a:1<=p.aR/\p.aR<=12):Ct prog 255 [.agg p.cs,.agg f.cs] (bv (dL p f)):=by
 refine cI func255 O (ro 8 O ?_);refine kV (.c (zf Th O) (.c (zl Z8 O O O O) (.c (zf Ta O) (.c (zf Qi O) (.c (zl Z8 O O O O) (.c (S.sub .none O (zt O) (.af O) (mn _ I) (mn _ I)) (.c (zK dJ call247 O) (.c (zK aT call243 O) (.c (zL Q3 O O O O) (.c (zf Wx O) (.c (zl Zd O O O O) (.c (zK lJ call299 O) (.c (zM [[_],[_]] Zc O O O O) (.c (S.callL (cC (l:=[_,_])) call242 .none O (zc O .nil) (.cons (.p (.own O O) O) .nil) O) (.c (za O) .nil))))))))))))))) (Ab.D.code (kR O O ?_));exact cy (Bp p f)
def rD{p:bC}{f:Frame}:Ct prog 200 [.agg p.cs,.agg f.cs] (bv (if bA p=0 then dL p f else bA p)):=by
 refine cI func200 O (ro 10 O (kc (zK ng call254 O) (rr 15 O (kB O (fun a=>?_) (fun a=>?_)))))
 ·have b:=jc a;refine ro 3 O (kc (zK (nK I) call255 O) ?_);refine rr 9 O (kR O O ?_);rw[Zn a]
 refine ro 8 O (kR O O ?_);rw[Zm a]
def Ea{p:bC}{rows:List Row}{n:Nat}{i:Nat}{f:Frame}(r:R rows=n)(q:n=p.aR.toNat)(o:1<=p.aR/\p.aR<=12)(w:0<R p.aq/\R p.aq<=100000):dF prog 304 [6,8,27] [bv i,.agg f.cs,.ptr 6 0,.ptr 8 0] [(1006,.box p.cs),(1008,.box [.own 27 n]),(2027,.arr 2 (rows.map Row.cs))] [(1006,.box p.cs),(1008,.box [.own 27 n]),(2027,.arr 2 ((gy p rows f).map Row.cs))] (bv (nJ p rows f)):=by
 refine cG func304 O fun{_ _}=>?_
 have a:R (rows.map Row.cs)=n:=by rw[Zx,r]
 refine ro 11 O (kc (zK (nK I) call255 O) ?_);refine rr 9 O (kB O (fun e=>?_) (fun e=>?_))
 ·refine ro 6 O ?_;refine OK.ret ⟨aA.r1 (zo O O) ?_,O,O,(bH (by rw[gy,Zn e])),Zo⟩;refine cy ?_;rw[nJ,Zn e]
 have u:dL p f=0:=Zu.1 e;obtain⟨k,t⟩:=D9 u;have h:((f.tick.toNat:Nat):Int)=f.tick:=dζ k.1;have g:f.tick.toNat<R rows:=I
 have b:rowAt rows f=rows[f.tick.toNat]:=getD_at g;refine ro 8 O (kc (S.tO (i:=f.tick.toNat) Za .none O (zt O) O a (zt O) h.symm I) ?_);refine rr 7 O (kc (S.n7 .none O (zt O) O a) (kc (S.BH Qg .none O (zt O) O a) (kc (S.BG SP .none O (zt O) O a (Bq g)) (kD (OK.cond O O (fun d=>?_) (fun d=>?_))))))
 ·refine kO (kV (.c (zm O) (.c (S.n7 .none O (zt O) O a) (.c (S.BH SQ .none O (zt O) O a) (.c (S.BG Zd .none O (zt O) O a (Br g)) (.c (zf Wx O) (.c (zl Zd O O O O) (.c (zK lN call203 O) (.c (zK aT call243 O) (.c (za O) .nil))))))))) (Ab.D.code (OK.ret ⟨aA.r1 (zo O O) ?_,O,O,(bH (by rw[gy,Zm I,b,Zn d])),Zo⟩)));refine cy ?_;rw[nJ,Zm I,b,Zn d]
 refine ro 7 O (kc (zK (sB (l:=f.values) I I) call305 O) (kc (zU Lv O O) (kc (S.n7 .none O (zt O) O a) ?_)));refine RK.c (S.B5 (i:=f.tick.toNat) LX .none (zt O) (zt O) O a O I O O O (show _=(rows.set f.tick.toNat ⟨true,f.values⟩).map Row.cs by rw[bτ];rfl)) ?_;refine rr 7 O ?_;refine OK.ret ⟨aA.r1 (zo O O) ?_,O,O,(bH (by rw[gy,Zm I,b,Zm (by simp[d])])),Zo⟩;refine cy ?_;rw[nJ,Zm I,b,Zm (by simp[d])]
def vo{l:List Frame}{g:Nat->Frame->Int}{Φ:Value->Prop}{J:Nat->bm}(b:∀(i:Nat)(h:i<R l)(v:Value),Φ v->nR prog v [.int .i64 i,.agg l[i].cs] (.int .i64 (g i l[i])) (J i) (J (i+1)))(f:∀i,aZ (J i)):dF prog 303 [] [.sl (l.map Frame.cs),.cb Φ] [(3000,.res (J 0))] [(3000,.res (J (gY g 0 l)))] (pair (aK g 0 l)):=by
 refine cG func303 O (OK.eW (rows:=l.map Frame.cs) (t:=0) O O fun hlen=>?_);rw[Zx]at hlen;unfold maxLen at hlen;refine ro 10 O (kc (zk Y8 O) (rr 4 O ?_));refine OK.loop (G:=Nat) [] (fun i=>[(1,.cb Φ),(9,.sl (l.map Frame.cs)),(10,bv (R l)),(11,bv i),(3000,.res (J i))]) (fun i=>i<=R l/\aK g 0 l=aK g i (l.drop i)/\gY g 0 l=gY g i (l.drop i)) (fun i=>R l - i) 0 ⟨Zr _,O,O⟩ ⟨O,O,O,O,O,Zo⟩ (fun _=>O) ?_;rintro i ⟨hi,c,d⟩;refine ro 6 O (kB O (fun e=>?_) (fun e=>?_))
 ·refine ro 7 O (kc (zI Y8 O I O) ?_);refine rr 11 O ?_;refine kc (S.tQ (J1:=J (i+1)) (b i I) (f _) .none O (zt O) (zc O (zc O .nil)) O O) ?_;refine rr 9 O (kB O (fun a=>?_) (fun a=>?_))
  ·refine ro 8 O ?_;refine OK.ret ⟨aA.r2 (zo O O) (zo O O) ?_,(lZ (by rw[d,rO _ I,Zn a])),Zo⟩;refine dD ?_;rw[c,bE _ I,Zn a]
  refine Ro 7 O I (Ab.D.lp ⟨i+1,⟨by omega,?_,?_⟩,I,O,O,O,O,O,Zo⟩)
  ·rw[c,bE _ I,Zm a]
  rw[d,rO _ I,Zm a]
 refine ro 8 O ?_;refine OK.ret ⟨aA.r2 (zo O O) (zo O O) ?_,(lZ (by rw[d,show i=R l by omega,no];rfl)),Zo⟩;refine dD ?_;rw[c,show i=R l by omega,no];rfl
end Go.Proofs.Z9
namespace Go.Proofs.Z9
open Go.Ab Tryz
def Fp(p:bC)(l:List Frame):aF [bA p,ae (decide ((R l:Int)<=40)) 8]=if bA p≠0 then bA p else if 40<R l then 8 else 0:=by
 rw[jH];by_cases b:bA p≠0
 ·omega
 rw[Zm b,Zm b];by_cases a:40<R l
 ·rw[gw I,Zn a]
 rw[ga I,Zm a]
def uU{p:bC}{l:List Frame}:Ct prog 259 [.agg p.cs,.sl (l.map Frame.cs)] (.cf [.agg (fM p l).cs,bv (mC p l)]):=by
 refine cI func259 O fun{_ _}=>?_
 have hh:=Fp p l;have d:mC p l=if bA p≠0 then bA p else if 40<R l then 8 else(aK (pJ p l) 0 l).2:=rfl
 refine ro 10 O (kc (zK ng call254 O) (rr 13 O (kc (zk Y8 O) (kc (S.leq .none O (zt O) (.af O)) (kc (zK aT call243 O) ?_)))));refine RK.c (zM [[_],[_]] Zc O O O O) (kc (S.callL (cC (l:=[_,_])) call242 .none O (zc O .nil) (.cons (.p (.own O O) O) .nil) O) ?_);refine rr 9 O (kB O (fun a=>?_) (fun a=>?_))
 ·have f:mC p l=aF [bA p,ae (decide ((R l:Int)<=40)) 8]:=by
   rw[hh]at a⊢;rw[d];by_cases r:bA p≠0
   ·rw[Zn r,Zn r]
   rw[Zm r]at a⊢;by_cases B:40<R l
   ·rw[Zm r,Zn B,Zn B]
   rw[Zm B]at a;exact absurd rfl a
  have w:¬mC p l=0:=by rw[f];exact a
  refine kr (kc (zU Ls O O) (rr 5 O (OK.ret (aA.r2 (.bG O O O O WL O (.k .bO .z)) (zo O O) ?_))));rw[fM,Zm w,f];rfl
 have u:bA p=0:=I
 have C:R l<=40:=I
 have H:=jc u;have f:mC p l=(aK (pJ p l) 0 l).2:=by rw[d,Zm I,Zm I]
 have x:R (dV p l (gY (pJ p l) 0 l))=p.aR.toNat:=mB p l _ (by have:=xB (pJ p l) l 0;omega);have kS:∀(i:Nat)(h:i<R l),dF prog 304 [6,8,27] ([bv i,.agg l[i].cs]++[.ptr 6 0,.ptr 8 0]) [(1006,.box p.cs),(1008,.box [.own 27 p.aR.toNat]),(2027,.arr 2 ((dV p l i).map Row.cs))] [(1006,.box p.cs),(1008,.box [.own 27 p.aR.toNat]),(2027,.arr 2 ((dV p l (i+1)).map Row.cs))] (bv (pJ p l i l[i])):=fun i h=>by
  rw[o5 p h];exact Ea (mB p l i I) rfl I I
 have F:∀(o:Ctx)(q:Value),aV o (.fn 304 [.ptr 6 0,.ptr 8 0]) q->dF prog 303 [] ([.sl (l.map Frame.cs)]++[.cb fun v=>v=q]) [(3000,.res (ic [6,8,27] [(1006,.box p.cs),(1008,.box [.own 27 p.aR.toNat]),(2027,.arr 2 ((dV p l 0).map Row.cs))] o [(1006,.box p.cs),(1008,.box [.own 27 p.aR.toNat]),(2027,.arr 2 ((dV p l 0).map Row.cs))]))] [(3000,.res (ic [6,8,27] [(1006,.box p.cs),(1008,.box [.own 27 p.aR.toNat]),(2027,.arr 2 ((dV p l 0).map Row.cs))] o [(1006,.box p.cs),(1008,.box [.own 27 p.aR.toNat]),(2027,.arr 2 ((dV p l (gY (pJ p l) 0 l)).map Row.cs))]))] (pair (aK (pJ p l) 0 l)):=fun o q G=>vo (l:=l) (g:=pJ p l) (Φ:=fun v=>v=q) (J:=fun i=>ic [6,8,27] [(1006,.box p.cs),(1008,.box [.own 27 p.aR.toNat]),(2027,.arr 2 ((dV p l 0).map Row.cs))] o [(1006,.box p.cs),(1008,.box [.own 27 p.aR.toNat]),(2027,.arr 2 ((dV p l i).map Row.cs))]) (fun i h v e=>by subst e;exact yF (kS i h) call304 rfl G rfl rfl) (fun i=>ic.az rfl)
 refine ro 6 O ?_;refine RK.c (S.make (k:=27) (n:=p.aR.toNat) Lm (⟨⟨t332,_,V,rfl,fun h=>⟨.bool _,.rP none 0 (Zr _),Zo⟩⟩⟩:IP prog 332 [.bool false,.sl []]) .none O (zt O) (zt O) I I (by unfold maxLen;omega)) ?_;refine kc (zU Ls O O) (rr 7 O (kc (S.s5 .none O (zt O) (zt O) O O) ?_));refine RK.c (S.Fu (fs:=[6,8,27]) (t:=[(1006,.box p.cs),(1008,.box [.own 27 p.aR.toNat]),(2027,.arr 2 ((dV p l 0).map Row.cs))]) (t':=[(1006,.box p.cs),(1008,.box [.own 27 p.aR.toNat]),(2027,.arr 2 ((dV p l (gY (pJ p l) 0 l)).map Row.cs))]) (F) call303 .none O (zc O (zc O .nil)) O O O ⟨O,O,(bH (by rw[xA,List.map_replicate];rfl)),Zo⟩ V V V V V O O) ?_;refine rr 13 O (kB O (fun b=>?_) (fun b=>?_))
 ·refine kr (kc (zU Ls O O) (rr 5 O (OK.ret (aA.r2 (.bG O O O O WL O (.k .bO .z)) (zo O O) ?_))));rw[fM,Zm (by rw[f];exact b),f];rfl
 have y:(aK (pJ p l) 0 l).2=0:=Zu.1 b;have D:mC p l=0:=I
 have K:gY (pJ p l) 0 l=R l:=by rw[tL _ l 0 y,wc]
 refine ro 9 O ?_;refine OK.ret (aA.r2 (.bG O O O O WL O (.k (.own O O N) .z)) (zo O O) ?_);rw[fM,Zn D,D,K];rfl
def TM{p:bC}{f:Frame}(l:1<=p.aR/\p.aR<=12):Ct prog 87 [.agg p.cs,.agg f.cs] (bv (dL p f)):=by
 refine cI func87 O (OK.Xq 1 1 (f.values.map fun n=>[bv n]) O O O fun hlen=>?_);rw[Zx]at hlen;unfold maxLen at hlen;refine Ro 15 O I (kc (zK gx call33 O) (kc (S.jP .none O (zt O)) (kD (kB O (fun c=>?_) (fun c=>?_)))))
 ·refine ro 5 O (kR O O ?_);refine cy ?_;rw[dL,Zn c]
 have e:0<=f.tick/\f.tick<=p.aR - 1:=Zu.1 c;have a:dL p f=eM p f.values:=by rw[dL,Zm (by simpa using e)]
 refine ro 7 O (kc (zk Z4 O) (rr 2 O (kc (zk Z2 O) (rr 3 O (kB O (fun k=>?_) (fun k=>?_))))))
 ·refine ro 5 O (kR O O ?_);refine cy ?_;rw[a,eM,Zn I]
 have d:R f.values=R p.aq:=by omega
 refine ro 9 O ?_;refine OK.loop (G:=Nat) [2,3] (fun i=>[(2,.ptr 2 0),(1002,.box p.cs),(3,.ptr 3 0),(1003,.box f.cs),(5,bv i)]) (fun i=>i<=R f.values/\f.values.all isVal=(f.values.drop i).all isVal) (fun i=>R f.values - i) 0 ⟨Zr _,O⟩ ⟨O,O,O,O,O,Zo⟩ (fun _=>O) ?_;rintro i ⟨hi,g⟩;refine ro 6 O (kc (zk Z4 O) (rr 3 O (kB O (fun h=>?_) (fun h=>?_))))
 ·refine ro 9 O (kc (zI Z4 O I O) (kc (zV Z8 O O) (kc (zK Sq call122 O) (kc (S.jP .none O (zt O)) (kD (kB O (fun b=>?_) (fun b=>?_)))))))
  ·refine ro 5 O (kR O O ?_);refine cy ?_;rw[a,SS I d g (by simpa using b)]
  refine Ro 8 O I ?_;refine Ab.D.lp ⟨i+1,⟨by omega,SU I g (by simpa using b)⟩,I,O,O,O,O,O,Zo⟩
 refine ro 7 O (kR O O ?_);refine cy ?_;rw[a,eM,Zm I,g,show i=R f.values by omega,no];rfl
def RC{p:bC}{l:List Frame}(n:1<=p.aR/\p.aR<=12)(h:∀x∈l,R x.values<=100000):Ct prog 231 [.agg p.cs,.sl (l.map Frame.cs)] (.agg (ZO p l).cs):=by
 refine cI func231 O (OK.eW (rows:=l.map Frame.cs) (t:=1) O O fun hlen=>?_);rw[Zx]at hlen;unfold maxLen at hlen;refine ro 18 O (OK.nP 5 0 890 2 O O O O O ?_);refine OK.loop (G:=Nat) [2,4,5,890] (fun i=>[(1,.sl (l.map Frame.cs)),(2,.ptr 2 0),(1002,.box p.cs),(4,.ptr 4 0),(1004,.box [.bO]),(5,.ptr 5 0),(1005,.box [.own 890 i]),(2890,.arr 2 (((List.range i).map (ZK l)).map Row.cs)),(6,bv i)]) (fun i=>(i:Int)<=p.aR) (fun i=>p.aR.toNat - i) 0 I ⟨O,O,O,O,O,O,O,(bH N),O,Zo⟩ (fun _=>O) ?_;rintro i hi;refine ro 9 O (kB O (fun g=>?_) (fun g=>?_))
 ·refine ro 6 O (kc (zU Lv O O) (rr 11 O (OK.Yf 7 1 O O O O ?_)));refine OK.loop (G:=Nat) [2,4,5,890,7] (fun k=>[(1,.sl (l.map Frame.cs)),(2,.ptr 2 0),(1002,.box p.cs),(4,.ptr 4 0),(1004,.box [.bO]),(5,.ptr 5 0),(1005,.box [.own 890 i]),(2890,.arr 2 (((List.range i).map (ZK l)).map Row.cs)),(6,bv i),(7,.ptr 7 0),(1007,.box (ZK (l.take k) i).cs),(8,bv k)]) (fun k=>k<=R l) (fun k=>R l - k) 0 (Zr _) ⟨O,O,O,O,O,O,O,(bH N),O,O,O,O,Zo⟩ (fun _=>O) ?_;rintro k o;refine ro 5 O (kc (zk Y8 O) (rr 3 O (kB O (fun f=>?_) (fun f=>?_))))
  ·have d:=h l[k] (Zt I);have a:=Tz (t:=i) (show k<R l by omega);refine ro 8 O (kc (zI Y8 O I O) ?_);refine rr 6 O (kB O (fun b=>?_) (fun b=>?_))
   ·rw[Zn b]at a;refine ro 3 O (kc (zI Y8 O I O) ?_);refine rr 2 O (kc (zK (XD (l:=l[k].values) d) call221 O) (kc (zU Lv O O) (Rr 9 O I ?_)));refine Ab.D.lp ⟨k+1,I,I,O,O,O,O,O,O,O,(bH N),O,O,(show _=some (X.box (ZK (l.take (k+1)) i).cs)by rw[a];rfl),O,Zo⟩
   rw[Zm b]at a;refine Ro 8 O I ?_;refine Ab.D.lp ⟨k+1,I,I,O,O,O,O,O,O,O,(bH N),O,O,(show _=some (X.box (ZK (l.take (k+1)) i).cs)by rw[a];rfl),O,Zo⟩
  have e:k=R l:=by omega
  subst e;rw[List.take_length]at *;refine ro 6 O ?_;refine RK.c (zM [[_,_]] Lm O O O O) ?_;refine kc (zP Lm O O F N I (by simp only[maxLen];omega)) ?_;refine Rr 10 O I ?_;refine Ab.D.lp ⟨i+1,I,I,O,O,O,O,O,O,O,(bH (by rw[cε,ne,ne];rfl)),O,Zo⟩
 refine ro 8 O ?_;refine OK.ret (aA.r1 (.bG O O O O WL O (.k (.own O O N) .z)) ?_);rw[show i=p.aR.toNat by omega];rfl
end Go.Proofs.Z9
namespace Go.Proofs.Z9
open Go.Ab Tryz
def aj(c:UInt8):ba->List ba
 |[]=>[[]]
 |b::l=>if b=c then []::aj c l else match aj c l with
  |[]=>[[b]]
  |p::ps=>(b::p)::ps
theorem gr(c:UInt8):∀l,aj c l≠[]
 |[]=>by simp[aj]
 |b::l=>by
  grind [aj]
theorem l8{b c:UInt8}{l:ba}(h:b≠c){p:ba}{ps:List ba}(a:aj c l=p::ps):aj c (b::l)=(b::p)::ps:=by
 rw[aj,Zm h,a]
def mM{b c:UInt8}{l:ba}:Lib.indexByte (b::l) c=if b=c then 0 else if Lib.indexByte l c<0 then -1 else Lib.indexByte l c+1:=by
 have a:=Lib.indexByte_ge l c;show(if(b==c)=true then 0 else if(Lib.indexByte l c== -1)=true then -1 else Lib.indexByte l c+1)=_;grind
def split_neg{c:UInt8}:∀{l:ba},Lib.indexByte l c<0->aj c l=[l]
 |[],_=>rfl
 |b::l,h=>by
  rw[mM]at h;split at h
  ·omega
  rename_i d;split at h
  ·rename_i a;exact l8 d (split_neg a)
  omega
def gI{c:UInt8}:∀{l:ba},¬Lib.indexByte l c<0->(Lib.indexByte l c).toNat<R l/\aj c l=l.take (Lib.indexByte l c).toNat::aj c (l.drop ((Lib.indexByte l c).toNat+1))
 |[],h=>by simp[Lib.indexByte]at h
 |b::l,h=>by
  rw[mM]at h⊢;by_cases d:b=c
  ·simp_all[aj]
  rw[Zm d]at h⊢;by_cases a:Lib.indexByte l c<0
  ·omega
  rw[Zm a]at h⊢;obtain⟨g1,g2⟩:=gI a;grind [l8]
def oa(c:UInt8):∀l,R (aj c l)=Lib.countByte l c+1
 |[]=>rfl
 |b::l=>by
  have a:=oa c l;unfold Lib.countByte at a⊢;rw[aj,List.count_cons];grind
def gH{c:UInt8}:∀{l:ba},∀p∈aj c l,R p<=R l
 |[],p,a=>by simp_all[aj]
 |b::l,p,a=>by
  rw[aj]at a;split at a
  ·rcases sf.1 a with rfl|a
   ·simp
   have:=gH p a;grind
  split at a
  ·simp_all
  rename_i q ps d;rcases sf.1 a with rfl|a
  ·have:=gH q (by rw[d];simp);simp_all
  have:=gH p (by rw[d];simp_all);grind
def xP(l:ba)(c:UInt8): -1<=Lib.indexByte l c/\Lib.indexByte l c<=R l:=by
 refine⟨Lib.indexByte_ge l c,?_⟩;by_cases h:Lib.indexByte l c<0
 ·omega
 have:=(gI h).1;omega
def aL(c:UInt8)(l:ba):ba×ba×Bool:=if 0<=Lib.indexByte l c then(l.take (Lib.indexByte l c).toNat,l.drop ((Lib.indexByte l c).toNat+1),true)else(l,[],false)
theorem qt{c:UInt8}{l:ba}(h:0<=Lib.indexByte l c):aL c l=(l.take (Lib.indexByte l c).toNat,l.drop ((Lib.indexByte l c).toNat+1),true):=Zn h
theorem oI{c:UInt8}{l:ba}(h:¬0<=Lib.indexByte l c):aL c l=(l,[],false):=Zm h
def iY(c:UInt8)(l:ba):aj c l=if(aL c l).2.2=true then(aL c l).1::aj c (aL c l).2.1 else [l]:=by
 by_cases h:0<=Lib.indexByte l c
 ·rw[qt h,Zn rfl];simp_all[gI]
 simp_all[oI,split_neg]
def tX{α:Type}{l:List α}{k:Nat}{d:α}(h:k<R l):l.getD k d=l[k]:=by simp_all
def Fy{a b:UInt8}:((a.toNat:Int)=(b.toNat:Int))↔a=b:=by
 grind [UInt8.toNat_inj]
def EE(c:UInt8):((c.toNat:Int)).toNat.toUInt8=c:=F
def s6{c:UInt8}{l:ba}{i:Nat}(hi:i<R (aj c l)){p:ba}(a:(aj c l)[i]=p):
  (((aj c l).take i++List.replicate (R (aj c l) - i) []).map fun s=>[X.str s]).set i [X.str p]=(((aj c l).take (i+1)++List.replicate (R (aj c l) - (i+1)) []).map fun s=>[X.str s]):=by
 rw[show(R (aj c l)) - i=(R (aj c l) - (i+1))+1 by omega,List.replicate_succ,mv hi,a,ne,ne,ne];rw[List.set_append_right _ _ (by simp;omega)];simp[Nat.min_eq_left (Nat.le_of_lt hi)]
def Cp(a:ba):List ba->List ba
 |[]=>[a]
 |p::ps=>(a++p)::ps
def yU{L:List ba}(h:L≠[]):Cp [] L=L:=by cases L with|nil=>simp_all|cons p ps=>rfl
def HC{c:UInt8}{a r:ba}{b:UInt8}(h:b=c):Cp a (aj c (b::r))=a::Cp [] (aj c r):=by
 rw[aj,Zn h,yU (gr c r)];simp[Cp]
def HD{c:UInt8}{a r:ba}{b:UInt8}(h:¬b=c):Cp a (aj c (b::r))=Cp (a++[b]) (aj c r):=by
 grind [aj,Cp]
def EF{σ α:Type}{g:σ->α->σ×Bool}{b:σ}{d:α}{rest:List α}:∀{a:List α},(au g b a).2=true->(g (au g b a).1 d).2=false->au g b (a++d::rest)=((g (au g b a).1 d).1,false):=by
 intro a
 induction a generalizing b with
 |nil=>
  simp_all[au]
 |cons x a c=>
  grind [au]
def FA{σ α:Type}{g:σ->α->σ×Bool}{a:σ}{d:α}{pre:List α}(b:(au g a pre).2=true)(c:(g (au g a pre).1 d).2=true):au g a (pre++[d])=((g (au g a pre).1 d).1,true):=by
 rw[lR,Zn b];grind
def Ed{J J':bm}(h:J=J'):some (X.res J)=some (X.res J'):=by rw[h]
abbrev K0(σ:Type)(J:σ->bm)(g:σ->ba->σ×Bool)(s0:σ)(Φ:Value->Prop)(D:List ba):Prop:=
 ∀v,Φ v->∀(i:Nat)(x:ba),D[i]?=some x->(au g s0 (D.take i)).2=true->nR prog v [.str x] (.bool (g (au g s0 (D.take i)).1 x).2) (J (au g s0 (D.take i)).1) (J (g (au g s0 (D.take i)).1 x).1)
def OT{σ:Type}{J:σ->bm}{g:σ->ba->σ×Bool}{a:σ}{Φ:Value->Prop}{D pre rest:List ba}{d:ba}(c:K0 σ J g a Φ D)(h:D=pre++d::rest)(b:(au g a pre).2=true):
  ∀v,Φ v->nR prog v [.str d] (.bool (g (au g a pre).1 d).2) (J (au g a pre).1) (J (g (au g a pre).1 d).1):=by
 intro v e;have f:D.take (R pre)=pre:=by grind
 grind
def Gc:Cq prog 297 Lib.indexByte:=fun s c w=>by
 rw[run_callFunc_extern func297 V V V (e:=Extern.BytealgIndexByte.indexByte) V,Lib.run_indexByteString];rfl
def Ge:Cq prog 341 (fun l c=>(Lib.countByte l c:Int)):=fun s c w=>by
 rw[run_callFunc_extern func341 V V V (e:=Extern.BytealgCount.count) V,Lib.run_countString];rfl
def uo{l:ba}{c:UInt8}(b:R l<=100000):Ct prog 249 [.str l,.int .u8 (c.toNat:Int)] (bv (Lib.indexByte l c)):=by
 refine cI func249 O fun{_ _}=>?_
 have a:=xP l c;refine ro 9 O ?_;refine kc (S.FB (n:=Lib.indexByte l c) Gc .none O (zt O) (zt O) (by rw[EE]) (mn _ I)) ?_;refine rr 3 O (kR O O ?_);rfl
def we{l:ba}{c:UInt8}(f:R l<=100000):Ct prog 197 [.str l,.str [c]] (bv (Lib.indexByte l c)):=by
 refine cI func197 O (ro 19 O (RK.bh (t:=19) O (fun a=>?_) (fun a=>?_)))
 ·exfalso;simp at a
 refine rr 7 O (kB O (fun d=>?_) (fun d=>?_))
 ·have e:[c]=l:=by simpa using d
  refine ro 5 O (kR O O ?_);refine cy ?_;rw[←e,mM,Zn rfl]
 refine ro 7 O (kB O (fun b=>?_) (fun b=>?_))
 ·refine ro 4 O (kc (S.fJ (n:=0) fR .none O (zt O) (.af O) O I) (kc (zK (uo (l:=l) (c:=c) f) call249 O) ?_));refine rr 3 O (kR O O ?_);rfl
 exact absurd (show((R ([c]:ba):Nat):Int)=1 from rfl) b
def As{l:ba}{c:UInt8}(a:R l<=100000):Ct prog 295 [.str l,.str [c]] (bv (Lib.indexByte l c)):=by
 refine cI func295 O (ro 9 O (kc (zK (we I) call197 O) ?_));refine rr 3 O (kR O O ?_);rfl
def Gf{l:ba}{c:UInt8}(e:R l<=100000):Ct prog 153 [.str l,.str [c]] (.cf [.str (aL c l).1,.str (aL c l).2.1,.bool (aL c l).2.2]):=by
 refine cI func153 O fun{_ _}=>?_
 have d:=xP l c;refine ro 12 O (kc (zK (we I) call197 O) ?_);refine rr 9 O (kB O (fun a=>?_) (fun a=>?_))
 ·have b:=gI (c:=c) (l:=l) I;refine kO ?_;refine kV (.c (zm O) (.c (zm O) (.c (S.ir (hi:=(Lib.indexByte l c).toNat) (l':=l.take (Lib.indexByte l c).toNat) fR .none O (zt O) (.inl ⟨O,O,O⟩) (.inr ⟨_,_,O,(zt O),I⟩) I I O) (.c (zm O) (.c (zm O) (.c (zm O) (.c (S.dP underlying9 .none O (zt O)) (.c (S.add .none O (zt O) (zt O) (mn _ (by simp;omega)) (mn _ (by simp;omega))) (.c (S.ir (lo:=(Lib.indexByte l c).toNat+1) (l':=l.drop ((Lib.indexByte l c).toNat+1)) fR .none O (zt O) (.inr ⟨_,_,O,(zt O),(by simp;omega)⟩) (.inl ⟨O,O,O⟩) I I (by rw[List.take_length])) (.c (za O) (.c (za O) (.c (zb O) .nil)))))))))))) ?_;refine Ab.D.code (OK.ret (aA.r3 (zo O O) (zo O O) (zo O O) ?_));rw[qt I]
  all_goals rfl
 refine ro 10 O (OK.ret (aA.r3 (zo O O) (zo O O) (zo O O) ?_));rw[oI I]
def str_Cut{l:ba}{c:UInt8}(a:R l<=100000):Ct prog 111 [.str l,.str [c]] (.cf [.str (aL c l).1,.str (aL c l).2.1,.bool (aL c l).2.2]):=by
 refine cI func111 O (ro 11 O (kc (zK (Gf I) call153 O) ?_));refine rr 8 O (OK.ret (aA.r3 (zo O O) (zo O O) (zo O O) ?_));rfl
def Au{l:ba}{c:UInt8}(e:R l<=100000):Ct prog 294 [.str l,.str [c]] (bv (Lib.countByte l c:Int)):=by
 refine cI func294 O fun{_ _}=>?_
 have d:Lib.countByte l c<=R l:=dα;refine ro 13 O (kB O (fun b=>?_) (fun b=>?_))
 ·exfalso;simp at b
 refine ro 10 O (kB O (fun a=>?_) (fun a=>?_))
 ·refine ro 4 O (kc (S.fJ (n:=0) fR .none O (zt O) (.af O) O I) ?_);refine kc (S.FB (n:=(Lib.countByte l c:Int)) Ge .none O (zt O) (zt O) F (mn _ I)) ?_;refine rr 3 O (kR O O ?_);rfl
 exact absurd (show((R ([c]:ba):Nat):Int)=1 from rfl) a
def uq{l:ba}{c:UInt8}(H:R l<=100000):Ct prog 239 [.str l,.str [c],bv 0,bv (-1)] (.sl ((aj c l).map fun s=>[.str s])):=by
 refine cI func239 O fun{_ _}=>?_
 have K:Lib.countByte l c<=R l:=dα;have z:=oa c l;refine kr (kc (S.assign .none O .fW) (rr 9 O (kB O (fun r=>?_) (fun r=>?_))))
 ·exact absurd r C
 refine ro 9 O (kB O (fun q=>?_) (fun q=>?_))
 ·exact absurd q F
 refine ro 9 O (kB O (fun p=>?_) (fun p=>?_))
 ·refine ro 3 O (kc (zK (Au (l:=l) (c:=c) H) call294 O) (Rr 10 O I (kc (S.min2 .none O (zt O) (zt O)) ?_)));refine rr 6 O ?_;refine RK.c (S.make (k:=31) (n:=R (aj c l)) XP (⟨⟨t9,_,V,rfl,fun h=>⟨.str _ C,Zo⟩⟩⟩:IP prog 9 [.str []]) .none O (zt O) (zt O) I I (by unfold maxLen;omega)) ?_;refine Rr 17 O I ?_;refine OK.mP [31] (fun(i:Nat)(rest:ba)=>[(0,.str rest),(1,.str [c]),(2,bv 0),(3,bv ((R (aj c l):Int) - 1)),(9,.own 31 (R (aj c l))),(2031,.arr 1 (((aj c l).take i++List.replicate (R (aj c l) - i) []).map fun s=>[.str s])),(10,bv i)]) (fun i rest=>i<R (aj c l)/\(aj c l).drop i=aj c rest/\R rest<=R l) (fun i rest=>R (aj c l) - i) (0) (l) ⟨by omega,by rw[aα],Zq _⟩ ⟨O,O,O,(yL I),(cw I),(bH (by first|(simp;done)|(simp;omega))),O,Zo⟩ (fun _ _=>O) ?_;rintro i rest ⟨hi,b,G⟩;refine ro 8 O (kB O (fun x=>?_) (fun x=>?_))
  ·have u:R rest<=100000:=by omega
   have J:=xP rest c;refine ro 7 O (kc (zK (As (l:=rest) (c:=c) u) call295 O) (rr 10 O (kB O (fun o=>?_) (fun o=>?_))))
   ·exfalso;rw[split_neg o]at b;have:=rn List.length b;rw[vd,R0]at this;omega
   obtain⟨B,t⟩:=gI (c:=c) (l:=rest) I;have a:=np hi;rw[b,t]at a;obtain⟨d,g⟩:(aj c l)[i]=rest.take (Lib.indexByte rest c).toNat/\(aj c l).drop (i+1)=aj c (rest.drop ((Lib.indexByte rest c).toNat+1)):=by
    rw[v6]at a;exact⟨a.1.symm,a.2.symm⟩
   refine Ro 10 O I ?_;refine kc (S.ir (hi:=(Lib.indexByte rest c).toNat) (l':=rest.take (Lib.indexByte rest c).toNat) fR .none O (zt O) (.inl ⟨O,O,O⟩) (.inr ⟨_,_,O,(zt O),I⟩) I I O) ?_;refine kc (S.tO (i:=i) Z2 .none O (zt O) O (by simp;omega) (zt O) O hi) ?_;refine RK.c (S.yS (i:=i) Y9 O .none (zt O) (zt O) O (by simp;omega) O hi O O (show _=((aj c l).take (i+1)++List.replicate (R (aj c l) - (i+1)) []).map (fun s=>[X.str s])from s6 hi d)) ?_;refine rr 8 O ?_;refine kc (S.add .none O (zt O) (zt O) (mn _ (by simp;omega)) (mn _ (by simp;omega))) ?_;refine kc (S.ir (lo:=(Lib.indexByte rest c).toNat+1) (l':=rest.drop ((Lib.indexByte rest c).toNat+1)) fR .none O (zt O) (.inr ⟨_,_,O,(zt O),(by simp;omega)⟩) (.inl ⟨O,O,O⟩) I I (by rw[List.take_length])) ?_;refine Rr 9 O I ?_;refine Ab.D.lp ⟨i+1,rest.drop ((Lib.indexByte rest c).toNat+1),⟨by omega,g,by rw[vd];omega⟩,I,O,O,O,O,O,O,O,Zo⟩
  have f:i+1=R (aj c l):=by omega
  have a:=np hi;have w:(aj c l).drop (i+1)=[]:=ut I;rw[w,b]at a;have e:aj c rest=[rest]:=by
   by_cases y:Lib.indexByte rest c<0
   ·exact split_neg y
   exfalso;rw[(gI y).2]at a;exact gr _ _ (List.cons.inj a).2
  rw[e,v6]at a;have d:(aj c l)[i]=rest:=a.1.symm;refine ro 7 O ?_;refine kc (S.tO (i:=i) Z2 .none O (zt O) O (by simp;omega) (zt O) O hi) ?_;refine RK.c (S.yS (i:=i) Y9 O .none (zt O) (zt O) O (by simp;omega) O hi O O (show _=(aj c l).map (fun s=>[X.str s])by rw[s6 hi d,f,List.take_length,dδ,List.replicate_zero,i8])) ?_;refine rr 3 O ?_;refine OK.freeze 9 O O O F ?_;refine Ro 4 O I ?_;refine kc (S.slice (hi:=i+1) (l':=aj c l) Z2 (fun _=>O) .none O (zt O) (.inl ⟨O,O,O⟩) (.inr ⟨_,_,O,(zt O),I⟩) I I (by rw[f,List.take_length,aα])) ?_;refine rr 3 O (kR O O ?_);rfl
 exact absurd C p
def sY{l:ba}{c:UInt8}(a:R l<=100000):Ct prog 186 [.str l,.str [c]] (.sl ((aj c l).map fun s=>[.str s])):=by
 refine cI func186 O (kr (kc (S.assign .none O .fW) (rr 6 O (kc (zK (uq I) call239 O) ?_))));refine rr 3 O (kR O O ?_);rfl
def TS{l:ba}{c:UInt8}:Ht prog 353 [.str l,.str [c],bv 0] 376 [[.str [c]],[.str l],[bv 0]]:=by
 refine Ht.intro (kb:=[(4,[.str [c]]),(3,[.str l]),(5,[bv 0])]) func353 rfl ntmps353 results353 rfl rfl rfl F fun w h=>?_
 refine ro 5 O (kc (S.assign .none O .lq) (rr 4 O (kc (S.Pq .none O (zt O) (zt O) (zt O) O O O) (rr 3 O ?_))));exact OK.ret ⟨.inl rfl,rfl,rfl,⟨rfl,rfl,rfl,Zo⟩,rfl⟩
def Xk{l:ba}{c:UInt8}:Ht prog 307 [.str l,.str [c]] 376 [[.str [c]],[.str l],[bv 0]]:=by
 refine Ht.intro (kb:=[(871,[.str [c]]),(872,[.str l]),(873,[bv 0])]) func307 rfl ntmps307 results307 rfl rfl rfl F fun w h=>?_
 refine kr (kc (S.assign .none O .lq) (rr 6 O (RK.c (S.Hv [871,872,873] (TS (l:=l) (c:=c)) call353 .none O (zc O (zc O (zD O))) O) (rr 3 O ?_))));exact OK.ret ⟨.inl rfl,rfl,rfl,⟨rfl,rfl,rfl,Zo⟩,rfl⟩
def UK{l:ba}{c:UInt8}(B:R l<=100000){σ:Type}(J:σ->bm)(g:σ->ba->σ×Bool)(e:σ)(Φ:Value->Prop)(n:∀s,aZ (J s))(o:K0 σ J g e Φ (aj c l)):dF prog 376 [871,872,873] [.cb Φ,.ptr 871 0,.ptr 872 0,.ptr 873 0] [(3000,.res (J e)),(1871,.box [.str [c]]),(1872,.box [.str l]),(1873,.box [.int .i64 0])] [(3000,.res (J (au g e (aj c l)).1))] (.cf []):=by
 refine cG func376 O (ro 8 O (kB O (fun q=>?_) (fun q=>?_)))
 ·exfalso;simp at q
 refine ro 4 O ?_;refine OK.mP [871,872,873] (fun(rest:ba)(a:List ba)=>[(0,.cb Φ),(1,.ptr 871 0),(2,.ptr 872 0),(3,.ptr 873 0),(1871,.box [.str [c]]),(1872,.box [.str rest]),(1873,.box [bv 0]),(3000,.res (J (au g e a).1))]) (fun rest a=>(au g e a).2=true/\aj c l=a++aj c rest/\R rest<=R l) (fun rest a=>R rest) (l) ([]) ⟨O,O,Zq _⟩ ⟨O,O,O,O,O,O,O,O,Zo⟩ (fun _ _=>O) ?_;rintro rest a ⟨b,w,y⟩;have t:R rest<=100000:=I
 have z:=xP rest c;refine ro 5 O (kc (zK (As (l:=rest) (c:=c) t) call295 O) (rr 10 O (kB O (fun u=>?_) (fun u=>?_))))
 ·have p:aj c l=a++[rest]:=by rw[w,split_neg I]
  refine ro 5 O ?_;refine kc (S.tQ (J1:=J (g (au g e a).1 rest).1) (OT o p b) (n _) .none O (zt O) (zc O .nil) O O) (RK.nil ?_);exact⟨⟨.inr rfl,[],Zo,rfl⟩,Ed (by rw[p,lR,Zn b]),Zo⟩
 obtain⟨x,r⟩:=gI (c:=c) (l:=rest) I;have h:aj c l=a++rest.take (Lib.indexByte rest c).toNat::aj c (rest.drop ((Lib.indexByte rest c).toNat+1)):=by rw[w,r]
 refine Ro 8 O I ?_;refine kc (S.ir (hi:=(Lib.indexByte rest c).toNat) (l':=rest.take (Lib.indexByte rest c).toNat) fR .none O (zt O) (.inl ⟨O,O,O⟩) (.inr ⟨_,_,O,(zt O),I⟩) I I O) ?_;refine rr 8 O ?_;refine kc (S.tQ (J1:=J (g (au g e a).1 (rest.take (Lib.indexByte rest c).toNat)).1) (OT o h b) (n _) .none O (zt O) (zc O .nil) O O) (kc (S.not .none O (zt O)) (kD (OK.cond O O (fun k=>?_) (fun k=>?_))))
 ·have f:(g (au g e a).1 (rest.take (Lib.indexByte rest c).toNat)).2=false:=by simpa using k
  exact OK.ret ⟨⟨.inl rfl,[],Zo,rfl⟩,Ed (by rw[h,EF b f]),Zo⟩
 have d:(g (au g e a).1 (rest.take (Lib.indexByte rest c).toNat)).2=true:=by simpa using k
 refine ro 7 O ?_;refine kc (S.add .none O (zt O) (zt O) (mn _ (by simp;omega)) (mn _ (by simp;omega))) ?_;refine kc (S.ir (lo:=(Lib.indexByte rest c).toNat+1) (l':=rest.drop ((Lib.indexByte rest c).toNat+1)) fR .none O (zt O) (.inr ⟨_,_,O,(zt O),(by simp;omega)⟩) (.inl ⟨O,O,O⟩) I I (by rw[List.take_length])) ?_;refine rr 3 O ?_;refine Ab.D.lp ⟨rest.drop ((Lib.indexByte rest c).toNat+1),a++[rest.take (Lib.indexByte rest c).toNat],⟨by rw[FA b d],by rw[h];simp,by rw[vd];omega⟩,(by rw[vd];omega),O,O,O,O,O,O,O,(Ed (by rw[FA b d])),Zo⟩
def Uw{l:ba}{c:UInt8}(e:R l<=100000):x8 prog 376 [(871,[.str [c]]),(872,[.str l]),(873,[bv 0])] [.ptr 871 0,.ptr 872 0,.ptr 873 0] (fun s=>[.str s]) (aj c l):=
 fun J g d Φ a b=>UK e J g d Φ a b
end Go.Proofs.Z9
namespace Go.Proofs.Z9
open Go.Ab Tryz
def ax.jO(H:ax)(i:Nat):ax:={H with parts:=H.parts.modify i fun q=>(q.1,q.2++[H.entries])}
def ax.eC(H:ax)(i:Nat)(f:Part->Part):ax:={H with parts:=H.parts.modify i fun q=>(f q.1,q.2)}
def ax.p(H:ax)(i:Nat):Part:=(H.parts[i]?.map (·.1)).getD ⟨0,[],0,[],[],0,false,0,false,Span.zero⟩
section
variable{A:HA}{m:Int}{i j:Nat}
def HA.ID(A:HA):A.mem .bn=some (A.b,.box A.cs):=rfl
def HA.dm{v:aB}(h:A.parts[i]?=some v):A.mem (.p i)=some (v.b,.box v.cs):=by show(A.parts[i]?.map _)=_;rw[h];rfl
def HA.xQ{v:fk}(h:A.aC[i]?=some v):A.mem (.c i)=some (v.b,.box v.cs):=by show(A.aC[i]?.map _)=_;rw[h];rfl
def HA.Cz{v:jT}(h:A.aU[i]?=some v):A.mem (.v i)=some (v.b,.box v.cs):=by show(A.aU[i]?.map _)=_;rw[h];rfl
def HA.Ok.IE(a:A.Ok m){v:aB}(h:A.parts[i]?=some v):fA A.mem (.f i) (v.fh.v (R v.p.frames)) 2 (v.p.frames.map Frame.cs):=
 nN (by show(A.parts[i]?.bind _)=_;rw[h];rfl) (Zx ..) fun e=>by rw[a.fh _ (mr h) e];rfl
def HA.Ok.IG(a:A.Ok m){v:aB}(h:A.parts[i]?=some v):mG A.mem (.e i) (v.eh.v (R v.es)) 1 (bM v.es):=
 Bx (by show(A.parts[i]?.bind _)=_;rw[h];rfl) (Zx ..) fun e=>by rw[a.eh _ (mr h) e];rfl
def HA.Bt{v:aB}(h:A.parts[i]?=some v):A.pb i=v.b:=by rw[HA.pb,h];rfl
def HA.cb?{v:fk}(h:A.aC[i]?=some v):A.cb i=v.b:=by rw[HA.cb,h];rfl
def HA.IB{v:jT}(h:A.aU[i]?=some v):A.vb i=v.b:=by rw[HA.vb,h];rfl
def HA.I1{v:aB}(h:A.parts[i]?=some v):A.mem (.p i)=some (A.pb i,.box v.cs):=by rw[HA.Bt h];exact HA.dm h
def HA.I2{v:jT}(h:A.aU[i]?=some v):A.mem (.v i)=some (A.vb i,.box v.cs):=by rw[HA.IB h];exact HA.Cz h
theorem HA.mb{v:aB}(h:A.parts[i]?=some v):A.plain.p i=v.p:=by show((A.parts.map _)[i]?.map _).getD _=_;simp_all
def gd{f:Nat->Nat}{o:Option Nat}{b:Nat}(h:o=some i)(a:f i=b):rW f o=pV b:=by subst h;subst a;rfl
def Pu{f:Nat->Nat}{o:Option Nat}(h:o=none):rW f o=.pointer none:=by subst h;rfl
def gU{α:Type}{l:List α}{x:α}(h:l[i]?=some x):i<R l:=by grind
def kA{α:Type}{l:List α}{x y:α}(h:l[i]?=some x):(l.set i y)[i]?=some y:=by grind
def cR{α:Type}{l:List α}{x:α}(h:l[i]?=some x)(f:α->α):l.modify i f=l.set i (f x):=by
 refine P2 fun k=>?_
 grind
def bw{α:Type}{l:List α}{x:α}(h:l[i]?=some x):l.set i x=l:=by
 refine P2 fun k=>?_
 grind
def HA.dh{v:aB}(h:A.parts[i]?=some v):A.plain.parts[i]?=some (v.p,v.es):=by show(A.parts.map _)[i]?=_;simp_all
def ax.pZ{H:ax}{p:Part}{es:bd}(h:H.parts[i]?=some (p,es))(f:Part->Part):H.eC i (fun _=>f p)=H.eC i f:=by
 simp_all[ax.eC,cR]
def HA.mj{v w:aB}(h:A.parts[i]?=some v):(A.eC i w).plain={A.plain with parts:=A.plain.parts.set i (w.p,w.es)}:=by
 show ax.mk _ _ _ _ ((A.parts.set i w).map _) _ _ _ _ _=ax.mk _ _ _ _ ((A.parts.map _).set i _) _ _ _ _ _;rw[bτ];rfl
def HA.setP_ok{v w:aB}{m':Int}(d:A.Ok m)(h:A.parts[i]?=some v)(n:m<=m')(u:m'<=1000)(r:w.fh=none->w.p.frames=[])(t:w.eh=none->w.es=[])(g:(R w.p.frames:Int)<=m')(hle:(R w.es:Int)<=m'+3)(c:0<=w.p.place/\w.p.place<=4)(f:R w.p.oF<=12/\R w.p.coil<=12):(A.eC i w).Ok m':=by
 have a:=d.more n u;have b:∀{q:aB->Prop},q w->(∀v∈A.parts,q v)->∀v∈(A.eC i w).parts,q v:=fun x y v l=>by
  rcases aξ l with l|rfl
  all_goals simp_all
 refine⟨a.vh,a.ch,fun e=>?_,a.mh,b r a.fh,b t a.eh,a.m0,a.en,a.lv,a.lc,?_,a.lm,b g a.lf,b hle a.le,fun k o=>?_,a.cl,a.vb,b c a.pl,b f a.nl,a.vn,a.cn⟩
 ·show A.parts.set i w=[];rw[a.ph e];rfl
 ·show(R (A.parts.set i w):Int)<=m';rw[wi];exact a.lp
 show k<R (A.parts.set i w);rw[wi];exact a.mi k o
end
section
variable{E:Env}{U:bc}{s:St}{code:Code}{Q:bo}{A:HA}{m:Int}{i:Nat}{v:aB}
def OK.x7{w:aB}{M:HM Key}(g:A.Ok m)(c:A.parts[i]?=some v)(n:Ab.look s 3000=some (.res (aa M)))(x:w.b=v.b)(d:M (.p i)=some (w.b,.box w.cs))(r:M (.f i)=w.fh.map fun q=>(q.1,.gM 2 q.2 (w.p.frames.map Frame.cs)))(t:M (.e i)=w.eh.map fun q=>(q.1,.row 1 q.2 (bM w.es)))
  (l:∀k,k≠.p i->k≠.f i->k≠.e i->M k=A.mem k) (h:(A.eC i w).pb=A.pb->OK E code Q U ((3000,.res (aa (A.eC i w).mem))::s)):OK E code Q U s:=by
 have hi:=gU c;have a:w.b=A.parts[i].b:=by simp_all
 exact OK.bU n (aa.az _) (fun h Y u o=>o.less (HA.BA hi a d r t l)) (h (A.yC hi a))
structure HA.uQ(A A1:HA)(i:Nat)(w:aB)(H:ax)(m:Int):Prop where
 ok:A1.Ok m
 b:A1.b=A.b
 pb:A1.pb=A.pb
 len:A1.parts.length=A.parts.length
 at_:A1.parts[i]?=some w
 plain:A1.plain=H
def HA.FI(a:A.parts[i]?=some v):A.mem (.f i)=v.fh.map fun q=>(q.1,.gM 2 q.2 (v.p.frames.map Frame.cs)):=by show(A.parts[i]?.bind _)=_;rw[a];rfl
def HA.CA(a:A.parts[i]?=some v):A.mem (.e i)=v.eh.map fun q=>(q.1,.row 1 q.2 (bM v.es)):=by show(A.parts[i]?.bind _)=_;rw[a];rfl
def OK.y9(d:Part)(a:A.Ok m)(f:A.parts[i]?=some v)(r:Ab.look s 3000=some (.res (aa (A.mem.set (.p i) (some (v.b,.box ({v with p:=d}:aB).cs))))))(g:d.frames=v.p.frames)(l:0<=d.place/\d.place<=4)
  (h:∀q:HA,A.uQ q i {v with p:=d} (A.plain.eC i fun _=>d) m->OK E code Q U ((3000,.res (aa q.mem))::s)) (o:d.oF=v.p.oF/\d.coil=v.p.coil:=by exact⟨rfl,rfl⟩):OK E code Q U s:=by
 have c:=mr f;refine OK.x7 (w:={v with p:=d}) a f r O (HM.bw ..) ?_ ?_ (fun k t _ _=>HM.ai _ _ t) fun n=>h _ ⟨?_,O,n,wi ..,kA f,?_⟩
 ·simp_all[HM.ai,HA.FI]
 ·simp_all[HM.ai,HA.CA]
 ·exact HA.setP_ok a f (Int.le_refl _) a.m0.2 (fun e=>by rw[g];exact a.fh v c e) (a.eh v c) (by rw[g];exact a.lf v c) (a.le v c) l (by show R d.oF<=12/\R d.coil<=12;rw[o.1,o.2];exact a.nl v c)
 rw[HA.mj f,ax.eC,cR (HA.dh f)]
def ni(v:aB)(q:Nat×Nat)(n:Int):v.p.cells (.raw (v.fh.v (R v.p.frames)))++[.raw (.slice (some ⟨q.1,0,none⟩) (R (bM v.es)+1) q.2)]=({v with eh:=some q,es:=v.es++[n]}:aB).cs:=by
 simp[aB.cs,Hd.v,bM]
def OK.ze(q:Nat×Nat)(n:Int)(c:A.Ok m)(o:m+1<=1000)(d:A.parts[i]?=some v)(r:Ab.look s 3000=some (.res (aa ((A.mem.set (.e i) (some (q.1,.row 1 q.2 (bM v.es++[[bv n]])))).set (.p i) (some (v.b,.box ({v with eh:=some q,es:=v.es++[n]}:aB).cs))))))
  (l:n=A.entries) (h:∀g:HA,A.uQ g i {v with eh:=some q,es:=v.es++[n]} (A.plain.jO i) (m+1)->OK E code Q U ((3000,.res (aa g.mem))::s)):OK E code Q U s:=by
 have a:=mr d;refine OK.x7 (w:={v with eh:=some q,es:=v.es++[n]}) c d r O (HM.bw ..) ?_ ?_ (fun k u _ t=>by simp_all[HM.ai]) fun f=>h _ ⟨?_,O,f,wi ..,kA d,?_⟩
 ·simp_all[HM.ai,HA.FI]
 ·simp[HM.ai,HM.bw]
 ·refine HA.setP_ok c d I o (c.fh v a) Z (by have:=c.lf v a;grind) ?_ (c.pl v a) (c.nl v a);have:=c.le v a;grind
 subst l;rw[HA.mj d,ax.jO,cR (HA.dh d)];rfl
def CT(v:aB)(q:Nat×Nat)(f:Frame):({v.p with frames:=v.p.frames++[f]}:Part).cells (.raw (.slice (some ⟨q.1,0,none⟩) (R (v.p.frames.map Frame.cs)+1) q.2))++[.raw (v.eh.v (R v.es))]=({v with fh:=some q,p:={v.p with frames:=v.p.frames++[f]}}:aB).cs:=by
 simp[aB.cs,Hd.v]
def OK.HU(q:Nat×Nat)(f:Frame)(c:A.Ok m)(l:m+1<=1000)(d:A.parts[i]?=some v)(n:Ab.look s 3000=some (.res (aa ((A.mem.set (.f i) (some (q.1,.gM 2 q.2 (v.p.frames.map Frame.cs++[f.cs])))).set (.p i) (some (v.b,.box ({v with fh:=some q,p:={v.p with frames:=v.p.frames++[f]}}:aB).cs))))))
  (h:∀g:HA,A.uQ g i {v with fh:=some q,p:={v.p with frames:=v.p.frames++[f]}} (A.plain.eC i fun p=>{p with frames:=p.frames++[f]}) (m+1)->OK E code Q U ((3000,.res (aa g.mem))::s)):OK E code Q U s:=by
 have a:=mr d;refine OK.x7 (w:={v with fh:=some q,p:={v.p with frames:=v.p.frames++[f]}}) c d n O (HM.bw ..) ?_ ?_ (fun k r o _=>by simp_all[HM.ai]) fun e=>h _ ⟨?_,O,e,wi ..,kA d,?_⟩
 ·simp[HM.ai,HM.bw]
 ·simp_all[HM.ai,HA.CA]
 ·refine HA.setP_ok c d I l Z (c.eh v a) ?_ (by have:=c.le v a;grind) (c.pl v a) (c.nl v a);have:=c.lf v a;simp_all
 rw[HA.mj d,ax.eC,cR (HA.dh d)]
def HA.uQ.jp{A A1:HA}{w:aB}{H d:ax}{m':Int}(h:A.uQ A1 i w H m)(f:m<=m')(k:m'<=1000)(e:H=d){a:Mem}{Y:Nat->Prop}{c:World}(g:aa A1.mem a Y c):JP A d m' a Y c:=⟨A1,⟨h.ok.more f k,h.b,h.pb,h.len,h.plain.trans e⟩,g⟩
def HA.jp{H:ax}{m':Int}(a:A.Ok m)(d:m<=m')(g:m'<=1000)(e:H=A.plain){b:Mem}{Y:Nat->Prop}{c:World}(f:aa A.mem b Y c):JP A H m' b Y c:=⟨A,⟨a.more d g,rfl,rfl,rfl,e.symm⟩,f⟩
def HA.jx{H:ax}{m':Int}(a:A.Ok m)(f:m<=m')(h:m'<=1000)(e:H=A.plain){c:Mem}{Y:Nat->Prop}{d:World}(g:aa A.mem c Y d):JX A.b H m' c Y d:=⟨A,⟨rfl,e.symm,a.more f h⟩,g⟩
def jM{A1:HA}{b:Nat}{H:ax}{m':Int}(a:A1.Ok m)(f:m<=m')(k:m'<=1000)(h:A1.b=b)(e:A1.plain=H){c:Mem}{Y:Nat->Prop}{d:World}(g:aa A1.mem c Y d):JX b H m' c Y d:=⟨A1,⟨h,e,a.more f k⟩,g⟩
end
def dG{α:Type}(g:α->Bool)(l:List α):Option Nat:=(ix g l.reverse).map fun j=>R l - 1 - j
def gD{α:Type}(g:α->Bool)(l:List α)(q:Option Nat)(i:Nat):Option Nat×Option Code:=if(l[i]?.map g).getD false then(some i,some .ret)else(q,none)
def Gw{α:Type}{g:α->Bool}{l:List α}{q:Option Nat}{i:Nat}{x:α}(h:l[i]?=some x)(a:g x=true):gD g l q i=(some i,some .ret):=by simp_all[gD]
def Gx{α:Type}{g:α->Bool}{l:List α}{q:Option Nat}{i:Nat}{x:α}(h:l[i]?=some x)(a:¬g x=true):gD g l q i=(q,none):=by simp_all[gD]
def back_eq{α:Type}(g:α->Bool)(l:List α):∀L:bc,au (Ab.stepG (gD g l)) ((none:Option Nat),none) L=match L.find? (fun i=>(l[i]?.map g).getD false)with|some i=>((some i,some .ret),false)|none=>((none,none),true)
 |[]=>rfl
 |i::L=>by
  rw[au,eβ];cases a:(l[i]?.map g).getD false with
  |true=>
   simp_all[gD,Ab.stepG]
  |false=>
   have e:gD g l none i=(none,none):=by simp_all[gD]
   simp only[Ab.stepG,e,Option.isNone_none,if_true];exact back_eq g l L
def tu{α:Type}(g:α->Bool):∀(l:List α)(k:Nat),iR g k l=((List.range (R l)).find? (fun i=>(l[i]?.map g).getD false)).map (· +k)
 |[],_=>rfl
 |x::l,k=>by
  rw[iR,tt,List.range_succ_eq_map,eβ];cases a:g x with
  |true=>simp[a]
  |false=>
   simp only[List.getElem?_cons_zero,cφ,Option.getD_some,a,bξ,if_false,List.find?_map];rw[tu g l (k+1)];have e:((fun i=>((x::l)[i]?.map g).getD false)∘Nat.succ)=fun i=>(l[i]?.map g).getD false:=by rfl
   rw[e];cases (List.range (R l)).find? (fun i=>(l[i]?.map g).getD false)<;>grind
def tv{α:Type}(g:α->Bool)(l:List α):dG g l=(List.range (R l)).reverse.find? (fun i=>(l[i]?.map g).getD false):=by
 have a:(List.range (R l)).reverse=(List.range (R l)).map fun i=>R l - 1 - i:=by
  refine P2 fun k=>?_
  grind
 unfold dG ix;rw[tu,List.length_reverse,a,List.find?_map,Option.map_map];have e:(List.range (R l)).find? (fun i=>(l.reverse[i]?.map g).getD false)=(List.range (R l)).find? ((fun i=>(l[i]?.map g).getD false)∘fun i=>R l - 1 - i):=by
  have key:∀L:bc,(∀i∈L,i<R l)->L.find? (fun i=>(l.reverse[i]?.map g).getD false)=L.find? ((fun i=>(l[i]?.map g).getD false)∘fun i=>R l - 1 - i):=by
   intro L
   induction L<;>grind
  simp_all
 rw[e];rfl
def AE{α:Type}{g:α->Bool}{l:List α}{q:Option Nat}(h:au (Ab.stepG (gD g l)) ((none:Option Nat),none) (List.range (R l)).reverse=((q,none),true)):q=none/\dG g l=none:=by
 rw[back_eq,←tv]at h;grind
def AF{α:Type}{g:α->Bool}{l:List α}{q:Option Nat}{a:Code}(h:(au (Ab.stepG (gD g l)) ((none:Option Nat),none) (List.range (R l)).reverse).1=(q,some a)):q=dG g l/\a=.ret:=by
 rw[back_eq,←tv]at h;grind
def FJ{n k:Nat}(b:1<=k)(a:k<=n):(List.range n).reverse[n - k]?=some (k - 1):=by
 grind
theorem zh{n k:Nat}(d:1<=k)(c:k<=n):(List.range n).reverse.take (n - (k - 1))=(List.range n).reverse.take (n - k)++[k - 1]:=by
 obtain⟨b,a⟩:=sT.1 (FJ d c);rw[show n - (k - 1)=n - k+1 by omega,mv b,a]
def CU{n k:Nat}(b:1<=k)(a:k<=n):∃rest,(List.range n).reverse=(List.range n).reverse.take (n - k)++(k - 1)::rest:=by
 have h:=(a7 (n - (k - 1)) (List.range n).reverse).symm;grind [zh]
def uR{α β:Type}(f:α->β)(o:Option α):(!(o.map f).isNone)=o.isSome:=F
def nj{α:Type}(o:Option α):(!o.isNone)=o.isSome:=F
def r8{α β:Type}(f:α->β)(o:Option α):(o.map f).isNone=o.isNone:=F
def je{α β:Type}{f:α->β}{o:Option α}(h:(o.map f).isNone=false):∃i,o=some i:=by cases o<;>grind
def ku{α β:Type}{f:α->β}{o:Option α}(h:(o.map f).isNone=true):o=none:=by simp_all
def at_of_lt{α:Type}{l:List α}{i:Nat}(h:i<R l):∃x,l[i]?=some x:=by simp_all
def AG:∀(l:List Row),(!decide (0<=bq (fun r=>!r.known) 0 l))=l.all fun r=>r.known:=by
 have key:∀(l:List Row)(k:Nat),(!decide (0<=bq (fun r=>!r.known) k l))=l.all fun r=>r.known:=by
  intro l
  induction l with
  |nil=>intro k;rfl
  |cons r l a=>
   grind [bq]
 simp_all
def sU(n:Int)(o:Bool):Int:=aF [ae (decide (0<=n/\n<=1000000)) 2,ae o 6]
def oc(g:Part->Bool)(l:List aB):bd:=(l.filter fun v=>g v.p).map fun v=>v.p.num
def Gy{g:Part->Bool}{l:List aB}{i:Nat}(h:i<R l)(a:g l[i].p=true):oc g (l.take (i+1))=oc g (l.take i)++[l[i].p.num]:=by
 grind [oc,List.take_succ_eq_append_getElem]
def Gz{g:Part->Bool}{l:List aB}{i:Nat}(h:i<R l)(a:g l[i].p=false):oc g (l.take (i+1))=oc g (l.take i):=by
 grind [oc,List.take_succ_eq_append_getElem]
def CV{U:bc}{caps:bi}(h:caps.all (mE [])=true):caps.all (mE U)=true:=by
 rw[rm]at h⊢;intro x a;have:=h x a;cases x<;>simp_all[mE]
def wu(g:Part->Bool)(l:List aB):R (oc g l)<=R l:=by
 simp[oc,cσ]
def xT{A:HA}{i:Nat}{v:aB}(a:A.parts[i]?=some v){J:bm}(e:aZ J)(c:∀h Y w,J h Y w->aa A.mem h Y w):dF prog 129 [] [.raw (pV v.b)] [(3000,.res J)] [(3000,.res J)] (.bool (gE v.p)):=by
 refine cG func129 O (ro 11 O ?_);refine kc (zH Z8 O (td c (aa.dQ (k:=.p i) (HA.dm a) O (.same _)))) ?_;refine rr 2 O (RK.bh (t:=9) O (fun d=>?_) (fun d=>?_))
 ·refine rr 10 O (OK.ret ⟨aA.r1 (zo O O) ?_,O,Zo⟩);simp[gE, *]
 refine rr 4 O ?_;refine kc (S.aG Z8 (zg O O) O (zt O) O (td c (aa.dQ (k:=.p i) (HA.dm a) O (.same _)))) ?_;refine rr 5 O (OK.ret ⟨aA.r1 (zo O O) ?_,O,Zo⟩);simp[gE, *]
def uS{A:HA}{i:Nat}{v:aB}(a:A.parts[i]?=some v){J:bm}(g:aZ J)(c:∀h Y w,J h Y w->aa A.mem h Y w):dF prog 63 [] [.raw (pV v.b)] [(3000,.res J)] [(3000,.res J)] (.bool (Ac v.p)):=by
 refine cG func63 O (ro 11 O ?_);refine kc (zH Z8 O (td c (aa.dQ (k:=.p i) (HA.dm a) O (.same _)))) ?_;refine rr 2 O (RK.bh (t:=9) O (fun f=>?_) (fun f=>?_))
 ·refine rr 4 O ?_;refine kc (S.aG SP (zg O O) O (zt O) O (td c (aa.dQ (k:=.p i) (HA.dm a) O (.same _)))) ?_;refine rr 2 O (RK.split (t:=16) O (fun e=>?_) (fun e=>?_))
  ·refine rr 4 O ?_;refine kc (S.aG Z8 (zg O O) O (zt O) O (td c (aa.dQ (k:=.p i) (HA.dm a) O (.same _)))) ?_;refine rr 3 O (RK.bh (t:=24) O (fun d=>?_) (fun d=>?_))
   ·refine rr 4 O ?_;refine kc (S.aG SP (zg O O) O (zt O) O (td c (aa.dQ (k:=.p i) (HA.dm a) O (.same _)))) (kc (S.not (zg O O) O (zt O)) ?_);refine rr 4 O (OK.ret ⟨aA.r1 (zo O O) ?_,O,Zo⟩);simp[Ac, *]
   refine rr 10 O (OK.ret ⟨aA.r1 (zo O O) ?_,O,Zo⟩);simp[Ac, *]
  refine rr 18 O (OK.ret ⟨aA.r1 (zo O O) ?_,O,Zo⟩);simp[Ac, *]
 refine rr 25 O (OK.ret ⟨aA.r1 (zo O O) ?_,O,Zo⟩);simp[Ac, *]
def uT{l:List jT}:Ht prog 184 [.sl (l.map jU)] 238 [[.sl (l.map jU)]]:=by
 refine Ht.intro (kb:=[(1,[.sl (l.map jU)])]) func184 rfl ntmps184 results184 rfl rfl rfl F fun w h=>?_
 refine ro 3 O (kc (S.assign .none O .lq) (rr 4 O (kc (S.dx .none O (zt O) O) (rr 3 O ?_))));exact OK.ret ⟨.inl rfl,rfl,rfl,⟨rfl,Zo⟩,rfl⟩
def r9{A:HA}(H:(R A.aU:Int)<=1000){σ:Type}(J:σ->bm)(g:σ->Nat->σ×Bool)(a:σ)(Φ:Value->Prop)(t:∀s,aZ (J s))(z:∀v,Φ v->∀(i:Nat)(x:Nat),(List.range (R A.aU)).reverse[i]?=some x->(au g a ((List.range (R A.aU)).reverse.take i)).2=true->nR prog v [.int .i64 x,.raw (pV (A.vb x))] (.bool (g (au g a ((List.range (R A.aU)).reverse.take i)).1 x).2) (J (au g a ((List.range (R A.aU)).reverse.take i)).1) (J (g (au g a ((List.range (R A.aU)).reverse.take i)).1 x).1)):dF prog 238 [874] [.cb Φ,.ptr 874 0] [(3000,.res (J a)),(1874,.box [.sl (A.aU.map jU)])] [(3000,.res (J (au g a (List.range (R A.aU)).reverse).1))] (.cf []):=by
 refine cG func238 O (ro 3 O (kc (zk Qh O) (Rr 5 O I ?_)));refine OK.loop (G:=Nat) [874] (fun k=>[(0,.cb Φ),(1,.ptr 874 0),(1874,.box [.sl (A.aU.map jU)]),(3,bv ((k:Int) - 1)),(3000,.res (J (au g a ((List.range (R A.aU)).reverse.take (R A.aU - k))).1))]) (fun k=>k<=R A.aU/\(au g a ((List.range (R A.aU)).reverse.take (R A.aU - k))).2=true) (fun k=>k) (R A.aU) ⟨Zq _,by rw[dδ];rfl⟩ ⟨O,O,O,O,(Ed (by rw[dδ];rfl)),Zo⟩ (fun _=>O) ?_;rintro k ⟨y,c⟩;refine ro 7 O (kB O (fun K=>?_) (fun K=>?_))
 ·have h:1<=k:=by omega
  have p:k - 1<R A.aU:=by omega
  have o:=zh h y;have B:=FJ h y;have r:=HA.HV p;have w:((k:Nat):Int) - 1=((k - 1:Nat):Int):=by omega
  have q:∀v,Φ v->nR prog v [.int .i64 (((k:Nat):Int) - 1),.raw (pV A.aU[k - 1].b)] (.bool (g (au g a ((List.range (R A.aU)).reverse.take (R A.aU - k))).1 (k - 1)).2) (J (au g a ((List.range (R A.aU)).reverse.take (R A.aU - k))).1) (J (g (au g a ((List.range (R A.aU)).reverse.take (R A.aU - k))).1 (k - 1)).1):=fun v C=>by rw[w,←r];exact z v C _ _ B c
  refine ro 10 O (kc (S.aP (n:=k - 1) Qh .none O (zt O) (zt O) I p O) (kc (zV RM O O) ?_));refine kc (S.tQ (J1:=J (g (au g a ((List.range (R A.aU)).reverse.take (R A.aU - k))).1 (k - 1)).1) (q) (t _) .none O (zt O) (zc O (zc O .nil)) O O) (kc (S.not .none O (zt O)) (kD (OK.cond O O (fun l=>?_) (fun l=>?_))))
  ·have f:(g (au g a ((List.range (R A.aU)).reverse.take (R A.aU - k))).1 (k - 1)).2=false:=by simpa using l
   obtain⟨rest,u⟩:=CU h y;have e:=EF (rest:=rest) c f;rw[←u]at e;exact OK.ret ⟨⟨.inl rfl,[],Zo,rfl⟩,Ed (by rw[e]),Zo⟩
  have d:(g (au g a ((List.range (R A.aU)).reverse.take (R A.aU - k))).1 (k - 1)).2=true:=by simpa using l
  refine Ro 8 O I ?_;refine Ab.D.lp ⟨k - 1,⟨by omega,by rw[o,FA c d]⟩,I,O,O,O,(yL I),(Ed (by rw[o,FA c d])),Zo⟩
 refine OK.exit O ?_;exact⟨⟨.inr rfl,[],Zo,rfl⟩,Ed (by rw[show k=0 by omega,Nat.sub_zero,sg F]),Zo⟩
def wN{A:HA}(b:(R A.aU:Int)<=1000):x8 prog 238 [(874,[.sl (A.aU.map jU)])] [.ptr 874 0] (fun(i:Nat)=>[bv (i:Int),.raw (pV (A.vb i))]) (List.range (R A.aU)).reverse:=
 fun J g d Φ a c=>r9 b J g d Φ a c
def l9{A:HA}{m:Int}(a:A.Ok m){n:ba}{J:bm}(G:aZ J)(p:∀h Y w,J h Y w->aa A.mem h Y w):dF prog 136 [] [.raw (pV A.b),.str n] [(3000,.res J)] [(3000,.res J)] (.raw (rW A.vb (dG (fun v=>decide (v.r.name=n)) A.aU))):=by
 refine cG func136 O (ro 12 O (kc (zH (u:=.sl (A.aU.map jU)) RH O (td p (aa.dQ (k:=.bn) O O (.sl a.vs)))) (RK.c (S.Hv [874] (uT (l:=A.aU)) call184 .none O (zc O .nil) O) (rr 3 O ?_))));refine OK.qX (ps:=[12,13]) (encs:=(fun(i:Nat)=>[bv (i:Int),.raw (pV (A.vb i))])) (L:=(List.range (R A.aU)).reverse) [3,4] [(3,.ptr 3 0),(4,.ptr 4 0)] (fun q=>[(1003,.box [.str n]),(1004,.box [.raw (rW A.vb q)]),(3000,.res J)]) (none:Option Nat) (gD (fun v=>decide (v.r.name=n)) A.aU) [(874,[.sl (A.aU.map jU)])] ((wN (by have:=a.lv;have:=a.m0;omega))) ⟨O,Zo⟩ O call238 (.inl O) (zt O) O ⟨O,O,O,O,O,Zo⟩ (fun _=>O) (fun _=>O) (fun _=>O) (fun _=>O) (fun _=>O) C O ?_ ?_ ?_
 ·rintro i x q t e lr c0 w0 F B z y;have f:x<R A.aU:=by have:=mr t;simpa using this
  obtain⟨v,g⟩:=at_of_lt f;refine OK.bN (ja O (RK.nil ?_));refine⟨rfl,?_⟩;refine OK.block (kO (kV (.c (zm O) (.c (zn O O) (.c (zr Vg O) (.c (zr WW O) (.c (zr PR O) (.c (zH Y9 O (td p (aa.dQ (k:=.v x) (HA.I2 g) O (.same _)))) (.c (zl Y9 O O O O) (.c (S.eN .none O (zt O) (zt O)) .nil)))))))) (Ab.D.code (kB O (fun d=>?_) (fun d=>?_)))))
  ·refine ro 6 O (OK.ret ?_);rw[Gw g (by simpa using d)];exact⟨rfl,rfl,rfl,rfl,Zo⟩
  refine OK.skip (Ab.D.blk ?_);rw[Gx g (by simpa using d)];exact⟨rfl,rfl,rfl,rfl,Zo⟩
 ·rintro q e;obtain⟨rfl,o⟩:=AE e;refine rd 4 O (kc (S.store RM .none (zt O) .lq O O O O O O) (kD (OK.ret ⟨aA.r1 (.wI O O O O RM (.same O) O) ?_,O,Zo⟩)));exact zj o
 rintro q H e;obtain⟨rfl,rfl⟩:=AF e;refine OK.ret ⟨aA.r1 (.wI O O O O RM (.same O) O) ?_,O,Zo⟩;rfl
def mm{A:HA}{m:Int}(a:A.Ok m){i:Nat}{v:aB}(d:A.parts[i]?=some v){J:bm}(f:aZ J)(e:∀h Y w,J h Y w->aa A.mem h Y w):dF prog 205 [] [.raw (pV A.b),.raw (pV v.b)] [(3000,.res J)] [(3000,.res J)] (.agg (fM A.aS v.p.frames).cs):=by
 refine cG func205 O (ro 6 O ?_);refine kV (.c (zm O) (.c (zn O O) (.c (zr Y3 O) (.c (zr VP O) (.c (zJ (us:=A.aS.cs) Xs O (td e (aa.Ej (k:=.bn) (xs:=A.cs) O ⟨.same _,.same _,Zo⟩ O))) (.c (zm O) (.c (zn O O) (.c (zr YP O) (.c (zr Zf O) (.c (zH (u:=.sl (v.p.frames.map Frame.cs)) XO O (td e (aa.dQ (k:=.p i) (HA.dm d) O (.sl (a.IE d))))) (.c (zK uU call259 O) (.c (zm O) (.c (zX O O O) (.c (zX O O O) (.c (zA (c:=5) L0 O) (.c (zS WL O O O O O O) (.c (za O) .nil))))))))))))))))) ?_;refine rd 7 O (OK.ret ⟨aA.r1 (zy O O WL O) ?_,O,Zo⟩);rfl
def uV{r:Row}:Ct prog 261 [.agg r.cs] (.bool (!r.known)):=by
 refine cI func261 O (ro 10 O (kc (S.not .none O (zt O)) (rr 3 O (kR O O ?_))));rfl
def AH{l:List Row}:Ct prog 306 [.sl (l.map Row.cs),.fn 261 []] (bv (bq (fun r=>!r.known) 0 l)):=by
 refine cI func306 O (OK.eW (rows:=l.map Row.cs) (t:=0) O O fun hlen=>?_);rw[Zx]at hlen;unfold maxLen at hlen;refine ro 9 O (kc (zk Za O) (rr 4 O ?_));refine OK.loop (G:=Nat) [] (fun i=>[(0,.sl (l.map Row.cs)),(1,.fn 261 []),(7,bv (R l)),(8,bv i)]) (fun i=>i<=R l/\bq (fun r=>!r.known) 0 l=bq (fun r=>!r.known) i (l.drop i)) (fun i=>R l - i) 0 ⟨Zr _,O⟩ ⟨O,O,O,O,Zo⟩ (fun _=>O) ?_;rintro i ⟨hi,a⟩;refine ro 6 O (kB O (fun d=>?_) (fun d=>?_))
 ·have c:i<R l:=by omega
  refine ro 15 O (kc (zI Za O I O) (kc (S.fG LX .none O (zt O) O O) (kc (S.ij (uV (r:=l[i])) call261 .none O (zt O) (zc O .nil) O O O) (kD (OK.cond O O (fun b=>?_) (fun b=>?_))))))
  ·refine ro 6 O (kR O O ?_);refine cy ?_;rw[a,bT _ I];simp_all
  refine Ro 7 O I (Ab.D.lp ⟨i+1,⟨by omega,?_⟩,I,O,O,O,O,Zo⟩);rw[a,bT _ I];simp_all
 refine ro 7 O (kR O O ?_);refine cy ?_;have:i=R l:=by omega
 subst this;rw[a,no];rfl
def AJ{l:List Row}:Ct prog 260 [.sl (l.map Row.cs),.fn 261 []] (.bool (decide (0<=bq (fun r=>!r.known) 0 l))):=by
 refine cI func260 O (ro 9 O (kc (zK (AH (l:=l)) call306 O) (rr 4 O (kR O O ?_))));rfl
def oT{A:HA}{m:Int}(a:A.Ok m){i:Nat}{v:aB}(e:A.parts[i]?=some v){J:bm}(d:aZ J)(f:∀h Y w,J h Y w->aa A.mem h Y w):dF prog 206 [] [.raw (pV A.b),.raw (pV v.b)] [(3000,.res J)] [(3000,.res J)] (.bool ((fM A.aS v.p.frames).rows.all fun r=>r.known)):=by
 refine cG func206 O (ro 9 O (RK.c (S.ik (((mm a e d f).jR d)) d call205 .none O (zc O (zc O .nil)) O O) ?_));refine kc (S.GA (Tf:=262) ⟨_,_,underlying264,O,O,O⟩ LR .none O (zt O) O O) (kc (S.call (AJ (l:=(fM A.aS v.p.frames).rows)) call260 .none O (zc O (.cons .oL .nil)) O) (kc (S.jP .none O (zt O)) ?_));refine rr 3 O (OK.ret ⟨aA.r1 (zo O O) ?_,O,Zo⟩);refine ew ?_;rw[←AG];exact cδ.2 F
def vT{A:HA}{m:Int}(a:A.Ok m){n:Int}{J:bm}(d:aZ J)(e:∀h Y w,J h Y w->aa A.mem h Y w):dF prog 100 [] [.raw (pV A.b),.int .i64 n] [(3000,.res J)] [(3000,.res J)] (.cf [.raw (rW A.pb (ix (fun v=>decide (v.p.num=n)) A.parts)),.int .i64 (sU n (ix (fun v=>decide (v.p.num=n)) A.parts).isSome)]):=by
 refine cG func100 O (kr (kc (S.assign .none O .lq) (rr 7 O (RK.c (S.ik (((qY a d e).jR d)) d call137 .none O (zc O (zc O .nil)) O O) (rr 7 O (kc (zK cv call97 O) (kc (zK ak call96 O) (jm O (kc (S.ET underlying128 .none O (zt O)) (kc (zK ak call96 O) ?_))))))))));refine RK.c (zM [[_],[_]] Zc O O O O) (kc (S.callL (bF (l:=[_,_])) call76 .none O (zc O .nil) (.cons (.p (.own O O) O) .nil) O) ?_);refine rr 4 O (OK.ret ⟨aA.r2 (zo O O) (zo O O) ?_,O,Zo⟩);simp only[uR];rfl
def wv{A:HA}{m:Int}(d:A.Ok m){J:bm}(y:aZ J)(z:∀h Y w,J h Y w->aa A.mem h Y w){f:Nat}{caps:bi}(l:∀args w,(callFunc f args).run prog w=.ok (.enter f args) w)(o:caps.all (mE [])=true)(r:caps.all (fun u=>!bR u)=true){g:Part->Bool}(F:∀(i:Nat)(v:aB),A.parts[i]?=some v->dF prog f [] (.raw (pV v.b)::caps) [(3000,.res J)] [(3000,.res J)] (.bool (g v.p))):dF prog 67 [] [.raw (pV A.b),.fn f caps] [(3000,.res J)] [(3000,.res J)] (ints (oc g A.parts)):=by
 refine cG func67 O fun{_ _}=>?_
 have C:=d.lp;have B:=d.m0;refine kr (kc (S.assign .none O .fW) (rr 4 O (RK.c (S.iI (k:=5) (sz:=1) .none O) (rr 8 O (kc (zH (u:=.sl (A.parts.map iA)) Yg O (td z (aa.dQ (k:=.bn) O O (.sl d.ps)))) (kc (zk Yy O) (rr 4 O ?_)))))));refine OK.loop (G:=Nat) [5] (fun i=>[(0,.raw (pV A.b)),(1,.fn f caps),(5,.own 5 (R (oc g (A.parts.take i)))),(2005,.arr 1 (bM (oc g (A.parts.take i)))),(11,.sl (A.parts.map iA)),(12,bv (R A.parts)),(13,bv i),(3000,.res J)]) (fun i=>i<=R A.parts) (fun i=>R A.parts - i) 0 (Zr _) ⟨O,O,(cw N),(bH N),O,O,O,O,Zo⟩ (fun _=>rn (fun b=>b&&true) (CV (U:=[5]) o)) ?_;rintro i hi;refine ro 6 O (kB O (fun t=>?_) (fun t=>?_))
 ·have e:i<R A.parts:=by omega
  have x:A.parts[i]?=some A.parts[i]:=Zv e;have q:=wu g (A.parts.take i);rw[sc]at q;refine ro 6 O (kc (zI Yy O I O) ?_);refine rr 8 O ?_;refine RK.c (S.uy (((F i _ x).jR y)) y l .none O (zt O) (zc O .nil) O O o r) ?_;refine kD (OK.cond O O (fun n=>?_) (fun n=>?_))
  ·have a:=Gy e n;refine ro 6 O ?_;refine kc (zH Z8 O (td z (aa.dQ (k:=.p i) (HA.dm x) O (.same _)))) (RK.c (zM [[_]] ZM O O O O) ?_);refine kc (zP ZM O O (by simp[bM]) N I (by simp only[maxLen];omega)) ?_;refine Rr 8 O I ?_;refine Ab.D.lp ⟨i+1,I,I,O,O,(cw (by first|(rw[a];simp;done)|rw[a])),(bH (by first|(rw[a];simp[bM];done)|rw[a])),O,O,O,O,Zo⟩
  have a:=Gz e (by simpa using n);refine Ro 7 O I ?_;refine Ab.D.lp ⟨i+1,I,I,O,O,(cw (by first|(rw[a];simp;done)|rw[a])),(bH (by first|(rw[a];simp[bM];done)|rw[a])),O,O,O,O,Zo⟩
 refine ro 8 O ?_;refine OK.ret ⟨aA.r1 (.tmp O O (.c (.own O O N) O) O) ?_,O,Zo⟩;rw[show i=R A.parts by omega,List.take_length]
 all_goals rfl
end Go.Proofs.Z9
namespace Go.Proofs.Z9
open Go.Ab Tryz
def j4{α β:Type}(f:α->β)(g:β->Bool):∀(l:List α)(i:Nat),iR g i (l.map f)=iR (fun x=>g (f x)) i l
 |[],_=>rfl
 |x::l,i=>by simp only[ta,iR,j4 f g l (i+1)]
def xD{α β:Type}(f:α->β)(g:β->Bool)(l:List α):dG g (l.map f)=dG (fun x=>g (f x)) l:=by
 unfold dG ix;rw[←List.map_reverse,j4,Zx]
def j5{α:Type}{g:α->Bool}{l:List α}{j:Nat}(h:dG g l=some j):∃a:j<R l,g l[j]=true:=by
 unfold dG at h;cases hi:ix g l.reverse with
 |none=>simp_all
 |some i=>
  rw[hi]at h;cases h;obtain⟨c,b⟩:=eE hi;grind
abbrev HE:=ax×Int
def ax.vr(H:ax)(n:Int):Option Nat:=ix (fun q=>decide (q.1.num=n)) H.parts
def ax.Bs(H:ax)(n:ba):Option Nat:=ix (fun q=>decide (q.1.name=n)) H.aC
def ax.Ec(H:ax)(n:ba):Option Nat:=dG (fun q=>decide (q.1.name=n)) H.aU
def ax.xE(H:ax):Option Nat:=ix (fun q=>decide (q.1.place=0)) H.parts
def HA.gG(A:HA)(n:Int):A.plain.vr n=ix (fun v=>decide (v.p.num=n)) A.parts:=j4 (fun v:aB=>(v.p,v.es)) _ _ _
def HA.nU(A:HA)(n:ba):A.plain.Bs n=ix (fun v=>decide (v.c.name=n)) A.aC:=j4 (fun v:fk=>(v.c,v.entry)) _ _ _
def HA.nV(A:HA)(n:ba):A.plain.Ec n=dG (fun v=>decide (v.r.name=n)) A.aU:=xD (fun v:jT=>(v.r,v.entry)) _ _
def HA.nW(A:HA):A.plain.xE=ix (fun v=>decide (v.p.place=0)) A.parts:=j4 (fun v:aB=>(v.p,v.es)) _ _ _
def cK(H:ax)(n:Int)(f:ax->Nat->HE):HE:=match H.vr n with
 |none=>(H,6)
 |some i=>if(f H i).2=0 then((f H i).1.jO i,0)else f H i
def gj(H:ax)(i:Nat):HE:=if Ac (H.p i)then(H.eC i fun p=>{p with place:=2},0)else(H,24)
def Ei(H:ax)(i:Nat):HE:=if(H.p i).place=1 then(H.eC i fun p=>{p with place:=3},0)else(H,20)
def yE(H:ax)(i:Nat):HE:=if gE (H.p i)&&!(H.p i).marked then(H.eC i fun p=>{p with marked:=true},0)else(H,20)
def qj(H:ax)(name:ba)(nM:Int):HE:=
 let e:=aF [ae (bS name) 4,ae (H.Bs name).isNone 5,ae (decide (1<=nM/\nM<=1000)) 2,ae (decide ((R H.aC:Int)<4)) 16]
 if e=0 then({H with aC:=H.aC++[(⟨name,nM,0⟩,H.entries)]},0)else(H,e)
def ax.busy(H:ax)(name:ba):Bool:=match H.xE with
 |some i=>decide ((H.p i).coil=name)
 |none=>false
def tS(H:ax)(name:ba):HE:=match H.Bs name with
 |none=>(H,6)
 |some j=>if H.busy name then(H,17)else({H with aC:=H.aC.modify j fun q=>({q.1 with shots:=0},q.2)},0)
def fT(H:ax)(n:Int)(r c:ba):HE:=
 let e:=aF [ae (decide (n<=1000000)) 2,ae (H.vr n).isNone 5,ae ((H.Ec r).isSome&&(H.Bs c).isSome) 6,ae H.xE.isNone 17]
 if e≠0 then(H,e)else match(H.Ec r).bind (H.aU[·]?),H.Bs c with
 |some v,some j=>match H.aC[j]? with
  |some q=>
   let a:=aF [ae (decide (q.1.shots<q.1.nM)) 22,ae (decide ((R H.parts:Int)<12)) 16]
   if a≠0 then(H,a)else({H with aC:=H.aC.modify j fun q=>({q.1 with shots:=q.1.shots+1},q.2),parts:=H.parts++[(⟨n,v.1.name,v.1.iN,q.1.name,[],0,false,0,false,Span.zero⟩,[v.2,q.2,H.entries])]},0)
  |none=>(H,6)
 |_,_=>(H,6)
