import Derived.Test.YtlmhpcghgjdjjaaGreatDoorWi
set_option linter.all false
open List renaming length->R
namespace Go.Proofs.Z9
open Go.Ab Tryz
set_option maxRecDepth 9999
theorem fX{α:Type}(g:Nat->α->Int):∀(l:List α)(i:Nat),(aK g i l).2=0->∀(j:Nat)(h:j<R l),g (i+j) l[j]=0
 |[],_,_,j,h=>by simp at h
 |x::l,i,he,j,h=>by
  rw[aK]at he;split at he
  ·omega
  rename_i a;cases j with
  |zero=>grind
  |succ j=>
   have:=fX g l (i+1) he j (by grind);grind
def rM:∀(l:List Row)(i:Nat),R (gX i l)=0->∀x∈l,x.known=true
 |[],_,_,x,a=>by cases a
 |y::l,i,h,x,a=>by
  rw[gX]at h;split at h
  ·rename_i b;rcases sf.1 a with rfl|a
   ·exact b
   exact rM l (i+1) h x a
  simp at h
structure yA(p:bC)(l:List aX):Prop where
 rows:∀(k:Nat)(h:k<l.length),(l[k].rows.length:Int)=p.aR
 vals:∀(k:Nat)(h:k<l.length)(i:Nat)(h2:i<l[k].rows.length),l[k].rows[i].values.length=p.aq.length
theorem D5{p:bC}{l:List aX}(h:kU p l=0):yA p l:=by
 unfold kU at h;split at h
 ·omega
 split at h
 ·omega
 have g:=fX _ l 0 h;have key:∀(k:Nat)(h:k<R l),(gB p l[k]).2=0/\R (wB l[k])=0:=by
  grind [jg]
 refine⟨fun k b=>mc (key k b).1,fun k b i hi=>?_⟩;obtain⟨a,e⟩:=key k b;have f:=mc a;unfold gB at a;rw[Zm I]at a;have c:=fX _ _ 0 a i hi;have d:=rM _ 0 e _ (Zt hi);unfold Y5 at c;rw[Zn d]at c;grind [eM]
def col(l:List aX)(t c:Nat):bd:=l.map fun r=>((r.rows.getD t ⟨false,[]⟩).values.getD c 0)
def sorted(l:bd):bd:=l.mergeSort fun x y=>decide (x<=y)
def rN(l:List aX)(trim:Int)(t c:Nat):Range:=⟨(sorted (col l t c)).getD trim.toNat 0,(sorted (col l t c)).getD (R l - 1 - trim.toNat) 0⟩
def D6(p:bC)(l:List aX)(trim:Int)(t:Nat):List Range:=(List.range (R p.aq)).map fun c=>rN l trim t c
def G6(p:bC)(l:List aX)(trim:Int):Envelope:=⟨R l,trim,(List.range p.aR.toNat).map fun t=>D6 p l trim t⟩
def fg(p:bC)(l:List aX)(trim:Int):Int:=if gv p l≠0 then gv p l else eL trim (R l)
def lK(p:bC)(l:List aX)(trim:Int):Envelope:=if fg p l trim=0 then G6 p l trim else⟨0,0,[]⟩
def mA{p:bC}{l:List aX}(h:gv p l=0):bA p=0/\(1<=R l/\R l<=20)/\yA p l:=by
 grind [gv,D5,kU]
def Vx(l:bd):R (sorted l)=R l:=qK l
def qd(l:List aX)(t c:Nat):R (col l t c)=R l:=by simp[col]
def D7{l:List aX}{k t c:Nat}(h:k<R l)(b:t<R l[k].rows)(a:c<R l[k].rows[t].values):col (l.take k) t c++[l[k].rows[t].values[c]]=col (l.take (k+1)) t c:=by
 grind [tF,col]
def zW{l:bd}{i:Nat}(h:i<R l):l.getD i 0=l[i]:=by simp_all
def nI{p:bC}{l:List aX}{trim:Int}(o:bA p=0)(r:1<=R l/\R l<=1000)(hw:yA p l)(q:0<=trim/\2 * trim<=R l - 1):Ct prog 274 [.agg p.cs,.sl (l.map aX.cs),bv trim] (.agg (G6 p l trim).cs):=by
 refine cI func274 O fun{_ _}=>?_
 have m:=jc o;refine ro 9 O (kc (zk Yd O) (jm O (kc (zU JB O O) (rr 14 O (OK.nP 7 2 900 1 O O O O O ?_)))));refine OK.loop (G:=Nat) [3,6,7,900] (fun i=>[(1,.sl (l.map aX.cs)),(2,bv trim),(3,.ptr 3 0),(1003,.box p.cs),(6,.ptr 6 0),(1006,.box [bv 0,bv 0,.bO]),(7,.ptr 7 0),(1007,.box [bv (R l),bv trim,.own 900 i]),(2900,.arr 1 ((List.range i).map (fun t=>[X.sl ((D6 p l trim t).map Range.cs)]))),(20,bv p.aR),(21,bv i)]) (fun i=>(i:Int)<=p.aR) (fun i=>p.aR.toNat - i) 0 I ⟨O,O,O,O,O,O,O,O,(bH N),O,O,Zo⟩ (fun _=>O) ?_;rintro i hi;refine ro 6 O (kB O (fun g=>?_) (fun g=>?_))
 ·refine ro 12 O (RK.c (S.iI (k:=9) (sz:=2) .none O) (rr 8 O (kc (zk Z2 O) (rr 4 O ?_))));refine OK.loop (G:=Nat) [3,6,7,900,9] (fun c=>[(1,.sl (l.map aX.cs)),(2,bv trim),(3,.ptr 3 0),(1003,.box p.cs),(6,.ptr 6 0),(1006,.box [bv 0,bv 0,.bO]),(7,.ptr 7 0),(1007,.box [bv (R l),bv trim,.own 900 i]),(2900,.arr 1 ((List.range i).map (fun t=>[X.sl ((D6 p l trim t).map Range.cs)]))),(20,bv p.aR),(21,bv i),(8,bv i),(9,.own 9 c),(2009,.arr 2 ((List.range c).map fun c=>(rN l trim i c).cs)),(27,bv (R p.aq)),(28,bv c)]) (fun c=>c<=R p.aq) (fun c=>R p.aq - c) 0 (Zr _) ⟨O,O,O,O,O,O,O,O,(bH N),O,O,O,(cw N),(bH N),O,O,Zo⟩ (fun _=>O) ?_;rintro c u;refine ro 6 O (kB O (fun f=>?_) (fun f=>?_))
  ·refine ro 12 O (RK.c (S.iI (k:=11) (sz:=1) .none O) (rr 6 O (kc (zk Yd O) (rr 4 O ?_))));refine OK.loop (G:=Nat) [3,6,7,900,9,11] (fun k=>[(1,.sl (l.map aX.cs)),(2,bv trim),(3,.ptr 3 0),(1003,.box p.cs),(6,.ptr 6 0),(1006,.box [bv 0,bv 0,.bO]),(7,.ptr 7 0),(1007,.box [bv (R l),bv trim,.own 900 i]),(2900,.arr 1 ((List.range i).map (fun t=>[X.sl ((D6 p l trim t).map Range.cs)]))),(20,bv p.aR),(21,bv i),(8,bv i),(9,.own 9 c),(2009,.arr 2 ((List.range c).map fun c=>(rN l trim i c).cs)),(27,bv (R p.aq)),(28,bv c),(10,bv c),(11,.own 11 k),(2011,.arr 1 ((col (l.take k) i c).map fun n=>[bv n])),(31,.sl (l.map aX.cs)),(32,bv (R l)),(33,bv k)]) (fun k=>k<=R l) (fun k=>R l - k) 0 (Zr _) ⟨O,O,O,O,O,O,O,O,(bH N),O,O,O,(cw N),(bH N),O,O,O,(cw N),(bH N),O,O,O,Zo⟩ (fun _=>O) ?_;rintro k s;refine ro 6 O (kB O (fun e=>?_) (fun e=>?_))
   ·have d:i<R l[k].rows:=by have:=hw.rows k I;omega
    have h:c<R l[k].rows[i].values:=by have:=hw.vals k I i d;omega
    refine ro 6 O (kc (zI Yd O I O) ?_);refine rr 10 O (kc (zI Za O d O) (rr 3 O (kc (zI Z4 O h O) (kc (zV Z8 O O) ?_))));refine RK.c (zM [[_]] ZM O O O O) ?_;refine kc (zP ZM O O (by simp only[Zx,qd,sc];omega) N I (by simp only[maxLen];omega)) ?_;refine Rr 8 O I ?_;refine Ab.D.lp ⟨k+1,I,I,O,O,O,O,O,O,O,O,(bH N),O,O,O,(cw N),(bH N),O,O,O,(cw N),(bH (by rw[←D7 I d h,ne];rfl)),O,O,O,Zo⟩
   refine ro 3 O ?_;have b:k=R l:=by omega
   subst b;refine OK.bN (jm O (kc (S.He (zs:=col (l.take (R l)) i c) xV call70 .none O (zt O) O (by simp[qd]) O I) ?_));refine kD ?_;rw[List.take_length]at *;have j:R ((col l i c).mergeSort fun x y=>decide (x<=y))=R l:=by rw[qK,qd]
   have a:rN l trim i c=⟨((col l i c).mergeSort fun x y=>decide (x<=y))[trim.toNat],((col l i c).mergeSort fun x y=>decide (x<=y))[R l - 1 - trim.toNat]⟩:=by
    rw[rN,sorted,zW I,zW I]
   refine OK.freeze 11 O O O (by simp only[Zx,qK,qd]) ?_;refine kV (.c (zm O) (.c (zm O) (.c (zm O) (.c (S.aP (n:=trim.toNat) Z4 .none O (zt O) (zt O) I I O) (.c (zV Z8 O O) (.c (zm O) (.c (zm O) (.c (zk Z4 O) (.c (S.sub .none O (zt O) (.af O) (mn _ I) (mn _ I)) (.c (zm O) (.c (S.sub .none O (zt O) (zt O) (mn _ I) (mn _ I)) (.c (S.aP (n:=(R l - 1 - trim.toNat)) Z4 .none O (zt O) (zt O) I I O) (.c (zV Z8 O O) (.c (zU M6 O O) (.c (zM [[_,_]] MY O O O O) (.c (zP MY O O N N I (by simp only[maxLen];omega)) (.c (za O) .nil))))))))))))))))) ?_;refine Rd 6 O I ?_;refine Ab.D.lp ⟨c+1,I,I,O,O,O,O,O,O,O,O,(bH N),O,O,O,(cw N),(bH (by rw[cε,ne,ta,a];rfl)),O,O,Zo⟩
  refine OK.exit O (Ab.D.code (OK.freeze 9 O O O F ?_));refine ro 4 O ?_;refine RK.c (zM [[_]] LW O O O O) ?_;refine kc (zP LW O O N N I (by simp only[maxLen];omega)) ?_;refine Rr 9 O I ?_;refine Ab.D.lp ⟨i+1,I,I,O,O,O,O,O,O,O,O,(bH (by rw[show c=R p.aq by omega,cε,ne];simp only[D6,x3,ta,H2];rfl)),O,O,Zo⟩
 refine ro 8 O ?_;refine OK.ret (aA.r1 (.bG O O O O V7 O (.k (.same O) (.k (.same O) (.k (.own O O N) .z)))) ?_);rw[show i=p.aR.toNat by omega,G6,Envelope.cs,x3];rfl
def rB{p:bC}{l:List aX}{trim:Int}:Ct prog 219 [.agg p.cs,.sl (l.map aX.cs),bv trim] (.cf [.agg (lK p l trim).cs,bv (fg p l trim)]):=by
 refine cI func219 O (OK.eW (rows:=l.map aX.cs) (t:=1) O O fun hlen=>?_);rw[Zx]at hlen;unfold maxLen at hlen;refine ro 11 O (kc (zK pg call272 O) (rr 15 O (kB O (fun c=>?_) (fun c=>?_))))
 ·have d:=mA c;have f:fg p l trim=eL trim (R l):=by rw[fg,Zm I]
  refine ro 3 O (kc (zk Yd O) (kc (zK (oR I) call273 O) ?_));refine rr 10 O (kB O (fun b=>?_) (fun b=>?_))
  ·refine kr (kc (zU JB O O) (rr 5 O (OK.ret (aA.r2 (.bG O O O O V7 O (.k (.same O) (.k (.same O) (.k .bO .z)))) (zo O O) ?_))));rw[lK,Zm I,f];rfl
  have a:fg p l trim=0:=by omega
  have d:=mA (p:=p) (l:=l) I;have e:eL trim (R l)=0:=by unfold fg at a;split at a<;>omega
  refine ro 7 O (kc (zK (nI d.1 ⟨by omega,by omega⟩ d.2.2 (tg I e)) call274 O) ?_);refine rr 4 O (kT O O V7 O O O ?_);rw[lK,Zn a,a];rfl
 have f:fg p l trim=gv p l:=by rw[fg,Zn c]
 refine ro 9 O (kB O (fun b=>?_) (fun b=>?_))
 ·refine kr (kc (zU JB O O) (rr 5 O (OK.ret (aA.r2 (.bG O O O O V7 O (.k (.same O) (.k (.same O) (.k .bO .z)))) (zo O O) ?_))));rw[lK,Zm I,f];rfl
 have a:fg p l trim=0:=by omega
 have d:=mA (p:=p) (l:=l) I;have e:eL trim (R l)=0:=by unfold fg at a;split at a<;>omega
 refine ro 7 O (kc (zK (nI d.1 ⟨by omega,by omega⟩ d.2.2 (tg I e)) call274 O) ?_);refine rr 4 O (kT O O V7 O O O ?_);rw[lK,Zn a,a];rfl
end Go.Proofs.Z9
namespace Go.Proofs.Z9
open Go.Ab Tryz
def gu(x:Range):Int:=if¬((-1000000<=x.lo/\x.lo<=1000000)/\(-1000000<=x.hi/\x.hi<=1000000))then 2 else if x.lo<=x.hi then 0 else 9
def jB(p:bC)(l:List Range):Int:=if R l≠R p.aq then 10 else(aK (fun _ x=>gu x) 0 l).2
def ki(p:bC)(x:Envelope):Int×Int:=
 if¬(1<=x.parts/\x.parts<=20)then(0,2)else if eL x.trim x.parts≠0 then(0,eL x.trim x.parts)else if(R x.rows:Int)≠p.aR then(0,10)else aK (fun _ l=>jB p l) 0 x.rows
def dZ(p:bC)(x:Envelope)(r:aX):Int:=if bA p≠0 then bA p else if(ki p x).2≠0 then(ki p x).2 else(gB p r).2
def zY{p:bC}{x:Envelope}(h:1<=x.parts/\x.parts<=20):ki p x=if aF [eL x.trim x.parts,ae (decide ((R x.rows:Int)=p.aR)) 10]≠0 then(0,aF [eL x.trim x.parts,ae (decide ((R x.rows:Int)=p.aR)) 10])else aK (fun _ l=>jB p l) 0 x.rows:=by
 rw[ki,Zm I,jH,ff];grind
def devs(l:List bW):X:=.sl (l.map bW.cs)
def Bo{i:Nat}{x:Range}:Ct prog 349 [bv i,.agg x.cs] (bv (gu x)):=by
 refine cI func349 O (ro 7 O ?_);by_cases a: -1000000<=x.lo/\x.lo<=1000000
 ·refine kV (.c (zf Ze O) (.c (zl Z8 O O O O) (.c (zK iz call345 O) (.c (zm O) (.c (S.dH YU (.yes O O O W) O (zt O)) (.c (S.fc Z8 (.yes O O O W) O (zt O) O O O O) (.c (S.call (iz) call345 (.yes O O O W) O (zc O .nil) O) (.c (S.aQ .none O (zt O) (zt O) W) (.c (zK aT call243 O) (.c (zf Ze O) (.c (zl Z8 O O O O) (.c (zf YU O) (.c (zl Z8 O O O O) (.c (S.leq .none O (zt O) (zt O)) (.c (zK aT call243 O) (.c (zM [[_],[_]] Zc O O O O) (.c (S.callL (cC (l:=[_,_])) call242 .none O (zc O .nil) (.cons (.p (.own O O) O) .nil) O) (.c (za O) .nil)))))))))))))))))) ?_;refine Ab.D.code (kR O O ?_);refine cy ?_;simp[jH,ae];unfold gu
  repeat' split
  all_goals omega
 refine kV (.c (zf Ze O) (.c (zl Z8 O O O O) (.c (zK iz call345 O) (.c (zm O) (.c (zG O W) (.c (zG O W) (.c (zG O W) (.c (S.aO .none O (zt O) .aJ W) (.c (zK aT call243 O) (.c (zf Ze O) (.c (zl Z8 O O O O) (.c (zf YU O) (.c (zl Z8 O O O O) (.c (S.leq .none O (zt O) (zt O)) (.c (zK aT call243 O) (.c (zM [[_],[_]] Zc O O O O) (.c (S.callL (cC (l:=[_,_])) call242 .none O (zc O .nil) (.cons (.p (.own O O) O) .nil) O) (.c (za O) .nil)))))))))))))))))) ?_;refine Ab.D.code (kR O O ?_);refine cy ?_;simp[jH,ae];unfold gu
 repeat' split
 all_goals omega
def D8{p:bC}{i:Nat}{l:List Range}:Ct prog 347 [bv i,.sl (l.map Range.cs),.b5 p.cs] (bv (jB p l)):=by
 refine cI func347 O (ro 9 O (kc (zk LQ O) (rr 3 O (kc (zk Z2 O) (rr 3 O (kB O (fun a=>?_) (fun a=>?_)))))))
 ·refine ro 5 O (kR O O ?_);refine cy ?_;rw[jB,Zn I]
 refine ro 5 O ?_;refine kc (S.call (yg (l:=l) (g:=fun _ x=>gu x) (caps:=[]) (fun i x _=>Bo) call349 ⟨O,O⟩) call348 .none O (zc O (.cons .oL .nil)) O) ?_;refine rr 13 O (kR O O ?_);refine cy ?_;rw[jB,Zm I]
def pI{p:bC}{x:Envelope}:Ct prog 300 [.agg p.cs,.agg x.cs] (pair (ki p x)):=by
 refine cI func300 O (ro 13 O (kc (zK dJ call247 O) (kc (S.jP .none O (zt O)) (kD (kB O (fun b=>?_) (fun b=>?_))))))
 ·have d:¬(1<=x.parts/\x.parts<=20):=by simpa using b
  refine ro 6 O (kS O O O O ?_);refine dD ?_;rw[ki,Zn d]
 have d:1<=x.parts/\x.parts<=20:=by simpa using b
 refine ro 4 O ?_;refine kV (.c (zf Q6 O) (.c (zl Z8 O O O O) (.c (zf Q5 O) (.c (zl Z8 O O O O) (.c (zK (oR I) call273 O) (.c (zf WY O) (.c (zl QU O O O O) (.c (zk VC O) (.c (zf Ta O) (.c (zf Qi O) (.c (zl Z8 O O O O) (.c (S.eql .none O (zt O) (zt O)) (.c (zK aT call243 O) (.c (zM [[_],[_]] Zc O O O O) (.c (S.callL (cC (l:=[_,_])) call242 .none O (zc O .nil) (.cons (.p (.own O O) O) .nil) O) (.c (za O) .nil)))))))))))))))) ?_;refine rd 7 O (kB O (fun a=>?_) (fun a=>?_))
 ·refine ro 7 O (kS O O O O ?_);refine dD ?_;rw[zY d,Zn a]
 refine ro 6 O (kc (S.dx .none O (zt O) O) ?_);refine kc (S.callL (pG (l:=x.rows) (g:=fun _ l=>jB p l) (caps:=[.b5 p.cs]) (fun i x _=>D8) call347 ⟨O,O⟩) call346 .none O (zc O (zc O .nil)) (.cons (.same O) (.cons (.fn (.cons (.ptr O O O O) .nil)) .nil)) O) ?_;refine rr 6 O (kS O O O O ?_);refine dD ?_;rw[zY d,Zm a]
def vl{p:bC}{x:Envelope}{r:aX}:Ct prog 256 [.agg p.cs,.agg x.cs,.agg r.cs] (bv (dZ p x r)):=by
 refine cI func256 O (ro 11 O (kc (zK ng call254 O) (rr 15 O (kB O (fun a=>?_) (fun a=>?_)))))
 ·refine ro 6 O (kR O O ?_);refine cy ?_;rw[dZ,Zn a]
 refine ro 7 O (kc (zK pI call300 O) (rr 13 O (kB O (fun b=>?_) (fun b=>?_))))
 ·refine ro 6 O (kR O O ?_);refine cy ?_;rw[dZ,Zm a,Zn b]
 refine ro 6 O (kc (zK lI call301 O) (rr 12 O (kR O O ?_)));refine cy ?_;rw[dZ,Zm a,Zm b]
end Go.Proofs.Z9
namespace Go.Proofs.Z9
open Go.Ab Tryz
def iq(n:Int)(o:Range):Int:=(if 0<n - o.hi then n - o.hi else 0)+(if n - o.lo<0 then n - o.lo else 0)
def xN(t:Nat)(rs:List Range)(c:Nat)(n:Int):List bW:=if iq n (rs.getD c ⟨0,0⟩)≠0 then [⟨t,c,iq n (rs.getD c ⟨0,0⟩)⟩]else []
def iJ(t:Nat)(rs:List Range):Nat->bd->List bW
 |_,[]=>[]
 |c,n::l=>xN t rs c n++iJ t rs (c+1) l
def mT(x:Envelope):Nat->List Row->List bW
 |_,[]=>[]
 |t,r::l=>iJ t (x.rows.getD t []) 0 r.values++mT x (t+1) l
def v7(x:Envelope)(r:aX):List bW:=mT x 0 r.rows
def v8{t:Nat}{rs:List Range}{l:bd}{j:Nat}(h:j<R l):iJ t rs j (l.drop j)=xN t rs j l[j]++iJ t rs (j+1) (l.drop (j+1)):=by
 rw[np h,iJ]
def xO{x:Envelope}{l:List Row}{i:Nat}(h:i<R l):mT x i (l.drop i)=iJ i (x.rows.getD i []) 0 l[i].values++mT x (i+1) (l.drop (i+1)):=by
 rw[np h,mT]
def getD_at{α:Type}{l:List α}{i:Nat}{d:α}(h:i<R l):l.getD i d=l[i]:=by simp_all
structure Gb(x:Envelope)(r:aX):Prop where
 rows:∀(i:Nat),i<r.rows.length->i<x.rows.length
 IQ:∀(i:Nat)(h:i<r.rows.length)(h2:i<x.rows.length)(j:Nat),j<r.rows[i].values.length->j<x.rows[i].length
 val:∀(i:Nat)(h:i<r.rows.length)(j:Nat)(h3:j<r.rows[i].values.length), -1000000<=r.rows[i].values[j]/\r.rows[i].values[j]<=1000000
 Jk:∀(i:Nat)(h2:i<x.rows.length)(j:Nat)(h3:j<x.rows[i].length),(-1000000<=x.rows[i][j].lo/\x.rows[i][j].lo<=1000000)/\(-1000000<=x.rows[i][j].hi/\x.rows[i][j].hi<=1000000)
def Ch{P:Program}{σ α:Type}{encs:α->bi}{D pre rest:List α}{d:α}{J:σ->bm}{g:σ->α->σ×Bool}{a:σ}{Φ:Value->Prop}
  (c:∀v,Φ v->∀(i:Nat)(x:α),D[i]?=some x->(au g a (D.take i)).2=true->nR P v (encs x) (.bool (g (au g a (D.take i)).1 x).2) (J (au g a (D.take i)).1) (J (g (au g a (D.take i)).1 x).1))
  (h:D=pre++d::rest) (b:(au g a pre).2=true):∀v,Φ v->nR P v (encs d) (.bool (g (au g a pre).1 d).2) (J (au g a pre).1) (J (g (au g a pre).1 d).1):=by
 intro v e;have f:D.take (R pre)=pre:=by grind
 grind
def Aq{σ α:Type}{g:σ->α->σ×Bool}{b:σ}{d:α}{rest:List α}:∀{a:List α},(au g b a).2=true->(g (au g b a).1 d).2=false->au g b (a++d::rest)=((g (au g b a).1 d).1,false):=by
 intro a
 induction a generalizing b with
 |nil=>
  simp_all[au]
 |cons x a c=>
  grind [au]
def pQ{σ α:Type}{g:σ->α->σ×Bool}{a:σ}{d:α}{pre:List α}(b:(au g a pre).2=true)(c:(g (au g a pre).1 d).2=true):au g a (pre++[d])=((g (au g a pre).1 d).1,true):=by
 rw[lR,Zn b];grind
def lZ{J J':bm}(h:J=J'):some (X.res J)=some (X.res J'):=by rw[h]
abbrev Hw(σ:Type)(J:σ->bm)(g:σ->bW->σ×Bool)(s0:σ)(Φ:Value->Prop)(D:List bW):Prop:=
 ∀v,Φ v->∀(i:Nat)(x:bW),D[i]?=some x->(au g s0 (D.take i)).2=true->nR prog v [.agg x.cs] (.bool (g (au g s0 (D.take i)).1 x).2) (J (au g s0 (D.take i)).1) (J (g (au g s0 (D.take i)).1 x).1)
def Ci{n:Int}{o:Range}(b: -1000000<=n/\n<=1000000)(a:(-1000000<=o.lo/\o.lo<=1000000)/\(-1000000<=o.hi/\o.hi<=1000000)): -4000000<=iq n o/\iq n o<=4000000:=by
 grind [iq]
def Ar{x:Envelope}{r:aX}(y:Gb x r)(L:R r.rows<=100000)(z:∀(i:Nat)(h:i<R r.rows),R r.rows[i].values<=100000){σ:Type}(J:σ->bm)(g:σ->bW->σ×Bool)(k:σ)(Φ:Value->Prop)(B:∀s,aZ (J s))(E:Hw σ J g k Φ (v7 x r)):dF prog 352 [] [.cb Φ,.b5 r.cs,.b5 x.cs] [(3000,.res (J k))] [(3000,.res (J (au g k (v7 x r)).1))] (.cf []):=by
 refine cG func352 O (ro 4 O (kc (zk Za O) (rr 4 O ?_)));refine OK.mP [] (fun(i:Nat)(a:List bW)=>[(0,.cb Φ),(1,.b5 r.cs),(2,.b5 x.cs),(11,.sl (r.rows.map Row.cs)),(12,bv (R r.rows)),(13,bv i),(3000,.res (J (au g k a).1))]) (fun i a=>i<=R r.rows/\(au g k a).2=true/\v7 x r=a++mT x i (r.rows.drop i)) (fun i a=>R r.rows - i) (0) ([]) ⟨Zr _,O,O⟩ ⟨O,O,O,O,O,O,O,Zo⟩ (fun _ _=>O) ?_;rintro i a ⟨hi,p,K⟩;refine ro 6 O (kB O (fun G=>?_) (fun G=>?_))
 ·have l:i<R x.rows:=y.rows i I;have H:=z i I;refine ro 7 O (kc (zI Za O I O) ?_);refine rr 10 O (kc (zk Z4 O) (rr 4 O ?_));refine OK.mP [] (fun(j:Nat)(a:List bW)=>[(0,.cb Φ),(1,.b5 r.cs),(2,.b5 x.cs),(4,bv i),(11,.sl (r.rows.map Row.cs)),(12,bv (R r.rows)),(13,bv i),(19,ints r.rows[i].values),(20,bv (R r.rows[i].values)),(21,bv j),(3000,.res (J (au g k a).1))]) (fun j a=>j<=R r.rows[i].values/\(au g k a).2=true/\v7 x r=a++(iJ i (x.rows.getD i []) j (r.rows[i].values.drop j)++mT x (i+1) (r.rows.drop (i+1)))) (fun j a=>R r.rows[i].values - j) (0) (a) ⟨Zr _,p,by rw[K,xO I];rfl⟩ ⟨O,O,O,O,O,O,O,O,O,O,O,Zo⟩ (fun _ _=>O) ?_;rintro j a ⟨N,b,e⟩;refine ro 6 O (kB O (fun F=>?_) (fun F=>?_))
  ·have n:j<R x.rows[i]:=y.IQ i I l j I;have A:=y.val i I j I;have C:=y.Jk i l j n;have M:=Ci A C;have u:(x.rows.getD i [])=x.rows[i]:=getD_at l;have v:(x.rows[i].getD j ⟨0,0⟩)=x.rows[i][j]:=getD_at n;have c:iJ i (x.rows.getD i []) j (r.rows[i].values.drop j)=(if iq r.rows[i].values[j] x.rows[i][j]≠0 then [⟨i,j,iq r.rows[i].values[j] x.rows[i][j]⟩]else [])++iJ i (x.rows.getD i []) (j+1) (r.rows[i].values.drop (j+1)):=by rw[v8 I,xN,u,v]
   refine ro 7 O (kc (zI Z4 O I O) ?_);refine rr 10 O (kc (zI VC O l O) (rr 2 O (kc (zI LQ O n O) (Rr 11 O I (kc (S.max2 .none O (.af O) (zt O)) ?_)))));refine Rr 4 O I (kc (S.min2 .none O (.af O) (zt O)) ?_);refine kc (S.add (q:=iq r.rows[i].values[j] x.rows[i][j]) .none O (zt O) (zt O) (by show IntKind.i64.wrap (iq _ _)=_;exact mn _ I) (mn _ I)) ?_;refine rr 8 O (RK.bh (t:=47) O (fun f=>?_) (fun f=>?_))
   ·have w:v7 x r=a++⟨i,j,iq r.rows[i].values[j] x.rows[i][j]⟩::(iJ i (x.rows.getD i []) (j+1) (r.rows[i].values.drop (j+1))++mT x (i+1) (r.rows.drop (i+1))):=by rw[e,c,Zn f];simp
    refine rr 4 O (kc (S.build O1 O (zg O O) O (zc O (zc O (zc O .nil))) O O) ?_);refine kc (S.tQ (J1:=J (g (au g k a).1 ⟨i,j,iq r.rows[i].values[j] x.rows[i][j]⟩).1) (Ch E w b) (B _) (zg O O) O (zt O) (zc O .nil) O O) (kc (S.not (zg O O) O (zt O)) ?_);refine rr 3 O (OK.cond O O (fun o=>?_) (fun o=>?_))
    ·have m:(g (au g k a).1 ⟨i,j,iq r.rows[i].values[j] x.rows[i][j]⟩).2=false:=by simpa using o
     exact OK.ret ⟨⟨.inl rfl,[],Zo,rfl⟩,lZ (by rw[w,Aq b m]),Zo⟩
    have d:(g (au g k a).1 ⟨i,j,iq r.rows[i].values[j] x.rows[i][j]⟩).2=true:=by simpa using o
    refine Ro 7 O I ?_;refine Ab.D.lp ⟨j+1,a++[(⟨i,j,iq r.rows[i].values[j] x.rows[i][j]⟩:bW)],⟨by omega,by first|exact b|rw[pQ b d],by first|(rw[e,c,Zn f];simp)|(rw[e,c,Zm f];rfl)⟩,I,O,O,O,O,O,O,O,O,O,O,(lZ (by first|rfl|rw[pQ b d])),Zo⟩
   refine Rr 18 O I ?_;refine Ab.D.lp ⟨j+1,a,⟨by omega,by first|exact b|rw[pQ b d],by first|(rw[e,c,Zn f];simp)|(rw[e,c,Zm f];rfl)⟩,I,O,O,O,O,O,O,O,O,O,O,(lZ (by first|rfl|rw[pQ b d])),Zo⟩
  refine Ro 7 O I ?_;refine Ab.D.lp ⟨i+1,a,⟨by omega,b,by rw[e,show j=R r.rows[i].values by omega,no];rfl⟩,I,O,O,O,O,O,O,O,Zo⟩
 refine OK.exit O ?_;exact⟨⟨.inr rfl,[],Zo,rfl⟩,lZ (by rw[K,show i=R r.rows by omega,no,mT,i8]),Zo⟩
end Go.Proofs.Z9
namespace Go.Proofs.Z9
open Go.Ab Tryz
def QZ(t:Nat)(rs:List Range)(c:Nat)(n:Int):R (xN t rs c n)<=1:=by
 grind [xN]
def UR(t:Nat)(rs:List Range):∀(l:bd)(c:Nat),R (iJ t rs c l)<=R l
 |[],_=>Zq _
 |n::l,c=>by
  have b:=QZ t rs c n;have a:=UR t rs l (c+1);rw[iJ,Zs,tt];omega
def T_(x:Envelope)(m:Nat):∀(l:List Row)(t:Nat),(∀r∈l,R r.values<=m)->R (mT x t l)<=R l * m
 |[],_,_=>by simp[mT]
 |r::l,t,h=>by
  have c:=UR t (x.rows.getD t []) r.values 0;have b:=T_ x m l (t+1) fun q a=>h q (rl _ a)
  grind [mT,Nat.succ_mul]
structure Hx(p:bC)(x:Envelope)(r:aX):Prop where
 fit:Gb x r
 rows:r.rows.length<=12
 vals:∀(i:Nat)(h:i<r.rows.length),r.rows[i].values.length<=4
def Cj{x:Range}(h:gu x=0):((-1000000<=x.lo/\x.lo<=1000000)/\(-1000000<=x.hi/\x.hi<=1000000))/\x.lo<=x.hi:=by
 unfold gu at h;omega
def Ck{p:bC}{x:Envelope}(h:(ki p x).2=0):(1<=x.parts/\x.parts<=20)/\eL x.trim x.parts=0/\(R x.rows:Int)=p.aR/\(∀(i:Nat)(h:i<R x.rows),R x.rows[i]=R p.aq/\∀(j:Nat)(b:j<R x.rows[i]),gu x.rows[i][j]=0):=by
 unfold ki at h;split at h
 ·cases h
 rename_i f;split at h
 ·omega
 rename_i b;split at h
 ·cases h
 rename_i e;refine⟨Zu.1 f,Zu.1 b,Zu.1 e,fun i hi=>?_⟩;have a:=fX _ _ 0 h i hi;unfold jB at a;split at a
 ·cases a
 rename_i d;exact⟨Zu.1 d,fun j c=>fX _ _ 0 a j c⟩
def Cl{p:bC}{r:aX}(h:(gB p r).2=0):(R r.rows:Int)=p.aR/\∀(i:Nat)(h:i<R r.rows),Y5 p r.rows[i]=0:=by
 unfold gB at h;split at h
 ·cases h
 rename_i a;exact⟨Zu.1 a,fun i hi=>fX _ _ 0 h i hi⟩
def Cm{p:bC}{r:Row}(h:Y5 p r=0):(r.known=true->R r.values=R p.aq)/\(r.known=false->R r.values=0)/\∀(j:Nat)(a:j<R r.values), -1000000<=r.values[j]/\r.values[j]<=1000000:=by
 unfold Y5 at h;split at h
 ·rename_i d;unfold eM at h;split at h
  ·cases h
  rename_i c;split at h
  ·rename_i a;exact⟨fun _=>Zu.1 c,(fun e=>by simp_all),fun j b=>pf (rm.1 a _ (Zt b))⟩
  cases h
 simp_all
def ED{p:bC}{x:Envelope}{r:aX}(h:dZ p x r=0):Hx p x r:=by
 unfold dZ at h;split at h
 ·omega
 rename_i d;split at h
 ·omega
 rename_i b;have g:=jc (Zu.1 d);obtain⟨_,_,m,e⟩:=Ck (Zu.1 b);obtain⟨l,c⟩:=Cl h;have f:∀(i:Nat)(hi:i<R r.rows),R r.rows[i].values<=R p.aq:=fun i hi=>by
  obtain⟨g1,g2,_⟩:=Cm (c i hi);cases k:r.rows[i].known<;>grind
 refine⟨⟨fun i hi=>I,fun i hi b j a=>by grind,fun i hi j a=>(Cm (c i hi)).2.2 j a,fun i hi j a=>(Cj ((e i hi).2 j a)).1⟩,I,fun i hi=>by grind⟩
def M1{p:bC}{x:Envelope}{r:aX}(h:Hx p x r):(v7 x r).length<=100000:=by
 have c:=T_ x 4 r.rows 0 fun q a=>by
  obtain⟨i,hi,rfl⟩:=i6 a;exact h.vals i hi
 have b:=h.rows;unfold v7;omega
def qC{x:Envelope}{r:aX}:Ct prog 302 [.agg x.cs,.agg r.cs] (.fn 352 [.b5 r.cs,.b5 x.cs]):=by
 refine cI func302 O (ro 4 O (kc (S.assign .none O .lq) (rr 4 O (kc (S.s5 .none O (zt O) (zt O) O O) (rr 3 O (OK.ret (aA.r1 (.tmp O O (.fn (.k (.ptr O O O O) (.k (.ptr O O O O) .z)) O) O) ?_)))))));rfl
