import Derived.Test.YtpbalelbenmmbaaGreatDoorWi
set_option linter.all false
namespace Go.Proofs.YtpbalelbenmmbaaGreatDoor
open Go.Ab Tryz
set_option maxRecDepth 9999
theorem fX{α:Type}(g:Nat->α->Int):∀(l:List α)(i:Nat),(aK g i l).2=0->∀(j:Nat)(h:j<l.length),g (i+j) l[j]=0
 |[],_,_,j,h=>by simp at h
 |x::l,i,he,j,h=>by
  rw[aK]at he;split at he
  ·omega
  rename_i hc;cases j with
  |zero=>grind
  |succ j=>
   have:=fX g l (i+1) he j (by grind);grind
def rM:∀(l:List Row)(i:Nat),(gX i l).length=0->∀x∈l,x.known=true
 |[],_,_,x,hx=>by cases hx
 |y::l,i,h,x,hx=>by
  rw[gX]at h;split at h
  ·rename_i hy;rcases ed.1 hx with rfl|hx
   ·exact hy
   exact rM l (i+1) h x hx
  simp at h
structure yA(p:bC)(l:List aX):Prop where
 rows:∀(k:Nat)(h:k<l.length),(l[k].rows.length:Int)=p.aR
 vals:∀(k:Nat)(h:k<l.length)(i:Nat)(h2:i<l[k].rows.length),l[k].rows[i].values.length=p.aq.length
theorem D5{p:bC}{l:List aX}(h:kU p l=0):yA p l:=by
 unfold kU at h;split at h
 ·omega
 split at h
 ·omega
 have h1:=fX _ l 0 h;have key:∀(k:Nat)(h:k<l.length),(gB p l[k]).2=0/\(wB l[k]).length=0:=by
  grind [jg]
 refine⟨fun k hk=>mc (key k hk).1,fun k hk i hi=>?_⟩;obtain⟨h3,h4⟩:=key k hk;have h5:=mc h3;unfold gB at h3;rw[Zm I]at h3;have h6:=fX _ _ 0 h3 i hi;have h7:=rM _ 0 h4 _ (Zt hi);unfold rowErr at h6;rw[Zn h7]at h6;grind [eM]
def col(l:List aX)(t c:Nat):bd:=l.map fun r=>((r.rows.getD t ⟨false,[]⟩).values.getD c 0)
def sorted(l:bd):bd:=l.mergeSort fun x y=>decide (x<=y)
def rN(l:List aX)(trim:Int)(t c:Nat):Range:=⟨(sorted (col l t c)).getD trim.toNat 0,(sorted (col l t c)).getD (l.length - 1 - trim.toNat) 0⟩
def D6(p:bC)(l:List aX)(trim:Int)(t:Nat):List Range:=(List.range p.aq.length).map fun c=>rN l trim t c
def G6(p:bC)(l:List aX)(trim:Int):Envelope:=⟨l.length,trim,(List.range p.aR.toNat).map fun t=>D6 p l trim t⟩
def fg(p:bC)(l:List aX)(trim:Int):Int:=if gv p l≠0 then gv p l else eL trim l.length
def lK(p:bC)(l:List aX)(trim:Int):Envelope:=if fg p l trim=0 then G6 p l trim else⟨0,0,[]⟩
def mA{p:bC}{l:List aX}(h:gv p l=0):bA p=0/\(1<=l.length/\l.length<=20)/\yA p l:=by
 grind [gv,D5,kU]
def Vx(l:bd):(sorted l).length=l.length:=qK l
def qd(l:List aX)(t c:Nat):(col l t c).length=l.length:=by simp[col]
theorem D7{l:List aX}{k t c:Nat}(h:k<l.length)(h1:t<l[k].rows.length)(h2:c<l[k].rows[t].values.length):col (l.take k) t c++[l[k].rows[t].values[c]]=col (l.take (k+1)) t c:=by
 grind [tF,col]
def zW{l:bd}{i:Nat}(h:i<l.length):l.getD i 0=l[i]:=by simp_all
def nI{p:bC}{l:List aX}{trim:Int}(hp:bA p=0)(hl:1<=l.length/\l.length<=1000)(hw:yA p l)(ht:0<=trim/\2 * trim<=l.length - 1):Ct prog 248 [.agg p.cs,.sl (l.map aX.cs),bv trim] (.agg (G6 p l trim).cs):=by
 refine cI func248 O fun{_ _}=>?_
 have hpp:=jc hp;refine ro 9 O (kc (zk YC O) (jm O (kc (zU M8 O O) (rr 14 O (OK.nP 7 2 900 1 O O O O O ?_)))));refine OK.loop (G:=Nat) [3,6,7,900] (fun i=>[(1,.sl (l.map aX.cs)),(2,bv trim),(3,.ptr 3 0),(1003,.box p.cs),(6,.ptr 6 0),(1006,.box [bv 0,bv 0,.bO]),(7,.ptr 7 0),(1007,.box [bv l.length,bv trim,.own 900 i]),(2900,.arr 1 ((List.range i).map (fun t=>[X.sl ((D6 p l trim t).map Range.cs)]))),(20,bv p.aR),(21,bv i)]) (fun i=>(i:Int)<=p.aR) (fun i=>p.aR.toNat - i) 0 I ⟨O,O,O,O,O,O,O,O,(bH (by rfl)),O,O,Zo⟩ (fun _=>O) ?_;rintro i hi;refine ro 6 O (kB O (fun c22=>?_) (fun c22=>?_))
 ·refine ro 12 O (RK.c (S.iI (k:=9) (sz:=2) .none O) (rr 8 O (kc (zk Z9 O) (rr 4 O ?_))));refine OK.loop (G:=Nat) [3,6,7,900,9] (fun c=>[(1,.sl (l.map aX.cs)),(2,bv trim),(3,.ptr 3 0),(1003,.box p.cs),(6,.ptr 6 0),(1006,.box [bv 0,bv 0,.bO]),(7,.ptr 7 0),(1007,.box [bv l.length,bv trim,.own 900 i]),(2900,.arr 1 ((List.range i).map (fun t=>[X.sl ((D6 p l trim t).map Range.cs)]))),(20,bv p.aR),(21,bv i),(8,bv i),(9,.own 9 c),(2009,.arr 2 ((List.range c).map fun c=>(rN l trim i c).cs)),(27,bv p.aq.length),(28,bv c)]) (fun c=>c<=p.aq.length) (fun c=>p.aq.length - c) 0 (Zr _) ⟨O,O,O,O,O,O,O,O,(bH (by rfl)),O,O,O,(cw I),(bH (by rfl)),O,O,Zo⟩ (fun _=>O) ?_;rintro c hc;refine ro 6 O (kB O (fun c29=>?_) (fun c29=>?_))
  ·refine ro 12 O (RK.c (S.iI (k:=11) (sz:=1) .none O) (rr 6 O (kc (zk YC O) (rr 4 O ?_))));refine OK.loop (G:=Nat) [3,6,7,900,9,11] (fun k=>[(1,.sl (l.map aX.cs)),(2,bv trim),(3,.ptr 3 0),(1003,.box p.cs),(6,.ptr 6 0),(1006,.box [bv 0,bv 0,.bO]),(7,.ptr 7 0),(1007,.box [bv l.length,bv trim,.own 900 i]),(2900,.arr 1 ((List.range i).map (fun t=>[X.sl ((D6 p l trim t).map Range.cs)]))),(20,bv p.aR),(21,bv i),(8,bv i),(9,.own 9 c),(2009,.arr 2 ((List.range c).map fun c=>(rN l trim i c).cs)),(27,bv p.aq.length),(28,bv c),(10,bv c),(11,.own 11 k),(2011,.arr 1 ((col (l.take k) i c).map fun n=>[bv n])),(31,.sl (l.map aX.cs)),(32,bv l.length),(33,bv k)]) (fun k=>k<=l.length) (fun k=>l.length - k) 0 (Zr _) ⟨O,O,O,O,O,O,O,O,(bH (by rfl)),O,O,O,(cw I),(bH (by rfl)),O,O,O,(cw I),(bH (by rfl)),O,O,O,Zo⟩ (fun _=>O) ?_;rintro k hk;refine ro 6 O (kB O (fun c34=>?_) (fun c34=>?_))
   ·have h1:i<l[k].rows.length:=by have:=hw.rows k I;omega
    have h2:c<l[k].rows[i].values.length:=by have:=hw.vals k I i h1;omega
    refine ro 6 O (kc (zI YC O I O) ?_);refine rr 10 O (kc (zI Zj O h1 O) (rr 3 O (kc (zI Z4 O h2 O) (kc (zV Z8 O O) ?_))));refine RK.c (zM [[_]] ZY O O O O) (kc (zP ZY O O (by simp_all[qd]) (by rfl) I (by grind [maxLen])) ?_);refine Rr 8 O I ?_;refine Ab.D.lp ⟨k+1,I,I,O,O,O,O,O,O,O,O,(bH (by rfl)),O,O,O,(cw I),(bH (by rfl)),O,O,O,(cw I),(bH (by grind [D7])),O,O,O,Zo⟩
   refine ro 3 O ?_;have hkl:k=l.length:=by omega
   subst hkl;refine OK.bN (jm O (kc (S.He (zs:=col (l.take l.length) i c) xV call63 .none O (zt O) O (by simp[qd]) O I) ?_));refine kD ?_;rw[fp]at *;have hsl:((col l i c).mergeSort fun x y=>decide (x<=y)).length=l.length:=by rw[qK,qd]
   have hrange:rN l trim i c=⟨((col l i c).mergeSort fun x y=>decide (x<=y))[trim.toNat],((col l i c).mergeSort fun x y=>decide (x<=y))[l.length - 1 - trim.toNat]⟩:=by
    grind [rN,sorted]
   refine OK.freeze 11 O O O (by simp_all) ?_;refine kV (.c (zm O) (.c (zm O) (.c (zm O) (.c (S.aP (n:=trim.toNat) Z4 .none O (zt O) (zt O) I I O) (.c (zV Z8 O O) (.c (zm O) (.c (zm O) (.c (zk Z4 O) (.c (S.sub .none O (zt O) (.af O) (ca _ I) (ca _ I)) (.c (zm O) (.c (S.sub .none O (zt O) (zt O) (ca _ I) (ca _ I)) (.c (S.aP (n:=(l.length - 1 - trim.toNat)) Z4 .none O (zt O) (zt O) I I O) (.c (zV Z8 O O) (.c (zU M6 O O) (.c (zM [[_,_]] TZ O O O O) (.c (zP TZ O O F (by rfl) I (by grind [maxLen])) (.c (za O) .nil))))))))))))))))) ?_;refine Rd 6 O I ?_;refine Ab.D.lp ⟨c+1,I,I,O,O,O,O,O,O,O,O,(bH (by rfl)),O,O,O,(cw I),(bH (by rw[tp,dE,fw,hrange];rfl)),O,O,Zo⟩
  refine OK.exit O (Ab.D.code (OK.freeze 9 O O O F ?_));refine ro 4 O ?_;refine RK.c (zM [[_]] O4 O O O O) (kc (zP O4 O O F (by rfl) I (by grind [maxLen])) ?_);refine Rr 9 O I ?_;refine Ab.D.lp ⟨i+1,I,I,O,O,O,O,O,O,O,O,(bH (by rw[show c=p.aq.length by omega,tp,dE];simp[D6])),O,O,Zo⟩
 refine ro 8 O ?_;refine OK.ret (aA.r1 (.bG O O O O WM O (.k (.same O) (.k (.same O) (.k (.own O O F) .z)))) ?_);rw[show i=p.aR.toNat by omega,G6,Envelope.cs,rn];rfl
def rB{p:bC}{l:List aX}{trim:Int}:Ct prog 191 [.agg p.cs,.sl (l.map aX.cs),bv trim] (.cf [.agg (lK p l trim).cs,bv (fg p l trim)]):=by
 refine cI func191 O (OK.eW (rows:=l.map aX.cs) (t:=1) O O fun hlen=>?_);rw[Zx]at hlen;unfold maxLen at hlen;refine ro 11 O (kc (zK pg call246 O) (rr 15 O (kB O (fun c17=>?_) (fun c17=>?_))))
 ·have hl:=mA c17;have hq:fg p l trim=eL trim l.length:=by rw[fg,Zm I]
  refine ro 3 O (kc (zk YC O) (kc (zK (oR I) call247 O) ?_));refine rr 10 O (kB O (fun c23=>?_) (fun c23=>?_))
  ·refine kr (kc (zU M8 O O) (rr 5 O (OK.ret (aA.r2 (.bG O O O O WM O (.k (.same O) (.k (.same O) (.k .bO .z)))) (zo O O) ?_))));rw[lK,Zm I,hq];rfl
  have he:fg p l trim=0:=by omega
  have hl:=mA (p:=p) (l:=l) I;have ht:eL trim l.length=0:=by omega
  refine ro 7 O (kc (zK (nI hl.1 ⟨by omega,by omega⟩ hl.2.2 (tg I ht)) call248 O) ?_);refine rr 4 O (kT O O WM O O O ?_);rw[lK,Zn he,he];rfl
 have hq:fg p l trim=gv p l:=by rw[fg,Zn c17]
 refine ro 9 O (kB O (fun c23=>?_) (fun c23=>?_))
 ·refine kr (kc (zU M8 O O) (rr 5 O (OK.ret (aA.r2 (.bG O O O O WM O (.k (.same O) (.k (.same O) (.k .bO .z)))) (zo O O) ?_))));rw[lK,Zm I,hq];rfl
 omega
end Go.Proofs.YtpbalelbenmmbaaGreatDoor
namespace Go.Proofs.YtpbalelbenmmbaaGreatDoor
open Go.Ab Tryz
def gu(x:Range):Int:=if¬((-1000000<=x.lo/\x.lo<=1000000)/\(-1000000<=x.hi/\x.hi<=1000000))then 2 else if x.lo<=x.hi then 0 else 9
def jB(p:bC)(l:List Range):Int:=if l.length≠p.aq.length then 10 else(aK (fun _ x=>gu x) 0 l).2
def ki(p:bC)(x:Envelope):Int×Int:=
 if¬(1<=x.parts/\x.parts<=20)then(0,2)else if eL x.trim x.parts≠0 then(0,eL x.trim x.parts)else if(x.rows.length:Int)≠p.aR then(0,10)else aK (fun _ l=>jB p l) 0 x.rows
def dZ(p:bC)(x:Envelope)(r:aX):Int:=if bA p≠0 then bA p else if(ki p x).2≠0 then(ki p x).2 else(gB p r).2
def zY{p:bC}{x:Envelope}(h:1<=x.parts/\x.parts<=20):ki p x=if aF [eL x.trim x.parts,ae (decide ((x.rows.length:Int)=p.aR)) 10]≠0 then(0,aF [eL x.trim x.parts,ae (decide ((x.rows.length:Int)=p.aR)) 10])else aK (fun _ l=>jB p l) 0 x.rows:=by
 rw[ki,Zm I,jH,ff];grind
def devs(l:List bW):X:=.sl (l.map bW.cs)
def Bo{i:Nat}{x:Range}:Ct prog 324 [bv i,.agg x.cs] (bv (gu x)):=by
 refine cI func324 O (ro 7 O ?_);by_cases g8: -1000000<=x.lo/\x.lo<=1000000
 ·refine kV (.c (zf Ze O) (.c (zl Z8 O O O O) (.c (zK iz call320 O) (.c (zm O) (.c (S.dH YU (.yes O O O (by simp_all)) O (zt O)) (.c (S.fc Z8 (.yes O O O (by simp_all)) O (zt O) O O O O) (.c (S.call (iz) call320 (.yes O O O (by simp_all)) O (zc O .nil) O) (.c (S.aQ .none O (zt O) (zt O) (by simp_all)) (.c (zK aT call164 O) (.c (zf Ze O) (.c (zl Z8 O O O O) (.c (zf YU O) (.c (zl Z8 O O O O) (.c (S.leq .none O (zt O) (zt O)) (.c (zK aT call164 O) (.c (zM [[_],[_]] ZX O O O O) (.c (S.callL (cC (l:=[_,_])) call163 .none O (zc O .nil) (.cons (.p (.own O O) O) .nil) O) (.c (za O) .nil)))))))))))))))))) ?_;refine Ab.D.code (kR O O ?_);grind [jH,ae,gu]
 refine kV (.c (zf Ze O) (.c (zl Z8 O O O O) (.c (zK iz call320 O) (.c (zm O) (.c (zG O (by simp_all)) (.c (zG O (by simp_all)) (.c (zG O (by simp_all)) (.c (S.aO .none O (zt O) .aJ (by simp_all)) (.c (zK aT call164 O) (.c (zf Ze O) (.c (zl Z8 O O O O) (.c (zf YU O) (.c (zl Z8 O O O O) (.c (S.leq .none O (zt O) (zt O)) (.c (zK aT call164 O) (.c (zM [[_],[_]] ZX O O O O) (.c (S.callL (cC (l:=[_,_])) call163 .none O (zc O .nil) (.cons (.p (.own O O) O) .nil) O) (.c (za O) .nil)))))))))))))))))) ?_;refine Ab.D.code (kR O O ?_);grind [jH,ae,gu]
def D8{p:bC}{i:Nat}{l:List Range}:Ct prog 322 [bv i,.sl (l.map Range.cs),.b5 p.cs] (bv (jB p l)):=by
 refine cI func322 O (ro 9 O (kc (zk SF O) (rr 3 O (kc (zk Z9 O) (rr 3 O (kB O (fun c14=>?_) (fun c14=>?_)))))))
 ·refine ro 5 O (kR O O ?_);refine cy ?_;rw[jB,Zn I]
 refine ro 5 O ?_;refine kc (S.call (yg (l:=l) (g:=fun _ x=>gu x) (caps:=[]) (fun i x _=>Bo) call324 ⟨O,O⟩) call323 .none O (zc O (.cons .oL .nil)) O) ?_;refine rr 13 O (kR O O ?_);refine cy ?_;rw[jB,Zm I]
def pI{p:bC}{x:Envelope}:Ct prog 277 [.agg p.cs,.agg x.cs] (pair (ki p x)):=by
 refine cI func277 O (ro 13 O (kc (zK dJ call168 O) (kc (S.jP .none O (zt O)) (kD (kB O (fun c10=>?_) (fun c10=>?_))))))
 ·have hx:¬(1<=x.parts/\x.parts<=20):=by omega
  refine ro 6 O (kS O O O O ?_);simp_all[dD,ki]
 have hx:1<=x.parts/\x.parts<=20:=by omega
 refine ro 4 O ?_;refine kV (.c (zf Nn O) (.c (zl Z8 O O O O) (.c (zf Nl O) (.c (zl Z8 O O O O) (.c (zK (oR I) call247 O) (.c (zf Ww O) (.c (zl PR O O O O) (.c (zk SI O) (.c (zf Tj O) (.c (zf Ta O) (.c (zl Z8 O O O O) (.c (S.eql .none O (zt O) (zt O)) (.c (zK aT call164 O) (.c (zM [[_],[_]] ZX O O O O) (.c (S.callL (cC (l:=[_,_])) call163 .none O (zc O .nil) (.cons (.p (.own O O) O) .nil) O) (.c (za O) .nil)))))))))))))))) ?_;refine rd 7 O (kB O (fun c27=>?_) (fun c27=>?_))
 ·refine ro 7 O (kS O O O O ?_);simp_all[dD,zY]
 refine ro 6 O (kc (S.dx .none O (zt O) O) ?_);refine kc (S.callL (pG (l:=x.rows) (g:=fun _ l=>jB p l) (caps:=[.b5 p.cs]) (fun i x _=>D8) call322 ⟨O,O⟩) call321 .none O (zc O (zc O .nil)) (.cons (.same O) (.cons (.fn (.cons (.ptr O O O O) .nil)) .nil)) O) ?_;refine rr 6 O (kS O O O O ?_);simp_all[dD,zY]
def vl{p:bC}{x:Envelope}{r:aX}:Ct prog 230 [.agg p.cs,.agg x.cs,.agg r.cs] (bv (dZ p x r)):=by
 refine cI func230 O (ro 11 O (kc (zK ng call228 O) (rr 15 O (kB O (fun c17=>?_) (fun c17=>?_)))))
 ·refine ro 6 O (kR O O ?_);simp_all[dZ]
 refine ro 7 O (kc (zK pI call277 O) (rr 13 O (kB O (fun c26=>?_) (fun c26=>?_))))
 ·refine ro 6 O (kR O O ?_);simp_all[dZ]
 refine ro 6 O (kc (zK lI call278 O) (rr 12 O (kR O O ?_)));simp_all[dZ]
end Go.Proofs.YtpbalelbenmmbaaGreatDoor
namespace Go.Proofs.YtpbalelbenmmbaaGreatDoor
open Go.Ab Tryz
def iq(n:Int)(o:Range):Int:=(if 0<n - o.hi then n - o.hi else 0)+(if n - o.lo<0 then n - o.lo else 0)
def xN(t:Nat)(rs:List Range)(c:Nat)(n:Int):List bW:=if iq n (rs.getD c ⟨0,0⟩)≠0 then [⟨t,c,iq n (rs.getD c ⟨0,0⟩)⟩]else []
def iJ(t:Nat)(rs:List Range):Nat->bd->List bW
 |_,[]=>[]
 |c,n::l=>xN t rs c n++iJ t rs (c+1) l
def mT(x:Envelope):Nat->List Row->List bW
 |_,[]=>[]
 |t,r::l=>iJ t (x.rows.getD t []) 0 r.values++mT x (t+1) l
def v7(x:Envelope)(r:aX):List bW:=mT x 0 r.rows
theorem v8{t:Nat}{rs:List Range}{l:bd}{j:Nat}(h:j<l.length):iJ t rs j (l.drop j)=xN t rs j l[j]++iJ t rs (j+1) (l.drop (j+1)):=by
 rw[ci h,iJ]
theorem xO{x:Envelope}{l:List Row}{i:Nat}(h:i<l.length):mT x i (l.drop i)=iJ i (x.rows.getD i []) 0 l[i].values++mT x (i+1) (l.drop (i+1)):=by
 rw[ci h,mT]
def getD_at{α:Type}{l:List α}{i:Nat}{d:α}(h:i<l.length):l.getD i d=l[i]:=by simp_all
structure Gb(x:Envelope)(r:aX):Prop where
 rows:∀(i:Nat),i<r.rows.length->i<x.rows.length
 IQ:∀(i:Nat)(h:i<r.rows.length)(h2:i<x.rows.length)(j:Nat),j<r.rows[i].values.length->j<x.rows[i].length
 val:∀(i:Nat)(h:i<r.rows.length)(j:Nat)(h3:j<r.rows[i].values.length), -1000000<=r.rows[i].values[j]/\r.rows[i].values[j]<=1000000
 Jk:∀(i:Nat)(h2:i<x.rows.length)(j:Nat)(h3:j<x.rows[i].length),(-1000000<=x.rows[i][j].lo/\x.rows[i][j].lo<=1000000)/\(-1000000<=x.rows[i][j].hi/\x.rows[i][j].hi<=1000000)
theorem Ch{P:Program}{σ α:Type}{encs:α->bi}{D pre rest:List α}{d:α}{J:σ->bm}{g:σ->α->σ×Bool}{s0:σ}{Φ:Value->Prop}
  (hcb:∀v,Φ v->∀(i:Nat)(x:α),D[i]?=some x->(au g s0 (D.take i)).2=true->nR P v (encs x) (.bool (g (au g s0 (D.take i)).1 x).2) (J (au g s0 (D.take i)).1) (J (g (au g s0 (D.take i)).1 x).1))
  (hD:D=pre++d::rest) (hrun:(au g s0 pre).2=true):∀v,Φ v->nR P v (encs d) (.bool (g (au g s0 pre).1 d).2) (J (au g s0 pre).1) (J (g (au g s0 pre).1 d).1):=by
 intro v hv;have ht:D.take pre.length=pre:=by grind
 grind
theorem Aq{σ α:Type}{g:σ->α->σ×Bool}{s0:σ}{d:α}{rest:List α}:∀{pre:List α},(au g s0 pre).2=true->(g (au g s0 pre).1 d).2=false->au g s0 (pre++d::rest)=((g (au g s0 pre).1 d).1,false):=by
 intro pre
 induction pre generalizing s0 with
 |nil=>
  simp_all[au]
 |cons x pre ih=>
  grind [au]
def pQ{σ α:Type}{g:σ->α->σ×Bool}{s0:σ}{d:α}{pre:List α}(h1:(au g s0 pre).2=true)(h2:(g (au g s0 pre).1 d).2=true):au g s0 (pre++[d])=((g (au g s0 pre).1 d).1,true):=by
 rw[lR,Zn h1];grind
def lZ{J J':bm}(h:J=J'):some (X.res J)=some (X.res J'):=by rw[h]
abbrev Hw(σ:Type)(J:σ->bm)(g:σ->bW->σ×Bool)(s0:σ)(Φ:Value->Prop)(D:List bW):Prop:=
 ∀v,Φ v->∀(i:Nat)(x:bW),D[i]?=some x->(au g s0 (D.take i)).2=true->nR prog v [.agg x.cs] (.bool (g (au g s0 (D.take i)).1 x).2) (J (au g s0 (D.take i)).1) (J (g (au g s0 (D.take i)).1 x).1)
def Ci{n:Int}{o:Range}(h1: -1000000<=n/\n<=1000000)(h2:(-1000000<=o.lo/\o.lo<=1000000)/\(-1000000<=o.hi/\o.hi<=1000000)): -4000000<=iq n o/\iq n o<=4000000:=by
 grind [iq]
def Ar{x:Envelope}{r:aX}(hf:Gb x r)(hrl:r.rows.length<=100000)(hvl:∀(i:Nat)(h:i<r.rows.length),r.rows[i].values.length<=100000){σ:Type}(J:σ->bm)(g:σ->bW->σ×Bool)(s0:σ)(Φ:Value->Prop)(hst:∀s,aZ (J s))(hcb:Hw σ J g s0 Φ (v7 x r)):dF prog 327 [] [.cb Φ,.b5 r.cs,.b5 x.cs] [(3000,.res (J s0))] [(3000,.res (J (au g s0 (v7 x r)).1))] (.cf []):=by
 refine cG func327 O (ro 4 O (kc (zk Zj O) (rr 4 O ?_)));refine OK.mP [] (fun(i:Nat)(pre:List bW)=>[(0,.cb Φ),(1,.b5 r.cs),(2,.b5 x.cs),(11,.sl (r.rows.map Row.cs)),(12,bv r.rows.length),(13,bv i),(3000,.res (J (au g s0 pre).1))]) (fun i pre=>i<=r.rows.length/\(au g s0 pre).2=true/\v7 x r=pre++mT x i (r.rows.drop i)) (fun i pre=>r.rows.length - i) (0) ([]) ⟨Zr _,O,O⟩ ⟨O,O,O,O,O,O,O,Zo⟩ (fun _ _=>O) ?_;rintro i pre ⟨hi,hrun,hD⟩;refine ro 6 O (kB O (fun c14=>?_) (fun c14=>?_))
 ·have hix:i<x.rows.length:=hf.rows i I;have hvli:=hvl i I;refine ro 7 O (kc (zI Zj O I O) ?_);refine rr 10 O (kc (zk Z4 O) (rr 4 O ?_));refine OK.mP [] (fun(j:Nat)(pre:List bW)=>[(0,.cb Φ),(1,.b5 r.cs),(2,.b5 x.cs),(4,bv i),(11,.sl (r.rows.map Row.cs)),(12,bv r.rows.length),(13,bv i),(19,ints r.rows[i].values),(20,bv r.rows[i].values.length),(21,bv j),(3000,.res (J (au g s0 pre).1))]) (fun j pre=>j<=r.rows[i].values.length/\(au g s0 pre).2=true/\v7 x r=pre++(iJ i (x.rows.getD i []) j (r.rows[i].values.drop j)++mT x (i+1) (r.rows.drop (i+1)))) (fun j pre=>r.rows[i].values.length - j) (0) (pre) ⟨Zr _,hrun,by grind [xO]⟩ ⟨O,O,O,O,O,O,O,O,O,O,O,Zo⟩ (fun _ _=>O) ?_;rintro j pre ⟨hj,hrun2,hD2⟩;refine ro 6 O (kB O (fun c22=>?_) (fun c22=>?_))
  ·have hjx:j<x.rows[i].length:=hf.IQ i I hix j I;have hv1:=hf.val i I j I;have hr1:=hf.Jk i hix j hjx;have hbd:=Ci hv1 hr1;have hrow:(x.rows.getD i [])=x.rows[i]:=getD_at hix;have hone:(x.rows[i].getD j ⟨0,0⟩)=x.rows[i][j]:=getD_at hjx;have hstep:iJ i (x.rows.getD i []) j (r.rows[i].values.drop j)=(if iq r.rows[i].values[j] x.rows[i][j]≠0 then [⟨i,j,iq r.rows[i].values[j] x.rows[i][j]⟩]else [])++iJ i (x.rows.getD i []) (j+1) (r.rows[i].values.drop (j+1)):=by grind [v8,xN]
   refine ro 7 O (kc (zI Z4 O I O) ?_);refine rr 10 O (kc (zI SI O hix O) (rr 2 O (kc (zI SF O hjx O) (Rr 11 O I (kc (S.max2 .none O (.af O) (zt O)) ?_)))));refine Rr 4 O I (kc (S.min2 .none O (.af O) (zt O)) ?_);refine kc (S.add (q:=iq r.rows[i].values[j] x.rows[i][j]) .none O (zt O) (zt O) (by grind [iq,IntWalk.i64_in]) (ca _ I)) ?_;refine rr 8 O (RK.bh (t:=47) O (fun g47=>?_) (fun g47=>?_))
   ·have hD3:v7 x r=pre++⟨i,j,iq r.rows[i].values[j] x.rows[i][j]⟩::(iJ i (x.rows.getD i []) (j+1) (r.rows[i].values.drop (j+1))++mT x (i+1) (r.rows.drop (i+1))):=by simp_all
    refine rr 4 O (kc (S.build P6 O (zg O O) O (zc O (zc O (zc O .nil))) O O) ?_);refine kc (S.tQ (J1:=J (g (au g s0 pre).1 ⟨i,j,iq r.rows[i].values[j] x.rows[i][j]⟩).1) (Ch hcb hD3 hrun2) (hst _) (zg O O) O (zt O) (zc O .nil) O O) (kc (S.not (zg O O) O (zt O)) ?_);refine rr 3 O (OK.cond O O (fun c55=>?_) (fun c55=>?_))
    ·have hstop:(g (au g s0 pre).1 ⟨i,j,iq r.rows[i].values[j] x.rows[i][j]⟩).2=false:=by grind
     exact OK.ret ⟨⟨.inl rfl,[],Zo,rfl⟩,lZ (by grind [Aq]),Zo⟩
    have hcont:(g (au g s0 pre).1 ⟨i,j,iq r.rows[i].values[j] x.rows[i][j]⟩).2=true:=by grind
    refine Ro 7 O I ?_;refine Ab.D.lp ⟨j+1,pre++[(⟨i,j,iq r.rows[i].values[j] x.rows[i][j]⟩:bW)],⟨by omega,by simp_all[pQ],by simp_all⟩,I,O,O,O,O,O,O,O,O,O,O,(lZ (by simp_all[pQ])),Zo⟩
   refine Rr 18 O I ?_;refine Ab.D.lp ⟨j+1,pre,⟨by omega,by omega,by simp_all⟩,I,O,O,O,O,O,O,O,O,O,O,(lZ (by rfl)),Zo⟩
  refine Ro 7 O I ?_;refine Ab.D.lp ⟨i+1,pre,⟨by omega,hrun2,by rw[hD2,show j=r.rows[i].values.length by omega,co];rfl⟩,I,O,O,O,O,O,O,O,Zo⟩
 refine OK.exit O ?_;exact⟨⟨.inr rfl,[],Zo,rfl⟩,lZ (by grind [mT]),Zo⟩
end Go.Proofs.YtpbalelbenmmbaaGreatDoor
namespace Go.Proofs.YtpbalelbenmmbaaGreatDoor
open Go.Ab Tryz
def QZ(t:Nat)(rs:List Range)(c:Nat)(n:Int):(xN t rs c n).length<=1:=by
 grind [xN]
def UR(t:Nat)(rs:List Range):∀(l:bd)(c:Nat),(iJ t rs c l).length<=l.length
 |[],_=>Zq _
 |n::l,c=>by
  have h1:=QZ t rs c n;have h2:=UR t rs l (c+1);rw[iJ,Zs,ge];omega
def T_(x:Envelope)(m:Nat):∀(l:List Row)(t:Nat),(∀r∈l,r.values.length<=m)->(mT x t l).length<=l.length * m
 |[],_,_=>by simp[mT]
 |r::l,t,h=>by
  have h1:=UR t (x.rows.getD t []) r.values 0;have h2:=T_ x m l (t+1) fun q hq=>h q (dg _ hq)
  grind [mT,Nat.succ_mul]
structure Hx(p:bC)(x:Envelope)(r:aX):Prop where
 fit:Gb x r
 rows:r.rows.length<=12
 vals:∀(i:Nat)(h:i<r.rows.length),r.rows[i].values.length<=4
def Cj{x:Range}(h:gu x=0):((-1000000<=x.lo/\x.lo<=1000000)/\(-1000000<=x.hi/\x.hi<=1000000))/\x.lo<=x.hi:=by
 unfold gu at h;omega
def Ck{p:bC}{x:Envelope}(h:(ki p x).2=0):(1<=x.parts/\x.parts<=20)/\eL x.trim x.parts=0/\(x.rows.length:Int)=p.aR/\(∀(i:Nat)(h:i<x.rows.length),x.rows[i].length=p.aq.length/\∀(j:Nat)(h2:j<x.rows[i].length),gu x.rows[i][j]=0):=by
 unfold ki at h;split at h
 ·cases h
 rename_i h1;split at h
 ·omega
 rename_i h2;split at h
 ·cases h
 rename_i h3;refine⟨Zu.1 h1,Zu.1 h2,Zu.1 h3,fun i hi=>?_⟩;have h4:=fX _ _ 0 h i hi;unfold jB at h4;split at h4
 ·cases h4
 rename_i h5;exact⟨Zu.1 h5,fun j hj=>fX _ _ 0 h4 j hj⟩
def Cl{p:bC}{r:aX}(h:(gB p r).2=0):(r.rows.length:Int)=p.aR/\∀(i:Nat)(h:i<r.rows.length),rowErr p r.rows[i]=0:=by
 unfold gB at h;split at h
 ·cases h
 rename_i h1;exact⟨Zu.1 h1,fun i hi=>fX _ _ 0 h i hi⟩
def Cm{p:bC}{r:Row}(h:rowErr p r=0):(r.known=true->r.values.length=p.aq.length)/\(r.known=false->r.values.length=0)/\∀(j:Nat)(h2:j<r.values.length), -1000000<=r.values[j]/\r.values[j]<=1000000:=by
 unfold rowErr at h;split at h
 ·rename_i hk;unfold eM at h;split at h
  ·cases h
  rename_i h1;split at h
  ·rename_i h2;exact⟨fun _=>Zu.1 h1,(fun e=>by simp_all),fun j hj=>dC (dj.1 h2 _ (Zt hj))⟩
  cases h
 simp_all
def ED{p:bC}{x:Envelope}{r:aX}(h:dZ p x r=0):Hx p x r:=by
 unfold dZ at h;split at h
 ·omega
 rename_i h1;split at h
 ·omega
 rename_i h2;have hp:=jc (Zu.1 h1);obtain⟨_,_,e3,e4⟩:=Ck (Zu.1 h2);obtain⟨f1,f2⟩:=Cl h;have hv:∀(i:Nat)(hi:i<r.rows.length),r.rows[i].values.length<=p.aq.length:=fun i hi=>by
  obtain⟨g1,g2,_⟩:=Cm (f2 i hi);cases hk:r.rows[i].known<;>grind
 refine⟨⟨fun i hi=>by omega,fun i hi h2 j hj=>by grind,fun i hi j hj=>(Cm (f2 i hi)).2.2 j hj,fun i hi j hj=>(Cj ((e4 i hi).2 j hj)).1⟩,by omega,fun i hi=>by grind⟩
def M1{p:bC}{x:Envelope}{r:aX}(h:Hx p x r):(v7 x r).length<=100000:=by
 have h1:=T_ x 4 r.rows 0 fun q hq=>by
  obtain⟨i,hi,rfl⟩:=ip hq;exact h.vals i hi
 have h2:=h.rows;unfold v7;omega
def qC{x:Envelope}{r:aX}:Ct prog 279 [.agg x.cs,.agg r.cs] (.fn 327 [.b5 r.cs,.b5 x.cs]):=by
 refine cI func279 O (ro 4 O (kc (S.assign .none O .lq) (rr 4 O (kc (S.s5 .none O (zt O) (zt O) O O) (rr 3 O (OK.ret (aA.r1 (.tmp O O (.fn (.k (.ptr O O O O) (.k (.ptr O O O O) .z)) O) O) ?_)))))));rfl
