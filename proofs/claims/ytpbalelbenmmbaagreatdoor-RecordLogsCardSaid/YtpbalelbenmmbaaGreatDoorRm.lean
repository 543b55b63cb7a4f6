import Derived.Test.YtpbalelbenmmbaaGreatDoorMd
set_option linter.all false
set_option maxHeartbeats 2000000
namespace Go.Proofs.YtpbalelbenmmbaaGreatDoor
open Go.Ab Tryz
set_option maxRecDepth 9999
def HM.set_set{K:Type}[DecidableEq K](M:HM K)(k:K)(a b:Option (Nat×HK)):(M.set k a).set k b=M.set k b:=by
 grind [HM.set]
def Dz{a b c d:Bool}(h:aF [ae a 2,ae b 5,ae c 6,ae d 17]=0):a=true/\b=true/\c=true/\d=true:=by
 grind [aF,ae]
def GU{a b:Bool}(h:aF [ae a 22,ae b 16]=0):a=true/\b=true:=by
 grind [aF,ae]
def xg{H:ax}{n e:Int}{r c:ba}(he:aF [ae (decide (n<=1000000)) 2,ae (H.vr n).isNone 5,ae ((H.Ec r).isSome&&(H.Bs c).isSome) 6,ae H.xE.isNone 17]=e)(h0:e≠0):fT H n r c=(H,e):=by
 simp_all[fT]
def DA{H:ax}{n:Int}{r c:ba}{k j:Nat}{v:Rec×Int}{q:o6×Int}(h0:aF [ae (decide (n<=1000000)) 2,ae (H.vr n).isNone 5,ae ((H.Ec r).isSome&&(H.Bs c).isSome) 6,ae H.xE.isNone 17]=0)(hk:H.Ec r=some k)(hv:H.aU[k]?=some v)(hj:H.Bs c=some j)(hc:H.aC[j]?=some q):
  fT H n r c=if aF [ae (decide (q.1.shots<q.1.nM)) 22,ae (decide ((H.parts.length:Int)<12)) 16]≠0 then(H,aF [ae (decide (q.1.shots<q.1.nM)) 22,ae (decide ((H.parts.length:Int)<12)) 16])else({H with aC:=H.aC.modify j fun q=>({q.1 with shots:=q.1.shots+1},q.2),parts:=H.parts++[(⟨n,v.1.name,v.1.iN,q.1.name,[],0,false,0,false,Span.zero⟩,[v.2,q.2,H.entries])]},0):=by
 simp_all[fT]
def Ut{H:ax}{n:ba}{j:Nat}(hj:H.Bs n=some j)(hb:H.busy n=false):tS H n=({H with aC:=H.aC.modify j fun q=>({q.1 with shots:=0},q.2)},0):=by
 simp_all[tS]
def PI{H:ax}{n:ba}{j:Nat}(hj:H.Bs n=some j)(hb:H.busy n=true):tS H n=(H,17):=by
 simp_all[tS]
def HA.Qw{A:HA}{n:ba}{j:Nat}{v:fk}(hj:ix (fun v=>decide (v.c.name=n)) A.aC=some j)(hv:A.aC[j]?=some v):v.c.name=n:=by
 grind [eE]
def DB{H:ax}{j:Nat}{c:o6}{e:Int}(h:H.aC[j]?=some (c,e))(f:o6->o6):(H.aC.modify j fun q=>(f c,q.2))=H.aC.modify j fun q=>(f q.1,q.2):=by
 simp_all[cR]
def ax.Ip{H:ax}{i:Nat}{p p1 p2:Part}{es:bd}(h:H.parts[i]?=some (p,es)):((H.eC i fun _=>p1).jO i).eC i (fun _=>p2)=(H.eC i fun _=>p2).jO i:=by
 simp_all[ax.eC,ax.jO,cR,kA]
def HA.GV{A:HA}{h:Mem}{Y:Nat->Prop}{w:World}(hj:aa A.mem h Y w):∀i j,i<A.parts.length->j<A.parts.length->A.pb i=A.pb j->i=j:=fun i j hi hj2 e=>by
 have h1:=HA.Iz hi;have h2:=HA.Iz hj2;rw[←HA.pb_at hi]at h1;rw[←HA.pb_at hj2,←e]at h2;exact Key.p.inj (hj.2 _ _ _ _ _ h1 h2)
def qb(p:Part)(f:Frame):Option Nat:=ix (fun g:Frame=>decide (g.tick=f.tick)) p.frames
def find_ix{α:Type}(g:α->Bool)(l:List α):l.find? g=(ix g l).bind (l[·]?):=by
 have key:∀(l:List α)(k:Nat)(L:List α),(∀i,L[k+i]?=l[i]?)->l.find? g=(iR g k l).bind (L[·]?):=by
  intro l
  induction l with
  |nil=>intro k L _;rfl
  |cons x l ih=>
   intro k L hL;rw[BY,iR];cases hg:g x with
   |true=>simpa using (hL 0).symm
   |false=>
    simp only[sT,if_false];exact ih (k+1) L fun i=>by rw[show k+1+i=k+(i+1)by omega,hL];simp
 grind
def DC{H:ax}{f:Frame}{e0:Int}{i:Nat}(h:H.xE=some i)(h0:e0≠0):frameT H f e0=(H,e0):=by simp_all[frameT]
def DD{H:ax}{f:Frame}{i:Nat}(h:H.xE=some i)(h0:dL H.aS f≠0):frameT H f 0=(H,dL H.aS f):=by simp_all[frameT]
def DE{H:ax}{f:Frame}{i:Nat}(h:H.xE=some i)(h0:dL H.aS f=0)(hn:qb (H.p i) f=none):frameT H f 0=((H.eC i fun p=>{p with frames:=p.frames++[f]}).jO i,0):=by
 unfold frameT;rw[h];dsimp only;rw[Zm C,Zm I,find_ix,show ix _ _=none from hn];rfl
def DF{H:ax}{f g:Frame}{i k:Nat}(h:H.xE=some i)(h0:dL H.aS f=0)(hk:qb (H.p i) f=some k)(hg:(H.p i).frames[k]?=some g):frameT H f 0=if g.values=f.values then(H.jO i,0)else(H,13):=by
 unfold frameT;rw[h];dsimp only;rw[Zm C,Zm I,find_ix,show ix _ _=some k from hk];simp_all
def GW{H:ax}{i:Nat}(h:H.xE=some i):n8 H=((H.eC i (rC H.aS H.env H.bz)).jO i,0):=by unfold n8;rw[h]
def HA.uQ.jq{A A1:HA}{i:Nat}{w:aB}{m:Int}{f:Part->Part}(h:A.uQ A1 i w (A.plain.eC i f) m):A1.aS=A.aS/\A1.env=A.env/\A1.bz=A.bz/\A1.entries=A.entries:=
 ⟨eQ ax.aS h.plain,eQ ax.env h.plain,eQ ax.bz h.plain,eQ ax.entries h.plain⟩
def HA.uQ.I9{A A1:HA}{i:Nat}{w:aB}{m:Int}(h:A.uQ A1 i w (A.plain.jO i) m):A1.aS=A.aS/\A1.env=A.env/\A1.bz=A.bz/\A1.entries=A.entries:=
 ⟨eQ ax.aS h.plain,eQ ax.env h.plain,eQ ax.bz h.plain,eQ ax.entries h.plain⟩
def yl(l:bc)(i:Nat):decide (0<=bq (fun k=>decide (i=k)) 0 l)=l.contains i:=by
 have key:∀(l:bc)(k:Nat),decide (0<=bq (fun k=>decide (i=k)) k l)=l.contains i:=by
  intro l
  induction l with
  |nil=>intro k;rfl
  |cons x l ih=>
   intro k;rw[bq,List.contains_cons];grind
 grind
def Rv{A:HA}{m:Int}(hok:A.Ok m)(hm:m+2<=1000){t:ba}:dF prog 118 [] [.raw (pV A.b),.agg (Words.mk [] [t]).cs] [(3000,.res (aa A.mem))] [(3000,.res (JX A.b (tS A.plain t).1 (m+2)))] (bv (tS A.plain t).2):=by
 refine cG func118 O fun{_ _}=>?_
 have hp3:=HA.nU A t;refine ro 11 O ?_;refine kc (S.aP (n:=0) Z9 .none O (zt O) (.af O) O F O) ?_;refine kc (zV Y9 O O) (kc (S.fI ((fun J hS hJ=>(qJ hok (n:=t) hS hJ).jR hS)) call99 .none O (zc O (zc O .nil)) O O) ?_);refine jm O (kc (S.fI ((fun J hS hJ=>(lg hok hS hJ).jR hS)) call170 .none O (zc O .nil) O O) ?_);refine rr 8 O (kc (S.uA underlying196 .none O (zt O)) (kD (OK.cond O O (fun c16=>?_) (fun c16=>?_))))
 ·have hN:ix (fun v=>decide (v.c.name=t)) A.aC=none:=ku c16;refine ro 5 O ?_;have hT:tS A.plain t=(A.plain,6):=by simp_all[tS]
  refine OK.bU (J':=JX A.b (tS A.plain t).1 (m+2)) O (JX.az _ _ _) (fun h Y w hj=>HA.jx hok I hm (by rw[hT]) hj) ?_;refine OK.ret ⟨aA.r1 (zo O O) ?_,O,Zo⟩;rw[hT]
 obtain⟨j,hj⟩:∃j,ix (fun v=>decide (v.c.name=t)) A.aC=some j:=je c16;obtain⟨cc,hcc⟩:=at_of_lt (eE hj).1;rw[gd hj (HA.cb? hcc)];refine ro 4 O ?_;rcases hu:ix (fun v=>decide (v.p.place=0)) A.parts with _|i
 ·rw[Pu hu];have hB:A.plain.busy t=false:=by grind [ax.busy,HA.nW]
  refine kV (.c (zm O) (.c (S.ET underlying119 .none O (zt O)) (.c (zm O) (.c (zG O (by rfl)) (.c (zG O (by rfl)) (.c (zG O (by rfl)) (.c (zG O (by rfl)) (.c (zG O (by rfl)) (.c (zG O (by rfl)) (.c (zG O (by rfl)) (.c (zG O (by rfl)) (.c (zG O (by rfl)) (.c (zG O (by rfl)) (.c (zG O (by rfl)) (.c (S.aO .none O (zt O) .aJ (by rfl)) .nil))))))))))))))) ?_;refine rd 5 O ?_;have hT:=Ut (hp3.trans hj) hB;refine ro 5 O (kc (S.dc (xs':=({cc with c:={cc.c with shots:=0}}:fk).cs) (.c j) Z8 .none (zt O) (.af O) O (HA.xQ hcc) O O O O O) (rr 3 O ?_));refine OK.Iq {cc.c with shots:=0} hok hcc O (by dsimp only;have:=hok.cl cc (ce hcc);omega) fun A1 hL hcc1=>?_
  refine ro 4 O ?_;refine OK.bU (J':=JX A.b (tS A.plain t).1 (m+2)) O (JX.az _ _ _) (fun h Y w hj=>jM hL.ok I hm hL.b (by rw[hL.plain,hT,←DB (HA.jD hcc) (fun c=>{c with shots:=0})]) hj) ?_;refine OK.ret ⟨aA.r1 (zo O O) ?_,O,Zo⟩;rw[hT]
 obtain⟨v,hv⟩:=at_of_lt (eE hu).1;rw[gd hu (HA.Bt hv)];have hB:A.plain.busy t=decide (v.p.coil=t):=by simp_all[ax.busy,HA.nW,HA.mb]
 refine kV (.c (zm O) (.c (S.ET underlying119 .none O (zt O)) (.c (zm O) (.c (S.move (.yes O O O (by rfl)) O (zt O)) (.c (S.Cn (.yes O O O (by rfl)) O (zt O) O) (.c (S.jC ZZ (.yes O O O (by rfl)) O (zt O)) (.c (S.jC To (.yes O O O (by rfl)) O (zt O)) (.c (S.aG Y9 (.yes O O O (by rfl)) O (zt O) O (aa.dQ (k:=.p i) (HA.dm hv) O (.same _))) (.c (S.move (.yes O O O (by rfl)) O (zt O)) (.c (S.Cn (.yes O O O (by rfl)) O (zt O) O) (.c (S.jC XR (.yes O O O (by rfl)) O (zt O)) (.c (S.jC Tg (.yes O O O (by rfl)) O (zt O)) (.c (S.aG Y9 (.yes O O O (by rfl)) O (zt O) O (aa.dQ (k:=.c j) (HA.xQ hcc) O (.same _))) (.c (S.eN (.yes O O O (by rfl)) O (zt O) (zt O)) (.c (S.aQ .none O (zt O) (zt O) (by rfl)) .nil))))))))))))))) ?_;refine Ab.D.code (kB O (fun c31=>?_) (fun c31=>?_))
 ·have hT:=PI (hp3.trans hj) (by rw[hB,jn,←HA.Qw hj hcc];exact c31);refine ro 5 O ?_;refine OK.bU (J':=JX A.b (tS A.plain t).1 (m+2)) O (JX.az _ _ _) (fun h Y w hj=>HA.jx hok I hm (by rw[hT]) hj) ?_;refine OK.ret ⟨aA.r1 (zo O O) ?_,O,Zo⟩;rw[hT]
 have hT:=Ut (hp3.trans hj) (by rw[hB,ub,←HA.Qw hj hcc];exact c31);refine ro 8 O (kc (S.dc (xs':=({cc with c:={cc.c with shots:=0}}:fk).cs) (.c j) Z8 .none (zt O) (.af O) O (HA.xQ hcc) O O O O O) (rr 3 O ?_));refine OK.Iq {cc.c with shots:=0} hok hcc O (by dsimp only;have:=hok.cl cc (ce hcc);omega) fun A1 hL hcc1=>?_
 refine ro 4 O ?_;refine OK.bU (J':=JX A.b (tS A.plain t).1 (m+2)) O (JX.az _ _ _) (fun h Y w hj=>jM hL.ok I hm hL.b (by rw[hL.plain,hT,←DB (HA.jD hcc) (fun c=>{c with shots:=0})]) hj) ?_;refine OK.ret ⟨aA.r1 (zo O O) ?_,O,Zo⟩;rw[hT]
def Bg{A:HA}{m:Int}(hok:A.Ok m)(hm:m+2<=1000){n:Int}{r c:ba}:dF prog 112 [] [.raw (pV A.b),.agg (Words.mk [n] [r,c]).cs] [(3000,.res (aa A.mem))] [(3000,.res (JX A.b (fT A.plain n r c).1 (m+2)))] (bv (fT A.plain n r c).2):=by
 refine cG func112 O fun{_ _}=>?_
 have hp1:=HA.gG A n;have hp2:=HA.nV A r;have hp3:=HA.nU A c;have hp4:=HA.nW A;have hlp:=hok.lp;have hm0:=hok.m0;have hPl:(A.plain.parts.length:Int)=A.parts.length:=by show((A.parts.map _).length:Int)=_;rw[Zx]
 obtain⟨e,he⟩:∃e,aF [ae (decide (n<=1000000)) 2,ae (A.plain.vr n).isNone 5,ae ((A.plain.Ec r).isSome&&(A.plain.Bs c).isSome) 6,ae A.plain.xE.isNone 17]=e:=⟨_,rfl⟩;have hw:=he;rw[hp1,hp2,hp3,hp4]at hw;refine ro 10 O ?_;refine kc (S.aP (n:=0) Z4 .none O (zt O) (.af O) O (by exact pp _) O) ?_;refine rr 5 O ?_;refine kV (.c (zm O) (.c (zf VO O) (.c (zl Xl O O O O) (.c (S.aP (n:=0) Z9 .none O (zt O) (.af O) O (by exact pp _) O) (.c (zV Y9 O O) (.c (S.fI ((fun J hS hJ=>(l9 hok (n:=r) hS hJ).jR hS)) call101 .none O (zc O (zc O .nil)) O O) (.c (zm O) (.c (zf VO O) (.c (zl Xl O O O O) (.c (S.aP (n:=1) Z9 .none O (zt O) (.af O) O (by exact Nat.one_lt_two) O) (.c (zV Y9 O O) (.c (S.fI ((fun J hS hJ=>(qJ hok (n:=c) hS hJ).jR hS)) call99 .none O (zc O (zc O .nil)) O O) (.c (za O) (.c (za O) .nil)))))))))))))) ?_;refine rd 5 O (kc (zK ak call58 O) (jm O (jm O (kc (S.fI ((fun J hS hJ=>(qY hok (n:=n) hS hJ).jR hS)) call141 .none O (zc O (zc O .nil)) O O) ?_))));refine kc (S.uA underlying119 .none O (zt O)) (kc (zK ak call58 O) (jm O (kc (S.ET underlying126 .none O (zt O)) (jm O (RK.split (t:=36) O (fun g36=>?_) (fun g36=>?_))))))
 ·have hb:(dG (fun v=>decide (v.r.name=r)) A.aU).isSome=true:=by simpa only[uR]using g36
  rw[hb,lx]at hw;refine kc (S.move (zg O O) O (zt O)) (kc (S.ET underlying196 (zg O O) O (zt O)) (kc (S.aQ .none O (zt O) (zt O) O) (kc (zK ak call58 O) (jm O (kc (S.fI ((fun J hS hJ=>(lg hok hS hJ).jR hS)) call170 .none O (zc O .nil) O O) ?_)))));refine kc (S.uA underlying119 .none O (zt O)) (kc (zK ak call58 O) (RK.c (zM [[_],[_],[_],[_]] ZX O O O O) (kc (S.callL (bF (l:=[_,_,_,_])) call57 .none O (zc O .nil) (.cons (.p (.own O O) O) .nil) O) ?_)));refine rr 10 O (kB O (fun c48=>?_) (fun c48=>?_))
  ·simp only[r8,uR,nj,ib,pA]at c48;rw[hw]at c48;have hT:=xg he c48;refine ro 6 O ?_;refine OK.bU (J':=JX A.b (fT A.plain n r c).1 (m+2)) O (JX.az _ _ _) (fun h Y w hj=>HA.jx hok I hm (by rw[hT]) hj) ?_;refine OK.ret ⟨aA.r1 (zo O O) ?_,O,Zo⟩;rw[hT];refine cy ?_;simp only[r8,uR,nj,ib,pA];exact hw
  have h0:e=0:=by rw[←hw];simpa only[r8,uR,nj,ib,pA,ne_eq,Zu]using c48
  rw[h0]at he hw;obtain⟨q1,q2,q3,q4⟩:=Dz hw;obtain⟨k,hk⟩:=fj.1 hb;obtain⟨hk1,_⟩:=j5 hk;obtain⟨vv,hvv⟩:=at_of_lt hk1;obtain⟨j,hj⟩:=fj.1 q3;obtain⟨cc,hcc⟩:=at_of_lt (eE hj).1;have hcl:=hok.cl cc (ce hcc);rw[gd hk (HA.IB hvv),gd hj (HA.cb? hcc)];have hT2:=DA he (hp2.trans hk) (HA.oe hvv) (hp3.trans hj) (HA.jD hcc);rw[hPl]at hT2;refine ro 4 O ?_;refine kV (.c (zm O) (.c (zn O O) (.c (zr XR O) (.c (zr Yy O) (.c (zH Z8 O (aa.dQ (k:=.c j) (HA.xQ hcc) O (.same _))) (.c (zm O) (.c (zn O O) (.c (zr XR O) (.c (zr Th O) (.c (zH Z8 O (aa.dQ (k:=.c j) (HA.xQ hcc) O (.same _))) (.c (S.lss .none O (zt O) (zt O)) (.c (zK ak call58 O) (.c (zm O) (.c (zn O O) (.c (zr VL O) (.c (zH (u:=.sl (A.parts.map iA)) YD O (aa.dQ (k:=.bn) O O (.sl hok.ps))) (.c (zk YS O) (.c (S.lss .none O (zt O) (.af O)) (.c (zK ak call58 O) (.c (zM [[_],[_]] ZX O O O O) (.c (S.callL (bF (l:=[_,_])) call57 .none O (zc O .nil) (.cons (.p (.own O O) O) .nil) O) (.c (za O) .nil)))))))))))))))))))))) ?_;refine rd 7 O (kB O (fun c72=>?_) (fun c72=>?_))
  ·have hT:=hT2.trans (Zn c72);refine ro 6 O ?_;refine OK.bU (J':=JX A.b (fT A.plain n r c).1 (m+2)) O (JX.az _ _ _) (fun h Y w hj=>HA.jx hok I hm (by rw[hT]) hj) ?_;refine OK.ret ⟨aA.r1 (zo O O) ?_,O,Zo⟩;rw[hT]
  have hT:=hT2.trans (Zm c72);obtain⟨s1,s2⟩:=GU (Zu.1 c72);have hsl:cc.c.shots<cc.c.nM:=dC s1;refine ro 8 O ?_;refine kc (zH Z8 O (aa.dQ (k:=.c j) (HA.xQ hcc) O (.same _))) ?_;refine Rr 4 O I (kc (S.dc (xs':=({cc with c:={cc.c with shots:=cc.c.shots+1}}:fk).cs) (.c j) Z8 .none (zt O) (zt O) O (HA.xQ hcc) O O O O O) ?_);refine rr 3 O ?_;refine OK.Iq {cc.c with shots:=cc.c.shots+1} hok hcc O (by dsimp only;omega) fun A1 hL hcc1=>?_
  have hvv1:A1.aU[k]?=some vv:=by rw[hL.aU];exact hvv
  have hok1:=hL.ok;have hlp1:=hok1.lp;rw[←hL.b];refine OK.drawY follows (ι:=((Nat×Nat)×Nat×Nat×Nat)) ((0,0),0,0,0) 33 O (S.GQ (s:=[(87,.raw (A1.ph.v A1.parts.length)),(115,.own 115 1),(2115,.cM 1 [] [.di 114 1 0] []),(2114,.cM 14 [] [bv n,.str vv.r.name,bv vv.r.iN,.str cc.c.name,.bO,bv 0,.bool false,bv 0,.bool false,bv 0,bv 0,bv 0,bv 0,.own 112 3] []),(2112,.arr 1 [[bv vv.entry],[bv cc.entry],[bv A1.entries]]),(3000,.res (aa A1.mem))]) (sz:=14) (sz2:=1) (j:=115) (k:=114) (k2:=112) (n2:=3) (cells:=[bv n,.str vv.r.name,bv vv.r.iN,.str cc.c.name,.bO,bv 0,.bool false,bv 0,.bool false,bv 0,bv 0,bv 0,bv 0,.own 112 3]) (rows2:=[[bv vv.entry],[bv cc.entry],[bv A1.entries]]) (fun hv=>[bv n,.str vv.r.name,bv vv.r.iN,.str cc.c.name,.raw (.slice none 0 0),bv 0,.bool false,bv 0,.bool false,bv 0,bv 0,bv 0,bv 0,.raw hv]) .ps (.p A1.parts.length) (.e A1.parts.length) PU O (zt O) hok1.ps Z Z (zt O) O O O O C O O (fun b cap=>⟨.inl ⟨O,O⟩,.inl ⟨O,O⟩,.inl ⟨O,O⟩,.inl ⟨O,O⟩,.inl ⟨O,O⟩,.inl ⟨O,O⟩,.inl ⟨O,O⟩,.inl ⟨O,O⟩,.inl ⟨O,O⟩,.inl ⟨O,O⟩,.inl ⟨O,O⟩,.inl ⟨O,O⟩,.inl ⟨O,O⟩,.inr ⟨O,O⟩,Zo⟩) (by simp only[Zx];omega) (by simp only[Zx,maxLen];omega)).st (fun q=>(.cs (zm O) (.cs (zm O) (.cs (zn O O) (.cs (zr VL O) (.cs (zH YD O (aa.dQ (k:=.bn) O O (.same _))) (.cs (zm O) (.cs (zm O) (.cs (zn O O) (.cs (zr VN O) (.cs (zr WY O) (.cs (zJ (us:=[.str vv.r.name,bv vv.r.iN]) V7 O (aa.Ej (k:=.v k) (xs:=vv.cs) (HA.Cz hvv1) ⟨.same _,.same _,Zo⟩ O)) (.cs (zm O) (.cs (zn O O) (.cs (zr XR O) (.cs (zr Tg O) (.cs (zH Y9 O (aa.dQ (k:=.c j) (HA.xQ hcc1) O (.same _))) (.cs (zU bu68 O O) (.cs (zm O) (.cs (zn O O) (.cs (zr Qh O) (.cs (zH Z8 O (aa.dQ (k:=.v k) (HA.Cz hvv1) O (.same _))) (.cs (zm O) (.cs (zn O O) (.cs (zr Qk O) (.cs (zH Z8 O (aa.dQ (k:=.c j) (HA.xQ hcc1) O (.same _))) (.cs (zm O) (.cs (zn O O) (.cs (zr Zd O) (.cs (zH Z8 O (aa.dQ (k:=.bn) O O (.same _))) (.cs (zM [[_],[_],[_]] ZY O O O O) (.cs (zU bu123 O O) (.cs (S.Ex (k:=114) O .none O (zt O) O) (.cs (S.q9 (k:=115) PU .none O (zt O) O)
   (.x ⟨O,O,O,O,O,O,Zo⟩ (.cn (zn O O) (.cn (zr VL O) (.cn (S.dc (xs:=A1.cs) (xs':=(A1.rT ⟨q.2.1,none,some q.1,⟨n,vv.r.name,vv.r.iN,cc.c.name,[],0,false,0,false,Span.zero⟩,[vv.entry,cc.entry,A1.entries]⟩ q.2.2).cs) (.bn) YD .none (zt O) (zt O) O ((HM.ai _ _ Z).trans ((HM.ai _ _ Z).trans ((HM.ai _ _ Z).trans A1.ID))) O O O O (Fa A1 ⟨q.2.1,none,some q.1,⟨n,vv.r.name,vv.r.iN,cc.c.name,[],0,false,0,false,Span.zero⟩,[vv.entry,cc.entry,A1.entries]⟩ q.2.2)) .nil)))))))))))))))))))))))))))))))))))))) (fun q=>?_)
  refine Ab.D.code (kO ?_);refine OK.rT ⟨n,vv.r.name,vv.r.iN,cc.c.name,[],0,false,0,false,Span.zero⟩ [vv.entry,cc.entry,A1.entries] hok1 I O O O (by dsimp only;decide) ⟨hok1.vn vv (ce hvv1),hok.cn cc (ce hcc)⟩ fun A2 hok2 hb2 hpl2=>?_
  refine ro 4 O ?_;refine OK.bU (J':=JX A1.b (fT A.plain n r c).1 (m+2)) O (JX.az _ _ _) (fun h Y w hj=>jM hok2 I hm hb2 (by rw[hpl2,hL.plain,hT,←DB (HA.jD hcc) (fun c=>{c with shots:=c.shots+1}),hL.entries];rfl) hj) ?_;refine OK.ret ⟨aA.r1 (zo O O) ?_,O,Zo⟩;rw[hT]
 have hb:(dG (fun v=>decide (v.r.name=r)) A.aU).isSome=false:=by simpa[uR]using g36
 rw[hb,lL]at hw;refine rr 3 O (kc (zK ak call58 O) (jm O (kc (S.fI ((fun J hS hJ=>(lg hok hS hJ).jR hS)) call170 .none O (zc O .nil) O O) ?_)));refine kc (S.uA underlying119 .none O (zt O)) (kc (zK ak call58 O) (RK.c (zM [[_],[_],[_],[_]] ZX O O O O) (kc (S.callL (bF (l:=[_,_,_,_])) call57 .none O (zc O .nil) (.cons (.p (.own O O) O) .nil) O) ?_)));refine rr 10 O (kB O (fun c48=>?_) (fun c48=>?_))
 ·simp only[r8,uR,nj,ib,pA]at c48;rw[hw]at c48;have hT:=xg he c48;refine ro 6 O ?_;refine OK.bU (J':=JX A.b (fT A.plain n r c).1 (m+2)) O (JX.az _ _ _) (fun h Y w hj=>HA.jx hok I hm (by rw[hT]) hj) ?_;refine OK.ret ⟨aA.r1 (zo O O) ?_,O,Zo⟩;rw[hT];refine cy ?_;simp only[r8,ib,pA];exact hw
 exfalso;have h0:e=0:=by rw[←hw];simpa only[r8,uR,nj,ib,pA,ne_eq,Zu]using c48
 rw[h0]at hw;obtain⟨_,_,q3,_⟩:=Dz hw;cases q3
def Fb{A:HA}{m:Int}(hok:A.Ok m)(hm:m+2<=1000){w:Words}:dF prog 114 [] [.raw (pV A.b),.agg w.cs] [(3000,.res (aa A.mem))] [(3000,.res (JX A.b (n8 A.plain).1 (m+2)))] (bv (n8 A.plain).2):=by
 refine cG func114 O fun{_ _}=>?_
 have hp4:=HA.nW A;refine ro 9 O (kc (S.fI ((fun J hS hJ=>(lg hok hS hJ).jR hS)) call170 .none O (zc O .nil) O O) ?_);refine rr 7 O (kc (S.uA underlying119 .none O (zt O)) (kD (OK.cond O O (fun c9=>?_) (fun c9=>?_))))
 ·have hN:ix (fun v=>decide (v.p.place=0)) A.parts=none:=ku c9;refine ro 5 O ?_;have hT:n8 A.plain=(A.plain,12):=by unfold n8;rw[hp4,hN]
  refine OK.bU (J':=JX A.b (n8 A.plain).1 (m+2)) O (JX.az _ _ _) (fun h Y w hj=>HA.jx hok I hm (by rw[hT]) hj) ?_;refine OK.ret ⟨aA.r1 (zo O O) ?_,O,Zo⟩;rw[hT]
 obtain⟨i,hpi⟩:∃i,ix (fun v=>decide (v.p.place=0)) A.parts=some i:=je c9;obtain⟨v,hv⟩:=at_of_lt (eE hpi).1;rw[gd hpi (HA.Bt hv)];refine ro 3 O ?_;have hT:=GW (hp4.trans hpi);refine ro 6 O ?_;refine kc (zH SP O (aa.dQ (k:=.bn) O O (.same _))) ?_;refine rr 3 O (kc (S.dc (xs':=({v with p:={v.p with place:=1}}:aB).cs) (.p i) Z8 .none (zt O) (.af O) O (HA.dm hv) O O O O O) (rr 3 O ?_));refine kc (S.dc (xs':=({v with p:={v.p with place:=1,lP:=A.bz}}:aB).cs) (.p i) SP .none (zt O) (zt O) O (HM.bw _ _ _) O O O O O) ?_;refine rr 3 O ?_;rw[HM.set_set];refine OK.y9 {v.p with place:=1,lP:=A.bz} hok hv O O (by dsimp only;decide) fun A1 hL=>?_
 have hok1:=hL.ok;obtain⟨hn1,hn2,hn3,hn4⟩:=hL.jq;obtain⟨v1,hv1,hvb1,hvp1⟩:∃v1:aB,A1.parts[i]?=some v1/\v1.b=v.b/\v1.p={v.p with place:=1,lP:=A.bz}:=⟨_,hL.at_,rfl,rfl⟩;rw[←hvb1,←hL.b];refine OK.drawY follows (ι:=(Nat×Nat)) (0,0) 10 O (S.happR (s:=[(26,.raw (v1.eh.v v1.es.length)),(31,.own 31 1),(2031,.arr 1 [[bv A1.entries]]),(3000,.res (aa A1.mem))]) (m:=1) (rows2:=[[bv A1.entries]]) (.e i) ZY O (zt O) (hok1.IG hv1) (zt O) O O O C (by simp only[bM,Zx];have:=hok1.le _ (ce hv1);have:=hok1.m0;omega) (by simp only[bM,Zx,maxLen];have:=hok1.le _ (ce hv1);have:=hok1.m0;omega)).st (fun q=>(.cs (zm O) (.cs (zm O) (.cs (zn O O) (.cs (zr Zc O) (.cs (zH ZA O (aa.dQ (k:=.p i) (HA.dm hv1) O (.same _))) (.cs (zm O) (.cs (zn O O) (.cs (zr Zd O) (.cs (zH Z8 O (aa.dQ (k:=.bn) O O (.same _))) (.cs (zM [[_]] ZY O O O O)
  (.x ⟨O,O,O,O,Zo⟩ (.cn (zn O O) (.cn (zr Zc O) (.cn (S.dc (xs:=v1.cs) (xs':=({v1 with eh:=some q,es:=v1.es++[A1.entries]}:aB).cs) (.p i) ZA .none (zt O) (zt O) O ((HM.ai _ _ Z).trans (HA.dm hv1)) O O O O (ni v1 q _)) .nil))))))))))))))) (fun q=>?_)
 refine rd 3 O ?_;refine OK.ze q _ hok1 I hv1 O O fun A2 hL2=>?_
 have hok2:=hL2.ok;obtain⟨hk1,hk2,hk3,hk4⟩:=hL2.I9;obtain⟨v2,hv2,hvb2,hvp2⟩:∃v2:aB,A2.parts[i]?=some v2/\v2.b=v1.b/\v2.p=v1.p:=⟨_,hL2.at_,rfl,rfl⟩;rw[←hvb2,←hL2.b];refine ro 4 O ?_;refine kc (zH SP O (aa.dQ (k:=.bn) O O (.same _))) (kD (OK.cond O O (fun c38=>?_) (fun c38=>?_)))
 ·have hl:A.bz=true:=by rw[←hn3,←hk3];exact c38
  have hF:({v2.p with verdict:=if dZ A2.aS A2.env (fM A2.aS v2.p.frames)=0 then oX A2.env (fM A2.aS v2.p.frames)else 0}:Part)=rC A.plain.aS A.plain.env A.plain.bz v.p:=by
   rw[hvp2,hvp1,hk1,hk2,hn1,hn2];show _=rC A.aS A.env A.bz v.p;unfold rC;rw[Zn hl]
  refine kV (.c (zm O) (.c (zm O) (.c (zn O O) (.c (zr Y5 O) (.c (zr WX O) (.c (zJ (us:=A2.aS.cs) Za O (aa.Ej (k:=.bn) (xs:=A2.cs) O ⟨.same _,.same _,Zo⟩ O)) (.c (zm O) (.c (zn O O) (.c (zr Qf O) (.c (zJ (us:=A2.env.cs) WM O (aa.Ej (k:=.bn) (xs:=A2.cs) O ⟨.same _,.same _,.same _,Zo⟩ O)) (.c (zm O) (.c (zm O) (.c (S.fI ((fun J hS hJ=>(mm hok2 hv2 hS hJ).jR hS)) call177 .none O (zc O (zc O .nil)) O O) (.c (zK sw call176 O) (.c (zm O) (.c (zX O O O) (.c (zX O O O) (.c (zn O O) (.c (zr ZZ O) (.c (zr Q8 O) (.c (S.dc (xs':=({v2 with p:={v2.p with verdict:=if dZ A2.aS A2.env (fM A2.aS v2.p.frames)=0 then oX A2.env (fM A2.aS v2.p.frames)else 0}}:aB).cs) (.p i) Z8 .none (zt O) (zt O) O (HA.dm hv2) O O O O O) .nil))))))))))))))))))))) ?_;refine Ab.D.code (kO (OK.y9 {v2.p with verdict:=if dZ A2.aS A2.env (fM A2.aS v2.p.frames)=0 then oX A2.env (fM A2.aS v2.p.frames)else 0} hok2 hv2 O O (hok2.pl v2 (ce hv2)) fun A3 hL3=>?_));refine ro 4 O ?_;refine OK.bU (J':=JX A2.b (n8 A.plain).1 (m+2)) O (JX.az _ _ _) (fun h Y w hj=>jM hL3.ok I hm hL3.b (by rw[hL3.plain,hL2.plain,hL.plain,hT,ax.Ip (HA.dh hv),hF,ax.pZ (HA.dh hv)]) hj) ?_;refine OK.ret ⟨aA.r1 (zo O O) ?_,O,Zo⟩;rw[hT]
 have hl:¬A.bz=true:=by rw[←hn3,←hk3,c38];decide
 refine ro 4 O (kc (S.fI ((fun J hS hJ=>(oT hok2 hv2 hS hJ).jR hS)) call178 .none O (zc O (zc O .nil)) O O) ?_);refine kc (S.not .none O (zt O)) (kD (OK.cond O O (fun c62=>?_) (fun c62=>?_)))
 ·have hF:({v2.p with verdict:=1}:Part)=rC A.plain.aS A.plain.env A.plain.bz v.p:=by
   have hw:¬mw A.aS v.p=true:=by
    have h:=c62;rw[hvp2,hvp1,hk1,hn1]at h;unfold mw;simpa using h
   rw[hvp2,hvp1];show _=rC A.aS A.env A.bz v.p;unfold rC;rw[Zm hl,Zm hw]
  refine ro 5 O (kc (S.dc (xs':=({v2 with p:={v2.p with verdict:=1}}:aB).cs) (.p i) Z8 .none (zt O) (.af O) O (HA.dm hv2) O O O O O) (rr 3 O (OK.y9 {v2.p with verdict:=1} hok2 hv2 O O (hok2.pl v2 (ce hv2)) fun A3 hL3=>?_)));refine ro 4 O ?_;refine OK.bU (J':=JX A2.b (n8 A.plain).1 (m+2)) O (JX.az _ _ _) (fun h Y w hj=>jM hL3.ok I hm hL3.b (by rw[hL3.plain,hL2.plain,hL.plain,hT,ax.Ip (HA.dh hv),hF,ax.pZ (HA.dh hv)]) hj) ?_;refine OK.ret ⟨aA.r1 (zo O O) ?_,O,Zo⟩;rw[hT]
 have hF:({v.p with place:=1,lP:=A.bz}:Part)=rC A.plain.aS A.plain.env A.plain.bz v.p:=by
  have hw:mw A.aS v.p=true:=by
   have h:=c62;rw[hvp2,hvp1,hk1,hn1]at h;unfold mw;simpa using h
  show _=rC A.aS A.env A.bz v.p;unfold rC;rw[Zm hl,Zn hw]
 refine ro 7 O ?_;refine OK.bU (J':=JX A2.b (n8 A.plain).1 (m+2)) O (JX.az _ _ _) (fun h Y w hj=>jM hL2.ok I hm O (by rw[hL2.plain,hL.plain,hT,hF,ax.pZ (HA.dh hv)]) hj) ?_;refine OK.ret ⟨aA.r1 (zo O O) ?_,O,Zo⟩;rw[hT]
def ym{g f:Frame}:Ct prog 174 [.agg g.cs,.b5 f.cs] (.bool (decide (g.tick=f.tick))):=by
 refine cI func174 O (ro 16 O (kR O O ?_));rfl
def xh{l:List Frame}{f:Frame}:Ct prog 173 [.sl (l.map Frame.cs),.fn 174 [.b5 f.cs]] (bv (bq (fun g:Frame=>decide (g.tick=f.tick)) 0 l)):=by
 refine cI func173 O (OK.eW (rows:=l.map Frame.cs) (t:=0) O O fun hlen=>?_);rw[Zx]at hlen;unfold maxLen at hlen;refine ro 9 O (kc (zk Xj O) (rr 4 O ?_));refine OK.loop (G:=Nat) [] (fun i=>[(0,.sl (l.map Frame.cs)),(1,.fn 174 [.b5 f.cs]),(7,bv l.length),(8,bv i)]) (fun i=>i<=l.length/\bq (fun g:Frame=>decide (g.tick=f.tick)) 0 l=bq (fun g:Frame=>decide (g.tick=f.tick)) i (l.drop i)) (fun i=>l.length - i) 0 ⟨Zr _,O⟩ ⟨O,O,O,O,Zo⟩ (fun _=>O) ?_;rintro i ⟨hi,hg⟩;refine ro 6 O (kB O (fun c9=>?_) (fun c9=>?_))
 ·have hil:i<l.length:=by omega
  refine ro 15 O (kc (zI Xj O I O) (kc (S.fG Ye .none O (zt O) O O) (kc (S.ij (ym (g:=l[i]) (f:=f)) call174 .none O (zt O) (zc O .nil) O O O) (kD (kB O (fun c16=>?_) (fun c16=>?_))))))
  ·refine ro 6 O (kR O O ?_);simp_all[bT]
  refine Ro 7 O I (Ab.D.lp ⟨i+1,⟨by omega,?_⟩,I,O,O,O,O,Zo⟩);simp_all[bT]
 refine ro 7 O (kR O O ?_);refine cy ?_;have:i=l.length:=by omega
 subst this;rw[hg,co];rfl
def Bh{A:HA}{m:Int}(hok:A.Ok m)(hm:m+2<=1000){t:ba}(ht:t.length<=600)(hpe:bA A.aS=0):dU prog 113 [] [.raw (pV A.b),.agg (Words.mk [] [t]).cs] [(3000,.res (aa A.mem))] [(3000,.res (JX A.b (frameT A.plain (aY t).1 (aY t).2).1 (m+2)))] (bv (frameT A.plain (aY t).1 (aY t).2).2):=by
 refine cH func113 O fun hT=>?_
 have hp4:=HA.nW A;have hm0:=hok.m0;refine ro 9 O (kc (S.fI ((fun J hS hJ=>(lg hok hS hJ).jR hS)) call170 .none O (zc O .nil) O O) ?_);refine rr 7 O (kc (S.uA underlying119 .none O (zt O)) (kD (OK.cond O O (fun c12=>?_) (fun c12=>?_))))
 ·have hN:ix (fun v=>decide (v.p.place=0)) A.parts=none:=ku c12;refine ro 5 O ?_;have hT:frameT A.plain (aY t).1 (aY t).2=(A.plain,12):=by unfold frameT;rw[hp4,hN]
  refine OK.bU (J':=JX A.b (frameT A.plain (aY t).1 (aY t).2).1 (m+2)) O (JX.az _ _ _) (fun h Y w hj=>HA.jx hok I hm (by rw[hT]) hj) ?_;refine OK.ret ⟨aA.r1 (zo O O) ?_,O,Zo⟩;rw[hT]
 obtain⟨i,hpi⟩:∃i,ix (fun v=>decide (v.p.place=0)) A.parts=some i:=je c12;obtain⟨v,hv⟩:=at_of_lt (eE hpi).1;rw[gd hpi (HA.Bt hv)];refine ro 3 O ?_;have hux:=hp4.trans hpi;have hlf:=hok.lf v (ce hv);refine ro 3 O ?_;refine kc (S.aP (n:=0) Z9 .none O (zt O) (.af O) O (by exact pp _) O) (kc (zV Y9 O O) (kc (S.dB (q8 (l:=t) I) hT call171 .none O (zc O .nil) O) ?_));refine rr 15 O (kB O (fun c22=>?_) (fun c22=>?_))
 ·refine kV (.c (zm O) (.c (zn O O) (.c (zr Y5 O) (.c (zr WX O) (.c (zJ (us:=A.aS.cs) Za O (aa.Ej (k:=.bn) (xs:=A.cs) O ⟨.same _,.same _,Zo⟩ O)) (.c (zL Ye O O O O) (.c (zK rD call172 O) (.c (za O) .nil)))))))) ?_;refine rd 8 O (kB O (fun c31=>?_) (fun c31=>?_))
  ·rw[Zn hpe]at c31;have hT:frameT A.plain (aY t).1 (aY t).2=(A.plain,dL A.aS (aY t).1):=by rw[c22];exact DD hux c31
   refine ro 6 O ?_;refine OK.bU (J':=JX A.b (frameT A.plain (aY t).1 (aY t).2).1 (m+2)) O (JX.az _ _ _) (fun h Y w hj=>HA.jx hok I hm (by rw[hT]) hj) ?_;refine OK.ret ⟨aA.r1 (zo O O) ?_,O,Zo⟩;rw[hT,Zn hpe]
  rw[Zn hpe]at c31;have hfe:dL A.aS (aY t).1=0:=Zu.1 c31;refine ro 3 O (OK.freezeP [] [(0,.raw (pV A.b)),(5,.raw (pV v.b)),(3000,.res (aa A.mem))] 6 O O O O O O ⟨O,O,O,Zo⟩ O (ro 5 O (kc (zH (u:=.sl (v.p.frames.map Frame.cs)) XM O (aa.dQ (k:=.p i) (HA.dm hv) O (.sl (hok.IE hv)))) (kc (S.dx .none O (zt O) O) (kc (zK (xh (l:=v.p.frames) (f:=(aY t).1)) call173 O) (rr 12 O (kB O (fun c40=>?_) (fun c40=>?_))))))))
  ·have hN:qb (A.plain.p i) (aY t).1=none:=by
    rw[HA.mb hv];rw[my]at c40;unfold qb;cases h:ix (fun g:Frame=>decide (g.tick=(aY t).1.tick)) v.p.frames with
    |none=>rfl
    |some k=>rw[h]at c40;simp at c40;omega
   have hT:frameT A.plain (aY t).1 (aY t).2=((A.plain.eC i fun p=>{p with frames:=p.frames++[(aY t).1]}).jO i,0):=by rw[c22];exact DE hux hfe hN
   refine OK.drawY follows (ι:=(Nat×Nat)) (0,0) 8 O (S.Ie (s:=[(48,.raw (v.fh.v v.p.frames.length)),(50,.own 50 1),(2050,.arr 2 [(aY t).1.cs]),(3000,.res (aa A.mem))]) (m:=1) (rows2:=[(aY t).1.cs]) (.f i) O5 O (zt O) (hok.IE hv) (zt O) O O O C (by simp only[Zx];omega) (by simp only[Zx,maxLen];omega)).st (fun q=>(.cs (zm O) (.cs (zm O) (.cs (zn O O) (.cs (zr ZZ O) (.cs (zr Zf O) (.cs (zH XM O (aa.dQ (k:=.p i) (HA.dm hv) O (.same _))) (.cs (S.fG Ye .none O (zt O) O O) (.cs (zM [[_,_]] O5 O O O O)
    (.x ⟨O,O,O,O,Zo⟩ (.cn (zn O O) (.cn (zr ZZ O) (.cn (zr Zf O) (.cn (S.dc (xs:=v.cs) (xs':=({v with fh:=some q,p:={v.p with frames:=v.p.frames++[(aY t).1]}}:aB).cs) (.p i) XM .none (zt O) (zt O) O ((HM.ai _ _ Z).trans (HA.dm hv)) O O O O (CT v q _)) .nil)))))))))))))) (fun q=>?_)
   refine rd 3 O (OK.HU q (aY t).1 hok I hv O fun A1 hL=>?_);have hok1:=hL.ok;obtain⟨v1,hv1,hvb1⟩:∃v1:aB,A1.parts[i]?=some v1/\v1.b=v.b:=⟨_,hL.at_,rfl⟩;have hb1:=hL.b;have hT1:frameT A.plain (aY t).1 (aY t).2=(A1.plain.jO i,0):=by rw[hT,hL.plain]
   rw[←hvb1,←hb1];refine OK.drawY follows (ι:=(Nat×Nat)) (0,0) 10 O (S.happR (s:=[(73,.raw (v1.eh.v v1.es.length)),(78,.own 78 1),(2078,.arr 1 [[bv A1.entries]]),(3000,.res (aa A1.mem))]) (m:=1) (rows2:=[[bv A1.entries]]) (.e i) ZY O (zt O) (hok1.IG hv1) (zt O) O O O C (by simp only[bM,Zx];have:=hok1.le _ (ce hv1);have:=hok1.m0;omega) (by simp only[bM,Zx,maxLen];have:=hok1.le _ (ce hv1);have:=hok1.m0;omega)).st (fun q=>(.cs (zm O) (.cs (zm O) (.cs (zn O O) (.cs (zr Zc O) (.cs (zH ZA O (aa.dQ (k:=.p i) (HA.dm hv1) O (.same _))) (.cs (zm O) (.cs (zn O O) (.cs (zr Zd O) (.cs (zH Z8 O (aa.dQ (k:=.bn) O O (.same _))) (.cs (zM [[_]] ZY O O O O)
    (.x ⟨O,O,O,O,Zo⟩ (.cn (zn O O) (.cn (zr Zc O) (.cn (S.dc (xs:=v1.cs) (xs':=({v1 with eh:=some q,es:=v1.es++[A1.entries]}:aB).cs) (.p i) ZA .none (zt O) (zt O) O ((HM.ai _ _ Z).trans (HA.dm hv1)) O O O O (ni v1 q _)) .nil))))))))))))))) (fun q=>?_)
   refine Ab.D.code (kO (OK.ze q _ hok1 I hv1 O O fun A2 hL2=>?_));refine ro 4 O ?_;refine OK.bU (J':=JX A1.b (frameT A.plain (aY t).1 (aY t).2).1 (m+2)) O (JX.az _ _ _) (fun h Y w hj=>jM hL2.ok I hm hL2.b (by rw[hL2.plain,hT1]) hj) ?_;refine OK.ret ⟨aA.r1 (zo O O) ?_,O,Zo⟩;rw[hT1]
  obtain⟨k,hk⟩:∃k,ix (fun g:Frame=>decide (g.tick=(aY t).1.tick)) v.p.frames=some k:=by
   rw[my]at c40;cases h:ix (fun g:Frame=>decide (g.tick=(aY t).1.tick)) v.p.frames with
   |none=>rw[h]at c40;simp at c40
   |some k=>exact⟨k,rfl⟩
  obtain⟨hkl,_⟩:=eE hk;have hik:bq (fun g:Frame=>decide (g.tick=(aY t).1.tick)) 0 v.p.frames=(k:Int):=by rw[my,hk]
  have hT3:frameT A.plain (aY t).1 (aY t).2=if v.p.frames[k].values=(aY t).1.values then(A.plain.jO i,0)else(A.plain,13):=by rw[c22];exact DF hux hfe (by rw[HA.mb hv];exact hk) (by rw[HA.mb hv];exact Zv hkl)
  refine kO (kV (.c (zm O) (.c (zn O O) (.c (zr ZZ O) (.c (zr Zf O) (.c (zH (u:=.sl (v.p.frames.map Frame.cs)) XM O (aa.dQ (k:=.p i) (HA.dm hv) O (.sl (hok.IE hv)))) (.c (zm O) (.c (S.aP (n:=k) Xj .none O (zt O) (zt O) hik hkl O) (.c (S.field XQ .none O (zt O) O) (.c (zV ZA O O) (.c (S.field XQ .none O (zt O) O) (.c (zV ZA O O) (.c (zK lN call175 O) (.c (S.jP .none O (zt O)) (.c (za O) .nil)))))))))))))) (Ab.D.code (kB O (fun c55=>?_) (fun c55=>?_))))
  ·have hT:=hT3.trans (Zm (by simpa using c55));refine ro 5 O ?_;refine OK.bU (J':=JX A.b (frameT A.plain (aY t).1 (aY t).2).1 (m+2)) O (JX.az _ _ _) (fun h Y w hj=>HA.jx hok I hm (by rw[hT]) hj) ?_;refine OK.ret ⟨aA.r1 (zo O O) ?_,O,Zo⟩;rw[hT]
  have hT:=hT3.trans (Zn (by simpa using c55));refine ro 4 O ?_;obtain⟨A1,hA1⟩:∃A1,A1=A:=⟨_,rfl⟩;have hb1:A1.b=A.b:=by rw[hA1]
  have hok1:A1.Ok (m+1):=by rw[hA1];exact hok.more I I
  obtain⟨v1,hv1,hvb1⟩:∃v1:aB,A1.parts[i]?=some v1/\v1.b=v.b:=⟨v,by rw[hA1];exact hv,rfl⟩;have hT1:frameT A.plain (aY t).1 (aY t).2=(A1.plain.jO i,0):=by rw[hT,hA1]
  rw[show A.mem=A1.mem by rw[hA1]];rw[←hvb1,←hb1];refine OK.drawY follows (ι:=(Nat×Nat)) (0,0) 10 O (S.happR (s:=[(73,.raw (v1.eh.v v1.es.length)),(78,.own 78 1),(2078,.arr 1 [[bv A1.entries]]),(3000,.res (aa A1.mem))]) (m:=1) (rows2:=[[bv A1.entries]]) (.e i) ZY O (zt O) (hok1.IG hv1) (zt O) O O O C (by simp only[bM,Zx];have:=hok1.le _ (ce hv1);have:=hok1.m0;omega) (by simp only[bM,Zx,maxLen];have:=hok1.le _ (ce hv1);have:=hok1.m0;omega)).st (fun q=>(.cs (zm O) (.cs (zm O) (.cs (zn O O) (.cs (zr Zc O) (.cs (zH ZA O (aa.dQ (k:=.p i) (HA.dm hv1) O (.same _))) (.cs (zm O) (.cs (zn O O) (.cs (zr Zd O) (.cs (zH Z8 O (aa.dQ (k:=.bn) O O (.same _))) (.cs (zM [[_]] ZY O O O O)
   (.x ⟨O,O,O,O,Zo⟩ (.cn (zn O O) (.cn (zr Zc O) (.cn (S.dc (xs:=v1.cs) (xs':=({v1 with eh:=some q,es:=v1.es++[A1.entries]}:aB).cs) (.p i) ZA .none (zt O) (zt O) O ((HM.ai _ _ Z).trans (HA.dm hv1)) O O O O (ni v1 q _)) .nil))))))))))))))) (fun q=>?_)
  refine Ab.D.code (kO (OK.ze q _ hok1 I hv1 O O fun A2 hL2=>?_));refine ro 4 O ?_;refine OK.bU (J':=JX A1.b (frameT A.plain (aY t).1 (aY t).2).1 (m+2)) O (JX.az _ _ _) (fun h Y w hj=>jM hL2.ok I hm hL2.b (by rw[hL2.plain,hT1]) hj) ?_;refine OK.ret ⟨aA.r1 (zo O O) ?_,O,Zo⟩;rw[hT1]
 refine ro 9 O (kB O (fun c31=>?_) (fun c31=>?_))
 ·have hT:=DC (f:=(aY t).1) hux c31;refine ro 6 O ?_;refine OK.bU (J':=JX A.b (frameT A.plain (aY t).1 (aY t).2).1 (m+2)) O (JX.az _ _ _) (fun h Y w hj=>HA.jx hok I hm (by rw[hT]) hj) ?_;refine OK.ret ⟨aA.r1 (zo O O) ?_,O,Zo⟩;rw[hT]
 exact absurd c22 c31
def yn{A:HA}{m:Int}(hok:A.Ok m){i:Nat}{v:aB}(hv:A.parts[i]?=some v){J:bm}(hS:aZ J)(hJ:∀h Y w,J h Y w->aa A.mem h Y w):dF prog 245 [] [.sl (A.aI.map fun i=>[X.raw (pV (A.pb i))]),.raw (pV v.b)] [(3000,.res J)] [(3000,.res J)] (.int .i64 (bq (fun k=>decide (i=k)) 0 A.aI)):=by
 refine cG func245 O fun{_ _}=>?_
 have hlm:=hok.lm;have hm0:=hok.m0;refine OK.ue (p:=∀i j,i<A.parts.length->j<A.parts.length->A.pb i=A.pb j->i=j) O (fun h Y w hj=>HA.GV (hJ h Y w hj)) fun hinj=>?_
 refine ro 9 O (kc (zk YS O) (rr 4 O ?_));refine OK.loop (G:=Nat) [] (fun k=>[(0,.sl (A.aI.map fun i=>[X.raw (pV (A.pb i))])),(1,.raw (pV v.b)),(7,bv A.aI.length),(8,bv k),(3000,.res J)]) (fun k=>k<=A.aI.length/\bq (fun k=>decide (i=k)) 0 A.aI=bq (fun k=>decide (i=k)) k (A.aI.drop k)) (fun k=>A.aI.length - k) 0 ⟨Zr _,O⟩ ⟨O,O,O,O,O,Zo⟩ (fun _=>O) ?_;rintro k ⟨hi,hg⟩;refine ro 6 O (kB O (fun c9=>?_) (fun c9=>?_))
 ·have hil:k<A.aI.length:=by omega
  have hmk:=hok.mi _ (Zt hil);obtain⟨vk,hvk⟩:=at_of_lt hmk;refine ro 15 O (kc (zI YS O I O) (kc (zV Lp O O) ?_));refine kc (S.I4 hJ (.p i) (.p A.aI[k]) Lr underlying119 C .none O (zt O) (zt O) O (HA.dm hv) (HA.I1 hvk)) (kD (kB O (fun c16=>?_) (fun c16=>?_)))
  ·have hik:i=A.aI[k]:=hinj _ _ (gU hv) hmk (by simp_all[HA.Bt]);refine ro 6 O (OK.ret ⟨aA.r1 (zo O O) ?_,O,Zo⟩);simp_all[bT]
  have hik:¬i=A.aI[k]:=fun e=>c16 (by rw[←HA.Bt hv,e])
  refine Ro 7 O I (Ab.D.lp ⟨k+1,⟨by omega,?_⟩,I,O,O,O,O,O,Zo⟩);simp_all[bT]
 refine ro 7 O (OK.ret ⟨aA.r1 (zo O O) ?_,O,Zo⟩);refine cy ?_;have:k=A.aI.length:=by omega
 subst this;rw[hg,co];rfl
def yo{A:HA}{m:Int}(hok:A.Ok m){i:Nat}{v:aB}(hv:A.parts[i]?=some v){J:bm}(hS:aZ J)(hJ:∀h Y w,J h Y w->aa A.mem h Y w):dF prog 190 [] [.sl (A.aI.map fun i=>[X.raw (pV (A.pb i))]),.raw (pV v.b)] [(3000,.res J)] [(3000,.res J)] (.bool (A.aI.contains i)):=by
 refine cG func190 O (ro 9 O (RK.c (S.ik (((yn hok hv hS hJ).jR hS)) hS call245 .none O (zc O (zc O .nil)) O O) (rr 4 O (OK.ret ⟨aA.r1 (zo O O) ?_,O,Zo⟩))));simp[yl]
def yp{A:HA}{m:Int}(hok:A.Ok m)(hm:m+2<=1000){i:Nat}{v:aB}(hv:A.parts[i]?=some v):dF prog 189 [] [.raw (pV v.b),.b5 [.raw (pV A.b)]] [(3000,.res (aa A.mem))] [(3000,.res (JP A (fe A.plain i).1 (m+1)))] (bv (fe A.plain i).2):=by
 refine cG func189 O fun{_ _}=>?_
 have hp:=HA.mb hv;have hlm:=hok.lm;have hm0:=hok.m0;obtain⟨e,he⟩:∃e,aF [ae (decide (v.p.place≠0)) 20,ae (mw A.aS v.p) 14,ae (!A.aI.contains i) 23]=e:=⟨_,rfl⟩;have hTn:fe A.plain i=if e=0 then({A.plain with aI:=A.plain.aI++[i]},0)else(A.plain,e):=by unfold fe;dsimp only;rw[hp,←he];rfl
 refine ro 6 O ?_;refine kV (.c (zm O) (.c (zn O O) (.c (zr ZZ O) (.c (zr Yt O) (.c (zH Z8 O (aa.dQ (k:=.p i) (HA.dm hv) O (.same _))) (.c (zN O O) (.c (zK ak call58 O) (.c (zV Yd O O) (.c (zm O) (.c (S.fI ((fun J hS hJ=>(oT hok hv hS hJ).jR hS)) call178 .none O (zc O (zc O .nil)) O O) (.c (zK ak call58 O) (.c (zV Yd O O) (.c (zn O O) (.c (zr VM O) (.c (zH (u:=.sl (A.aI.map fun i=>[X.raw (pV (A.pb i))])) YD O (aa.dQ (k:=.bn) O O (.sl hok.ms))) (.c (zm O) (.c (S.fI ((fun J hS hJ=>(yo hok hv hS hJ).jR hS)) call190 .none O (zc O (zc O .nil)) O O) (.c (S.not .none O (zt O)) (.c (zK ak call58 O) (.c (zM [[_],[_],[_]] ZX O O O O) (.c (S.callL (bF (l:=[_,_,_])) call57 .none O (zc O .nil) (.cons (.p (.own O O) O) .nil) O) (.c (za O) .nil)))))))))))))))))))))) ?_;refine rd 8 O (kB O (fun c27=>?_) (fun c27=>?_))
 ·have hEe:e=0:=by rw[←he];exact c27
  have hT:=hTn.trans (Zn hEe);refine OK.drawY follows (ι:=(Nat×Nat)) (0,0) 7 O (S.Ie (s:=[(32,.raw (A.mh.v A.aI.length)),(34,.own 34 1),(2034,.arr 1 [[.raw (pV v.b)]]),(3000,.res (aa A.mem))]) (m:=1) (rows2:=[[.raw (pV v.b)]]) .ms PU O (zt O) hok.ms (zt O) O O O C (by simp only[Zx];omega) (by simp only[Zx,maxLen];omega)).st (fun q=>(.cs (zV Yd O O) (.cs (zV Yd O O) (.cs (zn O O) (.cs (zr VM O) (.cs (zH YD O (aa.dQ (k:=.bn) O O (.same _))) (.cs (zm O) (.cs (zM [[.raw (pV v.b)]] PU O O O O)
   (.x ⟨O,O,O,O,Zo⟩ (.cn (zn O O) (.cn (zr VM O) (.cn (S.dc (xs:=A.cs) (xs':=(A.rS i q).cs) (.bn) YD .none (zt O) (zt O) O ((HM.ai _ _ Z).trans A.ID) O O O O (Fc A i q)) .nil)))))))))))) (fun q=>?_)
  refine Ab.D.code (kO ?_);rw[←HA.Bt hv];refine OK.rS (gU hv) hok I O fun A1 hok1 hb1 hpb1 hpa1 hpl1=>?_
  refine ro 5 O ?_;refine OK.bU (J':=JP A (fe A.plain i).1 (m+1)) O (JP.az _ _ _) (fun h Y w hj=>⟨A1,⟨hok1,hb1,hpb1,by rw[hpa1],by rw[hpl1,hT]⟩,hj⟩) ?_;refine OK.ret ⟨aA.r1 (zo O O) ?_,O,Zo⟩;rw[hT];exact cy (he.trans hEe)
 have hEe:¬e=0:=by rw[←he];exact c27
 have hT:=hTn.trans (Zm hEe);refine ro 8 O ?_;refine OK.bU (J':=JP A (fe A.plain i).1 (m+1)) O (JP.az _ _ _) (fun h Y w hj=>HA.jp hok I I (by rw[hT]) hj) ?_;refine OK.ret ⟨aA.r1 (zo O O) ?_,O,Zo⟩;rw[hT];exact cy he
def yq(A:HA)(i:Nat):(fe A.plain i).1.entries=A.entries:=by unfold fe;dsimp only;split<;>rfl
def Bi{A:HA}{m:Int}(hok:A.Ok m)(hm:m+2<=1000){n:Int}:dU prog 122 [] [.raw (pV A.b),.agg (Words.mk [n] []).cs] [(3000,.res (aa A.mem))] [(3000,.res (JX A.b (cK A.plain n fe).1 (m+2)))] (bv (cK A.plain n fe).2):=by
 refine cH func122 O fun hT=>?_
 refine ro 8 O (OK.freezeP [3] [(3,.ptr 3 0),(1003,.box (Words.mk [n] []).cs),(3000,.res (aa A.mem))] 2 O O O O O O ⟨O,O,O,Zo⟩ O (ro 3 O (kc (S.dx .none O (zt O) O) ?_)));refine RK.c (S.ik (((tG hok hm (n:=n) (tx:=[]) (f:=189) (caps:=[.b5 [.raw (pV A.b)]]) call189 O O (ac:=fe) (fun i v hv _=>(yp hok hm hv).ef) (fun i=>yq A i)).jR hT (aa.az _))) (JX.az _ _ _) call179 .none O (zc O (zc O (zc O .nil))) O O) ?_;refine rr 3 O (OK.ret ⟨aA.r1 (zo O O) ?_,O,Zo⟩);rfl
end Go.Proofs.YtpbalelbenmmbaaGreatDoor
namespace Go.Proofs.YtpbalelbenmmbaaGreatDoor
open Go.Ab Tryz
def xS{c:UInt8}{l:ba}:(aL c l).1.length<=l.length/\(aL c l).2.1.length<=l.length:=by
 grind [qt,oI]
def Ds{α β:Type}(p:α×β):p=(p.1,p.2):=rfl
def ax.nB(H:ax):List aX:=H.aI.map fun i=>fM H.aS (H.p i).frames
def gS(H:ax)(n:Int):HE:=if fg H.aS H.nB n=0 then({H with env:=lK H.aS H.nB n,bz:=true},0)else(H,fg H.aS H.nB n)
abbrev I7(b:Nat)(l:ba)(p:Nat):HM Unit:=fun _=>some (b,.iter l p)
def nC(M:HM Unit)(b:Nat)(l:ba)(p:Nat):M.set () (some (b,.iter l p))=I7 b l p:=by rfl
def Gt{K:Type}{M M':HM K}(h:M=M'):some (X.res (aa M))=some (X.res (aa M')):=by rw[h]
def w9(l:ba)(p:Nat):(∃hp:p<l.length,l[p].toNat<128)\/(∃hp:p<l.length,128<=l[p].toNat)\/l.length<=p:=by
 grind
def isPrint(b:UInt8):Bool:=decide (32<=(b.toNat:Int)/\(b.toNat:Int)<=126)
def Dt{b c:UInt8}(h:((b.toNat:Nat):Int)=(c.toNat:Int)):b=c:=by grind [UInt8.toNat_inj]
def E8{ks:ba}{p:Nat}(hp:p<ks.length)(rest:ba)(more:Bool)(w:Words):aH (ks.drop p) rest more w=aH (ks[p]::ks.drop (p+1)) rest more w:=by simp
def E9:∀(l:ba),decide (0<=bq (fun b=>!isPrint b) 0 l)=!(l.all isPrint):=by
 have key:∀(l:ba)(k:Nat),decide (0<=bq (fun b=>!isPrint b) k l)=!(l.all isPrint):=by
  intro l
  induction l with
  |nil=>intro k;rfl
  |cons x l ih=>
   grind [bq]
 simp_all
def Du(k:Nat):Nat:=[111,112,113,114,115,116,117,118,119,120,121,122,123].getD k 0
def I8(o:Option Nat):bi:=match o with
 |some k=>[bv (yM.getD k 0),.str (kinds.getD k []),.fn (Du k) []]
 |none=>[bv 0,.str [],.raw .nilFunc]
def kH(A:HA)(k:Nat):List aX:=(A.aI.take k).map fun i=>fM A.aS (A.plain.p i).frames
def yh(A:HA)(k:Nat)(h:k<=A.aI.length):(kH A k).length=k:=by simp_all[kH]
def xd{A:HA}{k:Nat}(h:k<A.aI.length){v:aB}(hv:A.parts[A.aI[k]]?=some v):kH A (k+1)=kH A k++[fM A.aS v.p.frames]:=by
 grind [kH,List.take_succ_eq_append_getElem,HA.mb]
def yj(A:HA):kH A A.aI.length=A.plain.nB:=by unfold kH;rw[fp];rfl
def OK.ug{E:Env}{U:bc}{s:St}{code:Code}{Q:bo}(K:Type)(h:OK E code Q U ((3000,.res (aa (fun _:K=>none)))::s)):OK E code Q U s:=fun a w hg=>by
 obtain⟨c,hb,hh⟩:=hg;refine h a w ⟨c,hb,fun key x hx=>?_⟩;simp only[Ab.look]at hx;split at hx
 ·rename_i e;have:=Nat.eq_of_beq_eq_true e;cases hx;subst this;exact Holds.iV (aa.az _) aa.nil
 exact hh key x hx
def FT{a b c d:Nat}{k1 k2:Nat}(h:a=b)(h2:c=d):some (X.box [X.own k1 a,X.own k2 c])=some (X.box [X.own k1 b,X.own k2 d]):=by rw[h,h2]
def Be{A:HA}{m:Int}(hok:A.Ok m)(hm:m+2<=1000){n:Int}:dF prog 123 [] [.raw (pV A.b),.agg (Words.mk [n] []).cs] [(3000,.res (aa A.mem))] [(3000,.res (JX A.b (gS A.plain n).1 (m+2)))] (bv (gS A.plain n).2):=by
 refine cG func123 O fun{_ _}=>?_
 have hlm:=hok.lm;have hm0:=hok.m0;refine ro 8 O (RK.c (S.iI (k:=5) (sz:=1) .none O) (rr 8 O (kc (zH (u:=.sl (A.aI.map fun i=>[X.raw (pV (A.pb i))])) YD O (aa.dQ (k:=.bn) O O (.sl hok.ms))) ?_)));refine kc (zk YS O) (rr 4 O ?_);refine OK.loop (G:=Nat) [3,5] (fun k=>[(0,.raw (pV A.b)),(3,.ptr 3 0),(1003,.box (Words.mk [n] []).cs),(5,.own 5 k),(2005,.arr 1 ((kH A k).map aX.cs)),(13,.sl (A.aI.map fun i=>[X.raw (pV (A.pb i))])),(14,bv A.aI.length),(15,bv k),(3000,.res (aa A.mem))]) (fun k=>k<=A.aI.length) (fun k=>A.aI.length - k) 0 (Zr _) ⟨O,O,O,(cw I),(bH (by rfl)),O,O,O,O,Zo⟩ (fun _=>O) ?_;rintro k hi;refine ro 6 O (kB O (fun c16=>?_) (fun c16=>?_))
 ·have hil:k<A.aI.length:=by omega
  have hmk:=hok.mi _ (Zt hil);obtain⟨v,hv⟩:=at_of_lt hmk;have hrl:=yh A k hi;refine ro 6 O (kc (zI YS O I O) ?_);refine rr 4 O ?_;rw[HA.Bt hv];refine ro 4 O (kc (S.fI ((fun J hS hJ=>(mm hok hv hS hJ).jR hS)) call177 .none O (zc O (zc O .nil)) O O) ?_);refine RK.c (zM [[_]] PV O O O O) (kc (zP PV O O (by simp_all) (by rfl) I (by grind [maxLen])) ?_);refine Rr 8 O I ?_;refine Ab.D.lp ⟨k+1,I,I,O,O,O,(cw I),(bH (by rw[xd hil hv,dE];rfl)),O,O,O,O,Zo⟩
 refine ro 3 O ?_;have hke:k=A.aI.length:=by omega
 rw[hke,yj];have hrl:A.plain.nB.length=A.aI.length:=by unfold ax.nB;rw[Zx];rfl
 refine OK.freeze 5 O O O (by simp_all) ?_;refine kV (.c (zm O) (.c (zn O O) (.c (zr Y5 O) (.c (zr WX O) (.c (zJ (us:=A.aS.cs) Za O (aa.Ej (k:=.bn) (xs:=A.cs) O ⟨.same _,.same _,Zo⟩ O)) (.c (zm O) (.c (zf Te O) (.c (zl ZA O O O O) (.c (S.aP (n:=0) Z4 .none O (zt O) (.af O) O F O) (.c (zV Z8 O O) (.c (zK (rB (l:=A.plain.nB)) call191 O) (.c (zm O) (.c (zX O O O) (.c (zX O O O) (.c (zA (c:=8) Jq O) (.c (zS WM O O O O O O) (.c (za O) .nil))))))))))))))))) ?_;refine rd 8 O (kB O (fun c41=>?_) (fun c41=>?_))
 ·have hT:gS A.plain n=({A.plain with env:=lK A.aS A.plain.nB n,bz:=true},0):=by unfold gS;rw[Zn (show fg A.plain.aS A.plain.nB n=0 from c41)];rfl
  refine ro 6 O (kc (S.dc (xs':=({A with env:=lK A.aS A.plain.nB n}:HA).cs) (.bn) WM .none (zt O) (zt O) O O O O O O O) (rr 2 O ?_));refine kc (S.dc (xs':=({A with env:=lK A.aS A.plain.nB n,bz:=true}:HA).cs) (.bn) SP .none (zt O) .aJ O (HM.bw _ _ _) O O O O O) ?_;refine rr 3 O ?_;rw[HM.set_set];refine OK.Dv (A1:={A with env:=lK A.aS A.plain.nB n,bz:=true}) hok O O ⟨O,O⟩ ⟨O,O⟩ ⟨O,O⟩ ⟨O,O⟩ hok.en fun hok1=>?_
  refine ro 5 O ?_;refine OK.bU (J':=JX A.b (gS A.plain n).1 (m+2)) O (JX.az _ _ _) (fun h Y w hj=>jM hok1 I hm O (by rw[hT];rfl) hj) ?_;refine OK.ret ⟨aA.r1 (zo O O) ?_,O,Zo⟩;rw[hT,c41]
 have hT:gS A.plain n=(A.plain,fg A.aS A.plain.nB n):=by unfold gS;rw[Zm (show¬fg A.plain.aS A.plain.nB n=0 from c41)];rfl
 refine ro 8 O ?_;refine OK.bU (J':=JX A.b (gS A.plain n).1 (m+2)) O (JX.az _ _ _) (fun h Y w hj=>HA.jx hok I hm (by rw[hT]) hj) ?_;refine OK.ret ⟨aA.r1 (zo O O) ?_,O,Zo⟩;grind
set_option maxRecDepth 4000 in
def lM{t:ba}:Ct prog 76 [.str t] (.cf [.agg (I8 (dS t)),.bool (dS t).isSome]):=by
 refine cI func76 O (ro 19 O (kB O (fun c5=>?_) (fun c5=>?_)))
 ·refine kr (kc (S.build Yw O .none O (zC O (.cons (.bj (l:=[114]) O C) (.cons .oL .nil))) O O) ?_);refine rr 4 O (kT O O YN O O O ?_);subst c5;rfl
 refine ro 6 O (kB O (fun c8=>?_) (fun c8=>?_))
 ·refine kr (kc (S.build Yw O .none O (zC O (.cons (.bj (l:=[110,119,119]) O C) (.cons .oL .nil))) O O) ?_);refine rr 4 O (kT O O YN O O O ?_);subst c8;rfl
 refine ro 6 O (kB O (fun c11=>?_) (fun c11=>?_))
 ·refine kr (kc (S.build Yw O .none O (zC O (.cons (.bj (l:=[114]) O C) (.cons .oL .nil))) O O) ?_);refine rr 4 O (kT O O YN O O O ?_);subst c11;rfl
 refine ro 6 O (kB O (fun c14=>?_) (fun c14=>?_))
 ·refine kr (kc (S.build Yw O .none O (zC O (.cons (.bj (l:=[]) O C) (.cons .oL .nil))) O O) ?_);refine rr 4 O (kT O O YN O O O ?_);subst c14;rfl
 refine ro 6 O (kB O (fun c17=>?_) (fun c17=>?_))
 ·refine kr (kc (S.build Yw O .none O (zC O (.cons (.bj (l:=[110]) O C) (.cons .oL .nil))) O O) ?_);refine rr 4 O (kT O O YN O O O ?_);subst c17;rfl
 refine ro 6 O (kB O (fun c20=>?_) (fun c20=>?_))
 ·refine kr (kc (S.build Yw O .none O (zC O (.cons (.bj (l:=[110]) O C) (.cons .oL .nil))) O O) ?_);refine rr 4 O (kT O O YN O O O ?_);subst c20;rfl
 refine ro 6 O (kB O (fun c23=>?_) (fun c23=>?_))
 ·refine kr (kc (S.build Yw O .none O (zC O (.cons (.bj (l:=[119,110]) O C) (.cons .oL .nil))) O O) ?_);refine rr 4 O (kT O O YN O O O ?_);subst c23;rfl
 refine ro 6 O (kB O (fun c26=>?_) (fun c26=>?_))
 ·refine kr (kc (S.build Yw O .none O (zC O (.cons (.bj (l:=[119]) O C) (.cons .oL .nil))) O O) ?_);refine rr 4 O (kT O O YN O O O ?_);subst c26;rfl
 refine ro 6 O (kB O (fun c29=>?_) (fun c29=>?_))
 ·refine kr (kc (S.build Yw O .none O (zC O (.cons (.bj (l:=[110]) O C) (.cons .oL .nil))) O O) ?_);refine rr 4 O (kT O O YN O O O ?_);subst c29;rfl
 refine ro 6 O (kB O (fun c32=>?_) (fun c32=>?_))
 ·refine kr (kc (S.build Yw O .none O (zC O (.cons (.bj (l:=[110,114]) O C) (.cons .oL .nil))) O O) ?_);refine rr 4 O (kT O O YN O O O ?_);subst c32;rfl
 refine ro 6 O (kB O (fun c35=>?_) (fun c35=>?_))
 ·refine kr (kc (S.build Yw O .none O (zC O (.cons (.bj (l:=[119,114]) O C) (.cons .oL .nil))) O O) ?_);refine rr 4 O (kT O O YN O O O ?_);subst c35;rfl
 refine ro 6 O (kB O (fun c38=>?_) (fun c38=>?_))
 ·refine kr (kc (S.build Yw O .none O (zC O (.cons (.bj (l:=[110]) O C) (.cons .oL .nil))) O O) ?_);refine rr 4 O (kT O O YN O O O ?_);subst c38;rfl
 refine ro 6 O (kB O (fun c41=>?_) (fun c41=>?_))
 ·refine kr (kc (S.build Yw O .none O (zC O (.cons (.bj (l:=[110]) O C) (.cons .oL .nil))) O O) ?_);refine rr 4 O (kT O O YN O O O ?_);subst c41;rfl
 refine ro 5 O (kc (zU Yw O O) (rr 4 O (kT O O YN O O O ?_)));rw[show dS t=none by simp_all[dS,iR,gR]];rfl
def Dw{w:ba}(h:dS w=none):Ct prog 76 [.str w] (.cf [.agg [bv 0,.str [],.raw .nilFunc],.bool false]):=by have:=lM (t:=w);rw[h]at this;exact this
def Dx{w:ba}{k:Nat}(h:dS w=some k):Ct prog 76 [.str w] (.cf [.agg [bv (yM.getD k 0),.str (kinds.getD k []),.fn (Du k) []],.bool true]):=by have:=lM (t:=w);rw[h]at this;exact this
def oP{l:ba}(hl:l.length<=100000):gz prog 95 [.str l] (.cf [bv (bp l),.bool (numOk l 7)]):=by
 refine cT func95 O fun hT=>?_
 refine ro 9 O (kc (S.dB (uY hl) hT call155 .none O (zc O .nil) O) (rr 11 O (kc (S.Da underlying244 .none O (zt O)) (jm O (RK.split (t:=14) O (fun g14=>?_) (fun g14=>?_))))))
 ·refine rr 4 O (RK.bh (t:=18) O (fun g18=>?_) (fun g18=>?_))
  ·refine kc (S.move (zg O O) O (zt O)) (kc (S.dB (pS (nk l)) hT call142 (zg O O) O (zc O .nil) O) (rr 4 O (RK.bh (t:=24) O (fun g24=>?_) (fun g24=>?_))))
   ·refine rr 8 O (kS O O O O ?_);rw[show numOk l 7=decide (l.length<=7)by simp_all[numOk]];exact eQ (fun b=>X.cf [X.int .i64 (bp l),X.bool b]) (decide_eq_decide.2 I)
   refine rr 8 O (kS O O O O ?_);simp_all[numOk]
  refine rr 14 O (kS O O O O ?_);grind [numOk]
 refine rr 18 O (kS O O O O ?_);simp_all[numOk]
def rec_odd{c:Int}(hc:0<=c/\c<2147483648):Ct prog 74 [.int .i32 c] (.bool (!decide (32<=c/\c<=126))):=by
 refine cI func74 O (ro 8 O ?_);refine kc (S.conv .none O (zt O) underlying21 underlying3 (ca _ I) (ca _ I)) (kc (zK cv call55 O) (kc (S.jP .none O (zt O)) ?_));refine rr 3 O (kR O O ?_);exact ew decide_not
def su{l:ba}(hl:l.length<=100000):Ct prog 192 [.str l,.fn 74 [],.bool true] (bv (bq (fun b=>!isPrint b) 0 l)):=by
 refine cI func192 O (OK.ug Unit (ro 9 O (RK.xs (S.CB () underlying9 O (zt O) O) (fun q=>?_))));refine rr 3 O ?_;refine OK.loop (G:=Nat) [] (fun p=>[(1,.fn 74 []),(2,.bool true),(10,.raw (pV q)),(3000,.res (aa (I7 q l p)))]) (fun p=>p<=l.length/\bq (fun b=>!isPrint b) 0 l=bq (fun b=>!isPrint b) p (l.drop p)) (fun p=>l.length - p) 0 ⟨Zr _,O⟩ ⟨O,O,O,(Gt (nC _ _ _ _)),Zo⟩ (fun _=>O) ?_;rintro p ⟨hi,hg⟩;refine kO ?_;rcases w9 l p with⟨hp,hlo⟩|⟨hp,hhi⟩|hp
 ·refine OK.bN ?_;refine RK.xs (S.xY () O (zt O) O O hp (by unfold maxLen;omega) (CD (Zv hp) hlo) I) (fun _=>?_);refine rr 20 O (kc (S.ij (rec_odd (c:=(l[p].toNat:Int)) I) call74 .none O (zt O) (zc O .nil) O O O) (jm O (kc (S.HJ underlying4 .none O (zt O) (zt O)) (kD (kB O (fun c19=>?_) (fun c19=>?_))))))
  ·refine ro 6 O (kR O O ?_);simp_all[bT,isPrint]
  refine OK.skip (Ab.D.blk (Ab.D.lp ⟨p+1,⟨by omega,?_⟩,I,O,O,O,(Gt (nC _ _ _ _)),Zo⟩));simp_all[bT,Zm,isPrint]
 ·obtain⟨hd1,hd2⟩:=Gm (Zv hp) hhi;refine OK.bN ?_;refine RK.xs (S.xY () O (zt O) O O hp (by unfold maxLen;omega) (Ds (Utf8.decode ⟨l.toArray⟩ p)) hd2) (fun _=>?_);refine rr 20 O (kc (S.ij (rec_odd (c:=((Utf8.decode ⟨l.toArray⟩ p).1:Int)) I) call74 .none O (zt O) (zc O .nil) O O O) (jm O (kc (S.HJ underlying4 .none O (zt O) (zt O)) (kD (kB O (fun c19=>?_) (fun c19=>?_))))))
  ·refine ro 6 O (kR O O ?_);refine cy ?_;have hx:isPrint l[p]=false:=Zy I;simp_all[bT]
  grind
 refine OK.bN (kc (S.CC () .none O (zt O) O O hp) (rr 12 O (kR O O ?_)));refine cy ?_;have:p=l.length:=by omega
 subst this;rw[hg,co];rfl
def sv{l:ba}(hl:l.length<=100000):Ct prog 124 [.str l,.fn 74 []] (bv (bq (fun b=>!isPrint b) 0 l)):=by
 refine cI func124 O (ro 9 O (kc (zK (su hl) call192 O) (rr 3 O (kR O O ?_))));rfl
def jk{l:ba}(hl:l.length<=100000):Ct prog 77 [.str l,.fn 74 []] (.bool (!(l.all isPrint))):=by
 refine cI func77 O (ro 9 O (kc (zK (sv hl) call124 O) (rr 4 O (kR O O ?_))));exact ew (E9 l)
def Bf{text ks:ba}(hl:text.length<=100000)(hk:ks.length<=3/\∀b∈ks,b.toNat<128):gz prog 78 [.str text,.str ks] (.cf [.agg (kf text ks).1.cs,.bool (kf text ks).2]):=by
 refine cT func78 O fun hT=>?_
 refine OK.ug Unit ?_;have hcl:=xS (c:=32) (l:=text);refine ro 9 O (kc (zK (str_Cut (l:=text) (c:=32) hl) call75 O) (rr 18 O (RK.xs (S.CB () underlying9 O (zt O) O) (fun q=>?_))));refine rr 3 O (OK.nP 9 0 890 1 O O O O O (OK.nP 9 1 891 1 O O O O O ?_));refine OK.Io [4,9,890,891] (fun(p:Nat)(rest:ba)(more:Bool)(w:Words)=>[(4,.ptr 4 0),(1004,.box [.bO,.bO]),(9,.ptr 9 0),(1009,.box [.own 890 w.numbers.length,.own 891 w.texts.length]),(2890,.arr 1 (w.numbers.map fun n=>[bv n])),(2891,.arr 1 (w.texts.map fun s=>[.str s])),(7,.str rest),(8,.bool more),(24,.raw (pV q)),(3000,.res (aa (I7 q ks p)))]) (fun p rest more w=>p<=ks.length/\rest.length<=100000/\kf text ks=aH (ks.drop p) rest more w/\w.numbers.length<=p/\w.texts.length<=p) (fun p rest more w=>ks.length - p) (0) ((aL 32 text).2.1) ((aL 32 text).2.2) ((Words.mk [] [])) ⟨Zr _,by omega,rfl,Zq _,Zq _⟩ ⟨O,O,O,O,(bH (by rfl)),(bH (by rfl)),O,O,O,(Gt (nC _ _ _ _)),Zo⟩ (fun _ _ _ _=>O) ?_;rintro p rest more w ⟨hi,hrl,hg,hnl,htl⟩;have hrc:=xS (c:=32) (l:=rest);refine kO ?_;rcases w9 ks p with⟨hp,hlo⟩|⟨hp,hhi⟩|hp
 ·have hpc:=E8 hp rest more w;refine OK.bN ?_;refine RK.xs (S.xY () O (zt O) O O hp (by unfold maxLen;omega) (CD (Zv hp) hlo) I) (fun _=>?_);refine rr 18 O (kc (S.not .none O (zt O)) (kD (OK.cond O O (fun c29=>?_) (fun c29=>?_))))
  ·have hmo:more=false:=by grind
   have hst:aH (ks.drop p) rest more w=(⟨[],[]⟩,false):=by rw[hpc,hmo,aH,Zn rfl]
   refine kr (kc (zU M4 O O) (rr 4 O (OK.ret (aA.r2 (.bG O O O O UC O (.k .bO (.k .bO .z))) (zo O O) ?_))));simp_all[Words.cs]
  have hmo:more=true:=by grind
  refine ro 9 O (kB O (fun c32=>?_) (fun c32=>?_))
  ·have hkp:ks[p]=114:=Dt c32;have hst:aH (ks.drop p) rest more w=({w with texts:=w.texts++[rest]},true):=by rw[hpc,hkp,hmo,aH,Zm C,Zn rfl]
   refine ro 5 O ?_;refine RK.c (zM [[_]] ZF O O O O) (kc (zP ZF O O F (by rfl) I (by grind [maxLen])) ?_);refine rr 11 O ?_;refine OK.ret (aA.r2 (.bG O O O O UC O (.k (.own O O F) (.k (.own O O F) .z))) (zo O O) ?_);simp_all[Words.cs]
  have hk1:¬ks[p]=114:=fun e=>c32 (by rw[e];rfl)
  refine ro 5 O (kc (zK (str_Cut (l:=rest) (c:=32) hrl) call75 O) (rr 24 O (kB O (fun c49=>?_) (fun c49=>?_))))
  ·have hkp:ks[p]=119:=Dt c49;refine ro 7 O (kB O (fun c51=>?_) (fun c51=>?_))
   ·have hst:aH (ks.drop p) rest more w=(⟨[],[]⟩,false):=by rw[hpc,hkp,hmo,aH,Zm C,Zm C,Zn rfl,Zn c51]
    refine kr (kc (zU M4 O O) (rr 4 O (OK.ret (aA.r2 (.bG O O O O UC O (.k .bO (.k .bO .z))) (zo O O) ?_))));simp_all[Words.cs]
   have hst:aH (ks.drop p) rest more w=aH (ks.drop (p+1)) (aL 32 rest).2.1 (aL 32 rest).2.2 {w with texts:=w.texts++[(aL 32 rest).1]}:=by rw[hpc,hkp,hmo,aH,Zm C,Zm C,Zn rfl,Zm c51]
   refine ro 7 O ?_;refine RK.c (zM [[_]] ZF O O O O) (kc (zP ZF O O F (by rfl) I (by grind [maxLen])) ?_);refine rr 5 O ?_;refine Ab.D.lp ⟨p+1,(aL 32 rest).2.1,(aL 32 rest).2.2,{w with texts:=w.texts++[(aL 32 rest).1]},⟨by omega,by omega,by rw[hg,hst],by simp;omega,by simp;omega⟩,I,O,O,O,(FT F F),(bH F),(bH F),O,O,O,(Gt (nC _ _ _ _)),Zo⟩
  have hk2:¬ks[p]=119:=fun e=>c49 (by rw[e];rfl)
  refine ro 5 O (kc (S.dB (oP (l:=(aL 32 rest).1) I) hT call95 .none O (zc O .nil) O) ?_);refine rr 11 O (kc (S.not .none O (zt O)) (kD (OK.cond O O (fun c65=>?_) (fun c65=>?_))))
  ·have hst:aH (ks.drop p) rest more w=(⟨[],[]⟩,false):=by simp_all[aH]
   refine kr (kc (zU M4 O O) (rr 4 O (OK.ret (aA.r2 (.bG O O O O UC O (.k .bO (.k .bO .z))) (zo O O) ?_))));simp_all[Words.cs]
  have hst:aH (ks.drop p) rest more w=aH (ks.drop (p+1)) (aL 32 rest).2.1 (aL 32 rest).2.2 {w with numbers:=w.numbers++[bp (aL 32 rest).1]}:=by simp_all[aH]
  refine ro 6 O ?_;refine RK.c (zM [[_]] ZY O O O O) (kc (zP ZY O O F (by rfl) I (by grind [maxLen])) ?_);refine rr 4 O ?_;refine Ab.D.lp ⟨p+1,(aL 32 rest).2.1,(aL 32 rest).2.2,{w with numbers:=w.numbers++[bp (aL 32 rest).1]},⟨by omega,by omega,by rw[hg,hst],by simp;omega,by simp;omega⟩,I,O,O,O,(FT F F),(bH F),(bH F),O,O,O,(Gt (nC _ _ _ _)),Zo⟩
 ·grind
 refine OK.bN (kc (S.CC () .none O (zt O) O O hp) (rr 8 O ?_));have hpe:p=ks.length:=by omega
 subst hpe;have hst:aH (ks.drop ks.length) rest more w=(w,!more):=by rw[co,aH]
 refine ro 3 O (kc (S.not .none O (zt O)) (rr 4 O ?_));refine OK.ret (aA.r2 (.bG O O O O UC O (.k (.own O O F) (.k (.own O O F) .z))) (zo O O) ?_);simp_all[Words.cs]
end Go.Proofs.YtpbalelbenmmbaaGreatDoor
namespace Go.Proofs.YtpbalelbenmmbaaGreatDoor
open Go.Ab Tryz
def x4(s:ba):Prop:=dU prog 243 [4] [.ptr 4 0] [(1004,.box [.str s])] [(1004,.box [.str (iL s).2])] (.cf [.sl ((iL s).1.1.map Ph.cs),.bool (iL s).1.2])
def I0(s:ba):Prop:=dU prog 291 [4] [.ptr 4 0] [(1004,.box [.str s])] [(1004,.box [.str (jS s).2])] (.cf [.agg (jS s).1.1.cx,.bool (jS s).1.2])
def AA{s:ba}(hl:s.length<=100000)(ha:jr s)(hls:∀s',s'.length<s.length->jr s'->x4 s'):dU prog 291 [4] [.ptr 4 0] [(1004,.box [.str s])] [(1004,.box [.str (jS s).2])] (.cf [.agg (jS s).1.1.cx,.bool (jS s).1.2]):=by
 refine cH func291 O fun hT=>?_
 refine OK.ug Unit ?_;have hkl:=qU s;have hka:=ha.kind;refine ro 9 O ?_;refine RK.c (S.pX (fs:=[4]) (t:=[(1004,.box [.str s])]) (t':=[(1004,.box [.str (cu s).2])]) (CN hl ha) hT call334 .none O (zc O .nil) V ⟨O,Zo⟩ V V V V O V) ?_;refine rr 11 O (kc (S.not .none O (zt O)) (kD (OK.cond O O (fun c19=>?_) (fun c19=>?_))))
 ·have hk:(cu s).1=none:=by simpa using c19
  have hT:jS s=((Ph.zero,false),(cu s).2):=HQ hk;refine kr (kc (zU P5 O O) (rr 4 O ?_));refine OK.ret ⟨aA.r2 (.bG O O O O Z3 O (.k (.same O) (.k (.same O) (.k (.same O) (.k (.same O) (.k (.same O) (.k .bO .z))))))) (zo O O) ?_,om (by rw[hT]),Zo⟩;rw[hT];rfl
 obtain⟨k,hk⟩:∃k,(cu s).1=some k:=fj.1 (by grind);have hk6:k<6:=(eE hk).1;have hkN:wL s=(k:Int):=by simp_all[wL]
 have hfl:=x5 k;rw[hkN];refine ro 5 O (kc (zU P5 O O) (rr 5 O (OK.HR (cells':=Bu k (0,0,0,0)) [4,2] [(0,.ptr 4 0),(1004,.box [.str (cu s).2]),(2,.ptr 2 0),(1002,.box [bv 0,bv 0,bv 0,bv 0,bv 0,.bO]),(3,.bool false),(4,bv (k:Int))] 6 () O O O O O O ⟨O,O,O,O,O,O,Zo⟩ O O ⟨.inl ⟨O,O⟩,.inl ⟨O,O⟩,.inl ⟨O,O⟩,.inl ⟨O,O⟩,.inl ⟨O,O⟩,.inr ⟨O,O⟩,Zo⟩ fun b=>?_)));refine OK.bN (RK.c (S.vR (k:=23) O .none O) (rr 2 O ?_));refine kc (S.mkData (rows:=[[_],[_]]) Yv .none O (zc O (zc O .nil)) O O O O O O O) (kc (S.kZ (key:=0) (l:=(nh b).take 0) (es':=oo ((nh b).take 1)) underlying444 underlying3 .none (zt O) (.af O) (zt O) O O O O O) (kc (zr VQ O) (kc (S.mkData (rows:=[[_]]) Yv .none O (zc O .nil) O O O O O O O) (kc (S.kZ (key:=1) (l:=(nh b).take 1) (es':=oo ((nh b).take 2)) underlying444 underlying3 .none (zt O) (.af O) (zt O) O O O O O) ?_))));refine rr 2 O ?_;refine kc (S.mkData (rows:=[[_],[_]]) Yv .none O (zc O (zc O .nil)) O O O O O O O) (kc (S.kZ (key:=2) (l:=(nh b).take 2) (es':=oo ((nh b).take 3)) underlying444 underlying3 .none (zt O) (.af O) (zt O) O O O O O) ?_);refine rr 3 O ?_;refine kc (S.mkData (rows:=[[_],[_],[_]]) Yv .none O (zc O (zc O (zc O .nil))) O O O O O O O) (kc (S.kZ (key:=3) (l:=(nh b).take 3) (es':=oo ((nh b).take 4)) underlying444 underlying3 .none (zt O) (.af O) (zt O) O O O O O) ?_);refine rr 3 O ?_;refine kc (S.mkData (rows:=[[_],[_],[_]]) Yv .none O (zc O (zc O (zc O .nil))) O O O O O O O) (kc (S.kZ (key:=4) (l:=(nh b).take 4) (es':=oo ((nh b).take 5)) underlying444 underlying3 .none (zt O) (.af O) (zt O) O O O O O) (kc (zr VQ O) (kc (S.mkData (rows:=[[_]]) Yv .none O (zc O .nil) O O O O O O O) (kc (S.kZ (key:=5) (l:=(nh b).take 5) (es':=oo ((nh b).take 6)) underlying444 underlying3 .none (zt O) (.af O) (zt O) O O O O O) ?_))));refine rr 9 O (kc (S.CO (l:=nh b) underlying444 underlying3 .none O (zt O) (zt O) O O (EO hk6) O) (kc (zk SH O) (rr 4 O ?_)));refine OK.FH [4,2] (fun(i:Nat)(q:Q4)(r:ba)=>[(0,.ptr 4 0),(1004,.box [.str r]),(2,.ptr 2 0),(1002,.box [bv 0,bv 0,bv 0,bv 0,bv 0,.bO]),(4,bv (k:Int)),(6,.raw (pV b)),(45,.sl (kz b k)),(46,bv ((bB k).length:Int)),(47,bv i),(3000,.res (aa (Je b k q)))]) (fun i q r=>i<=(bB k).length/\eO (bB k) (AB k (0,0,0,0) []) (cu s).2=eO ((bB k).drop i) (AB k q []) r/\r.length<=(cu s).2.length/\jr r) (fun i q r=>(bB k).length - i) (0) (((0,0,0,0):Q4)) ((cu s).2) ⟨Zr _,O,Zq _,hka⟩ ⟨O,O,O,O,O,O,O,(yL F),O,(Gt (y7 _ _ _ _)),Zo⟩ (fun _ _ _=>O) ?_;rintro i q r ⟨hi,hg,hrl,hra⟩;refine ro 6 O (kB O (fun c48=>?_) (fun c48=>?_))
 ·have hil:i<(bB k).length:=by omega
  refine ro 6 O (kc (zI SH O I O) ?_);refine rr 7 O ?_;refine RK.c (S.pX (fs:=[4]) (t:=[(1004,.box [.str r])]) (t':=[(1004,.box [.str (fY r).2])]) (x6 I hra) hT call335 .none O (zc O .nil) V ⟨O,Zo⟩ V V V V O V) ?_;refine rr 11 O (kc (S.not .none O (zt O)) (kD (OK.cond O O (fun c57=>?_) (fun c57=>?_))))
  ·have hno:(fY r).1.2=false:=by grind
   have hT:jS s=((Ph.zero,false),(fY r).2):=phT_1 hk (by simp_all[qV]);refine kr (kc (zU P5 O O) (rr 4 O ?_));refine OK.ret ⟨aA.r2 (.bG O O O O Z3 O (.k (.same O) (.k (.same O) (.k (.same O) (.k (.same O) (.k (.same O) (.k .bO .z))))))) (zo O O) ?_,om (by rw[hT]),Zo⟩;rw[hT];rfl
  have hok:(fY r).1.2=true:=by grind
  refine ro 6 O ?_;refine kc (S.dc (xs:=Bu k q) (xs':=Bu k (q.set (bB k)[i] (fY r).1.1)) (()) Z8 .none (zt O) (zt O) O O O O O (EP (oq hil)) (ER (oq hil) _)) ?_;refine Rr 7 O I ?_;refine Ab.D.lp ⟨i+1,(q.set (bB k)[i] (fY r).1.1),(fY r).2,⟨by omega,by rw[hg,qV hil,Zn hok],gc (y8 r) hrl,hra.num⟩,I,O,O,O,O,O,O,O,O,O,(Gt (y7 _ _ _ _)),Zo⟩
 have hT2:=HT hk (q:=q) (r:=r) (by rw[hg,show i=(bB k).length by omega,co];rfl);refine ro 9 O (kB O (fun c64=>?_) (fun c64=>?_))
 ·have hT:=hT2.trans (Zn (show k≠5 by omega));refine kr (kc (zJ (us:=(Bu k q)) Z3 O (aa.Ej (k:=()) (xs:=Bu k q) O ⟨.same _,.same _,.same _,.same _,.same _,.same _,Zo⟩ O)) ?_);refine rr 4 O ?_;refine OK.ret ⟨aA.r2 (zy O O Z3 O) (zo O O) ?_,om (by rw[hT]),Zo⟩;rw[hT];rfl
 have hT3:=hT2.trans (Zm (show¬k≠5 by omega));refine ro 6 O ?_;refine RK.c (S.ot (fs:=[4]) (t:=[(1004,.box [.str r])]) (t':=[(1004,.box [.str (bL [32,40] r).2])]) (pY (p:=[32,40]) I C) call292 .none O (zc O (.cons (.bj (l:=[32,40]) O C) .nil)) V ⟨O,Zo⟩ V V V V O V) ?_;refine kc (S.not .none O (zt O)) (kD (OK.cond O O (fun c68=>?_) (fun c68=>?_)))
 ·have hT:=hT3.trans (Zn (show(bL [32,40] r).1=false by grind));refine kr (kc (zU P5 O O) (rr 4 O ?_));refine OK.ret ⟨aA.r2 (.bG O O O O Z3 O (.k (.same O) (.k (.same O) (.k (.same O) (.k (.same O) (.k (.same O) (.k .bO .z))))))) (zo O O) ?_,om (by rw[hT]),Zo⟩;rw[hT];rfl
 have hh:(bL [32,40] r).1=true:=by grind
 have hT4:=hT3.trans (Zm (by grind));have hlt2:(bL [32,40] r).2.length<s.length:=by have:=mg hh C;omega
 refine ro 5 O ?_;refine RK.c (S.pX (fs:=[4]) (t:=[(1004,.box [.str (bL [32,40] r).2])]) (t':=[(1004,.box [.str (iL (bL [32,40] r).2).2])]) (hls _ hlt2 (hra.has _)) hT call243 .none O (zc O .nil) V ⟨O,Zo⟩ V V V V O V) ?_;refine rr 11 O (kc (S.dc (xs:=Bu k q) (xs':=CP k q (iL (bL [32,40] r).2).1.1) (()) Wn .none (zt O) (zt O) O O O O O O O) (rr 3 O ?_));by_cases g79:(iL (bL [32,40] r).2).1.2=true
 ·have hT:=hT4.trans (Zn g79);refine kV (.c (zJ (us:=(CP k q (iL (bL [32,40] r).2).1.1)) Z3 O (aa.Ej (k:=()) (xs:=CP k q (iL (bL [32,40] r).2).1.1) (HM.bw _ _ _) ⟨.same _,.same _,.same _,.same _,.same _,.same _,Zo⟩ O)) (.c (zm O) (.c (zm O) (.c (S.move (.yes O O O I) O (zt O)) (.c (S.ot (fs:=[4]) (t:=[(1004,.box [.str (iL (bL [32,40] r).2).2])]) (t':=[(1004,.box [.str (bL [41] (iL (bL [32,40] r).2).2).2])]) (pY (p:=[41]) (by grind [Gu]) C) call292 (.yes O O O I) O (zc O (.cons (.bj (l:=[41]) O C) .nil)) V ⟨O,Zo⟩ V V V V O V) (.c (S.aQ .none O (zt O) (zt O) I) (.c (zS Z3 O O O O O O) (.c (za O) .nil)))))))) ?_;refine Ab.D.code (OK.ret ⟨aA.r2 (zy O O Z3 O) (zo O O) ?_,om (by rw[hT]),Zo⟩);rw[hT];rfl
 have hT:=hT4.trans (Zm I);refine kV (.c (zJ (us:=(CP k q (iL (bL [32,40] r).2).1.1)) Z3 O (aa.Ej (k:=()) (xs:=CP k q (iL (bL [32,40] r).2).1.1) (HM.bw _ _ _) ⟨.same _,.same _,.same _,.same _,.same _,.same _,Zo⟩ O)) (.c (zm O) (.c (zm O) (.c (zG O (by simp_all)) (.c (zG O (by simp_all)) (.c (S.aO .none O (zt O) .aJ (by simp_all)) (.c (zS Z3 O O O O O O) (.c (za O) .nil)))))))) ?_;refine Ab.D.code (OK.ret ⟨aA.r2 (zy O O Z3 O) (zo O O) ?_,om (by rw[hT]),Zo⟩);rw[hT];rfl
def AD{s:ba}(hl:s.length<=100000)(ha:jr s)(hph:∀s',s'.length<=s.length->jr s'->I0 s'):dU prog 243 [4] [.ptr 4 0] [(1004,.box [.str s])] [(1004,.box [.str (iL s).2])] (.cf [.sl ((iL s).1.1.map Ph.cs),.bool (iL s).1.2]):=by
 refine cH func243 O fun hT=>?_
 refine kr (kc (S.assign .none O .fW) (rr 5 O (RK.c (S.iI (k:=890) (sz:=6) .none O) (rr 3 O ?_))));refine OK.mP [4,890] (fun(acc:List Ph)(r:ba)=>[(0,.ptr 4 0),(1004,.box [.str r]),(4,.own 890 acc.length),(2890,.arr 6 (acc.map Ph.cs))]) (fun acc r=>iL s=qW (r.length+1) acc r/\acc.length+r.length<=s.length/\jr r) (fun acc r=>r.length) ([]) (s) ⟨O,by simp,ha⟩ ⟨O,O,(cw (by rfl)),(bH (by rfl)),Zo⟩ (fun _ _=>O) ?_;rintro acc r ⟨hg,hrl,hra⟩;have hst:=hg.trans (CQ _ acc r I);have hpl:=Gv r;have hpa:=ES hra;refine ro 4 O ?_;refine RK.c (S.pX (fs:=[4]) (t:=[(1004,.box [.str r])]) (t':=[(1004,.box [.str (jS r).2])]) (hph r I hra) hT call291 .none O (zc O .nil) V ⟨O,Zo⟩ V V V V O V) ?_;refine rr 12 O (kc (S.not .none O (zt O)) (kD (OK.cond O O (fun c13=>?_) (fun c13=>?_))))
 ·have hT:iL s=(([],false),(jS r).2):=hst.trans (Zn (by grind));refine kr (kc (S.assign .none O .fW) (rr 3 O ?_));refine OK.ret ⟨aA.r2 (zo O O) (zo O O) ?_,om (by rw[hT]),Zo⟩;grind
 have hok:(jS r).1.2=true:=by grind
 refine ro 6 O ?_;refine RK.c (zM [[_,_,_,_,_,_]] X0 O O O O) (kc (zP X0 O O F (by rfl) I (by grind [maxLen])) ?_);refine rr 6 O ?_;refine RK.c (S.ot (fs:=[4]) (t:=[(1004,.box [.str (jS r).2])]) (t':=[(1004,.box [.str (bL [59] (jS r).2).2])]) (pY (p:=[59]) I C) call292 .none O (zc O (.cons (.bj (l:=[59]) O C) .nil)) V ⟨O,Zo⟩ V V V V O V) ?_;refine kc (S.not .none O (zt O)) (kD (OK.cond O O (fun c20=>?_) (fun c20=>?_)))
 ·have hT:iL s=((acc++[(jS r).1.1],true),(bL [59] (jS r).2).2):=hst.trans ((Zm (by simp_all)).trans (Zm (by grind)));refine kO (OK.freeze 4 O O O F ?_);refine ro 6 O ?_;refine OK.ret ⟨aA.r2 (zo O O) (zo O O) ?_,om (by rw[hT]),Zo⟩;rw[hT];dsimp only;rw[dE,wy,←Ph.CR];rfl
 have hm:(bL [59] (jS r).2).1=true:=by grind
 refine OK.skip (Ab.D.blk ?_);refine Ab.D.lp ⟨(acc++[(jS r).1.1]),(bL [59] (jS r).2).2,⟨hst.trans ((Zm (by simp_all)).trans (Zn hm)),by rw[Zs,pu];have:=mg hm C;omega,hpa.has _⟩,(by have:=mg hm C;omega),O,O,(cw F),(bH (by rw[dE,wy,←Ph.CR];rfl)),Zo⟩
def CS{s:ba}(hl:s.length<=100000)(ha:jr s):x4 s:=by
 have key:∀(n:Nat)(s:ba),s.length<n->s.length<=100000->jr s->x4 s:=by
  intro n
  induction n with
  |zero=>omega
  |succ n ih=>
   intro s h hl ha;exact AD hl ha fun s' hs' ha'=>AA I ha' fun s2 hs2 ha2=>ih s2 I I ha2
 exact key _ s (AC _) hl ha
end Go.Proofs.YtpbalelbenmmbaaGreatDoor
namespace Go.Proofs.YtpbalelbenmmbaaGreatDoor
open Go.Ab Tryz
abbrev IL:=Nat×Int×Int
def tV(x:IL):bi:=[wM x.1,bv x.2.1,bv x.2.2]
def vF:Nat:=360
def vG:Nat:=361
def pc:Nat:=362
def xI:Nat:=363
def dr(k:Int):List IL:=if k=0 then [(vF,1,10000),(pc,1,200)]else if k=1 then [(pc,1,200)]else if k=2 then [(vG,0,3),(pc,1,200)]else if k=3 then [(xI,200,3000),(vF,1,10000),(pc,1,200)]else if k=4 then [(xI,200,3000),(vG,0,3),(pc,1,200)]else if k=5 then [(pc,1,10)]else []
def Fx(l:List Ph):l.map Ph.cs=l.map Ph.cx:=ne fun p _=>p.CR.symm
def Ai{p:Ph}:Ct prog 360 [.agg p.cx] (bv p.power):=by
 refine cI func360 O (ro 13 O (kR O O ?_));rfl
def El{p:Ph}:Ct prog 361 [.agg p.cx] (bv p.law):=by
 refine cI func361 O (ro 13 O (kR O O ?_));rfl
def Aj{p:Ph}:Ct prog 362 [.agg p.cx] (bv p.aR):=by
 refine cI func362 O (ro 13 O (kR O O ?_));rfl
def xJ{p:Ph}:Ct prog 363 [.agg p.cx] (bv p.kelvin):=by
 refine cI func363 O (ro 13 O (kR O O ?_));rfl
def B2{k:Int}:Ct prog 355 [bv k] (.sl ((dr k).map tV)):=by
 refine cI func355 O (kr (kc (S.assign .none O .fW) (rr 4 O (kc (S.build P7 O .none O (.cons .oL (zC O (zD O))) O O) (kc (S.build P7 O .none O (.cons .oL (zC O (zD O))) O O) (rr 7 O (OK.tr 3 [wM vF,bv 1,bv 10000] O O uO (OK.tr 4 [wM vG,bv 0,bv 3] O O uO (OK.bN (kc (S.build P7 O .none O (.cons .oL (zC O (zD O))) O O) (kc (S.build P7 O .none O (.cons .oL (zC O (zD O))) O O) ?_)))))))))));refine rr 8 O (OK.tr 5 [wM pc,bv 1,bv 200] O O uO (OK.tr 6 [wM xI,bv 200,bv 3000] O O uO (ro 11 O (kB O (fun c12=>?_) (fun c12=>?_)))))
 ·refine ro 4 O ?_;refine kc (S.mkData (rows:=[[_,_,_],[_,_,_]]) T4 .none O (zc O (zc O .nil)) O O O O O O O) ?_;refine rr 3 O (kR O O ?_);simp_all[dr,tV]
 refine ro 6 O (kB O (fun c17=>?_) (fun c17=>?_))
 ·refine ro 3 O ?_;refine kc (S.mkData (rows:=[[_,_,_]]) T4 .none O (zc O .nil) O O O O O O O) ?_;refine rr 3 O (kR O O ?_);simp_all[dr,tV]
 refine ro 6 O (kB O (fun c21=>?_) (fun c21=>?_))
 ·refine ro 4 O ?_;refine kc (S.mkData (rows:=[[_,_,_],[_,_,_]]) T4 .none O (zc O (zc O .nil)) O O O O O O O) ?_;refine rr 3 O (kR O O ?_);simp_all[dr,tV]
 refine ro 6 O (kB O (fun c26=>?_) (fun c26=>?_))
 ·refine ro 5 O ?_;refine kc (S.mkData (rows:=[[_,_,_],[_,_,_],[_,_,_]]) T4 .none O (zc O (zc O (zc O .nil))) O O O O O O O) ?_;refine rr 3 O (kR O O ?_);simp_all[dr,tV]
 refine ro 6 O (kB O (fun c32=>?_) (fun c32=>?_))
 ·refine ro 5 O ?_;refine kc (S.mkData (rows:=[[_,_,_],[_,_,_],[_,_,_]]) T4 .none O (zc O (zc O (zc O .nil))) O O O O O O O) ?_;refine rr 3 O (kR O O ?_);simp_all[dr,tV]
 refine ro 6 O (kB O (fun c38=>?_) (fun c38=>?_))
 ·refine ro 9 O ?_;refine kc (S.mkData (rows:=[[_,_,_]]) T4 .none O (zc O .nil) O O O O O O O) ?_;refine rr 3 O (kR O O ?_);simp_all[dr,tV]
 refine ro 5 O (kc (S.assign .none O .fW) (kD (kR O O ?_)));simp_all[dr]
