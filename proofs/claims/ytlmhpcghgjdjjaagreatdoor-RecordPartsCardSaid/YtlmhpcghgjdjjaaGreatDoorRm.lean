import Derived.Test.YtlmhpcghgjdjjaaGreatDoorMd
set_option linter.all false
set_option maxHeartbeats 2000000
open List renaming length->R
namespace Go.Proofs.Z9
open Go.Ab Tryz
set_option maxRecDepth 9999
def HM.set_set{K:Type}[DecidableEq K](M:HM K)(k:K)(a b:Option (Nat×HK)):(M.set k a).set k b=M.set k b:=by
 grind [HM.set]
def Dz{a b c d:Bool}(h:aF [ae a 2,ae b 5,ae c 6,ae d 17]=0):a=true/\b=true/\c=true/\d=true:=by
 grind [aF,ae]
def GU{a b:Bool}(h:aF [ae a 22,ae b 16]=0):a=true/\b=true:=by
 grind [aF,ae]
def xg{H:ax}{n e:Int}{r c:ba}(a:aF [ae (decide (n<=1000000)) 2,ae (H.vr n).isNone 5,ae ((H.Ec r).isSome&&(H.Bs c).isSome) 6,ae H.xE.isNone 17]=e)(h0:e≠0):fT H n r c=(H,e):=by
 simp_all[fT]
def DA{H:ax}{n:Int}{r c:ba}{k j:Nat}{v:Rec×Int}{q:o6×Int}(h0:aF [ae (decide (n<=1000000)) 2,ae (H.vr n).isNone 5,ae ((H.Ec r).isSome&&(H.Bs c).isSome) 6,ae H.xE.isNone 17]=0)(b:H.Ec r=some k)(a:H.aU[k]?=some v)(d:H.Bs c=some j)(e:H.aC[j]?=some q):
  fT H n r c=if aF [ae (decide (q.1.shots<q.1.nM)) 22,ae (decide ((R H.parts:Int)<12)) 16]≠0 then(H,aF [ae (decide (q.1.shots<q.1.nM)) 22,ae (decide ((R H.parts:Int)<12)) 16])else({H with aC:=H.aC.modify j fun q=>({q.1 with shots:=q.1.shots+1},q.2),parts:=H.parts++[(⟨n,v.1.name,v.1.iN,q.1.name,[],0,false,0,false,Span.zero⟩,[v.2,q.2,H.entries])]},0):=by
 simp_all[fT]
def Ut{H:ax}{n:ba}{j:Nat}(a:H.Bs n=some j)(b:H.busy n=false):tS H n=({H with aC:=H.aC.modify j fun q=>({q.1 with shots:=0},q.2)},0):=by
 simp_all[tS]
def PI{H:ax}{n:ba}{j:Nat}(a:H.Bs n=some j)(b:H.busy n=true):tS H n=(H,17):=by
 simp_all[tS]
def HA.Qw{A:HA}{n:ba}{j:Nat}{v:fk}(b:ix (fun v=>decide (v.c.name=n)) A.aC=some j)(a:A.aC[j]?=some v):v.c.name=n:=by
 grind [eE]
def DB{H:ax}{j:Nat}{c:o6}{e:Int}(h:H.aC[j]?=some (c,e))(f:o6->o6):(H.aC.modify j fun q=>(f c,q.2))=H.aC.modify j fun q=>(f q.1,q.2):=by
 simp_all[cR]
def ax.Ip{H:ax}{i:Nat}{p b a:Part}{es:bd}(h:H.parts[i]?=some (p,es)):((H.eC i fun _=>b).jO i).eC i (fun _=>a)=(H.eC i fun _=>a).jO i:=by
 simp_all[ax.eC,ax.jO,cR,kA]
def HA.GV{A:HA}{h:Mem}{Y:Nat->Prop}{w:World}(d:aa A.mem h Y w):∀i j,i<R A.parts->j<R A.parts->A.pb i=A.pb j->i=j:=fun i j hi a e=>by
 have c:=HA.Iz hi;have b:=HA.Iz a;rw[←HA.pb_at hi]at c;rw[←HA.pb_at a,←e]at b;exact Key.p.inj (d.2 _ _ _ _ _ c b)
def qb(p:Part)(f:Frame):Option Nat:=ix (fun g:Frame=>decide (g.tick=f.tick)) p.frames
def find_ix{α:Type}(g:α->Bool)(l:List α):l.find? g=(ix g l).bind (l[·]?):=by
 have key:∀(l:List α)(k:Nat)(L:List α),(∀i,L[k+i]?=l[i]?)->l.find? g=(iR g k l).bind (L[·]?):=by
  intro l
  induction l with
  |nil=>intro k L _;rfl
  |cons x l b=>
   intro k L a;rw[eβ,iR];cases c:g x with
   |true=>simpa using (a 0).symm
   |false=>
    simp only[bξ,if_false];exact b (k+1) L fun i=>by rw[show k+1+i=k+(i+1)by omega,a];simp
 grind
def DC{H:ax}{f:Frame}{a:Int}{i:Nat}(h:H.xE=some i)(h0:a≠0):frameT H f a=(H,a):=by simp_all[frameT]
def DD{H:ax}{f:Frame}{i:Nat}(h:H.xE=some i)(h0:dL H.aS f≠0):frameT H f 0=(H,dL H.aS f):=by simp_all[frameT]
def DE{H:ax}{f:Frame}{i:Nat}(h:H.xE=some i)(h0:dL H.aS f=0)(a:qb (H.p i) f=none):frameT H f 0=((H.eC i fun p=>{p with frames:=p.frames++[f]}).jO i,0):=by
 unfold frameT;rw[h];dsimp only;rw[Zm C,Zm I,find_ix,show ix _ _=none from a];rfl
def DF{H:ax}{f g:Frame}{i k:Nat}(h:H.xE=some i)(h0:dL H.aS f=0)(a:qb (H.p i) f=some k)(b:(H.p i).frames[k]?=some g):frameT H f 0=if g.values=f.values then(H.jO i,0)else(H,13):=by
 unfold frameT;rw[h];dsimp only;rw[Zm C,Zm I,find_ix,show ix _ _=some k from a];simp_all
def GW{H:ax}{i:Nat}(h:H.xE=some i):n8 H=((H.eC i (rC H.aS H.env H.bz)).jO i,0):=by unfold n8;rw[h]
def HA.uQ.jq{A A1:HA}{i:Nat}{w:aB}{m:Int}{f:Part->Part}(h:A.uQ A1 i w (A.plain.eC i f) m):A1.aS=A.aS/\A1.env=A.env/\A1.bz=A.bz/\A1.entries=A.entries:=
 ⟨rn ax.aS h.plain,rn ax.env h.plain,rn ax.bz h.plain,rn ax.entries h.plain⟩
def HA.uQ.I9{A A1:HA}{i:Nat}{w:aB}{m:Int}(h:A.uQ A1 i w (A.plain.jO i) m):A1.aS=A.aS/\A1.env=A.env/\A1.bz=A.bz/\A1.entries=A.entries:=
 ⟨rn ax.aS h.plain,rn ax.env h.plain,rn ax.bz h.plain,rn ax.entries h.plain⟩
def yl(l:bc)(i:Nat):decide (0<=bq (fun k=>decide (i=k)) 0 l)=l.contains i:=by
 have key:∀(l:bc)(k:Nat),decide (0<=bq (fun k=>decide (i=k)) k l)=l.contains i:=by
  intro l
  induction l with
  |nil=>intro k;rfl
  |cons x l a=>
   intro k;rw[bq,List.contains_cons];grind
 grind
def Rv{A:HA}{m:Int}(d:A.Ok m)(x:m+2<=1000){t:ba}:dF prog 161 [] [.raw (pV A.b),.agg (Words.mk [] [t]).cs] [(3000,.res (aa A.mem))] [(3000,.res (JX A.b (tS A.plain t).1 (m+2)))] (bv (tS A.plain t).2):=by
 refine cG func161 O fun{_ _}=>?_
 have g:=HA.nU A t;refine ro 11 O ?_;refine kc (S.aP (n:=0) Z2 .none O (zt O) (.af O) O (by exact aθ _) O) (kc (zV Y9 O O) (kc (S.fI ((fun J u z=>(qJ d (n:=t) u z).jR u)) call134 .none O (zc O (zc O .nil)) O O) ?_));refine jm O (kc (S.fI ((fun J u z=>(lg d u z).jR u)) call198 .none O (zc O .nil) O O) ?_);refine rr 8 O (kc (S.uA underlying222 .none O (zt O)) (kD (OK.cond O O (fun r=>?_) (fun r=>?_))))
 ·have B:ix (fun v=>decide (v.c.name=t)) A.aC=none:=ku r;refine ro 5 O ?_;have f:tS A.plain t=(A.plain,6):=by unfold tS;rw[g,B]
  refine OK.bU (J':=JX A.b (tS A.plain t).1 (m+2)) O (JX.az _ _ _) (fun h Y w e=>HA.jx d I x (by rw[f]) e) ?_;refine OK.ret ⟨aA.r1 (zo O O) ?_,O,Zo⟩;rw[f]
 obtain⟨j,e⟩:∃j,ix (fun v=>decide (v.c.name=t)) A.aC=some j:=je r;obtain⟨l,a⟩:=at_of_lt (eE e).1;rw[gd e (HA.cb? a)];refine ro 4 O ?_;rcases hu:ix (fun v=>decide (v.p.place=0)) A.parts with _|i
 ·rw[Pu hu];have hB:A.plain.busy t=false:=by unfold ax.busy;rw[HA.nW,hu]
  refine kV (.c (zm O) (.c (S.ET underlying128 .none O (zt O)) (.c (zm O) (.c (zG O W) (.c (zG O W) (.c (zG O W) (.c (zG O W) (.c (zG O W) (.c (zG O W) (.c (zG O W) (.c (zG O W) (.c (zG O W) (.c (zG O W) (.c (zG O W) (.c (S.aO .none O (zt O) .aJ W) .nil))))))))))))))) ?_;refine rd 5 O ?_;have f:=Ut (g.trans e) hB;refine ro 5 O (kc (S.dc (xs':=({l with c:={l.c with shots:=0}}:fk).cs) (.c j) Z8 .none (zt O) (.af O) O (HA.xQ a) O O O O O) (rr 3 O ?_));refine OK.Iq {l.c with shots:=0} d a O (by dsimp only;have:=d.cl l (mr a);omega) fun C o s=>?_
  refine ro 4 O ?_;refine OK.bU (J':=JX A.b (tS A.plain t).1 (m+2)) O (JX.az _ _ _) (fun h Y w e=>jM o.ok I x o.b (by rw[o.plain,f,←DB (HA.jD a) (fun c=>{c with shots:=0})]) e) ?_;refine OK.ret ⟨aA.r1 (zo O O) ?_,O,Zo⟩;rw[f]
 obtain⟨v,y⟩:=at_of_lt (eE hu).1;rw[gd hu (HA.Bt y)];have hB:A.plain.busy t=decide (v.p.coil=t):=by unfold ax.busy;rw[HA.nW,hu];dsimp only;rw[HA.mb y]
 refine kV (.c (zm O) (.c (S.ET underlying128 .none O (zt O)) (.c (zm O) (.c (S.move (.yes O O O W) O (zt O)) (.c (S.Cn (.yes O O O W) O (zt O) O) (.c (S.jC YP (.yes O O O W) O (zt O)) (.c (S.jC SH (.yes O O O W) O (zt O)) (.c (S.aG Y9 (.yes O O O W) O (zt O) O (aa.dQ (k:=.p i) (HA.dm y) O (.same _))) (.c (S.move (.yes O O O W) O (zt O)) (.c (S.Cn (.yes O O O W) O (zt O) O) (.c (S.jC WX (.yes O O O W) O (zt O)) (.c (S.jC SF (.yes O O O W) O (zt O)) (.c (S.aG Y9 (.yes O O O W) O (zt O) O (aa.dQ (k:=.c j) (HA.xQ a) O (.same _))) (.c (S.eN (.yes O O O W) O (zt O) (zt O)) (.c (S.aQ .none O (zt O) (zt O) W) .nil))))))))))))))) ?_;refine Ab.D.code (kB O (fun q=>?_) (fun q=>?_))
 ·have f:=PI (g.trans e) (by rw[hB,tm,←HA.Qw e a];exact q);refine ro 5 O ?_;refine OK.bU (J':=JX A.b (tS A.plain t).1 (m+2)) O (JX.az _ _ _) (fun h Y w e=>HA.jx d I x (by rw[f]) e) ?_;refine OK.ret ⟨aA.r1 (zo O O) ?_,O,Zo⟩;rw[f]
 have f:=Ut (g.trans e) (by rw[hB,ul,←HA.Qw e a];exact q);refine ro 8 O (kc (S.dc (xs':=({l with c:={l.c with shots:=0}}:fk).cs) (.c j) Z8 .none (zt O) (.af O) O (HA.xQ a) O O O O O) (rr 3 O ?_));refine OK.Iq {l.c with shots:=0} d a O (by dsimp only;have:=d.cl l (mr a);omega) fun C o s=>?_
 refine ro 4 O ?_;refine OK.bU (J':=JX A.b (tS A.plain t).1 (m+2)) O (JX.az _ _ _) (fun h Y w e=>jM o.ok I x o.b (by rw[o.plain,f,←DB (HA.jD a) (fun c=>{c with shots:=0})]) e) ?_;refine OK.ret ⟨aA.r1 (zo O O) ?_,O,Zo⟩;rw[f]
def Bg{A:HA}{m:Int}(a:A.Ok m)(X:m+2<=1000){n:Int}{r c:ba}:dF prog 155 [] [.raw (pV A.b),.agg (Words.mk [n] [r,c]).cs] [(3000,.res (aa A.mem))] [(3000,.res (JX A.b (fT A.plain n r c).1 (m+2)))] (bv (fT A.plain n r c).2):=by
 refine cG func155 O fun{_ _}=>?_
 have hp1:=HA.gG A n;have T:=HA.nV A r;have Q:=HA.nU A c;have hp4:=HA.nW A;have hlp:=a.lp;have hm0:=a.m0;have hPl:(R A.plain.parts:Int)=R A.parts:=by show(R (A.parts.map _):Int)=_;rw[Zx]
 obtain⟨e,V⟩:∃e,aF [ae (decide (n<=1000000)) 2,ae (A.plain.vr n).isNone 5,ae ((A.plain.Ec r).isSome&&(A.plain.Bs c).isSome) 6,ae A.plain.xE.isNone 17]=e:=⟨_,rfl⟩;have hw:=V;rw[hp1,T,Q,hp4]at hw;refine ro 10 O ?_;refine kc (S.aP (n:=0) Z4 .none O (zt O) (.af O) O (by exact aθ _) O) ?_;refine rr 5 O ?_;refine kV (.c (zm O) (.c (zf UC O) (.c (zl SO O O O O) (.c (S.aP (n:=0) Z2 .none O (zt O) (.af O) O (by exact aθ _) O) (.c (zV Y9 O O) (.c (S.fI ((fun J z G=>(l9 a (n:=r) z G).jR z)) call136 .none O (zc O (zc O .nil)) O O) (.c (zm O) (.c (zf UC O) (.c (zl SO O O O O) (.c (S.aP (n:=1) Z2 .none O (zt O) (.af O) O (by exact Nat.one_lt_two) O) (.c (zV Y9 O O) (.c (S.fI ((fun J z G=>(qJ a (n:=c) z G).jR z)) call134 .none O (zc O (zc O .nil)) O O) (.c (za O) (.c (za O) .nil)))))))))))))) ?_;refine rd 5 O (kc (zK ak call96 O) (jm O (jm O (kc (S.fI ((fun J z G=>(qY a (n:=n) z G).jR z)) call137 .none O (zc O (zc O .nil)) O O) ?_))));refine kc (S.uA underlying128 .none O (zt O)) (kc (zK ak call96 O) (jm O (kc (S.ET underlying138 .none O (zt O)) (jm O (RK.split (t:=36) O (fun N=>?_) (fun N=>?_))))))
 ·have hb:(dG (fun v=>decide (v.r.name=r)) A.aU).isSome=true:=by simpa only[uR]using N
  rw[hb,tn]at hw;refine kc (S.move (zg O O) O (zt O)) (kc (S.ET underlying222 (zg O O) O (zt O)) (kc (S.aQ .none O (zt O) (zt O) O) (kc (zK ak call96 O) (jm O (kc (S.fI ((fun J z G=>(lg a z G).jR z)) call198 .none O (zc O .nil) O O) ?_)))));refine kc (S.uA underlying128 .none O (zt O)) (kc (zK ak call96 O) (RK.c (zM [[_],[_],[_],[_]] Zc O O O O) (kc (S.callL (bF (l:=[_,_,_,_])) call76 .none O (zc O .nil) (.cons (.p (.own O O) O) .nil) O) ?_)));refine rr 10 O (kB O (fun d=>?_) (fun d=>?_))
  ·simp only[r8,uR,nj,Kp,aι]at d;rw[hw]at d;have F:=xg V d;refine ro 6 O ?_;refine OK.bU (J':=JX A.b (fT A.plain n r c).1 (m+2)) O (JX.az _ _ _) (fun h Y w E=>HA.jx a I X (by rw[F]) E) ?_;refine OK.ret ⟨aA.r1 (zo O O) ?_,O,Zo⟩;rw[F];refine cy ?_;simp only[r8,uR,nj,Kp,aι];exact hw
  have h0:e=0:=by rw[←hw];simpa only[r8,uR,nj,Kp,aι,ne_eq,Zu]using d
  rw[h0]at V hw;obtain⟨q1,q2,q3,q4⟩:=Dz hw;obtain⟨k,hk⟩:=sk.1 hb;obtain⟨hk1,_⟩:=j5 hk;obtain⟨f,L⟩:=at_of_lt hk1;obtain⟨j,E⟩:=sk.1 q3;obtain⟨i,g⟩:=at_of_lt (eE E).1;have hcl:=a.cl i (mr g);rw[gd hk (HA.IB L),gd E (HA.cb? g)];have M:=DA V (T.trans hk) (HA.oe L) (Q.trans E) (HA.jD g);rw[hPl]at M;refine ro 4 O ?_;refine kV (.c (zm O) (.c (zn O O) (.c (zr WX O) (.c (zr X0 O) (.c (zH Z8 O (aa.dQ (k:=.c j) (HA.xQ g) O (.same _))) (.c (zm O) (.c (zn O O) (.c (zr WX O) (.c (zr SG O) (.c (zH Z8 O (aa.dQ (k:=.c j) (HA.xQ g) O (.same _))) (.c (S.lss .none O (zt O) (zt O)) (.c (zK ak call96 O) (.c (zm O) (.c (zn O O) (.c (zr T3 O) (.c (zH (u:=.sl (A.parts.map iA)) Yg O (aa.dQ (k:=.bn) O O (.sl a.ps))) (.c (zk Yy O) (.c (S.lss .none O (zt O) (.af O)) (.c (zK ak call96 O) (.c (zM [[_],[_]] Zc O O O O) (.c (S.callL (bF (l:=[_,_])) call76 .none O (zc O .nil) (.cons (.p (.own O O) O) .nil) O) (.c (za O) .nil)))))))))))))))))))))) ?_;refine rd 7 O (kB O (fun H=>?_) (fun H=>?_))
  ·have F:=M.trans (Zn H);refine ro 6 O ?_;refine OK.bU (J':=JX A.b (fT A.plain n r c).1 (m+2)) O (JX.az _ _ _) (fun h Y w E=>HA.jx a I X (by rw[F]) E) ?_;refine OK.ret ⟨aA.r1 (zo O O) ?_,O,Zo⟩;rw[F]
  have F:=M.trans (Zm H);obtain⟨s1,s2⟩:=GU (Zu.1 H);have hsl:i.c.shots<i.c.nM:=pf s1;refine ro 8 O ?_;refine kc (zH Z8 O (aa.dQ (k:=.c j) (HA.xQ g) O (.same _))) ?_;refine Rr 4 O I (kc (S.dc (xs':=({i with c:={i.c with shots:=i.c.shots+1}}:fk).cs) (.c j) Z8 .none (zt O) (zt O) O (HA.xQ g) O O O O O) ?_);refine rr 3 O ?_;refine OK.Iq {i.c with shots:=i.c.shots+1} a g O (by dsimp only;omega) fun o W K=>?_
  have B:o.aU[k]?=some f:=by rw[W.aU];exact L
  have y:=W.ok;have hlp1:=y.lp;rw[←W.b];refine OK.Ye follows (ι:=((Nat×Nat)×Nat×Nat×Nat)) ((0,0),0,0,0) 33 O (S.GQ (s:=[(87,.raw (o.ph.v (R o.parts))),(115,.own 115 1),(2115,.cM 1 [] [.di 114 1 0] []),(2114,.cM 14 [] [bv n,.str f.r.name,bv f.r.iN,.str i.c.name,.bO,bv 0,.bool false,bv 0,.bool false,bv 0,bv 0,bv 0,bv 0,.own 112 3] []),(2112,.arr 1 [[bv f.entry],[bv i.entry],[bv o.entries]]),(3000,.res (aa o.mem))]) (sz:=14) (sz2:=1) (j:=115) (k:=114) (k2:=112) (n2:=3) (cells:=[bv n,.str f.r.name,bv f.r.iN,.str i.c.name,.bO,bv 0,.bool false,bv 0,.bool false,bv 0,bv 0,bv 0,bv 0,.own 112 3]) (rows2:=[[bv f.entry],[bv i.entry],[bv o.entries]]) (fun hv=>[bv n,.str f.r.name,bv f.r.iN,.str i.c.name,.raw (.slice none 0 0),bv 0,.bool false,bv 0,.bool false,bv 0,bv 0,bv 0,bv 0,.raw hv]) .ps (.p (R o.parts)) (.e (R o.parts)) OM O (zt O) y.ps Z Z (zt O) O O O O C O O (fun b cap=>⟨.inl ⟨O,O⟩,.inl ⟨O,O⟩,.inl ⟨O,O⟩,.inl ⟨O,O⟩,.inl ⟨O,O⟩,.inl ⟨O,O⟩,.inl ⟨O,O⟩,.inl ⟨O,O⟩,.inl ⟨O,O⟩,.inl ⟨O,O⟩,.inl ⟨O,O⟩,.inl ⟨O,O⟩,.inl ⟨O,O⟩,.inr ⟨O,O⟩,Zo⟩) (by simp only[Zx];omega) (by simp only[Zx,maxLen];omega)).st (fun q=>(.cs (zm O) (.cs (zm O) (.cs (zn O O) (.cs (zr T3 O) (.cs (zH Yg O (aa.dQ (k:=.bn) O O (.same _))) (.cs (zm O) (.cs (zm O) (.cs (zn O O) (.cs (zr Vg O) (.cs (zr WW O) (.cs (zJ (us:=[.str f.r.name,bv f.r.iN]) MO O (aa.Ej (k:=.v k) (xs:=f.cs) (HA.Cz B) ⟨.same _,.same _,Zo⟩ O)) (.cs (zm O) (.cs (zn O O) (.cs (zr WX O) (.cs (zr SF O) (.cs (zH Y9 O (aa.dQ (k:=.c j) (HA.xQ K) O (.same _))) (.cs (zU oy O O) (.cs (zm O) (.cs (zn O O) (.cs (zr P3 O) (.cs (zH Z8 O (aa.dQ (k:=.v k) (HA.Cz B) O (.same _))) (.cs (zm O) (.cs (zn O O) (.cs (zr P6 O) (.cs (zH Z8 O (aa.dQ (k:=.c j) (HA.xQ K) O (.same _))) (.cs (zm O) (.cs (zn O O) (.cs (zr Y4 O) (.cs (zH Z8 O (aa.dQ (k:=.bn) O O (.same _))) (.cs (zM [[_],[_],[_]] ZM O O O O) (.cs (zU bu132 O O) (.cs (S.Ex (k:=114) O .none O (zt O) O) (.cs (S.q9 (k:=115) OM .none O (zt O) O)
   (.x ⟨O,O,O,O,O,O,Zo⟩ (.cn (zn O O) (.cn (zr T3 O) (.cn (S.dc (xs:=o.cs) (xs':=(o.rT ⟨q.2.1,none,some q.1,⟨n,f.r.name,f.r.iN,i.c.name,[],0,false,0,false,Span.zero⟩,[f.entry,i.entry,o.entries]⟩ q.2.2).cs) (.bn) Yg .none (zt O) (zt O) O ((HM.ai _ _ Z).trans ((HM.ai _ _ Z).trans ((HM.ai _ _ Z).trans o.ID))) O O O O (Fa o ⟨q.2.1,none,some q.1,⟨n,f.r.name,f.r.iN,i.c.name,[],0,false,0,false,Span.zero⟩,[f.entry,i.entry,o.entries]⟩ q.2.2)) .nil)))))))))))))))))))))))))))))))))))))) (fun q=>?_)
  refine Ab.D.code (kO ?_);refine OK.rT ⟨n,f.r.name,f.r.iN,i.c.name,[],0,false,0,false,Span.zero⟩ [f.entry,i.entry,o.entries] y I O O O (by dsimp only;decide) ⟨y.vn f (mr B),a.cn i (mr g)⟩ fun A2 U hb2 P=>?_
  refine ro 4 O ?_;refine OK.bU (J':=JX o.b (fT A.plain n r c).1 (m+2)) O (JX.az _ _ _) (fun h Y w E=>jM U I X hb2 (by rw[P,W.plain,F,←DB (HA.jD g) (fun c=>{c with shots:=c.shots+1}),W.entries];rfl) E) ?_;refine OK.ret ⟨aA.r1 (zo O O) ?_,O,Zo⟩;rw[F]
 have hb:(dG (fun v=>decide (v.r.name=r)) A.aU).isSome=false:=by simpa[uR]using N
 rw[hb,tp]at hw;refine rr 3 O (kc (zK ak call96 O) (jm O (kc (S.fI ((fun J z G=>(lg a z G).jR z)) call198 .none O (zc O .nil) O O) ?_)));refine kc (S.uA underlying128 .none O (zt O)) (kc (zK ak call96 O) (RK.c (zM [[_],[_],[_],[_]] Zc O O O O) (kc (S.callL (bF (l:=[_,_,_,_])) call76 .none O (zc O .nil) (.cons (.p (.own O O) O) .nil) O) ?_)));refine rr 10 O (kB O (fun d=>?_) (fun d=>?_))
 ·simp only[r8,uR,nj,Kp,aι]at d;rw[hw]at d;have F:=xg V d;refine ro 6 O ?_;refine OK.bU (J':=JX A.b (fT A.plain n r c).1 (m+2)) O (JX.az _ _ _) (fun h Y w E=>HA.jx a I X (by rw[F]) E) ?_;refine OK.ret ⟨aA.r1 (zo O O) ?_,O,Zo⟩;rw[F];refine cy ?_;simp only[r8,Kp,aι];exact hw
 exfalso;have h0:e=0:=by rw[←hw];simpa only[r8,uR,nj,Kp,aι,ne_eq,Zu]using d
 rw[h0]at hw;obtain⟨_,_,q3,_⟩:=Dz hw;cases q3
def Fb{A:HA}{m:Int}(F:A.Ok m)(hm:m+2<=1000){w:Words}:dF prog 157 [] [.raw (pV A.b),.agg w.cs] [(3000,.res (aa A.mem))] [(3000,.res (JX A.b (n8 A.plain).1 (m+2)))] (bv (n8 A.plain).2):=by
 refine cG func157 O fun{_ _}=>?_
 have T:=HA.nW A;refine ro 9 O (kc (S.fI ((fun J B W=>(lg F B W).jR B)) call198 .none O (zc O .nil) O O) ?_);refine rr 7 O (kc (S.uA underlying128 .none O (zt O)) (kD (OK.cond O O (fun c9=>?_) (fun c9=>?_))))
 ·have hN:ix (fun v=>decide (v.p.place=0)) A.parts=none:=ku c9;refine ro 5 O ?_;have y:n8 A.plain=(A.plain,12):=by unfold n8;rw[T,hN]
  refine OK.bU (J':=JX A.b (n8 A.plain).1 (m+2)) O (JX.az _ _ _) (fun h Y w K=>HA.jx F I hm (by rw[y]) K) ?_;refine OK.ret ⟨aA.r1 (zo O O) ?_,O,Zo⟩;rw[y]
 obtain⟨i,E⟩:∃i,ix (fun v=>decide (v.p.place=0)) A.parts=some i:=je c9;obtain⟨v,z⟩:=at_of_lt (eE E).1;rw[gd E (HA.Bt z)];refine ro 3 O ?_;have y:=GW (T.trans E);refine ro 6 O ?_;refine kc (zH SP O (aa.dQ (k:=.bn) O O (.same _))) ?_;refine rr 3 O (kc (S.dc (xs':=({v with p:={v.p with place:=1}}:aB).cs) (.p i) Z8 .none (zt O) (.af O) O (HA.dm z) O O O O O) (rr 3 O ?_));refine kc (S.dc (xs':=({v with p:={v.p with place:=1,lP:=A.bz}}:aB).cs) (.p i) SP .none (zt O) (zt O) O (HM.bw _ _ _) O O O O O) ?_;refine rr 3 O ?_;rw[HM.set_set];refine OK.y9 {v.p with place:=1,lP:=A.bz} F z O O (by dsimp only;decide) fun A1 L=>?_
 have g:=L.ok;obtain⟨G,hn2,U,hn4⟩:=L.jq;obtain⟨u,t,Q,r⟩:∃u:aB,A1.parts[i]?=some u/\u.b=v.b/\u.p={v.p with place:=1,lP:=A.bz}:=⟨_,L.at_,rfl,rfl⟩;rw[←Q,←L.b];refine OK.Ye follows (ι:=(Nat×Nat)) (0,0) 10 O (S.happR (s:=[(26,.raw (u.eh.v u.es.length)),(31,.own 31 1),(2031,.arr 1 [[bv A1.entries]]),(3000,.res (aa A1.mem))]) (m:=1) (rows2:=[[bv A1.entries]]) (.e i) ZM O (zt O) (g.IG t) (zt O) O O O C (by simp only[bM,Zx];have:=g.le _ (mr t);have:=g.m0;omega) (by simp only[bM,Zx,maxLen];have:=g.le _ (mr t);have:=g.m0;omega)).st (fun q=>(.cs (zm O) (.cs (zm O) (.cs (zn O O) (.cs (zr Q8 O) (.cs (zH Zd O (aa.dQ (k:=.p i) (HA.dm t) O (.same _))) (.cs (zm O) (.cs (zn O O) (.cs (zr Y4 O) (.cs (zH Z8 O (aa.dQ (k:=.bn) O O (.same _))) (.cs (zM [[_]] ZM O O O O)
  (.x ⟨O,O,O,O,Zo⟩ (.cn (zn O O) (.cn (zr Q8 O) (.cn (S.dc (xs:=u.cs) (xs':=({u with eh:=some q,es:=u.es++[A1.entries]}:aB).cs) (.p i) Zd .none (zt O) (zt O) O ((HM.ai _ _ Z).trans (HA.dm t)) O O O O (ni u q _)) .nil))))))))))))))) (fun q=>?_)
 refine rd 3 O ?_;refine OK.ze q _ g I t O O fun a l=>?_
 have f:=l.ok;obtain⟨H,hk2,V,hk4⟩:=l.I9;obtain⟨d,j,P,o⟩:∃d:aB,a.parts[i]?=some d/\d.b=u.b/\d.p=u.p:=⟨_,l.at_,rfl,rfl⟩;rw[←P,←l.b];refine ro 4 O ?_;refine kc (zH SP O (aa.dQ (k:=.bn) O O (.same _))) (kD (OK.cond O O (fun N=>?_) (fun N=>?_)))
 ·have hl:A.bz=true:=by rw[←U,←V];exact N
  have X:({d.p with verdict:=if dZ a.aS a.env (fM a.aS d.p.frames)=0 then oX a.env (fM a.aS d.p.frames)else 0}:Part)=rC A.plain.aS A.plain.env A.plain.bz v.p:=by
   rw[o,r,H,hk2,G,hn2];show _=rC A.aS A.env A.bz v.p;unfold rC;rw[Zn hl]
  refine kV (.c (zm O) (.c (zm O) (.c (zn O O) (.c (zr Y3 O) (.c (zr VP O) (.c (zJ (us:=a.aS.cs) Xs O (aa.Ej (k:=.bn) (xs:=a.cs) O ⟨.same _,.same _,Zo⟩ O)) (.c (zm O) (.c (zn O O) (.c (zr PZ O) (.c (zJ (us:=a.env.cs) V7 O (aa.Ej (k:=.bn) (xs:=a.cs) O ⟨.same _,.same _,.same _,Zo⟩ O)) (.c (zm O) (.c (zm O) (.c (S.fI ((fun J B W=>(mm f j B W).jR B)) call205 .none O (zc O (zc O .nil)) O O) (.c (zK sw call204 O) (.c (zm O) (.c (zX O O O) (.c (zX O O O) (.c (zn O O) (.c (zr YP O) (.c (zr PW O) (.c (S.dc (xs':=({d with p:={d.p with verdict:=if dZ a.aS a.env (fM a.aS d.p.frames)=0 then oX a.env (fM a.aS d.p.frames)else 0}}:aB).cs) (.p i) Z8 .none (zt O) (zt O) O (HA.dm j) O O O O O) .nil))))))))))))))))))))) ?_;refine Ab.D.code (kO (OK.y9 {d.p with verdict:=if dZ a.aS a.env (fM a.aS d.p.frames)=0 then oX a.env (fM a.aS d.p.frames)else 0} f j O O (f.pl d (mr j)) fun A3 n=>?_));refine ro 4 O ?_;refine OK.bU (J':=JX a.b (n8 A.plain).1 (m+2)) O (JX.az _ _ _) (fun h Y w K=>jM n.ok I hm n.b (by rw[n.plain,l.plain,L.plain,y,ax.Ip (HA.dh z),X,ax.pZ (HA.dh z)]) K) ?_;refine OK.ret ⟨aA.r1 (zo O O) ?_,O,Zo⟩;rw[y]
 have hl:¬A.bz=true:=by rw[←U,←V,N];decide
 refine ro 4 O (kc (S.fI ((fun J B W=>(oT f j B W).jR B)) call206 .none O (zc O (zc O .nil)) O O) ?_);refine kc (S.not .none O (zt O)) (kD (OK.cond O O (fun M=>?_) (fun M=>?_)))
 ·have X:({d.p with verdict:=1}:Part)=rC A.plain.aS A.plain.env A.plain.bz v.p:=by
   have hw:¬mw A.aS v.p=true:=by
    have h:=M;rw[o,r,H,G]at h;unfold mw;simpa using h
   rw[o,r];show _=rC A.aS A.env A.bz v.p;unfold rC;rw[Zm hl,Zm hw]
  refine ro 5 O (kc (S.dc (xs':=({d with p:={d.p with verdict:=1}}:aB).cs) (.p i) Z8 .none (zt O) (.af O) O (HA.dm j) O O O O O) (rr 3 O (OK.y9 {d.p with verdict:=1} f j O O (f.pl d (mr j)) fun A3 n=>?_)));refine ro 4 O ?_;refine OK.bU (J':=JX a.b (n8 A.plain).1 (m+2)) O (JX.az _ _ _) (fun h Y w K=>jM n.ok I hm n.b (by rw[n.plain,l.plain,L.plain,y,ax.Ip (HA.dh z),X,ax.pZ (HA.dh z)]) K) ?_;refine OK.ret ⟨aA.r1 (zo O O) ?_,O,Zo⟩;rw[y]
 have X:({v.p with place:=1,lP:=A.bz}:Part)=rC A.plain.aS A.plain.env A.plain.bz v.p:=by
  have hw:mw A.aS v.p=true:=by
   have h:=M;rw[o,r,H,G]at h;unfold mw;simpa using h
  show _=rC A.aS A.env A.bz v.p;unfold rC;rw[Zm hl,Zn hw]
 refine ro 7 O ?_;refine OK.bU (J':=JX a.b (n8 A.plain).1 (m+2)) O (JX.az _ _ _) (fun h Y w K=>jM l.ok I hm O (by rw[l.plain,L.plain,y,X,ax.pZ (HA.dh z)]) K) ?_;refine OK.ret ⟨aA.r1 (zo O O) ?_,O,Zo⟩;rw[y]
def ym{g f:Frame}:Ct prog 202 [.agg g.cs,.b5 f.cs] (.bool (decide (g.tick=f.tick))):=by
 refine cI func202 O (ro 16 O (kR O O ?_));rfl
def xh{l:List Frame}{f:Frame}:Ct prog 201 [.sl (l.map Frame.cs),.fn 202 [.b5 f.cs]] (bv (bq (fun g:Frame=>decide (g.tick=f.tick)) 0 l)):=by
 refine cI func201 O (OK.eW (rows:=l.map Frame.cs) (t:=0) O O fun hlen=>?_);rw[Zx]at hlen;unfold maxLen at hlen;refine ro 9 O (kc (zk Y8 O) (rr 4 O ?_));refine OK.loop (G:=Nat) [] (fun i=>[(0,.sl (l.map Frame.cs)),(1,.fn 202 [.b5 f.cs]),(7,bv (R l)),(8,bv i)]) (fun i=>i<=R l/\bq (fun g:Frame=>decide (g.tick=f.tick)) 0 l=bq (fun g:Frame=>decide (g.tick=f.tick)) i (l.drop i)) (fun i=>R l - i) 0 ⟨Zr _,O⟩ ⟨O,O,O,O,Zo⟩ (fun _=>O) ?_;rintro i ⟨hi,a⟩;refine ro 6 O (kB O (fun d=>?_) (fun d=>?_))
 ·have c:i<R l:=by omega
  refine ro 15 O (kc (zI Y8 O I O) (kc (S.fG UN .none O (zt O) O O) (kc (S.ij (ym (g:=l[i]) (f:=f)) call202 .none O (zt O) (zc O .nil) O O O) (kD (kB O (fun b=>?_) (fun b=>?_))))))
  ·refine ro 6 O (kR O O ?_);refine cy ?_;rw[a,bT _ I];simp_all
  refine Ro 7 O I (Ab.D.lp ⟨i+1,⟨by omega,?_⟩,I,O,O,O,O,Zo⟩);rw[a,bT _ I];simp_all
 refine ro 7 O (kR O O ?_);refine cy ?_;have:i=R l:=by omega
 subst this;rw[a,no];rfl
def Bh{A:HA}{m:Int}(j:A.Ok m)(W:m+2<=1000){t:ba}(ht:R t<=600)(Q:bA A.aS=0):dU prog 156 [] [.raw (pV A.b),.agg (Words.mk [] [t]).cs] [(3000,.res (aa A.mem))] [(3000,.res (JX A.b (frameT A.plain (aY t).1 (aY t).2).1 (m+2)))] (bv (frameT A.plain (aY t).1 (aY t).2).2):=by
 refine cH func156 O fun z=>?_
 have X:=HA.nW A;have hm0:=j.m0;refine ro 9 O (kc (S.fI ((fun J hS hJ=>(lg j hS hJ).jR hS)) call198 .none O (zc O .nil) O O) ?_);refine rr 7 O (kc (S.uA underlying128 .none O (zt O)) (kD (OK.cond O O (fun V=>?_) (fun V=>?_))))
 ·have hN:ix (fun v=>decide (v.p.place=0)) A.parts=none:=ku V;refine ro 5 O ?_;have z:frameT A.plain (aY t).1 (aY t).2=(A.plain,12):=by unfold frameT;rw[X,hN]
  refine OK.bU (J':=JX A.b (frameT A.plain (aY t).1 (aY t).2).1 (m+2)) O (JX.az _ _ _) (fun h Y w H=>HA.jx j I W (by rw[z]) H) ?_;refine OK.ret ⟨aA.r1 (zo O O) ?_,O,Zo⟩;rw[z]
 obtain⟨i,P⟩:∃i,ix (fun v=>decide (v.p.place=0)) A.parts=some i:=je V;obtain⟨v,F⟩:=at_of_lt (eE P).1;rw[gd P (HA.Bt F)];refine ro 3 O ?_;have N:=X.trans P;have hlf:=j.lf v (mr F);refine ro 3 O ?_;refine kc (S.aP (n:=0) Z2 .none O (zt O) (.af O) O (by exact aθ _) O) (kc (zV Y9 O O) (kc (S.dB (q8 (l:=t) I) z call199 .none O (zc O .nil) O) ?_));refine rr 15 O (kB O (fun M=>?_) (fun M=>?_))
 ·refine kV (.c (zm O) (.c (zn O O) (.c (zr Y3 O) (.c (zr VP O) (.c (zJ (us:=A.aS.cs) Xs O (aa.Ej (k:=.bn) (xs:=A.cs) O ⟨.same _,.same _,Zo⟩ O)) (.c (zL UN O O O O) (.c (zK rD call200 O) (.c (za O) .nil)))))))) ?_;refine rd 8 O (kB O (fun y=>?_) (fun y=>?_))
  ·rw[Zn Q]at y;have z:frameT A.plain (aY t).1 (aY t).2=(A.plain,dL A.aS (aY t).1):=by rw[M];exact DD N y
   refine ro 6 O ?_;refine OK.bU (J':=JX A.b (frameT A.plain (aY t).1 (aY t).2).1 (m+2)) O (JX.az _ _ _) (fun h Y w H=>HA.jx j I W (by rw[z]) H) ?_;refine OK.ret ⟨aA.r1 (zo O O) ?_,O,Zo⟩;rw[z,Zn Q]
  rw[Zn Q]at y;have hfe:dL A.aS (aY t).1=0:=Zu.1 y;refine ro 3 O (OK.freezeP [] [(0,.raw (pV A.b)),(5,.raw (pV v.b)),(3000,.res (aa A.mem))] 6 O O O O O O ⟨O,O,O,Zo⟩ O (ro 5 O (kc (zH (u:=.sl (v.p.frames.map Frame.cs)) XO O (aa.dQ (k:=.p i) (HA.dm F) O (.sl (j.IE F)))) (kc (S.dx .none O (zt O) O) (kc (zK (xh (l:=v.p.frames) (f:=(aY t).1)) call201 O) (rr 12 O (kB O (fun E=>?_) (fun E=>?_))))))))
  ·have hN:qb (A.plain.p i) (aY t).1=none:=by
    rw[HA.mb F];rw[my]at E;unfold qb;cases h:ix (fun g:Frame=>decide (g.tick=(aY t).1.tick)) v.p.frames with
    |none=>rfl
    |some k=>rw[h]at E;simp at E;omega
   have z:frameT A.plain (aY t).1 (aY t).2=((A.plain.eC i fun p=>{p with frames:=p.frames++[(aY t).1]}).jO i,0):=by rw[M];exact DE N hfe hN
   refine OK.Ye follows (ι:=(Nat×Nat)) (0,0) 8 O (S.Ie (s:=[(48,.raw (v.fh.v (R v.p.frames))),(50,.own 50 1),(2050,.arr 2 [(aY t).1.cs]),(3000,.res (aa A.mem))]) (m:=1) (rows2:=[(aY t).1.cs]) (.f i) WO O (zt O) (j.IE F) (zt O) O O O C (by simp only[Zx];omega) (by simp only[Zx,maxLen];omega)).st (fun q=>(.cs (zm O) (.cs (zm O) (.cs (zn O O) (.cs (zr YP O) (.cs (zr Zf O) (.cs (zH XO O (aa.dQ (k:=.p i) (HA.dm F) O (.same _))) (.cs (S.fG UN .none O (zt O) O O) (.cs (zM [[_,_]] WO O O O O)
    (.x ⟨O,O,O,O,Zo⟩ (.cn (zn O O) (.cn (zr YP O) (.cn (zr Zf O) (.cn (S.dc (xs:=v.cs) (xs':=({v with fh:=some q,p:={v.p with frames:=v.p.frames++[(aY t).1]}}:aB).cs) (.p i) XO .none (zt O) (zt O) O ((HM.ai _ _ Z).trans (HA.dm F)) O O O O (CT v q _)) .nil)))))))))))))) (fun q=>?_)
   refine rd 3 O (OK.HU q (aY t).1 j I F O fun o hL=>?_);have a:=hL.ok;obtain⟨r,d,G⟩:∃r:aB,o.parts[i]?=some r/\r.b=v.b:=⟨_,hL.at_,rfl⟩;have T:=hL.b;have K:frameT A.plain (aY t).1 (aY t).2=(o.plain.jO i,0):=by rw[z,hL.plain]
   rw[←G,←T];refine OK.Ye follows (ι:=(Nat×Nat)) (0,0) 10 O (S.happR (s:=[(73,.raw (r.eh.v r.es.length)),(78,.own 78 1),(2078,.arr 1 [[bv o.entries]]),(3000,.res (aa o.mem))]) (m:=1) (rows2:=[[bv o.entries]]) (.e i) ZM O (zt O) (a.IG d) (zt O) O O O C (by simp only[bM,Zx];have:=a.le _ (mr d);have:=a.m0;omega) (by simp only[bM,Zx,maxLen];have:=a.le _ (mr d);have:=a.m0;omega)).st (fun q=>(.cs (zm O) (.cs (zm O) (.cs (zn O O) (.cs (zr Q8 O) (.cs (zH Zd O (aa.dQ (k:=.p i) (HA.dm d) O (.same _))) (.cs (zm O) (.cs (zn O O) (.cs (zr Y4 O) (.cs (zH Z8 O (aa.dQ (k:=.bn) O O (.same _))) (.cs (zM [[_]] ZM O O O O)
    (.x ⟨O,O,O,O,Zo⟩ (.cn (zn O O) (.cn (zr Q8 O) (.cn (S.dc (xs:=r.cs) (xs':=({r with eh:=some q,es:=r.es++[o.entries]}:aB).cs) (.p i) Zd .none (zt O) (zt O) O ((HM.ai _ _ Z).trans (HA.dm d)) O O O O (ni r q _)) .nil))))))))))))))) (fun q=>?_)
   refine Ab.D.code (kO (OK.ze q _ a I d O O fun A2 B=>?_));refine ro 4 O ?_;refine OK.bU (J':=JX o.b (frameT A.plain (aY t).1 (aY t).2).1 (m+2)) O (JX.az _ _ _) (fun h Y w H=>jM B.ok I W B.b (by rw[B.plain,K]) H) ?_;refine OK.ret ⟨aA.r1 (zo O O) ?_,O,Zo⟩;rw[K]
  obtain⟨k,hk⟩:∃k,ix (fun g:Frame=>decide (g.tick=(aY t).1.tick)) v.p.frames=some k:=by
   rw[my]at E;cases h:ix (fun g:Frame=>decide (g.tick=(aY t).1.tick)) v.p.frames with
   |none=>rw[h]at E;simp at E
   |some k=>exact⟨k,rfl⟩
  obtain⟨hkl,_⟩:=eE hk;have hik:bq (fun g:Frame=>decide (g.tick=(aY t).1.tick)) 0 v.p.frames=(k:Int):=by rw[my,hk]
  have hT3:frameT A.plain (aY t).1 (aY t).2=if v.p.frames[k].values=(aY t).1.values then(A.plain.jO i,0)else(A.plain,13):=by rw[M];exact DF N hfe (by rw[HA.mb F];exact hk) (by rw[HA.mb F];exact Zv hkl)
  refine kO (kV (.c (zm O) (.c (zn O O) (.c (zr YP O) (.c (zr Zf O) (.c (zH (u:=.sl (v.p.frames.map Frame.cs)) XO O (aa.dQ (k:=.p i) (HA.dm F) O (.sl (j.IE F)))) (.c (zm O) (.c (S.aP (n:=k) Y8 .none O (zt O) (zt O) hik hkl O) (.c (S.field Wx .none O (zt O) O) (.c (zV Zd O O) (.c (S.field Wx .none O (zt O) O) (.c (zV Zd O O) (.c (zK lN call203 O) (.c (S.jP .none O (zt O)) (.c (za O) .nil)))))))))))))) (Ab.D.code (kB O (fun U=>?_) (fun U=>?_))))
  ·have z:=hT3.trans (Zm (by simpa using U));refine ro 5 O ?_;refine OK.bU (J':=JX A.b (frameT A.plain (aY t).1 (aY t).2).1 (m+2)) O (JX.az _ _ _) (fun h Y w H=>HA.jx j I W (by rw[z]) H) ?_;refine OK.ret ⟨aA.r1 (zo O O) ?_,O,Zo⟩;rw[z]
  have z:=hT3.trans (Zn (by simpa using U));refine ro 4 O ?_;obtain⟨o,L⟩:∃o,o=A:=⟨_,rfl⟩;have T:o.b=A.b:=by rw[L]
  have a:o.Ok (m+1):=by rw[L];exact j.more I I
  obtain⟨r,d,G⟩:∃r:aB,o.parts[i]?=some r/\r.b=v.b:=⟨v,by rw[L];exact F,rfl⟩;have K:frameT A.plain (aY t).1 (aY t).2=(o.plain.jO i,0):=by rw[z,L]
  rw[show A.mem=o.mem by rw[L]];rw[←G,←T];refine OK.Ye follows (ι:=(Nat×Nat)) (0,0) 10 O (S.happR (s:=[(73,.raw (r.eh.v r.es.length)),(78,.own 78 1),(2078,.arr 1 [[bv o.entries]]),(3000,.res (aa o.mem))]) (m:=1) (rows2:=[[bv o.entries]]) (.e i) ZM O (zt O) (a.IG d) (zt O) O O O C (by simp only[bM,Zx];have:=a.le _ (mr d);have:=a.m0;omega) (by simp only[bM,Zx,maxLen];have:=a.le _ (mr d);have:=a.m0;omega)).st (fun q=>(.cs (zm O) (.cs (zm O) (.cs (zn O O) (.cs (zr Q8 O) (.cs (zH Zd O (aa.dQ (k:=.p i) (HA.dm d) O (.same _))) (.cs (zm O) (.cs (zn O O) (.cs (zr Y4 O) (.cs (zH Z8 O (aa.dQ (k:=.bn) O O (.same _))) (.cs (zM [[_]] ZM O O O O)
   (.x ⟨O,O,O,O,Zo⟩ (.cn (zn O O) (.cn (zr Q8 O) (.cn (S.dc (xs:=r.cs) (xs':=({r with eh:=some q,es:=r.es++[o.entries]}:aB).cs) (.p i) Zd .none (zt O) (zt O) O ((HM.ai _ _ Z).trans (HA.dm d)) O O O O (ni r q _)) .nil))))))))))))))) (fun q=>?_)
  refine Ab.D.code (kO (OK.ze q _ a I d O O fun A2 B=>?_));refine ro 4 O ?_;refine OK.bU (J':=JX o.b (frameT A.plain (aY t).1 (aY t).2).1 (m+2)) O (JX.az _ _ _) (fun h Y w H=>jM B.ok I W B.b (by rw[B.plain,K]) H) ?_;refine OK.ret ⟨aA.r1 (zo O O) ?_,O,Zo⟩;rw[K]
 refine ro 9 O (kB O (fun y=>?_) (fun y=>?_))
 ·have z:=DC (f:=(aY t).1) N y;refine ro 6 O ?_;refine OK.bU (J':=JX A.b (frameT A.plain (aY t).1 (aY t).2).1 (m+2)) O (JX.az _ _ _) (fun h Y w H=>HA.jx j I W (by rw[z]) H) ?_;refine OK.ret ⟨aA.r1 (zo O O) ?_,O,Zo⟩;rw[z]
 exact absurd M y
def yn{A:HA}{m:Int}(a:A.Ok m){i:Nat}{v:aB}(l:A.parts[i]?=some v){J:bm}(z:aZ J)(r:∀h Y w,J h Y w->aa A.mem h Y w):dF prog 271 [] [.sl (A.aI.map fun i=>[X.raw (pV (A.pb i))]),.raw (pV v.b)] [(3000,.res J)] [(3000,.res J)] (.int .i64 (bq (fun k=>decide (i=k)) 0 A.aI)):=by
 refine cG func271 O fun{_ _}=>?_
 have t:=a.lm;have s:=a.m0;refine OK.ue (p:=∀i j,i<R A.parts->j<R A.parts->A.pb i=A.pb j->i=j) O (fun h Y w u=>HA.GV (r h Y w u)) fun f=>?_
 refine ro 9 O (kc (zk Yy O) (rr 4 O ?_));refine OK.loop (G:=Nat) [] (fun k=>[(0,.sl (A.aI.map fun i=>[X.raw (pV (A.pb i))])),(1,.raw (pV v.b)),(7,bv (R A.aI)),(8,bv k),(3000,.res J)]) (fun k=>k<=R A.aI/\bq (fun k=>decide (i=k)) 0 A.aI=bq (fun k=>decide (i=k)) k (A.aI.drop k)) (fun k=>R A.aI - k) 0 ⟨Zr _,O⟩ ⟨O,O,O,O,O,Zo⟩ (fun _=>O) ?_;rintro k ⟨hi,q⟩;refine ro 6 O (kB O (fun x=>?_) (fun x=>?_))
 ·have o:k<R A.aI:=by omega
  have d:=a.mi _ (Zt o);obtain⟨y,n⟩:=at_of_lt d;refine ro 15 O (kc (zI Yy O I O) (kc (zV YD O O) ?_));refine kc (S.I4 r (.p i) (.p A.aI[k]) BY underlying128 C .none O (zt O) (zt O) O (HA.dm l) (HA.I1 n)) (kD (kB O (fun c=>?_) (fun c=>?_)))
  ·have g:i=A.aI[k]:=f _ _ (gU l) d (by rw[HA.Bt l];exact c);refine ro 6 O (OK.ret ⟨aA.r1 (zo O O) ?_,O,Zo⟩);refine cy ?_;rw[q,bT _ I,Zn (by simpa using g)]
  have g:¬i=A.aI[k]:=fun e=>c (by rw[←HA.Bt l,e])
  refine Ro 7 O I (Ab.D.lp ⟨k+1,⟨by omega,?_⟩,I,O,O,O,O,O,Zo⟩);rw[q,bT _ I];simp_all
 refine ro 7 O (OK.ret ⟨aA.r1 (zo O O) ?_,O,Zo⟩);refine cy ?_;have:k=R A.aI:=by omega
 subst this;rw[q,no];rfl
def yo{A:HA}{m:Int}(a:A.Ok m){i:Nat}{v:aB}(e:A.parts[i]?=some v){J:bm}(d:aZ J)(f:∀h Y w,J h Y w->aa A.mem h Y w):dF prog 218 [] [.sl (A.aI.map fun i=>[X.raw (pV (A.pb i))]),.raw (pV v.b)] [(3000,.res J)] [(3000,.res J)] (.bool (A.aI.contains i)):=by
 refine cG func218 O (ro 9 O (RK.c (S.ik (((yn a e d f).jR d)) d call271 .none O (zc O (zc O .nil)) O O) (rr 4 O (OK.ret ⟨aA.r1 (zo O O) ?_,O,Zo⟩))));refine ew ?_;exact yl A.aI i
def yp{A:HA}{m:Int}(a:A.Ok m)(N:m+2<=1000){i:Nat}{v:aB}(g:A.parts[i]?=some v):dF prog 217 [] [.raw (pV v.b),.b5 [.raw (pV A.b)]] [(3000,.res (aa A.mem))] [(3000,.res (JP A (fe A.plain i).1 (m+1)))] (bv (fe A.plain i).2):=by
 refine cG func217 O fun{_ _}=>?_
 have H:=HA.mb g;have L:=a.lm;have K:=a.m0;obtain⟨e,t⟩:∃e,aF [ae (decide (v.p.place≠0)) 20,ae (mw A.aS v.p) 14,ae (!A.aI.contains i) 23]=e:=⟨_,rfl⟩;have y:fe A.plain i=if e=0 then({A.plain with aI:=A.plain.aI++[i]},0)else(A.plain,e):=by unfold fe;dsimp only;rw[H,←t];rfl
 refine ro 6 O ?_;refine kV (.c (zm O) (.c (zn O O) (.c (zr YP O) (.c (zr Zl O) (.c (zH Z8 O (aa.dQ (k:=.p i) (HA.dm g) O (.same _))) (.c (zN O O) (.c (zK ak call96 O) (.c (zV Xl O O) (.c (zm O) (.c (S.fI ((fun J B G=>(oT a g B G).jR B)) call206 .none O (zc O (zc O .nil)) O O) (.c (zK ak call96 O) (.c (zV Xl O O) (.c (zn O O) (.c (zr T4 O) (.c (zH (u:=.sl (A.aI.map fun i=>[X.raw (pV (A.pb i))])) Yg O (aa.dQ (k:=.bn) O O (.sl a.ms))) (.c (zm O) (.c (S.fI ((fun J B G=>(yo a g B G).jR B)) call218 .none O (zc O (zc O .nil)) O O) (.c (S.not .none O (zt O)) (.c (zK ak call96 O) (.c (zM [[_],[_],[_]] Zc O O O O) (.c (S.callL (bF (l:=[_,_,_])) call76 .none O (zc O .nil) (.cons (.p (.own O O) O) .nil) O) (.c (za O) .nil)))))))))))))))))))))) ?_;refine rd 8 O (kB O (fun f=>?_) (fun f=>?_))
 ·have d:e=0:=by rw[←t];exact f
  have z:=y.trans (Zn d);refine OK.Ye follows (ι:=(Nat×Nat)) (0,0) 7 O (S.Ie (s:=[(32,.raw (A.mh.v (R A.aI))),(34,.own 34 1),(2034,.arr 1 [[.raw (pV v.b)]]),(3000,.res (aa A.mem))]) (m:=1) (rows2:=[[.raw (pV v.b)]]) .ms OM O (zt O) a.ms (zt O) O O O C (by simp only[Zx];omega) (by simp only[Zx,maxLen];omega)).st (fun q=>(.cs (zV Xl O O) (.cs (zV Xl O O) (.cs (zn O O) (.cs (zr T4 O) (.cs (zH Yg O (aa.dQ (k:=.bn) O O (.same _))) (.cs (zm O) (.cs (zM [[.raw (pV v.b)]] OM O O O O)
   (.x ⟨O,O,O,O,Zo⟩ (.cn (zn O O) (.cn (zr T4 O) (.cn (S.dc (xs:=A.cs) (xs':=(A.rS i q).cs) (.bn) Yg .none (zt O) (zt O) O ((HM.ai _ _ Z).trans A.ID) O O O O (Fc A i q)) .nil)))))))))))) (fun q=>?_)
  refine Ab.D.code (kO ?_);rw[←HA.Bt g];refine OK.rS (gU g) a I O fun M r F n o j=>?_
  refine ro 5 O ?_;refine OK.bU (J':=JP A (fe A.plain i).1 (m+1)) O (JP.az _ _ _) (fun h Y w E=>⟨M,⟨r,F,n,by rw[o],by rw[j,z]⟩,E⟩) ?_;refine OK.ret ⟨aA.r1 (zo O O) ?_,O,Zo⟩;rw[z];exact cy (t.trans d)
 have d:¬e=0:=by rw[←t];exact f
 have z:=y.trans (Zm d);refine ro 8 O ?_;refine OK.bU (J':=JP A (fe A.plain i).1 (m+1)) O (JP.az _ _ _) (fun h Y w E=>HA.jp a I I (by rw[z]) E) ?_;refine OK.ret ⟨aA.r1 (zo O O) ?_,O,Zo⟩;rw[z];exact cy t
def yq(A:HA)(i:Nat):(fe A.plain i).1.entries=A.entries:=by unfold fe;dsimp only;split<;>rfl
def Bi{A:HA}{m:Int}(a:A.Ok m)(d:m+2<=1000){n:Int}:dU prog 165 [] [.raw (pV A.b),.agg (Words.mk [n] []).cs] [(3000,.res (aa A.mem))] [(3000,.res (JX A.b (cK A.plain n fe).1 (m+2)))] (bv (cK A.plain n fe).2):=by
 refine cH func165 O fun g=>?_
 refine ro 8 O (OK.freezeP [3] [(3,.ptr 3 0),(1003,.box (Words.mk [n] []).cs),(3000,.res (aa A.mem))] 2 O O O O O O ⟨O,O,O,Zo⟩ O (ro 3 O (kc (S.dx .none O (zt O) O) ?_)));refine RK.c (S.ik (((tG a d (n:=n) (tx:=[]) (f:=217) (caps:=[.b5 [.raw (pV A.b)]]) call217 O O (ac:=fe) (fun i v e _=>(yp a d e).ef) (fun i=>yq A i)).jR g (aa.az _))) (JX.az _ _ _) call207 .none O (zc O (zc O (zc O .nil))) O O) ?_;refine rr 3 O (OK.ret ⟨aA.r1 (zo O O) ?_,O,Zo⟩);rfl
end Go.Proofs.Z9
namespace Go.Proofs.Z9
open Go.Ab Tryz
def xS{c:UInt8}{l:ba}:R (aL c l).1<=R l/\R (aL c l).2.1<=R l:=by
 grind [qt,oI]
def Ds{α β:Type}(p:α×β):p=(p.1,p.2):=rfl
def ax.nB(H:ax):List aX:=H.aI.map fun i=>fM H.aS (H.p i).frames
def gS(H:ax)(n:Int):HE:=if fg H.aS H.nB n=0 then({H with env:=lK H.aS H.nB n,bz:=true},0)else(H,fg H.aS H.nB n)
abbrev I7(b:Nat)(l:ba)(p:Nat):HM Unit:=fun _=>some (b,.iter l p)
def nC(M:HM Unit)(b:Nat)(l:ba)(p:Nat):M.set () (some (b,.iter l p))=I7 b l p:=by rfl
def Gt{K:Type}{M a:HM K}(h:M=a):some (X.res (aa M))=some (X.res (aa a)):=by rw[h]
def w9(l:ba)(p:Nat):(∃a:p<R l,l[p].toNat<128)\/(∃a:p<R l,128<=l[p].toNat)\/R l<=p:=by
 grind
def ZX(b:UInt8):Bool:=decide (32<=(b.toNat:Int)/\(b.toNat:Int)<=126)
def Dt{b c:UInt8}(h:((b.toNat:Nat):Int)=(c.toNat:Int)):b=c:=by grind [UInt8.toNat_inj]
def E8{ks:ba}{p:Nat}(a:p<R ks)(rest:ba)(more:Bool)(w:Words):aH (ks.drop p) rest more w=aH (ks[p]::ks.drop (p+1)) rest more w:=F
def E9:∀(l:ba),decide (0<=bq (fun b=>!ZX b) 0 l)=!(l.all ZX):=by
 have key:∀(l:ba)(k:Nat),decide (0<=bq (fun b=>!ZX b) k l)=!(l.all ZX):=by
  intro l
  induction l with
  |nil=>intro k;rfl
  |cons x l a=>
   grind [bq]
 simp_all
def Du(k:Nat):Nat:=[154,155,156,157,158,159,160,161,162,163,164,165,166].getD k 0
def I8(o:Option Nat):bi:=match o with
 |some k=>[bv (yM.getD k 0),.str (kinds.getD k []),.fn (Du k) []]
 |none=>[bv 0,.str [],.raw .nilFunc]
def kH(A:HA)(k:Nat):List aX:=(A.aI.take k).map fun i=>fM A.aS (A.plain.p i).frames
def yh(A:HA)(k:Nat)(h:k<=R A.aI):R (kH A k)=k:=by simp_all[kH]
def xd{A:HA}{k:Nat}(h:k<R A.aI){v:aB}(a:A.parts[A.aI[k]]?=some v):kH A (k+1)=kH A k++[fM A.aS v.p.frames]:=by
 grind [kH,List.take_succ_eq_append_getElem,HA.mb]
def yj(A:HA):kH A (R A.aI)=A.plain.nB:=by unfold kH;rw[List.take_length];rfl
def OK.ug{E:Env}{U:bc}{s:St}{code:Code}{Q:bo}(K:Type)(h:OK E code Q U ((3000,.res (aa (fun _:K=>none)))::s)):OK E code Q U s:=fun a w d=>by
 obtain⟨c,f,hh⟩:=d;refine h a w ⟨c,f,fun key x b=>?_⟩;simp only[Ab.look]at b;split at b
 ·rename_i e;have:=Nat.eq_of_beq_eq_true e;cases b;subst this;exact Holds.iV (aa.az _) aa.nil
 exact hh key x b
def FT{a b c d:Nat}{e k2:Nat}(h:a=b)(f:c=d):some (X.box [X.own e a,X.own k2 c])=some (X.box [X.own e b,X.own k2 d]):=by rw[h,f]
def Be{A:HA}{m:Int}(a:A.Ok m)(t:m+2<=1000){n:Int}:dF prog 166 [] [.raw (pV A.b),.agg (Words.mk [n] []).cs] [(3000,.res (aa A.mem))] [(3000,.res (JX A.b (gS A.plain n).1 (m+2)))] (bv (gS A.plain n).2):=by
 refine cG func166 O fun{_ _}=>?_
 have z:=a.lm;have y:=a.m0;refine ro 8 O (RK.c (S.iI (k:=5) (sz:=1) .none O) (rr 8 O (kc (zH (u:=.sl (A.aI.map fun i=>[X.raw (pV (A.pb i))])) Yg O (aa.dQ (k:=.bn) O O (.sl a.ms))) ?_)));refine kc (zk Yy O) (rr 4 O ?_);refine OK.loop (G:=Nat) [3,5] (fun k=>[(0,.raw (pV A.b)),(3,.ptr 3 0),(1003,.box (Words.mk [n] []).cs),(5,.own 5 k),(2005,.arr 1 ((kH A k).map aX.cs)),(13,.sl (A.aI.map fun i=>[X.raw (pV (A.pb i))])),(14,bv (R A.aI)),(15,bv k),(3000,.res (aa A.mem))]) (fun k=>k<=R A.aI) (fun k=>R A.aI - k) 0 (Zr _) ⟨O,O,O,(cw N),(bH N),O,O,O,O,Zo⟩ (fun _=>O) ?_;rintro k hi;refine ro 6 O (kB O (fun s=>?_) (fun s=>?_))
 ·have g:k<R A.aI:=by omega
  have p:=a.mi _ (Zt g);obtain⟨v,o⟩:=at_of_lt p;have e:=yh A k hi;refine ro 6 O (kc (zI Yy O I O) ?_);refine rr 4 O ?_;rw[HA.Bt o];refine ro 4 O (kc (S.fI ((fun J x B=>(mm a o x B).jR x)) call205 .none O (zc O (zc O .nil)) O O) ?_);refine RK.c (zM [[_]] ON O O O O) ?_;refine kc (zP ON O O (by rw[Zx];exact e) N I (by simp only[maxLen];omega)) ?_;refine Rr 8 O I ?_;refine Ab.D.lp ⟨k+1,I,I,O,O,O,(cw I),(bH (by rw[xd g o,ne];rfl)),O,O,O,O,Zo⟩
 refine ro 3 O ?_;have q:k=R A.aI:=by omega
 rw[q,yj];have e:R A.plain.nB=R A.aI:=by unfold ax.nB;rw[Zx];rfl
 refine OK.freeze 5 O O O (by rw[Zx,e]) ?_;refine kV (.c (zm O) (.c (zn O O) (.c (zr Y3 O) (.c (zr VP O) (.c (zJ (us:=A.aS.cs) Xs O (aa.Ej (k:=.bn) (xs:=A.cs) O ⟨.same _,.same _,Zo⟩ O)) (.c (zm O) (.c (zf SL O) (.c (zl Zd O O O O) (.c (S.aP (n:=0) Z4 .none O (zt O) (.af O) O (by exact aθ _) O) (.c (zV Z8 O O) (.c (zK (rB (l:=A.plain.nB)) call219 O) (.c (zm O) (.c (zX O O O) (.c (zX O O O) (.c (zA (c:=8) q_ O) (.c (zS V7 O O O O O O) (.c (za O) .nil))))))))))))))))) ?_;refine rd 8 O (kB O (fun d=>?_) (fun d=>?_))
 ·have j:gS A.plain n=({A.plain with env:=lK A.aS A.plain.nB n,bz:=true},0):=by unfold gS;rw[Zn (show fg A.plain.aS A.plain.nB n=0 from d)];rfl
  refine ro 6 O (kc (S.dc (xs':=({A with env:=lK A.aS A.plain.nB n}:HA).cs) (.bn) V7 .none (zt O) (zt O) O O O O O O O) (rr 2 O ?_));refine kc (S.dc (xs':=({A with env:=lK A.aS A.plain.nB n,bz:=true}:HA).cs) (.bn) SP .none (zt O) .aJ O (HM.bw _ _ _) O O O O O) ?_;refine rr 3 O ?_;rw[HM.set_set];refine OK.Dv (A1:={A with env:=lK A.aS A.plain.nB n,bz:=true}) a O O ⟨O,O⟩ ⟨O,O⟩ ⟨O,O⟩ ⟨O,O⟩ a.en fun f=>?_
  refine ro 5 O ?_;refine OK.bU (J':=JX A.b (gS A.plain n).1 (m+2)) O (JX.az _ _ _) (fun h Y w r=>jM f I t O (by rw[j];rfl) r) ?_;refine OK.ret ⟨aA.r1 (zo O O) ?_,O,Zo⟩;rw[j,d]
 have j:gS A.plain n=(A.plain,fg A.aS A.plain.nB n):=by unfold gS;rw[Zm (show¬fg A.plain.aS A.plain.nB n=0 from d)];rfl
 refine ro 8 O ?_;refine OK.bU (J':=JX A.b (gS A.plain n).1 (m+2)) O (JX.az _ _ _) (fun h Y w r=>HA.jx a I t (by rw[j]) r) ?_;refine OK.ret ⟨aA.r1 (zo O O) ?_,O,Zo⟩;rw[j];rfl
set_option maxRecDepth 4000 in
def lM{t:ba}:Ct prog 112 [.str t] (.cf [.agg (I8 (dS t)),.bool (dS t).isSome]):=by
 refine cI func112 O (ro 19 O (kB O (fun n=>?_) (fun n=>?_)))
 ·refine kr (kc (S.build XR O .none O (zC O (.cons (.bj (l:=[114]) O C) (.cons .oL .nil))) O O) ?_);refine rr 4 O (kT O O Yh O O O ?_);subst n;rfl
 refine ro 6 O (kB O (fun m=>?_) (fun m=>?_))
 ·refine kr (kc (S.build XR O .none O (zC O (.cons (.bj (l:=[110,119,119]) O C) (.cons .oL .nil))) O O) ?_);refine rr 4 O (kT O O Yh O O O ?_);subst m;rfl
 refine ro 6 O (kB O (fun k=>?_) (fun k=>?_))
 ·refine kr (kc (S.build XR O .none O (zC O (.cons (.bj (l:=[114]) O C) (.cons .oL .nil))) O O) ?_);refine rr 4 O (kT O O Yh O O O ?_);subst k;rfl
 refine ro 6 O (kB O (fun j=>?_) (fun j=>?_))
 ·refine kr (kc (S.build XR O .none O (zC O (.cons (.bj (l:=[]) O C) (.cons .oL .nil))) O O) ?_);refine rr 4 O (kT O O Yh O O O ?_);subst j;rfl
 refine ro 6 O (kB O (fun i=>?_) (fun i=>?_))
 ·refine kr (kc (S.build XR O .none O (zC O (.cons (.bj (l:=[110]) O C) (.cons .oL .nil))) O O) ?_);refine rr 4 O (kT O O Yh O O O ?_);subst i;rfl
 refine ro 6 O (kB O (fun h=>?_) (fun h=>?_))
 ·refine kr (kc (S.build XR O .none O (zC O (.cons (.bj (l:=[110]) O C) (.cons .oL .nil))) O O) ?_);refine rr 4 O (kT O O Yh O O O ?_);subst h;rfl
 refine ro 6 O (kB O (fun g=>?_) (fun g=>?_))
 ·refine kr (kc (S.build XR O .none O (zC O (.cons (.bj (l:=[119,110]) O C) (.cons .oL .nil))) O O) ?_);refine rr 4 O (kT O O Yh O O O ?_);subst g;rfl
 refine ro 6 O (kB O (fun f=>?_) (fun f=>?_))
 ·refine kr (kc (S.build XR O .none O (zC O (.cons (.bj (l:=[119]) O C) (.cons .oL .nil))) O O) ?_);refine rr 4 O (kT O O Yh O O O ?_);subst f;rfl
 refine ro 6 O (kB O (fun e=>?_) (fun e=>?_))
 ·refine kr (kc (S.build XR O .none O (zC O (.cons (.bj (l:=[110]) O C) (.cons .oL .nil))) O O) ?_);refine rr 4 O (kT O O Yh O O O ?_);subst e;rfl
 refine ro 6 O (kB O (fun d=>?_) (fun d=>?_))
 ·refine kr (kc (S.build XR O .none O (zC O (.cons (.bj (l:=[110,114]) O C) (.cons .oL .nil))) O O) ?_);refine rr 4 O (kT O O Yh O O O ?_);subst d;rfl
 refine ro 6 O (kB O (fun c=>?_) (fun c=>?_))
 ·refine kr (kc (S.build XR O .none O (zC O (.cons (.bj (l:=[119,114]) O C) (.cons .oL .nil))) O O) ?_);refine rr 4 O (kT O O Yh O O O ?_);subst c;rfl
 refine ro 6 O (kB O (fun b=>?_) (fun b=>?_))
 ·refine kr (kc (S.build XR O .none O (zC O (.cons (.bj (l:=[110]) O C) (.cons .oL .nil))) O O) ?_);refine rr 4 O (kT O O Yh O O O ?_);subst b;rfl
 refine ro 6 O (kB O (fun a=>?_) (fun a=>?_))
 ·refine kr (kc (S.build XR O .none O (zC O (.cons (.bj (l:=[110]) O C) (.cons .oL .nil))) O O) ?_);refine rr 4 O (kT O O Yh O O O ?_);subst a;rfl
 refine ro 5 O (kc (zU XR O O) (rr 4 O (kT O O Yh O O O ?_)));rw[show dS t=none by simp[dS,ix,iR,gR,n,m,k,j,i,h,g,f,e,d,c,b,a]];rfl
def Dw{w:ba}(h:dS w=none):Ct prog 112 [.str w] (.cf [.agg [bv 0,.str [],.raw .nilFunc],.bool false]):=by have:=lM (t:=w);rw[h]at this;exact this
def Dx{w:ba}{k:Nat}(h:dS w=some k):Ct prog 112 [.str w] (.cf [.agg [bv (yM.getD k 0),.str (kinds.getD k []),.fn (Du k) []],.bool true]):=by have:=lM (t:=w);rw[h]at this;exact this
def oP{l:ba}(f:R l<=100000):gz prog 130 [.str l] (.cf [bv (bp l),.bool (numOk l 7)]):=by
 refine cT func130 O fun e=>?_
 refine ro 9 O (kc (S.dB (uY f) e call180 .none O (zc O .nil) O) (rr 11 O (kc (S.Da underlying270 .none O (zt O)) (jm O (RK.split (t:=14) O (fun a=>?_) (fun a=>?_))))))
 ·refine rr 4 O (RK.bh (t:=18) O (fun d=>?_) (fun d=>?_))
  ·refine kc (S.move (zg O O) O (zt O)) (kc (S.dB (pS (nk l)) e call179 (zg O O) O (zc O .nil) O) (rr 4 O (RK.bh (t:=24) O (fun c=>?_) (fun c=>?_))))
   ·refine rr 8 O (kS O O O O ?_);rw[show numOk l 7=decide (R l<=7)by unfold numOk;rw[a,Zz (show 0<=bp l by omega),Zz c];rfl];exact rn (fun b=>X.cf [X.int .i64 (bp l),X.bool b]) (decide_eq_decide.2 I)
   refine rr 8 O (kS O O O O ?_);rw[show numOk l 7=false by unfold numOk;rw[a,Zz (show 0<=bp l by omega),Zy c];rfl]
  refine rr 14 O (kS O O O O ?_);rw[show numOk l 7=false by unfold numOk;rw[a,Zy (show¬0<=bp l by omega)];rfl]
 refine rr 18 O (kS O O O O ?_);rw[show numOk l 7=false by unfold numOk;rw[a];rfl]
def rec_odd{c:Int}(a:0<=c/\c<2147483648):Ct prog 110 [.int .i32 c] (.bool (!decide (32<=c/\c<=126))):=by
 refine cI func110 O (ro 8 O ?_);refine kc (S.conv .none O (zt O) underlying21 underlying3 (mn _ I) (mn _ I)) (kc (zK cv call97 O) (kc (S.jP .none O (zt O)) ?_));refine rr 3 O (kR O O ?_);exact ew decide_not
def su{l:ba}(m:R l<=100000):Ct prog 220 [.str l,.fn 110 [],.bool true] (bv (bq (fun b=>!ZX b) 0 l)):=by
 refine cI func220 O (OK.ug Unit (ro 9 O (RK.xs (S.CB () underlying9 O (zt O) O) (fun q=>?_))));refine rr 3 O ?_;refine OK.loop (G:=Nat) [] (fun p=>[(1,.fn 110 []),(2,.bool true),(10,.raw (pV q)),(3000,.res (aa (I7 q l p)))]) (fun p=>p<=R l/\bq (fun b=>!ZX b) 0 l=bq (fun b=>!ZX b) p (l.drop p)) (fun p=>R l - p) 0 ⟨Zr _,O⟩ ⟨O,O,O,(Gt (nC _ _ _ _)),Zo⟩ (fun _=>O) ?_;rintro p ⟨hi,e⟩;refine kO ?_;rcases w9 l p with⟨d,f⟩|⟨d,g⟩|d
 ·refine OK.bN ?_;refine RK.xs (S.xY () O (zt O) O O d (by unfold maxLen;omega) (CD (Zv d) f) I) (fun _=>?_);refine rr 20 O (kc (S.ij (rec_odd (c:=(l[p].toNat:Int)) I) call110 .none O (zt O) (zc O .nil) O O O) (jm O (kc (S.HJ underlying4 .none O (zt O) (zt O)) (kD (kB O (fun a=>?_) (fun a=>?_))))))
  ·refine ro 6 O (kR O O ?_);refine cy ?_;rw[e,bT _ d,Zn (by unfold ZX;simpa using a)]
  refine OK.skip (Ab.D.blk (Ab.D.lp ⟨p+1,⟨I,?_⟩,I,O,O,O,(Gt (nC _ _ _ _)),Zo⟩));rw[e,bT _ d,Zm (by unfold ZX;simpa using a)]
 ·obtain⟨k,h⟩:=Gm (Zv d) g;refine OK.bN ?_;refine RK.xs (S.xY () O (zt O) O O d (by unfold maxLen;omega) (Ds (Utf8.decode ⟨l.toArray⟩ p)) h) (fun _=>?_);refine rr 20 O (kc (S.ij (rec_odd (c:=((Utf8.decode ⟨l.toArray⟩ p).1:Int)) I) call110 .none O (zt O) (zc O .nil) O O O) (jm O (kc (S.HJ underlying4 .none O (zt O) (zt O)) (kD (kB O (fun a=>?_) (fun a=>?_))))))
  ·refine ro 6 O (kR O O ?_);refine cy ?_;have i:ZX l[p]=false:=Zy I;rw[e,bT _ d,Zn (by rw[i];rfl)]
  exfalso;have j:decide (32<=((Utf8.decode ⟨l.toArray⟩ p).1:Int)/\((Utf8.decode ⟨l.toArray⟩ p).1:Int)<=126)=false:=Zy I;rw[j]at a;exact a rfl
 refine OK.bN (kc (S.CC () .none O (zt O) O O d) (rr 12 O (kR O O ?_)));refine cy ?_;have:p=R l:=I
 subst this;rw[e,no];rfl
def sv{l:ba}(a:R l<=100000):Ct prog 167 [.str l,.fn 110 []] (bv (bq (fun b=>!ZX b) 0 l)):=by
 refine cI func167 O (ro 9 O (kc (zK (su a) call220 O) (rr 3 O (kR O O ?_))));rfl
def jk{l:ba}(a:R l<=100000):Ct prog 113 [.str l,.fn 110 []] (.bool (!(l.all ZX))):=by
 refine cI func113 O (ro 9 O (kc (zK (sv a) call167 O) (rr 4 O (kR O O ?_))));exact ew (E9 l)
def Bf{text ks:ba}(H:R text<=100000)(J:R ks<=3/\∀b∈ks,b.toNat<128):gz prog 114 [.str text,.str ks] (.cf [.agg (kf text ks).1.cs,.bool (kf text ks).2]):=by
 refine cT func114 O fun M=>?_
 refine OK.ug Unit ?_;have L:=xS (c:=32) (l:=text);refine ro 9 O (kc (zK (str_Cut (l:=text) (c:=32) H) call111 O) (rr 18 O (RK.xs (S.CB () underlying9 O (zt O) O) (fun q=>?_))));refine rr 3 O (OK.nP 9 0 890 1 O O O O O (OK.nP 9 1 891 1 O O O O O ?_));refine OK.Io [4,9,890,891] (fun(p:Nat)(rest:ba)(more:Bool)(w:Words)=>[(4,.ptr 4 0),(1004,.box [.bO,.bO]),(9,.ptr 9 0),(1009,.box [.own 890 (R w.numbers),.own 891 (R w.texts)]),(2890,.arr 1 (w.numbers.map fun n=>[bv n])),(2891,.arr 1 (w.texts.map fun s=>[.str s])),(7,.str rest),(8,.bool more),(24,.raw (pV q)),(3000,.res (aa (I7 q ks p)))]) (fun p rest more w=>p<=R ks/\R rest<=100000/\kf text ks=aH (ks.drop p) rest more w/\R w.numbers<=p/\R w.texts<=p) (fun p rest more w=>R ks - p) (0) ((aL 32 text).2.1) ((aL 32 text).2.2) ((Words.mk [] [])) ⟨Zr _,by omega,rfl,Zq _,Zq _⟩ ⟨O,O,O,O,(bH N),(bH N),O,O,O,(Gt (nC _ _ _ _)),Zo⟩ (fun _ _ _ _=>O) ?_;rintro p rest more w ⟨hi,x,i,G,B⟩;have E:=xS (c:=32) (l:=rest);refine kO ?_;rcases w9 ks p with⟨h,A⟩|⟨h,K⟩|h
 ·have f:=E8 h rest more w;refine OK.bN ?_;refine RK.xs (S.xY () O (zt O) O O h (by unfold maxLen;omega) (CD (Zv h) A) I) (fun _=>?_);refine rr 18 O (kc (S.not .none O (zt O)) (kD (OK.cond O O (fun t=>?_) (fun t=>?_))))
  ·have d:more=false:=by simpa using t
   have a:aH (ks.drop p) rest more w=(⟨[],[]⟩,false):=by rw[f,d,aH,Zn rfl]
   refine kr (kc (zU Lp O O) (rr 4 O (OK.ret (aA.r2 (.bG O O O O TD O (.k .bO (.k .bO .z))) (zo O O) ?_))));rw[i,a]
   all_goals first|rfl|simp[Words.cs]
  have d:more=true:=by simpa using t
  refine ro 9 O (kB O (fun r=>?_) (fun r=>?_))
  ·have g:ks[p]=114:=Dt r;have a:aH (ks.drop p) rest more w=({w with texts:=w.texts++[rest]},true):=by rw[f,g,d,aH,Zm C,Zn rfl]
   refine ro 5 O ?_;refine RK.c (zM [[_]] XP O O O O) ?_;refine kc (zP XP O O F N I (by simp only[maxLen];omega)) ?_;refine rr 11 O ?_;refine OK.ret (aA.r2 (.bG O O O O TD O (.k (.own O O N) (.k (.own O O N) .z))) (zo O O) ?_);rw[i,a]
   all_goals first|rfl|simp[Words.cs]
  have v:¬ks[p]=114:=fun e=>r (by rw[e];rfl)
  refine ro 5 O (kc (zK (str_Cut (l:=rest) (c:=32) x) call111 O) (rr 24 O (kB O (fun o=>?_) (fun o=>?_))))
  ·have g:ks[p]=119:=Dt o;refine ro 7 O (kB O (fun m=>?_) (fun m=>?_))
   ·have a:aH (ks.drop p) rest more w=(⟨[],[]⟩,false):=by rw[f,g,d,aH,Zm C,Zm C,Zn rfl,Zn m]
    refine kr (kc (zU Lp O O) (rr 4 O (OK.ret (aA.r2 (.bG O O O O TD O (.k .bO (.k .bO .z))) (zo O O) ?_))));rw[i,a]
    all_goals first|rfl|simp[Words.cs]
   have a:aH (ks.drop p) rest more w=aH (ks.drop (p+1)) (aL 32 rest).2.1 (aL 32 rest).2.2 {w with texts:=w.texts++[(aL 32 rest).1]}:=by rw[f,g,d,aH,Zm C,Zm C,Zn rfl,Zm m]
   refine ro 7 O ?_;refine RK.c (zM [[_]] XP O O O O) ?_;refine kc (zP XP O O F N I (by simp only[maxLen];omega)) ?_;refine rr 5 O ?_;refine Ab.D.lp ⟨p+1,(aL 32 rest).2.1,(aL 32 rest).2.2,{w with texts:=w.texts++[(aL 32 rest).1]},⟨by omega,by omega,by rw[i,a],by simp;omega,by simp;omega⟩,I,O,O,O,(FT F F),(bH F),(bH F),O,O,O,(Gt (nC _ _ _ _)),Zo⟩
  have u:¬ks[p]=119:=fun e=>o (by rw[e];rfl)
  refine ro 5 O (kc (S.dB (oP (l:=(aL 32 rest).1) I) M call130 .none O (zc O .nil) O) ?_);refine rr 11 O (kc (S.not .none O (zt O)) (kD (OK.cond O O (fun j=>?_) (fun j=>?_))))
  ·have a:aH (ks.drop p) rest more w=(⟨[],[]⟩,false):=by rw[f,d,aH,Zm C,Zm v,Zm u,Zm (by simpa using j)]
   refine kr (kc (zU Lp O O) (rr 4 O (OK.ret (aA.r2 (.bG O O O O TD O (.k .bO (.k .bO .z))) (zo O O) ?_))));rw[i,a]
   all_goals first|rfl|simp[Words.cs]
  have a:aH (ks.drop p) rest more w=aH (ks.drop (p+1)) (aL 32 rest).2.1 (aL 32 rest).2.2 {w with numbers:=w.numbers++[bp (aL 32 rest).1]}:=by rw[f,d,aH,Zm C,Zm v,Zm u,Zn (by simpa using j)]
  refine ro 6 O ?_;refine RK.c (zM [[_]] ZM O O O O) ?_;refine kc (zP ZM O O F N I (by simp only[maxLen];omega)) ?_;refine rr 4 O ?_;refine Ab.D.lp ⟨p+1,(aL 32 rest).2.1,(aL 32 rest).2.2,{w with numbers:=w.numbers++[bp (aL 32 rest).1]},⟨by omega,by omega,by rw[i,a],by simp;omega,by simp;omega⟩,I,O,O,O,(FT F F),(bH F),(bH F),O,O,O,(Gt (nC _ _ _ _)),Zo⟩
 ·exfalso;have:=J.2 _ (Zt h);omega
 refine OK.bN (kc (S.CC () .none O (zt O) O O h) (rr 8 O ?_));have y:p=R ks:=by omega
 subst y;have a:aH (ks.drop (R ks)) rest more w=(w,!more):=by rw[no,aH]
 refine ro 3 O (kc (S.not .none O (zt O)) (rr 4 O ?_));refine OK.ret (aA.r2 (.bG O O O O TD O (.k (.own O O N) (.k (.own O O N) .z))) (zo O O) ?_);rw[i,a]
 all_goals first|rfl|simp[Words.cs]
end Go.Proofs.Z9
namespace Go.Proofs.Z9
open Go.Ab Tryz
def x4(s:ba):Prop:=dU prog 269 [4] [.ptr 4 0] [(1004,.box [.str s])] [(1004,.box [.str (iL s).2])] (.cf [.sl ((iL s).1.1.map Ph.cs),.bool (iL s).1.2])
def I0(s:ba):Prop:=dU prog 314 [4] [.ptr 4 0] [(1004,.box [.str s])] [(1004,.box [.str (jS s).2])] (.cf [.agg (jS s).1.1.cx,.bool (jS s).1.2])
def AA{s:ba}(N:R s<=100000)(M:jr s)(B:∀w,R w<R s->jr w->x4 w):dU prog 314 [4] [.ptr 4 0] [(1004,.box [.str s])] [(1004,.box [.str (jS s).2])] (.cf [.agg (jS s).1.1.cx,.bool (jS s).1.2]):=by
 refine cH func314 O fun d=>?_
 refine OK.ug Unit ?_;have P:=qU s;have E:=M.kind;refine ro 9 O ?_;refine RK.c (S.pX (fs:=[4]) (t:=[(1004,.box [.str s])]) (t':=[(1004,.box [.str (cu s).2])]) (CN N M) d call359 .none O (zc O .nil) V ⟨O,Zo⟩ V V V V O V) ?_;refine rr 11 O (kc (S.not .none O (zt O)) (kD (OK.cond O O (fun j=>?_) (fun j=>?_))))
 ·have m:(cu s).1=none:=by simpa using j
  have d:jS s=((Ph.zero,false),(cu s).2):=HQ m;refine kr (kc (zU OX O O) (rr 4 O ?_));refine OK.ret ⟨aA.r2 (.bG O O O O ZF O (.k (.same O) (.k (.same O) (.k (.same O) (.k (.same O) (.k (.same O) (.k .bO .z))))))) (zo O O) ?_,om (by rw[d]),Zo⟩;rw[d];rfl
 obtain⟨k,m⟩:∃k,(cu s).1=some k:=sk.1 (by simpa using j);have H:k<6:=(eE m).1;have G:wL s=(k:Int):=by unfold wL;rw[m];rfl
 have Q:=x5 k;rw[G];refine ro 5 O (kc (zU OX O O) (rr 5 O (OK.HR (cells':=Bu k (0,0,0,0)) [4,2] [(0,.ptr 4 0),(1004,.box [.str (cu s).2]),(2,.ptr 2 0),(1002,.box [bv 0,bv 0,bv 0,bv 0,bv 0,.bO]),(3,.bool false),(4,bv (k:Int))] 6 () O O O O O O ⟨O,O,O,O,O,O,Zo⟩ O O ⟨.inl ⟨O,O⟩,.inl ⟨O,O⟩,.inl ⟨O,O⟩,.inl ⟨O,O⟩,.inl ⟨O,O⟩,.inr ⟨O,O⟩,Zo⟩ fun b=>?_)));refine OK.bN (RK.c (S.vR (k:=23) O .none O) (rr 2 O ?_));refine kc (S.mkData (rows:=[[_],[_]]) XN .none O (zc O (zc O .nil)) O O O O O O O) (kc (S.kZ (key:=0) (l:=(nh b).take 0) (es':=oo ((nh b).take 1)) underlying468 underlying3 .none (zt O) (.af O) (zt O) O O O O O) (kc (zr UG O) (kc (S.mkData (rows:=[[_]]) XN .none O (zc O .nil) O O O O O O O) (kc (S.kZ (key:=1) (l:=(nh b).take 1) (es':=oo ((nh b).take 2)) underlying468 underlying3 .none (zt O) (.af O) (zt O) O O O O O) ?_))));refine rr 2 O ?_;refine kc (S.mkData (rows:=[[_],[_]]) XN .none O (zc O (zc O .nil)) O O O O O O O) (kc (S.kZ (key:=2) (l:=(nh b).take 2) (es':=oo ((nh b).take 3)) underlying468 underlying3 .none (zt O) (.af O) (zt O) O O O O O) ?_);refine rr 3 O ?_;refine kc (S.mkData (rows:=[[_],[_],[_]]) XN .none O (zc O (zc O (zc O .nil))) O O O O O O O) (kc (S.kZ (key:=3) (l:=(nh b).take 3) (es':=oo ((nh b).take 4)) underlying468 underlying3 .none (zt O) (.af O) (zt O) O O O O O) ?_);refine rr 3 O ?_;refine kc (S.mkData (rows:=[[_],[_],[_]]) XN .none O (zc O (zc O (zc O .nil))) O O O O O O O) (kc (S.kZ (key:=4) (l:=(nh b).take 4) (es':=oo ((nh b).take 5)) underlying468 underlying3 .none (zt O) (.af O) (zt O) O O O O O) (kc (zr UG O) (kc (S.mkData (rows:=[[_]]) XN .none O (zc O .nil) O O O O O O O) (kc (S.kZ (key:=5) (l:=(nh b).take 5) (es':=oo ((nh b).take 6)) underlying468 underlying3 .none (zt O) (.af O) (zt O) O O O O O) ?_))));refine rr 9 O (kc (S.CO (l:=nh b) underlying468 underlying3 .none O (zt O) (zt O) O O (EO H) O) (kc (zk QO O) (rr 4 O ?_)));refine OK.FH [4,2] (fun(i:Nat)(q:Q4)(r:ba)=>[(0,.ptr 4 0),(1004,.box [.str r]),(2,.ptr 2 0),(1002,.box [bv 0,bv 0,bv 0,bv 0,bv 0,.bO]),(4,bv (k:Int)),(6,.raw (pV b)),(45,.sl (kz b k)),(46,bv (R (bB k):Int)),(47,bv i),(3000,.res (aa (Je b k q)))]) (fun i q r=>i<=R (bB k)/\eO (bB k) (AB k (0,0,0,0) []) (cu s).2=eO ((bB k).drop i) (AB k q []) r/\R r<=R (cu s).2/\jr r) (fun i q r=>R (bB k) - i) (0) (((0,0,0,0):Q4)) ((cu s).2) ⟨Zr _,O,Zq _,E⟩ ⟨O,O,O,O,O,O,O,(yL F),O,(Gt (y7 _ _ _ _)),Zo⟩ (fun _ _ _=>O) ?_;rintro i q r ⟨hi,J,x,f⟩;refine ro 6 O (kB O (fun L=>?_) (fun L=>?_))
 ·have e:i<R (bB k):=by omega
  refine ro 6 O (kc (zI QO O I O) ?_);refine rr 7 O ?_;refine RK.c (S.pX (fs:=[4]) (t:=[(1004,.box [.str r])]) (t':=[(1004,.box [.str (fY r).2])]) (x6 I f) d call360 .none O (zc O .nil) V ⟨O,Zo⟩ V V V V O V) ?_;refine rr 11 O (kc (S.not .none O (zt O)) (kD (OK.cond O O (fun h=>?_) (fun h=>?_))))
  ·have A:(fY r).1.2=false:=by simpa using h
   have d:jS s=((Ph.zero,false),(fY r).2):=phT_1 m (by rw[J,qV e,Zm (by rw[A];decide)]);refine kr (kc (zU OX O O) (rr 4 O ?_));refine OK.ret ⟨aA.r2 (.bG O O O O ZF O (.k (.same O) (.k (.same O) (.k (.same O) (.k (.same O) (.k (.same O) (.k .bO .z))))))) (zo O O) ?_,om (by rw[d]),Zo⟩;rw[d];rfl
  have y:(fY r).1.2=true:=by simpa using h
  refine ro 6 O ?_;refine kc (S.dc (xs:=Bu k q) (xs':=Bu k (q.set (bB k)[i] (fY r).1.1)) (()) Z8 .none (zt O) (zt O) O O O O O (EP (oq e)) (ER (oq e) _)) ?_;refine Rr 7 O I ?_;refine Ab.D.lp ⟨i+1,(q.set (bB k)[i] (fY r).1.1),(fY r).2,⟨by omega,by rw[J,qV e,Zn y],ce (y8 r) x,f.num⟩,I,O,O,O,O,O,O,O,O,O,(Gt (y7 _ _ _ _)),Zo⟩
 have v:=HT m (q:=q) (r:=r) (by rw[J,show i=R (bB k) by omega,no];rfl);refine ro 9 O (kB O (fun K=>?_) (fun K=>?_))
 ·have d:=v.trans (Zn (show k≠5 by omega));refine kr (kc (zJ (us:=(Bu k q)) ZF O (aa.Ej (k:=()) (xs:=Bu k q) O ⟨.same _,.same _,.same _,.same _,.same _,.same _,Zo⟩ O)) ?_);refine rr 4 O ?_;refine OK.ret ⟨aA.r2 (zy O O ZF O) (zo O O) ?_,om (by rw[d]),Zo⟩;rw[d];rfl
 have u:=v.trans (Zm (show¬k≠5 by omega));refine ro 6 O ?_;refine RK.c (S.ot (fs:=[4]) (t:=[(1004,.box [.str r])]) (t':=[(1004,.box [.str (bL [32,40] r).2])]) (pY (p:=[32,40]) I C) call315 .none O (zc O (.cons (.bj (l:=[32,40]) O C) .nil)) V ⟨O,Zo⟩ V V V V O V) ?_;refine kc (S.not .none O (zt O)) (kD (OK.cond O O (fun g=>?_) (fun g=>?_)))
 ·have d:=u.trans (Zn (show(bL [32,40] r).1=false by simpa using g));refine kr (kc (zU OX O O) (rr 4 O ?_));refine OK.ret ⟨aA.r2 (.bG O O O O ZF O (.k (.same O) (.k (.same O) (.k (.same O) (.k (.same O) (.k (.same O) (.k .bO .z))))))) (zo O O) ?_,om (by rw[d]),Zo⟩;rw[d];rfl
 have hh:(bL [32,40] r).1=true:=by simpa using g
 have o:=u.trans (Zm (by rw[hh];decide));have n:R (bL [32,40] r).2<R s:=by have:=mg hh C;omega
 refine ro 5 O ?_;refine RK.c (S.pX (fs:=[4]) (t:=[(1004,.box [.str (bL [32,40] r).2])]) (t':=[(1004,.box [.str (iL (bL [32,40] r).2).2])]) (B _ n (f.has _)) d call269 .none O (zc O .nil) V ⟨O,Zo⟩ V V V V O V) ?_;refine rr 11 O (kc (S.dc (xs:=Bu k q) (xs':=CP k q (iL (bL [32,40] r).2).1.1) (()) Xm .none (zt O) (zt O) O O O O O O O) (rr 3 O ?_));by_cases a:(iL (bL [32,40] r).2).1.2=true
 ·have d:=o.trans (Zn a);refine kV (.c (zJ (us:=(CP k q (iL (bL [32,40] r).2).1.1)) ZF O (aa.Ej (k:=()) (xs:=CP k q (iL (bL [32,40] r).2).1.1) (HM.bw _ _ _) ⟨.same _,.same _,.same _,.same _,.same _,.same _,Zo⟩ O)) (.c (zm O) (.c (zm O) (.c (S.move (.yes O O O (by first|exact a|simpa using a)) O (zt O)) (.c (S.ot (fs:=[4]) (t:=[(1004,.box [.str (iL (bL [32,40] r).2).2])]) (t':=[(1004,.box [.str (bL [41] (iL (bL [32,40] r).2).2).2])]) (pY (p:=[41]) (by have:=Gu (bL [32,40] r).2;omega) C) call315 (.yes O O O (by first|exact a|simpa using a)) O (zc O (.cons (.bj (l:=[41]) O C) .nil)) V ⟨O,Zo⟩ V V V V O V) (.c (S.aQ .none O (zt O) (zt O) (by first|exact a|simpa using a)) (.c (zS ZF O O O O O O) (.c (za O) .nil)))))))) ?_;refine Ab.D.code (OK.ret ⟨aA.r2 (zy O O ZF O) (zo O O) ?_,om (by rw[d]),Zo⟩);rw[d];rfl
 have d:=o.trans (Zm (by simpa using a));refine kV (.c (zJ (us:=(CP k q (iL (bL [32,40] r).2).1.1)) ZF O (aa.Ej (k:=()) (xs:=CP k q (iL (bL [32,40] r).2).1.1) (HM.bw _ _ _) ⟨.same _,.same _,.same _,.same _,.same _,.same _,Zo⟩ O)) (.c (zm O) (.c (zm O) (.c (zG O (by first|exact a|simpa using a)) (.c (zG O (by first|exact a|simpa using a)) (.c (S.aO .none O (zt O) .aJ (by first|exact a|simpa using a)) (.c (zS ZF O O O O O O) (.c (za O) .nil)))))))) ?_;refine Ab.D.code (OK.ret ⟨aA.r2 (zy O O ZF O) (zo O O) ?_,om (by rw[d]),Zo⟩);rw[d];rfl
def AD{s:ba}(w:R s<=100000)(v:jr s)(j:∀i,R i<=R s->jr i->I0 i):dU prog 269 [4] [.ptr 4 0] [(1004,.box [.str s])] [(1004,.box [.str (iL s).2])] (.cf [.sl ((iL s).1.1.map Ph.cs),.bool (iL s).1.2]):=by
 refine cH func269 O fun d=>?_
 refine kr (kc (S.assign .none O .fW) (rr 5 O (RK.c (S.iI (k:=890) (sz:=6) .none O) (rr 3 O ?_))));refine OK.mP [4,890] (fun(a:List Ph)(r:ba)=>[(0,.ptr 4 0),(1004,.box [.str r]),(4,.own 890 (R a)),(2890,.arr 6 (a.map Ph.cs))]) (fun a r=>iL s=qW (R r+1) a r/\R a+R r<=R s/\jr r) (fun a r=>R r) ([]) (s) ⟨O,F,v⟩ ⟨O,O,(cw N),(bH N),Zo⟩ (fun _ _=>O) ?_;rintro a r ⟨u,o,g⟩;have b:=u.trans (CQ _ a r I);have q:=Gv r;have m:=ES g;refine ro 4 O ?_;refine RK.c (S.pX (fs:=[4]) (t:=[(1004,.box [.str r])]) (t':=[(1004,.box [.str (jS r).2])]) (j r I g) d call314 .none O (zc O .nil) V ⟨O,Zo⟩ V V V V O V) ?_;refine rr 12 O (kc (S.not .none O (zt O)) (kD (OK.cond O O (fun f=>?_) (fun f=>?_))))
 ·have d:iL s=(([],false),(jS r).2):=b.trans (Zn (by simpa using f));refine kr (kc (S.assign .none O .fW) (rr 3 O ?_));refine OK.ret ⟨aA.r2 (zo O O) (zo O O) ?_,om (by rw[d]),Zo⟩;rw[d];rfl
 have h:(jS r).1.2=true:=by simpa using f
 refine ro 6 O ?_;refine RK.c (zM [[_,_,_,_,_,_]] WZ O O O O) ?_;refine kc (zP WZ O O (by rw[Zx]) N I (by simp only[maxLen];omega)) ?_;refine rr 6 O ?_;refine RK.c (S.ot (fs:=[4]) (t:=[(1004,.box [.str (jS r).2])]) (t':=[(1004,.box [.str (bL [59] (jS r).2).2])]) (pY (p:=[59]) I C) call315 .none O (zc O (.cons (.bj (l:=[59]) O C) .nil)) V ⟨O,Zo⟩ V V V V O V) ?_;refine kc (S.not .none O (zt O)) (kD (OK.cond O O (fun e=>?_) (fun e=>?_)))
 ·have d:iL s=((a++[(jS r).1.1],true),(bL [59] (jS r).2).2):=b.trans ((Zm (by rw[h];decide)).trans (Zm (by simpa using e)));refine kO (OK.freeze 4 O O O F ?_);refine ro 6 O ?_;refine OK.ret ⟨aA.r2 (zo O O) (zo O O) ?_,om (by rw[d]),Zo⟩;rw[d];dsimp only;rw[ne,dι,←Ph.CR];rfl
 have n:(bL [59] (jS r).2).1=true:=by simpa using e
 refine OK.skip (Ab.D.blk ?_);refine Ab.D.lp ⟨(a++[(jS r).1.1]),(bL [59] (jS r).2).2,⟨b.trans ((Zm (by rw[h];decide)).trans (Zn n)),by rw[Zs,R0];have:=mg n C;omega,m.has _⟩,(by have:=mg n C;omega),O,O,(cw F),(bH (by rw[ne,dι,←Ph.CR];rfl)),Zo⟩
def CS{s:ba}(a:R s<=100000)(d:jr s):x4 s:=by
 have key:∀(n:Nat)(s:ba),R s<n->R s<=100000->jr s->x4 s:=by
  intro n
  induction n with
  |zero=>omega
  |succ n f=>
   intro s h a d;exact AD a d fun j i c=>AA I c fun e g b=>f e I I b
 exact key _ s (cπ _) a d
end Go.Proofs.Z9
namespace Go.Proofs.Z9
open Go.Ab Tryz
abbrev IL:=Nat×Int×Int
def tV(x:IL):bi:=[wM x.1,bv x.2.1,bv x.2.2]
def vF:Nat:=386
def vG:Nat:=387
def pc:Nat:=388
def xI:Nat:=389
def dr(k:Int):List IL:=if k=0 then [(vF,1,10000),(pc,1,200)]else if k=1 then [(pc,1,200)]else if k=2 then [(vG,0,3),(pc,1,200)]else if k=3 then [(xI,200,3000),(vF,1,10000),(pc,1,200)]else if k=4 then [(xI,200,3000),(vG,0,3),(pc,1,200)]else if k=5 then [(pc,1,10)]else []
def Fx(l:List Ph):l.map Ph.cs=l.map Ph.cx:=aβ fun p _=>p.CR.symm
def Ai{p:Ph}:Ct prog 386 [.agg p.cx] (bv p.power):=by
 refine cI func386 O (ro 13 O (kR O O ?_));rfl
def El{p:Ph}:Ct prog 387 [.agg p.cx] (bv p.law):=by
 refine cI func387 O (ro 13 O (kR O O ?_));rfl
def Aj{p:Ph}:Ct prog 388 [.agg p.cx] (bv p.aR):=by
 refine cI func388 O (ro 13 O (kR O O ?_));rfl
def xJ{p:Ph}:Ct prog 389 [.agg p.cx] (bv p.kelvin):=by
 refine cI func389 O (ro 13 O (kR O O ?_));rfl
def B2{k:Int}:Ct prog 381 [bv k] (.sl ((dr k).map tV)):=by
 refine cI func381 O (kr (kc (S.assign .none O .fW) (rr 4 O (kc (S.build Np O .none O (.cons .oL (zC O (zD O))) O O) (kc (S.build Np O .none O (.cons .oL (zC O (zD O))) O O) (rr 7 O (OK.tr 3 [wM vF,bv 1,bv 10000] O O uO (OK.tr 4 [wM vG,bv 0,bv 3] O O uO (OK.bN (kc (S.build Np O .none O (.cons .oL (zC O (zD O))) O O) (kc (S.build Np O .none O (.cons .oL (zC O (zD O))) O O) ?_)))))))))));refine rr 8 O (OK.tr 5 [wM pc,bv 1,bv 200] O O uO (OK.tr 6 [wM xI,bv 200,bv 3000] O O uO (ro 11 O (kB O (fun f=>?_) (fun f=>?_)))))
 ·refine ro 4 O ?_;refine kc (S.mkData (rows:=[[_,_,_],[_,_,_]]) S_ .none O (zc O (zc O .nil)) O O O O O O O) ?_;refine rr 3 O (kR O O ?_);refine rn X.sl ?_;unfold dr;simp[*,tV]
 refine ro 6 O (kB O (fun e=>?_) (fun e=>?_))
 ·refine ro 3 O ?_;refine kc (S.mkData (rows:=[[_,_,_]]) S_ .none O (zc O .nil) O O O O O O O) ?_;refine rr 3 O (kR O O ?_);refine rn X.sl ?_;unfold dr;simp[*,tV]
 refine ro 6 O (kB O (fun d=>?_) (fun d=>?_))
 ·refine ro 4 O ?_;refine kc (S.mkData (rows:=[[_,_,_],[_,_,_]]) S_ .none O (zc O (zc O .nil)) O O O O O O O) ?_;refine rr 3 O (kR O O ?_);refine rn X.sl ?_;unfold dr;simp[*,tV]
 refine ro 6 O (kB O (fun c=>?_) (fun c=>?_))
 ·refine ro 5 O ?_;refine kc (S.mkData (rows:=[[_,_,_],[_,_,_],[_,_,_]]) S_ .none O (zc O (zc O (zc O .nil))) O O O O O O O) ?_;refine rr 3 O (kR O O ?_);refine rn X.sl ?_;unfold dr;simp[*,tV]
 refine ro 6 O (kB O (fun b=>?_) (fun b=>?_))
 ·refine ro 5 O ?_;refine kc (S.mkData (rows:=[[_,_,_],[_,_,_],[_,_,_]]) S_ .none O (zc O (zc O (zc O .nil))) O O O O O O O) ?_;refine rr 3 O (kR O O ?_);refine rn X.sl ?_;unfold dr;simp[*,tV]
 refine ro 6 O (kB O (fun a=>?_) (fun a=>?_))
 ·refine ro 9 O ?_;refine kc (S.mkData (rows:=[[_,_,_]]) S_ .none O (zc O .nil) O O O O O O O) ?_;refine rr 3 O (kR O O ?_);refine rn X.sl ?_;unfold dr;simp[*,tV]
 refine ro 5 O (kc (S.assign .none O .fW) (kD (kR O O ?_)));refine rn X.sl ?_;unfold dr;simp[*,tV]
