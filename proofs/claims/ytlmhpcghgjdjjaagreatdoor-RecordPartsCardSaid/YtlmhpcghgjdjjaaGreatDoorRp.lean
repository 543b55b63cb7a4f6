import Derived.Test.YtlmhpcghgjdjjaaGreatDoorUd
set_option linter.all false
set_option maxHeartbeats 2000000
open List renaming length->R
namespace Go.Proofs.Z9
open Go.Ab Tryz
set_option maxRecDepth 9999
def br(l:List bf)(i:Nat)(p:bf):Int:=aF [ae (bS p.name) 4,ae (decide (¬(p.name∈(l.take i).map bf.name))) 5,ae (decide (0<=p.role/\p.role<=4)) 15]
def eX(n:Net):Int:=aF [ae (decide ((R n.av:Int)>0)) 10,ae (decide ((R n.av:Int)<=8)) 8]
def gA(n:Net):Bool:=decide (0<=n.limit/\n.limit<=2000)&&(decide (0<=n.lo/\n.lo<=10000)&&decide (0<=n.hi/\n.hi<=10000))
def lX(n:Net):Int:=aF [(bP n.aS).2,ae (gA n) 2,ae (decide (n.lo<=n.hi)) 9]
def size_le{n:Net}(h:eX n=0):(R n.av:Int)<=8:=by
 unfold eX at h;by_cases a:(R n.av:Int)<=8
 ·exact a
 exfalso;rw[Zy a]at h;cases b:decide ((R n.av:Int)>0)<;>rw[b]at h<;>exact absurd h C
def iG(n:Net):Int×Int:=if eX n≠0 then(0,eX n)else if(aK (br n.av) 0 n.av).2≠0 then aK (br n.av) 0 n.av else(0,lX n)
def Net.zero:Net:=⟨[],[],0,0,0⟩
def mN(n:Net):Net×bC:=if eX n≠0\/(aK (br n.av) 0 n.av).2≠0 then(Net.zero,⟨[],0⟩)else(n,(bP n.aS).1)
theorem qw{n:Net}(h:eX n≠0):iG n=(0,eX n)/\mN n=(Net.zero,⟨[],0⟩):=by unfold iG mN;simp_all
theorem tY{n:Net}(h:eX n=0)(a:(aK (br n.av) 0 n.av).2≠0):iG n=aK (br n.av) 0 n.av/\mN n=(Net.zero,⟨[],0⟩):=by unfold iG mN;simp_all
theorem tZ{n:Net}(h:eX n=0)(a:(aK (br n.av) 0 n.av).2=0):iG n=(0,lX n)/\mN n=(n,(bP n.aS).1):=by
 unfold iG mN;simp_all
def B6{n:Net}(h:(iG n).2=0):mN n=(n,(bP n.aS).1)/\(bP n.aS).2=0:=by
 by_cases c:eX n=0
 ·by_cases b:(aK (br n.av) 0 n.av).2=0
  ·obtain⟨e,d⟩:=tZ c b;rw[e]at h;refine⟨d,?_⟩;have a:lX n=0:=h;unfold lX at a;rw[aF]at a;omega
  simp_all[tY]
 simp_all[qw]
def B7{n:Net}(h:(iG n).2=0):lX n=0:=by
 grind [tZ,tY,qw]
def F5{n:Net}(h:(iG n).2=0):yP n:=by
 have b:=B7 h;have c:=(B6 h).2;unfold lX at b;rw[c,aF,Zm C]at b;cases a:gA n with
 |false=>simp_all[aF,ae]
 |true=>
  unfold gA at a;rw[Zw,Zw]at a;exact⟨pf a.2.1,pf a.2.2⟩
def vP{l:ba}(h:(bP l).2=0):bA (bP l).1=0:=by
 unfold bP at h⊢;grind
def xL{l:List bf}{i:Nat}(h:i<R l):(l.take (i+1)).map bf.name=(l.take i).map bf.name++[l[i].name]:=by rw[mv h,ne];rfl
def ax.init(n:Net)(p:bC):ax:=⟨n,p,[],[],[],[],⟨0,0,[]⟩,false,0,0⟩
def HA.init(b:Nat)(n:Net)(p:bC):HA:=⟨b,n,p,none,[],none,[],none,[],none,[],⟨0,0,[]⟩,false,0,0⟩
def HA.B8(b:Nat)(n:Net)(p:bC):(HM.set (fun _:Key=>none) .bn (some (b,.box (HA.init b n p).cs)))=(HA.init b n p).mem:=by
 funext k;cases k with
 |bn=>rfl
 |v i=>rfl
 |c i=>rfl
 |p i=>rfl
 |f i=>rfl
 |e i=>rfl
 |_=>rfl
def HA.Et(b:Nat)(n:Net)(p:bC):(HA.init b n p).Ok 0:=
 ⟨fun _=>rfl,fun _=>rfl,fun _=>rfl,fun _=>rfl,(fun v h=>by cases h),(fun v h=>by cases h),C,(by show(0:Int)<=0/\(0:Int)<=60;decide),Int.le_refl _,Int.le_refl _,Int.le_refl _,Int.le_refl _,(fun v h=>by cases h),(fun v h=>by cases h),(fun v h=>by cases h),(fun v h=>by cases h),(fun v h=>by cases h),(fun v h=>by cases h),(fun v h=>by cases h),(fun v h=>by cases h),(fun v h=>by cases h)⟩
def runT:ax->Nat->List Entry->ax×Int×Int
 |H,_,[]=>(H,0,0)
 |H,i,x::l=>if(bX H x).2≠0 then((bX H x).1,(i:Int),(bX H x).2)else runT (bX H x).1 (i+1) l
def ua(n:Net)(l:List Entry):Int:=aF [(iG n).2,ae (decide ((R l:Int)<=60)) 8]
def bl(n:Net)(l:List Entry):ax×Int×Int:=if ua n l≠0 then(ax.init n (bP n.aS).1,0,ua n l)else runT (ax.init n (bP n.aS).1) 0 l
def F6{n:Net}{l:List Entry}(h:ua n l=0):(iG n).2=0/\(R l:Int)<=60:=by
 unfold ua at h;rw[aF]at h;by_cases b:(iG n).2=0
 ·rw[Zm I,aF]at h;refine⟨b,?_⟩;by_cases a:(R l:Int)<=60
  ·exact a
  rw[Zy a]at h;exact absurd h C
 omega
def sR{H:ax}{l:List Entry}{i:Nat}(h:i<R l):runT H i (l.drop i)=if(bX H l[i]).2≠0 then((bX H l[i]).1,(i:Int),(bX H l[i]).2)else runT (bX H l[i]).1 (i+1) (l.drop (i+1)):=by
 rw[np h,runT]
def oK(H:ax)(x:Entry):(bX H x).1.aS=H.aS/\(bX H x).1.jq=H.jq:=by
 have a:∀(n:Int)(f:ax->Nat->HE),(∀i,(f H i).1.aS=H.aS/\(f H i).1.jq=H.jq)->(cK H n f).1.aS=H.aS/\(cK H n f).1.jq=H.jq:=fun n f b=>by
  unfold cK;split
  ·simp
  rename_i i _;split
  ·exact b i
  grind
 have c:∀k L,(mO k H L).1.aS=H.aS/\(mO k H L).1.jq=H.jq:=by
  intro k L;unfold mO;split
  ·simp
  ·unfold fT;grind
  ·unfold frameT;repeat' split
   all_goals exact⟨rfl,rfl⟩
  ·unfold n8;split<;>exact⟨rfl,rfl⟩
  ·exact a _ _ fun i=>by unfold gj;split<;>exact⟨rfl,rfl⟩
  ·exact a _ _ fun i=>by unfold Ei;split<;>exact⟨rfl,rfl⟩
  ·unfold qj;grind
  ·unfold tS;grind
  ·exact a _ _ fun i=>by unfold yE;split<;>exact⟨rfl,rfl⟩
  ·refine a _ _ fun i=>?_
   unfold yQ;dsimp only
   repeat' split
   all_goals exact⟨rfl,rfl⟩
  ·unfold eG;grind
  ·exact a _ _ fun i=>by unfold fe;grind
  unfold gS;grind
 unfold bX;grind
def F7(e:Int)(b:Nat):Value:=if e=0 then pV b else .pointer none
def B9{e:Int}{b:Nat}(h:e≠0):F7 e b=.pointer none:=Zm h
def uc{e:Int}{b:Nat}(h:e=0):F7 e b=pV b:=Zn h
def sS(l:List Entry):Prop:=∀x∈l,R x.text<=100000/\∀k,dS (aL 32 x.text).1=some k->lG k
def pP(e:Int)(H:ax)(A:HA):bm:=fun h Y w=>e=0->(A.Ok 400/\A.plain=H)/\aa A.mem h Y w
def pP.az(e:Int)(H:ax)(A:HA):aZ (pP e H A):=fun h o Y w m a l g f d c b=>⟨(a b).1,aa.az A.mem _ _ _ _ _ (a b).2 l g f d c⟩
def pP.mono{e:Int}{H:ax}{A:HA}:∀h Y d w,pP e H A h Y w->(∀b,Y b->d b)->pP e H A h d w:=fun _ _ _ _ a f c=>⟨(a c).1,(a c).2.mono f⟩
def OK.ud{E:Env}{U:bc}{s:St}{code:Code}{Q:bo}{e:Int}{H:ax}{A:HA}(d:e=0)(c:Ab.look s 3000=some (.res (pP e H A)))(h:A.Ok 400->A.plain=H->OK E code Q U ((3000,.res (aa A.mem))::s)):OK E code Q U s:=
 OK.ue (p:=A.Ok 400/\A.plain=H) c (fun _ _ _ a=>(a d).1) fun b=>OK.bU c (aa.az _) (fun _ _ _ a=>(a d).2) (h b.1 b.2)
def xM{l:List bf}{i:Nat}{p:bf}(h:br l i p=0):p.name∉(l.take i).map bf.name:=by
 unfold br at h;intro a;rw[Zy (Zp a)]at h;grind [aF,ae]
def Hr{a b:List ba}(h:a=b):some (X.omap (jz (qx a)))=some (X.omap (jz (qx b))):=by rw[h]
def Ca{H:ax}{l:List Entry}{i:Nat}(h:i<R l)(a:(bX H l[i]).2≠0):runT H i (l.drop i)=((bX H l[i]).1,(i:Int),(bX H l[i]).2):=by rw[sR h,Zn a]
def Eu{H:ax}{l:List Entry}{i:Nat}(h:i<R l)(a:(bX H l[i]).2=0):runT H i (l.drop i)=runT (bX H l[i]).1 (i+1) (l.drop (i+1)):=by simp_all[sR]
def fV(n:Net)(l:List Entry)(num:Int):Int:=if(bl n l).2.2≠0 then(bl n l).2.2 else sU num ((bl n l).1.vr num).isSome
def qy(n:Net)(l:List Entry)(num:Int)(A:HA):Value:=if(bl n l).2.2=0 then rW A.pb (ix (fun v=>decide (v.p.num=num)) A.parts)else .pointer none
def sV{n:Int}:Ct prog 140 [bv n] (.bool (decide (0<=n/\n<=10000))):=by
 refine cI func140 O (ro 8 O (kc (zK cv call97 O) (rr 3 O (kR O O ?_))));rfl
def vQ{n:Net}(A:R n.aS<=1000):gz prog 101 [.agg n.cs] (.cf [.agg ((mN n).1.cs++(mN n).2.cs),bv (iG n).1,bv (iG n).2]):=by
 refine cT func101 O fun y=>?_
 refine ro 10 O ?_;refine kV (.c (zf Xr O) (.c (zl SN O O O O) (.c (zk Ys O) (.c (S.gtr .none O (zt O) (.af O)) (.c (zK ak call96 O) (.c (zf Xr O) (.c (zl SN O O O O) (.c (zk Ys O) (.c (S.leq .none O (zt O) (.af O)) (.c (zK ak call96 O) (.c (zM [[_],[_]] Zc O O O O) (.c (S.callL (bF (l:=[_,_])) call76 .none O (zc O .nil) (.cons (.p (.own O O) O) .nil) O) (.c (za O) .nil))))))))))))) ?_;refine rd 7 O (kB O (fun q=>?_) (fun q=>?_))
 ·have r:eX n≠0:=q;obtain⟨g,m⟩:=qw r;refine kr (kc (zU Qo O O) (rr 6 O (OK.ret (aA.r3 (.bG O O O O Wo O (.k .bO (.k (.same O) (.k (.same O) (.k (.same O) (.k (.same O) (.k .bO (.k (.same O) .z)))))))) (zo O O) (zo O O) ?_))));rw[g,m];rfl
 have r:eX n=0:=Zu.1 q;have x:=size_le r;refine ro 4 O (RK.c (S.vR (k:=30) O .none O) (rr 8 O (kc (zk Ys O) (rr 4 O ?_))));refine OK.loop (G:=Nat) [1,2,30] (fun i=>[(1,.ptr 1 0),(1001,.box n.cs),(2,.ptr 2 0),(1002,.box [.bO,.str [],bv 0,bv 0,bv 0,.bO,bv 0]),(6,.jt 30),(1030,.omap (jz (qx ((n.av.take i).map bf.name)))),(32,.sl (n.av.map bf.cs)),(33,bv (R n.av)),(34,bv i)]) (fun i=>i<=R n.av/\aK (br n.av) 0 n.av=aK (br n.av) i (n.av.drop i)) (fun i=>R n.av - i) 0 ⟨Zr _,O⟩ ⟨O,O,O,O,O,O,O,O,O,Zo⟩ (fun _=>O) ?_;rintro i ⟨hi,v⟩;refine ro 6 O (kB O (fun w=>?_) (fun w=>?_))
 ·have h:i<R n.av:=by omega
  refine ro 7 O (kc (zI Ys O I O) ?_);refine rr 7 O ?_;refine kV (.c (zf VO O) (.c (zl Y9 O O O O) (.c (zK jA call138 O) (.c (zK ak call96 O) (.c (zm O) (.c (zf VO O) (.c (zl Y9 O O O O) (.c (S.Ev (ks:=(n.av.take i).map bf.name) underlying238 underlying9 zeroValue4 O .none O (zt O) (zt O) O O) (.c (S.jP .none O (zt O)) (.c (zK ak call96 O) (.c (zf Sr O) (.c (zl Z8 O O O O) (.c (zK cv call97 O) (.c (zK ak call96 O) (.c (zM [[_],[_],[_]] Zc O O O O) (.c (S.callL (bF (l:=[_,_,_])) call76 .none O (zc O .nil) (.cons (.p (.own O O) O) .nil) O) (.c (za O) .nil))))))))))))))))) ?_;refine rd 8 O (kB O (fun o=>?_) (fun o=>?_))
  ·have d:br n.av i n.av[i]≠0:=o;have f:aK (br n.av) 0 n.av=((i:Int),br n.av i n.av[i]):=by rw[v,bE _ h,Zn d]
   obtain⟨g,m⟩:=tY r (by rw[f];exact d);rw[f]at g;refine kr (kc (zU Qo O O) (rr 7 O (OK.ret (aA.r3 (.bG O O O O Wo O (.k .bO (.k (.same O) (.k (.same O) (.k (.same O) (.k (.same O) (.k .bO (.k (.same O) .z)))))))) (zo O O) (zo O O) ?_))));rw[g,m];rfl
  have d:br n.av i n.av[i]=0:=Zu.1 o;have s:n.av[i].name∉(n.av.take i).map bf.name:=xM d;refine ro 6 O (kc (S.Ew (ks:=(n.av.take i).map bf.name) underlying238 underlying9 .none (zt O) (zt O) .aJ O O s) (Rr 7 O I ?_));refine Ab.D.lp ⟨i+1,⟨by omega,by rw[v,bE _ h,Zm (by rw[d];decide)]⟩,I,O,O,O,O,O,(Hr (by rw[xL h])),O,O,O,Zo⟩
 refine ro 3 O ?_;have u:i=R n.av:=by omega
 have f:(aK (br n.av) 0 n.av).2=0:=by rw[v,u,no];rfl
 obtain⟨g,m⟩:=tZ r f;refine ro 3 O (kc (S.dB (rX (l:=n.aS) I) y call139 .none O (zc O .nil) O) ?_);refine rr 10 O (kc (S.assign .none O .oL) (rr 6 O (kc (zK cv call97 O) (jm O (RK.bh (t:=73) O (fun a=>?_) (fun a=>?_))))))
 ·refine rr 4 O (kc (S.ij (sV) call140 (zg O O) O (zt O) (zc O .nil) O O O) (rr 2 O (RK.bh (t:=80) O (fun b=>?_) (fun b=>?_))))
  ·refine rr 4 O (kc (S.ij (sV) call140 (zg O O) O (zt O) (zc O .nil) O O O) (rr 5 O ?_));refine kV (.c (zL XB O O O O) (.c (zL Xs O O O O) (.c (zU Qo O O) (.c (zm O) (.c (zm O) (.c (zK ak call96 O) (.c (zf YH O) (.c (zf Ze O) (.c (zl Z8 O O O O) (.c (zf YH O) (.c (zf YU O) (.c (zl Z8 O O O O) (.c (S.leq .none O (zt O) (zt O)) (.c (zK ak call96 O) (.c (zM [[_],[_],[_]] Zc O O O O) (.c (S.callL (bF (l:=[_,_,_])) call76 .none O (zc O .nil) (.cons (.p (.own O O) O) .nil) O) (.c (zS Wo O O O O O O) (.c (zi O O) (.c (za O) .nil))))))))))))))))))) (Ab.D.code (OK.ret (aA.r3 (zy O O Wo O) (zo O O) (zo O O) ?_)));rw[g,m];refine rn (fun e=>X.cf [.agg (n.cs++(bP n.aS).1.cs),bv 0,bv e]) ?_;unfold lX gA
   first|(rw[Zz a,Zz b,tn,tn];done)|(rw[Zz a,Zy b,tn,tp];done)|(rw[Zy a,tp];done)
  refine rr 10 O ?_;refine kV (.c (zL XB O O O O) (.c (zL Xs O O O O) (.c (zU Qo O O) (.c (zm O) (.c (zm O) (.c (zK ak call96 O) (.c (zf YH O) (.c (zf Ze O) (.c (zl Z8 O O O O) (.c (zf YH O) (.c (zf YU O) (.c (zl Z8 O O O O) (.c (S.leq .none O (zt O) (zt O)) (.c (zK ak call96 O) (.c (zM [[_],[_],[_]] Zc O O O O) (.c (S.callL (bF (l:=[_,_,_])) call76 .none O (zc O .nil) (.cons (.p (.own O O) O) .nil) O) (.c (zS Wo O O O O O O) (.c (zi O O) (.c (za O) .nil))))))))))))))))))) (Ab.D.code (OK.ret (aA.r3 (zy O O Wo O) (zo O O) (zo O O) ?_)));rw[g,m];refine rn (fun e=>X.cf [.agg (n.cs++(bP n.aS).1.cs),bv 0,bv e]) ?_;unfold lX gA
  first|(rw[Zz a,Zz b,tn,tn];done)|(rw[Zz a,Zy b,tn,tp];done)|(rw[Zy a,tp];done)
 refine rr 17 O ?_;refine kV (.c (zL XB O O O O) (.c (zL Xs O O O O) (.c (zU Qo O O) (.c (zm O) (.c (zm O) (.c (zK ak call96 O) (.c (zf YH O) (.c (zf Ze O) (.c (zl Z8 O O O O) (.c (zf YH O) (.c (zf YU O) (.c (zl Z8 O O O O) (.c (S.leq .none O (zt O) (zt O)) (.c (zK ak call96 O) (.c (zM [[_],[_],[_]] Zc O O O O) (.c (S.callL (bF (l:=[_,_,_])) call76 .none O (zc O .nil) (.cons (.p (.own O O) O) .nil) O) (.c (zS Wo O O O O O O) (.c (zi O O) (.c (za O) .nil))))))))))))))))))) (Ab.D.code (OK.ret (aA.r3 (zy O O Wo O) (zo O O) (zo O O) ?_)));rw[g,m];refine rn (fun e=>X.cf [.agg (n.cs++(bP n.aS).1.cs),bv 0,bv e]) ?_;unfold lX gA
 first|(rw[Zz a,Zz b,tn,tn];done)|(rw[Zz a,Zy b,tn,tp];done)|(rw[Zy a,tp];done)
def lY{n:Net}{l:List Entry}(V:R n.aS<=1000)(U:sS l):vS prog 64 [.agg n.cs,.sl (l.map Entry.cs)] (fun A:HA=>.cf [.raw (F7 (bl n l).2.2 A.b),bv (bl n l).2.1,bv (bl n l).2.2]) (fun A:HA=>pP (bl n l).2.2 (bl n l).1 A):=by
 refine vS.intro (rs:=[.tmp 4,.tmp 5,.tmp 6]) func64 rfl ntmps64 results64 rfl rfl rfl fun w h a=>?_
 refine OK.ug Key (OK.eW (rows:=l.map Entry.cs) (t:=1) O O fun hlen=>?_);rw[Zx]at hlen;unfold maxLen at hlen;have K:ua n l≠0->bl n l=(ax.init n (bP n.aS).1,0,ua n l):=fun h=>by unfold bl;rw[Zn h]
 have J:ua n l=0->bl n l=runT (ax.init n (bP n.aS).1) 0 l:=fun h=>by unfold bl;rw[Zm (by rw[h];decide)]
 refine ro 3 O (kc (S.assign .none O .lq) (rr 7 O (kc (S.dB (vQ I) a call101 .none O (zc O .nil) O) ?_)));refine rr 15 O (kc (zk YI O) (kc (S.leq .none O (zt O) (.af O)) (kc (zK ak call96 O) ?_)));refine RK.c (zM [[_],[_]] Zc O O O O) (kc (S.callL (bF (l:=[_,_])) call76 .none O (zc O .nil) (.cons (.p (.own O O) O) .nil) O) ?_);refine rr 9 O (kB O (fun f=>?_) (fun f=>?_))
 ·have g:ua n l≠0:=f;have a:=K g;refine ro 3 O (kc (S.assign .none O .lq) (rr 4 O ?_));refine OK.bU (J':=pP (bl n l).2.2 (bl n l).1 (HA.init 0 n (bP n.aS).1)) O (pP.az _ _ _) (fun h Y w r x=>absurd x (by rw[a];exact g)) ?_;refine OK.ret ⟨(HA.init 0 n (bP n.aS).1),aA.r3 (zo O O) (zo O O) (zo O O) ?_,O⟩;rw[a];dsimp only;rw[B9 g]
  try rfl
 have g:ua n l=0:=Zu.1 f;have T:=J g;obtain⟨u,v⟩:=F6 g;obtain⟨Q,L⟩:=B6 u;rw[Q];refine ro 5 O (kc (zU bu144 O O) (RK.c (S.Ex (k:=32) O .none O (zt O) O) (rr 5 O (OK.Hs 10 .bn (cells':=(HA.init 0 n (bP n.aS).1).cs) O O O ⟨.inl ⟨O,O⟩,.inl ⟨O,O⟩,.inl ⟨O,O⟩,.inl ⟨O,O⟩,.inl ⟨O,O⟩,.inl ⟨O,O⟩,.inl ⟨O,O⟩,.inl ⟨O,O⟩,.inl ⟨O,O⟩,.inl ⟨O,O⟩,.inl ⟨O,O⟩,.inl ⟨O,O⟩,.inl ⟨O,O⟩,.inr ⟨O,O⟩,.inl ⟨O,O⟩,.inl ⟨O,O⟩,.inl ⟨O,O⟩,Zo⟩ O fun b=>?_))));refine OK.bU (J':=JX b (ax.init n (bP n.aS).1) (2 * ((0:Nat):Int))) O (JX.az _ _ _) (fun h Y w r=>⟨HA.init b n (bP n.aS).1,⟨O,O,HA.Et _ _ _⟩,by rw[←HA.B8];exact r⟩) ?_;refine OK.bN (jm O (kc (zk YI O) (rr 4 O ?_)));refine OK.mP [] (fun(i:Nat)(H:ax)=>[(10,.raw (pV b)),(33,.sl (l.map Entry.cs)),(34,bv (R l)),(35,bv i),(3000,.res (JX b H (2 * (i:Int))))]) (fun i H=>i<=R l/\bl n l=runT H i (l.drop i)/\bA H.aS=0/\yP H.jq) (fun i H=>R l - i) (0) ((ax.init n (bP n.aS).1)) ⟨Zr _,T,vP L,F5 u⟩ ⟨O,O,O,O,O,Zo⟩ (fun _ _=>O) ?_;rintro i H ⟨hi,E,o,s⟩;refine ro 6 O (kB O (fun M=>?_) (fun M=>?_))
 ·have e:i<R l:=by omega
  obtain⟨z,y⟩:=U _ (Zt e);refine ro 7 O (kc (zI YI O I O) ?_);refine rr 7 O (OK.Bv O fun A P B C=>?_);subst P;subst B;refine ro 3 O ?_;refine RK.c (S.ik (((Al C I o s z y).jR a (aa.az _))) (JX.az _ _ _) call78 .none O (zc O (zc O .nil)) O O) ?_;refine rr 9 O (kB O (fun d=>?_) (fun d=>?_))
  ·have a:=E.trans (Ca e d);refine ro 4 O (kc (S.assign .none O .lq) (rr 4 O ?_));refine OK.bU (J':=pP (bl n l).2.2 (bl n l).1 (HA.init 0 n (bP n.aS).1)) O (pP.az _ _ _) (fun h Y w r x=>absurd x (by rw[a];exact d)) ?_;refine OK.ret ⟨(HA.init 0 n (bP n.aS).1),aA.r3 (zo O O) (zo O O) (zo O O) ?_,O⟩;rw[a];dsimp only;rw[B9 d]
   try rfl
  have F:=Zu.1 d;refine Ro 7 O I ?_;refine Ab.D.lp ⟨i+1,(bX A.plain l[i]).1,⟨by omega,by rw[E,Eu e F],by rw[(oK _ _).1];exact o,by rw[(oK _ _).2];exact s⟩,I,O,O,O,O,(lZ (by rw[show 2 * ((i+1:Nat):Int)=2 * (i:Int)+2 by omega])),Zo⟩
 have a:bl n l=(H,0,0):=by rw[E,show i=R l by omega,no];rfl
 refine ro 10 O (OK.Bv O fun N G m q=>?_);subst G;refine OK.bU (J':=pP (bl n l).2.2 (bl n l).1 N) O (pP.az _ _ _) (fun h Y w r x=>⟨⟨q.more I I,by rw[a];exact m⟩,r⟩) ?_;refine OK.ret ⟨N,aA.r3 (zo O O) (zo O O) (zo O O) ?_,O⟩;rw[a];dsimp only;rw[uc rfl]
 try rfl
def Am{n:Net}{l:List Entry}{num:Int}(g:R n.aS<=1000)(r:sS l):vS prog 62 [.agg n.cs,.sl (l.map Entry.cs),bv num] (fun A:HA=>.cf [.raw (qy n l num A),bv (fV n l num)]) (fun A:HA=>pP (bl n l).2.2 (bl n l).1 A):=by
 refine vS.intro (rs:=[.tmp 6,.tmp 7]) func62 rfl ntmps62 results62 rfl rfl rfl fun w h o=>?_
 refine ro 3 O (kc (S.assign .none O .lq) (rr 7 O ?_));refine RK.qz (((lY g r).at o)) (fun _=>pP.az _ _ _) (fun _=>pP.mono) call64 O (zc O (zc O .nil)) O fun A=>?_
 refine rr 16 O (kB O (fun b=>?_) (fun b=>?_))
 ·refine ro 3 O (kc (S.assign .none O .lq) (rr 3 O (OK.ret ⟨A,aA.r2 (zo O O) (zo O O) ?_,O⟩)));unfold qy fV;dsimp only;rw[Zm b,Zn b]
  try rfl
 have a:(bl n l).2.2=0:=Zu.1 b;refine ro 3 O (OK.ud a O fun d c=>?_);rw[uc a];have e:A.plain.vr num=ix (fun v=>decide (v.p.num=num)) A.parts:=HA.gG A num;refine ro 3 O (kc (S.fI ((fun J f q=>(vT d f q).jR f)) call100 .none O (zc O (zc O .nil)) O O) ?_);refine rr 6 O ?_;refine OK.bU (J':=pP (bl n l).2.2 (bl n l).1 A) O (pP.az _ _ _) (fun h Y w m s=>⟨⟨d,c⟩,m⟩) ?_;refine OK.ret ⟨A,aA.r2 (zo O O) (zo O O) ?_,O⟩;unfold qy fV;dsimp only;rw[Zn a,Zm (by rw[a];decide),←c,e]
 try rfl
end Go.Proofs.Z9
namespace Go.Proofs.Z9
open Go.Ab Tryz
def Xc:∀(n:Nat)(l:bc),l.Nodup->(∀x∈l,x<n)->R l<=n
 |0,l,_,h=>by
  cases l with
  |nil=>simp
  |cons x l=>exact absurd (h x rv) (bπ _)
 |n+1,l,hn,h=>by
  have b:=Xc n (l.erase n) (hn.erase n) fun x a=>by
   grind
  grind
def Tq{pl:bC}{l:List Frame}(m:bA pl=0)(h:Iu pl l):R l<=12:=by
 have g:=jc m;have q:=Xc 12 (l.map fun f=>f.tick.toNat) (by
  rw[List.nodup_iff_pairwise_ne,List.pairwise_map,aπ];intro i j hi c o e;have a:=(D9 (h.1 _ (Zt hi))).1;have b:=(D9 (h.1 _ (Zt c))).1;exact absurd (h.2 i j _ _ (Zv hi) (Zv c) I) I) fun x d=>by
  obtain⟨f,p,rfl⟩:=rx.1 d;have a:=(D9 (h.1 f p)).1;omega
 simp_all
def MP{t n:Int}(h:0<=t)(a:2 * t<n):eL t n=0:=Zn ⟨h,by
 grind⟩
def Pp{r:aX}(h:r.rows.all (fun x=>x.known)=true):R (wB r)=0:=by
 have key:∀(l:List Row)(k:Nat),(l.all fun x=>x.known)=true->gX k l=[]:=by
  intro l
  induction l with
  |nil=>intro k _;rfl
  |cons x l a=>
   simp_all[gX]
 simp_all[wB]
def W4{e:Int}{l:bd}(h:e≠0):aF (e::l)=e:=by rw[aF,Zn h]
theorem W0(l:bd):aF (0::l)=aF l:=by rfl
def Zg(e:Int)(l:bd):aF (ae true e::l)=aF l:=W0 l
theorem Yz{e:Int}(h:e≠0)(l:bd):aF (ae false e::l)=e:=W4 h
def Pv(H:ax)(i j:Nat):((H.Ff i).p j).num=(H.p j).num:=by
 grind [ax.p,ax.Ff]
def Rk(H:ax)(i:Nat):(H.Ff i).st=H.st.Ff i:=by
 show State.mk _ _ _ _ _=State.mk _ _ _ _ _;congr 1
 ·show(H.parts.map _).map _=(H.parts.map _).map _;rw[x3,x3];refine aβ fun q _=>?_
  simp only[Function.comp,Zb];grind
 exact aβ fun j _=>Pv H i j
structure HS(H:ax):Prop where
 inv:MS H
 nd:H.aI.Nodup
 R7:MT H
 pl:bA H.aS=0
 fr:∀q∈H.parts,Iu H.aS q.1.frames
 ju:∀q∈H.parts,q.1.place=0->q.1.lP=false
 wh:∀i∈H.aI,(H.p i).place≠0/\mw H.aS (H.p i)=true
 Js:H.bz=decide (0<H.env.rows.length)
 env:0<H.env.rows.length->(ki H.aS H.env).2=0
 rc:∀q∈H.aU,O2 6 q.1.phases
 lf:∀q∈H.aC,q.1.nM<=1000
section
variable{H:ax}{i:Nat}
theorem Wf{q:Part×bd}(h:H.parts[i]?=some q):H.p i=q.1:=by simp_all[ax.p]
theorem HS.good(h:HS H):H.st.Good H.aS:=by
 have m:=h.inv.lc;have l:=h.inv.lp;have g:=h.inv.lv;refine⟨⟨?_,?_,?_,?_,?_,fun i hi=>?_,fun p b=>?_,fun r d=>?_,fun c s=>?_⟩,fun p b=>?_,fun p b h0=>?_,h.env,h.pl⟩
 ·show(R (H.aU.map _))<=_;grind
 ·show(R (H.aC.map _))<=_;simp_all
 ·show(R (H.parts.map _))<=_;grind
 ·show(R (H.aI.map _))<=_;rw[Zx];have:=Xc _ _ h.nd h.inv.aI;omega
 ·show R H.env.rows<=_;by_cases e:0<R H.env.rows
  ·have:=(Ck (h.env e)).2.2.1;have:=jc h.pl;omega
  omega
 ·have hi:i<R H.env.rows:=hi;have:=((Ck (h.env I)).2.2.2 i hi).1;have:=jc h.pl;show R H.env.rows[i]<=_;omega
 ·obtain⟨q,a,rfl⟩:=rx.1 b;refine⟨by have:=Tq h.pl (h.fr q a);omega,fun f o=>?_⟩;have:=(D9 ((h.fr q a).1 f o)).2;have:=jc h.pl;omega
 ·obtain⟨q,a,rfl⟩:=rx.1 d;exact h.rc q a
 ·obtain⟨q,a,rfl⟩:=rx.1 s;have:=h.inv.shots q a;have:=h.lf q a;omega
 ·obtain⟨q,a,rfl⟩:=rx.1 b;exact⟨h.fr q a,by have:=Tq h.pl (h.fr q a);omega⟩
 obtain⟨q,a,rfl⟩:=rx.1 b;exact h.ju q a h0
theorem HS.vr(h:HS H)(hi:i<R H.parts):H.st.vr (H.p i).num=some i:=by
 rw[RG];cases e:H.vr (H.p i).num with
 |none=>
  have:=(YO _ _ 0).1 e _ (Zt hi);rw[Wf (Zv hi)]at this;simp_all
 |some j=>
  obtain⟨a,c⟩:=eE e;have b:(H.p j).num=(H.p i).num:=by rw[Wf (Zv a)];simp_all
  rw[h.R7 j i a hi b]
def HS.mods(h:HS H):H.st.Lw H.aS:=fun m a=>by
 obtain⟨i,hi,rfl⟩:=rx.1 a;exact⟨i,h.vr (h.inv.aI i hi),by rw[Zb];exact(h.wh i hi).2⟩
theorem PB(hi:MS H)(name rest:ba):((eG H name rest).1.st,(eG H name rest).2)=TF H.st name rest:=by
 unfold eG TF;dsimp only;have e:R H.st.yB=R H.aU:=Zx ..;rw[e,←OO hi.iN];cases f:bS name
 ·simp
 simp only[Bool.true_eq_false,if_false];have a:=hi.lv;by_cases d:(iM rest).2=0
 ·rw[d,W0,Zm (c:=(0:Int)≠0) (fun h=>h rfl)];by_cases b:R H.aU=6
  ·simp_all[Yz]
  rw[Zz I,Zg,Zm (c:=aF []≠0) (fun h=>h rfl),Zm b];refine rn (fun q=>(q,(0:Int))) ?_;show State.mk ((H.aU++[_]).map _) _ _ _ _=State.mk _ _ _ _ _;rw[ne];congr 1;congr 1;grind
 simp_all[W4]
def HS.nB(h:HS H):H.st.nB H.aS=H.nB:=by
 show(H.aI.map fun i=>(H.p i).num).map _=H.aI.map _;rw[x3];refine aβ fun i hi=>?_
 have h0:=h.inv.aI i hi;show ZO H.aS (H.st.oc (H.p i).num).frames=fM H.aS (H.p i).frames;unfold State.oc;rw[h.vr h0,Option.getD_some,Zb];have b:=Wf (Zv h0);have a:=h.fr _ (Zt h0);rw[b];exact(Xe (Iu.rec h.pl a (by have:=Tq h.pl a;omega))).symm
def HS.Om(h:HS H)(h0:R H.nB≠0):kU H.aS H.nB=0:=by
 have g:R H.nB=R H.aI:=Zx ..;have f:=Xc _ _ h.nd h.inv.aI;have d:=h.inv.lp;unfold kU;rw[Zm h0,Zm I];refine Wt _ _ 0 fun k l=>?_
 have a:k<R H.aI:=I
 have e:H.nB[k]=fM H.aS (H.p H.aI[k]).frames:=bκ ..;have hi:=h.inv.aI _ (Zt a);have c:=Wf (Zv hi);have b:=h.fr _ (Zt hi);have hw:=(h.wh _ (Zt a)).2;rw[e];unfold mw at hw;rw[c]at hw⊢;rw[Xe (Iu.rec h.pl b (by have:=Tq h.pl b;omega))]at hw⊢;unfold jg;rw[Zm (by rw[(Xf h.pl b.1).1];decide),Zn (Pp hw)]
theorem NJ(h:HS H){n:Int}(f:0<=n):((gS H n).1.st,(gS H n).2)=Rh H.aS H.st n:=by
 unfold gS Rh;rw[h.nB];have o:fg H.aS H.nB n=if kU H.aS H.nB≠0 then kU H.aS H.nB else eL n (R H.nB):=by
  unfold fg gv;rw[Zm (c:=bA H.aS≠0) (fun e=>e h.pl)]
 by_cases h0:R H.nB=0
 ·simp_all[kU]
 rw[Zm h0];have m:=h.Om h0;have b:fg H.aS H.nB n=eL n (R H.nB):=I
 by_cases a:eL n (R H.nB)=0
 ·have l:=tg I a;rw[b,a,Zn rfl,Zm I];refine rn (fun q=>(q,(0:Int))) ?_;show State.mk _ _ _ _ _=State.mk _ _ _ _ _;congr 1;exact Zn (b.trans a)
 have d:=PS a;rw[b,d,Zm C];by_cases g:2 * n>=R H.nB
 all_goals simp_all[MP]
theorem MF(H:ax){n:Net}(e:H.jq=n)(rest:ba)(i:Nat):((yQ rest H i).1.st,(yQ rest H i).2)=Yb n rest H.st i:=by
 subst e;unfold yQ Yb;rw[Zb];by_cases c:(H.p i).place≠1
 ·simp_all
 rw[Zm c,Zm c];by_cases b:(DH rest).2≠0
 ·simp_all
 rw[Zm b,Zm b];dsimp only;by_cases a:(It (DH rest).1 H.jq.limit).2≠0
 ·simp_all
 rw[Zm a,Zm a];refine rn (fun q=>(q,(0:Int))) ?_;have d:H.outside (It (DH rest).1 H.jq.limit).1=Va H.jq (It (DH rest).1 H.jq.limit).1:=by
  simp[ax.outside,Va]
 rw[d];split
 ·rw[Rk];exact rn (fun s:State=>s.Ff i) (Ym H i fun _=>rfl)
 exact Ym H i fun _=>rfl
end
end Go.Proofs.Z9
namespace Go.Proofs.Z9
open Go.Ab Tryz
def MU(pl:bC)(p a:Part):Prop:=a.num=p.num/\Iu pl a.frames/\(a.place=0->a.lP=false)/\(p.place≠0->a.place≠0/\a.frames=p.frames)
section
variable{H H':ax}{i j:Nat}
def HS.keep(h:HS H)(a:j<R H.parts):MU H.aS (H.p j) (H.p j):=by
 have b:=Wf (Zv a);rw[b];exact⟨rfl,h.fr _ (Zt a),h.ju _ (Zt a),fun e=>⟨e,rfl⟩⟩
theorem HS.re(h:HS H)(u:H'.aU=H.aU)(t:H'.aC=H.aC)(s:H'.aI=H.aI)(v:H'.env=H.env)(x:H'.bz=H.bz)(r:H'.aS=H.aS)(w:0<=H'.entries)(o:R H'.parts=R H.parts)(d:∀j,j<R H.parts->MU H.aS (H.p j) (H'.p j)):HS H':=by
 have f:∀q∈H'.parts,∃j,j<R H.parts/\H'.p j=q.1:=fun q f=>by
  obtain⟨j,g,rfl⟩:=i6 f;grind [Wf]
 refine⟨⟨?_,?_,?_,?_,?_,w,?_⟩,?_,fun a b c m e=>?_,?_,fun q l=>?_,fun q l=>?_,fun a c=>?_,?_,?_,?_,?_⟩
 ·rw[u];exact h.inv.iN
 ·rw[t];exact h.inv.shots
 ·rw[o];exact h.inv.lp
 ·rw[t];exact h.inv.lc
 ·rw[u];exact h.inv.lv
 ·rw[s,o];exact h.inv.aI
 ·rw[s];exact h.nd
 ·rw[o]at c m;exact h.R7 a b c m (by rw[←(d a c).1,←(d b m).1,e])
 ·rw[r];exact h.pl
 ·obtain⟨j,g,e⟩:=f q l;rw[r,←e];exact(d j g).2.1
 ·obtain⟨j,g,e⟩:=f q l;rw[←e];exact(d j g).2.2.1
 ·rw[s]at c;obtain⟨y,B⟩:=h.wh a c;obtain⟨A,z⟩:=(d a (h.inv.aI a c)).2.2.2 y;simp_all[mw]
 ·rw[v,x];exact h.Js
 ·rw[v,r];exact h.env
 ·rw[u];exact h.rc
 rw[t];exact h.lf
theorem D_(H:ax)(i:Nat)(f:Part->Part)(a:j<R H.parts):(H.eC i f).p j=if i=j then f (H.p j)else H.p j:=by
 grind [ax.p,ax.eC]
theorem HS.eC(h:HS H){f:Part->Part}(b:i<R H.parts->MU H.aS (H.p i) (f (H.p i))):HS (H.eC i f):=by
 refine h.re rfl rfl rfl rfl rfl rfl h.inv.LL (aμ ..) fun j a=>?_
 rw[D_ H i f a];split
 ·simp_all
 exact h.keep a
def HS.jO(h:HS H):HS (H.jO i):=by
 refine h.re rfl rfl rfl rfl rfl rfl h.inv.LL (aμ ..) fun j a=>?_
 rw[N_];exact h.keep a
theorem HS.Ff(h:HS H):HS (H.Ff i):=by
 refine h.re rfl rfl rfl rfl rfl rfl h.inv.LL (Zx ..) fun j a=>?_
 have k:=h.keep a;have e:(H.Ff i).p j=H.p j\/(H.Ff i).p j={H.p j with marked:=true}:=by
  unfold ax.p ax.Ff;grind
 rcases e with e|e
 ·grind
 rw[e];exact⟨k.1,k.2.1,k.2.2.1,k.2.2.2⟩
def HS.tick(h:HS H)(t:Int):HS {H with time:=t,entries:=H.entries+1}:=
 h.re rfl rfl rfl rfl rfl rfl (by have:=h.inv.LL;show 0<=H.entries+1;omega) rfl fun j a=>h.keep a
def HS.about(h:HS H){n:Int}{f:ax->Nat->HE}(a:∀i,i<R H.parts->HS (f H i).1):HS (cK H n f).1:=by
 unfold cK;cases e:H.vr n with
 |none=>exact h
 |some i=>
  have k:=a i (eE e).1;dsimp only;split
  ·exact k.jO
  exact k
def HS.good_(h:HS H)(hi:i<R H.parts):HS (gj H i).1:=by
 unfold gj;split
 ·exact h.eC (f:=fun p=>{p with place:=2}) fun hi=>by have k:=h.keep hi;exact⟨rfl,k.2.1,Z,fun e=>⟨Z,rfl⟩⟩
 exact h
def HS.bad_(h:HS H)(hi:i<R H.parts):HS (Ei H i).1:=by
 unfold Ei;split
 ·exact h.eC (f:=fun p=>{p with place:=3}) fun hi=>by have k:=h.keep hi;exact⟨rfl,k.2.1,Z,fun e=>⟨Z,rfl⟩⟩
 exact h
def HS.mark_(h:HS H)(hi:i<R H.parts):HS (yE H i).1:=by
 unfold yE;split
 ·exact h.eC (f:=fun p=>{p with marked:=true}) fun hi=>by have k:=h.keep hi;exact⟨rfl,k.2.1,k.2.2.1,k.2.2.2⟩
 exact h
def HS.sect_(h:HS H)(rest:ba)(hi:i<R H.parts):HS (yQ rest H i).1:=by
 unfold yQ;dsimp only;split
 ·exact h
 split
 ·exact h
 split
 ·exact h
 have k:HS (H.eC i fun p=>{p with place:=4,depth:=(It (DH rest).1 H.jq.limit).1}):=h.eC fun hi=>by have k:=h.keep hi;exact⟨rfl,k.2.1,Z,fun e=>⟨Z,rfl⟩⟩
 dsimp only;split
 ·exact k.Ff
 exact k
def HS.end_(h:HS H):HS (n8 H).1:=by
 unfold n8;cases e:H.xE with
 |none=>exact h
 |some i=>exact(h.eC fun hi=>by have k:=h.keep hi;exact⟨rfl,k.2.1,Z,fun e=>⟨Z,rfl⟩⟩).jO
theorem HS.J7(h:HS H)(f:Frame)(r:Int):HS (frameT H f r).1:=by
 unfold frameT;cases e:H.xE with
 |none=>exact h
 |some i=>
  dsimp only;split
  ·exact h
  split
  ·exact h
  rename_i u;obtain⟨hi,c⟩:=eE e;have h0:(H.p i).place=0:=by rw[Wf (Zv hi)];simp_all
  cases t:(H.p i).frames.find? (fun g=>decide (g.tick=f.tick))with
  |none=>
   refine(h.eC fun hi=>?_).jO;have k:=h.keep hi;refine⟨rfl,⟨fun g c=>?_,fun a b x y l q e=>?_⟩,k.2.2.1,fun e=>absurd h0 e⟩
   ·rcases List.mem_append.1 c with c|c
    ·exact k.2.1.1 g c
    simp_all
   have s:∀g∈(H.p i).frames,g.tick≠f.tick:=fun g c=>by
    simp_all
   have d:∀{a:Nat}{x:Frame},((H.p i).frames++[f])[a]?=some x->(H.p i).frames[a]?=some x\/a=R (H.p i).frames/\x=f:=fun{a x} l=>by
    grind
   rcases d l with o|⟨o,w⟩<;>rcases d q with m|⟨m,v⟩
   ·exact k.2.1.2 a b x y o m e
   all_goals grind
  |some g=>
   dsimp only;split
   ·exact h.jO
   exact h
theorem HS.Kl(h:HS H)(hi:i<R H.parts):HS (fe H i).1:=by
 unfold fe;dsimp only;split
 case isFalse=>exact h
 case isTrue h0=>
  have a:(H.p i).place≠0/\mw H.aS (H.p i)=true/\H.aI.contains i=false:=by
   grind [aF,ae]
  refine⟨⟨h.inv.iN,h.inv.shots,h.inv.lp,h.inv.lc,h.inv.lv,h.inv.LL,fun m b=>?_⟩,?_,h.R7,h.pl,h.fr,h.ju,fun m b=>?_,h.Js,h.env,h.rc,h.lf⟩
  ·rcases List.mem_append.1 b with b|b
   ·exact h.inv.aI m b
   simp_all
  ·refine List.nodup_append.2 ⟨h.nd,F,fun x d y c e=>?_⟩;simp_all
  rcases List.mem_append.1 b with b|b
  ·exact h.wh m b
  rw[pi.1 b];exact⟨a.1,a.2.1⟩
def HS.QX(h:HS H){l:List (o6×Int)}(c:R l<=4)(b:∀q∈l,0<=q.1.shots/\q.1.shots<=q.1.nM/\q.1.nM<=1000):HS {H with aC:=l}:=
 ⟨⟨h.inv.iN,fun q a=>⟨(b q a).1,(b q a).2.1⟩,h.inv.lp,c,h.inv.lv,h.inv.LL,h.inv.aI⟩,h.nd,h.R7,h.pl,h.fr,h.ju,h.wh,h.Js,h.env,h.rc,fun q a=>(b q a).2.2⟩
def HS.cl(h:HS H):∀q∈H.aC,0<=q.1.shots/\q.1.shots<=q.1.nM/\q.1.nM<=1000:=fun q a=>⟨(h.inv.shots q a).1,(h.inv.shots q a).2,h.lf q a⟩
def UM{α:Type}{P:α->Prop}{l:List α}{f:α->α}{j:Nat}(h:∀x∈l,P x)(c:∀d:j<R l,P (f l[j])):∀x∈l.modify j f,P x:=fun x b=>by
 obtain⟨k,a,rfl⟩:=i6 b;rw[List.getElem_modify];rw[aμ]at a;split
 ·rename_i e;subst e;exact c a
 exact h _ (Zt a)
theorem HS.coil_(h:HS H)(name:ba)(nM:Int):HS (qj H name nM).1:=by
 unfold qj;dsimp only;split
 case isFalse=>exact h
 case isTrue h0=>
  have a:(1<=nM/\nM<=1000)/\(R H.aC:Int)<4:=by
   refine⟨Bl h0 rfl,?_⟩;grind [aF,ae]
  refine h.QX (by grind) fun q b=>?_
  rcases List.mem_append.1 b with b|b
  ·exact h.cl q b
  grind
theorem HS.My(h:HS H)(name:ba):HS (tS H name).1:=by
 unfold tS;split
 ·exact h
 split
 ·exact h
 refine h.QX (by rw[aμ];exact h.inv.lc) (UM h.cl fun a=>?_);have:=h.cl _ (Zt a);grind
theorem HS.KX(h:HS H)(n:Int)(r c:ba):HS (fT H n r c).1:=by
 by_cases y:aF [ae (decide (n<=1000000)) 2,ae (H.vr n).isNone 5,ae ((H.Ec r).isSome&&(H.Bs c).isSome) 6,ae H.xE.isNone 17]=0
 case neg=>rw[xg rfl y];exact h
 obtain⟨_,B,A,_⟩:=Dz y;rw[Zw]at A;obtain⟨k,C⟩:=sk.1 A.1;obtain⟨j,t⟩:=sk.1 A.2;have w:=(j5 C).1;have x:=(eE t).1;rw[DA y C (Zv w) t (Zv x)];split
 ·exact h
 rename_i J;obtain⟨E,D⟩:=GU (Zu.1 J);have E:=pf E;have D:=pf D;have z:HS {H with aC:=H.aC.modify j fun q=>({q.1 with shots:=q.1.shots+1},q.2)}:=by
  refine h.QX (by rw[aμ];exact h.inv.lc) (UM h.cl fun t=>?_);have:=h.cl _ (Zt t);grind
 have F:=Option.isNone_iff_eq_none.1 B;have d:∀a,a<R H.parts->∀q:Part×bd,(ax.p {H with parts:=H.parts++[q]} a)=H.p a:=fun a u q=>by
  simp_all[ax.p,m6]
 have hnew:∀q:Part×bd,ax.p {H with parts:=H.parts++[q]} (R H.parts)=q.1:=fun q=>by
  simp[ax.p]
 have o:∀a,a<R H.parts->(H.p a).num≠n:=fun a u e=>by
  have:=(YO _ _ 0).1 F _ (Zt u);grind [Wf]
 refine⟨⟨h.inv.iN,z.inv.shots,?_,z.inv.lc,h.inv.lv,h.inv.LL,fun m s=>?_⟩,h.nd,fun a b u G e=>?_,h.pl,fun q f=>?_,fun q f=>?_,fun m s=>?_,h.Js,h.env,h.rc,z.lf⟩
 ·grind
 ·have:=h.inv.aI m s;grind
 ·rw[Zs,R0]at u G;rcases w7 a (R H.parts) with l|l<;>rcases w7 b (R H.parts) with g|g
  ·exact h.R7 a b l g ((rn Part.num (d a l _)).symm.trans (e.trans (rn Part.num (d b g _))))
  ·have K:b=R H.parts:=I
   subst K;exact absurd ((rn Part.num (d a l _)).symm.trans (e.trans (rn Part.num (hnew _)))) (o a l)
  ·have L:a=R H.parts:=I
   subst L;exact absurd ((rn Part.num (d b g _)).symm.trans (e.symm.trans (rn Part.num (hnew _)))) (o b g)
  omega
 ·rcases List.mem_append.1 f with f|f
  ·exact h.fr q f
  rw[pi.1 f];exact⟨(fun _ v=>by cases v),fun _ _ _ _ v=>by cases v⟩
 ·rcases List.mem_append.1 f with f|f
  ·exact h.ju q f
  simp_all
 have k:=h.wh m s;have e:=d m (h.inv.aI m s);exact⟨fun B=>k.1 ((rn Part.place (e _)).symm.trans B),(rn (mw H.aS) (e _)).trans k.2⟩
end
end Go.Proofs.Z9
namespace Go.Proofs.Z9
open Go.Ab Tryz
theorem O2.up:∀(d:Nat){l:List Ph},O2 d l->O2 (d+1) l
 |0,l,h=>by
  have h:l=[]:=h;subst h;exact⟨Zr _,fun p a=>by cases a⟩
 |d+1,_,h=>⟨h.1,fun p a=>O2.up d (h.2 p a)⟩
theorem Qz:∀d,O2 d []
 |0=>rfl
 |_+1=>⟨Zr _,fun p a=>by cases a⟩
theorem KE:∀(m:Nat){l:List Ph},(cQ (bu m) l).2=0->O2 (m+2) l:=by
 have key:∀(m:Nat){l:List Ph},(cQ (bu m) l).2=0->R l<=1000:=fun m l h=>by
  grind [NK]
 have body:∀{m:Nat}{p:Ph},bu m p=0->p.kind≠5->p.body=[]:=fun{m p} h a=>by
  by_cases o:0<=p.kind/\p.kind<=5
  ·have c:n6 p=0:=by
    grind [vK]
   have d:lW p=true:=by
    unfold n6 at c;cases d:lW p
    ·rw[d]at c;cases c
    rfl
   simp_all[j9]
  simp_all[Ak]
 intro m
 induction m with
 |zero=>
  intro l h;refine⟨key 0 h,fun p b=>?_⟩;by_cases a:p.kind=5
  ·obtain⟨_,f,e,_⟩:=nu ((nr h).2 p b) a;omega
  grind [nr,Qz]
 |succ m g=>
  intro l h;refine⟨key _ h,fun p b=>?_⟩;by_cases a:p.kind=5
  ·obtain⟨_,f,e,q⟩:=nu ((nr h).2 p b) a;simp_all
  grind [nr,Qz]
def Mt{s:ba}(h:(iM s).2=0):O2 6 (iM s).1:=by
 unfold iM at h⊢;by_cases c:2000<R s
 ·simp_all
 rw[Zm c]at h⊢;dsimp only at h⊢;split at h
 ·cases h
 rename_i b;rw[Zm b];split at h
 ·omega
 rename_i a;rw[Zm a];grind [O2.up,KE,GK]
section
variable{H:ax}{i j k:Nat}{n:Net}
theorem HS.Mv(h:HS H)(name rest:ba):HS (eG H name rest).1:=by
 unfold eG;dsimp only;split
 ·exact h
 by_cases d:(iM rest).2=0
 ·rw[d,W0];by_cases b:(R H.aU:Int)<6
  ·rw[Zz b,Zg,Zm (c:=aF []≠0) (fun h=>h rfl)];refine⟨⟨h.inv.iN.snoc ?_,h.inv.shots,h.inv.lp,h.inv.lc,by grind,h.inv.LL,h.inv.aI⟩,h.nd,h.R7,h.pl,h.fr,h.ju,h.wh,h.Js,h.env,fun q a=>?_,h.lf⟩
   ·dsimp only;cases e:H.Ec name with
    |none=>rw[filter_none (Wb e)];rfl
    |some j=>
     obtain⟨q,g,_,f⟩:=VE h.inv.iN e;simp_all
   rcases List.mem_append.1 a with a|a
   ·exact h.rc q a
   simp_all[Mt]
  simp_all[Zy,Yz]
 simp_all[W4]
theorem HS.Kh(h:HS H)(t:Int):HS (gS H t).1:=by
 unfold gS;split
 ·rename_i b;have e:lK H.aS H.nB t=G6 H.aS H.nB t:=Zn b;have a:kU H.aS H.nB=0/\eL t (R H.nB)=0:=by
   unfold fg gv at b;omega
  have c:=R1 (NI h.pl a.1) a.2;have d:=jc h.pl;refine⟨⟨h.inv.iN,h.inv.shots,h.inv.lp,h.inv.lc,h.inv.lv,h.inv.LL,h.inv.aI⟩,h.nd,h.R7,h.pl,h.fr,h.ju,h.wh,?_,fun _=>?_,h.rc,h.lf⟩
  all_goals grind [S9]
 exact h
def HS.IZ(h:HS H)(k:Nat)(L:vN):HS (mO k H L).1:=by
 unfold mO;split
 ·exact h
 ·exact h.KX ..
 ·exact h.J7 ..
 ·exact h.end_
 ·exact h.about fun _ hi=>h.good_ hi
 ·exact h.about fun _ hi=>h.bad_ hi
 ·exact h.coil_ ..
 ·exact h.My ..
 ·exact h.about fun _ hi=>h.mark_ hi
 ·exact h.about fun _ hi=>h.sect_ _ hi
 ·exact h.Mv ..
 ·exact h.about fun _ hi=>h.Kl hi
 exact h.Kh _
def HS.enter(h:HS H)(x:Entry):HS (bX H x).1:=by
 unfold bX;split
 ·exact h
 split
 ·split
  ·exact h
  dsimp only;split
  ·exact h.IZ ..
  exact(h.IZ ..).tick _
 exact h
def Kz{m:Int}(h:H.vr m=some i):i<R H.parts:=(eE h).1
theorem Po(t:ba):(fH t).1.verb=(aL 32 t).1:=by
 grind [fH]
def JO(h:HS H)(b:H.jq=n)(a:H.aS=(bP n.aS).1)(d:k<13){L:vN}(e:L.verb=gR.getD k [])(h0:0<=L.num):((mO k H L).1.st,(mO k H L).2)=ZT n H.st L:=by
 unfold ZT;rw[e,←a]
 match k,d with
 |0,_=>rfl
 |1,_=>rw[Zm (c:=gR.getD 1 []=gR[0]) C,Zn (c:=gR.getD 1 []=gR[1]) rfl];exact OS h.inv ..
 |2,_=>rw[Zm (c:=gR.getD 2 []=gR[0]) C,Zm (c:=gR.getD 2 []=gR[1]) C,Zn (c:=gR.getD 2 []=gR[2]) rfl];exact Nw ..
 |3,_=>rw[Zm (c:=gR.getD 3 []=gR[0]) C,Zm (c:=gR.getD 3 []=gR[1]) C,Zm (c:=gR.getD 3 []=gR[2]) C,Zn (c:=gR.getD 3 []=gR[3]) rfl];exact(JQ H).trans (by rw[h.Js];rfl)
 |4,_=>rw[Zm (c:=gR.getD 4 []=gR[0]) C,Zm (c:=gR.getD 4 []=gR[1]) C,Zm (c:=gR.getD 4 []=gR[2]) C,Zm (c:=gR.getD 4 []=gR[3]) C,Zn (c:=gR.getD 4 []=gR[4]) rfl];exact XZ fun i _=>Mb H i
 |5,_=>rw[Zm (c:=gR.getD 5 []=gR[0]) C,Zm (c:=gR.getD 5 []=gR[1]) C,Zm (c:=gR.getD 5 []=gR[2]) C,Zm (c:=gR.getD 5 []=gR[3]) C,Zm (c:=gR.getD 5 []=gR[4]) C,Zn (c:=gR.getD 5 []=gR[5]) rfl];exact XZ fun i _=>JA H i
 |6,_=>rw[Zm (c:=gR.getD 6 []=gR[0]) C,Zm (c:=gR.getD 6 []=gR[1]) C,Zm (c:=gR.getD 6 []=gR[2]) C,Zm (c:=gR.getD 6 []=gR[3]) C,Zm (c:=gR.getD 6 []=gR[4]) C,Zm (c:=gR.getD 6 []=gR[5]) C,Zn (c:=gR.getD 6 []=gR[6]) rfl];exact LG ..
 |7,_=>rw[Zm (c:=gR.getD 7 []=gR[0]) C,Zm (c:=gR.getD 7 []=gR[1]) C,Zm (c:=gR.getD 7 []=gR[2]) C,Zm (c:=gR.getD 7 []=gR[3]) C,Zm (c:=gR.getD 7 []=gR[4]) C,Zm (c:=gR.getD 7 []=gR[5]) C,Zm (c:=gR.getD 7 []=gR[6]) C,Zn (c:=gR.getD 7 []=gR[7]) rfl];exact PJ ..
 |8,_=>rw[Zm (c:=gR.getD 8 []=gR[0]) C,Zm (c:=gR.getD 8 []=gR[1]) C,Zm (c:=gR.getD 8 []=gR[2]) C,Zm (c:=gR.getD 8 []=gR[3]) C,Zm (c:=gR.getD 8 []=gR[4]) C,Zm (c:=gR.getD 8 []=gR[5]) C,Zm (c:=gR.getD 8 []=gR[6]) C,Zm (c:=gR.getD 8 []=gR[7]) C,Zn (c:=gR.getD 8 []=gR[8]) rfl];exact XZ fun i _=>Mg H i
 |9,_=>rw[Zm (c:=gR.getD 9 []=gR[0]) C,Zm (c:=gR.getD 9 []=gR[1]) C,Zm (c:=gR.getD 9 []=gR[2]) C,Zm (c:=gR.getD 9 []=gR[3]) C,Zm (c:=gR.getD 9 []=gR[4]) C,Zm (c:=gR.getD 9 []=gR[5]) C,Zm (c:=gR.getD 9 []=gR[6]) C,Zm (c:=gR.getD 9 []=gR[7]) C,Zm (c:=gR.getD 9 []=gR[8]) C,Zn (c:=gR.getD 9 []=gR[9]) rfl];exact XZ fun i _=>MF H b L.rest i
 |10,_=>rw[Zm (c:=gR.getD 10 []=gR[0]) C,Zm (c:=gR.getD 10 []=gR[1]) C,Zm (c:=gR.getD 10 []=gR[2]) C,Zm (c:=gR.getD 10 []=gR[3]) C,Zm (c:=gR.getD 10 []=gR[4]) C,Zm (c:=gR.getD 10 []=gR[5]) C,Zm (c:=gR.getD 10 []=gR[6]) C,Zm (c:=gR.getD 10 []=gR[7]) C,Zm (c:=gR.getD 10 []=gR[8]) C,Zm (c:=gR.getD 10 []=gR[9]) C,Zn (c:=gR.getD 10 []=gR[10]) rfl];exact PB h.inv ..
 |11,_=>rw[Zm (c:=gR.getD 11 []=gR[0]) C,Zm (c:=gR.getD 11 []=gR[1]) C,Zm (c:=gR.getD 11 []=gR[2]) C,Zm (c:=gR.getD 11 []=gR[3]) C,Zm (c:=gR.getD 11 []=gR[4]) C,Zm (c:=gR.getD 11 []=gR[5]) C,Zm (c:=gR.getD 11 []=gR[6]) C,Zm (c:=gR.getD 11 []=gR[7]) C,Zm (c:=gR.getD 11 []=gR[8]) C,Zm (c:=gR.getD 11 []=gR[9]) C,Zm (c:=gR.getD 11 []=gR[10]) C,Zn (c:=gR.getD 11 []=gR[11]) rfl];exact XZ fun i hi=>NV h.inv h.R7 (Kz hi)
 |12,_=>rw[Zm (c:=gR.getD 12 []=gR[0]) C,Zm (c:=gR.getD 12 []=gR[1]) C,Zm (c:=gR.getD 12 []=gR[2]) C,Zm (c:=gR.getD 12 []=gR[3]) C,Zm (c:=gR.getD 12 []=gR[4]) C,Zm (c:=gR.getD 12 []=gR[5]) C,Zm (c:=gR.getD 12 []=gR[6]) C,Zm (c:=gR.getD 12 []=gR[7]) C,Zm (c:=gR.getD 12 []=gR[8]) C,Zm (c:=gR.getD 12 []=gR[9]) C,Zm (c:=gR.getD 12 []=gR[10]) C,Zm (c:=gR.getD 12 []=gR[11]) C];exact NJ h h0
theorem MM(h:HS H)(a:H.jq=n)(m:H.aS=(bP n.aS).1)(x:Entry)(p:H.entries<60):((bX H x).1.st,(bX H x).2)=UA n H.st x H.time:=by
 unfold UA bX ax.head;rw[Zz p,Zg,a];cases v:jl n x.vq with
 |none=>rfl
 |some i=>
  rw[Zm (c:=some i=none) Z,Option.isSome_some,Zg];by_cases g:0<=x.at_/\x.at_<=1000000000000
  case neg=>simp_all[Zy,Yz]
  rw[Zz g,Zg,Zm (c:=¬(0<=x.at_/\x.at_<=1000000000000)) (Zp g)];by_cases t:x.at_<H.time
  case pos=>simp_all[Zy,Yz]
  rw[Zz (show x.at_>=H.time by omega),Zg,Zm t];by_cases f:600<R x.text
  case pos=>rw[Zy (show¬(R x.text:Int)<=600 by omega),Yz C,Zn C,Zn f]
  rw[Zz (show(R x.text:Int)<=600 by omega),Zg,Zm f];cases u:x.text.all ZX with
  |false=>rfl
  |true=>
   rw[Zg,Zm (c:=true=false) Z];cases e:dS (aL 32 x.text).1 with
   |none=>rfl
   |some k=>
    rw[Option.isSome_some,Zg,Zm (c:=aF []≠0) (fun h=>h rfl),Zm (c:=some k=none) Z];dsimp only;unfold ax.tail;have l:Sx n x=(n.av[i]?.map bf.role).getD 0:=by simp_all[Sx]
    rw[l,a,Option.getD_some,(Es e).1];by_cases s:(n.av[i]?.map bf.role).getD 0<yM.getD k 0
    case pos=>simp_all[Zy,Yz]
    rw[Zz (show(n.av[i]?.map bf.role).getD 0>=yM.getD k 0 by omega),Zg,Zm s];cases r:(fH x.text).2 with
    |false=>rfl
    |true=>
     rw[Zg,Zm (c:=aF []≠0) (fun h=>h rfl),Zm (c:=true=false) Z];obtain⟨o,b⟩:=eE e;have b:(aL 32 x.text).1=gR.getD k []:=by simp_all
     have q:(fH x.text).1.verb=(aL 32 x.text).1:=Po x.text;rw[←JO h a m o (q.trans b) (R2 r).1];by_cases d:(mO k H (fH x.text).1).2=0
     ·rw[Zm (Zp d),d];rfl
     simp_all
end
def HS.init{n:Net}{p:bC}(h:bA p=0):HS (ax.init n p):=
 ⟨⟨(fun i q a=>by cases a),(fun q a=>by cases a),Zr _,Zr _,Zr _,Int.le_refl 0,fun i hi=>by cases hi⟩,List.nodup_nil,(fun i j hi=>by cases hi),h,(fun q a=>by cases a),(fun q a=>by cases a),(fun i hi=>by cases hi),rfl,Z,(fun q a=>by cases a),fun q a=>by cases a⟩
end Go.Proofs.Z9
namespace Go.Proofs.Z9
open Go.Ab Tryz
def mo(n:Net):Bool:=decide (R n.av<=10)&&decide (R n.aS<=80)&&n.av.all fun p=>decide (R p.name<=20)
def AW{n:Net}(h:mo n=true):R n.aS<=80:=by
 simp_all[mo]
def sizeE_0{n:Net}(h:R n.av=0):eX n=10:=by unfold eX;rw[h];rfl
def sizeE_8{n:Net}(h:8<R n.av):eX n=8:=by
 unfold eX;rw[Zz (show((R n.av:Nat):Int)>0 by omega),Zy (show¬((R n.av:Nat):Int)<=8 by omega)];rfl
def E6{n:Net}(h0:R n.av≠0)(h:¬8<R n.av):eX n=0:=by
 unfold eX;rw[Zz (show((R n.av:Nat):Int)>0 by omega),Zz (show((R n.av:Nat):Int)<=8 by omega)];rfl
def Ba{l:List bf}{i:Nat}{p:bf}(h:bS p.name=false):br l i p=4:=by unfold br;rw[h];rfl
def Bb{l:List bf}{i:Nat}{p:bf}(h:bS p.name=true)(a:p.name∈(l.take i).map bf.name):br l i p=5:=by unfold br;rw[h,Zy (Zp a)];rfl
def yf{l:List bf}{i:Nat}{p:bf}(h:bS p.name=true)(b:¬p.name∈(l.take i).map bf.name)(a:¬(0<=p.role/\p.role<=4)):br l i p=15:=by unfold br;rw[h,Zz b,Zy a];rfl
def Bc{l:List bf}{i:Nat}{p:bf}(h:bS p.name=true)(b:¬p.name∈(l.take i).map bf.name)(a:0<=p.role/\p.role<=4):br l i p=0:=by unfold br;rw[h,Zz b,Zz a];rfl
def va{n:Net}{i:Nat}(a:eX n=0)(hi:i<R n.av)(b:aK (br n.av) 0 n.av=aK (br n.av) i (n.av.drop i))(c:br n.av i n.av[i]≠0):iG n=((i:Int),br n.av i n.av[i]):=by
 simp_all[bE,tY]
def E7{l:List bf}{i j:Nat}(hi:i<=R l)(a:j<i):(l[j]' I).name∈(l.take i).map bf.name:=
 rx.2 ⟨l[j]' I,dγ.2 ⟨j,by rw[sc];omega,by rw[List.getElem_take]⟩,rfl⟩
def Dq{l:List bf}{i:Nat}{s:ba}(hi:i<=R l)(h:∀j (c:j<i),(l[j]' I).name≠s):¬s∈(l.take i).map bf.name:=by
 intro b;obtain⟨p,a,rfl⟩:=rx.1 b;obtain⟨j,c,rfl⟩:=dγ.1 a;grind
def ri{n:Net}(P:R n.aS<=1000):Ct prog 92 [.agg n.cs] (.cf [bv (iG n).1,bv (iG n).2]):=by
 refine cI func92 O (ro 12 O (kc (zk Ys O) (rr 3 O (kB O (fun N=>?_) (fun N=>?_)))))
 ·have g:iG n=(0,10):=by rw[(qw (n:=n) (by rw[sizeE_0 I];decide)).1,sizeE_0 I]
  refine ro 6 O (kS O O O O ?_);rw[g];try rfl
 refine ro 7 O (kc (zk Ys O) (rr 3 O (kB O (fun M=>?_) (fun M=>?_))))
 ·have g:iG n=(0,8):=by rw[(qw (n:=n) (by rw[sizeE_8 I];decide)).1,sizeE_8 I]
  refine ro 6 O (kS O O O O ?_);rw[g];try rfl
 have y:eX n=0:=E6 I I;refine ro 9 O ?_;refine OK.loop (G:=Nat) [1] (fun i=>[(1,.ptr 1 0),(1001,.box n.cs),(4,bv i)]) (fun i=>i<=R n.av/\aK (br n.av) 0 n.av=aK (br n.av) i (n.av.drop i)) (fun i=>R n.av - i) 0 ⟨Zr _,O⟩ ⟨O,O,O,Zo⟩ (fun _=>O) ?_;rintro i ⟨hi,x⟩;refine ro 6 O (kc (zk Ys O) (rr 3 O (kB O (fun L=>?_) (fun L=>?_))))
 ·have p:i<R n.av:=by omega
  refine ro 10 O (kc (zI Ys O I O) ?_);refine rr 2 O (kc (zK oW call125 O) (kc (S.not .none O (zt O)) (kD (OK.cond O O (fun u=>?_) (fun u=>?_)))))
  ·have h:bS n.av[i].name=false:=by simpa using u
   have d:br n.av i n.av[i]=4:=Ba h;have g:=va y p x (by rw[d];decide);rw[d]at g;refine ro 7 O (kS O O O O ?_);rw[g];try rfl
  have h:bS n.av[i].name=true:=by simpa using u
  refine ro 9 O ?_;refine OK.loop (G:=Nat) [1] (fun j=>[(1,.ptr 1 0),(1001,.box n.cs),(4,bv i),(5,bv j)]) (fun j=>j<=i/\∀k (z:k<j),k<i->(n.av[k]?.map bf.name)≠some n.av[i].name) (fun j=>i - j) 0 ⟨Zr _,fun k z=>by omega⟩ ⟨O,O,O,O,Zo⟩ (fun _=>O) ?_;rintro j ⟨Q,w⟩;refine ro 8 O (kB O (fun K=>?_) (fun K=>?_))
  ·have C:j<i:=by omega
   have B:j<R n.av:=by omega
   refine ro 5 O (kV (.c (zf Xr O) (.c (zl SN O O O O) (.c (zm O) (.c (zI Ys O I O) (.c (S.field VO .none O (zt O) O) (.c (zV Y9 O O) (.c (zf Xr O) (.c (zl SN O O O O) (.c (zm O) (.c (zI Ys O I O) (.c (S.field VO .none O (zt O) O) (.c (zV Y9 O O) (.c (S.eN .none O (zt O) (zt O)) .nil))))))))))))) (Ab.D.code (kB O (fun s=>?_) (fun s=>?_))))
   ·have d:br n.av i n.av[i]=5:=Bb h (by rw[←show n.av[j].name=n.av[i].name from s];exact E7 hi C);have g:=va y p x (by rw[d];decide);rw[d]at g;refine ro 7 O (kS O O O O ?_);rw[g];try rfl
   refine Ro 8 O I ?_;refine Ab.D.lp ⟨j+1,⟨by omega,fun k z A=>by by_cases e:k=j;subst e;rw[Zv B];exact fun e=>s (aγ e);exact w k I A⟩,I,O,O,O,O,Zo⟩
  have q:¬n.av[i].name∈(n.av.take i).map bf.name:=Dq hi fun k z e=>w k I z (by rw[Zv (show k<R n.av by omega)];exact rn some e)
  refine ro 7 O (kc (zI Ys O I O) ?_);refine rr 2 O (kc (zK gx call33 O) (kc (S.jP .none O (zt O)) (kD (kB O (fun r=>?_) (fun r=>?_)))))
  ·have d:br n.av i n.av[i]=15:=yf h q (by simpa using r);have g:=va y p x (by rw[d];decide);rw[d]at g;refine ro 7 O (kS O O O O ?_);rw[g];try rfl
  have d:br n.av i n.av[i]=0:=Bc h q (by simpa using r);refine Ro 8 O I ?_;refine Ab.D.lp ⟨i+1,⟨by omega,by rw[x,bE _ p,Zm (by rw[d];decide)]⟩,I,O,O,O,Zo⟩
 have E:(aK (br n.av) 0 n.av).2=0:=by rw[x,show i=R n.av by omega,no];rfl
 have v:=(tZ y E).1;refine ro 7 O (kc (zK (sn (l:=n.aS) I) call36 O) ?_);refine rr 14 O (kB O (fun b=>?_) (fun b=>?_))
 ·refine ro 7 O (kS O O O O ?_);rw[v];unfold lX gA
  first|(rw[Zu.1 b,Zy a,tp];rfl)|(have o:decide (0<=n.lo/\n.lo<=10000)=false:=(by simpa using f);have m:decide (0<=n.limit/\n.limit<=2000)=true:=(by simpa using a);rw[Zu.1 b,m,o,tn,tp];rfl)|simp_all[aF,ae]
 refine ro 7 O (kc (zK gx call33 O) (kc (S.jP .none O (zt O)) (jm O (RK.bh (t:=73) O (fun a=>?_) (fun a=>?_)))))
 ·refine rr 22 O (kS O O O O ?_);rw[v];unfold lX gA
  first|(rw[Zu.1 b,Zy a,tp];rfl)|(have o:decide (0<=n.lo/\n.lo<=10000)=false:=(by simpa using f);have m:decide (0<=n.limit/\n.limit<=2000)=true:=(by simpa using a);rw[Zu.1 b,m,o,tn,tp];rfl)|simp_all[aF,ae]
 refine rr 3 O (kc (S.call (gx) call33 (zg O O) O (zc O (zC O (zD O))) O) (kc (S.jP (zg O O) O (zt O)) (rr 2 O (RK.bh (t:=80) O (fun f=>?_) (fun f=>?_)))))
 ·refine rr 15 O (kS O O O O ?_);rw[v];unfold lX gA
  first|(rw[Zu.1 b,Zy a,tp];rfl)|(have o:decide (0<=n.lo/\n.lo<=10000)=false:=(by simpa using f);have m:decide (0<=n.limit/\n.limit<=2000)=true:=(by simpa using a);rw[Zu.1 b,m,o,tn,tp];rfl)|simp_all[aF,ae]
 refine rr 3 O (kc (S.call (gx) call33 (zg O O) O (zc O (zC O (zD O))) O) (kc (S.jP (zg O O) O (zt O)) (rr 3 O (kB O (fun J=>?_) (fun J=>?_)))))
 ·refine ro 6 O (kS O O O O ?_);rw[v];unfold lX gA
  first|(rw[Zu.1 b,Zy a,tp];rfl)|(have o:decide (0<=n.lo/\n.lo<=10000)=false:=(by simpa using f);have m:decide (0<=n.limit/\n.limit<=2000)=true:=(by simpa using a);rw[Zu.1 b,m,o,tn,tp];rfl)|simp_all[aF,ae]
 refine ro 14 O (kB O (fun F=>?_) (fun F=>?_))
 ·refine ro 6 O (kS O O O O ?_);rw[v];unfold lX gA
  first|(rw[Zu.1 b,Zy a,tp];rfl)|(have o:decide (0<=n.lo/\n.lo<=10000)=false:=(by simpa using f);have m:decide (0<=n.limit/\n.limit<=2000)=true:=(by simpa using a);rw[Zu.1 b,m,o,tn,tp];rfl)|simp_all[aF,ae]
 refine ro 8 O (kS O O O O ?_);rw[v];unfold lX gA
 first|(rw[Zu.1 b,Zy a,tp];rfl)|(have o:decide (0<=n.lo/\n.lo<=10000)=false:=(by simpa using f);have m:decide (0<=n.limit/\n.limit<=2000)=true:=(by simpa using a);rw[Zu.1 b,m,o,tn,tp];rfl)|simp_all[aF,ae]
def Xg{n:Net}(a:R n.aS<=1000):Ct prog 49 [.agg n.cs] (bv (iG n).2):=by
 refine cI func49 O (ro 9 O (kc (zK (ri a) call92 O) (rr 13 O (kR O O ?_))));rfl
end Go.Proofs.Z9
namespace Go.Proofs.Z9
open Go.Ab Tryz
def FQ{n:Net}(h:10<R n.av\/80<R n.aS):mo n=false:=by
 unfold mo;grind
def Ik{n:Net}(h:R n.av<=10)(a:R n.aS<=80):mo n=n.av.all fun p=>decide (R p.name<=20):=by
 simp_all[mo]
def w8{n:Net}{i:Nat}(h:i<R n.av):((n.av.drop i).all fun p:bf=>decide (R p.name<=20))=(decide (R n.av[i].name<=20)&&(n.av.drop (i+1)).all fun p:bf=>decide (R p.name<=20)):=by
 rw[np h,so]
def AX{n:Net}:Ct prog 11 [.agg n.cs] (.bool (mo n)):=by
 refine cI func11 O (ro 11 O (kc (zk Ys O) (rr 2 O (RK.bh (t:=8) O (fun h=>?_) (fun h=>?_)))))
 ·have a:mo n=false:=FQ (.inl I);refine rr 13 O (kR O O ?_);rw[a];try rfl
 refine rr 7 O (kB O (fun g=>?_) (fun g=>?_))
 ·have a:mo n=false:=FQ (.inr I);refine ro 5 O (kR O O ?_);rw[a];try rfl
 have d:=Ik (n:=n) I I;refine ro 9 O ?_;refine OK.loop (G:=Nat) [1] (fun i=>[(1,.ptr 1 0),(1001,.box n.cs),(3,bv i)]) (fun i=>i<=R n.av/\mo n=((n.av.drop i).all fun p:bf=>decide (R p.name<=20))) (fun i=>R n.av - i) 0 ⟨Zr _,d⟩ ⟨O,O,O,Zo⟩ (fun _=>O) ?_;rintro i ⟨hi,c⟩;refine ro 6 O (kc (zk Ys O) (rr 3 O (kB O (fun f=>?_) (fun f=>?_))))
 ·have b:i<R n.av:=by omega
  refine ro 9 O (kc (zI Ys O I O) ?_);refine rr 6 O (kB O (fun e=>?_) (fun e=>?_))
  ·have a:mo n=false:=by rw[c,w8 b,Zy (show¬R n.av[i].name<=20 by omega),tp]
   refine ro 5 O (kR O O ?_);rw[a];try rfl
  refine Ro 8 O I (Ab.D.lp ⟨i+1,⟨by omega,by rw[c,w8 b,Zz (show R n.av[i].name<=20 by omega),tn]⟩,I,O,O,O,Zo⟩)
 have a:mo n=true:=by rw[c,show i=R n.av by omega,no];rfl
 refine ro 7 O (kR O O ?_);rw[a];try rfl
def se{n:Net}(b:R n.av<=100000):Ct prog 14 [.agg n.cs] (.agg n.cs):=by
 refine cI func14 O (ro 7 O ?_);refine kV (.c (zM [] Jv O O O O) (.c (zf Xr O) (.c (zl SN O O O O) (.c (S.mQ Jv .none O (zt O) O N (zt O) (by intro q a;obtain⟨p,_,rfl⟩:=rx.1 a;rfl) N (by simp only[Zx];omega) (by simp only[Zx,maxLen];omega)) (.c (zf Nk O) (.c (zl Y9 O O O O) (.c (zf Q1 O) (.c (zl Z8 O O O O) (.c (zf YH O) (.c (zL MN O O O O) (.c (zU bu26 O O) (.c (zS XB O O O O O O) .nil)))))))))))) ?_;refine Ab.D.code ?_;refine OK.ret (aA.r1 (.bG O O O O XB O (.k (.own O O N) (zw O))) ?_);rfl
end Go.Proofs.Z9
namespace Go.Proofs.Z9
open Go.Ab Tryz
def State.zero:State:=⟨[],[],[],[],⟨0,0,[]⟩⟩
def RJ(n:Net)(l:List Entry):State:=if(bl n l).2.2≠0 then State.zero else(bl n l).1.st
def Ko{n:Net}(h:(iG n).2=0):gA n=true:=by
 have a:=B7 h;have b:=(B6 h).2;unfold lX at a;rw[b,aF,Zm C]at a;grind [aF,ae]
def Kq{n:Net}(h:(iG n).2=0):(0<=n.lo/\n.lo<=1000000000)/\(0<=n.hi/\n.hi<=1000000000)/\ve n.limit=true:=by
 have d:=Ko h;unfold gA at d;rw[Zw,Zw]at d;have a:=pf d.1;have b:=pf d.2.1;have c:=pf d.2.2;exact⟨I,I,Zz a⟩
def LK(H:ax)(k:Nat)(L:vN):(mO k H L).1.entries=H.entries/\(mO k H L).1.time=H.time:=by
 have a:∀(n:Int)(f:ax->Nat->HE),(∀i,(f H i).1.entries=H.entries/\(f H i).1.time=H.time)->(cK H n f).1.entries=H.entries/\(cK H n f).1.time=H.time:=fun n f b=>by
  unfold cK;split
  ·simp
  rename_i i _;split
  ·exact b i
  grind
 unfold mO;split
 ·simp
 ·unfold fT;grind
 ·unfold frameT;repeat' split
  all_goals exact⟨rfl,rfl⟩
 ·unfold n8;split<;>exact⟨rfl,rfl⟩
 ·exact a _ _ fun i=>by unfold gj;split<;>exact⟨rfl,rfl⟩
 ·exact a _ _ fun i=>by unfold Ei;split<;>exact⟨rfl,rfl⟩
 ·unfold qj;grind
 ·unfold tS;grind
 ·exact a _ _ fun i=>by unfold yE;split<;>exact⟨rfl,rfl⟩
 ·refine a _ _ fun i=>?_
  unfold yQ;dsimp only
  repeat' split
  all_goals exact⟨rfl,rfl⟩
 ·unfold eG;grind
 ·exact a _ _ fun i=>by unfold fe;grind
 unfold gS;grind
def S8{H:ax}{x:Entry}(h:(bX H x).2=0):(bX H x).1.entries=H.entries+1/\(bX H x).1.time=x.at_:=by
 unfold bX at h⊢;by_cases a:H.head x=0
 ·rw[Zm (Zp a)]at h⊢;obtain⟨i,hi⟩:=sk.1 (GZ a).2.1;obtain⟨k,b⟩:=sk.1 (GZ a).2.2.2.2.2.2;rw[hi,b]at h⊢;dsimp only at h⊢;by_cases d:H.tail x i k=0
  ·rw[Zm (Zp d)]at h⊢;by_cases c:(mO k H (fH x.text).1).2=0
   ·rw[Zm (Zp c)];exact⟨rn (· +1) (LK ..).1,rfl⟩
   simp_all
  simp_all
 simp_all
theorem Vo{n:Net}{l:List Entry}(a:(iG n).2=0)(h:60<R l):bl n l=(ax.init n (bP n.aS).1,0,8):=by
 grind [ua,W0,Yz,bl]
theorem Vq{n:Net}{l:List Entry}(a:(iG n).2=0)(h:¬60<R l):bl n l=runT (ax.init n (bP n.aS).1) 0 l:=by
 have e:ua n l=0:=by unfold ua;rw[a,W0,Zz I];rfl
 simp_all[bl]
def MZ{n:Net}{l:List Entry}{H:ax}{i e:Int}(h:bl n l=(H,i,e))(a:e≠0):RJ n l=State.zero:=by simp_all[RJ]
def Jz{n:Net}{l:List Entry}{H:ax}{i:Int}(h:bl n l=(H,i,0)):RJ n l=H.st:=by simp_all[RJ]
def Sc{n:Net}{H:ax}{x:Entry}(d:R n.aS<=1000)(e:(iG n).2=0)(a:HS H)(hh:H.jq=n)(b:H.aS=(bP n.aS).1)(f:H.entries<60)(c:R x.text<=100000):Ct prog 79 [.agg n.cs,.agg H.st.cs,.agg x.cs,bv H.time] (.cf [.agg (bX H x).1.st.cs,bv (bX H x).2]):=by
 have k:=Ry (n:=n) d (Kq e) (b▸a.good) (b▸a.mods) (x:=x) (last:=H.time) c;rw[←MM a hh b x f]at k;exact k
def Xh{n:Net}{l:List Entry}(r:R n.aS<=1000)(f:(iG n).2=0)(s:∀x∈l,R x.text<=100000):Ct prog 69 [.agg n.cs,.sl (l.map Entry.cs)] (.cf [.agg (RJ n l).cs,bv (bl n l).2.1,bv (bl n l).2.2]):=by
 refine cI func69 O (OK.eW (rows:=l.map Entry.cs) (t:=1) O O fun hlen=>?_);rw[Zx]at hlen;unfold maxLen at hlen;refine ro 17 O (kc (zk YI O) (rr 3 O (kB O (fun o=>?_) (fun o=>?_))))
 ·have d:=Vo f (show 60<R l by omega);have hB:=MZ d C;refine ro 8 O (OK.ret (aA.r3 (.bG O O O O Z_ O (.k .bO (.k .bO (.k .bO (.k .bO (.k (.same O) (.k (.same O) (.k .bO .z)))))))) (zo O O) (zo O O) ?_));rw[d,hB];try rfl
 refine ro 14 O (OK.Yf 7 0 O O O O (OK.Yf 7 1 O O O O (OK.Yf 7 2 O O O O (OK.Yf 7 3 O O O O (OK.Yf 7 6 O O O O ?_)))));refine OK.mP [2,4,7] (fun(i:Nat)(H:ax)=>[(1,.sl (l.map Entry.cs)),(2,.ptr 2 0),(1002,.box n.cs),(4,.ptr 4 0),(1004,.box [.bO,.bO,.bO,.bO,bv 0,bv 0,.bO]),(7,.ptr 7 0),(1007,.box H.st.cs),(8,bv H.time),(9,bv i)]) (fun i H=>i<=R l/\bl n l=runT H i (l.drop i)/\HS H/\H.jq=n/\H.aS=(bP n.aS).1/\H.entries=i) (fun i H=>R l - i) (0) ((ax.init n (bP n.aS).1)) ⟨Zr _,Vq f I,HS.init (vP (B6 f).2),O,O,O⟩ ⟨O,O,O,O,O,O,O,O,O,Zo⟩ (fun _ _=>O) ?_;rintro i H ⟨hi,g,p,hh,q,h⟩;refine ro 5 O (kc (zk YI O) (rr 3 O (kB O (fun m=>?_) (fun m=>?_))))
 ·have a:i<R l:=by omega
  refine ro 5 O ?_;refine kV (.c (zL XB O O O O) (.c (zL Z_ O O O O) (.c (zm O) (.c (zm O) (.c (zI YI O a O) (.c (S.fG Qm .none O (zt O) O O) (.c (zm O) (.c (zK (Sc r f p hh q I (s _ (Zt a))) call79 O) (.c (zm O) (.c (zX O O O) (.c (zX O O O) (.c (zA (c:=10) By O) (.c (zS Z_ O O O O O O) (.c (za O) .nil)))))))))))))) ?_;refine rd 8 O (kB O (fun b=>?_) (fun b=>?_))
  ·have d:=g.trans (Ca a b);have hB:=MZ d b;refine kr (kc (zU P7 O O) (rr 7 O (OK.ret (aA.r3 (.bG O O O O Z_ O (.k .bO (.k .bO (.k .bO (.k .bO (.k (.same O) (.k (.same O) (.k .bO .z)))))))) (zo O O) (zo O O) ?_))));rw[d,hB];try rfl
  have e:=Zu.1 b;refine OK.skip (Ab.D.code (kV (.c (zL Z_ O O O O) (.c (zm O) (.c (zm O) (.c (zI YI O a O) (.c (S.field Wl .none O (zt O) O) (.c (zV Z8 O O) (.c (zS Z_ O O O O O O) (.c (za O) .nil)))))))) (Rd 7 O I ?_)));refine Ab.D.lp ⟨i+1,(bX H l[i]).1,⟨by omega,by rw[g,Eu a e],p.enter _,by rw[(oK _ _).2];exact hh,by rw[(oK _ _).1];exact q,by rw[(S8 e).1,h];rfl⟩,I,O,O,O,O,O,O,O,(yL (S8 e).2.symm),O,Zo⟩
 have d:bl n l=(H,0,0):=by rw[g,show i=R l by omega,no];rfl
 have hB:=Jz d;refine ro 10 O (OK.ret (aA.r3 (zy O O Z_ O) (zo O O) (zo O O) ?_));rw[d,hB];try rfl
end Go.Proofs.Z9
namespace Go.Proofs.Z9
open Go.Ab Tryz
def AP(H:ax)(name:ba):Int:=match(H.Ec name).bind (H.aU[·]?)with|some q=>q.1.iN+1|none=>1
def wS(H:ax)(rest:ba):Int:=aF [(iM rest).2,ae (decide ((R H.aU:Int)<6)) 16]
def AQ{H:ax}{name rest:ba}(h:bS name=false):eG H name rest=(H,4):=Zn h
def AR{H:ax}{name rest:ba}(h:bS name=true)(a:wS H rest≠0):eG H name rest=(H,wS H rest):=by
 unfold eG;rw[Zm (by grind)];exact Zn a
def AU{H:ax}{name rest:ba}(h:bS name=true)(a:wS H rest=0):eG H name rest=({H with aU:=H.aU++[(⟨name,AP H name,(iM rest).1⟩,H.entries)]},0):=by
 unfold eG;rw[Zm (by grind)];exact Zm (Zp a)
def AV{l:ba}(h:l.all ZX=true):jr l:=fun b a=>by
 have c:=rm.1 h b a;have d:=pf (show decide (32<=(b.toNat:Int)/\(b.toNat:Int)<=126)=true from c);omega
def sd{A:HA}{m:Int}(a:A.Ok m)(V:m+2<=1000){name rest:ba}(hrl:R rest<=600)(P:jr rest):dU prog 164 [] [.raw (pV A.b),.agg (Words.mk [] [name,rest]).cs] [(3000,.res (aa A.mem))] [(3000,.res (JX A.b (eG A.plain name rest).1 (m+2)))] (bv (eG A.plain name rest).2):=by
 refine cH func164 O fun f=>?_
 have hen:=a.en;have hlv:=a.lv;have hm0:=a.m0;have K:=HA.nV A name;have y:(R A.plain.aU:Int)=R A.aU:=by show(R (A.aU.map _):Int)=_;rw[Zx]
 refine ro 10 O ?_;refine kc (S.aP (n:=0) Z2 .none O (zt O) (.af O) O (by exact aθ _) O) ?_;refine rr 8 O (kc (zK jA call138 O) (kc (S.not .none O (zt O)) (kD (OK.cond O O (fun C=>?_) (fun C=>?_)))))
 ·have e:bS name=false:=by simpa using C
  have f:=AQ (H:=A.plain) (rest:=rest) e;refine ro 5 O ?_;refine OK.bU (J':=JX A.b (eG A.plain name rest).1 (m+2)) O (JX.az _ _ _) (fun h Y w M=>HA.jx a I V (by rw[f]) M) ?_;refine OK.ret ⟨aA.r1 (zo O O) ?_,O,Zo⟩;rw[f]
 have e:bS name=true:=by simpa using C
 refine ro 6 O ?_;refine kc (S.aP (n:=1) Z2 .none O (zt O) (.af O) O (by exact Nat.one_lt_two) O) (kc (zV Y9 O O) (kc (S.dB (rcp_ParseRecipe (s:=rest) I P) f call216 .none O (zc O .nil) O) ?_));refine rr 14 O (kc (zH (u:=.sl (A.aU.map jU)) RH O (aa.dQ (k:=.bn) O O (.sl a.vs))) (kc (zk Qh O) (kc (S.lss .none O (zt O) (.af O)) (kc (zK ak call96 O) ?_))));refine RK.c (zM [[_],[_]] Zc O O O O) (kc (S.callL (bF (l:=[_,_])) call76 .none O (zc O .nil) (.cons (.p (.own O O) O) .nil) O) ?_);refine rr 9 O (kB O (fun B=>?_) (fun B=>?_))
 ·have z:wS A.plain rest≠0:=by unfold wS;rw[y];exact B
  have f:=AR e z;refine ro 6 O ?_;refine OK.bU (J':=JX A.b (eG A.plain name rest).1 (m+2)) O (JX.az _ _ _) (fun h Y w M=>HA.jx a I V (by rw[f]) M) ?_;refine OK.ret ⟨aA.r1 (zo O O) ?_,O,Zo⟩;rw[f];refine cy ?_;unfold wS;rw[y]
 have z:wS A.plain rest=0:=by unfold wS;rw[y];exact Zu.1 B
 have f:=AU e z;refine ro 7 O ?_;refine OK.join (G:=Int) [] (fun d=>[(0,.raw (pV A.b)),(5,.str name),(6,.sl ((iM rest).1.map Ph.cs)),(8,bv d),(3000,.res (aa A.mem))]) (fun d=>d=AP A.plain name/\0<=d/\d<=m+1) (fun _=>O) ?_ ?_
 ·refine ro 4 O (kc (S.fI ((fun J hS hJ=>(l9 a (n:=name) hS hJ).jR hS)) call136 .none O (zc O (zc O .nil)) O O) ?_);refine rr 6 O (kc (S.ET underlying138 .none O (zt O)) (kD (OK.cond O O (fun o=>?_) (fun o=>?_))))
  ·obtain⟨k,X⟩:∃k,dG (fun v=>decide (v.r.name=name)) A.aU=some k:=sk.1 ((uR _ _).symm.trans o);obtain⟨W,_⟩:=j5 X;obtain⟨N,g⟩:=at_of_lt W;have hvb:=a.vb N (mr g);rw[gd X (HA.IB g)];have t:AP A.plain name=N.r.iN+1:=by unfold AP;rw[K,X];simp only[bφ,HA.oe g]
   refine ro 6 O ?_;refine kc (zH Z8 O (aa.dQ (k:=.v k) (HA.Cz g) O (.same _))) ?_;refine Rr 3 O I (Ab.D.lp ⟨(N.r.iN+1),⟨t.symm,I,I⟩,O,O,O,O,O,Zo⟩)
  have hN:dG (fun v=>decide (v.r.name=name)) A.aU=none:=by
   cases h:dG (fun v=>decide (v.r.name=name)) A.aU with
   |none=>rfl
   |some k=>rw[h]at o;exact absurd o F
  have t:AP A.plain name=1:=by unfold AP;rw[K,hN];rfl
  refine OK.skip (Ab.D.lp ⟨1,⟨t.symm,I,I⟩,O,O,O,O,O,Zo⟩)
 rintro d ⟨Q,U,T⟩;refine ro 4 O (kc (zU vp O O) (rr 5 O ?_));refine OK.Ye follows (ι:=(Nat×Nat×Nat)) (0,0,0) 15 O (S.FM (s:=[(58,.raw (A.vh.v (R A.aU))),(68,.own 68 1),(2068,.cM 1 [] [.di 67 1 0] []),(2067,.cM 4 [] [.str name,bv d,.sl ((iM rest).1.map Ph.cs),bv A.entries] []),(3000,.res (aa A.mem))]) (cells':=[.str name,bv d,.sl ((iM rest).1.map Ph.cs),bv A.entries]) .vs (.v (R A.aU)) j_ O (zt O) a.vs Z (zt O) O O O O O O (by simp only[Zx];omega) (by simp only[Zx,maxLen];omega)).st (fun q=>(.cs (zm O) (.cs (zm O) (.cs (zn O O) (.cs (zr SB O) (.cs (zH RH O (aa.dQ (k:=.bn) O O (.same _))) (.cs (zL MO O O O O) (.cs (zm O) (.cs (zU Lo O O) (.cs (zm O) (.cs (zn O O) (.cs (zr Y4 O) (.cs (zH Z8 O (aa.dQ (k:=.bn) O O (.same _))) (.cs (zU bu149 O O) (.cs (S.Ex (k:=67) O .none O (zt O) O) (.cs (S.q9 (k:=68) j_ .none O (zt O) O)
  (.x ⟨O,O,O,O,O,Zo⟩ (.cn (zn O O) (.cn (zr SB O) (.cn (S.dc (xs:=A.cs) (xs':=(A.tN ⟨q.1,⟨name,d,(iM rest).1⟩,A.entries⟩ q.2).cs) (.bn) RH .none (zt O) (zt O) O ((HM.ai _ _ Z).trans ((HM.ai _ _ Z).trans A.ID)) O O O O (EU A ⟨q.1,⟨name,d,(iM rest).1⟩,A.entries⟩ q.2)) .nil)))))))))))))))))))) (fun q=>?_)
 refine Ab.D.code (kO (OK.tN ⟨name,d,(iM rest).1⟩ a I O ⟨U,T⟩ (rf e) fun A1 L hb1 E=>?_));refine ro 4 O ?_;refine OK.bU (J':=JX A.b (eG A.plain name rest).1 (m+2)) O (JX.az _ _ _) (fun h Y w M=>jM L I V hb1 (by rw[f,E,Q];rfl) M) ?_;refine OK.ret ⟨aA.r1 (zo O O) ?_,O,Zo⟩;rw[f]
def GC:lG 10:=fun a c _ _ _ b=>sd a c b.1 (AV b.2.2.2)
end Go.Proofs.Z9
namespace Go.Proofs.Z9
open Go.Ab Tryz
def C9{n:Net}(h:mo n=true):R n.av<=10/\R n.aS<=80:=by
 simp_all[mo]
