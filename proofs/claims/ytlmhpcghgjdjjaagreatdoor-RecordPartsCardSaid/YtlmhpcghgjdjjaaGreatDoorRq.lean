import Derived.Test.YtlmhpcghgjdjjaaGreatDoorRp
set_option linter.all false
set_option maxHeartbeats 4000000
open List renaming length->R
namespace Go.Proofs.Z9
open Go.Ab Tryz
set_option maxRecDepth 9999
def rY:ba->Int->Int
 |[],a=>a
 |b::l,a=>rY l ((a * 229+(b.toNat:Int)+1) % 999961)
def Av{l:ba}{i:Nat}(h:i<R l)(a:Int):rY (l.drop i) a=rY (l.drop (i+1)) ((a * 229+(l[i].toNat:Int)+1) % 999961):=by rw[np h,rY]
def joinT(l:bd):ba:=if R l=0 then [45]else Lib.join (l.map Lib.itoa) [32]
def qH(name:ba)(ok:Bool):Int:=aF [ae (bS name) 4,ae ok 6]
def kj(name:ba)(n:Int)(ok:Bool):ba×Int:=if qH name ok≠0 then([],qH name ok)else(joinT [n],0)
def ax.numbers(H:ax)(g:Part->Bool):bd:=(H.parts.filter fun q=>g q.1).map fun q=>q.1.num
def HA.cB(A:HA)(g:Part->Bool):A.plain.numbers g=oc g A.parts:=by
 show((A.parts.map fun v=>(v.p,v.es)).filter fun q=>g q.1).map (fun q=>q.1.num)=_;rw[pA,x3];rfl
def EH(p:Part):ba:=Lib.join [p.oF,joinT [p.iN],p.coil,joinT [p.place,p.verdict]] [32]
def ax.shots(H:ax)(name:ba):Int×Bool:=match(H.Bs name).bind (H.aC[·]?)with|some q=>(q.1.shots,true)|none=>(0,false)
def ax.ko(H:ax)(name:ba):Int×Bool:=match(H.Ec name).bind (H.aU[·]?)with|some q=>(q.1.iN,true)|none=>(0,false)
def answerT(H:ax)(q:ba):ba×Int:=
 if q=[99,111,117,110,116]then(joinT [H.entries],0)
 else if q=[105,110,115,105,100,101]then(joinT (H.numbers gE),0)
 else if(aL 32 q).2.2=false then([],7)
 else if(aL 32 q).1=[112,97,114,116]then
  if numOk (aL 32 q).2.1 7=false then([],7)
  else if sU (bp (aL 32 q).2.1) (H.vr (bp (aL 32 q).2.1)).isSome≠0 then([],sU (bp (aL 32 q).2.1) (H.vr (bp (aL 32 q).2.1)).isSome)
  else(EH (H.p ((H.vr (bp (aL 32 q).2.1)).getD 0)),0)
 else if(aL 32 q).1=[115,104,111,116,115]then kj (aL 32 q).2.1 (H.shots (aL 32 q).2.1).1 (H.shots (aL 32 q).2.1).2
 else if(aL 32 q).1=[118,101,114,115,105,111,110]then kj (aL 32 q).2.1 (H.ko (aL 32 q).2.1).1 (H.ko (aL 32 q).2.1).2
 else([],7)
def Cw(n:Net)(l:List Entry)(q:ba):ba×Int:=if(bl n l).2.2≠0 then([],(bl n l).2.2)else answerT (bl n l).1 q
structure iv where
 started:Int
 under:Int
 inside:Int
 good:Int
 bad:Int
 cut:Int
 deriving DecidableEq
def iv.cs(c:iv):bi:=[bv c.started,bv c.under,bv c.inside,bv c.good,bv c.bad,bv c.cut]
def iv.zero:iv:=⟨0,0,0,0,0,0⟩
def Z3(l:List Part)(k:Int):Int:=(R (l.filter fun p=>decide (p.place=k)):Int)
def ax.counts(H:ax):iv:=⟨(R H.parts:Int),Z3 (H.parts.map (·.1)) 0,Z3 (H.parts.map (·.1)) 1,Z3 (H.parts.map (·.1)) 2,Z3 (H.parts.map (·.1)) 3,Z3 (H.parts.map (·.1)) 4⟩
def mZ(n:Net)(l:List Entry):iv×Int:=if(bl n l).2.2≠0 then(iv.zero,(bl n l).2.2)else((bl n l).1.counts,0)
def oO(n:Net)(l:List Entry)(num:Int):bd×Int:=if fV n l num≠0 then([],fV n l num)else
 ((((bl n l).1.parts[((bl n l).1.vr num).getD 0]?.map (·.2)).getD []).mergeSort fun x y=>decide (x<=y),0)
def yX{n:Int}{o:Bool}(h:sU n o=0):o=true:=by
 unfold sU at h;cases o
 ·exfalso;by_cases a:0<=n/\n<=1000000
  ·rw[Zz a]at h;exact absurd h C
  rw[Zy a]at h;exact absurd h C
 rfl
def eZ{l:List aB}{i:Nat}(h:i<R l)(k:Int):Z3 ((l.take (i+1)).map aB.p) k=if l[i].p.place=k then Z3 ((l.take i).map aB.p) k+1 else Z3 ((l.take i).map aB.p) k:=by
 grind [Z3,List.take_succ_eq_append_getElem]
def wj(l:List Part)(k:Int):0<=Z3 l k/\Z3 l k<=R l:=by
 simp[Z3,cσ]
def b8(A:HA)(i:Nat):iv:=⟨(R A.parts:Int),Z3 ((A.parts.take i).map aB.p) 0,Z3 ((A.parts.take i).map aB.p) 1,Z3 ((A.parts.take i).map aB.p) 2,Z3 ((A.parts.take i).map aB.p) 3,Z3 ((A.parts.take i).map aB.p) 4⟩
def uw(A:HA):b8 A (R A.parts)=A.plain.counts:=by
 unfold b8 ax.counts;have a:A.plain.parts.map (·.1)=A.parts.map aB.p:=by show(A.parts.map fun v=>(v.p,v.es)).map (·.1)=_;simp
 grind [Zx]
def s8{xs ys:bi}(h:xs=ys):some (X.box xs)=some (X.box ys):=by rw[h]
def od{sep:ba}{B:Nat}:∀{l:List ba},(∀w∈l,R w<=B)->R (Lib.join l sep)<=R l * (B+R sep):=by
 intro l
 induction l with
 |nil=>simp[Lib.join]
 |cons x r a=>
  intro h;have b:=h x rv;have c:=a fun w hw=>h w (rl _ hw)
  cases r with
  |nil=>grind [Lib.join,List.intercalate,List.intersperse]
  |cons y r=>
   grind [HH,Nat.succ_mul]
def s9{l:bd}(h:∀n∈l,IntKind.i64.wrap n=n):R (joinT l)<=1+R l * 22:=by
 unfold joinT;split
 ·simp
 have:=od (sep:=[32]) (B:=21) (l:=l.map Lib.itoa) fun w hw=>by obtain⟨n,a,rfl⟩:=rx.1 hw;exact qI (h n a)
 grind
def Gi{E:Env}{f:Nat}(n:tP E.P f){J:bm}:FC E f [.raw (.slice none 0 0)] (.cf []) J J:=by
 intro h Y w vs _ hw o l a;obtain⟨v,g,rfl,k,c⟩:=a.bD;have b:=ah.bJ c;subst b;have d:v=.slice none 0 0:=k;subst d;refine(n.none none 0 w).mono ?_;rintro en q ⟨rfl,rfl⟩;exact⟨_,h,Y,rfl,⟨da.refl _ _ _,Mem.le_refl _,fun p v e=>.inl e,hw,o,fun _ j _=>j⟩,l,⟨[],rfl,Zo⟩⟩
def Cx{A:HA}{h:Mem}{Y:Nat->Prop}{w:World}(f:aa A.mem h Y w){i:Nat}{v:aB}(a:A.parts[i]?=some v):IntKind.i64.wrap v.p.iN=v.p.iN/\IntKind.i64.wrap v.p.place=v.p.place/\IntKind.i64.wrap v.p.verdict=v.p.verdict:=by
 obtain⟨_,_,T,vs,_,j⟩:=f.1 (.p i) v.b _ (HA.dm a);have g:∀(k:Nat)(n:Int),v.cs[k]?=some (bv n)->IntKind.i64.wrap n=n:=fun k n e=>by
  obtain⟨u,_,d⟩:=j.eD e;exact(cJ (ay.ef (c:=aD h) d)).2
 exact⟨g 2 _ rfl,g 5 _ rfl,g 7 _ rfl⟩
def wk{p:Part}(h:R p.oF<=12/\R p.coil<=12)(a:IntKind.i64.wrap p.iN=p.iN/\IntKind.i64.wrap p.place=p.place/\IntKind.i64.wrap p.verdict=p.verdict):R (Lib.join [p.oF,joinT [p.iN],p.coil,joinT [p.place,p.verdict]] [32])<=140737488355328:=by
 have d:=s9 (l:=[p.iN]) (by simp_all);have c:=s9 (l:=[p.place,p.verdict]) (by simp_all);have b:=od (sep:=[32]) (B:=100) (l:=[p.oF,joinT [p.iN],p.coil,joinT [p.place,p.verdict]]) (by
  grind)
 grind
def wm{n:Net}{l:List Entry}{num:Int}(h:fV n l num=0):(bl n l).2.2=0:=by
 unfold fV at h;omega
def Cy{n:Net}{l:List Entry}{num:Int}(h:fV n l num=0):∃i,(bl n l).1.vr num=some i:=by
 have h0:=wm h;unfold fV at h;rw[Zm I]at h;exact sk.1 (yX h)
def EI{M:HM Key}{k:Key}{b cap n:Nat}{l:bd}(e:M k=some (b,.row 1 cap (l.map fun n=>[X.int .i64 n])))(c:R l=n):Gj M (.raw (.slice (some ⟨b,0,none⟩) n cap)) (ints l):=by
 subst c;have d:∀l:bd,ah (ah (Fz M)) (l.map fun n=>[X.int .i64 n]) (l.map fun n=>[X.int .i64 n]):=by
  intro l
  induction l with
  |nil=>trivial
  |cons x l a=>exact⟨⟨.same _ rfl,Zo⟩,a⟩
 have h:=Fz.ofRow (M:=M) (k:=k) (hd:=.slice (some ⟨b,0,none⟩) (R (l.map fun n=>[X.int .i64 n])) cap) (sz:=1) (.inr ⟨b,cap,rfl,e⟩) (d l) (fun r f=>by grind);rw[Zx]at h;exact h
def EJ{l:ba}{b:Int}(g:0<=b/\b<=999960):Ct prog 99 [.str l,bv b] (bv (rY l b)):=by
 refine cI func99 O (OK.ux (t:=0) (z:=l) O O fun hlen=>?_);unfold maxLen at hlen;refine ro 14 O ?_;refine OK.mP [] (fun(i:Nat)(a:Int)=>[(0,.str l),(1,bv a),(7,bv (R l)),(8,bv i)]) (fun i a=>i<=R l/\(0<=a/\a<=999960)/\rY l b=rY (l.drop i) a) (fun i a=>R l - i) (0) (b) ⟨Zr _,g,O⟩ ⟨O,O,O,O,Zo⟩ (fun _ _=>O) ?_;rintro i a ⟨hi,f,d⟩;refine ro 6 O (kB O (fun h=>?_) (fun h=>?_))
 ·have c:i<R l:=I
  have e:=eι l[i];refine ro 12 O ?_;refine kc (S.mul .none O (zt O) (.af O) (mn _ I) (mn _ I)) (jm O (jm O (kc (S.fJ (n:=i) fR .none O (zt O) (zt O) O I) (kc (S.conv .none O (zt O) underlying5 underlying3 (mn _ I) (mn _ I)) ?_))));refine Rr 2 O I ?_;refine kc (S.rem (q:=((a * 229+(l[i].toNat:Int)+1) % 999961)) .none O (zt O) (.af O) C (Int.tmod_eq_emod_of_nonneg I) (mn _ I)) ?_;refine Rr 8 O I (Ab.D.lp ⟨i+1,((a * 229+(l[i].toNat:Int)+1) % 999961),⟨I,I,by rw[d,Av c]⟩,I,O,O,O,O,Zo⟩)
 refine ro 8 O (kR O O ?_);refine cy ?_;rw[d,show i=R l by omega,no,rY]
def Aw{l:ba}{a:Int}:Ct prog 60 [.str l,bv a] (.cf [bv (if 0<=a/\a<=999960 then rY l a else 0),bv (if 0<=a/\a<=999960 then 0 else 2)]):=by
 refine cI func60 O (ro 10 O (kc (zK cv call97 O) (kc (S.jP .none O (zt O)) (kD (kB O (fun c=>?_) (fun c=>?_))))))
 ·have b:¬(0<=a/\a<=999960):=by simpa using c
  refine ro 6 O (kS O O O O ?_);rw[Zm b,Zm b]
 have b:0<=a/\a<=999960:=by simpa using c
 refine ro 6 O (kc (zK (EJ I) call99 O) ?_);refine rr 4 O (kS O O O O ?_);rw[Zn b,Zn b]
def gT{l:bd}(r:R l<=1000):gz prog 128 [ints l] (.str (joinT l)):=by
 refine cT func128 O fun o=>?_
 refine ro 9 O (kc (zk Z4 O) (rr 3 O (kB O (fun q=>?_) (fun q=>?_))))
 ·have h0:R l=0:=by omega
  refine ro 5 O (kR O O ?_);unfold joinT;rw[Zn h0]
 have h0:¬R l=0:=by omega
 refine ro 4 O (RK.c (S.iI (k:=3) (sz:=1) .none O) (rr 6 O (kc (zk Z4 O) (rr 4 O ?_))));refine OK.loop (G:=Nat) [3] (fun i=>[(3,.own 3 i),(2003,.arr 1 (((l.take i).map Lib.itoa).map fun s=>[.str s])),(9,ints l),(10,bv (R l)),(11,bv i)]) (fun i=>i<=R l/\∀n∈l.take i,IntKind.i64.wrap n=n) (fun i=>R l - i) 0 ⟨Zr _,fun n h=>by simp at h⟩ ⟨(cw N),(bH N),O,O,O,Zo⟩ (fun _=>O) ?_;rintro i ⟨hi,hw⟩;refine ro 6 O (kB O (fun j=>?_) (fun j=>?_))
 ·have f:i<R l:=by omega
  refine ro 6 O (kc (zI Z4 O I O) ?_);refine rr 4 O (OK.IV (t:=5) O O fun d=>?_);have a:∀n∈l.take (i+1),IntKind.i64.wrap n=n:=fun n b=>by
   rw[mv f,List.mem_append,pi]at b;rcases b with b|rfl
   ·exact hw n b
   exact d
  refine ro 3 O (kc (S.dB (pS d) o call179 .none O (zc O .nil) O) ?_);refine RK.c (zM [[_]] XP O O O O) ?_;refine kc (zP XP O O (by simp;omega) N I (by simp only[maxLen];omega)) ?_;refine Rr 8 O I ?_;refine Ab.D.lp ⟨i+1,⟨by omega,a⟩,I,(cw I),(bH (by rw[mv f,ne,ne];rfl)),O,O,O,Zo⟩
 refine ro 3 O ?_;have g:i=R l:=by omega
 rw[g,List.take_length];rw[g,List.take_length]at hw;have e:=od (sep:=[32]) (B:=21) (l:=l.map Lib.itoa) fun w a=>by obtain⟨n,b,rfl⟩:=rx.1 a;exact qI (hw n b)
 rw[Zx]at e;simp only[tt,aυ]at e;refine OK.bN (jm O ?_);refine kc (S.callL (FD.ct (l:=l.map Lib.itoa) (sep:=[32]) (by rw[Zx];omega) I) call131 .none O (zc O (.cons (.bj (l:=[32]) O C) .nil)) (.cons (.p (.own O F) O) (.cons (.same O) .nil)) O) ?_;refine rr 3 O (kR O O ?_);unfold joinT;rw[Zm h0]
def tc{name:ba}{J:bm}(h:aZ J){f:Nat}{caps:bi}(a:∀args w,(callFunc f args).run prog w=.ok (.enter f args) w)(e:caps.all (mE [])=true)(d:caps.all (fun u=>!bR u)=true){v:Int}{ok:Bool}(j:dF prog f [] (.str name::caps) [(3000,.res J)] [(3000,.res J)] (.cf [.int .i64 v,.bool ok])):dU prog 132 [] [.str name,.fn f caps] [(3000,.res J)] [(3000,.res J)] (.cf [.str (kj name v ok).1,.int .i64 (kj name v ok).2]):=by
 refine cH func132 O fun k=>?_
 refine ro 10 O (RK.c (S.uy ((j.jR h)) h a .none O (zt O) (zc O .nil) O O e d) ?_);refine rr 11 O (kc (zK jA call138 O) (kc (zK ak call96 O) (jm O (kc (zK ak call96 O) ?_))));refine RK.c (zM [[_],[_]] Zc O O O O) (kc (S.callL (bF (l:=[_,_])) call76 .none O (zc O .nil) (.cons (.p (.own O O) O) .nil) O) ?_);refine rr 9 O (kB O (fun b=>?_) (fun b=>?_))
 ·have g:kj name v ok=([],qH name ok):=by unfold kj;rw[Zn (show qH name ok≠0 from b)]
  refine ro 7 O (OK.ret ⟨aA.r2 (zo O O) (zo O O) ?_,O,Zo⟩);rw[g];rfl
 have g:kj name v ok=(joinT [v],0):=by unfold kj;rw[Zm (show¬qH name ok≠0 from b)]
 refine ro 5 O ?_;refine RK.c (zM [[_]] ZM O O O O) (kc (S.uz (gT (l:=[v]) F) k call128 .none O (zc O .nil) (.cons (.p (.own O O) O) .nil) O) ?_);refine rr 4 O (OK.ret ⟨aA.r2 (zo O O) (zo O O) ?_,O,Zo⟩);rw[g]
def wo{A:HA}{m:Int}(g:A.Ok m){name:ba}{J:bm}(n:aZ J)(o:∀h Y w,J h Y w->aa A.mem h Y w):dF prog 133 [] [.str name,.b5 [.raw (pV A.b)]] [(3000,.res J)] [(3000,.res J)] (.cf [.int .i64 (A.plain.shots name).1,.bool (A.plain.shots name).2]):=by
 refine cG func133 O fun{_ _}=>?_
 have e:=HA.nU A name;refine kr (ji O O (jb O (kq (kc (zV Xl O O) (jm O (RK.c (S.ik (((qJ g n o).jR n)) n call134 .none O (zc O (zc O .nil)) O O) (ja O (kD (kO (kr ?_))))))))));refine jm O (kc (S.uA underlying222 .none O (zt O)) (kD (OK.cond O O (fun d=>?_) (fun d=>?_))))
 ·have p:=ku d;have f:A.plain.shots name=(0,false):=by unfold ax.shots;rw[e,p];rfl
  refine kr (ji O O (jb O (kD (OK.ret ⟨aA.r2 (zo O O) (zo O O) ?_,O,Zo⟩))));rw[f]
 obtain⟨j,l⟩:=je d;obtain⟨q,a⟩:=at_of_lt (eE l).1;rw[gd l (HA.cb? a)];have f:A.plain.shots name=(q.c.shots,true):=by unfold ax.shots;rw[e,l];simp only[bφ,HA.jD a]
 refine OK.skip (kp (jm O (kc (zn O O) (kc (zr WX O) (kc (zr X0 O) (kc (zH Z8 O (td o (aa.dQ (k:=.c j) (HA.xQ a) O (.same _)))) (ja O (jb O (kD (OK.ret ⟨aA.r2 (zo O O) (zo O O) ?_,O,Zo⟩))))))))));rw[f]
def wq{A:HA}{m:Int}(g:A.Ok m){name:ba}{J:bm}(n:aZ J)(o:∀h Y w,J h Y w->aa A.mem h Y w):dF prog 135 [] [.str name,.b5 [.raw (pV A.b)]] [(3000,.res J)] [(3000,.res J)] (.cf [.int .i64 (A.plain.ko name).1,.bool (A.plain.ko name).2]):=by
 refine cG func135 O fun{_ _}=>?_
 have e:=HA.nV A name;refine kr (ji O O (jb O (kq (kc (zV Xl O O) (jm O (RK.c (S.ik (((l9 g n o).jR n)) n call136 .none O (zc O (zc O .nil)) O O) (ja O (kD (kO (kr ?_))))))))));refine jm O (kc (S.uA underlying138 .none O (zt O)) (kD (OK.cond O O (fun d=>?_) (fun d=>?_))))
 ·have q:=ku d;have f:A.plain.ko name=(0,false):=by unfold ax.ko;rw[e,q];rfl
  refine kr (ji O O (jb O (kD (OK.ret ⟨aA.r2 (zo O O) (zo O O) ?_,O,Zo⟩))));rw[f]
 obtain⟨k,l⟩:=je d;obtain⟨j,_⟩:=j5 l;obtain⟨p,a⟩:=at_of_lt j;rw[gd l (HA.IB a)];have f:A.plain.ko name=(p.r.iN,true):=by unfold ax.ko;rw[e,l];simp only[bφ,HA.oe a]
 refine OK.skip (kp (jm O (kc (zn O O) (kc (zr Vg O) (kc (zr WW O) (kc (zr PU O) (kc (zH Z8 O (td o (aa.dQ (k:=.v k) (HA.Cz a) O (.same _)))) (ja O (jb O (kD (OK.ret ⟨aA.r2 (zo O O) (zo O O) ?_,O,Zo⟩)))))))))));rw[f]
def xR{A:HA}{m:Int}(d:A.Ok m){q:ba}(L:R q<=100000):dU prog 98 [] [.raw (pV A.b),.str q] [(3000,.res (aa A.mem))] [(3000,.res (aa A.mem))] (.cf [.str (answerT A.plain q).1,bv (answerT A.plain q).2]):=by
 refine cH func98 O fun e=>?_
 have V:=d.lp;have T:=d.m0;have X:=xS (c:=32) (l:=q);have P:=wu gE A.parts;have M:=HA.gG A (bp (aL 32 q).2.1);refine ro 9 O (OK.freezeP [] [(1,.str q),(3000,.res (aa A.mem))] 2 O O O O O O ⟨O,O,Zo⟩ O (ro 11 O (kB O (fun K=>?_) (fun K=>?_))))
 ·refine ro 5 O ?_;refine kc (zH Z8 O (aa.dQ (k:=.bn) O O (.same _))) (RK.c (zM [[_]] ZM O O O O) (kc (S.uz (gT (l:=[A.entries]) F) e call128 .none O (zc O .nil) (.cons (.p (.own O O) O) .nil) O) ?_));refine rr 4 O (OK.ret ⟨aA.r2 (zo O O) (zo O O) ?_,O,Zo⟩);unfold answerT;simp_all
  all_goals first|done|rfl|(rw[HA.cB];done)|(rw[HA.mb a];rfl)
 refine ro 6 O (kB O (fun H=>?_) (fun H=>?_))
 ·refine ro 3 O (kc (S.fI ((fun J j r=>(wv d j r (f:=129) (caps:=[]) call129 O O (g:=gE) (fun i v a=>xT a j r)).jR j)) call67 .none O (zc O (.cons .oL .nil)) O O) ?_);refine kc (S.dB (gT (l:=oc gE A.parts) I) e call128 .none O (zc O .nil) O) ?_;refine rr 4 O (OK.ret ⟨aA.r2 (zo O O) (zo O O) ?_,O,Zo⟩);unfold answerT;simp_all
  all_goals first|done|rfl|(rw[HA.cB];done)|(rw[HA.mb a];rfl)
 refine ro 6 O (kc (zK (str_Cut (l:=q) (c:=32) L) call111 O) (rr 13 O (kc (S.not .none O (zt O)) (kD (OK.cond O O (fun G=>?_) (fun G=>?_))))))
 ·refine ro 6 O (OK.ret ⟨aA.r2 (zo O O) (zo O O) ?_,O,Zo⟩);unfold answerT;simp_all
  all_goals first|done|rfl|(rw[HA.cB];done)|(rw[HA.mb a];rfl)
 refine ro 15 O (kB O (fun B=>?_) (fun B=>?_))
 ·refine ro 3 O (kc (S.dB (oP (l:=(aL 32 q).2.1) I) e call130 .none O (zc O .nil) O) ?_);refine rr 11 O (kc (S.not .none O (zt O)) (kD (OK.cond O O (fun z=>?_) (fun z=>?_))))
  ·refine ro 6 O (OK.ret ⟨aA.r2 (zo O O) (zo O O) ?_,O,Zo⟩);unfold answerT;simp_all
   all_goals first|done|rfl|(rw[HA.cB];done)|(rw[HA.mb a];rfl)
  refine ro 6 O (kc (S.fI ((fun J j r=>(vT d j r).jR j)) call100 .none O (zc O (zc O .nil)) O O) ?_);refine rr 14 O (kB O (fun o=>?_) (fun o=>?_))
  ·refine ro 7 O (OK.ret ⟨aA.r2 (zo O O) (zo O O) ?_,O,Zo⟩);unfold answerT;simp_all
   all_goals first|done|rfl|(rw[HA.cB];done)|(rw[HA.mb a];rfl)
  have N:=yX (Zu.1 o);obtain⟨i,n⟩:=sk.1 N;obtain⟨v,a⟩:=at_of_lt (eE n).1;rw[gd n (HA.Bt a)];refine OK.ue (p:=IntKind.i64.wrap v.p.iN=v.p.iN/\IntKind.i64.wrap v.p.place=v.p.place/\IntKind.i64.wrap v.p.verdict=v.p.verdict) O (fun h Y w W=>Cx W a) fun t=>?_
  have u:R (Lib.join [v.p.oF,joinT [v.p.iN],v.p.coil,joinT [v.p.place,v.p.verdict]] [32])<=140737488355328:=wk (d.nl v (mr a)) t;refine ro 3 O ?_;refine kV (.c (zm O) (.c (zn O O) (.c (zr YP O) (.c (zr Yt O) (.c (zr PR O) (.c (zH Y9 O (aa.dQ (k:=.p i) (HA.dm a) O (.same _))) (.c (zm O) (.c (zn O O) (.c (zr YP O) (.c (zr Yt O) (.c (zr PU O) (.c (zH Z8 O (aa.dQ (k:=.p i) (HA.dm a) O (.same _))) (.c (zM [[_]] ZM O O O O) (.c (S.uz (gT (l:=[v.p.iN]) F) e call128 .none O (zc O .nil) (.cons (.p (.own O O) O) .nil) O) (.c (zm O) (.c (zn O O) (.c (zr YP O) (.c (zr SH O) (.c (zH Y9 O (aa.dQ (k:=.p i) (HA.dm a) O (.same _))) (.c (zm O) (.c (zn O O) (.c (zr YP O) (.c (zr Zl O) (.c (zH Z8 O (aa.dQ (k:=.p i) (HA.dm a) O (.same _))) (.c (zm O) (.c (zn O O) (.c (zr YP O) (.c (zr PW O) (.c (zH Z8 O (aa.dQ (k:=.p i) (HA.dm a) O (.same _))) (.c (zM [[_],[_]] ZM O O O O) (.c (S.uz (gT (l:=[v.p.place,v.p.verdict]) F) e call128 .none O (zc O .nil) (.cons (.p (.own O O) O) .nil) O) (.c (zM [[_],[_],[_],[_]] XP O O O O) (.c (S.callL (FD.ct (l:=[v.p.oF,joinT [v.p.iN],v.p.coil,joinT [v.p.place,v.p.verdict]]) (sep:=[32]) F (u)) call131 .none O (zc O (.cons (.bj (l:=[32]) O C) .nil)) (.cons (.p (.own O O) O) (.cons (.same O) .nil)) O) (.c (za O) (.c (zi O O) .nil))))))))))))))))))))))))))))))))))) ?_;refine Ab.D.code (OK.ret ⟨aA.r2 (zo O O) (zo O O) ?_,O,Zo⟩);unfold answerT;simp_all
  all_goals first|done|rfl|(rw[HA.cB];done)|(rw[HA.mb a];rfl)
 refine ro 6 O (kB O (fun y=>?_) (fun y=>?_))
 ·refine ro 3 O (kc (S.dx .none O (zt O) O) ?_);refine RK.c (S.ik (((tc (name:=(aL 32 q).2.1) (J:=aa A.mem) (aa.az _) (f:=133) (caps:=[.b5 [.raw (pV A.b)]]) call133 O O (wo d (aa.az _) (fun _ _ _ h=>h))).jR e (aa.az _))) (aa.az _) call132 .none O (zc O (zc O .nil)) O O) ?_;refine rr 6 O (OK.ret ⟨aA.r2 (zo O O) (zo O O) ?_,O,Zo⟩);unfold answerT;simp_all
  all_goals first|done|rfl|(rw[HA.cB];done)|(rw[HA.mb a];rfl)
 refine ro 6 O (kB O (fun x=>?_) (fun x=>?_))
 ·refine ro 3 O (kc (S.dx .none O (zt O) O) ?_);refine RK.c (S.ik (((tc (name:=(aL 32 q).2.1) (J:=aa A.mem) (aa.az _) (f:=135) (caps:=[.b5 [.raw (pV A.b)]]) call135 O O (wq d (aa.az _) (fun _ _ _ h=>h))).jR e (aa.az _))) (aa.az _) call132 .none O (zc O (zc O .nil)) O O) ?_;refine rr 6 O (OK.ret ⟨aA.r2 (zo O O) (zo O O) ?_,O,Zo⟩);unfold answerT;simp_all
  all_goals first|done|rfl|(rw[HA.cB];done)|(rw[HA.mb a];rfl)
 refine ro 9 O (OK.ret ⟨aA.r2 (zo O O) (zo O O) ?_,O,Zo⟩);unfold answerT;simp_all
 all_goals first|done|rfl|(rw[HA.cB];done)|(rw[HA.mb a];rfl)
def xU{n:Net}{l:List Entry}(h:R n.aS<=1000)(j:sS l){q:ba}(g:R q<=100000):gz prog 59 [.agg n.cs,.sl (l.map Entry.cs),.str q] (.cf [.str (Cw n l q).1,bv (Cw n l q).2]):=by
 refine cT func59 O fun f=>?_
 refine ro 11 O ?_;refine RK.qz (((lY h j).at f)) (fun _=>pP.az _ _ _) (fun _=>pP.mono) call64 O (zc O (zc O .nil)) O fun A=>?_
 refine rr 16 O (kB O (fun a=>?_) (fun a=>?_))
 ·refine ro 7 O (kS O O O O ?_);unfold Cw;rw[Zn a]
 have b:(bl n l).2.2=0:=Zu.1 a;refine ro 3 O (OK.ud b O fun e d=>?_);rw[uc b];refine ro 3 O ?_;refine RK.c (S.ik (((xR e g).jR f (aa.az _))) (aa.az _) call98 .none O (zc O (zc O .nil)) O O) ?_;refine rr 6 O (kS O O O O ?_);unfold Cw;rw[Zm a,d]
def rec_CountsOf{n:Net}{l:List Entry}(z:R n.aS<=1000)(J:sS l):gz prog 61 [.agg n.cs,.sl (l.map Entry.cs)] (.cf [.agg (mZ n l).1.cs,bv (mZ n l).2]):=by
 refine cT func61 O fun H=>?_
 refine ro 11 O ?_;refine RK.qz (((lY z J).at H)) (fun _=>pP.az _ _ _) (fun _=>pP.mono) call64 O (zc O (zc O .nil)) O fun A=>?_
 refine rr 16 O (kB O (fun e=>?_) (fun e=>?_))
 ·refine kr (kc (zU Ln O O) (rr 5 O (kT O O Lr O O O ?_)));unfold mZ;rw[Zn e]
  all_goals rfl
 have g:(bl n l).2.2=0:=Zu.1 e;refine ro 3 O (OK.ud g O fun d j=>?_);rw[uc g];have F:=d.lp;have B:=d.m0;refine ro 4 O (kc (zH (u:=.sl (A.parts.map iA)) Yg O (aa.dQ (k:=.bn) O O (.sl d.ps))) (kc (zk Yy O) (kc (zU Ln O O) (rr 11 O (kc (zU bu191 O O) (rr 10 O (kc (zH (u:=.sl (A.parts.map iA)) Yg O (aa.dQ (k:=.bn) O O (.sl d.ps))) (kc (zk Yy O) (rr 4 O ?_)))))))));refine OK.loop (G:=Nat) [4,9,10] (fun i=>[(4,.ptr 4 0),(1004,.box [bv 0,bv 0,bv 0,bv 0,bv 0,bv 0]),(9,.ptr 9 0),(1009,.box (b8 A i).cs),(10,.ptr 10 0),(1010,.box [.ptr 9 1,.ptr 9 2,.ptr 9 3,.ptr 9 4,.ptr 9 5]),(39,.sl (A.parts.map iA)),(40,bv (R A.parts)),(41,bv i),(3000,.res (aa A.mem))]) (fun i=>i<=R A.parts) (fun i=>R A.parts - i) 0 (Zr _) ⟨O,O,O,(s8 (by unfold b8;rw[List.take_zero];rfl)),O,O,O,O,O,O,Zo⟩ (fun _=>O) ?_;rintro i hi;refine ro 6 O (kB O (fun x=>?_) (fun x=>?_))
 ·have c:i<R A.parts:=by omega
  obtain⟨v,f⟩:=at_of_lt c;have a:A.parts[i]=v:=by rw[Zv c]at f;exact aγ f
  have y:=d.pl v (mr f);have h:=fun k=>wj ((A.parts.take i).map aB.p) k
  have w:=h 0;have t:=h 1;have r:=h 2;have q:=h 3;have o:=h 4;rw[Zx,sc]at w t r q o;have P:(b8 A i).under=Z3 ((A.parts.take i).map aB.p) 0:=rfl;have N:(b8 A i).inside=Z3 ((A.parts.take i).map aB.p) 1:=rfl;have M:(b8 A i).good=Z3 ((A.parts.take i).map aB.p) 2:=rfl;have L:(b8 A i).bad=Z3 ((A.parts.take i).map aB.p) 3:=rfl;have K:(b8 A i).cut=Z3 ((A.parts.take i).map aB.p) 4:=rfl;refine ro 6 O (kc (zI Yy O I O) ?_);refine rr 4 O ?_;rcases(show v.p.place=0\/v.p.place=1\/v.p.place=2\/v.p.place=3\/v.p.place=4 by omega)with h5|h5|h5|h5|h5
  ·have b:[X.int .i64 (R A.parts:Int),bv (Z3 ((A.parts.take i).map aB.p) 0+1),bv (Z3 ((A.parts.take i).map aB.p) 1),bv (Z3 ((A.parts.take i).map aB.p) 2),bv (Z3 ((A.parts.take i).map aB.p) 3),bv (Z3 ((A.parts.take i).map aB.p) 4)]=(b8 A (i+1)).cs:=by unfold b8 iv.cs;simp only[eZ c,a,h5];simp
   rw[a];refine ro 5 O ?_;refine kc (zH Z8 O (aa.dQ (k:=.p i) (HA.dm f) O (.same _))) (kc (S.qf (i:=0) underlying191 sizeOf190 .none O (zt O) (zt O) h5 C) ?_);refine Rr 13 O I (Ab.D.lp ⟨i+1,I,I,O,O,O,(s8 b),O,O,O,O,O,O,Zo⟩)
  ·have b:[X.int .i64 (R A.parts:Int),bv (Z3 ((A.parts.take i).map aB.p) 0),bv (Z3 ((A.parts.take i).map aB.p) 1+1),bv (Z3 ((A.parts.take i).map aB.p) 2),bv (Z3 ((A.parts.take i).map aB.p) 3),bv (Z3 ((A.parts.take i).map aB.p) 4)]=(b8 A (i+1)).cs:=by unfold b8 iv.cs;simp only[eZ c,a,h5];simp
   rw[a];refine ro 5 O ?_;refine kc (zH Z8 O (aa.dQ (k:=.p i) (HA.dm f) O (.same _))) (kc (S.qf (i:=1) underlying191 sizeOf190 .none O (zt O) (zt O) h5 C) ?_);refine Rr 13 O I (Ab.D.lp ⟨i+1,I,I,O,O,O,(s8 b),O,O,O,O,O,O,Zo⟩)
  ·have b:[X.int .i64 (R A.parts:Int),bv (Z3 ((A.parts.take i).map aB.p) 0),bv (Z3 ((A.parts.take i).map aB.p) 1),bv (Z3 ((A.parts.take i).map aB.p) 2+1),bv (Z3 ((A.parts.take i).map aB.p) 3),bv (Z3 ((A.parts.take i).map aB.p) 4)]=(b8 A (i+1)).cs:=by unfold b8 iv.cs;simp only[eZ c,a,h5];simp
   rw[a];refine ro 5 O ?_;refine kc (zH Z8 O (aa.dQ (k:=.p i) (HA.dm f) O (.same _))) (kc (S.qf (i:=2) underlying191 sizeOf190 .none O (zt O) (zt O) h5 C) ?_);refine Rr 13 O I (Ab.D.lp ⟨i+1,I,I,O,O,O,(s8 b),O,O,O,O,O,O,Zo⟩)
  ·have b:[X.int .i64 (R A.parts:Int),bv (Z3 ((A.parts.take i).map aB.p) 0),bv (Z3 ((A.parts.take i).map aB.p) 1),bv (Z3 ((A.parts.take i).map aB.p) 2),bv (Z3 ((A.parts.take i).map aB.p) 3+1),bv (Z3 ((A.parts.take i).map aB.p) 4)]=(b8 A (i+1)).cs:=by unfold b8 iv.cs;simp only[eZ c,a,h5];simp
   rw[a];refine ro 5 O ?_;refine kc (zH Z8 O (aa.dQ (k:=.p i) (HA.dm f) O (.same _))) (kc (S.qf (i:=3) underlying191 sizeOf190 .none O (zt O) (zt O) h5 C) ?_);refine Rr 13 O I (Ab.D.lp ⟨i+1,I,I,O,O,O,(s8 b),O,O,O,O,O,O,Zo⟩)
  have b:[X.int .i64 (R A.parts:Int),bv (Z3 ((A.parts.take i).map aB.p) 0),bv (Z3 ((A.parts.take i).map aB.p) 1),bv (Z3 ((A.parts.take i).map aB.p) 2),bv (Z3 ((A.parts.take i).map aB.p) 3),bv (Z3 ((A.parts.take i).map aB.p) 4+1)]=(b8 A (i+1)).cs:=by unfold b8 iv.cs;simp only[eZ c,a,h5];simp
  rw[a];refine ro 5 O ?_;refine kc (zH Z8 O (aa.dQ (k:=.p i) (HA.dm f) O (.same _))) (kc (S.qf (i:=4) underlying191 sizeOf190 .none O (zt O) (zt O) h5 C) ?_);refine Rr 13 O I (Ab.D.lp ⟨i+1,I,I,O,O,O,(s8 b),O,O,O,O,O,O,Zo⟩)
 refine ro 9 O (kT O O Lr O O O ?_);unfold mZ;rw[Zm e,show i=R A.parts by omega,uw,j];rfl
def rZ{n:Net}{l:List Entry}{num:Int}(h:R n.aS<=1000)(L:sS l):gz prog 27 [.agg n.cs,.sl (l.map Entry.cs),bv num] (.cf [ints (oO n l num).1,bv (oO n l num).2]):=by
 refine cT func27 O fun K=>?_
 refine ro 3 O (kc (S.assign .none O .fW) (rr 8 O ?_));refine RK.qz (((Am h L).at K)) (fun _=>pP.az _ _ _) (fun _=>pP.mono) call62 O (zc O (zc O (zc O .nil))) O fun A=>?_
 refine rr 14 O (kB O (fun r=>?_) (fun r=>?_))
 ·have d:fV n l num≠0:=r;have C:oO n l num=([],fV n l num):=by unfold oO;rw[Zn d]
  refine ro 3 O (kc (S.assign .none O .fW) (rr 3 O (kS O O O O ?_)));rw[C];rfl
 have d:fV n l num=0:=Zu.1 r;have B:(bl n l).2.2=0:=wm d;refine OK.ud B O fun j t=>?_
 have F:A.plain.vr num=ix (fun v=>decide (v.p.num=num)) A.parts:=HA.gG A num;obtain⟨i,u⟩:=Cy d;have g:ix (fun v=>decide (v.p.num=num)) A.parts=some i:=by rw[←F,t];exact u
 obtain⟨v,f⟩:=at_of_lt (eE g).1;have G:qy n l num A=pV v.b:=by unfold qy;rw[Zn B];exact gd g (HA.Bt f)
 rw[G];have C:oO n l num=(v.es.mergeSort (fun x y=>decide (x<=y)),0):=by unfold oO;rw[Zm (by rw[d];decide),u];dsimp only[Option.getD_some];rw[←t,HA.dh f];rfl
 have hle:=j.le v (mr f);have J:=j.m0;have w:=HA.CA f;refine ro 3 O ?_;rcases hq:v.eh with _|q
 ·have z:=j.eh v (mr f) hq;have a:v.eh.v (R v.es)=.slice none 0 0:=by rw[hq,z];rfl
  have D:(v.es.mergeSort fun x y=>decide (x<=y))=[]:=by rw[z];simp
  have o:Gj A.mem (.raw (v.eh.v (R v.es))) (ints (v.es.mergeSort fun x y=>decide (x<=y))):=by rw[a,D];exact Fz.nil
  refine ro 4 O ?_;refine kc (zH Zd O (aa.dQ (k:=.p i) (HA.dm f) O (.same _))) ?_;refine RK.c (S.ik ((by rw[a];exact Gi xV)) (aa.az _) call70 .none O (zc O .nil) O O) ?_;refine rr 7 O ?_;refine kc (zH Zd O (aa.dQ (k:=.p i) (HA.dm f) O (.same _))) ?_;refine rr 4 O ?_;refine OK.pT [(6,ints (v.es.mergeSort fun x y=>decide (x<=y)))] O (by intro p h;simp at h;subst h;exact⟨by show(6:Nat)<1000;decide,_,rfl,o⟩) ?_;refine kS O O O O ?_;rw[C]
 rw[hq]at w;have H:A.mem (.e i)=some (q.1,.row 1 q.2 (v.es.map fun n=>[X.int .i64 n])):=w;have a:v.eh.v (R v.es)=.slice (some ⟨q.1,0,none⟩) (R v.es) q.2:=by rw[hq];rfl
 have o:Gj (A.mem.set (.e i) (some (q.1,.row 1 q.2 ((v.es.mergeSort fun x y=>decide (x<=y)).map fun n=>[X.int .i64 n])))) (.raw (v.eh.v (R v.es))) (ints (v.es.mergeSort fun x y=>decide (x<=y))):=by rw[a];exact EI (HM.bw _ _ _) (qK _)
 refine ro 4 O ?_;refine kc (zH Zd O (aa.dQ (k:=.p i) (HA.dm f) O (.same _))) ?_;refine RK.c (S.ik ((by rw[a];exact Gk xV (M:=A.mem) (kb:=.e i) (b:=q.1) (cap:=q.2) H rfl I)) (aa.az _) call70 .none O (zc O .nil) O O) ?_;refine rr 7 O ?_;refine kc (zH Zd O (aa.dQ (k:=.p i) ((HM.ai _ _ Z).trans (HA.dm f)) O (.same _))) ?_;refine rr 4 O ?_;refine OK.pT [(6,ints (v.es.mergeSort fun x y=>decide (x<=y)))] O (by intro p h;simp at h;subst h;exact⟨by show(6:Nat)<1000;decide,_,rfl,o⟩) ?_;refine kS O O O O ?_;rw[C]
end Go.Proofs.Z9
namespace Go.Proofs.Z9
open Go.Ab Tryz
def ou:Net:=⟨[⟨[111,108,97],1⟩,⟨[115,101,109],2⟩,⟨[105,110,97],3⟩,⟨[101,118,97],4⟩],[50,32,112,111,119,101,114],550,100,120⟩
def lu:List Entry:=[⟨1,[101,118,97],[114,101,99,105,112,101,32,114,32,104,101,97,116,32,52,48,48,32,50,59,113,117,101,110,99,104,32,49,32,51]⟩,⟨1,[115,101,109],[99,111,105,108,32,99,32,51]⟩,⟨2,[111,108,97],[115,116,97,114,116,32,49,32,114,32,99]⟩,⟨2,[111,108,97],[102,114,97,109,101,32,48,32,49,48]⟩,⟨3,[111,108,97],[102,114,97,109,101,32,49,32,49,50]⟩,⟨3,[111,108,97],[101,110,100]⟩,⟨4,[101,118,97],[109,111,100,101,108,32,49]⟩,⟨4,[101,118,97],[108,101,97,114,110,32,48]⟩,⟨5,[111,108,97],[115,116,97,114,116,32,50,32,114,32,99]⟩,⟨5,[111,108,97],[102,114,97,109,101,32,49,32,49,50]⟩,⟨5,[111,108,97],[102,114,97,109,101,32,48,32,49,48]⟩,⟨5,[111,108,97],[101,110,100]⟩,⟨5,[111,108,97],[103,111,111,100,32,50]⟩]
def C5:sS lu:=by
 intro x b;have e:(lu.all fun x=>decide (R x.text<=100000))=true:=by rfl
 have d:(lu.all fun x=>decide (dS (aL 32 x.text).1∈[some 10,some 6,some 1,some 2,some 3,some 11,some 12,some 4]))=true:=by rfl
 refine⟨pf (rm.1 e x b),fun k c=>?_⟩;have a:=pf (rm.1 d x b);rw[c]at a;simp only[sf,bθ,H4,or_false]at a;rcases a with rfl|rfl|rfl|rfl|rfl|rfl|rfl|rfl
 ·exact @GC
 ·exact @HY
 ·exact @HZ
 ·exact @H6
 all_goals simp[H7,GD,GF,H8]
def GG:([0,1,8,9,10,11,12]:bd).mergeSort (fun x y=>decide (x<=y))=[0,1,8,9,10,11,12]:=by
 have c:(([0,1,8,9,10,11,12]:bd).mergeSort fun x y=>decide (x<=y)).Pairwise (fun x y=>x<=y):=by
  have:=eα (le:=fun x y:Int=>decide (x<=y)) (by grind) (by grind) [0,1,8,9,10,11,12];simp_all
 exact(bμ _ _).eq_of_pairwise (fun a b _ _ c d=>I) c C
def GH:oO ou lu 2=([0,1,8,9,10,11,12],0):=by
 have h0:fV ou lu 2=0:=by decide+kernel
 have a:(((bl ou lu).1.parts[((bl ou lu).1.vr 2).getD 0]?.map (·.2)).getD [])=[0,1,8,9,10,11,12]:=by decide+kernel
 simp_all[oO,GG]
def H9:Cw ou lu [112,97,114,116,32,50]=([114,32,49,32,99,32,50,32,48],0):=by decide+kernel
def Ia:mZ ou lu=(⟨2,0,1,1,0,0⟩,0):=by decide+kernel
def uZ{P:Program}{f:Nat}{args:bi}{r a:X}(h:gz P f args r)(e:r=a):gz P f args a:=e▸h
def ov:Ct prog 57 [] (.agg ou.cs):=by
 refine cI func57 O (ro 7 O (kc (zU OW O O) (kc (zU OW O O) (kc (zU OW O O) (kc (zU OW O O) ?_)))));refine kc (S.mkData (rows:=[[_,_],[_,_],[_,_],[_,_]]) Jv .none O (zc O (zc O (zc O (zc O .nil)))) O O O O O O O) (kc (zU M6 O O) (kc (zU bu26 O O) ?_));refine rr 3 O (OK.ret (aA.r1 (zy O O XB O) ?_));rfl
def ow:Ct prog 58 [] (.sl (lu.map Entry.cs)):=by
 refine cI func58 O (kr (kc (S.assign .none O .fW) (rr 4 O (kc (zU VM O O) (kc (zU VM O O) (kc (zU VM O O) (kc (zU VM O O) (kc (zU VM O O) (kc (zU VM O O) (kc (zU VM O O) (kc (zU VM O O) ?_)))))))))));refine kc (zU VM O O) (kc (zU VM O O) (kc (zU VM O O) (kc (zU VM O O) (kc (zU VM O O) (kc (S.mkData (rows:=[[_,_,_],[_,_,_],[_,_,_],[_,_,_],[_,_,_],[_,_,_],[_,_,_],[_,_,_],[_,_,_],[_,_,_],[_,_,_],[_,_,_],[_,_,_]]) s_ .none O (zc O (zc O (zc O (zc O (zc O (zc O (zc O (zc O (zc O (zc O (zc O (zc O (zc O .nil))))))))))))) O O O O O O O) ?_)))));refine rr 3 O (kR O O ?_);rfl
def AK:gz prog 27 [.agg ou.cs,.sl (lu.map Entry.cs),bv 2] (.cf [ints [0,1,8,9,10,11,12],bv 0]):=uZ (rZ (n:=ou) (l:=lu) (num:=2) C C5) (by rw[GH])
def C6:gz prog 59 [.agg ou.cs,.sl (lu.map Entry.cs),.str [112,97,114,116,32,50]] (.cf [.str [114,32,49,32,99,32,50,32,48],bv 0]):=uZ (xU (n:=ou) (l:=lu) (q:=[112,97,114,116,32,50]) C C5 C) (by rw[H9])
def C7:gz prog 61 [.agg ou.cs,.sl (lu.map Entry.cs)] (.cf [.agg (iv.mk 2 0 1 1 0 0).cs,bv 0]):=uZ (rec_CountsOf (n:=ou) (l:=lu) C C5) (by rw[Ia])
def C8:Ct prog 60 [.str [97,98],bv 0] (.cf [bv 22541,bv 0]):=by
 have h:=Aw (l:=[97,98]) (a:=0);have e:(if 0<=(0:Int)/\(0:Int)<=999960 then rY [97,98] 0 else 0)=22541:=by decide+kernel
 have b:(if 0<=(0:Int)/\(0:Int)<=999960 then 0 else 2)=(0:Int):=C
 rw[e,b]at h;exact h
def AL:Ct prog 22 [ints [0,1,8,9,10,11,12],ints [0,1,8,9,10,11,12]] (.bool true):=by
 have h:=AM (a:=[0,1,8,9,10,11,12]) (b:=[0,1,8,9,10,11,12]);rw[Zz rfl]at h;exact h
def wR:gz prog 10 [] (.bool true):=by
 refine cT func10 O fun a=>?_
 refine ro 7 O (kc (zK ov call57 O) (kc (zK ow call58 O) (kc (S.dB (AK) a call27 .none O (zc O (zc O (zD O))) O) (rr 9 O (kc (zK ov call57 O) (kc (zK ow call58 O) ?_))))));refine kc (S.dB (C6) a call59 .none O (zc O (zc O (.cons (.bj (l:=[112,97,114,116,32,50]) O C) .nil))) O) ?_;refine rr 9 O (kc (zK C8 call60 O) (rr 9 O (kc (zK ov call57 O) (kc (zK ow call58 O) (kc (S.dB (C7) a call61 .none O (zc O (zc O .nil)) O) (rr 14 O ?_))))));refine kc (S.mkData (rows:=[[_],[_],[_],[_],[_],[_],[_]]) ZM (zg O O) O (zC O (zC O (zC O (zC O (zC O (zC O (zD O))))))) O O O O O O O) (kc (S.call (AL) call22 (zg O O) O (zc O (zc O .nil)) O) ?_);refine rr 23 O (kc (S.build Ln O (zg O O) O (zC O (zC O (zD O))) O O) (kc (S.II [2,0,1,1,0,0] [2,0,1,1,0,0] eq123 (zg O O) O (zt O) (zt O) O O O O) (rr 4 O (kR O O ?_))));rfl
end Go.Proofs.Z9
namespace Go.Proofs.Z9
open Go.Ab Tryz
section
variable{E:Env}{U:bc}{s:St}{code:Code}{Q:bo}{A:HA}{m:Int}{i:Nat}{v:aB}
theorem OK.KB(q:Nat×Nat)(n:Int)(a:A.Ok m)(o:(R v.es:Int)+1<=m+3)(d:A.parts[i]?=some v)(l:Ab.look s 3000=some (.res (aa ((A.mem.set (.e i) (some (q.1,.row 1 q.2 (bM v.es++[[bv n]])))).set (.p i) (some (v.b,.box ({v with eh:=some q,es:=v.es++[n]}:aB).cs))))))
  (j:n=A.entries) (h:∀g:HA,A.uQ g i {v with eh:=some q,es:=v.es++[n]} (A.plain.jO i) m->OK E code Q U ((3000,.res (aa g.mem))::s)):OK E code Q U s:=by
 have c:=mr d;refine OK.x7 (w:={v with eh:=some q,es:=v.es++[n]}) a d l O (HM.bw ..) ?_ ?_ (fun k t _ r=>by simp_all[HM.ai]) fun f=>h _ ⟨?_,O,f,wi ..,kA d,?_⟩
 ·simp_all[HM.ai,HA.FI]
 ·simp[HM.ai,HM.bw]
 ·refine HA.setP_ok a d (Int.le_refl _) a.m0.2 (a.fh v c) Z (a.lf v c) ?_ (a.pl v c) (a.nl v c);simp_all
 subst j;rw[HA.mj d,ax.jO,cR (HA.dh d)];rfl
end
def Jt(H:ax)(i:Nat)(q:Part×bd):Bool:=decide (q.1.oF=(H.p i).oF)&&decide (q.1.iN=(H.p i).iN)&&gE q.1
def NS(H:ax)(i:Nat)(q:Part×bd):Part×bd:=if Jt H i q=true then({q.1 with marked:=true},q.2++[H.entries])else q
def ax.Z0(H:ax)(i k:Nat):ax:={H with parts:=(H.parts.take k).map (NS H i)++H.parts.drop k}
def NO(H:ax)(i:Nat):H.Z0 i 0=H:=by rfl
def Rl(H:ax)(i:Nat){k:Nat}(h:k=R H.parts):H.Z0 i k=H.Ff i:=by
 subst h;unfold ax.Z0 ax.Ff;rw[List.take_length,no,i8];rfl
def XT{H:ax}{i k j:Nat}(a:k<=R H.parts)(h:k<=j):(H.Z0 i k).parts[j]?=H.parts[j]?:=by
 simp_all[ax.Z0,aκ]
def Kk(H:ax)(i:Nat)(q:Part×bd):(NS H i q).1.oF=q.1.oF/\(NS H i q).1.iN=q.1.iN:=by unfold NS;grind
def NQ{H:ax}{i k:Nat}(a:k<=R H.parts)(j:Nat):((H.Z0 i k).p j).oF=(H.p j).oF/\((H.Z0 i k).p j).iN=(H.p j).iN:=by
 unfold ax.p;rcases w7 j k with h|h
 ·have e:(H.Z0 i k).parts[j]?=(H.parts[j]?).map (NS H i):=by
   unfold ax.Z0;dsimp only;rw[m6 (by simp_all),i7,H0,Zn h]
  rw[e];cases H.parts[j]? with
  |none=>simp
  |some q=>exact Kk H i q
 rw[XT a h];simp
def We{H:ax}{i k:Nat}{q:Part×bd}(h:H.parts[k]?=some q):H.Z0 i (k+1)={H.Z0 i k with parts:=(H.Z0 i k).parts.set k (NS H i q)}:=by
 have c:k<R H.parts:=(sT.1 h).1;have a:H.parts[k]=q:=(sT.1 h).2;have b:R ((H.parts.take k).map (NS H i))=k:=by grind
 simp_all[ax.Z0,mv,np]
def NP{H:ax}{i k:Nat}{p:Part}{es:bd}(h:H.parts[k]?=some (p,es))(b:Jt H i (p,es)=true)(c:k<=R H.parts):((H.Z0 i k).eC k fun _=>{p with marked:=true}).jO k=H.Z0 i (k+1):=by
 have a:(H.Z0 i k).parts[k]?=some (p,es):=by simp_all[XT]
 rw[We h];unfold ax.eC ax.jO;dsimp only;rw[cR a,cR (kA a),eυ];congr 1;congr 1;unfold NS;rw[Zn b];rfl
def R4{H:ax}{i k:Nat}{q:Part×bd}(h:H.parts[k]?=some q)(b:Jt H i q=false)(a:k<=R H.parts):H.Z0 i k=H.Z0 i (k+1):=by
 simp_all[XT,NS,We,bw]
def MD{rest:ba}{H:ax}{i:Nat}(h:(H.p i).place≠1):yQ rest H i=(H,20):=Zn h
def KT{rest:ba}{H:ax}{i:Nat}(h:¬(H.p i).place≠1)(a:(DH rest).2≠0):yQ rest H i=(H,(DH rest).2):=by unfold yQ;simp_all
def KR{rest:ba}{H:ax}{i:Nat}(h:¬(H.p i).place≠1)(b:¬(DH rest).2≠0)(a:(It (DH rest).1 H.jq.limit).2≠0):yQ rest H i=(H,(It (DH rest).1 H.jq.limit).2):=by simp_all[yQ]
def ME{rest:ba}{H:ax}{i:Nat}(h:¬(H.p i).place≠1)(c:¬(DH rest).2≠0)(b:¬(It (DH rest).1 H.jq.limit).2≠0)(a:H.outside (It (DH rest).1 H.jq.limit).1=false):yQ rest H i=(H.eC i fun p=>{p with place:=4,depth:=(It (DH rest).1 H.jq.limit).1},0):=by
 simp_all[yQ]
def OJ{rest:ba}{H:ax}{i:Nat}(h:¬(H.p i).place≠1)(c:¬(DH rest).2≠0)(b:¬(It (DH rest).1 H.jq.limit).2≠0)(a:H.outside (It (DH rest).1 H.jq.limit).1=true):yQ rest H i=((H.eC i fun p=>{p with place:=4,depth:=(It (DH rest).1 H.jq.limit).1}).Ff i,0):=by
 simp_all[yQ]
def PM(A:HA)(rest:ba)(i:Nat):(yQ rest A.plain i).1.entries=A.entries:=by
 unfold yQ;dsimp only
 repeat' split
 all_goals rfl
def QM{a b:Part}:Ap [.s a.oF,.i a.iN] [.s b.oF,.i b.iN]=(decide (a.oF=b.oF)&&decide (a.iN=b.iN)):=by simp[Ap,Pl.eq]
def Vd{f:zZ}{n:Int}(c:V8 f)(d:0<=n/\n<=10000):Ct prog 214 [.agg f.cs,bv n] (.bool (decide (f.num<n * f.den))):=by
 refine cI func214 O fun{_ _}=>?_
 have g:=c.den;have e:=XU (a:=n) (b:=f.den) (A:=10000) (B:=2000) I I C;refine ro 13 O ?_;refine kc (S.mul .none O (zt O) (zt O) (mn _ I) (mn _ I)) ?_;refine rr 4 O (kR O O ?_);rfl
def Rt{f:zZ}{n:Int}(c:V8 f)(d:0<=n/\n<=10000):Ct prog 215 [.agg f.cs,bv n] (.bool (decide (f.num>n * f.den))):=by
 refine cI func215 O fun{_ _}=>?_
 have g:=c.den;have e:=XU (a:=n) (b:=f.den) (A:=10000) (B:=2000) I I C;refine ro 13 O ?_;refine kc (S.mul .none O (zt O) (zt O) (mn _ I) (mn _ I)) ?_;refine rr 4 O (kR O O ?_);rfl
def TE{A:HA}{m:Int}(P:A.Ok m)(hm:m+2<=1000)(hce:yP A.jq){n:Int}{rest:ba}(hrl:R rest<=600){i:Nat}{v:aB}(hv:A.parts[i]?=some v):dU prog 211 [] [.raw (pV v.b),.b5 (Words.mk [n] [rest]).cs,.b5 [.raw (pV A.b)]] [(3000,.res (aa A.mem))] [(3000,.res (JP A (yQ rest A.plain i).1 (m+1)))] (bv (yQ rest A.plain i).2):=by
 refine cH func211 O fun F=>?_
 have hp:=HA.mb hv;have hm0:=P.m0;have hcb:=P9 (DH rest).1 A.jq.limit;refine ro 12 O ?_;refine kc (zH Z8 O (aa.dQ (k:=.p i) (HA.dm hv) O (.same _))) ?_;refine rr 3 O (kB O (fun c15=>?_) (fun c15=>?_))
 ·have F:=MD (rest:=rest) (H:=A.plain) (i:=i) (by rw[hp];exact c15);refine ro 5 O ?_;refine OK.bU (J':=JP A (yQ rest A.plain i).1 (m+1)) O (JP.az _ _ _) (fun h Y w B=>HA.jp P I I (by rw[F]) B) ?_;refine OK.ret ⟨aA.r1 (zo O O) ?_,O,Zo⟩;rw[F];try rfl
 have hpl:¬(A.plain.p i).place≠1:=by rw[hp];exact c15
 refine ro 6 O ?_;refine kc (S.aP (n:=0) Z2 .none O (zt O) (.af O) O (by exact aθ _) O) (kc (zV Y9 O O) (kc (S.dB (W_ (s:=rest) I) F call212 .none O (zc O .nil) O) ?_));refine rr 15 O (kB O (fun c25=>?_) (fun c25=>?_))
 ·have F:=KT hpl c25;refine ro 6 O ?_;refine OK.bU (J':=JP A (yQ rest A.plain i).1 (m+1)) O (JP.az _ _ _) (fun h Y w B=>HA.jp P I I (by rw[F]) B) ?_;refine OK.ret ⟨aA.r1 (zo O O) ?_,O,Zo⟩;rw[F];try rfl
 refine ro 3 O ?_;refine kV (.c (zL UO O O O O) (.c (zV Xl O O) (.c (zn O O) (.c (zr Y3 O) (.c (zr WN O) (.c (zr Q1 O) (.c (zH Z8 O (aa.dQ (k:=.bn) O O (.same _))) (.c (zK (Rc (l:=(DH rest).1) (limit:=A.jq.limit)) call213 O) (.c (zm O) (.c (zX O O O) (.c (zX O O O) (.c (zA (c:=7) o_ O) (.c (zS VK O O O O O O) (.c (za O) .nil)))))))))))))) ?_;refine rd 8 O (kB O (fun c39=>?_) (fun c39=>?_))
 ·have F:=KR hpl c25 (show(It (DH rest).1 A.plain.jq.limit).2≠0 from c39);refine ro 6 O ?_;refine OK.bU (J':=JP A (yQ rest A.plain i).1 (m+1)) O (JP.az _ _ _) (fun h Y w B=>HA.jp P I I (by rw[F]) B) ?_;refine OK.ret ⟨aA.r1 (zo O O) ?_,O,Zo⟩;rw[F];try rfl
 have h39:¬(It (DH rest).1 A.plain.jq.limit).2≠0:=c39;refine ro 3 O ?_;refine kV (.c (zm O) (.c (zm O) (.c (zL VK O O O O) (.c (zn O O) (.c (zr YP O) (.c (zr Zl O) (.c (S.dc (xs':=({v with p:={v.p with place:=4}}:aB).cs) (.p i) Z8 .none (zt O) (.af O) O (HA.dm hv) O O O O O) (.c (zn O O) (.c (zr YP O) (.c (zr PX O) (.c (S.dc (xs':=({v with p:={v.p with place:=4,depth:=(It (DH rest).1 A.jq.limit).1}}:aB).cs) (.p i) VK .none (zt O) (zt O) O (HM.bw _ _ _) O O O O O) .nil))))))))))) (Ab.D.code (kO ?_));rw[HM.set_set];refine OK.y9 {v.p with place:=4,depth:=(It (DH rest).1 A.jq.limit).1} P hv O O (by dsimp only;decide) fun d hL=>?_
 have z:=hL.ok;have hlp1:=z.lp;have hm01:=z.m0;have T:d.jq=A.jq:=rn ax.jq hL.plain;have hc1:yP d.jq:=by rw[T];exact hce
 have hpl1:d.plain=A.plain.eC i fun p=>{p with place:=4,depth:=(It (DH rest).1 A.jq.limit).1}:=hL.plain.trans (ax.pZ (HA.dh hv) fun p=>{p with place:=4,depth:=(It (DH rest).1 A.jq.limit).1})
 rw[←hL.b];refine OK.join (G:=Bool) [] (fun bb=>[(0,.raw (pV v.b)),(2,.b5 [.raw (pV d.b)]),(73,.bool bb),(3000,.res (aa d.mem))]) (fun bb=>bb=(!(decide ((It (DH rest).1 A.jq.limit).1.lo.num<d.jq.lo * (It (DH rest).1 A.jq.limit).1.lo.den))&&!(decide ((It (DH rest).1 A.jq.limit).1.hi.num>d.jq.hi * (It (DH rest).1 A.jq.limit).1.hi.den)))) (fun _=>O) ?_ ?_
 ·by_cases a:(!(decide ((It (DH rest).1 A.jq.limit).1.lo.num<d.jq.lo * (It (DH rest).1 A.jq.limit).1.lo.den)))=true
  ·refine kV (.c (zf PV O) (.c (zL TT O O O O) (.c (zV Xl O O) (.c (zn O O) (.c (zr Y3 O) (.c (zr WN O) (.c (zr YH O) (.c (zr Ze O) (.c (zH Z8 O (aa.dQ (k:=.bn) O O (.same _))) (.c (zK (Vd (f:=(It (DH rest).1 A.jq.limit).1.lo) (n:=d.jq.lo) hcb.1 hc1.1) call214 O) (.c (S.jP .none O (zt O)) (.c (zm O) (.c (S.dH Lt (.yes O O O (by simpa using a)) O (zt O)) (.c (S.xK TT (.yes O O O (by simpa using a)) O (zt O) O O O O) (.c (S.Hz Xl (.yes O O O (by simpa using a)) O (zt O) O) (.c (S.Cn (.yes O O O (by simpa using a)) O (zt O) O) (.c (S.jC Y3 (.yes O O O (by simpa using a)) O (zt O)) (.c (S.jC WN (.yes O O O (by simpa using a)) O (zt O)) (.c (S.jC YH (.yes O O O (by simpa using a)) O (zt O)) (.c (S.jC YU (.yes O O O (by simpa using a)) O (zt O)) (.c (S.aG Z8 (.yes O O O (by simpa using a)) O (zt O) O (aa.dQ (k:=.bn) O O (.same _))) (.c (S.call (Rt (f:=(It (DH rest).1 A.jq.limit).1.hi) (n:=d.jq.hi) hcb.2 hc1.2) call215 (.yes O O O (by simpa using a)) O (zc O (zc O .nil)) O) (.c (S.jP (.yes O O O (by simpa using a)) O (zt O)) (.c (S.aQ .none O (zt O) (zt O) (by simpa using a)) .nil)))))))))))))))))))))))) ?_;refine Ab.D.lp ⟨(decide (¬(It (DH rest).1 A.jq.limit).1.hi.num>d.jq.hi * (It (DH rest).1 A.jq.limit).1.hi.den)),(by first|(rw[a,tn];exact decide_not)|(rw[bι.2 a];rfl)),O,O,O,O,Zo⟩
  refine kV (.c (zf PV O) (.c (zL TT O O O O) (.c (zV Xl O O) (.c (zn O O) (.c (zr Y3 O) (.c (zr WN O) (.c (zr YH O) (.c (zr Ze O) (.c (zH Z8 O (aa.dQ (k:=.bn) O O (.same _))) (.c (zK (Vd (f:=(It (DH rest).1 A.jq.limit).1.lo) (n:=d.jq.lo) hcb.1 hc1.1) call214 O) (.c (S.jP .none O (zt O)) (.c (zm O) (.c (zG O (by simpa using a)) (.c (zG O (by simpa using a)) (.c (zG O (by simpa using a)) (.c (zG O (by simpa using a)) (.c (zG O (by simpa using a)) (.c (zG O (by simpa using a)) (.c (zG O (by simpa using a)) (.c (zG O (by simpa using a)) (.c (zG O (by simpa using a)) (.c (zG O (by simpa using a)) (.c (zG O (by simpa using a)) (.c (S.aO .none O (zt O) .aJ (by simpa using a)) .nil)))))))))))))))))))))))) ?_;refine Ab.D.lp ⟨false,(by first|(rw[a,tn];exact decide_not)|(rw[bι.2 a];rfl)),O,O,O,O,Zo⟩
 rintro bb hbb;refine OK.cond O O (fun c73=>?_) (fun c73=>?_)
 ·have V:=hbb;rw[T]at V;have hO:A.plain.outside (It (DH rest).1 A.jq.limit).1=false:=by show(!((!(decide ((It (DH rest).1 A.jq.limit).1.lo.num<A.jq.lo * (It (DH rest).1 A.jq.limit).1.lo.den))&&!(decide ((It (DH rest).1 A.jq.limit).1.hi.num>A.jq.hi * (It (DH rest).1 A.jq.limit).1.hi.den)))))=false;rw[←V,c73];rfl
  have F:=ME hpl c25 h39 hO;refine ro 5 O ?_;refine OK.bU (J':=JP A (yQ rest A.plain i).1 (m+1)) O (JP.az _ _ _) (fun h Y w B=>hL.jp I I (hL.plain.symm.trans (hpl1.trans (by rw[F];rfl))) B) ?_;refine OK.ret ⟨aA.r1 (zo O O) ?_,O,Zo⟩;rw[F];try rfl
 have V:=hbb;rw[T]at V;have hO:A.plain.outside (It (DH rest).1 A.jq.limit).1=true:=by show(!((!(decide ((It (DH rest).1 A.jq.limit).1.lo.num<A.jq.lo * (It (DH rest).1 A.jq.limit).1.lo.den))&&!(decide ((It (DH rest).1 A.jq.limit).1.hi.num>A.jq.hi * (It (DH rest).1 A.jq.limit).1.hi.den)))))=true;rw[←V,c73];rfl
 have F:=OJ hpl c25 h39 hO;refine ro 8 O (kc (zH (u:=.sl (d.parts.map iA)) Yg O (aa.dQ (k:=.bn) O O (.sl z.ps))) (kc (zk Yy O) (rr 4 O ?_)));refine OK.bU (J':=JP d (d.plain.Z0 i 0) (m+1)) O (JP.az _ _ _) (fun h Y w B=>HA.jp z I I (NO _ _) B) ?_;refine OK.loop (G:=Nat) [] (fun k=>[(0,.raw (pV v.b)),(2,.b5 [.raw (pV d.b)]),(77,.sl (d.parts.map iA)),(78,bv (R d.parts)),(79,bv k),(3000,.res (JP d (d.plain.Z0 i k) (m+1)))]) (fun k=>k<=R d.parts) (fun k=>R d.parts - k) 0 (Zr _) ⟨O,O,O,O,O,O,Zo⟩ (fun _=>O) ?_;rintro k hk;refine ro 6 O (kB O (fun c80=>?_) (fun c80=>?_))
 ·have hil:k<R d.parts:=by omega
  refine OK.G9 O fun A2 y hb2 t g r=>?_
  obtain⟨w,hw⟩:=at_of_lt (l:=A2.parts) (i:=k) (by rw[g];exact hil);obtain⟨w0,hw0⟩:=at_of_lt (l:=A2.parts) (i:=i) (by rw[g,hL.len];exact gU hv);have hwb:d.parts[k].b=w.b:=by rw[←HA.pb_at hil,←t,HA.Bt hw]
  have hw0b:w0.b=v.b:=by rw[←HA.Bt hw0,t,hL.pb,HA.Bt hv]
  have W:k<=R d.plain.parts:=by show k<=R (d.parts.map _);rw[Zx];exact hk
  have hpk:d.plain.parts[k]?=some (w.p,w.es):=by rw[←XT (i:=i) W (Zq _),←r];exact HA.dh hw
  have M:w0.p.oF=(d.plain.p i).oF/\w0.p.iN=(d.plain.p i).iN:=by have h:=NQ (i:=i) W i;rw[←r,HA.mb hw0]at h;exact h
  have hwe:(R w.es:Int)<=m+3:=by
   obtain⟨w1,hw1⟩:=at_of_lt hil;have h1:=HA.dh hw1;rw[hpk]at h1;have h2:w.es=w1.es:=rn Prod.snd (aγ h1);rw[h2];exact z.le w1 (mr hw1)
  have hm02:=y.m0;rw[←hw0b,←hb2];refine ro 6 O (kc (zI Yy O I O) ?_);refine rr 5 O ?_;rw[hwb];by_cases j:(decide (w.p.oF=w0.p.oF)&&decide (w.p.iN=w0.p.iN))=true
  ·refine kV (.c (zm O) (.c (zn O O) (.c (zr YP O) (.c (zr Yt O) (.c (zJ (us:=[.str w.p.oF,bv w.p.iN]) MO O (aa.Ej (k:=.p k) (xs:=w.cs) (HA.dm hw) ⟨.same _,.same _,Zo⟩ O)) (.c (zm O) (.c (zn O O) (.c (zr YP O) (.c (zr Yt O) (.c (zJ (us:=[.str w0.p.oF,bv w0.p.iN]) MO O (aa.Ej (k:=.p i) (xs:=w0.cs) (HA.dm hw0) ⟨.same _,.same _,Zo⟩ O)) (.c (S.Mp (b:=(decide (w.p.oF=w0.p.oF)&&decide (w.p.iN=w0.p.iN))) [.s [],.i 0] [.s w.p.oF,.i w.p.iN] [.s w0.p.oF,.i w0.p.iN] Td .none O (zt O) (zt O) O O O O QM) (.c (zm O) (.c (S.move (.yes O O O (by simpa using j)) O (zt O)) (.c (S.fI ((fun J hS hJ=>(xT hw hS hJ).jR hS)) call129 (.yes O O O (by simpa using j)) O (zc O .nil) O O) (.c (S.aQ .none O (zt O) (zt O) (by simpa using j)) .nil))))))))))))))) ?_;refine Ab.D.code (OK.cond O O (fun c97=>?_) (fun c97=>?_))
   ·have hG:Jt d.plain i (w.p,w.es)=true:=by show(decide (w.p.oF=(d.plain.p i).oF)&&decide (w.p.iN=(d.plain.p i).iN)&&gE w.p)=true;rw[←M.1,←M.2,j,c97];rfl
    refine ro 6 O (kc (S.dc (xs':=({w with p:={w.p with marked:=true}}:aB).cs) (.p k) SP .none (zt O) .aJ O (HA.dm hw) O O O O O) (kD (OK.y9 {w.p with marked:=true} y hw O O (y.pl w (mr hw)) fun A3 K=>?_)));have o:=K.ok;obtain⟨N,L,hwb3,hwp3,hwe3⟩:∃N:aB,A3.parts[k]?=some N/\N.b=w.b/\N.p={w.p with marked:=true}/\N.es=w.es:=⟨_,K.at_,rfl,rfl,rfl⟩;rw[←hwb3,←K.b];refine OK.Ye follows (ι:=(Nat×Nat)) (0,0) 10 O (S.happR (s:=[(106,.raw (N.eh.v N.es.length)),(111,.own 111 1),(2111,.arr 1 [[bv A3.entries]]),(3000,.res (aa A3.mem))]) (m:=1) (rows2:=[[bv A3.entries]]) (.e k) ZM O (zt O) (o.IG L) (zt O) O O O C (by simp only[bM,Zx];have:=o.le _ (mr L);have:=o.m0;omega) (by simp only[bM,Zx,maxLen];have:=o.le _ (mr L);have:=o.m0;omega)).st (fun q=>(.cs (zm O) (.cs (zm O) (.cs (zn O O) (.cs (zr Q8 O) (.cs (zH Zd O (aa.dQ (k:=.p k) (HA.dm L) O (.same _))) (.cs (zV Xl O O) (.cs (zn O O) (.cs (zr Y4 O) (.cs (zH Z8 O (aa.dQ (k:=.bn) O O (.same _))) (.cs (zM [[_]] ZM O O O O)
     (.x ⟨O,O,O,O,Zo⟩ (.cn (zn O O) (.cn (zr Q8 O) (.cn (S.dc (xs:=N.cs) (xs':=({N with eh:=some q,es:=N.es++[A3.entries]}:aB).cs) (.p k) Zd .none (zt O) (zt O) O ((HM.ai _ _ Z).trans (HA.dm L)) O O O O (ni N q _)) .nil))))))))))))))) (fun q=>?_)
    refine Ab.D.blk (Ab.D.code ?_);refine OK.KB q _ o (by rw[hwe3];omega) L O O fun A4 X=>?_
    refine OK.bU (J':=JP d (d.plain.Z0 i (k+1)) (m+1)) O (JP.az _ _ _) (fun h Y w B=>⟨A4,⟨X.ok,X.b.trans (K.b.trans hb2),X.pb.trans (K.pb.trans t),X.len.trans (K.len.trans g),by rw[X.plain,K.plain,r];exact NP hpk hG W⟩,B⟩) ?_;refine Ro 4 O I (Ab.D.lp ⟨k+1,I,I,O,O,O,O,O,O,Zo⟩)
   refine ro 3 O ?_;have hG:Jt d.plain i (w.p,w.es)=false:=by show(decide (w.p.oF=(d.plain.p i).oF)&&decide (w.p.iN=(d.plain.p i).iN)&&gE w.p)=false;rw[←M.1,←M.2];first|(rw[bι.2 j];rfl)|(rw[j,c97];rfl)
   refine OK.bU (J':=JP d (d.plain.Z0 i (k+1)) (m+1)) O (JP.az _ _ _) (fun h Y w B=>⟨A2,⟨y,hb2,t,g,by rw[r];exact R4 hpk hG W⟩,B⟩) ?_;refine Ro 4 O I (Ab.D.lp ⟨k+1,I,I,O,O,O,O,O,O,Zo⟩)
  refine kV (.c (zm O) (.c (zn O O) (.c (zr YP O) (.c (zr Yt O) (.c (zJ (us:=[.str w.p.oF,bv w.p.iN]) MO O (aa.Ej (k:=.p k) (xs:=w.cs) (HA.dm hw) ⟨.same _,.same _,Zo⟩ O)) (.c (zm O) (.c (zn O O) (.c (zr YP O) (.c (zr Yt O) (.c (zJ (us:=[.str w0.p.oF,bv w0.p.iN]) MO O (aa.Ej (k:=.p i) (xs:=w0.cs) (HA.dm hw0) ⟨.same _,.same _,Zo⟩ O)) (.c (S.Mp (b:=(decide (w.p.oF=w0.p.oF)&&decide (w.p.iN=w0.p.iN))) [.s [],.i 0] [.s w.p.oF,.i w.p.iN] [.s w0.p.oF,.i w0.p.iN] Td .none O (zt O) (zt O) O O O O QM) (.c (zm O) (.c (zG O (by simpa using j)) (.c (zG O (by simpa using j)) (.c (S.aO .none O (zt O) .aJ (by simpa using j)) .nil))))))))))))))) ?_;refine rd 5 O ?_;have hG:Jt d.plain i (w.p,w.es)=false:=by show(decide (w.p.oF=(d.plain.p i).oF)&&decide (w.p.iN=(d.plain.p i).iN)&&gE w.p)=false;rw[←M.1,←M.2];first|(rw[bι.2 j];rfl)|(rw[j,c97];rfl)
  refine OK.bU (J':=JP d (d.plain.Z0 i (k+1)) (m+1)) O (JP.az _ _ _) (fun h Y w B=>⟨A2,⟨y,hb2,t,g,by rw[r];exact R4 hpk hG W⟩,B⟩) ?_;refine Ro 4 O I (Ab.D.lp ⟨k+1,I,I,O,O,O,O,O,O,Zo⟩)
 refine ro 7 O ?_;refine OK.bU (J':=JP A (yQ rest A.plain i).1 (m+1)) O (JP.az _ _ _) (fun h Y w B=>B.elim fun A' h1=>⟨A',⟨h1.1.1,h1.1.2.1.trans hL.b,h1.1.2.2.1.trans hL.pb,h1.1.2.2.2.1.trans hL.len,h1.1.2.2.2.2.trans ((Rl _ _ (by show k=R (d.parts.map _);rw[Zx];omega)).trans (by rw[F,hpl1];rfl))⟩,h1.2⟩) ?_;refine OK.ret ⟨aA.r1 (zo O O) ?_,O,Zo⟩;rw[F];try rfl
def Sa{A:HA}{m:Int}(a:A.Ok m)(g:m+2<=1000)(e:yP A.jq){n:Int}{rest:ba}(d:R rest<=600):dU prog 163 [] [.raw (pV A.b),.agg (Words.mk [n] [rest]).cs] [(3000,.res (aa A.mem))] [(3000,.res (JX A.b (cK A.plain n (yQ rest)).1 (m+2)))] (bv (cK A.plain n (yQ rest)).2):=by
 refine cH func163 O fun j=>?_
 refine ro 8 O (OK.freezeP [3] [(3,.ptr 3 0),(1003,.box (Words.mk [n] [rest]).cs),(3000,.res (aa A.mem))] 2 O O O O O O ⟨O,O,O,Zo⟩ O (OK.freezeP [] [(2,.b5 [.raw (pV A.b)]),(3000,.res (aa A.mem))] 3 O O O O O O ⟨O,O,Zo⟩ O (ro 3 O (kc (S.s5 .none O (zt O) (zt O) O O) ?_))));refine RK.c (S.ik (((tG a g (n:=n) (tx:=[rest]) (f:=211) (caps:=[.b5 (Words.mk [n] [rest]).cs,.b5 [.raw (pV A.b)]]) call211 O O (ac:=yQ rest) (fun i v h _=>TE a g e d h) (fun i=>PM A rest i)).jR j (aa.az _))) (JX.az _ _ _) call207 .none O (zc O (zc O (zc O .nil))) O O) ?_;refine rr 3 O (OK.ret ⟨aA.r1 (zo O O) ?_,O,Zo⟩);rfl
def eff_9:lG 9:=fun a b _ d _ c=>Sa a b d c.1
def Qd{k:Nat}(h:k<13):lG k:=by
 match k,h with
 |0,_=>exact @eff_0
 |1,_=>exact @HZ
 |2,_=>exact @H6
 |3,_=>exact @H7
 |4,_=>exact @H8
 |5,_=>exact @eff_5
 |6,_=>exact @HY
 |7,_=>exact @eff_7
 |8,_=>exact @eff_8
 |9,_=>exact @eff_9
 |10,_=>exact @GC
 |11,_=>exact @GD
 |12,_=>exact @GF
def Ni{l:List Entry}(h:∀x∈l,R x.text<=100000):sS l:=fun x a=>⟨h x a,fun _ b=>Qd (eE b).1⟩
end Go.Proofs.Z9
namespace Go.Proofs.Z9
open Go.Ab Tryz
theorem Vp{n:Net}{l:List Entry}(a:(iG n).2≠0):bl n l=(ax.init n (bP n.aS).1,0,(iG n).2):=by
 simp_all[ua,W4,bl]
def Zi(x:Entry):Bool:=!((decide (200<R x.text)&&decide (R x.text<=600))||(decide (620<R x.text)||decide (20<R x.vq)))
def Z1(l:List Entry):Bool:=!((decide (40<R l)&&decide (R l<=60))||decide (64<R l))&&l.all Zi
theorem X6{x:Entry}(h:(200<R x.text/\R x.text<=600)\/620<R x.text\/20<R x.vq):Zi x=false:=by
 unfold Zi;grind
def QI{x:Entry}(h:¬(200<R x.text/\R x.text<=600))(b:¬620<R x.text)(a:¬20<R x.vq):Zi x=true:=by
 grind [Zi]
def MG{x:Entry}(h:Zi x=true):R x.text<=620:=by
 grind [X6]
def QJ{l:List Entry}(h:(40<R l/\R l<=60)\/64<R l):Z1 l=false:=by
 unfold Z1;grind
def Ll{l:List Entry}(h:¬(40<R l/\R l<=60))(a:¬64<R l):Z1 l=l.all Zi:=by
 grind [Z1]
def XJ{l:List Entry}{i:Nat}(hi:i<R l)(a:Zi l[i]=false):(l.drop i).all Zi=false:=by
 grind [List.drop_eq_getElem_cons]
def QK{l:List Entry}{i:Nat}(hi:i<R l)(a:Zi l[i]=true):(l.drop i).all Zi=(l.drop (i+1)).all Zi:=by
 grind [List.drop_eq_getElem_cons]
def OL{l:List Entry}(h:Z1 l=true):R l<=64/\∀x∈l,R x.text<=620:=by
 simp_all[Z1,MG]
def Sv{n:Net}{l:List Entry}(h:(bl n l).2.2=0):(iG n).2=0/\R l<=60/\bl n l=runT (ax.init n (bP n.aS).1) 0 l:=by
 grind [Vo,Vq,Vp]
def XE{l:List Entry}(hlen:R l<=100000):Ct prog 15 [.sl (l.map Entry.cs)] (.sl (l.map Entry.cs)):=by
 refine cI func15 O (kr (kc (S.assign .none O .fW) (rr 4 O (RK.c (zM [] s_ O O O O) (jm O ?_)))));refine RK.c (S.mQ s_ .none O (zt O) O N (zt O) (by intro q a;obtain⟨b,_,rfl⟩:=rx.1 a;rfl) O (by simp only[Zx];omega) (by simp only[maxLen,Zx];omega)) ?_;refine rr 3 O ?_;refine OK.ret (aA.r1 (.tmp O O (.c (.own O O N) O) O) ?_);rfl
def TG{n:Net}{l:List Entry}(c:R n.aS<=1000)(d:∀x∈l,R x.text<=100000):Ct prog 18 [.agg n.cs,.sl (l.map Entry.cs)] (bv (bl n l).2.2):=by
 refine cI func18 O (ro 10 O (kc (zK (Xg c) call49 O) (rr 9 O (kB O (fun a=>?_) (fun a=>?_)))))
 ·have e:=Vp (l:=l) a;refine ro 6 O (kR O O ?_);rw[e];try rfl
 have b:=Zu.1 a;refine ro 6 O (kc (zK (Xh c b d) call69 O) (rr 16 O (kR O O ?_)));rfl
def Xj{n:Net}{l:List Entry}(a:R n.aS<=1000)(b:(iG n).2=0)(c:∀x∈l,R x.text<=100000):Ct prog 20 [.agg n.cs,.sl (l.map Entry.cs)] (.agg (RJ n l).cs):=by
 refine cI func20 O (ro 10 O (kc (zK (Xh a b c) call69 O) (rr 16 O (OK.ret (aA.r1 (zy O O Z_ O) ?_)))));rfl
def Wc{l:List Entry}:Ct prog 12 [.sl (l.map Entry.cs)] (.bool (Z1 l)):=by
 refine cI func12 O (OK.eW (rows:=l.map Entry.cs) (t:=0) O O fun hlen=>?_);rw[Zx]at hlen;unfold maxLen at hlen;refine ro 9 O (kc (zk YI O) (rr 2 O (RK.bh (t:=8) O (fun p=>?_) (fun p=>?_))))
 ·refine kc (S.move (zg O O) O (zt O)) (kc (S.Hp YI (zg O O) O (zt O)) (rr 3 O (RK.bh (t:=13) O (fun o=>?_) (fun o=>?_))))
  ·have b:Z1 l=false:=QJ I;refine rr 12 O (kR O O ?_);rw[b];try rfl
  refine kc (S.move (zg O O) O (zt O)) (kc (S.Hp YI (zg O O) O (zt O)) (rr 4 O (kB O (fun k=>?_) (fun k=>?_))))
  ·have b:Z1 l=false:=QJ I;refine ro 5 O (kR O O ?_);rw[b];try rfl
  have f:=Ll (l:=l) I I;refine ro 9 O ?_;refine OK.loop (G:=Nat) [] (fun i=>[(0,.sl (l.map Entry.cs)),(3,bv i)]) (fun i=>i<=R l/\Z1 l=(l.drop i).all Zi) (fun i=>R l - i) 0 ⟨Zr _,f⟩ ⟨O,O,Zo⟩ (fun _=>O) ?_;rintro i ⟨hi,c⟩;refine ro 5 O (kc (zk YI O) (rr 3 O (kB O (fun j=>?_) (fun j=>?_))))
  ·have a:i<R l:=by omega
   refine ro 8 O (kc (zI YI O I O) ?_);refine rr 11 O (RK.bh (t:=32) O (fun h=>?_) (fun h=>?_))
   ·refine rr 4 O (RK.bh (t:=36) O (fun g=>?_) (fun g=>?_))
    ·have b:Z1 l=false:=by rw[c,XJ a (X6 I)]
     refine rr 20 O (kR O O ?_);rw[b];try rfl
    refine rr 4 O (RK.bh (t:=40) O (fun d=>?_) (fun d=>?_))
    ·have b:Z1 l=false:=by rw[c,XJ a (X6 I)]
     refine rr 16 O (kR O O ?_);rw[b];try rfl
    refine rr 2 O (kc (S.aP (n:=i) YI (zg O O) O (zt O) (zt O) O I O) ?_);refine rr 7 O (kB O (fun e=>?_) (fun e=>?_))
    ·have b:Z1 l=false:=by rw[c,XJ a (X6 I)]
     refine ro 5 O (kR O O ?_);rw[b];try rfl
    refine Ro 8 O I (Ab.D.lp ⟨i+1,⟨by omega,by rw[c,QK a (QI I I I)]⟩,I,O,O,Zo⟩)
   refine rr 8 O (RK.bh (t:=40) O (fun d=>?_) (fun d=>?_))
   ·have b:Z1 l=false:=by rw[c,XJ a (X6 I)]
    refine rr 16 O (kR O O ?_);rw[b];try rfl
   refine rr 2 O (kc (S.aP (n:=i) YI (zg O O) O (zt O) (zt O) O I O) ?_);refine rr 7 O (kB O (fun e=>?_) (fun e=>?_))
   ·have b:Z1 l=false:=by rw[c,XJ a (X6 I)]
    refine ro 5 O (kR O O ?_);rw[b];try rfl
   refine Ro 8 O I (Ab.D.lp ⟨i+1,⟨by omega,by rw[c,QK a (QI I I I)]⟩,I,O,O,Zo⟩)
  have b:Z1 l=true:=by rw[c,show i=R l by omega,no];rfl
  refine ro 7 O (kR O O ?_);rw[b];try rfl
 refine rr 6 O (kc (S.Hp YI (zg O O) O (zt O)) (rr 4 O (kB O (fun k=>?_) (fun k=>?_))))
 ·have b:Z1 l=false:=QJ I;refine ro 5 O (kR O O ?_);rw[b];try rfl
 have f:=Ll (l:=l) I I;refine ro 9 O ?_;refine OK.loop (G:=Nat) [] (fun i=>[(0,.sl (l.map Entry.cs)),(3,bv i)]) (fun i=>i<=R l/\Z1 l=(l.drop i).all Zi) (fun i=>R l - i) 0 ⟨Zr _,f⟩ ⟨O,O,Zo⟩ (fun _=>O) ?_;rintro i ⟨hi,c⟩;refine ro 5 O (kc (zk YI O) (rr 3 O (kB O (fun j=>?_) (fun j=>?_))))
 ·have a:i<R l:=by omega
  refine ro 8 O (kc (zI YI O I O) ?_);refine rr 11 O (RK.bh (t:=32) O (fun h=>?_) (fun h=>?_))
  ·refine rr 4 O (RK.bh (t:=36) O (fun g=>?_) (fun g=>?_))
   ·have b:Z1 l=false:=by rw[c,XJ a (X6 I)]
    refine rr 20 O (kR O O ?_);rw[b];try rfl
   refine rr 4 O (RK.bh (t:=40) O (fun d=>?_) (fun d=>?_))
   ·have b:Z1 l=false:=by rw[c,XJ a (X6 I)]
    refine rr 16 O (kR O O ?_);rw[b];try rfl
   refine rr 2 O (kc (S.aP (n:=i) YI (zg O O) O (zt O) (zt O) O I O) ?_);refine rr 7 O (kB O (fun e=>?_) (fun e=>?_))
   ·have b:Z1 l=false:=by rw[c,XJ a (X6 I)]
    refine ro 5 O (kR O O ?_);rw[b];try rfl
   refine Ro 8 O I (Ab.D.lp ⟨i+1,⟨by omega,by rw[c,QK a (QI I I I)]⟩,I,O,O,Zo⟩)
  refine rr 8 O (RK.bh (t:=40) O (fun d=>?_) (fun d=>?_))
  ·have b:Z1 l=false:=by rw[c,XJ a (X6 I)]
   refine rr 16 O (kR O O ?_);rw[b];try rfl
  refine rr 2 O (kc (S.aP (n:=i) YI (zg O O) O (zt O) (zt O) O I O) ?_);refine rr 7 O (kB O (fun e=>?_) (fun e=>?_))
  ·have b:Z1 l=false:=by rw[c,XJ a (X6 I)]
   refine ro 5 O (kR O O ?_);rw[b];try rfl
  refine Ro 8 O I (Ab.D.lp ⟨i+1,⟨by omega,by rw[c,QK a (QI I I I)]⟩,I,O,O,Zo⟩)
 have b:Z1 l=true:=by rw[c,show i=R l by omega,no];rfl
 refine ro 7 O (kR O O ?_);rw[b];try rfl
