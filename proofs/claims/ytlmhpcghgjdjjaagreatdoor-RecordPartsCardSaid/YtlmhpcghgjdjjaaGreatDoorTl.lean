import Derived.Test.YtlmhpcghgjdjjaaGreatDoorSa
set_option linter.all false
set_option maxHeartbeats 1000000
open List renaming length->R
namespace Go.Proofs.Z9
open Go.Ab Tryz
set_option maxRecDepth 9999
def UF(p:Int×Int):bi:=[bv p.1,bv p.2]
def NL{l:List jI}{i:Nat}(h:i<R l):(GX l).take (i+1)=(GX l).take i++[(l[i].depth,l[i].lo)]:=by
 simp_all[GX,mv]
def OZ{l:List jI}{i:Nat}(h:i<R l):(yu l).take (i+1)=(yu l).take i++[(l[i].depth,l[i].hi)]:=by
 simp_all[yu,mv]
def U6(l:List jI):R (GX l)=R l:=Zx ..
def Xo(l:List jI):R (yu l)=R l:=Zx ..
def VU{c:List (Int×Int)}{i n:Nat}(a:R c=n)(h:i<=n):R ((c.take i).map UF)=i:=by
 simp_all
def TA{c:List (Int×Int)}{i n:Nat}(a:R c=n)(h:i=n):c.take i=c:=by grind
structure UL(c:List (Int×Int)):Prop where
 at_:∀p∈c,1<=p.1/\p.1<=10000
 num:∀p∈c,0<=p.2/\p.2<=2000
 asc:∀j (h:j+1<c.length),(c[j]' I).1<c[j+1].1
def Wr.lower{l:List jI}(h:Wr l):UL (GX l):=by
 refine⟨fun p b=>?_,fun p b=>?_,fun j c=>?_⟩
 ·obtain⟨x,a,rfl⟩:=rx.1 b;exact(h.ok x a).depth
 ·obtain⟨x,a,rfl⟩:=rx.1 b;exact(h.ok x a).lo
 rw[U6]at c;have:=h.asc j c;simp_all[GX]
def Wr.upper{l:List jI}(h:Wr l):UL (yu l):=by
 refine⟨fun p b=>?_,fun p b=>?_,fun j c=>?_⟩
 ·obtain⟨x,a,rfl⟩:=rx.1 b;exact(h.ok x a).depth
 ·obtain⟨x,a,rfl⟩:=rx.1 b;exact(h.ok x a).hi
 rw[Xo]at c;have:=h.asc j c;simp_all[yu]
def idx_n{α:Type}{g:α->Bool}{l:List α}(h:ix g l=none):bq g 0 l= -1:=by rw[my,h]
def idx_s{α:Type}{g:α->Bool}{l:List α}{j:Nat}(h:ix g l=some j):bq g 0 l=(j:Int):=by rw[my,h]
abbrev ZG(limit:Int):Int×Int->Bool:=fun p=>decide (p.2<limit)
def WU{c:List (Int×Int)}{limit:Int}(h:ix (ZG limit) c=none):yt c limit=(⟨0,0⟩,false):=by unfold yt;rw[h]
def WT{c:List (Int×Int)}{limit:Int}(h:ix (ZG limit) c=some 0)(a:0<R c):yt c limit=(zO c[0].1 1,true):=by simp_all[yt]
def WV{c:List (Int×Int)}{limit:Int}{k:Nat}(h:ix (ZG limit) c=some (k+1))(a:k+1<R c):yt c limit=(zO (c[k+1].1 * ((c[k]' I).2 - c[k+1].2)+((c[k]' I).1 - c[k+1].1) * (limit - c[k+1].2)) ((c[k]' I).2 - c[k+1].2),true):=by
 grind [yt]
def XU{a b A B:Int}(d: -A<=a/\a<=A)(c: -B<=b/\b<=B)(e:0<=A): -(A * B)<=a * b/\a * b<=A * B:=by
 have h:a.natAbs<=A.natAbs:=I
 have g:b.natAbs<=B.natAbs:=I
 have f:(a * b).natAbs<=(A * B).natAbs:=by simp_all[Int.natAbs_mul,Nat.mul_le_mul]
 grind [Int.mul_nonneg]
def UB{a g:Int}(b:0<=a)(c:0<g):0<=a.tdiv g/\a.tdiv g<=a:=by
 rw[Int.tdiv_eq_ediv_of_nonneg b];refine⟨Int.ediv_nonneg b I,?_⟩;exact Int.ediv_le_self _ b
def W7{a b:Int}(c:0<=a)(d:0<b):0<HL a b:=by
 rw[Yq c I I];exact RS ((a.tmod b).toNat+1) b (a.tmod b) d (bη b c) I
def VT{c:List (Int×Int)}(d:UL c){limit:Int}(u:0<=limit/\limit<=2000){k:Nat}(h:ix (ZG limit) c=some (k+1))(e:k+1<R c):
  let a:=c[k+1];let b:=c[k]' I
  (1<=b.2 - a.2/\b.2 - a.2<=2000)/\(0<=a.1 * (b.2 - a.2)+(b.1 - a.1) * (limit - a.2)/\a.1 * (b.2 - a.2)+(b.1 - a.1) * (limit - a.2)<=1000000000)/\(-100000000<=a.1 * (b.2 - a.2)/\a.1 * (b.2 - a.2)<=100000000)/\(-100000000<=(b.1 - a.1) * (limit - a.2)/\(b.1 - a.1) * (limit - a.2)<=100000000):=by
 intro a b;have o:=d.at_ a (Zt e);have n:=d.num a (Zt e);have m:=d.at_ b (Zt _);have l:=d.num b (Zt _);have i:a.2<limit:=by
  obtain⟨_,p⟩:=eE h;exact pf p
 have j:¬b.2<limit:=by
  have:=Xt (ZG limit) c 0 (k+1) h k I b (Zv I);exact a6 this
 have f:b.1<a.1:=d.asc k e;have t:=XU (a:=a.1) (b:=b.2 - a.2) (A:=10000) (B:=2000) I I C;have g:=XU (a:=b.1 - a.1) (b:=limit - a.2) (A:=10000) (B:=2000) I I C;have s:(a.1 - b.1) * (limit - a.2)<=(a.1 - b.1) * (b.2 - a.2):=dε I I;have r:0<=b.1 * (b.2 - a.2):=cη I I;have q:(b.1 - a.1) * (limit - a.2)= -((a.1 - b.1) * (limit - a.2)):=by rw[←Int.neg_mul,Int.neg_sub]
 have v:(a.1 - b.1) * (b.2 - a.2)=a.1 * (b.2 - a.2) - b.1 * (b.2 - a.2):=Int.sub_mul ..;refine⟨I,?_,I,I⟩;rw[q]at g⊢;omega
theorem QV{l:List jI}{limit:Int}(h:aF [(FU l).2,ae (ve limit) 2]≠0):It l limit=(Span.zero,aF [(FU l).2,ae (ve limit) 2]):=Zn h
def VH{l:List jI}{limit:Int}(h:¬aF [(FU l).2,ae (ve limit) 2]≠0)(a:((yu l).getD 0 (0,0)).2<limit):It l limit=(Span.zero,12):=by simp_all[It]
def VI{l:List jI}{limit:Int}(h:¬aF [(FU l).2,ae (ve limit) 2]≠0)(b:¬((yu l).getD 0 (0,0)).2<limit)(a:(yt (yu l) limit).2=false):It l limit=(Span.zero,21):=by simp_all[It]
def S4{l:List jI}{limit:Int}(h:¬aF [(FU l).2,ae (ve limit) 2]≠0)(b:¬((yu l).getD 0 (0,0)).2<limit)(a:(yt (yu l) limit).2=true):It l limit=(⟨(yt (GX l) limit).1,(yt (yu l) limit).1⟩,0):=by simp_all[It]
def P_{a:Int}{b:Bool}(h:¬aF [a,ae b 2]≠0):a=0/\b=true:=by
 by_cases c:a=0
 ·subst c;cases b
  ·exact absurd C h
  simp
 simp_all[aF]
structure V8(f:zZ):Prop where
 num:0<=f.num/\f.num<=1000000000
 den:0<=f.den/\f.den<=2000
def NM{n d:Int}(c:0<=n/\n<=1000000000)(hd:1<=d/\d<=2000):V8 (zO n d):=by
 have e:=W7 (a:=n) (b:=d) c.1 I;have g:=UB c.1 e;have f:=UB (a:=d) I e;exact⟨⟨g.1,by show n.tdiv _<=_;omega⟩,⟨f.1,by show d.tdiv _<=_;omega⟩⟩
def RO{c:List (Int×Int)}(b:UL c){limit:Int}(d:0<=limit/\limit<=2000):V8 (yt c limit).1:=by
 cases h:ix (ZG limit) c with
 |none=>rw[WU h];exact⟨C,C⟩
 |some j=>
  have a:=(eE h).1;cases j with
  |zero=>
   rw[WT h a];have:=b.at_ _ (Zt a);exact NM I C
  |succ k=>
   rw[WV h a];obtain⟨f,e,_⟩:=VT b d h a;exact NM e f
def P9(l:List jI)(limit:Int):V8 (It l limit).1.lo/\V8 (It l limit).1.hi:=by
 have g:V8 Span.zero.lo/\V8 Span.zero.hi:=⟨⟨C,C⟩,⟨C,C⟩⟩;by_cases h:aF [(FU l).2,ae (ve limit) 2]≠0
 ·grind [QV]
 obtain⟨f,e⟩:=P_ h;have a:=VZ f;have b:0<=limit/\limit<=2000:=pf e;by_cases d:((yu l).getD 0 (0,0)).2<limit
 ·simp_all[VH]
 cases c:(yt (yu l) limit).2 with
 |false=>simp_all[VI]
 |true=>rw[S4 h d c];exact⟨RO a.lower b,RO a.upper b⟩
def RY{a b:Int}(i:0<=a/\a<=1000000000000)(h:0<=b/\b<=1000000000000):Ct prog 358 [bv a,bv b] (bv (HL a b)):=by
 refine cI func358 O (ro 7 O ?_);refine OK.mP [] (fun(x:Int)(y:Int)=>[(0,bv x),(1,bv y)]) (fun x y=>(0<=x/\x<=1000000000000)/\(0<=y/\y<=1000000000000)/\HL a b=HL x y) (fun x y=>y.toNat) (a) (b) ⟨i,h,O⟩ ⟨O,O,Zo⟩ (fun _ _=>O) ?_;rintro x y ⟨f,e,g⟩;refine ro 7 O (kB O (fun d=>?_) (fun d=>?_))
 ·have j:0<=x.tmod y:=bη y f.1;have k:x.tmod y<y:=bδ x I;refine ro 3 O ?_;refine kV (.c (zm O) (.c (zm O) (.c (zm O) (.c (S.rem .none O (zt O) (zt O) d O (mn _ I)) (.c (za O) (.c (za O) .nil)))))) (Ab.D.blk (Ab.D.lp ⟨y,x.tmod y,⟨e,⟨j,I⟩,?_⟩,I,O,O,Zo⟩));rw[g,Yq f.1 e.1 d]
 refine ro 6 O ?_;refine kc (S.neg .none O (zt O) (mn _ I) (mn _ I)) (kc (S.max2 .none O (zt O) (zt O)) ?_);refine rr 3 O (kR O O ?_);have:y=0:=I
 subst this;rw[g,Tr];refine cy ?_;split<;>omega
def UZ{a b:Int}(f:0<=a/\a<=1000000000000)(i:1<=b/\b<=1000000000000):Ct prog 312 [bv a,bv b] (.agg (zO a b).cs):=by
 refine cI func312 O fun{_ _}=>?_
 have d:=W7 (a:=a) (b:=b) f.1 I;have h:=UB f.1 d;have g:=UB (a:=b) I d;refine ro 9 O (kc (zK (RY ⟨I,I⟩ ⟨I,I⟩) call358 O) ?_);refine rr 10 O (kB O (fun e=>?_) (fun e=>?_))
 ·exfalso;omega
 refine ro 3 O ?_;refine kV (.c (zm O) (.c (zm O) (.c (S.quo .none O (zt O) (zt O) I (mn _ I) (mn _ I)) (.c (zm O) (.c (zm O) (.c (S.quo .none O (zt O) (zt O) I (mn _ I) (mn _ I)) (.c (zU Ws O O) (.c (zS TT O O O O O O) .nil)))))))) (Ab.D.code (OK.ret (aA.r1 (zy O O TT O) ?_)));rfl
def RX{a b:Int×Int}{t:Int}(g: -1000000000<=b.1 - a.1/\b.1 - a.1<=1000000000)(f: -1000000000<=b.2 - a.2/\b.2 - a.2<=1000000000)(e: -1000000000<=t - a.1/\t - a.1<=1000000000)(d: -100000000<=a.2 * (b.1 - a.1)/\a.2 * (b.1 - a.1)<=100000000)(c: -100000000<=(b.2 - a.2) * (t - a.1)/\(b.2 - a.2) * (t - a.1)<=100000000):Ct prog 313 [.agg (UF a),.agg (UF b),bv t] (.cf [bv (a.2 * (b.1 - a.1)+(b.2 - a.2) * (t - a.1)),bv (b.1 - a.1)]):=by
 refine cI func313 O (Ro 23 O I ?_);refine kc (S.mul .none O (zt O) (zt O) (mn _ I) (mn _ I)) ?_;refine Rr 9 O I ?_;refine kc (S.mul .none O (zt O) (zt O) (mn _ I) (mn _ I)) ?_;refine Rr 6 O I (kS O O O O ?_);rfl
def Re{l:List jI}(e:R l<=20):Ct prog 267 [.agg [.sl (l.map jI.cs)]] (.cf [.sl ((GX l).map UF),.sl ((yu l).map UF)]):=by
 refine cI func267 O (ro 3 O (RK.c (S.iI (k:=2) (sz:=2) .none O) (RK.c (S.iI (k:=3) (sz:=2) .none O) (rr 7 O (kc (zk YN O) (rr 4 O ?_))))));refine OK.loop (G:=Nat) [1,2,3] (fun i=>[(1,.ptr 1 0),(1001,.box [.sl (l.map jI.cs)]),(2,.own 2 i),(2002,.arr 2 (((GX l).take i).map UF)),(3,.own 3 i),(2003,.arr 2 (((yu l).take i).map UF)),(7,.sl (l.map jI.cs)),(8,bv (R l)),(9,bv i)]) (fun i=>i<=R l) (fun i=>R l - i) 0 (Zr _) ⟨O,O,(cw N),(bH N),(cw N),(bH N),O,O,O,Zo⟩ (fun _=>O) ?_;rintro i hi;refine ro 6 O (kB O (fun d=>?_) (fun d=>?_))
 ·have b:i<R l:=by omega
  refine ro 6 O (kc (zI YN O I O) ?_);refine rr 5 O ?_;refine kV (.c (zm O) (.c (zf XK O) (.c (zl Z8 O O O O) (.c (zf Yv O) (.c (zf Ze O) (.c (zl Z8 O O O O) (.c (zU O0 O O) (.c (zM [[_,_]] OV O O O O) (.c (zP OV O O (VU (U6 l) hi) N I (by simp only[maxLen];omega)) (.c (zm O) (.c (zf XK O) (.c (zl Z8 O O O O) (.c (zf Yv O) (.c (zf YU O) (.c (zl Z8 O O O O) (.c (zU O0 O O) (.c (zM [[_,_]] OV O O O O) (.c (zP OV O O (VU (Xo l) hi) N I (by simp only[maxLen];omega)) (.c (za O) (.c (za O) .nil)))))))))))))))))))) ?_;refine Rd 6 O I ?_;refine Ab.D.lp ⟨i+1,I,I,O,O,O,(bH (by rw[NL b,ne];rfl)),O,(bH (by rw[OZ b,ne];rfl)),O,O,O,Zo⟩
 refine ro 3 O ?_;have a:i=R l:=by omega
 rw[TA (U6 l) a,TA (Xo l) a];refine OK.freeze 2 O O O (by rw[Zx,U6];exact a.symm) ?_;refine OK.freeze 3 O O O (by rw[Zx,Xo];exact a.symm) ?_;refine ro 7 O (kS O O O O ?_);rfl
def Rf{p:Int×Int}{limit:Int}:Ct prog 311 [.agg (UF p),.b5 [bv limit]] (.bool (decide (p.2<limit))):=by
 refine cI func311 O (ro 15 O (kR O O ?_));rfl
def RZ{c:List (Int×Int)}{limit:Int}:Ct prog 310 [.sl (c.map UF),.fn 311 [.b5 [bv limit]]] (bv (bq (ZG limit) 0 c)):=by
 refine cI func310 O (OK.eW (rows:=c.map UF) (t:=0) O O fun hlen=>?_);rw[Zx]at hlen;unfold maxLen at hlen;refine ro 9 O (kc (zk U5 O) (rr 4 O ?_));refine OK.loop (G:=Nat) [] (fun i=>[(0,.sl (c.map UF)),(1,.fn 311 [.b5 [bv limit]]),(7,bv (R c)),(8,bv i)]) (fun i=>i<=R c/\bq (ZG limit) 0 c=bq (ZG limit) i (c.drop i)) (fun i=>R c - i) 0 ⟨Zr _,O⟩ ⟨O,O,O,O,Zo⟩ (fun _=>O) ?_;rintro i ⟨hi,a⟩;refine ro 6 O (kB O (fun e=>?_) (fun e=>?_))
 ·have d:i<R c:=by omega
  refine ro 15 O (kc (zI U5 O I O) (kc (S.fG B_ .none O (zt O) O O) (kc (S.ij (Rf (p:=c[i]) (limit:=limit)) call311 .none O (zt O) (zc O .nil) O O O) (kD (kB O (fun b=>?_) (fun b=>?_))))))
  ·refine ro 6 O (kR O O ?_);refine cy ?_;rw[a,bT _ I];simp_all
  refine Ro 7 O I (Ab.D.lp ⟨i+1,⟨by omega,?_⟩,I,O,O,O,O,Zo⟩);rw[a,bT _ I];simp_all
  try (intro hh;omega)
 refine ro 7 O (kR O O ?_);refine cy ?_;have:i=R c:=by omega
 subst this;rw[a,no];rfl
def Uk{c:List (Int×Int)}(f:UL c){limit:Int}(m:0<=limit/\limit<=2000):Ct prog 268 [.sl (c.map UF),bv limit] (.cf [.agg (yt c limit).1.cs,.bool (yt c limit).2]):=by
 refine cI func268 O (OK.eW (rows:=c.map UF) (t:=0) O O fun hlen=>?_);rw[Zx]at hlen;unfold maxLen at hlen;refine ro 8 O (OK.freezeP [4] [(0,.sl (c.map UF)),(4,.ptr 4 0),(1004,.box [bv 0,bv 0])] 3 O O O O O O ⟨O,O,O,Zo⟩ O (OK.bN (jm O (kc (S.dx .none O (zt O) O) (kc (zK (RZ (c:=c) (limit:=limit)) call310 O) (rr 5 O ?_))))));rcases hix:ix (ZG limit) c with _|j
 ·rw[idx_n hix];have g:=WU hix;refine ro 5 O (kB O (fun e=>?_) (fun e=>?_))
  ·refine kr (kc (zU Ws O O) (rr 4 O (kT O O TT O O O ?_)));rw[g];try rfl
  exfalso;omega
 rw[idx_s hix];have d:j<R c:=(eE hix).1;refine ro 5 O (kB O (fun e=>?_) (fun e=>?_))
 ·exfalso;omega
 refine ro 9 O (kB O (fun l=>?_) (fun l=>?_))
 ·have i:j=0:=I
  subst i;have g:=WT hix d;have q:=f.at_ _ (Zt d);refine ro 3 O (kc (S.aP (n:=0) U5 .none O (zt O) (.af O) O d O) (rr 2 O ?_));refine kc (zK (UZ (a:=c[0].1) (b:=1) I C) call312 O) ?_;refine rr 4 O (kT O O TT O O O ?_);rw[g];try rfl
 obtain⟨k,rfl⟩:∃k,j=k+1:=⟨j - 1,I⟩;have g:=WV hix d;obtain⟨v,u,s,r⟩:=VT f m hix d;have h:k<R c:=I
 have q:=f.at_ _ (Zt d);have p:=f.at_ _ (Zt h);have o:=f.num _ (Zt d);refine ro 3 O ?_;refine kV (.c (zm O) (.c (zm O) (.c (S.aP (n:=(k+1)) U5 .none O (zt O) (zt O) O d O) (.c (S.field Te .none O (zt O) O) (.c (zV Z8 O O) (.c (zm O) (.c (zm O) (.c (S.aP (n:=(k+1)) U5 .none O (zt O) (zt O) O d O) (.c (S.field Tc .none O (zt O) O) (.c (zV Z8 O O) (.c (zU O0 O O) (.c (zm O) (.c (zm O) (.c (S.sub .none O (zt O) (.af O) (mn _ I) (mn _ I)) (.c (S.aP (n:=k) U5 .none O (zt O) (zt O) I h O) (.c (S.field Te .none O (zt O) O) (.c (zV Z8 O O) (.c (zm O) (.c (zm O) (.c (S.sub .none O (zt O) (.af O) (mn _ I) (mn _ I)) (.c (S.aP (n:=k) U5 .none O (zt O) (zt O) I h O) (.c (S.field Tc .none O (zt O) O) (.c (zV Z8 O O) (.c (zU O0 O O) (.c (zV Z8 O O) (.c (zK (RX (a:=(c[k+1].2,c[k+1].1)) (b:=(c[k].2,c[k].1)) (t:=limit) (by dsimp only;omega) (by dsimp only;omega) (by dsimp only;omega) s r) call313 O) (.c (zX O O O) (.c (zX O O O) (.c (zK (UZ (by dsimp only;omega) (by dsimp only;omega)) call312 O) (.c (zS TT O O O O O O) (.c (zb O) .nil))))))))))))))))))))))))))))))) ?_;refine Ab.D.code (kT O O TT O O O ?_);rw[g];try rfl
def Rc{l:List jI}{limit:Int}:Ct prog 213 [.agg [.sl (l.map jI.cs)],bv limit] (.cf [.agg (It l limit).1.cs,bv (It l limit).2]):=by
 refine cI func213 O (ro 11 O (kc (zK (X_ (l:=l)) call263 O) (jm O (kc (zK YJ call266 O) (kc (zK ZW call265 O) ?_)))));refine RK.c (zM [[_],[_]] Zc O O O O) (kc (S.callL (Yu (l:=[_,_])) call264 .none O (zc O .nil) (.cons (.p (.own O O) O) .nil) O) ?_);refine rr 9 O (kB O (fun a=>?_) (fun a=>?_))
 ·have f:=QV a;refine kr (kc (zU PO O O) (rr 5 O (kT O O VK O O O ?_)));rw[f];try rfl
 obtain⟨m,k⟩:=P_ a;have d:=VZ m;have i:0<=limit/\limit<=2000:=pf k;have j:=d.len;have h:0<R (yu l):=by rw[Xo];omega
 have e:(yu l).getD 0 (0,0)=(yu l)[0]:=tX h;refine ro 5 O (kc (zK (Re j.2) call267 O) (rr 11 O (kc (S.aP (n:=0) U5 .none O (zt O) (.af O) O h O) (rr 6 O (kB O (fun b=>?_) (fun b=>?_))))))
 ·have f:=VH a (by rw[e];exact b);refine kr (kc (zU PO O O) (rr 4 O (kT O O VK O O O ?_)));rw[f];try rfl
 refine ro 6 O (kc (zK (Uk d.upper i) call268 O) (rr 12 O (kc (S.not .none O (zt O)) (kD (OK.cond O O (fun g=>?_) (fun g=>?_))))))
 ·have f:=VI a (by rw[e];exact b) (by simpa using g);refine kr (kc (zU PO O O) (rr 4 O (kT O O VK O O O ?_)));rw[f];try rfl
 have f:=S4 a (by rw[e];exact b) (by simpa using g);refine ro 6 O (kc (zK (Uk d.lower i) call268 O) (rr 12 O (kc (zU PO O O) (rr 4 O (kT O O VK O O O ?_)))));rw[f];try rfl
end Go.Proofs.Z9
namespace Go.Proofs.Z9
open Go.Ab Tryz
def Kt{w:ba}(e:(iE w 7).2=true)(c:¬(iE w 7).1<0):YV w=some (iE w 7).1:=by
 obtain⟨f,b⟩:=B4 (l:=w) (d:=7);have a:iF w 7=true:=by simp_all
 rw[Rp (by simp_all[tW]),yN I a,b a]
def N4{w:ba}(h:(iE w 7).2=false\/(iE w 7).1<0):YV w=none:=by
 obtain⟨a,_⟩:=B4 (l:=w) (d:=7);refine WA ?_;rw[tW w I,←a];grind
def OE{n:Nat}{p:ba}(h:fy YV (aj 32 p)=none):Ja n p=none:=by rw[WJ,h]
def KM{n:Nat}{p:ba}{a:bd}(h:fy YV (aj 32 p)=some a)(b:¬R a=n):Ja n p=none:=by rw[WJ,h];grind
def KN{n:Nat}{p:ba}{a:bd}(h:fy YV (aj 32 p)=some a)(b:R a=n):Ja n p=some a:=by rw[WJ,h];grind
def Tu{i:Nat}{b x:jI}(h:(xk x.depth&&xk x.diag&&ve x.lo&&ve x.hi)=false):Fe i b x=2:=by
 simp_all[Tt,aF,ae]
def Ka{i:Nat}{b x:jI}(h:(xk x.depth&&xk x.diag&&ve x.lo&&ve x.hi)=true)(a:x.lo>x.hi):Fe i b x=9:=by
 have e:decide (x.lo<=x.hi)=false:=Zy I;simp_all[Tt,aF,ae]
def Kb{i:Nat}{b x:jI}(h:(xk x.depth&&xk x.diag&&ve x.lo&&ve x.hi)=true)(c:¬x.lo>x.hi):Fe i b x=if i=0 then ae (decide (2 * x.depth>=5 * x.diag)) 17 else ae (decide (x.depth - b.depth>=3 * max x.diag b.diag)) 17:=by
 have e:decide (x.lo<=x.hi)=true:=Zz I;have a:¬aF [ae true 2,ae (decide (x.lo<=x.hi)) 9]≠0:=by rw[e];simp[aF,ae]
 grind [Ra,Rb]
def Mf{n:Int}(h:0<=n):zO n 1=⟨n,1⟩:=by
 grind [Yq,Tr,zO]
def line_eq(x y u v l:Int):y * (v - u)+(v - l) * (x - y)=x * (v - u)+(y - x) * (l - u):=by
 grind
def Ke{α:Type}{g:α->Bool}{l:List α}{i:Nat}(b:ix g l=iR g i (l.drop i))(h:i<R l)(a:g l[i]=true):ix g l=some i:=by rw[b,gL _ h,Zn a]
def Mc{α:Type}{g:α->Bool}{l:List α}{i:Nat}(b:ix g l=iR g i (l.drop i))(h:i<R l)(a:g l[i]=false):ix g l=iR g (i+1) (l.drop (i+1)):=by simp_all[gL]
def Kc{α:Type}{g:α->Bool}{l:List α}{i:Nat}(a:ix g l=iR g i (l.drop i))(h:i=R l):ix g l=none:=by rw[a,h,no];rfl
def YG{α:Type}{g:Nat->α->Int}{l:List α}{i:Nat}(b:aK g 0 l=aK g i (l.drop i))(h:i<R l){e:Int}(a:g i l[i]=e)(c:e≠0):aK g 0 l=((i:Int),e):=by simp_all[bE]
def Qc{α:Type}{g:Nat->α->Int}{l:List α}{i:Nat}(b:aK g 0 l=aK g i (l.drop i))(h:i<R l)(a:g i l[i]=0):aK g 0 l=aK g (i+1) (l.drop (i+1)):=by simp_all[bE]
def X8{l:List jI}(h:¬Zk l≠0){p:Int×Int}(a:aK (O3 l) 0 l=p):FU l=p:=(TV h).trans a
def MH{l:List jI}(h:(R l:Int)<2):FU l=(0,10):=by
 have e:Zk l=10:=by unfold Zk;rw[Zy (show¬(R l:Int)>=2 by omega)];rfl
 simp_all[VY]
def KW{l:List jI}(h:¬(R l:Int)<2)(a:(R l:Int)>20):FU l=(0,8):=by
 have e:Zk l=8:=by unfold Zk;rw[Zz (show(R l:Int)>=2 by omega),Zy (show¬(R l:Int)<=20 by omega)];rfl
 simp_all[VY]
def KV{l:List jI}(h:¬(R l:Int)<2)(a:¬(R l:Int)>20):¬Zk l≠0:=by
 unfold Zk;rw[Zz (show(R l:Int)>=2 by omega),Zz (show(R l:Int)<=20 by omega)];decide
def Sl{s:ba}{n:Nat}(J:R s<=100000):Ct prog 278 [.str s,bv (n:Int)] (.cf [.sl ((Is n s).1.map fun r=>[ints r]),bv (Is n s).2]):=by
 refine cI func278 O fun{_ _}=>?_
 have H:=n9 (c:=59) (l:=s);refine kr (kc (S.assign .none O .fW) (rr 11 O (kB O (fun A=>?_) (fun A=>?_))))
 ·refine kr (kc (S.assign .none O .fW) (rr 3 O (kS O O O O ?_)));rw[QE I]
  all_goals rfl
 refine ro 5 O (kc (zK (C0 (l:=s) (c:=59) I) call82 O) ?_);refine rr 5 O (RK.c (S.iI (k:=7) (sz:=1) .none O) (rr 9 O ?_));refine OK.mP [7] (fun(k:Nat)(out:List bd)=>[(1,bv (n:Int)),(6,.sl ((aj 59 s).map fun w=>[.str w])),(7,.own 7 (R out)),(2007,.arr 1 (out.map fun r=>[ints r])),(8,bv (k:Int))]) (fun k out=>k<=R (aj 59 s)/\fy (Ja n) (aj 59 s)=(fy (Ja n) ((aj 59 s).drop k)).map (out++ ·)/\R out<=k) (fun k out=>R (aj 59 s) - k) (0) ([]) ⟨Zr _,by rw[aα];cases fy (Ja n) (aj 59 s)<;>simp,Zq _⟩ ⟨O,O,(cw N),(bH N),O,Zo⟩ (fun _ _=>O) ?_;rintro k out ⟨K,p,E⟩;refine ro 5 O (kc (zk Z2 O) (rr 3 O (kB O (fun z=>?_) (fun z=>?_))))
 ·have a:k<R (aj 59 s):=by omega
  have C:=gH _ (Zt a);have G:=n9 (c:=32) (l:=(aj 59 s)[k]);refine ro 8 O (kc (zI Z2 O I O) (kc (zV Y9 O O) (kc (zK (C0 (l:=(aj 59 s)[k]) (c:=32) I) call82 O) ?_)));refine rr 5 O (RK.c (S.iI (k:=10) (sz:=1) .none O) (rr 9 O ?_));refine OK.mP [7,10] (fun(j:Nat)(row:bd)=>[(1,bv (n:Int)),(6,.sl ((aj 59 s).map fun w=>[.str w])),(7,.own 7 (R out)),(2007,.arr 1 (out.map fun r=>[ints r])),(8,bv (k:Int)),(9,.sl ((aj 32 (aj 59 s)[k]).map fun w=>[.str w])),(10,.own 10 (R row)),(2010,.arr 1 (row.map fun v=>[bv v])),(11,bv (j:Int))]) (fun j row=>j<=R (aj 32 (aj 59 s)[k])/\fy YV (aj 32 (aj 59 s)[k])=(fy YV ((aj 32 (aj 59 s)[k]).drop j)).map (row++ ·)/\R row<=j) (fun j row=>R (aj 32 (aj 59 s)[k]) - j) (0) ([]) ⟨Zr _,by rw[aα];cases fy YV (aj 32 (aj 59 s)[k])<;>simp,Zq _⟩ ⟨O,O,(cw N),(bH N),O,O,(cw N),(bH N),O,Zo⟩ (fun _ _=>O) ?_;rintro j row ⟨L,f,B⟩;refine ro 5 O (kc (zk Z2 O) (rr 3 O (kB O (fun y=>?_) (fun y=>?_))))
  ·have e:j<R (aj 32 (aj 59 s)[k]):=by omega
   have q:R (aj 32 (aj 59 s)[k])[j]<=100000:=by have:=gH _ (Zt e);omega
   refine ro 8 O (kc (zI Z2 O I O) (kc (zV Y9 O O) (kc (zK (vU (l:=(aj 32 (aj 59 s)[k])[j]) (d:=7) q I) call40 O) ?_)));refine rr 11 O (kc (S.not .none O (zt O)) (jm O (RK.split (t:=46) O (fun h=>?_) (fun h=>?_))))
   ·have b:YV (aj 32 (aj 59 s)[k])[j]=none:=N4 (.inl (by simpa using h));refine rr 8 O (kc (S.assign .none O .fW) (rr 3 O (kS O O O O ?_)));rw[VV I (EN p a (OE (EN f e b)))]
    all_goals rfl
   refine rr 5 O (kB O (fun i=>?_) (fun i=>?_))
   ·have b:YV (aj 32 (aj 59 s)[k])[j]=none:=N4 (.inr (by simpa using i));refine kr (kc (S.assign .none O .fW) (rr 3 O (kS O O O O ?_)));rw[VV I (EN p a (OE (EN f e b)))]
    all_goals rfl
   have m:YV (aj 32 (aj 59 s)[k])[j]=some (iE (aj 32 (aj 59 s)[k])[j] 7).1:=Kt (by simpa using h) (by simpa using i);refine ro 5 O ?_;refine RK.c (zM [[_]] ZM O O O O) ?_;refine kc (zP ZM O O F N I (by simp only[maxLen];omega)) ?_;refine Rr 9 O I ?_;refine Ab.D.lp ⟨j+1,row++[(iE (aj 32 (aj 59 s)[k])[j] 7).1],⟨by omega,EM f e m,by simp;omega⟩,I,O,O,(cw N),(bH N),O,O,(cw N),(bH N),O,Zo⟩
  refine ro 4 O ?_;have o:fy YV (aj 32 (aj 59 s)[k])=some row:=CM f I;refine OK.freeze 10 O O O F ?_;refine OK.bN (jm O (kc (zk Z4 O) (rr 4 O (kB O (fun x=>?_) (fun x=>?_)))))
  ·have g:¬R row=n:=by omega
   refine kr (kc (S.assign .none O .fW) (rr 3 O (kS O O O O ?_)));rw[VV I (EN p a (KM o g))]
   all_goals rfl
  have g:R row=n:=by omega
  refine ro 5 O ?_;refine RK.c (zM [[_]] OU O O O O) ?_;refine kc (zP OU O O F N I (by simp only[maxLen];omega)) ?_;refine Rr 9 O I ?_;refine Ab.D.lp ⟨k+1,out++[row],⟨by omega,EM p a (KN o g),by simp;omega⟩,I,O,O,(cw N),(bH (by rw[ne];rfl)),O,Zo⟩
 refine ro 3 O ?_;have u:fy (Ja n) (aj 59 s)=some out:=CM p I;refine ro 6 O ?_;refine OK.ret (aA.r2 (.tmp O O (.c (.own O O N) O) O) (zo O O) ?_);rw[QD I u]
 all_goals rfl
def Wh{n:Int}:Ct prog 365 [bv n] (.bool (ve n)):=by
 refine cI func365 O (ro 8 O (kc (zK gx call33 O) (rr 3 O (kR O O ?_))));rfl
def Xw{l:List jI}:Ct prog 323 [.agg [.sl (l.map jI.cs)]] (.cf [bv (FU l).1,bv (FU l).2]):=by
 refine cI func323 O (ro 12 O (kc (zk YN O) (rr 3 O (kB O (fun M=>?_) (fun M=>?_)))))
 ·have d:=MH (l:=l) I;refine ro 6 O (kS O O O O ?_);rw[d];try rfl
 refine ro 7 O (kc (zk YN O) (rr 3 O (kB O (fun J=>?_) (fun J=>?_))))
 ·have d:=KW (l:=l) I I;refine ro 6 O (kS O O O O ?_);rw[d];try rfl
 have f:=KV (l:=l) I I;refine ro 9 O ?_;refine OK.loop (G:=Nat) [1] (fun i=>[(1,.ptr 1 0),(1001,.box [.sl (l.map jI.cs)]),(4,bv i)]) (fun i=>i<=R l/\aK (O3 l) 0 l=aK (O3 l) i (l.drop i)/\QN l i) (fun i=>R l - i) 0 ⟨Zr _,O,fun j y h=>absurd h (bπ _)⟩ ⟨O,O,O,Zo⟩ (fun _=>O) ?_;rintro i ⟨hi,k,m⟩;refine ro 6 O (kc (zk YN O) (rr 3 O (kB O (fun H=>?_) (fun H=>?_))))
 ·have a:i<R l:=by omega
  have b:i - 1<R l:=by omega
  refine ro 9 O (kc (zI YN O I O) ?_);refine rr 10 O (kc (zK gx call33 O) (kc (S.jP .none O (zt O)) (jm O (RK.bh (t:=30) O (fun B=>?_) (fun B=>?_)))))
  ·have d:=X8 f (YG k a ((YY b _).trans (Tu (by first|(simp_all[xk,ve];done)|(simp_all[xk,ve];intros;omega)))) C);refine rr 29 O (kS O O O O ?_);rw[d];try rfl
  refine rr 2 O (kc (S.call (gx) call33 (zg O O) O (zc O (zC O (zD O))) O) (kc (S.jP (zg O O) O (zt O)) (rr 2 O (RK.bh (t:=36) O (fun A=>?_) (fun A=>?_)))))
  ·have d:=X8 f (YG k a ((YY b _).trans (Tu (by first|(simp_all[xk,ve];done)|(simp_all[xk,ve];intros;omega)))) C);refine rr 23 O (kS O O O O ?_);rw[d];try rfl
  refine rr 3 O (kc (S.call (Wh) call365 (zg O O) O (zc O .nil) O) (kc (S.not (zg O O) O (zt O)) (rr 2 O (RK.split (t:=43) O (fun z=>?_) (fun z=>?_)))))
  ·have d:=X8 f (YG k a ((YY b _).trans (Tu (by first|(simp_all[xk,ve];done)|(simp_all[xk,ve];intros;omega)))) C);refine rr 16 O (kS O O O O ?_);rw[d];try rfl
  refine rr 3 O (kc (S.call (Wh) call365 (zg O O) O (zc O .nil) O) (kc (S.not (zg O O) O (zt O)) (rr 3 O (OK.cond O O (fun F=>?_) (fun F=>?_)))))
  ·have d:=X8 f (YG k a ((YY b _).trans (Tu (by first|(simp_all[xk,ve];done)|(simp_all[xk,ve];intros;omega)))) C);refine ro 7 O (kS O O O O ?_);rw[d];try rfl
  have r:(xk l[i].depth&&xk l[i].diag&&ve l[i].lo&&ve l[i].hi)=true:=by simp_all[xk,ve]
  obtain⟨L,K⟩:(1<=l[i].depth/\l[i].depth<=10000)/\(1<=l[i].diag/\l[i].diag<=10000):=by
   simp only[Zw]at r;exact⟨pf r.1.1.1,pf r.1.1.2⟩
  refine ro 14 O (kB O (fun p=>?_) (fun p=>?_))
  ·have d:=X8 f (YG k a ((YY b _).trans (Ka r p)) C);refine ro 7 O (kS O O O O ?_);rw[d];try rfl
  have s:=(YY b l[i]).trans (Kb r p);refine ro 8 O (RK.bh (t:=61) O (fun x=>?_) (fun x=>?_))
  ·refine rr 2 O ?_;refine kc (S.mul (zg O O) O (.af O) (zt O) (mn _ I) (mn _ I)) ?_;refine rr 2 O ?_;refine kc (S.mul (zg O O) O (.af O) (zt O) (mn _ I) (mn _ I)) ?_;refine rr 4 O (kB O (fun E=>?_) (fun E=>?_))
   ·have d:=X8 f (YG k a (s.trans (by rw[Zn (show i=0 by omega),Zy (show¬2 * l[i].depth>=5 * l[i].diag by omega)];try rfl)) (by decide:(17:Int)≠0));refine ro 7 O (kS O O O O ?_);rw[d];try rfl
   refine ro 3 O ?_;by_cases w:(i:Int)>0
   ·have g:XX l[i - 1]:=(m.prev a).resolve_left I;have v:=g.depth;have u:=g.diag;exfalso;omega
   refine kV (.c (zm O) (.c (S.gtr .none O (zt O) (.af O)) (.c (zm O) (.c (zG O W) (.c (zG O W) (.c (zG O W) (.c (zG O W) (.c (zG O W) (.c (zG O W) (.c (zG O W) (.c (zG O W) (.c (zG O W) (.c (zG O W) (.c (zG O W) (.c (zG O W) (.c (zG O W) (.c (zG O W) (.c (zG O W) (.c (zG O W) (.c (zG O W) (.c (zG O W) (.c (zG O W) (.c (zG O W) (.c (zG O W) (.c (zG O W) (.c (S.aO .none O (zt O) .aJ W) .nil)))))))))))))))))))))))))) ?_;refine Rd 10 O I ?_;have q:O3 l i l[i]=0:=by
    rw[s];split
    ·rw[Zz (show 2 * l[i].depth>=5 * l[i].diag by omega)];rfl
    rw[Zz (show l[i].depth - l[i - 1].depth>=3 * max l[i].diag l[i - 1].diag by first|omega|(split at o<;>omega))];rfl
   refine Ab.D.lp ⟨i+1,⟨by omega,Qc k a q,m.succ a (VS (fun e=>e ((YY b _).symm.trans q))).1⟩,I,O,O,O,Zo⟩
  refine rr 14 O ?_;by_cases w:(i:Int)>0
  ·have g:XX l[i - 1]:=(m.prev a).resolve_left I;have v:=g.depth;have u:=g.diag;refine kV (.c (zm O) (.c (S.gtr .none O (zt O) (.af O)) (.c (zm O) (.c (S.dH XK (.yes O O O W) O (zt O)) (.c (S.fc Z8 (.yes O O O W) O (zt O) O O O O) (.c (S.dH XL (.yes O O O W) O (zt O)) (.c (S.fc TC (.yes O O O W) O (zt O) O O O O) (.c (S.move (.yes O O O W) O (zt O)) (.c (S.sub (.yes O O O W) O (zt O) (.af O) (mn _ I) (mn _ I)) (.c (S.aP (n:=(i - 1)) YN (.yes O O O W) O (zt O) (zt O) I b O) (.c (S.field XK (.yes O O O W) O (zt O) O) (.c (S.Hz Z8 (.yes O O O W) O (zt O) O) (.c (S.sub (.yes O O O W) O (zt O) (zt O) (mn _ I) (mn _ I)) (.c (S.dH Tb (.yes O O O W) O (zt O)) (.c (S.fc Z8 (.yes O O O W) O (zt O) O O O O) (.c (S.dH XL (.yes O O O W) O (zt O)) (.c (S.fc TC (.yes O O O W) O (zt O) O O O O) (.c (S.move (.yes O O O W) O (zt O)) (.c (S.sub (.yes O O O W) O (zt O) (.af O) (mn _ I) (mn _ I)) (.c (S.aP (n:=(i - 1)) YN (.yes O O O W) O (zt O) (zt O) I b O) (.c (S.field Tb (.yes O O O W) O (zt O) O) (.c (S.Hz Z8 (.yes O O O W) O (zt O) O) (.c (S.max2 (.yes O O O W) O (zt O) (zt O)) (.c (S.mul (.yes O O O W) O (.af O) (zt O) (mn _ I) (mn _ I)) (.c (S.lss (.yes O O O W) O (zt O) (zt O)) (.c (S.aQ .none O (zt O) (zt O) W) .nil)))))))))))))))))))))))))) ?_;refine Ab.D.code (kB O (fun o=>?_) (fun o=>?_))
   ·have d:=X8 f (YG k a (s.trans (by rw[Zm (show¬i=0 by omega),Zy (show¬l[i].depth - l[i - 1].depth>=3 * max l[i].diag l[i - 1].diag by split at o<;>omega)];try rfl)) (by decide:(17:Int)≠0));refine ro 7 O (kS O O O O ?_);rw[d];try rfl
   refine Ro 8 O I ?_;have q:O3 l i l[i]=0:=by
    rw[s];split
    ·rw[Zz (show 2 * l[i].depth>=5 * l[i].diag by omega)];rfl
    rw[Zz (show l[i].depth - l[i - 1].depth>=3 * max l[i].diag l[i - 1].diag by first|omega|(split at o<;>omega))];rfl
   refine Ab.D.lp ⟨i+1,⟨by omega,Qc k a q,m.succ a (VS (fun e=>e ((YY b _).symm.trans q))).1⟩,I,O,O,O,Zo⟩
  exfalso;omega
 refine ro 3 O ?_;have d:=X8 f (k.trans (by rw[show i=R l by omega,no];try rfl));refine ro 5 O (kS O O O O ?_);rw[d];try rfl
def WH{l:List jI}:Ct prog 279 [.agg [.sl (l.map jI.cs)]] (bv (FU l).2):=by
 refine cI func279 O (ro 9 O (kc (zK (Xw (l:=l)) call323 O) (rr 13 O (kR O O ?_))));rfl
def Xx{s:ba}(j:R s<=100000):Ct prog 227 [.str s] (.cf [.agg [.sl ((DH s).1.map jI.cs)],bv (DH s).2]):=by
 refine cI func227 O fun{_ _}=>?_
 have o:=Uu (n:=4) j;refine ro 9 O (kc (zK (Sl (n:=4) j) call278 O) (rr 14 O (kB O (fun a=>?_) (fun a=>?_))))
 ·have b:=Xn (s:=s) (by rw[Zm a];exact a);rw[Zm a]at b;refine kr (kc (zU Nj O O) (rr 5 O (OK.ret (aA.r2 (.bG O O O O UO O (.k .bO .z)) (zo O O) ?_))));rw[b];try rfl
 have d:(Is 4 s).2=0:=Zu.1 a;refine ro 14 O (OK.nP 6 0 880 4 O O O O O ?_);refine OK.loop (G:=Nat) [2,6,880] (fun k=>[(2,.ptr 2 0),(1002,.box [.bO]),(4,.sl ((Is 4 s).1.map fun r=>[ints r])),(6,.ptr 6 0),(1006,.box [.own 880 k]),(2880,.arr 4 ((((Is 4 s).1.take k).map xj).map jI.cs)),(7,bv k)]) (fun k=>k<=R (Is 4 s).1) (fun k=>R (Is 4 s).1 - k) 0 (Zr _) ⟨O,O,O,O,O,(bH N),O,Zo⟩ (fun _=>O) ?_;rintro k p;refine ro 5 O (kc (zk TQ O) (rr 3 O (kB O (fun i=>?_) (fun i=>?_))))
 ·have f:k<R (Is 4 s).1:=by omega
  have m:=Uv (Zt f);have h:(xj (Is 4 s).1[k]).cs=[bv ((Is 4 s).1[k][0]),bv ((Is 4 s).1[k][1]),bv ((Is 4 s).1[k][2]),bv ((Is 4 s).1[k][3])]:=by unfold xj jI.cs;rw[tX I,tX I,tX I,tX I]
  refine ro 4 O ?_;refine kV (.c (zf XL O) (.c (zl TC O O O O) (.c (zm O) (.c (zm O) (.c (zI TQ O I O) (.c (zV Zd O O) (.c (S.aP (n:=0) Z4 .none O (zt O) (.af O) O I O) (.c (zV Z8 O O) (.c (zm O) (.c (zm O) (.c (zI TQ O I O) (.c (zV Zd O O) (.c (S.aP (n:=1) Z4 .none O (zt O) (.af O) O I O) (.c (zV Z8 O O) (.c (zm O) (.c (zm O) (.c (zI TQ O I O) (.c (zV Zd O O) (.c (S.aP (n:=2) Z4 .none O (zt O) (.af O) O I O) (.c (zV Z8 O O) (.c (zm O) (.c (zm O) (.c (zI TQ O I O) (.c (zV Zd O O) (.c (S.aP (n:=3) Z4 .none O (zt O) (.af O) O I O) (.c (zV Z8 O O) (.c (zU M6 O O) (.c (zU n_ O O) (.c (zM [[_,_,_,_]] MI O O O O) (.c (zP MI O O (Qt _ I) N I (by simp only[maxLen];omega)) (.c (zf XL O) (.c (zS TC O O O O O O) .nil)))))))))))))))))))))))))))))))) ?_;refine Rd 7 O I ?_;refine Ab.D.lp ⟨k+1,I,I,O,O,O,O,O,(bH (by rw[RV f,h];try rfl)),O,Zo⟩
 refine ro 4 O ?_;have g:k=R (Is 4 s).1:=by omega
 subst g;rw[List.take_length];refine OK.Yp 6 0 O O O O (by rw[Zx,Zx]) O ?_;refine ro 2 O (kc (zK (WH (l:=(Is 4 s).1.map xj)) call279 O) (rr 9 O (kB O (fun e=>?_) (fun e=>?_))))
 ·have b:=Xn (s:=s) (by rw[Zn d];exact e);rw[Zn d]at b;refine kr (kc (zU Nj O O) (rr 5 O (OK.ret (aA.r2 (.bG O O O O UO O (.k .bO .z)) (zo O O) ?_))));rw[b];try rfl
 have b:=TW (s:=s) (by rw[Zn d];exact e);refine ro 9 O (kT O O UO O O O ?_);rw[b];try rfl
def Sj{l:List jI}(e:R l<=20):Ct prog 281 [.agg [.sl (l.map jI.cs)],bv 0] (.sl ((GX l).map UF)):=by
 refine cI func281 O (ro 3 O (kc (S.assign .none O .fW) (rr 4 O (RK.c (S.iI (k:=5) (sz:=2) .none O) (rr 9 O ?_)))));refine OK.loop (G:=Nat) [2,5] (fun i=>[(1,bv 0),(2,.ptr 2 0),(1002,.box [.sl (l.map jI.cs)]),(5,.own 5 i),(2005,.arr 2 (((GX l).take i).map UF)),(6,bv i)]) (fun i=>i<=R l) (fun i=>R l - i) 0 (Zr _) ⟨O,O,O,(cw N),(bH N),O,Zo⟩ (fun _=>O) ?_;rintro i hi;refine ro 6 O (kc (zk YN O) (rr 3 O (kB O (fun d=>?_) (fun d=>?_))))
 ·have b:i<R l:=by omega
  refine ro 9 O (kc (zI YN O I O) ?_);refine rr 5 O ?_;refine kV (.c (zm O) (.c (zf XK O) (.c (zl Z8 O O O O) (.c (zf Yv O) (.c (zf Ze O) (.c (zl Z8 O O O O) (.c (zf Yv O) (.c (zf YU O) (.c (zl Z8 O O O O) (.c (zM [[_],[_]] ZM O O O O) (.c (zm O) (.c (S.tO (i:=0) Z4 .none O (zt O) O O (zt O) O I) (.c (S.BG Z8 .none O (zt O) O O O) (.c (zU p_ O O) (.c (zM [[_,_]] SR O O O O) (.c (zP SR O O (VU (U6 l) hi) N I (by simp only[maxLen];omega)) (.c (za O) .nil))))))))))))))))) ?_;refine Rd 7 O I ?_;refine Ab.D.lp ⟨i+1,I,I,O,O,O,O,(bH (by rw[NL b,ne];rfl)),O,Zo⟩
 refine ro 3 O ?_;have a:i=R l:=by omega
 rw[TA (U6 l) a];refine OK.freeze 5 O O O (by rw[Zx,U6];exact a.symm) ?_;refine ro 5 O (kR O O ?_);rfl
def Sk{l:List jI}(e:R l<=20):Ct prog 281 [.agg [.sl (l.map jI.cs)],bv 1] (.sl ((yu l).map UF)):=by
 refine cI func281 O (ro 3 O (kc (S.assign .none O .fW) (rr 4 O (RK.c (S.iI (k:=5) (sz:=2) .none O) (rr 9 O ?_)))));refine OK.loop (G:=Nat) [2,5] (fun i=>[(1,bv 1),(2,.ptr 2 0),(1002,.box [.sl (l.map jI.cs)]),(5,.own 5 i),(2005,.arr 2 (((yu l).take i).map UF)),(6,bv i)]) (fun i=>i<=R l) (fun i=>R l - i) 0 (Zr _) ⟨O,O,O,(cw N),(bH N),O,Zo⟩ (fun _=>O) ?_;rintro i hi;refine ro 6 O (kc (zk YN O) (rr 3 O (kB O (fun d=>?_) (fun d=>?_))))
 ·have b:i<R l:=by omega
  refine ro 9 O (kc (zI YN O I O) ?_);refine rr 5 O ?_;refine kV (.c (zm O) (.c (zf XK O) (.c (zl Z8 O O O O) (.c (zf Yv O) (.c (zf Ze O) (.c (zl Z8 O O O O) (.c (zf Yv O) (.c (zf YU O) (.c (zl Z8 O O O O) (.c (zM [[_],[_]] ZM O O O O) (.c (zm O) (.c (S.tO (i:=1) Z4 .none O (zt O) O O (zt O) O I) (.c (S.BG Z8 .none O (zt O) O O O) (.c (zU p_ O O) (.c (zM [[_,_]] SR O O O O) (.c (zP SR O O (VU (Xo l) hi) N I (by simp only[maxLen];omega)) (.c (za O) .nil))))))))))))))))) ?_;refine Rd 7 O I ?_;refine Ab.D.lp ⟨i+1,I,I,O,O,O,O,(bH (by rw[OZ b,ne];rfl)),O,Zo⟩
 refine ro 3 O ?_;have a:i=R l:=by omega
 rw[TA (Xo l) a];refine OK.freeze 5 O O O (by rw[Zx,Xo];exact a.symm) ?_;refine ro 5 O (kR O O ?_);rfl
def RL{n:Int}:Ct prog 324 [bv n] (.agg (zZ.mk n 1).cs):=by
 refine cI func324 O (ro 8 O (kc (zU Ws O O) (rr 3 O (OK.ret (aA.r1 (zy O O TT O) ?_)))));rfl
def O6{a b:Int}(i:0<=a/\a<=1000000000000)(h:0<=b/\b<=1000000000000):Ct prog 366 [bv a,bv b] (bv (HL a b)):=by
 refine cI func366 O (ro 7 O ?_);refine OK.mP [] (fun(x:Int)(y:Int)=>[(0,bv x),(1,bv y)]) (fun x y=>(0<=x/\x<=1000000000000)/\(0<=y/\y<=1000000000000)/\HL a b=HL x y) (fun x y=>y.toNat) (a) (b) ⟨i,h,O⟩ ⟨O,O,Zo⟩ (fun _ _=>O) ?_;rintro x y ⟨f,e,g⟩;refine ro 7 O (kB O (fun d=>?_) (fun d=>?_))
 ·have j:0<=x.tmod y:=bη y f.1;have k:x.tmod y<y:=bδ x I;refine ro 3 O ?_;refine kV (.c (zm O) (.c (zm O) (.c (zm O) (.c (S.rem .none O (zt O) (zt O) d O (mn _ I)) (.c (za O) (.c (za O) .nil)))))) (Ab.D.blk (Ab.D.lp ⟨y,x.tmod y,⟨e,⟨j,I⟩,?_⟩,I,O,O,Zo⟩));rw[g,Yq f.1 e.1 d]
 refine ro 5 O (kc (zK (O7 (n:=x) I) call81 O) ?_);refine rr 3 O (kR O O ?_);have:y=0:=I
 subst this;rw[g,Tr];refine cy ?_;omega
def S2{a b:Int}(f:0<=a/\a<=1000000000000)(i:1<=b/\b<=1000000000000):Ct prog 325 [bv a,bv b] (.agg (zO a b).cs):=by
 refine cI func325 O fun{_ _}=>?_
 have d:=W7 (a:=a) (b:=b) f.1 I;have h:=UB f.1 d;have g:=UB (a:=b) I d;refine ro 9 O (kc (zK (O6 ⟨I,I⟩ ⟨I,I⟩) call366 O) ?_);refine rr 10 O (kB O (fun e=>?_) (fun e=>?_))
 ·exfalso;omega
 refine ro 3 O ?_;refine kV (.c (zm O) (.c (zm O) (.c (S.quo .none O (zt O) (zt O) I (mn _ I) (mn _ I)) (.c (zm O) (.c (zm O) (.c (S.quo .none O (zt O) (zt O) I (mn _ I) (mn _ I)) (.c (zU Ws O O) (.c (zS TT O O O O O O) .nil)))))))) (Ab.D.code (OK.ret (aA.r1 (zy O O TT O) ?_)));rfl
def Vl{c:List (Int×Int)}(g:UL c){limit:Int}(s:0<=limit/\limit<=2000):Ct prog 280 [.sl (c.map UF),bv limit] (.cf [.agg (yt c limit).1.cs,.bool (yt c limit).2]):=by
 refine cI func280 O (OK.eW (rows:=c.map UF) (t:=0) O O fun hlen=>?_);rw[Zx]at hlen;unfold maxLen at hlen;refine kr (RK.c (zA (c:=4) ze37 O) (jb O (kD (kO (kr ?_)))));refine ji O O (kD (OK.block (OK.loop (G:=Nat) [4] (fun i=>[(0,.sl (c.map UF)),(1,bv limit),(4,.ptr 4 0),(1004,.box [bv 0,bv 0]),(6,bv i)]) (fun i=>i<=R c/\ix (ZG limit) c=iR (ZG limit) i (c.drop i)) (fun i=>R c - i) 0 ⟨Zr _,O⟩ ⟨O,O,O,O,O,Zo⟩ (fun _=>O) ?_)));rintro i ⟨hi,l⟩;refine OK.seq (kr ?_);refine jm O (jm O (kc (zk Qq O) (kc (S.lss .none O (zt O) (zt O)) (kD (kB O (fun p=>?_) (fun p=>?_))))))
 ·have d:i<R c:=by omega
  refine OK.skip (Ab.D.code (kO (OK.block (OK.seq (kr ?_)))));refine jm O (jm O (kc (zI Qq O I O) (kc (S.field XM .none O (zt O) O) (kc (zV Z8 O O) (jm O (kc (S.geq .none O (zt O) (zt O)) (kD (kB O (fun o=>?_) (fun o=>?_)))))))))
  ·refine OK.exit O (Ab.D.code (OK.bN ?_));refine jm O (kc (zp O O I) (ja O (RK.nil (Ab.D.lp ⟨i+1,⟨by omega,Mc l d (Zy I)⟩,I,O,O,O,O,O,Zo⟩))))
  have e:=Ke l d (Zz I);refine OK.skip (Ab.D.code (kO (kr ?_)));refine jm O (kc (zE O O) (kD (kB O (fun m=>?_) (fun m=>?_))))
  ·have j:i=0:=by omega
   subst j;have y:=g.at_ _ (Zt d);have f:=WT e d;rw[Mf I]at f;refine kr (jm O (kc (S.aP (n:=0) Qq .none O (zt O) (.af O) O d O) (kc (S.field V_ .none O (zt O) O) (kc (zV Z8 O O) (kc (zK RL call324 O) (kc (zS TT O O O O O O) (jb O (kD (kT O O TT O O O ?_)))))))));rw[f];try rfl
  obtain⟨k,rfl⟩:∃k,i=k+1:=⟨i - 1,by omega⟩;have f:=WV e d;obtain⟨H,F,E,z⟩:=VT g s e d;have h:k<R c:=by omega
  have hle:=line_eq c[k+1].1 c[k].1 c[k+1].2 c[k].2 limit;have x:=g.at_ _ (Zt d);have w:=g.at_ _ (Zt h);have v:=g.num _ (Zt d);have u:=g.num _ (Zt h);have r:=XU (a:=c[k].1) (b:=c[k].2 - c[k+1].2) (A:=10000) (B:=2000) I I C;have q:=XU (a:=c[k].2 - limit) (b:=c[k+1].1 - c[k].1) (A:=2000) (B:=10000) I I C;rw[←hle]at f;refine OK.skip (Ab.D.code (kO (kV (.c (zm O) (.c (zm O) (.c (S.sub .none O (zt O) (.af O) (mn _ I) (mn _ I)) (.c (S.aP (n:=k) Qq .none O (zt O) (zt O) I h O) (.c (S.fG Q7 .none O (zt O) O O) (.c (zm O) (.c (zm O) (.c (S.aP (n:=(k+1)) Qq .none O (zt O) (zt O) O d O) (.c (S.fG Q7 .none O (zt O) O O) (.c (zA (c:=7) L3 O) (.c (zA (c:=8) L3 O) (.c (zS Q7 O O O O O O) (.c (zS Q7 O O O O O O) .nil))))))))))))) (kp (jf V_ O (kc (zl Z8 O O O O) (jf XM O (kc (zl Z8 O O O O) (jf XM O (kc (zl Z8 O O O O) (kc (S.sub .none O (zt O) (zt O) (mn _ I) (mn _ I)) ?_)))))))))));refine kc (S.mul .none O (zt O) (zt O) (mn _ I) (mn _ I)) (jf XM O (kc (zl Z8 O O O O) (jm O (kc (S.sub .none O (zt O) (zt O) (mn _ I) (mn _ I)) (jf V_ O (kc (zl Z8 O O O O) (jf V_ O (kc (zl Z8 O O O O) (kc (S.sub .none O (zt O) (zt O) (mn _ I) (mn _ I)) (kc (S.mul .none O (zt O) (zt O) (mn _ I) (mn _ I)) (kc (S.add .none O (zt O) (zt O) (mn _ I) (mn _ I)) ?_)))))))))));refine jf XM O (kc (zl Z8 O O O O) (jf XM O (kc (zl Z8 O O O O) (kc (S.sub .none O (zt O) (zt O) (mn _ I) (mn _ I)) (kc (zK (S2 I I) call325 O) (kc (zS TT O O O O O O) (jb O (kD (kT O O TT O O O ?_)))))))));rw[f];try rfl
 refine OK.exit O (Ab.D.code (kO ?_));have f:=WU (Kc l I);refine OK.bN (kc (zU Ws O O) (kc (zS TT O O O O O O) (jb O (kD (kT O O TT O O O ?_)))));rw[f];try rfl
def PG{l:List jI}{limit:Int}(h:¬aF [(FU l).2,ae (ve limit) 2]≠0):Ct prog 228 [.agg [.sl (l.map jI.cs)],bv limit] (.cf [.agg (It l limit).1.cs,bv (It l limit).2]):=by
 refine cI func228 O fun{_ _}=>?_
 obtain⟨m,k⟩:=P_ h;have b:=VZ m;have f:0<=limit/\limit<=2000:=pf k;have e:=b.len;have j:0<R l:=I
 have i:0<R (yu l):=by rw[Xo];omega
 have c:((yu l).getD 0 (0,0)).2=l[0].hi:=by rw[tX i];simp[yu]
 refine ro 12 O (kc (S.aP (n:=0) YN .none O (zt O) (.af O) O j O) (rr 7 O (kB O (fun a=>?_) (fun a=>?_))))
 ·have g:=VH h (by rw[c];exact a);refine kr (kc (zU PO O O) (rr 4 O (kT O O VK O O O ?_)));rw[g];try rfl
 refine ro 5 O (kc (zK (Sk e.2) call281 O) (jm O (kc (zK (Vl b.upper f) call280 O) (rr 12 O (kc (S.not .none O (zt O)) (kD (OK.cond O O (fun d=>?_) (fun d=>?_))))))))
 ·have g:=VI h (by rw[c];exact a) (by simpa using d);refine kr (kc (zU PO O O) (rr 4 O (kT O O VK O O O ?_)));rw[g];try rfl
 have g:=S4 h (by rw[c];exact a) (by simpa using d);refine ro 5 O (kc (zK (Sj e.2) call281 O) (jm O (kc (zK (Vl b.lower f) call280 O) (rr 12 O (kc (zU PO O O) (rr 4 O (kT O O VK O O O ?_)))))));rw[g];try rfl
end Go.Proofs.Z9
namespace Go.Proofs.Z9
open Go.Ab Tryz
def Wt{α:Type}(g:Nat->α->Int):∀(l:List α)(k:Nat),(∀(i:Nat)(h:i<R l),g (k+i) l[i]=0)->(aK g k l).2=0
 |[],_,_=>rfl
 |x::l,k,h=>by
  have h0:g k x=0:=h 0 F;rw[aK,Zm (by simp[h0])];exact Wt g l (k+1) fun i hi=>by
   have:=h (i+1) (by grind);grind
def Iu(aS:bC)(l:List Frame):Prop:=(∀f∈l,dL aS f=0)/\∀(i j:Nat)(a b:Frame),l[i]?=some a->l[j]?=some b->a.tick=b.tick->i=j
def Iu.rec{aS:bC}{l:List Frame}(f:bA aS=0)(h:Iu aS l)(n:R l<=40):mC aS l=0:=by
 have h0:=Sy aS l;have key:∀i,i<=R l->Xp aS l i/\∀j (hj:j<i) (hjl:j<R l),pJ aS l j l[j]=0:=by
  intro i
  induction i with
  |zero=>simp_all
  |succ i c=>
   intro hi;obtain⟨m,p⟩:=c I;have b:i<R l:=I
   have o:pJ aS l i l[i]=0:=by
    rw[Nx b m,Ny,Zm (by simp[h.1 _ (Zt b)]),Zm ?_];intro e;obtain⟨x,d,a⟩:=dτ.1 e;simp only[Zw,tm]at a;obtain⟨k,g,rfl⟩:=i6 d;rw[sc]at g;rw[List.getElem_take]at a;have:=h.2 k i l[k] l[i] (Zv I) (Zv b) a.1;omega
   grind [Wj]
 unfold mC;rw[Zm (by simp[f]),Zm I];exact Wt _ l 0 fun i hi=>by
  grind
