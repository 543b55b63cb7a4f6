import Derived.Test.YtlmhpcghgjdjjaaGreatDoorSaH
set_option linter.all false
set_option maxHeartbeats 1000000
open List renaming length->R
namespace Go.Proofs.Z_
open Go.Ab Tryz
set_option maxRecDepth 9999
def GN(p:Int×Int):bi:=[bv p.1,bv p.2]
variable{l:List ZK}{i:Nat}
def nV(h:i<R l):(UF l).take (i+1)=(UF l).take i++[(l[i].depth,l[i].lo)]:=by
 simp_all[UF,mv]
def rG(h:i<R l):(X5 l).take (i+1)=(X5 l).take i++[(l[i].depth,l[i].hi)]:=by
 simp_all[X5,mv]
def Ic(l:List ZK):R (UF l)=R l:=Zx ..
def Nf(l:List ZK):R (X5 l)=R l:=Zx ..
variable{c:List (Int×Int)}{n:Nat}
def JS(a:R c=n)(h:i<=n):R ((c.take i).map GN)=i:=by
 simp_all
theorem Ep(a:R c=n)(h:i=n):c.take i=c:=by grind
structure Hp(c:List<|Int×Int):Prop where
 at_:∀p∈c,1<=p.1/\p.1<=10000
 num:∀p∈c,0<=p.2/\p.2<=2000
 asc:∀j (h:j+1<c.length),(c[j]' I).1<c[j+1].1
def Lj.lower(h:Lj l):Hp<|UF l:=by
 refine⟨λp b=>?_,λp b=>?_,λj c=>?_⟩
 ·obtain⟨x,a,rfl⟩:=rx.1 b;exact(h.ok x a).depth
 ·obtain⟨x,a,rfl⟩:=rx.1 b;exact(h.ok x a).lo
 rw[Ic]at c;have:=h.asc j c;simp_all[UF]
def Lj.upper(h:Lj l):Hp<|X5 l:=by
 refine⟨λp b=>?_,λp b=>?_,λj c=>?_⟩
 ·obtain⟨x,a,rfl⟩:=rx.1 b;exact(h.ok x a).depth
 ·obtain⟨x,a,rfl⟩:=rx.1 b;exact(h.ok x a).hi
 rw[Nf]at c;have:=h.asc j c;simp_all[X5]
variable{α:Type}
def idx_n{g:α->Bool}{l:List α}(h:ix g l=none):ZC g 0 l= -1:=by rw[SO,h]
def idx_s{g:α->Bool}{l:List α}{j:Nat}(h:ix g l=some j):ZC g 0 l=(j:Int):=by rw[SO,h]
abbrev Vt(limit:Int):Int×Int->Bool:=λp=>decide<|p.2<limit
variable{limit:Int}
def Mu(h:ix (Vt limit) c=none):Xp c limit=(⟨0,0⟩,false):=by unfold Xp;rw[h]
def Mt(h:ix (Vt limit) c=some 0)(a:0<R c):Xp c limit=(TZ c[0].1 1,true):=by simp_all[Xp]
theorem Mw{k:Nat}(h:ix (Vt limit) c=some (k+1))(a:k+1<R c):Xp c limit=(TZ (c[k+1].1 * ((c[k]' I).2 - c[k+1].2)+((c[k]' I).1 - c[k+1].1) * (limit - c[k+1].2))<|(c[k]' I).2 - c[k+1].2,true):=by
 grind [Xp]
variable{a b:Int}
theorem O7{A B:Int}(d: -A<=a/\a<=A)(c: -B<=b/\b<=B)(e:0<=A): -(A * B)<=a * b/\a * b<=A * B:=by
 have h:a.natAbs<=A.natAbs:=I
 have g:b.natAbs<=B.natAbs:=I
 have f:(a * b).natAbs<=(A * B).natAbs:=by simp_all[Int.natAbs_mul,Nat.mul_le_mul]
 grind [Int.mul_nonneg]
def Gk{g:Int}(b:0<=a)(c:0<g):0<=a.tdiv g/\a.tdiv g<=a:=by
 rw[Int.tdiv_eq_ediv_of_nonneg b];refine⟨Int.ediv_nonneg b I,?_⟩;exact Int.ediv_le_self _ b
def MG(c:0<=a)(d:0<b):0<ON a b:=by
 rw[Rv c I I];exact Bf ((a.tmod b).toNat+1) b (a.tmod b) d (bη b c) I
def JJ(d:Hp c)(u:0<=limit/\limit<=2000){k:Nat}(h:ix (Vt limit) c=some (k+1))(e:k+1<R c):
  let a:=c[k+1];let b:=c[k]' I
  (1<=b.2 - a.2/\b.2 - a.2<=2000)/\(0<=a.1 * (b.2 - a.2)+(b.1 - a.1) * (limit - a.2)/\a.1 * (b.2 - a.2)+(b.1 - a.1) * (limit - a.2)<=1000000000)/\(-100000000<=a.1 * (b.2 - a.2)/\a.1 * (b.2 - a.2)<=100000000)/\(-100000000<=(b.1 - a.1) * (limit - a.2)/\(b.1 - a.1) * (limit - a.2)<=100000000):=by
 intro a b;have o:=d.at_ a<|Zt e;have n:=d.num a<|Zt e;have m:=d.at_ b<|Zt _;have l:=d.num b<|Zt _;have i:a.2<limit:=by
  obtain⟨_,p⟩:=Y8 h;exact pf p
 have j:¬b.2<limit:=by
  have:=NM (Vt limit) c 0 (k+1) h k I b<|Zv I;exact a6 this
 have f:b.1<a.1:=d.asc k e;have t:=O7 (a:=a.1) (b:=b.2 - a.2) (A:=10000) (B:=2000) I I C;have g:=O7 (a:=b.1 - a.1) (b:=limit - a.2) (A:=10000) (B:=2000) I I C;have s:(a.1 - b.1) * (limit - a.2)<=(a.1 - b.1) * (b.2 - a.2):=dε I I;have r:0<=b.1 * (b.2 - a.2):=cη I I;have q:(b.1 - a.1) * (limit - a.2)= -((a.1 - b.1) * (limit - a.2)):=by rw[←Int.neg_mul,Int.neg_sub]
 have v:(a.1 - b.1) * (b.2 - a.2)=a.1 * (b.2 - a.2) - b.1 * (b.2 - a.2):=Int.sub_mul ..;refine⟨I,?_,I,I⟩;rw[q]at g⊢;omega
theorem yf(h:ZW [(WS l).2,Z8 (Y5 limit) 2]≠0):Y6 l limit=(Span.zero,ZW [(WS l).2,Z8 (Y5 limit) 2]):=Zn h
def Ju(h:¬ZW [(WS l).2,Z8 (Y5 limit) 2]≠0)(a:((X5 l).getD 0 (0,0)).2<limit):Y6 l limit=(Span.zero,12):=by simp_all[Y6]
def Jv(h:¬ZW [(WS l).2,Z8 (Y5 limit) 2]≠0)(b:¬((X5 l).getD 0 (0,0)).2<limit)(a:(Xp (X5 l) limit).2=false):Y6 l limit=(Span.zero,21):=by simp_all[Y6]
def Dm(h:¬ZW [(WS l).2,Z8 (Y5 limit) 2]≠0)(b:¬((X5 l).getD 0 (0,0)).2<limit)(a:(Xp (X5 l) limit).2=true):Y6 l limit=(⟨(Xp (UF l) limit).1,(Xp (X5 l) limit).1⟩,0):=by simp_all[Y6]
def vY{b:Bool}(h:¬ZW [a,Z8 b 2]≠0):a=0/\b=true:=by
 by_cases c:a=0
 ·subst c;cases b
  ·exact absurd C h
  simp
 simp_all[ZW]
structure KE(f:GB):Prop where
 num:0<=f.num/\f.num<=1000000000
 den:0<=f.den/\f.den<=2000
def nW{n d:Int}(c:0<=n/\n<=1000000000)(hd:1<=d/\d<=2000):KE<|TZ n d:=by
 have e:=MG (a:=n) (b:=d) c.1 I;have g:=Gk c.1 e;have f:=Gk (a:=d) I e;exact⟨⟨g.1,by show n.tdiv _<=_;omega⟩,⟨f.1,by show d.tdiv _<=_;omega⟩⟩
def A7(b:Hp c)(d:0<=limit/\limit<=2000):KE (Xp c limit).1:=by
 cases h:ix (Vt limit) c with
 |none=>rw[Mu h];exact⟨C,C⟩
 |some j=>
  have a:=(Y8 h).1;cases j with
  |zero=>
   rw[Mt h a];have:=b.at_ _<|Zt a;exact nW I C
  |succ k=>
   rw[Mw h a];obtain⟨f,e,_⟩:=JJ b d h a;exact nW e f
theorem vW(l:List ZK)(limit:Int):KE (Y6 l limit).1.lo/\KE (Y6 l limit).1.hi:=by
 have g:KE Span.zero.lo/\KE Span.zero.hi:=⟨⟨C,C⟩,⟨C,C⟩⟩;by_cases h:ZW [(WS l).2,Z8 (Y5 limit) 2]≠0
 ·grind [yf]
 obtain⟨f,e⟩:=vY h;have a:=J5 f;have b:0<=limit/\limit<=2000:=pf e;by_cases d:((X5 l).getD 0 (0,0)).2<limit
 ·simp_all[Ju]
 cases c:(Xp (X5 l) limit).2 with
 |false=>simp_all[Jv]
 |true=>rw[Dm h d c];exact⟨A7 a.lower b,A7 a.upper b⟩
def Bl(i:0<=a/\a<=1000000000000)(h:0<=b/\b<=1000000000000):Ct prog 358 [bv a,bv b]<|bv<|ON a b:=by
 refine cI func358 O<|ro 7 O ?_;refine OK.We [] (λ(x:Int)(y:Int)=>[(0,bv x),(1,bv y)]) (λx y=>(0<=x/\x<=1000000000000)/\(0<=y/\y<=1000000000000)/\ON a b=ON x y) (λx y=>y.toNat) a b ⟨i,h,O⟩ ⟨O,O,Zo⟩ (λ_ _=>O) ?_;rintro x y ⟨f,e,g⟩;refine ro 7 O<|kB O (λd=>?_) λd=>?_
 ·have j:0<=x.tmod y:=bη y f.1;have k:x.tmod y<y:=bδ x I;refine ro 3 O ?_;refine kV (.c (zm O)<|.c (zm O)<|.c (zm O)<|.c (S.rem .none O (zt O) (zt O) d O<|mn _ I)<|.c (za O)<|.c (za O) .nil)<|Ab.D.blk<|Ab.D.lp ⟨y,x.tmod y,⟨e,⟨j,I⟩,?_⟩,I,O,O,Zo⟩;rw[g,Rv f.1 e.1 d]
 refine ro 6 O ?_;refine kc (S.neg .none O (zt O) (mn _ I)<|mn _ I)<|kc (S.max2 .none O (zt O)<|zt O) ?_;refine rr 3 O<|kR O O ?_;have:y=0:=I
 subst this;rw[g,DP];refine YL ?_;split<;>omega
def HW(f:0<=a/\a<=1000000000000)(i:1<=b/\b<=1000000000000):Ct prog 312 [bv a,bv b]<|.agg (TZ a b).cs:=by
 refine cI func312 O λ{_ _}=>?_
 have d:=MG (a:=a) (b:=b) f.1 I;have h:=Gk f.1 d;have g:=Gk (a:=b) I d;refine ro 9 O<|kc (zK (Bl ⟨I,I⟩ ⟨I,I⟩) call358 O) ?_;refine rr 10 O<|kB O (λe=>?_) λe=>?_
 ·exfalso;omega
 refine ro 3 O ?_;refine kV (.c (zm O)<|.c (zm O)<|.c (S.quo .none O (zt O) (zt O) I (mn _ I)<|mn _ I)<|.c (zm O)<|.c (zm O)<|.c (S.quo .none O (zt O) (zt O) I (mn _ I)<|mn _ I)<|.c (zU lT O O)<|.c (zS Q3 O O O O O O) .nil)<|Ab.D.code<|OK.ret<|Y3.r1 (zy O O Q3 O) ?_;rfl
def Bk{a b:Int×Int}{t:Int}(g: -1000000000<=b.1 - a.1/\b.1 - a.1<=1000000000)(f: -1000000000<=b.2 - a.2/\b.2 - a.2<=1000000000)(e: -1000000000<=t - a.1/\t - a.1<=1000000000)(d: -100000000<=a.2 * (b.1 - a.1)/\a.2 * (b.1 - a.1)<=100000000)(c: -100000000<=(b.2 - a.2) * (t - a.1)/\(b.2 - a.2) * (t - a.1)<=100000000):Ct prog 313 [.agg<|GN a,.agg<|GN b,bv t]<|.Yy [bv<|a.2 * (b.1 - a.1)+(b.2 - a.2) * (t - a.1),bv<|b.1 - a.1]:=by
 refine cI func313 O<|Ro 23 O I ?_;refine kc (S.mul .none O (zt O) (zt O) (mn _ I)<|mn _ I) ?_;refine Rr 9 O I ?_;refine kc (S.mul .none O (zt O) (zt O) (mn _ I)<|mn _ I) ?_;refine Rr 6 O I<|kS O O O O ?_;rfl
def yJ(e:R l<=20):Ct prog 267 [.agg [.sl<|l.map ZK.cs]]<|.Yy [.sl<|(UF l).map GN,.sl<|(X5 l).map GN]:=by
 refine cI func267 O<|ro 3 O<|RK.c (S.XG (k:=2) (sz:=2) .none O)<|RK.c (S.XG (k:=3) (sz:=2) .none O)<|rr 7 O<|kc (zk TU O)<|rr 4 O ?_;refine OK.loop (G:=Nat) [1,2,3] (λi=>[(1,.ptr 1 0),(1001,.box [.sl<|l.map ZK.cs]),(2,.own 2 i),(2002,.arr 2<|((UF l).take i).map GN),(3,.own 3 i),(2003,.arr 2<|((X5 l).take i).map GN),(7,.sl<|l.map ZK.cs),(8,bv<|R l),(9,bv i)]) (λi=>i<=R l) (λi=>R l - i) 0 (Zr _) ⟨O,O,(ZH N),(ZX N),(ZH N),(ZX N),O,O,O,Zo⟩ (λ_=>O) ?_;rintro i hi;refine ro 6 O<|kB O (λd=>?_) λd=>?_
 ·have b:i<R l:=by omega
  refine ro 6 O<|kc (zI TU O I O) ?_;refine rr 5 O ?_;refine kV (.c (zm O)<|.c (zf QE O)<|.c (zl YK O O O O)<|.c (zf Td O)<|.c (zf UT O)<|.c (zl YK O O O O)<|.c (zU vR O O)<|.c (zM [[_,_]] vI O O O O)<|.c (zP vI O O (JS (Ic l) hi) N I<|by simp only[maxLen];omega)<|.c (zm O)<|.c (zf QE O)<|.c (zl YK O O O O)<|.c (zf Td O)<|.c (zf TI O)<|.c (zl YK O O O O)<|.c (zU vR O O)<|.c (zM [[_,_]] vI O O O O)<|.c (zP vI O O (JS (Nf l) hi) N I<|by simp only[maxLen];omega)<|.c (za O)<|.c (za O) .nil) ?_;refine Rd 6 O I ?_;refine Ab.D.lp ⟨i+1,I,I,O,O,O,(ZX<|by rw[nV b,ne];rfl),O,(ZX<|by rw[rG b,ne];rfl),O,O,O,Zo⟩
 refine ro 3 O ?_;have a:i=R l:=by omega
 rw[Ep (Ic l) a,Ep (Nf l) a];refine OK.freeze 2 O O O (by rw[Zx,Ic];exact a.symm) ?_;refine OK.freeze 3 O O O (by rw[Zx,Nf];exact a.symm) ?_;refine ro 7 O<|kS O O O O ?_;rfl
def yK{p:Int×Int}:Ct prog 311 [.agg<|GN p,.Yt [bv limit]]<|.bool<|decide<|p.2<limit:=by
 refine cI func311 O<|ro 15 O<|kR O O ?_;rfl
def Bm:Ct prog 310 [.sl<|c.map GN,.fn 311 [.Yt [bv limit]]]<|bv<|ZC (Vt limit) 0 c:=by
 refine cI func310 O<|OK.XF (rows:=c.map GN) (t:=0) O O λhlen=>?_;rw[Zx]at hlen;unfold maxLen at hlen;refine ro 9 O<|kc (zk K7 O)<|rr 4 O ?_;refine OK.loop (G:=Nat) [] (λi=>[(0,.sl<|c.map GN),(1,.fn 311 [.Yt [bv limit]]),(7,bv<|R c),(8,bv i)]) (λi=>i<=R c/\ZC (Vt limit) 0 c=ZC (Vt limit) i (c.drop i)) (λi=>R c - i) 0 ⟨Zr _,O⟩ ⟨O,O,O,O,Zo⟩ (λ_=>O) ?_;rintro i ⟨hi,a⟩;refine ro 6 O<|kB O (λe=>?_) λe=>?_
 ·have d:i<R c:=by omega
  refine ro 15 O<|kc (zI K7 O I O)<|kc (S.Vj fF .none O (zt O) O O)<|kc (S.Tm (yK (p:=c[i]) (limit:=limit)) call311 .none O (zt O) (zc O .nil) O O O)<|kD<|kB O (λb=>?_) λb=>?_
  ·refine ro 6 O<|kR O O ?_;refine YL ?_;rw[a,Y0 _ I];simp_all
  refine Ro 7 O I (Ab.D.lp ⟨i+1,⟨by omega,?_⟩,I,O,O,O,O,Zo⟩);rw[a,Y0 _ I];simp_all
  try (intro hh;omega)
 refine ro 7 O<|kR O O ?_;refine YL ?_;have:i=R c:=by omega
 subst this;rw[a,da];rfl
def Fy(f:Hp c)(m:0<=limit/\limit<=2000):Ct prog 268 [.sl<|c.map GN,bv limit]<|.Yy [.agg (Xp c limit).1.cs,.bool (Xp c limit).2]:=by
 refine cI func268 O<|OK.XF (rows:=c.map GN) (t:=0) O O λhlen=>?_;rw[Zx]at hlen;unfold maxLen at hlen;refine ro 8 O<|OK.Tr [4] [(0,.sl<|c.map GN),(4,.ptr 4 0),(1004,.box [bv 0,bv 0])] 3 O O O O O O ⟨O,O,O,Zo⟩ O<|OK.R3<|jm O<|kc (S.Xd .none O (zt O) O)<|kc (zK (Bm (c:=c) (limit:=limit)) call310 O)<|rr 5 O ?_;rcases hix:ix (Vt limit) c with _|j
 ·rw[idx_n hix];have g:=Mu hix;refine ro 5 O<|kB O (λe=>?_) λe=>?_
  ·refine kr<|kc (zU lT O O)<|rr 4 O<|kT O O Q3 O O O ?_;rw[g];try rfl
  exfalso;omega
 rw[idx_s hix];have d:j<R c:=(Y8 hix).1;refine ro 5 O<|kB O (λe=>?_) λe=>?_
 ·exfalso;omega
 refine ro 9 O<|kB O (λl=>?_) λl=>?_
 ·have i:j=0:=I
  subst i;have g:=Mt hix d;have q:=f.at_ _<|Zt d;refine ro 3 O<|kc (S.Zi (n:=0) K7 .none O (zt O) (.Zg O) O d O)<|rr 2 O ?_;refine kc (zK (HW (a:=c[0].1) (b:=1) I C) call312 O) ?_;refine rr 4 O<|kT O O Q3 O O O ?_;rw[g];try rfl
 obtain⟨k,rfl⟩:∃k,j=k+1:=⟨j - 1,I⟩;have g:=Mw hix d;obtain⟨v,u,s,r⟩:=JJ f m hix d;have h:k<R c:=I
 have q:=f.at_ _<|Zt d;have p:=f.at_ _<|Zt h;have o:=f.num _<|Zt d;refine ro 3 O ?_;refine kV (.c (zm O)<|.c (zm O)<|.c (S.Zi (n:=(k+1)) K7 .none O (zt O) (zt O) O d O)<|.c (S.field DJ .none O (zt O) O)<|.c (zV YK O O)<|.c (zm O)<|.c (zm O)<|.c (S.Zi (n:=(k+1)) K7 .none O (zt O) (zt O) O d O)<|.c (S.field DI .none O (zt O) O)<|.c (zV YK O O)<|.c (zU vR O O)<|.c (zm O)<|.c (zm O)<|.c (S.sub .none O (zt O) (.Zg O) (mn _ I)<|mn _ I)<|.c (S.Zi (n:=k) K7 .none O (zt O) (zt O) I h O)<|.c (S.field DJ .none O (zt O) O)<|.c (zV YK O O)<|.c (zm O)<|.c (zm O)<|.c (S.sub .none O (zt O) (.Zg O) (mn _ I)<|mn _ I)<|.c (S.Zi (n:=k) K7 .none O (zt O) (zt O) I h O)<|.c (S.field DI .none O (zt O) O)<|.c (zV YK O O)<|.c (zU vR O O)<|.c (zV YK O O)<|.c (zK (Bk (a:=(c[k+1].2,c[k+1].1)) (b:=(c[k].2,c[k].1)) (t:=limit) (by dsimp only;omega) (by dsimp only;omega) (by dsimp only;omega) s r) call313 O)<|.c (zX O O O)<|.c (zX O O O)<|.c (zK (HW (by dsimp only;omega)<|by dsimp only;omega) call312 O)<|.c (zS Q3 O O O O O O)<|.c (zb O) .nil) ?_;refine Ab.D.code<|kT O O Q3 O O O ?_;rw[g];try rfl
def yI:Ct prog 213 [.agg [.sl<|l.map ZK.cs],bv limit]<|.Yy [.agg (Y6 l limit).1.cs,bv (Y6 l limit).2]:=by
 refine cI func213 O<|ro 11 O<|kc (zK (Qt (l:=l)) call263 O)<|jm O<|kc (zK SP call266 O)<|kc (zK Xf call265 O) ?_;refine RK.c (zM [[_],[_]] Xk O O O O)<|kc (S.XY (RV (l:=[_,_])) call264 .none O (zc O .nil) (.cons (.p (.own O O) O) .nil) O) ?_;refine rr 9 O<|kB O (λa=>?_) λa=>?_
 ·have f:=yf a;refine kr<|kc (zU yc O O)<|rr 5 O<|kT O O L4 O O O ?_;rw[f];try rfl
 obtain⟨m,k⟩:=vY a;have d:=J5 m;have i:0<=limit/\limit<=2000:=pf k;have j:=d.len;have h:0<R (X5 l):=by rw[Nf];omega
 have e:(X5 l).getD 0 (0,0)=(X5 l)[0]:=TJ h;refine ro 5 O<|kc (zK (yJ j.2) call267 O)<|rr 11 O<|kc (S.Zi (n:=0) K7 .none O (zt O) (.Zg O) O h O)<|rr 6 O<|kB O (λb=>?_) λb=>?_
 ·have f:=Ju a (by rw[e];exact b);refine kr<|kc (zU yc O O)<|rr 4 O<|kT O O L4 O O O ?_;rw[f];try rfl
 refine ro 6 O<|kc (zK (Fy d.upper i) call268 O)<|rr 12 O<|kc (S.not .none O<|zt O)<|kD<|OK.cond O O (λg=>?_) λg=>?_
 ·have f:=Jv a (by rw[e];exact b) (by simpa using g);refine kr<|kc (zU yc O O)<|rr 4 O<|kT O O L4 O O O ?_;rw[f];try rfl
 have f:=Dm a (by rw[e];exact b) (by simpa using g);refine ro 6 O<|kc (zK (Fy d.lower i) call268 O)<|rr 12 O<|kc (zU yc O O)<|rr 4 O<|kT O O L4 O O O ?_;rw[f];try rfl
def bO{w:ba}(e:(Wn w 7).2=true)(c:¬(Wn w 7).1<0):Tz w=some (Wn w 7).1:=by
 obtain⟨f,b⟩:=PM (l:=w) (d:=7);have a:TF w 7=true:=by simp_all
 rw[yW<|by simp_all[Tt],O8 I a,b a]
theorem oO{w:ba}(h:(Wn w 7).2=false\/(Wn w 7).1<0):Tz w=none:=by
 obtain⟨a,_⟩:=PM (l:=w) (d:=7);refine LN ?_;rw[Tt w I,←a];grind
variable{p:ba}
def qI(h:YT Tz (Z7 32 p)=none):Qk n p=none:=by rw[L0,h]
theorem cJ{a:bd}(h:YT Tz (Z7 32 p)=some a)(b:¬R a=n):Qk n p=none:=by rw[L0,h];grind
theorem cK{a:bd}(h:YT Tz (Z7 32 p)=some a)(b:R a=n):Qk n p=some a:=by rw[L0,h];grind
variable{x:ZK}
def DY{b:ZK}(h:(YR x.depth&&YR x.diag&&Y5 x.lo&&Y5 x.hi)=false):VE i b x=2:=by
 simp_all[DX,ZW,Z8]
def aZ{b:ZK}(h:(YR x.depth&&YR x.diag&&Y5 x.lo&&Y5 x.hi)=true)(a:x.lo>x.hi):VE i b x=9:=by
 have e:decide (x.lo<=x.hi)=false:=Zy I;simp_all[DX,ZW,Z8]
theorem a_{b:ZK}(h:(YR x.depth&&YR x.diag&&Y5 x.lo&&Y5 x.hi)=true)(c:¬x.lo>x.hi):VE i b x=if i=0 then Z8 (decide<|2 * x.depth>=5 * x.diag) 17 else Z8 (decide<|x.depth - b.depth>=3 * max x.diag b.diag) 17:=by
 have e:decide (x.lo<=x.hi)=true:=Zz I;have a:¬ZW [Z8 true 2,Z8 (decide<|x.lo<=x.hi) 9]≠0:=by rw[e];simp[ZW,Z8]
 grind [yG,yH]
theorem iE{n:Int}(h:0<=n):TZ n 1=⟨n,1⟩:=by
 grind [Rv,DP,TZ]
theorem line_eq(x y u v l:Int):y * (v - u)+(v - l) * (x - y)=x * (v - u)+(y - x) * (l - u):=by
 grind
def bl{g:α->Bool}{l:List α}(b:ix g l=VF g i (l.drop i))(h:i<R l)(a:g l[i]=true):ix g l=some i:=by rw[b,Wf _ h,Zn a]
def iw{g:α->Bool}{l:List α}(b:ix g l=VF g i (l.drop i))(h:i<R l)(a:g l[i]=false):ix g l=VF g (i+1) (l.drop<|i+1):=by simp_all[Wf]
def bh{g:α->Bool}{l:List α}(a:ix g l=VF g i (l.drop i))(h:i=R l):ix g l=none:=by rw[a,h,da];rfl
def SI{g:Nat->α->Int}{l:List α}(b:ZP g 0 l=ZP g i (l.drop i))(h:i<R l){e:Int}(a:g i l[i]=e)(c:e≠0):ZP g 0 l=((i:Int),e):=by simp_all[Zd]
def we{g:Nat->α->Int}{l:List α}(b:ZP g 0 l=ZP g i (l.drop i))(h:i<R l)(a:g i l[i]=0):ZP g 0 l=ZP g (i+1) (l.drop<|i+1):=by simp_all[Zd]
def PZ(h:¬UM l≠0){p:Int×Int}(a:ZP (su l) 0 l=p):WS l=p:=(EN h).trans a
def jN(h:(R l:Int)<2):WS l=(0,10):=by
 have e:UM l=10:=by unfold UM;rw[Zy (show¬(R l:Int)>=2 by omega)];rfl
 simp_all[J4]
def cY(h:¬(R l:Int)<2)(a:(R l:Int)>20):WS l=(0,8):=by
 have e:UM l=8:=by unfold UM;rw[Zz (show(R l:Int)>=2 by omega),Zy (show¬(R l:Int)<=20 by omega)];rfl
 simp_all[J4]
def cX(h:¬(R l:Int)<2)(a:¬(R l:Int)>20):¬UM l≠0:=by
 unfold UM;rw[Zz (show(R l:Int)>=2 by omega),Zz (show(R l:Int)<=20 by omega)];decide
def Co{s:ba}(J:R s<=100000):Ct prog 278 [.str s,bv (n:Int)]<|.Yy [.sl<|(Yq n s).1.map λr=>[ints r],bv (Yq n s).2]:=by
 refine cI func278 O λ{_ _}=>?_
 have H:=WJ (c:=59) (l:=s);refine kr<|kc (S.assign .none O .Ya)<|rr 11 O<|kB O (λA=>?_) λA=>?_
 ·refine kr<|kc (S.assign .none O .Ya)<|rr 3 O<|kS O O O O ?_;rw[xk I]
  all_goals rfl
 refine ro 5 O<|kc (zK (Rl (l:=s) (c:=59) I) call82 O) ?_;refine rr 5 O<|RK.c (S.XG (k:=7) (sz:=1) .none O)<|rr 9 O ?_;refine OK.We [7] (λ(k:Nat)(out:List bd)=>[(1,bv (n:Int)),(6,.sl<|(Z7 59 s).map λw=>[.str w]),(7,.own 7<|R out),(2007,.arr 1<|out.map λr=>[ints r]),(8,bv (k:Int))]) (λk out=>k<=R (Z7 59 s)/\YT (Qk n) (Z7 59 s)=(YT (Qk n)<|(Z7 59 s).drop k).map (out++ ·)/\R out<=k) (λk out=>R (Z7 59 s) - k) 0 ([]) ⟨Zr _,by rw[aα];cases YT (Qk n) (Z7 59 s)<;>simp,Zq _⟩ ⟨O,O,(ZH N),(ZX N),O,Zo⟩ (λ_ _=>O) ?_;rintro k out ⟨K,p,E⟩;refine ro 5 O<|kc (zk X9 O)<|rr 3 O<|kB O (λz=>?_) λz=>?_
 ·have a:k<R (Z7 59 s):=by omega
  have C:=Xs _<|Zt a;have G:=WJ (c:=32) (l:=(Z7 59 s)[k]);refine ro 8 O<|kc (zI X9 O I O)<|kc (zV T6 O O)<|kc (zK (Rl (l:=(Z7 59 s)[k]) (c:=32) I) call82 O) ?_;refine rr 5 O<|RK.c (S.XG (k:=10) (sz:=1) .none O)<|rr 9 O ?_;refine OK.We [7,10] (λ(j:Nat)(row:bd)=>[(1,bv (n:Int)),(6,.sl<|(Z7 59 s).map λw=>[.str w]),(7,.own 7<|R out),(2007,.arr 1<|out.map λr=>[ints r]),(8,bv (k:Int)),(9,.sl<|(Z7 32 (Z7 59 s)[k]).map λw=>[.str w]),(10,.own 10<|R row),(2010,.arr 1<|row.map λv=>[bv v]),(11,bv (j:Int))]) (λj row=>j<=R (Z7 32 (Z7 59 s)[k])/\YT Tz (Z7 32 (Z7 59 s)[k])=(YT Tz<|(Z7 32 (Z7 59 s)[k]).drop j).map (row++ ·)/\R row<=j) (λj row=>R (Z7 32 (Z7 59 s)[k]) - j) 0 ([]) ⟨Zr _,by rw[aα];cases YT Tz (Z7 32 (Z7 59 s)[k])<;>simp,Zq _⟩ ⟨O,O,(ZH N),(ZX N),O,O,(ZH N),(ZX N),O,Zo⟩ (λ_ _=>O) ?_;rintro j row ⟨L,f,B⟩;refine ro 5 O<|kc (zk X9 O)<|rr 3 O<|kB O (λy=>?_) λy=>?_
  ·have e:j<R (Z7 32 (Z7 59 s)[k]):=by omega
   have q:R (Z7 32 (Z7 59 s)[k])[j]<=100000:=by have:=Xs _<|Zt e;omega
   refine ro 8 O<|kc (zI X9 O I O)<|kc (zV T6 O O)<|kc (zK (Sw (l:=(Z7 32 (Z7 59 s)[k])[j]) (d:=7) q I) call40 O) ?_;refine rr 11 O<|kc (S.not .none O<|zt O)<|jm O<|RK.split (t:=46) O (λh=>?_) λh=>?_
   ·have b:Tz (Z7 32 (Z7 59 s)[k])[j]=none:=oO (.inl<|by simpa using h);refine rr 8 O<|kc (S.assign .none O .Ya)<|rr 3 O<|kS O O O O ?_;rw[JW I<|QH p a<|qI<|QH f e b]
    all_goals rfl
   refine rr 5 O<|kB O (λi=>?_) λi=>?_
   ·have b:Tz (Z7 32 (Z7 59 s)[k])[j]=none:=oO (.inr<|by simpa using i);refine kr<|kc (S.assign .none O .Ya)<|rr 3 O<|kS O O O O ?_;rw[JW I<|QH p a<|qI<|QH f e b]
    all_goals rfl
   have m:Tz (Z7 32 (Z7 59 s)[k])[j]=some (Wn (Z7 32 (Z7 59 s)[k])[j] 7).1:=bO (by simpa using h) (by simpa using i);refine ro 5 O ?_;refine RK.c (zM [[_]] Xr O O O O) ?_;refine kc (zP Xr O O F N I<|by simp only[maxLen];omega) ?_;refine Rr 9 O I ?_;refine Ab.D.lp ⟨j+1,row++[(Wn (Z7 32 (Z7 59 s)[k])[j] 7).1],⟨by omega,JF f e m,by simp;omega⟩,I,O,O,(ZH N),(ZX N),O,O,(ZH N),(ZX N),O,Zo⟩
  refine ro 4 O ?_;have o:YT Tz (Z7 32 (Z7 59 s)[k])=some row:=MC f I;refine OK.freeze 10 O O O F ?_;refine OK.R3<|jm O<|kc (zk Ym O)<|rr 4 O<|kB O (λx=>?_) λx=>?_
  ·have g:¬R row=n:=by omega
   refine kr<|kc (S.assign .none O .Ya)<|rr 3 O<|kS O O O O ?_;rw[JW I<|QH p a<|cJ o g]
   all_goals rfl
  have g:R row=n:=by omega
  refine ro 5 O ?_;refine RK.c (zM [[_]] vH O O O O) ?_;refine kc (zP vH O O F N I<|by simp only[maxLen];omega) ?_;refine Rr 9 O I ?_;refine Ab.D.lp ⟨k+1,out++[row],⟨by omega,JF p a<|cK o g,by simp;omega⟩,I,O,O,(ZH N),(ZX<|by rw[ne];rfl),O,Zo⟩
 refine ro 3 O ?_;have u:YT (Qk n) (Z7 59 s)=some out:=MC p I;refine ro 6 O ?_;refine OK.ret<|Y3.r2 (.tmp O O (.c (.own O O N) O) O) (zo O O) ?_;rw[xj I u]
 all_goals rfl
def K0{n:Int}:Ct prog 365 [bv n]<|.bool<|Y5 n:=by
 refine cI func365 O<|ro 8 O<|kc (zK Y4 call33 O)<|rr 3 O<|kR O O ?_;rfl
def NX:Ct prog 323 [.agg [.sl<|l.map ZK.cs]]<|.Yy [bv (WS l).1,bv (WS l).2]:=by
 refine cI func323 O<|ro 12 O<|kc (zk TU O)<|rr 3 O<|kB O (λM=>?_) λM=>?_
 ·have d:=jN (l:=l) I;refine ro 6 O<|kS O O O O ?_;rw[d];try rfl
 refine ro 7 O<|kc (zk TU O)<|rr 3 O<|kB O (λJ=>?_) λJ=>?_
 ·have d:=cY (l:=l) I I;refine ro 6 O<|kS O O O O ?_;rw[d];try rfl
 have f:=cX (l:=l) I I;refine ro 9 O ?_;refine OK.loop (G:=Nat) [1] (λi=>[(1,.ptr 1 0),(1001,.box [.sl<|l.map ZK.cs]),(4,bv i)]) (λi=>i<=R l/\ZP (su l) 0 l=ZP (su l) i (l.drop i)/\x4 l i) (λi=>R l - i) 0 ⟨Zr _,O,λj y h=>absurd h<|bπ _⟩ ⟨O,O,O,Zo⟩ (λ_=>O) ?_;rintro i ⟨hi,k,m⟩;refine ro 6 O<|kc (zk TU O)<|rr 3 O<|kB O (λH=>?_) λH=>?_
 ·have a:i<R l:=by omega
  have b:i - 1<R l:=by omega
  refine ro 9 O<|kc (zI TU O I O) ?_;refine rr 10 O<|kc (zK Y4 call33 O)<|kc (S.Xb .none O<|zt O)<|jm O<|RK.ZS (t:=30) O (λB=>?_) λB=>?_
  ·have d:=PZ f (SI k a ((TE b _).trans<|DY<|by first|(simp_all[YR,Y5];done)|(simp_all[YR,Y5];intros;omega)) C);refine rr 29 O<|kS O O O O ?_;rw[d];try rfl
  refine rr 2 O<|kc (S.call Y4 call33 (zg O O) O (zc O<|zC O<|zD O) O)<|kc (S.Xb (zg O O) O<|zt O)<|rr 2 O<|RK.ZS (t:=36) O (λA=>?_) λA=>?_
  ·have d:=PZ f (SI k a ((TE b _).trans<|DY<|by first|(simp_all[YR,Y5];done)|(simp_all[YR,Y5];intros;omega)) C);refine rr 23 O<|kS O O O O ?_;rw[d];try rfl
  refine rr 3 O<|kc (S.call K0 call365 (zg O O) O (zc O .nil) O)<|kc (S.not (zg O O) O<|zt O)<|rr 2 O<|RK.split (t:=43) O (λz=>?_) λz=>?_
  ·have d:=PZ f (SI k a ((TE b _).trans<|DY<|by first|(simp_all[YR,Y5];done)|(simp_all[YR,Y5];intros;omega)) C);refine rr 16 O<|kS O O O O ?_;rw[d];try rfl
  refine rr 3 O<|kc (S.call K0 call365 (zg O O) O (zc O .nil) O)<|kc (S.not (zg O O) O<|zt O)<|rr 3 O<|OK.cond O O (λF=>?_) λF=>?_
  ·have d:=PZ f (SI k a ((TE b _).trans<|DY<|by first|(simp_all[YR,Y5];done)|(simp_all[YR,Y5];intros;omega)) C);refine ro 7 O<|kS O O O O ?_;rw[d];try rfl
  have r:(YR l[i].depth&&YR l[i].diag&&Y5 l[i].lo&&Y5 l[i].hi)=true:=by simp_all[YR,Y5]
  obtain⟨L,K⟩:(1<=l[i].depth/\l[i].depth<=10000)/\(1<=l[i].diag/\l[i].diag<=10000):=by
   simp only[Zw]at r;exact⟨pf r.1.1.1,pf r.1.1.2⟩
  refine ro 14 O<|kB O (λp=>?_) λp=>?_
  ·have d:=PZ f<|SI k a ((TE b _).trans<|aZ r p) C;refine ro 7 O<|kS O O O O ?_;rw[d];try rfl
  have s:=(TE b l[i]).trans<|a_ r p;refine ro 8 O<|RK.ZS (t:=61) O (λx=>?_) λx=>?_
  ·refine rr 2 O ?_;refine kc (S.mul (zg O O) O (.Zg O) (zt O) (mn _ I)<|mn _ I) ?_;refine rr 2 O ?_;refine kc (S.mul (zg O O) O (.Zg O) (zt O) (mn _ I)<|mn _ I) ?_;refine rr 4 O<|kB O (λE=>?_) λE=>?_
   ·have d:=PZ f (SI k a (s.trans<|by rw[Zn (show i=0 by omega),Zy (show¬2 * l[i].depth>=5 * l[i].diag by omega)];try rfl) (by decide:(17:Int)≠0));refine ro 7 O<|kS O O O O ?_;rw[d];try rfl
   refine ro 3 O ?_;by_cases w:(i:Int)>0
   ·have g:Pq l[i - 1]:=(m.prev a).resolve_left I;have v:=g.depth;have u:=g.diag;exfalso;omega
   refine kV (.c (zm O)<|.c (S.gtr .none O (zt O)<|.Zg O)<|.c (zm O)<|.c (zG O W)<|.c (zG O W)<|.c (zG O W)<|.c (zG O W)<|.c (zG O W)<|.c (zG O W)<|.c (zG O W)<|.c (zG O W)<|.c (zG O W)<|.c (zG O W)<|.c (zG O W)<|.c (zG O W)<|.c (zG O W)<|.c (zG O W)<|.c (zG O W)<|.c (zG O W)<|.c (zG O W)<|.c (zG O W)<|.c (zG O W)<|.c (zG O W)<|.c (zG O W)<|.c (zG O W)<|.c (S.Ug .none O (zt O) .Wx W) .nil) ?_;refine Rd 10 O I ?_;have q:su l i l[i]=0:=by
    rw[s];split
    ·rw[Zz (show 2 * l[i].depth>=5 * l[i].diag by omega)];rfl
    rw[Zz (show l[i].depth - l[i - 1].depth>=3 * max l[i].diag l[i - 1].diag by first|omega|(split at o<;>omega))];rfl
   refine Ab.D.lp ⟨i+1,⟨by omega,we k a q,m.succ a (JH λe=>e<|(TE b _).symm.trans q).1⟩,I,O,O,O,Zo⟩
  refine rr 14 O ?_;by_cases w:(i:Int)>0
  ·have g:Pq l[i - 1]:=(m.prev a).resolve_left I;have v:=g.depth;have u:=g.diag;refine kV (.c (zm O)<|.c (S.gtr .none O (zt O)<|.Zg O)<|.c (zm O)<|.c (S.VN QE (.yes O O O W) O<|zt O)<|.c (S.YH YK (.yes O O O W) O (zt O) O O O O)<|.c (S.VN QD (.yes O O O W) O<|zt O)<|.c (S.YH Jc (.yes O O O W) O (zt O) O O O O)<|.c (S.move (.yes O O O W) O<|zt O)<|.c (S.sub (.yes O O O W) O (zt O) (.Zg O) (mn _ I)<|mn _ I)<|.c (S.Zi (n:=(i - 1)) TU (.yes O O O W) O (zt O) (zt O) I b O)<|.c (S.field QE (.yes O O O W) O (zt O) O)<|.c (S.Q_ YK (.yes O O O W) O (zt O) O)<|.c (S.sub (.yes O O O W) O (zt O) (zt O) (mn _ I)<|mn _ I)<|.c (S.VN DH (.yes O O O W) O<|zt O)<|.c (S.YH YK (.yes O O O W) O (zt O) O O O O)<|.c (S.VN QD (.yes O O O W) O<|zt O)<|.c (S.YH Jc (.yes O O O W) O (zt O) O O O O)<|.c (S.move (.yes O O O W) O<|zt O)<|.c (S.sub (.yes O O O W) O (zt O) (.Zg O) (mn _ I)<|mn _ I)<|.c (S.Zi (n:=(i - 1)) TU (.yes O O O W) O (zt O) (zt O) I b O)<|.c (S.field DH (.yes O O O W) O (zt O) O)<|.c (S.Q_ YK (.yes O O O W) O (zt O) O)<|.c (S.max2 (.yes O O O W) O (zt O)<|zt O)<|.c (S.mul (.yes O O O W) O (.Zg O) (zt O) (mn _ I)<|mn _ I)<|.c (S.lss (.yes O O O W) O (zt O)<|zt O)<|.c (S.Tc .none O (zt O) (zt O) W) .nil) ?_;refine Ab.D.code<|kB O (λo=>?_) λo=>?_
   ·have d:=PZ f (SI k a (s.trans<|by rw[Zm (show¬i=0 by omega),Zy (show¬l[i].depth - l[i - 1].depth>=3 * max l[i].diag l[i - 1].diag by split at o<;>omega)];try rfl) (by decide:(17:Int)≠0));refine ro 7 O<|kS O O O O ?_;rw[d];try rfl
   refine Ro 8 O I ?_;have q:su l i l[i]=0:=by
    rw[s];split
    ·rw[Zz (show 2 * l[i].depth>=5 * l[i].diag by omega)];rfl
    rw[Zz (show l[i].depth - l[i - 1].depth>=3 * max l[i].diag l[i - 1].diag by first|omega|(split at o<;>omega))];rfl
   refine Ab.D.lp ⟨i+1,⟨by omega,we k a q,m.succ a (JH λe=>e<|(TE b _).symm.trans q).1⟩,I,O,O,O,Zo⟩
  exfalso;omega
 refine ro 3 O ?_;have d:=PZ f (k.trans<|by rw[show i=R l by omega,da];try rfl);refine ro 5 O<|kS O O O O ?_;rw[d];try rfl
def LY:Ct prog 279 [.agg [.sl<|l.map ZK.cs]]<|bv (WS l).2:=by
 refine cI func279 O<|ro 9 O<|kc (zK (NX (l:=l)) call323 O)<|rr 13 O<|kR O O ?_;rfl
def NY{s:ba}(j:R s<=100000):Ct prog 227 [.str s]<|.Yy [.agg [.sl<|(Y9 s).1.map ZK.cs],bv (Y9 s).2]:=by
 refine cI func227 O λ{_ _}=>?_
 have o:=F7 (n:=4) j;refine ro 9 O<|kc (zK (Co (n:=4) j) call278 O)<|rr 14 O<|kB O (λa=>?_) λa=>?_
 ·have b:=Nd (s:=s) (by rw[Zm a];exact a);rw[Zm a]at b;refine kr<|kc (zU vQ O O)<|rr 5 O<|OK.ret<|Y3.r2 (.XU O O O O K_ O<|.k .ZM .z) (zo O O) ?_;rw[b];try rfl
 have d:(Yq 4 s).2=0:=Zu.1 a;refine ro 14 O<|OK.VL 6 0 880 4 O O O O O ?_;refine OK.loop (G:=Nat) [2,6,880] (λk=>[(2,.ptr 2 0),(1002,.box [.ZM]),(4,.sl<|(Yq 4 s).1.map λr=>[ints r]),(6,.ptr 6 0),(1006,.box [.own 880 k]),(2880,.arr 4<|(((Yq 4 s).1.take k).map Xy).map ZK.cs),(7,bv k)]) (λk=>k<=R (Yq 4 s).1) (λk=>R (Yq 4 s).1 - k) 0 (Zr _) ⟨O,O,O,O,O,(ZX N),O,Zo⟩ (λ_=>O) ?_;rintro k p;refine ro 5 O<|kc (zk I2 O)<|rr 3 O<|kB O (λi=>?_) λi=>?_
 ·have f:k<R (Yq 4 s).1:=by omega
  have m:=F8<|Zt f;have h:(Xy (Yq 4 s).1[k]).cs=[bv<|(Yq 4 s).1[k][0],bv<|(Yq 4 s).1[k][1],bv<|(Yq 4 s).1[k][2],bv<|(Yq 4 s).1[k][3]]:=by unfold Xy ZK.cs;rw[TJ I,TJ I,TJ I,TJ I]
  refine ro 4 O ?_;refine kV (.c (zf QD O)<|.c (zl Jc O O O O)<|.c (zm O)<|.c (zm O)<|.c (zI I2 O I O)<|.c (zV Vr O O)<|.c (S.Zi (n:=0) Ym .none O (zt O) (.Zg O) O I O)<|.c (zV YK O O)<|.c (zm O)<|.c (zm O)<|.c (zI I2 O I O)<|.c (zV Vr O O)<|.c (S.Zi (n:=1) Ym .none O (zt O) (.Zg O) O I O)<|.c (zV YK O O)<|.c (zm O)<|.c (zm O)<|.c (zI I2 O I O)<|.c (zV Vr O O)<|.c (S.Zi (n:=2) Ym .none O (zt O) (.Zg O) O I O)<|.c (zV YK O O)<|.c (zm O)<|.c (zm O)<|.c (zI I2 O I O)<|.c (zV Vr O O)<|.c (S.Zi (n:=3) Ym .none O (zt O) (.Zg O) O I O)<|.c (zV YK O O)<|.c (zU lQ O O)<|.c (zU dN O O)<|.c (zM [[_,_,_,_]] vG O O O O)<|.c (zP vG O O (wJ _ I) N I<|by simp only[maxLen];omega)<|.c (zf QD O)<|.c (zS Jc O O O O O O) .nil) ?_;refine Rd 7 O I ?_;refine Ab.D.lp ⟨k+1,I,I,O,O,O,O,O,(ZX<|by rw[Bj f,h];try rfl),O,Zo⟩
 refine ro 4 O ?_;have g:k=R (Yq 4 s).1:=by omega
 subst g;rw[List.take_length];refine OK.TP 6 0 O O O O (by rw[Zx,Zx]) O ?_;refine ro 2 O<|kc (zK (LY (l:=(Yq 4 s).1.map Xy)) call279 O)<|rr 9 O<|kB O (λe=>?_) λe=>?_
 ·have b:=Nd (s:=s) (by rw[Zn d];exact e);rw[Zn d]at b;refine kr<|kc (zU vQ O O)<|rr 5 O<|OK.ret<|Y3.r2 (.XU O O O O K_ O<|.k .ZM .z) (zo O O) ?_;rw[b];try rfl
 have b:=EO (s:=s) (by rw[Zn d];exact e);refine ro 9 O<|kT O O K_ O O O ?_;rw[b];try rfl
def Cm(e:R l<=20):Ct prog 281 [.agg [.sl<|l.map ZK.cs],bv 0]<|.sl<|(UF l).map GN:=by
 refine cI func281 O<|ro 3 O<|kc (S.assign .none O .Ya)<|rr 4 O<|RK.c (S.XG (k:=5) (sz:=2) .none O)<|rr 9 O ?_;refine OK.loop (G:=Nat) [2,5] (λi=>[(1,bv 0),(2,.ptr 2 0),(1002,.box [.sl<|l.map ZK.cs]),(5,.own 5 i),(2005,.arr 2<|((UF l).take i).map GN),(6,bv i)]) (λi=>i<=R l) (λi=>R l - i) 0 (Zr _) ⟨O,O,O,(ZH N),(ZX N),O,Zo⟩ (λ_=>O) ?_;rintro i hi;refine ro 6 O<|kc (zk TU O)<|rr 3 O<|kB O (λd=>?_) λd=>?_
 ·have b:i<R l:=by omega
  refine ro 9 O<|kc (zI TU O I O) ?_;refine rr 5 O ?_;refine kV (.c (zm O)<|.c (zf QE O)<|.c (zl YK O O O O)<|.c (zf Td O)<|.c (zf UT O)<|.c (zl YK O O O O)<|.c (zf Td O)<|.c (zf TI O)<|.c (zl YK O O O O)<|.c (zM [[_],[_]] Xr O O O O)<|.c (zm O)<|.c (S.Mb (i:=0) Ym .none O (zt O) O O (zt O) O I)<|.c (S.EZ YK .none O (zt O) O O O)<|.c (zU dO O O)<|.c (zM [[_,_]] vJ O O O O)<|.c (zP vJ O O (JS (Ic l) hi) N I<|by simp only[maxLen];omega)<|.c (za O) .nil) ?_;refine Rd 7 O I ?_;refine Ab.D.lp ⟨i+1,I,I,O,O,O,O,(ZX<|by rw[nV b,ne];rfl),O,Zo⟩
 refine ro 3 O ?_;have a:i=R l:=by omega
 rw[Ep (Ic l) a];refine OK.freeze 5 O O O (by rw[Zx,Ic];exact a.symm) ?_;refine ro 5 O<|kR O O ?_;rfl
def Cn(e:R l<=20):Ct prog 281 [.agg [.sl<|l.map ZK.cs],bv 1]<|.sl<|(X5 l).map GN:=by
 refine cI func281 O<|ro 3 O<|kc (S.assign .none O .Ya)<|rr 4 O<|RK.c (S.XG (k:=5) (sz:=2) .none O)<|rr 9 O ?_;refine OK.loop (G:=Nat) [2,5] (λi=>[(1,bv 1),(2,.ptr 2 0),(1002,.box [.sl<|l.map ZK.cs]),(5,.own 5 i),(2005,.arr 2<|((X5 l).take i).map GN),(6,bv i)]) (λi=>i<=R l) (λi=>R l - i) 0 (Zr _) ⟨O,O,O,(ZH N),(ZX N),O,Zo⟩ (λ_=>O) ?_;rintro i hi;refine ro 6 O<|kc (zk TU O)<|rr 3 O<|kB O (λd=>?_) λd=>?_
 ·have b:i<R l:=by omega
  refine ro 9 O<|kc (zI TU O I O) ?_;refine rr 5 O ?_;refine kV (.c (zm O)<|.c (zf QE O)<|.c (zl YK O O O O)<|.c (zf Td O)<|.c (zf UT O)<|.c (zl YK O O O O)<|.c (zf Td O)<|.c (zf TI O)<|.c (zl YK O O O O)<|.c (zM [[_],[_]] Xr O O O O)<|.c (zm O)<|.c (S.Mb (i:=1) Ym .none O (zt O) O O (zt O) O I)<|.c (S.EZ YK .none O (zt O) O O O)<|.c (zU dO O O)<|.c (zM [[_,_]] vJ O O O O)<|.c (zP vJ O O (JS (Nf l) hi) N I<|by simp only[maxLen];omega)<|.c (za O) .nil) ?_;refine Rd 7 O I ?_;refine Ab.D.lp ⟨i+1,I,I,O,O,O,O,(ZX<|by rw[rG b,ne];rfl),O,Zo⟩
 refine ro 3 O ?_;have a:i=R l:=by omega
 rw[Ep (Nf l) a];refine OK.freeze 5 O O O (by rw[Zx,Nf];exact a.symm) ?_;refine ro 5 O<|kR O O ?_;rfl
def AR{n:Int}:Ct prog 324 [bv n]<|.agg (GB.mk n 1).cs:=by
 refine cI func324 O<|ro 8 O<|kc (zU lT O O)<|rr 3 O<|OK.ret<|Y3.r1 (zy O O Q3 O) ?_;rfl
def sV(i:0<=a/\a<=1000000000000)(h:0<=b/\b<=1000000000000):Ct prog 366 [bv a,bv b]<|bv<|ON a b:=by
 refine cI func366 O<|ro 7 O ?_;refine OK.We [] (λ(x:Int)(y:Int)=>[(0,bv x),(1,bv y)]) (λx y=>(0<=x/\x<=1000000000000)/\(0<=y/\y<=1000000000000)/\ON a b=ON x y) (λx y=>y.toNat) a b ⟨i,h,O⟩ ⟨O,O,Zo⟩ (λ_ _=>O) ?_;rintro x y ⟨f,e,g⟩;refine ro 7 O<|kB O (λd=>?_) λd=>?_
 ·have j:0<=x.tmod y:=bη y f.1;have k:x.tmod y<y:=bδ x I;refine ro 3 O ?_;refine kV (.c (zm O)<|.c (zm O)<|.c (zm O)<|.c (S.rem .none O (zt O) (zt O) d O<|mn _ I)<|.c (za O)<|.c (za O) .nil)<|Ab.D.blk<|Ab.D.lp ⟨y,x.tmod y,⟨e,⟨j,I⟩,?_⟩,I,O,O,Zo⟩;rw[g,Rv f.1 e.1 d]
 refine ro 5 O<|kc (zK (Dk (n:=x) I) call81 O) ?_;refine rr 3 O<|kR O O ?_;have:y=0:=I
 subst this;rw[g,DP];refine YL ?_;omega
def Di(f:0<=a/\a<=1000000000000)(i:1<=b/\b<=1000000000000):Ct prog 325 [bv a,bv b]<|.agg (TZ a b).cs:=by
 refine cI func325 O λ{_ _}=>?_
 have d:=MG (a:=a) (b:=b) f.1 I;have h:=Gk f.1 d;have g:=Gk (a:=b) I d;refine ro 9 O<|kc (zK (sV ⟨I,I⟩ ⟨I,I⟩) call366 O) ?_;refine rr 10 O<|kB O (λe=>?_) λe=>?_
 ·exfalso;omega
 refine ro 3 O ?_;refine kV (.c (zm O)<|.c (zm O)<|.c (S.quo .none O (zt O) (zt O) I (mn _ I)<|mn _ I)<|.c (zm O)<|.c (zm O)<|.c (S.quo .none O (zt O) (zt O) I (mn _ I)<|mn _ I)<|.c (zU lT O O)<|.c (zS Q3 O O O O O O) .nil)<|Ab.D.code<|OK.ret<|Y3.r1 (zy O O Q3 O) ?_;rfl
def IQ(g:Hp c)(s:0<=limit/\limit<=2000):Ct prog 280 [.sl<|c.map GN,bv limit]<|.Yy [.agg (Xp c limit).1.cs,.bool (Xp c limit).2]:=by
 refine cI func280 O<|OK.XF (rows:=c.map GN) (t:=0) O O λhlen=>?_;rw[Zx]at hlen;unfold maxLen at hlen;refine kr<|RK.c (zA (c:=4) ze37 O)<|jb O<|kD<|kO<|kr ?_;refine ji O O<|kD<|OK.block<|OK.loop (G:=Nat) [4] (λi=>[(0,.sl<|c.map GN),(1,bv limit),(4,.ptr 4 0),(1004,.box [bv 0,bv 0]),(6,bv i)]) (λi=>i<=R c/\ix (Vt limit) c=VF (Vt limit) i (c.drop i)) (λi=>R c - i) 0 ⟨Zr _,O⟩ ⟨O,O,O,O,O,Zo⟩ (λ_=>O) ?_;rintro i ⟨hi,l⟩;refine OK.seq<|kr ?_;refine jm O<|jm O<|kc (zk CC O)<|kc (S.lss .none O (zt O)<|zt O)<|kD<|kB O (λp=>?_) λp=>?_
 ·have d:i<R c:=by omega
  refine OK.skip<|Ab.D.code<|kO<|OK.block<|OK.seq<|kr ?_;refine jm O<|jm O<|kc (zI CC O I O)<|kc (S.field QF .none O (zt O) O)<|kc (zV YK O O)<|jm O<|kc (S.geq .none O (zt O)<|zt O)<|kD<|kB O (λo=>?_) λo=>?_
  ·refine OK.exit O<|Ab.D.code<|OK.R3 ?_;refine jm O (kc (zp O O I)<|ja O<|RK.nil<|Ab.D.lp ⟨i+1,⟨by omega,iw l d<|Zy I⟩,I,O,O,O,O,O,Zo⟩)
  have e:=bl l d<|Zz I;refine OK.skip<|Ab.D.code<|kO<|kr ?_;refine jm O<|kc (zE O O)<|kD<|kB O (λm=>?_) λm=>?_
  ·have j:i=0:=by omega
   subst j;have y:=g.at_ _<|Zt d;have f:=Mt e d;rw[iE I]at f;refine kr<|jm O<|kc (S.Zi (n:=0) CC .none O (zt O) (.Zg O) O d O)<|kc (S.field Mz .none O (zt O) O)<|kc (zV YK O O)<|kc (zK AR call324 O)<|kc (zS Q3 O O O O O O)<|jb O<|kD<|kT O O Q3 O O O ?_;rw[f];try rfl
  obtain⟨k,rfl⟩:∃k,i=k+1:=⟨i - 1,by omega⟩;have f:=Mw e d;obtain⟨H,F,E,z⟩:=JJ g s e d;have h:k<R c:=by omega
  have hle:=line_eq c[k+1].1 c[k].1 c[k+1].2 c[k].2 limit;have x:=g.at_ _<|Zt d;have w:=g.at_ _<|Zt h;have v:=g.num _<|Zt d;have u:=g.num _<|Zt h;have r:=O7 (a:=c[k].1) (b:=c[k].2 - c[k+1].2) (A:=10000) (B:=2000) I I C;have q:=O7 (a:=c[k].2 - limit) (b:=c[k+1].1 - c[k].1) (A:=2000) (B:=10000) I I C;rw[←hle]at f;refine OK.skip<|Ab.D.code<|kO<|kV (.c (zm O)<|.c (zm O)<|.c (S.sub .none O (zt O) (.Zg O) (mn _ I)<|mn _ I)<|.c (S.Zi (n:=k) CC .none O (zt O) (zt O) I h O)<|.c (S.Vj CJ .none O (zt O) O O)<|.c (zm O)<|.c (zm O)<|.c (S.Zi (n:=(k+1)) CC .none O (zt O) (zt O) O d O)<|.c (S.Vj CJ .none O (zt O) O O)<|.c (zA (c:=7) rO O)<|.c (zA (c:=8) rO O)<|.c (zS CJ O O O O O O)<|.c (zS CJ O O O O O O) .nil)<|kp<|jf Mz O<|kc (zl YK O O O O)<|jf QF O<|kc (zl YK O O O O)<|jf QF O<|kc (zl YK O O O O)<|kc (S.sub .none O (zt O) (zt O) (mn _ I)<|mn _ I) ?_;refine kc (S.mul .none O (zt O) (zt O) (mn _ I)<|mn _ I)<|jf QF O<|kc (zl YK O O O O)<|jm O<|kc (S.sub .none O (zt O) (zt O) (mn _ I)<|mn _ I)<|jf Mz O<|kc (zl YK O O O O)<|jf Mz O<|kc (zl YK O O O O)<|kc (S.sub .none O (zt O) (zt O) (mn _ I)<|mn _ I)<|kc (S.mul .none O (zt O) (zt O) (mn _ I)<|mn _ I)<|kc (S.add .none O (zt O) (zt O) (mn _ I)<|mn _ I) ?_;refine jf QF O<|kc (zl YK O O O O)<|jf QF O<|kc (zl YK O O O O)<|kc (S.sub .none O (zt O) (zt O) (mn _ I)<|mn _ I)<|kc (zK (Di I I) call325 O)<|kc (zS Q3 O O O O O O)<|jb O<|kD<|kT O O Q3 O O O ?_;rw[f];try rfl
 refine OK.exit O<|Ab.D.code<|kO ?_;have f:=Mu<|bh l I;refine OK.R3<|kc (zU lT O O)<|kc (zS Q3 O O O O O O)<|jb O<|kD<|kT O O Q3 O O O ?_;rw[f];try rfl
def uR(h:¬ZW [(WS l).2,Z8 (Y5 limit) 2]≠0):Ct prog 228 [.agg [.sl<|l.map ZK.cs],bv limit]<|.Yy [.agg (Y6 l limit).1.cs,bv (Y6 l limit).2]:=by
 refine cI func228 O λ{_ _}=>?_
 obtain⟨m,k⟩:=vY h;have b:=J5 m;have f:0<=limit/\limit<=2000:=pf k;have e:=b.len;have j:0<R l:=I
 have i:0<R (X5 l):=by rw[Nf];omega
 have c:((X5 l).getD 0 (0,0)).2=l[0].hi:=by rw[TJ i];simp[X5]
 refine ro 12 O<|kc (S.Zi (n:=0) TU .none O (zt O) (.Zg O) O j O)<|rr 7 O<|kB O (λa=>?_) λa=>?_
 ·have g:=Ju h (by rw[c];exact a);refine kr<|kc (zU yc O O)<|rr 4 O<|kT O O L4 O O O ?_;rw[g];try rfl
 refine ro 5 O<|kc (zK (Cn e.2) call281 O)<|jm O<|kc (zK (IQ b.upper f) call280 O)<|rr 12 O<|kc (S.not .none O<|zt O)<|kD<|OK.cond O O (λd=>?_) λd=>?_
 ·have g:=Jv h (by rw[c];exact a) (by simpa using d);refine kr<|kc (zU yc O O)<|rr 4 O<|kT O O L4 O O O ?_;rw[g];try rfl
 have g:=Dm h (by rw[c];exact a) (by simpa using d);refine ro 5 O<|kc (zK (Cm e.2) call281 O)<|jm O<|kc (zK (IQ b.lower f) call280 O)<|rr 12 O<|kc (zU yc O O)<|rr 4 O<|kT O O L4 O O O ?_;rw[g];try rfl
theorem Lt{α:Type}(g:Nat->α->Int):∀(l:List α)(k:Nat),(∀(i:Nat)(h:i<R l),g (k+i) l[i]=0)->(ZP g k l).2=0
 |[],_,_=>rfl
 |x::l,k,h=>by
  have h0:g k x=0:=h 0 F;rw[ZP,Zm<|by simp[h0]];exact Lt g l (k+1) λi hi=>by
   have:=h (i+1) (by grind);grind
def Hj(plan:Zf)(l:List Frame):Prop:=(∀f∈l,Yp plan f=0)/\∀(i j:Nat)(a b:Frame),l[i]?=some a->l[j]?=some b->a.tick=b.tick->i=j
theorem Hj.rec{plan:Zf}{l:List Frame}(f:Y_ plan=0)(h:Hj plan l)(n:R l<=40):Um plan l=0:=by
 have h0:=CV plan l;have key:∀i,i<=R l->NH plan l i/\∀j (hj:j<i) (hjl:j<R l),RU plan l j l[j]=0:=by
  intro i
  induction i with
  |zero=>simp_all
  |succ i c=>
   intro hi;obtain⟨m,p⟩:=c I;have b:i<R l:=I
   have o:RU plan l i l[i]=0:=by
    rw[nq b m,vg,Zm (by simp[h.1 _<|Zt b]),Zm ?_];intro e;obtain⟨x,d,a⟩:=dτ.1 e;simp only[Zw,de]at a;obtain⟨k,g,rfl⟩:=dl d;rw[sc]at g;rw[List.getElem_take]at a;have:=h.2 k i l[k] l[i] (Zv I) (Zv b) a.1;omega
   grind [K3]
 unfold Um;rw[Zm (by simp[f]),Zm I];exact Lt _ l 0 λi hi=>by
  grind
