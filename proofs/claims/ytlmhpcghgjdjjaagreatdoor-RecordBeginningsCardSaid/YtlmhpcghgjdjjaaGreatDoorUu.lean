import Derived.Test.YtlmhpcghgjdjjaaGreatDoorTm
set_option linter.all false
set_option maxHeartbeats 4000000
open List renaming length->R
namespace Go.Proofs.Z_
open Go.Ab Tryz
set_option maxRecDepth 9999
def gz(n:Net)(l:List Entry):bi:=n.cs++[.sl<|l.map Entry.cs]
def dskM(b:Nat)(cs:bi):HM Unit:=λ_=>some (b,.box cs)
def dskM_new(b:Nat)(cs:bi):HM.set (K:=Unit) (λ_=>none) () (some (b,.box cs))=dskM b cs:=funext λ_=>Zn rfl
def dskM_set(b:Nat)(cs a:bi):(dskM b cs).set () (some (b,.box a))=dskM b a:=funext λ_=>Zn rfl
def entT(n:Net)(l:List Entry)(x:Entry):List Entry:=if dB n l x=0 then l++[x]else l
def clone_Person{l:List Ze}(f:R l<=100000):Ct prog 91 [.sl<|l.map Ze.cs]<|.sl<|l.map Ze.cs:=by
 refine cI func91 O<|kr<|kc (S.assign .none O .Ya)<|rr 6 O<|RK.xE (t:=3) O O λe a=>?_;refine kc (S.mL underlying22 .none O<|zt O)<|kD<|OK.cond O O (λb=>?_) λb=>?_
 ·refine kr<|kc (S.assign .none O .Ya)<|kD<|kR O O ?_;rw[bα.1<|a b];rfl
 refine ro 4 O<|RK.c (zM [] fJ O O O O)<|jm O ?_;refine RK.c (S.V2 fJ .none O (zt O) O N (zt O) (by intro q d;obtain⟨x,_,rfl⟩:=rx.1 d;rfl) (Zx ..) I<|by simp only[maxLen];omega) ?_;refine rr 3 O ?_;refine OK.ret<|Y3.r1 (.tmp O O (.c (.own O O N) O) O) ?_;rfl
variable{n:Net}
def rec_New(e:R n.plan<=1000)(d:R n.ZU<=1000)(f:(U4 n).2=0):C0 prog 48 [.agg n.cs] (λb:Nat=>.Yy [.raw<|pV b,bv 0]) (λb:Nat=>Z9<|dskM b<|gz n []):=by
 refine C0.intro (rs:=[.tmp 2,.tmp 3]) func48 rfl ntmps48 results48 rfl rfl rfl λw h g=>?_
 refine OK.OC Unit<|ro 3 O<|kc (S.assign .none O .Re)<|rr 7 O<|kc (S.Xo (rec_CheckNet (n:=n) e) g call90 .none O (zc O .nil) O)<|rr 13 O<|kB O (λa=>?_) λa=>?_
 ·exact absurd f a
 refine ro 6 O<|kc (zK (clone_Person (l:=n.ZU) I) call91 O) ?_;refine rr 7 O<|kc (zU bu178 O O)<|RK.c (S.j8 (k:=20) O .none O (zt O) O)<|rr 4 O<|OK.hboxC 2 () (cells':=gz n []) O O O ⟨.inl ⟨O,O⟩,.inl ⟨O,O⟩,.inl ⟨O,O⟩,.inl ⟨O,O⟩,.inl ⟨O,O⟩,.inr ⟨O,O⟩,Zo⟩ O λb=>?_;rw[dskM_new];refine OK.ret ⟨b,Y3.r2 (zo O O) (zo O O) ?_,O⟩;rfl
variable{x:Entry}{l:List Entry}
def rec_Enter{b:Nat}(f:R n.plan<=1000)(hlen:R l<=1000)(g:∀x∈l,R x.text<=100000)(e:R x.text<=100000):U_ prog 44 [] [.raw<|pV b,bv x.at_,.str x.OR,.str x.text] [(3000,.res<|Z9<|dskM b<|gz n l)] [(3000,.res<|Z9<|dskM b<|gz n<|entT n l x)]<|bv<|dB n l x:=by
 refine cH func44 O λh=>?_
 refine ro 9 O<|kc (S.Km underlying101 .none O<|zt O)<|rr 6 O ?_;refine kV (.c (zm O)<|.c (zn O O)<|.c (zr fi178_0 O)<|.c (zJ (us:=n.cs) Pn O<|Z9.KL (k:=()) (xs:=gz n l) O ⟨.same _,.same _,.same _,.same _,.same _,Zo⟩ O)<|.c (zm O)<|.c (zn O O)<|.c (zr fi178_1 O)<|.c (zH (u:=.sl<|l.map Entry.cs) ti27 O<|Z9.Xh (k:=()) (xs:=gz n l) O O<|.same _)<|.c (zm O)<|.c (zm O)<|.c (zm O)<|.c (zU L7 O O)<|.c (S.Xo (rec_Appended (n:=n) (l:=l) (x:=x) f hlen g e) h call54 .none O (zc O<|zc O<|zc O .nil) O)<|.c (zm O)<|.c (zX O O O)<|.c (zX O O O)<|.c (za O)<|.c (za O) .nil) ?_;refine rd 8 O<|kB O (λa=>?_) λa=>?_
 ·have i:=appT_2 (x:=x) a;have d:entT n l x=l++[x]:=Zn a;rw[i];refine ro 5 O<|kc (S.Yf (xs':=(gz n<|l++[x])) (()) ti27 .none (zt O) (zt O) O O O O O O O)<|rr 3 O ?_;rw[dskM_set];refine ro 5 O ?_;rw[d];refine OK.ret ⟨Y3.r1 (zo O O) ?_,O,Zo⟩;rfl
 have d:entT n l x=l:=Zm a;refine ro 8 O ?_;rw[d];refine OK.ret ⟨Y3.r1 (zo O O) ?_,O,Zo⟩;rfl
def clone_EntryD(f:R l<=100000):Ct prog 77 [.sl<|l.map Entry.cs]<|.sl<|l.map Entry.cs:=by
 refine cI func77 O<|kr<|kc (S.assign .none O .Ya)<|rr 6 O<|RK.xE (t:=3) O O λe a=>?_;refine kc (S.mL underlying27 .none O<|zt O)<|kD<|OK.cond O O (λb=>?_) λb=>?_
 ·refine kr<|kc (S.assign .none O .Ya)<|kD<|kR O O ?_;rw[bα.1<|a b];rfl
 refine ro 4 O<|RK.c (zM [] x9 O O O O)<|jm O ?_;refine RK.c (S.V2 x9 .none O (zt O) O N (zt O) (by intro q d;obtain⟨x,_,rfl⟩:=rx.1 d;rfl) (Zx ..) I<|by simp only[maxLen];omega) ?_;refine rr 3 O ?_;refine OK.ret<|Y3.r1 (.tmp O O (.c (.own O O N) O) O) ?_;rfl
def rec_Log{b:Nat}(hlen:R l<=1000):Vi prog 46 [] [.raw<|pV b] [(3000,.res<|Z9<|dskM b<|gz n l)] [(3000,.res<|Z9<|dskM b<|gz n l)]<|.sl<|l.map Entry.cs:=by
 refine cG func46 O<|kr<|kc (S.assign .none O .Ya)<|rr 6 O<|kc (S.Km underlying101 .none O<|zt O)<|rr 10 O ?_;refine kc (zH (u:=.sl<|l.map Entry.cs) ti27 O<|Z9.Xh (k:=()) (xs:=gz n l) O O<|.same _)<|kc (zK (clone_EntryD (l:=l) I) call77 O) ?_;refine rr 3 O<|OK.ret ⟨Y3.r1 (zo O O) ?_,O,Zo⟩;rfl
def rec_Undo{b:Nat}(hlen:R l<=1000):Vi prog 45 [] [.raw<|pV b] [(3000,.res<|Z9<|dskM b<|gz n l)] [(3000,.res<|Z9<|dskM b<|gz n<|l.take<|R l - 1)]<|bv (if l=[]then 12 else 0):=by
 refine cG func45 O<|ro 9 O<|kc (S.Km underlying101 .none O<|zt O)<|rr 11 O ?_;refine kc (zH (u:=.sl<|l.map Entry.cs) ti27 O<|Z9.Xh (k:=()) (xs:=gz n l) O O<|.same _)<|kc (zk Vy O) ?_;refine rr 3 O<|kB O (λa=>?_) λa=>?_
 ·have h0:l=[]:=cι.1 I;subst h0;refine ro 5 O<|OK.ret ⟨Y3.r1 (zo O O) ?_,O,Zo⟩;rfl
 have h0:¬l=[]:=λe=>a (by rw[e];rfl)
 have d:R l - 1<R l:=by have:=aη.2 h0;omega
 refine ro 3 O ?_;refine kV (.c (zm O)<|.c (zm O)<|.c (zn O O)<|.c (zr fi178_1 O)<|.c (zH (u:=.sl<|l.map Entry.cs) ti27 O<|Z9.Xh (k:=()) (xs:=gz n l) O O<|.same _)<|.c (zm O)<|.c (zn O O)<|.c (zr fi178_1 O)<|.c (zH (u:=.sl<|l.map Entry.cs) ti27 O<|Z9.Xh (k:=()) (xs:=gz n l) O O<|.same _)<|.c (zk Vy O)<|.c (S.sub .none O (zt O) (.Zg O) (mn _ I)<|mn _ I)<|.c (S.slice (hi:=(R l - 1)) (l':=l.take<|R l - 1) Vy (λ_=>O) .none O (zt O) (.inl ⟨O,O,O⟩) (.inr ⟨_,_,O,(zt O),I⟩) I I<|by rw[aα])<|.c (zK (clone_EntryD (l:=l.take<|R l - 1)<|by rw[sc];omega) call77 O)<|.c (zn O O)<|.c (zr fi178_1 O)<|.c (S.Yf (xs':=(gz n<|l.take<|R l - 1)) (()) ti27 .none (zt O) (zt O) O O O O O O O) .nil) ?_;refine Ab.D.code<|kO ?_;rw[dskM_set];refine ro 4 O<|OK.ret ⟨Y3.r1 (zo O O) ?_,O,Zo⟩;rw[Zm h0]
def ent_on(h:(Z2 n l).2.2=0){i:Nat}(hi:i<R l):dB n (l.take i) l[i]=0/\entT n (l.take i) l[i]=l.take (i+1):=by
 have e:dB n (l.take i) l[i]=0:=(appE_2<|UP h i).trans (Aq h hi).1;refine⟨e,?_⟩;unfold entT;rw[Zn e,mv hi]
def jrnS(x:Entry):ba:=Lib.itoa x.at_++([32]++(x.OR++([32]++x.text)))
def jlnT(f:Int)(x:Entry)(a:Int):ba:=if f=2 then jrnS x++([32]++Lib.itoa (J8 (jrnS x) a))else jrnS x
def dy(f:Int):List Entry->Int->List ba
 |[],_=>[]
 |x::l,a=>jlnT f x a::dy f l (J8 (jrnS x) a)
def aftT:List Entry->Int->Int
 |[],a=>a
 |x::l,a=>aftT l<|J8 (jrnS x) a
def catT(l:List ba):ba:=l.flatMap λs=>s++[10]
def journalT(l:List Entry)(f:Int):ba:=catT<|Lib.itoa f::dy f l 0
def fmtE(f:Int):Int:=if f=1\/f=2 then 0 else 15
def JOk(l:List Entry):Prop:=∀x∈l,IntKind.i64.wrap x.at_=x.at_/\R x.OR<=1000/\R x.text<=1000
def sumT_rng:∀(l:ba)(a:Int),0<=a/\a<=999960->0<=J8 l a/\J8 l a<=999960
 |[],_,h=>h
 |b::l,a,h=>sumT_rng l _ I
def aftT_rng:∀(l:List Entry)(a:Int),0<=a/\a<=999960->0<=aftT l a/\aftT l a<=999960
 |[],_,h=>h
 |_::l,_,h=>aftT_rng l _<|sumT_rng _ _ h
def aftT_snoc:∀(l:List Entry)(x:Entry)(a:Int),aftT (l++[x]) a=J8 (jrnS x) (aftT l a)
 |[],_,_=>rfl
 |_::l,x,_=>aftT_snoc l x _
def linesT_snoc(f:Int):∀(l:List Entry)(x:Entry)(a:Int),dy f (l++[x]) a=dy f l a++[jlnT f x<|aftT l a]
 |[],_,_=>rfl
 |y::l,x,_=>by rw[H5,dy,linesT_snoc f l];rfl
def bz(f:Int):∀(l:List Entry)(a:Int),R (dy f l a)=R l
 |[],_=>rfl
 |_::l,_=>by rw[dy,tt,bz f l];rfl
def wrap_rng{n:Int}(h:0<=n/\n<=999960):IntKind.i64.wrap n=n:=mn _ I
def jS_len(h:IntKind.i64.wrap x.at_=x.at_/\R x.OR<=1000/\R x.text<=1000):R (jrnS x)<=2030:=by
 have:=OE h.1;simp only[jrnS,Zs,tt,aυ];omega
variable{a f:Int}
def jlnT_len(h:IntKind.i64.wrap x.at_=x.at_/\R x.OR<=1000/\R x.text<=1000)(b:0<=a/\a<=999960):R (jlnT f x a)<=2060:=by
 have d:=jS_len h;have c:=OE<|wrap_rng<|sumT_rng (jrnS x) a b;unfold jlnT;split
 ·simp only[Zs,tt,aυ];omega
 omega
def linesT_le(f:Int):∀(l:List Entry)(a:Int),JOk l->(0<=a/\a<=999960)->∀s∈dy f l a,R s<=2060
 |[],_,_,_,s,b=>by cases b
 |x::l,a,h,ha,s,b=>by
  rcases sf.1 b with rfl|b
  ·exact jlnT_len (h x rv) ha
  exact linesT_le f l _ (λy c=>h y<|rl _ c) (sumT_rng _ _ ha) s b
def catT_snoc(l:List ba)(s:ba):catT (l++[s])=catT l++(s++[10]):=by simp[catT]
def catT_len{B:Nat}:∀(l:List ba),(∀s∈l,R s<=B)->R (catT l)<=R l * (B+1)
 |[],_=>by simp[catT]
 |s::l,h=>by
  have b:=catT_len l λx a=>h x<|rl _ a
  have c:=h s rv;simp only[catT,PP,Zs,tt,aυ]at b⊢;rw[bρ];omega
def join3(a b c:ba):Lib.join [a,b,c] [32]=a++([32]++(b++([32]++c))):=by simp[Lib.join,List.intercalate,List.intersperse]
def runT_at:∀(l:List Entry)(H:Z6)(i:Nat),(runT H i l).2.2=0->∀x∈l,0<=x.at_/\x.at_<=1000000000000
 |[],_,_,_,x,a=>by cases a
 |y::l,H,i,h,x,a=>by
  rw[runT]at h;by_cases e:(Za H y).2=0
  ·rw[Zm<|Zp e]at h;rcases sf.1 a with rfl|a
   ·have b:H.head x=0:=by
     unfold Za at e;by_cases b:H.head x=0
     ·exact b
     rw[Zn b]at e;exact e
    exact(HV b).2.2.1
   exact runT_at l _ _ h x a
  rw[Zn e]at h;exact absurd h e
def replay_at(h:(Z2 n l).2.2=0):∀x∈l,0<=x.at_/\x.at_<=1000000000000:=by
 unfold Z2 at h;by_cases e:L_ n l=0
 ·rw[Zm<|Zp e]at h;exact runT_at l _ _ h
 rw[Zn e]at h;exact absurd h e
def JOk_of(h:(Z2 n l).2.2=0)(b:∀x∈l,R x.OR<=1000/\R x.text<=1000):JOk l:=λx a=>⟨mn _ (by have:=replay_at h x a;omega),b x a⟩
def JOk.take{l:List Entry}(h:JOk l)(i:Nat):JOk<|l.take i:=λx a=>h x<|eν a
def catT_snoc2(a:ba)(l:List ba)(s:ba):catT (a::l)++(s++[10])=catT (a::(l++[s])):=(catT_snoc (a::l) s).symm
def lk_str{a b:ba}(h:a=b):some (X.str a)=some (X.str b):=by rw[h]
def lk_int{b:Int}(h:a=b):some (X.int .i64 a)=some (X.int .i64 b):=by rw[h]
def sh_by(h:Xv l=true):∀x∈l,R x.OR<=20:=by
 intro x c;unfold Xv at h;rw[Zw]at h;have b:=rm.1 h.2 x c;rcases w7 20 (R x.OR) with a|a
 ·rw[P5<|.inr<|.inr a]at b;cases b
 exact a
def base_Mod9{n:Int}(h:0<=n/\n<=1000000000000):Ct prog 52 [bv n,bv 999961]<|bv<|n % 999961:=by
 refine cI func52 O<|ro 9 O ?_;refine kc (S.rem (q:=(n % 999961)) .none O (zt O) (zt O) C (PH I)<|mn _ I) ?_;refine rr 10 O<|kB O (λa=>?_) λa=>?_
 ·exfalso;omega
 refine ro 8 O<|kR O O ?_;rfl
def ref10_Sum{l:ba}{b:Int}(g:0<=b/\b<=999960):Ct prog 126 [.str l,bv b]<|bv<|J8 l b:=by
 refine cI func126 O<|OK.Gz (t:=0) (z:=l) O O λhlen=>?_;unfold maxLen at hlen;refine ro 12 O ?_;refine OK.We [] (λ(i:Nat)(a:Int)=>[(0,.str l),(1,bv a),(5,bv i)]) (λi a=>i<=R l/\(0<=a/\a<=999960)/\J8 l b=J8 (l.drop i) a) (λi a=>R l - i) 0 b ⟨Zr _,g,O⟩ ⟨O,O,O,Zo⟩ (λ_ _=>O) ?_;rintro i a ⟨hi,f,d⟩;refine ro 9 O<|kB O (λh=>?_) λh=>?_
 ·have c:i<R l:=I
  have e:=eι l[i];refine ro 6 O ?_;refine kc (S.mul .none O (zt O) (.Zg O) (mn _ I)<|mn _ I)<|jm O<|jm O<|kc (S.Xc (n:=i) W6 .none O (zt O) (zt O) O I)<|kc (S.conv .none O (zt O) underlying5 underlying3 (mn _ I)<|mn _ I) ?_;refine Rr 2 O I<|kc (zK (base_Mod9 I) call52 O) ?_;refine Rr 9 O I (Ab.D.lp ⟨i+1,((a * 229+(l[i].toNat:Int)+1) % 999961),⟨I,I,by rw[d,xH c]⟩,I,O,O,O,Zo⟩)
 refine ro 8 O<|kR O O ?_;refine YL ?_;rw[d,show i=R l by omega,da,J8]
def rec_isFormat:Ct prog 88 [bv f]<|.bool<|decide<|f=1\/f=2:=by
 refine cI func88 O<|ro 10 O<|RK.ZS (t:=5) O (λa=>?_) λa=>?_
 ·refine rr 6 O<|kR O O ?_;simp[*]
 refine rr 6 O<|kR O O ?_;simp[*]
def ref10_FormatErr:Ct prog 50 [bv f]<|bv<|fmtE f:=by
 refine cI func50 O<|ro 11 O<|RK.ZS (t:=5) O (λa=>?_) λa=>?_
 ·refine rr 5 O<|kB O (λb=>?_) λb=>?_
  ·refine ro 5 O<|kR O O ?_;unfold fmtE;simp_all
  refine ro 7 O<|kR O O ?_;unfold fmtE;simp_all
 refine rr 13 O<|kR O O ?_;unfold fmtE;simp_all
def rec_head:Q7 prog 123 [bv f]<|.str<|Lib.itoa f++[10]:=by
 refine cT func123 O λc=>?_
 refine OK.intB (t:=0) O O λa=>?_
 have b:=OE a;refine ro 8 O<|kc (S.Xo (N9 a) c call179 .none O (zc O .nil) O) ?_;refine kc (S.sJ .none O (zt O) (.Vh (l:=[10]) O C)<|by simp only[Zs,tt,aυ];omega) ?_;refine rr 3 O<|kR O O ?_;rfl
def rec_line(q:R x.OR<=1000/\R x.text<=1000)(j:0<=a/\a<=999960):Q7 prog 124 [.agg x.cs,bv f,bv a]<|.Yy [.str<|jlnT f x a++[10],bv<|J8 (jrnS x) a]:=by
 refine cT func124 O λk=>?_
 refine OK.aggInt 0 0 O O O λm=>?_
 have d:=mn _ m;have o:=OE d;have n:=jS_len ⟨d,q⟩;have g:=sumT_rng (jrnS x) a j;have b:=wrap_rng g;have i:=OE b;have e:Lib.join [Lib.itoa x.at_,x.OR,x.text] [32]=jrnS x:=join3 _ _ _;refine ro 8 O ?_;refine kV (.c (zf Nu O)<|.c (zl YK O O O O)<|.c (S.Xo (N9 d) k call179 .none O (zc O .nil) O)<|.c (zf j6 O)<|.c (zl T6 O O O O)<|.c (zf KB O)<|.c (zl T6 O O O O)<|.c (zM [[_],[_],[_]] Ss O O O O)<|.c (S.XY (fU.ct (l:=[Lib.itoa x.at_,x.OR,x.text]) (sep:=[32]) F<|by rw[e];omega) call131 .none O (zc O<|.cons (.Vh (l:=[32]) O C) .nil) (.cons (.p (.own O O) O)<|.cons (.same O) .nil) O)<|.c (za O) .nil) ?_;refine Ab.D.code<|kO ?_;rw[e];refine ro 3 O<|kc (zK (kf (l:=jrnS x) j) call99 O)<|rr 10 O<|kB O (λh=>?_) λh=>?_
 ·refine ro 3 O<|kc (S.Xo (N9 b) k call179 .none O (zc O .nil) O) ?_;refine kc (S.sJ .none O (.Vh (l:=[32]) O C) (zt O)<|by simp only[Zs,tt,aυ];omega) ?_;refine kc (S.sJ .none O (zt O) (zt O)<|by simp only[Zs,tt,aυ];omega) ?_;refine rr 6 O ?_;refine kc (S.sJ .none O (zt O) (.Vh (l:=[10]) O C)<|by simp only[Zs,tt,aυ];omega) ?_;refine rr 5 O<|kS O O O O ?_;unfold jlnT;simp_all
 refine ro 5 O ?_;refine kc (S.sJ .none O (zt O) (.Vh (l:=[10]) O C)<|by simp only[Zs,tt,aυ];omega) ?_;refine rr 5 O<|kS O O O O ?_;unfold jlnT;simp_all
def rec_journal(p:R l<=1000)(k:JOk l):Q7 prog 89 [.sl<|l.map Entry.cs,bv f]<|.str<|journalT l f:=by
 refine cT func89 O λn=>?_
 refine OK.intB (t:=1) O O λg=>?_
 have m:=OE g;refine ro 8 O<|kc (S.Xo rec_head n call123 .none O (zc O .nil) O)<|rr 12 O<|kc (zk Vy O)<|rr 4 O ?_;refine OK.loop (G:=Nat) [] (λi=>[(0,.sl<|l.map Entry.cs),(1,bv f),(5,.str<|catT<|Lib.itoa f::dy f (l.take i) 0),(6,bv<|aftT (l.take i) 0),(13,.sl<|l.map Entry.cs),(14,bv<|R l),(15,bv i)]) (λi=>i<=R l) (λi=>R l - i) 0 (Zr _) ⟨O,O,(lk_str<|by simp[catT,dy]),O,O,O,O,Zo⟩ (λ_=>O) ?_;rintro i hi;refine ro 6 O<|kB O (λj=>?_) λj=>?_
 ·have c:i<R l:=by omega
  have a:=mv c;have b:=k l[i]<|Zt c;have d:=aftT_rng (l.take i) 0 I;have h:=catT_len (B:=2060) (Lib.itoa f::dy f (l.take i) 0) (λs e=>by
   rcases sf.1 e with rfl|e
   ·omega
   exact linesT_le f _ _ (k.take i) I s e)
  rw[tt,bz,sc]at h;have o:=jlnT_len (f:=f) b d;refine ro 6 O<|kc (zI Vy O I O) ?_;refine rr 10 O<|kc (S.Xo (rec_line (x:=l[i]) (f:=f) b.2 d) n call124 .none O (zc O<|zc O<|zc O .nil) O)<|rr 10 O ?_;refine kc (S.sJ .none O (zt O) (zt O)<|by simp only[Zs,tt,aυ];omega) ?_;refine Rr 10 O I ?_;refine Ab.D.lp ⟨i+1,I,I,O,O,(lk_str<|by rw[a,linesT_snoc,catT_snoc2]),(lk_int<|by rw[a,aftT_snoc]),O,O,O,Zo⟩
 refine ro 3 O ?_;rw[show i=R l by omega,List.take_length];refine ro 5 O<|kR O O ?_;rfl
def ref10_lines(q:R l<=1000)(r:JOk l):Ct prog 93 [.sl<|l.map Entry.cs,bv f]<|.sl<|(Lib.itoa f::dy f l 0).map λs=>[.str s]:=by
 refine cI func93 O<|kr<|kc (S.assign .none O .Ya)<|rr 5 O<|kc (zK r7 call34 O) ?_;refine RK.c (zM [[_]] Ss O O O O) ?_;refine rr 15 O ?_;refine OK.loop (G:=Nat) [11] (λi=>[(0,.sl<|l.map Entry.cs),(1,bv f),(5,.own 11<|i+1),(2011,.arr 1<|(Lib.itoa f::dy f (l.take i) 0).map λs=>[.str s]),(6,bv<|aftT (l.take i) 0),(7,bv i)]) (λi=>i<=R l) (λi=>R l - i) 0 (Zr _) ⟨O,O,(ZH N),(ZX N),O,O,Zo⟩ (λ_=>O) ?_;rintro i hi;refine ro 5 O<|kc (zk Vy O)<|rr 3 O<|kB O (λm=>?_) λm=>?_
 ·have d:i<R l:=by omega
  have a:=mv d;have b:=r l[i]<|Zt d;have e:=aftT_rng (l.take i) 0 I;have h:((((Lib.itoa l[i].at_++[32])++l[i].OR)++[32])++l[i].text)=jrnS l[i]:=by simp[jrnS]
  have o:=OE b.1;have p:=jS_len b;have g:=sumT_rng (jrnS l[i]) _ e;have n:=OE<|wrap_rng g;refine ro 5 O ?_;refine kV (.c (zm O)<|.c (zm O)<|.c (zI Vy O I O)<|.c (S.field Nu .none O (zt O) O)<|.c (zV YK O O)<|.c (zK r7 call34 O)<|.c (S.sJ .none O (zt O) (.Vh (l:=[32]) O C)<|by simp only[Zs,tt,aυ];omega)<|.c (zm O)<|.c (zm O)<|.c (zI Vy O I O)<|.c (S.field j6 .none O (zt O) O)<|.c (zV T6 O O)<|.c (S.sJ .none O (zt O) (zt O)<|by simp only[Zs,tt,aυ];omega)<|.c (S.sJ .none O (zt O) (.Vh (l:=[32]) O C)<|by simp only[Zs,tt,aυ];omega)<|.c (zm O)<|.c (zm O)<|.c (zI Vy O I O)<|.c (S.field KB .none O (zt O) O)<|.c (zV T6 O O)<|.c (S.sJ .none O (zt O) (zt O)<|by simp only[Zs,tt,aυ];omega)<|.c (za O) .nil) ?_;refine Ab.D.code<|kO ?_;rw[h];refine ro 3 O<|kc (zK (ref10_Sum (l:=jrnS l[i]) e) call126 O)<|rr 10 O<|kB O (λk=>?_) λk=>?_
  ·refine OK.R3<|jm O ?_;refine kc (S.sJ .none O (zt O) (.Vh (l:=[32]) O C)<|by simp only[Zs,tt,aυ];omega) ?_;refine jm O<|kc (zK r7 call34 O) ?_;refine kc (S.sJ .none O (zt O) (zt O)<|by simp only[Zs,tt,aυ];omega) ?_;refine rr 6 O ?_;refine RK.c (zM [[_]] Ss O O O O) ?_;refine kc (zP Ss O O (by simp[bz];omega) N I<|by simp only[maxLen];omega) ?_;refine Rr 9 O I ?_;refine Ab.D.lp ⟨i+1,I,I,O,O,O,(ZX<|by rw[a,linesT_snoc];unfold jlnT;first|(rw[Zn<|by assumption];simp)|(rw[Zm<|by assumption];simp)),(lk_int<|by rw[a,aftT_snoc]),O,Zo⟩
  refine ro 5 O ?_;refine RK.c (zM [[_]] Ss O O O O) ?_;refine kc (zP Ss O O (by simp[bz];omega) N I<|by simp only[maxLen];omega) ?_;refine Rr 9 O I ?_;refine Ab.D.lp ⟨i+1,I,I,O,O,O,(ZX<|by rw[a,linesT_snoc];unfold jlnT;first|(rw[Zn<|by assumption];simp)|(rw[Zm<|by assumption];simp)),(lk_int<|by rw[a,aftT_snoc]),O,Zo⟩
 refine ro 3 O ?_;have j:i=R l:=by omega
 have t:=bz f l 0;rw[j,List.take_length];refine ro 5 O ?_;refine OK.ret<|Y3.r1 (.tmp O O (.c (.own O O N) O) O) ?_;rfl
def ref10_Journal(g:R l<=1000)(k:JOk l):Ct prog 51 [.sl<|l.map Entry.cs,bv f]<|.str<|journalT l f:=by
 refine cI func51 O<|OK.intB (t:=1) O O λe=>?_;have m:=OE e;obtain⟨L,d⟩:∃L,Lib.itoa f::dy f l 0=L:=⟨_,rfl⟩;have o:R L=R l+1:=by rw[←d,tt,bz]
 have c:∀s∈L,R s<=2060:=λs a=>by
  rw[←d]at a;rcases sf.1 a with rfl|a
  ·omega
  exact linesT_le f _ _ k I s a
 refine ro 14 O<|kc (zK (ref10_lines (l:=l) (f:=f) g k) call93 O)<|rr 5 O ?_;rw[d];refine ro 5 O ?_;refine OK.loop (G:=Nat) [] (λi=>[(5,.str<|catT<|L.take i),(6,.sl<|L.map λs=>[.str s]),(7,bv i)]) (λi=>i<=R L) (λi=>R L - i) 0 (Zr _) ⟨O,O,O,Zo⟩ (λ_=>O) ?_;rintro i hi;refine ro 5 O<|kc (zk X9 O)<|rr 3 O<|kB O (λj=>?_) λj=>?_
 ·have b:i<R L:=by omega
  have h:=catT_len (B:=2060) (L.take i) λs a=>c s<|eν a;rw[sc]at h;have n:=c L[i]<|Zt b;refine ro 8 O<|kc (zI X9 O I O)<|kc (zV T6 O O)<|kc (S.sJ .none O (zt O) (zt O) I) ?_;refine kc (S.sJ .none O (zt O) (.Vh (l:=[10]) O C)<|by simp only[Zs,tt,aυ];omega) ?_;refine Rr 9 O I ?_;refine Ab.D.lp ⟨i+1,I,I,(lk_str<|by rw[mv b,catT_snoc];simp),O,O,Zo⟩
 refine ro 3 O ?_;rw[show i=R L by omega,List.take_length];refine ro 5 O<|kR O O ?_;unfold journalT;rw[d]
variable{o:List Entry}
def ent_T(h:dB n o x=0):entT n o x=o++[x]:=Zn h
def ent_F(h:¬dB n o x=0):entT n o x=o:=Zm h
def fmt_0:(fmtE f=0)↔(f=1\/f=2):=by unfold fmtE;by_cases h:f=1\/f=2<;>simp_all
structure OwnOk(n:Net)(o:List Entry):Prop where
 ok:(Z2 n o).2.2=0
 b:∀y∈o,y.OR.length<=1000/\y.text.length<=1000
def OwnOk.t(h:OwnOk n o):∀y∈o,R y.text<=100000:=λy a=>by have:=h.b y a;omega
def OwnOk.app(h:OwnOk n o)(c:R x.OR<=1000/\R x.text<=1000)(h0:(Z2 n<|o++[x]).2.2=0):OwnOk n<|o++[x]:=
 ⟨h0,λy a=>by
  rcases List.mem_append.1 a with a|a
  ·exact h.b y a
  rw[pi.1 a];exact c⟩
def OwnOk.len(h:OwnOk n o):R o<=60:=(Ur h.ok).2.1
theorem OwnOk.nil(h:(U4 n).2=0):OwnOk n []:=⟨by rw[Jn h F];rfl,λy a=>by cases a⟩
def rec_AnswerN{q:ba}:Ct prog 43 [.raw<|.pointer none,.str q]<|.Yy [.str [],bv 1]:=by
 refine cI func43 O<|ro 10 O<|kc (S.Km underlying101 .none O<|zt O)<|rr 9 O<|kS O O O O ?_;rfl
def rec_EnterN{t:Int}{q r:ba}:Ct prog 44 [.raw<|.pointer none,bv t,.str q,.str r]<|bv 1:=by
 refine cI func44 O<|ro 9 O<|kc (S.Km underlying101 .none O<|zt O)<|rr 8 O<|kR O O ?_;rfl
def rec_UndoN:Ct prog 45 [.raw<|.pointer none]<|bv 1:=by
 refine cI func45 O<|ro 9 O<|kc (S.Km underlying101 .none O<|zt O)<|rr 8 O<|kR O O ?_;rfl
def rec_LogN:Ct prog 46 [.raw<|.pointer none]<|.sl<|([]:List Entry).map Entry.cs:=by
 refine cI func46 O<|kr<|kc (S.assign .none O .Ya)<|rr 6 O<|kc (S.Km underlying101 .none O<|zt O)<|rr 5 O<|kc (S.assign .none O .Ya)<|kD<|kR O O ?_;rfl
def rec_JournalN:Ct prog 47 [.raw<|.pointer none,bv f]<|.str []:=by
 refine cI func47 O<|ro 9 O<|kc (S.Km underlying101 .none O<|zt O)<|rr 13 O<|kR O O ?_;rfl
def rec_NewN(b:R n.plan<=1000)(c:(U4 n).2≠0):Q7 prog 48 [.agg n.cs]<|.Yy [.raw<|.pointer none,bv (U4 n).2]:=by
 refine cT func48 O λd=>?_
 refine ro 3 O<|kc (S.assign .none O .Re)<|rr 7 O<|kc (S.Xo (rec_CheckNet (n:=n) b) d call90 .none O (zc O .nil) O)<|rr 13 O<|kB O (λa=>?_) λa=>?_
 ·refine ro 3 O<|kc (S.assign .none O .Re)<|rr 3 O<|kS O O O O ?_;rfl
 exact absurd c a
def rec_DJournal{b:Nat}(hlen:R o<=1000)(c:JOk o):U_ prog 47 [] [.raw<|pV b,bv f] [(3000,.res<|Z9<|dskM b<|gz n o)] [(3000,.res<|Z9<|dskM b<|gz n o)]<|.str (if f=1\/f=2 then journalT o f else []):=by
 refine cH func47 O λd=>?_
 refine ro 9 O<|kc (S.Km underlying101 .none O<|zt O)<|rr 2 O<|kc (S.call (rec_isFormat (f:=f)) call88 (zg O O) O (zc O .nil) O)<|kc (S.Xb (zg O O) O<|zt O)<|rr 3 O<|kB O (λa=>?_) λa=>?_
 ·refine ro 5 O<|OK.ret ⟨Y3.r1 (zo O O) ?_,O,Zo⟩;rw[Zm a]
  try rfl
 refine ro 7 O ?_;refine kc (zH (u:=.sl<|o.map Entry.cs) ti27 O<|Z9.Xh (k:=()) (xs:=gz n o) O O<|.same _)<|jm O<|kc (S.Xo (rec_journal (l:=o) (f:=f) hlen c) d call89 .none O (zc O<|zc O .nil) O) ?_;refine rr 3 O<|OK.ret ⟨Y3.r1 (zo O O) ?_,O,Zo⟩;rw[Zn<|Zu.1 a]
 try rfl
def law_RecordDesks:Q7 prog 8 [.agg n.cs,.sl<|l.map Entry.cs,bv f]<|.bool true:=by
 refine cT func8 O λL=>?_
 refine ro 9 O<|kc (S.Xo Bp L call10 .none O .nil O)<|kc (S.not .none O<|zt O)<|rr 9 O<|kc (zK (tK (n:=n)) call11 O)<|kc (S.not .none O<|zt O)<|jm O<|RK.split (t:=23) O (λY=>?_) λY=>?_
 ·refine rr 12 O (kR O O ?_)
  first|rfl|simp
 refine kc (S.move (zg O O) O<|zt O)<|kc (S.call (C2 (l:=l)) call12 (zg O O) O (zc O .nil) O)<|kc (S.not (zg O O) O<|zt O)<|rr 3 O<|OK.cond O O (λc27=>?_) λc27=>?_
 ·refine ro 5 O (kR O O ?_)
  first|rfl|simp
 have hfe:NK n=true:=by simpa using Y
 have E:Xv l=true:=by simpa using c27
 obtain⟨hl1,hl2⟩:=mN hfe;obtain⟨hll,H⟩:=dz E;have K:∀y∈l,R y.text<=100000:=λy B=>by have:=H y B;omega
 have J:∀x∈l,R x.OR<=1000/\R x.text<=1000:=λy B=>by have:=H y B;have:=sh_by E y B;omega
 refine ro 4 O<|kc (S.assign .none O .Re)<|rr 6 O<|kc (zK rec_AnswerN call43 O)<|rr 12 O<|RK.ZS (t:=35) O (λW=>?_) λW=>?_
 ·exact absurd rfl W
 refine kc (S.move (zg O O) O<|zt O)<|kc (S.call rec_EnterN call44 (zg O O) O (zc O<|zC O<|.cons (.Vh (l:=[]) O C)<|.cons (.Vh (l:=[]) O C) .nil) O) ?_;refine rr 3 O<|RK.ZS (t:=40) O (λV=>?_) λV=>?_
 ·exact absurd rfl V
 refine kc (S.move (zg O O) O<|zt O)<|kc (S.call rec_UndoN call45 (zg O O) O (zc O .nil) O)<|rr 3 O<|RK.ZS (t:=45) O (λU=>?_) λU=>?_
 ·exact absurd rfl U
 refine kc (S.move (zg O O) O<|zt O)<|kc (S.call rec_LogN call46 (zg O O) O (zc O .nil) O)<|kc (S.OF Vy (zg O O) O<|zt O)<|rr 3 O<|RK.ZS (t:=51) O (λT=>?_) λT=>?_
 ·exact absurd rfl T
 refine kc (S.move (zg O O) O<|zt O)<|kc (S.call rec_JournalN call47 (zg O O) O (zc O<|zD O) O)<|rr 4 O<|kB O (λZ=>?_) λZ=>?_
 ·exact absurd rfl Z
 refine ro 3 O ?_;by_cases p:(U4 n).2=0
 ·refine ro 2 O<|kc (zK (Tj (n:=n) I) call14 O) ?_;refine RK.Ng (((rec_New (n:=n) I I p).at L)) (λ_=>Z9.ZV _) (λ_ _ _ _ _ hj B=>Z9.mono hj B) call48 O (zc O .nil) O λb=>?_
  refine rr 11 O<|kc (zK (G_ (n:=n) I) call49 O) ?_;refine rr 9 O<|kB O (λq=>?_) λq=>?_
  ·exact absurd p q
  refine ro 8 O<|RK.ZS (t:=75) O (λP=>?_) λP=>?_
  ·exact absurd rfl P
  refine kc (S.move (zg O O) O<|zt O)<|kc (S.Km underlying101 (zg O O) O<|zt O)<|rr 8 O<|kc (S.mkData (rows:=[]) x9 .none O .nil O O O O O O O)<|rr 3 O ?_;refine OK.join (G:=List Entry) [] (λo=>[(2,bv f),(10,.raw<|pV b),(13,.sl<|o.map Entry.cs),(3000,.res<|Z9<|dskM b<|gz n o)]) (λo=>OwnOk n o) (λ_=>O) ?_ ?_
  ·refine ro 6 O ?_;refine OK.We [3] (λ(i:Nat)(o:List Entry)=>[(1,.sl<|l.map Entry.cs),(2,bv f),(3,.ptr 3 0),(1003,.box n.cs),(10,.raw<|pV b),(13,.sl<|o.map Entry.cs),(3000,.res<|Z9<|dskM b<|gz n o),(14,bv i)]) (λi o=>i<=R l/\OwnOk n o) (λi o=>R l - i) 0 ([]) ⟨Zr _,.nil p⟩ ⟨O,O,O,O,O,O,O,O,Zo⟩ (λ_ _=>O) ?_;rintro i o ⟨hi,m⟩;refine ro 5 O<|kc (zk Vy O)<|rr 2 O<|RK.ZS (t:=84) O (λg84=>?_) λg84=>?_
   ·refine kc (S.move (zg O O) O<|zt O)<|kc (S.OF Vy (zg O O) O<|zt O)<|rr 4 O<|kB O (λc88=>?_) λc88=>?_
    ·have g:i<R l:=I
     have hol:R o<40:=I
     have A:dB n o l[i]=(Z2 n<|o++[l[i]]).2.2:=(appE_2 m.ok).trans (replay_app m.ok).symm;refine ro 5 O ?_;refine kV (.c (zm O)<|.c (S.dQ (k:=92) (refO_CopyLog (l:=o) I) call15 .none O (zc O .nil) O<|Zx ..)<|.c (zm O)<|.c (zm O)<|.c (zI Vy O g O)<|.c (S.Vj rT .none O (zt O) O O)<|.c (zM [[_,_,_]] x9 O O O O)<|.c (zP x9 O O (Zx ..) N I<|by simp only[maxLen];omega)<|.c (za O) .nil) ?_;refine Ab.D.code<|kO<|OK.freeze 15 O O O F ?_;refine ro 3 O ?_;refine kc (zK (ref10_LogErrA (n:=n) (l:=o) (x:=l[i]) I m.t<|K _<|Zt g) call18 O) ?_;refine rr 5 O ?_;refine kV (.c (zm O)<|.c (zm O)<|.c (zm O)<|.c (zI Vy O g O)<|.c (S.field Nu .none O (zt O) O)<|.c (zV YK O O)<|.c (zm O)<|.c (zm O)<|.c (zI Vy O g O)<|.c (S.field j6 .none O (zt O) O)<|.c (zV T6 O O)<|.c (zm O)<|.c (zm O)<|.c (zI Vy O g O)<|.c (S.field KB .none O (zt O) O)<|.c (zV T6 O O)<|.c (S.VO (((rec_Enter (b:=b) (n:=n) (l:=o) (x:=l[i]) I I m.t<|K _<|Zt g).Tq L<|Z9.ZV _)) (Z9.ZV _) call44 .none O (zc O<|zc O<|zc O<|zc O .nil) O O)<|.c (zm O)<|.c (S.neq .none O (zt O)<|zt O) .nil)<|Ab.D.code<|kB O (λs=>?_) λs=>?_
     ·exact absurd A s
     refine ro 8 O<|kB O (λj=>?_) λj=>?_
     ·have v:=ent_T<|A.trans j;have u:=m.app (J _<|Zt g) j;refine Ro 11 O I ?_;refine Ab.D.lp ⟨i+1,o++[l[i]],⟨I,u⟩,I,O,O,O,O,O,(rn (λz=>some<|X.sl z)<|by first|rfl|(rw[ne];rfl)),(AE<|by rw[v]),O,Zo⟩
     have v:=ent_F λe=>j<|A.symm.trans e;have u:=m;refine Ro 8 O I ?_;refine Ab.D.lp ⟨i+1,o,⟨I,u⟩,I,O,O,O,O,O,(rn (λz=>some<|X.sl z)<|by first|rfl|(rw[ne];rfl)),(AE<|by rw[v]),O,Zo⟩
    refine OK.exit O<|Ab.D.lp ⟨o,m,O,O,O,O,Zo⟩
   refine rr 8 O (Ab.D.lp ⟨o,m,O,O,O,O,Zo⟩)
  rintro o m;have hol:=m.len;have M:=JOk_of m.ok m.b;refine ro 5 O ?_;refine OK.join (G:=ba) [] (λw=>[(10,.raw<|pV b),(2,bv f),(13,.sl<|o.map Entry.cs),(17,.str w),(3000,.res<|Z9<|dskM b<|gz n o)]) (λw=>w=(if f=1\/f=2 then journalT o f else [])) (λ_=>O) ?_ ?_
  ·refine ro 3 O<|kc (zK (ref10_FormatErr (f:=f)) call50 O)<|rr 3 O<|kB O (λd=>?_) λd=>?_
   ·refine ro 3 O<|kc (zK (ref10_Journal (l:=o) (f:=f) I M) call51 O)<|ja O<|RK.nil ?_;refine Ab.D.lp ⟨_,(by first|exact(Zn<|fmt_0.1 d).symm|exact(Zm λh=>d<|fmt_0.2 h).symm),O,O,O,O,O,Zo⟩
   refine OK.skip (Ab.D.lp ⟨_,(by first|exact(Zn<|fmt_0.1 d).symm|exact(Zm λh=>d<|fmt_0.2 h).symm),O,O,O,O,O,Zo⟩)
  rintro w rfl;refine ro 3 O ?_;refine RK.c (S.VO (((rec_Log (b:=b) (n:=n) (l:=o) I).Tq<|Z9.ZV _)) (Z9.ZV _) call46 .none O (zc O .nil) O O)<|jm O<|kc (zK (AD (a:=o) (b:=o)) call31 O)<|jm O<|RK.ZS (t:=134) O (λr=>?_) λr=>?_
  ·refine rr 2 O ?_;refine RK.c (S.VO (((rec_DJournal (b:=b) (n:=n) (o:=o) (f:=f) I M).Tq L<|Z9.ZV _)) (Z9.ZV _) call47 (zg O O) O (zc O<|zc O .nil) O O) ?_;refine rr 6 O (kR O O ?_)
   first|rfl|simp
  exact absurd rfl r
 refine ro 2 O<|kc (zK (Tj (n:=n) I) call14 O)<|kc (S.Xo (rec_NewN (n:=n) I p) L call48 .none O (zc O .nil) O) ?_;refine rr 11 O<|kc (zK (G_ (n:=n) I) call49 O) ?_;refine rr 9 O<|kB O (λq=>?_) λq=>?_
 ·refine ro 6 O<|RK.ZS (t:=69) O (λQ=>?_) λQ=>?_
  ·refine kc (S.move (zg O O) O<|zt O) (kc (S.Km underlying101 (zg O O) O<|zt O)<|rr 4 O<|kR O O ?_)
   first|rfl|simp
  exact absurd rfl Q
 exact absurd p q
def replay_ix(h:(Z2 n l).2.2=0):(Z2 n l).2.1=0:=by
 have key:∀(l:List Entry)(H:Z6)(i:Nat),(runT H i l).2.2=0->(runT H i l).2.1=0:=by
  intro l
  induction l with
  |nil=>intro H i _;rfl
  |cons x l a=>
   intro H i h;rw[runT]at h⊢;split
   ·rename_i q;rw[Zn q]at h;exact absurd h q
   rename_i q;rw[Zm q]at h;exact a _ _ h
 obtain⟨_,_,e⟩:=Ur h;rw[e]at h⊢;exact key _ _ _ h
def until_last(h:(Z2 n l).2.2=0)(b:R l - 1<R l):untilT l (l[R l - 1]).at_=l:=by
 have:=until_at (t:=(l[R l - 1]).at_) h (Zq<|R l) (λx a=>by rw[da]at a;cases a) λ_ _=>Int.le_refl _;rw[this,List.take_length]
def base_ModG{m:Int}(b:0<m/\m<=1000000):Ct prog 52 [bv a,bv m]<|bv (if a.tmod m<0 then a.tmod m+m else a.tmod m):=by
 refine cI func52 O<|OK.intB (t:=0) O O λc=>?_;have f:=bδ a b.1;have e:=Int.lt_tmod_of_pos a b.1;refine ro 9 O ?_;refine kc (S.rem (q:=(a.tmod m)) .none O (zt O) (zt O) I O<|mn _ I) ?_;refine rr 10 O<|kB O (λd=>?_) λd=>?_
 ·refine Ro 13 O I<|kR O O ?_;simp[*]
 refine ro 8 O<|kR O O ?_;simp[*]
def law_RecordBeginnings:Q7 prog 9 [.agg n.cs,.sl<|l.map Entry.cs,bv a]<|.bool true:=by
 refine cT func9 O λo=>?_
 refine ro 9 O<|kc (S.Xo Bp o call10 .none O .nil O)<|kc (S.not .none O<|zt O)<|rr 9 O<|kc (zK (tK (n:=n)) call11 O)<|kc (S.not .none O<|zt O)<|jm O<|RK.split (t:=26) O (λE=>?_) λE=>?_
 ·refine rr 18 O (kR O O ?_)
  first|rfl|exact Xj (Zz<|Zn d)|simp
 refine kc (S.move (zg O O) O<|zt O)<|kc (S.call (C2 (l:=l)) call12 (zg O O) O (zc O .nil) O)<|kc (S.not (zg O O) O<|zt O)<|rr 2 O<|RK.split (t:=31) O (λC=>?_) λC=>?_
 ·refine rr 13 O (kR O O ?_)
  first|rfl|exact Xj (Zz<|Zn d)|simp
 have M:NK n=true:=by simpa using E
 have K:Xv l=true:=by simpa using C
 obtain⟨h,X⟩:=mN M;obtain⟨W,L⟩:=dz K;have f:∀y∈l,R y.text<=100000:=λy z=>by have:=L y z;omega
 refine rr 2 O<|kc (S.call (G9 (n:=n) (l:=l) I f) call18 (zg O O) O (zc O<|zc O .nil) O) ?_;refine rr 4 O<|kB O (λJ=>?_) λJ=>?_
 ·refine ro 5 O (kR O O ?_)
  first|rfl|exact Xj (Zz<|Zn d)|simp
 have h0:(Z2 n l).2.2=0:=Zu.1 J;refine ro 6 O<|kc (zk Vy O)<|Rr 1 O I<|kc (zK (base_ModG (a:=a) (m:=(R l:Int)+1) I) call52 O) ?_;refine rr 5 O ?_;obtain⟨k,T⟩:∃k:Nat,(if a.tmod ((R l:Int)+1)<0 then a.tmod ((R l:Int)+1)+((R l:Int)+1)else a.tmod ((R l:Int)+1))=(k:Int):=⟨((if a.tmod ((R l:Int)+1)<0 then a.tmod ((R l:Int)+1)+((R l:Int)+1)else a.tmod ((R l:Int)+1))).toNat,by have h1:=bδ a (show(0:Int)<(R l:Int)+1 by omega);have h2:=Int.lt_tmod_of_pos a (show(0:Int)<(R l:Int)+1 by omega);split<;>omega⟩;have Y:k<=R l:=by have h1:=bδ a (show(0:Int)<(R l:Int)+1 by omega);split at T<;>omega
 refine kV (.c (zL Pn O O O O)<|.c (zK (Tj (n:=n) I) call14 O)<|.c (zm O)<|.c (zm O)<|.c (S.slice (hi:=k) (l':=l.take k) Vy (λ_=>O) .none O (zt O) (.inl ⟨O,O,O⟩) (.inr ⟨_,_,O,(zt O),T⟩) I I<|by rw[aα])<|.c (zK (S8 (l:=l.take k)<|by rw[sc];omega) call15 O)<|.c (S.Xo (rec_CheckLog (n:=n) (l:=l.take k) I<|(An f).take k) o call53 .none O (zc O<|zc O .nil) O)<|.c (zm O)<|.c (zX O O O)<|.c (zX O O O)<|.c (za O)<|.c (za O) .nil) ?_;refine Ab.D.code<|kO ?_;have N:=UP h0 k;obtain⟨_,_,hR2⟩:=Ur N;refine ro 4 O<|RK.ZS (t:=54) O (λB=>?_) λB=>?_
 ·exact absurd N B
 refine rr 5 O<|kB O (λH=>?_) λH=>?_
 ·exact absurd (replay_ix N) H
 refine ro 5 O<|kc (zK (Tj (n:=n) I) call14 O) ?_;refine RK.Ng (((rec_New (n:=n) I I (Ur h0).1).at o)) (λ_=>Z9.ZV _) (λ_ _ _ _ _ Z z=>Z9.mono Z z) call48 O (zc O .nil) O λb=>?_
 refine rr 13 O<|RK.ZS (t:=66) O (λA=>?_) λA=>?_
 ·exact absurd rfl A
 refine kc (S.move (zg O O) O<|zt O)<|kc (S.Km underlying101 (zg O O) O<|zt O)<|rr 8 O<|kc (S.mkData (rows:=[]) x9 .none O .nil O O O O O O O)<|rr 10 O ?_;refine OK.loop (G:=Nat) [3] (λi=>[(1,.sl<|l.map Entry.cs),(3,.ptr 3 0),(1003,.box n.cs),(9,.raw<|pV b),(11,.sl<|(l.take i).map Entry.cs),(12,bv i),(3000,.res<|Z9<|dskM b<|gz n<|l.take i)]) (λi=>i<=R l) (λi=>R l - i) 0 (Zr _) ⟨O,O,O,O,O,O,O,Zo⟩ (λ_=>O) ?_;rintro i hi;refine ro 5 O<|kc (zk Vy O)<|rr 3 O<|kB O (λQ=>?_) λQ=>?_
 ·have j:i<R l:=by omega
  have hit:i<R (l.take<|i+1):=by rw[sc];omega
  obtain⟨g,P⟩:=ent_on h0 j;have V:=appT_2 g;rw[←mv j]at V;refine ro 5 O ?_;refine kV (.c (zL Pn O O O O)<|.c (zK (Tj (n:=n) I) call14 O)<|.c (zm O)<|.c (zK (S8 (l:=l.take i)<|by rw[sc];omega) call15 O)<|.c (zm O)<|.c (zm O)<|.c (zI Vy O I O)<|.c (S.Vj rT .none O (zt O) O O)<|.c (S.Xo (rec_Appended (n:=n) (l:=l.take i) (x:=l[i]) I (by rw[sc];omega) (λy z=>f y<|eν z)<|f _<|Zt j) o call54 .none O (zc O<|zc O<|zc O .nil) O)<|.c (zm O)<|.c (zX O O O)<|.c (zX O O O)<|.c (za O)<|.c (za O) .nil) ?_;refine rd 3 O ?_;rw[V,g];refine kV (.c (zm O)<|.c (zN O O)<|.c (zm O)<|.c (S.move (.yes O O O F) O<|zt O)<|.c (S.OF Vy (.yes O O O F) O<|zt O)<|.c (S.move (.yes O O O F) O<|zt O)<|.c (S.add (.yes O O O F) O (zt O) (.Zg O) (mn _ I)<|mn _ I)<|.c (S.neq (.yes O O O F) O (zt O)<|zt O)<|.c (S.Ug .none O (zt O) (zt O) F)<|.c (zm O)<|.c (S.move (.yes O O O<|by simp;omega) O<|zt O)<|.c (S.move (.yes O O O<|by simp;omega) O<|zt O)<|.c (S.Zi (n:=i) Vy (.yes O O O<|by simp;omega) O (zt O) (zt O) O (by simp;omega) O)<|.c (S.Vj rT (.yes O O O<|by simp;omega) O (zt O) O O)<|.c (S.move (.yes O O O<|by simp;omega) O<|zt O)<|.c (S.move (.yes O O O<|by simp;omega) O<|zt O)<|.c (S.Zi (n:=i) Vy (.yes O O O<|by simp;omega) O (zt O) (zt O) O I O)<|.c (S.Vj rT (.yes O O O<|by simp;omega) O (zt O) O O)<|.c (S.pneq (b:=decide<|(l.take<|i+1)[i]≠l[i]) [.i 0,.s [],.s []] [.i ((l.take<|i+1)[i]).at_,.s ((l.take<|i+1)[i]).OR,.s ((l.take<|i+1)[i]).text] [.i (l[i]).at_,.s (l[i]).OR,.s (l[i]).text] eqp95 (.yes O O O<|by simp;omega) O (zt O) (zt O) O O O O fO)<|.c (S.Ug .none O (zt O) (zt O)<|by simp;omega)<|.c (zm O)<|.c (S.move (.yes O O O F) O<|zt O)<|.c (S.move (.yes O O O F) O<|zt O)<|.c (S.move (.yes O O O F) O<|zt O)<|.c (S.Zi (n:=i) Vy (.yes O O O F) O (zt O) (zt O) O I O)<|.c (S.field Nu (.yes O O O F) O (zt O) O)<|.c (S.Q_ YK (.yes O O O F) O (zt O) O)<|.c (S.move (.yes O O O F) O<|zt O)<|.c (S.move (.yes O O O F) O<|zt O)<|.c (S.Zi (n:=i) Vy (.yes O O O F) O (zt O) (zt O) O I O)<|.c (S.field j6 (.yes O O O F) O (zt O) O)<|.c (S.Q_ T6 (.yes O O O F) O (zt O) O)<|.c (S.move (.yes O O O F) O<|zt O)<|.c (S.move (.yes O O O F) O<|zt O)<|.c (S.Zi (n:=i) Vy (.yes O O O F) O (zt O) (zt O) O I O)<|.c (S.field KB (.yes O O O F) O (zt O) O)<|.c (S.Q_ T6 (.yes O O O F) O (zt O) O)<|.c (S.VO (((rec_Enter (b:=b) (n:=n) (l:=l.take i) (x:=l[i]) I (by rw[sc];omega) (λy z=>f y<|eν z)<|f _<|Zt j).Tq o<|Z9.ZV _)) (Z9.ZV _) call44 (.yes O O O F) O (zc O<|zc O<|zc O<|zc O .nil) O O)<|.c (S.neq (.yes O O O F) O (zt O)<|.Zg O)<|.c (S.Ug .none O (zt O) (zt O) F) .nil) ?_;refine Ab.D.code<|kB O (λw=>?_) λw=>?_
  ·exact absurd g w
  refine ro 4 O ?_;refine kc (zK (S8 (l:=l.take<|i+1)<|by rw[sc];omega) call15 O) ?_;refine Rr 9 O I ?_;refine Ab.D.lp ⟨i+1,I,I,O,O,O,O,O,O,(AE<|by rw[P]),Zo⟩
 obtain rfl:i=R l:=by omega
 rw[List.take_length];refine ro 7 O<|kc (zK (AD (a:=l) (b:=l)) call31 O)<|kc (S.Xb .none O<|zt O)<|jm O<|RK.ZS (t:=135) O (λr=>?_) λr=>?_
 ·exact absurd rfl r
 refine kc (S.move (zg O O) O<|zt O)<|RK.c (S.VO (((rec_Log (b:=b) (n:=n) (l:=l) I).Tq<|Z9.ZV _)) (Z9.ZV _) call46 (zg O O) O (zc O .nil) O O)<|kc (S.move (zg O O) O<|zt O)<|kc (S.call (AD (a:=l) (b:=l)) call31 (zg O O) O (zc O<|zc O .nil) O)<|kc (S.Xb (zg O O) O<|zt O) ?_;refine rr 3 O<|kB O (λv=>?_) λv=>?_
 ·exact absurd rfl v
 refine ro 5 O<|kc (zK (Tj (n:=n) I) call14 O)<|jm O<|kc (S.Xo (r_ (n:=n) (l:=l) I<|An f) o call32 .none O (zc O<|zc O .nil) O) ?_;refine rr 11 O<|kc (zK (Tj (n:=n) I) call14 O)<|jm O<|kc (zK (S8 (l:=l) I) call15 O)<|kc (S.Xo (r_ (n:=n) (l:=l) I<|An f) o call32 .none O (zc O<|zc O .nil) O) ?_;refine rr 10 O ?_;rw[h0];refine ro 4 O<|RK.ZS (t:=159) O (λq=>?_) λq=>?_
 ·exact absurd rfl q
 refine rr 4 O<|RK.ZS (t:=163) O (λp=>?_) λp=>?_
 ·exact absurd rfl p
 refine rr 2 O<|kc (S.call (ref10_SameState (s:=Xi n l)) call55 (zg O O) O (zc O<|zc O .nil) O)<|kc (S.not (zg O O) O<|zt O)<|rr 10 O<|kc (zk Vy O)<|rr 3 O<|kB O (λu=>?_) λu=>?_
 ·have d:l=[]:=cι.1 I;refine ro 3 O ?_;refine RK.c (S.VO (((rec_Undo (b:=b) (n:=n) (l:=l) I).Tq<|Z9.ZV _)) (Z9.ZV _) call45 .none O (zc O .nil) O O) ?_;refine rr 4 O (kR O O ?_)
  first|rfl|exact Xj (Zz<|Zn d)|simp
 have d:¬l=[]:=λe=>u (by rw[e];rfl)
 have h:R l - 1<R l:=by have:=aη.2 d;omega
 obtain⟨g,U⟩:=at_0 h0<|replay_at h0 _<|Zt h;rw[until_last h0 h]at U;refine ro 3 O ?_;refine kV (.c (zL Pn O O O O)<|.c (zK (Tj (n:=n) I) call14 O)<|.c (zm O)<|.c (zK (S8 (l:=l) I) call15 O)<|.c (zm O)<|.c (zm O)<|.c (zk Vy O)<|.c (S.sub .none O (zt O) (.Zg O) (mn _ I)<|mn _ I)<|.c (S.Zi (n:=(R l - 1)) Vy .none O (zt O) (zt O) I h O)<|.c (S.field Nu .none O (zt O) O)<|.c (zV YK O O)<|.c (S.Xo (rec_StateAt (n:=n) (l:=l) (t:=(l[R l - 1]).at_) I<|An f) o call56 .none O (zc O<|zc O<|zc O .nil) O)<|.c (zm O)<|.c (zX O O O)<|.c (zX O O O)<|.c (zA (c:=19) ga O)<|.c (zS Zk O O O O O O)<|.c (za O) .nil)<|Ab.D.code<|kO ?_;rw[g,U];refine kV (.c (zm O)<|.c (zE O O)<|.c (zm O)<|.c (S.Hl Zk (.yes O O O F) O (zt O) O O O O)<|.c (S.Hl Zk (.yes O O O F) O (zt O) O O O O)<|.c (S.call (ref10_SameState (s:=Xi n l)) call55 (.yes O O O F) O (zc O<|zc O .nil) O)<|.c (S.Tc .none O (zt O) (zt O) F)<|.c (zm O)<|.c (S.move (zg O O) O<|zt O)<|.c (S.VO (((rec_Undo (b:=b) (n:=n) (l:=l) I).Tq<|Z9.ZV _)) (Z9.ZV _) call45 (zg O O) O (zc O .nil) O O)<|.c (S.eql (zg O O) O (zt O)<|.Zg O)<|.c (S.Tc .none O (zt O) (zt O) O)<|.c (zm O)<|.c (S.move (.yes O O O<|by simp[d]) O<|zt O)<|.c (S.VO (((rec_Log (b:=b) (n:=n) (l:=l.take<|R l - 1)<|by rw[sc];omega).Tq<|Z9.ZV _)) (Z9.ZV _) call46 (.yes O O O<|by simp[d]) O (zc O .nil) O O)<|.c (S.move (.yes O O O<|by simp[d]) O<|zt O)<|.c (S.move (.yes O O O<|by simp[d]) O<|zt O)<|.c (S.OF Vy (.yes O O O<|by simp[d]) O<|zt O)<|.c (S.sub (.yes O O O<|by simp[d]) O (zt O) (.Zg O) (mn _ I)<|mn _ I)<|.c (S.slice (hi:=(R l - 1)) (l':=l.take<|R l - 1) Vy (λ_=>O) (.yes O O O<|by simp[d]) O (zt O) (.inl ⟨O,O,O⟩) (.inr ⟨_,_,O,(zt O),I⟩) I I<|by rw[aα])<|.c (S.call (AD (a:=l.take<|R l - 1) (b:=l.take<|R l - 1)) call31 (.yes O O O<|by simp[d]) O (zc O<|zc O .nil) O)<|.c (S.Tc .none O (zt O) (zt O)<|by simp[d])<|.c (za O) .nil) ?_;refine Ab.D.code (kR O O ?_)
 first|rfl|exact Xj (Zz<|Zn d)|simp
