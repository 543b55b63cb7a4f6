import Derived.Test.YtkkbjdenehfpaaaGreatDoorLbN
set_option linter.all false
open List renaming length->R
namespace Go.Proofs.Z_
open Go.Ab Tryz
set_option maxRecDepth 9999
def fU:kU prog 57:=⟨λa c b w=>strings_Join_none a c b w,λi o c xs b w h g f e d=>strings_Join i o c xs b w h g f e d⟩
def NO(w:ba):Option Int:=if UW w 7=true then some (WR w)else none
variable{w:ba}
def oN(h:UW w 7=true):NO w=some (WR w):=Zn h
theorem oM(h:UW w 7=false):NO w=none:=Zm (by grind)
def oQ:LO w true 7=UW w 7:=(Ek C).1
def oR(h:UW w 7=true):YZ w=WR w:=(Ek (d:=7) C).2 h
def L8(l:bd):ba:=Lib.join (l.map Lib.itoa) [32]
def gK{l:bd}(h:K7<|ints l):∀n∈l,IntKind.i64.wrap n=n:=λn a=>(h.mem<|ai.2 ⟨[bv n],rx.2 ⟨n,a,rfl⟩,rv⟩).int
def sK{l:List ba}{sep:ba}{B ao:Nat}(h:∀w∈l,R w<=B)(b:R l<=ao)(hs:R sep=1):R (Lib.join l sep)<=ao * (B+1):=by
 have a:=gQ (sep:=sep) h;rw[hs]at a;exact di a<|m8 _ b
def JC{l:bd}(h:∀n∈l,IntKind.i64.wrap n=n){ao:Nat}(b:R l<=ao):R (L8 l)<=ao * 22:=sK (B:=21) (λw hw=>by obtain⟨j,a,rfl⟩:=rx.1 hw;exact OE<|h j a) (by rw[Zx];exact b) rfl
variable{l:ba}
def EI{c:UInt8}(b:R l<=100000):Ct prog 296 [.str l,.str [c]]<|.bool<|decide<|l.head?=some c:=by
 refine cI func296 O<|ro 13 O<|RK.ZS (t:=10) O (λa=>?_) λa=>?_
 ·refine rr 3 O ?_;refine kc (S.VI W6 (zg O O) O (zt O) (.inl ⟨O,O,O⟩) (.inr ⟨_,_,O,(zt O),O⟩) I I O) ?_;refine rr 6 O<|kR O O ?_;refine Xj<|decide_eq_decide.2 ?_;cases l with
  |nil=>simp at a
  |cons x r=>simp
 refine rr 10 O<|kR O O ?_;refine Xj (Zy ?_).symm;rw[cι.1 (show R l=0 by simp at a;omega)];simp
def GY(b:R l<=100000):Ct prog 260 [.str l,.str [45]]<|.str<|Je l:=by
 refine cI func260 O<|ro 10 O<|kc (zK (EI (l:=l) (c:=45) b) call296 O)<|kD<|kB O (λa=>?_) λa=>?_
 ·refine ro 5 O ?_;refine kc (S.VI (lo:=1) (l':=l.drop 1) W6 .none O (zt O) (.inr ⟨_,_,O,(zt O),O⟩) (.inl ⟨O,O,O⟩) (by have:=a;cases l with|nil=>cases this|cons _ _=>simp) I<|by rw[List.take_length]) ?_;refine rr 3 O<|kR O O ?_;rw[show Je l=l.drop 1 from Zn a]
 refine ro 8 O<|kR O O ?_;rw[show Je l=l from Zm a]
def PY(a:R l<=100000):Ct prog 210 [.str l,.str [45]]<|.str<|Je l:=by
 refine cI func210 O<|ro 9 O<|kc (zK (GY I) call260 O) ?_;refine rr 3 O<|kR O O ?_;rfl
def NN{b:Bool}(a:R l<=100000):Q7 prog 166 [.str l,.bool b]<|.Yy [bv<|YZ l,.bool<|LO l b 7]:=by
 refine cT func166 O λg=>?_
 refine ro 9 O<|kc (S.Xo (Js a) g call146 .none O (zc O .nil) O)<|rr 11 O<|kc (S.mK underlying187 .none O<|zt O)<|jm O<|RK.split (t:=16) O (λf=>?_) λf=>?_
 ·refine kc (S.move (zg O O) O<|zt O)<|kc (S.Xo (N9<|Px l) g call81 (zg O O) O (zc O .nil) O)<|rr 4 O<|RK.ZS (t:=22) O (λe=>?_) λe=>?_
  ·refine rr 2 O<|RK.split (t:=24) O (λd=>?_) λd=>?_
   ·refine rr 6 O ?_;refine kc (S.call (PY (l:=l) a) call210 (zg O O) O (zc O<|.cons (.Vh (l:=[45]) O C) .nil) O) ?_;refine rr 7 O<|kS O O O O ?_;exact rn (λz=>X.Yy [X.int .i64<|YZ l,X.bool z]) (by unfold LO;simp_all<;>(intros;omega))
   refine rr 5 O<|RK.ZS (t:=29) O (λc=>?_) λc=>?_
   ·refine kc (S.move (zg O O) O<|zt O)<|kc (S.call (PY (l:=l) a) call210 (zg O O) O (zc O<|.cons (.Vh (l:=[45]) O C) .nil) O) ?_;refine rr 7 O<|kS O O O O ?_;exact rn (λz=>X.Yy [X.int .i64<|YZ l,X.bool z]) (by unfold LO;simp_all<;>(intros;omega))
   refine rr 9 O<|kS O O O O ?_;exact rn (λz=>X.Yy [X.int .i64<|YZ l,X.bool z]) (by unfold LO;simp_all<;>(intros;omega))
  refine rr 16 O<|kS O O O O ?_;exact rn (λz=>X.Yy [X.int .i64<|YZ l,X.bool z]) (by unfold LO;simp_all<;>(intros;omega))
 refine rr 22 O<|kS O O O O ?_;exact rn (λz=>X.Yy [X.int .i64<|YZ l,X.bool z]) (by unfold LO;simp_all<;>(intros;omega))
set_option maxHeartbeats 1000000 in
def Bx{l:List ba}(o:R l<=100000)(hw:∀w∈l,R w<=100000):Q7 prog 261 [.sl<|l.map λs=>[.str s]]<|.Yy [ints<|(YT NO l).getD [],.bool (YT NO l).isSome]:=by
 refine cT func261 O λm=>?_
 refine kr<|kc (S.assign .none O .Ya)<|rr 5 O<|RK.c (S.XG (k:=4) (sz:=1) .none O)<|rr 6 O<|kc (zk X1 O)<|rr 4 O ?_;refine OK.We [4] (λ(i:Nat)(qm:bd)=>[(4,.own 4<|R qm),(2004,.arr 1<|qm.map λn=>[bv n]),(9,.sl<|l.map λs=>[.str s]),(10,bv<|R l),(11,bv i)]) (λi qm=>i<=R l/\YT NO l=(YT NO<|l.drop i).map (qm++ ·)/\R qm<=i) (λi qm=>R l - i) 0 ([]) ⟨Zr _,by rw[aα];cases YT NO l<;>simp,Zq _⟩ ⟨(ZH N),(ZX N),O,O,O,Zo⟩ (λ_ _=>O) ?_;rintro i qm ⟨hi,g,j⟩;refine ro 6 O<|kB O (λh=>?_) λh=>?_
 ·have a:i<R l:=by omega
  have f:=hw _<|Zt a;refine ro 6 O<|kc (zI X1 O I O) ?_;refine rr 7 O<|kc (S.Xo (NN (l:=l[i]) (b:=true) f) m call166 .none O (zc O<|.cons .Wx .nil) O)<|rr 11 O<|kc (S.not .none O<|zt O)<|kD<|OK.cond O O (λe=>?_) λe=>?_
  ·have hs:UW l[i] 7=false:=by rw[←oQ];simpa using e
   have d:=QH g a<|oM hs;refine kr<|kc (S.assign .none O .Ya)<|rr 3 O<|kS O O O O ?_;rw[d]
   all_goals rfl
  have hs:UW l[i] 7=true:=by rw[←oQ];simpa using e
  refine ro 5 O ?_;refine RK.c (zM [[_]] Xr O O O O) ?_;refine kc (zP Xr O O F N I<|by simp only[maxLen];omega) ?_;refine Rr 8 O I ?_;refine Ab.D.lp ⟨i+1,qm++[YZ l[i]],⟨by omega,JF g a (by rw[oN hs,oR hs]),by simp;omega⟩,I,(ZH F),(ZX F),O,O,O,Zo⟩
 have d:=MC g (show i=R l by omega);refine ro 9 O ?_;refine OK.ret<|Y3.r2 (.tmp O O (.c (.own O O N) O) O) (zo O O) ?_;rw[d]
 all_goals rfl
def E6{l:bd}(e:R l<=100000):Q7 prog 56 [ints l]<|.str<|L8 l:=by
 refine cT func56 O λf=>?_
 refine OK.slRep (t:=0) O O λd=>?_
 have b:=gK d;clear d;refine ro 7 O<|RK.c (S.XG (k:=3) (sz:=1) .none O)<|rr 6 O<|kc (zk X9 O)<|rr 4 O ?_;refine OK.loop (G:=Nat) [3] (λi=>[(3,.own 3 i),(2003,.arr 1<|((l.take i).map Lib.itoa).map λs=>[.str s]),(6,ints l),(7,bv<|R l),(8,bv i)]) (λi=>i<=R l) (λi=>R l - i) 0 (Zr _) ⟨(ZH N),(ZX N),O,O,O,Zo⟩ (λ_=>O) ?_;rintro i hi;refine ro 6 O<|kB O (λg=>?_) λg=>?_
 ·have a:=b _ (Zt (show i<R l by omega));refine ro 6 O<|kc (zI X9 O I O) ?_;refine rr 7 O<|kc (S.Xo (N9 a) f call81 .none O (zc O .nil) O) ?_;refine RK.c (zM [[_]] Qf O O O O) ?_;refine kc (zP Qf O O (by simp;omega) N I<|by simp only[maxLen];omega) ?_;refine Rr 8 O I ?_;refine Ab.D.lp ⟨i+1,I,I,(ZH I),(ZX<|by rw[mv I,ne,ne];rfl),O,O,O,Zo⟩
 refine ro 3 O ?_;rw[show i=R l by omega,List.take_length];refine OK.R3<|jm O ?_;refine kc (S.XY (fU.ct (l:=l.map Lib.itoa) (sep:=[32]) (by rw[Zx];omega)<|by have:=JC b e;show(R<|L8 l)<=_;omega) call57 .none O (zc O<|.cons (.Vh (l:=[32]) O C) .nil) (.cons (.p (.own O F) O)<|.cons (.same O) .nil) O) ?_;refine rr 3 O<|kR O O ?_;rfl
