import Derived.Test.YtkkbjdenehfpaaaGreatDoorHxN
set_option linter.all false
open List renaming length->R
namespace Go.Proofs.Z_
open Go.Ab Tryz
set_option maxRecDepth 9999
def ints(l:bd):X:=.sl<|l.map λn=>[bv n]
def texts(l:List ba):X:=.sl<|l.map λs=>[.str s]
def ZW:bd->Int
 |[]=>0
 |e::l=>if e≠0 then e else ZW l
def Xj{a b:Bool}(h:a=b):X.bool a=X.bool b:=rn _ h
def AF{p:Prop}[Decidable p](h:¬p):X.bool false=X.bool (decide p):=by simp_all
def gi{p:Prop}[Decidable p](h:p):X.bool true=X.bool (decide p):=by simp_all
def YL{a b:Int}(h:a=b):X.int .i64 a=X.int .i64 b:=rn _ h
def Z8(ok:Bool)(e:Int):Int:=if ok then 0 else e
variable{i:Nat}{l:bd}
def Wy(h:i<R l):ZW (l.drop i)=if l[i]≠0 then l[i]else ZW (l.drop<|i+1):=by
 rw[np h,ZW]
variable{n:Int}
def Y4{lo hi:Int}:Ct prog 98 [bv n,bv lo,bv hi]<|.bool<|decide<|lo<=n/\n<=hi:=by
 refine cI func98 O<|ro 11 O<|RK.ZS (t:=10) O (λa=>?_) λa=>?_
 ·refine rr 7 O<|kR O O ?_;simp[*]
 refine rr 7 O<|kR O O ?_;simp[*]
def Ws{lo hi:Int}:Ct prog 76 [bv n,bv lo,bv hi]<|.bool<|decide<|lo<=n/\n<=hi:=by
 refine cI func76 O<|ro 11 O<|RK.ZS (t:=10) O (λa=>?_) λa=>?_
 ·refine rr 7 O<|kR O O ?_;simp[*]
 refine rr 7 O<|kR O O ?_;simp[*]
def Y7{ok:Bool}{e:Int}:Ct prog 45 [.bool ok,bv e]<|bv<|Z8 ok e:=by
 refine cI func45 O<|ro 11 O<|OK.cond O O (λa=>?_) λa=>?_
 ·refine ro 5 O<|kR O O ?_;simp[Z8, *]
 refine ro 8 O<|kR O O ?_;simp[Z8, *]
def XB:Ct prog 44 [ints l]<|bv<|ZW l:=by
 refine cI func44 O<|OK.XF (vi:=l.map λn=>[bv n]) (t:=0) O O λqk=>?_;rw[Zx]at qk;unfold maxLen at qk;refine ro 9 O<|kc (zk EU O)<|rr 4 O ?_;refine OK.loop (G:=Nat) [] (λi=>[(5,ints l),(6,bv<|R l),(7,bv i)]) (λi=>i<=R l/\ZW l=ZW (l.drop i)) (λi=>R l - i) 0 ⟨Zr _,O⟩ ⟨O,O,O,Zo⟩ (λ_=>O) ?_;rintro i ⟨hi,a⟩;refine ro 6 O<|kB O (λc=>?_) λc=>?_
 ·refine ro 6 O<|kc (zI EU O I O) ?_;refine rr 10 O<|kB O (λb=>?_) λb=>?_
  ·refine ro 6 O<|kR O O ?_;rw[a,Wy I];simp_all
  refine Ro 7 O I (Ab.D.lp ⟨i+1,⟨by omega,?_⟩,I,O,O,O,Zo⟩);rw[a,Wy I];simp_all
 refine ro 7 O<|kR O O ?_;have:i=R l:=by omega
 subst this;rw[a,da];rfl
def Si:Ct prog 134 [bv n]<|.bool<|decide<|-1000000<=n/\n<=1000000:=by
 refine cI func134 O<|ro 8 O<|kc (zK Ws call76 O)<|rr 3 O<|kR O O ?_;rfl
def E2:Ct prog 246 [bv n]<|.bool<|decide<|-1000000<=n/\n<=1000000:=by
 refine cI func246 O<|ro 8 O<|kc (zK Y4 call98 O)<|rr 3 O<|kR O O ?_;rfl
def Me{a b:bd}:Ct prog 32 [ints a,ints b]<|.bool<|decide<|a=b:=by
 refine cI func32 O<|OK.XF (vi:=a.map λn=>[bv n]) (t:=0) O O λqk=>?_;rw[Zx]at qk;unfold maxLen at qk;refine ro 9 O<|kc (zk X9 O)<|jm O<|kc (zk X9 O)<|rr 3 O<|kB O (λf=>?_) λf=>?_
 ·refine ro 5 O<|kR O O ?_;exact AF (λe=>f<|by rw[e])
 have j:R a=R b:=by omega
 refine ro 9 O ?_;refine OK.loop (G:=Nat) [] (λi=>[(0,ints a),(1,ints b),(5,bv i)]) (λi=>i<=R a/\a.take i=b.take i) (λi=>R a - i) 0 ⟨Zr _,O⟩ ⟨O,O,O,Zo⟩ (λ_=>O) ?_;rintro i ⟨hi,g⟩;refine ro 5 O<|kc (zk X9 O)<|rr 3 O<|kB O (λh=>?_) λh=>?_
 ·refine ro 5 O<|kV (.c (zm O)<|.c (zm O)<|.c (zI X9 O I O)<|.c (zV YK O O)<|.c (zm O)<|.c (zm O)<|.c (zI X9 O I O)<|.c (zV YK O O)<|.c (S.neq .none O (zt O)<|zt O) .nil)<|Ab.D.code<|kB O (λd=>?_) λd=>?_
  ·refine ro 5 O<|kR O O ?_;exact AF (λe=>by subst e;exact d rfl)
  refine Ro 8 O I (Ab.D.lp ⟨i+1,⟨by omega,?_⟩,I,O,O,O,Zo⟩);simp only[ne_eq,Zu]at d;rw[mv I,mv I,g,d]
 refine ro 7 O<|kR O O ?_;have:i=R a:=by omega
 subst this;rw[List.take_length,j,List.take_length]at g;exact gi g
structure Pass where
 part:Int
 frm:Int
 til:Int
 deriving DecidableEq
structure Event where
 kind:Int
 part:Int
 deriving DecidableEq
structure Row where
 known:Bool
 values:bd
 deriving DecidableEq
def Row.cs(x:Row):bi:=[.bool x.known,.sl<|x.values.map λn=>[bv n]]
structure ZG where
 rows:List Row
 deriving DecidableEq
def ZG.cs(x:ZG):bi:=[.sl<|x.rows.map Row.cs]
structure Range where
 lo:Int
 hi:Int
 deriving DecidableEq
def Range.cs(x:Range):bi:=[bv x.lo,bv x.hi]
structure Frame where
 tick:Int
 values:bd
 deriving DecidableEq
def Frame.cs(x:Frame):bi:=[bv x.tick,.sl<|x.values.map λn=>[bv n]]
structure Zf where
 ZY:List ba
 ticks:Int
 deriving DecidableEq
def Zf.cs(x:Zf):bi:=[.sl<|x.ZY.map λs=>[.str s],bv x.ticks]
structure Envelope where
 parts:Int
 trim:Int
 rows:List (List Range)
 deriving DecidableEq
def Envelope.cs(x:Envelope):bi:=[bv x.parts,bv x.trim,.sl<|x.rows.map λl=>[.sl<|l.map Range.cs]]
structure YP where
 tick:Int
 channel:Int
 OR:Int
 deriving DecidableEq
def YP.cs(x:YP):bi:=[bv x.tick,bv x.channel,bv x.OR]
structure Rule where
 target:Int
 slack:Int
 limit:Int
 deriving DecidableEq
structure Counts where
 inside:Int
 good:Int
 bad:Int
 deriving DecidableEq
structure GB where
 num:Int
 den:Int
 deriving DecidableEq
def GB.cs(x:GB):bi:=[bv x.num,bv x.den]
def ZC{α:Type}(g:α->Bool):Nat->List α->Int
 |_,[]=> -1
 |i,x::l=>if g x then i else ZC g (i+1) l
variable{α:Type}
def Y0(g:α->Bool){l:List α}(h:i<R l):ZC g i (l.drop i)=if g l[i]then(i:Int)else ZC g (i+1) (l.drop<|i+1):=by
 rw[np h,ZC]
theorem MJ{α:Type}(g:α->Bool):∀(l:List α)(i:Nat),decide (0<=ZC g i l)=l.any g
 |[],i=>by simp[ZC]
 |x::l,i=>by
  rw[ZC,List.any_cons,←MJ g l (i+1)];grind
def ZP{α:Type}(g:Nat->α->Int):Nat->List α->Int×Int
 |_,[]=>(0,0)
 |i,x::l=>if g i x≠0 then(i,g i x)else ZP g (i+1) l
def Zd(g:Nat->α->Int){l:List α}(h:i<R l):ZP g i (l.drop i)=if g i l[i]≠0 then((i:Int),g i l[i])else ZP g (i+1) (l.drop<|i+1):=by
 rw[np h,ZP]
def pair(p:Int×Int):X:=.Yy [bv p.1,bv p.2]
abbrev NC(f:Nat):Prop:=∀vj w,(callFunc f vj).run prog w=.ok (.enter f vj) w
abbrev Clean(vt:bi):Prop:=vt.all (Np [])=true/\vt.all (λu=>!Yx u)=true
def WM{a b:Int}{p:Int×Int}(h:(a,b)=p):X.Yy [bv a,bv b]=pair p:=by subst h;rfl
variable{a:Nat}{vt:bi}
def GD{g:Int->Bool}(f:∀x,x∈l->Ct prog a ([.int .i64 x]++vt) (.bool<|g x))(b:NC a)(d:Clean vt):Ct prog 189 [.sl<|l.map λn=>[.int .i64 n],.fn a vt]<|.int .i64<|ZC g 0 l:=by
 refine cI func189 O<|OK.XF (vi:=l.map λn=>[bv n]) (t:=0) O O λqk=>?_;rw[Zx]at qk;unfold maxLen at qk;refine ro 9 O<|kc (zk X9 O)<|rr 4 O ?_;refine OK.loop (G:=Nat) [] (λi=>[(0,.sl<|l.map λn=>[bv n]),(1,.fn a vt),(6,.sl<|l.map λn=>[bv n]),(7,bv<|R l),(8,bv i)]) (λi=>i<=R l/\ZC g 0 l=ZC g i (l.drop i)) (λi=>R l - i) 0 ⟨Zr _,O⟩ ⟨O,O,O,O,O,Zo⟩ (λ_=>by simp[VB,oZ,vc,Ky,Np,d.1]) ?_;rintro i ⟨hi,c⟩;refine ro 6 O<|kB O (λh=>?_) λh=>?_
 ·refine ro 15 O<|kc (zI X9 O I O)<|kc (zV YK O O) ?_;refine kc (S.Tm (f _<|Zt _) b .none O (zt O) (zc O .nil) O d.1 d.2)<|kD<|OK.cond O O (λe=>?_) λe=>?_
  ·refine ro 6 O<|kR O O ?_;rw[c,Y0 _ I];simp_all
  refine Ro 7 O I (Ab.D.lp ⟨i+1,⟨by omega,?_⟩,I,O,O,O,O,O,Zo⟩);rw[c,Y0 _ I];simp_all
 refine ro 7 O<|kR O O ?_;have:i=R l:=by omega
 subst this;rw[c,da];rfl
def Lp{b:Nat}{g:Int->Bool}(d:∀x,x∈l->Ct prog b ([.int .i64 x]++vt) (.bool<|g x))(a:NC b)(c:Clean vt):Ct prog 132 [.sl<|l.map λn=>[.int .i64 n],.fn b vt]<|.bool<|l.any g:=by
 refine cI func132 O<|ro 9 O ?_;refine kc (S.call (GD d a c) call189 .none O (zc O<|zc O .nil)<|by simp[V3,vc,Ky,Np,X4,c.1]) ?_;refine rr 4 O<|kR O O ?_;exact Xj (by rw[←MJ g l 0])
def tB{l:List ba}{v:ba}:Ct prog 188 [.sl<|l.map λs=>[.str s],.str v]<|bv<|ZC (λx=>decide<|v=x) 0 l:=by
 refine cI func188 O<|OK.XF (vi:=l.map λs=>[.str s]) (t:=0) O O λqk=>?_;rw[Zx]at qk;unfold maxLen at qk;refine ro 9 O<|kc (zk X1 O)<|rr 4 O ?_;refine OK.loop (G:=Nat) [] (λi=>[(0,.sl<|l.map λs=>[.str s]),(1,.str v),(6,.sl<|l.map λs=>[.str s]),(7,bv<|R l),(8,bv i)]) (λi=>i<=R l/\ZC (λx=>decide<|v=x) 0 l=ZC (λx=>decide<|v=x) i (l.drop i)) (λi=>R l - i) 0 ⟨Zr _,O⟩ ⟨O,O,O,O,O,Zo⟩ (λ_=>O) ?_;rintro i ⟨hi,a⟩;refine ro 6 O<|kB O (λc=>?_) λc=>?_
 ·refine ro 15 O<|kc (zI X1 O I O) ?_;refine rr 4 O<|kB O (λb=>?_) λb=>?_
  ·refine ro 6 O<|kR O O ?_;rw[a,Y0 _ I];simp_all
  refine Ro 7 O I (Ab.D.lp ⟨i+1,⟨by omega,?_⟩,I,O,O,O,O,O,Zo⟩);rw[a,Y0 _ I];simp_all
 refine ro 7 O<|kR O O ?_;have:i=R l:=by omega
 subst this;rw[a,da];rfl
def Mq{l:List ba}{v:ba}:Ct prog 131 [texts l,.str v]<|.bool<|l.any λx=>decide<|v=x:=by
 refine cI func131 O<|ro 9 O<|kc (zK tB call188 O)<|rr 4 O<|kR O O ?_;exact Xj (by rw[←MJ _ l 0])
def Kf{l:List ba}{g:Nat->ba->Int}(h:∀i x,l[i]?=some x->Ct prog a ([.int .i64 i,.str x]++vt) (.int .i64<|g i x))(b:NC a)(d:Clean vt):Ct prog 128 [.sl<|l.map λs=>[.str s],.fn a vt]<|pair<|ZP g 0 l:=by
 refine cI func128 O<|OK.XF (vi:=l.map λs=>[.str s]) (t:=0) O O λqk=>?_;rw[Zx]at qk;unfold maxLen at qk;refine ro 10 O<|kc (zk X1 O)<|rr 4 O ?_;refine OK.loop (G:=Nat) [] (λi=>[(1,.fn a vt),(9,.sl<|l.map λs=>[.str s]),(10,bv<|R l),(11,bv i)]) (λi=>i<=R l/\ZP g 0 l=ZP g i (l.drop i)) (λi=>R l - i) 0 ⟨Zr _,O⟩ ⟨O,O,O,O,Zo⟩ (λ_=>by simp[VB,oZ,vc,Ky,Np,d.1]) ?_;rintro i ⟨hi,c⟩;refine ro 6 O<|kB O (λf=>?_) λf=>?_
 ·refine ro 7 O<|kc (zI X1 O I O) ?_;refine rr 10 O ?_;refine kc (S.Tm (h i _<|Zv I) b .none O (zt O) (zc O<|zc O .nil) O d.1 d.2) ?_;refine rr 9 O<|kB O (λe=>?_) λe=>?_
  ·refine ro 8 O<|kS O O O O ?_;refine WM ?_;rw[c,Zd _ I];simp_all
  refine Ro 7 O I (Ab.D.lp ⟨i+1,⟨by omega,?_⟩,I,O,O,O,O,Zo⟩);rw[c,Zd _ I];simp_all
 refine ro 8 O<|kS O O O O ?_;refine WM ?_;have:i=R l:=by omega
 subst this;rw[c,da];rfl
def mz{l:List Row}{g:Nat->Row->Int}(h:∀i x,l[i]?=some x->Ct prog a ([.int .i64 i,.agg x.cs]++vt) (.int .i64<|g i x))(b:NC a)(d:Clean vt):Ct prog 135 [.sl<|l.map Row.cs,.fn a vt]<|pair<|ZP g 0 l:=by
 refine cI func135 O<|OK.XF (vi:=l.map Row.cs) (t:=0) O O λqk=>?_;rw[Zx]at qk;unfold maxLen at qk;refine ro 10 O<|kc (zk Oz O)<|rr 4 O ?_;refine OK.loop (G:=Nat) [] (λi=>[(1,.fn a vt),(9,.sl<|l.map Row.cs),(10,bv<|R l),(11,bv i)]) (λi=>i<=R l/\ZP g 0 l=ZP g i (l.drop i)) (λi=>R l - i) 0 ⟨Zr _,O⟩ ⟨O,O,O,O,Zo⟩ (λ_=>by simp[VB,oZ,vc,Ky,Np,d.1]) ?_;rintro i ⟨hi,c⟩;refine ro 6 O<|kB O (λf=>?_) λf=>?_
 ·refine ro 7 O<|kc (zI Oz O I O) ?_;refine rr 11 O ?_;refine kc (S.Tm (h i _<|Zv I) b .none O (zt O) (zc O<|zc O .nil) O d.1 d.2) ?_;refine rr 9 O<|kB O (λe=>?_) λe=>?_
  ·refine ro 8 O<|kS O O O O ?_;refine WM ?_;rw[c,Zd _ I];simp_all
  refine Ro 7 O I (Ab.D.lp ⟨i+1,⟨by omega,?_⟩,I,O,O,O,O,Zo⟩);rw[c,Zd _ I];simp_all
 refine ro 8 O<|kS O O O O ?_;refine WM ?_;have:i=R l:=by omega
 subst this;rw[c,da];rfl
def AX{l:List ZG}{g:Nat->ZG->Int}(h:∀i x,l[i]?=some x->Ct prog a ([.int .i64 i,.agg x.cs]++vt) (.int .i64<|g i x))(b:NC a)(d:Clean vt):Ct prog 78 [.sl<|l.map ZG.cs,.fn a vt]<|pair<|ZP g 0 l:=by
 refine cI func78 O<|OK.XF (vi:=l.map ZG.cs) (t:=0) O O λqk=>?_;rw[Zx]at qk;unfold maxLen at qk;refine ro 10 O<|kc (zk Kz O)<|rr 4 O ?_;refine OK.loop (G:=Nat) [] (λi=>[(1,.fn a vt),(9,.sl<|l.map ZG.cs),(10,bv<|R l),(11,bv i)]) (λi=>i<=R l/\ZP g 0 l=ZP g i (l.drop i)) (λi=>R l - i) 0 ⟨Zr _,O⟩ ⟨O,O,O,O,Zo⟩ (λ_=>by simp[VB,oZ,vc,Ky,Np,d.1]) ?_;rintro i ⟨hi,c⟩;refine ro 6 O<|kB O (λf=>?_) λf=>?_
 ·refine ro 7 O<|kc (zI Kz O I O) ?_;refine rr 11 O ?_;refine kc (S.Tm (h i _<|Zv I) b .none O (zt O) (zc O<|zc O .nil) O d.1 d.2) ?_;refine rr 9 O<|kB O (λe=>?_) λe=>?_
  ·refine ro 8 O<|kS O O O O ?_;refine WM ?_;rw[c,Zd _ I];simp_all
  refine Ro 7 O I (Ab.D.lp ⟨i+1,⟨by omega,?_⟩,I,O,O,O,O,Zo⟩);rw[c,Zd _ I];simp_all
 refine ro 8 O<|kS O O O O ?_;refine WM ?_;have:i=R l:=by omega
 subst this;rw[c,da];rfl
def yu{l:List Range}{g:Nat->Range->Int}(h:∀i x,l[i]?=some x->Ct prog a ([.int .i64 i,.agg x.cs]++vt) (.int .i64<|g i x))(b:NC a)(d:Clean vt):Ct prog 142 [.sl<|l.map Range.cs,.fn a vt]<|pair<|ZP g 0 l:=by
 refine cI func142 O<|OK.XF (vi:=l.map Range.cs) (t:=0) O O λqk=>?_;rw[Zx]at qk;unfold maxLen at qk;refine ro 10 O<|kc (zk uv O)<|rr 4 O ?_;refine OK.loop (G:=Nat) [] (λi=>[(1,.fn a vt),(9,.sl<|l.map Range.cs),(10,bv<|R l),(11,bv i)]) (λi=>i<=R l/\ZP g 0 l=ZP g i (l.drop i)) (λi=>R l - i) 0 ⟨Zr _,O⟩ ⟨O,O,O,O,Zo⟩ (λ_=>by simp[VB,oZ,vc,Ky,Np,d.1]) ?_;rintro i ⟨hi,c⟩;refine ro 6 O<|kB O (λf=>?_) λf=>?_
 ·refine ro 7 O<|kc (zI uv O I O) ?_;refine rr 11 O ?_;refine kc (S.Tm (h i _<|Zv I) b .none O (zt O) (zc O<|zc O .nil) O d.1 d.2) ?_;refine rr 9 O<|kB O (λe=>?_) λe=>?_
  ·refine ro 8 O<|kS O O O O ?_;refine WM ?_;rw[c,Zd _ I];simp_all
  refine Ro 7 O I (Ab.D.lp ⟨i+1,⟨by omega,?_⟩,I,O,O,O,O,Zo⟩);rw[c,Zd _ I];simp_all
 refine ro 8 O<|kS O O O O ?_;refine WM ?_;have:i=R l:=by omega
 subst this;rw[c,da];rfl
def Ke{l:List<|List Range}{g:Nat->(List Range)->Int}(h:∀i x,l[i]?=some x->Ct prog a ([.int .i64 i,.sl<|x.map Range.cs]++vt) (.int .i64<|g i x))(b:NC a)(d:Clean vt):Ct prog 140 [.sl<|l.map λl=>[.sl<|l.map Range.cs],.fn a vt]<|pair<|ZP g 0 l:=by
 refine cI func140 O<|OK.XF (vi:=l.map λl=>[.sl<|l.map Range.cs]) (t:=0) O O λqk=>?_;rw[Zx]at qk;unfold maxLen at qk;refine ro 10 O<|kc (zk vq O)<|rr 4 O ?_;refine OK.loop (G:=Nat) [] (λi=>[(1,.fn a vt),(9,.sl<|l.map λl=>[.sl<|l.map Range.cs]),(10,bv<|R l),(11,bv i)]) (λi=>i<=R l/\ZP g 0 l=ZP g i (l.drop i)) (λi=>R l - i) 0 ⟨Zr _,O⟩ ⟨O,O,O,O,Zo⟩ (λ_=>by simp[VB,oZ,vc,Ky,Np,d.1]) ?_;rintro i ⟨hi,c⟩;refine ro 6 O<|kB O (λf=>?_) λf=>?_
 ·refine ro 7 O<|kc (zI vq O I O) ?_;refine rr 10 O ?_;refine kc (S.Tm (h i _<|Zv I) b .none O (zt O) (zc O<|zc O .nil) O d.1 d.2) ?_;refine rr 9 O<|kB O (λe=>?_) λe=>?_
  ·refine ro 8 O<|kS O O O O ?_;refine WM ?_;rw[c,Zd _ I];simp_all
  refine Ro 7 O I (Ab.D.lp ⟨i+1,⟨by omega,?_⟩,I,O,O,O,O,Zo⟩);rw[c,Zd _ I];simp_all
 refine ro 8 O<|kS O O O O ?_;refine WM ?_;have:i=R l:=by omega
 subst this;rw[c,da];rfl
inductive Ph where
 |mk (kind power law ticks U8:Int) (body:List Ph)
def Ph.cs:Ph->bi
 |.mk kind power law ticks U8 xt=>[bv kind,bv power,bv law,bv ticks,bv U8,.sl<|xt.map Ph.cs]
structure Ze where
 name:ba
 role:Int
 deriving DecidableEq
def Ze.cs(x:Ze):bi:=[.str x.name,bv x.role]
structure Net where
 ZU:List Ze
 plan:ba
 limit:Int
 lo:Int
 hi:Int
 deriving DecidableEq
def Net.cs(x:Net):bi:=[.sl<|x.ZU.map Ze.cs,.str x.plan,bv x.limit,bv x.lo,bv x.hi]
structure Entry where
 at_:Int
 OR:ba
 text:ba
 deriving DecidableEq
def Entry.cs(x:Entry):bi:=[bv x.at_,.str x.OR,.str x.text]
structure Span where
 lo:GB
 hi:GB
 deriving DecidableEq
def Span.cs(x:Span):bi:=[bv x.lo.num,bv x.lo.den,bv x.hi.num,bv x.hi.den]
def Span.zero:Span:=⟨⟨0,0⟩,⟨0,0⟩⟩
structure Rec where
 name:ba
 YD:Int
 phases:List Ph
def Rec.cs(x:Rec):bi:=[.str x.name,bv x.YD,.sl<|x.phases.map Ph.cs]
structure XA where
 name:ba
 Wb:Int
 ZA:Int
 deriving DecidableEq
def XA.cs(x:XA):bi:=[.str x.name,bv x.Wb,bv x.ZA]
structure Part where
 num:Int
 Yr:ba
 YD:Int
 Yb:ba
 frames:List Frame
 place:Int
 WD:Bool
 verdict:Int
 marked:Bool
 depth:Span
 deriving DecidableEq
def Part.cells(x:Part)(fr:X):bi:=[bv x.num,.str x.Yr,bv x.YD,.str x.Yb,fr,bv x.place,.bool x.WD,bv x.verdict,.bool x.marked,bv x.depth.lo.num,bv x.depth.lo.den,bv x.depth.hi.num,bv x.depth.hi.den]
def Part.cs(x:Part):bi:=x.cells<|.sl<|x.frames.map Frame.cs
structure State where
 ZJ:List Rec
 Z5:List XA
 parts:List Part
 Z3:bd
 env:Envelope
def State.cs(x:State):bi:=[.sl<|x.ZJ.map Rec.cs,.sl<|x.Z5.map XA.cs,.sl<|x.parts.map Part.cs,.sl<|x.Z3.map λn=>[bv n],bv x.env.parts,bv x.env.trim,.sl<|x.env.rows.map λl=>[.sl<|l.map Range.cs]]
structure Z6 where
 XR:Net
 plan:Zf
 ZF:List (Rec×Int)
 Z5:List (XA×Int)
 parts:List (Part×bd)
 Z3:bc
 env:Envelope
 YX:Bool
 entries:Int
 time:Int
abbrev Hd:=Option<|Nat×Nat
def Hd.v(q:Hd)(n:Nat):Value:=match q with
 |none=>.slice none 0 0
 |some q=>.slice (some ⟨q.1,0,none⟩) n q.2
abbrev pV(b:Nat):Value:=.pointer<|some ⟨b,0,none⟩
structure Qc where
 b:Nat
 r:Rec
 entry:Int
def Qc.cs(v:Qc):bi:=[.str v.r.name,bv v.r.YD,.sl<|v.r.phases.map Ph.cs,bv v.entry]
structure VP where
 b:Nat
 c:XA
 entry:Int
def VP.cs(v:VP):bi:=[.str v.c.name,bv v.c.Wb,bv v.c.ZA,bv v.entry]
structure ZN where
 b:Nat
 fh:Hd
 eh:Hd
 p:Part
 es:bd
def ZN.cs(v:ZN):bi:=v.p.cells (.raw<|v.fh.v<|R v.p.frames)++[.raw<|v.eh.v<|R v.es]
structure HA where
 b:Nat
 XR:Net
 plan:Zf
 vh:Hd
 ZF:List Qc
 ch:Hd
 Z5:List VP
 ph:Hd
 parts:List ZN
 mh:Hd
 Z3:bc
 env:Envelope
 YX:Bool
 entries:Int
 time:Int
def HA.cs(A:HA):bi:=A.XR.cs++A.plan.cs++[.raw<|A.vh.v<|R A.ZF,.raw<|A.ch.v<|R A.Z5,.raw<|A.ph.v<|R A.parts,.raw<|A.mh.v<|R A.Z3,bv A.env.parts,bv A.env.trim,.sl<|A.env.rows.map λl=>[.sl<|l.map Range.cs],.bool A.YX,bv A.entries,bv A.time]
inductive Key where
 |Y1
 |vs
 |cs
 |ps
 |ms
 |v (i:Nat)
 |c (i:Nat)
 |p (i:Nat)
 |f (i:Nat)
 |e (i:Nat)
 deriving DecidableEq
def HA.pb(A:HA)(i:Nat):Nat:=(A.parts[i]?.map ZN.b).getD 0
def P6(v:Qc):bi:=[.raw<|pV v.b]
def Lg(v:VP):bi:=[.raw<|pV v.b]
def Su(v:ZN):bi:=[.raw<|pV v.b]
def HA.mem(A:HA):HM Key
 |.Y1=>some (A.b,.box A.cs)
 |.vs=>A.vh.map λq=>(q.1,.Te 1 q.2<|A.ZF.map P6)
 |.cs=>A.ch.map λq=>(q.1,.Te 1 q.2<|A.Z5.map Lg)
 |.ps=>A.ph.map λq=>(q.1,.Te 1 q.2<|A.parts.map Su)
 |.ms=>A.mh.map λq=>(q.1,.Te 1 q.2<|A.Z3.map λi=>[.raw<|pV<|A.pb i])
 |.v i=>A.ZF[i]?.map λv=>(v.b,.box v.cs)
 |.c i=>A.Z5[i]?.map λv=>(v.b,.box v.cs)
 |.p i=>A.parts[i]?.map λv=>(v.b,.box v.cs)
 |.f i=>A.parts[i]?.bind λv=>v.fh.map λq=>(q.1,.Te 2 q.2<|v.p.frames.map Frame.cs)
 |.e i=>A.parts[i]?.bind λv=>v.eh.map λq=>(q.1,.row 1 q.2<|Ye v.es)
def HA.plain(A:HA):Z6:=⟨A.XR,A.plan,A.ZF.map λv=>(v.r,v.entry),A.Z5.map λv=>(v.c,v.entry),A.parts.map λv=>(v.p,v.es),A.Z3,A.env,A.YX,A.entries,A.time⟩
structure HA.Ok(A:HA)(m:Int):Prop where
 vh:A.vh=none->A.ZF=[]
 ch:A.ch=none->A.Z5=[]
 ph:A.ph=none->A.parts=[]
 mh:A.mh=none->A.Z3=[]
 fh:∀v∈A.parts,v.fh=none->v.p.frames=[]
 eh:∀v∈A.parts,v.eh=none->v.es=[]
 m0:0<=m/\m<=1000
 en:0<=A.entries/\A.entries<=60
 lv:(A.ZF.length:Int)<=m
 lc:(A.Z5.length:Int)<=m
 lp:(A.parts.length:Int)<=m
 lm:(A.Z3.length:Int)<=m
 lf:∀v∈A.parts,(v.p.frames.length:Int)<=m
 le:∀v∈A.parts,(v.es.length:Int)<=m+3
 mi:∀i∈A.Z3,i<A.parts.length
 cl:∀v∈A.Z5,0<=v.c.ZA/\v.c.ZA<=1000/\v.c.Wb<=1000
 vb:∀v∈A.ZF,0<=v.r.YD/\v.r.YD<=m
 pl:∀v∈A.parts,0<=v.p.place/\v.p.place<=4
 nl:∀v∈A.parts,v.p.Yr.length<=12/\v.p.Yb.length<=12
 vn:∀v∈A.ZF,v.r.name.length<=12
 cn:∀v∈A.Z5,v.c.name.length<=12
variable{A:HA}{m:Int}
def HA.Ok.more{m':Int}(h:A.Ok m)(c:m<=m')(b:m'<=1000):A.Ok m':=
 ⟨h.vh,h.ch,h.ph,h.mh,h.fh,h.eh,⟨by have:=h.m0;omega,b⟩,h.en,by have:=h.lv;omega,by have:=h.lc;omega,by have:=h.lp;omega,by have:=h.lm;omega,λv a=>by have:=h.lf v a;omega,λv a=>by have:=h.le v a;omega,h.mi,h.cl,λv a=>by have:=h.vb v a;omega,h.pl,h.nl,h.vn,h.cn⟩
def JX(b:Nat)(H:Z6)(m:Int):bm:=λh Y w=>∃A:HA,(A.b=b/\A.plain=H/\A.Ok m)/\Z9 A.mem h Y w
def JX.ZV(b:Nat)(H:Z6)(m:Int):Y2<|JX b H m:=Y2.ex λ_=>Z9.ZV _
def JP(A:HA)(H:Z6)(m:Int):bm:=λh Y w=>∃a:HA,(a.Ok m/\a.b=A.b/\a.pb=A.pb/\R a.parts=R A.parts/\a.plain=H)/\Z9 a.mem h Y w
def JP.ZV(A:HA)(H:Z6)(m:Int):Y2<|JP A H m:=Y2.ex λ_=>Z9.ZV _
def OK.rV{E:Env}{U:bc}{s:St}{qf:Code}{Q:bo}{b:Nat}{H:Z6}(c:Ab.look s 3000=some (.res<|JX b H m))(h:∀A:HA,A.b=b->A.plain=H->A.Ok m->OK E qf Q U ((3000,.res<|Z9 A.mem)::s)):OK E qf Q U s:=
 OK.qy (J:=λA:HA=>Z9 A.mem) c (λ_=>Z9.ZV _) λA a=>h A a.1 a.2.1 a.2.2
def OK.fc{E:Env}{U:bc}{s:St}{qf:Code}{Q:bo}{c:HA}{H:Z6}(d:Ab.look s 3000=some (.res<|JP c H m))(h:∀A:HA,A.Ok m->A.b=c.b->A.pb=c.pb->R A.parts=R c.parts->A.plain=H->OK E qf Q U ((3000,.res<|Z9 A.mem)::s)):OK E qf Q U s:=
 OK.qy (J:=λA:HA=>Z9 A.mem) d (λ_=>Z9.ZV _) λA a=>h A a.1 a.2.1 a.2.2.1 a.2.2.2.1 a.2.2.2.2
variable{M:HM Key}
def HT{k:Key}{q:Hd}{n sz:Nat}{vi:List bi}(a:M k=q.map λq=>(q.1,.Te sz q.2 vi))(b:R vi=n)(h0:q=none->vi=[]):Vk M k (q.v n) sz vi:=by
 subst b;cases q with
 |none=>rw[h0 rfl];exact .inl ⟨rfl,rfl,a⟩
 |some q=>exact .inr ⟨q.1,q.2,rfl,a⟩
def cM{k:Key}{q:Hd}{n sz:Nat}{vi:List bi}(a:M k=q.map λq=>(q.1,.row sz q.2 vi))(b:R vi=n)(h0:q=none->vi=[]):TL M k (q.v n) sz vi:=by
 subst b;cases q with
 |none=>rw[h0 rfl];exact .inl ⟨rfl,rfl,a⟩
 |some q=>exact .inr ⟨q.1,q.2,rfl,a⟩
section
variable{m:Int}
def HA.Ok.vs(h:A.Ok m):Vk A.mem .vs (A.vh.v<|R A.ZF) 1<|A.ZF.map P6:=HT rfl (Zx ..) λe=>by rw[h.vh e];rfl
def HA.Ok.cs(h:A.Ok m):Vk A.mem .cs (A.ch.v<|R A.Z5) 1<|A.Z5.map Lg:=HT rfl (Zx ..) λe=>by rw[h.ch e];rfl
def HA.Ok.ps(h:A.Ok m):Vk A.mem .ps (A.ph.v<|R A.parts) 1<|A.parts.map Su:=HT rfl (Zx ..) λe=>by rw[h.ph e];rfl
def HA.Ok.ms(h:A.Ok m):Vk A.mem .ms (A.mh.v<|R A.Z3) 1<|A.Z3.map λi=>[.raw<|pV<|A.pb i]:=HT rfl (Zx ..) λe=>by rw[h.mh e];rfl
def HA.dL(hi:i<R A.Z5):A.mem (.c i)=some (A.Z5[i].b,.box A.Z5[i].cs):=by show(A.Z5[i]?.map _)=_;simp_all
def HA.Oh(hi:i<R A.parts):A.mem (.p i)=some (A.parts[i].b,.box A.parts[i].cs):=by show(A.parts[i]?.map _)=_;simp_all
end
variable{q:Nat×Nat}{v:ZN}
abbrev Sub(M M':HM Key):Prop:=∀k p,M k=some p->M' k=some p
theorem MW{β:Type}(f:α->β){l:List α}{x:α}(hi:i<R l)(h:f x=f l[i]):(l.set i x).map f=l.map f:=by
 rw[bτ,h];refine P2 λj=>?_
 grind
def HA.Qm(A:HA)(j:Nat)(v:VP):HA:={A with Z5:=A.Z5.set j v}
theorem HA.qQ{j:Nat}(d:j<R A.Z5){v:VP}(f:v.b=A.Z5[j].b):Sub (A.Qm j v).mem<|A.mem.set (.c j)<|some (v.b,.box v.cs):=by
 intro k p a;cases k with
 |c i=>
  by_cases e:i=j
  ·subst e;rw[HM.YW,←a];show _=(A.Z5.set i v)[i]?.map _;simp_all
  rw[HM.Z0 _ _ λh=>e<|Key.c.inj h,←a];show(A.Z5[i]?.map _)=((A.Z5.set j v)[i]?.map _);grind
 |cs=>
  rw[HM.Z0 _ _ Z,←a];show A.ch.map _=A.ch.map _;congr 1;funext q;show(q.1,HK.Te 1 q.2<|A.Z5.map Lg)=(q.1,HK.Te 1 q.2<|(A.Z5.set j v).map Lg);rw[MW Lg d<|by show [X.raw<|pV v.b]=_;rw[f];rfl]
 |Y1=>
  rw[HM.Z0 _ _ Z,←a];show some (A.b,HK.box A.cs)=some (A.b,HK.box (A.Qm j v).cs);simp only[HA.cs,HA.Qm,wi]
 |_=>rw[HM.Z0 _ _ Z,←a];rfl
def HA.Zh(A:HA)(i:Nat)(v:ZN):HA:={A with parts:=A.parts.set i v}
theorem HA.xx(hi:i<R A.parts)(a:v.b=A.parts[i].b):(A.Zh i v).pb=A.pb:=by
 funext j;show((A.parts.set i v)[j]?.map ZN.b).getD 0=(A.parts[j]?.map ZN.b).getD 0;grind
theorem HA.qR(hi:i<R A.parts)(g:v.b=A.parts[i].b)(l:M (.p i)=some (v.b,.box v.cs))(n:M (.f i)=v.fh.map λq=>(q.1,.Te 2 q.2<|v.p.frames.map Frame.cs))(o:M (.e i)=v.eh.map λq=>(q.1,.row 1 q.2<|Ye v.es))
  (c:∀k,k≠.p i->k≠.f i->k≠.e i->M k=A.mem k):Sub (A.Zh i v).mem M:=by
 have r:(A.parts.set i v)[i]?=some v:=List.getElem?_set_self hi;have d:∀j,j≠i->(A.parts.set i v)[j]?=A.parts[j]?:=λj e=>List.getElem?_set_ne λh=>e h.symm
 intro k p a;cases k with
 |p j=>
  by_cases e:j=i
  ·subst e;rw[l,←a];show _=(A.parts.set j v)[j]?.map _;grind
  rw[c _ (λh=>e<|Key.p.inj h) Z Z,←a];show A.parts[j]?.map _=(A.parts.set i v)[j]?.map _;rw[d j e]
 |f j=>
  by_cases e:j=i
  ·subst e;rw[n,←a];show _=(A.parts.set j v)[j]?.bind _;grind
  rw[c _ Z (λh=>e<|Key.f.inj h) Z,←a];show A.parts[j]?.bind _=(A.parts.set i v)[j]?.bind _;rw[d j e]
 |e j=>
  by_cases e:j=i
  ·subst e;rw[o,←a];show _=(A.parts.set j v)[j]?.bind _;grind
  rw[c _ Z Z λh=>e<|Key.e.inj h,←a];show A.parts[j]?.bind _=(A.parts.set i v)[j]?.bind _;rw[d j e]
 |ps=>
  rw[c _ Z Z Z,←a];show A.ph.map _=A.ph.map _;congr 1;funext q;show(q.1,HK.Te 1 q.2<|A.parts.map Su)=(q.1,HK.Te 1 q.2<|(A.parts.set i v).map Su);rw[MW Su hi<|by show [X.raw<|pV v.b]=_;rw[g];rfl]
 |ms=>
  rw[c _ Z Z Z,←a];show A.mh.map _=A.mh.map _;congr 1;funext q;show(q.1,HK.Te 1 q.2<|A.Z3.map λi=>[X.raw<|pV<|A.pb i])=(q.1,HK.Te 1 q.2<|A.Z3.map λj=>[X.raw<|pV<|(A.Zh i v).pb j]);rw[A.xx hi g]
 |Y1=>
  rw[c _ Z Z Z,←a];show some (A.b,HK.box A.cs)=some (A.b,HK.box (A.Zh i v).cs);simp only[HA.cs,HA.Zh,wi]
 |_=>rw[c _ Z Z Z,←a];rfl
def HA.tA{a:HA}(d:a.b=A.b)(h:a.vh=A.vh/\a.ZF=A.ZF)(g:a.ch=A.ch/\a.Z5=A.Z5)(f:a.ph=A.ph/\a.parts=A.parts)(e:a.mh=A.mh/\a.Z3=A.Z3):Sub a.mem<|A.mem.set .Y1<|some (A.b,.box a.cs):=by
 obtain⟨b,XR,plan,vh,ZF,ch,Z5,ph,parts,mh,Z3,env,YX,entries,time⟩:=a;obtain⟨rfl,rfl⟩:=h;obtain⟨rfl,rfl⟩:=g;obtain⟨rfl,rfl⟩:=f;obtain⟨rfl,rfl⟩:=e;cases d;intro k p c;cases k with
 |Y1=>rw[HM.YW,←c];rfl
 |_=>rw[HM.Z0 _ _ Z,←c];rfl
def HA.Ec(A:HA)(v:VP)(q:Nat×Nat):HA:={A with Z5:=A.Z5++[v],ch:=some q}
theorem HA.oA{v:VP}:Sub (A.Ec v q).mem<|((A.mem.set (.c<|R A.Z5)<|some (v.b,.box v.cs)).set .cs<|some (q.1,.Te 1 q.2<|A.Z5.map Lg++[[.raw<|pV v.b]])).set .Y1<|some (A.b,.box (A.Ec v q).cs):=by
 intro k p a;cases k with
 |Y1=>rw[HM.YW,←a];rfl
 |cs=>
  rw[HM.Z0 _ _ Z,HM.YW,←a];show _=some (q.1,HK.Te 1 q.2<|(A.Z5++[v]).map Lg);rw[ne];rfl
 |c i=>
  rw[HM.Z0 _ _ Z,HM.Z0 _ _ Z];by_cases e:i=R A.Z5
  ·subst e;rw[HM.YW,←a];show _=(A.Z5++[v])[R A.Z5]?.map _;simp
  rw[HM.Z0 _ _ λh=>e<|Key.c.inj h,←a];show A.Z5[i]?.map _=(A.Z5++[v])[i]?.map _;grind
 |_=>rw[HM.Z0 _ _ Z,HM.Z0 _ _ Z,HM.Z0 _ _ Z,←a];rfl
def HA.Ef(A:HA)(v:Qc)(q:Nat×Nat):HA:={A with ZF:=A.ZF++[v],vh:=some q}
theorem HA.oI{v:Qc}:Sub (A.Ef v q).mem<|((A.mem.set (.v<|R A.ZF)<|some (v.b,.box v.cs)).set .vs<|some (q.1,.Te 1 q.2<|A.ZF.map P6++[[.raw<|pV v.b]])).set .Y1<|some (A.b,.box (A.Ef v q).cs):=by
 intro k p a;cases k with
 |Y1=>rw[HM.YW,←a];rfl
 |vs=>
  rw[HM.Z0 _ _ Z,HM.YW,←a];show _=some (q.1,HK.Te 1 q.2<|(A.ZF++[v]).map P6);rw[ne];rfl
 |v i=>
  rw[HM.Z0 _ _ Z,HM.Z0 _ _ Z];by_cases e:i=R A.ZF
  ·subst e;rw[HM.YW,←a];show _=(A.ZF++[_])[R A.ZF]?.map _;simp
  rw[HM.Z0 _ _ λh=>e<|Key.v.inj h,←a];show A.ZF[i]?.map _=(A.ZF++[_])[i]?.map _;grind
 |_=>rw[HM.Z0 _ _ Z,HM.Z0 _ _ Z,HM.Z0 _ _ Z,←a];rfl
def HA.GJ(A:HA)(i:Nat)(q:Nat×Nat):HA:={A with Z3:=A.Z3++[i],mh:=some q}
def HA.oC:Sub (A.GJ i q).mem<|(A.mem.set .ms<|some (q.1,.Te 1 q.2 ((A.Z3.map λi=>[.raw<|pV<|A.pb i])++[[.raw<|pV<|A.pb i]]))).set .Y1<|some (A.b,.box (A.GJ i q).cs):=by
 intro k p a;cases k with
 |Y1=>rw[HM.YW,←a];rfl
 |ms=>
  rw[HM.Z0 _ _ Z,HM.YW,←a];show _=some (q.1,HK.Te 1 q.2<|(A.Z3++[i]).map λj=>[X.raw<|pV<|(A.GJ i q).pb j]);rw[ne];rfl
 |_=>rw[HM.Z0 _ _ Z,HM.Z0 _ _ Z,←a];rfl
def HA.newP(A:HA)(v:ZN)(q:Nat×Nat):HA:={A with parts:=A.parts++[v],ph:=some q}
theorem HA.oG(g:A.Ok m){d:Nat×Nat}(o:v.fh=none)(r:v.eh=some d):Sub (A.newP v q).mem<|(((A.mem.set (.e<|R A.parts)<|some (d.1,.row 1 d.2<|Ye v.es)).set (.p<|R A.parts)<|some (v.b,.box v.cs)).set .ps<|some (q.1,.Te 1 q.2<|A.parts.map Su++[[.raw<|pV v.b]])).set .Y1<|some (A.b,.box (A.newP v q).cs):=by
 have c:∀i,i≠R A.parts->(A.parts++[v])[i]?=A.parts[i]?:=by
  grind
 have n:(A.parts++[v])[R A.parts]?=some v:=F
 intro k p a;cases k with
 |Y1=>rw[HM.YW,←a];rfl
 |ps=>
  rw[HM.Z0 _ _ Z,HM.YW,←a];show _=some (q.1,HK.Te 1 q.2<|(A.parts++[v]).map Su);rw[ne];rfl
 |p i=>
  rw[HM.Z0 _ _ Z,HM.Z0 _ _ Z];by_cases e:i=R A.parts
  ·subst e;rw[HM.YW,←a];show _=(A.parts++[v])[R A.parts]?.map _;simp
  rw[HM.Z0 _ _ λh=>e<|Key.p.inj h,HM.Z0 _ _ Z,←a];show A.parts[i]?.map _=(A.parts++[v])[i]?.map _;rw[c i e]
 |e i=>
  rw[HM.Z0 _ _ Z,HM.Z0 _ _ Z,HM.Z0 _ _ Z];by_cases e:i=R A.parts
  ·subst e;rw[HM.YW,←a];show _=(A.parts++[v])[R A.parts]?.bind _;simp_all
  rw[HM.Z0 _ _ λh=>e<|Key.e.inj h,←a];show A.parts[i]?.bind _=(A.parts++[v])[i]?.bind _;rw[c i e]
 |f i=>
  rw[HM.Z0 _ _ Z,HM.Z0 _ _ Z,HM.Z0 _ _ Z,HM.Z0 _ _ Z,←a];show A.parts[i]?.bind _=(A.parts++[v])[i]?.bind _;grind
 |ms=>
  rw[HM.Z0 _ _ Z,HM.Z0 _ _ Z,HM.Z0 _ _ Z,HM.Z0 _ _ Z,←a];show A.mh.map _=A.mh.map _;congr 1;funext q';show(q'.1,HK.Te 1 q'.2<|A.Z3.map λi=>[X.raw<|pV<|A.pb i])=(q'.1,HK.Te 1 q'.2<|A.Z3.map λj=>[X.raw<|pV<|(A.newP v q).pb j]);congr 2;refine aβ λj l=>?_
  show [X.raw<|pV<|(A.parts[j]?.map ZN.b).getD 0]=[X.raw<|pV<|((A.parts++[v])[j]?.map ZN.b).getD 0];rw[c j<|by have:=g.mi j l;omega]
 |_=>rw[HM.Z0 _ _ Z,HM.Z0 _ _ Z,HM.Z0 _ _ Z,HM.Z0 _ _ Z,←a];rfl
def UQ{α:Type}(g:Nat->α->Bool):Nat->List α->Bool
 |_,[]=>true
 |i,x::l=>g i x&&UQ g (i+1) l
def Hr(g:Nat->α->Bool){l:List α}(h:i<R l):UQ g i (l.drop i)=(g i l[i]&&UQ g (i+1) (l.drop<|i+1)):=by
 rw[np h,UQ]
def X3(i:Nat)(c:UInt8):Bool:=
 decide (97<=(c.toNat:Int)/\(c.toNat:Int)<=122)||decide (65<=(c.toNat:Int)/\(c.toNat:Int)<=90)||(decide ((i:Int)≠0)&&(decide ((c.toNat:Int)=45)||decide (48<=(c.toNat:Int)/\(c.toNat:Int)<=57)))
def YA(s:ba):Bool:=UQ X3 0 s&&decide (1<=(R s:Int)/\(R s:Int)<=12)
theorem N5(b:UInt8): -9223372036854775808<=(b.toNat:Int)/\(b.toNat:Int)<=9223372036854775807:=by
 grind [UInt8.toNat_lt]
variable{s:ba}
def KS(h:i<R s)(a:UQ X3 0 s=UQ X3 i (s.drop i))(b:X3 i s[i]=true):UQ X3 0 s=UQ X3 (i+1) (s.drop<|i+1):=by
 rw[a,Hr _ h,b,tn]
def KR(h:i<R s)(a:UQ X3 0 s=UQ X3 i (s.drop i))(b:X3 i s[i]=false):X.bool false=X.bool (YA s):=by
 simp_all[YA,Hr]
def QI(l:List ba)(s:ba):Bool:=l.any λx=>decide<|s=x
def XT(l:List ba)(i:Nat)(s:ba):Int:=if YA s=false then 4 else if QI (l.take i) s=true then 5 else 0
def UH(p:Zf):Int×Int:=
 if R p.ZY=0 then(0,10)else if 4<R p.ZY then(0,8)else
 if(ZP (XT p.ZY) 0 p.ZY).2≠0 then ZP (XT p.ZY) 0 p.ZY else(0,if 1<=p.ticks/\p.ticks<=12 then 0 else 2)
def isVal(n:Int):Bool:=decide<|-1000000<=n/\n<=1000000
def Xt(p:Zf)(l:bd):Int:=if R l≠R p.ZY then 10 else if l.all isVal=true then 0 else 2
def UJ(p:Zf)(r:Row):Int:=if r.known=true then Xt p r.values else if R r.values=0 then 0 else 3
def Vv(p:Zf)(r:ZG):Int×Int:=if(R r.rows:Int)≠p.ticks then(0,10)else ZP (λ_ x=>UJ p x) 0 r.rows
def Mj(g:α->Bool){l:List α}(h:i<R l):(l.drop i).any g=(g l[i]||(l.drop<|i+1).any g):=by
 rw[np h,List.any_cons]
def yU:Ct prog 130 [.str s]<|.bool<|YA s:=by
 refine cI func130 O<|OK.Gz (t:=0) (z:=s) O O λqk=>?_;unfold maxLen at qk;refine ro 9 O<|RK.c (S.bytes underlying9 underlying182 underlying5 .none O<|zt O)<|kc (zk si182 O)<|rr 4 O ?_;refine OK.loop (G:=Nat) [] (λi=>[(0,.str s),(7,.sl<|s.map λb=>[.int .u8 b.toNat]),(8,bv<|R s),(9,bv i)]) (λi=>i<=R s/\UQ X3 0 s=UQ X3 i (s.drop i)) (λi=>R s - i) 0 ⟨Zr _,O⟩ ⟨O,O,O,O,Zo⟩ (λ_=>O) ?_;rintro i ⟨hi,a⟩;refine ro 6 O<|kB O (λj=>?_) λj=>?_
 ·refine ro 7 O<|kc (zI si182 O I O) ?_;refine rr 8 O ?_;refine kc (S.conv .none O (zt O) underlying5 underlying3 (mn _<|N5 _)<|mn _<|N5 _)<|kc (zK Ws call76 O)<|jm O<|RK.ZS (t:=17) O (λg=>?_) λg=>?_
  ·refine rr 10 O (kc (S.not .none O<|zt O)<|Rr 24 O I<|Ab.D.lp ⟨i+1,⟨by omega,?_⟩,I,O,O,O,O,Zo⟩);exact KS I a (by simp only[X3,ti,Zw,aζ];omega)
  refine kc (S.move (zg O O) O<|zt O)<|kc (S.conv (zg O O) O (zt O) underlying5 underlying3 (mn _<|N5 _)<|mn _<|N5 _)<|kc (S.call Ws call76 (zg O O) O (zc O<|zC O<|zD O) O) ?_;refine rr 7 O<|kc (S.Xb .none O<|zt O)<|jm O<|RK.ZS (t:=24) O (λf=>?_) λf=>?_
  ·refine rr 3 O<|RK.ZS (t:=27) O (λe=>?_) λe=>?_
   ·refine rr 18 O<|kR O O ?_;exact KR I a (by simp only[X3,wa,a8,ul];omega)
   refine rr 3 O<|RK.ZS (t:=30) O (λd=>?_) λd=>?_
   ·refine kc (S.move (zg O O) O<|zt O)<|kc (S.conv (zg O O) O (zt O) underlying5 underlying3 (mn _<|N5 _)<|mn _<|N5 _)<|kc (S.call Ws call76 (zg O O) O (zc O<|zC O<|zD O) O)<|kc (S.Xb (zg O O) O<|zt O) ?_;refine rr 5 O<|kB O (λh=>?_) λh=>?_
    ·refine ro 5 O<|kR O O ?_;exact KR I a (by simp only[X3,wa,a8,ul];omega)
    refine Ro 7 O I (Ab.D.lp ⟨i+1,⟨by omega,?_⟩,I,O,O,O,O,Zo⟩);exact KS I a (by simp only[X3,ti,Zw,aζ];omega)
   refine Rr 17 O I (Ab.D.lp ⟨i+1,⟨by omega,?_⟩,I,O,O,O,O,Zo⟩);exact KS I a (by simp only[X3,ti,Zw,aζ];omega)
  refine Rr 23 O I (Ab.D.lp ⟨i+1,⟨by omega,?_⟩,I,O,O,O,O,Zo⟩);exact KS I a (by simp only[X3,ti,Zw,aζ];omega)
 refine ro 6 O<|kc (zK Ws call76 O)<|rr 3 O<|kR O O ?_;have:i=R s:=by omega
 subst this;rw[da,UQ]at a;rw[YA,a,tn]
def R8:Ct prog 97 [.str s]<|.bool<|YA s:=by
 refine cI func97 O<|OK.Gz (t:=0) (z:=s) O O λqk=>?_;unfold maxLen at qk;refine ro 12 O<|RK.ZS (t:=9) O (λu=>?_) λu=>?_
 ·refine rr 12 O (kR O O ?_)
  first|(exact KR I a<|by simp only[X3,wa,a8,ul];omega)|(refine Xj ?_;rw[YA];rw[Zy I,bυ])
 refine rr 6 O<|kB O (λp=>?_) λp=>?_
 ·refine ro 5 O (kR O O ?_)
  first|(exact KR I a<|by simp only[X3,wa,a8,ul];omega)|(refine Xj ?_;rw[YA];rw[Zy I,bυ])
 refine ro 9 O ?_;refine OK.loop (G:=Nat) [] (λi=>[(0,.str s),(3,bv i)]) (λi=>i<=R s/\UQ X3 0 s=UQ X3 i (s.drop i)) (λi=>R s - i) 0 ⟨Zr _,O⟩ ⟨O,O,Zo⟩ (λ_=>O) ?_;rintro i ⟨hi,a⟩;refine ro 9 O<|kB O (λo=>?_) λo=>?_
 ·have r:i<R s:=by omega
  refine ro 8 O<|kc (S.Xc W6 .none O (zt O) (zt O) O I) ?_;refine rr 3 O ?_;refine OK.join (G:=Bool) [] (λb=>[(0,.str s),(3,bv i),(4,.int .u8 (s[i].toNat:Int)),(5,.bool b)]) (λb=>(b=true)=((97<=(s[i].toNat:Int)/\(s[i].toNat:Int)<=122)\/(65<=(s[i].toNat:Int)/\(s[i].toNat:Int)<=90))) (λ_=>O) ?_ ?_
  ·refine ro 4 O<|RK.ZS (t:=25) O (λl=>?_) λl=>?_
   ·refine rr 4 O<|RK.ZS (t:=29) O (λk=>?_) λk=>?_
    ·refine rr 9 O (Ab.D.lp ⟨_,?_,O,O,O,O,Zo⟩)
     first|(refine propext ⟨λ_=>?_,λ_=>rfl⟩;omega;done)|(rw[de];exact propext ⟨λh=>by omega,λh=>by omega⟩)|(refine propext ⟨λh=>(by cases h),λh=>?_⟩;exfalso;omega;done)
    refine rr 3 O<|RK.ZS (t:=32) O (λd=>?_) λd=>?_
    ·refine rr 6 O (Ab.D.lp ⟨_,?_,O,O,O,O,Zo⟩)
     first|(refine propext ⟨λ_=>?_,λ_=>rfl⟩;omega;done)|(rw[de];exact propext ⟨λh=>by omega,λh=>by omega⟩)|(refine propext ⟨λh=>(by cases h),λh=>?_⟩;exfalso;omega;done)
    refine rr 6 O (Ab.D.lp ⟨_,?_,O,O,O,O,Zo⟩)
    first|(refine propext ⟨λ_=>?_,λ_=>rfl⟩;omega;done)|(rw[de];exact propext ⟨λh=>by omega,λh=>by omega⟩)|(refine propext ⟨λh=>(by cases h),λh=>?_⟩;exfalso;omega;done)
   refine rr 7 O<|RK.ZS (t:=32) O (λd=>?_) λd=>?_
   ·refine rr 6 O (Ab.D.lp ⟨_,?_,O,O,O,O,Zo⟩)
    first|(refine propext ⟨λ_=>?_,λ_=>rfl⟩;omega;done)|(rw[de];exact propext ⟨λh=>by omega,λh=>by omega⟩)|(refine propext ⟨λh=>(by cases h),λh=>?_⟩;exfalso;omega;done)
   refine rr 6 O (Ab.D.lp ⟨_,?_,O,O,O,O,Zo⟩)
   first|(refine propext ⟨λ_=>?_,λ_=>rfl⟩;omega;done)|(rw[de];exact propext ⟨λh=>by omega,λh=>by omega⟩)|(refine propext ⟨λh=>(by cases h),λh=>?_⟩;exfalso;omega;done)
  rintro b q;refine ro 3 O<|kc (S.not .none O<|zt O)<|jm O<|RK.split (t:=39) O (λc=>?_) λc=>?_
  ·have e:¬((97<=(s[i].toNat:Int)/\(s[i].toNat:Int)<=122)\/(65<=(s[i].toNat:Int)/\(s[i].toNat:Int)<=90)):=by
    rw[←q];simpa using c
   refine rr 3 O<|RK.ZS (t:=42) O (λj=>?_) λj=>?_
   ·refine rr 20 O (kR O O ?_)
    first|(exact KR I a<|by simp only[X3,wa,a8,ul];omega)|(refine Xj ?_;rw[YA];rw[Zy I,bυ])
   refine rr 3 O<|RK.ZS (t:=45) O (λg=>?_) λg=>?_
   ·refine rr 3 O<|RK.ZS (t:=48) O (λf=>?_) λf=>?_
    ·refine rr 14 O (kR O O ?_)
     first|(exact KR I a<|by simp only[X3,wa,a8,ul];omega)|(refine Xj ?_;rw[YA];rw[Zy I,bυ])
    refine rr 8 O<|kB O (λn=>?_) λn=>?_
    ·refine ro 5 O (kR O O ?_)
     first|(exact KR I a<|by simp only[X3,wa,a8,ul];omega)|(refine Xj ?_;rw[YA];rw[Zy I,bυ])
    refine Ro 8 O I (Ab.D.lp ⟨i+1,⟨by omega,?_⟩,I,O,O,Zo⟩);exact KS I a (by simp only[X3,ti,Zw,aζ];omega)
   refine Rr 20 O I (Ab.D.lp ⟨i+1,⟨by omega,?_⟩,I,O,O,Zo⟩);exact KS I a (by simp only[X3,ti,Zw,aζ];omega)
  have e:(97<=(s[i].toNat:Int)/\(s[i].toNat:Int)<=122)\/(65<=(s[i].toNat:Int)/\(s[i].toNat:Int)<=90):=by
   rw[←q];simpa using c
  refine Rr 26 O I (Ab.D.lp ⟨i+1,⟨by omega,?_⟩,I,O,O,Zo⟩);exact KS I a (by simp only[X3,ti,Zw,aζ];omega)
 refine ro 7 O<|kR O O ?_;have:i=R s:=by omega
 subst this;rw[da,UQ]at a;refine Xj ?_;rw[YA,a,tn,Zz I]
def Ml{l:List ba}:Ct prog 41 [texts l,.str s]<|.bool<|QI l s:=by
 refine cI func41 O<|OK.XF (vi:=l.map λs=>[.str s]) (t:=0) O O λqk=>?_;rw[Zx]at qk;unfold maxLen at qk;refine ro 12 O ?_;refine OK.loop (G:=Nat) [] (λi=>[(0,texts l),(1,.str s),(5,bv i)]) (λi=>i<=R l/\QI l s=QI (l.drop i) s) (λi=>R l - i) 0 ⟨Zr _,O⟩ ⟨O,O,O,Zo⟩ (λ_=>O) ?_;rintro i ⟨hi,b⟩;refine ro 5 O<|kc (zk X1 O)<|rr 3 O<|kB O (λc=>?_) λc=>?_
 ·refine ro 8 O<|kc (zI X1 O I O) ?_;refine rr 5 O<|kB O (λa=>?_) λa=>?_
  ·refine ro 5 O<|kR O O ?_;refine Xj ?_;rw[b,QI,Mj _ I,Zz a.symm,cυ]
  refine Ro 8 O I (Ab.D.lp ⟨i+1,⟨by omega,?_⟩,I,O,O,O,Zo⟩);rw[b,QI,Mj _ I,Zy λe=>a e.symm,Bool.false_or];rfl
 refine ro 7 O<|kR O O ?_;have:i=R l:=by omega
 subst this;rw[b,da];rfl
variable{p:Zf}
def om(hi:i<=R p.ZY):Ct prog 129 [bv i,.str s,.Yt p.cs]<|bv<|XT p.ZY i s:=by
 refine cI func129 O<|ro 6 O ?_;refine kV (.c (zm O)<|.c (zK yU call130 O)<|.c (zK Y7 call45 O)<|.c (S.field Gy .none O (zt O) O)<|.c (zV wQ O O)<|.c (zm O)<|.c (S.slice (hi:=i) (l':=p.ZY.take i) X1 (λ_=>O) .none O (zt O) (.inl ⟨O,O,O⟩) (.inr ⟨_,_,O,(zt O),O⟩) (Zr _) hi O)<|.c (zm O)<|.c (zK Mq call131 O)<|.c (S.not .none O<|zt O)<|.c (zK Y7 call45 O)<|.c (zM [[_],[_]] V6 O O O O)<|.c (S.XY (XB (l:=[_,_])) call44 .none O (zc O .nil) (.cons (.p (.own O O) O) .nil) O)<|.c (za O) .nil) ?_;refine Ab.D.code<|kR O O ?_;refine YL ?_;unfold XT QI;cases YA s<;>cases ((p.ZY.take i).any λx=>decide<|s=x)<;>rfl
def VF{α:Type}(g:α->Bool):Nat->List α->Option Nat
 |_,[]=>none
 |i,x::l=>if g x then some i else VF g (i+1) l
abbrev ix{α:Type}(g:α->Bool)(l:List α):Option Nat:=VF g 0 l
def Wf(g:α->Bool){l:List α}(h:i<R l):VF g i (l.drop i)=if g l[i]then some i else VF g (i+1) (l.drop<|i+1):=by
 rw[np h,VF]
theorem FC{α:Type}(g:α->Bool):∀(l:List α)(i j:Nat),VF g i l=some j->i<=j/\∃x,l[j - i]?=some x/\g x=true
 |[],_,_,h=>by cases h
 |x::l,i,j,h=>by
  rw[VF]at h;split at h
  ·simp_all
  obtain⟨c,y,b,a⟩:=FC g l (i+1) j h;grind
theorem Y8{g:α->Bool}{l:List α}{j:Nat}(h:ix g l=some j):∃a:j<R l,g l[j]=true:=by
 obtain⟨_,x,c,b⟩:=FC g l 0 j h;grind
def HA.cb(A:HA)(i:Nat):Nat:=(A.Z5[i]?.map VP.b).getD 0
def HA.vb(A:HA)(i:Nat):Nat:=(A.ZF[i]?.map Qc.b).getD 0
def HA.BO(h:i<R A.parts):A.pb i=A.parts[i].b:=by rw[HA.pb,Zv h];rfl
def HA.lV(h:i<R A.Z5):A.cb i=A.Z5[i].b:=by rw[HA.cb,Zv h];rfl
def HA.vb_at(h:i<R A.ZF):A.vb i=A.ZF[i].b:=by rw[HA.vb,Zv h];rfl
def Iw(f:Nat->Nat)(o:Option Nat):Value:=.pointer<|o.map λj=>⟨f j,0,none⟩
def qB{f:Nat->Nat}{b:Nat}{o:Option Nat}(h:o=some i)(a:f i=b):X.raw (pV b)=X.raw (Iw f o):=by subst h;subst a;rfl
def xd{f:Nat->Nat}{o:Option Nat}(h:o=none):X.raw (.pointer none)=X.raw (Iw f o):=by subst h;rfl
def Yu(p:Part):Bool:=decide (p.place=0)||decide (p.place=1)
def Pm(p:Part):Bool:=decide (p.place=1)&&p.WD&&decide (p.verdict=0)&&!p.marked
def XL{lo hi:Int}:Ct prog 107 [bv n,bv lo,bv hi]<|.bool<|decide<|lo<=n/\n<=hi:=by
 refine cI func107 O<|ro 11 O<|RK.ZS (t:=10) O (λa=>?_) λa=>?_
 ·refine rr 7 O<|kR O O ?_;simp[*]
 refine rr 7 O<|kR O O ?_;simp[*]
variable{e:Int}
def ZT{ok:Bool}:Ct prog 68 [.bool ok,bv e]<|bv<|Z8 ok e:=by
 refine cI func68 O<|ro 11 O<|OK.cond O O (λa=>?_) λa=>?_
 ·refine ro 5 O<|kR O O ?_;simp[Z8, *]
 refine ro 8 O<|kR O O ?_;simp[Z8, *]
def YI:Ct prog 67 [ints l]<|bv<|ZW l:=by
 refine cI func67 O<|OK.XF (vi:=l.map λn=>[bv n]) (t:=0) O O λqk=>?_;rw[Zx]at qk;unfold maxLen at qk;refine ro 9 O<|kc (zk EU O)<|rr 4 O ?_;refine OK.loop (G:=Nat) [] (λi=>[(5,ints l),(6,bv<|R l),(7,bv i)]) (λi=>i<=R l/\ZW l=ZW (l.drop i)) (λi=>R l - i) 0 ⟨Zr _,O⟩ ⟨O,O,O,Zo⟩ (λ_=>O) ?_;rintro i ⟨hi,a⟩;refine ro 6 O<|kB O (λc=>?_) λc=>?_
 ·refine ro 6 O<|kc (zI EU O I O) ?_;refine rr 10 O<|kB O (λb=>?_) λb=>?_
  ·refine ro 6 O<|kR O O ?_;rw[a,Wy I];simp_all
  refine Ro 7 O I (Ab.D.lp ⟨i+1,⟨by omega,?_⟩,I,O,O,O,Zo⟩);rw[a,Wy I];simp_all
 refine ro 7 O<|kR O O ?_;have:i=R l:=by omega
 subst this;rw[a,da];rfl
def B9{c:UInt8}:Ct prog 164 [bv i,.int .u8 (c.toNat:Int)]<|.bool<|!X3 i c:=by
 refine cI func164 O λ{_ _}=>?_
 have g:=N5 c;refine ro 8 O ?_;refine kc (S.conv .none O (zt O) underlying5 underlying3 (mn _ I)<|mn _ I)<|kc (zK XL call107 O)<|jm O<|RK.ZS (t:=9) O (λf=>?_) λf=>?_
 ·refine rr 10 O<|kc (S.not .none O<|zt O)<|rr 17 O<|kR O O ?_;refine Xj ?_;cases a:X3 i c<;>simp only[X3,ti,Zw,wa,a8,de,ul]at a<;>simp<;>omega
 refine kc (S.move (zg O O) O<|zt O)<|kc (S.conv (zg O O) O (zt O) underlying5 underlying3 (mn _ I)<|mn _ I)<|kc (S.call XL call107 (zg O O) O (zc O<|zC O<|zD O) O) ?_;refine rr 7 O<|kc (S.Xb .none O<|zt O)<|jm O<|RK.ZS (t:=16) O (λe=>?_) λe=>?_
 ·refine rr 3 O<|RK.ZS (t:=19) O (λd=>?_) λd=>?_
  ·refine rr 13 O<|kR O O ?_;refine Xj ?_;cases a:X3 i c<;>simp only[X3,ti,Zw,wa,a8,de,ul]at a<;>simp<;>omega
  refine rr 3 O<|RK.ZS (t:=22) O (λb=>?_) λb=>?_
  ·refine kc (S.move (zg O O) O<|zt O)<|kc (S.conv (zg O O) O (zt O) underlying5 underlying3 (mn _ I)<|mn _ I)<|kc (S.call XL call107 (zg O O) O (zc O<|zC O<|zD O) O)<|kc (S.Xb (zg O O) O<|zt O) ?_;refine rr 6 O<|kR O O ?_;refine Xj ?_;cases a:X3 i c<;>simp only[X3,ti,Zw,wa,a8,de,ul]at a<;>simp<;>omega
  refine rr 10 O<|kR O O ?_;refine Xj ?_;cases a:X3 i c<;>simp only[X3,ti,Zw,wa,a8,de,ul]at a<;>simp<;>omega
 refine rr 16 O<|kR O O ?_;refine Xj ?_;cases a:X3 i c<;>simp only[X3,ti,Zw,wa,a8,de,ul]at a<;>simp<;>omega
def QX:Ct prog 106 [.str s]<|.bool<|YA s:=by
 refine cI func106 O<|OK.Gz (t:=0) (z:=s) O O λqk=>?_;unfold maxLen at qk;refine ro 7 O<|kc (S.assign .none O .Nt)<|rr 11 O ?_;refine OK.loop (G:=Nat) [] (λi=>[(0,.str s),(3,.fn 164 []),(6,bv<|R s),(7,bv i)]) (λi=>i<=R s/\UQ X3 0 s=UQ X3 i (s.drop i)) (λi=>R s - i) 0 ⟨Zr _,O⟩ ⟨O,O,O,O,Zo⟩ (λ_=>O) ?_;rintro i ⟨hi,b⟩;refine ro 6 O<|kB O (λe=>?_) λe=>?_
 ·have d:i<R s:=I
  refine ro 16 O<|kc (S.Xc (n:=i) W6 .none O (zt O) (zt O) O I)<|kc (S.Tm (B9 (i:=i) (c:=s[i])) call164 .none O (zt O) (zc O<|zc O .nil) O O O)<|kD<|OK.cond O O (λa=>?_) λa=>?_
  ·refine ro 5 O<|kR O O ?_;exact KR I b (by simpa using a)
  refine Ro 7 O I ?_;refine Ab.D.lp ⟨i+1,⟨I,KS I b<|by simpa using a⟩,I,O,O,O,O,Zo⟩
 refine ro 6 O<|kc (zK XL call107 O)<|rr 3 O<|kR O O ?_;rw[show YA s=decide (1<=(R s:Int)/\(R s:Int)<=12)by rw[YA,b,show i=R s by omega,da];rfl]
variable{J:bm}
def II(a:A.Ok m)(l:Y2 J)(g:∀h Y w,J h Y w->Z9 A.mem h Y w):Vi prog 116 [] [.raw<|pV A.b,.int .i64 n] [(3000,.res J)] [(3000,.res J)]<|.raw<|Iw A.pb<|ix (λv=>decide<|v.p.num=n) A.parts:=by
 refine cG func116 O λ{_ _}=>?_
 have j:=a.m0;have xf:=a.lp;refine kr<|kc (S.assign .none O .Re)<|rr 8 O<|kc (zH (u:=.sl<|A.parts.map Su) QF O<|J_ g<|Z9.Xh (k:=.Y1) O O<|.sl a.ps)<|kc (zk SC O)<|rr 4 O ?_;refine OK.loop (G:=Nat) [] (λi=>[(0,.raw<|pV A.b),(10,.sl<|A.parts.map Su),(11,bv<|R A.parts),(12,bv i),(3000,.res J),(1,bv n)]) (λi=>i<=R A.parts/\ix (λv=>decide<|v.p.num=n) A.parts=VF (λv=>decide<|v.p.num=n) i (A.parts.drop i)) (λi=>R A.parts - i) 0 ⟨Zr _,O⟩ ⟨O,O,O,O,O,O,Zo⟩ (λ_=>O) ?_;rintro i ⟨hi,d⟩;refine ro 6 O<|kB O (λf=>?_) λf=>?_
 ·have c:i<R A.parts:=by omega
  refine ro 6 O<|kc (zI SC O I O) ?_;refine rr 10 O ?_;refine kc (zH YK O<|J_ g<|Z9.Xh (k:=.p i) (HA.Oh c) O<|.same _) ?_;refine rr 4 O<|kB O (λe=>?_) λe=>?_
  ·refine ro 6 O<|OK.ret ⟨Y3.r1 (zo O O) ?_,O,Zo⟩;refine qB (i:=i) ?_<|HA.BO c;rw[d,Wf _ I];simp_all
  refine Ro 7 O I (Ab.D.lp ⟨i+1,⟨by omega,?_⟩,I,O,O,O,O,O,O,Zo⟩);rw[d,Wf _ I];simp_all
 refine ro 4 O<|kc (S.assign .none O .Re)<|kD<|OK.ret ⟨Y3.r1 (zo O O) ?_,O,Zo⟩;refine xd ?_;have:i=R A.parts:=by omega
 subst this;rw[d,da];rfl
def M8(a:A.Ok m){n:ba}(o:Y2 J)(j:∀h Y w,J h Y w->Z9 A.mem h Y w):Vi prog 94 [] [.raw<|pV A.b,.str n] [(3000,.res J)] [(3000,.res J)]<|.raw<|Iw A.cb<|ix (λv=>decide<|v.c.name=n) A.Z5:=by
 refine cG func94 O λ{_ _}=>?_
 have l:=a.m0;have xf:=a.lc;refine kr<|kc (S.assign .none O .Re)<|rr 8 O<|kc (zH (u:=.sl<|A.Z5.map Lg) Al O<|J_ j<|Z9.Xh (k:=.Y1) O O<|.sl a.cs)<|kc (zk vo O)<|rr 4 O ?_;refine OK.loop (G:=Nat) [] (λi=>[(0,.raw<|pV A.b),(10,.sl<|A.Z5.map Lg),(11,bv<|R A.Z5),(12,bv i),(3000,.res J),(1,.str n)]) (λi=>i<=R A.Z5/\ix (λv=>decide<|v.c.name=n) A.Z5=VF (λv=>decide<|v.c.name=n) i (A.Z5.drop i)) (λi=>R A.Z5 - i) 0 ⟨Zr _,O⟩ ⟨O,O,O,O,O,O,Zo⟩ (λ_=>O) ?_;rintro i ⟨hi,e⟩;refine ro 6 O<|kB O (λg=>?_) λg=>?_
 ·have d:i<R A.Z5:=by omega
  refine ro 6 O<|kc (zI vo O I O) ?_;refine rr 10 O ?_;refine kc (zH T6 O<|J_ j<|Z9.Xh (k:=.c i) (HA.dL d) O<|.same _) ?_;refine rr 4 O<|kB O (λf=>?_) λf=>?_
  ·refine ro 6 O<|OK.ret ⟨Y3.r1 (zo O O) ?_,O,Zo⟩;refine qB (i:=i) ?_<|HA.lV d;rw[e,Wf _ I];simp_all
  refine Ro 7 O I (Ab.D.lp ⟨i+1,⟨by omega,?_⟩,I,O,O,O,O,O,O,Zo⟩);rw[e,Wf _ I];simp_all
 refine ro 4 O<|kc (S.assign .none O .Re)<|kD<|OK.ret ⟨Y3.r1 (zo O O) ?_,O,Zo⟩;refine xd ?_;have:i=R A.Z5:=by omega
 subst this;rw[e,da];rfl
def RG(a:A.Ok m)(l:Y2 J)(g:∀h Y w,J h Y w->Z9 A.mem h Y w):Vi prog 211 [] [.raw<|pV A.b] [(3000,.res J)] [(3000,.res J)]<|.raw<|Iw A.pb<|ix (λv=>decide<|v.p.place=0) A.parts:=by
 refine cG func211 O λ{_ _}=>?_
 have j:=a.m0;have xf:=a.lp;refine kr<|kc (S.assign .none O .Re)<|rr 8 O<|kc (zH (u:=.sl<|A.parts.map Su) QF O<|J_ g<|Z9.Xh (k:=.Y1) O O<|.sl a.ps)<|kc (zk SC O)<|rr 4 O ?_;refine OK.loop (G:=Nat) [] (λi=>[(0,.raw<|pV A.b),(8,.sl<|A.parts.map Su),(9,bv<|R A.parts),(10,bv i),(3000,.res J)]) (λi=>i<=R A.parts/\ix (λv=>decide<|v.p.place=0) A.parts=VF (λv=>decide<|v.p.place=0) i (A.parts.drop i)) (λi=>R A.parts - i) 0 ⟨Zr _,O⟩ ⟨O,O,O,O,O,Zo⟩ (λ_=>O) ?_;rintro i ⟨hi,d⟩;refine ro 6 O<|kB O (λf=>?_) λf=>?_
 ·have c:i<R A.parts:=by omega
  refine ro 6 O<|kc (zI SC O I O) ?_;refine rr 10 O ?_;refine kc (zH YK O<|J_ g<|Z9.Xh (k:=.p i) (HA.Oh c) O<|.same _) ?_;refine rr 3 O<|kB O (λe=>?_) λe=>?_
  ·refine ro 6 O<|OK.ret ⟨Y3.r1 (zo O O) ?_,O,Zo⟩;refine qB (i:=i) ?_<|HA.BO c;rw[d,Wf _ I];simp_all
  refine Ro 7 O I (Ab.D.lp ⟨i+1,⟨by omega,?_⟩,I,O,O,O,O,O,Zo⟩);rw[d,Wf _ I];simp_all
 refine ro 4 O<|kc (S.assign .none O .Re)<|kD<|OK.ret ⟨Y3.r1 (zo O O) ?_,O,Zo⟩;refine xd ?_;have:i=R A.parts:=by omega
 subst this;rw[d,da];rfl
theorem QG(a b:Int):ZW [a,b]=if a≠0 then a else b:=by
 grind [ZW]
theorem wE(a b c:Int):ZW [a,b,c]=if a≠0 then a else if b≠0 then b else c:=by
 grind [ZW]
def Uf{p:Prop}[Decidable p](h:p):Z8 (decide p) e=0:=by simp[Z8,h]
theorem U0{p:Prop}[Decidable p](h:¬p):Z8 (decide p) e=e:=by simp[Z8,h]
def FT(h:R p.ZY=0):UH p=(0,10):=by simp[UH,h]
def FU(h:4<R p.ZY):UH p=(0,8):=by
 rw[UH,Zm I,Zn h]
def Tb(h:¬R p.ZY=0)(a:¬4<R p.ZY):
  UH p=if(ZP (XT p.ZY) 0 p.ZY).2≠0 then ZP (XT p.ZY) 0 p.ZY else(0,if 1<=p.ticks/\p.ticks<=12 then 0 else 2):=by
 rw[UH,Zm h,Zm a]
def BR(p:Zf):ZW [Z8 (decide ((R p.ZY:Int)>0)) 10,Z8 (decide ((R p.ZY:Int)<=4)) 8]=if R p.ZY=0 then 10 else if 4<R p.ZY then 8 else 0:=by
 rw[QG];by_cases h:R p.ZY=0
 ·rw[U0 I,Zn h];rfl
 by_cases a:4<R p.ZY
 ·rw[Uf I,U0 I,Zm h,Zn a];rfl
 rw[Uf I,Uf I,Zm h,Zm a];rfl
def BS(c:ZW [Z8 (decide ((R p.ZY:Int)>0)) 10,Z8 (decide ((R p.ZY:Int)<=4)) 8]≠0):
  (0,ZW [Z8 (decide ((R p.ZY:Int)>0)) 10,Z8 (decide ((R p.ZY:Int)<=4)) 8])=UH p:=by
 rw[BR]at c⊢;by_cases h:R p.ZY=0
 ·rw[Zn h,FT h]
 rw[Zm h]at c⊢;by_cases a:4<R p.ZY
 ·rw[Zn a,FU a]
 omega
def KW(c:¬ZW [Z8 (decide ((R p.ZY:Int)>0)) 10,Z8 (decide ((R p.ZY:Int)<=4)) 8]≠0):¬R p.ZY=0/\¬4<R p.ZY:=by
 rw[BR]at c;omega
theorem tQ{l:List α}{x:α}(h:l[i]?=some x):i<=R l:=by grind
def U6{p:Prop}[Decidable p]:Z8 (decide p) e=if p then 0 else e:=by simp only[Z8,de]
def Y_(p:Zf):Int:=(UH p).2
def Om:Ct prog 75 [.agg p.cs]<|pair<|UH p:=by
 refine cI func75 O<|ro 9 O ?_;refine kV (.c (zf Gy O)<|.c (zl wQ O O O O)<|.c (zk X1 O)<|.c (S.gtr .none O (zt O)<|.Zg O)<|.c (zK Y7 call45 O)<|.c (zf Gy O)<|.c (zl wQ O O O O)<|.c (zk X1 O)<|.c (S.leq .none O (zt O)<|.Zg O)<|.c (zK Y7 call45 O)<|.c (zM [[_],[_]] V6 O O O O)<|.c (S.XY (XB (l:=[_,_])) call44 .none O (zc O .nil) (.cons (.p (.own O O) O) .nil) O)<|.c (za O) .nil) ?_;refine rd 7 O<|kB O (λa=>?_) λa=>?_
 ·refine ro 7 O<|kS O O O O ?_;exact WM<|BS a
 refine ro 6 O<|kc (S.Xd .none O (zt O) O)<|kc (S.XY (Kf (l:=p.ZY) (g:=XT p.ZY) (vt:=[.Yt p.cs]) (λi x f=>om<|tQ f) call129 ⟨O,O⟩) call128 .none O (zc O<|zc O .nil) (.cons (.same O)<|.cons (.fn<|.cons (.ptr O O O O) .nil) .nil) O) ?_;refine rr 14 O<|kB O (λb=>?_) λb=>?_
 ·refine ro 8 O<|kS O O O O ?_;obtain⟨e,d⟩:=KW a;refine WM ?_;rw[Tb e d,Zn b]
 refine ro 6 O<|kc (zK Ws call76 O)<|kc (zK Y7 call45 O)<|rr 4 O<|kS O O O O ?_;obtain⟨e,d⟩:=KW a;refine WM ?_;rw[Tb e d,Zm b,U6]
def IB(h:i<R p.ZY)(a:ZP (XT p.ZY) 0 p.ZY=ZP (XT p.ZY) i (p.ZY.drop i)):
  ZP (XT p.ZY) 0 p.ZY=if XT p.ZY i p.ZY[i]≠0 then((i:Int),XT p.ZY i p.ZY[i])else ZP (XT p.ZY) (i+1) (p.ZY.drop<|i+1):=by
 rw[a,Zd _ h]
theorem ES(p:Zf)(l:bd):ZW [Z8 (decide ((R l:Int)=R p.ZY)) 10,Z8 (!l.any λx=>!isVal x) 2]=Xt p l:=by
 grind [QG,Xt,Z8]
def Vf:Nat->List Row->bd
 |_,[]=>[]
 |i,x::l=>if x.known=true then Vf (i+1) l else(i:Int)::Vf (i+1) l
def Sh{l:List Row}(h:i<R l):Vf i (l.drop i)=if l[i].known=true then Vf (i+1) (l.drop<|i+1)else(i:Int)::Vf (i+1) (l.drop<|i+1):=by
 rw[np h,Vf]
def P7(r:ZG):bd:=Vf 0 r.rows
theorem AO(g:α->Bool){l:List α}(h:i<R l):(l.drop i).all g=(g l[i]&&(l.drop<|i+1).all g):=by
 rw[np h,so]
theorem Wh{l:List α}(h:i<R l):l.take i++[l[i]]=l.take (i+1):=F
theorem CM(h:i<R l)(b:R l=R p.ZY)(c:l.all isVal=(l.drop i).all isVal)(a:¬(-1000000<=l[i]/\l[i]<=1000000)):Xt p l=2:=by
 grind [isVal,Xt,AO]
def CN(h:i<R l)(b:l.all isVal=(l.drop i).all isVal)(a: -1000000<=l[i]/\l[i]<=1000000):l.all isVal=(l.drop<|i+1).all isVal:=by
 simp_all[isVal,AO]
def GX:Ct prog 74 [.agg p.cs]<|pair<|UH p:=by
 refine cI func74 O<|ro 12 O<|kc (zk X1 O)<|rr 3 O<|kB O (λj=>?_) λj=>?_
 ·refine ro 6 O<|kS O O O O ?_;exact WM (FT I).symm
 refine ro 7 O<|kc (zk X1 O)<|rr 3 O<|kB O (λh=>?_) λh=>?_
 ·refine ro 6 O<|kS O O O O ?_;exact WM (FU I).symm
 refine ro 9 O ?_;refine OK.loop (G:=Nat) [1] (λi=>[(1,.ptr 1 0),(4,bv i),(1001,.box p.cs)]) (λi=>i<=R p.ZY/\ZP (XT p.ZY) 0 p.ZY=ZP (XT p.ZY) i (p.ZY.drop i)) (λi=>R p.ZY - i) 0 ⟨Zr _,O⟩ ⟨O,O,O,Zo⟩ (λ_=>O) ?_;rintro i ⟨hi,b⟩;refine ro 6 O<|kc (zk X1 O)<|rr 3 O<|kB O (λg=>?_) λg=>?_
 ·refine ro 10 O<|kc (zI X1 O I O)<|kc (zV T6 O O)<|kc (zK R8 call97 O)<|kc (S.not .none O<|zt O)<|kD<|OK.cond O O (λa=>?_) λa=>?_
  ·refine ro 7 O<|kS O O O O ?_;have e:XT p.ZY i p.ZY[i]=4:=by rw[XT,Zn<|by simpa using a]
   refine WM ?_;rw[Tb I I,IB I b,e];rfl
  refine ro 3 O ?_;refine kV (.c (zf Gy O)<|.c (zl wQ O O O O)<|.c (zm O)<|.c (S.slice (hi:=i) (l':=p.ZY.take i) X1 (λ_=>O) .none O (zt O) (.inl ⟨O,O,O⟩) (.inr ⟨_,_,O,(zt O),O⟩) (Zr _) I O)<|.c (zf Gy O)<|.c (zl wQ O O O O)<|.c (zm O)<|.c (zI X1 O I O)<|.c (zV T6 O O)<|.c (zK Ml call41 O) .nil) ?_;refine Ab.D.code<|OK.cond O O (λd=>?_) λd=>?_
  ·refine ro 7 O<|kS O O O O ?_;have e:XT p.ZY i p.ZY[i]=5:=by rw[XT,Zm<|by simpa using a,Zn d]
   refine WM ?_;rw[Tb I I,IB I b,e];rfl
  refine Ro 8 O I (Ab.D.lp ⟨i+1,⟨by omega,?_⟩,I,O,O,O,Zo⟩);have e:XT p.ZY i p.ZY[i]=0:=by rw[XT,Zm<|by simpa using a,Zm<|by simp[d]]
  rw[IB I b,e];rfl
 refine ro 7 O<|kc (zK Y4 call98 O)<|kc (S.Xb .none O<|zt O)<|kD<|kB O (λf=>?_) λf=>?_
 ·refine ro 6 O<|kS O O O O ?_;have:i=R p.ZY:=by omega
  rw[this,da,ZP]at b;refine WM ?_;rw[Tb I I,b,Zm F,Zm f]
 refine ro 8 O<|kS O O O O ?_;have:i=R p.ZY:=by omega
 rw[this,da,ZP]at b;refine WM ?_;rw[Tb I I,b,Zm F,Zn I]
def Cp:Ct prog 42 [.agg p.cs]<|bv<|Y_ p:=by
 refine cI func42 O<|ro 9 O<|kc (zK GX call74 O)<|rr 13 O<|kR O O ?_;rfl
def M0:Ct prog 43 [.agg p.cs]<|.Yy [.agg p.cs,bv<|Y_ p]:=by
 refine cI func43 O<|ro 10 O<|kc (zK Om call75 O)<|rr 10 O<|kc (zU Ai O O)<|rr 5 O<|kT O O Uz O O O ?_;rfl
def iM:Ct prog 133 [bv n]<|.bool<|!isVal n:=by
 refine cI func133 O<|ro 8 O<|kc (zK Si call134 O)<|kc (S.Xb .none O<|zt O)<|rr 3 O<|kR O O ?_;exact Xj (by simp only[isVal,decide_not])
def Oo:Ct prog 77 [.agg p.cs,ints l]<|bv<|Xt p l:=by
 refine cI func77 O<|ro 9 O ?_;refine kc (S.call (Lp (l:=l) (g:=λn=>!isVal n) (vt:=[]) (λx _=>iM) call133 ⟨O,O⟩) call132 .none O (zc O<|.cons .Nt .nil) O) ?_;refine rr 6 O<|kc (zk X9 O)<|rr 3 O<|kc (zk X1 O)<|kc (S.eql .none O (zt O)<|zt O)<|kc (zK Y7 call45 O)<|jm O<|kc (S.not .none O<|zt O)<|kc (zK Y7 call45 O) ?_;refine RK.c (zM [[_],[_]] V6 O O O O)<|kc (S.XY (XB (l:=[_,_])) call44 .none O (zc O .nil) (.cons (.p (.own O O) O) .nil) O) ?_;refine rr 3 O<|kR O O ?_;exact YL<|ES p l
def iN{x:Row}:Ct prog 136 [bv i,.agg x.cs,.Yt p.cs]<|bv<|UJ p x:=by
 refine cI func136 O<|ro 11 O<|kc (S.not .none O<|zt O)<|kD<|OK.cond O O (λa=>?_) λa=>?_
 ·refine ro 4 O<|kc (zk X9 O)<|kc (zE O O)<|kc (zK Y7 call45 O)<|rr 3 O<|kR O O ?_;refine YL ?_;rw[UJ,Zm<|by simpa using a,U6];split<;>split<;>omega
 refine ro 7 O<|kc (zK Oo call77 O)<|rr 3 O<|kR O O ?_;refine YL ?_;rw[UJ,Zn<|by simpa using a]
variable{r:ZG}
def On:Ct prog 80 [.agg p.cs,.agg r.cs]<|pair<|Vv p r:=by
 refine cI func80 O<|ro 13 O<|kc (zk Oz O)<|rr 6 O<|kB O (λa=>?_) λa=>?_
 ·refine ro 6 O<|kS O O O O ?_;refine WM ?_;rw[Vv,Zn a]
 refine ro 6 O<|kc (S.Xd .none O (zt O) O) ?_;refine kc (S.XY (mz (l:=r.rows) (g:=λ_ x=>UJ p x) (vt:=[.Yt p.cs]) (λi x _=>iN) call136 ⟨O,O⟩) call135 .none O (zc O<|zc O .nil) (.cons (.same O)<|.cons (.fn<|.cons (.ptr O O O O) .nil) .nil) O) ?_;refine rr 6 O<|kS O O O O ?_;refine WM ?_;rw[Vv,Zm a]
def Bw(qk:R r.rows<=100000):Ct prog 61 [.agg r.cs]<|ints<|P7 r:=by
 refine cI func61 O<|ro 3 O<|kc (S.assign .none O .Ya)<|rr 4 O<|RK.c (S.XG (k:=3) (sz:=1) .none O)<|rr 7 O<|kc (zk Oz O)<|rr 4 O ?_;refine OK.We [3] (λ(i:Nat)(qm:bd)=>[(3,.own 3<|R qm),(2003,.arr 1<|qm.map λn=>[bv n]),(7,.sl<|r.rows.map Row.cs),(8,bv<|R r.rows),(9,bv i)]) (λi qm=>i<=R r.rows/\R qm<=i/\P7 r=qm++Vf i (r.rows.drop i)) (λi qm=>R r.rows - i) 0 ([]) ⟨Zr _,Zq _,O⟩ ⟨(ZH N),(ZX N),O,O,O,Zo⟩ (λ_ _=>O) ?_;rintro i qm ⟨hi,e,b⟩;refine ro 6 O<|kB O (λd=>?_) λd=>?_
 ·refine ro 7 O<|kc (zI Oz O I O) ?_;refine rr 10 O<|kc (S.not .none O<|zt O)<|kD<|OK.cond O O (λa=>?_) λa=>?_
  ·refine ro 3 O ?_;refine RK.c (zM [[_]] Xr O O O O) ?_;refine kc (zP Xr O O F N I<|by simp only[maxLen];omega) ?_;refine Rr 8 O I ?_;refine Ab.D.lp ⟨i+1,qm++[(i:Int)],⟨by omega,by first|omega|(simp only[Zs,tt,aυ];omega),?_⟩,I,(ZH N),(ZX N),O,O,O,Zo⟩;rw[b,Sh I,Zm<|by simpa using a,m7,aδ]
  refine Ro 7 O I ?_;refine Ab.D.lp ⟨i+1,qm,⟨by omega,by first|omega|(simp only[Zs,tt,aυ];omega),?_⟩,I,(ZH N),(ZX N),O,O,O,Zo⟩;rw[b,Sh I,Zn<|by simpa using a]
 refine ro 8 O ?_;refine OK.ret<|Y3.r1 (.tmp O O (.c (.own O O N) O) O) ?_;have:i=R r.rows:=by omega
 subst this;rw[b,da,Vf,i8];rfl
def qq(qk:R r.rows<=100000):Ct prog 248 [.agg r.cs]<|ints<|P7 r:=by
 refine cI func248 O<|ro 3 O<|kc (S.assign .none O .Ya)<|rr 4 O<|RK.c (S.XG (k:=3) (sz:=1) .none O)<|rr 9 O ?_;refine OK.We [1,3] (λ(i:Nat)(qm:bd)=>[(1,.ptr 1 0),(1001,.box r.cs),(3,.own 3<|R qm),(2003,.arr 1<|qm.map λn=>[bv n]),(4,bv i)]) (λi qm=>i<=R r.rows/\R qm<=i/\P7 r=qm++Vf i (r.rows.drop i)) (λi qm=>R r.rows - i) 0 ([]) ⟨Zr _,Zq _,O⟩ ⟨O,O,(ZH N),(ZX N),O,Zo⟩ (λ_ _=>O) ?_;rintro i qm ⟨hi,e,b⟩;refine ro 6 O<|kc (zk Oz O)<|rr 3 O<|kB O (λd=>?_) λd=>?_
 ·refine ro 9 O<|kc (zI Oz O I O) ?_;refine rr 2 O<|kc (S.not .none O<|zt O)<|kD<|OK.cond O O (λa=>?_) λa=>?_
  ·refine ro 3 O ?_;refine RK.c (zM [[_]] Xr O O O O) ?_;refine kc (zP Xr O O N N I<|by simp only[maxLen];omega) ?_;refine Rr 9 O I ?_;refine Ab.D.lp ⟨i+1,qm++[(i:Int)],⟨by omega,by first|omega|(simp only[Zs,tt,aυ];omega),?_⟩,I,O,O,(ZH N),(ZX N),O,Zo⟩;rw[b,Sh I,Zm<|by simpa using a,m7,aδ]
  refine Ro 8 O I ?_;refine Ab.D.lp ⟨i+1,qm,⟨by omega,by first|omega|(simp only[Zs,tt,aυ];omega),?_⟩,I,O,O,(ZH N),(ZX N),O,Zo⟩;rw[b,Sh I,Zn<|by simpa using a]
 refine ro 8 O ?_;refine OK.ret<|Y3.r1 (.tmp O O (.c (.own O O N) O) O) ?_;have:i=R r.rows:=by omega
 subst this;rw[b,da,Vf,i8];rfl
