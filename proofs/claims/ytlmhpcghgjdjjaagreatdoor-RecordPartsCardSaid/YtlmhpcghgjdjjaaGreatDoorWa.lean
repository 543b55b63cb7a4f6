import Derived.Test.YtlmhpcghgjdjjaaGreatDoorHx
import Derived.Test.YtlmhpcghgjdjjaaGreatDoorSh
set_option linter.all false
open List renaming length->R
namespace Go.Proofs.Z9
open Go.Ab Tryz
set_option maxRecDepth 9999
def ints(l:bd):X:=.sl (l.map fun n=>[bv n])
def texts(l:List ba):X:=.sl (l.map fun s=>[.str s])
def aF:bd->Int
 |[]=>0
 |e::l=>if e≠0 then e else aF l
def ew{a b:Bool}(h:a=b):X.bool a=X.bool b:=rn _ h
def ret_F{p:Prop}[Decidable p](h:¬p):X.bool false=X.bool (decide p):=by simp_all
def FR{p:Prop}[Decidable p](h:p):X.bool true=X.bool (decide p):=by simp_all
def cy{a b:Int}(h:a=b):X.int .i64 a=X.int .i64 b:=rn _ h
def ae(ok:Bool)(e:Int):Int:=if ok then 0 else e
def fq{l:bd}{i:Nat}(h:i<R l):aF (l.drop i)=if l[i]≠0 then l[i]else aF (l.drop (i+1)):=by
 rw[np h,aF]
def gx{n lo hi:Int}:Ct prog 33 [bv n,bv lo,bv hi] (.bool (decide (lo<=n/\n<=hi))):=by
 refine cI func33 O (ro 11 O (RK.bh (t:=10) O (fun a=>?_) (fun a=>?_)))
 ·refine rr 7 O (kR O O ?_);simp[*]
 refine rr 7 O (kR O O ?_);simp[*]
def dJ{n lo hi:Int}:Ct prog 247 [bv n,bv lo,bv hi] (.bool (decide (lo<=n/\n<=hi))):=by
 refine cI func247 O (ro 11 O (RK.bh (t:=10) O (fun a=>?_) (fun a=>?_)))
 ·refine rr 7 O (kR O O ?_);simp[*]
 refine rr 7 O (kR O O ?_);simp[*]
def aT{ok:Bool}{e:Int}:Ct prog 243 [.bool ok,bv e] (bv (ae ok e)):=by
 refine cI func243 O (ro 11 O (OK.cond O O (fun a=>?_) (fun a=>?_)))
 ·refine ro 5 O (kR O O ?_);simp[ae, *]
 refine ro 8 O (kR O O ?_);simp[ae, *]
def cC{l:bd}:Ct prog 242 [ints l] (bv (aF l)):=by
 refine cI func242 O (OK.eW (rows:=l.map fun n=>[bv n]) (t:=0) O O fun hlen=>?_);rw[Zx]at hlen;unfold maxLen at hlen;refine ro 9 O (kc (zk UU O) (rr 4 O ?_));refine OK.loop (G:=Nat) [] (fun i=>[(5,ints l),(6,bv (R l)),(7,bv i)]) (fun i=>i<=R l/\aF l=aF (l.drop i)) (fun i=>R l - i) 0 ⟨Zr _,O⟩ ⟨O,O,O,Zo⟩ (fun _=>O) ?_;rintro i ⟨hi,a⟩;refine ro 6 O (kB O (fun c=>?_) (fun c=>?_))
 ·refine ro 6 O (kc (zI UU O I O) ?_);refine rr 10 O (kB O (fun b=>?_) (fun b=>?_))
  ·refine ro 6 O (kR O O ?_);rw[a,fq I];simp_all
  refine Ro 7 O I (Ab.D.lp ⟨i+1,⟨by omega,?_⟩,I,O,O,O,Zo⟩);rw[a,fq I];simp_all
 refine ro 7 O (kR O O ?_);have:i=R l:=by omega
 subst this;rw[a,no];rfl
def iz{n:Int}:Ct prog 345 [bv n] (.bool (decide (-1000000<=n/\n<=1000000))):=by
 refine cI func345 O (ro 8 O (kc (zK dJ call247 O) (rr 3 O (kR O O ?_))));rfl
def Sq{n:Int}:Ct prog 122 [bv n] (.bool (decide (-1000000<=n/\n<=1000000))):=by
 refine cI func122 O (ro 8 O (kc (zK gx call33 O) (rr 3 O (kR O O ?_))));rfl
def AM{a b:bd}:Ct prog 22 [ints a,ints b] (.bool (decide (a=b))):=by
 refine cI func22 O (OK.eW (rows:=a.map fun n=>[bv n]) (t:=0) O O fun hlen=>?_);rw[Zx]at hlen;unfold maxLen at hlen;refine ro 9 O (kc (zk Z4 O) (jm O (kc (zk Z4 O) (rr 3 O (kB O (fun f=>?_) (fun f=>?_))))))
 ·refine ro 5 O (kR O O ?_);exact ret_F (fun e=>f (by rw[e]))
 have j:R a=R b:=by omega
 refine ro 9 O ?_;refine OK.loop (G:=Nat) [] (fun i=>[(0,ints a),(1,ints b),(5,bv i)]) (fun i=>i<=R a/\a.take i=b.take i) (fun i=>R a - i) 0 ⟨Zr _,O⟩ ⟨O,O,O,Zo⟩ (fun _=>O) ?_;rintro i ⟨hi,g⟩;refine ro 5 O (kc (zk Z4 O) (rr 3 O (kB O (fun h=>?_) (fun h=>?_))))
 ·refine ro 5 O (kV (.c (zm O) (.c (zm O) (.c (zI Z4 O I O) (.c (zV Z8 O O) (.c (zm O) (.c (zm O) (.c (zI Z4 O I O) (.c (zV Z8 O O) (.c (S.neq .none O (zt O) (zt O)) .nil))))))))) (Ab.D.code (kB O (fun d=>?_) (fun d=>?_))))
  ·refine ro 5 O (kR O O ?_);exact ret_F (fun e=>by subst e;exact d rfl)
  refine Ro 8 O I (Ab.D.lp ⟨i+1,⟨by omega,?_⟩,I,O,O,O,Zo⟩);simp only[ne_eq,Zu]at d;rw[mv I,mv I,g,d]
 refine ro 7 O (kR O O ?_);have:i=R a:=by omega
 subst this;rw[List.take_length,j,List.take_length]at g;exact FR g
end Go.Proofs.Z9
namespace Go.Proofs.Z9
open Go.Ab Tryz
structure Pass where
 part:Int
 Jm:Int
 Jn:Int
 deriving DecidableEq
structure Event where
 kind:Int
 part:Int
 deriving DecidableEq
structure Row where
 known:Bool
 values:bd
 deriving DecidableEq
def Row.cs(x:Row):bi:=[.bool x.known,.sl (x.values.map fun n=>[bv n])]
structure aX where
 rows:List Row
 deriving DecidableEq
def aX.cs(x:aX):bi:=[.sl (x.rows.map Row.cs)]
structure Range where
 lo:Int
 hi:Int
 deriving DecidableEq
def Range.cs(x:Range):bi:=[bv x.lo,bv x.hi]
structure Frame where
 tick:Int
 values:bd
 deriving DecidableEq
def Frame.cs(x:Frame):bi:=[bv x.tick,.sl (x.values.map fun n=>[bv n])]
structure bC where
 aq:List ba
 aR:Int
 deriving DecidableEq
def bC.cs(x:bC):bi:=[.sl (x.aq.map fun s=>[.str s]),bv x.aR]
structure Envelope where
 parts:Int
 trim:Int
 rows:List (List Range)
 deriving DecidableEq
def Envelope.cs(x:Envelope):bi:=[bv x.parts,bv x.trim,.sl (x.rows.map fun l=>[.sl (l.map Range.cs)])]
structure bW where
 tick:Int
 channel:Int
 vq:Int
 deriving DecidableEq
def bW.cs(x:bW):bi:=[bv x.tick,bv x.channel,bv x.vq]
structure Il where
 target:Int
 Im:Int
 limit:Int
 deriving DecidableEq
structure Dr where
 inside:Int
 good:Int
 bad:Int
 deriving DecidableEq
structure zZ where
 num:Int
 den:Int
 deriving DecidableEq
def zZ.cs(x:zZ):bi:=[bv x.num,bv x.den]
def bq{α:Type}(g:α->Bool):Nat->List α->Int
 |_,[]=> -1
 |i,x::l=>if g x then i else bq g (i+1) l
def bT{α:Type}(g:α->Bool){l:List α}{i:Nat}(h:i<R l):bq g i (l.drop i)=if g l[i]then(i:Int)else bq g (i+1) (l.drop (i+1)):=by
 rw[np h,bq]
def oB{α:Type}(g:α->Bool):∀(l:List α)(i:Nat),decide (0<=bq g i l)=l.any g
 |[],i=>by simp[bq]
 |x::l,i=>by
  rw[bq,nz,←oB g l (i+1)];grind
def aK{α:Type}(g:Nat->α->Int):Nat->List α->Int×Int
 |_,[]=>(0,0)
 |i,x::l=>if g i x≠0 then(i,g i x)else aK g (i+1) l
def bE{α:Type}(g:Nat->α->Int){l:List α}{i:Nat}(h:i<R l):aK g i (l.drop i)=if g i l[i]≠0 then((i:Int),g i l[i])else aK g (i+1) (l.drop (i+1)):=by
 rw[np h,aK]
def pair(p:Int×Int):X:=.cf [bv p.1,bv p.2]
abbrev mu(f:Nat):Prop:=∀args w,(callFunc f args).run prog w=.ok (.enter f args) w
abbrev Clean(caps:bi):Prop:=caps.all (mE [])=true/\caps.all (fun u=>!bR u)=true
def dD{a b:Int}{p:Int×Int}(h:(a,b)=p):X.cf [bv a,bv b]=pair p:=by subst h;rfl
def sr{l:bd}{a:Nat}{caps:bi}{g:Int->Bool}(f:∀x,x∈l->Ct prog a ([.int .i64 x]++caps) (.bool (g x)))(b:mu a)(d:Clean caps):Ct prog 375 [.sl (l.map (fun n=>[.int .i64 n])),.fn a caps] (.int .i64 (bq g 0 l)):=by
 refine cI func375 O (OK.eW (rows:=l.map (fun n=>[bv n])) (t:=0) O O fun hlen=>?_);rw[Zx]at hlen;unfold maxLen at hlen;refine ro 9 O (kc (zk Z4 O) (rr 4 O ?_));refine OK.loop (G:=Nat) [] (fun i=>[(0,.sl (l.map (fun n=>[bv n]))),(1,.fn a caps),(6,.sl (l.map (fun n=>[bv n]))),(7,bv (R l)),(8,bv i)]) (fun i=>i<=R l/\bq g 0 l=bq g i (l.drop i)) (fun i=>R l - i) 0 ⟨Zr _,O⟩ ⟨O,O,O,O,O,Zo⟩ (fun _=>by simp[eP,Eb,Nn,vt,mE,d.1]) ?_;rintro i ⟨hi,c⟩;refine ro 6 O (kB O (fun h=>?_) (fun h=>?_))
 ·refine ro 15 O (kc (zI Z4 O I O) (kc (zV Z8 O O) ?_));refine kc (S.ij (f _ (Zt _)) b .none O (zt O) (zc O .nil) O d.1 d.2) (kD (OK.cond O O (fun e=>?_) (fun e=>?_)))
  ·refine ro 6 O (kR O O ?_);rw[c,bT _ I];simp_all
  refine Ro 7 O I (Ab.D.lp ⟨i+1,⟨by omega,?_⟩,I,O,O,O,O,O,Zo⟩);rw[c,bT _ I];simp_all
 refine ro 7 O (kR O O ?_);have:i=R l:=by omega
 subst this;rw[c,no];rfl
def oA{l:bd}{b:Nat}{caps:bi}{g:Int->Bool}(d:∀x,x∈l->Ct prog b ([.int .i64 x]++caps) (.bool (g x)))(a:mu b)(c:Clean caps):Ct prog 343 [.sl (l.map (fun n=>[.int .i64 n])),.fn b caps] (.bool (l.any g)):=by
 refine cI func343 O (ro 9 O ?_);refine kc (S.call (sr d a c) call375 .none O (zc O (zc O .nil)) (by simp[fm,Nn,vt,mE,cO,c.1])) ?_;refine rr 4 O (kR O O ?_);exact ew (by rw[←oB g l 0])
def Bd{l:List ba}{v:ba}:Ct prog 241 [.sl (l.map (fun s=>[.str s])),.str v] (bv (bq (fun x=>decide (v=x)) 0 l)):=by
 refine cI func241 O (OK.eW (rows:=l.map (fun s=>[.str s])) (t:=0) O O fun hlen=>?_);rw[Zx]at hlen;unfold maxLen at hlen;refine ro 9 O (kc (zk Z2 O) (rr 4 O ?_));refine OK.loop (G:=Nat) [] (fun i=>[(0,.sl (l.map (fun s=>[.str s]))),(1,.str v),(6,.sl (l.map (fun s=>[.str s]))),(7,bv (R l)),(8,bv i)]) (fun i=>i<=R l/\bq (fun x=>decide (v=x)) 0 l=bq (fun x=>decide (v=x)) i (l.drop i)) (fun i=>R l - i) 0 ⟨Zr _,O⟩ ⟨O,O,O,O,O,Zo⟩ (fun _=>O) ?_;rintro i ⟨hi,a⟩;refine ro 6 O (kB O (fun c=>?_) (fun c=>?_))
 ·refine ro 15 O (kc (zI Z2 O I O) ?_);refine rr 4 O (kB O (fun b=>?_) (fun b=>?_))
  ·refine ro 6 O (kR O O ?_);rw[a,bT _ I];simp_all
  refine Ro 7 O I (Ab.D.lp ⟨i+1,⟨by omega,?_⟩,I,O,O,O,O,O,Zo⟩);rw[a,bT _ I];simp_all
 refine ro 7 O (kR O O ?_);have:i=R l:=by omega
 subst this;rw[a,no];rfl
def mS{l:List ba}{v:ba}:Ct prog 188 [texts l,.str v] (.bool (l.any (fun x=>decide (v=x)))):=by
 refine cI func188 O (ro 9 O (kc (zK Bd call241 O) (rr 4 O (kR O O ?_))));exact ew (by rw[←oB _ l 0])
def pF{l:List ba}{a:Nat}{caps:bi}{g:Nat->ba->Int}(h:∀i x,l[i]?=some x->Ct prog a ([.int .i64 i,.str x]++caps) (.int .i64 (g i x)))(b:mu a)(d:Clean caps):Ct prog 244 [.sl (l.map (fun s=>[.str s])),.fn a caps] (pair (aK g 0 l)):=by
 refine cI func244 O (OK.eW (rows:=l.map (fun s=>[.str s])) (t:=0) O O fun hlen=>?_);rw[Zx]at hlen;unfold maxLen at hlen;refine ro 10 O (kc (zk Z2 O) (rr 4 O ?_));refine OK.loop (G:=Nat) [] (fun i=>[(1,.fn a caps),(9,.sl (l.map (fun s=>[.str s]))),(10,bv (R l)),(11,bv i)]) (fun i=>i<=R l/\aK g 0 l=aK g i (l.drop i)) (fun i=>R l - i) 0 ⟨Zr _,O⟩ ⟨O,O,O,O,Zo⟩ (fun _=>by simp[eP,Eb,Nn,vt,mE,d.1]) ?_;rintro i ⟨hi,c⟩;refine ro 6 O (kB O (fun f=>?_) (fun f=>?_))
 ·refine ro 7 O (kc (zI Z2 O I O) ?_);refine rr 10 O ?_;refine kc (S.ij (h i _ (Zv I)) b .none O (zt O) (zc O (zc O .nil)) O d.1 d.2) ?_;refine rr 9 O (kB O (fun e=>?_) (fun e=>?_))
  ·refine ro 8 O (kS O O O O ?_);refine dD ?_;rw[c,bE _ I];simp_all
  refine Ro 7 O I (Ab.D.lp ⟨i+1,⟨by omega,?_⟩,I,O,O,O,O,Zo⟩);rw[c,bE _ I];simp_all
 refine ro 8 O (kS O O O O ?_);refine dD ?_;have:i=R l:=by omega
 subst this;rw[c,no];rfl
def Dp{l:List Row}{a:Nat}{caps:bi}{g:Nat->Row->Int}(h:∀i x,l[i]?=some x->Ct prog a ([.int .i64 i,.agg x.cs]++caps) (.int .i64 (g i x)))(b:mu a)(d:Clean caps):Ct prog 350 [.sl (l.map Row.cs),.fn a caps] (pair (aK g 0 l)):=by
 refine cI func350 O (OK.eW (rows:=l.map Row.cs) (t:=0) O O fun hlen=>?_);rw[Zx]at hlen;unfold maxLen at hlen;refine ro 10 O (kc (zk Za O) (rr 4 O ?_));refine OK.loop (G:=Nat) [] (fun i=>[(1,.fn a caps),(9,.sl (l.map Row.cs)),(10,bv (R l)),(11,bv i)]) (fun i=>i<=R l/\aK g 0 l=aK g i (l.drop i)) (fun i=>R l - i) 0 ⟨Zr _,O⟩ ⟨O,O,O,O,Zo⟩ (fun _=>by simp[eP,Eb,Nn,vt,mE,d.1]) ?_;rintro i ⟨hi,c⟩;refine ro 6 O (kB O (fun f=>?_) (fun f=>?_))
 ·refine ro 7 O (kc (zI Za O I O) ?_);refine rr 11 O ?_;refine kc (S.ij (h i _ (Zv I)) b .none O (zt O) (zc O (zc O .nil)) O d.1 d.2) ?_;refine rr 9 O (kB O (fun e=>?_) (fun e=>?_))
  ·refine ro 8 O (kS O O O O ?_);refine dD ?_;rw[c,bE _ I];simp_all
  refine Ro 7 O I (Ab.D.lp ⟨i+1,⟨by omega,?_⟩,I,O,O,O,O,Zo⟩);rw[c,bE _ I];simp_all
 refine ro 8 O (kS O O O O ?_);refine dD ?_;have:i=R l:=by omega
 subst this;rw[c,no];rfl
def wE{l:List aX}{a:Nat}{caps:bi}{g:Nat->aX->Int}(h:∀i x,l[i]?=some x->Ct prog a ([.int .i64 i,.agg x.cs]++caps) (.int .i64 (g i x)))(b:mu a)(d:Clean caps):Ct prog 321 [.sl (l.map aX.cs),.fn a caps] (pair (aK g 0 l)):=by
 refine cI func321 O (OK.eW (rows:=l.map aX.cs) (t:=0) O O fun hlen=>?_);rw[Zx]at hlen;unfold maxLen at hlen;refine ro 10 O (kc (zk Yd O) (rr 4 O ?_));refine OK.loop (G:=Nat) [] (fun i=>[(1,.fn a caps),(9,.sl (l.map aX.cs)),(10,bv (R l)),(11,bv i)]) (fun i=>i<=R l/\aK g 0 l=aK g i (l.drop i)) (fun i=>R l - i) 0 ⟨Zr _,O⟩ ⟨O,O,O,O,Zo⟩ (fun _=>by simp[eP,Eb,Nn,vt,mE,d.1]) ?_;rintro i ⟨hi,c⟩;refine ro 6 O (kB O (fun f=>?_) (fun f=>?_))
 ·refine ro 7 O (kc (zI Yd O I O) ?_);refine rr 11 O ?_;refine kc (S.ij (h i _ (Zv I)) b .none O (zt O) (zc O (zc O .nil)) O d.1 d.2) ?_;refine rr 9 O (kB O (fun e=>?_) (fun e=>?_))
  ·refine ro 8 O (kS O O O O ?_);refine dD ?_;rw[c,bE _ I];simp_all
  refine Ro 7 O I (Ab.D.lp ⟨i+1,⟨by omega,?_⟩,I,O,O,O,O,Zo⟩);rw[c,bE _ I];simp_all
 refine ro 8 O (kS O O O O ?_);refine dD ?_;have:i=R l:=by omega
 subst this;rw[c,no];rfl
def yg{l:List Range}{a:Nat}{caps:bi}{g:Nat->Range->Int}(h:∀i x,l[i]?=some x->Ct prog a ([.int .i64 i,.agg x.cs]++caps) (.int .i64 (g i x)))(b:mu a)(d:Clean caps):Ct prog 348 [.sl (l.map Range.cs),.fn a caps] (pair (aK g 0 l)):=by
 refine cI func348 O (OK.eW (rows:=l.map Range.cs) (t:=0) O O fun hlen=>?_);rw[Zx]at hlen;unfold maxLen at hlen;refine ro 10 O (kc (zk LQ O) (rr 4 O ?_));refine OK.loop (G:=Nat) [] (fun i=>[(1,.fn a caps),(9,.sl (l.map Range.cs)),(10,bv (R l)),(11,bv i)]) (fun i=>i<=R l/\aK g 0 l=aK g i (l.drop i)) (fun i=>R l - i) 0 ⟨Zr _,O⟩ ⟨O,O,O,O,Zo⟩ (fun _=>by simp[eP,Eb,Nn,vt,mE,d.1]) ?_;rintro i ⟨hi,c⟩;refine ro 6 O (kB O (fun f=>?_) (fun f=>?_))
 ·refine ro 7 O (kc (zI LQ O I O) ?_);refine rr 11 O ?_;refine kc (S.ij (h i _ (Zv I)) b .none O (zt O) (zc O (zc O .nil)) O d.1 d.2) ?_;refine rr 9 O (kB O (fun e=>?_) (fun e=>?_))
  ·refine ro 8 O (kS O O O O ?_);refine dD ?_;rw[c,bE _ I];simp_all
  refine Ro 7 O I (Ab.D.lp ⟨i+1,⟨by omega,?_⟩,I,O,O,O,O,Zo⟩);rw[c,bE _ I];simp_all
 refine ro 8 O (kS O O O O ?_);refine dD ?_;have:i=R l:=by omega
 subst this;rw[c,no];rfl
def pG{l:List (List Range)}{a:Nat}{caps:bi}{g:Nat->(List Range)->Int}(h:∀i x,l[i]?=some x->Ct prog a ([.int .i64 i,.sl (x.map Range.cs)]++caps) (.int .i64 (g i x)))(b:mu a)(d:Clean caps):Ct prog 346 [.sl (l.map (fun l=>[.sl (l.map Range.cs)])),.fn a caps] (pair (aK g 0 l)):=by
 refine cI func346 O (OK.eW (rows:=l.map (fun l=>[.sl (l.map Range.cs)])) (t:=0) O O fun hlen=>?_);rw[Zx]at hlen;unfold maxLen at hlen;refine ro 10 O (kc (zk VC O) (rr 4 O ?_));refine OK.loop (G:=Nat) [] (fun i=>[(1,.fn a caps),(9,.sl (l.map (fun l=>[.sl (l.map Range.cs)]))),(10,bv (R l)),(11,bv i)]) (fun i=>i<=R l/\aK g 0 l=aK g i (l.drop i)) (fun i=>R l - i) 0 ⟨Zr _,O⟩ ⟨O,O,O,O,Zo⟩ (fun _=>by simp[eP,Eb,Nn,vt,mE,d.1]) ?_;rintro i ⟨hi,c⟩;refine ro 6 O (kB O (fun f=>?_) (fun f=>?_))
 ·refine ro 7 O (kc (zI VC O I O) ?_);refine rr 10 O ?_;refine kc (S.ij (h i _ (Zv I)) b .none O (zt O) (zc O (zc O .nil)) O d.1 d.2) ?_;refine rr 9 O (kB O (fun e=>?_) (fun e=>?_))
  ·refine ro 8 O (kS O O O O ?_);refine dD ?_;rw[c,bE _ I];simp_all
  refine Ro 7 O I (Ab.D.lp ⟨i+1,⟨by omega,?_⟩,I,O,O,O,O,Zo⟩);rw[c,bE _ I];simp_all
 refine ro 8 O (kS O O O O ?_);refine dD ?_;have:i=R l:=by omega
 subst this;rw[c,no];rfl
end Go.Proofs.Z9
namespace Go.Proofs.Z9
open Go.Ab Tryz
inductive Ph where
 |mk (kind power law aR kelvin:Int) (body:List Ph)
def Ph.cs:Ph->bi
 |.mk kind power law aR kelvin body=>[bv kind,bv power,bv law,bv aR,bv kelvin,.sl (body.map Ph.cs)]
structure bf where
 name:ba
 role:Int
 deriving DecidableEq
def bf.cs(x:bf):bi:=[.str x.name,bv x.role]
structure Net where
 av:List bf
 aS:ba
 limit:Int
 lo:Int
 hi:Int
 deriving DecidableEq
def Net.cs(x:Net):bi:=[.sl (x.av.map bf.cs),.str x.aS,bv x.limit,bv x.lo,bv x.hi]
structure Entry where
 at_:Int
 vq:ba
 text:ba
 deriving DecidableEq
def Entry.cs(x:Entry):bi:=[bv x.at_,.str x.vq,.str x.text]
structure Span where
 lo:zZ
 hi:zZ
 deriving DecidableEq
def Span.cs(x:Span):bi:=[bv x.lo.num,bv x.lo.den,bv x.hi.num,bv x.hi.den]
def Span.zero:Span:=⟨⟨0,0⟩,⟨0,0⟩⟩
structure Rec where
 name:ba
 iN:Int
 phases:List Ph
def Rec.cs(x:Rec):bi:=[.str x.name,bv x.iN,.sl (x.phases.map Ph.cs)]
structure o6 where
 name:ba
 nM:Int
 shots:Int
 deriving DecidableEq
def o6.cs(x:o6):bi:=[.str x.name,bv x.nM,bv x.shots]
structure Part where
 num:Int
 oF:ba
 iN:Int
 coil:ba
 frames:List Frame
 place:Int
 lP:Bool
 verdict:Int
 marked:Bool
 depth:Span
 deriving DecidableEq
def Part.cells(x:Part)(fr:X):bi:=[bv x.num,.str x.oF,bv x.iN,.str x.coil,fr,bv x.place,.bool x.lP,bv x.verdict,.bool x.marked,bv x.depth.lo.num,bv x.depth.lo.den,bv x.depth.hi.num,bv x.depth.hi.den]
def Part.cs(x:Part):bi:=x.cells (.sl (x.frames.map Frame.cs))
structure State where
 yB:List Rec
 aC:List o6
 parts:List Part
 aI:bd
 env:Envelope
def State.cs(x:State):bi:=[.sl (x.yB.map Rec.cs),.sl (x.aC.map o6.cs),.sl (x.parts.map Part.cs),.sl (x.aI.map fun n=>[bv n]),bv x.env.parts,bv x.env.trim,.sl (x.env.rows.map fun l=>[.sl (l.map Range.cs)])]
structure ax where
 jq:Net
 aS:bC
 aU:List (Rec×Int)
 aC:List (o6×Int)
 parts:List (Part×bd)
 aI:bc
 env:Envelope
 bz:Bool
 entries:Int
 time:Int
abbrev Hd:=Option (Nat×Nat)
def Hd.v(q:Hd)(n:Nat):Value:=match q with
 |none=>.slice none 0 0
 |some q=>.slice (some ⟨q.1,0,none⟩) n q.2
abbrev pV(b:Nat):Value:=.pointer (some ⟨b,0,none⟩)
structure jT where
 b:Nat
 r:Rec
 entry:Int
def jT.cs(v:jT):bi:=[.str v.r.name,bv v.r.iN,.sl (v.r.phases.map Ph.cs),bv v.entry]
structure fk where
 b:Nat
 c:o6
 entry:Int
def fk.cs(v:fk):bi:=[.str v.c.name,bv v.c.nM,bv v.c.shots,bv v.entry]
structure aB where
 b:Nat
 fh:Hd
 eh:Hd
 p:Part
 es:bd
def aB.cs(v:aB):bi:=v.p.cells (.raw (v.fh.v (R v.p.frames)))++[.raw (v.eh.v (R v.es))]
structure HA where
 b:Nat
 jq:Net
 aS:bC
 vh:Hd
 aU:List jT
 ch:Hd
 aC:List fk
 ph:Hd
 parts:List aB
 mh:Hd
 aI:bc
 env:Envelope
 bz:Bool
 entries:Int
 time:Int
def HA.cs(A:HA):bi:=A.jq.cs++A.aS.cs++[.raw (A.vh.v (R A.aU)),.raw (A.ch.v (R A.aC)),.raw (A.ph.v (R A.parts)),.raw (A.mh.v (R A.aI)),bv A.env.parts,bv A.env.trim,.sl (A.env.rows.map fun l=>[.sl (l.map Range.cs)]),.bool A.bz,bv A.entries,bv A.time]
inductive Key where
 |bn
 |vs
 |cs
 |ps
 |ms
 |v (i:Nat)
 |c (i:Nat)
 |p (i:Nat)
 |f (i:Nat)
 |e (i:Nat)
 deriving DecidableEq
def HA.pb(A:HA)(i:Nat):Nat:=(A.parts[i]?.map aB.b).getD 0
def jU(v:jT):bi:=[.raw (pV v.b)]
def cRow(v:fk):bi:=[.raw (pV v.b)]
def iA(v:aB):bi:=[.raw (pV v.b)]
def HA.mem(A:HA):HM Key
 |.bn=>some (A.b,.box A.cs)
 |.vs=>A.vh.map fun q=>(q.1,.gM 1 q.2 (A.aU.map jU))
 |.cs=>A.ch.map fun q=>(q.1,.gM 1 q.2 (A.aC.map cRow))
 |.ps=>A.ph.map fun q=>(q.1,.gM 1 q.2 (A.parts.map iA))
 |.ms=>A.mh.map fun q=>(q.1,.gM 1 q.2 (A.aI.map fun i=>[.raw (pV (A.pb i))]))
 |.v i=>A.aU[i]?.map fun v=>(v.b,.box v.cs)
 |.c i=>A.aC[i]?.map fun v=>(v.b,.box v.cs)
 |.p i=>A.parts[i]?.map fun v=>(v.b,.box v.cs)
 |.f i=>A.parts[i]?.bind fun v=>v.fh.map fun q=>(q.1,.gM 2 q.2 (v.p.frames.map Frame.cs))
 |.e i=>A.parts[i]?.bind fun v=>v.eh.map fun q=>(q.1,.row 1 q.2 (bM v.es))
def HA.plain(A:HA):ax:=⟨A.jq,A.aS,A.aU.map fun v=>(v.r,v.entry),A.aC.map fun v=>(v.c,v.entry),A.parts.map fun v=>(v.p,v.es),A.aI,A.env,A.bz,A.entries,A.time⟩
structure HA.Ok(A:HA)(m:Int):Prop where
 vh:A.vh=none->A.aU=[]
 ch:A.ch=none->A.aC=[]
 ph:A.ph=none->A.parts=[]
 mh:A.mh=none->A.aI=[]
 fh:∀v∈A.parts,v.fh=none->v.p.frames=[]
 eh:∀v∈A.parts,v.eh=none->v.es=[]
 m0:0<=m/\m<=1000
 en:0<=A.entries/\A.entries<=60
 lv:(A.aU.length:Int)<=m
 lc:(A.aC.length:Int)<=m
 lp:(A.parts.length:Int)<=m
 lm:(A.aI.length:Int)<=m
 lf:∀v∈A.parts,(v.p.frames.length:Int)<=m
 le:∀v∈A.parts,(v.es.length:Int)<=m+3
 mi:∀i∈A.aI,i<A.parts.length
 cl:∀v∈A.aC,0<=v.c.shots/\v.c.shots<=1000/\v.c.nM<=1000
 vb:∀v∈A.aU,0<=v.r.iN/\v.r.iN<=m
 pl:∀v∈A.parts,0<=v.p.place/\v.p.place<=4
 nl:∀v∈A.parts,v.p.oF.length<=12/\v.p.coil.length<=12
 vn:∀v∈A.aU,v.r.name.length<=12
 cn:∀v∈A.aC,v.c.name.length<=12
def HA.Ok.more{A:HA}{m m':Int}(h:A.Ok m)(c:m<=m')(b:m'<=1000):A.Ok m':=
 ⟨h.vh,h.ch,h.ph,h.mh,h.fh,h.eh,⟨by have:=h.m0;omega,b⟩,h.en,by have:=h.lv;omega,by have:=h.lc;omega,by have:=h.lp;omega,by have:=h.lm;omega,fun v a=>by have:=h.lf v a;omega,fun v a=>by have:=h.le v a;omega,h.mi,h.cl,fun v a=>by have:=h.vb v a;omega,h.pl,h.nl,h.vn,h.cn⟩
def JX(b:Nat)(H:ax)(m:Int):bm:=fun h Y w=>∃A:HA,(A.b=b/\A.plain=H/\A.Ok m)/\aa A.mem h Y w
def JX.az(b:Nat)(H:ax)(m:Int):aZ (JX b H m):=aZ.ex fun _=>aa.az _
def JP(A:HA)(H:ax)(m:Int):bm:=fun h Y w=>∃a:HA,(a.Ok m/\a.b=A.b/\a.pb=A.pb/\R a.parts=R A.parts/\a.plain=H)/\aa a.mem h Y w
def JP.az(A:HA)(H:ax)(m:Int):aZ (JP A H m):=aZ.ex fun _=>aa.az _
def OK.Bv{E:Env}{U:bc}{s:St}{code:Code}{Q:bo}{b:Nat}{H:ax}{m:Int}(c:Ab.look s 3000=some (.res (JX b H m)))(h:∀A:HA,A.b=b->A.plain=H->A.Ok m->OK E code Q U ((3000,.res (aa A.mem))::s)):OK E code Q U s:=
 OK.Bw (J:=fun A:HA=>aa A.mem) c (fun _=>aa.az _) fun A a=>h A a.1 a.2.1 a.2.2
def OK.G9{E:Env}{U:bc}{s:St}{code:Code}{Q:bo}{c:HA}{H:ax}{m:Int}(d:Ab.look s 3000=some (.res (JP c H m)))(h:∀A:HA,A.Ok m->A.b=c.b->A.pb=c.pb->R A.parts=R c.parts->A.plain=H->OK E code Q U ((3000,.res (aa A.mem))::s)):OK E code Q U s:=
 OK.Bw (J:=fun A:HA=>aa A.mem) d (fun _=>aa.az _) fun A a=>h A a.1 a.2.1 a.2.2.1 a.2.2.2.1 a.2.2.2.2
def nN{M:HM Key}{k:Key}{q:Hd}{n sz:Nat}{rows:List bi}(a:M k=q.map fun q=>(q.1,.gM sz q.2 rows))(b:R rows=n)(h0:q=none->rows=[]):fA M k (q.v n) sz rows:=by
 subst b;cases q with
 |none=>rw[h0 rfl];exact .inl ⟨rfl,rfl,a⟩
 |some q=>exact .inr ⟨q.1,q.2,rfl,a⟩
def Bx{M:HM Key}{k:Key}{q:Hd}{n sz:Nat}{rows:List bi}(a:M k=q.map fun q=>(q.1,.row sz q.2 rows))(b:R rows=n)(h0:q=none->rows=[]):mG M k (q.v n) sz rows:=by
 subst b;cases q with
 |none=>rw[h0 rfl];exact .inl ⟨rfl,rfl,a⟩
 |some q=>exact .inr ⟨q.1,q.2,rfl,a⟩
section
variable{A:HA}{m:Int}
def HA.Ok.vs(h:A.Ok m):fA A.mem .vs (A.vh.v (R A.aU)) 1 (A.aU.map jU):=nN rfl (Zx ..) fun e=>by rw[h.vh e];rfl
def HA.Ok.cs(h:A.Ok m):fA A.mem .cs (A.ch.v (R A.aC)) 1 (A.aC.map cRow):=nN rfl (Zx ..) fun e=>by rw[h.ch e];rfl
def HA.Ok.ps(h:A.Ok m):fA A.mem .ps (A.ph.v (R A.parts)) 1 (A.parts.map iA):=nN rfl (Zx ..) fun e=>by rw[h.ph e];rfl
def HA.Ok.ms(h:A.Ok m):fA A.mem .ms (A.mh.v (R A.aI)) 1 (A.aI.map fun i=>[.raw (pV (A.pb i))]):=nN rfl (Zx ..) fun e=>by rw[h.mh e];rfl
def HA.Jh{i:Nat}(hi:i<R A.aC):A.mem (.c i)=some (A.aC[i].b,.box A.aC[i].cs):=by show(A.aC[i]?.map _)=_;simp_all
def HA.Iz{i:Nat}(hi:i<R A.parts):A.mem (.p i)=some (A.parts[i].b,.box A.parts[i].cs):=by show(A.parts[i]?.map _)=_;simp_all
end
end Go.Proofs.Z9
namespace Go.Proofs.Z9
open Go.Ab Tryz
section
variable{A:HA}
abbrev Sub(M M':HM Key):Prop:=∀k p,M k=some p->M' k=some p
def mH{α β:Type}(f:α->β){l:List α}{i:Nat}{x:α}(hi:i<R l)(h:f x=f l[i]):(l.set i x).map f=l.map f:=by
 rw[bτ,h];refine P2 fun j=>?_
 grind
def HA.Ee(A:HA)(j:Nat)(v:fk):HA:={A with aC:=A.aC.set j v}
def HA.Bz{j:Nat}(d:j<R A.aC){v:fk}(f:v.b=A.aC[j].b):Sub (A.Ee j v).mem (A.mem.set (.c j) (some (v.b,.box v.cs))):=by
 intro k p a;cases k with
 |c i=>
  by_cases e:i=j
  ·subst e;rw[HM.bw,←a];show _=(A.aC.set i v)[i]?.map _;simp_all
  rw[HM.ai _ _ (fun h=>e (Key.c.inj h)),←a];show(A.aC[i]?.map _)=((A.aC.set j v)[i]?.map _);grind
 |cs=>
  rw[HM.ai _ _ Z,←a];show A.ch.map _=A.ch.map _;congr 1;funext q;show(q.1,HK.gM 1 q.2 (A.aC.map cRow))=(q.1,HK.gM 1 q.2 ((A.aC.set j v).map cRow));rw[mH cRow d (by show [X.raw (pV v.b)]=_;rw[f];rfl)]
 |bn=>
  rw[HM.ai _ _ Z,←a];show some (A.b,HK.box A.cs)=some (A.b,HK.box (A.Ee j v).cs);simp only[HA.cs,HA.Ee,wi]
 |_=>rw[HM.ai _ _ Z,←a];rfl
def HA.eC(A:HA)(i:Nat)(v:aB):HA:={A with parts:=A.parts.set i v}
def HA.yC{i:Nat}(hi:i<R A.parts){v:aB}(a:v.b=A.parts[i].b):(A.eC i v).pb=A.pb:=by
 funext j;show((A.parts.set i v)[j]?.map aB.b).getD 0=(A.parts[j]?.map aB.b).getD 0;grind
def HA.BA{i:Nat}(hi:i<R A.parts){v:aB}(g:v.b=A.parts[i].b){M:HM Key}(l:M (.p i)=some (v.b,.box v.cs))(n:M (.f i)=v.fh.map fun q=>(q.1,.gM 2 q.2 (v.p.frames.map Frame.cs)))(o:M (.e i)=v.eh.map fun q=>(q.1,.row 1 q.2 (bM v.es)))
  (c:∀k,k≠.p i->k≠.f i->k≠.e i->M k=A.mem k):Sub (A.eC i v).mem M:=by
 have r:(A.parts.set i v)[i]?=some v:=List.getElem?_set_self hi;have d:∀j,j≠i->(A.parts.set i v)[j]?=A.parts[j]?:=fun j e=>List.getElem?_set_ne (fun h=>e h.symm)
 intro k p a;cases k with
 |p j=>
  by_cases e:j=i
  ·subst e;rw[l,←a];show _=(A.parts.set j v)[j]?.map _;grind
  rw[c _ (fun h=>e (Key.p.inj h)) Z Z,←a];show A.parts[j]?.map _=(A.parts.set i v)[j]?.map _;rw[d j e]
 |f j=>
  by_cases e:j=i
  ·subst e;rw[n,←a];show _=(A.parts.set j v)[j]?.bind _;grind
  rw[c _ Z (fun h=>e (Key.f.inj h)) Z,←a];show A.parts[j]?.bind _=(A.parts.set i v)[j]?.bind _;rw[d j e]
 |e j=>
  by_cases e:j=i
  ·subst e;rw[o,←a];show _=(A.parts.set j v)[j]?.bind _;grind
  rw[c _ Z Z (fun h=>e (Key.e.inj h)),←a];show A.parts[j]?.bind _=(A.parts.set i v)[j]?.bind _;rw[d j e]
 |ps=>
  rw[c _ Z Z Z,←a];show A.ph.map _=A.ph.map _;congr 1;funext q;show(q.1,HK.gM 1 q.2 (A.parts.map iA))=(q.1,HK.gM 1 q.2 ((A.parts.set i v).map iA));rw[mH iA hi (by show [X.raw (pV v.b)]=_;rw[g];rfl)]
 |ms=>
  rw[c _ Z Z Z,←a];show A.mh.map _=A.mh.map _;congr 1;funext q;show(q.1,HK.gM 1 q.2 (A.aI.map fun i=>[X.raw (pV (A.pb i))]))=(q.1,HK.gM 1 q.2 (A.aI.map fun j=>[X.raw (pV ((A.eC i v).pb j))]));rw[A.yC hi g]
 |bn=>
  rw[c _ Z Z Z,←a];show some (A.b,HK.box A.cs)=some (A.b,HK.box (A.eC i v).cs);simp only[HA.cs,HA.eC,wi]
 |_=>rw[c _ Z Z Z,←a];rfl
def HA.z1{a:HA}(d:a.b=A.b)(h:a.vh=A.vh/\a.aU=A.aU)(g:a.ch=A.ch/\a.aC=A.aC)(f:a.ph=A.ph/\a.parts=A.parts)(e:a.mh=A.mh/\a.aI=A.aI):Sub a.mem (A.mem.set .bn (some (A.b,.box a.cs))):=by
 obtain⟨b,jq,aS,vh,aU,ch,aC,ph,parts,mh,aI,env,bz,entries,time⟩:=a;obtain⟨rfl,rfl⟩:=h;obtain⟨rfl,rfl⟩:=g;obtain⟨rfl,rfl⟩:=f;obtain⟨rfl,rfl⟩:=e;cases d;intro k p c;cases k with
 |bn=>rw[HM.bw,←c];rfl
 |_=>rw[HM.ai _ _ Z,←c];rfl
def HA.tM(A:HA)(v:fk)(q:Nat×Nat):HA:={A with aC:=A.aC++[v],ch:=some q}
def HA.BB{v:fk}{q:Nat×Nat}:Sub (A.tM v q).mem (((A.mem.set (.c (R A.aC)) (some (v.b,.box v.cs))).set .cs (some (q.1,.gM 1 q.2 (A.aC.map cRow++[[.raw (pV v.b)]])))).set .bn (some (A.b,.box (A.tM v q).cs))):=by
 intro k p a;cases k with
 |bn=>rw[HM.bw,←a];rfl
 |cs=>
  rw[HM.ai _ _ Z,HM.bw,←a];show _=some (q.1,HK.gM 1 q.2 ((A.aC++[v]).map cRow));rw[ne];rfl
 |c i=>
  rw[HM.ai _ _ Z,HM.ai _ _ Z];by_cases e:i=R A.aC
  ·subst e;rw[HM.bw,←a];show _=(A.aC++[v])[R A.aC]?.map _;simp
  rw[HM.ai _ _ (fun h=>e (Key.c.inj h)),←a];show A.aC[i]?.map _=(A.aC++[v])[i]?.map _;grind
 |_=>rw[HM.ai _ _ Z,HM.ai _ _ Z,HM.ai _ _ Z,←a];rfl
def HA.tN(A:HA)(v:jT)(q:Nat×Nat):HA:={A with aU:=A.aU++[v],vh:=some q}
def HA.BC{v:jT}{q:Nat×Nat}:Sub (A.tN v q).mem (((A.mem.set (.v (R A.aU)) (some (v.b,.box v.cs))).set .vs (some (q.1,.gM 1 q.2 (A.aU.map jU++[[.raw (pV v.b)]])))).set .bn (some (A.b,.box (A.tN v q).cs))):=by
 intro k p a;cases k with
 |bn=>rw[HM.bw,←a];rfl
 |vs=>
  rw[HM.ai _ _ Z,HM.bw,←a];show _=some (q.1,HK.gM 1 q.2 ((A.aU++[v]).map jU));rw[ne];rfl
 |v i=>
  rw[HM.ai _ _ Z,HM.ai _ _ Z];by_cases e:i=R A.aU
  ·subst e;rw[HM.bw,←a];show _=(A.aU++[_])[R A.aU]?.map _;simp
  rw[HM.ai _ _ (fun h=>e (Key.v.inj h)),←a];show A.aU[i]?.map _=(A.aU++[_])[i]?.map _;grind
 |_=>rw[HM.ai _ _ Z,HM.ai _ _ Z,HM.ai _ _ Z,←a];rfl
def HA.rS(A:HA)(i:Nat)(q:Nat×Nat):HA:={A with aI:=A.aI++[i],mh:=some q}
def HA.BD{i:Nat}{q:Nat×Nat}:Sub (A.rS i q).mem ((A.mem.set .ms (some (q.1,.gM 1 q.2 ((A.aI.map fun i=>[.raw (pV (A.pb i))])++[[.raw (pV (A.pb i))]])))).set .bn (some (A.b,.box (A.rS i q).cs))):=by
 intro k p a;cases k with
 |bn=>rw[HM.bw,←a];rfl
 |ms=>
  rw[HM.ai _ _ Z,HM.bw,←a];show _=some (q.1,HK.gM 1 q.2 ((A.aI++[i]).map fun j=>[X.raw (pV ((A.rS i q).pb j))]));rw[ne];rfl
 |_=>rw[HM.ai _ _ Z,HM.ai _ _ Z,←a];rfl
def HA.rT(A:HA)(v:aB)(q:Nat×Nat):HA:={A with parts:=A.parts++[v],ph:=some q}
def HA.BF{m:Int}(g:A.Ok m){v:aB}{q d:Nat×Nat}(o:v.fh=none)(r:v.eh=some d):Sub (A.rT v q).mem ((((A.mem.set (.e (R A.parts)) (some (d.1,.row 1 d.2 (bM v.es)))).set (.p (R A.parts)) (some (v.b,.box v.cs))).set .ps (some (q.1,.gM 1 q.2 (A.parts.map iA++[[.raw (pV v.b)]])))).set .bn (some (A.b,.box (A.rT v q).cs))):=by
 have c:∀i,i≠R A.parts->(A.parts++[v])[i]?=A.parts[i]?:=by
  grind
 have n:(A.parts++[v])[R A.parts]?=some v:=F
 intro k p a;cases k with
 |bn=>rw[HM.bw,←a];rfl
 |ps=>
  rw[HM.ai _ _ Z,HM.bw,←a];show _=some (q.1,HK.gM 1 q.2 ((A.parts++[v]).map iA));rw[ne];rfl
 |p i=>
  rw[HM.ai _ _ Z,HM.ai _ _ Z];by_cases e:i=R A.parts
  ·subst e;rw[HM.bw,←a];show _=(A.parts++[v])[R A.parts]?.map _;simp
  rw[HM.ai _ _ (fun h=>e (Key.p.inj h)),HM.ai _ _ Z,←a];show A.parts[i]?.map _=(A.parts++[v])[i]?.map _;rw[c i e]
 |e i=>
  rw[HM.ai _ _ Z,HM.ai _ _ Z,HM.ai _ _ Z];by_cases e:i=R A.parts
  ·subst e;rw[HM.bw,←a];show _=(A.parts++[v])[R A.parts]?.bind _;simp_all
  rw[HM.ai _ _ (fun h=>e (Key.e.inj h)),←a];show A.parts[i]?.bind _=(A.parts++[v])[i]?.bind _;rw[c i e]
 |f i=>
  rw[HM.ai _ _ Z,HM.ai _ _ Z,HM.ai _ _ Z,HM.ai _ _ Z,←a];show A.parts[i]?.bind _=(A.parts++[v])[i]?.bind _;grind
 |ms=>
  rw[HM.ai _ _ Z,HM.ai _ _ Z,HM.ai _ _ Z,HM.ai _ _ Z,←a];show A.mh.map _=A.mh.map _;congr 1;funext q';show(q'.1,HK.gM 1 q'.2 (A.aI.map fun i=>[X.raw (pV (A.pb i))]))=(q'.1,HK.gM 1 q'.2 (A.aI.map fun j=>[X.raw (pV ((A.rT v q).pb j))]));congr 2;refine aβ fun j l=>?_
  show [X.raw (pV ((A.parts[j]?.map aB.b).getD 0))]=[X.raw (pV (((A.parts++[v])[j]?.map aB.b).getD 0))];rw[c j (by have:=g.mi j l;omega)]
 |_=>rw[HM.ai _ _ Z,HM.ai _ _ Z,HM.ai _ _ Z,HM.ai _ _ Z,←a];rfl
end
end Go.Proofs.Z9
namespace Go.Proofs.Z9
open Go.Ab Tryz
def fO{α:Type}(g:Nat->α->Bool):Nat->List α->Bool
 |_,[]=>true
 |i,x::l=>g i x&&fO g (i+1) l
def rF{α:Type}(g:Nat->α->Bool){l:List α}{i:Nat}(h:i<R l):fO g i (l.drop i)=(g i l[i]&&fO g (i+1) (l.drop (i+1))):=by
 rw[np h,fO]
def b6(i:Nat)(c:UInt8):Bool:=
 decide (97<=(c.toNat:Int)/\(c.toNat:Int)<=122)||decide (65<=(c.toNat:Int)/\(c.toNat:Int)<=90)||(decide ((i:Int)≠0)&&(decide ((c.toNat:Int)=45)||decide (48<=(c.toNat:Int)/\(c.toNat:Int)<=57)))
def bS(s:ba):Bool:=fO b6 0 s&&decide (1<=(R s:Int)/\(R s:Int)<=12)
def mz(b:UInt8): -9223372036854775808<=(b.toNat:Int)/\(b.toNat:Int)<=9223372036854775807:=by
 grind [UInt8.toNat_lt]
def oZ{s:ba}{i:Nat}(h:i<R s)(a:fO b6 0 s=fO b6 i (s.drop i))(b:b6 i s[i]=true):fO b6 0 s=fO b6 (i+1) (s.drop (i+1)):=by
 rw[a,rF _ h,b,tn]
def oY{s:ba}{i:Nat}(h:i<R s)(a:fO b6 0 s=fO b6 i (s.drop i))(b:b6 i s[i]=false):X.bool false=X.bool (bS s):=by
 simp_all[bS,rF]
def jJ(l:List ba)(s:ba):Bool:=l.any fun x=>decide (s=x)
def cj(l:List ba)(i:Nat)(s:ba):Int:=if bS s=false then 4 else if jJ (l.take i) s=true then 5 else 0
def planChk(p:bC):Int×Int:=
 if R p.aq=0 then(0,10)else if 4<R p.aq then(0,8)else
 if(aK (cj p.aq) 0 p.aq).2≠0 then aK (cj p.aq) 0 p.aq else(0,if 1<=p.aR/\p.aR<=12 then 0 else 2)
def isVal(n:Int):Bool:=decide (-1000000<=n/\n<=1000000)
def eM(p:bC)(l:bd):Int:=if R l≠R p.aq then 10 else if l.all isVal=true then 0 else 2
def Y5(p:bC)(r:Row):Int:=if r.known=true then eM p r.values else if R r.values=0 then 0 else 3
def gB(p:bC)(r:aX):Int×Int:=if(R r.rows:Int)≠p.aR then(0,10)else aK (fun _ x=>Y5 p x) 0 r.rows
def xo{α:Type}(g:α->Bool){l:List α}{i:Nat}(h:i<R l):(l.drop i).any g=(g l[i]||(l.drop (i+1)).any g):=by
 rw[np h,nz]
def yx{s:ba}:Ct prog 246 [.str s] (.bool (bS s)):=by
 refine cI func246 O (OK.ux (t:=0) (z:=s) O O fun hlen=>?_);unfold maxLen at hlen;refine ro 9 O (RK.c (S.bytes underlying9 underlying168 underlying5 .none O (zt O)) (kc (zk AT O) (rr 4 O ?_)));refine OK.loop (G:=Nat) [] (fun i=>[(0,.str s),(7,.sl (s.map fun b=>[.int .u8 b.toNat])),(8,bv (R s)),(9,bv i)]) (fun i=>i<=R s/\fO b6 0 s=fO b6 i (s.drop i)) (fun i=>R s - i) 0 ⟨Zr _,O⟩ ⟨O,O,O,O,Zo⟩ (fun _=>O) ?_;rintro i ⟨hi,a⟩;refine ro 6 O (kB O (fun j=>?_) (fun j=>?_))
 ·refine ro 7 O (kc (zI AT O I O) ?_);refine rr 8 O ?_;refine kc (S.conv .none O (zt O) underlying5 underlying3 (mn _ (mz _)) (mn _ (mz _))) (kc (zK dJ call247 O) (jm O (RK.bh (t:=17) O (fun g=>?_) (fun g=>?_))))
  ·refine rr 10 O (kc (S.not .none O (zt O)) (Rr 24 O I (Ab.D.lp ⟨i+1,⟨by omega,?_⟩,I,O,O,O,O,Zo⟩)));exact oZ I a (by simp only[b6,ti,Zw,aζ];omega)
  refine kc (S.move (zg O O) O (zt O)) (kc (S.conv (zg O O) O (zt O) underlying5 underlying3 (mn _ (mz _)) (mn _ (mz _))) (kc (S.call (dJ) call247 (zg O O) O (zc O (zC O (zD O))) O) ?_));refine rr 7 O (kc (S.jP .none O (zt O)) (jm O (RK.bh (t:=24) O (fun f=>?_) (fun f=>?_))))
  ·refine rr 3 O (RK.bh (t:=27) O (fun e=>?_) (fun e=>?_))
   ·refine rr 18 O (kR O O ?_);exact oY I a (by simp only[b6,wa,a8,ul];omega)
   refine rr 3 O (RK.bh (t:=30) O (fun d=>?_) (fun d=>?_))
   ·refine kc (S.move (zg O O) O (zt O)) (kc (S.conv (zg O O) O (zt O) underlying5 underlying3 (mn _ (mz _)) (mn _ (mz _))) (kc (S.call (dJ) call247 (zg O O) O (zc O (zC O (zD O))) O) (kc (S.jP (zg O O) O (zt O)) ?_)));refine rr 5 O (kB O (fun h=>?_) (fun h=>?_))
    ·refine ro 5 O (kR O O ?_);exact oY I a (by simp only[b6,wa,a8,ul];omega)
    refine Ro 7 O I (Ab.D.lp ⟨i+1,⟨by omega,?_⟩,I,O,O,O,O,Zo⟩);exact oZ I a (by simp only[b6,ti,Zw,aζ];omega)
   refine Rr 17 O I (Ab.D.lp ⟨i+1,⟨by omega,?_⟩,I,O,O,O,O,Zo⟩);exact oZ I a (by simp only[b6,ti,Zw,aζ];omega)
  refine Rr 23 O I (Ab.D.lp ⟨i+1,⟨by omega,?_⟩,I,O,O,O,O,Zo⟩);exact oZ I a (by simp only[b6,ti,Zw,aζ];omega)
 refine ro 6 O (kc (zK dJ call247 O) (rr 3 O (kR O O ?_)));have:i=R s:=by omega
 subst this;rw[no,fO]at a;rw[bS,a,tn]
def oW{s:ba}:Ct prog 125 [.str s] (.bool (bS s)):=by
 refine cI func125 O (OK.ux (t:=0) (z:=s) O O fun hlen=>?_);unfold maxLen at hlen;refine ro 12 O (RK.bh (t:=9) O (fun u=>?_) (fun u=>?_))
 ·refine rr 12 O (kR O O ?_)
  first|(exact oY I a (by simp only[b6,wa,a8,ul];omega))|(refine ew ?_;rw[bS];rw[Zy I,bυ])
 refine rr 6 O (kB O (fun p=>?_) (fun p=>?_))
 ·refine ro 5 O (kR O O ?_)
  first|(exact oY I a (by simp only[b6,wa,a8,ul];omega))|(refine ew ?_;rw[bS];rw[Zy I,bυ])
 refine ro 9 O ?_;refine OK.loop (G:=Nat) [] (fun i=>[(0,.str s),(3,bv i)]) (fun i=>i<=R s/\fO b6 0 s=fO b6 i (s.drop i)) (fun i=>R s - i) 0 ⟨Zr _,O⟩ ⟨O,O,Zo⟩ (fun _=>O) ?_;rintro i ⟨hi,a⟩;refine ro 9 O (kB O (fun o=>?_) (fun o=>?_))
 ·have r:i<R s:=by omega
  refine ro 8 O (kc (S.fJ fR .none O (zt O) (zt O) O I) ?_);refine rr 3 O ?_;refine OK.join (G:=Bool) [] (fun b=>[(0,.str s),(3,bv i),(4,.int .u8 (s[i].toNat:Int)),(5,.bool b)]) (fun b=>(b=true)=((97<=(s[i].toNat:Int)/\(s[i].toNat:Int)<=122)\/(65<=(s[i].toNat:Int)/\(s[i].toNat:Int)<=90))) (fun _=>O) ?_ ?_
  ·refine ro 4 O (RK.bh (t:=25) O (fun l=>?_) (fun l=>?_))
   ·refine rr 4 O (RK.bh (t:=29) O (fun k=>?_) (fun k=>?_))
    ·refine rr 9 O (Ab.D.lp ⟨_,?_,O,O,O,O,Zo⟩)
     first|(refine propext ⟨fun _=>?_,fun _=>rfl⟩;omega;done)|(rw[tm];exact propext ⟨fun h=>by omega,fun h=>by omega⟩)|(refine propext ⟨fun h=>(by cases h),fun h=>?_⟩;exfalso;omega;done)
    refine rr 3 O (RK.bh (t:=32) O (fun d=>?_) (fun d=>?_))
    ·refine rr 6 O (Ab.D.lp ⟨_,?_,O,O,O,O,Zo⟩)
     first|(refine propext ⟨fun _=>?_,fun _=>rfl⟩;omega;done)|(rw[tm];exact propext ⟨fun h=>by omega,fun h=>by omega⟩)|(refine propext ⟨fun h=>(by cases h),fun h=>?_⟩;exfalso;omega;done)
    refine rr 6 O (Ab.D.lp ⟨_,?_,O,O,O,O,Zo⟩)
    first|(refine propext ⟨fun _=>?_,fun _=>rfl⟩;omega;done)|(rw[tm];exact propext ⟨fun h=>by omega,fun h=>by omega⟩)|(refine propext ⟨fun h=>(by cases h),fun h=>?_⟩;exfalso;omega;done)
   refine rr 7 O (RK.bh (t:=32) O (fun d=>?_) (fun d=>?_))
   ·refine rr 6 O (Ab.D.lp ⟨_,?_,O,O,O,O,Zo⟩)
    first|(refine propext ⟨fun _=>?_,fun _=>rfl⟩;omega;done)|(rw[tm];exact propext ⟨fun h=>by omega,fun h=>by omega⟩)|(refine propext ⟨fun h=>(by cases h),fun h=>?_⟩;exfalso;omega;done)
   refine rr 6 O (Ab.D.lp ⟨_,?_,O,O,O,O,Zo⟩)
   first|(refine propext ⟨fun _=>?_,fun _=>rfl⟩;omega;done)|(rw[tm];exact propext ⟨fun h=>by omega,fun h=>by omega⟩)|(refine propext ⟨fun h=>(by cases h),fun h=>?_⟩;exfalso;omega;done)
  rintro b q;refine ro 3 O (kc (S.not .none O (zt O)) (jm O (RK.split (t:=39) O (fun c=>?_) (fun c=>?_))))
  ·have e:¬((97<=(s[i].toNat:Int)/\(s[i].toNat:Int)<=122)\/(65<=(s[i].toNat:Int)/\(s[i].toNat:Int)<=90)):=by
    rw[←q];simpa using c
   refine rr 3 O (RK.bh (t:=42) O (fun j=>?_) (fun j=>?_))
   ·refine rr 20 O (kR O O ?_)
    first|(exact oY I a (by simp only[b6,wa,a8,ul];omega))|(refine ew ?_;rw[bS];rw[Zy I,bυ])
   refine rr 3 O (RK.bh (t:=45) O (fun g=>?_) (fun g=>?_))
   ·refine rr 3 O (RK.bh (t:=48) O (fun f=>?_) (fun f=>?_))
    ·refine rr 14 O (kR O O ?_)
     first|(exact oY I a (by simp only[b6,wa,a8,ul];omega))|(refine ew ?_;rw[bS];rw[Zy I,bυ])
    refine rr 8 O (kB O (fun n=>?_) (fun n=>?_))
    ·refine ro 5 O (kR O O ?_)
     first|(exact oY I a (by simp only[b6,wa,a8,ul];omega))|(refine ew ?_;rw[bS];rw[Zy I,bυ])
    refine Ro 8 O I (Ab.D.lp ⟨i+1,⟨by omega,?_⟩,I,O,O,Zo⟩);exact oZ I a (by simp only[b6,ti,Zw,aζ];omega)
   refine Rr 20 O I (Ab.D.lp ⟨i+1,⟨by omega,?_⟩,I,O,O,Zo⟩);exact oZ I a (by simp only[b6,ti,Zw,aζ];omega)
  have e:(97<=(s[i].toNat:Int)/\(s[i].toNat:Int)<=122)\/(65<=(s[i].toNat:Int)/\(s[i].toNat:Int)<=90):=by
   rw[←q];simpa using c
  refine Rr 26 O I (Ab.D.lp ⟨i+1,⟨by omega,?_⟩,I,O,O,Zo⟩);exact oZ I a (by simp only[b6,ti,Zw,aζ];omega)
 refine ro 7 O (kR O O ?_);have:i=R s:=by omega
 subst this;rw[no,fO]at a;refine ew ?_;rw[bS,a,tn,Zz I]
def ny{l:List ba}{s:ba}:Ct prog 84 [texts l,.str s] (.bool (jJ l s)):=by
 refine cI func84 O (OK.eW (rows:=l.map (fun s=>[.str s])) (t:=0) O O fun hlen=>?_);rw[Zx]at hlen;unfold maxLen at hlen;refine ro 12 O ?_;refine OK.loop (G:=Nat) [] (fun i=>[(0,texts l),(1,.str s),(5,bv i)]) (fun i=>i<=R l/\jJ l s=jJ (l.drop i) s) (fun i=>R l - i) 0 ⟨Zr _,O⟩ ⟨O,O,O,Zo⟩ (fun _=>O) ?_;rintro i ⟨hi,b⟩;refine ro 5 O (kc (zk Z2 O) (rr 3 O (kB O (fun c=>?_) (fun c=>?_))))
 ·refine ro 8 O (kc (zI Z2 O I O) ?_);refine rr 5 O (kB O (fun a=>?_) (fun a=>?_))
  ·refine ro 5 O (kR O O ?_);refine ew ?_;rw[b,jJ,xo _ I,Zz a.symm,cυ]
  refine Ro 8 O I (Ab.D.lp ⟨i+1,⟨by omega,?_⟩,I,O,O,O,Zo⟩);rw[b,jJ,xo _ I,Zy (fun e=>a e.symm),Bool.false_or];rfl
 refine ro 7 O (kR O O ?_);have:i=R l:=by omega
 subst this;rw[b,no];rfl
def Dn{p:bC}{i:Nat}{s:ba}(hi:i<=R p.aq):Ct prog 245 [bv i,.str s,.b5 p.cs] (bv (cj p.aq i s)):=by
 refine cI func245 O (ro 6 O ?_);refine kV (.c (zm O) (.c (zK yx call246 O) (.c (zK aT call243 O) (.c (S.field VN .none O (zt O) O) (.c (zV SO O O) (.c (zm O) (.c (S.slice (hi:=i) (l':=p.aq.take i) Z2 (fun _=>O) .none O (zt O) (.inl ⟨O,O,O⟩) (.inr ⟨_,_,O,(zt O),O⟩) (Zr _) hi O) (.c (zm O) (.c (zK mS call188 O) (.c (S.not .none O (zt O)) (.c (zK aT call243 O) (.c (zM [[_],[_]] Zc O O O O) (.c (S.callL (cC (l:=[_,_])) call242 .none O (zc O .nil) (.cons (.p (.own O O) O) .nil) O) (.c (za O) .nil)))))))))))))) ?_;refine Ab.D.code (kR O O ?_);refine cy ?_;unfold cj jJ;cases bS s<;>cases ((p.aq.take i).any fun x=>decide (s=x))<;>rfl
end Go.Proofs.Z9
namespace Go.Proofs.Z9
open Go.Ab Tryz
def iR{α:Type}(g:α->Bool):Nat->List α->Option Nat
 |_,[]=>none
 |i,x::l=>if g x then some i else iR g (i+1) l
abbrev ix{α:Type}(g:α->Bool)(l:List α):Option Nat:=iR g 0 l
def gL{α:Type}(g:α->Bool){l:List α}{i:Nat}(h:i<R l):iR g i (l.drop i)=if g l[i]then some i else iR g (i+1) (l.drop (i+1)):=by
 rw[np h,iR]
def tH{α:Type}(g:α->Bool):∀(l:List α)(i j:Nat),iR g i l=some j->i<=j/\∃x,l[j - i]?=some x/\g x=true
 |[],_,_,h=>by cases h
 |x::l,i,j,h=>by
  rw[iR]at h;split at h
  ·simp_all
  obtain⟨c,y,b,a⟩:=tH g l (i+1) j h;grind
theorem eE{α:Type}{g:α->Bool}{l:List α}{j:Nat}(h:ix g l=some j):∃a:j<R l,g l[j]=true:=by
 obtain⟨_,x,c,b⟩:=tH g l 0 j h;grind
def HA.cb(A:HA)(i:Nat):Nat:=(A.aC[i]?.map fk.b).getD 0
def HA.vb(A:HA)(i:Nat):Nat:=(A.aU[i]?.map jT.b).getD 0
def HA.pb_at{A:HA}{i:Nat}(h:i<R A.parts):A.pb i=A.parts[i].b:=by rw[HA.pb,Zv h];rfl
def HA.Ch{A:HA}{i:Nat}(h:i<R A.aC):A.cb i=A.aC[i].b:=by rw[HA.cb,Zv h];rfl
def HA.HV{A:HA}{i:Nat}(h:i<R A.aU):A.vb i=A.aU[i].b:=by rw[HA.vb,Zv h];rfl
def rW(f:Nat->Nat)(o:Option Nat):Value:=.pointer (o.map fun j=>⟨f j,0,none⟩)
def DT{f:Nat->Nat}{b i:Nat}{o:Option Nat}(h:o=some i)(a:f i=b):X.raw (pV b)=X.raw (rW f o):=by subst h;subst a;rfl
def zj{f:Nat->Nat}{o:Option Nat}(h:o=none):X.raw (.pointer none)=X.raw (rW f o):=by subst h;rfl
def gE(p:Part):Bool:=decide (p.place=0)||decide (p.place=1)
def Ac(p:Part):Bool:=decide (p.place=1)&&p.lP&&decide (p.verdict=0)&&!p.marked
def cv{n lo hi:Int}:Ct prog 97 [bv n,bv lo,bv hi] (.bool (decide (lo<=n/\n<=hi))):=by
 refine cI func97 O (ro 11 O (RK.bh (t:=10) O (fun a=>?_) (fun a=>?_)))
 ·refine rr 7 O (kR O O ?_);simp[*]
 refine rr 7 O (kR O O ?_);simp[*]
def ak{ok:Bool}{e:Int}:Ct prog 96 [.bool ok,bv e] (bv (ae ok e)):=by
 refine cI func96 O (ro 11 O (OK.cond O O (fun a=>?_) (fun a=>?_)))
 ·refine ro 5 O (kR O O ?_);simp[ae, *]
 refine ro 8 O (kR O O ?_);simp[ae, *]
def bF{l:bd}:Ct prog 76 [ints l] (bv (aF l)):=by
 refine cI func76 O (OK.eW (rows:=l.map fun n=>[bv n]) (t:=0) O O fun hlen=>?_);rw[Zx]at hlen;unfold maxLen at hlen;refine ro 9 O (kc (zk UU O) (rr 4 O ?_));refine OK.loop (G:=Nat) [] (fun i=>[(5,ints l),(6,bv (R l)),(7,bv i)]) (fun i=>i<=R l/\aF l=aF (l.drop i)) (fun i=>R l - i) 0 ⟨Zr _,O⟩ ⟨O,O,O,Zo⟩ (fun _=>O) ?_;rintro i ⟨hi,a⟩;refine ro 6 O (kB O (fun c=>?_) (fun c=>?_))
 ·refine ro 6 O (kc (zI UU O I O) ?_);refine rr 10 O (kB O (fun b=>?_) (fun b=>?_))
  ·refine ro 6 O (kR O O ?_);rw[a,fq I];simp_all
  refine Ro 7 O I (Ab.D.lp ⟨i+1,⟨by omega,?_⟩,I,O,O,O,Zo⟩);rw[a,fq I];simp_all
 refine ro 7 O (kR O O ?_);have:i=R l:=by omega
 subst this;rw[a,no];rfl
def xn{i:Nat}{c:UInt8}:Ct prog 185 [bv i,.int .u8 (c.toNat:Int)] (.bool (!b6 i c)):=by
 refine cI func185 O fun{_ _}=>?_
 have g:=mz c;refine ro 8 O ?_;refine kc (S.conv .none O (zt O) underlying5 underlying3 (mn _ I) (mn _ I)) (kc (zK cv call97 O) (jm O (RK.bh (t:=9) O (fun f=>?_) (fun f=>?_))))
 ·refine rr 10 O (kc (S.not .none O (zt O)) (rr 17 O (kR O O ?_)));refine ew ?_;cases a:b6 i c<;>simp only[b6,ti,Zw,wa,a8,tm,ul]at a<;>simp<;>omega
 refine kc (S.move (zg O O) O (zt O)) (kc (S.conv (zg O O) O (zt O) underlying5 underlying3 (mn _ I) (mn _ I)) (kc (S.call (cv) call97 (zg O O) O (zc O (zC O (zD O))) O) ?_));refine rr 7 O (kc (S.jP .none O (zt O)) (jm O (RK.bh (t:=16) O (fun e=>?_) (fun e=>?_))))
 ·refine rr 3 O (RK.bh (t:=19) O (fun d=>?_) (fun d=>?_))
  ·refine rr 13 O (kR O O ?_);refine ew ?_;cases a:b6 i c<;>simp only[b6,ti,Zw,wa,a8,tm,ul]at a<;>simp<;>omega
  refine rr 3 O (RK.bh (t:=22) O (fun b=>?_) (fun b=>?_))
  ·refine kc (S.move (zg O O) O (zt O)) (kc (S.conv (zg O O) O (zt O) underlying5 underlying3 (mn _ I) (mn _ I)) (kc (S.call (cv) call97 (zg O O) O (zc O (zC O (zD O))) O) (kc (S.jP (zg O O) O (zt O)) ?_)));refine rr 6 O (kR O O ?_);refine ew ?_;cases a:b6 i c<;>simp only[b6,ti,Zw,wa,a8,tm,ul]at a<;>simp<;>omega
  refine rr 10 O (kR O O ?_);refine ew ?_;cases a:b6 i c<;>simp only[b6,ti,Zw,wa,a8,tm,ul]at a<;>simp<;>omega
 refine rr 16 O (kR O O ?_);refine ew ?_;cases a:b6 i c<;>simp only[b6,ti,Zw,wa,a8,tm,ul]at a<;>simp<;>omega
def jA{s:ba}:Ct prog 138 [.str s] (.bool (bS s)):=by
 refine cI func138 O (OK.ux (t:=0) (z:=s) O O fun hlen=>?_);unfold maxLen at hlen;refine ro 7 O (kc (S.assign .none O .oL) (rr 11 O ?_));refine OK.loop (G:=Nat) [] (fun i=>[(0,.str s),(3,.fn 185 []),(6,bv (R s)),(7,bv i)]) (fun i=>i<=R s/\fO b6 0 s=fO b6 i (s.drop i)) (fun i=>R s - i) 0 ⟨Zr _,O⟩ ⟨O,O,O,O,Zo⟩ (fun _=>O) ?_;rintro i ⟨hi,b⟩;refine ro 6 O (kB O (fun e=>?_) (fun e=>?_))
 ·have d:i<R s:=I
  refine ro 16 O (kc (S.fJ (n:=i) fR .none O (zt O) (zt O) O I) (kc (S.ij (xn (i:=i) (c:=s[i])) call185 .none O (zt O) (zc O (zc O .nil)) O O O) (kD (OK.cond O O (fun a=>?_) (fun a=>?_)))))
  ·refine ro 5 O (kR O O ?_);exact oY I b (by simpa using a)
  refine Ro 7 O I ?_;refine Ab.D.lp ⟨i+1,⟨I,oZ I b (by simpa using a)⟩,I,O,O,O,O,Zo⟩
 refine ro 6 O (kc (zK cv call97 O) (rr 3 O (kR O O ?_)));rw[show bS s=decide (1<=(R s:Int)/\(R s:Int)<=12)by rw[bS,b,show i=R s by omega,no];rfl]
def qY{A:HA}{m:Int}(a:A.Ok m){n:Int}{J:bm}(l:aZ J)(g:∀h Y w,J h Y w->aa A.mem h Y w):dF prog 137 [] [.raw (pV A.b),.int .i64 n] [(3000,.res J)] [(3000,.res J)] (.raw (rW A.pb (ix (fun v=>decide (v.p.num=n)) A.parts))):=by
 refine cG func137 O fun{_ _}=>?_
 have j:=a.m0;have hle:=a.lp;refine kr (kc (S.assign .none O .lq) (rr 8 O (kc (zH (u:=.sl (A.parts.map iA)) Yg O (td g (aa.dQ (k:=.bn) O O (.sl a.ps)))) (kc (zk Yy O) (rr 4 O ?_)))));refine OK.loop (G:=Nat) [] (fun i=>[(0,.raw (pV A.b)),(10,.sl (A.parts.map iA)),(11,bv (R A.parts)),(12,bv i),(3000,.res J),(1,bv n)]) (fun i=>i<=R A.parts/\ix (fun v=>decide (v.p.num=n)) A.parts=iR (fun v=>decide (v.p.num=n)) i (A.parts.drop i)) (fun i=>R A.parts - i) 0 ⟨Zr _,O⟩ ⟨O,O,O,O,O,O,Zo⟩ (fun _=>O) ?_;rintro i ⟨hi,d⟩;refine ro 6 O (kB O (fun f=>?_) (fun f=>?_))
 ·have c:i<R A.parts:=by omega
  refine ro 6 O (kc (zI Yy O I O) ?_);refine rr 10 O ?_;refine kc (zH Z8 O (td g (aa.dQ (k:=.p i) (HA.Iz c) O (.same _)))) ?_;refine rr 4 O (kB O (fun e=>?_) (fun e=>?_))
  ·refine ro 6 O (OK.ret ⟨aA.r1 (zo O O) ?_,O,Zo⟩);refine DT (i:=i) ?_ (HA.pb_at c);rw[d,gL _ I];simp_all
  refine Ro 7 O I (Ab.D.lp ⟨i+1,⟨by omega,?_⟩,I,O,O,O,O,O,O,Zo⟩);rw[d,gL _ I];simp_all
 refine ro 4 O (kc (S.assign .none O .lq) (kD (OK.ret ⟨aA.r1 (zo O O) ?_,O,Zo⟩)));refine zj ?_;have:i=R A.parts:=by omega
 subst this;rw[d,no];rfl
def qJ{A:HA}{m:Int}(a:A.Ok m){n:ba}{J:bm}(o:aZ J)(j:∀h Y w,J h Y w->aa A.mem h Y w):dF prog 134 [] [.raw (pV A.b),.str n] [(3000,.res J)] [(3000,.res J)] (.raw (rW A.cb (ix (fun v=>decide (v.c.name=n)) A.aC))):=by
 refine cG func134 O fun{_ _}=>?_
 have l:=a.m0;have hle:=a.lc;refine kr (kc (S.assign .none O .lq) (rr 8 O (kc (zH (u:=.sl (A.aC.map cRow)) QS O (td j (aa.dQ (k:=.bn) O O (.sl a.cs)))) (kc (zk LP O) (rr 4 O ?_)))));refine OK.loop (G:=Nat) [] (fun i=>[(0,.raw (pV A.b)),(10,.sl (A.aC.map cRow)),(11,bv (R A.aC)),(12,bv i),(3000,.res J),(1,.str n)]) (fun i=>i<=R A.aC/\ix (fun v=>decide (v.c.name=n)) A.aC=iR (fun v=>decide (v.c.name=n)) i (A.aC.drop i)) (fun i=>R A.aC - i) 0 ⟨Zr _,O⟩ ⟨O,O,O,O,O,O,Zo⟩ (fun _=>O) ?_;rintro i ⟨hi,e⟩;refine ro 6 O (kB O (fun g=>?_) (fun g=>?_))
 ·have d:i<R A.aC:=by omega
  refine ro 6 O (kc (zI LP O I O) ?_);refine rr 10 O ?_;refine kc (zH Y9 O (td j (aa.dQ (k:=.c i) (HA.Jh d) O (.same _)))) ?_;refine rr 4 O (kB O (fun f=>?_) (fun f=>?_))
  ·refine ro 6 O (OK.ret ⟨aA.r1 (zo O O) ?_,O,Zo⟩);refine DT (i:=i) ?_ (HA.Ch d);rw[e,gL _ I];simp_all
  refine Ro 7 O I (Ab.D.lp ⟨i+1,⟨by omega,?_⟩,I,O,O,O,O,O,O,Zo⟩);rw[e,gL _ I];simp_all
 refine ro 4 O (kc (S.assign .none O .lq) (kD (OK.ret ⟨aA.r1 (zo O O) ?_,O,Zo⟩)));refine zj ?_;have:i=R A.aC:=by omega
 subst this;rw[e,no];rfl
def lg{A:HA}{m:Int}(a:A.Ok m){J:bm}(l:aZ J)(g:∀h Y w,J h Y w->aa A.mem h Y w):dF prog 198 [] [.raw (pV A.b)] [(3000,.res J)] [(3000,.res J)] (.raw (rW A.pb (ix (fun v=>decide (v.p.place=0)) A.parts))):=by
 refine cG func198 O fun{_ _}=>?_
 have j:=a.m0;have hle:=a.lp;refine kr (kc (S.assign .none O .lq) (rr 8 O (kc (zH (u:=.sl (A.parts.map iA)) Yg O (td g (aa.dQ (k:=.bn) O O (.sl a.ps)))) (kc (zk Yy O) (rr 4 O ?_)))));refine OK.loop (G:=Nat) [] (fun i=>[(0,.raw (pV A.b)),(8,.sl (A.parts.map iA)),(9,bv (R A.parts)),(10,bv i),(3000,.res J)]) (fun i=>i<=R A.parts/\ix (fun v=>decide (v.p.place=0)) A.parts=iR (fun v=>decide (v.p.place=0)) i (A.parts.drop i)) (fun i=>R A.parts - i) 0 ⟨Zr _,O⟩ ⟨O,O,O,O,O,Zo⟩ (fun _=>O) ?_;rintro i ⟨hi,d⟩;refine ro 6 O (kB O (fun f=>?_) (fun f=>?_))
 ·have c:i<R A.parts:=by omega
  refine ro 6 O (kc (zI Yy O I O) ?_);refine rr 10 O ?_;refine kc (zH Z8 O (td g (aa.dQ (k:=.p i) (HA.Iz c) O (.same _)))) ?_;refine rr 3 O (kB O (fun e=>?_) (fun e=>?_))
  ·refine ro 6 O (OK.ret ⟨aA.r1 (zo O O) ?_,O,Zo⟩);refine DT (i:=i) ?_ (HA.pb_at c);rw[d,gL _ I];simp_all
  refine Ro 7 O I (Ab.D.lp ⟨i+1,⟨by omega,?_⟩,I,O,O,O,O,O,Zo⟩);rw[d,gL _ I];simp_all
 refine ro 4 O (kc (S.assign .none O .lq) (kD (OK.ret ⟨aA.r1 (zo O O) ?_,O,Zo⟩)));refine zj ?_;have:i=R A.parts:=by omega
 subst this;rw[d,no];rfl
end Go.Proofs.Z9
namespace Go.Proofs.Z9
open Go.Ab Tryz
theorem jH(a b:Int):aF [a,b]=if a≠0 then a else b:=by
 grind [aF]
def y4(a b c:Int):aF [a,b,c]=if a≠0 then a else if b≠0 then b else c:=by
 grind [aF]
def ga{p:Prop}[Decidable p]{e:Int}(h:p):ae (decide p) e=0:=by simp[ae,h]
theorem gw{p:Prop}[Decidable p]{e:Int}(h:¬p):ae (decide p) e=e:=by simp[ae,h]
def tD{p:bC}(h:R p.aq=0):planChk p=(0,10):=by simp[planChk,h]
def tE{p:bC}(h:4<R p.aq):planChk p=(0,8):=by
 rw[planChk,Zm I,Zn h]
def gK{p:bC}(h:¬R p.aq=0)(a:¬4<R p.aq):
  planChk p=if(aK (cj p.aq) 0 p.aq).2≠0 then aK (cj p.aq) 0 p.aq else(0,if 1<=p.aR/\p.aR<=12 then 0 else 2):=by
 rw[planChk,Zm h,Zm a]
def wZ(p:bC):aF [ae (decide ((R p.aq:Int)>0)) 10,ae (decide ((R p.aq:Int)<=4)) 8]=if R p.aq=0 then 10 else if 4<R p.aq then 8 else 0:=by
 rw[jH];by_cases h:R p.aq=0
 ·rw[gw I,Zn h];rfl
 by_cases a:4<R p.aq
 ·rw[ga I,gw I,Zm h,Zn a];rfl
 rw[ga I,ga I,Zm h,Zm a];rfl
def planHead_ne{p:bC}(c:aF [ae (decide ((R p.aq:Int)>0)) 10,ae (decide ((R p.aq:Int)<=4)) 8]≠0):
  (0,aF [ae (decide ((R p.aq:Int)>0)) 10,ae (decide ((R p.aq:Int)<=4)) 8])=planChk p:=by
 rw[wZ]at c⊢;by_cases h:R p.aq=0
 ·rw[Zn h,tD h]
 rw[Zm h]at c⊢;by_cases a:4<R p.aq
 ·rw[Zn a,tE a]
 omega
def oU{p:bC}(c:¬aF [ae (decide ((R p.aq:Int)>0)) 10,ae (decide ((R p.aq:Int)<=4)) 8]≠0):¬R p.aq=0/\¬4<R p.aq:=by
 rw[wZ]at c;omega
def A9{α:Type}{l:List α}{i:Nat}{x:α}(h:l[i]?=some x):i<=R l:=by grind
def ff{p:Prop}[Decidable p]{e:Int}:ae (decide p) e=if p then 0 else e:=by simp only[ae,tm]
def bA(p:bC):Int:=(planChk p).2
def lH{p:bC}:Ct prog 190 [.agg p.cs] (pair (planChk p)):=by
 refine cI func190 O (ro 9 O ?_);refine kV (.c (zf VN O) (.c (zl SO O O O O) (.c (zk Z2 O) (.c (S.gtr .none O (zt O) (.af O)) (.c (zK aT call243 O) (.c (zf VN O) (.c (zl SO O O O O) (.c (zk Z2 O) (.c (S.leq .none O (zt O) (.af O)) (.c (zK aT call243 O) (.c (zM [[_],[_]] Zc O O O O) (.c (S.callL (cC (l:=[_,_])) call242 .none O (zc O .nil) (.cons (.p (.own O O) O) .nil) O) (.c (za O) .nil))))))))))))) ?_;refine rd 7 O (kB O (fun a=>?_) (fun a=>?_))
 ·refine ro 7 O (kS O O O O ?_);exact dD (planHead_ne a)
 refine ro 6 O (kc (S.dx .none O (zt O) O) (kc (S.callL (pF (l:=p.aq) (g:=cj p.aq) (caps:=[.b5 p.cs]) (fun i x f=>Dn (A9 f)) call245 ⟨O,O⟩) call244 .none O (zc O (zc O .nil)) (.cons (.same O) (.cons (.fn (.cons (.ptr O O O O) .nil)) .nil)) O) ?_));refine rr 14 O (kB O (fun b=>?_) (fun b=>?_))
 ·refine ro 8 O (kS O O O O ?_);obtain⟨e,d⟩:=oU a;refine dD ?_;rw[gK e d,Zn b]
 refine ro 6 O (kc (zK dJ call247 O) (kc (zK aT call243 O) (rr 4 O (kS O O O O ?_))));obtain⟨e,d⟩:=oU a;refine dD ?_;rw[gK e d,Zm b,ff]
end Go.Proofs.Z9
namespace Go.Proofs.Z9
open Go.Ab Tryz
def ry{p:bC}{i:Nat}(h:i<R p.aq)(a:aK (cj p.aq) 0 p.aq=aK (cj p.aq) i (p.aq.drop i)):
  aK (cj p.aq) 0 p.aq=if cj p.aq i p.aq[i]≠0 then((i:Int),cj p.aq i p.aq[i])else aK (cj p.aq) (i+1) (p.aq.drop (i+1)):=by
 rw[a,bE _ h]
def u9(p:bC)(l:bd):aF [ae (decide ((R l:Int)=R p.aq)) 10,ae (!l.any fun x=>!isVal x) 2]=eM p l:=by
 grind [jH,eM,ae]
def gX:Nat->List Row->bd
 |_,[]=>[]
 |i,x::l=>if x.known=true then gX (i+1) l else(i:Int)::gX (i+1) l
def oV{l:List Row}{i:Nat}(h:i<R l):gX i (l.drop i)=if l[i].known=true then gX (i+1) (l.drop (i+1))else(i:Int)::gX (i+1) (l.drop (i+1)):=by
 rw[np h,gX]
def wB(r:aX):bd:=gX 0 r.rows
theorem RI{α:Type}(g:α->Bool){l:List α}{i:Nat}(h:i<R l):(l.drop i).all g=(g l[i]&&(l.drop (i+1)).all g):=by
 rw[np h,so]
theorem tF{α:Type}{l:List α}{i:Nat}(h:i<R l):l.take i++[l[i]]=l.take (i+1):=F
def SS{p:bC}{l:bd}{i:Nat}(h:i<R l)(b:R l=R p.aq)(c:l.all isVal=(l.drop i).all isVal)(a:¬(-1000000<=l[i]/\l[i]<=1000000)):eM p l=2:=by
 grind [isVal,eM,RI]
def SU{l:bd}{i:Nat}(h:i<R l)(b:l.all isVal=(l.drop i).all isVal)(a: -1000000<=l[i]/\l[i]<=1000000):l.all isVal=(l.drop (i+1)).all isVal:=by
 simp_all[isVal,RI]
def sj{p:bC}:Ct prog 120 [.agg p.cs] (pair (planChk p)):=by
 refine cI func120 O (ro 12 O (kc (zk Z2 O) (rr 3 O (kB O (fun j=>?_) (fun j=>?_)))))
 ·refine ro 6 O (kS O O O O ?_);exact dD (tD I).symm
 refine ro 7 O (kc (zk Z2 O) (rr 3 O (kB O (fun h=>?_) (fun h=>?_))))
 ·refine ro 6 O (kS O O O O ?_);exact dD (tE I).symm
 refine ro 9 O ?_;refine OK.loop (G:=Nat) [1] (fun i=>[(1,.ptr 1 0),(4,bv i),(1001,.box p.cs)]) (fun i=>i<=R p.aq/\aK (cj p.aq) 0 p.aq=aK (cj p.aq) i (p.aq.drop i)) (fun i=>R p.aq - i) 0 ⟨Zr _,O⟩ ⟨O,O,O,Zo⟩ (fun _=>O) ?_;rintro i ⟨hi,b⟩;refine ro 6 O (kc (zk Z2 O) (rr 3 O (kB O (fun g=>?_) (fun g=>?_))))
 ·refine ro 10 O (kc (zI Z2 O I O) (kc (zV Y9 O O) (kc (zK oW call125 O) (kc (S.not .none O (zt O)) (kD (OK.cond O O (fun a=>?_) (fun a=>?_)))))))
  ·refine ro 7 O (kS O O O O ?_);have e:cj p.aq i p.aq[i]=4:=by rw[cj,Zn (by simpa using a)]
   refine dD ?_;rw[gK I I,ry I b,e];rfl
  refine ro 3 O ?_;refine kV (.c (zf VN O) (.c (zl SO O O O O) (.c (zm O) (.c (S.slice (hi:=i) (l':=p.aq.take i) Z2 (fun _=>O) .none O (zt O) (.inl ⟨O,O,O⟩) (.inr ⟨_,_,O,(zt O),O⟩) (Zr _) I O) (.c (zf VN O) (.c (zl SO O O O O) (.c (zm O) (.c (zI Z2 O I O) (.c (zV Y9 O O) (.c (zK ny call84 O) .nil)))))))))) ?_;refine Ab.D.code (OK.cond O O (fun d=>?_) (fun d=>?_))
  ·refine ro 7 O (kS O O O O ?_);have e:cj p.aq i p.aq[i]=5:=by rw[cj,Zm (by simpa using a),Zn d]
   refine dD ?_;rw[gK I I,ry I b,e];rfl
  refine Ro 8 O I (Ab.D.lp ⟨i+1,⟨by omega,?_⟩,I,O,O,O,Zo⟩);have e:cj p.aq i p.aq[i]=0:=by rw[cj,Zm (by simpa using a),Zm (by simp[d])]
  rw[ry I b,e];rfl
 refine ro 7 O (kc (zK gx call33 O) (kc (S.jP .none O (zt O)) (kD (kB O (fun f=>?_) (fun f=>?_)))))
 ·refine ro 6 O (kS O O O O ?_);have:i=R p.aq:=by omega
  rw[this,no,aK]at b;refine dD ?_;rw[gK I I,b,Zm F,Zm f]
 refine ro 8 O (kS O O O O ?_);have:i=R p.aq:=by omega
 rw[this,no,aK]at b;refine dD ?_;rw[gK I I,b,Zm F,Zn I]
def w6{p:bC}:Ct prog 85 [.agg p.cs] (bv (bA p)):=by
 refine cI func85 O (ro 9 O (kc (zK sj call120 O) (rr 13 O (kR O O ?_))));rfl
def ng{p:bC}:Ct prog 254 [.agg p.cs] (.cf [.agg p.cs,bv (bA p)]):=by
 refine cI func254 O (ro 10 O (kc (zK lH call190 O) (rr 10 O (kc (zU bu348 O O) (rr 5 O (kT O O Q3 O O O ?_))))));rfl
def E1{n:Int}:Ct prog 344 [bv n] (.bool (!isVal n)):=by
 refine cI func344 O (ro 8 O (kc (zK iz call345 O) (kc (S.jP .none O (zt O)) (rr 3 O (kR O O ?_)))));exact ew (by simp only[isVal,decide_not])
def lJ{p:bC}{l:bd}:Ct prog 299 [.agg p.cs,ints l] (bv (eM p l)):=by
 refine cI func299 O (ro 9 O ?_);refine kc (S.call (oA (l:=l) (g:=fun n=>!isVal n) (caps:=[]) (fun x _=>E1) call344 ⟨O,O⟩) call343 .none O (zc O (.cons .oL .nil)) O) ?_;refine rr 6 O (kc (zk Z4 O) (rr 3 O (kc (zk Z2 O) (kc (S.eql .none O (zt O) (zt O)) (kc (zK aT call243 O) (jm O (kc (S.not .none O (zt O)) (kc (zK aT call243 O) ?_))))))));refine RK.c (zM [[_],[_]] Zc O O O O) (kc (S.callL (cC (l:=[_,_])) call242 .none O (zc O .nil) (.cons (.p (.own O O) O) .nil) O) ?_);refine rr 3 O (kR O O ?_);exact cy (u9 p l)
def E2{p:bC}{i:Nat}{x:Row}:Ct prog 351 [bv i,.agg x.cs,.b5 p.cs] (bv (Y5 p x)):=by
 refine cI func351 O (ro 11 O (kc (S.not .none O (zt O)) (kD (OK.cond O O (fun a=>?_) (fun a=>?_)))))
 ·refine ro 4 O (kc (zk Z4 O) (kc (zE O O) (kc (zK aT call243 O) (rr 3 O (kR O O ?_)))));refine cy ?_;rw[Y5,Zm (by simpa using a),ff];split<;>split<;>omega
 refine ro 7 O (kc (zK lJ call299 O) (rr 3 O (kR O O ?_)));refine cy ?_;rw[Y5,Zn (by simpa using a)]
def lI{p:bC}{r:aX}:Ct prog 301 [.agg p.cs,.agg r.cs] (pair (gB p r)):=by
 refine cI func301 O (ro 13 O (kc (zk Za O) (rr 6 O (kB O (fun a=>?_) (fun a=>?_)))))
 ·refine ro 6 O (kS O O O O ?_);refine dD ?_;rw[gB,Zn a]
 refine ro 6 O (kc (S.dx .none O (zt O) O) ?_);refine kc (S.callL (Dp (l:=r.rows) (g:=fun _ x=>Y5 p x) (caps:=[.b5 p.cs]) (fun i x _=>E2) call351 ⟨O,O⟩) call350 .none O (zc O (zc O .nil)) (.cons (.same O) (.cons (.fn (.cons (.ptr O O O O) .nil)) .nil)) O) ?_;refine rr 6 O (kS O O O O ?_);refine dD ?_;rw[gB,Zm a]
def wD{r:aX}(hlen:R r.rows<=100000):Ct prog 258 [.agg r.cs] (ints (wB r)):=by
 refine cI func258 O (ro 3 O (kc (S.assign .none O .fW) (rr 4 O (RK.c (S.iI (k:=3) (sz:=1) .none O) (rr 7 O (kc (zk Za O) (rr 4 O ?_)))))));refine OK.mP [3] (fun(i:Nat)(out:bd)=>[(3,.own 3 (R out)),(2003,.arr 1 (out.map fun n=>[bv n])),(7,.sl (r.rows.map Row.cs)),(8,bv (R r.rows)),(9,bv i)]) (fun i out=>i<=R r.rows/\R out<=i/\wB r=out++gX i (r.rows.drop i)) (fun i out=>R r.rows - i) (0) ([]) ⟨Zr _,Zq _,O⟩ ⟨(cw N),(bH N),O,O,O,Zo⟩ (fun _ _=>O) ?_;rintro i out ⟨hi,e,b⟩;refine ro 6 O (kB O (fun d=>?_) (fun d=>?_))
 ·refine ro 7 O (kc (zI Za O I O) ?_);refine rr 10 O (kc (S.not .none O (zt O)) (kD (OK.cond O O (fun a=>?_) (fun a=>?_))))
  ·refine ro 3 O ?_;refine RK.c (zM [[_]] ZM O O O O) ?_;refine kc (zP ZM O O F N I (by simp only[maxLen];omega)) ?_;refine Rr 8 O I ?_;refine Ab.D.lp ⟨i+1,out++[(i:Int)],⟨by omega,by first|omega|(simp only[Zs,tt,aυ];omega),?_⟩,I,(cw N),(bH N),O,O,O,Zo⟩;rw[b,oV I,Zm (by simpa using a),m7,aδ]
  refine Ro 7 O I ?_;refine Ab.D.lp ⟨i+1,out,⟨by omega,by first|omega|(simp only[Zs,tt,aυ];omega),?_⟩,I,(cw N),(bH N),O,O,O,Zo⟩;rw[b,oV I,Zn (by simpa using a)]
 refine ro 8 O ?_;refine OK.ret (aA.r1 (.tmp O O (.c (.own O O N) O) O) ?_);have:i=R r.rows:=by omega
 subst this;rw[b,no,gX,i8];rfl
def Ox{r:aX}(hlen:R r.rows<=100000):Ct prog 277 [.agg r.cs] (ints (wB r)):=by
 refine cI func277 O (ro 3 O (kc (S.assign .none O .fW) (rr 4 O (RK.c (S.iI (k:=3) (sz:=1) .none O) (rr 9 O ?_)))));refine OK.mP [1,3] (fun(i:Nat)(out:bd)=>[(1,.ptr 1 0),(1001,.box r.cs),(3,.own 3 (R out)),(2003,.arr 1 (out.map fun n=>[bv n])),(4,bv i)]) (fun i out=>i<=R r.rows/\R out<=i/\wB r=out++gX i (r.rows.drop i)) (fun i out=>R r.rows - i) (0) ([]) ⟨Zr _,Zq _,O⟩ ⟨O,O,(cw N),(bH N),O,Zo⟩ (fun _ _=>O) ?_;rintro i out ⟨hi,e,b⟩;refine ro 6 O (kc (zk Za O) (rr 3 O (kB O (fun d=>?_) (fun d=>?_))))
 ·refine ro 9 O (kc (zI Za O I O) ?_);refine rr 2 O (kc (S.not .none O (zt O)) (kD (OK.cond O O (fun a=>?_) (fun a=>?_))))
  ·refine ro 3 O ?_;refine RK.c (zM [[_]] ZM O O O O) ?_;refine kc (zP ZM O O N N I (by simp only[maxLen];omega)) ?_;refine Rr 9 O I ?_;refine Ab.D.lp ⟨i+1,out++[(i:Int)],⟨by omega,by first|omega|(simp only[Zs,tt,aυ];omega),?_⟩,I,O,O,(cw N),(bH N),O,Zo⟩;rw[b,oV I,Zm (by simpa using a),m7,aδ]
  refine Ro 8 O I ?_;refine Ab.D.lp ⟨i+1,out,⟨by omega,by first|omega|(simp only[Zs,tt,aυ];omega),?_⟩,I,O,O,(cw N),(bH N),O,Zo⟩;rw[b,oV I,Zn (by simpa using a)]
 refine ro 8 O ?_;refine OK.ret (aA.r1 (.tmp O O (.c (.own O O N) O) O) ?_);have:i=R r.rows:=by omega
 subst this;rw[b,no,gX,i8];rfl
end Go.Proofs.Z9
namespace Go.Proofs.Z9
open Go.Ab Tryz
def XD{l:bd}(hlen:R l<=100000):Ct prog 221 [.sl (l.map (fun n=>[bv n]))] (.sl (l.map (fun n=>[bv n]))):=by
 refine cI func221 O (kr (kc (S.assign .none O .fW) (rr 4 O (RK.c (zM [] ZM O O O O) (jm O ?_)))));refine RK.c (S.mQ ZM .none O (zt O) O N (zt O) (by intro q a;obtain⟨b,_,rfl⟩:=rx.1 a;rfl) O (by simp only[Zx];omega) (by simp only[maxLen,Zx];omega)) ?_;refine rr 3 O ?_;refine OK.ret (aA.r1 (.tmp O O (.c (.own O O N) O) O) ?_);rfl
end Go.Proofs.Z9
namespace Go.Proofs.Z9
open Go.Ab Tryz
def xV:tP prog 70:=⟨fun blk off cap a w d c b=>slices_Sort_int blk off cap a w d c b,fun p cap w=>slices_Sort_int_none p cap w⟩
def qK(zs:bd):R (zs.mergeSort fun x y=>decide (x<=y))=R zs:=F
