import Derived.Test.YtkkbjdenehfpaaaGreatDoorHzN
set_option linter.all false
open List renaming length->R
namespace Go.Ab
open Go.RowKit
/-! Plain steps by one law:what an operation does is reckoned from the state. -/
def lk{α:Type}:List (Nat×α)->Nat->Option α
 |[],_=>none
 |p::l,k=>match Nat.beq p.1 k with
  |true=>some p.2
  |false=>lk l k
def lk2{α:Type}:List (Nat×Nat×α)->Nat->Nat->Option α
 |[],_,_=>none
 |p::l,k,j=>match Nat.beq p.1 k&&Nat.beq p.2.1 j with
  |true=>some p.2.2
  |false=>lk2 l k j
structure TB where
 str:List (Nat×Unit)
 ty:List (Nat×Bool×Nat)
 fi:List (Nat×Nat×Nat)
 zeX:List<|Nat×bi
def AlR{α:Type}(R:α->Prop):List α->Prop
 |[]=>True
 |x::l=>R x/\AlR R l
def AlR.lk{α:Type}{R:Nat×α->Prop}{l:List<|Nat×α}(h:AlR R l){k:Nat}{x:α}(e:lk l k=some x):R (k,x):=by
 induction l with
 |nil=>cases e
 |cons p l a=>
  rw[Ab.lk]at e;split at e
  ·rename_i c;cases e;rw[←Nat.eq_of_beq_eq_true c];exact h.1
  exact a h.2 e
def AlR.lk2{α:Type}{R:Nat×Nat×α->Prop}{l:List<|Nat×Nat×α}(h:AlR R l){k j:Nat}{x:α}(e:lk2 l k j=some x):R (k,j,x):=by
 induction l with
 |nil=>cases e
 |cons p l c=>
  rw[Ab.lk2]at e;split at e
  ·rename_i a;rw[Zw]at a;cases e;rw[←Nat.eq_of_beq_eq_true a.1,←Nat.eq_of_beq_eq_true a.2];exact h.1
  exact c h.2 e
structure TB.Ok(P:Program)(b:TB):Prop where
 str:AlR (λp=>P.underlying p.1=some .string) b.str
 ty:AlR (λp=>W5 P p.1 p.2.1 p.2.2) b.ty
 fi:AlR (λp=>XJ P p.1 p.2.1 p.2.2) b.fi
 zeX:AlR (λp=>Qi P p.1 p.2) b.zeX
def opX(s:St):Operand->Option X
 |.tmp t=>ck (Nat.blt t 1000)<|look s t
 |.const (.int k n)=>ck (decide<|k.wrap n=n)<|some<|.int k n
 |.const (.bool b)=>some<|.bool b
 |.const (.string ⟨⟨l⟩⟩)=>ck (Nat.ble (R l) maxLen)<|some<|.str l
 |.func f=>some<|.fn f []
 |_=>none
def opR(s:St):Operand->St
 |.tmp t=>match look s t with
  |some u=>[(t,u)]
  |none=>[]
 |_=>[]
variable{s:St}{u:X}
def opX_R{o:Operand}(h:opX s o=some u):YO s o u<|opR s o:=by
 unfold opX at h;split at h
 ·have a:=ck1 h;rw[opR,a.2];exact .tmp a.1 a.2
 ·have a:=ck1 h;cases a.2;exact .Zg<|pf a.1
 ·cases h;exact .Wx
 ·have a:=ck1 h;cases a.2;exact .Vh rfl<|Nat.le_of_ble_eq_true a.1
 ·cases h;exact .Nt
 cases h
def opsX(s:St):List Operand->Option bi
 |[]=>some []
 |o::l=>match opX s o with
  |some u=>match opsX s l with
   |some us=>some<|u::us
   |none=>none
  |none=>none
def opsR(s:St):List Operand->St
 |[]=>[]
 |o::l=>opR s o++opsR s l
def opsX_R{s:St}:∀{os:List Operand}{us:bi},opsX s os=some us->V5 s os us (opsR s os)
 |[],_,h=>by cases h;exact .nil
 |o::l,us,h=>by
  rw[opsX]at h;split at h
  ·rename_i e;split at h
   ·rename_i a;cases h;exact .cons (opX_R e)<|opsX_R a
   cases h
  cases h
def okA:Option bi->Option bi
 |some us=>ck (us.all V3)<|some us
 |none=>none
def okA_is{o:Option bi}{us:bi}(h:okA o=some us):o=some us/\us.all V3=true:=by
 cases o with
 |none=>cases h
 |some vs=>have a:=ck1 h;cases a.2;exact⟨rfl,a.1⟩
def opX_is{o:Operand}(h:opX s o=some u):∃r,YO s o u r:=⟨_,opX_R h⟩
/-- A jn, decided. -/
def gdX(q0:Array Oper)(s:St):Option (Nat×Bool)->Option Bool
 |none=>some true
 |some (j,b)=>match ck (Nat.blt (gt q0 j) 1000) (look s<|gt q0 j)with
  |some (.bool true)=>some b
  |some (.bool false)=>some<|!b
  |some (.Yy [])=>some false
  |_=>none
variable{q0:Array Oper}
def gdX_t{g:Option<|Nat×Bool}(h:gdX q0 s g=some true):∃r,Gd q0 s g r:=by
 unfold gdX at h;split at h
 ·exact⟨_,.none⟩
 rename_i j b;split at h
 ·rename_i e;cases h;exact⟨_,zg e rfl⟩
 ·rename_i e;cases b
  ·exact⟨_,zg e rfl⟩
  cases h
 ·cases h
 cases h
def gdX_f{E:Env}{o:Oper}{d:Nat}(h:gdX q0 s o.guard=some false)(hd:o.dst=some d)(a:dk E d=true):∃r,Zb E q0 o s r [(d,.Yy [])] []:=by
 obtain⟨_,op,ty,v9,v4,g⟩:=o;cases hd;unfold gdX at h;dsimp only at h;split at h
 ·cases h
 rename_i j b;split at h
 ·rename_i e;cases h;exact⟨_,S.skip (gt_is (ck1 e).1) (ck1 e).1 (ck1 e).2 rfl a⟩
 ·rename_i e;cases b
  ·cases h
  exact⟨_,S.skip (gt_is (ck1 e).1) (ck1 e).1 (ck1 e).2 rfl a⟩
 ·rename_i e;exact⟨_,S.fA (gt_is (ck1 e).1) (ck1 e).1 (ck1 e).2 a⟩
 cases h
abbrev Rs:=Option<|X×Option Prop
def loadX(s:St)(u:X)(a:Bool)(n:Nat):Option X:=match u with
 |.ptr k f=>match ck (Nat.blt k 1000) (look s<|1000+k)with
  |some (.box us)=>match a with
   |false=>match us[f]? with
    |some u=>ck (!QL u)<|some u
    |none=>none
   |true=>ck (Nat.ble (f+n)<|R us)<|some<|.agg<|(us.drop f).take n
  |_=>none
 |.Yt us=>match a with
  |false=>us[0]?
  |true=>ck (Nat.ble n<|R us)<|some<|.agg<|us.take n
 |_=>none
def fieldX(u:X)(g:Nat):Option X:=match u with
 |.ptr c i=>some<|.ptr c<|i+g
 |.Yt us=>some<|.Yt<|us.drop g
 |.raw (.pointer<|some ⟨c,i,none⟩)=>some<|.raw<|.pointer<|some ⟨c,i+g,none⟩
 |_=>none
def cmpX(op:BinOp)(m n:Int):Option X:=match op with
 |.lss=>some<|.bool<|decide<|m<n
 |.leq=>some<|.bool<|decide<|m<=n
 |.gtr=>some<|.bool<|decide<|m>n
 |.geq=>some<|.bool<|decide<|m>=n
 |.eql=>some<|.bool<|decide<|m=n
 |.neq=>some<|.bool<|decide<|m≠n
 |_=>none
abbrev InB(n:Int):Prop:= -9223372036854775808<=n/\n<=9223372036854775807
def binX(op:BinOp)(k:IntKind)(m n:Int):Rs:=match cmpX op m n with
 |some u=>some (u,none)
 |none=>match k with
  |.i64=>match op with
   |.add=>some (.int .i64<|m+n,some<|-9223372036854775808<=m+n/\m+n<=9223372036854775807)
   |.sub=>some (.int .i64<|m - n,some<|-9223372036854775808<=m - n/\m - n<=9223372036854775807)
   |_=>none
  |_=>none
def pure1:Option X->Rs
 |some u=>some (u,none)
 |none=>none
def valX(b:TB)(s:St):Op->Rs
 |.move x=>pure1<|opX s x
 |.assign x=>pure1<|opX s x
 |.extract x i=>match opX s x with
  |some (.Yy us)=>match us[i]? with
   |some u=>ck (!X4 u)<|some (u,none)
   |none=>none
  |_=>none
 |.load T x=>match opX s x with
  |some u=>match lk b.ty T with
   |some (a,n)=>pure1<|loadX s u a n
   |none=>none
  |none=>none
 |.fieldAddr T x f=>match opX s x with
  |some u=>match lk2 b.fi T f with
   |some g=>pure1<|fieldX u g
   |none=>none
  |none=>none
 |.nilCheck x=>match opX s x with
  |some (.ptr k f)=>some (.ptr k f,none)
  |some (.raw<|.pointer<|some a)=>some (.raw<|.pointer<|some a,none)
  |_=>none
 |.pick c x y=>match opX s c with
  |some (.bool true)=>pure1<|opX s x
  |some (.bool false)=>pure1<|opX s y
  |_=>none
 |.binOp op _ x y _=>match opX s x with
  |some (.int k m)=>match opX s y with
   |some (.int k' n)=>match decide (k=k')with
    |true=>binX op k m n
    |false=>none
   |_=>none
  |some (.str l)=>match opX s y with
   |some (.str l')=>match op with
    |.eql=>some (.bool<|decide<|l=l',none)
    |.neq=>some (.bool<|decide<|l≠l',none)
    |_=>none
   |_=>none
  |_=>none
 |.call {callee:=.builtin .len,args:=⟨[x]⟩,argTypes:=⟨[t]⟩}=>match opX s x with
  |some (.str l)=>match lk b.str t with
   |some _=>some (.int .i64<|R l,none)
   |none=>none
  |_=>none
 |_=>none
def pure1_is{o:Option X}{ab:Option Prop}(h:pure1 o=some (u,ab)):o=some u:=by
 cases o with
 |none=>cases h
 |some v=>cases h;rfl
variable{x:Operand}
section
variable{E:Env}{q0:Array Oper}{s rg:St}{d ty:Nat}{v9:String}{v4:Array Edge}{jn:Option (Nat×Bool)}{u:X}{b:TB}
def load_is{T n:Nat}{a:Bool}{r:St}{v:X}(j:W5 E.P T a n)(g:YO s x v r)(h:loadX s v a n=some u)(k:Gd q0 s jn rg)(hd:dk E d=true):∃rd,Zb E q0 ⟨some d,.load T x,ty,v9,v4,jn⟩ s rd [(d,u)] []:=by
 unfold loadX at h;split at h
 ·split at h
  ·rename_i e;split at h
   ·split at h
    ·rename_i l;have c:=ck1 h;cases c.2;exact⟨_,S.YH j k hd g (ck1 e).1 (ck1 e).2 l<|by simpa using c.1⟩
    cases h
   have c:=ck1 h;cases c.2;exact⟨_,S.Hl j k hd g (ck1 e).1 (ck1 e).2 rfl c.1⟩
  cases h
 ·split at h
  ·exact⟨_,S.Q_ j k hd g h⟩
  have c:=ck1 h;cases c.2;exact⟨_,S.Vj j k hd g rfl c.1⟩
 cases h
def field_is{T f g:Nat}{r:St}{v:X}(j:XJ E.P T f g)(a:YO s x v r)(h:fieldX v g=some u)(c:Gd q0 s jn rg)(hd:dk E d=true):∃rd,Zb E q0 ⟨some d,.fieldAddr T x f,ty,v9,v4,jn⟩ s rd [(d,u)] []:=by
 unfold fieldX at h;split at h
 ·cases h;exact⟨_,S.VN j c hd a⟩
 ·cases h;exact⟨_,S.field j c hd a rfl⟩
 ·cases h;exact⟨_,S.Ub j c hd a⟩
 cases h
def bin_is{op:BinOp}{k:IntKind}{m n:Int}{ab:Option Prop}{y:Operand}{r1 r2:St}{p q:Nat}(c:YO s x (.int k m) r1)(a:YO s y (.int k n) r2)(h:binX op k m n=some (u,ab))(j:ab.getD True)(g:Gd q0 s jn rg)(hd:dk E d=true):∃rd,Zb E q0 ⟨some d,.binOp op p x y q,ty,v9,v4,jn⟩ s rd [(d,u)] []:=by
 unfold binX at h;split at h
 ·rename_i e;cases h;unfold cmpX at e;split at e<;>cases e
  ·exact⟨_,S.lss g hd c a⟩
  ·exact⟨_,S.leq g hd c a⟩
  ·exact⟨_,S.gtr g hd c a⟩
  ·exact⟨_,S.geq g hd c a⟩
  ·exact⟨_,S.eql g hd c a⟩
  exact⟨_,S.neq g hd c a⟩
 split at h
 ·split at h
  ·cases h;exact⟨_,S.add g hd c a (mn _ j)<|mn _ j⟩
  ·cases h;exact⟨_,S.sub g hd c a (mn _ j)<|mn _ j⟩
  cases h
 cases h
def val_is(k:TB.Ok E.P b){op:Op}{ab:Option Prop}(h:valX b s op=some (u,ab))(o:ab.getD True)(c:Gd q0 s jn rg)(hd:dk E d=true):∃rd,Zb E q0 ⟨some d,op,ty,v9,v4,jn⟩ s rd [(d,u)] []:=by
 unfold valX at h;split at h
 ·obtain⟨r,a⟩:=opX_is<|pure1_is h;exact⟨_,S.move c hd a⟩
 ·obtain⟨r,a⟩:=opX_is<|pure1_is h;exact⟨_,S.assign c hd a⟩
 ·split at h
  ·rename_i e;split at h
   ·rename_i g;obtain⟨r,a⟩:=opX_is e;have m:=ck1 h;cases m.2;exact⟨_,S.extract c hd a g<|by simpa using m.1⟩
   cases h
  cases h
 ·split at h
  ·rename_i e;split at h
   ·rename_i g;obtain⟨r,a⟩:=opX_is e;exact load_is (k.ty.lk g) a (pure1_is h) c hd
   cases h
  cases h
 ·split at h
  ·rename_i e;split at h
   ·rename_i g;obtain⟨r,a⟩:=opX_is e;exact field_is (k.fi.lk2 g) a (pure1_is h) c hd
   cases h
  cases h
 ·split at h
  ·rename_i e;obtain⟨r,a⟩:=opX_is e;cases h;exact⟨_,S.tV c hd a⟩
  ·rename_i e;obtain⟨r,a⟩:=opX_is e;cases h;exact⟨_,S.qG c hd a rfl⟩
  cases h
 ·split at h
  ·rename_i e;obtain⟨r,a⟩:=opX_is e;obtain⟨r2,j⟩:=opX_is<|pure1_is h;exact⟨_,S.Tc c hd a j rfl⟩
  ·rename_i e;obtain⟨r,a⟩:=opX_is e;obtain⟨r2,j⟩:=opX_is<|pure1_is h;exact⟨_,S.Ug c hd a j rfl⟩
  cases h
 ·split at h
  ·rename_i e;split at h
   ·rename_i g;split at h
    ·rename_i l;have l:=pf l;subst l;obtain⟨r,a⟩:=opX_is e;obtain⟨r2,j⟩:=opX_is g;exact bin_is a j h o c hd
    cases h
   cases h
  ·rename_i e;split at h
   ·rename_i g;obtain⟨r,a⟩:=opX_is e;obtain⟨r2,j⟩:=opX_is g;split at h<;>cases h
    ·exact⟨_,S.vl c hd a j⟩
    exact⟨_,S.sneq c hd a j⟩
   cases h
  cases h
 ·split at h
  ·rename_i e;split at h
   ·rename_i g;obtain⟨r,a⟩:=opX_is e;cases h;exact⟨_,S.qV (k.str.lk g) c hd a⟩
   cases h
  cases h
 cases h
end
abbrev Rw:=Option<|St×bc×Option Prop
def storeX(s:St)(u v:X)(n:Nat):Rw:=match u with
 |.ptr k f=>match ck (Nat.blt k 1000) (look s<|1000+k)with
  |some (.box us)=>ck (Qj v&&(Nat.ble (f+n) (R us)&&Nat.beq (R<|Yv v) n))<|some ([(1000+k,.box<|us.take f++(Yv v++us.drop (f+n)))],[],none)
  |_=>none
 |_=>none
def effX(b:TB)(E:Env)(s:St):Option Nat->Op->Rw
 |none,.store T x y=>match opX s x with
  |some u=>match opX s y with
   |some v=>match lk b.ty T with
    |some (_,n)=>storeX s u v n
    |none=>none
   |none=>none
  |none=>none
 |some d,.box _ x=>match opX s x with
  |some u=>ck (dk E d&&Qj u&&!E.fs.contains d)<|some ((d,.ptr d 0)::[(1000+d,.box<|Yv u)],[d],none)
  |none=>none
 |some d,.alloc T=>match lk b.zeX T with
  |some z=>ck (dk E d&&!E.fs.contains d)<|some ((d,.ptr d 0)::[(1000+d,.box z)],[d],none)
  |none=>none
 |some d,op=>match valX b s op with
  |some (u,ab)=>ck (dk E d)<|some ([(d,u)],[],ab)
  |none=>none
 |none,_=>none
def stepX(b:TB)(E:Env)(q0:Array Oper)(s:St)(o:Oper):Rw:=match gdX q0 s o.guard with
 |some true=>effX b E s o.dst o.op
 |some false=>match o.dst with
  |some d=>ck (dk E d)<|some ([(d,.Yy [])],[],none)
  |none=>none
 |none=>none
def step_is{b:TB}{E:Env}(m:TB.Ok E.P b){o:Oper}{wr:St}{al:bc}{ab:Option Prop}(h:stepX b E q0 s o=some (wr,al,ab))(w:ab.getD True):∃rd,Zb E q0 o s rd wr al:=by
 unfold stepX at h;split at h
 ·rename_i p;obtain⟨rg,k⟩:=gdX_t p;obtain⟨B,op,ty,v9,v4,jn⟩:=o;unfold effX at h;dsimp only at h k;split at h
  ·split at h
   ·rename_i j;split at h
    ·rename_i A;split at h
     ·rename_i z;obtain⟨r,l⟩:=opX_is j;obtain⟨r2,v⟩:=opX_is A;unfold storeX at h;split at h
      ·split at h
       ·rename_i q;have g:=ck1 h;cases g.2;have c:=g.1;rw[Zw,Zw]at c;exact⟨_,S.store (m.ty.lk z) k l v (ck1 q).1 (ck1 q).2 c.1 (Nat.eq_of_beq_eq_true c.2.2) c.2.1 rfl⟩
       cases h
      cases h
     cases h
    cases h
   cases h
  ·split at h
   ·rename_i j;obtain⟨r,l⟩:=opX_is j;have g:=ck1 h;cases g.2;have c:=g.1;rw[Zw,Zw]at c;exact⟨_,S.box (Zw _ _▸c.1.1).1 k c.1.1 l c.1.2<|by simpa using c.2⟩
   cases h
  ·split at h
   ·rename_i j;have g:=ck1 h;cases g.2;have c:=g.1;rw[Zw]at c;exact⟨_,S.alloc (m.zeX.lk j) (Zw _ _▸c.1).1 k c.1<|by simpa using c.2⟩
   cases h
  ·split at h
   ·rename_i j;have g:=ck1 h;cases g.2;exact val_is m j w k g.1
   cases h
  cases h
 ·rename_i p;split at h
  ·rename_i d j;have g:=ck1 h;cases g.2;exact gdX_f p j g.1
  cases h
 cases h
/-- Where a walk stands. -/
inductive Pt where
 |ops (all:Array Oper) (l:List Oper) (k:List Kn)
 |code (c:Code) (k:List Kn)
 |pop (k:List Kn)
@[reducible] def WK (E:Env) (Q:bo) (U:bc) (s:St):Pt->Prop
  |.ops q0 l k=>RK E q0 l U s (den E Q k)
  |.code c k=>OK E c (den E Q k) U s
  |.pop k=>den E Q k .normal U s
def also:Option Prop->Option Prop->Option Prop
 |none,B=>B
 |some c,none=>some c
 |some c,some d=>some<|c/\d
def also_is{ab B:Option Prop}(h:(also ab B).getD True):ab.getD True/\B.getD True:=by
 cases ab with
 |none=>exact⟨Zo,h⟩
 |some c=>
  cases B with
  |none=>exact⟨h,Zo⟩
  |some d=>exact h
abbrev Ru:=Option<|Pt×bc×St×Option Prop
def run(b:TB)(E:Env):Nat->Pt->bc->St->Option Prop->Ru
 |0,p,U,s,B=>some (p,U,s,B)
 |n+1,p,U,s,B=>match p with
  |.ops q0 l k=>match l with
   |[]=>run b E n (.pop k) U s B
   |o::l=>match stepX b E q0 s o with
    |some (wr,al,ab)=>match al.all λk=>!U.contains k with
     |true=>run b E n (.ops q0 l k) (al++U) (wr++s)<|also ab B
     |false=>none
    |none=>none
  |.pop k=>match k with
   |.code c::k=>run b E n (.code c k) U s B
   |.blk _::k=>run b E n (.pop k) U s B
   |_=>none
  |.code c k=>match c with
   |.seq x y=>run b E n (.code x<|.code y::k) U s B
   |.region _ ⟨l⟩ false=>run b E n (.ops ⟨l⟩ l k) U s B
   |.skip=>run b E n (.pop k) U s B
   |.block id x=>run b E n (.code x<|.blk id::k) U s B
   |.exit id=>match FV id k with
    |some k=>run b E n (.pop k) U s B
    |none=>none
   |.cond (.tmp t) x y=>match ck (Nat.blt t 1000) (look s t)with
    |some (.bool true)=>run b E n (.code x k) U s B
    |some (.bool false)=>run b E n (.code y k) U s B
    |_=>none
   |_=>none
def run_is{b:TB}{E:Env}(j:TB.Ok E.P b){Q:bo}:∀(n:Nat){p p':Pt}{U U':bc}{s s':St}{B B':Option Prop},run b E n p U s B=some (p',U',s',B')->B'.getD True->B.getD True/\(WK E Q U' s' p'->WK E Q U s p)
 |0,p,p',U,U',s,s',B,B',h,hB=>by cases h;exact⟨hB,id⟩
 |n+1,p,p',U,U',s,s',B,B',h,hB=>by
  unfold run at h;split at h
  ·split at h
   ·obtain⟨g,a⟩:=run_is j n h hB;exact⟨g,λw=>RK.nil<|a w⟩
   split at h
   ·rename_i e;split at h
    ·rename_i o;obtain⟨g,a⟩:=run_is j n h hB;obtain⟨m,l⟩:=also_is g;obtain⟨rd,k⟩:=step_is j e m;exact⟨l,λw=>RK.c k (a w) o⟩
    cases h
   cases h
  ·split at h
   ·obtain⟨g,a⟩:=run_is j n h hB;exact⟨g,λw=>D.code<|a w⟩
   ·obtain⟨g,a⟩:=run_is j n h hB;exact⟨g,λw=>D.blk<|a w⟩
   cases h
  split at h
  ·obtain⟨g,a⟩:=run_is j n h hB;exact⟨g,λw=>OK.seq<|a w⟩
  ·obtain⟨g,a⟩:=run_is j n h hB;exact⟨g,λw=>OK.R3<|a w⟩
  ·obtain⟨g,a⟩:=run_is j n h hB;exact⟨g,λw=>OK.skip<|a w⟩
  ·obtain⟨g,a⟩:=run_is j n h hB;exact⟨g,λw=>OK.block<|a w⟩
  ·split at h
   ·rename_i e;obtain⟨g,a⟩:=run_is j n h hB;exact⟨g,λw=>OK.exit e<|a w⟩
   cases h
  ·split at h
   ·rename_i e;obtain⟨g,a⟩:=run_is j n h hB;exact⟨g,λw=>OK.condT (ck1 e).1 (ck1 e).2 rfl<|a w⟩
   ·rename_i e;obtain⟨g,a⟩:=run_is j n h hB;exact⟨g,λw=>OK.condF (ck1 e).1 (ck1 e).2 rfl<|a w⟩
   cases h
  cases h
section
variable{E:Env}{q0:Array Oper}{s r:St}{d ty f n i:Nat}{v9:String}{v4:Array Edge}{x y:Operand}{os:List Operand}{xo:Array TypeId}{us ys qm:bi}{qp:X}{t e sz bytes:Nat}{b:Bool}
def zK(c:Ct E.P f ys qp)(g:∀vj w,(callFunc f vj).run E.P w=.ok (.enter f vj) w)(h:ck (dk E d) (okA<|opsX s os)=some ys):Zb E q0 ⟨some d,.call {callee:=.value<|.func f,args:=⟨os⟩,argTypes:=xo},ty,v9,v4,none⟩ s (opsR s os) [(d,qp)] []:=
 have a:=okA_is (ck1 h).2
 S.call c g .none (ck1 h).1 (opsX_R a.1) a.2
def zI{α:Type}{l:List α}{g:α->bi}(hs:Qh E.P t e sz)(h:(ck (dk E d)<|opX s x,opX s y)=(some<|.sl<|l.map g,some<|.int .i64 n))(c:n<R l)(a:R (g l[n])=sz):Zb E q0 ⟨some d,.indexAddr t x y,ty,v9,v4,none⟩ s (opR s x++opR s y) [(d,.Yt<|g l[n])] []:=by
 rw[aψ]at h;exact S.Zi hs .none (ck1 h.1).1 (opX_R (ck1 h.1).2) (opX_R h.2) rfl c a
def zM{ps:List<|Nat×Operand}(vi:List<|List X)(j:RP E.P t e sz bytes)(h:ck (dk E d) (opsX s<|ps.map (·.2))=some us)(c:us.map Yv=vi)(g:Oj (λi=>some (i * sz,sz)) (List.replicate (n * sz) .any) ((ps.map (·.1)).zip us)=some vi.flatten)
  (a:(us.all Qj&&(vi.all (λq=>Nat.beq (R q) sz)&&(Nat.beq (R vi) n&&(vi.flatten.all BI&&(Nat.ble (n * sz) 16777216&&!E.fs.contains d)))))=true):Zb E q0 ⟨some d,.buildSlice t n ⟨ps⟩,ty,v9,v4,none⟩ s (opsR s<|ps.map (·.2)) ((d,.own d n)::[(2000+d,.arr sz vi)]) [d]:=by
 simp only[Zw]at a;obtain⟨v,p,o,m,l,k⟩:=a;exact S.mkSlice j .none (ck1 h).1 (opsX_R (ck1 h).2) v c g p (Nat.eq_of_beq_eq_true o) m l (by simpa using k) (Zw _ _▸(ck1 h).1).1
def zU{T:Nat}{zs:List Value}{pl:Nat->Option (Nat×Nat)}{ps:List<|Nat×Operand}(hB:Q8 E.P T zs pl)(h:ck (dk E d&&zs.all KM) (opsX s<|ps.map (·.2))=some us)(a:ck (us.all Qj) (Oj pl (zs.map tL)<|(ps.map (·.1)).zip us)=some qm):Zb E q0 ⟨some d,.build T ⟨ps⟩,ty,v9,v4,none⟩ s (opsR s<|ps.map (·.2)) [(d,.agg qm)] []:=
 have c:=Zw _ _▸(ck1 h).1
 S.build hB c.2 .none c.1 (opsX_R (ck1 h).2) (ck1 a).1 (ck1 a).2
def zH{T o:Nat}{b:Nat}{J:bm}(c:W5 E.P T false sz)(h:(ck (dk E d)<|opX s x,look s 3000)=(some<|.raw<|.pointer<|some ⟨b,o,none⟩,some<|.res J))(a:∀h Y w,J h Y w->∃v,w.cell? ⟨b,o,none⟩=some v/\YG (ZL h) u v):Zb E q0 ⟨some d,.load T x,ty,v9,v4,none⟩ s (opR s x++[(3000,.res J)]) [(d,u)] []:=by
 rw[aψ]at h;exact S.Uc c .none (ck1 h.1).1 (opX_R (ck1 h.1).2) h.2 a
def zJ{T o:Nat}{b:Nat}{J:bm}(c:W5 E.P T true n)(h:(ck (dk E d)<|opX s x,look s 3000)=(some<|.raw<|.pointer<|some ⟨b,o,none⟩,some<|.res J))(a:∀h Y w,J h Y w->∃vs:List Value,R vs=n/\(∀(i:Nat)(v:Value),vs[i]?=some v->w.cell? ⟨b,o+i,none⟩=some v)/\Z1 (Zc<|ZL h) us vs):Zb E q0 ⟨some d,.load T x,ty,v9,v4,none⟩ s (opR s x++[(3000,.res J)]) [(d,.agg us)] []:=by
 rw[aψ]at h;exact S.qD c .none (ck1 h.1).1 (opX_R (ck1 h.1).2) h.2 a
def zP{k n j m:Nat}{vi qr:List bi}(p:RP E.P t e sz bytes)(h:(ck (dk E d)<|opX s x,opX s y)=(some<|.own k n,some<|.own j m))(a:(look s<|2000+k,look s<|2000+j)=(some<|.arr sz vi,some<|.arr sz qr))(l:R vi=n)(o:R qr=m)(g:(n+m) * bytes<=140737488355328)(c:n+m<=maxLen):
  Zb E q0 ⟨some d,.call {callee:=.builtin .append,args:=⟨[x,y]⟩,argTypes:=⟨[t,t]⟩},ty,v9,v4,none⟩ s (opR s x++([(2000+k,.arr sz vi)]++(opR s y++[(2000+j,.arr sz qr)]))) ((d,.own k<|n+m)::[(2000+k,.arr sz<|vi++qr)]) []:=by
 rw[aψ]at h a;exact S.append p .none (ck1 h.1).1 (opX_R (ck1 h.1).2) a.1 l (opX_R h.2) a.2 o g c
def zG{op:Op}{j:Nat}{a a':Bool}(h:ck (Nat.blt (gt q0 j) 1000&&dk E d) (look s<|gt q0 j)=some (.bool a))(g:(a==a')=false):Zb E q0 ⟨some d,op,ty,v9,v4,some (j,a')⟩ s [(gt q0 j,.bool a)] [(d,.Yy [])] []:=
 have c:=Zw _ _▸(ck1 h).1
 S.skip (gt_is c.1) c.1 (ck1 h).2 g c.2
