import Derived.Test.YtpbalelbenmmbaaGreatDoorHw
import Derived.CallsIn
import Derived.IntWalk
import Derived.Laws.AppendOwn
import Derived.Lib.ItoaNum
import Derived.MapKept
import Derived.OrdersIn
import Derived.RangeFuncLeaves
import Derived.RangeFuncOwn
import Derived.WalkKit
set_option linter.all false
namespace Go.Ab
open Go.RowKit
abbrev Mem:=Addr->Option Value
inductive X where
 |int (k:IntKind) (n:Int)
 |bool (b:Bool)
 |str (s:ba)
 |sl (rows:List (List X))
 |b5 (cells:List X)
 |fn (f:Nat) (caps:List X)
 |agg (xs:List X)
 |cf (xs:List X)
 |ptr (k off:Nat)
 |own (k n:Nat)
 |box (cells:List X)
 |arr (sz:Nat) (rows:List (List X))
 |raw (v:Value)
 |bO
 |any
 |di (k n off:Nat)
 |cb (Φ:Value->Prop)
 |res (J:Mem->(Nat->Prop)->World->Prop)
 |CI (k:Nat) (Jb:Nat->Mem->(Nat->Prop)->World->Prop)
 |omap (es:List (X×X))
 |jt (k:Nat)
 |rU (k n sz lo hi:Nat)
 |slc (rows:List (List X))
 |cM (sz:Nat) (pre:List (List X)) (mid:List X) (post:List (List X))
def cD{a b c:Prop}(h:a\/b)(f:b->c):a\/c:=by grind
def ah{α β:Type}(R:α->β->Prop):List α->List β->Prop
 |[],[]=>True
 |a::as0,b::bs=>R a b/\ah R as0 bs
 |_,_=>False
section all2
variable{α β:Type}{R R':α->β->Prop}
def ah.length:∀{as0:List α}{bs:List β},ah R as0 bs->as0.length=bs.length
 |[],[],_=>rfl
 |_::_,_::_,h=>by simp[ah.length h.2]
 |[],_::_,h=>h.elim
 |_::_,[],h=>h.elim
def ah.mono(hr:∀a b,R a b->R' a b):∀{as0:List α}{bs:List β},ah R as0 bs->ah R' as0 bs
 |[],[],_=>trivial
 |_::_,_::_,h=>⟨hr _ _ h.1,ah.mono hr h.2⟩
 |[],_::_,h=>h.elim
 |_::_,[],h=>h.elim
def ah.append:∀{as0 as':List α}{bs bs':List β},ah R as0 bs->ah R as' bs'->ah R (as0++as') (bs++bs')
 |[],_,[],_,_,h'=>h'
 |_::_,_,_::_,_,h,h'=>⟨h.1,ah.append h.2 h'⟩
 |[],_,_::_,_,h,_=>h.elim
 |_::_,_,[],_,h,_=>h.elim
def ah.get:∀{as0:List α}{bs:List β},ah R as0 bs->∀{i:Nat}{a:α}{b:β},as0[i]?=some a->bs[i]?=some b->R a b
 |[],[],_,i,a,b,ha,_=>by simp at ha
 |x::as0,y::bs,h,0,a,b,ha,hb=>by simp at ha hb;subst ha;subst hb;exact h.1
 |x::as0,y::bs,h,i+1,a,b,ha,hb=>ah.get h.2 (i:=i) (by grind) (by grind)
 |[],_::_,h,_,_,_,_,_=>h.elim
 |_::_,[],h,_,_,_,_,_=>h.elim
theorem ah.fb:∀{as0:List α}{bs:List β},as0.length=bs.length->(∀(i:Nat)(a:α)(b:β),as0[i]?=some a->bs[i]?=some b->R a b)->ah R as0 bs
 |[],[],_,_=>trivial
 |_::_,_::_,hl,h=>⟨h 0 _ _ F F,ah.fb (by grind) fun i a b ha hb=>h (i+1) a b (by grind) (by grind)⟩
 |[],_::_,hl,_=>by simp at hl
 |_::_,[],hl,_=>by simp at hl
def ah.take(n:Nat):∀{as0:List α}{bs:List β},ah R as0 bs->ah R (as0.take n) (bs.take n):=by
 intro as0 bs h;refine ah.fb (by simp[h.length]) fun i a b ha hb=>?_
 rw[ma]at ha hb;split at ha
 ·rename_i hi;rw[Zn hi]at hb;exact h.get ha hb
 cases ha
theorem ah.drop(n:Nat):∀{as0:List α}{bs:List β},ah R as0 bs->ah R (as0.drop n) (bs.drop n):=by
 intro as0 bs h;refine ah.fb (by simp[h.length]) fun i a b ha hb=>?_
 rw[ll]at ha hb;exact h.get ha hb
def ah.set{a:α}{b:β}(hab:R a b):∀{as0:List α}{bs:List β}(i:Nat),ah R as0 bs->ah R (as0.set i a) (bs.set i b)
 |[],[],_,_=>trivial
 |_::_,_::_,0,h=>⟨hab,h.2⟩
 |_::_,_::_,i+1,h=>⟨h.1,ah.set hab i h.2⟩
 |[],_::_,_,h=>h.elim
 |_::_,[],_,h=>h.elim
def ah.eD{as0:List α}{bs:List β}(h:ah R as0 bs){i:Nat}{a:α}(ha:as0[i]?=some a):∃b,bs[i]?=some b/\R a b:=by
 have hi:i<bs.length:=by rw[←h.length];grind
 exact⟨bs[i],Zv hi,h.get ha (Zv hi)⟩
def ah.bJ{bs:List β}(h:ah R [] bs):bs=[]:=by cases bs with|nil=>rfl|cons _ _=>exact h.elim
def ah.bD{a:α}{as0:List α}{bs:List β}(h:ah R (a::as0) bs):∃b bs',bs=b::bs'/\R a b/\ah R as0 bs':=by
 cases bs with|nil=>exact h.elim|cons b bs'=>exact⟨b,bs',rfl,h.1,h.2⟩
end all2
inductive ay(h:Mem):X->Value->Prop
 |int {k:IntKind} {n:Int}:k.wrap n=n->ay h (.int k n) (.int k n)
 |bool (b:Bool):ay h (.bool b) (.bool b)
 |str (s:ba):s.length<=maxLen->ay h (.str s) (.string ⟨s.toArray⟩)
 |rP (a:Option Addr) (cap:Nat):cap<=maxLen->ay h (.sl []) (.slice a 0 cap)
 |sl (rows:List (List X)) (b off cap sz:Nat) (vs:List Value):rows.length<=cap->cap<=maxLen->(∀r∈rows,r.length=sz)->rows.flatten.length=vs.length->
  (∀(i:Nat)(v:Value),vs[i]?=some v->h ⟨b,off+i,none⟩=some v)->(∀(i:Nat)(x:X)(v:Value),rows.flatten[i]?=some x->vs[i]?=some v->ay h x v)->ay h (.sl rows) (.slice (some ⟨b,off,none⟩) rows.length cap)
 |b5 (cells:List X) (b off:Nat) (vs:List Value):cells.length=vs.length->
  (∀(i:Nat)(v:Value),vs[i]?=some v->h ⟨b,off+i,none⟩=some v)->(∀(i:Nat)(x:X)(v:Value),cells[i]?=some x->vs[i]?=some v->ay h x v)->ay h (.b5 cells) (.pointer (some ⟨b,off,none⟩))
 |raw (u:Value):u.oneCell'=true->ay h (.raw u) u
structure Ctx where
 h:Mem
 loc:Nat->Option Nat
 arr:Nat->Option (Nat×Value×Bool)
 Y:Nat->Prop
abbrev aD(h:Mem):Ctx:=⟨h,fun _=>none,fun _=>none,fun _=>False⟩
def Mem.le (h h':Mem):Prop:=∀a v,h a=some v->h' a=some v
theorem Mem.le_refl (h:Mem):Mem.le h h:=fun _ _ e=>e
theorem Mem.le_trans {a b c:Mem}(h:Mem.le a b)(h':Mem.le b c):Mem.le a c:=fun x v e=>h' x v (h x v e)
def ay.mono{h h':Mem}(hh:Mem.le h h'){x:X}{v:Value}(r:ay h x v):ay h' x v:=by
 induction r with
 |int e=>exact .int e
 |bool b=>exact .bool b
 |str s e=>exact .str s e
 |rP a cap e=>exact .rP a cap e
 |sl rows b off cap sz vs h1 h2 h3 h4 h5 _ ih=>exact .sl rows b off cap sz vs h1 h2 h3 h4 (fun i v e=>hh _ _ (h5 i v e)) ih
 |b5 cells b off vs h1 h2 _ ih=>exact .b5 cells b off vs h1 (fun i v e=>hh _ _ (h2 i v e)) ih
 |raw u e=>exact .raw u e
def Iw(hv:Value)(sz lo hi:Nat)(v:Value):Prop:=
 ∃a l cp a' cp',hv=.slice a l cp/\v=.slice a' (hi - lo) cp'/\(lo=0->a'=a/\cp'=cp)/\(lo<hi->∃b,a=some ⟨b,0,none⟩/\a'=some ⟨b,lo * sz,none⟩)
def cq(c:Ctx):X->Value->Prop
 |.ptr k off,v=>∃b,c.loc k=some b/\v=.pointer (some ⟨b,off,none⟩)
 |.own k n,v=>(∃a l cp,v=.slice a l cp)/\∃m hv lv,c.arr k=some (m,hv,lv)/\n<=m/\(n=m->v=hv)
 |.any,_=>True
 |.cb Φ,v=>Φ v
 |.di k n off,v=>∃m hv lv,c.arr k=some (m,hv,lv)/\n<=m/\(n=m->∃b l cp,hv=.slice (some ⟨b,0,none⟩) l cp/\v=.pointer (some ⟨b,off,none⟩))
 |.raw u,v=>v=u
 |.bO,v=>v=.slice none 0 0
 |.jt k,v=>∃b,c.loc k=some b/\v=.map (some b)
 |.rU k n sz lo hi,v=>(∃a l cp,v=.slice a l cp)/\∃m hv lv,c.arr k=some (m,hv,lv)/\n<=m/\(n=m->Iw hv sz lo hi v)
 |.slc rows,v=>ay c.h (.sl rows) v/\∃a,v=.slice a rows.length rows.length
 |x,v=>ay c.h x v
def aV(c:Ctx):X->Value->Prop
 |.fn f caps,v=>∃vs:List Value,v=.func (.func f) #[] vs.toArray/\ah (cq c) caps vs
 |x,v=>cq c x v
def bt(c:Ctx):X->Value->Prop
 |.agg xs,v=>∃vs:List Value,v=.agg vs.toArray/\ah (aV c) xs vs
 |x,v=>aV c x v
def bK(c:Ctx):X->Value->Prop
 |.cf xs,v=>∃vs:List Value,v=.tuple vs.toArray/\ah (bt c) xs vs
 |x,v=>bt c x v
structure Ext(c c':Ctx):Prop where
 h:Mem.le c.h c'.h
 loc:∀k b,c.loc k=some b->c'.loc k=some b
 arr:∀k m hv lv,c.arr k=some (m,hv,lv)->∃m' hv' lv',c'.arr k=some (m',hv',lv')/\m<=m'/\(m=m'->hv'=hv)
theorem Ext.refl(c:Ctx):Ext c c:=⟨Mem.le_refl _,fun _ _ e=>e,fun _ m hv lv e=>⟨m,hv,lv,e,Zq _,fun _=>rfl⟩⟩
theorem Ext.trans{a b c:Ctx}(h:Ext a b)(k:Ext b c):Ext a c:= 
 ⟨Mem.le_trans h.h k.h,fun i x e=>k.loc i x (h.loc i x e),fun i m hv lv e=>by
  obtain⟨m',hv',lv',e',l,q⟩:=h.arr i m hv lv e;obtain⟨m2,hv2,lv2,e2,l2,q2⟩:=k.arr i m' hv' lv' e';grind⟩
theorem cq.mono{c c':Ctx}(e:Ext c c'){x:X}{v:Value}(h:cq c x v):cq c' x v:=by
 cases x with
 |ptr k off=>obtain⟨b,h1,h2⟩:=h;exact⟨b,e.loc _ _ h1,h2⟩
 |own k n=>
  obtain⟨h0,m,hv,lv,h1,h2,h3⟩:=h;obtain⟨m',hv',lv',e1,e2,e3⟩:=e.arr _ _ _ _ h1;exact⟨h0,m',hv',lv',e1,gc h2 e2,fun he=>by grind⟩
 |di k n off=>
  obtain⟨m,hv,lv,h1,h2,h3⟩:=h;obtain⟨m',hv',lv',e1,e2,e3⟩:=e.arr _ _ _ _ h1;exact⟨m',hv',lv',e1,gc h2 e2,fun he=>by grind⟩
 |any=>exact h
 |raw u=>exact h
 |bO=>exact h
 |cb Φ=>exact h
 |jt k=>obtain⟨b,h1,h2⟩:=h;exact⟨b,e.loc _ _ h1,h2⟩
 |rU k n sz lo hi=>
  obtain⟨h0,m,hv,lv,h1,h2,h3⟩:=h;obtain⟨m',hv',lv',e1,e2,e3⟩:=e.arr _ _ _ _ h1;exact⟨h0,m',hv',lv',e1,gc h2 e2,fun he=>by grind⟩
 |slc rows=>exact⟨ay.mono e.h h.1,h.2⟩
 |_=>exact ay.mono e.h h
theorem aV.mono{c c':Ctx}(e:Ext c c'){x:X}{v:Value}(h:aV c x v):aV c' x v:=by
 cases x
 case fn f caps=>obtain⟨vs,h1,h2⟩:=h;exact⟨vs,h1,h2.mono fun _ _=>cq.mono e⟩
 all_goals grind [aV,cq.mono]
theorem bt.mono{c c':Ctx}(e:Ext c c'){x:X}{v:Value}(h:bt c x v):bt c' x v:=by
 cases x
 case agg xs=>obtain⟨vs,h1,h2⟩:=h;exact⟨vs,h1,h2.mono fun _ _=>aV.mono e⟩
 all_goals grind [bt,aV.mono]
def bK.mono{c c':Ctx}(e:Ext c c'){x:X}{v:Value}(h:bK c x v):bK c' x v:=by
 cases x
 case cf xs=>obtain⟨vs,h1,h2⟩:=h;exact⟨vs,h1,h2.mono fun _ _=>bt.mono e⟩
 all_goals grind [bK,bt.mono]
structure da(B:Nat)(X:Nat->Prop)(w w':World):Prop where
 os:w'.os=w.os
 tape:w'.tape=w.tape
 output:w'.output=w.output
 size:w.heap.size<=w'.heap.size
 block:∀k,k<B->¬X k->w'.heap[k]?=w.heap[k]?
def da.refl(B:Nat)(X:Nat->Prop)(w:World):da B X w w:=⟨rfl,rfl,rfl,Zq _,fun _ _ _=>rfl⟩
theorem da.trans{B:Nat}{X:Nat->Prop}{a b c:World}(h:da B X a b)(k:da B X b c):da B X a c:=
 ⟨k.os.trans h.os,k.tape.trans h.tape,k.output.trans h.output,gc h.size k.size,fun i hi hx=>(k.block i hi hx).trans (h.block i hi hx)⟩
def da.mono{B B':Nat}{X X':Nat->Prop}{w w':World}(h:da B X w w')(hB:B'<=B)(hX:∀k,k<B'->X k->X' k):da B' X' w w':=
 ⟨h.os,h.tape,h.output,h.size,fun k hk hx=>h.block k (dl hk hB) fun e=>hx (hX k hk e)⟩
def da.of{B:Nat}{X:Nat->Prop}{w w':World}(h:Below B w w'):da B X w w':=⟨h.os,h.tape,h.output,h.size,fun k hk _=>h.block k hk⟩
def da.below{B:Nat}{w w':World}(h:da B (fun _=>False) w w'):Below B w w':=⟨h.os,h.tape,h.output,h.size,fun k hk=>h.block k hk fun e=>e⟩
def da.drew{B:Nat}{X:Nat->Prop}{a w:World}(h:da B X a w):da B X a w.drew:=⟨h.os,h.tape,h.output,h.size,h.block⟩
def aZ(J:Mem->(Nat->Prop)->World->Prop):Prop:=
 ∀(h h':Mem)(Y:Nat->Prop)(w w':World),J h Y w->Mem.le h h'->(∀p v,h' p=some v->h p=some v\/¬Y p.block)->(∀p v,h' p=some v->w'.cell? p=some v)->da 0 (fun _=>False) w w'->
  (∀b,Y b->w'.heap[b]?=w.heap[b]?)->J h' Y w'
def Ctx.out(c:Ctx)(fs:bc)(b:Nat):Prop:=c.Y b\/(∃k,k∈fs/\c.loc k=some b)\/(∃k m hv,k∈fs/\c.arr k=some (m,hv,true)/\hv.ownBlock=some b)
def Ctx.all(c:Ctx)(b:Nat):Prop:=c.Y b\/(∃k,c.loc k=some b)\/(∃k m hv,c.arr k=some (m,hv,true)/\hv.ownBlock=some b)
structure Env where
 P:Program
 nt:Nat
 fs:bc
 c0:Ctx
 w0:World
 round:Option Nat
 pins:List (Nat×Obj)
def Env.ac(E:Env):Fence:={Fence.wide with round:=E.round}
def Env.B(E:Env):Nat:=E.w0.heap.size
def Env.X(E:Env)(b:Nat):Prop:=E.c0.out E.fs b\/∃p∈E.pins,p.1=b
def Env.h0(E:Env):Mem:=E.c0.h
def Env.ok(E:Env)(k b:Nat):Prop:=E.B<=b\/(k∈E.fs/\E.X b)
def Env.gN{E:Env}{k b:Nat}(h:E.ok k b)(hk:k∉E.fs):E.B<=b:=by
 rcases h with h|h
 all_goals simp_all
def nQ{l:bc}{k:Nat}(h:l.contains k=false):k∉l:=by grind
def Env.js{E:Env}{k b j:Nat}(h:E.ok k b)(hj:j<E.B)(hx:¬E.X j):j≠b:=by
 rintro rfl;rcases h with h|h
 all_goals grind
structure aM(E:Env)(U:bc)(c:Ctx)(a:Act)(w:World):Prop where
 below:da E.B E.X E.w0 w
 hB:E.B<=w.heap.size
 nt:a.tmps.size=E.nt
 iP:a.defers.Pairwise (· ≠ ·)/\∀d∈a.defers,∃D,d={target:=.collected D,args:=#[]}/\E.B<=D/\¬c.all D/\w.heap[D]?=some (.deferred (some []))
 nS:∀p∈E.pins,¬c.all p.1/\p.2.isCells=false/\w.heap[p.1]?=some p.2
 hw:∀p v,c.h p=some v->w.cell? p=some v
 hle:Mem.le E.h0 c.h
 hnew:∀p v,c.h p=some v->E.h0 p=some v\/E.B<=p.block\/E.X p.block
 loc:∀k b,c.loc k=some b->E.ok k b/\b<w.heap.size/\(∀o,c.h ⟨b,o,none⟩=none)/\(∀k',c.loc k'=some b->k'=k)/\(∀k' m hv,c.arr k'=some (m,hv,true)->hv.ownBlock≠some b)
 arr:∀k m hv b,c.arr k=some (m,hv,true)->hv.ownBlock=some b->E.ok k b/\b<w.heap.size/\(∀o,c.h ⟨b,o,none⟩=none)/\(∀k' m' hv',c.arr k'=some (m',hv',true)->hv'.ownBlock=some b->k'=k)
 used:∀k,k∉U->c.loc k=none/\c.arr k=none
 Y:∀b,c.Y b->b<w.heap.size/\(b<E.B->E.X b)/\(∀k,c.loc k≠some b)/\(∀k m hv,c.arr k=some (m,hv,true)->hv.ownBlock≠some b)
 fB:∀k b,k∈E.fs->c.loc k=some b->E.c0.loc k=some b
 fQ:∀k m hv lv,k∈E.fs->c.arr k=some (m,hv,lv)->∃m0 hv0 lv0,E.c0.arr k=some (m0,hv0,lv0)/\m0<=m/\(m0=m->hv=hv0)/\(lv=true->lv0=true)/\(∀b,hv.ownBlock=some b->hv0.ownBlock=some b\/E.B<=b)
def zT(c:Ctx):X->Obj->Prop
 |.box cells,o=>∃T vs,o=.cells vs T (0,0)/\ah (aV c) cells vs.toList
 |.omap es,o=>∃as0 clock,o=.map as0 clock/\MapKept.Stamped as0 clock/\ah (fun(p:X×X)(m:MapEntry)=>ay c.h p.1 m.key/\bt (aD c.h) p.2 m.val) es as0.toList
 |_,_=>False
def wJ(c:Ctx):X->Nat->List (List X)->List Value->Prop
 |.arr sz' rows',sz,rows,vs=>sz'=sz/\rows'=rows/\ah (ay c.h) rows.flatten vs
 |.cM sz' pre mid post,sz,rows,vs=>sz'=sz/\rows=pre++mid::post/\∃v1 v2 v3,vs=v1++(v2++v3)/\ah (ay c.h) pre.flatten v1/\ah (aV c) mid v2/\ah (ay c.h) post.flatten v3
 |_,_,_,_=>False
def pure_mono{h h':Mem}(hh:Mem.le h h'){x:X}{v:Value}(r:bt (aD h) x v):bt (aD h') x v:=r.mono ⟨hh,(fun _ _ e=>by cases e),(fun _ _ _ _ e=>by cases e)⟩
def zT.mono{c c':Ctx}(e:Ext c c'){x:X}{o:Obj}(h:zT c x o):zT c' x o:=by
 cases x
 case box cells=>obtain⟨T,vs,h1,h2⟩:=h;exact⟨T,vs,h1,h2.mono fun _ _=>aV.mono e⟩
 case omap es=>obtain⟨as0,clock,h1,h0,h2⟩:=h;exact⟨as0,clock,h1,h0,h2.mono fun _ _ h=>⟨h.1.mono e.h,pure_mono e.h h.2⟩⟩
 all_goals exact h.elim
def wJ.mono{c c':Ctx}(e:Ext c c'){x:X}{sz:Nat}{rows:List (List X)}{vs:List Value}(h:wJ c x sz rows vs):wJ c' x sz rows vs:=by
 cases x
 case arr sz' rows'=>exact⟨h.1,h.2.1,h.2.2.mono fun _ _=>ay.mono e.h⟩
 case cM sz' pre mid post=>obtain⟨h1,h2,v1,v2,v3,h3,h4,h5,h6⟩:=h;exact⟨h1,h2,v1,v2,v3,h3,h4.mono fun _ _=>ay.mono e.h,h5.mono fun _ _=>aV.mono e,h6.mono fun _ _=>ay.mono e.h⟩
 all_goals exact h.elim
def xe(c:Ctx)(w:World)(k:Nat)(x:X):Prop:=
 ∃b o,c.loc k=some b/\w.heap[b]?=some o/\zT c x o
def D3(c:Ctx)(w:World)(k:Nat)(x:X):Prop:=
 ∃sz rows hv e vs,wJ c x sz rows vs/\c.arr k=some (rows.length,hv,true)/\w.ownsRow 0 e sz hv rows.length vs/\(∀r∈rows,r.length=sz)
def wK(loc:Nat->Option Nat)(J:Mem->(Nat->Prop)->World->Prop):X->Prop
 |.res J'=>J'=J
 |.CI k Jb=>∃b,loc k=some b/\Jb b=J
 |_=>False
def wK.mono{loc loc':Nat->Option Nat}{J:Mem->(Nat->Prop)->World->Prop}{x:X}(hl:∀k b,loc k=some b->loc' k=some b)(h:wK loc J x):wK loc' J x:=by
 cases x
 case res J'=>exact h
 case CI k Jb=>obtain⟨b,h1,h2⟩:=h;exact⟨b,hl _ _ h1,h2⟩
 all_goals exact h.elim
def vw(c:Ctx)(w:World)(key:Nat)(x:X):Prop:=key=3000/\∃J,wK c.loc J x/\aZ J/\J c.h c.Y w
def Holds(c:Ctx)(a:Act)(w:World)(key:Nat)(x:X):Prop:=
 if key<1000 then bK c x (a.tmps.getD key undef)
 else x=.any\/(if key<2000 then xe c w (key - 1000) x else if key<3000 then D3 c w (key - 2000) x else vw c w key x)
abbrev St:=List (Nat×X)
abbrev bi:=List X
abbrev bm:=Mem→(Nat→Prop)→World→Prop
abbrev bo:=Exit→List Nat→St→Prop
abbrev bv(n:Int):X:=.int .i64 n
abbrev cP(E:Env)(d:Nat):Bool:=Nat.blt d 1000&&Nat.blt d E.nt
def look:St->Nat->Option X
 |[],_=>none
 |p::s,k=>if Nat.beq p.1 k then some p.2 else look s k
def Good(E:Env)(U:bc)(s:St)(a:Act)(w:World):Prop:=
 ∃c,aM E U c a w/\∀key x,look s key=some x->Holds c a w key x
def gh(E:Env)(all:Array Oper)(o:Oper)(next:Act->World->Prop)(Q:Exit->Act->World->Prop)(a:Act)(w:World):Prop:=
 if Region.wanted o (yielded all a.tmps)then o.wpIn E.ac 0 E.P a w next Q else next (a.put o.dst undef) w
def Step(E:Env)(all:Array Oper)(o:Oper)(rd wr:St)(al:bc):Prop:=
 ∀(U:bc)(c:Ctx)(a:Act)(w:World),aM E U c a w->(∀p∈rd,Holds c a w p.1 p.2)->(∀k∈al,k∉U)->
  ∀(next:Act->World->Prop)(Q:Exit->Act->World->Prop),
   (∀c' a' w',aM E (al++U) c' a' w'->Ext c c'->(∀p∈wr,Holds c' a' w' p.1 p.2)->
    (∀key x,(∀p∈wr,p.1≠key)->Holds c a w key x->Holds c' a' w' key x)->next a' w')->
   gh E all o next Q a w
structure Lab where
 rd:St
 wr:St
 al:bc
def Looks(s:St):St->Prop
 |[]=>True
 |p::r=>look s p.1=some p.2/\Looks s r
def Looks.all{s:St}:∀{r:St},Looks s r->∀p∈r,look s p.1=some p.2
 |[],_,p,hp=>by cases hp
 |q::r,h,p,hp=>by
  rcases ed.1 hp with rfl|hp
  ·exact h.1
  exact Looks.all h.2 p hp
inductive Lx(E:Env)(all:Array Oper):List Oper->bc->St->List Lab->bc->St->Prop
 |nil {U:bc} {s:St}:Lx E all [] U s [] U s
 |cons {o:Oper} {l:List Oper} {U U':bc} {s s':St} {L:List Lab} {rd wr:St} {al:bc}:Step E all o rd wr al->Looks s rd->(al.all fun k=>!U.contains k)=true->
  Lx E all l (al++U) (wr++s) L U' s'->Lx E all (o::l) U s (⟨rd,wr,al⟩::L) U' s'
def dA{s t:St}{k:Nat}:look (s++t) k=(look s k).or (look t k):=by
 induction s with
 |nil=>rfl
 |cons p s ih=>grind [look]
theorem k7{s:St}{k:Nat}:look s k=none↔∀p∈s,p.1≠k:=by
 induction s with
 |nil=>simp[look]
 |cons p s ih=>
  grind [look,Nat.eq_of_beq_eq_true,Nat.beq_refl]
theorem cm{s:St}{k:Nat}{x:X}(h:look s k=some x):(k,x)∈s:=by
 induction s with
 |nil=>cases h
 |cons p s ih=>
  grind [look,Nat.eq_of_beq_eq_true]
def Step.good{E:Env}{all:Array Oper}{o:Oper}{rd wr:St}{al:bc}(hs:Step E all o rd wr al){U:bc}{s:St}{a:Act}{w:World}(hg:Good E U s a w)
  (hl:Looks s rd) (hal:(al.all fun k=>!U.contains k)=true) {next:Act->World->Prop} {Q:Exit->Act->World->Prop} (hn:∀a' w',Good E (al++U) (wr++s) a' w'->next a' w'):gh E all o next Q a w:=by
 obtain⟨c,hb,hh⟩:=hg;refine hs U c a w hb (fun p hp=>hh _ _ (hl.all p hp)) (fun k hk=>by simp_all) next Q fun c' a' w' hb' _ hwr hfr=>hn a' w' ⟨c',hb',fun key x hx=>?_⟩
 rw[dA]at hx;cases hk:look wr key with
 |some y=>
  simp_all[cm]
 |none=>
  grind [k7]
def cW{E:Env}{all:Array Oper}{i:Nat}{o:Oper}(ho:all[i]?=some o){next:Act->World->Prop}{Q:Exit->Act->World->Prop}{a:Act}{w:World}(h:gh E all o next Q a w):
  wpOpIn E.ac 0 E.P all Q i next a w:=by
 unfold wpOpIn;simp only[ho];unfold gh at h;split at h
 ·simp_all
 rename_i hw;rw[Zm hw];exact⟨fun _ _=>trivial,h⟩
def OK(E:Env)(code:Code)(Q:bo)(U:bc)(s:St):Prop:=
 ∀a w,Good E U s a w->code.wpIn E.ac 0 E.P (fun e a' w'=>∃U' s',Good E U' s' a' w'/\Q e U' s') a w
end Go.Ab
namespace Go.Ab
open Go.RowKit
def mK:List Lab->(Nat->Bool)->St->St
 |[],_,s=>s
 |b::L,D,s=>mK L (fun j=>D (j+1)) (if D 0 then b.wr++s else s)
def uD:List Lab->(Nat->Bool)->bc->bc
 |[],_,u=>u
 |b::L,D,u=>uD L (fun j=>D (j+1)) (if D 0 then b.al++u else u)
def eS:List Lab->(Nat->Bool)->Nat->Option X
 |[],_,_=>none
 |b::L,D,k=>(eS L (fun j=>D (j+1)) k).or (if D 0 then look b.wr k else none)
theorem gW{k:Nat}:∀(L:List Lab)(D:Nat->Bool)(s:St),look (mK L D s) k=(eS L D k).or (look s k)
 |[],_,_=>by rfl
 |b::L,D,s=>by
  rw[mK,gW L,eS,Option.or_assoc];congr 1;by_cases h:D 0=true
  all_goals simp_all[dA]
theorem ez{k:Nat}:∀(L:List Lab)(D D':Nat->Bool),(∀(j:Nat)(b:Lab),L[j]?=some b->look b.wr k≠none->D j=D' j)->eS L D k=eS L D' k
 |[],_,_,_=>rfl
 |b::L,D,D',h=>by
  rw[eS,eS,ez L (fun j=>D (j+1)) (fun j=>D' (j+1)) (fun j b' hb hn=>h (j+1) b' (by grind) hn)];grind
theorem fZ{k:Nat}:∀(L:List Lab)(D:Nat->Bool)(u:bc),k∈uD L D u↔k∈u\/∃(j:Nat)(b:Lab),L[j]?=some b/\D j=true/\k∈b.al
 |[],_,_=>by simp[uD]
 |b::L,D,u=>by
  rw[uD,fZ L];grind
def iX:∀(L:List Lab)(s:St),mK L (fun _=>false) s=s
 |[],_=>rfl
 |_::L,s=>by simpa[mK]using iX L s
def j7:∀(L:List Lab)(s:bc),uD L (fun _=>false) s=s
 |[],_=>rfl
 |_::L,s=>by simpa[uD]using j7 L s
section
variable{E:Env}{all:Array Oper}
def Lx.length{l:List Oper}{U U':bc}{s s':St}{L:List Lab}(h:Lx E all l U s L U' s'):L.length=l.length:=by
 induction h<;>grind
def Lx.stAll{l:List Oper}{U U':bc}{s s':St}{L:List Lab}(h:Lx E all l U s L U' s'):∀D:Nat->Bool,(∀j,j<l.length->D j=true)->mK L D s=s'/\uD L D U=U':=by
 induction h with
 |nil=>intro D _;exact⟨rfl,rfl⟩
 |cons _ _ _ _ ih=>
  simp_all[mK,uD]
def Lx.at{l:List Oper}{U U':bc}{s s':St}{L:List Lab}(h:Lx E all l U s L U' s'):∀(i:Nat)(b:Lab),L[i]?=some b->
  ∃o,l[i]?=some o/\Step E all o b.rd b.wr b.al/\Looks (mK L (fun j=>decide (j<i)) s) b.rd/\∀k∈b.al,k∉uD L (fun j=>decide (j<i)) U:=by
 induction h with
 |nil=>simp
 | @cons o l U U' s s' L rd wr al hs hl hal _ ih=>
   intro i b hb;cases i with
   |zero=>
    simp at hb;subst hb;refine⟨o,rfl,hs,?_,?_⟩
    ·have:(fun j=>decide (j<0))=(fun _:Nat=>false):=by rfl
     simp_all[iX]
    have:(fun j=>decide (j<0))=(fun _:Nat=>false):=by rfl
    simp_all[j7]
   |succ i=>
    grind [mK,uD]
end
def rL(acc:bc):List Edge->Nat
 |[]=>0
 |e::l=>if Region.binds .any e then(2 ^ e.on|||acc.getD e.on 0)|||rL acc l else rL acc l
def Af:List Oper->bc->bc
 |[],acc=>acc
 |o::l,acc=>Af l (acc++[rL acc o.after.toList])
def jN(k:Nat):St->Bool
 |[]=>false
 |p::s=>Nat.beq p.1 k||jN k s
def meets:St->St->Bool
 |[],_=>false
 |p::s,t=>jN p.1 t||meets s t
def eR(a b:Lab):Bool:=meets a.wr b.rd||meets a.wr b.wr||meets a.rd b.wr
def nF(cl:bc):Nat->List Lab->Nat->Lab->Bool
 |_,[],_,_=>true
 |i,a::L,j,b=>(!(Nat.blt i j)||!eR a b||Nat.testBit (cl.getD j 0) i)&&nF cl (i+1) L j b
def nG(cl:bc)(L:List Lab):Nat->List Lab->Bool
 |_,[]=>true
 |j,b::M=>nF cl 0 L j b&&nG cl L (j+1) M
def lU:Nat->List Oper->Bool
 |_,[]=>true
 |i,o::l=>(o.after.toList.all fun e=>!Region.binds .any e||Nat.blt e.on i)&&lU (i+1) l
def iC(l:List Oper)(L:List Lab):Bool:=lU 0 l&&nG (Af l []) L 0 L
def tK{k:Nat}:∀{s:St},jN k s=false->∀p∈s,p.1≠k
 |[],_,p,hp=>by cases hp
 |q::s,h,p,hp=>by
  simp only[jN,rk]at h;rcases ed.1 hp with rfl|hp
  ·grind [Nat.beq_refl]
  exact tK h.2 p hp
def ey{k:Nat}:∀{s t:St},meets s t=false->(∃p∈s,p.1=k)->∀p∈t,p.1≠k
 |[],_,_,⟨p,hp,_⟩=>by cases hp
 |q::s,t,h,⟨p,hp,hk⟩=>by
  simp only[meets,rk]at h;rcases ed.1 hp with rfl|hp
  ·subst hk;exact tK h.1
  exact ey h.2 ⟨p,hp,hk⟩
def nY(l:List Oper)(D:Nat->Bool):Prop:=∀(i:Nat)(o:Oper),l[i]?=some o->D i=true->∀e∈o.after,Region.binds .any e=true->D e.on=true
def p8(l:List Oper)(D:Nat->Bool)(j:Nat):Prop:=∀o,l[j]?=some o->∀e∈o.after,Region.binds .any e=true->D e.on=true
def oE{acc:bc}{i:Nat}:∀{es:List Edge},(rL acc es).testBit i=true->∃e∈es,Region.binds .any e=true/\(e.on=i\/(acc.getD e.on 0).testBit i=true)
 |[],h=>by simp[rL]at h
 |e::es,h=>by
  simp only[rL]at h;split at h
  ·rename_i hb;rw[Nat.testBit_or,Nat.testBit_or,Nat.testBit_two_pow,im,im,jn]at h;rcases h with h|h
   ·simp_all
   obtain⟨e',h1,h2⟩:=oE h;grind
  obtain⟨e',h1,h2⟩:=oE h;grind
def fU{l:List Oper}{D:Nat->Bool}(hc:nY l D):∀(m pre:List Oper)(acc:bc),l=pre++m->acc.length=pre.length->
  (∀j i,(acc.getD j 0).testBit i=true->p8 l D j->D i=true)->∀j i,((Af m acc).getD j 0).testBit i=true->j<l.length->p8 l D j->D i=true
 |[],_,acc,_,_,h,j,i,hi,_,hr=>h j i hi hr
 |o::m,pre,acc,hl,hlen,h,j,i,hi,hj,hr=>by
  refine fU hc m (pre++[o]) _ (by simp[hl]) (by simp[hlen]) ?_ j i hi hj hr;intro j i hi hr;by_cases hlt:j<acc.length
  ·grind
  by_cases hje:j=acc.length
  ·subst hje;have ho:l[acc.length]?=some o:=by simp_all
   simp only[List.getD_eq_getElem?_getD,List.getElem?_concat_length,Option.getD_some]at hi;obtain⟨e,he,hb,hi⟩:=oE hi;grind [nY,p8]
  grind
def fN{cl:bc}{j:Nat}{b:Lab}:∀{L:List Lab}{k:Nat},nF cl k L j b=true->∀(i:Nat)(a:Lab),L[i]?=some a->k+i<j->eR a b=true->(cl.getD j 0).testBit (k+i)=true
 |[],_,_,i,a,h,_,_=>by simp at h
 |c::L,k,h,i,a,hi,hlt,hcl=>by
  simp only[nF,Zw,im]at h;cases i with
  |zero=>
   grind [Nat.blt_eq]
  |succ i=>
   have:=fN h.2 i a (by grind) I hcl;grind
def clashAll_spec{cl:bc}{L:List Lab}:∀{M:List Lab}{k:Nat},nG cl L k M=true->∀(j:Nat)(b:Lab),M[j]?=some b->nF cl 0 L (k+j) b=true
 |[],_,_,j,b,h=>by simp at h
 |c::M,k,h,j,b,hj=>by
  simp only[nG,Zw]at h;cases j with
  |zero=>simp_all
  |succ j=>
   have:=clashAll_spec h.2 j b (by grind);grind
def kC:∀{l:List Oper}{k:Nat},lU k l=true->∀(i:Nat)(o:Oper),l[i]?=some o->∀e∈o.after,Region.binds .any e=true->e.on<k+i
 |[],_,_,i,o,h=>by simp at h
 |c::l,k,h,i,o,hi=>by
  simp only[lU,Zw]at h;cases i with
  |zero=>
   simp at hi;subst hi;intro e he hb;have:=(dj.1 h.1) e (by grind);simp_all
  |succ i=>
   intro e he hb;have:=kC h.2 i o (by grind) e he hb;omega
def aM.FO{E:Env}{U U':bc}{c:Ctx}{a:Act}{w:World}(h:aM E U c a w)(hu:∀k,k∈U->k∈U'):aM E U' c a w:=
 ⟨h.below,h.hB,h.nt,h.iP,h.nS,h.hw,h.hle,h.hnew,h.loc,h.arr,fun k hk=>h.used k fun hm=>hk (hu k hm),h.Y,h.fB,h.fQ⟩
def aM.drew{E:Env}{U:bc}{c:Ctx}{a:Act}{w:World}(h:aM E U c a w):aM E U c a w.drew:=
 ⟨h.below.drew,h.hB,h.nt,h.iP,h.nS,h.hw,h.hle,h.hnew,h.loc,h.arr,h.used,h.Y,h.fB,h.fQ⟩
def Good.drew{E:Env}{U:bc}{s:St}{a:Act}{w:World}(h:Good E U s a w):Good E U s a w.drew:=by
 obtain⟨c,hb,hh⟩:=h;refine⟨c,hb.drew,fun key x hx=>?_⟩;have h1:=hh key x hx;unfold Holds at h1⊢;split
 ·simp_all
 rename_i hk;rw[Zm hk]at h1;refine cD h1 fun h1=>?_
 split
 ·rename_i hk2;rwa [Zn hk2]at h1
 rename_i hk2;rw[Zm hk2]at h1;split
 ·rename_i hk3;rwa [Zn hk3]at h1
 rename_i hk3;rw[Zm hk3]at h1;obtain⟨hk0,J,h2,h3,h4⟩:=h1;exact⟨hk0,J,h2,h3,h3 _ _ _ _ _ h4 (Mem.le_refl _) (fun _ _ e=>.inl e) hb.drew.hw (da.refl _ _ _).drew (fun _ _=>rfl)⟩
theorem iW(n j:Nat):(Array.replicate n false).getD j false=false:=by
 simp[Array.getD]
def vD(l:List Bool):Nat:=(l.filter (!·)).length
def u3:∀(l:List Bool)(i:Nat),l[i]?=some false->vD (l.set i true)+1=vD l
 |[],_,h=>by simp at h
 |b::l,0,h=>by simp_all[vD]
 |b::l,i+1,h=>by
  have:=u3 l i (by grind);grind [vD]
def rj:∀(l:List Bool),vD l=0->∀j,j<l.length->l.getD j false=true
 |[],_,j,h=>by simp at h
 |b::l,h,j,hj=>by
  simp only[vD,List.filter_cons]at h;cases b with
  |false=>simp at h
  |true=>
   cases j with
   |zero=>rfl
   |succ j=>simpa using rj l (by grind [vD]) j (by grind)
section
variable{E:Env}{l:List Oper}{U U':bc}{s s':St}{L:List Lab}
def D4(h:Lx E l.toArray l U s L U' s')(hc:iC l L=true)(Q:Exit->Act->World->Prop)(hQ:∀a w,Good E U' s' a w->Q .normal a w):
  ∀(fuel:Nat)(listed:Array Bool)(a:Act)(w:World),listed.size=l.length->vD listed.toList<=fuel->nY l (fun j=>listed.getD j false)->
   Good E (uD L (fun j=>listed.getD j false) U) (mK L (fun j=>listed.getD j false) s) a w->wpAnyIn E.ac 0 E.P .any l.toArray Q fuel listed a w:=by
 simp only[iC,Zw]at hc;obtain⟨hdown,hclash⟩:=hc;have hlen:=h.length
 have fin:∀(listed:Array Bool)(a:Act)(w:World),listed.size=l.length→Good E (uD L (fun j=>listed.getD j false) U) (mK L (fun j=>listed.getD j false) s) a w→
   Region.ready .any l.toArray listed=[]->Q .normal a w:=by
  intro listed a w hsz hg hr;have hall:∀j,j<l.length->listed.getD j false=true:=by
   intro j
   induction j using Nat.strongRecOn with
   |_ j ih=>
    intro hj;by_cases hd:listed.getD j false=true
    ·exact hd
    exfalso;have hmem:j∈Region.ready .any l.toArray listed:=by
     rw[mem_ready];refine⟨?_,l[j],by simp[hj],fun e he hb=>?_⟩
     ·simp_all
     have:=kC hdown j l[j] (by simp[hj]) e he hb;grind
    simp_all
  have:=h.stAll _ hall;simp_all
 intro fuel
 induction fuel with
 |zero=>
  intro listed a w hsz hun hcl hg;have hall:∀j,j<l.length->listed.getD j false=true:=fun j hj=>by
   have:=rj listed.toList I j (by simp_all);simp_all
  have hr:Region.ready .any l.toArray listed=[]:=by
   rw[vp];grind [mem_ready]
  exact⟨hr,fin listed a w hsz hg hr⟩
 |succ fuel ih=>
  intro listed a w hsz hun hcl hg;refine⟨fin listed a w hsz hg,fun i hi=>?_⟩;obtain⟨h0,o,ho,hedges⟩:=mem_ready.1 hi;have hil:i<l.length:=by grind
  have hio:l[i]?=some o:=by grind
  have hiL:i<L.length:=by omega
  have hisz:i<listed.size:=by omega
  have hbi:L[i]?=some L[i]:=Zv hiL;have hDi:listed.getD i false=false:=by
   simp_all
  obtain⟨o',ho',hstep,hlook,hfresh⟩:=h.at i L[i] hbi;rw[hio]at ho';cases ho';have hready:p8 l (fun j=>listed.getD j false) i:=fun o' ho' e he hb=>by
   simp_all
  -- of two operations that eR, who comes first has been done, or will not be done before
  have ord:∀(j:Nat)(b:Lab),L[j]?=some b->(eR b L[i]=true\/eR L[i] b=true)->j≠i->listed.getD j false=decide (j<i):=by
   intro j b hb hcla hne;have hjl:j<l.length:=by grind
   have sym:∀x y:Lab,eR x y=true->eR y x=true:=by
    intro x y hxy;have comm:∀s t:St,meets s t=true->meets t s=true:=by
     intro s t hst;cases hts:meets t s with
     |true=>rfl
     |false=>
      exfalso;have:∀s t:St,meets s t=true->∃p∈s,jN p.1 t=true:=by
       intro s
       induction s with
       |nil=>simp[meets]
       |cons p s ih=>intro t h;simp only[meets,im]at h;grind
      obtain⟨p,hp,hk⟩:=this s t hst;have:∃q∈t,q.1=p.1:=by
       have kk:∀(t:St),jN p.1 t=true->∃q∈t,q.1=p.1:=by
        intro t
        induction t with
        |nil=>simp[jN]
        |cons q t ih=>intro h;simp only[jN,im]at h;grind [Nat.eq_of_beq_eq_true]
       grind
      exact ey hts this p hp rfl
    simp only[eR,im]at hxy⊢;grind
   rcases mx j i with hlt|hge
   ·have hk:eR b L[i]=true:=hcla.elim id (sym _ _);have hsp:=fN (clashAll_spec hclash i L[i] hbi) j b hb I hk;simp only[gk]at hsp;have:=fU hcl l [] [] rfl rfl F i j hsp hil hready;simp_all
   have hgt:i<j:=by omega
   have hk:eR L[i] b=true:=hcla.elim (sym _ _) id;have hsp:=fN (clashAll_spec hclash j b hb) i L[i] hbi I hk;simp only[gk]at hsp;cases hdj:listed.getD j false with
   |false=>simp;omega
   |true=>
    exfalso;have:=fU hcl l [] [] rfl rfl F j i hsp hjl (fun o' ho' e he hb'=>hcl j o' ho' hdj e he hb');simp_all
  -- the state in which it is done
  obtain⟨c,hbase,hholds⟩:=hg;refine cW ho ?_;refine hstep _ c a w hbase ?_ ?_ _ Q ?_
  ·intro p hp;refine hholds _ _ ?_;have hx:=hlook.all p hp;rw[gW]at hx⊢;rw[ez L (fun j=>listed.getD j false) (fun j=>decide (j<i)) fun j b hb hn=>?_]
   ·exact hx
   by_cases hji:j=i
   ·simp_all
   refine ord j b hb ?_ hji;left;simp only[eR,im];left;left;cases hm:meets b.wr L[i].rd with
   |true=>rfl
   |false=>
    exfalso;obtain⟨y,hy⟩:∃y,look b.wr p.1=some y:=by cases hq:look b.wr p.1<;>grind
    exact ey hm ⟨_,cm hy,rfl⟩ p hp rfl
  ·intro k hk hmem;rcases(fZ L _ U).1 hmem with hu|⟨j,b,hb,hd,hkb⟩
   ·simp_all[fZ]
   by_cases hji:j=i
   ·simp_all
   rcases mx j i with hlt|hge
   ·grind [fZ]
   obtain⟨_,_,_,_,hfj⟩:=h.at j b hb;grind [fZ]
  intro c' a' w' hbase' _ hwr hfr;have hset:∀j,(listed.setIfInBounds i true).getD j false=if j=i then true else listed.getD j false:=by
   intro j;by_cases hji:j=i
   ·simp_all
   simp_all[JN]
  refine ih _ a' w' (by grind) ?_ ?_ ⟨c',hbase'.FO ?_,?_⟩
  ·have:=u3 listed.toList i (by
    simp_all)
   grind
  ·intro j o' ho' hd e he hb;simp only[hset]at hd⊢;split
   ·rfl
   by_cases hji:j=i
   ·simp_all
   rw[Zm hji]at hd;exact hcl j o' ho' hd e he hb
  ·grind [fZ]
  intro key x hx;by_cases hkw:look L[i].wr key=none
  ·refine hfr key x (k7.1 hkw) (hholds key x ?_);grind [gW,ez]
  obtain⟨y,hy⟩:∃y,look L[i].wr key=some y:=by cases hq:look L[i].wr key<;>grind
  have hxy:x=y:=by
   rw[gW,ez L _ (fun j=>decide (j<i+1)) fun j b hb hn=>?_]at hx
   ·have hat:eS L (fun j=>decide (j<i+1)) key=some y:=by
     have:∀(L:List Lab)(i:Nat)(b:Lab)(y:X),L[i]?=some b->look b.wr key=some y->eS L (fun j=>decide (j<i+1)) key=some y:=by
      intro L
      induction L with
      |nil=>simp
      |cons c L ihL=>
       intro i b y hb hy;cases i with
       |zero=>
        simp at hb;subst hb;have hz:eS L (fun j=>decide (j+1<0+1)) key=none:=by
         have:∀M:List Lab,eS M (fun _=>false) key=none:=by
          intro M;induction M with
          |nil=>rfl
          |cons d M ihM=>grind [eS]
         simp_all
        simp_all[eS]
       |succ i=>
        grind [eS]
     simp_all
    simp_all
   rw[hset];split
   ·simp_all
   rename_i hji;have:=ord j b hb (by
    left;simp only[eR,im];left;right;cases hm:meets b.wr L[i].wr with
    |true=>rfl
    |false=>
     exfalso;obtain⟨z,hz⟩:∃z,look b.wr key=some z:=by cases hq:look b.wr key<;>grind
     exact ey hm ⟨_,cm hz,rfl⟩ _ (cm hy) rfl) hji
   grind
  simp_all[cm]
def OK.aE{id:Nat}{Q:bo}(hm:E.P.follows .mixedOrders=true)(h:Lx E l.toArray l U s L U' s')(hc:iC l L=true)(hQ:Q .normal U' s'):
  OK E (.region id l.toArray true) Q U s:=by
 intro a w hg;refine wpIn_region_draw fun t=>?_
 simp only[Region.schedule,hm,vx,if_true];refine wpAnyIn_sound _ t _ a _ ?_;refine D4 h hc _ (fun a w hg=>⟨U',s',hg,hQ⟩) l.toArray.size (Array.replicate l.toArray.size false) a w.drew F ?_ ?_ ?_
 ·simp[vD]
 ·intro i o _ hd;grind [iW]
 have:(fun j=>(Array.replicate l.toArray.size false).getD j false)=(fun _:Nat=>false):=by
  grind [iW]
 rw[this,iX,j7];exact hg.drew
end
end Go.Ab
namespace Go.Ab
open Go.RowKit
def mE(U:bc):X->Bool
 |.ptr k _=>U.contains k
 |.own k _=>U.contains k
 |.di k _ _=>U.contains k
 |.jt k=>U.contains k
 |.rU k _ _ _ _=>U.contains k
 |_=>true
def vt(U:bc):X->Bool
 |.fn _ caps=>caps.all (mE U)
 |x=>mE U x
def okV(U:bc):X->Bool
 |.agg xs=>xs.all (vt U)
 |x=>vt U x
def Eb(U:bc):X->Bool
 |.cf xs=>xs.all (okV U)
 |x=>okV U x
def eP(U:bc)(p:Nat×X):Bool:=
 if Nat.blt p.1 1000 then Eb U p.2
 else match p.2 with
  |.any=>true
  |.box cells=>(U.any fun k=>Nat.beq (1000+k) p.1)&&cells.all (vt U)
  |.arr _ _=>U.any fun k=>Nat.beq (2000+k) p.1
  |.cM _ _ mid _=>(U.any fun k=>Nat.beq (2000+k) p.1)&&mid.all (vt U)
  |.omap _=>U.any fun k=>Nat.beq (1000+k) p.1
  |.CI k _=>U.contains k
  |_=>true
def FF{U:bc}{off key:Nat}(h:(U.any fun k=>Nat.beq (off+k) key)=true):U.contains (key - off)=true:=by
 grind [Nat.eq_of_beq_eq_true]
def Ctx.cut(c:Ctx)(U:bc):Ctx:=⟨c.h,fun k=>if U.contains k then c.loc k else none,fun k=>if U.contains k then c.arr k else none,c.Y⟩
theorem cq.cut{c:Ctx}{U:bc}{x:X}{v:Value}(h:cq c x v)(ho:mE U x=true):cq (c.cut U) x v:=by
 cases x
 case ptr k off=>obtain⟨b,h1,h2⟩:=h;exact⟨b,by simp_all[mE,Ctx.cut],h2⟩
 case own k n=>obtain⟨h0,m,hv,lv,h1,h2⟩:=h;exact⟨h0,m,hv,lv,by simp_all[mE,Ctx.cut],h2⟩
 case di k n off=>obtain⟨m,hv,lv,h1,h2⟩:=h;exact⟨m,hv,lv,by simp_all[mE,Ctx.cut],h2⟩
 case jt k=>obtain⟨b,h1,h2⟩:=h;exact⟨b,by simp_all[mE,Ctx.cut],h2⟩
 case rU k n sz lo hi=>obtain⟨h0,m,hv,lv,h1,h2⟩:=h;exact⟨h0,m,hv,lv,by simp_all[mE,Ctx.cut],h2⟩
 all_goals exact h
theorem ah.cut{R R':X->Value->Prop}{ok:X->Bool}(hr:∀x v,R x v->ok x=true->R' x v):∀{xs:bi}{vs:List Value},ah R xs vs->xs.all ok=true->ah R' xs vs
 |[],[],_,_=>trivial
 |_::_,_::_,h,ho=>by simp only[ee,Zw]at ho;exact⟨hr _ _ h.1 ho.1,ah.cut hr h.2 ho.2⟩
 |[],_::_,h,_=>h.elim
 |_::_,[],h,_=>h.elim
theorem aV.cut{c:Ctx}{U:bc}{x:X}{v:Value}(h:aV c x v)(ho:vt U x=true):aV (c.cut U) x v:=by
 cases x
 case fn f caps=>grind [aV,vt,ah.cut,cq.cut]
 all_goals simp_all[aV,vt,cq.cut]
theorem bt.cut{c:Ctx}{U:bc}{x:X}{v:Value}(h:bt c x v)(ho:okV U x=true):bt (c.cut U) x v:=by
 cases x
 case agg xs=>grind [bt,okV,ah.cut,aV.cut]
 all_goals simp_all[bt,okV,aV.cut]
def bK.cut{c:Ctx}{U:bc}{x:X}{v:Value}(h:bK c x v)(ho:Eb U x=true):bK (c.cut U) x v:=by
 cases x
 case cf xs=>grind [bK,Eb,ah.cut,bt.cut]
 all_goals simp_all[bK,Eb,bt.cut]
def Holds.cut{c:Ctx}{U:bc}{a:Act}{w:World}{key:Nat}{x:X}(h:Holds c a w key x)(ho:eP U (key,x)=true):Holds (c.cut U) a w key x:=by
 unfold Holds at *;unfold eP at ho;split at h
 ·rename_i hk;rw[Zn hk];rw[Zn (by simp_all)]at ho;exact h.cut ho
 rename_i hk;rw[Zm hk];rw[Zm (by simp_all)]at ho;refine cD h fun h=>?_
 split at h
 ·rename_i hk2;rw[Zn hk2];obtain⟨b,o,h1,h2,h3⟩:=h;cases x
  case box cells=>
   obtain⟨T,vs,h4,h5⟩:=h3;simp only[Zw]at ho;exact⟨b,o,by simp only[Ctx.cut,FF ho.1,if_true];exact h1,h2,T,vs,h4,ah.cut (R':=aV (c.cut U)) (ok:=vt U) (fun _ _ h ho=>aV.cut h ho) h5 ho.2⟩
  case omap es=>
   simp only at ho;exact⟨b,o,by simp only[Ctx.cut,FF ho,if_true];exact h1,h2,h3⟩
  all_goals exact h3.elim
 rename_i hk2;rw[Zm hk2];split at h
 ·rename_i hk3;rw[Zn hk3];obtain⟨sz,rows,hv,e,vs,hx,h1,h2⟩:=h;cases x
  case arr sz' rows'=>exact⟨sz,rows,hv,e,vs,hx,by simp only at ho;simp only[Ctx.cut,FF ho,if_true];exact h1,h2⟩
  case cM sz' pre mid post=>
   obtain⟨q1,q2,v1,v2,v3,q3,q4,q5,q6⟩:=hx;simp only[Zw]at ho;exact⟨sz,rows,hv,e,vs,⟨q1,q2,v1,v2,v3,q3,q4,ah.cut (R':=aV (c.cut U)) (ok:=vt U) (fun _ _ h ho=>aV.cut h ho) q5 ho.2,q6⟩,by simp only[Ctx.cut,FF ho.1,if_true];exact h1,h2⟩
  all_goals exact hx.elim
 rename_i hk3;rw[Zm hk3];obtain⟨hk0,J,hx0,h5⟩:=h;refine⟨hk0,J,?_,h5⟩;cases x
 case CI k Jb=>
  obtain⟨b,q1,q2⟩:=hx0;simp only at ho;exact⟨b,by simp_all[Ctx.cut],q2⟩
 all_goals first|exact hx0|exact hx0.elim
theorem cut_all{c:Ctx}{U:bc}{b:Nat}(e:(c.cut U).all b):c.all b:=by
 have hl:∀k b,(c.cut U).loc k=some b->c.loc k=some b:=by simp[Ctx.cut]
 have ha:∀k x,(c.cut U).arr k=some x->c.arr k=some x:=by simp[Ctx.cut]
 rcases e with hy|⟨k,h2⟩|⟨k,m,hv,h2,h3⟩
 ·exact .inl hy
 ·exact .inr (.inl ⟨k,hl _ _ h2⟩)
 exact .inr (.inr ⟨k,m,hv,ha _ _ h2,h3⟩)
def aM.cut{E:Env}{U:bc}{c:Ctx}{a:Act}{w:World}(h:aM E U c a w)(U':bc):aM E U' (c.cut U') a w:=by
 have hl:∀k b,(c.cut U').loc k=some b->c.loc k=some b:=by simp[Ctx.cut]
 have ha:∀k x,(c.cut U').arr k=some x->c.arr k=some x:=by simp[Ctx.cut]
 refine⟨h.below,h.hB,h.nt,⟨h.iP.1,fun d hd=>by obtain⟨D,h1,h2,h3,h4⟩:=h.iP.2 d hd;grind [cut_all]⟩,(fun p hp=>by obtain⟨h1,h2⟩:=h.nS p hp;grind [cut_all]),h.hw,h.hle,h.hnew,?_,?_,?_,fun b hb=>⟨(h.Y b hb).1,(h.Y b hb).2.1,fun k hk=>(h.Y b hb).2.2.1 k (hl k b hk),fun k m hv hk=>(h.Y b hb).2.2.2 k m hv (ha _ _ hk)⟩,fun k b hk hl'=>h.fB k b hk (hl _ _ hl'),fun k m hv lv hk ha'=>h.fQ k m hv lv hk (ha _ _ ha')⟩
 ·intro k b hk;obtain⟨h1,h2,h3,h4,h5⟩:=h.loc k b (hl k b hk);exact⟨h1,h2,h3,fun k' hk'=>h4 k' (hl _ _ hk'),fun k' m hv hk'=>h5 k' m hv (ha _ _ hk')⟩
 ·intro k m hv b hk hb;obtain⟨h1,h2,h3,h4⟩:=h.arr k m hv b (ha _ _ hk) hb;exact⟨h1,h2,h3,fun k' m' hv' hk'=>h4 k' m' hv' (ha _ _ hk')⟩
 simp_all[Ctx.cut]
def Le(s:St):St->Prop
 |[]=>True
 |p::r=>look s p.1=some p.2/\Le s r
theorem Le.look{s:St}:∀{r:St},Le s r->∀k x,look r k=some x->look s k=some x
 |[],_,_,_,h=>by cases h
 |p::r,h,k,x,hx=>by
  simp only[Ab.look]at hx;split at hx
  ·rename_i hb;have:=Nat.eq_of_beq_eq_true hb;cases hx;rw[←this];exact h.1
  exact Le.look h.2 k x hx
def Good.le{E:Env}{U U':bc}{s s':St}{a:Act}{w:World}(h:Good E U s a w)(hl:Le s s')(ho:s'.all (eP U')=true):Good E U' s' a w:=by
 obtain⟨c,hb,hh⟩:=h;refine⟨c.cut U',hb.cut U',fun key x hx=>Holds.cut (hh key x (hl.look key x hx)) ?_⟩;grind [cm]
def cw{k n n':Nat}(h:n=n'):some (X.own k n)=some (X.own k n'):=by rw[h]
def bH{sz:Nat}{rows rows':List bi}(h:rows=rows'):some (X.arr sz rows)=some (X.arr sz rows'):=by rw[h]
inductive Kn where
 |code (c:Code)
 |blk (id:Nat)
 |lp (J:bc->St->Prop)
def den(E:Env)(Q:bo):List Kn->bo
 |[],e,U,s=>Q e U s
 |.code c::k,.normal,U,s=>OK E c (den E Q k) U s
 |.code _::k,e,U,s=>den E Q k e U s
 |.blk id::k,.exit i,U,s=>if Nat.beq i id then den E Q k .normal U s else den E Q k (.exit i) U s
 |.blk _::k,e,U,s=>den E Q k e U s
 |.lp J::_,.normal,U,s=>J U s
 |.lp _::k,e,U,s=>den E Q k e U s
section
variable{E:Env}{Q:bo}{k:List Kn}{U:bc}{s:St}
def D.code{c:Code}(h:OK E c (den E Q k) U s):den E Q (.code c::k) .normal U s:=h
def D.blk{id:Nat}(h:den E Q k .normal U s):den E Q (.blk id::k) .normal U s:=h
def D.lp{J:bc->St->Prop}(h:J U s):den E Q (.lp J::k) .normal U s:=h
def D.ret(h:Q .ret U s){k:List Kn}:den E Q k .ret U s:=by
 induction k with
 |nil=>exact h
 |cons x k ih=>cases x<;>exact ih
def xx(id:Nat):List Kn->Option (List Kn)
 |[]=>none
 |.blk i::k=>if Nat.beq id i then some k else xx id k
 |_::k=>xx id k
def D.exit{id:Nat}{k':List Kn}(h:den E Q k' .normal U s){k:List Kn}(hp:xx id k=some k'):den E Q k (.exit id) U s:=by
 induction k with
 |nil=>cases hp
 |cons x k ih=>
  cases x with
  |code c=>exact ih hp
  |lp J=>exact ih hp
  |blk i=>
   grind [den,xx]
def OK.mono{Q':bo}{c:Code}(h:OK E c Q U s)(hq:∀e U s,Q e U s->Q' e U s):OK E c Q' U s:=
 fun a w hg=>wpIn_mono (h a w hg) fun _ _ _ ⟨U',s',hg',hQ⟩=>⟨U',s',hg',hq _ _ _ hQ⟩
def OK.weak{U':bc}{s':St}{c:Code}(h:OK E c Q U' s')(hl:Le s s')(ho:s'.all (eP U')=true):OK E c Q U s:=
 fun a w hg=>h a w (hg.le hl ho)
def OK.skip(h:den E Q k .normal U s):OK E .skip (den E Q k) U s:=fun _ _ hg=>wpIn_skip ⟨U,s,hg,h⟩
def OK.ret(h:Q .ret U s):OK E .ret (den E Q k) U s:=fun _ _ hg=>wpIn_ret ⟨U,s,hg,D.ret h⟩
def OK.exit{id:Nat}{k':List Kn}(hp:xx id k=some k')(h:den E Q k' .normal U s):OK E (.exit id) (den E Q k) U s:=fun _ _ hg=>wpIn_exit ⟨U,s,hg,D.exit h hp⟩
def OK.seq{x y:Code}(h:OK E x (den E Q (.code y::k)) U s):OK E (.seq x y) (den E Q k) U s:=by
 intro a w hg;refine wpIn_seq (wpIn_mono (h a w hg) ?_);rintro e a' w' ⟨U',s',hg',hq⟩;cases e with
 |normal=>exact hq a' w' hg'
 |_=>exact⟨U',s',hg',hq⟩
def OK.block{id:Nat}{x:Code}(h:OK E x (den E Q (.blk id::k)) U s):OK E (.block id x) (den E Q k) U s:=by
 intro a w hg;refine wpIn_block (wpIn_mono (h a w hg) ?_);rintro e a' w' ⟨U',s',hg',hq⟩;cases e with
 |exit i=>
  simp only[Exit.inBlock];simp only[den]at hq;split
  ·rename_i he;rw[Zn (by simp_all)]at hq;grind
  rename_i he;rw[Zm (fun hb=>he (Nat.eq_of_beq_eq_true hb))]at hq;grind
 |_=>exact⟨U',s',hg',hq⟩
def OK.cond{t:Nat}{b:Bool}{x y:Code}(ht:Nat.blt t 1000=true)(hl:look s t=some (.bool b))(hx:b=true->OK E x Q U s)(hy:b=false->OK E y Q U s):OK E (.cond (.tmp t) x y) Q U s:=by
 intro a w hg;obtain⟨c,hb,hh⟩:=hg;have h1:=hh t _ hl;rw[db]at ht;simp only[Holds,Zn ht,bK,bt,aV,cq]at h1;have he:a.eval (.tmp t)=.bool b:=by
  show a.tmps.getD t undef=.bool b;generalize a.tmps.getD t undef=v at h1;cases h1;rfl
 refine wpIn_cond_split he (fun hb'=>hx hb' a w ⟨c,hb,hh⟩) (fun hb'=>hy hb' a w ⟨c,hb,hh⟩)
def yy{ac:Fence}{n:Nat}{P:Program}{R:Exit->Act->World->Prop}{a:Act}{w:World}{c:Code}{G:Type}(am:G->Act->World->Prop)(μ:G->Nat)(g0:G)(h0:am g0 a w)
  (round:∀g a w,am g a w->c.wpIn ac n P (Exit.then (fun a' w'=>∃g',am g' a' w'/\μ g'<μ g) R) a w):(Code.loop c).wpIn ac n P R a w:=by
 intro b k cs hro hb hr;have key:∀j g a w,μ g=j->am g a w->∃e a' w',R e a' w'/\ArrivesIn (Machine.fenced P ac) P (lone (b.atR a (.code c::.inLoop c::k)) cs w) b k cs e a' w':=by
  intro j
  induction j using Nat.strongRecOn with
  |_ j ih=>
   intro g a w hn hI;obtain⟨e,a₁,w₁,hq,harr⟩:=round g a w hI b (.inLoop c::k) cs hro hb hr;cases e with
   |normal=>
    obtain⟨g₁,hI₁,hlt⟩:=hq;obtain⟨e₂,a₂,w₂,hq₂,harr₂⟩:=ih (μ g₁) (hn▸hlt) g₁ a₁ w₁ rfl hI₁;exact⟨e₂,a₂,w₂,hq₂,.of_steps (StepsIn.trans harr (.one (fenced_calm hb hr rfl) stepR_inLoop)) harr₂⟩
   |exit id=>exact⟨_,a₁,w₁,hq,.pass (x:=.inLoop c) rfl (fun _ _=>.inl F) harr⟩
   |goto l=>exact⟨_,a₁,w₁,hq,.pass (x:=.inLoop c) rfl (fun _ _=>.inl F) harr⟩
   |ret=>exact⟨_,a₁,w₁,hq,.pass (x:=.inLoop c) rfl (fun _ _=>.inl F) harr⟩
   |panic ch=>exact⟨_,a₁,w₁,hq,.pass (x:=.inLoop c) rfl (fun _ _=>.inl F) harr⟩
   |outgrown=>exact⟨_,a₁,w₁,hq,.pass (x:=.inLoop c) rfl (fun _ _=>.inl F) harr⟩
 obtain⟨e,a',w',hq,harr⟩:=key _ g0 a w rfl h0;exact⟨e,a',w',hq,.of_steps (.one (fenced_calm hb hr rfl) stepR_loop) harr⟩
def OK.loop{G:Type}(u:bc)(st:G->St)(pre:G->Prop)(μ:G->Nat){body:Code}(g0:G)(h0:pre g0)(hl:Le s (st g0))(ho:∀g,(st g).all (eP u)=true)
  (hbody:∀g,pre g->OK E body (den E Q (.lp (fun _ s'=>∃g',pre g'/\μ g'<μ g/\Le s' (st g'))::k)) u (st g)):OK E (.loop body) (den E Q k) U s:=by
 intro a w hg;refine yy (fun g a' w'=>pre g/\Good E u (st g) a' w') μ g0 ⟨h0,hg.le hl (ho g0)⟩ ?_;rintro g a' w' ⟨hp,hg'⟩;refine wpIn_mono (hbody g hp a' w' hg') ?_;rintro e a2 w2 ⟨U2,s2,hg2,hq⟩;cases e with
 |normal=>
  obtain⟨g2,hp2,hm2,hl2⟩:=hq;exact⟨g2,⟨hp2,hg2.le hl2 (ho g2)⟩,hm2⟩
 |_=>exact⟨U2,s2,hg2,hq⟩
def yz{J J':bc->St->Prop}(h:∀U s,J U s->J' U s):∀e U s,den E Q (.lp J::k) e U s->den E Q (.lp J'::k) e U s:=by
 intro e U s hd;cases e with
 |normal=>exact h U s hd
 |_=>exact hd
def OK.mP{A B:Type}(u:bc)(st:A->B->St)(pre:A->B->Prop)(μ:A->B->Nat){body:Code}(a0:A)(b0:B)(h0:pre a0 b0)(hl:Le s (st a0 b0))(ho:∀a b,(st a b).all (eP u)=true)
  (hbody:∀a b,pre a b->OK E body (den E Q (.lp (fun _ s'=>∃a' b',pre a' b'/\μ a' b'<μ a b/\Le s' (st a' b'))::k)) u (st a b)):OK E (.loop body) (den E Q k) U s:=
 OK.loop (G:=A×B) u (fun g=>st g.1 g.2) (fun g=>pre g.1 g.2) (fun g=>μ g.1 g.2) (a0,b0) h0 hl (fun g=>ho g.1 g.2) fun g hp=>(hbody g.1 g.2 hp).mono (yz fun _ _ ⟨a,b,h⟩=>⟨(a,b),h⟩)
def OK.FH{A B ab:Type}(u:bc)(st:A->B->ab->St)(pre:A->B->ab->Prop)(μ:A->B->ab->Nat){body:Code}(a0:A)(b0:B)(c0:ab)(h0:pre a0 b0 c0)(hl:Le s (st a0 b0 c0))(ho:∀a b c,(st a b c).all (eP u)=true)
  (hbody:∀a b c,pre a b c->OK E body (den E Q (.lp (fun _ s'=>∃a' b' c',pre a' b' c'/\μ a' b' c'<μ a b c/\Le s' (st a' b' c'))::k)) u (st a b c)):OK E (.loop body) (den E Q k) U s:=
 OK.loop (G:=A×B×ab) u (fun g=>st g.1 g.2.1 g.2.2) (fun g=>pre g.1 g.2.1 g.2.2) (fun g=>μ g.1 g.2.1 g.2.2) (a0,b0,c0) h0 hl (fun g=>ho g.1 g.2.1 g.2.2) fun g hp=>(hbody g.1 g.2.1 g.2.2 hp).mono (yz fun _ _ ⟨a,b,c,h⟩=>⟨(a,b,c),h⟩)
def OK.Io{A B ab D:Type}(u:bc)(st:A->B->ab->D->St)(pre:A->B->ab->D->Prop)(μ:A->B->ab->D->Nat){body:Code}(a0:A)(b0:B)(c0:ab)(d0:D)(h0:pre a0 b0 c0 d0)(hl:Le s (st a0 b0 c0 d0))(ho:∀a b c d,(st a b c d).all (eP u)=true)
  (hbody:∀a b c d,pre a b c d->OK E body (den E Q (.lp (fun _ s'=>∃a' b' c' d',pre a' b' c' d'/\μ a' b' c' d'<μ a b c d/\Le s' (st a' b' c' d'))::k)) u (st a b c d)):OK E (.loop body) (den E Q k) U s:=
 OK.loop (G:=A×B×ab×D) u (fun g=>st g.1 g.2.1 g.2.2.1 g.2.2.2) (fun g=>pre g.1 g.2.1 g.2.2.1 g.2.2.2) (fun g=>μ g.1 g.2.1 g.2.2.1 g.2.2.2) (a0,b0,c0,d0) h0 hl (fun g=>ho g.1 g.2.1 g.2.2.1 g.2.2.2) fun g hp=>(hbody g.1 g.2.1 g.2.2.1 g.2.2.2 hp).mono (yz fun _ _ ⟨a,b,c,d,h⟩=>⟨(a,b,c,d),h⟩)
end
end Go.Ab
namespace Go.Ab
open Go.RowKit
def Cs:Value->X
 |.int k n=>.int k n
 |.bool b=>.bool b
 |.string s=>.str s.data.toList
 |.slice none 0 0=>.bO
 |v=>.raw v
def qF:Value->Bool
 |.int k n=>k.wrap n==n
 |.string s=>Nat.ble s.data.toList.length maxLen
 |_=>true
def Cu{c:Ctx}{v:Value}(h:qF v=true):aV c (Cs v) v:=by
 cases v with
 |int k n=>exact ay.int (by grind [qF])
 |bool b=>exact ay.bool b
 |string s=>exact ay.str (h:=c.h) s.data.toList (by simpa[qF]using h)
 |slice a l cp=>
  cases a with
  |none=>cases l with
   |zero=>cases cp<;>exact rfl
   |succ l=>exact rfl
  |some a=>exact rfl
 |_=>exact rfl
inductive bI(s:St):Operand->X->St->Prop
 |tmp {t:Nat} {y:X}:Nat.blt t 1000=true->look s t=some y->bI s (.tmp t) y [(t,y)]
 |af {k:IntKind} {n:Int}:k.wrap n=n->bI s (.const (.int k n)) (.int k n) []
 |aJ {b:Bool}:bI s (.const (.bool b)) (.bool b) []
 |bj {bs:ByteArray} {l:ba}:bs=⟨l.toArray⟩->l.length<=maxLen->bI s (.const (.string bs)) (.str l) []
 |fW:bI s (.const (.slice none 0 0)) (.sl []) []
 |oL {f:Nat}:bI s (.func f) (.fn f []) []
 |HF:bI s (.const (.slice none 0 0)) .bO []
 |HG {vs:Array Value} {xs:bi}:vs.toList.map Cs=xs->vs.toList.all qF=true->bI s (.const (.agg vs)) (.agg xs) []
 |lq {v:Value}:bI s (.const v) (.raw v) []
theorem mW{c:Ctx}:∀{vs:List Value},vs.all qF=true->ah (aV c) (vs.map Cs) vs
 |[],_=>trivial
 |v::vs,h=>by simp only[ee,Zw]at h;exact⟨Cu h.1,mW h.2⟩
def ay.ef{c:Ctx}{x:X}{v:Value}(h:ay c.h x v):bK c x v:=by
 cases h with
 |int e=>exact .int e
 |bool b=>exact .bool b
 |str s e=>exact .str s e
 |rP a cap e=>exact .rP a cap e
 |sl rows b off cap sz vs h1 h2 h3 h4 h5 h6=>exact .sl rows b off cap sz vs h1 h2 h3 h4 h5 h6
 |b5 cells b off vs h1 h2 h3=>exact .b5 cells b off vs h1 h2 h3
 |raw u e=>exact rfl
def ay.Aa{c:Ctx}{x:X}{v:Value}(h:ay c.h x v):aV c x v:=by
 cases h with
 |int e=>exact .int e
 |bool b=>exact .bool b
 |str s e=>exact .str s e
 |rP a cap e=>exact .rP a cap e
 |sl rows b off cap sz vs h1 h2 h3 h4 h5 h6=>exact .sl rows b off cap sz vs h1 h2 h3 h4 h5 h6
 |b5 cells b off vs h1 h2 h3=>exact .b5 cells b off vs h1 h2 h3
 |raw u e=>exact rfl
def Holds.slot{c:Ctx}{a:Act}{w:World}{t:Nat}{x:X}(h:Holds c a w t x)(ht:Nat.blt t 1000=true):bK c x (a.tmps.getD t undef):=by
 simp_all[Holds]
def bI.looks{s:St}{o:Operand}{y:X}{r:St}(h:bI s o y r):Looks s r:=by
 cases h with
 |tmp _ h=>exact⟨h,Zo⟩
 |_=>exact trivial
def bI.rep{s:St}{o:Operand}{y:X}{r:St}(h:bI s o y r){c:Ctx}{a:Act}{w:World}(hr:∀p∈r,Holds c a w p.1 p.2):bK c y (a.eval o):=by
 cases h with
 |tmp ht _=>exact(hr _ dp).slot ht
 |af e=>exact ay.ef (.int e)
 |aJ=>exact ay.ef (.bool _)
 |bj e hl=>subst e;exact ay.ef (.str _ hl)
 |fW=>exact ay.ef (.rP none 0 (Zr _))
 |oL=>exact⟨[],rfl,Zo⟩
 |HF=>exact rfl
 |HG e hl=>subst e;exact⟨_,by rfl,mW hl⟩
 |lq=>exact rfl
inductive Gd(all:Array Oper)(s:St):Option (Nat×Bool)->St->Prop
 |none:Gd all s none []
 |yes {j t:Nat} {b b':Bool}:(all[j]?).bind (·.dst)=some t->Nat.blt t 1000=true->look s t=some (.bool b')->b'=b->Gd all s (some (j,b)) [(t,.bool b')]
def Gd.looks{all:Array Oper}{s:St}{g:Option (Nat×Bool)}{r:St}(h:Gd all s g r):Looks s r:=by
 cases h with
 |none=>exact trivial
 |yes _ _ h _=>exact⟨h,Zo⟩
def s7{c:Ctx}{a:Act}{t:Nat}{b:Bool}(h:bK c (.bool b) (a.tmps.getD t undef)):a.tmps[t]?=some (.bool b):=by
 have h1:a.tmps.getD t undef=.bool b:=by
  generalize a.tmps.getD t undef=v at h;cases h;rfl
 simp only[Array.getD]at h1;split at h1
 ·simp_all
 cases h1
def Gd.wanted{all:Array Oper}{s:St}{o:Oper}{r:St}(h:Gd all s o.guard r){c:Ctx}{a:Act}{w:World}(hr:∀p∈r,Holds c a w p.1 p.2):
  Region.wanted o (yielded all a.tmps)=true:=by
 unfold Region.wanted;generalize o.guard=g at h;cases h with
 |none=>rfl
 |yes hd ht _ he=>
  subst he;have:=s7 ((hr _ dp).slot ht);grind [yielded]
def Looks.app{s:St}:∀{r r':St},Looks s r->Looks s r'->Looks s (r++r')
 |[],_,_,h=>h
 |_::_,_,h,h'=>⟨h.1,Looks.app h.2 h'⟩
def aW(E:Env)(all:Array Oper)(o:Oper)(s rd wr:St)(al:bc):Prop:=Step E all o rd wr al/\Looks s rd
def Lx.c{E:Env}{all:Array Oper}{o:Oper}{l:List Oper}{U U':bc}{s s':St}{L:List Lab}{rd wr:St}{al:bc}(h:aW E all o s rd wr al)
 (hr:Lx E all l (al++U) (wr++s) L U' s') (ha:(al.all fun k=>!U.contains k)=true:=by rfl):Lx E all (o::l) U s (⟨rd,wr,al⟩::L) U' s':=.cons h.1 h.2 ha hr
def mX:Op->Bool
 |.defer _=>true
 |_=>false
def aM.put{E:Env}{U:bc}{c:Ctx}{a:Act}{w:World}(h:aM E U c a w)(d:Option Tmp)(v:Value):aM E U c (a.put d v) w:=by
 refine⟨h.below,h.hB,?_,?_,h.nS,h.hw,h.hle,h.hnew,h.loc,h.arr,h.used,h.Y,h.fB,h.fQ⟩
 ·cases d<;>simp[Act.put,h.nt]
 cases d<;>exact h.iP
def Holds.put{c:Ctx}{a:Act}{w:World}{d key:Nat}{x:X}(h:Holds c a w key x)(hne:d≠key)(v:Value):Holds c (a.put (some d) v) w key x:=by
 simp_all[Holds,Act.put]
def cE{a:Act}{d:Nat}(hd:d<a.tmps.size)(v:Value):(a.put (some d) v).tmps.getD d undef=v:=by
 simp[Act.put,hd]
def IU(E:Env)(op:Op)(o:Oper)(r wr:St)(al:bc)(x:X):Prop:=
 ∀(U:bc)(c:Ctx)(a:Act)(w:World),aM E U c a w->(∀p∈r,Holds c a w p.1 p.2)->(∀k∈al,k∉U)->
  ∃v c' w',(execOp a.eval {o with op:=op}).run E.P w=.ok (.value v) w'/\aM E (al++U) c' a w'/\Ext c c'/\bK c' x v/\
   (∀p∈wr,¬p.1<1000/\Holds c' a w' p.1 p.2)/\(∀key y,¬key<1000->(∀p∈wr,p.1≠key)->Holds c a w key y->Holds c' a w' key y)
def aW.mk{E:Env}{all:Array Oper}{s r rg wr:St}{al:bc}{d ty:Nat}{op:Op}{pos:String}{after:Array Edge}{guard:Option (Nat×Bool)}{x:X}
  (hg:Gd all s guard rg) (hd:cP E d=true) (hdef:mX op=false) (hl:Looks s r)
  (h:IU E op ⟨some d,op,ty,pos,after,guard⟩ r wr al x):aW E all ⟨some d,op,ty,pos,after,guard⟩ s (rg++r) ((d,x)::wr) al:=by
 simp only[Zw,db]at hd;refine⟨?_,hg.looks.app hl⟩;intro U c a w hb hr hal next Q hn
 obtain⟨v,c',w',hrun,hb',hext,hx,hwr,hfr⟩:=h U c a w hb (fun p hp=>hr p (fv _ hp)) hal;have hw:=hg.wanted (o:=⟨some d,op,ty,pos,after,guard⟩) (fun p hp=>hr p (dv _ hp));unfold gh;rw[Zn hw];refine⟨fun _ _=>trivial,?_⟩;have hs:Oper.semAt E.ac.round a.eval ⟨some d,op,ty,pos,after,guard⟩=execOp a.eval ⟨some d,op,ty,pos,after,guard⟩:=
  Oper.semAt_eq _ _ _ fun cl he=>by simp only at he;rw[he]at hdef;cases hdef
 rw[hs,hrun];have hdt:d<a.tmps.size:=by rw[hb.nt];exact hd.2
 refine hn c' _ w' (hb'.put _ _) hext ?_ ?_
 ·intro p hp;rcases ed.1 hp with rfl|hp
  ·unfold Holds;rw[Zn hd.1,cE hdt];exact hx
  exact(hwr p hp).2.put (fun e=>(hwr p hp).1 (e▸hd.1)) v
 intro key y hk hy;have hne:d≠key:=hk (d,x) dp;by_cases h1:key<1000
 ·refine Holds.put ?_ hne v;unfold Holds at hy⊢;rw[Zn h1]at hy⊢;exact hy.mono hext
 exact(hfr key y h1 (fun p hp=>hk p (dg _ hp)) hy).put hne v
def aW.val{E:Env}{all:Array Oper}{s r rg:St}{d ty:Nat}{op:Op}{pos:String}{after:Array Edge}{guard:Option (Nat×Bool)}{x:X}
  (hg:Gd all s guard rg) (hd:cP E d=true) (hdef:mX op=false) (hl:Looks s r)
  (h:∀(c:Ctx)(a:Act)(w:World),(∀p v,c.h p=some v->w.cell? p=some v)->(∀p∈r,Holds c a w p.1 p.2)->
   ∃v,(execOp a.eval ⟨some d,op,ty,pos,after,guard⟩).run E.P w=.ok (.value v) w/\bK c x v):aW E all ⟨some d,op,ty,pos,after,guard⟩ s (rg++r) [(d,x)] []:=by
 refine aW.mk hg hd hdef hl fun U c a w hb hr _=>?_
 obtain⟨v,h1,h2⟩:=h c a w hb.hw hr;grind [Ext.refl]
def step_skip{E:Env}{all:Array Oper}{s r:St}{d ty j:Nat}{op:Op}{pos:String}{after:Array Edge}{b':Bool}(hl:Looks s r)(hd:cP E d=true)
  (hn:∀c a w,(∀p∈r,Holds c a w p.1 p.2)->(yielded all a.tmps j==some b')=false):aW E all ⟨some d,op,ty,pos,after,some (j,b')⟩ s r [(d,.cf [])] []:=by
 simp only[Zw,db]at hd;refine⟨?_,hl⟩;intro U c a w hbase hr _ next Q hnx
 have hw:Region.wanted (⟨some d,op,ty,pos,after,some (j,b')⟩:Oper) (yielded all a.tmps)=false:=hn c a w hr;unfold gh;rw[Zm (by grind)];have hdt:d<a.tmps.size:=by rw[hbase.nt];exact hd.2
 refine hnx c _ w (hbase.put _ _) (Ext.refl c) ?_ ?_
 ·intro p hp;simp only[df]at hp;subst hp;unfold Holds;rw[Zn hd.1,cE hdt];exact⟨[],rfl,Zo⟩
 intro key y hk hy;exact hy.put (hk (d,.cf []) F) _
def S.skip{E:Env}{all:Array Oper}{s:St}{d ty j t:Nat}{op:Op}{pos:String}{after:Array Edge}{b b':Bool}
  (ht:(all[j]?).bind (·.dst)=some t) (ht2:Nat.blt t 1000=true) (hl:look s t=some (.bool b)) (hb:(b==b')=false) (hd:cP E d=true):aW E all ⟨some d,op,ty,pos,after,some (j,b')⟩ s [(t,.bool b)] [(d,.cf [])] []:=
 step_skip ⟨hl,Zo⟩ hd fun c a w hr=>by
  have h1:=s7 ((hr (t,.bool b) dp).slot ht2);simp only[yielded,ht,xi,h1];simpa using hb
def S.Hy{E:Env}{all:Array Oper}{s:St}{d ty j t:Nat}{op:Op}{pos:String}{after:Array Edge}{b':Bool}
  (ht:(all[j]?).bind (·.dst)=some t) (ht2:Nat.blt t 1000=true) (hl:look s t=some (.cf [])) (hd:cP E d=true):aW E all ⟨some d,op,ty,pos,after,some (j,b')⟩ s [(t,.cf [])] [(d,.cf [])] []:=
 step_skip ⟨hl,Zo⟩ hd fun c a w hr=>by
  obtain⟨vs,h1,h2⟩:=(hr (t,.cf []) dp).slot ht2;have h3:vs=[]:=ah.bJ h2;subst h3;have h4:∀b,a.tmps[t]?≠some (.bool b):=fun b e=>by
   have:a.tmps.getD t undef=.bool b:=by simp[Array.getD_eq_getD_getElem?,e]
   rw[this]at h1;cases h1
  simp only[yielded,ht,xi]
  first
  |rfl
  |(split
    ·rename_i e;exact absurd e (h4 _)
    rfl)
end Go.Ab
namespace Go.Ab
open Go.RowKit
structure eT(P:Program)(T:TypeId)(agg:Bool)(sz:Nat):Prop where
 agg:∀w,(isAgg T).run P w=.ok agg w
 size:∀w,(sizeOf T).run P w=.ok sz w
structure dz(P:Program)(T f off:Nat):Prop where
 ex:∃fields fl n,P.underlying T=some (.struct fields)/\fields[f]?=some fl/\fl.offset=off/\n≠0/\∀w,(sizeOf fl.type).run P w=.ok n w
structure o7(P:Program)(t e sz:Nat):Prop where
 mD:P.underlying t=some (.slice e)
 size:∀w,(sizeOf e).run P w=.ok sz w
def cO:X->Bool
 |.cf _=>true
 |_=>false
def mU:X->Bool
 |.cf _|.agg _=>true
 |_=>false
def bR:X->Bool
 |.cf _|.agg _|.fn _ _=>true
 |_=>false
def cJ{c:Ctx}{k:IntKind}{n:Int}{v:Value}(h:bK c (.int k n) v):v=.int k n/\k.wrap n=n:=by cases h;simp_all
def gF{c:Ctx}{b:Bool}{v:Value}(h:bK c (.bool b) v):v=.bool b:=by cases h;rfl
def fS{c:Ctx}{l:ba}{v:Value}(h:bK c (.str l) v):v=.string ⟨l.toArray⟩/\l.length<=maxLen:=by cases h;simp_all
section
variable{E:Env}{all:Array Oper}{s r r1 r2 r3 rg:St}{d ty:Nat}{pos:String}{after:Array Edge}{guard:Option (Nat×Bool)}{x y z:Operand}{k:IntKind}{m n:Int}{a b:Bool}
def S.move{u:X}(hg:Gd all s guard rg)(hd:cP E d=true)(hx:bI s x u r):aW E all ⟨some d,.move x,ty,pos,after,guard⟩ s (rg++r) [(d,u)] []:=
 aW.val hg hd rfl hx.looks fun _ _ _ _ hr=>⟨_,rfl,hx.rep hr⟩
def S.assign{u:X}(hg:Gd all s guard rg)(hd:cP E d=true)(hx:bI s x u r):aW E all ⟨some d,.assign x,ty,pos,after,guard⟩ s (rg++r) [(d,u)] []:=
 aW.val hg hd rfl hx.looks fun _ _ _ _ hr=>⟨_,rfl,hx.rep hr⟩
def S.aQ{u:X}(hg:Gd all s guard rg)(hd:cP E d=true)(hx:bI s x (.bool a) r1)(hy:bI s y u r2)(ha:a=true):
  aW E all ⟨some d,.pick x y z,ty,pos,after,guard⟩ s (rg++(r1++r2)) [(d,u)] []:=
 aW.val hg hd rfl (hx.looks.app hy.looks) fun c A w _ hr=>by
  have h1:=gF (hx.rep (c:=c) (a:=A) (w:=w) fun p hp=>hr p (by simp[hp]));subst ha;exact⟨_,by simp[execOp,h1,asBool],hy.rep fun p hp=>hr p (by simp[hp])⟩
def S.aO{u:X}(hg:Gd all s guard rg)(hd:cP E d=true)(hx:bI s x (.bool a) r1)(hz:bI s z u r2)(ha:a=false):
  aW E all ⟨some d,.pick x y z,ty,pos,after,guard⟩ s (rg++(r1++r2)) [(d,u)] []:=
 aW.val hg hd rfl (hx.looks.app hz.looks) fun c A w _ hr=>by
  have h1:=gF (hx.rep (c:=c) (a:=A) (w:=w) fun p hp=>hr p (by simp[hp]));subst ha;exact⟨_,by simp[execOp,h1,asBool],hz.rep fun p hp=>hr p (by simp[hp])⟩
def S.qG{op:BinOp}{t t2:Nat}{u:X}{v:Value}(hg:Gd all s guard rg)(hd:cP E d=true)(hx:bI s x (.int k m) r1)(hy:bI s y (.int k n) r2)
  (hrun:k.wrap m=m->k.wrap n=n->(∀w,(binOp op t (.int k m) (.int k n)).run E.P w=.ok v w)/\∀c,bK c u v):
  aW E all ⟨some d,.binOp op t x y t2,ty,pos,after,guard⟩ s (rg++(r1++r2)) [(d,u)] []:=
 aW.val hg hd rfl (hx.looks.app hy.looks) fun c A w _ hr=>by
  obtain⟨h1,e1⟩:=cJ (hx.rep (c:=c) (a:=A) (w:=w) fun p hp=>hr p (by simp[hp]));obtain⟨h2,e2⟩:=cJ (hy.rep (c:=c) (a:=A) (w:=w) fun p hp=>hr p (by simp[hp]));obtain⟨h3,h4⟩:=hrun e1 e2;refine⟨v,?_,h4 c⟩;have hq:(eqGuard op t x y (.int k m) (.int k n)).run E.P w=.ok () w:=by cases op<;>simp[eqGuard]
  simp[execOp,h1,h2,hq,h3]
def S.add{t t2:Nat}{q:Int}(hg:Gd all s guard rg)(hd:cP E d=true)(hx:bI s x (.int k m) r1)(hy:bI s y (.int k n) r2)(hq:k.wrap (m+n)=q)(hq2:k.wrap q=q):
  aW E all ⟨some d,.binOp .add t x y t2,ty,pos,after,guard⟩ s (rg++(r1++r2)) [(d,.int k q)] []:=
 S.qG hg hd hx hy fun _ _=>⟨fun w=>by simp[binOp,Op.intArith,hq],fun _=>ay.ef (.int hq2)⟩
def S.sub{t t2:Nat}{q:Int}(hg:Gd all s guard rg)(hd:cP E d=true)(hx:bI s x (.int k m) r1)(hy:bI s y (.int k n) r2)(hq:k.wrap (m - n)=q)(hq2:k.wrap q=q):
  aW E all ⟨some d,.binOp .sub t x y t2,ty,pos,after,guard⟩ s (rg++(r1++r2)) [(d,.int k q)] []:=
 S.qG hg hd hx hy fun _ _=>⟨fun w=>by simp[binOp,Op.intArith,hq],fun _=>ay.ef (.int hq2)⟩
def S.mul{t t2:Nat}{q:Int}(hg:Gd all s guard rg)(hd:cP E d=true)(hx:bI s x (.int k m) r1)(hy:bI s y (.int k n) r2)(hq:k.wrap (m * n)=q)(hq2:k.wrap q=q):
  aW E all ⟨some d,.binOp .mul t x y t2,ty,pos,after,guard⟩ s (rg++(r1++r2)) [(d,.int k q)] []:=
 S.qG hg hd hx hy fun _ _=>⟨fun w=>by simp[binOp,Op.intArith,hq],fun _=>ay.ef (.int hq2)⟩
def S.quo{t t2:Nat}{q:Int}(hg:Gd all s guard rg)(hd:cP E d=true)(hx:bI s x (.int k m) r1)(hy:bI s y (.int k n) r2)(h0:n≠0)(hq:k.wrap (m.tdiv n)=q)(hq2:k.wrap q=q):
  aW E all ⟨some d,.binOp .quo t x y t2,ty,pos,after,guard⟩ s (rg++(r1++r2)) [(d,.int k q)] []:=
 S.qG hg hd hx hy fun _ _=>⟨fun w=>by simp[binOp,Op.intDiv,h0,hq],fun _=>ay.ef (.int hq2)⟩
def S.rem{t t2:Nat}{q:Int}(hg:Gd all s guard rg)(hd:cP E d=true)(hx:bI s x (.int k m) r1)(hy:bI s y (.int k n) r2)(h0:n≠0)(hq:m.tmod n=q)(hq2:k.wrap q=q):
  aW E all ⟨some d,.binOp .rem t x y t2,ty,pos,after,guard⟩ s (rg++(r1++r2)) [(d,.int k q)] []:=
 S.qG hg hd hx hy fun _ _=>⟨fun w=>by simp[binOp,Op.intDiv,h0,hq],fun _=>ay.ef (.int hq2)⟩
def S.lss{t t2:Nat}(hg:Gd all s guard rg)(hd:cP E d=true)(hx:bI s x (.int k m) r1)(hy:bI s y (.int k n) r2):
  aW E all ⟨some d,.binOp .lss t x y t2,ty,pos,after,guard⟩ s (rg++(r1++r2)) [(d,.bool (decide (m<n)))] []:=
 S.qG hg hd hx hy fun _ _=>⟨fun w=>by simp[binOp,Op.intCmp],fun _=>ay.ef (.bool _)⟩
def S.leq{t t2:Nat}(hg:Gd all s guard rg)(hd:cP E d=true)(hx:bI s x (.int k m) r1)(hy:bI s y (.int k n) r2):
  aW E all ⟨some d,.binOp .leq t x y t2,ty,pos,after,guard⟩ s (rg++(r1++r2)) [(d,.bool (decide (m<=n)))] []:=
 S.qG hg hd hx hy fun _ _=>⟨fun w=>by simp[binOp,Op.intCmp],fun _=>ay.ef (.bool _)⟩
def S.gtr{t t2:Nat}(hg:Gd all s guard rg)(hd:cP E d=true)(hx:bI s x (.int k m) r1)(hy:bI s y (.int k n) r2):
  aW E all ⟨some d,.binOp .gtr t x y t2,ty,pos,after,guard⟩ s (rg++(r1++r2)) [(d,.bool (decide (n<m)))] []:=
 S.qG hg hd hx hy fun _ _=>⟨fun w=>by simp[binOp,Op.intCmp],fun _=>ay.ef (.bool _)⟩
def S.geq{t t2:Nat}(hg:Gd all s guard rg)(hd:cP E d=true)(hx:bI s x (.int k m) r1)(hy:bI s y (.int k n) r2):
  aW E all ⟨some d,.binOp .geq t x y t2,ty,pos,after,guard⟩ s (rg++(r1++r2)) [(d,.bool (decide (n<=m)))] []:=
 S.qG hg hd hx hy fun _ _=>⟨fun w=>by simp[binOp,Op.intCmp],fun _=>ay.ef (.bool _)⟩
def S.eql{t t2:Nat}(hg:Gd all s guard rg)(hd:cP E d=true)(hx:bI s x (.int k m) r1)(hy:bI s y (.int k n) r2):
  aW E all ⟨some d,.binOp .eql t x y t2,ty,pos,after,guard⟩ s (rg++(r1++r2)) [(d,.bool (decide (m=n)))] []:=
 S.qG hg hd hx hy fun _ _=>⟨fun w=>by simp[binOp,Op.intCmp];by_cases h:m=n<;>simp[h],fun _=>ay.ef (.bool _)⟩
def S.neq{t t2:Nat}(hg:Gd all s guard rg)(hd:cP E d=true)(hx:bI s x (.int k m) r1)(hy:bI s y (.int k n) r2):
  aW E all ⟨some d,.binOp .neq t x y t2,ty,pos,after,guard⟩ s (rg++(r1++r2)) [(d,.bool (decide (m≠n)))] []:=
 S.qG hg hd hx hy fun _ _=>⟨fun w=>by simp[binOp,Op.intCmp];by_cases h:m=n<;>simp[h],fun _=>ay.ef (.bool _)⟩
theorem S.not{t:Nat}(hg:Gd all s guard rg)(hd:cP E d=true)(hx:bI s x (.bool a) r):
  aW E all ⟨some d,.unOp .not t x,ty,pos,after,guard⟩ s (rg++r) [(d,.bool (!a))] []:=
 aW.val hg hd rfl hx.looks fun c A w _ hr=>⟨.bool !a,by simp[execOp,gF (hx.rep (c:=c) (a:=A) (w:=w) hr),Op.unary],ay.ef (.bool _)⟩
def S.neg{t:Nat}{q:Int}(hg:Gd all s guard rg)(hd:cP E d=true)(hx:bI s x (.int k m) r)(hq:k.wrap (0 - m)=q)(hq2:k.wrap q=q):
  aW E all ⟨some d,.unOp .neg t x,ty,pos,after,guard⟩ s (rg++r) [(d,.int k q)] []:=
 aW.val hg hd rfl hx.looks fun c A w _ hr=>⟨.int k q,by simp only[execOp,(cJ (hx.rep (c:=c) (a:=A) (w:=w) hr)).1,Op.unary,Op.intArith,hq];rfl,ay.ef (.int hq2)⟩
def S.conv{t t':Nat}{k':IntKind}{q:Int}{dsc:TypeDesc}(hg:Gd all s guard rg)(hd:cP E d=true)(hx:bI s x (.int k m) r)
  (h1:E.P.underlying t=some dsc) (h2:E.P.underlying t'=some (.int k')) (hq:k'.wrap m=q) (hq2:k'.wrap q=q):
  aW E all ⟨some d,.convert t t' x,ty,pos,after,guard⟩ s (rg++r) [(d,.int k' q)] []:=
 aW.val hg hd rfl hx.looks fun c A w _ hr=>⟨.int k' q,by
  simp only[execOp,(cJ (hx.rep (c:=c) (a:=A) (w:=w) hr)).1,convert,Sem.run_bind,run_underlying h1,run_underlying h2,Result.andThen_ok,Conv.intToInt,hq];rfl,ay.ef (.int hq2)⟩
def S.max2{t t1 t2:Nat}(hg:Gd all s guard rg)(hd:cP E d=true)(hx:bI s x (.int k m) r1)(hy:bI s y (.int k n) r2):
  aW E all ⟨some d,.call {callee:=.builtin .max,args:=#[x,y],argTypes:=#[t1,t2]},t,pos,after,guard⟩ s (rg++(r1++r2)) [(d,.int k (if m<n then n else m))] []:=
 aW.val hg hd rfl (hx.looks.app hy.looks) fun c A w _ hr=>by
  obtain⟨h1,e1⟩:=cJ (hx.rep (c:=c) (a:=A) (w:=w) fun p hp=>hr p (by simp[hp]));obtain⟨h2,e2⟩:=cJ (hy.rep (c:=c) (a:=A) (w:=w) fun p hp=>hr p (by simp[hp]));refine⟨.int k (if m<n then n else m),?_,ay.ef (.int (by grind))⟩;simp[execOp,resolve,invoke,builtin,h1,h2,Builtin.max_,Builtin.max2]
def S.min2{t t1 t2:Nat}(hg:Gd all s guard rg)(hd:cP E d=true)(hx:bI s x (.int k m) r1)(hy:bI s y (.int k n) r2):
  aW E all ⟨some d,.call {callee:=.builtin .min,args:=#[x,y],argTypes:=#[t1,t2]},t,pos,after,guard⟩ s (rg++(r1++r2)) [(d,.int k (if n<m then n else m))] []:=
 aW.val hg hd rfl (hx.looks.app hy.looks) fun c A w _ hr=>by
  obtain⟨h1,e1⟩:=cJ (hx.rep (c:=c) (a:=A) (w:=w) fun p hp=>hr p (by simp[hp]));obtain⟨h2,e2⟩:=cJ (hy.rep (c:=c) (a:=A) (w:=w) fun p hp=>hr p (by simp[hp]));refine⟨.int k (if n<m then n else m),?_,ay.ef (.int (by grind))⟩;simp[execOp,resolve,invoke,builtin,h1,h2,Builtin.min_,Builtin.min2]
def S.extract{i:Nat}{xs:bi}{u:X}(hg:Gd all s guard rg)(hd:cP E d=true)(hx:bI s x (.cf xs) r)(hu:xs[i]?=some u)(hnt:cO u=false):
  aW E all ⟨some d,.extract x i,ty,pos,after,guard⟩ s (rg++r) [(d,u)] []:=
 aW.val hg hd rfl hx.looks fun c A w _ hr=>by
  obtain⟨vs,h1,h2⟩:=hx.rep (c:=c) (a:=A) (w:=w) hr;obtain⟨v,hv,hvr⟩:=h2.eD hu;refine⟨v,by simp[execOp,h1,Instr.extract,hv],?_⟩;cases u<;>first|exact hvr|cases hnt
def Gh{c:Ctx}{u:X}{v:Value}(h:bK c u v)(hu:bR u=false):cq c u v:=by
 cases u<;>first|exact h|cases hu
def S.dx{f:Nat}{u:X}(hg:Gd all s guard rg)(hd:cP E d=true)(hx:bI s x u r)(hu:bR u=false):
  aW E all ⟨some d,.makeFunc (.func f) #[] #[x],ty,pos,after,guard⟩ s (rg++r) [(d,.fn f [u])] []:=
 aW.val hg hd rfl hx.looks fun c A w _ hr=>⟨.func (.func f) #[] #[A.eval x],by simp[execOp,Instr.makeFunc],[A.eval x],rfl,Gh (hx.rep hr) hu,Zo⟩
def S.s5{f:Nat}{u u':X}(hg:Gd all s guard rg)(hd:cP E d=true)(hx:bI s x u r1)(hy:bI s y u' r2)
  (hu:bR u=false) (hu':bR u'=false):
  aW E all ⟨some d,.makeFunc (.func f) #[] #[x,y],ty,pos,after,guard⟩ s (rg++(r1++r2)) [(d,.fn f [u,u'])] []:=
 aW.val hg hd rfl (hx.looks.app hy.looks) fun c A w _ hr=>⟨.func (.func f) #[] #[A.eval x,A.eval y],by simp[execOp,Instr.makeFunc],[A.eval x,A.eval y],rfl,Gh (hx.rep fun p hp=>hr p (by simp[hp])) hu,Gh (hy.rep fun p hp=>hr p (by simp[hp])) hu',Zo⟩
theorem add_off(b o n:Nat):(⟨b,o,none⟩:Addr).add n=⟨b,o+n,none⟩:=by
 simp[Addr.add]
def uv{c:Ctx}{cells:bi}{v:Value}(h:bK c (.b5 cells) v):∃(b off:Nat)(vs:List Value),v=.pointer (some ⟨b,off,none⟩)/\cells.length=vs.length/\(∀(i:Nat)(v:Value),vs[i]?=some v->c.h ⟨b,off+i,none⟩=some v)/\
  ∀(i:Nat)(x:X)(v:Value),cells[i]?=some x->vs[i]?=some v->ay c.h x v:=by
 cases h<;>grind
def iO{P:Program}{T:Nat}{sz:Nat}(ht:eT P T false sz){b o:Nat}{v:Value}{w:World}(h:w.cell? ⟨b,o,none⟩=some v):(Instr.loadAt T (.pointer (some ⟨b,o,none⟩))).run P w=.ok v w:=by
 simp[Instr.loadAt,Instr.sureAddr,loadVar,ht.agg,run_load,h]
def jd{P:Program}{T:Nat}{sz:Nat}(ht:eT P T true sz){b o:Nat}{vs:List Value}{w:World}(hl:vs.length=sz)(h:∀(i:Nat)(v:Value),vs[i]?=some v->w.cell? ⟨b,o+i,none⟩=some v):
  (Instr.loadAt T (.pointer (some ⟨b,o,none⟩))).run P w=.ok (.agg vs.toArray) w:=by
 have:=run_loadCells_list (P:=P) (w:=w) ⟨b,o,none⟩ vs fun j v hv=>by simp_all[add_off]
 rw[hl]at this;simp[Instr.loadAt,Instr.sureAddr,loadVar,ht.agg,ht.size,this]
def S.Hz{T:Nat}{u:X}{us:bi}{sz:Nat}(ht:eT E.P T false sz)(hg:Gd all s guard rg)(hd:cP E d=true)(hx:bI s x (.b5 us) r)(hu:us[0]?=some u):
  aW E all ⟨some d,.load T x,ty,pos,after,guard⟩ s (rg++r) [(d,u)] []:=
 aW.val hg hd rfl hx.looks fun c A w hh hr=>by
  obtain⟨b,off,vs,hv,hl,h1,h2⟩:=uv (hx.rep (c:=c) (a:=A) (w:=w) hr);have h0:0<vs.length:=by rw[←hl];exact(dq.1 hu).1
  have hv0:vs[0]?=some vs[0]:=Zv h0;refine⟨vs[0],?_,ay.ef (h2 0 u _ hu hv0)⟩;simp only[execOp,hv];rw[Sem.run_bind,iO ht (hh _ _ (by simpa using h1 0 _ hv0))];rfl
def S.fG{T n:Nat}{us vs:bi}(ht:eT E.P T true n)(hg:Gd all s guard rg)(hd:cP E d=true)(hx:bI s x (.b5 us) r)(hu:us.take n=vs)(hn:Nat.ble n us.length=true):
  aW E all ⟨some d,.load T x,ty,pos,after,guard⟩ s (rg++r) [(d,.agg vs)] []:=
 aW.val hg hd rfl hx.looks fun c A w hh hr=>by
  subst hu;rw[ii]at hn;obtain⟨b,off,ws,hv,hl,h1,h2⟩:=uv (hx.rep (c:=c) (a:=A) (w:=w) hr);refine⟨.agg (ws.take n).toArray,?_,ws.take n,rfl,ah.take n (ah.fb hl fun i x v hx hv=>ay.Aa (h2 i x v hx hv))⟩;simp only[execOp,hv];rw[Sem.run_bind,jd ht (vs:=ws.take n) (by simp;omega) fun i v hv=>hh _ _ (h1 i v ?_)]
  ·rfl
  rw[ma]at hv;split at hv;exact hv;cases hv
theorem fD{c:Ctx}{a:Act}{w:World}{k:Nat}{cells:bi}(h:Holds c a w (1000+k) (.box cells))(hk:k<1000):
  ∃b T vs,c.loc k=some b/\w.heap[b]?=some (.cells vs T (0,0))/\ah (aV c) cells vs.toList:=by
 unfold Holds at h;rw[Zm I,Zn I,mf]at h;rcases h with h|⟨b,o,h1,h2,T,vs,rfl,h3⟩
 all_goals grind
def iB{c:Ctx}{k off:Nat}{v:Value}(h:bK c (.ptr k off) v):∃b,c.loc k=some b/\v=.pointer (some ⟨b,off,none⟩):=h
def ab.ef{c:Ctx}{u:X}{v:Value}(h:aV c u v)(hu:mU u=false):bK c u v:=by
 cases u<;>first|exact h|cases hu
def S.fc{T k off:Nat}{u:X}{us:bi}{sz:Nat}(ht:eT E.P T false sz)(hg:Gd all s guard rg)(hd:cP E d=true)(hx:bI s x (.ptr k off) r)(hk:Nat.blt k 1000=true)
  (hb:look s (1000+k)=some (.box us)) (hu:us[off]?=some u) (hnt:mU u=false):
  aW E all ⟨some d,.load T x,ty,pos,after,guard⟩ s (rg++(r++[(1000+k,.box us)])) [(d,u)] []:=
 aW.val hg hd rfl (hx.looks.app ⟨hb,Zo⟩) fun c A w hh hr=>by
  rw[db]at hk;obtain⟨b,h1,hv⟩:=iB (hx.rep (c:=c) (a:=A) (w:=w) fun p hp=>hr p (by simp[hp]));obtain⟨b',T',vs,h2,h3,h4⟩:=fD (hr (1000+k,.box us) F) hk;rw[h1]at h2;cases h2;obtain⟨v,hvv,hvr⟩:=h4.eD hu;refine⟨v,?_,ab.ef hvr hnt⟩;simp only[execOp,hv];rw[Sem.run_bind,iO ht (v:=v)]
  ·rfl
  rw[cell_of_row w b off vs T' (0,0) h3];simpa using hvv
def S.xK{T n k off:Nat}{us us':bi}(ht:eT E.P T true n)(hg:Gd all s guard rg)(hd:cP E d=true)(hx:bI s x (.ptr k off) r)(hk:Nat.blt k 1000=true)
  (hb:look s (1000+k)=some (.box us)) (hu:(us.drop off).take n=us') (hn:Nat.ble (off+n) us.length=true):
  aW E all ⟨some d,.load T x,ty,pos,after,guard⟩ s (rg++(r++[(1000+k,.box us)])) [(d,.agg us')] []:=
 aW.val hg hd rfl (hx.looks.app ⟨hb,Zo⟩) fun c A w hh hr=>by
  subst hu;rw[db]at hk;rw[ii]at hn;obtain⟨b,h1,hv⟩:=iB (hx.rep (c:=c) (a:=A) (w:=w) fun p hp=>hr p (by simp[hp]));obtain⟨b',T',vs,h2,h3,h4⟩:=fD (hr (1000+k,.box us) F) hk;rw[h1]at h2;cases h2;refine⟨.agg ((vs.toList.drop off).take n).toArray,?_,(vs.toList.drop off).take n,rfl,(h4.drop off).take n⟩;simp only[execOp,hv];have hl:=h4.length;rw[Sem.run_bind,jd ht (vs:=(vs.toList.drop off).take n)]
  ·rfl
  ·simp at hl⊢;omega
  intro i v hv;rw[ma]at hv;split at hv
  ·rw[ll]at hv;rw[cell_of_row w b (off+i) vs T' (0,0) h3];simpa using hv
  cases hv
def gZ{P:Program}{T f off:Nat}(hf:dz P T f off)(b o:Nat)(w:World):(Instr.fieldAt T (.pointer (some ⟨b,o,none⟩)) f).run P w=.ok (.pointer (some ⟨b,o+off,none⟩)) w:=by
 obtain⟨fields,fl,n,h1,h2,h3,h4,h5⟩:=hf.ex;simp_all[Instr.fieldAt,run_underlying,Instr.sureAddr,fieldPlace,add_off]
def S.dH{T f k off o:Nat}(hf:dz E.P T f o)(hg:Gd all s guard rg)(hd:cP E d=true)(hx:bI s x (.ptr k off) r):
  aW E all ⟨some d,.fieldAddr T x f,ty,pos,after,guard⟩ s (rg++r) [(d,.ptr k (off+o))] []:=
 aW.val hg hd rfl hx.looks fun c A w hh hr=>by
  obtain⟨b,h1,hv⟩:=iB (hx.rep (c:=c) (a:=A) (w:=w) hr);exact⟨.pointer (some ⟨b,off+o,none⟩),by simp only[execOp,hv];rw[Sem.run_bind,gZ hf];rfl,b,h1,rfl⟩
def S.field{T f o:Nat}{us us':bi}(hf:dz E.P T f o)(hg:Gd all s guard rg)(hd:cP E d=true)(hx:bI s x (.b5 us) r)(hu:us.drop o=us'):
  aW E all ⟨some d,.fieldAddr T x f,ty,pos,after,guard⟩ s (rg++r) [(d,.b5 us')] []:=
 aW.val hg hd rfl hx.looks fun c A w hh hr=>by
  subst hu;obtain⟨b,off,vs,hv,hl,h1,h2⟩:=uv (hx.rep (c:=c) (a:=A) (w:=w) hr);refine⟨.pointer (some ⟨b,off+o,none⟩),by simp only[execOp,hv];rw[Sem.run_bind,gZ hf];rfl,.b5 _ b (off+o) (vs.drop o) (by simp[hl]) ?_ ?_⟩
  ·intro i v hv;rw[ll]at hv;rw[Nat.add_assoc];exact h1 _ _ hv
  intro i x v hx hv;rw[ll]at hx hv;exact h2 _ _ _ hx hv
def kg{c:Ctx}{rows:List bi}{v:Value}(h:bK c (.sl rows) v):∃a cap,v=.slice a rows.length cap/\rows.length<=cap/\cap<=maxLen/\(rows=[]\/∃(b off sz:Nat)(vs:List Value),a=some ⟨b,off,none⟩/\(∀r∈rows,r.length=sz)/\rows.flatten.length=vs.length/\
  (∀(i:Nat)(v:Value),vs[i]?=some v->c.h ⟨b,off+i,none⟩=some v)/\∀(i:Nat)(x:X)(v:Value),rows.flatten[i]?=some x->vs[i]?=some v->ay c.h x v):=by
 cases h with
 |rP a cap e=>exact⟨a,cap,rfl,Zr _,e,.inl rfl⟩
 |sl _ b off cap sz vs h1 h2 h3 h4 h5 h6=>exact⟨_,cap,rfl,h1,h2,.inr ⟨b,off,sz,vs,rfl,h3,h4,h5,h6⟩⟩
def bg{α:Type}{sz:Nat}:∀{rows:List (List α)},(∀r∈rows,r.length=sz)->rows.flatten.length=rows.length * sz
 |[],_=>by simp
 |r::rows,h=>by
  rw[mr,Zs,bg (fun r hr=>h r (dg _ hr)),h r dp,ge,pa];omega
def lT{α:Type}{sz:Nat}:∀{rows:List (List α)}(i:Nat){row:List α},(∀r∈rows,r.length=sz)->rows[i]?=some row->(rows.flatten.drop (i * sz)).take sz=row
 |[],i,row,_,h=>by simp at h
 |r::rows,0,row,h,hr=>by
  simp_all
 |r::rows,i+1,row,h,hr=>by
  have h1:=h r dp;rw[mr,pa,tl,Nat.add_comm,←Do];have:(r++rows.flatten).drop sz=rows.flatten:=by simp_all
  rw[this];exact lT i (fun r hr=>h r (dg _ hr)) (by grind)
def S.index{t e sz:Nat}{rows:List bi}{i:Int}{row:bi}(hs:o7 E.P t e sz)(hg:Gd all s guard rg)(hd:cP E d=true)(hx:bI s x (.sl rows) r1)(hy:bI s y (.int k i) r2)
  (h0:0<=i) (hi:rows[i.toNat]?=some row) (hsz:row.length=sz):aW E all ⟨some d,.indexAddr t x y,ty,pos,after,guard⟩ s (rg++(r1++r2)) [(d,.b5 row)] []:=
 aW.val hg hd rfl (hx.looks.app hy.looks) fun c A w hh hr=>by
  obtain⟨a,cap,hv,h1,h2,h3⟩:=kg (hx.rep (c:=c) (a:=A) (w:=w) fun p hp=>hr p (by simp[hp]));obtain⟨hw,_⟩:=cJ (hy.rep (c:=c) (a:=A) (w:=w) fun p hp=>hr p (by simp[hp]));have hlt:i.toNat<rows.length:=(dq.1 hi).1;rcases h3 with rfl|⟨b,off,sz',vs,rfl,h3,h4,h5,h6⟩
  ·simp at hlt
  have hsz':sz'=sz:=by rw[←hsz];exact(h3 row (ce hi)).symm
  subst hsz';have hfl:=bg h3;have hat:=lT i.toNat h3 hi;have hin:i.toNat * sz'+sz'<=rows.length * sz':=by rw[←sb];exact li _ hlt
  refine⟨.pointer (some ⟨b,off+i.toNat * sz',none⟩),?_,.b5 row b (off+i.toNat * sz') ((vs.drop (i.toNat * sz')).take sz') ?_ ?_ ?_⟩
  ·have hi2:i<(rows.length:Int):=by omega
   simp[execOp,hv,hw,Instr.indexAt,asIntOf,run_underlying hs.mD,hs.size,h0,hi2,add_off]
  ·rw[hsz];simp;omega
  ·intro j v hv;rw[ma]at hv;split at hv
   ·rw[ll]at hv;rw[Nat.add_assoc];exact h5 _ _ hv
   cases hv
  intro j u v hu hv;rw[ma]at hv;split at hv
  ·rename_i hj;rw[ll]at hv;rw[←hat,ma,Zn hj,ll]at hu;exact h6 _ _ _ hu hv
  cases hv
def mY{n:Nat}(h:n<=maxLen):IntKind.i64.wrap n=n:=by
 grind [maxLen,IntWalk.i64_in]
theorem S.len{t:Nat}{e sz:Nat}{rows:List bi}(hs:o7 E.P t e sz)(hg:Gd all s guard rg)(hd:cP E d=true)(hx:bI s x (.sl rows) r):
  aW E all ⟨some d,.call {callee:=.builtin .len,args:=#[x],argTypes:=#[t]},ty,pos,after,guard⟩ s (rg++r) [(d,.int .i64 rows.length)] []:=
 aW.val hg hd rfl hx.looks fun c A w hh hr=>by
  obtain⟨a,cap,hv,h1,h2,_⟩:=kg (hx.rep (c:=c) (a:=A) (w:=w) hr);refine⟨.int .i64 rows.length,?_,ay.ef (.int (mY (gc h1 h2)))⟩;simp[execOp,resolve,invoke,builtin,hv,Builtin.len_,run_underlying hs.mD,goInt]
def ei{c:Ctx}{a:Act}{w:World}{k sz:Nat}{rows:List bi}(h:Holds c a w (2000+k) (.arr sz rows)):
  ∃hv e vs,c.arr k=some (rows.length,hv,true)/\w.ownsRow 0 e sz hv rows.length vs/\(∀r∈rows,r.length=sz)/\ah (ay c.h) rows.flatten vs:=by
 unfold Holds at h;by_cases hk:k<1000
 case neg=>
  rw[Zm I,Zm I,Zm I]at h;rcases h with h|⟨_,J,hJ,_⟩
  ·cases h
  cases hJ
 rw[Zm I,Zm I,Zn I,mf]at h;rcases h with h|⟨sz',rows',hv,e,vs,⟨rfl,rfl,h4⟩,h1,h2,h3⟩
 all_goals grind
def BJ{c:Ctx}{a:Act}{w:World}{k sz:Nat}{rows:List bi}(h:Holds c a w (2000+k) (.arr sz rows)):k<1000:=by
 unfold Holds at h;refine pB fun hk=>?_
 rw[Zm I,Zm I,Zm I]at h;rcases h with h|⟨_,J,hJ,_⟩
 ·cases h
 cases hJ
def S.Cv{t e sz k n w2:Nat}{rows:List bi}(hs:o7 E.P t e sz)(hg:Gd all s guard rg)(hd:cP E d=true)(hx:bI s x (.own k n) r)(hl:look s (2000+k)=some (.arr w2 rows))(hn:rows.length=n):
  aW E all ⟨some d,.call {callee:=.builtin .len,args:=#[x],argTypes:=#[t]},ty,pos,after,guard⟩ s (rg++(r++[(2000+k,.arr w2 rows)])) [(d,.int .i64 n)] []:=
 aW.val hg hd rfl (hx.looks.app ⟨hl,Zo⟩) fun c A w hh hr=>by
  subst hn;obtain⟨_,m,hv,lv,e1,e2,e3⟩:=hx.rep (c:=c) (a:=A) (w:=w) fun p hp=>hr p (by simp[hp])
  obtain⟨hv',e',vs,f1,f2,f3,f4⟩:=ei (hr (2000+k,.arr w2 rows) F);rw[f1]at e1;cases e1;have hev:=e3 rfl;have hlen:∃a cp,hv=.slice a rows.length cp/\rows.length<=maxLen:=by
   rcases f2.2 with⟨rfl,h0⟩|⟨g,cap,cur,rfl,_,_,h5,h6,_⟩
   ·exact⟨none,0,by rw[h0],by rw[h0];exact Zr _⟩
   exact⟨_,_,rfl,gc h5 h6⟩
  obtain⟨a,cp,rfl,hm⟩:=hlen;refine⟨.int .i64 rows.length,?_,ay.ef (.int (mY hm))⟩;simp[execOp,resolve,invoke,builtin,hev,Builtin.len_,run_underlying hs.mD,goInt]
def S.dP{t:Nat}{l:ba}(hs:E.P.underlying t=some .string)(hg:Gd all s guard rg)(hd:cP E d=true)(hx:bI s x (.str l) r):
  aW E all ⟨some d,.call {callee:=.builtin .len,args:=#[x],argTypes:=#[t]},ty,pos,after,guard⟩ s (rg++r) [(d,.int .i64 l.length)] []:=
 aW.val hg hd rfl hx.looks fun c A w hh hr=>by
  obtain⟨hv,h1⟩:=fS (hx.rep (c:=c) (a:=A) (w:=w) hr);refine⟨.int .i64 l.length,?_,ay.ef (.int (mY h1))⟩;have hsz:(⟨l.toArray⟩:ByteArray).size=l.length:=by show l.toArray.size=_;simp
  simp[execOp,resolve,invoke,builtin,hv,Builtin.len_,run_underlying hs,goInt,hsz]
end
end Go.Ab
namespace Go.Ab
open Go.RowKit
def Ct(P:Program)(f:Nat)(args:bi)(res:X):Prop:=
 ∀(h:Mem)(w:World)(vs:List Value),(∀p v,h p=some v->w.cell? p=some v)->ah (bt (aD h)) args vs->
  Calls P f vs.toArray w fun e w'=>∃v h',e=.returned v/\Below w.heap.size w w'/\Mem.le h h'/\(∀p v,h' p=some v->h p=some v\/w.heap.size<=p.block)/\
   (∀p v,h' p=some v->w'.cell? p=some v)/\bK (aD h') res v
def yG:X->Bool
 |.int _ _|.bool _|.str _|.sl _|.b5 _=>true
 |.raw v=>v.oneCell'
 |_=>false
def ay.qn{h:Mem}{u v:Value}(e:v=u)(hu:u.oneCell'=true):ay h (.raw u) v:=by subst e;exact .raw _ hu
def F1{c:Ctx}{u:X}{v:Value}(h:aV c u v)(hu:yG u=true):ay c.h u v:=by
 cases u<;>first|exact h|exact ay.qn h hu|cases hu
def lF{c:Ctx}:∀{us:bi}{vs:List Value},ah (aV c) us vs->us.all yG=true->ah (ay c.h) us vs
 |[],[],_,_=>trivial
 |_::_,_::_,h,ho=>by simp only[ee,Zw]at ho;exact⟨F1 h.1 ho.1,lF h.2 ho.2⟩
 |[],_::_,h,_=>h.elim
 |_::_,[],h,_=>h.elim
inductive kx(fs:bc)(s:St):X->X->Prop
 |same {x:X}:vt [] x=true->kx fs s x x
 |own {k n sz:Nat} {rows:List bi} (hk:Nat.blt k 1000=true) (hl:look s (2000+k)=some (.arr sz rows)) (hn:rows.length=n) (hk9:fs.contains k=false:=by rfl):kx fs s (.own k n) (.sl rows)
 |bO:kx fs s .bO (.sl [])
 |ptr {k off:Nat} {cells cells':bi} (hk:Nat.blt k 1000=true) (hl:look s (1000+k)=some (.box cells)) (hD:cells.all yG=true) (hd:cells.drop off=cells') (hk9:fs.contains k=false:=by rfl):kx fs s (.ptr k off) (.b5 cells')
def Ay:X->Bool
 |.fn _ _=>true
 |_=>false
inductive wF(fs:bc)(s:St):X->X->Prop
 |c {x y:X}:kx fs s x y->mU x=false->wF fs s x y
 |agg {xs ys:bi}:ah (kx fs s) xs ys->wF fs s (.agg xs) (.agg ys)
 |fn {f:Nat} {xs ys:bi}:ah (kx fs s) xs ys->xs.all (fun x=>!Ay x)=true->wF fs s (.fn f xs) (.fn f ys)
def aM.wG{E:Env}{U:bc}{c:Ctx}{a:Act}{w:World}(hb:aM E U c a w){k b:Nat}(h:c.loc k=some b)(hk:k∉E.fs):¬c.out E.fs b:=by
 rintro(hy|⟨k',h1,h2⟩|⟨k',m,hv,h1,h2,h3⟩)
 ·exact(hb.Y b hy).2.2.1 k h
 ·exact hk ((hb.loc k b h).2.2.2.1 k' h2▸h1)
 exact(hb.loc k b h).2.2.2.2 k' m hv h2 h3
def aM.wH{E:Env}{U:bc}{c:Ctx}{a:Act}{w:World}(hb:aM E U c a w){k m b:Nat}{hv:Value}(h:c.arr k=some (m,hv,true))(hbk:hv.ownBlock=some b)(hk:k∉E.fs):¬c.out E.fs b:=by
 rintro(hy|⟨k',h1,h2⟩|⟨k',m',hv',h1,h2,h3⟩)
 ·exact(hb.Y b hy).2.2.2 k m hv h hbk
 ·exact(hb.loc k' b h2).2.2.2.2 k m hv h hbk
 exact hk ((hb.arr k m hv b h hbk).2.2.2 k' m' hv' h2 h3▸h1)
def aM.Fs{E:Env}{U:bc}{c:Ctx}{a:Act}{w:World}(hb:aM E U c a w){b:Nat}(h:c.out E.fs b)(hlt:b<E.B):E.X b:=by
 rcases h with hy|⟨k,h1,h2⟩|⟨k,m,hv,h1,h2,h3⟩
 ·exact(hb.Y b hy).2.1 hlt
 ·rcases(hb.loc k b h2).1 with h|h
  all_goals grind
 rcases(hb.arr k m hv b h2 h3).1 with h|h
 all_goals grind
def aM.FY{E:Env}{U:bc}{c:Ctx}{a:Act}{w:World}(hb:aM E U c a w){b:Nat}(h:c.out E.fs b):b<w.heap.size:=by
 rcases h with hy|⟨k,h1,h2⟩|⟨k,m,hv,h1,h2,h3⟩
 ·exact(hb.Y b hy).1
 ·exact(hb.loc k b h2).2.1
 exact(hb.arr k m hv b h2 h3).2.1
open Classical in
noncomputable def Env.fin(E:Env)(c:Ctx)(w:World):Mem:=fun p=>if p.block<E.B\/c.out E.fs p.block then c.h p else w.cell? p
theorem Env.nT{E:Env}{U:bc}{c:Ctx}{a:Act}{w:World}(hb:aM E U c a w):Mem.le c.h (E.fin c w):=by
 intro p v h;unfold Env.fin;split
 ·exact h
 exact hb.hw p v h
def fx{c:Ctx}{h':Mem}(hh:Mem.le c.h h'):Ext (c.cut []) (aD h'):=
 ⟨hh,fun k b e=>by simp[Ctx.cut]at e,fun k m hv lv e=>by simp[Ctx.cut]at e⟩
def ay.uF{B:Nat}{w:World}{e sz:Nat}{hv:Value}{rows:List bi}{vs:List Value}{h h':Mem}(ho:w.ownsRow B e sz hv rows.length vs)(hr:∀r∈rows,r.length=sz)(ha:ah (ay h) rows.flatten vs)
  (hh:Mem.le h h') (hcell:∀b o,hv.ownBlock=some b->h' ⟨b,o,none⟩=w.cell? ⟨b,o,none⟩):ay h' (.sl rows) hv:=by
 obtain⟨h1,⟨rfl,h2⟩|⟨g,cap,cur,rfl,_,hg,hn,hc,hs,ht⟩⟩:=ho
 ·have:rows=[]:=ft h2;subst this;exact .rP none 0 (Zr _)
 refine .sl rows g 0 cap sz vs hn hc hr ha.length ?_ ?_
 ·intro i v hv;rw[hcell g _ rfl,cell_of_row w g (0+i) cur e (0,0) hg,gk];grind
 intro i x v hx hv;exact(ha.get hx hv).mono hh
def kx.fin{E:Env}{U:bc}{c:Ctx}{a:Act}{w:World}{s:St}(hb:aM E U c a w)(hh:∀key x,look s key=some x->Holds c a w key x){x y:X}{v:Value}(hr:kx E.fs s x y)(hx:aV c x v):
  aV (aD (E.fin c w)) y v:=by
 cases hr with
 |bO=>
  have:v=.slice none 0 0:=hx;subst this;exact ay.Aa (c:=(aD (E.fin c w))) (.rP none 0 (Zr _))
 |same ho=>exact(hx.cut ho).mono (fx (Env.nT hb))
 | @ptr k off cells cells' hk hl hD hd hk9=>
   subst hd;obtain⟨b,h1,rfl⟩:=hx;obtain⟨b',T,vs,h2,h3,h4⟩:=fD (hh (1000+k) (.box cells) hl) (by simp_all);rw[h1]at h2;cases h2;have hds:=lF h4 hD;have hbB:=Env.gN (hb.loc k b h1).1 (nQ hk9);have hbY:=hb.wG h1 (nQ hk9);refine ay.Aa (c:=(aD (E.fin c w))) (ay.b5 _ b off (vs.toList.drop off) (by have:=h4.length;simp_all) ?_ ?_)
   ·intro i v hv;rw[ll]at hv;show E.fin c w ⟨b,off+i,none⟩=_;unfold Env.fin;rw[Zm (by simp_all),cell_of_row w b (off+i) vs T (0,0) h3];grind
   intro i x v hx hv;rw[ll]at hx hv;exact(hds.get hx hv).mono (Env.nT hb)
 | @own k n sz rows hk hl hn hk9=>
   obtain⟨hv,e,vs,h1,h2,h3,h4⟩:=ei (hh _ _ hl);obtain⟨_,m,hv',lv,e1,e2,e3⟩:=hx;rw[h1]at e1;cases e1;rw[e3 hn.symm];refine ay.Aa (c:=(aD (E.fin c w))) (ay.uF h2 h3 h4 (Env.nT hb) fun b o hbk=>?_);have hbB:=Env.gN (hb.arr k _ _ b h1 hbk).1 (nQ hk9);show E.fin c w _=_;unfold Env.fin;rw[Zm (by show¬(b<E.B\/c.out E.fs b);exact fun h=>h.elim I (hb.wH h1 hbk (nQ hk9)))]
def ah.fin{E:Env}{U:bc}{c:Ctx}{a:Act}{w:World}{s:St}(hb:aM E U c a w)(hh:∀key x,look s key=some x->Holds c a w key x):∀{xs ys:bi}{vs:List Value},ah (kx E.fs s) xs ys->ah (aV c) xs vs->
  ah (aV (aD (E.fin c w))) ys vs
 |[],[],[],_,_=>trivial
 |_::_,_::_,_::_,h,h'=>⟨h.1.fin hb hh h'.1,ah.fin hb hh h.2 h'.2⟩
 |[],_::_,_,h,_=>h.elim
 |_::_,[],_,h,_=>h.elim
 |[],[],_::_,_,h=>h.elim
 |_::_,_::_,[],_,h=>h.elim
def ap.Aa{c:Ctx}{u:X}{v:Value}(h:bt c u v)(hu:mU u=false):aV c u v:=by
 cases u<;>first|exact h|cases hu
def ab.Ad{c:Ctx}{u:X}{v:Value}(h:aV c u v)(hu:mU u=false):bt c u v:=by
 cases u<;>first|exact h|cases hu
def T.Ad{c:Ctx}{u:X}{v:Value}(h:bK c u v)(hu:cO u=false):bt c u v:=by
 cases u<;>first|exact h|cases hu
theorem ap.ef{c:Ctx}{u:X}{v:Value}(h:bt c u v)(hu:cO u=false):bK c u v:=by
 cases u<;>first|exact h|cases hu
def kx.y5{fs:bc}{s:St}{x y:X}(h:kx fs s x y)(hx:mU x=false):mU y=false:=by
 cases h with
 |same _=>exact hx
 |own _ _ _ _=>rfl
 |bO=>rfl
 |ptr _ _ _ _ _=>rfl
def Gn{c:Ctx}{x:X}{v:Value}(h:cq c x v)(hn:Ay x=false):aV c x v:=by cases x<;>first|exact h|cases hn
def Gp{c:Ctx}{x:X}{v:Value}(h:aV c x v)(hn:Ay x=false):cq c x v:=by cases x<;>first|exact h|cases hn
def kx.nf{fs:bc}{s:St}{x y:X}(h:kx fs s x y)(hx:Ay x=false):Ay y=false:=by
 cases h with
 |same _=>exact hx
 |own _ _ _ _=>rfl
 |bO=>rfl
 |ptr _ _ _ _ _=>rfl
def ah.HN{E:Env}{U:List Nat}{c:Ctx}{a:Act}{w:World}{s:St}(hb:aM E U c a w)(hh:∀key x,look s key=some x→Holds c a w key x):∀{xs ys:List X}{vs:List Value},ah (kx E.fs s) xs ys→xs.all (fun x=>!Ay x)=true→ah (cq c) xs vs→
  ah (cq (aD (E.fin c w))) ys vs
 |[],[],[],_,_,_=>trivial
 |_::_,_::_,_::_,h,hn,h'=>by
  simp only[ee,Zw,lA]at hn;exact⟨Gp (h.1.fin hb hh (Gn h'.1 hn.1)) (h.1.nf hn.1),ah.HN hb hh h.2 (by simp_all) h'.2⟩
 |[],_::_,_,h,_,_=>h.elim
 |_::_,[],_,h,_,_=>h.elim
 |[],[],_::_,_,_,h=>h.elim
 |_::_,_::_,[],_,_,h=>h.elim
def wF.fin{E:Env}{U:bc}{c:Ctx}{a:Act}{w:World}{s:St}(hb:aM E U c a w)(hh:∀key x,look s key=some x->Holds c a w key x){x y:X}{v:Value}(hr:wF E.fs s x y)(hx:bt c x v):
  bt (aD (E.fin c w)) y v:=by
 cases hr with
 |c h hn=>exact ab.Ad (h.fin hb hh (ap.Aa hx hn)) (h.y5 hn)
 |agg h=>obtain⟨vs,h1,h2⟩:=hx;exact⟨vs,h1,ah.fin hb hh h h2⟩
 |fn h hn=>obtain⟨vs,h1,h2⟩:=hx;exact⟨vs,h1,ah.HN hb hh h hn h2⟩
def Co{y:X}(h:mU y=false):cO y=false:=by cases y<;>first|rfl|cases h
inductive mV(E:Env)(s:St):ResultVar->X->Prop
 |tmp {t:Nat} {x y:X}:Nat.blt t 1000=true->look s t=some x->wF E.fs s x y->cO x=false->mV E s (.tmp t) y
 |bG {t T k n:Nat} {cells ys:bi}:Nat.blt t 1000=true->look s t=some (.ptr k 0)->Nat.blt k 1000=true->look s (1000+k)=some (.box cells)->eT E.P T true n->cells.length=n->ah (kx E.fs s) cells ys->mV E s (.cell t T) (.agg ys)
 |wI {t T k n:Nat} {x y:X}:Nat.blt t 1000=true->look s t=some (.ptr k 0)->Nat.blt k 1000=true->look s (1000+k)=some (.box [x])->eT E.P T false n->kx E.fs s x y->mU x=false->mV E s (.cell t T) y
def fF(tmps:Array Value):ResultVar->Sem Value
 |.tmp t=>pure (tmps.getD t undef)
 |.cell a t=>do loadVar t (←asAddr (tmps.getD a undef))
def wF.Gq{fs:bc}{s:St}{x y:X}(h:wF fs s x y)(hx:cO x=false):cO y=false:=by
 cases h with
 |c h hn=>exact Co (h.y5 hn)
 |agg _=>rfl
 |fn _ _=>rfl
def mV.fin{E:Env}{U:bc}{c:Ctx}{a:Act}{w:World}{s:St}(hb:aM E U c a w)(hh:∀key x,look s key=some x->Holds c a w key x){r:ResultVar}{y:X}(h:mV E s r y):
  ∃v,(fF a.tmps r).run E.P w=.ok v w/\bt (aD (E.fin c w)) y v/\cO y=false:=by
 cases h with
 |tmp ht hl hr hn=>exact⟨_,rfl,hr.fin hb hh (T.Ad ((hh _ _ hl).slot ht) hn),hr.Gq hn⟩
 |bG ht hl hk Gr hT hlen hres=>
  rw[db]at hk;obtain⟨b,h1,hv⟩:=iB ((hh _ _ hl).slot ht);obtain⟨b',T',vs,h2,h3,h4⟩:=fD (hh _ _ Gr) hk;rw[h1]at h2;cases h2;refine⟨.agg vs,?_,⟨vs.toList,by simp,ah.fin hb hh hres h4⟩,rfl⟩;have:=jd (P:=E.P) hT (b:=b) (o:=0) (vs:=vs.toList) (w:=w) (by rw[←h4.length,hlen]) fun i v hv=>by
   grind [cell_of_row]
  simp_all[Instr.loadAt,Instr.sureAddr,fF,asAddr]
 |wI ht hl hk Gr hT hres hn=>
  rw[db]at hk;obtain⟨b,h1,hv⟩:=iB ((hh _ _ hl).slot ht);obtain⟨b',T',vs,h2,h3,h4⟩:=fD (hh _ _ Gr) hk;rw[h1]at h2;cases h2;obtain⟨v,vs',hvs,hr1,_⟩:=h4.bD;refine⟨v,?_,ab.Ad (hres.fin hb hh hr1) (hres.y5 hn),?_⟩
  ·have:=iO (P:=E.P) hT (b:=b) (o:=0) (v:=v) (w:=w) (by rw[cell_of_row w b 0 vs T' (0,0) h3,←ut,hvs];rfl);simp_all[Instr.loadAt,Instr.sureAddr,fF,asAddr]
  exact Co (hres.y5 hn)
def HO:bi->X
 |[y]=>y
 |ys=>.cf ys
def xZ(E:Env)(rs:List ResultVar)(res:X):bo:=fun e _ s=>(e=.ret\/e=.normal)/\∃ys,ah (mV E s) rs ys/\HO ys=res
def iw{E:Env}{U:bc}{c:Ctx}{a:Act}{w:World}{s:St}(hb:aM E U c a w)(hh:∀key x,look s key=some x->Holds c a w key x):∀{rs:List ResultVar}{ys:bi},ah (mV E s) rs ys->
  ∃vs,(rs.mapM (fF a.tmps)).run E.P w=.ok vs w/\ah (bt (aD (E.fin c w))) ys vs/\∀y∈ys,cO y=false
 |[],[],_=>⟨[],rfl,Zo,fun y hy=>by cases hy⟩
 |r::rs,y::ys,h=>by
  obtain⟨v,h1,h2,h3⟩:=h.1.fin hb hh;obtain⟨vs,h4,h5,h6⟩:=iw hb hh h.2;refine⟨v::vs,?_,⟨h2,h5⟩,fun y hy=>?_⟩
  ·simp_all
  grind
 |[],_::_,h=>h.elim
 |_::_,[],h=>h.elim
def hU:Nat->bi->St
 |_,[]=>[]
 |i,x::xs=>(i,x)::hU (i+1) xs
def qN{key:Nat}{x:X}:∀{xs:bi}{i:Nat},look (hU i xs) key=some x->i<=key/\xs[key - i]?=some x
 |[],_,h=>by cases h
 |y::ys,i,h=>by
  simp only[hU,look]at h;split at h
  ·simp_all
  rename_i hb;have hne:i≠key:=fun e=>hb (by simp_all)
  obtain⟨h1,h2⟩:=qN h;grind
abbrev jK(P:Program)(nt:Nat)(fs:bc)(w:World)(c:Ctx):Env:=⟨P,nt,fs,c,w,none,[]⟩
def cell_putObj{w:World}{D:Nat}{o o':Obj}(h:w.heap[D]?=some o)(ho:o.isCells=false)(ho':o'.isCells=false)(p:Addr):(w.putObj D o').cell? p=w.cell? p:=by
 grind [World.putObj_heap_same,World.cell?,Obj.isCells,World.putObj_heap_other]
def eF{P:Program}{fn:Func}{tmps:Array Value}{R:Ending→World→Prop}{B:Nat}{aw:Nat→Prop}:∀(ds:List Deferred)(w:World),ds.Pairwise (· ≠ ·)→
  (∀d∈ds,∃D,d={target:=.collected D,args:=#[]}/\B<=D/\¬aw D/\w.heap[D]?=some (.deferred (some [])))->
  (∀w':World,w'.os=w.os->w'.tape=w.tape->w'.output=w.output->w'.heap.size=w.heap.size->(∀k,(k<B\/aw k\/∃o:Obj,w.heap[k]?=some o/\o.isCells=true)->w'.heap[k]?=w.heap[k]?)->(∀p,w'.cell? p=w.cell? p)->∃v,(results fn tmps).run P w'=.ok v w'/\R (.returned v) w')->
  LeavesInM Fence.wide 0 P fn tmps R ds .returning w
 |[],w,_,_,hR=>by
  obtain⟨v,h1,h2⟩:=hR w rfl rfl rfl rfl (fun _ _=>rfl) (fun _=>rfl);exact⟨v,h1,h2⟩
 |d::ds,w,hp,hd,hR=>by
  obtain⟨D,rfl,hB,hZ,hD⟩:=hd d dp;obtain⟨hp1,hp2⟩:=pm.1 hp;have ho:∀k,k≠D->(w.putObj D (.deferred none)).heap[k]?=w.heap[k]?:=fun k hk=>World.putObj_heap_other hk
  refine⟨Z,.inl ⟨D,w.putObj D (.deferred none),rfl,?_,eF (B:=B) (aw:=aw) ds _ hp2 ?_ ?_⟩⟩
  ·exact run_takeDeferred hD
  ·grind
  intro w' e1 e2 e3 e4 e5 e6;have hne:∀k,(k<B\/aw k\/∃o:Obj,w.heap[k]?=some o/\o.isCells=true)->k≠D:=by
   rintro k hk rfl;rcases hk with hk|hk|⟨o,h1,h2⟩
   ·omega
   ·exact hZ hk
   rw[hD]at h1;cases h1;cases h2
  refine hR w' e1 e2 e3 (by rw[e4];simp) (fun k hk=>(e5 k ?_).trans (ho k (hne k hk))) fun p=>(e6 p).trans (cell_putObj hD rfl rfl p)
  simp_all
structure j6(fs:bc)(c:Ctx)(w:World):Prop where
 hw:∀p v,c.h p=some v->w.cell? p=some v
 loc:∀k b,c.loc k=some b->k∈fs/\b<w.heap.size/\(∀o,c.h ⟨b,o,none⟩=none)/\(∀k',c.loc k'=some b->k'=k)/\(∀k' m hv,c.arr k'=some (m,hv,true)->hv.ownBlock≠some b)
 arr:∀k m hv b,c.arr k=some (m,hv,true)->hv.ownBlock=some b->k∈fs/\b<w.heap.size/\(∀o,c.h ⟨b,o,none⟩=none)/\(∀k' m' hv',c.arr k'=some (m',hv',true)->hv'.ownBlock=some b->k'=k)
 none:∀k,k∉fs->c.loc k=none/\c.arr k=none
 Y:∀b,c.Y b->b<w.heap.size/\(∀k,c.loc k≠some b)/\(∀k m hv,c.arr k=some (m,hv,true)->hv.ownBlock≠some b)
structure iS(fs:bc)(c:Ctx)(w:World)(wr:St)(res:X)(v:Value)(c':Ctx)(w':World):Prop where
 below:da w.heap.size (c.out fs) w w'
 ok:j6 fs c' w'
 le:Mem.le c.h c'.h
 new:∀p v,c'.h p=some v->c.h p=some v\/w.heap.size<=p.block\/c.out fs p.block
 out:∀b,c'.out fs b->b<w.heap.size->c.out fs b
 loc:∀k b,c'.loc k=some b->c.loc k=some b
 arr:∀k m hv lv,c'.arr k=some (m,hv,lv)->∃m0 hv0 lv0,c.arr k=some (m0,hv0,lv0)/\m0<=m/\(m0=m->hv=hv0)
 wr:∀p∈wr,∀a,Holds c' a w' p.1 p.2
 res:bK c' res v
def dF(P:Program)(f:Nat)(fs:bc)(args:bi)(rd wr:St)(res:X):Prop:=
 ∀(c:Ctx)(w:World)(vs:List Value),j6 fs c w->(∀p∈rd,∀a,Holds c a w p.1 p.2)->ah (bt c) args vs->
  Calls P f vs.toArray w fun e w'=>∃v c',e=.returned v/\iS fs c w wr res v c' w'
def Ctx.gi(c:Ctx)(fs:bc)(h:Mem):Ctx:=⟨h,fun k=>if fs.contains k then c.loc k else none,fun k=>if fs.contains k then c.arr k else none,c.Y⟩
theorem dX{c:Ctx}{fs:bc}{h:Mem}{k b:Nat}(e:(c.gi fs h).loc k=some b):k∈fs/\c.loc k=some b:=by
 simp_all[Ctx.gi]
theorem dY{c:Ctx}{fs:bc}{h:Mem}{k:Nat}{x:Nat×Value×Bool}(e:(c.gi fs h).arr k=some x):k∈fs/\c.arr k=some x:=by
 simp_all[Ctx.gi]
theorem pL{c:Ctx}{fs:bc}{h:Mem}{b:Nat}(e:(c.gi fs h).out fs b):c.out fs b:=by
 rcases e with hy|⟨k,h1,h2⟩|⟨k,m,hv,h1,h2,h3⟩
 ·exact .inl hy
 ·exact .inr (.inl ⟨k,h1,(dX h2).2⟩)
 exact .inr (.inr ⟨k,m,hv,h1,(dY h2).2,h3⟩)
def EL(fs:bc):X->Bool
 |.ptr k _=>fs.contains k
 |.own k _=>fs.contains k
 |.di k _ _=>fs.contains k
 |.jt k=>fs.contains k
 |.rU k _ _ _ _=>fs.contains k
 |_=>true
def G8(fs:bc):X->Bool
 |.fn _ caps=>caps.all (EL fs)
 |x=>EL fs x
def iQ(fs:bc)(p:Nat×X):Bool:=Nat.ble 1000 p.1&&(match p.2 with
 |.box cells=>(fs.any fun k=>Nat.beq (1000+k) p.1)&&cells.all (G8 fs)
 |.arr _ _=>fs.any fun k=>Nat.beq (2000+k) p.1
 |.cM _ _ mid _=>(fs.any fun k=>Nat.beq (2000+k) p.1)&&mid.all (G8 fs)
 |.omap _=>fs.any fun k=>Nat.beq (1000+k) p.1
 |.res _=>Nat.ble 3000 p.1
 |_=>false)
theorem cq.gi{c:Ctx}{fs:bc}{h':Mem}(hh:Mem.le c.h h'){x:X}{v:Value}(h:cq c x v)(ho:EL fs x=true):cq (c.gi fs h') x v:=by
 cases x
 case ptr k off=>obtain⟨b,h1,h2⟩:=h;simp only[EL]at ho;exact⟨b,by simp_all[Ctx.gi],h2⟩
 case own k n=>obtain⟨h0,m,hv,lv,h1,h2⟩:=h;simp only[EL]at ho;exact⟨h0,m,hv,lv,by simp_all[Ctx.gi],h2⟩
 case di k n off=>obtain⟨m,hv,lv,h1,h2⟩:=h;simp only[EL]at ho;exact⟨m,hv,lv,by simp_all[Ctx.gi],h2⟩
 case jt k=>obtain⟨b,h1,h2⟩:=h;simp only[EL]at ho;exact⟨b,by simp_all[Ctx.gi],h2⟩
 case rU k n sz lo hi=>obtain⟨h0,m,hv,lv,h1,h2⟩:=h;simp only[EL]at ho;exact⟨h0,m,hv,lv,by simp_all[Ctx.gi],h2⟩
 case slc rows=>exact⟨ay.mono hh h.1,h.2⟩
 case any=>exact h
 case raw=>exact h
 case bO=>exact h
 case cb=>exact h
 all_goals exact ay.mono hh h
def aV.gi{c:Ctx}{fs:bc}{h':Mem}(hh:Mem.le c.h h'){x:X}{v:Value}(h:aV c x v)(ho:G8 fs x=true):aV (c.gi fs h') x v:=by
 cases x
 case fn f caps=>grind [aV,G8,ah.cut,cq.gi]
 all_goals simp_all[aV,G8,cq.gi]
def Holds.gi{c:Ctx}{fs:List Nat}{h':Mem}{w w':World}(hh:Mem.le c.h h')(hn:∀p v,h' p=some v→c.h p=some v∨¬c.Y p.block)(hw':∀p v,h' p=some v→w'.cell? p=some v)(hB:da 0 (fun _=>False) w w')
  (hX:∀b,c.out fs b->w'.heap[b]?=w.heap[b]?) {key:Nat} {x:X} {a a':Act} (h:Holds c a w key x) (ho:iQ fs (key,x)=true):Holds (c.gi fs h') a' w' key x:=by
 simp only[iQ,Zw,ii]at ho;obtain⟨ho1,ho⟩:=ho;unfold Holds at *;rw[Zm I]at h⊢;refine cD h fun h=>?_
 split at h
 ·rename_i h2;rw[Zn h2];obtain⟨b,o,h1,h3,h4⟩:=h;cases x
  case box cells=>
   obtain⟨T,vs,h5,h6⟩:=h4;simp only[Zw]at ho;have hf:=FF ho.1;exact⟨b,o,by simp_all[Ctx.gi],(hX b (.inr (.inl ⟨_,fa.1 hf,h1⟩))).trans h3,T,vs,h5,ah.cut (R':=aV (c.gi fs h')) (ok:=G8 fs) (fun _ _ h ho=>aV.gi hh h ho) h6 ho.2⟩
  case omap es=>
   obtain⟨as0,clock,h5,h0,h6⟩:=h4;simp only at ho;have hf:=FF ho;exact⟨b,o,by simp_all[Ctx.gi],(hX b (.inr (.inl ⟨_,fa.1 hf,h1⟩))).trans h3,as0,clock,h5,h0,h6.mono fun _ _ h=>⟨h.1.mono hh,pure_mono hh h.2⟩⟩
  all_goals exact h4.elim
 rename_i h2;rw[Zm h2];split at h
 ·rename_i h3;rw[Zn h3];obtain⟨sz,rows,hv,e,vs,hx,h1,h4,h5⟩:=h;have hfx:fs.contains (key - 2000)=true/\wJ (c.gi fs h') x sz rows vs:=by
   cases x
   case arr sz' rows'=>exact⟨FF ho,hx.1,hx.2.1,hx.2.2.mono fun _ _=>ay.mono hh⟩
   case cM sz' pre mid post=>
    obtain⟨q1,q2,v1,v2,v3,q3,q4,q5,q6⟩:=hx;simp only[Zw]at ho;exact⟨FF ho.1,q1,q2,v1,v2,v3,q3,q4.mono fun _ _=>ay.mono hh,ah.cut (R':=aV (c.gi fs h')) (ok:=G8 fs) (fun _ _ h ho=>aV.gi hh h ho) q5 ho.2,q6.mono fun _ _=>ay.mono hh⟩
   all_goals exact hx.elim
  obtain⟨hf,hx'⟩:=hfx;refine⟨sz,rows,hv,e,vs,hx',by simp_all[Ctx.gi],?_,h5⟩;refine⟨h4.1,h4.2.imp id ?_⟩;rintro⟨g,cap,cur,e1,e2,e3,r⟩;refine⟨g,cap,cur,e1,e2,(hX g (.inr (.inr ⟨_,_,_,fa.1 hf,h1,by rw[e1];rfl⟩))).trans e3,r⟩
 rename_i h3;rw[Zm h3];obtain⟨hk0,J,hx0,hJ,hJ2⟩:=h;have hx1:wK (c.gi fs h').loc J x:=by cases x<;>first|exact hx0|grind|cases ho
 exact⟨hk0,J,hx1,hJ,hJ _ _ _ _ _ hJ2 hh hn hw' hB fun b hb=>hX b (.inl hb)⟩
def Gl(E:Env)(rs:List ResultVar)(wr:St)(res:X):bo:=fun e U s=>xZ E rs res e U s/\Le s wr
theorem gl{c:Ctx}{args:List X}{vs:List Value}{n:Nat}{w:World}{ds:List Deferred}(hargs:ah (bt c) args vs)(ht:args.all (fun x=>!cO x)=true)(hl2:args.length≤1000):
  ∀key x,look (hU 0 args) key=some x->Holds c {tmps:=vs.toArray++Array.replicate n undef,defers:=ds} w key x:=by
 intro key x hx;obtain⟨_,hx⟩:=qN hx;rw[Nat.sub_zero]at hx;have hk:key<args.length:=(dq.1 hx).1;have hlen:=hargs.length;unfold Holds;rw[Zn I];obtain⟨v,hv,hvr⟩:=hargs.eD hx;have hkv:key<vs.length:=by omega
 have:(vs.toArray++Array.replicate n undef).getD key undef=v:=by
  have h1:vs[key]=v:=by simp_all
  simp[EQ,hkv,h1]
 grind [ap.ef]
def aM.calm{E:Env}{U:bc}{s:St}{c:Ctx}{a:Act}{w w2:World}(hb:aM E U c a w)(hh:∀key x,look s key=some x->Holds c a w key x)(e1:w2.os=w.os)(e2:w2.tape=w.tape)(e3:w2.output=w.output)(e4:w2.heap.size=w.heap.size)
  (hpin:E.pins=[]) (e5:∀k,(k<E.B\/c.all k\/∃o:Obj,w.heap[k]?=some o/\o.isCells=true)->w2.heap[k]?=w.heap[k]?) (e6:∀p,w2.cell? p=w.cell? p):
  aM E U c {a with defers:=[]} w2/\∀key x,look s key=some x->Holds c {a with defers:=[]} w2 key x:=by
 refine⟨⟨hb.below.trans ⟨e1,e2,e3,by omega,fun k hk _=>e5 k (.inl hk)⟩,by rw[e4];exact hb.hB,hb.nt,⟨.nil,fun d hd=>by cases hd⟩,(fun p hp=>by simp_all),fun p v h=>by rw[e6];exact hb.hw p v h,hb.hle,hb.hnew,?_,?_,hb.used,?_,hb.fB,hb.fQ⟩,?_⟩
 ·rw[e4];exact hb.loc
 ·rw[e4];exact hb.arr
 ·rw[e4];exact hb.Y
 intro key x hx;have h:=hh key x hx;unfold Holds at *;split at h
 ·simp_all
 rename_i hk;rw[Zm hk];refine cD h fun h=>?_
 split at h
 ·grind [xe,Ctx.all]
 rename_i h2;rw[Zm h2];split at h
 ·rename_i h3;rw[Zn h3];obtain⟨sz,rows,hv,e,vs,hx,h1,h4,h5⟩:=h;refine⟨sz,rows,hv,e,vs,hx,h1,⟨h4.1,h4.2.imp id ?_⟩,h5⟩;rintro⟨g,cap,cur,f1,f2,f3,r⟩;exact⟨g,cap,cur,f1,f2,(e5 g (.inr (.inr ⟨_,f3,rfl⟩))).trans f3,r⟩
 rename_i h3;rw[Zm h3];obtain⟨hk0,J,hx0,hJ,hJ2⟩:=h;exact⟨hk0,J,hx0,hJ,hJ _ _ _ _ _ hJ2 (Mem.le_refl _) (fun _ _ e=>.inl e) (fun p v h=>by rw[e6];exact hb.hw p v h) ⟨e1,e2,e3,by omega,fun k hk=>by omega⟩ fun b hb'=>e5 b (.inr (.inl (.inl hb')))⟩
def CF{c:Ctx}{fs:bc}{h:Mem}:Ext (aD h) (c.gi fs h):=⟨Mem.le_refl _,(fun _ _ e=>by cases e),(fun _ _ _ _ e=>by cases e)⟩
def aM.gi{E:Env}{U:bc}{c:Ctx}{a:Act}{w':World}(hb:aM E U c a w'):j6 E.fs (c.gi E.fs (E.fin c w')) w'/\Mem.le E.h0 (E.fin c w')/\
  (∀p v,E.fin c w' p=some v->E.h0 p=some v\/E.B<=p.block\/E.X p.block):=by
 have hfin:∀p v,E.fin c w' p=some v->w'.cell? p=some v:=by
  intro p v h;unfold Env.fin at h;split at h
  ·exact hb.hw p v h
  exact h
 have hout:∀b o,c.out E.fs b->c.h ⟨b,o,none⟩=none->E.fin c w' ⟨b,o,none⟩=none:=by
  simp_all[Env.fin]
 have spot:∀(p:Addr) v,E.fin c w' p=some v->p=⟨p.block,p.off,none⟩:=by
  intro p v h;have h5:=hfin p v h;have hsp:p.spot=none:=by
   cases hsp:p.spot with
   |none=>rfl
   |some q=>grind [World.cell?]
  cases p;simp_all
 refine⟨⟨hfin,?_,?_,fun k hk=>?_,?_⟩,Mem.le_trans hb.hle (Env.nT hb),?_⟩
 ·intro k b hk;obtain⟨hk0,hk1⟩:=dX hk;obtain⟨_,h2,h3,h4,h5⟩:=hb.loc k b hk1;exact⟨hk0,h2,fun o=>hout b o (.inr (.inl ⟨k,hk0,hk1⟩)) (h3 o),fun k' hk'=>h4 k' (dX hk').2,fun k' m hv hk'=>h5 k' m hv (dY hk').2⟩
 ·intro k m hv b hk hbk;obtain⟨hk0,hk1⟩:=dY hk;obtain⟨_,h2,h3,h4⟩:=hb.arr k m hv b hk1 hbk;exact⟨hk0,h2,fun o=>hout b o (.inr (.inr ⟨k,m,hv,hk0,hk1,hbk⟩)) (h3 o),fun k' m' hv' hk'=>h4 k' m' hv' (dY hk').2⟩
 ·have hk':E.fs.contains k=false:=by grind
  simp only[Ctx.gi,hk'];simp
 ·intro b hy;obtain⟨h1,_,h3,h4⟩:=hb.Y b hy;exact⟨h1,fun k hk=>h3 k (dX hk).2,fun k m hv hk=>h4 k m hv (dY hk).2⟩
 intro p v hp;have hsp:=spot p v hp;have hp:E.fin c w' p=some v:=hp;unfold Env.fin at hp;split at hp
 ·exact hb.hnew p v hp
 omega
def iS.CG{E:Env}{U:bc}{s wr:St}{c:Ctx}{a:Act}{w w':World}{res:X}{v:Value}(hb:aM E U c a w')(hE:E.B=w.heap.size)(hh:∀key x,look s key=some x->Holds c a w' key x)(hle:Le s wr)(hwr:wr.all (iQ E.fs)=true)
  (hr:bK (c.gi E.fs (E.fin c w')) res v) (hpin:∀b,E.X b->E.c0.out E.fs b) (hw0:E.w0=w:=by rfl):iS E.fs E.c0 w wr res v (c.gi E.fs (E.fin c w')) w':=by
 obtain⟨q1,q2,q3⟩:=hb.gi;refine⟨?_,q1,q2,fun p v hp=>(q3 p v hp).imp id fun h=>h.imp (fun h=>by omega) (hpin _),?_,?_,?_,?_,hr⟩
 ·rw[←hE,←hw0];exact hb.below.mono (Zq _) fun k _ h=>hpin k h
 ·intro b ho hlt;exact hpin _ (hb.Fs (pL ho) I)
 ·intro k b hk;obtain⟨hk0,hk1⟩:=dX hk;exact hb.fB k b hk0 hk1
 ·intro k m hv lv hk;obtain⟨hk0,hk1⟩:=dY hk;obtain⟨m0,hv0,lv0,h1,h2,h3,_⟩:=hb.fQ k m hv lv hk0 hk1;grind
 intro p hp a';have hl:look s p.1=some p.2:=by
  have:∀{r:St},Le s r->∀p∈r,look s p.1=some p.2:=by
   intro r
   induction r with
   |nil=>simp
   |cons q r ih=>
    intro h p hp;rcases ed.1 hp with rfl|hp
    ·exact h.1
    exact ih h.2 p hp
  grind
 refine Holds.gi (Env.nT hb) ?_ q1.hw (da.refl _ _ _) (fun _ _=>rfl) (hh _ _ hl) (dj.1 hwr p hp);intro q u hq;unfold Env.fin at hq;split at hq
 ·grind
 rename_i hc;exact .inr fun hy=>hc (.inr (.inl hy))
def iS.uE{E:Env}{U:bc}{s wr:St}{c:Ctx}{a:Act}{w w':World}{res:X}{v:Value}(hb:aM E U c a w')(hE:E.B=w.heap.size)(hh:∀key x,look s key=some x->Holds c a w' key x)(hle:Le s wr)(hwr:wr.all (iQ E.fs)=true)
 (hr:bK (aD (E.fin c w')) res v) (hpin:∀b,E.X b->E.c0.out E.fs b) (hw0:E.w0=w:=by rfl):iS E.fs E.c0 w wr res v (c.gi E.fs (E.fin c w')) w':=.CG hb hE hh hle hwr (hr.mono CF) hpin hw0
def dF.at{P:Program}{f nt:Nat}{fn:Func}{code:Code}{rs:List ResultVar}{fs:bc}{args:bi}{rd wr:St}{res:X}(hf:P.funcs[f]?=some fn)(hb:fn.body=some code)(hn:fn.ntmps=nt)(hr:fn.results=rs.toArray)
  (hl:Nat.ble args.length nt=true) (ht:args.all (fun x=>!cO x)=true) (hl2:Nat.ble args.length 1000=true) (hwr:wr.all (iQ fs)=true)
  (w:World) (c0:Ctx) (h:OK (jK P nt fs w c0) code (den (jK P nt fs w c0) (Gl (jK P nt fs w c0) rs wr res) []) fs (hU 0 args++rd)) (vs:List Value) (hc0:j6 fs c0 w) (hrd':∀p∈rd,∀a,Holds c0 a w p.1 p.2) (hargs:ah (bt c0) args vs):
  Calls P f vs.toArray w fun e w'=>∃v c',e=.returned v/\iS fs c0 w wr res v c' w':=by
 refine(callsIn_wide (n:=0)).1 (callsIn_of_wp_marks hf hb trivial ?_ rfl);have hlen:=hargs.length;rw[ii]at hl hl2;refine wpIn_mono (h {tmps:=vs.toArray++Array.replicate (fn.ntmps - vs.toArray.size) undef,defers:=[]} w ?_) ?_
 ·refine⟨c0,⟨da.refl _ _ _,Zq _,?_,⟨.nil,fun d hd=>by cases hd⟩,(fun p hp=>by cases hp),hc0.hw,Mem.le_refl _,fun p v e=>.inl e,?_,?_,hc0.none,?_,fun k b _ e=>e,fun k m hv lv _ e=>⟨m,hv,lv,e,Zq _,fun _=>rfl,id,fun _ h=>.inl h⟩⟩,?_⟩
  ·simp_all
  ·intro k b hk;obtain⟨h1,h2⟩:=hc0.loc k b hk;exact⟨.inr ⟨h1,.inl (.inr (.inl ⟨k,h1,hk⟩))⟩,h2⟩
  ·intro k m hv b hk hbk;obtain⟨h1,h2⟩:=hc0.arr k m hv b hk hbk;exact⟨.inr ⟨h1,.inl (.inr (.inr ⟨k,m,hv,h1,hk,hbk⟩))⟩,h2⟩
  ·intro b hb;obtain⟨h1,h2⟩:=hc0.Y b hb;exact⟨h1,fun _=>.inl (.inl hb),h2⟩
  intro key x hx;rw[dA]at hx;cases hk:look (hU 0 args) key with
  |some y=>
   grind [gl]
  |none=>
   simp_all[cm]
 rintro e a' w' ⟨U',s',⟨c,hbase,hh⟩,⟨he,ys,hys,hres⟩,hle⟩;have hE:(jK P nt fs w c0).B=w.heap.size:=rfl;have post:LeavesInM Fence.wide 0 P fn a'.tmps (fun e w'=>∃v c',e=.returned v/\iS fs c0 w wr res v c' w') a'.defers .returning w':=by
  refine eF (B:=w.heap.size) (aw:=c.all) a'.defers w' hbase.iP.1 ?_ ?_
  ·intro d hd;obtain⟨D,h1,h2,h3,h4⟩:=hbase.iP.2 d hd;simp_all
  intro w2 e1 e2 e3 e4 e5 e6;obtain⟨hbase,hh⟩:=hbase.calm hh e1 e2 e3 e4 rfl e5 e6;obtain⟨vs',h1,h2,h3⟩:=iw hbase hh hys;have hrun:(results fn a'.tmps).run P w2=.ok (if h:vs'.toArray.size=1 then vs'.toArray[0]else .tuple vs'.toArray) w2:=by
   have he:results fn a'.tmps=(fn.results.mapM (fF a'.tmps)>>=fun vs=>pure (if h:vs.size=1 then vs[0]else .tuple vs)):=by
    rfl
   simp_all
  refine⟨_,hrun,_,c.gi fs ((jK P nt fs w c0).fin c w2),rfl,?_⟩;exact iS.uE hbase hE hh hle hwr (by
   subst hres;have hl:=h2.length
   match ys,vs',h2,h3,hl with
   |[y],[v],h2,h3,_=>exact ap.ef h2.1 (h3 y F)
   |[],[],h2,_,_=>exact⟨[],rfl,Zo⟩
   |y1::y2::ys,v1::v2::vs,h2,_,_=>exact⟨v1::v2::vs,by simp,h2⟩
   |[_],[],h2,_,_=>grind
   |[],_::_,h2,_,_=>grind
   |[_],_::_::_,h2,_,_=>grind
   |_::_::_,[],h2,_,_=>grind
   |_::_::_,[_],h2,_,_=>grind) (fun b h=>h.elim id fun⟨p,hp,_⟩=>by cases hp)
 rcases he with rfl|rfl
 ·exact post
 exact post
def dF.intro{P:Program}{f nt:Nat}{fn:Func}{code:Code}{rs:List ResultVar}{fs:bc}{args:bi}{rd wr:St}{res:X}(hf:P.funcs[f]?=some fn)(hb:fn.body=some code)(hn:fn.ntmps=nt)(hr:fn.results=rs.toArray)
  (hl:Nat.ble args.length nt=true) (ht:args.all (fun x=>!cO x)=true) (hl2:Nat.ble args.length 1000=true) (hwr:wr.all (iQ fs)=true)
  (h:∀w c,OK (jK P nt fs w c) code (den (jK P nt fs w c) (Gl (jK P nt fs w c) rs wr res) []) fs (hU 0 args++rd)):dF P f fs args rd wr res:=
 fun c0 w vs hc0 hrd hargs=>dF.at hf hb hn hr hl ht hl2 hwr w c0 (h w c0) vs hc0 hrd hargs
def Ct.FG{P:Program}{f:Nat}{args:List X}{res:X}{h:Mem}{w:World}{vs:List Value}(hg:∀(hc0:j6 [] (aD h) w),Calls P f vs.toArray w fun e w'=>∃v c',e=.returned v∧iS [] (aD h) w [] res v c' w')(hw:∀p v,h p=some v→w.cell? p=some v)(_hargs:ah (bt (aD h)) args vs):
  Calls P f vs.toArray w fun e w'=>∃v h',e=.returned v/\Below w.heap.size w w'/\Mem.le h h'/\(∀p v,h' p=some v->h p=some v\/w.heap.size<=p.block)/\(∀p v,h' p=some v->w'.cell? p=some v)/\bK (aD h') res v:=by
 refine(hg ⟨hw,(fun k b e=>by cases e),(fun k m hv b e=>by cases e),(fun _ _=>⟨rfl,rfl⟩),(fun b e=>e.elim)⟩).mono ?_;rintro e w' ⟨v,c',rfl,hp⟩;have hno:∀b,¬(aD h).out [] b:=by
  rintro b (hy|⟨k,_,e⟩|⟨k,m,hv,_,e,_⟩)
  all_goals simp_all
 refine⟨v,c'.h,rfl,(hp.below.mono (Zq _) fun k _ hk=>(hno k hk).elim).below,hp.le,fun p v e=>(hp.new p v e).imp id fun h=>h.elim id fun h=>(hno _ h).elim,hp.ok.hw,?_⟩;have hext:Ext c' (aD c'.h):=⟨Mem.le_refl _,(fun k b e=>by have e2:=hp.loc k b e;cases e2),fun k m hv lv e=>by obtain⟨_,_,_,e2,_⟩:=hp.arr k m hv lv e;cases e2⟩;exact hp.res.mono hext
def Ct.IY{P:Program}{f:Nat}{args:bi}{res:X}(hg:dF P f [] args [] [] res):Ct P f args res:=
 fun h w vs hw hargs=>Ct.FG (args:=args) (fun hc0=>hg (aD h) w vs hc0 (fun p hp=>by cases hp) hargs) hw hargs
def Ct.intro{P:Program}{f nt:Nat}{fn:Func}{code:Code}{rs:List ResultVar}{args:bi}{res:X}(hf:P.funcs[f]?=some fn)(hb:fn.body=some code)(hn:fn.ntmps=nt)(hr:fn.results=rs.toArray)
  (hl:Nat.ble args.length nt=true) (ht:args.all (fun x=>!cO x)=true) (hl2:Nat.ble args.length 1000=true) (h:∀w c,OK (jK P nt [] w c) code (den (jK P nt [] w c) (xZ (jK P nt [] w c) rs res) []) [] (hU 0 args)):Ct P f args res:=
 Ct.IY (dF.intro hf hb hn hr hl ht hl2 rfl fun w c=>by
  rw[lw];exact(h w c).mono fun _ _ _ hq=>⟨hq,Zo⟩)
def pU (n : String) : Prop := n = "internal/strconv.uint64pow10" \/ n = "strconv.ErrRange" \/ n = "strconv.ErrSyntax" \/ n = "martensite/recipe.names"
def b7:List ba:=[[104,101,97,116],[100,119,101,108,108],[113,117,101,110,99,104],[117,110,116,105,108],[99,111,111,108],[114,101,112,101,97,116]]
structure jv(P:Program)(w:World):Prop where
 pow : ∀ g, P.globalNamed "internal/strconv.uint64pow10" = some g -> ∃ T d, w.heap[g]? = some (.cells (Lib.pow10Tab.map fun z => Value.int .u64 z).toArray T d)
 err : ∀ n, (n = "strconv.ErrRange" \/ n = "strconv.ErrSyntax") -> ∀ g, P.globalNamed n = some g -> ∃ ev, w.cell? ⟨g, 0, none⟩ = some ev /\ (ev = .nilIface \/ ∃ te pe, ev = .iface te pe)
 Jd : ∀ g, P.globalNamed "martensite/recipe.names" = some g -> ∃ T d, w.heap[g]? = some (.cells (b7.map fun l => Value.string ⟨l.toArray⟩).toArray T d)
 lt:∀n,pU n->∀g,P.globalNamed n=some g->g<w.heap.size
def jv.stays{P:Program}{w w':World}(h:jv P w)(hs:w.heap.size<=w'.heap.size)(hg:∀n,pU n->∀g,P.globalNamed n=some g->w'.heap[g]?=w.heap[g]?):jv P w':=
 ⟨fun g hn=>by obtain⟨T,d,e⟩:=h.pow g hn;exact⟨T,d,(hg _ (.inl rfl) g hn).trans e⟩,
  fun n hnn g hn=>by
   obtain⟨ev,e1,e2⟩:=h.err n hnn g hn;refine⟨ev,?_,e2⟩;rw[←e1];unfold World.cell?;rw[hg n (.inr (hnn.imp id .inl)) g hn],
  fun g hn=>by obtain⟨T,d,e⟩:=h.Jd g hn;exact⟨T,d,(hg _ (.inr (.inr (.inr rfl))) g hn).trans e⟩,
  fun n hnn g hn=>dl (h.lt n hnn g hn) hs⟩
structure gO(E:Env):Prop where
 FX:jv E.P E.w0
 out:∀n,pU n->∀g,E.P.globalNamed n=some g->¬E.X g
def gO.now{E:Env}{U:bc}{c:Ctx}{a:Act}{w:World}(h:gO E)(hb:aM E U c a w):jv E.P w:=h.FX.stays hb.below.size fun n hnn g hn=>hb.below.block g (h.FX.lt n hnn g hn) (h.out n hnn g hn)
def gz(P:Program)(f:Nat)(args:bi)(res:X):Prop:=
 ∀(h:Mem)(w:World)(vs:List Value),jv P w->(∀p v,h p=some v->w.cell? p=some v)->ah (bt (aD h)) args vs->
  Calls P f vs.toArray w fun e w'=>∃v h',e=.returned v/\Below w.heap.size w w'/\Mem.le h h'/\(∀p v,h' p=some v->h p=some v\/w.heap.size<=p.block)/\
   (∀p v,h' p=some v->w'.cell? p=some v)/\bK (aD h') res v
def EK(E:Env)(f:Nat)(args:bi)(res:X):Prop:=
 ∀(h:Mem)(w:World)(vs:List Value),(∃U c a,aM E U c a w)->(∀p v,h p=some v->w.cell? p=some v)->ah (bt (aD h)) args vs->
  Calls E.P f vs.toArray w fun e w'=>∃v h',e=.returned v/\Below w.heap.size w w'/\Mem.le h h'/\(∀p v,h' p=some v->h p=some v\/w.heap.size<=p.block)/\
   (∀p v,h' p=some v->w'.cell? p=some v)/\bK (aD h') res v
def Ct.at{E:Env}{f:Nat}{args:bi}{res:X}(h:Ct E.P f args res):EK E f args res:=fun m w vs _ hw ha=>h m w vs hw ha
def gz.at{E:Env}{f:Nat}{args:bi}{res:X}(h:gz E.P f args res)(hT:gO E):EK E f args res:=fun m w vs hb hw ha=>by
 obtain⟨U,c,a,hb⟩:=hb;exact h m w vs (hT.now hb) hw ha
def gz.intro{P:Program}{f nt:Nat}{fn:Func}{code:Code}{rs:List ResultVar}{args:bi}{res:X}(hf:P.funcs[f]?=some fn)(hb:fn.body=some code)(hn:fn.ntmps=nt)(hr:fn.results=rs.toArray)
  (hl:Nat.ble args.length nt=true) (ht:args.all (fun x=>!cO x)=true) (hl2:Nat.ble args.length 1000=true) (h:∀w c,gO (jK P nt [] w c)->OK (jK P nt [] w c) code (den (jK P nt [] w c) (xZ (jK P nt [] w c) rs res) []) [] (hU 0 args)):gz P f args res:=by
 intro m w vs htab hw hargs;refine Ct.FG (args:=args) (fun hc0=>dF.at (rd:=[]) (wr:=[]) hf hb hn hr hl ht hl2 rfl w (aD m) ?_ vs hc0 (fun p hp=>by cases hp) hargs) hw hargs;rw[lw];refine(h w (aD m) ⟨htab,?_⟩).mono fun _ _ _ hq=>⟨hq,Zo⟩
 rintro n _ g _ (h1|⟨p,hp,_⟩)
 ·rcases h1 with hy|⟨k,_,e⟩|⟨k,m,hv,_,e,_⟩
  all_goals simp_all
 cases hp
def aA.r1{E:Env}{U:bc}{s:St}{r:ResultVar}{y res:X}(h:mV E s r y)(he:y=res):xZ E [r] res .ret U s:=⟨.inl rfl,[y],⟨h,Zo⟩,he⟩
def aA.r2{E:Env}{U:bc}{s:St}{r1 r2:ResultVar}{y1 y2 res:X}(h1:mV E s r1 y1)(h2:mV E s r2 y2)(he:.cf [y1,y2]=res):xZ E [r1,r2] res .ret U s:=⟨.inl rfl,[y1,y2],⟨h1,h2,Zo⟩,he⟩
def aA.r3{E:Env}{U:bc}{s:St}{r1 r2 r3:ResultVar}{y1 y2 y3 res:X}(h1:mV E s r1 y1)(h2:mV E s r2 y2)(h3:mV E s r3 y3)(he:.cf [y1,y2,y3]=res):xZ E [r1,r2,r3] res .ret U s:=
 ⟨.inl rfl,[y1,y2,y3],⟨h1,h2,h3,Zo⟩,he⟩
def ah.z{α β:Type}{R:α->β->Prop}:ah R [] []:=trivial
def ah.k{α β:Type}{R:α->β->Prop}{a:α}{b:β}{as0:List α}{bs:List β}(h:R a b)(h':ah R as0 bs):ah R (a::as0) (b::bs):=⟨h,h'⟩
end Go.Ab
namespace Go.Ab
open Go.RowKit
def RK(E:Env)(all:Array Oper)(l:List Oper)(U:bc)(s:St)(Q:bo):Prop:=
 ∀(k:Nat),(∀j,all[k+j]?=l[j]?)->∀a w,Good E U s a w->wpOpsIn E.ac 0 E.P all (fun e a' w'=>∃U' s',Good E U' s' a' w'/\Q e U' s') (List.range' k l.length) a w
section
variable{E:Env}{all:Array Oper}{l:List Oper}{U:bc}{s:St}{Q:bo}
theorem RK.nil(h:Q .normal U s):RK E all [] U s Q:=fun _ _ a w hg=>by grind [wpOpsIn]
def RK.c{o:Oper}{rd wr:St}{al:bc}(h:aW E all o s rd wr al)(hr:RK E all l (al++U) (wr++s) Q)(ha:(al.all fun k=>!U.contains k)=true:=by rfl):RK E all (o::l) U s Q:=by
 intro k hk a w hg;rw[ge,sg,wpOpsIn_cons];refine cW (by simpa using hk 0) (h.1.good hg h.2 ha fun a' w' hg'=>hr (k+1) (fun j=>?_) a' w' hg');have:=hk (j+1);grind
def RK.split{t:Nat}{b:Bool}(hl:look s t=some (.bool b))(hx:b=true->RK E all l U ((t,.bool true)::s) Q)(hy:b=false->RK E all l U ((t,.bool false)::s) Q):RK E all l U s Q:=by
 intro k hk a w hg;cases b with
 |true=>exact hx rfl k hk a w (hg.imp fun c h=>⟨h.1,fun key x hx=>h.2 key x (by
  grind [look,Nat.eq_of_beq_eq_true])⟩)
 |false=>exact hy rfl k hk a w (hg.imp fun c h=>⟨h.1,fun key x hx=>h.2 key x (by
  grind [look,Nat.eq_of_beq_eq_true])⟩)
def RK.bh{t:Nat}{p:Prop}[Decidable p](hl:look s t=some (.bool (decide p)))(hx:p->RK E all l U ((t,.bool true)::s) Q)(hy:¬p->RK E all l U ((t,.bool false)::s) Q):RK E all l U s Q:=
 RK.split hl (fun h=>hx (dC h)) (fun h=>hy (ln h))
def OK.bN{id:Nat}(h:RK E l.toArray l U s Q):OK E (.region id l.toArray false) Q U s:=by
 intro a w hg;refine wpIn_region ?_;have:=h 0 F a w hg;simp_all[List.range_eq_range']
def OK.HB{t:Nat}{p:Prop}[Decidable p]{x y:Code}(ht:Nat.blt t 1000=true)(hl:look s t=some (.bool (decide p)))(hx:p->OK E x Q U s)(hy:¬p->OK E y Q U s):OK E (.cond (.tmp t) x y) Q U s:=
 OK.cond ht hl (fun h=>hx (dC h)) (fun h=>hy (ln h))
def OK.fu{t:Nat}{b:Bool}{x y:Code}(ht:Nat.blt t 1000=true)(hl:look s t=some (.bool b))(hb:b=true)(hx:OK E x Q U s):OK E (.cond (.tmp t) x y) Q U s:=
 OK.cond ht hl (fun _=>hx) (fun h=>by rw[hb]at h;cases h)
def OK.iZ{t:Nat}{b:Bool}{x y:Code}(ht:Nat.blt t 1000=true)(hl:look s t=some (.bool b))(hb:b=false)(hy:OK E y Q U s):OK E (.cond (.tmp t) x y) Q U s:=
 OK.cond ht hl (fun h=>by rw[hb]at h;cases h) (fun _=>hy)
def OK.eW{t:Nat}{rows:List bi}{c:Code}(ht:Nat.blt t 1000=true)(hl:look s t=some (.sl rows))(h:rows.length<=maxLen->OK E c Q U s):OK E c Q U s:=by
 intro a w hg;obtain⟨cx,hb,hh⟩:=hg;obtain⟨_,cap,_,h1,h2,_⟩:=kg ((hh t _ hl).slot ht);exact h (gc h1 h2) a w ⟨cx,hb,hh⟩
def OK.ux{t:Nat}{z:ba}{c:Code}(ht:Nat.blt t 1000=true)(hl:look s t=some (.str z))(h:z.length<=maxLen->OK E c Q U s):OK E c Q U s:=by
 intro a w hg;obtain⟨cx,hb,hh⟩:=hg;exact h (fS ((hh t _ hl).slot ht)).2 a w ⟨cx,hb,hh⟩
def OK.IV{t:Nat}{k:IntKind}{n:Int}{c:Code}(ht:Nat.blt t 1000=true)(hl:look s t=some (.int k n))(h:k.wrap n=n->OK E c Q U s):OK E c Q U s:=by
 intro a w hg;obtain⟨cx,hb,hh⟩:=hg;exact h (cJ ((hh t _ hl).slot ht)).2 a w ⟨cx,hb,hh⟩
end
def jW{E:Env}{U:bc}{c c':Ctx}{a:Act}{w w':World}(hb:aM E U c a w)(ho:∀b,b<w.heap.size->c'.all b->c.all b)(hd:∀(D:Nat)(o:Obj),w.heap[D]?=some o->o.isCells=false->w'.heap[D]?=some o):
  a.defers.Pairwise (· ≠ ·)/\∀d∈a.defers,∃D,d={target:=.collected D,args:=#[]}/\E.B<=D/\¬c'.all D/\w'.heap[D]?=some (.deferred (some [])):=
 ⟨hb.iP.1,fun d h=>by
  obtain⟨D,h1,h2,h3,h4⟩:=hb.iP.2 d h;exact⟨D,h1,h2,fun e=>h3 (ho D (dt.1 h4).1 e),hd D _ h4 rfl⟩⟩
def jY{E:Env}{U:bc}{c c':Ctx}{a:Act}{w w':World}(hb:aM E U c a w)(ho:∀b,b<w.heap.size->c'.all b->c.all b)(hd:∀(D:Nat)(o:Obj),w.heap[D]?=some o->o.isCells=false->w'.heap[D]?=some o):
  ∀p∈E.pins,¬c'.all p.1/\p.2.isCells=false/\w'.heap[p.1]?=some p.2:=by
 intro p hp;obtain⟨h1,h4,h5⟩:=hb.nS p hp;grind
def aM.below_grow{E:Env}{U:bc}{c:Ctx}{a:Act}{w w':World}{h':Mem}(hb:aM E U c a w)(hB:Below w.heap.size w w')(hle:Mem.le c.h h')(hnew:∀p v,h' p=some v->c.h p=some v\/w.heap.size<=p.block)
  (hw':∀p v,h' p=some v->w'.cell? p=some v):aM E U ⟨h',c.loc,c.arr,c.Y⟩ a w':=by
 have hs:=hB.size;have none_of:∀b o,b<w.heap.size->c.h ⟨b,o,none⟩=none->h' ⟨b,o,none⟩=none:=by
  intro b o hlt hn;cases hh:h' ⟨b,o,none⟩<;>grind
 have hkeep:∀(D:Nat)(o:Obj),w.heap[D]?=some o->o.isCells=false->w'.heap[D]?=some o:=fun D o h _=>(hB.block D (dt.1 h).1).trans h
 refine⟨hb.below.trans (da.of (hB.mono hb.hB)),gc hb.hB hs,hb.nt,jW hb (fun _ _ h=>h) hkeep,jY hb (fun _ _ h=>h) hkeep,hw',Mem.le_trans hb.hle hle,?_,?_,?_,hb.used,?_,hb.fB,hb.fQ⟩
 ·intro p v hp;rcases hnew p v hp with h|h
  ·exact hb.hnew p v h
  exact .inr (.inl (gc hb.hB h))
 ·intro k b hk;obtain⟨h1,h2,h3,h4,h5⟩:=hb.loc k b hk;grind
 ·intro k m hv b hk hbk;obtain⟨h1,h2,h3,h4⟩:=hb.arr k m hv b hk hbk;grind
 intro b hy;obtain⟨h1,h2⟩:=hb.Y b hy;grind
def r7{w w':World}{B e sz:Nat}{hv:Value}{n:Nat}{vs:List Value}(h:w.ownsRow B e sz hv n vs)(hB:Below w.heap.size w w'):w'.ownsRow B e sz hv n vs:=by
 refine⟨h.1,h.2.imp id ?_⟩;rintro⟨g,cap,cur,h1,h2,h3,r⟩;exact⟨g,cap,cur,h1,h2,(hB.block g (dt.1 h3).1).trans h3,r⟩
def Holds.below{E:Env}{U:bc}{c c':Ctx}{a:Act}{w w':World}(hb:aM E U c a w)(hB:Below w.heap.size w w')(he:Ext c c')(harr:∀k m hv,c.arr k=some (m,hv,true)->c'.arr k=some (m,hv,true)){key:Nat}{x:X}
  (hY:c'.Y=c.Y) (hnew:∀p v,c'.h p=some v->c.h p=some v\/w.heap.size<=p.block) (hw':∀p v,c'.h p=some v->w'.cell? p=some v) (hk:¬key<1000) (h:Holds c a w key x):Holds c' a w' key x:=by
 unfold Holds at *;rw[Zm hk]at h⊢;refine cD h fun h=>?_
 split at h
 ·rename_i h2;rw[Zn h2];obtain⟨b,o,h1,h3,h4⟩:=h;exact⟨b,o,he.loc _ _ h1,(hB.block b (hb.loc _ _ h1).2.1).trans h3,h4.mono he⟩
 rename_i h2;rw[Zm h2];split at h
 ·rename_i h6;rw[Zn h6];obtain⟨sz,rows,hv,e,vs,hx,h1,h3,h4⟩:=h;exact⟨sz,rows,hv,e,vs,hx.mono he,harr _ _ _ h1,r7 h3 hB,h4⟩
 rename_i h6;rw[Zm h6];obtain⟨hk0,J,hx0,hJ,hJ2⟩:=h;refine⟨hk0,J,hx0.mono he.loc,hJ,?_⟩;rw[hY];exact hJ _ _ _ _ _ hJ2 he.h (fun p v e=>(hnew p v e).imp id fun h hy=>by have:=(hb.Y _ hy).1;omega) hw' (da.of (hB.mono (Zr _))) fun b hy=>hB.block b (hb.Y _ hy).1
def cX(w:World)(o:Obj):Below w.heap.size w (w.alloc o):=(Below.refl _ w).alloc (Zq _) o
inductive fE(s:St):List Operand->bi->St->Prop
 |nil:fE s [] [] []
 |cons {o:Operand} {os:List Operand} {y:X} {ys:bi} {r r':St}:bI s o y r->fE s os ys r'->fE s (o::os) (y::ys) (r++r')
def fE.looks{s:St}{os:List Operand}{ys:bi}{r:St}(h:fE s os ys r):Looks s r:=by
 induction h with
 |nil=>trivial
 |cons h _ ih=>exact h.looks.app ih
def fE.rep{s:St}{os:List Operand}{ys:bi}{r:St}(h:fE s os ys r){c:Ctx}{a:Act}{w:World}(hr:∀p∈r,Holds c a w p.1 p.2):ah (bK c) ys (os.map a.eval):=by
 induction h with
 |nil=>trivial
 |cons h _ ih=>exact⟨h.rep fun p hp=>hr p (dv _ hp),ih fun p hp=>hr p (fv _ hp)⟩
def fm(x:X):Bool:=okV [] x&&!cO x
def bY{c:Ctx}:∀{ys:bi}{vs:List Value},ah (bK c) ys vs->ys.all fm=true->ah (bt (aD c.h)) ys vs
 |[],[],_,_=>trivial
 |y::ys,v::vs,h,ho=>by
  simp only[ee,Zw,fm,lA]at ho;exact⟨((T.Ad h.1 ho.1.2).cut ho.1.1).mono (fx (Mem.le_refl _)),bY h.2 (by simp_all)⟩
 |[],_::_,h,_=>h.elim
 |_::_,[],h,_=>h.elim
def CH{h':Mem}{c:Ctx}:Ext (aD h') ⟨h',c.loc,c.arr,c.Y⟩:=⟨Mem.le_refl _,(fun _ _ e=>by cases e),(fun _ _ _ _ e=>by cases e)⟩
def step_call{E:Env}{all:Array Oper}{s r rg:St}{d ty f:Nat}{pos:String}{after:Array Edge}{guard:Option (Nat×Bool)}{fo:Operand}{os:List Operand}{at_:Array TypeId}{ys caps:bi}{res:X}
  (hg:Gd all s guard rg) (hd:cP E d=true) (hl:Looks s r) (hcall:∀args w,(callFunc f args).run E.P w=.ok (.enter f args) w) (hf:EK E f (ys++caps) res)
  (hargs:∀c a w,(∀p∈r,Holds c a w p.1 p.2)->ah (bt (aD c.h)) ys (os.map a.eval)/\∃cvs:List Value,a.eval fo=.func (.func f) #[] cvs.toArray/\ah (bt (aD c.h)) caps cvs):
  aW E all ⟨some d,.call {callee:=.value fo,args:=os.toArray,argTypes:=at_},ty,pos,after,guard⟩ s (rg++r) [(d,res)] []:=by
 simp only[Zw,db]at hd;refine⟨?_,hg.looks.app hl⟩;intro U c a w hb hr _ next Q hn
 have hw:=hg.wanted (o:=⟨some d,.call {callee:=.value fo,args:=os.toArray,argTypes:=at_},ty,pos,after,guard⟩) (fun p hp=>hr p (dv _ hp));obtain⟨ha,cvs,hfo,hc⟩:=hargs c a w fun p hp=>hr p (fv _ hp)
 unfold gh;rw[Zn hw];refine⟨fun _ _=>trivial,?_⟩;rw[Oper.semAt_eq _ _ _ fun cl he=>by cases he];have hrun:(execOp a.eval ⟨some d,.call {callee:=.value fo,args:=os.toArray,argTypes:=at_},ty,pos,after,guard⟩).run E.P w=.ok (.enter f (os.map a.eval++cvs).toArray) w:=by
  simp_all[execOp,resolve,Deferred.ofValue,invoke]
 rw[hrun];refine⟨Z,?_⟩;have hcalls:=hf c.h w (os.map a.eval++cvs) ⟨U,c,a,hb⟩ hb.hw (ha.append hc);have h1:CallsIn E.ac (0 - 1) E.P f (os.map a.eval++cvs).toArray w _:=(callsIn_wide (n:=0)).2 hcalls;refine h1.mono ?_;rintro e w' ⟨v,h',rfl,hB,hle,hnew,hw',hres⟩;have hdt:d<a.tmps.size:=by rw[hb.nt];exact hd.2
 have hext:Ext c ⟨h',c.loc,c.arr,c.Y⟩:=⟨hle,fun _ _ e=>e,fun _ m hv lv e=>⟨m,hv,lv,e,Zq _,fun _=>rfl⟩⟩;refine hn ⟨h',c.loc,c.arr,c.Y⟩ _ w' ((hb.below_grow hB hle hnew hw').put _ _) hext ?_ ?_
 ·intro p hp;simp only[df]at hp;subst hp;unfold Holds;rw[Zn hd.1,cE hdt];exact hres.mono CH
 intro key y hk hy;have hne:d≠key:=hk (d,res) F;by_cases h1:key<1000
 ·refine Holds.put ?_ hne v;unfold Holds at hy⊢;rw[Zn h1]at hy⊢;exact hy.mono hext
 exact(Holds.below hb hB hext (fun _ _ _ e=>e) rfl hnew hw' h1 hy).put hne v
section
variable{E:Env}{all:Array Oper}{s r r1 r2 r3 rg:St}{d ty:Nat}{pos:String}{after:Array Edge}{guard:Option (Nat×Bool)}{x y z:Operand}
def S.call{f:Nat}{os:List Operand}{at_:Array TypeId}{ys:bi}{res:X}(hf:Ct E.P f ys res)(hcall:∀args w,(callFunc f args).run E.P w=.ok (.enter f args) w)(hg:Gd all s guard rg)(hd:cP E d=true)
  (ha:fE s os ys r) (ho:ys.all fm=true):aW E all ⟨some d,.call {callee:=.value (.func f),args:=os.toArray,argTypes:=at_},ty,pos,after,guard⟩ s (rg++r) [(d,res)] []:=
 step_call (caps:=[]) hg hd ha.looks hcall (by simpa using hf.at) fun _ _ _ hr=>⟨bY (ha.rep hr) ho,[],rfl,Zo⟩
def S.dB{f:Nat}{os:List Operand}{at_:Array TypeId}{ys:bi}{res:X}(hf:gz E.P f ys res)(hT:gO E)(hcall:∀args w,(callFunc f args).run E.P w=.ok (.enter f args) w)(hg:Gd all s guard rg)(hd:cP E d=true)
  (ha:fE s os ys r) (ho:ys.all fm=true):aW E all ⟨some d,.call {callee:=.value (.func f),args:=os.toArray,argTypes:=at_},ty,pos,after,guard⟩ s (rg++r) [(d,res)] []:=
 step_call (caps:=[]) hg hd ha.looks hcall (by simpa using hf.at hT) fun _ _ _ hr=>⟨bY (ha.rep hr) ho,[],rfl,Zo⟩
def S.ij{f:Nat}{os:List Operand}{at_:Array TypeId}{ys caps:bi}{res:X}(hf:Ct E.P f (ys++caps) res)(hcall:∀args w,(callFunc f args).run E.P w=.ok (.enter f args) w)(hg:Gd all s guard rg)(hd:cP E d=true)
  (hx:bI s x (.fn f caps) r1) (ha:fE s os ys r) (ho:ys.all fm=true) (ho2:caps.all (mE [])=true) (ho3:caps.all (fun u=>!bR u)=true):
  aW E all ⟨some d,.call {callee:=.value x,args:=os.toArray,argTypes:=at_},ty,pos,after,guard⟩ s (rg++(r1++r)) [(d,res)] []:=
 step_call hg hd (hx.looks.app ha.looks) hcall hf.at fun c a w hr=>by
  refine⟨bY (ha.rep fun p hp=>hr p (fv _ hp)) ho,?_⟩;obtain⟨cvs,h1,h2⟩:=hx.rep (c:=c) (a:=a) (w:=w) fun p hp=>hr p (dv _ hp)
  refine⟨cvs,h1,?_⟩;have:∀{us:bi}{vs:List Value},ah (cq c) us vs->us.all (mE [])=true->us.all (fun u=>!bR u)=true->ah (bt (aD c.h)) us vs:=by
   intro us
   induction us with
   |nil=>intro vs h _ _;exact(ah.bJ h)▸trivial
   |cons u us ih=>
    intro vs h h1 h2;obtain⟨v,vs',rfl,hv,hvs⟩:=h.bD;simp only[ee,Zw,lA]at h1 h2;refine⟨?_,ih hvs h1.2 (by simpa using h2.2)⟩;have hp:=(hv.cut h1.1).mono (fx (Mem.le_refl c.h));have hn:=h2.1;cases u<;>first|exact hp|cases hn
  exact this h2 ho2 ho3
end
end Go.Ab
namespace Go.Ab
open Go.RowKit
def xG(du:TypeDesc):Prop:=(∃e,du=.slice e)\/du=.string
section
variable{P:Program}(w:World)
def qO(base t u ty e e0:Nat)(du:TypeDesc)(i:TypeInfo)(z:Value)(size bytes:Nat)(ht:P.underlying t=some (.slice e))(hu:P.underlying u=some du)(hdu:xG du)
  (hi:P.info? e=some i) (hz:i.zero=some z) (hsize:i.size=size) (hby:i.bytes=bytes) (hzs:z.cells.size=size)
  (v:Value) (n:Nat) (xs:List Value) (hown:w.ownsRow base e0 size v n xs) (x:Value) (m:Nat) (news:List Value) (hlen:∀w,(Builtin.lenOf x).run P w=.ok m w) (hl:news.length=m * size)
  (hf:∀w':World,(∀p,w'.cell? p=w.cell? p)->(Builtin.firstCells size m x).run P w'=.ok news.toArray w') (h1:∀q∈news,q.oneCell'=true)
  (h63:n+m<=maxLen) (hbytes:(n+m) * bytes<=140737488355328) (hbase:base<=w.heap.size):
  ∃v' w' e1,(Builtin.append_ #[t,u] ty #[v,x]).run P w=.ok v' w'/\w'.ownsRow base e1 size v' (n+m) (xs++news)/\w.grownBy w' v.ownBlock/\(v'.ownBlock=v.ownBlock\/(v'.ownBlock=some w.heap.size/\w.heap.size<w'.heap.size))/\(m=0->v'=v)/\∃a l c,v'=.slice a l c:=by
 subst hsize;subst hby;have hsmall:n+m<=9223372036854775807:=by simp_all[maxLen]
 have hlen2:(xs++news).length=(n+m) * i.size:=by rw[Zs,hown.1,hl,pa]
 have grown:∀(old:Nat),(w.drew.alloc (.cells (xs.toArray++news.toArray++Builtin.zeroCells z.cells (grownCap w (n+m) old e - (n+m))) e)).ownsRow base e i.size
   (.slice (some ⟨w.heap.size,0,none⟩) (n+m) (grownCap w (n+m) old e)) (n+m) (xs++news):=by
  intro old;have hge:=grownCap_ge w (n+m) old e;have hcm:grownCap w (n+m) old e<=maxLen:=grownCap_le_maxLen w (n+m) old e h63;refine⟨hlen2,.inr ⟨w.heap.size,_,_,rfl,hbase,heap_alloc_new w.drew _,hge,hcm,?_,?_⟩⟩
  ·simp only[Array.size_append,xc,size_zeroCells,hzs,hown.1,hl,←pa];simp_all
  grind
 have gby:∀(o:Obj)(row:Option Nat),w.grownBy (w.drew.alloc o) row:=fun o row=>⟨rfl,rfl,rfl,by simp,fun k hk _=>Below.heap_alloc w.drew o k hk⟩
 rcases hown.2 with⟨rfl,rfl⟩|⟨g,cap,cur,rfl,hbg,hg,hnc,hcm,hcs,qo⟩
 ·have hx:xs=[]:=ft (by simp_all);subst hx;by_cases hm:m=0
  ·subst hm;have hn:news=[]:=ft I;subst hn;refine⟨.slice none 0 0,w,e,?_,uf w base e i.size,⟨rfl,rfl,rfl,Zq _,fun _ _ _=>rfl⟩,.inl rfl,fun _=>rfl,none,0,0,rfl⟩;have:=hf w fun _=>rfl
   rcases hdu with⟨e',rfl⟩|rfl<;>simp[Builtin.append_,run_underlying ht,run_underlying hu,sizeOf,typeInfo,hi,hlen,this]
  have h63':¬(9223372036854775807<(m:Int)):=by omega
  have h48':¬(281474976710656<Builtin.nextslicecap m 0 * i.bytes):=by rw[nextslicecap_zero I];grind
  have hgr:=grown 0;simp only[gk,pt,Array.empty_append]at hgr⊢;refine⟨.slice (some ⟨w.heap.size,0,none⟩) m (grownCap w m 0 e),w.drew.alloc (.cells (news.toArray++Builtin.zeroCells z.cells (grownCap w m 0 e - m)) e),e,?_,hgr,gby _ _,.inr ⟨rfl,by simp⟩,fun h=>absurd h hm,_,_,_,rfl⟩;have hff:=hf w.drew fun _=>rfl
  rcases hdu with⟨e',rfl⟩|rfl<;>simp[Builtin.append_,run_underlying ht,run_underlying hu,sizeOf,typeInfo,zeroValue,hi,hz,hlen,hm,h63',h48',Question.forced,run_firstCells_none,hff,newRow,grownCap]
 by_cases hroom:n+m<=cap
 ·have hfit:n * i.size+news.length<=cur.size:=by rw[hl,hcs,←pa];exact li _ hroom
  have hff:=hf w fun _=>rfl
  have hst:=run_storeCells_at P g (n * i.size) e0 news 0 cur w hg I h1;simp only[po]at hst;refine⟨.slice (some ⟨g,0,none⟩) (n+m) cap,w.setRow g (cur.toList.take (n * i.size)++news++cur.toList.drop (n * i.size+news.length)).toArray,e0,?_,
   ⟨hlen2,.inr ⟨g,cap,_,rfl,hbg,setRow_heap w g cur _ e0 _ hg,hroom,hcm,?_,?_⟩⟩,⟨rfl,rfl,rfl,by simp,fun k _ hk=>setRow_other w g k _ (fun e=>hk (by simp[Value.ownBlock,e]))⟩,.inl rfl,(fun h=>by subst h;rfl),_,_,_,rfl⟩
  ·rcases hdu with⟨e',rfl⟩|rfl<;>simp[Builtin.append_,run_underlying ht,run_underlying hu,sizeOf,typeInfo,hi,hlen,hroom,hff,Addr.add_lit,hst]
  all_goals grind
 have holds:∀j u,xs[j]?=some u->w.cell? ((⟨g,0,none⟩:Addr).add j)=some u:=hown.cells (g:=g) rfl;have hn:¬(n+m<=cap):=hroom;have h63':¬(9223372036854775807<((n:Int)+(m:Int))):=by omega
 have h48:=growslice_fits (need:=n+m) (old:=cap) (bytes:=i.bytes) I hbytes;have h48':¬(281474976710656<Builtin.nextslicecap (n+m) cap * i.bytes):=by omega
 have hff:=hf w.drew fun _=>rfl
 have hfo:=run_firstCells_some (P:=P) w.drew i.size n ⟨g,0,none⟩ n cap xs hown.1 (by simp_all);refine⟨_,_,e,?_,grown cap,gby _ _,.inr ⟨rfl,by simp⟩,(fun h=>by omega),_,_,_,rfl⟩;rcases hdu with⟨e',rfl⟩|rfl<;>(simp[Builtin.append_,run_underlying ht,run_underlying hu,sizeOf,typeInfo,zeroValue,hi,hz,hlen,hn,h63',h48',Question.forced,hff,hfo,newRow,grownCap];grind)
end
def cg:X->bi
 |.agg xs=>xs
 |x=>[x]
def sQ:X->Bool
 |.any|.cf _|.agg _|.box _|.arr _ _|.di _ _ _|.cb _|.res _|.CI _ _|.omap _|.cM _ _ _ _|.rU _ _ _ _ _=>false
 |.raw v=>v.oneCell'
 |_=>true
def nX:X->Bool
 |.agg xs=>xs.all sQ
 |x=>sQ x
theorem qP{c:Ctx}{u:X}{v:Value}(h:aV c u v)(hu:sQ u=true):v.oneCell'=true:=by
 cases u with
 |int _ _=>cases h;rfl
 |bool _=>cases h;rfl
 |str _=>cases h;rfl
 |sl _=>cases h<;>rfl
 |b5 _=>cases h;rfl
 |fn f caps=>obtain⟨vs,rfl,_⟩:=h;rfl
 |ptr k off=>obtain⟨b,_,rfl⟩:=h;rfl
 |jt k=>obtain⟨b,_,rfl⟩:=h;rfl
 |slc rows=>obtain⟨_,a,rfl⟩:=h;rfl
 |own k n=>obtain⟨⟨a,l,cp,rfl⟩,_⟩:=h;rfl
 |raw u=>have:v=u:=h;subst this;exact hu
 |bO=>have:v=.slice none 0 0:=h;subst this;rfl
 |_=>cases hu
def gq{c:Ctx}{u:X}{v:Value}(h:bK c u v)(hu:nX u=true):ah (aV c) (cg u) v.cells.toList/\∀z∈v.cells.toList,z.oneCell'=true:=by
 have one:∀{c:Ctx}{xs:bi}{vs:List Value},ah (aV c) xs vs->xs.all sQ=true->∀z∈vs,z.oneCell'=true:=by
  intro c xs
  induction xs with
  |nil=>intro vs h _ z hz;rw[ah.bJ h]at hz;cases hz
  |cons x xs ih=>
   intro vs h ho z hz;obtain⟨v,vs',rfl,h1,h2⟩:=h.bD;simp only[ee,Zw]at ho;rcases ed.1 hz with rfl|hz
   all_goals grind [qP]
 cases u
 case agg xs=>obtain⟨vs,rfl,h2⟩:=h;exact⟨by grind [Value.cells,cg],by simpa[Value.cells]using one h2 hu⟩
 case cf xs=>cases hu
 all_goals
  simp only[bK,bt]at h;have ho:=qP h hu;have hc:v.cells= #[v]:=by cases v<;>first|rfl|cases ho
  rw[hc];exact⟨⟨h,Zo⟩,fun z hz=>by simp_all⟩
def Ctx.box(c:Ctx)(k b:Nat):Ctx:=⟨c.h,fun j=>if j=k then some b else c.loc j,c.arr,c.Y⟩
def aM.HP{E:Env}{U:bc}{c:Ctx}{a:Act}{w:World}(hb:aM E U c a w){k:Nat}(hk9:k∉E.fs)(hk:k∉U)(o0:Obj):
  aM E ([k]++U) (c.box k w.heap.size) a (w.alloc o0)/\Ext c (c.box k w.heap.size)/\(c.box k w.heap.size).loc k=some w.heap.size/\(w.alloc o0).heap[w.heap.size]?=some o0/\
   ∀key y,¬key<1000->Holds c a w key y->Holds (c.box k w.heap.size) a (w.alloc o0) key y:=by
 have hn:=(hb.used k hk).1;have hB:=cX w o0;have hg:=hb.below_grow hB (Mem.le_refl _) (fun p v e=>.inl e) fun p v e=>by
  have h1:=hb.hw p v e;have h2:p.block<w.heap.size:=block_lt_of_cell h1;rw[hB.cell h2];exact h1
 have hold:∀j b,c.loc j=some b->(c.box k w.heap.size).loc j=some b:=by
  grind [Ctx.box]
 have hext:Ext c (c.box k w.heap.size):=⟨Mem.le_refl _,hold,fun _ m hv lv e=>⟨m,hv,lv,e,Zq _,fun _=>rfl⟩⟩;have hnew:∀j b,(c.box k w.heap.size).loc j=some b->(j=k/\b=w.heap.size)\/(j≠k/\c.loc j=some b):=by
  grind [Ctx.box]
 have hnone:∀o,c.h ⟨w.heap.size,o,none⟩=none:=fun o=>by
  cases hh:c.h ⟨w.heap.size,o,none⟩with
  |none=>rfl
  |some v=>have:=block_lt_of_cell (hb.hw _ _ hh);simp at this
 have hall:∀b,b<w.heap.size->(c.box k w.heap.size).all b->c.all b:=by
  intro b hlt h;rcases h with h|⟨j,h⟩|h
  ·exact .inl h
  ·rcases hnew j b h with⟨_,rfl⟩|⟨_,h⟩
   ·omega
   exact .inr (.inl ⟨j,h⟩)
  exact .inr (.inr h)
 have hkp:∀(D:Nat)(o:Obj),w.heap[D]?=some o->o.isCells=false->(w.alloc o0).heap[D]?=some o:=fun D o h _=>(hB.block D (dt.1 h).1).trans h
 have hlo:∀j,j∈E.fs->(c.box k w.heap.size).loc j=c.loc j:=fun j hj=>by simp only[Ctx.box];grind
 refine⟨⟨hg.below,hg.hB,hg.nt,jW hb hall hkp,jY hb hall hkp,hg.hw,hg.hle,hg.hnew,?_,?_,?_,?_,fun j b hj e=>hb.fB j b hj (hlo j hj▸e),hb.fQ⟩,hext,by simp[Ctx.box],heap_alloc_new w _,fun key y hkey hy=>Holds.below hb hB hext (fun _ _ _ e=>e) rfl (fun _ _ e=>.inl e) hg.hw hkey hy⟩
 ·intro j b hj;rcases hnew j b hj with⟨rfl,rfl⟩|⟨hne,hj2⟩
  ·refine⟨.inl hb.hB,by simp,hnone,fun k' hk'=>?_,fun k' m hv hk' he=>?_⟩
   ·rcases hnew k' _ hk' with⟨rfl,_⟩|⟨_,hk'⟩
    ·rfl
    have:=(hb.loc k' _ hk').2.1;omega
   have:=(hb.arr k' m hv _ hk' he).2.1;omega
  obtain⟨h1,h2,h3,h4,h5⟩:=hg.loc j b hj2;refine⟨h1,h2,h3,fun k' hk'=>?_,h5⟩;rcases hnew k' _ hk' with⟨rfl,rfl⟩|⟨_,hk'⟩
  ·have:=(hb.loc j _ hj2).2.1;omega
  simp_all
 ·exact hg.arr
 ·intro j hj;simp only[List.mem_append,df,FS]at hj;refine⟨?_,(hb.used j hj.2).2⟩;simp only[Ctx.box];rw[Zm hj.1];exact(hb.used j hj.2).1
 intro b hy;obtain⟨h1,h2,h3,h4⟩:=hb.Y b hy;refine⟨by simp;omega,h2,fun j hj=>?_,h4⟩;grind
def aM.box{E:Env}{U:bc}{c:Ctx}{a:Act}{w:World}(hb:aM E U c a w){k:Nat}(hk9:k∉E.fs)(hk:k∉U)(vs:Array Value)(T:TypeId):
 aM E ([k]++U) (c.box k w.heap.size) a (w.alloc (.cells vs T))/\Ext c (c.box k w.heap.size)/\(c.box k w.heap.size).loc k=some w.heap.size/\(w.alloc (.cells vs T)).heap[w.heap.size]?=some (.cells vs T (0,0))/\
  ∀key y,¬key<1000->Holds c a w key y->Holds (c.box k w.heap.size) a (w.alloc (.cells vs T)) key y:=hb.HP hk9 hk _
structure pN(P:Program)(T:TypeId)(zx:bi):Prop where
 ex:∃z:Value,(∀w,(zeroValue T).run P w=.ok z w)/\z.cells.toList.map Cs=zx/\z.cells.toList.all qF=true
theorem Holds.sD{c:Ctx}{a:Act}{w:World}{k b:Nat}{T:TypeId}{vs:Array Value}{us:bi}(hk:k<1000)(h1:c.loc k=some b)(h2:w.heap[b]?=some (.cells vs T (0,0)))(h3:ah (aV c) us vs.toList):
  ¬(1000+k<1000)/\Holds c a w (1000+k) (.box us):=by
 refine⟨by omega,?_⟩;unfold Holds;rw[Zm I,Zn I,mf];exact .inr ⟨b,_,h1,h2,T,vs,rfl,h3⟩
section
variable{E:Env}{all:Array Oper}{s r r1 r2 r3 rg:St}{d ty:Nat}{pos:String}{after:Array Edge}{guard:Option (Nat×Bool)}{x y z:Operand}
def S.alloc{T k:Nat}{zx:List X}(hz:pN E.P T zx)(hk:Nat.blt k 1000=true)(hg:Gd all s guard rg)(hd:(Nat.blt d 1000&&Nat.blt d E.nt)=true)(hk9:E.fs.contains k=false:=by rfl):
  aW E all ⟨some d,.alloc T,ty,pos,after,guard⟩ s (rg++[]) ((d,.ptr k 0)::[(1000+k,.box zx)]) [k]:=
 aW.mk hg hd rfl trivial fun U c a w hb _ hal=>by
  rw[db]at hk;obtain⟨zv,h1,h2,h3⟩:=hz.ex;have hkU:k∉U:=hal k F;obtain⟨g1,g2,g3,g4,g5⟩:=hb.box (nQ hk9) hkU zv.cells T;refine⟨.pointer (some ⟨w.heap.size,0,none⟩),_,w.alloc (.cells zv.cells T),?_,g1,g2,⟨w.heap.size,g3,rfl⟩,?_,?_⟩
  ·simp[execOp,Instr.alloc,h1,newVar,newRow]
  all_goals grind [Holds.sD,mW]
def S.box{T k:Nat}{u:X}(hk:Nat.blt k 1000=true)(hg:Gd all s guard rg)(hd:(Nat.blt d 1000&&Nat.blt d E.nt)=true)(hx:bI s x u r)(hu:nX u=true)(hk9:E.fs.contains k=false:=by rfl):
  aW E all ⟨some d,.box T x,ty,pos,after,guard⟩ s (rg++r) ((d,.ptr k 0)::[(1000+k,.box (cg u))]) [k]:=
 aW.mk hg hd rfl hx.looks fun U c a w hb hr hal=>by
  rw[db]at hk;have hkU:k∉U:=hal k F;have hv:=(gq (hx.rep (c:=c) (a:=a) (w:=w) hr) hu).1;obtain⟨g1,g2,g3,g4,g5⟩:=hb.box (nQ hk9) hkU (a.eval x).cells T;refine⟨.pointer (some ⟨w.heap.size,0,none⟩),_,w.alloc (.cells (a.eval x).cells T),?_,g1,g2,⟨w.heap.size,g3,rfl⟩,?_,?_⟩
  ·rfl
  ·intro p hp;simp only[df]at hp;subst hp;exact Holds.sD I g3 g4 (hv.mono fun _ _=>aV.mono g2)
  simp_all
def aW.IZ{wr:St}{op:Op}(hg:Gd all s guard rg)(hdef:mX op=false)(hl:Looks s r)
  (h:∀(U:bc)(c:Ctx)(a:Act)(w:World),aM E U c a w->(∀p∈r,Holds c a w p.1 p.2)->∃w',(execOp a.eval ⟨none,op,ty,pos,after,guard⟩).run E.P w=.ok .skip w'/\aM E U c a w'/\
   (∀p∈wr,¬p.1<1000/\Holds c a w' p.1 p.2)/\(∀key y,¬key<1000->(∀p∈wr,p.1≠key)->Holds c a w key y->Holds c a w' key y)):aW E all ⟨none,op,ty,pos,after,guard⟩ s (rg++r) wr []:=by
 refine⟨?_,hg.looks.app hl⟩;intro U c a w hb hr hal next Q hn
 obtain⟨w',hrun,hb',hwr,hfr⟩:=h U c a w hb (fun p hp=>hr p (fv _ hp));have hw:=hg.wanted (o:=⟨none,op,ty,pos,after,guard⟩) (fun p hp=>hr p (dv _ hp));unfold gh;rw[Zn hw];refine⟨fun _ _=>trivial,?_⟩;rw[Oper.semAt_eq _ _ _ (fun cl he=>by simp only at he;rw[he]at hdef;cases hdef),hrun];refine hn c a w' hb' (Ext.refl c) (fun p hp=>(hwr p hp).2) fun key y hk hy=>?_
 by_cases h1:key<1000
 ·unfold Holds at hy⊢;simp_all
 grind
def S.store{T n k off:Nat}{ag:Bool}{u:X}{us us':bi}(ht:eT E.P T ag n)(hg:Gd all s guard rg)(hx:bI s x (.ptr k off) r1)(hy:bI s y u r2)(hk:Nat.blt k 1000=true)(hb:look s (1000+k)=some (.box us))
  (hu:nX u=true) (hn:(cg u).length=n) (hfit:Nat.ble (off+n) us.length=true) (hus:us.take off++(cg u++us.drop (off+n))=us'):
  aW E all ⟨none,.store T x y,ty,pos,after,guard⟩ s (rg++(r1++(r2++[(1000+k,.box us)]))) [(1000+k,.box us')] []:=
 aW.IZ hg rfl (hx.looks.app (hy.looks.app ⟨hb,Zo⟩)) fun U c a w hbase hr=>by
  rw[db]at hk;rw[ii]at hfit;subst hus;obtain⟨b,h1,hv⟩:=iB (hx.rep (c:=c) (a:=a) (w:=w) fun p hp=>hr p (by simp[hp]));obtain⟨b',T',vs,h2,h3,h4⟩:=fD (hr (1000+k,.box us) F) hk;rw[h1]at h2;cases h2;obtain⟨hc,ho⟩:=gq (hy.rep (c:=c) (a:=a) (w:=w) fun p hp=>hr p (by simp[hp])) hu;have hl:=h4.length;have hcl:=hc.length;have hvl:vs.toList.length=vs.size:=by simp
  have hcs:(a.eval y).cells.size=n:=by rw[←hn,hcl];simp
  have hst:=run_storeCells_at E.P b off T' (a.eval y).cells.toList 0 vs w h3 (by simp;omega) ho;simp only[po]at hst;obtain⟨q1,q2,q3,q4,q5⟩:=hbase.loc k b h1;have hw2:∀p v,c.h p=some v->(w.setRow b (vs.toList.take off++(a.eval y).cells.toList++vs.toList.drop (off+(a.eval y).cells.toList.length)).toArray).cell? p=some v:=by
   intro p v hp;have hne:p.block≠b:=fun e=>by
    have h5:=hbase.hw p v hp;have hsp:p.spot=none:=by
     cases hsp:p.spot with
     |none=>rfl
     |some q=>simp only[World.cell?,hsp]at h5;split at h5<;>simp at h5
    have h6:=q3 p.off;have:p=⟨b,p.off,none⟩:=by cases p;simp at e hsp;subst e hsp;rfl
    rw[←this,hp]at h6;cases h6
   rw[cell_setRow_other w b _ p hne];exact hbase.hw p v hp
  have hkeep:∀(D:Nat)(o:Obj),w.heap[D]?=some o->o.isCells=false->(w.setRow b (vs.toList.take off++(a.eval y).cells.toList++vs.toList.drop (off+(a.eval y).cells.toList.length)).toArray).heap[D]?=some o:=fun D o hD ho=>by
   rw[setRow_other w b D _ (fun e=>by rw[e,h3]at hD;cases hD;cases ho)];exact hD
  refine⟨w.setRow b (vs.toList.take off++(a.eval y).cells.toList++vs.toList.drop (off+(a.eval y).cells.toList.length)).toArray,?_,⟨?_,by simpa using hbase.hB,hbase.nt,jW hbase (fun _ _ h=>h) hkeep,jY hbase (fun _ _ h=>h) hkeep,hw2,hbase.hle,hbase.hnew,?_,?_,hbase.used,fun b2 hy=>by simpa using hbase.Y b2 hy,hbase.fB,hbase.fQ⟩,?_,?_⟩
  ·simp[execOp,hv,Instr.storeAt,Instr.sureAddr,storeVar,ht.size,hcs,hst]
  ·exact hbase.below.trans ⟨rfl,rfl,rfl,by simp,fun j hj hx=>setRow_other w b j _ (Env.js q1 hj hx)⟩
  ·intro j b2 hj;obtain⟨p1,p2,p3⟩:=hbase.loc j b2 hj;exact⟨p1,by simpa using p2,p3⟩
  ·intro j m hv b2 hj hb2;obtain⟨p1,p2,p3⟩:=hbase.arr j m hv b2 hj hb2;exact⟨p1,by simpa using p2,p3⟩
  ·intro p hp;simp only[df]at hp;subst hp;refine Holds.sD hk h1 (setRow_heap w b vs _ T' _ h3) ?_;have hnn:(a.eval y).cells.toList.length=n:=by rw[←hcl,hn]
   rw[hnn];simp only[lO];exact(h4.take off).append (hc.append (h4.drop (off+n)))
  intro key u2 hkey hne hu2;have hne2:key≠1000+k:=fun e=>hne _ (df.2 rfl) e.symm
  unfold Holds at hu2⊢;rw[Zm hkey]at hu2⊢;refine cD hu2 fun hu2=>?_
  split at hu2
  ·rename_i hlt;rw[Zn hlt];obtain⟨b2,o2,e1,e2,e3⟩:=hu2;refine⟨b2,o2,e1,?_,e3⟩;have:b2≠b:=fun e=>by subst e;have:=q4 _ e1;omega
   rw[setRow_other w b b2 _ this];exact e2
  rename_i hlt;rw[Zm hlt];split at hu2
  ·rename_i hlt2;rw[Zn hlt2];obtain⟨sz,rows,hv2,e,vs2,hx,e1,e2,e3⟩:=hu2;refine⟨sz,rows,hv2,e,vs2,hx,e1,⟨e2.1,e2.2.imp id ?_⟩,e3⟩;rintro⟨g,cap,cur,f1,f2,f3,f4⟩;refine⟨g,cap,cur,f1,f2,?_,f4⟩;have:g≠b:=fun e=>q5 _ _ _ e1 (by rw[f1,←e];rfl)
   rw[setRow_other w b g _ this];exact f3
  rename_i hlt2;rw[Zm hlt2];obtain⟨hk0,J,hx0,hJ,hJ2⟩:=hu2;refine⟨hk0,J,hx0,hJ,hJ _ _ _ _ _ hJ2 (Mem.le_refl _) (fun _ _ e=>.inl e) hw2 ⟨rfl,rfl,rfl,by simp,fun j hj=>by omega⟩ fun b2 hy=>setRow_other w b b2 _ fun e=>?_⟩;subst e;exact(hbase.Y _ hy).2.2.1 k h1
end
end Go.Ab
namespace Go.Ab
open Go.RowKit
def y6(off:Nat):bi->bi->bi
 |[],cs=>cs
 |x::xs,cs=>y6 (off+1) xs (cs.set off x)
def oS(pl:Nat->Option (Nat×Nat))(cs:bi):List (Nat×X)->Option bi
 |[]=>some cs
 |(i,x)::rest=>match pl i with
  |none=>none
  |some (off,size)=>if Nat.beq (cg x).length size&&Nat.ble (off+size) cs.length then oS pl (y6 off (cg x) cs) rest else none
def th{R:X->Value->Prop}:∀(off j0:Nat){xs:bi}{vs:List Value}{cs:bi}{cells:Array Value},ah R xs vs->ah R cs cells.toList->
  ah R (y6 (off+j0) xs cs) ((vs.zipIdx j0).foldl (fun cs (p:Value×Nat)=>cs.setIfInBounds (off+p.2) p.1) cells).toList
 |_,_,[],[],_,_,_,h=>h
 |off,j0,x::xs,v::vs,cs,cells,h,hc=>by
  simp only[y6,List.zipIdx_cons,pf];have:=th off (j0+1) (cs:=cs.set (off+j0) x) (cells:=cells.setIfInBounds (off+j0) v) h.2 (by simpa using ah.set h.1 (off+j0) hc);omega
 |_,_,[],_::_,_,_,h,_=>h.elim
 |_,_,_::_,[],_,_,h,_=>h.elim
def jh{c:Ctx}(pl:Nat->Option (Nat×Nat)):∀(ps:List (Nat×X))(vs:List (Nat×Value))(cs:bi)(cells:Array Value)(out:bi),ah (aV c) cs cells.toList->
  ah (fun p q=>p.1=q.1/\ah (aV c) (cg p.2) q.2.cells.toList) ps vs->oS pl cs ps=some out->∃cells',Instr.fill pl cells vs=some cells'/\ah (aV c) out cells'.toList
 |[],[],cs,cells,out,h,_,hf=>by simp only[oS,ra]at hf;subst hf;exact⟨cells,rfl,h⟩
 |(i,x)::ps,(j,v)::vs,cs,cells,out,h,hp,hf=>by
  obtain⟨⟨h1,h2⟩,h3⟩:=hp;simp only at h1;subst h1;simp only[oS]at hf;simp only[Instr.fill];cases hpl:pl i with
  |none=>simp_all
  |some os=>
   obtain⟨off,size⟩:=os;simp only[hpl]at hf⊢;have hl:=h2.length;have hc:=h.length;simp only[Array.length_toList]at hl hc;split at hf
   ·rename_i hb;simp only[Zw,ii]at hb;have hs:=Nat.eq_of_beq_eq_true hb.1;rw[Zm (by simp;omega)];have hset:=th off 0 h2 h;rw[po]at hset;refine jh pl ps vs _ _ out ?_ h3 hf;grind [Array.toList_zipIdx]
   cases hf
 |[],_::_,_,_,_,_,h,_=>h.elim
 |_::_,[],_,_,_,_,h,_=>h.elim
structure nL(P:Program)(T:TypeId)(zs:List Value)(pl:Nat->Option (Nat×Nat)):Prop where
 ex:∀parts,P.built T parts=Instr.fill pl zs.toArray parts
def kW{c:Ctx}{f:Operand→Value}:∀{ps:List (Nat×Operand)}{us:List X},ah (bK c) us ((ps.map (·.2)).map f)→us.all nX=true→
  ah (fun p q=>p.1=q.1/\ah (aV c) (cg p.2) q.2.cells.toList) ((ps.map (·.1)).zip us) (ps.map fun(i,x)=>(i,f x))
 |[],[],_,_=>trivial
 |(i,x)::ps,u::us,h,ho=>by
  simp only[ee,Zw]at ho;exact⟨⟨rfl,(gq h.1 ho.1).1⟩,kW h.2 ho.2⟩
 |[],_::_,h,_=>h.elim
 |_::_,[],h,_=>h.elim
section
variable{E:Env}{all:Array Oper}{s r r1 r2 r3 rg:St}{d ty:Nat}{pos:String}{after:Array Edge}{guard:Option (Nat×Bool)}{x y z:Operand}
def S.build{T:Nat}{zs:List Value}{pl:Nat->Option (Nat×Nat)}{ps:List (Nat×Operand)}{us out:bi}(hB:nL E.P T zs pl)(hz:zs.all qF=true)(hg:Gd all s guard rg)(hd:cP E d=true)
  (hx:fE s (ps.map (·.2)) us r) (hu:us.all nX=true) (hf:oS pl (zs.map Cs) ((ps.map (·.1)).zip us)=some out):
  aW E all ⟨some d,.build T ps.toArray,ty,pos,after,guard⟩ s (rg++r) [(d,.agg out)] []:=
 aW.val hg hd rfl hx.looks fun c A w hh hr=>by
  obtain⟨cells,h1,h2⟩:=jh (c:=c) pl _ _ _ zs.toArray out (by simpa using mW hz) (kW (hx.rep (c:=c) (a:=A) (w:=w) hr) hu) hf;refine⟨.agg cells,?_,cells.toList,by simp,h2⟩;have:=run_build (P:=E.P) w T (ps.map fun(i,x)=>(i,A.eval x)).toArray cells (by rw[hB.ex];exact h1);simp only[execOp];simp[this]
def Ctx.own(c:Ctx)(k n:Nat)(v:Value)(lv:Bool):Ctx:=⟨c.h,c.loc,fun j=>if j=k then some (n,v,lv)else c.arr j,c.Y⟩
structure lV(P:Program)(t e sz bytes:Nat):Prop where
 mD:P.underlying t=some (.slice e)
 ex:∃i z,P.info? e=some i/\i.zero=some z/\i.size=sz/\i.bytes=bytes/\z.cells.size=sz
 pos:0<sz
 run:(∀w,(sizeOf e).run P w=.ok sz w)/\∃z,(∀w,(zeroValue e).run P w=.ok z w)/\z.cells.size=sz
def aM.lQ{E:Env}{U:bc}{c:Ctx}{a:Act}{w w':World}(hb:aM E U c a w){k:Nat}(hk9:k∉E.fs)(hk:k∉U){n:Nat}{v:Value}(hB:Below w.heap.size w w')(hv:v.ownBlock=none\/(v.ownBlock=some w.heap.size/\w.heap.size<w'.heap.size)):
  aM E ([k]++U) (c.own k n v true) a w'/\Ext c (c.own k n v true)/\(c.own k n v true).arr k=some (n,v,true)/\
   ∀key y,¬key<1000->Holds c a w key y->Holds (c.own k n v true) a w' key y:=by
 have hn:=(hb.used k hk).2;have hg:=hb.below_grow hB (Mem.le_refl _) (fun p v e=>.inl e) fun p v e=>by
  have h1:=hb.hw p v e;have h2:p.block<w.heap.size:=block_lt_of_cell h1;rw[hB.cell h2];exact h1
 have hold:∀j q,c.arr j=some q->(c.own k n v true).arr j=some q:=by
  grind [Ctx.own]
 have hext:Ext c (c.own k n v true):=⟨Mem.le_refl _,fun _ _ e=>e,fun j m hv lv e=>⟨m,hv,lv,hold _ _ e,Zq _,fun _=>rfl⟩⟩;have hnew:∀j m u,(c.own k n v true).arr j=some (m,u,true)->(j=k/\u=v)\/(j≠k/\c.arr j=some (m,u,true)):=by
  grind [Ctx.own]
 have hnone:∀o,c.h ⟨w.heap.size,o,none⟩=none:=fun o=>by
  cases hh:c.h ⟨w.heap.size,o,none⟩with
  |none=>rfl
  |some v=>have:=block_lt_of_cell (hb.hw _ _ hh);simp at this
 have hvb:∀b,v.ownBlock=some b->b=w.heap.size/\b<w'.heap.size:=by
  grind
 have hlo:∀j,j∈E.fs->(c.own k n v true).arr j=c.arr j:=fun j hj=>by simp only[Ctx.own];grind
 have hall:∀b,b<w.heap.size->(c.own k n v true).all b->c.all b:=by
  intro b hlt h;rcases h with h|h|⟨j,m,u,h,h2⟩
  ·exact .inl h
  ·exact .inr (.inl h)
  grind [Ctx.all]
 have hkp:∀(D:Nat)(o:Obj),w.heap[D]?=some o->o.isCells=false->w'.heap[D]?=some o:=fun D o h _=>(hB.block D (dt.1 h).1).trans h
 refine⟨⟨hg.below,hg.hB,hg.nt,jW hb hall hkp,jY hb hall hkp,hg.hw,hg.hle,hg.hnew,?_,?_,?_,?_,hb.fB,fun j m u lv hj e=>hb.fQ j m u lv hj (hlo j hj▸e)⟩,hext,by simp[Ctx.own],fun key y hkey hy=>Holds.below hb hB hext (fun _ _ _ e=>hold _ _ e) rfl (fun _ _ e=>.inl e) hg.hw hkey hy⟩
 ·intro j b hj;obtain⟨h1,h2,h3,h4,h5⟩:=hg.loc j b hj;refine⟨h1,h2,h3,h4,fun k' m u hk'=>?_⟩;rcases hnew k' m u hk' with⟨rfl,rfl⟩|⟨_,hk'⟩
  ·intro e;have:=(hvb b e).1;have:=(hb.loc j b hj).2.1;omega
  grind
 ·intro j m u b hj hbk;rcases hnew j m u hj with⟨rfl,rfl⟩|⟨hne,hj2⟩
  ·obtain⟨rfl,hlt⟩:=hvb b hbk;refine⟨.inl hb.hB,hlt,hnone,fun k' m' u' hk' hb'=>?_⟩;rcases hnew k' m' u' hk' with⟨rfl,_⟩|⟨_,hk'⟩
   ·rfl
   have:=(hb.arr k' m' u' _ hk' hb').2.1;omega
  obtain⟨h1,h2,h3,h4⟩:=hg.arr j m u b hj2 hbk;refine⟨h1,h2,h3,fun k' m' u' hk' hb'=>?_⟩;rcases hnew k' m' u' hk' with⟨rfl,rfl⟩|⟨_,hk'⟩
  ·have h6:=(hvb b hb').1;have:=(hb.arr j m u b hj2 hbk).2.1;omega
  grind
 ·intro j hj;simp only[List.mem_append,df,FS]at hj;refine⟨(hb.used j hj.2).1,?_⟩;simp only[Ctx.own];rw[Zm hj.1];exact(hb.used j hj.2).2
 intro b hy;obtain⟨h1,h2,h3,h4⟩:=hb.Y b hy;refine⟨dl h1 hB.size,h2,h3,fun j m u hj e=>?_⟩;grind
def Holds.lB{c:Ctx}{a:Act}{w:World}{k sz e:Nat}{hv:Value}{vs:List Value}{rows:List bi}(hk:k<1000)(h1:c.arr k=some (rows.length,hv,true))(h2:w.ownsRow 0 e sz hv rows.length vs)
  (h3:∀q∈rows,q.length=sz) (h4:ah (ay c.h) rows.flatten vs):¬(2000+k<1000)/\Holds c a w (2000+k) (.arr sz rows):=by
 refine⟨by omega,?_⟩;unfold Holds;rw[Zm I,Zm I,Zn I,mf];exact .inr ⟨sz,rows,hv,e,vs,⟨rfl,rfl,h4⟩,h1,h2,h3⟩
def S.iI{k sz:Nat}(hg:Gd all s guard rg)(hd:(Nat.blt d 1000&&Nat.blt d E.nt)=true)(hk9:E.fs.contains k=false:=by rfl)(hk1:Nat.blt k 1000=true:=by rfl):
  aW E all ⟨some d,.assign (.const (.slice none 0 0)),ty,pos,after,guard⟩ s (rg++[]) ((d,.own k 0)::[(2000+k,.arr sz [])]) [k]:=
 aW.mk hg hd rfl trivial fun U c a w hb _ hal=>by
  rw[db]at hk1;have hkU:k∉U:=hal k F;obtain⟨g1,g2,g3,g4⟩:=hb.lQ (nQ hk9) hkU (n:=0) (v:=.slice none 0 0) (Below.refl _ w) (.inl rfl);refine⟨.slice none 0 0,_,w,rfl,g1,g2,⟨⟨none,0,0,rfl⟩,0,_,_,g3,Zq _,fun _=>rfl⟩,?_,fun key u hkey _ hu=>g4 key u hkey hu⟩;intro p hp;simp only[df]at hp;subst hp;exact Holds.lB (e:=0) (rows:=[]) (vs:=[]) I g3 (uf w _ 0 sz) (fun _ h=>by cases h) trivial
def S.mkSlice{t e sz bytes n k:Nat}{ps:List (Nat×Operand)}{us:bi}{rows:List bi}(hA:lV E.P t e sz bytes)(hg:Gd all s guard rg)(hd:cP E d=true)
  (hx:fE s (ps.map (·.2)) us r) (hu:us.all nX=true) (_hrows:us.map cg=rows) (hf:oS (fun i=>some (i * sz,sz)) (List.replicate (n * sz) .any) ((ps.map (·.1)).zip us)=some rows.flatten)
  (hr:rows.all (fun q=>Nat.beq q.length sz)=true) (hn:rows.length=n) (hD:rows.flatten.all yG=true) (hbig:Nat.ble (n * sz) 16777216=true) (hk9:E.fs.contains k=false:=by rfl) (hk1:Nat.blt k 1000=true:=by rfl):
  aW E all ⟨some d,.buildSlice t n ps.toArray,ty,pos,after,guard⟩ s (rg++r) ((d,.own k n)::[(2000+k,.arr sz rows)]) [k]:=
 aW.mk hg hd rfl hx.looks fun U c a w hb hrr hal=>by
  clear _hrows;rw[ii]at hbig;rw[db]at hk1;have hkU:k∉U:=hal k F;have hrow:∀q∈rows,q.length=sz:=fun q hq=>Nat.eq_of_beq_eq_true ((dj.1 hr) q hq)
  have hfl:rows.flatten.length=n * sz:=by rw[bg hrow,hn]
  obtain⟨hsz,zv,hz,hzs⟩:=hA.run;have hbase:∀(q:Array Value),q.size=n * sz->ah (aV c) (List.replicate (n * sz) .any) q.toList:=fun q hq=>ah.fb (by simp[hq]) fun i u v hu _=>by
   simp only[tz]at hu;split at hu
   ·cases hu;exact trivial
   cases hu
  obtain⟨cells,h1,h2⟩:=jh (c:=c) (fun i=>some (i * sz,sz)) _ _ _ (((Array.range (n * sz)).map fun i=>(if n * sz=0 then #[]else zv.cells)[i % (if n * sz=0 then #[]else zv.cells).size]!)) rows.flatten (hbase _ F) (kW (hx.rep (c:=c) (a:=a) (w:=w) hrr) hu) hf;have hcs:cells.size=n * sz:=by have:=h2.length;rw[hfl]at this;simpa using this.symm
  have hB:=cX w (.cells cells e);obtain⟨g1,g2,g3,g4⟩:=hb.lQ (nQ hk9) hkU (n:=n) (v:=.slice (some ⟨w.heap.size,0,none⟩) n n) hB (.inr ⟨rfl,by simp⟩);refine⟨.slice (some ⟨w.heap.size,0,none⟩) n n,_,w.alloc (.cells cells e),?_,g1,g2,⟨⟨_,_,_,rfl⟩,n,_,_,g3,Zq _,fun _=>rfl⟩,?_,fun key u hkey _ hu=>g4 key u hkey hu⟩
  ·have hnb:¬(n * sz>2 ^ 24):=by omega
   simp only[execOp,Instr.buildSlice,Sem.run_bind,run_underlying hA.mD,Result.andThen_ok,hsz,hnb,if_false];by_cases h0:n * sz=0
   ·simp only[h0,if_true]at h1;simp at h1;simp[h0,h1,newRow]
   simp only[h0,if_false]at h1;simp[h0,hz,h1,newRow]
  intro p hp;simp only[df]at hp;subst hp;refine Holds.lB (e:=e) (vs:=cells.toList) I (by rw[hn];exact g3) ⟨by simp[hcs,hn],.inr ⟨w.heap.size,n,cells,by rw[hn],Zr _,heap_alloc_new w _,by omega,?_,hcs,?_⟩⟩ hrow (lF (h2.mono fun _ _=>aV.mono g2) hD)
  ·have:=hA.pos;have:n<=n * sz:=AN n this;unfold maxLen;omega
  rw[hn,eK (by simp[hcs])]
