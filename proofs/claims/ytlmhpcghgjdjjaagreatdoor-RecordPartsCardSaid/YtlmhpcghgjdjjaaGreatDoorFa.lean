import Derived.Test.YtlmhpcghgjdjjaaGreatDoorHw
import Derived.CallsIn
import Derived.IntWalk
import Derived.Laws.AppendOwn
import Derived.Lib.ItoaNum
import Derived.MapKept
import Derived.OrdersIn
import Derived.RangeFuncLeaves
import Derived.RangeFuncOwn
import Derived.WalkKit
set_option linter.all false
open List renaming length->R
namespace Go.Ab
open Go.RowKit
abbrev Mem:=Addr->Option Value
inductive X where
 |int (k:IntKind) (n:Int)
 |bool (b:Bool)
 |str (s:ba)
 |sl (rows:List (List X))
 |b5 (cells:List X)
 |fn (f:Nat) (caps:List X)
 |agg (xs:List X)
 |cf (xs:List X)
 |ptr (k off:Nat)
 |own (k n:Nat)
 |box (cells:List X)
 |arr (sz:Nat) (rows:List (List X))
 |raw (v:Value)
 |bO
 |any
 |di (k n off:Nat)
 |cb (Φ:Value->Prop)
 |res (J:Mem->(Nat->Prop)->World->Prop)
 |CI (k:Nat) (Jb:Nat->Mem->(Nat->Prop)->World->Prop)
 |omap (es:List (X×X))
 |jt (k:Nat)
 |rU (k n sz lo hi:Nat)
 |slc (rows:List (List X))
 |cM (sz:Nat) (pre:List (List X)) (mid:List X) (post:List (List X))
def cD{a b c:Prop}(h:a\/b)(f:b->c):a\/c:=by grind
def ah{α β:Type}(R:α->β->Prop):List α->List β->Prop
 |[],[]=>True
 |a::as0,b::bs=>R a b/\ah R as0 bs
 |_,_=>False
section all2
variable{α β:Type}{R R':α->β->Prop}
def ah.length:∀{as0:List α}{bs:List β},ah R as0 bs->as0.length=bs.length
 |[],[],_=>rfl
 |_::_,_::_,h=>by simp[ah.length h.2]
 |[],_::_,h=>h.elim
 |_::_,[],h=>h.elim
def ah.mono(c:∀a b,R a b->R' a b):∀{as0:List α}{bs:List β},ah R as0 bs->ah R' as0 bs
 |[],[],_=>trivial
 |_::_,_::_,h=>⟨c _ _ h.1,ah.mono c h.2⟩
 |[],_::_,h=>h.elim
 |_::_,[],h=>h.elim
def ah.append:∀{as0 as':List α}{bs bs':List β},ah R as0 bs->ah R as' bs'->ah R (as0++as') (bs++bs')
 |[],_,[],_,_,h'=>h'
 |_::_,_,_::_,_,h,h'=>⟨h.1,ah.append h.2 h'⟩
 |[],_,_::_,_,h,_=>h.elim
 |_::_,_,[],_,h,_=>h.elim
def ah.get:∀{as0:List α}{bs:List β},ah R as0 bs->∀{i:Nat}{a:α}{b:β},as0[i]?=some a->bs[i]?=some b->R a b
 |[],[],_,i,a,b,ha,_=>by simp at ha
 |x::as0,y::bs,h,0,a,b,ha,hb=>by simp at ha hb;subst ha;subst hb;exact h.1
 |x::as0,y::bs,h,i+1,a,b,ha,hb=>ah.get h.2 (i:=i) (by grind) (by grind)
 |[],_::_,h,_,_,_,_,_=>h.elim
 |_::_,[],h,_,_,_,_,_=>h.elim
theorem ah.fb:∀{as0:List α}{bs:List β},as0.length=bs.length->(∀(i:Nat)(a:α)(b:β),as0[i]?=some a->bs[i]?=some b->R a b)->ah R as0 bs
 |[],[],_,_=>trivial
 |_::_,_::_,hl,h=>⟨h 0 _ _ F F,ah.fb (by grind) fun i a b e c=>h (i+1) a b (by grind) (by grind)⟩
 |[],_::_,hl,_=>by simp at hl
 |_::_,[],hl,_=>by simp at hl
def ah.take(n:Nat):∀{c:List α}{g:List β},ah R c g->ah R (c.take n) (g.take n):=by
 intro c g h;refine ah.fb (by simp[h.length]) fun i a b e f=>?_
 rw[H0]at e f;split at e
 ·rename_i hi;rw[Zn hi]at f;exact h.get e f
 cases e
theorem ah.drop(n:Nat):∀{c:List α}{e:List β},ah R c e->ah R (c.drop n) (e.drop n):=by
 intro c e h;refine ah.fb (by simp[h.length]) fun i a b g f=>?_
 rw[m9]at g f;exact h.get g f
def ah.set{a:α}{b:β}(c:R a b):∀{as0:List α}{bs:List β}(i:Nat),ah R as0 bs->ah R (as0.set i a) (bs.set i b)
 |[],[],_,_=>trivial
 |_::_,_::_,0,h=>⟨c,h.2⟩
 |_::_,_::_,i+1,h=>⟨h.1,ah.set c i h.2⟩
 |[],_::_,_,h=>h.elim
 |_::_,[],_,h=>h.elim
def ah.eD{c:List α}{bs:List β}(h:ah R c bs){i:Nat}{a:α}(e:c[i]?=some a):∃b,bs[i]?=some b/\R a b:=by
 have hi:i<bs.length:=by rw[←h.length];grind
 exact⟨bs[i],Zv hi,h.get e (Zv hi)⟩
def ah.bJ{bs:List β}(h:ah R [] bs):bs=[]:=by cases bs with|nil=>rfl|cons _ _=>exact h.elim
def ah.bD{a:α}{e:List α}{bs:List β}(h:ah R (a::e) bs):∃b c,bs=b::c/\R a b/\ah R e c:=by
 cases bs with|nil=>exact h.elim|cons b c=>exact⟨b,c,rfl,h.1,h.2⟩
end all2
inductive ay(h:Mem):X->Value->Prop
 |int {k:IntKind} {n:Int}:k.wrap n=n->ay h (.int k n) (.int k n)
 |bool (b:Bool):ay h (.bool b) (.bool b)
 |str (s:ba):s.length<=maxLen->ay h (.str s) (.string ⟨s.toArray⟩)
 |rP (a:Option Addr) (cap:Nat):cap<=maxLen->ay h (.sl []) (.slice a 0 cap)
 |sl (rows:List (List X)) (b off cap sz:Nat) (vs:List Value):rows.length<=cap->cap<=maxLen->(∀r∈rows,r.length=sz)->rows.flatten.length=vs.length->
  (∀(i:Nat)(v:Value),vs[i]?=some v->h ⟨b,off+i,none⟩=some v)->(∀(i:Nat)(x:X)(v:Value),rows.flatten[i]?=some x->vs[i]?=some v->ay h x v)->ay h (.sl rows) (.slice (some ⟨b,off,none⟩) rows.length cap)
 |b5 (cells:List X) (b off:Nat) (vs:List Value):cells.length=vs.length->
  (∀(i:Nat)(v:Value),vs[i]?=some v->h ⟨b,off+i,none⟩=some v)->(∀(i:Nat)(x:X)(v:Value),cells[i]?=some x->vs[i]?=some v->ay h x v)->ay h (.b5 cells) (.pointer (some ⟨b,off,none⟩))
 |raw (u:Value):u.oneCell'=true->ay h (.raw u) u
structure Ctx where
 h:Mem
 loc:Nat->Option Nat
 arr:Nat->Option (Nat×Value×Bool)
 Y:Nat->Prop
abbrev aD(h:Mem):Ctx:=⟨h,fun _=>none,fun _=>none,fun _=>False⟩
def Mem.le (h c:Mem):Prop:=∀a v,h a=some v->c a=some v
theorem Mem.le_refl (h:Mem):Mem.le h h:=fun _ _ e=>e
theorem Mem.le_trans {a b c:Mem}(h:Mem.le a b)(f:Mem.le b c):Mem.le a c:=fun x v e=>f x v (h x v e)
def ay.mono{h j:Mem}(hh:Mem.le h j){x:X}{v:Value}(r:ay h x v):ay j x v:=by
 induction r with
 |int e=>exact .int e
 |bool b=>exact .bool b
 |str s e=>exact .str s e
 |rP a cap e=>exact .rP a cap e
 |sl rows b off cap o vs g f t q p _ c=>exact .sl rows b off cap o vs g f t q (fun i v e=>hh _ _ (p i v e)) c
 |b5 cells b off vs g f _ c=>exact .b5 cells b off vs g (fun i v e=>hh _ _ (f i v e)) c
 |raw u e=>exact .raw u e
def Iw(g:Value)(sz lo hi:Nat)(v:Value):Prop:=
 ∃a l f e c,g=.slice a l f/\v=.slice e (hi - lo) c/\(lo=0->e=a/\c=f)/\(lo<hi->∃b,a=some ⟨b,0,none⟩/\e=some ⟨b,lo * sz,none⟩)
def cq(c:Ctx):X->Value->Prop
 |.ptr k off,v=>∃b,c.loc k=some b/\v=.pointer (some ⟨b,off,none⟩)
 |.own k n,v=>(∃a l f,v=.slice a l f)/\∃m e lv,c.arr k=some (m,e,lv)/\n<=m/\(n=m->v=e)
 |.any,_=>True
 |.cb Φ,v=>Φ v
 |.di k n off,v=>∃m e lv,c.arr k=some (m,e,lv)/\n<=m/\(n=m->∃b l f,e=.slice (some ⟨b,0,none⟩) l f/\v=.pointer (some ⟨b,off,none⟩))
 |.raw u,v=>v=u
 |.bO,v=>v=.slice none 0 0
 |.jt k,v=>∃b,c.loc k=some b/\v=.map (some b)
 |.rU k n sz lo hi,v=>(∃a l f,v=.slice a l f)/\∃m e lv,c.arr k=some (m,e,lv)/\n<=m/\(n=m->Iw e sz lo hi v)
 |.slc rows,v=>ay c.h (.sl rows) v/\∃a,v=.slice a (R rows) (R rows)
 |x,v=>ay c.h x v
def aV(c:Ctx):X->Value->Prop
 |.fn f caps,v=>∃vs:List Value,v=.func (.func f) #[] vs.toArray/\ah (cq c) caps vs
 |x,v=>cq c x v
def bt(c:Ctx):X->Value->Prop
 |.agg xs,v=>∃vs:List Value,v=.agg vs.toArray/\ah (aV c) xs vs
 |x,v=>aV c x v
def bK(c:Ctx):X->Value->Prop
 |.cf xs,v=>∃vs:List Value,v=.tuple vs.toArray/\ah (bt c) xs vs
 |x,v=>bt c x v
structure Ext(c c':Ctx):Prop where
 h:Mem.le c.h c'.h
 loc:∀k b,c.loc k=some b->c'.loc k=some b
 arr:∀k m hv lv,c.arr k=some (m,hv,lv)->∃m' hv' lv',c'.arr k=some (m',hv',lv')/\m<=m'/\(m=m'->hv'=hv)
theorem Ext.refl(c:Ctx):Ext c c:=⟨Mem.le_refl _,fun _ _ e=>e,fun _ m f lv e=>⟨m,f,lv,e,Zq _,fun _=>rfl⟩⟩
theorem Ext.trans{a b c:Ctx}(h:Ext a b)(k:Ext b c):Ext a c:= 
 ⟨Mem.le_trans h.h k.h,fun i x e=>k.loc i x (h.loc i x e),fun i m t lv e=>by
  obtain⟨j,g,f,u,l,q⟩:=h.arr i m t lv e;obtain⟨A,p,o,C,B,v⟩:=k.arr i j g f u;grind⟩
theorem cq.mono{c c':Ctx}(e:Ext c c'){x:X}{v:Value}(h:cq c x v):cq c' x v:=by
 cases x with
 |ptr k off=>obtain⟨b,j,i⟩:=h;exact⟨b,e.loc _ _ j,i⟩
 |own k n=>
  obtain⟨h0,m,t,lv,j,i,B⟩:=h;obtain⟨o,g,f,q,p,C⟩:=e.arr _ _ _ _ j;exact⟨h0,o,g,f,q,ce i p,fun A=>by grind⟩
 |di k n off=>
  obtain⟨m,t,lv,j,i,B⟩:=h;obtain⟨o,g,f,q,p,C⟩:=e.arr _ _ _ _ j;exact⟨o,g,f,q,ce i p,fun A=>by grind⟩
 |any=>exact h
 |raw u=>exact h
 |bO=>exact h
 |cb Φ=>exact h
 |jt k=>obtain⟨b,j,i⟩:=h;exact⟨b,e.loc _ _ j,i⟩
 |rU k n sz lo hi=>
  obtain⟨h0,m,t,lv,j,i,B⟩:=h;obtain⟨o,g,f,q,p,C⟩:=e.arr _ _ _ _ j;exact⟨h0,o,g,f,q,ce i p,fun A=>by grind⟩
 |slc rows=>exact⟨ay.mono e.h h.1,h.2⟩
 |_=>exact ay.mono e.h h
theorem aV.mono{c c':Ctx}(e:Ext c c'){x:X}{v:Value}(h:aV c x v):aV c' x v:=by
 cases x
 case fn f caps=>obtain⟨vs,i,g⟩:=h;exact⟨vs,i,g.mono fun _ _=>cq.mono e⟩
 all_goals grind [aV,cq.mono]
theorem bt.mono{c c':Ctx}(e:Ext c c'){x:X}{v:Value}(h:bt c x v):bt c' x v:=by
 cases x
 case agg xs=>obtain⟨vs,g,f⟩:=h;exact⟨vs,g,f.mono fun _ _=>aV.mono e⟩
 all_goals grind [bt,aV.mono]
def bK.mono{c c':Ctx}(e:Ext c c'){x:X}{v:Value}(h:bK c x v):bK c' x v:=by
 cases x
 case cf xs=>obtain⟨vs,g,f⟩:=h;exact⟨vs,g,f.mono fun _ _=>bt.mono e⟩
 all_goals grind [bK,bt.mono]
structure da(B:Nat)(X:Nat->Prop)(w w':World):Prop where
 os:w'.os=w.os
 tape:w'.tape=w.tape
 output:w'.output=w.output
 size:w.heap.size<=w'.heap.size
 block:∀k,k<B->¬X k->w'.heap[k]?=w.heap[k]?
def da.refl(B:Nat)(X:Nat->Prop)(w:World):da B X w w:=⟨rfl,rfl,rfl,Zq _,fun _ _ _=>rfl⟩
theorem da.trans{B:Nat}{X:Nat->Prop}{a b c:World}(h:da B X a b)(k:da B X b c):da B X a c:=
 ⟨k.os.trans h.os,k.tape.trans h.tape,k.output.trans h.output,ce h.size k.size,fun i hi e=>(k.block i hi e).trans (h.block i hi e)⟩
def da.mono{B c:Nat}{X g:Nat->Prop}{w w':World}(h:da B X w w')(hB:c<=B)(j:∀k,k<c->X k->g k):da c g w w':=
 ⟨h.os,h.tape,h.output,h.size,fun k f i=>h.block k (rp f hB) fun e=>i (j k f e)⟩
def da.of{B:Nat}{X:Nat->Prop}{w w':World}(h:Below B w w'):da B X w w':=⟨h.os,h.tape,h.output,h.size,fun k c _=>h.block k c⟩
def da.below{B:Nat}{w w':World}(h:da B (fun _=>False) w w'):Below B w w':=⟨h.os,h.tape,h.output,h.size,fun k c=>h.block k c fun e=>e⟩
def da.drew{B:Nat}{X:Nat->Prop}{a w:World}(h:da B X a w):da B X a w.drew:=⟨h.os,h.tape,h.output,h.size,h.block⟩
def aZ(J:Mem->(Nat->Prop)->World->Prop):Prop:=
 ∀(h e:Mem)(Y:Nat->Prop)(w c:World),J h Y w->Mem.le h e->(∀p v,e p=some v->h p=some v\/¬Y p.block)->(∀p v,e p=some v->c.cell? p=some v)->da 0 (fun _=>False) w c->
  (∀b,Y b->c.heap[b]?=w.heap[b]?)->J e Y c
def Ctx.out(c:Ctx)(fs:bc)(b:Nat):Prop:=c.Y b\/(∃k,k∈fs/\c.loc k=some b)\/(∃k m e,k∈fs/\c.arr k=some (m,e,true)/\e.ownBlock=some b)
def Ctx.all(c:Ctx)(b:Nat):Prop:=c.Y b\/(∃k,c.loc k=some b)\/(∃k m e,c.arr k=some (m,e,true)/\e.ownBlock=some b)
structure Env where
 P:Program
 nt:Nat
 fs:bc
 c0:Ctx
 w0:World
 round:Option Nat
 pins:List (Nat×Obj)
def Env.ac(E:Env):Fence:={Fence.wide with round:=E.round}
def Env.B(E:Env):Nat:=E.w0.heap.size
def Env.X(E:Env)(b:Nat):Prop:=E.c0.out E.fs b\/∃p∈E.pins,p.1=b
def Env.h0(E:Env):Mem:=E.c0.h
def Env.ok(E:Env)(k b:Nat):Prop:=E.B<=b\/(k∈E.fs/\E.X b)
def Env.gN{E:Env}{k b:Nat}(h:E.ok k b)(c:k∉E.fs):E.B<=b:=by
 rcases h with h|h
 all_goals simp_all
def nQ{l:bc}{k:Nat}(h:l.contains k=false):k∉l:=by grind
def Env.js{E:Env}{k b j:Nat}(h:E.ok k b)(e:j<E.B)(c:¬E.X j):j≠b:=by
 rintro rfl;rcases h with h|h
 all_goals grind
structure aM(E:Env)(U:bc)(c:Ctx)(a:Act)(w:World):Prop where
 below:da E.B E.X E.w0 w
 hB:E.B<=w.heap.size
 nt:a.tmps.size=E.nt
 iP:a.defers.Pairwise (· ≠ ·)/\∀d∈a.defers,∃D,d={target:=.collected D,args:=#[]}/\E.B<=D/\¬c.all D/\w.heap[D]?=some (.deferred (some []))
 nS:∀p∈E.pins,¬c.all p.1/\p.2.isCells=false/\w.heap[p.1]?=some p.2
 hw:∀p v,c.h p=some v->w.cell? p=some v
 hle:Mem.le E.h0 c.h
 hnew:∀p v,c.h p=some v->E.h0 p=some v\/E.B<=p.block\/E.X p.block
 loc:∀k b,c.loc k=some b->E.ok k b/\b<w.heap.size/\(∀o,c.h ⟨b,o,none⟩=none)/\(∀k',c.loc k'=some b->k'=k)/\(∀k' m hv,c.arr k'=some (m,hv,true)->hv.ownBlock≠some b)
 arr:∀k m hv b,c.arr k=some (m,hv,true)->hv.ownBlock=some b->E.ok k b/\b<w.heap.size/\(∀o,c.h ⟨b,o,none⟩=none)/\(∀k' m' hv',c.arr k'=some (m',hv',true)->hv'.ownBlock=some b->k'=k)
 used:∀k,k∉U->c.loc k=none/\c.arr k=none
 Y:∀b,c.Y b->b<w.heap.size/\(b<E.B->E.X b)/\(∀k,c.loc k≠some b)/\(∀k m hv,c.arr k=some (m,hv,true)->hv.ownBlock≠some b)
 fB:∀k b,k∈E.fs->c.loc k=some b->E.c0.loc k=some b
 fQ:∀k m hv lv,k∈E.fs->c.arr k=some (m,hv,lv)->∃m0 hv0 lv0,E.c0.arr k=some (m0,hv0,lv0)/\m0<=m/\(m0=m->hv=hv0)/\(lv=true->lv0=true)/\(∀b,hv.ownBlock=some b->hv0.ownBlock=some b\/E.B<=b)
def zT(c:Ctx):X->Obj->Prop
 |.box cells,o=>∃T vs,o=.cells vs T (0,0)/\ah (aV c) cells vs.toList
 |.omap es,o=>∃f e,o=.map f e/\MapKept.Stamped f e/\ah (fun(p:X×X)(m:MapEntry)=>ay c.h p.1 m.key/\bt (aD c.h) p.2 m.val) es f.toList
 |_,_=>False
def wJ(c:Ctx):X->Nat->List (List X)->List Value->Prop
 |.arr sz' rows',sz,rows,vs=>sz'=sz/\rows'=rows/\ah (ay c.h) rows.flatten vs
 |.cM sz' pre mid post,sz,rows,vs=>sz'=sz/\rows=pre++mid::post/\∃g f e,vs=g++(f++e)/\ah (ay c.h) pre.flatten g/\ah (aV c) mid f/\ah (ay c.h) post.flatten e
 |_,_,_,_=>False
def pure_mono{h c:Mem}(hh:Mem.le h c){x:X}{v:Value}(r:bt (aD h) x v):bt (aD c) x v:=r.mono ⟨hh,(fun _ _ e=>by cases e),(fun _ _ _ _ e=>by cases e)⟩
def zT.mono{c c':Ctx}(e:Ext c c'){x:X}{o:Obj}(h:zT c x o):zT c' x o:=by
 cases x
 case box cells=>obtain⟨T,vs,i,g⟩:=h;exact⟨T,vs,i,g.mono fun _ _=>aV.mono e⟩
 case omap es=>obtain⟨j,f,i,h0,g⟩:=h;exact⟨j,f,i,h0,g.mono fun _ _ h=>⟨h.1.mono e.h,pure_mono e.h h.2⟩⟩
 all_goals exact h.elim
def wJ.mono{c c':Ctx}(e:Ext c c'){x:X}{sz:Nat}{rows:List (List X)}{vs:List Value}(h:wJ c x sz rows vs):wJ c' x sz rows vs:=by
 cases x
 case arr sz' rows'=>exact⟨h.1,h.2.1,h.2.2.mono fun _ _=>ay.mono e.h⟩
 case cM sz' pre mid post=>obtain⟨u,t,i,g,f,q,p,o,j⟩:=h;exact⟨u,t,i,g,f,q,p.mono fun _ _=>ay.mono e.h,o.mono fun _ _=>aV.mono e,j.mono fun _ _=>ay.mono e.h⟩
 all_goals exact h.elim
def xe(c:Ctx)(w:World)(k:Nat)(x:X):Prop:=
 ∃b o,c.loc k=some b/\w.heap[b]?=some o/\zT c x o
def D3(c:Ctx)(w:World)(k:Nat)(x:X):Prop:=
 ∃f rows g e vs,wJ c x f rows vs/\c.arr k=some (R rows,g,true)/\w.ownsRow 0 e f g (R rows) vs/\(∀r∈rows,R r=f)
def wK(loc:Nat->Option Nat)(J:Mem->(Nat->Prop)->World->Prop):X->Prop
 |.res J'=>J'=J
 |.CI k Jb=>∃b,loc k=some b/\Jb b=J
 |_=>False
def wK.mono{loc c:Nat->Option Nat}{J:Mem->(Nat->Prop)->World->Prop}{x:X}(e:∀k b,loc k=some b->c k=some b)(h:wK loc J x):wK c J x:=by
 cases x
 case res J'=>exact h
 case CI k Jb=>obtain⟨b,g,f⟩:=h;exact⟨b,e _ _ g,f⟩
 all_goals exact h.elim
def vw(c:Ctx)(w:World)(key:Nat)(x:X):Prop:=key=3000/\∃J,wK c.loc J x/\aZ J/\J c.h c.Y w
def Holds(c:Ctx)(a:Act)(w:World)(key:Nat)(x:X):Prop:=
 if key<1000 then bK c x (a.tmps.getD key undef)
 else x=.any\/(if key<2000 then xe c w (key - 1000) x else if key<3000 then D3 c w (key - 2000) x else vw c w key x)
abbrev St:=List (Nat×X)
abbrev bi:=List X
abbrev bm:=Mem→(Nat→Prop)→World→Prop
abbrev bo:=Exit→List Nat→St→Prop
abbrev bv(n:Int):X:=.int .i64 n
abbrev ca(E:Env)(d:Nat):Bool:=Nat.blt d 1000&&Nat.blt d E.nt
def look:St->Nat->Option X
 |[],_=>none
 |p::s,k=>if Nat.beq p.1 k then some p.2 else look s k
def Good(E:Env)(U:bc)(s:St)(a:Act)(w:World):Prop:=
 ∃c,aM E U c a w/\∀key x,look s key=some x->Holds c a w key x
def gh(E:Env)(all:Array Oper)(o:Oper)(next:Act->World->Prop)(Q:Exit->Act->World->Prop)(a:Act)(w:World):Prop:=
 if Region.wanted o (yielded all a.tmps)then o.wpIn E.ac 0 E.P a w next Q else next (a.put o.dst undef) w
def Step(E:Env)(all:Array Oper)(o:Oper)(rd wr:St)(al:bc):Prop:=
 ∀(U:bc)(c:Ctx)(a:Act)(w:World),aM E U c a w->(∀p∈rd,Holds c a w p.1 p.2)->(∀k∈al,k∉U)->
  ∀(next:Act->World->Prop)(Q:Exit->Act->World->Prop),
   (∀f g e,aM E (al++U) f g e->Ext c f->(∀p∈wr,Holds f g e p.1 p.2)->
    (∀key x,(∀p∈wr,p.1≠key)->Holds c a w key x->Holds f g e key x)->next g e)->
   gh E all o next Q a w
structure Lab where
 rd:St
 wr:St
 al:bc
def ZY(s:St):St->Prop
 |[]=>True
 |p::r=>look s p.1=some p.2/\ZY s r
def ZY.all{s:St}:∀{r:St},ZY s r->∀p∈r,look s p.1=some p.2
 |[],_,p,c=>by cases c
 |q::r,h,p,c=>by
  rcases sf.1 c with rfl|c
  ·exact h.1
  exact ZY.all h.2 p c
inductive Lx(E:Env)(all:Array Oper):List Oper->bc->St->List Lab->bc->St->Prop
 |nil {U:bc} {s:St}:Lx E all [] U s [] U s
 |cons {o:Oper} {l:List Oper} {U U':bc} {s s':St} {L:List Lab} {rd wr:St} {al:bc}:Step E all o rd wr al->ZY s rd->(al.all fun k=>!U.contains k)=true->
  Lx E all l (al++U) (wr++s) L U' s'->Lx E all (o::l) U s (⟨rd,wr,al⟩::L) U' s'
def dA{s t:St}{k:Nat}:look (s++t) k=(look s k).or (look t k):=by
 induction s with
 |nil=>rfl
 |cons p s c=>grind [look]
theorem k7{s:St}{k:Nat}:look s k=none↔∀p∈s,p.1≠k:=by
 induction s with
 |nil=>simp[look]
 |cons p s c=>
  grind [look,Nat.eq_of_beq_eq_true,Nat.beq_refl]
theorem cm{s:St}{k:Nat}{x:X}(h:look s k=some x):(k,x)∈s:=by
 induction s with
 |nil=>cases h
 |cons p s c=>
  grind [look,Nat.eq_of_beq_eq_true]
def Step.good{E:Env}{all:Array Oper}{o:Oper}{rd wr:St}{al:bc}(j:Step E all o rd wr al){U:bc}{s:St}{a:Act}{w:World}(A:Good E U s a w)
  (u:ZY s rd) (D:(al.all fun k=>!U.contains k)=true) {next:Act->World->Prop} {Q:Exit->Act->World->Prop} (t:∀f e,Good E (al++U) (wr++s) f e->next f e):gh E all o next Q a w:=by
 obtain⟨c,C,hh⟩:=A;refine j U c a w C (fun p q=>hh _ _ (u.all p q)) (fun k v=>by simp_all) next Q fun F f e g _ i B=>t f e ⟨F,g,fun key x h=>?_⟩
 rw[dA]at h;cases v:look wr key with
 |some y=>
  simp_all[cm]
 |none=>
  grind [k7]
def cW{E:Env}{all:Array Oper}{i:Nat}{o:Oper}(c:all[i]?=some o){next:Act->World->Prop}{Q:Exit->Act->World->Prop}{a:Act}{w:World}(h:gh E all o next Q a w):
  wpOpIn E.ac 0 E.P all Q i next a w:=by
 unfold wpOpIn;simp only[c];unfold gh at h;split at h
 ·simp_all
 rename_i hw;rw[Zm hw];exact⟨fun _ _=>trivial,h⟩
def OK(E:Env)(code:Code)(Q:bo)(U:bc)(s:St):Prop:=
 ∀a w,Good E U s a w->code.wpIn E.ac 0 E.P (fun e f c=>∃U' s',Good E U' s' f c/\Q e U' s') a w
end Go.Ab
namespace Go.Ab
open Go.RowKit
def mK:List Lab->(Nat->Bool)->St->St
 |[],_,s=>s
 |b::L,D,s=>mK L (fun j=>D (j+1)) (if D 0 then b.wr++s else s)
def uD:List Lab->(Nat->Bool)->bc->bc
 |[],_,u=>u
 |b::L,D,u=>uD L (fun j=>D (j+1)) (if D 0 then b.al++u else u)
def eS:List Lab->(Nat->Bool)->Nat->Option X
 |[],_,_=>none
 |b::L,D,k=>(eS L (fun j=>D (j+1)) k).or (if D 0 then look b.wr k else none)
theorem gW{k:Nat}:∀(L:List Lab)(D:Nat->Bool)(s:St),look (mK L D s) k=(eS L D k).or (look s k)
 |[],_,_=>by rfl
 |b::L,D,s=>by
  rw[mK,gW L,eS,Option.or_assoc];congr 1;by_cases h:D 0=true
  all_goals simp_all[dA]
theorem ez{k:Nat}:∀(L:List Lab)(D c:Nat->Bool),(∀(j:Nat)(b:Lab),L[j]?=some b->look b.wr k≠none->D j=c j)->eS L D k=eS L c k
 |[],_,_,_=>rfl
 |b::L,D,c,h=>by
  rw[eS,eS,ez L (fun j=>D (j+1)) (fun j=>c (j+1)) (fun j f g e=>h (j+1) f (by grind) e)];grind
theorem fZ{k:Nat}:∀(L:List Lab)(D:Nat->Bool)(u:bc),k∈uD L D u↔k∈u\/∃(j:Nat)(b:Lab),L[j]?=some b/\D j=true/\k∈b.al
 |[],_,_=>by simp[uD]
 |b::L,D,u=>by
  rw[uD,fZ L];grind
def iX:∀(L:List Lab)(s:St),mK L (fun _=>false) s=s
 |[],_=>rfl
 |_::L,s=>by simpa[mK]using iX L s
def j7:∀(L:List Lab)(s:bc),uD L (fun _=>false) s=s
 |[],_=>rfl
 |_::L,s=>by simpa[uD]using j7 L s
section
variable{E:Env}{all:Array Oper}
def Lx.length{l:List Oper}{U U':bc}{s s':St}{L:List Lab}(h:Lx E all l U s L U' s'):L.length=l.length:=by
 induction h<;>grind
def Lx.stAll{l:List Oper}{U U':bc}{s s':St}{L:List Lab}(h:Lx E all l U s L U' s'):∀D:Nat->Bool,(∀j,j<R l->D j=true)->mK L D s=s'/\uD L D U=U':=by
 induction h with
 |nil=>intro D _;exact⟨rfl,rfl⟩
 |cons _ _ _ _ c=>
  simp_all[mK,uD]
def Lx.at{l:List Oper}{U U':bc}{s s':St}{L:List Lab}(h:Lx E all l U s L U' s'):∀(i:Nat)(b:Lab),L[i]?=some b->
  ∃o,l[i]?=some o/\Step E all o b.rd b.wr b.al/\ZY (mK L (fun j=>decide (j<i)) s) b.rd/\∀k∈b.al,k∉uD L (fun j=>decide (j<i)) U:=by
 induction h with
 |nil=>simp
 | @cons o l U U' s s' L rd wr al hs hl hal _ ih=>
   intro i b c;cases i with
   |zero=>
    simp at c;subst c;refine⟨o,rfl,hs,?_,?_⟩
    ·have:(fun j=>decide (j<0))=(fun _:Nat=>false):=by rfl
     simp_all[iX]
    have:(fun j=>decide (j<0))=(fun _:Nat=>false):=by rfl
    simp_all[j7]
   |succ i=>
    grind [mK,uD]
end
def rL(c:bc):List Edge->Nat
 |[]=>0
 |e::l=>if Region.binds .any e then(2 ^ e.on|||c.getD e.on 0)|||rL c l else rL c l
def Af:List Oper->bc->bc
 |[],acc=>acc
 |o::l,acc=>Af l (acc++[rL acc o.after.toList])
def jN(k:Nat):St->Bool
 |[]=>false
 |p::s=>Nat.beq p.1 k||jN k s
def meets:St->St->Bool
 |[],_=>false
 |p::s,t=>jN p.1 t||meets s t
def eR(a b:Lab):Bool:=meets a.wr b.rd||meets a.wr b.wr||meets a.rd b.wr
def nF(cl:bc):Nat->List Lab->Nat->Lab->Bool
 |_,[],_,_=>true
 |i,a::L,j,b=>(!(Nat.blt i j)||!eR a b||Nat.testBit (cl.getD j 0) i)&&nF cl (i+1) L j b
def nG(cl:bc)(L:List Lab):Nat->List Lab->Bool
 |_,[]=>true
 |j,b::M=>nF cl 0 L j b&&nG cl L (j+1) M
def lU:Nat->List Oper->Bool
 |_,[]=>true
 |i,o::l=>(o.after.toList.all fun e=>!Region.binds .any e||Nat.blt e.on i)&&lU (i+1) l
def iC(l:List Oper)(L:List Lab):Bool:=lU 0 l&&nG (Af l []) L 0 L
def tK{k:Nat}:∀{s:St},jN k s=false->∀p∈s,p.1≠k
 |[],_,p,c=>by cases c
 |q::s,h,p,c=>by
  simp only[jN,wa]at h;rcases sf.1 c with rfl|c
  ·grind [Nat.beq_refl]
  exact tK h.2 p c
def ey{k:Nat}:∀{s t:St},meets s t=false->(∃p∈s,p.1=k)->∀p∈t,p.1≠k
 |[],_,_,⟨p,c,_⟩=>by cases c
 |q::s,t,h,⟨p,c,hk⟩=>by
  simp only[meets,wa]at h;rcases sf.1 c with rfl|c
  ·subst hk;exact tK h.1
  exact ey h.2 ⟨p,c,hk⟩
def nY(l:List Oper)(D:Nat->Bool):Prop:=∀(i:Nat)(o:Oper),l[i]?=some o->D i=true->∀e∈o.after,Region.binds .any e=true->D e.on=true
def p8(l:List Oper)(D:Nat->Bool)(j:Nat):Prop:=∀o,l[j]?=some o->∀e∈o.after,Region.binds .any e=true->D e.on=true
def oE{c:bc}{i:Nat}:∀{es:List Edge},(rL c es).testBit i=true->∃e∈es,Region.binds .any e=true/\(e.on=i\/(c.getD e.on 0).testBit i=true)
 |[],h=>by simp[rL]at h
 |e::es,h=>by
  simp only[rL]at h;split at h
  ·rename_i o;rw[Nat.testBit_or,Nat.testBit_or,Nat.testBit_two_pow,ti,ti,tm]at h;rcases h with h|h
   ·simp_all
   obtain⟨j,g,f⟩:=oE h;grind
  obtain⟨j,g,f⟩:=oE h;grind
def fU{l:List Oper}{D:Nat->Bool}(t:nY l D):∀(m f:List Oper)(c:bc),l=f++m->R c=R f->
  (∀j i,(c.getD j 0).testBit i=true->p8 l D j->D i=true)->∀j i,((Af m c).getD j 0).testBit i=true->j<R l->p8 l D j->D i=true
 |[],_,c,_,_,h,j,i,hi,_,g=>h j i hi g
 |o::m,f,c,hl,hlen,h,j,i,hi,hj,g=>by
  refine fU t m (f++[o]) _ (by simp[hl]) (by simp[hlen]) ?_ j i hi hj g;intro j i hi g;by_cases q:j<R c
  ·grind
  by_cases p:j=R c
  ·subst p;have u:l[R c]?=some o:=by simp_all
   simp only[List.getD_eq_getElem?_getD,List.getElem?_concat_length,Option.getD_some]at hi;obtain⟨e,v,A,hi⟩:=oE hi;grind [nY,p8]
  grind
def fN{cl:bc}{j:Nat}{b:Lab}:∀{L:List Lab}{k:Nat},nF cl k L j b=true->∀(i:Nat)(a:Lab),L[i]?=some a->k+i<j->eR a b=true->(cl.getD j 0).testBit (k+i)=true
 |[],_,_,i,a,h,_,_=>by simp at h
 |c::L,k,h,i,a,hi,hlt,hcl=>by
  simp only[nF,Zw,ti]at h;cases i with
  |zero=>
   grind [Nat.blt_eq]
  |succ i=>
   have:=fN h.2 i a (by grind) I hcl;grind
def clashAll_spec{cl:bc}{L:List Lab}:∀{M:List Lab}{k:Nat},nG cl L k M=true->∀(j:Nat)(b:Lab),M[j]?=some b->nF cl 0 L (k+j) b=true
 |[],_,_,j,b,h=>by simp at h
 |c::M,k,h,j,b,hj=>by
  simp only[nG,Zw]at h;cases j with
  |zero=>simp_all
  |succ j=>
   have:=clashAll_spec h.2 j b (by grind);grind
def kC:∀{l:List Oper}{k:Nat},lU k l=true->∀(i:Nat)(o:Oper),l[i]?=some o->∀e∈o.after,Region.binds .any e=true->e.on<k+i
 |[],_,_,i,o,h=>by simp at h
 |c::l,k,h,i,o,hi=>by
  simp only[lU,Zw]at h;cases i with
  |zero=>
   simp at hi;subst hi;intro e f g;have:=(rm.1 h.1) e (by grind);simp_all
  |succ i=>
   intro e f g;have:=kC h.2 i o (by grind) e f g;omega
def aM.FO{E:Env}{U U':bc}{c:Ctx}{a:Act}{w:World}(h:aM E U c a w)(e:∀k,k∈U->k∈U'):aM E U' c a w:=
 ⟨h.below,h.hB,h.nt,h.iP,h.nS,h.hw,h.hle,h.hnew,h.loc,h.arr,fun k g=>h.used k fun f=>g (e k f),h.Y,h.fB,h.fQ⟩
def aM.drew{E:Env}{U:bc}{c:Ctx}{a:Act}{w:World}(h:aM E U c a w):aM E U c a w.drew:=
 ⟨h.below.drew,h.hB,h.nt,h.iP,h.nS,h.hw,h.hle,h.hnew,h.loc,h.arr,h.used,h.Y,h.fB,h.fQ⟩
def Good.drew{E:Env}{U:bc}{s:St}{a:Act}{w:World}(h:Good E U s a w):Good E U s a w.drew:=by
 obtain⟨c,o,hh⟩:=h;refine⟨c,o.drew,fun key x q=>?_⟩;have f:=hh key x q;unfold Holds at f⊢;split
 ·simp_all
 rename_i t;rw[Zm t]at f;refine cD f fun f=>?_
 split
 ·rename_i i;rwa [Zn i]at f
 rename_i i;rw[Zm i]at f;split
 ·rename_i g;rwa [Zn g]at f
 rename_i g;rw[Zm g]at f;obtain⟨j,J,v,p,u⟩:=f;exact⟨j,J,v,p,p _ _ _ _ _ u (Mem.le_refl _) (fun _ _ e=>.inl e) o.drew.hw (da.refl _ _ _).drew (fun _ _=>rfl)⟩
theorem iW(n j:Nat):(Array.replicate n false).getD j false=false:=by
 simp[Array.getD]
def vD(l:List Bool):Nat:=R (l.filter (!·))
def u3:∀(l:List Bool)(i:Nat),l[i]?=some false->vD (l.set i true)+1=vD l
 |[],_,h=>by simp at h
 |b::l,0,h=>by simp_all[vD]
 |b::l,i+1,h=>by
  have:=u3 l i (by grind);grind [vD]
def rj:∀(l:List Bool),vD l=0->∀j,j<R l->l.getD j false=true
 |[],_,j,h=>by simp at h
 |b::l,h,j,hj=>by
  simp only[vD,List.filter_cons]at h;cases b with
  |false=>simp at h
  |true=>
   cases j with
   |zero=>rfl
   |succ j=>simpa using rj l (by grind [vD]) j (by grind)
section
variable{E:Env}{l:List Oper}{U U':bc}{s s':St}{L:List Lab}
def D4(h:Lx E l.toArray l U s L U' s')(hc:iC l L=true)(Q:Exit->Act->World->Prop)(hQ:∀a w,Good E U' s' a w->Q .normal a w):
  ∀(g:Nat)(f:Array Bool)(a:Act)(w:World),f.size=R l->vD f.toList<=g->nY l (fun j=>f.getD j false)->
   Good E (uD L (fun j=>f.getD j false) U) (mK L (fun j=>f.getD j false) s) a w->wpAnyIn E.ac 0 E.P .any l.toArray Q g f a w:=by
 simp only[iC,Zw]at hc;obtain⟨Y,C⟩:=hc;have hlen:=h.length
 have fin:∀(f:Array Bool)(a:Act)(w:World),f.size=R l→Good E (uD L (fun j=>f.getD j false) U) (mK L (fun j=>f.getD j false) s) a w→
   Region.ready .any l.toArray f=[]->Q .normal a w:=by
  intro f a w H hg hr;have T:∀j,j<R l->f.getD j false=true:=by
   intro j
   induction j using Nat.strongRecOn with
   |_ j ih=>
    intro hj;by_cases hd:f.getD j false=true
    ·exact hd
    exfalso;have O:j∈Region.ready .any l.toArray f:=by
     rw[mem_ready];refine⟨?_,l[j],by simp[hj],fun e he u=>?_⟩
     ·simp_all
     have:=kC Y j l[j] (by simp[hj]) e he u;grind
    simp_all
  have:=h.stAll _ T;simp_all
 intro g
 induction g with
 |zero=>
  intro f a w H hun G hg;have T:∀j,j<R l->f.getD j false=true:=fun j hj=>by
   have:=rj f.toList I j (by simp_all);simp_all
  have hr:Region.ready .any l.toArray f=[]:=by
   rw[cτ];grind [mem_ready]
  exact⟨hr,fin f a w H hg hr⟩
 |succ g ih=>
  intro f a w H hun G hg;refine⟨fin f a w H hg,fun i hi=>?_⟩;obtain⟨h0,o,ho,hedges⟩:=mem_ready.1 hi;have hil:i<R l:=by grind
  have hio:l[i]?=some o:=by grind
  have hiL:i<R L:=I
  have hisz:i<f.size:=I
  have Z:L[i]?=some L[i]:=Zv hiL;have hDi:f.getD i false=false:=by
   simp_all
  obtain⟨o',v,V,W,hfresh⟩:=h.at i L[i] Z;rw[hio]at v;cases v;have J:p8 l (fun j=>f.getD j false) i:=fun o' v e he u=>by
   simp_all
  -- of two operations that eR, who comes first has been done, or will not be done before
  have ord:∀(j:Nat)(b:Lab),L[j]?=some b->(eR b L[i]=true\/eR L[i] b=true)->j≠i->f.getD j false=decide (j<i):=by
   intro j b u S hne;have hjl:j<R l:=by grind
   have sym:∀x y:Lab,eR x y=true->eR y x=true:=by
    intro x y hxy;have comm:∀s t:St,meets s t=true->meets t s=true:=by
     intro s t hst;cases hts:meets t s with
     |true=>rfl
     |false=>
      exfalso;have:∀s t:St,meets s t=true->∃p∈s,jN p.1 t=true:=by
       intro s
       induction s with
       |nil=>simp[meets]
       |cons p s ih=>intro t h;simp only[meets,ti]at h;grind
      obtain⟨p,hp,hk⟩:=this s t hst;have:∃q∈t,q.1=p.1:=by
       have kk:∀(t:St),jN p.1 t=true->∃q∈t,q.1=p.1:=by
        intro t
        induction t with
        |nil=>simp[jN]
        |cons q t ih=>intro h;simp only[jN,ti]at h;grind [Nat.eq_of_beq_eq_true]
       grind
      exact ey hts this p hp rfl
    simp only[eR,ti]at hxy⊢;grind
   rcases w7 j i with hlt|hge
   ·have hk:eR b L[i]=true:=S.elim id (sym _ _);have D:=fN (clashAll_spec C i L[i] Z) j b u I hk;simp only[wc]at D;have:=fU G l [] [] rfl rfl F i j D hil J;simp_all
   have hgt:i<j:=I
   have hk:eR L[i] b=true:=S.elim (sym _ _) id;have D:=fN (clashAll_spec C j b u) i L[i] Z I hk;simp only[wc]at D;cases hdj:f.getD j false with
   |false=>simp;omega
   |true=>
    exfalso;have:=fU G l [] [] rfl rfl F j i D hjl (fun o' v e he hb'=>G j o' v hdj e he hb');simp_all
  -- the state in which it is done
  obtain⟨c,hbase,B⟩:=hg;refine cW ho ?_;refine V _ c a w hbase ?_ ?_ _ Q ?_
  ·intro p hp;refine B _ _ ?_;have hx:=W.all p hp;rw[gW]at hx⊢;rw[ez L (fun j=>f.getD j false) (fun j=>decide (j<i)) fun j b u hn=>?_]
   ·exact hx
   by_cases A:j=i
   ·simp_all
   refine ord j b u ?_ A;left;simp only[eR,ti];left;left;cases hm:meets b.wr L[i].rd with
   |true=>rfl
   |false=>
    exfalso;obtain⟨y,hy⟩:∃y,look b.wr p.1=some y:=by cases hq:look b.wr p.1<;>grind
    exact ey hm ⟨_,cm hy,rfl⟩ p hp rfl
  ·intro k hk O;rcases(fZ L _ U).1 O with hu|⟨j,b,u,hd,hkb⟩
   ·simp_all[fZ]
   by_cases A:j=i
   ·simp_all
   rcases w7 j i with hlt|hge
   ·grind [fZ]
   obtain⟨_,_,_,_,hfj⟩:=h.at j b u;grind [fZ]
  intro c' a' w' K _ hwr hfr;have N:∀j,(f.setIfInBounds i true).getD j false=if j=i then true else f.getD j false:=by
   intro j;by_cases A:j=i
   ·simp_all
   simp_all[Ne.symm]
  refine ih _ a' w' (by grind) ?_ ?_ ⟨c',K.FO ?_,?_⟩
  ·have:=u3 f.toList i (by
    simp_all)
   grind
  ·intro j o' v hd e he u;simp only[N]at hd⊢;split
   ·rfl
   by_cases A:j=i
   ·simp_all
   rw[Zm A]at hd;exact G j o' v hd e he u
  ·grind [fZ]
  intro key x hx;by_cases hkw:look L[i].wr key=none
  ·refine hfr key x (k7.1 hkw) (B key x ?_);grind [gW,ez]
  obtain⟨y,hy⟩:∃y,look L[i].wr key=some y:=by cases hq:look L[i].wr key<;>grind
  have hxy:x=y:=by
   rw[gW,ez L _ (fun j=>decide (j<i+1)) fun j b u hn=>?_]at hx
   ·have hat:eS L (fun j=>decide (j<i+1)) key=some y:=by
     have:∀(L:List Lab)(i:Nat)(b:Lab)(y:X),L[i]?=some b->look b.wr key=some y->eS L (fun j=>decide (j<i+1)) key=some y:=by
      intro L
      induction L with
      |nil=>simp
      |cons c L ihL=>
       intro i b y u hy;cases i with
       |zero=>
        simp at u;subst u;have hz:eS L (fun j=>decide (j+1<0+1)) key=none:=by
         have:∀M:List Lab,eS M (fun _=>false) key=none:=by
          intro M;induction M with
          |nil=>rfl
          |cons d M ihM=>grind [eS]
         simp_all
        simp_all[eS]
       |succ i=>
        grind [eS]
     simp_all
    simp_all
   rw[N];split
   ·simp_all
   rename_i A;have:=ord j b u (by
    left;simp only[eR,ti];left;right;cases hm:meets b.wr L[i].wr with
    |true=>rfl
    |false=>
     exfalso;obtain⟨z,hz⟩:∃z,look b.wr key=some z:=by cases hq:look b.wr key<;>grind
     exact ey hm ⟨_,cm hz,rfl⟩ _ (cm hy) rfl) A
   grind
  simp_all[cm]
def OK.aE{e:Nat}{Q:bo}(f:E.P.follows .mixedOrders=true)(h:Lx E l.toArray l U s L U' s')(g:iC l L=true)(p:Q .normal U' s'):
  OK E (.region e l.toArray true) Q U s:=by
 intro a w c;refine wpIn_region_draw fun t=>?_
 simp only[Region.schedule,f,cυ,if_true];refine wpAnyIn_sound _ t _ a _ ?_;refine D4 h g _ (fun a w c=>⟨U',s',c,p⟩) l.toArray.size (Array.replicate l.toArray.size false) a w.drew F ?_ ?_ ?_
 ·simp[vD]
 ·intro i o _ q;grind [iW]
 have:(fun j=>(Array.replicate l.toArray.size false).getD j false)=(fun _:Nat=>false):=by
  grind [iW]
 rw[this,iX,j7];exact c.drew
end
end Go.Ab
namespace Go.Ab
open Go.RowKit
def mE(U:bc):X->Bool
 |.ptr k _=>U.contains k
 |.own k _=>U.contains k
 |.di k _ _=>U.contains k
 |.jt k=>U.contains k
 |.rU k _ _ _ _=>U.contains k
 |_=>true
def vt(U:bc):X->Bool
 |.fn _ caps=>caps.all (mE U)
 |x=>mE U x
def Nn(U:bc):X->Bool
 |.agg xs=>xs.all (vt U)
 |x=>vt U x
def Eb(U:bc):X->Bool
 |.cf xs=>xs.all (Nn U)
 |x=>Nn U x
def eP(U:bc)(p:Nat×X):Bool:=
 if Nat.blt p.1 1000 then Eb U p.2
 else match p.2 with
  |.any=>true
  |.box cells=>(U.any fun k=>Nat.beq (1000+k) p.1)&&cells.all (vt U)
  |.arr _ _=>U.any fun k=>Nat.beq (2000+k) p.1
  |.cM _ _ mid _=>(U.any fun k=>Nat.beq (2000+k) p.1)&&mid.all (vt U)
  |.omap _=>U.any fun k=>Nat.beq (1000+k) p.1
  |.CI k _=>U.contains k
  |_=>true
def FF{U:bc}{off key:Nat}(h:(U.any fun k=>Nat.beq (off+k) key)=true):U.contains (key - off)=true:=by
 grind [Nat.eq_of_beq_eq_true]
def Ctx.cut(c:Ctx)(U:bc):Ctx:=⟨c.h,fun k=>if U.contains k then c.loc k else none,fun k=>if U.contains k then c.arr k else none,c.Y⟩
theorem cq.cut{c:Ctx}{U:bc}{x:X}{v:Value}(h:cq c x v)(i:mE U x=true):cq (c.cut U) x v:=by
 cases x
 case ptr k off=>obtain⟨b,g,e⟩:=h;exact⟨b,by simp_all[mE,Ctx.cut],e⟩
 case own k n=>obtain⟨h0,m,f,lv,g,e⟩:=h;exact⟨h0,m,f,lv,by simp_all[mE,Ctx.cut],e⟩
 case di k n off=>obtain⟨m,f,lv,g,e⟩:=h;exact⟨m,f,lv,by simp_all[mE,Ctx.cut],e⟩
 case jt k=>obtain⟨b,g,e⟩:=h;exact⟨b,by simp_all[mE,Ctx.cut],e⟩
 case rU k n sz lo hi=>obtain⟨h0,m,f,lv,g,e⟩:=h;exact⟨h0,m,f,lv,by simp_all[mE,Ctx.cut],e⟩
 all_goals exact h
theorem ah.cut{R R':X->Value->Prop}{ok:X->Bool}(c:∀x v,R x v->ok x=true->R' x v):∀{xs:bi}{vs:List Value},ah R xs vs->xs.all ok=true->ah R' xs vs
 |[],[],_,_=>trivial
 |_::_,_::_,h,ho=>by simp only[so,Zw]at ho;exact⟨c _ _ h.1 ho.1,ah.cut c h.2 ho.2⟩
 |[],_::_,h,_=>h.elim
 |_::_,[],h,_=>h.elim
theorem aV.cut{c:Ctx}{U:bc}{x:X}{v:Value}(h:aV c x v)(e:vt U x=true):aV (c.cut U) x v:=by
 cases x
 case fn f caps=>grind [aV,vt,ah.cut,cq.cut]
 all_goals simp_all[aV,vt,cq.cut]
theorem bt.cut{c:Ctx}{U:bc}{x:X}{v:Value}(h:bt c x v)(e:Nn U x=true):bt (c.cut U) x v:=by
 cases x
 case agg xs=>grind [bt,Nn,ah.cut,aV.cut]
 all_goals simp_all[bt,Nn,aV.cut]
def bK.cut{c:Ctx}{U:bc}{x:X}{v:Value}(h:bK c x v)(e:Eb U x=true):bK (c.cut U) x v:=by
 cases x
 case cf xs=>grind [bK,Eb,ah.cut,bt.cut]
 all_goals simp_all[bK,Eb,bt.cut]
def Holds.cut{c:Ctx}{U:bc}{a:Act}{w:World}{key:Nat}{x:X}(h:Holds c a w key x)(f:eP U (key,x)=true):Holds (c.cut U) a w key x:=by
 unfold Holds at *;unfold eP at f;split at h
 ·rename_i A;rw[Zn A];rw[Zn (by simp_all)]at f;exact h.cut f
 rename_i A;rw[Zm A];rw[Zm (by simp_all)]at f;refine cD h fun h=>?_
 split at h
 ·rename_i j;rw[Zn j];obtain⟨b,o,q,p,C⟩:=h;cases x
  case box cells=>
   obtain⟨T,vs,V,B⟩:=C;simp only[Zw]at f;exact⟨b,o,by simp only[Ctx.cut,FF f.1,if_true];exact q,p,T,vs,V,ah.cut (R':=aV (c.cut U)) (ok:=vt U) (fun _ _ h f=>aV.cut h f) B f.2⟩
  case omap es=>
   simp only at f;exact⟨b,o,by simp only[Ctx.cut,FF f,if_true];exact q,p,C⟩
  all_goals exact C.elim
 rename_i j;rw[Zm j];split at h
 ·rename_i i;rw[Zn i];obtain⟨D,rows,G,e,vs,u,q,p⟩:=h;cases x
  case arr sz' rows'=>exact⟨D,rows,G,e,vs,u,by simp only at f;simp only[Ctx.cut,FF f,if_true];exact q,p⟩
  case cM sz' pre mid post=>
   obtain⟨F,t,K,I,H,S,O,N,M⟩:=u;simp only[Zw]at f;exact⟨D,rows,G,e,vs,⟨F,t,K,I,H,S,O,ah.cut (R':=aV (c.cut U)) (ok:=vt U) (fun _ _ h f=>aV.cut h f) N f.2,M⟩,by simp only[Ctx.cut,FF f.1,if_true];exact q,p⟩
  all_goals exact u.elim
 rename_i i;rw[Zm i];obtain⟨v,J,g,B⟩:=h;refine⟨v,J,?_,B⟩;cases x
 case CI k Jb=>
  obtain⟨b,F,t⟩:=g;simp only at f;exact⟨b,by simp_all[Ctx.cut],t⟩
 all_goals first|exact g|exact g.elim
theorem cut_all{c:Ctx}{U:bc}{b:Nat}(e:(c.cut U).all b):c.all b:=by
 have i:∀k b,(c.cut U).loc k=some b->c.loc k=some b:=by simp[Ctx.cut]
 have j:∀k x,(c.cut U).arr k=some x->c.arr k=some x:=by simp[Ctx.cut]
 rcases e with g|⟨k,f⟩|⟨k,m,h,f,o⟩
 ·exact .inl g
 ·exact .inr (.inl ⟨k,i _ _ f⟩)
 exact .inr (.inr ⟨k,m,h,j _ _ f,o⟩)
def aM.cut{E:Env}{U:bc}{c:Ctx}{a:Act}{w:World}(h:aM E U c a w)(U':bc):aM E U' (c.cut U') a w:=by
 have u:∀k b,(c.cut U').loc k=some b->c.loc k=some b:=by simp[Ctx.cut]
 have o:∀k x,(c.cut U').arr k=some x->c.arr k=some x:=by simp[Ctx.cut]
 refine⟨h.below,h.hB,h.nt,⟨h.iP.1,fun d I=>by obtain⟨D,t,q,A,v⟩:=h.iP.2 d I;grind [cut_all]⟩,(fun p H=>by obtain⟨t,q⟩:=h.nS p H;grind [cut_all]),h.hw,h.hle,h.hnew,?_,?_,?_,fun b i=>⟨(h.Y b i).1,(h.Y b i).2.1,fun k f=>(h.Y b i).2.2.1 k (u k b f),fun k m g f=>(h.Y b i).2.2.2 k m g (o _ _ f)⟩,fun k b f C=>h.fB k b f (u _ _ C),fun k m g lv f F=>h.fQ k m g lv f (o _ _ F)⟩
 ·intro k b f;obtain⟨t,q,A,v,J⟩:=h.loc k b (u k b f);exact⟨t,q,A,fun j e=>v j (u _ _ e),fun j m g e=>J j m g (o _ _ e)⟩
 ·intro k m g b f i;obtain⟨t,q,A,v⟩:=h.arr k m g b (o _ _ f) i;exact⟨t,q,A,fun j G B e=>v j G B (o _ _ e)⟩
 simp_all[Ctx.cut]
def Le(s:St):St->Prop
 |[]=>True
 |p::r=>look s p.1=some p.2/\Le s r
theorem Le.look{s:St}:∀{r:St},Le s r->∀k x,look r k=some x->look s k=some x
 |[],_,_,_,h=>by cases h
 |p::r,h,k,x,hx=>by
  simp only[Ab.look]at hx;split at hx
  ·rename_i c;have:=Nat.eq_of_beq_eq_true c;cases hx;rw[←this];exact h.1
  exact Le.look h.2 k x hx
def Good.le{E:Env}{U U':bc}{s s':St}{a:Act}{w:World}(h:Good E U s a w)(f:Le s s')(i:s'.all (eP U')=true):Good E U' s' a w:=by
 obtain⟨c,g,hh⟩:=h;refine⟨c.cut U',g.cut U',fun key x e=>Holds.cut (hh key x (f.look key x e)) ?_⟩;grind [cm]
def cw{k n n':Nat}(h:n=n'):some (X.own k n)=some (X.own k n'):=by rw[h]
def bH{sz:Nat}{rows rows':List bi}(h:rows=rows'):some (X.arr sz rows)=some (X.arr sz rows'):=by rw[h]
inductive Kn where
 |code (c:Code)
 |blk (id:Nat)
 |lp (J:bc->St->Prop)
def den(E:Env)(Q:bo):List Kn->bo
 |[],e,U,s=>Q e U s
 |.code c::k,.normal,U,s=>OK E c (den E Q k) U s
 |.code _::k,e,U,s=>den E Q k e U s
 |.blk id::k,.exit i,U,s=>if Nat.beq i id then den E Q k .normal U s else den E Q k (.exit i) U s
 |.blk _::k,e,U,s=>den E Q k e U s
 |.lp J::_,.normal,U,s=>J U s
 |.lp _::k,e,U,s=>den E Q k e U s
section
variable{E:Env}{Q:bo}{k:List Kn}{U:bc}{s:St}
def D.code{c:Code}(h:OK E c (den E Q k) U s):den E Q (.code c::k) .normal U s:=h
def D.blk{c:Nat}(h:den E Q k .normal U s):den E Q (.blk c::k) .normal U s:=h
def D.lp{J:bc->St->Prop}(h:J U s):den E Q (.lp J::k) .normal U s:=h
def D.ret(h:Q .ret U s){k:List Kn}:den E Q k .ret U s:=by
 induction k with
 |nil=>exact h
 |cons x k c=>cases x<;>exact c
def xx(c:Nat):List Kn->Option (List Kn)
 |[]=>none
 |.blk i::k=>if Nat.beq c i then some k else xx c k
 |_::k=>xx c k
def D.exit{j:Nat}{f:List Kn}(h:den E Q f .normal U s){k:List Kn}(e:xx j k=some f):den E Q k (.exit j) U s:=by
 induction k with
 |nil=>cases e
 |cons x k g=>
  cases x with
  |code c=>exact g e
  |lp J=>exact g e
  |blk i=>
   grind [den,xx]
def OK.mono{g:bo}{c:Code}(h:OK E c Q U s)(i:∀e U s,Q e U s->g e U s):OK E c g U s:=
 fun a w j=>wpIn_mono (h a w j) fun _ _ _ ⟨U',s',f,o⟩=>⟨U',s',f,i _ _ _ o⟩
def OK.weak{U':bc}{s':St}{c:Code}(h:OK E c Q U' s')(f:Le s s')(e:s'.all (eP U')=true):OK E c Q U s:=
 fun a w g=>h a w (g.le f e)
def OK.skip(h:den E Q k .normal U s):OK E .skip (den E Q k) U s:=fun _ _ c=>wpIn_skip ⟨U,s,c,h⟩
def OK.ret(h:Q .ret U s):OK E .ret (den E Q k) U s:=fun _ _ c=>wpIn_ret ⟨U,s,c,D.ret h⟩
def OK.exit{e:Nat}{c:List Kn}(f:xx e k=some c)(h:den E Q c .normal U s):OK E (.exit e) (den E Q k) U s:=fun _ _ g=>wpIn_exit ⟨U,s,g,D.exit h f⟩
def OK.seq{x y:Code}(h:OK E x (den E Q (.code y::k)) U s):OK E (.seq x y) (den E Q k) U s:=by
 intro a w i;refine wpIn_seq (wpIn_mono (h a w i) ?_);rintro e j g ⟨U',s',c,f⟩;cases e with
 |normal=>exact f j g c
 |_=>exact⟨U',s',c,f⟩
def OK.block{g:Nat}{x:Code}(h:OK E x (den E Q (.blk g::k)) U s):OK E (.block g x) (den E Q k) U s:=by
 intro a w o;refine wpIn_block (wpIn_mono (h a w o) ?_);rintro e t q ⟨U',s',f,c⟩;cases e with
 |exit i=>
  simp only[Exit.inBlock];simp only[den]at c;split
  ·rename_i j;rw[Zn (by simp_all)]at c;grind
  rename_i j;rw[Zm (fun p=>j (Nat.eq_of_beq_eq_true p))]at c;grind
 |_=>exact⟨U',s',f,c⟩
def OK.cond{t:Nat}{b:Bool}{x y:Code}(g:Nat.blt t 1000=true)(o:look s t=some (.bool b))(j:b=true->OK E x Q U s)(i:b=false->OK E y Q U s):OK E (.cond (.tmp t) x y) Q U s:=by
 intro a w p;obtain⟨c,h,hh⟩:=p;have f:=hh t _ o;rw[rb]at g;simp only[Holds,Zn g,bK,bt,aV,cq]at f;have q:a.eval (.tmp t)=.bool b:=by
  show a.tmps.getD t undef=.bool b;generalize a.tmps.getD t undef=v at f;cases f;rfl
 refine wpIn_cond_split q (fun e=>j e a w ⟨c,h,hh⟩) (fun e=>i e a w ⟨c,h,hh⟩)
def yy{ac:Fence}{n:Nat}{P:Program}{R:Exit->Act->World->Prop}{a:Act}{w:World}{c:Code}{G:Type}(am:G->Act->World->Prop)(μ:G->Nat)(M:G)(h0:am M a w)
  (round:∀g a w,am g a w->c.wpIn ac n P (Exit.then (fun A v=>∃N,am N A v/\μ N<μ g) R) a w):(Code.loop c).wpIn ac n P R a w:=by
 intro b k cs H K I;have key:∀j g a w,μ g=j->am g a w->∃e A v,R e A v/\ArrivesIn (Machine.fenced P ac) P (lone (b.atR a (.code c::.inLoop c::k)) cs w) b k cs e A v:=by
  intro j
  induction j using Nat.strongRecOn with
  |_ j ih=>
   intro g a w O S;obtain⟨e,i,h,p,f⟩:=round g a w S b (.inLoop c::k) cs H K I;cases e with
   |normal=>
    obtain⟨q,u,J⟩:=p;obtain⟨C,D,B,t,o⟩:=ih (μ q) (O▸J) q i h rfl u;exact⟨C,D,B,t,.of_steps (StepsIn.trans f (.one (fenced_calm K I rfl) stepR_inLoop)) o⟩
   |exit id=>exact⟨_,i,h,p,.pass (x:=.inLoop c) rfl (fun _ _=>.inl F) f⟩
   |goto l=>exact⟨_,i,h,p,.pass (x:=.inLoop c) rfl (fun _ _=>.inl F) f⟩
   |ret=>exact⟨_,i,h,p,.pass (x:=.inLoop c) rfl (fun _ _=>.inl F) f⟩
   |panic ch=>exact⟨_,i,h,p,.pass (x:=.inLoop c) rfl (fun _ _=>.inl F) f⟩
   |outgrown=>exact⟨_,i,h,p,.pass (x:=.inLoop c) rfl (fun _ _=>.inl F) f⟩
 obtain⟨e,A,v,p,f⟩:=key _ M a w rfl h0;exact⟨e,A,v,p,.of_steps (.one (fenced_calm K I rfl) stepR_loop) f⟩
def OK.loop{G:Type}(u:bc)(st:G->St)(pre:G->Prop)(μ:G->Nat){body:Code}(h:G)(h0:pre h)(F:Le s (st h))(B:∀g,(st g).all (eP u)=true)
  (c:∀g,pre g->OK E body (den E Q (.lp (fun _ s'=>∃t,pre t/\μ t<μ g/\Le s' (st t))::k)) u (st g)):OK E (.loop body) (den E Q k) U s:=by
 intro a w H;refine yy (fun g v i=>pre g/\Good E u (st g) v i) μ h ⟨h0,H.le F (B h)⟩ ?_;rintro g v i ⟨D,q⟩;refine wpIn_mono (c g D v i q) ?_;rintro e K J ⟨I,C,f,A⟩;cases e with
 |normal=>
  obtain⟨g2,j,o,p⟩:=A;exact⟨g2,⟨j,f.le p (B g2)⟩,o⟩
 |_=>exact⟨I,C,f,A⟩
def yz{J J':bc->St->Prop}(h:∀U s,J U s->J' U s):∀e U s,den E Q (.lp J::k) e U s->den E Q (.lp J'::k) e U s:=by
 intro e U s c;cases e with
 |normal=>exact h U s c
 |_=>exact c
def OK.mP{A B:Type}(u:bc)(st:A->B->St)(pre:A->B->Prop)(μ:A->B->Nat){body:Code}(f:A)(b0:B)(h0:pre f b0)(p:Le s (st f b0))(o:∀a b,(st a b).all (eP u)=true)
  (c:∀a b,pre a b->OK E body (den E Q (.lp (fun _ s'=>∃i e,pre i e/\μ i e<μ a b/\Le s' (st i e))::k)) u (st a b)):OK E (.loop body) (den E Q k) U s:=
 OK.loop (G:=A×B) u (fun g=>st g.1 g.2) (fun g=>pre g.1 g.2) (fun g=>μ g.1 g.2) (f,b0) h0 p (fun g=>o g.1 g.2) fun g j=>(c g.1 g.2 j).mono (yz fun _ _ ⟨a,b,h⟩=>⟨(a,b),h⟩)
def OK.FH{A B ab:Type}(u:bc)(st:A->B->ab->St)(pre:A->B->ab->Prop)(μ:A->B->ab->Nat){body:Code}(j:A)(b0:B)(c0:ab)(h0:pre j b0 c0)(t:Le s (st j b0 c0))(q:∀a b c,(st a b c).all (eP u)=true)
  (e:∀a b c,pre a b c->OK E body (den E Q (.lp (fun _ s'=>∃o i f,pre o i f/\μ o i f<μ a b c/\Le s' (st o i f))::k)) u (st a b c)):OK E (.loop body) (den E Q k) U s:=
 OK.loop (G:=A×B×ab) u (fun g=>st g.1 g.2.1 g.2.2) (fun g=>pre g.1 g.2.1 g.2.2) (fun g=>μ g.1 g.2.1 g.2.2) (j,b0,c0) h0 t (fun g=>q g.1 g.2.1 g.2.2) fun g p=>(e g.1 g.2.1 g.2.2 p).mono (yz fun _ _ ⟨a,b,c,h⟩=>⟨(a,b,c),h⟩)
def OK.Io{A B ab D:Type}(u:bc)(st:A->B->ab->D->St)(pre:A->B->ab->D->Prop)(μ:A->B->ab->D->Nat){body:Code}(p:A)(b0:B)(c0:ab)(f:D)(h0:pre p b0 c0 f)(C:Le s (st p b0 c0 f))(v:∀a b c d,(st a b c d).all (eP u)=true)
  (e:∀a b c d,pre a b c d->OK E body (den E Q (.lp (fun _ s'=>∃q o j i,pre q o j i/\μ q o j i<μ a b c d/\Le s' (st q o j i))::k)) u (st a b c d)):OK E (.loop body) (den E Q k) U s:=
 OK.loop (G:=A×B×ab×D) u (fun g=>st g.1 g.2.1 g.2.2.1 g.2.2.2) (fun g=>pre g.1 g.2.1 g.2.2.1 g.2.2.2) (fun g=>μ g.1 g.2.1 g.2.2.1 g.2.2.2) (p,b0,c0,f) h0 C (fun g=>v g.1 g.2.1 g.2.2.1 g.2.2.2) fun g t=>(e g.1 g.2.1 g.2.2.1 g.2.2.2 t).mono (yz fun _ _ ⟨a,b,c,d,h⟩=>⟨(a,b,c,d),h⟩)
end
end Go.Ab
namespace Go.Ab
open Go.RowKit
def Cs:Value->X
 |.int k n=>.int k n
 |.bool b=>.bool b
 |.string s=>.str s.data.toList
 |.slice none 0 0=>.bO
 |v=>.raw v
def qF:Value->Bool
 |.int k n=>k.wrap n==n
 |.string s=>Nat.ble (R s.data.toList) maxLen
 |_=>true
def Cu{c:Ctx}{v:Value}(h:qF v=true):aV c (Cs v) v:=by
 cases v with
 |int k n=>exact ay.int (by grind [qF])
 |bool b=>exact ay.bool b
 |string s=>exact ay.str (h:=c.h) s.data.toList (by simpa[qF]using h)
 |slice a l e=>
  cases a with
  |none=>cases l with
   |zero=>cases e<;>exact rfl
   |succ l=>exact rfl
  |some a=>exact rfl
 |_=>exact rfl
inductive bI(s:St):Operand->X->St->Prop
 |tmp {t:Nat} {y:X}:Nat.blt t 1000=true->look s t=some y->bI s (.tmp t) y [(t,y)]
 |af {k:IntKind} {n:Int}:k.wrap n=n->bI s (.const (.int k n)) (.int k n) []
 |aJ {b:Bool}:bI s (.const (.bool b)) (.bool b) []
 |bj {bs:ByteArray} {l:ba}:bs=⟨l.toArray⟩->l.length<=maxLen->bI s (.const (.string bs)) (.str l) []
 |fW:bI s (.const (.slice none 0 0)) (.sl []) []
 |oL {f:Nat}:bI s (.func f) (.fn f []) []
 |HF:bI s (.const (.slice none 0 0)) .bO []
 |HG {vs:Array Value} {xs:bi}:vs.toList.map Cs=xs->vs.toList.all qF=true->bI s (.const (.agg vs)) (.agg xs) []
 |lq {v:Value}:bI s (.const v) (.raw v) []
theorem mW{c:Ctx}:∀{vs:List Value},vs.all qF=true->ah (aV c) (vs.map Cs) vs
 |[],_=>trivial
 |v::vs,h=>by simp only[so,Zw]at h;exact⟨Cu h.1,mW h.2⟩
def ay.ef{c:Ctx}{x:X}{v:Value}(h:ay c.h x v):bK c x v:=by
 cases h with
 |int e=>exact .int e
 |bool b=>exact .bool b
 |str s e=>exact .str s e
 |rP a cap e=>exact .rP a cap e
 |sl rows b off cap j vs i g f q p o=>exact .sl rows b off cap j vs i g f q p o
 |b5 cells b off vs i g f=>exact .b5 cells b off vs i g f
 |raw u e=>exact rfl
def ay.Aa{c:Ctx}{x:X}{v:Value}(h:ay c.h x v):aV c x v:=by
 cases h with
 |int e=>exact .int e
 |bool b=>exact .bool b
 |str s e=>exact .str s e
 |rP a cap e=>exact .rP a cap e
 |sl rows b off cap j vs i g f q p o=>exact .sl rows b off cap j vs i g f q p o
 |b5 cells b off vs i g f=>exact .b5 cells b off vs i g f
 |raw u e=>exact rfl
def Holds.slot{c:Ctx}{a:Act}{w:World}{t:Nat}{x:X}(h:Holds c a w t x)(e:Nat.blt t 1000=true):bK c x (a.tmps.getD t undef):=by
 simp_all[Holds]
def bI.looks{s:St}{o:Operand}{y:X}{r:St}(h:bI s o y r):ZY s r:=by
 cases h with
 |tmp _ h=>exact⟨h,Zo⟩
 |_=>exact trivial
def bI.rep{s:St}{o:Operand}{y:X}{r:St}(h:bI s o y r){c:Ctx}{a:Act}{w:World}(f:∀p∈r,Holds c a w p.1 p.2):bK c y (a.eval o):=by
 cases h with
 |tmp ht _=>exact(f _ rv).slot ht
 |af e=>exact ay.ef (.int e)
 |aJ=>exact ay.ef (.bool _)
 |bj e hl=>subst e;exact ay.ef (.str _ hl)
 |fW=>exact ay.ef (.rP none 0 (Zr _))
 |oL=>exact⟨[],rfl,Zo⟩
 |HF=>exact rfl
 |HG e hl=>subst e;exact⟨_,by rfl,mW hl⟩
 |lq=>exact rfl
inductive Gd(all:Array Oper)(s:St):Option (Nat×Bool)->St->Prop
 |none:Gd all s none []
 |yes {j t:Nat} {b b':Bool}:(all[j]?).bind (·.dst)=some t->Nat.blt t 1000=true->look s t=some (.bool b')->b'=b->Gd all s (some (j,b)) [(t,.bool b')]
def Gd.looks{all:Array Oper}{s:St}{g:Option (Nat×Bool)}{r:St}(h:Gd all s g r):ZY s r:=by
 cases h with
 |none=>exact trivial
 |yes _ _ h _=>exact⟨h,Zo⟩
def s7{c:Ctx}{a:Act}{t:Nat}{b:Bool}(h:bK c (.bool b) (a.tmps.getD t undef)):a.tmps[t]?=some (.bool b):=by
 have e:a.tmps.getD t undef=.bool b:=by
  generalize a.tmps.getD t undef=v at h;cases h;rfl
 simp only[Array.getD]at e;split at e
 ·simp_all
 cases e
def Gd.wanted{all:Array Oper}{s:St}{o:Oper}{r:St}(h:Gd all s o.guard r){c:Ctx}{a:Act}{w:World}(e:∀p∈r,Holds c a w p.1 p.2):
  Region.wanted o (yielded all a.tmps)=true:=by
 unfold Region.wanted;generalize o.guard=g at h;cases h with
 |none=>rfl
 |yes hd ht _ he=>
  subst he;have:=s7 ((e _ rv).slot ht);grind [yielded]
def ZY.app{s:St}:∀{r r':St},ZY s r->ZY s r'->ZY s (r++r')
 |[],_,_,h=>h
 |_::_,_,h,h'=>⟨h.1,ZY.app h.2 h'⟩
def aW(E:Env)(all:Array Oper)(o:Oper)(s rd wr:St)(al:bc):Prop:=Step E all o rd wr al/\ZY s rd
def Lx.c{E:Env}{all:Array Oper}{o:Oper}{l:List Oper}{U U':bc}{s s':St}{L:List Lab}{rd wr:St}{al:bc}(h:aW E all o s rd wr al)
 (e:Lx E all l (al++U) (wr++s) L U' s') (f:(al.all fun k=>!U.contains k)=true:=by rfl):Lx E all (o::l) U s (⟨rd,wr,al⟩::L) U' s':=.cons h.1 h.2 f e
def mX:Op->Bool
 |.defer _=>true
 |_=>false
def aM.put{E:Env}{U:bc}{c:Ctx}{a:Act}{w:World}(h:aM E U c a w)(d:Option Tmp)(v:Value):aM E U c (a.put d v) w:=by
 refine⟨h.below,h.hB,?_,?_,h.nS,h.hw,h.hle,h.hnew,h.loc,h.arr,h.used,h.Y,h.fB,h.fQ⟩
 ·cases d<;>simp[Act.put,h.nt]
 cases d<;>exact h.iP
def Holds.put{c:Ctx}{a:Act}{w:World}{d key:Nat}{x:X}(h:Holds c a w key x)(e:d≠key)(v:Value):Holds c (a.put (some d) v) w key x:=by
 simp_all[Holds,Act.put]
def cE{a:Act}{d:Nat}(hd:d<a.tmps.size)(v:Value):(a.put (some d) v).tmps.getD d undef=v:=by
 simp[Act.put,hd]
def IU(E:Env)(op:Op)(o:Oper)(r wr:St)(al:bc)(x:X):Prop:=
 ∀(U:bc)(c:Ctx)(a:Act)(w:World),aM E U c a w->(∀p∈r,Holds c a w p.1 p.2)->(∀k∈al,k∉U)->
  ∃v e f,(execOp a.eval {o with op:=op}).run E.P w=.ok (.value v) f/\aM E (al++U) e a f/\Ext c e/\bK e x v/\
   (∀p∈wr,¬p.1<1000/\Holds e a f p.1 p.2)/\(∀key y,¬key<1000->(∀p∈wr,p.1≠key)->Holds c a w key y->Holds e a f key y)
def aW.mk{E:Env}{all:Array Oper}{s r rg wr:St}{al:bc}{d ty:Nat}{op:Op}{pos:String}{after:Array Edge}{guard:Option (Nat×Bool)}{x:X}
  (H:Gd all s guard rg) (hd:ca E d=true) (i:mX op=false) (T:ZY s r)
  (h:IU E op ⟨some d,op,ty,pos,after,guard⟩ r wr al x):aW E all ⟨some d,op,ty,pos,after,guard⟩ s (rg++r) ((d,x)::wr) al:=by
 simp only[Zw,rb]at hd;refine⟨?_,H.looks.app T⟩;intro U c a w J F D next Q S
 obtain⟨v,V,M,q,C,g,N,j,A⟩:=h U c a w J (fun p f=>F p (ui _ f)) D;have hw:=H.wanted (o:=⟨some d,op,ty,pos,after,guard⟩) (fun p f=>F p (sb _ f));unfold gh;rw[Zn hw];refine⟨fun _ _=>trivial,?_⟩;have O:Oper.semAt E.ac.round a.eval ⟨some d,op,ty,pos,after,guard⟩=execOp a.eval ⟨some d,op,ty,pos,after,guard⟩:=
  Oper.semAt_eq _ _ _ fun cl I=>by simp only at I;rw[I]at i;cases i
 rw[O,q];have B:d<a.tmps.size:=by rw[J.nt];exact hd.2
 refine S V _ M (C.put _ _) g ?_ ?_
 ·intro p f;rcases sf.1 f with rfl|f
  ·unfold Holds;rw[Zn hd.1,cE B];exact N
  exact(j p f).2.put (fun e=>(j p f).1 (e▸hd.1)) v
 intro key y G u;have t:d≠key:=G (d,x) rv;by_cases K:key<1000
 ·refine Holds.put ?_ t v;unfold Holds at u⊢;rw[Zn K]at u⊢;exact u.mono g
 exact(A key y K (fun p f=>G p (rl _ f)) u).put t v
def aW.val{E:Env}{all:Array Oper}{s r rg:St}{d ty:Nat}{op:Op}{pos:String}{after:Array Edge}{guard:Option (Nat×Bool)}{x:X}
  (i:Gd all s guard rg) (hd:ca E d=true) (e:mX op=false) (g:ZY s r)
  (h:∀(c:Ctx)(a:Act)(w:World),(∀p v,c.h p=some v->w.cell? p=some v)->(∀p∈r,Holds c a w p.1 p.2)->
   ∃v,(execOp a.eval ⟨some d,op,ty,pos,after,guard⟩).run E.P w=.ok (.value v) w/\bK c x v):aW E all ⟨some d,op,ty,pos,after,guard⟩ s (rg++r) [(d,x)] []:=by
 refine aW.mk i hd e g fun U c a w j f _=>?_
 obtain⟨v,q,o⟩:=h c a w j.hw f;grind [Ext.refl]
def step_skip{E:Env}{all:Array Oper}{s r:St}{d ty j:Nat}{op:Op}{pos:String}{after:Array Edge}{h:Bool}(u:ZY s r)(hd:ca E d=true)
  (t:∀c a w,(∀p∈r,Holds c a w p.1 p.2)->(yielded all a.tmps j==some h)=false):aW E all ⟨some d,op,ty,pos,after,some (j,h)⟩ s r [(d,.cf [])] []:=by
 simp only[Zw,rb]at hd;refine⟨?_,u⟩;intro U c a w e q _ next Q f
 have hw:Region.wanted (⟨some d,op,ty,pos,after,some (j,h)⟩:Oper) (yielded all a.tmps)=false:=t c a w q;unfold gh;rw[Zm (by grind)];have g:d<a.tmps.size:=by rw[e.nt];exact hd.2
 refine f c _ w (e.put _ _) (Ext.refl c) ?_ ?_
 ·intro p i;simp only[pi]at i;subst i;unfold Holds;rw[Zn hd.1,cE g];exact⟨[],rfl,Zo⟩
 intro key y v o;exact o.put (v (d,.cf []) F) _
def S.skip{E:Env}{all:Array Oper}{s:St}{d ty j t:Nat}{op:Op}{pos:String}{after:Array Edge}{b f:Bool}
  (g:(all[j]?).bind (·.dst)=some t) (e:Nat.blt t 1000=true) (i:look s t=some (.bool b)) (o:(b==f)=false) (hd:ca E d=true):aW E all ⟨some d,op,ty,pos,after,some (j,f)⟩ s [(t,.bool b)] [(d,.cf [])] []:=
 step_skip ⟨i,Zo⟩ hd fun c a w h=>by
  have p:=s7 ((h (t,.bool b) rv).slot e);simp only[yielded,g,bφ,p];simpa using o
def S.Hy{E:Env}{all:Array Oper}{s:St}{d ty j t:Nat}{op:Op}{pos:String}{after:Array Edge}{v:Bool}
  (h:(all[j]?).bind (·.dst)=some t) (f:Nat.blt t 1000=true) (o:look s t=some (.cf [])) (hd:ca E d=true):aW E all ⟨some d,op,ty,pos,after,some (j,v)⟩ s [(t,.cf [])] [(d,.cf [])] []:=
 step_skip ⟨o,Zo⟩ hd fun c a w i=>by
  obtain⟨vs,g,u⟩:=(i (t,.cf []) rv).slot f;have q:vs=[]:=ah.bJ u;subst q;have p:∀b,a.tmps[t]?≠some (.bool b):=fun b e=>by
   have:a.tmps.getD t undef=.bool b:=by simp[Array.getD_eq_getD_getElem?,e]
   rw[this]at g;cases g
  simp only[yielded,h,bφ]
  first
  |rfl
  |(split
    ·rename_i e;exact absurd e (p _)
    rfl)
end Go.Ab
namespace Go.Ab
open Go.RowKit
structure eT(P:Program)(T:TypeId)(agg:Bool)(sz:Nat):Prop where
 agg:∀w,(isAgg T).run P w=.ok agg w
 size:∀w,(sizeOf T).run P w=.ok sz w
structure dz(P:Program)(T f off:Nat):Prop where
 ex:∃fields fl n,P.underlying T=some (.struct fields)/\fields[f]?=some fl/\fl.offset=off/\n≠0/\∀w,(sizeOf fl.type).run P w=.ok n w
structure o7(P:Program)(t e sz:Nat):Prop where
 mD:P.underlying t=some (.slice e)
 size:∀w,(sizeOf e).run P w=.ok sz w
def cO:X->Bool
 |.cf _=>true
 |_=>false
def mU:X->Bool
 |.cf _|.agg _=>true
 |_=>false
def bR:X->Bool
 |.cf _|.agg _|.fn _ _=>true
 |_=>false
def cJ{c:Ctx}{k:IntKind}{n:Int}{v:Value}(h:bK c (.int k n) v):v=.int k n/\k.wrap n=n:=by cases h;simp_all
def gF{c:Ctx}{b:Bool}{v:Value}(h:bK c (.bool b) v):v=.bool b:=by cases h;rfl
def fS{c:Ctx}{l:ba}{v:Value}(h:bK c (.str l) v):v=.string ⟨l.toArray⟩/\R l<=maxLen:=by cases h;simp_all
section
variable{E:Env}{all:Array Oper}{s r r1 r2 r3 rg:St}{d ty:Nat}{pos:String}{after:Array Edge}{guard:Option (Nat×Bool)}{x y z:Operand}{k:IntKind}{m n:Int}{a b:Bool}
def S.move{u:X}(f:Gd all s guard rg)(hd:ca E d=true)(c:bI s x u r):aW E all ⟨some d,.move x,ty,pos,after,guard⟩ s (rg++r) [(d,u)] []:=
 aW.val f hd rfl c.looks fun _ _ _ _ e=>⟨_,rfl,c.rep e⟩
def S.assign{u:X}(f:Gd all s guard rg)(hd:ca E d=true)(c:bI s x u r):aW E all ⟨some d,.assign x,ty,pos,after,guard⟩ s (rg++r) [(d,u)] []:=
 aW.val f hd rfl c.looks fun _ _ _ _ e=>⟨_,rfl,c.rep e⟩
def S.aQ{u:X}(i:Gd all s guard rg)(hd:ca E d=true)(g:bI s x (.bool a) r1)(f:bI s y u r2)(j:a=true):
  aW E all ⟨some d,.pick x y z,ty,pos,after,guard⟩ s (rg++(r1++r2)) [(d,u)] []:=
 aW.val i hd rfl (g.looks.app f.looks) fun c A w _ h=>by
  have o:=gF (g.rep (c:=c) (a:=A) (w:=w) fun p e=>h p (by simp[e]));subst j;exact⟨_,by simp[execOp,o,asBool],f.rep fun p e=>h p (by simp[e])⟩
def S.aO{u:X}(i:Gd all s guard rg)(hd:ca E d=true)(g:bI s x (.bool a) r1)(f:bI s z u r2)(j:a=false):
  aW E all ⟨some d,.pick x y z,ty,pos,after,guard⟩ s (rg++(r1++r2)) [(d,u)] []:=
 aW.val i hd rfl (g.looks.app f.looks) fun c A w _ h=>by
  have o:=gF (g.rep (c:=c) (a:=A) (w:=w) fun p e=>h p (by simp[e]));subst j;exact⟨_,by simp[execOp,o,asBool],f.rep fun p e=>h p (by simp[e])⟩
def S.qG{op:BinOp}{t j:Nat}{u:X}{v:Value}(q:Gd all s guard rg)(hd:ca E d=true)(h:bI s x (.int k m) r1)(g:bI s y (.int k n) r2)
  (e:k.wrap m=m->k.wrap n=n->(∀w,(binOp op t (.int k m) (.int k n)).run E.P w=.ok v w)/\∀c,bK c u v):
  aW E all ⟨some d,.binOp op t x y j,ty,pos,after,guard⟩ s (rg++(r1++r2)) [(d,u)] []:=
 aW.val q hd rfl (h.looks.app g.looks) fun c A w _ i=>by
  obtain⟨F,H⟩:=cJ (h.rep (c:=c) (a:=A) (w:=w) fun p f=>i p (by simp[f]));obtain⟨D,G⟩:=cJ (g.rep (c:=c) (a:=A) (w:=w) fun p f=>i p (by simp[f]));obtain⟨C,B⟩:=e H G;refine⟨v,?_,B c⟩;have o:(eqGuard op t x y (.int k m) (.int k n)).run E.P w=.ok () w:=by cases op<;>simp[eqGuard]
  simp[execOp,F,D,o,C]
def S.add{t e:Nat}{q:Int}(i:Gd all s guard rg)(hd:ca E d=true)(g:bI s x (.int k m) r1)(f:bI s y (.int k n) r2)(h:k.wrap (m+n)=q)(c:k.wrap q=q):
  aW E all ⟨some d,.binOp .add t x y e,ty,pos,after,guard⟩ s (rg++(r1++r2)) [(d,.int k q)] []:=
 S.qG i hd g f fun _ _=>⟨fun w=>by simp[binOp,Op.intArith,h],fun _=>ay.ef (.int c)⟩
def S.sub{t e:Nat}{q:Int}(i:Gd all s guard rg)(hd:ca E d=true)(g:bI s x (.int k m) r1)(f:bI s y (.int k n) r2)(h:k.wrap (m - n)=q)(c:k.wrap q=q):
  aW E all ⟨some d,.binOp .sub t x y e,ty,pos,after,guard⟩ s (rg++(r1++r2)) [(d,.int k q)] []:=
 S.qG i hd g f fun _ _=>⟨fun w=>by simp[binOp,Op.intArith,h],fun _=>ay.ef (.int c)⟩
def S.mul{t e:Nat}{q:Int}(i:Gd all s guard rg)(hd:ca E d=true)(g:bI s x (.int k m) r1)(f:bI s y (.int k n) r2)(h:k.wrap (m * n)=q)(c:k.wrap q=q):
  aW E all ⟨some d,.binOp .mul t x y e,ty,pos,after,guard⟩ s (rg++(r1++r2)) [(d,.int k q)] []:=
 S.qG i hd g f fun _ _=>⟨fun w=>by simp[binOp,Op.intArith,h],fun _=>ay.ef (.int c)⟩
def S.quo{t e:Nat}{q:Int}(i:Gd all s guard rg)(hd:ca E d=true)(g:bI s x (.int k m) r1)(f:bI s y (.int k n) r2)(h0:n≠0)(h:k.wrap (m.tdiv n)=q)(c:k.wrap q=q):
  aW E all ⟨some d,.binOp .quo t x y e,ty,pos,after,guard⟩ s (rg++(r1++r2)) [(d,.int k q)] []:=
 S.qG i hd g f fun _ _=>⟨fun w=>by simp[binOp,Op.intDiv,h0,h],fun _=>ay.ef (.int c)⟩
def S.rem{t e:Nat}{q:Int}(i:Gd all s guard rg)(hd:ca E d=true)(g:bI s x (.int k m) r1)(f:bI s y (.int k n) r2)(h0:n≠0)(h:m.tmod n=q)(c:k.wrap q=q):
  aW E all ⟨some d,.binOp .rem t x y e,ty,pos,after,guard⟩ s (rg++(r1++r2)) [(d,.int k q)] []:=
 S.qG i hd g f fun _ _=>⟨fun w=>by simp[binOp,Op.intDiv,h0,h],fun _=>ay.ef (.int c)⟩
def S.lss{t c:Nat}(g:Gd all s guard rg)(hd:ca E d=true)(f:bI s x (.int k m) r1)(e:bI s y (.int k n) r2):
  aW E all ⟨some d,.binOp .lss t x y c,ty,pos,after,guard⟩ s (rg++(r1++r2)) [(d,.bool (decide (m<n)))] []:=
 S.qG g hd f e fun _ _=>⟨fun w=>by simp[binOp,Op.intCmp],fun _=>ay.ef (.bool _)⟩
def S.leq{t c:Nat}(g:Gd all s guard rg)(hd:ca E d=true)(f:bI s x (.int k m) r1)(e:bI s y (.int k n) r2):
  aW E all ⟨some d,.binOp .leq t x y c,ty,pos,after,guard⟩ s (rg++(r1++r2)) [(d,.bool (decide (m<=n)))] []:=
 S.qG g hd f e fun _ _=>⟨fun w=>by simp[binOp,Op.intCmp],fun _=>ay.ef (.bool _)⟩
def S.gtr{t c:Nat}(g:Gd all s guard rg)(hd:ca E d=true)(f:bI s x (.int k m) r1)(e:bI s y (.int k n) r2):
  aW E all ⟨some d,.binOp .gtr t x y c,ty,pos,after,guard⟩ s (rg++(r1++r2)) [(d,.bool (decide (n<m)))] []:=
 S.qG g hd f e fun _ _=>⟨fun w=>by simp[binOp,Op.intCmp],fun _=>ay.ef (.bool _)⟩
def S.geq{t c:Nat}(g:Gd all s guard rg)(hd:ca E d=true)(f:bI s x (.int k m) r1)(e:bI s y (.int k n) r2):
  aW E all ⟨some d,.binOp .geq t x y c,ty,pos,after,guard⟩ s (rg++(r1++r2)) [(d,.bool (decide (n<=m)))] []:=
 S.qG g hd f e fun _ _=>⟨fun w=>by simp[binOp,Op.intCmp],fun _=>ay.ef (.bool _)⟩
def S.eql{t c:Nat}(g:Gd all s guard rg)(hd:ca E d=true)(f:bI s x (.int k m) r1)(e:bI s y (.int k n) r2):
  aW E all ⟨some d,.binOp .eql t x y c,ty,pos,after,guard⟩ s (rg++(r1++r2)) [(d,.bool (decide (m=n)))] []:=
 S.qG g hd f e fun _ _=>⟨fun w=>by simp[binOp,Op.intCmp];by_cases h:m=n<;>simp[h],fun _=>ay.ef (.bool _)⟩
def S.neq{t c:Nat}(g:Gd all s guard rg)(hd:ca E d=true)(f:bI s x (.int k m) r1)(e:bI s y (.int k n) r2):
  aW E all ⟨some d,.binOp .neq t x y c,ty,pos,after,guard⟩ s (rg++(r1++r2)) [(d,.bool (decide (m≠n)))] []:=
 S.qG g hd f e fun _ _=>⟨fun w=>by simp[binOp,Op.intCmp];by_cases h:m=n<;>simp[h],fun _=>ay.ef (.bool _)⟩
theorem S.not{t:Nat}(g:Gd all s guard rg)(hd:ca E d=true)(e:bI s x (.bool a) r):
  aW E all ⟨some d,.unOp .not t x,ty,pos,after,guard⟩ s (rg++r) [(d,.bool (!a))] []:=
 aW.val g hd rfl e.looks fun c A w _ f=>⟨.bool !a,by simp[execOp,gF (e.rep (c:=c) (a:=A) (w:=w) f),Op.unary],ay.ef (.bool _)⟩
def S.neg{t:Nat}{q:Int}(i:Gd all s guard rg)(hd:ca E d=true)(f:bI s x (.int k m) r)(h:k.wrap (0 - m)=q)(e:k.wrap q=q):
  aW E all ⟨some d,.unOp .neg t x,ty,pos,after,guard⟩ s (rg++r) [(d,.int k q)] []:=
 aW.val i hd rfl f.looks fun c A w _ g=>⟨.int k q,by simp only[execOp,(cJ (f.rep (c:=c) (a:=A) (w:=w) g)).1,Op.unary,Op.intArith,h];rfl,ay.ef (.int e)⟩
def S.conv{t t':Nat}{e:IntKind}{q:Int}{g:TypeDesc}(o:Gd all s guard rg)(hd:ca E d=true)(h:bI s x (.int k m) r)
  (u:E.P.underlying t=some g) (p:E.P.underlying t'=some (.int e)) (j:e.wrap m=q) (f:e.wrap q=q):
  aW E all ⟨some d,.convert t t' x,ty,pos,after,guard⟩ s (rg++r) [(d,.int e q)] []:=
 aW.val o hd rfl h.looks fun c A w _ i=>⟨.int e q,by
  simp only[execOp,(cJ (h.rep (c:=c) (a:=A) (w:=w) i)).1,convert,Sem.run_bind,run_underlying u,run_underlying p,Result.andThen_ok,Conv.intToInt,j];rfl,ay.ef (.int f)⟩
def S.max2{t j i:Nat}(o:Gd all s guard rg)(hd:ca E d=true)(g:bI s x (.int k m) r1)(f:bI s y (.int k n) r2):
  aW E all ⟨some d,.call {callee:=.builtin .max,args:=#[x,y],argTypes:=#[j,i]},t,pos,after,guard⟩ s (rg++(r1++r2)) [(d,.int k (if m<n then n else m))] []:=
 aW.val o hd rfl (g.looks.app f.looks) fun c A w _ h=>by
  obtain⟨u,B⟩:=cJ (g.rep (c:=c) (a:=A) (w:=w) fun p e=>h p (by simp[e]));obtain⟨q,v⟩:=cJ (f.rep (c:=c) (a:=A) (w:=w) fun p e=>h p (by simp[e]));refine⟨.int k (if m<n then n else m),?_,ay.ef (.int (by grind))⟩;simp[execOp,resolve,invoke,builtin,u,q,Builtin.max_,Builtin.max2]
def S.min2{t j i:Nat}(o:Gd all s guard rg)(hd:ca E d=true)(g:bI s x (.int k m) r1)(f:bI s y (.int k n) r2):
  aW E all ⟨some d,.call {callee:=.builtin .min,args:=#[x,y],argTypes:=#[j,i]},t,pos,after,guard⟩ s (rg++(r1++r2)) [(d,.int k (if n<m then n else m))] []:=
 aW.val o hd rfl (g.looks.app f.looks) fun c A w _ h=>by
  obtain⟨u,B⟩:=cJ (g.rep (c:=c) (a:=A) (w:=w) fun p e=>h p (by simp[e]));obtain⟨q,v⟩:=cJ (f.rep (c:=c) (a:=A) (w:=w) fun p e=>h p (by simp[e]));refine⟨.int k (if n<m then n else m),?_,ay.ef (.int (by grind))⟩;simp[execOp,resolve,invoke,builtin,u,q,Builtin.min_,Builtin.min2]
def S.extract{i:Nat}{xs:bi}{u:X}(p:Gd all s guard rg)(hd:ca E d=true)(g:bI s x (.cf xs) r)(j:xs[i]?=some u)(f:cO u=false):
  aW E all ⟨some d,.extract x i,ty,pos,after,guard⟩ s (rg++r) [(d,u)] []:=
 aW.val p hd rfl g.looks fun c A w _ o=>by
  obtain⟨vs,t,q⟩:=g.rep (c:=c) (a:=A) (w:=w) o;obtain⟨v,h,e⟩:=q.eD j;refine⟨v,by simp[execOp,t,Instr.extract,h],?_⟩;cases u<;>first|exact e|cases f
def Gh{c:Ctx}{u:X}{v:Value}(h:bK c u v)(e:bR u=false):cq c u v:=by
 cases u<;>first|exact h|cases e
def S.dx{f:Nat}{u:X}(i:Gd all s guard rg)(hd:ca E d=true)(e:bI s x u r)(g:bR u=false):
  aW E all ⟨some d,.makeFunc (.func f) #[] #[x],ty,pos,after,guard⟩ s (rg++r) [(d,.fn f [u])] []:=
 aW.val i hd rfl e.looks fun c A w _ h=>⟨.func (.func f) #[] #[A.eval x],by simp[execOp,Instr.makeFunc],[A.eval x],rfl,Gh (e.rep h) g,Zo⟩
def S.s5{f:Nat}{u e:X}(t:Gd all s guard rg)(hd:ca E d=true)(j:bI s x u r1)(i:bI s y e r2)
  (q:bR u=false) (g:bR e=false):
  aW E all ⟨some d,.makeFunc (.func f) #[] #[x,y],ty,pos,after,guard⟩ s (rg++(r1++r2)) [(d,.fn f [u,e])] []:=
 aW.val t hd rfl (j.looks.app i.looks) fun c A w _ o=>⟨.func (.func f) #[] #[A.eval x,A.eval y],by simp[execOp,Instr.makeFunc],[A.eval x,A.eval y],rfl,Gh (j.rep fun p h=>o p (by simp[h])) q,Gh (i.rep fun p h=>o p (by simp[h])) g,Zo⟩
theorem add_off(b o n:Nat):(⟨b,o,none⟩:Addr).add n=⟨b,o+n,none⟩:=by
 simp[Addr.add]
def uv{c:Ctx}{cells:bi}{v:Value}(h:bK c (.b5 cells) v):∃(b off:Nat)(vs:List Value),v=.pointer (some ⟨b,off,none⟩)/\R cells=R vs/\(∀(i:Nat)(v:Value),vs[i]?=some v->c.h ⟨b,off+i,none⟩=some v)/\
  ∀(i:Nat)(x:X)(v:Value),cells[i]?=some x->vs[i]?=some v->ay c.h x v:=by
 cases h<;>grind
def iO{P:Program}{T:Nat}{sz:Nat}(c:eT P T false sz){b o:Nat}{v:Value}{w:World}(h:w.cell? ⟨b,o,none⟩=some v):(Instr.loadAt T (.pointer (some ⟨b,o,none⟩))).run P w=.ok v w:=by
 simp[Instr.loadAt,Instr.sureAddr,loadVar,c.agg,run_load,h]
def jd{P:Program}{T:Nat}{sz:Nat}(c:eT P T true sz){b o:Nat}{vs:List Value}{w:World}(e:R vs=sz)(h:∀(i:Nat)(v:Value),vs[i]?=some v->w.cell? ⟨b,o+i,none⟩=some v):
  (Instr.loadAt T (.pointer (some ⟨b,o,none⟩))).run P w=.ok (.agg vs.toArray) w:=by
 have:=run_loadCells_list (P:=P) (w:=w) ⟨b,o,none⟩ vs fun j v f=>by simp_all[add_off]
 rw[e]at this;simp[Instr.loadAt,Instr.sureAddr,loadVar,c.agg,c.size,this]
def S.Hz{T:Nat}{u:X}{us:bi}{sz:Nat}(i:eT E.P T false sz)(p:Gd all s guard rg)(hd:ca E d=true)(f:bI s x (.b5 us) r)(g:us[0]?=some u):
  aW E all ⟨some d,.load T x,ty,pos,after,guard⟩ s (rg++r) [(d,u)] []:=
 aW.val p hd rfl f.looks fun c A w hh j=>by
  obtain⟨b,off,vs,h,o,t,q⟩:=uv (f.rep (c:=c) (a:=A) (w:=w) j);have h0:0<R vs:=by rw[←o];exact(sT.1 g).1
  have e:vs[0]?=some vs[0]:=Zv h0;refine⟨vs[0],?_,ay.ef (q 0 u _ g e)⟩;simp only[execOp,h];rw[Sem.run_bind,iO i (hh _ _ (by simpa using t 0 _ e))];rfl
def S.fG{T n:Nat}{us vs:bi}(j:eT E.P T true n)(t:Gd all s guard rg)(hd:ca E d=true)(f:bI s x (.b5 us) r)(h:us.take n=vs)(p:Nat.ble n (R us)=true):
  aW E all ⟨some d,.load T x,ty,pos,after,guard⟩ s (rg++r) [(d,.agg vs)] []:=
 aW.val t hd rfl f.looks fun c A w hh o=>by
  subst h;rw[ky]at p;obtain⟨b,off,g,e,q,B,u⟩:=uv (f.rep (c:=c) (a:=A) (w:=w) o);refine⟨.agg (g.take n).toArray,?_,g.take n,rfl,ah.take n (ah.fb q fun i x v f e=>ay.Aa (u i x v f e))⟩;simp only[execOp,e];rw[Sem.run_bind,jd j (vs:=g.take n) (by simp;omega) fun i v e=>hh _ _ (B i v ?_)]
  ·rfl
  rw[H0]at e;split at e;exact e;cases e
theorem fD{c:Ctx}{a:Act}{w:World}{k:Nat}{cells:bi}(h:Holds c a w (1000+k) (.box cells))(e:k<1000):
  ∃b T vs,c.loc k=some b/\w.heap[b]?=some (.cells vs T (0,0))/\ah (aV c) cells vs.toList:=by
 unfold Holds at h;rw[Zm I,Zn I,H3]at h;rcases h with h|⟨b,o,i,g,T,vs,rfl,f⟩
 all_goals grind
def iB{c:Ctx}{k off:Nat}{v:Value}(h:bK c (.ptr k off) v):∃b,c.loc k=some b/\v=.pointer (some ⟨b,off,none⟩):=h
def ab.ef{c:Ctx}{u:X}{v:Value}(h:aV c u v)(e:mU u=false):bK c u v:=by
 cases u<;>first|exact h|cases e
def S.fc{T k off:Nat}{u:X}{us:bi}{sz:Nat}(B:eT E.P T false sz)(D:Gd all s guard rg)(hd:ca E d=true)(h:bI s x (.ptr k off) r)(j:Nat.blt k 1000=true)
  (G:look s (1000+k)=some (.box us)) (t:us[off]?=some u) (g:mU u=false):
  aW E all ⟨some d,.load T x,ty,pos,after,guard⟩ s (rg++(r++[(1000+k,.box us)])) [(d,u)] []:=
 aW.val D hd rfl (h.looks.app ⟨G,Zo⟩) fun c A w hh i=>by
  rw[rb]at j;obtain⟨b,J,q⟩:=iB (h.rep (c:=c) (a:=A) (w:=w) fun p C=>i p (by simp[C]));obtain⟨M,K,vs,o,I,H⟩:=fD (i (1000+k,.box us) F) j;rw[J]at o;cases o;obtain⟨v,e,f⟩:=H.eD t;refine⟨v,?_,ab.ef f g⟩;simp only[execOp,q];rw[Sem.run_bind,iO B (v:=v)]
  ·rfl
  rw[cell_of_row w b off vs K (0,0) I];simpa using e
def S.xK{T n k off:Nat}{us f:bi}(u:eT E.P T true n)(G:Gd all s guard rg)(hd:ca E d=true)(g:bI s x (.ptr k off) r)(j:Nat.blt k 1000=true)
  (H:look s (1000+k)=some (.box us)) (t:(us.drop off).take n=f) (C:Nat.ble (off+n) (R us)=true):
  aW E all ⟨some d,.load T x,ty,pos,after,guard⟩ s (rg++(r++[(1000+k,.box us)])) [(d,.agg f)] []:=
 aW.val G hd rfl (g.looks.app ⟨H,Zo⟩) fun c A w hh h=>by
  subst t;rw[rb]at j;rw[ky]at C;obtain⟨b,J,e⟩:=iB (g.rep (c:=c) (a:=A) (w:=w) fun p B=>h p (by simp[B]));obtain⟨M,K,vs,q,I,o⟩:=fD (h (1000+k,.box us) F) j;rw[J]at q;cases q;refine⟨.agg ((vs.toList.drop off).take n).toArray,?_,(vs.toList.drop off).take n,rfl,(o.drop off).take n⟩;simp only[execOp,e];have D:=o.length;rw[Sem.run_bind,jd u (vs:=(vs.toList.drop off).take n)]
  ·rfl
  ·simp at D⊢;omega
  intro i v e;rw[H0]at e;split at e
  ·rw[m9]at e;rw[cell_of_row w b (off+i) vs K (0,0) I];simpa using e
  cases e
def gZ{P:Program}{T f off:Nat}(e:dz P T f off)(b o:Nat)(w:World):(Instr.fieldAt T (.pointer (some ⟨b,o,none⟩)) f).run P w=.ok (.pointer (some ⟨b,o+off,none⟩)) w:=by
 obtain⟨c,q,n,p,j,i,h,g⟩:=e.ex;simp_all[Instr.fieldAt,run_underlying,Instr.sureAddr,fieldPlace,add_off]
def S.dH{T f k off o:Nat}(j:dz E.P T f o)(i:Gd all s guard rg)(hd:ca E d=true)(e:bI s x (.ptr k off) r):
  aW E all ⟨some d,.fieldAddr T x f,ty,pos,after,guard⟩ s (rg++r) [(d,.ptr k (off+o))] []:=
 aW.val i hd rfl e.looks fun c A w hh h=>by
  obtain⟨b,p,g⟩:=iB (e.rep (c:=c) (a:=A) (w:=w) h);exact⟨.pointer (some ⟨b,off+o,none⟩),by simp only[execOp,g];rw[Sem.run_bind,gZ j];rfl,b,p,rfl⟩
def S.field{T f o:Nat}{us g:bi}(u:dz E.P T f o)(t:Gd all s guard rg)(hd:ca E d=true)(h:bI s x (.b5 us) r)(j:us.drop o=g):
  aW E all ⟨some d,.fieldAddr T x f,ty,pos,after,guard⟩ s (rg++r) [(d,.b5 g)] []:=
 aW.val t hd rfl h.looks fun c A w hh p=>by
  subst j;obtain⟨b,off,vs,e,q,C,B⟩:=uv (h.rep (c:=c) (a:=A) (w:=w) p);refine⟨.pointer (some ⟨b,off+o,none⟩),by simp only[execOp,e];rw[Sem.run_bind,gZ u];rfl,.b5 _ b (off+o) (vs.drop o) (by simp[q]) ?_ ?_⟩
  ·intro i v e;rw[m9]at e;rw[Nat.add_assoc];exact C _ _ e
  intro i x v h e;rw[m9]at h e;exact B _ _ _ h e
def kg{c:Ctx}{rows:List bi}{v:Value}(h:bK c (.sl rows) v):∃a cap,v=.slice a (R rows) cap/\R rows<=cap/\cap<=maxLen/\(rows=[]\/∃(b off f:Nat)(vs:List Value),a=some ⟨b,off,none⟩/\(∀r∈rows,R r=f)/\R rows.flatten=R vs/\
  (∀(i:Nat)(v:Value),vs[i]?=some v->c.h ⟨b,off+i,none⟩=some v)/\∀(i:Nat)(x:X)(v:Value),rows.flatten[i]?=some x->vs[i]?=some v->ay c.h x v):=by
 cases h with
 |rP a cap e=>exact⟨a,cap,rfl,Zr _,e,.inl rfl⟩
 |sl _ b off cap f vs t q p o j g=>exact⟨_,cap,rfl,t,q,.inr ⟨b,off,f,vs,rfl,p,o,j,g⟩⟩
def bg{α:Type}{sz:Nat}:∀{rows:List (List α)},(∀r∈rows,R r=sz)->R rows.flatten=R rows * sz
 |[],_=>by simp
 |r::rows,h=>by
  rw[P1,Zs,bg (fun r c=>h r (rl _ c)),h r rv,tt,aρ];omega
def lT{α:Type}{sz:Nat}:∀{rows:List (List α)}(i:Nat){row:List α},(∀r∈rows,R r=sz)->rows[i]?=some row->(rows.flatten.drop (i * sz)).take sz=row
 |[],i,row,_,h=>by simp at h
 |r::rows,0,row,h,c=>by
  simp_all
 |r::rows,i+1,row,h,c=>by
  have e:=h r rv;rw[P1,aρ,cβ,Nat.add_comm,←eε];have:(r++rows.flatten).drop sz=rows.flatten:=by simp_all
  rw[this];exact lT i (fun r c=>h r (rl _ c)) (by grind)
def S.index{t e sz:Nat}{rows:List bi}{i:Int}{row:bi}(K:o7 E.P t e sz)(T:Gd all s guard rg)(hd:ca E d=true)(H:bI s x (.sl rows) r1)(G:bI s y (.int k i) r2)
  (h0:0<=i) (hi:rows[i.toNat]?=some row) (o:R row=sz):aW E all ⟨some d,.indexAddr t x y,ty,pos,after,guard⟩ s (rg++(r1++r2)) [(d,.b5 row)] []:=
 aW.val T hd rfl (H.looks.app G.looks) fun c A w hh M=>by
  obtain⟨a,cap,g,h1,Z,B⟩:=kg (H.rep (c:=c) (a:=A) (w:=w) fun p C=>M p (by simp[C]));obtain⟨hw,_⟩:=cJ (G.rep (c:=c) (a:=A) (w:=w) fun p C=>M p (by simp[C]));have q:i.toNat<R rows:=(sT.1 hi).1;rcases B with rfl|⟨b,off,f,vs,rfl,B,Y,X,W⟩
  ·simp at q
  have h:f=sz:=by rw[←o];exact(B row (mr hi)).symm
  subst h;have V:=bg B;have F:=lT i.toNat B hi;have O:i.toNat * f+f<=R rows * f:=by rw[←bρ];exact m8 _ q
  refine⟨.pointer (some ⟨b,off+i.toNat * f,none⟩),?_,.b5 row b (off+i.toNat * f) ((vs.drop (i.toNat * f)).take f) ?_ ?_ ?_⟩
  ·have D:i<(R rows:Int):=I
   simp[execOp,g,hw,Instr.indexAt,asIntOf,run_underlying K.mD,K.size,h0,D,add_off]
  ·rw[o];simp;omega
  ·intro j v g;rw[H0]at g;split at g
   ·rw[m9]at g;rw[Nat.add_assoc];exact X _ _ g
   cases g
  intro j u v J g;rw[H0]at g;split at g
  ·rename_i N;rw[m9]at g;rw[←F,H0,Zn N,m9]at J;exact W _ _ _ J g
  cases g
def mY{n:Nat}(h:n<=maxLen):IntKind.i64.wrap n=n:=by
 grind [maxLen,IntWalk.i64_in]
theorem S.len{t:Nat}{e sz:Nat}{rows:List bi}(h:o7 E.P t e sz)(j:Gd all s guard rg)(hd:ca E d=true)(f:bI s x (.sl rows) r):
  aW E all ⟨some d,.call {callee:=.builtin .len,args:=#[x],argTypes:=#[t]},ty,pos,after,guard⟩ s (rg++r) [(d,.int .i64 (R rows))] []:=
 aW.val j hd rfl f.looks fun c A w hh i=>by
  obtain⟨a,cap,g,p,o,_⟩:=kg (f.rep (c:=c) (a:=A) (w:=w) i);refine⟨.int .i64 (R rows),?_,ay.ef (.int (mY (ce p o)))⟩;simp[execOp,resolve,invoke,builtin,g,Builtin.len_,run_underlying h.mD,goInt]
def ei{c:Ctx}{a:Act}{w:World}{k sz:Nat}{rows:List bi}(h:Holds c a w (2000+k) (.arr sz rows)):
  ∃g e vs,c.arr k=some (R rows,g,true)/\w.ownsRow 0 e sz g (R rows) vs/\(∀r∈rows,R r=sz)/\ah (ay c.h) rows.flatten vs:=by
 unfold Holds at h;by_cases o:k<1000
 case neg=>
  rw[Zm I,Zm I,Zm I]at h;rcases h with h|⟨_,J,j,_⟩
  ·cases h
  cases j
 rw[Zm I,Zm I,Zn I,H3]at h;rcases h with h|⟨i,f,g,e,vs,⟨rfl,rfl,p⟩,u,t,q⟩
 all_goals grind
def BJ{c:Ctx}{a:Act}{w:World}{k sz:Nat}{rows:List bi}(h:Holds c a w (2000+k) (.arr sz rows)):k<1000:=by
 unfold Holds at h;refine aν fun f=>?_
 rw[Zm I,Zm I,Zm I]at h;rcases h with h|⟨_,J,e,_⟩
 ·cases h
 cases e
def S.Cv{t e sz k n f:Nat}{rows:List bi}(B:o7 E.P t e sz)(I:Gd all s guard rg)(hd:ca E d=true)(i:bI s x (.own k n) r)(H:look s (2000+k)=some (.arr f rows))(D:R rows=n):
  aW E all ⟨some d,.call {callee:=.builtin .len,args:=#[x],argTypes:=#[t]},ty,pos,after,guard⟩ s (rg++(r++[(2000+k,.arr f rows)])) [(d,.int .i64 n)] []:=
 aW.val I hd rfl (i.looks.app ⟨H,Zo⟩) fun c A w hh j=>by
  subst D;obtain⟨_,m,v,lv,o,X,O⟩:=i.rep (c:=c) (a:=A) (w:=w) fun p C=>j p (by simp[C])
  obtain⟨u,Y,vs,N,M,W,V⟩:=ei (j (2000+k,.arr f rows) F);rw[N]at o;cases o;have h:=O rfl;have hlen:∃a q,v=.slice a (R rows) q/\R rows<=maxLen:=by
   rcases M.2 with⟨rfl,h0⟩|⟨g,cap,T,rfl,_,_,K,J,_⟩
   ·exact⟨none,0,by rw[h0],by rw[h0];exact Zr _⟩
   exact⟨_,_,rfl,ce K J⟩
  obtain⟨a,q,rfl,G⟩:=hlen;refine⟨.int .i64 (R rows),?_,ay.ef (.int (mY G))⟩;simp[execOp,resolve,invoke,builtin,h,Builtin.len_,run_underlying B.mD,goInt]
def S.dP{t:Nat}{l:ba}(h:E.P.underlying t=some .string)(j:Gd all s guard rg)(hd:ca E d=true)(f:bI s x (.str l) r):
  aW E all ⟨some d,.call {callee:=.builtin .len,args:=#[x],argTypes:=#[t]},ty,pos,after,guard⟩ s (rg++r) [(d,.int .i64 (R l))] []:=
 aW.val j hd rfl f.looks fun c A w hh i=>by
  obtain⟨g,o⟩:=fS (f.rep (c:=c) (a:=A) (w:=w) i);refine⟨.int .i64 (R l),?_,ay.ef (.int (mY o))⟩;have e:(⟨l.toArray⟩:ByteArray).size=R l:=by show l.toArray.size=_;simp
  simp[execOp,resolve,invoke,builtin,g,Builtin.len_,run_underlying h,goInt,e]
end
end Go.Ab
namespace Go.Ab
open Go.RowKit
def Ct(P:Program)(f:Nat)(args:bi)(res:X):Prop:=
 ∀(h:Mem)(w:World)(vs:List Value),(∀p v,h p=some v->w.cell? p=some v)->ah (bt (aD h)) args vs->
  Calls P f vs.toArray w fun e g=>∃v c,e=.returned v/\Below w.heap.size w g/\Mem.le h c/\(∀p v,c p=some v->h p=some v\/w.heap.size<=p.block)/\
   (∀p v,c p=some v->g.cell? p=some v)/\bK (aD c) res v
def yG:X->Bool
 |.int _ _|.bool _|.str _|.sl _|.b5 _=>true
 |.raw v=>v.oneCell'
 |_=>false
def ay.qn{h:Mem}{u v:Value}(e:v=u)(c:u.oneCell'=true):ay h (.raw u) v:=by subst e;exact .raw _ c
def F1{c:Ctx}{u:X}{v:Value}(h:aV c u v)(e:yG u=true):ay c.h u v:=by
 cases u<;>first|exact h|exact ay.qn h e|cases e
def lF{c:Ctx}:∀{us:bi}{vs:List Value},ah (aV c) us vs->us.all yG=true->ah (ay c.h) us vs
 |[],[],_,_=>trivial
 |_::_,_::_,h,ho=>by simp only[so,Zw]at ho;exact⟨F1 h.1 ho.1,lF h.2 ho.2⟩
 |[],_::_,h,_=>h.elim
 |_::_,[],h,_=>h.elim
inductive kx(fs:bc)(s:St):X->X->Prop
 |same {x:X}:vt [] x=true->kx fs s x x
 |own {k n sz:Nat} {rows:List bi} (hk:Nat.blt k 1000=true) (hl:look s (2000+k)=some (.arr sz rows)) (hn:rows.length=n) (hk9:fs.contains k=false:=by rfl):kx fs s (.own k n) (.sl rows)
 |bO:kx fs s .bO (.sl [])
 |ptr {k off:Nat} {cells cells':bi} (hk:Nat.blt k 1000=true) (hl:look s (1000+k)=some (.box cells)) (hD:cells.all yG=true) (hd:cells.drop off=cells') (hk9:fs.contains k=false:=by rfl):kx fs s (.ptr k off) (.b5 cells')
def Ay:X->Bool
 |.fn _ _=>true
 |_=>false
inductive wF(fs:bc)(s:St):X->X->Prop
 |c {x y:X}:kx fs s x y->mU x=false->wF fs s x y
 |agg {xs ys:bi}:ah (kx fs s) xs ys->wF fs s (.agg xs) (.agg ys)
 |fn {f:Nat} {xs ys:bi}:ah (kx fs s) xs ys->xs.all (fun x=>!Ay x)=true->wF fs s (.fn f xs) (.fn f ys)
def aM.wG{E:Env}{U:bc}{c:Ctx}{a:Act}{w:World}(e:aM E U c a w){k b:Nat}(h:c.loc k=some b)(f:k∉E.fs):¬c.out E.fs b:=by
 rintro(hy|⟨k',h1,h2⟩|⟨k',m,hv,h1,h2,h3⟩)
 ·exact(e.Y b hy).2.2.1 k h
 ·exact f ((e.loc k b h).2.2.2.1 k' h2▸h1)
 exact(e.loc k b h).2.2.2.2 k' m hv h2 h3
def aM.wH{E:Env}{U:bc}{c:Ctx}{a:Act}{w:World}(g:aM E U c a w){k m b:Nat}{f:Value}(h:c.arr k=some (m,f,true))(e:f.ownBlock=some b)(i:k∉E.fs):¬c.out E.fs b:=by
 rintro(hy|⟨k',h1,h2⟩|⟨k',m',hv',h1,h2,h3⟩)
 ·exact(g.Y b hy).2.2.2 k m f h e
 ·exact(g.loc k' b h2).2.2.2.2 k m f h e
 exact i ((g.arr k m f b h e).2.2.2 k' m' hv' h2 h3▸h1)
def aM.Fs{E:Env}{U:bc}{c:Ctx}{a:Act}{w:World}(f:aM E U c a w){b:Nat}(h:c.out E.fs b)(e:b<E.B):E.X b:=by
 rcases h with i|⟨k,p,g⟩|⟨k,m,j,p,g,o⟩
 ·exact(f.Y b i).2.1 e
 ·rcases(f.loc k b g).1 with h|h
  all_goals grind
 rcases(f.arr k m j b g o).1 with h|h
 all_goals grind
def aM.FY{E:Env}{U:bc}{c:Ctx}{a:Act}{w:World}(e:aM E U c a w){b:Nat}(h:c.out E.fs b):b<w.heap.size:=by
 rcases h with g|⟨k,o,f⟩|⟨k,m,i,o,f,j⟩
 ·exact(e.Y b g).1
 ·exact(e.loc k b f).2.1
 exact(e.arr k m i b f j).2.1
open Classical in
noncomputable def Env.fin(E:Env)(c:Ctx)(w:World):Mem:=fun p=>if p.block<E.B\/c.out E.fs p.block then c.h p else w.cell? p
theorem Env.nT{E:Env}{U:bc}{c:Ctx}{a:Act}{w:World}(e:aM E U c a w):Mem.le c.h (E.fin c w):=by
 intro p v h;unfold Env.fin;split
 ·exact h
 exact e.hw p v h
def fx{c:Ctx}{f:Mem}(hh:Mem.le c.h f):Ext (c.cut []) (aD f):=
 ⟨hh,fun k b e=>by simp[Ctx.cut]at e,fun k m g lv e=>by simp[Ctx.cut]at e⟩
def ay.uF{B:Nat}{w:World}{e sz:Nat}{f:Value}{rows:List bi}{vs:List Value}{h j:Mem}(A:w.ownsRow B e sz f (R rows) vs)(u:∀r∈rows,R r=sz)(q:ah (ay h) rows.flatten vs)
  (hh:Mem.le h j) (c:∀b o,f.ownBlock=some b->j ⟨b,o,none⟩=w.cell? ⟨b,o,none⟩):ay j (.sl rows) f:=by
 obtain⟨J,⟨rfl,G⟩|⟨g,cap,p,rfl,_,D,C,F,I,H⟩⟩:=A
 ·have:rows=[]:=tz G;subst this;exact .rP none 0 (Zr _)
 refine .sl rows g 0 cap sz vs C F u q.length ?_ ?_
 ·intro i v f;rw[c g _ rfl,cell_of_row w g (0+i) p e (0,0) D,wc];grind
 intro i x v t f;exact(q.get t f).mono hh
def kx.fin{E:Env}{U:bc}{c:Ctx}{a:Act}{w:World}{s:St}(g:aM E U c a w)(hh:∀key x,look s key=some x->Holds c a w key x){x y:X}{v:Value}(H:kx E.fs s x y)(f:aV c x v):
  aV (aD (E.fin c w)) y v:=by
 cases H with
 |bO=>
  have:v=.slice none 0 0:=f;subst this;exact ay.Aa (c:=(aD (E.fin c w))) (.rP none 0 (Zr _))
 |same J=>exact(f.cut J).mono (fx (Env.nT g))
 | @ptr k off cells cells' hk hl hD hd hk9=>
   subst hd;obtain⟨b,j,rfl⟩:=f;obtain⟨O,T,vs,u,D,t⟩:=fD (hh (1000+k) (.box cells) hl) (by simp_all);rw[j]at u;cases u;have A:=lF t hD;have C:=Env.gN (g.loc k b j).1 (nQ hk9);have K:=g.wG j (nQ hk9);refine ay.Aa (c:=(aD (E.fin c w))) (ay.b5 _ b off (vs.toList.drop off) (by have:=t.length;simp_all) ?_ ?_)
   ·intro i v p;rw[m9]at p;show E.fin c w ⟨b,off+i,none⟩=_;unfold Env.fin;rw[Zm (by simp_all),cell_of_row w b (off+i) vs T (0,0) D];grind
   intro i x v f p;rw[m9]at f p;exact(A.get f p).mono (Env.nT g)
 | @own k n sz rows hk hl hn hk9=>
   obtain⟨p,e,vs,j,u,D,t⟩:=ei (hh _ _ hl);obtain⟨_,m,G,lv,F,N,M⟩:=f;rw[j]at F;cases F;rw[M hn.symm];refine ay.Aa (c:=(aD (E.fin c w))) (ay.uF u D t (Env.nT g) fun b o q=>?_);have C:=Env.gN (g.arr k _ _ b j q).1 (nQ hk9);show E.fin c w _=_;unfold Env.fin;rw[Zm (by show¬(b<E.B\/c.out E.fs b);exact fun h=>h.elim I (g.wH j q (nQ hk9)))]
def ah.fin{E:Env}{U:bc}{c:Ctx}{a:Act}{w:World}{s:St}(e:aM E U c a w)(hh:∀key x,look s key=some x->Holds c a w key x):∀{xs ys:bi}{vs:List Value},ah (kx E.fs s) xs ys->ah (aV c) xs vs->
  ah (aV (aD (E.fin c w))) ys vs
 |[],[],[],_,_=>trivial
 |_::_,_::_,_::_,h,h'=>⟨h.1.fin e hh h'.1,ah.fin e hh h.2 h'.2⟩
 |[],_::_,_,h,_=>h.elim
 |_::_,[],_,h,_=>h.elim
 |[],[],_::_,_,h=>h.elim
 |_::_,_::_,[],_,h=>h.elim
def ap.Aa{c:Ctx}{u:X}{v:Value}(h:bt c u v)(e:mU u=false):aV c u v:=by
 cases u<;>first|exact h|cases e
def ab.Ad{c:Ctx}{u:X}{v:Value}(h:aV c u v)(e:mU u=false):bt c u v:=by
 cases u<;>first|exact h|cases e
def T.Ad{c:Ctx}{u:X}{v:Value}(h:bK c u v)(e:cO u=false):bt c u v:=by
 cases u<;>first|exact h|cases e
theorem ap.ef{c:Ctx}{u:X}{v:Value}(h:bt c u v)(e:cO u=false):bK c u v:=by
 cases u<;>first|exact h|cases e
def kx.y5{fs:bc}{s:St}{x y:X}(h:kx fs s x y)(c:mU x=false):mU y=false:=by
 cases h with
 |same _=>exact c
 |own _ _ _ _=>rfl
 |bO=>rfl
 |ptr _ _ _ _ _=>rfl
def Gn{c:Ctx}{x:X}{v:Value}(h:cq c x v)(e:Ay x=false):aV c x v:=by cases x<;>first|exact h|cases e
def Gp{c:Ctx}{x:X}{v:Value}(h:aV c x v)(e:Ay x=false):cq c x v:=by cases x<;>first|exact h|cases e
def kx.nf{fs:bc}{s:St}{x y:X}(h:kx fs s x y)(c:Ay x=false):Ay y=false:=by
 cases h with
 |same _=>exact c
 |own _ _ _ _=>rfl
 |bO=>rfl
 |ptr _ _ _ _ _=>rfl
def ah.HN{E:Env}{U:List Nat}{c:Ctx}{a:Act}{w:World}{s:St}(e:aM E U c a w)(hh:∀key x,look s key=some x→Holds c a w key x):∀{xs ys:List X}{vs:List Value},ah (kx E.fs s) xs ys→xs.all (fun x=>!Ay x)=true→ah (cq c) xs vs→
  ah (cq (aD (E.fin c w))) ys vs
 |[],[],[],_,_,_=>trivial
 |_::_,_::_,_::_,h,hn,h'=>by
  simp only[so,Zw,zd]at hn;exact⟨Gp (h.1.fin e hh (Gn h'.1 hn.1)) (h.1.nf hn.1),ah.HN e hh h.2 (by simp_all) h'.2⟩
 |[],_::_,_,h,_,_=>h.elim
 |_::_,[],_,h,_,_=>h.elim
 |[],[],_::_,_,_,h=>h.elim
 |_::_,_::_,[],_,_,h=>h.elim
def wF.fin{E:Env}{U:bc}{c:Ctx}{a:Act}{w:World}{s:St}(f:aM E U c a w)(hh:∀key x,look s key=some x->Holds c a w key x){x y:X}{v:Value}(j:wF E.fs s x y)(e:bt c x v):
  bt (aD (E.fin c w)) y v:=by
 cases j with
 |c h hn=>exact ab.Ad (h.fin f hh (ap.Aa e hn)) (h.y5 hn)
 |agg h=>obtain⟨vs,i,g⟩:=e;exact⟨vs,i,ah.fin f hh h g⟩
 |fn h hn=>obtain⟨vs,i,g⟩:=e;exact⟨vs,i,ah.HN f hh h hn g⟩
def Co{y:X}(h:mU y=false):cO y=false:=by cases y<;>first|rfl|cases h
inductive mV(E:Env)(s:St):ResultVar->X->Prop
 |tmp {t:Nat} {x y:X}:Nat.blt t 1000=true->look s t=some x->wF E.fs s x y->cO x=false->mV E s (.tmp t) y
 |bG {t T k n:Nat} {cells ys:bi}:Nat.blt t 1000=true->look s t=some (.ptr k 0)->Nat.blt k 1000=true->look s (1000+k)=some (.box cells)->eT E.P T true n->cells.length=n->ah (kx E.fs s) cells ys->mV E s (.cell t T) (.agg ys)
 |wI {t T k n:Nat} {x y:X}:Nat.blt t 1000=true->look s t=some (.ptr k 0)->Nat.blt k 1000=true->look s (1000+k)=some (.box [x])->eT E.P T false n->kx E.fs s x y->mU x=false->mV E s (.cell t T) y
def fF(tmps:Array Value):ResultVar->Sem Value
 |.tmp t=>pure (tmps.getD t undef)
 |.cell a t=>do loadVar t (←asAddr (tmps.getD a undef))
def wF.Gq{fs:bc}{s:St}{x y:X}(h:wF fs s x y)(e:cO x=false):cO y=false:=by
 cases h with
 |c h hn=>exact Co (h.y5 hn)
 |agg _=>rfl
 |fn _ _=>rfl
def mV.fin{E:Env}{U:bc}{c:Ctx}{a:Act}{w:World}{s:St}(p:aM E U c a w)(hh:∀key x,look s key=some x->Holds c a w key x){r:ResultVar}{y:X}(h:mV E s r y):
  ∃v,(fF a.tmps r).run E.P w=.ok v w/\bt (aD (E.fin c w)) y v/\cO y=false:=by
 cases h with
 |tmp ht hl hr hn=>exact⟨_,rfl,hr.fin p hh (T.Ad ((hh _ _ hl).slot ht) hn),hr.Gq hn⟩
 |bG ht hl hk Gr hT hlen hres=>
  rw[rb]at hk;obtain⟨b,q,t⟩:=iB ((hh _ _ hl).slot ht);obtain⟨C,A,vs,e,u,f⟩:=fD (hh _ _ Gr) hk;rw[q]at e;cases e;refine⟨.agg vs,?_,⟨vs.toList,F,ah.fin p hh hres f⟩,rfl⟩;have:=jd (P:=E.P) hT (b:=b) (o:=0) (vs:=vs.toList) (w:=w) (by rw[←f.length,hlen]) fun i v t=>by
   grind [cell_of_row]
  simp_all[Instr.loadAt,Instr.sureAddr,fF,asAddr]
 |wI ht hl hk Gr hT hres hn=>
  rw[rb]at hk;obtain⟨b,q,t⟩:=iB ((hh _ _ hl).slot ht);obtain⟨C,A,vs,e,u,f⟩:=fD (hh _ _ Gr) hk;rw[q]at e;cases e;obtain⟨v,B,g,j,_⟩:=f.bD;refine⟨v,?_,ab.Ad (hres.fin p hh j) (hres.y5 hn),?_⟩
  ·have:=iO (P:=E.P) hT (b:=b) (o:=0) (v:=v) (w:=w) (by rw[cell_of_row w b 0 vs A (0,0) u,←cρ,g];rfl);simp_all[Instr.loadAt,Instr.sureAddr,fF,asAddr]
  exact Co (hres.y5 hn)
def HO:bi->X
 |[y]=>y
 |ys=>.cf ys
def xZ(E:Env)(rs:List ResultVar)(res:X):bo:=fun e _ s=>(e=.ret\/e=.normal)/\∃c,ah (mV E s) rs c/\HO c=res
def iw{E:Env}{U:bc}{c:Ctx}{a:Act}{w:World}{s:St}(f:aM E U c a w)(hh:∀key x,look s key=some x->Holds c a w key x):∀{rs:List ResultVar}{ys:bi},ah (mV E s) rs ys->
  ∃vs,(rs.mapM (fF a.tmps)).run E.P w=.ok vs w/\ah (bt (aD (E.fin c w))) ys vs/\∀y∈ys,cO y=false
 |[],[],_=>⟨[],rfl,Zo,fun y e=>by cases e⟩
 |r::rs,y::ys,h=>by
  obtain⟨v,q,i,p⟩:=h.1.fin f hh;obtain⟨vs,o,g,j⟩:=iw f hh h.2;refine⟨v::vs,?_,⟨i,g⟩,fun y e=>?_⟩
  ·simp_all
  grind
 |[],_::_,h=>h.elim
 |_::_,[],h=>h.elim
def hU:Nat->bi->St
 |_,[]=>[]
 |i,x::xs=>(i,x)::hU (i+1) xs
def qN{key:Nat}{x:X}:∀{xs:bi}{i:Nat},look (hU i xs) key=some x->i<=key/\xs[key - i]?=some x
 |[],_,h=>by cases h
 |y::ys,i,h=>by
  simp only[hU,look]at h;split at h
  ·simp_all
  rename_i f;have c:i≠key:=fun e=>f (by simp_all)
  obtain⟨j,g⟩:=qN h;grind
abbrev jK(P:Program)(nt:Nat)(fs:bc)(w:World)(c:Ctx):Env:=⟨P,nt,fs,c,w,none,[]⟩
def cell_putObj{w:World}{D:Nat}{o c:Obj}(h:w.heap[D]?=some o)(f:o.isCells=false)(e:c.isCells=false)(p:Addr):(w.putObj D c).cell? p=w.cell? p:=by
 grind [World.putObj_heap_same,World.cell?,Obj.isCells,World.putObj_heap_other]
def eF{P:Program}{fn:Func}{tmps:Array Value}{R:Ending→World→Prop}{B:Nat}{aw:Nat→Prop}:∀(f:List Deferred)(w:World),f.Pairwise (· ≠ ·)→
  (∀d∈f,∃D,d={target:=.collected D,args:=#[]}/\B<=D/\¬aw D/\w.heap[D]?=some (.deferred (some [])))->
  (∀c:World,c.os=w.os->c.tape=w.tape->c.output=w.output->c.heap.size=w.heap.size->(∀k,(k<B\/aw k\/∃o:Obj,w.heap[k]?=some o/\o.isCells=true)->c.heap[k]?=w.heap[k]?)->(∀p,c.cell? p=w.cell? p)->∃v,(results fn tmps).run P c=.ok v c/\R (.returned v) c)->
  LeavesInM Fence.wide 0 P fn tmps R f .returning w
 |[],w,_,_,hR=>by
  obtain⟨v,g,q⟩:=hR w rfl rfl rfl rfl (fun _ _=>rfl) (fun _=>rfl);exact⟨v,g,q⟩
 |d::f,w,hp,hd,hR=>by
  obtain⟨D,rfl,hB,A,j⟩:=hd d rv;obtain⟨t,h⟩:=bβ.1 hp;have u:∀k,k≠D->(w.putObj D (.deferred none)).heap[k]?=w.heap[k]?:=fun k e=>World.putObj_heap_other e
  refine⟨Z,.inl ⟨D,w.putObj D (.deferred none),rfl,?_,eF (B:=B) (aw:=aw) f _ h ?_ ?_⟩⟩
  ·exact run_takeDeferred j
  ·grind
  intro c J I H G F C;have i:∀k,(k<B\/aw k\/∃o:Obj,w.heap[k]?=some o/\o.isCells=true)->k≠D:=by
   rintro k e rfl;rcases e with e|e|⟨o,g,q⟩
   ·omega
   ·exact A e
   rw[j]at g;cases g;cases q
  refine hR c J I H (by rw[G];simp) (fun k e=>(F k ?_).trans (u k (i k e))) fun p=>(C p).trans (cell_putObj j rfl rfl p)
  simp_all
structure j6(fs:bc)(c:Ctx)(w:World):Prop where
 hw:∀p v,c.h p=some v->w.cell? p=some v
 loc:∀k b,c.loc k=some b->k∈fs/\b<w.heap.size/\(∀o,c.h ⟨b,o,none⟩=none)/\(∀k',c.loc k'=some b->k'=k)/\(∀k' m hv,c.arr k'=some (m,hv,true)->hv.ownBlock≠some b)
 arr:∀k m hv b,c.arr k=some (m,hv,true)->hv.ownBlock=some b->k∈fs/\b<w.heap.size/\(∀o,c.h ⟨b,o,none⟩=none)/\(∀k' m' hv',c.arr k'=some (m',hv',true)->hv'.ownBlock=some b->k'=k)
 none:∀k,k∉fs->c.loc k=none/\c.arr k=none
 Y:∀b,c.Y b->b<w.heap.size/\(∀k,c.loc k≠some b)/\(∀k m hv,c.arr k=some (m,hv,true)->hv.ownBlock≠some b)
structure iS(fs:bc)(c:Ctx)(w:World)(wr:St)(res:X)(v:Value)(c':Ctx)(w':World):Prop where
 below:da w.heap.size (c.out fs) w w'
 ok:j6 fs c' w'
 le:Mem.le c.h c'.h
 new:∀p v,c'.h p=some v->c.h p=some v\/w.heap.size<=p.block\/c.out fs p.block
 out:∀b,c'.out fs b->b<w.heap.size->c.out fs b
 loc:∀k b,c'.loc k=some b->c.loc k=some b
 arr:∀k m hv lv,c'.arr k=some (m,hv,lv)->∃m0 hv0 lv0,c.arr k=some (m0,hv0,lv0)/\m0<=m/\(m0=m->hv=hv0)
 wr:∀p∈wr,∀a,Holds c' a w' p.1 p.2
 res:bK c' res v
def dF(P:Program)(f:Nat)(fs:bc)(args:bi)(rd wr:St)(res:X):Prop:=
 ∀(c:Ctx)(w:World)(vs:List Value),j6 fs c w->(∀p∈rd,∀a,Holds c a w p.1 p.2)->ah (bt c) args vs->
  Calls P f vs.toArray w fun e g=>∃v h,e=.returned v/\iS fs c w wr res v h g
def Ctx.gi(c:Ctx)(fs:bc)(h:Mem):Ctx:=⟨h,fun k=>if fs.contains k then c.loc k else none,fun k=>if fs.contains k then c.arr k else none,c.Y⟩
theorem dX{c:Ctx}{fs:bc}{h:Mem}{k b:Nat}(e:(c.gi fs h).loc k=some b):k∈fs/\c.loc k=some b:=by
 simp_all[Ctx.gi]
theorem dY{c:Ctx}{fs:bc}{h:Mem}{k:Nat}{x:Nat×Value×Bool}(e:(c.gi fs h).arr k=some x):k∈fs/\c.arr k=some x:=by
 simp_all[Ctx.gi]
theorem pL{c:Ctx}{fs:bc}{h:Mem}{b:Nat}(e:(c.gi fs h).out fs b):c.out fs b:=by
 rcases e with i|⟨k,g,f⟩|⟨k,m,j,g,f,o⟩
 ·exact .inl i
 ·exact .inr (.inl ⟨k,g,(dX f).2⟩)
 exact .inr (.inr ⟨k,m,j,g,(dY f).2,o⟩)
def EL(fs:bc):X->Bool
 |.ptr k _=>fs.contains k
 |.own k _=>fs.contains k
 |.di k _ _=>fs.contains k
 |.jt k=>fs.contains k
 |.rU k _ _ _ _=>fs.contains k
 |_=>true
def G8(fs:bc):X->Bool
 |.fn _ caps=>caps.all (EL fs)
 |x=>EL fs x
def iQ(fs:bc)(p:Nat×X):Bool:=Nat.ble 1000 p.1&&(match p.2 with
 |.box cells=>(fs.any fun k=>Nat.beq (1000+k) p.1)&&cells.all (G8 fs)
 |.arr _ _=>fs.any fun k=>Nat.beq (2000+k) p.1
 |.cM _ _ mid _=>(fs.any fun k=>Nat.beq (2000+k) p.1)&&mid.all (G8 fs)
 |.omap _=>fs.any fun k=>Nat.beq (1000+k) p.1
 |.res _=>Nat.ble 3000 p.1
 |_=>false)
theorem cq.gi{c:Ctx}{fs:bc}{j:Mem}(hh:Mem.le c.h j){x:X}{v:Value}(h:cq c x v)(g:EL fs x=true):cq (c.gi fs j) x v:=by
 cases x
 case ptr k off=>obtain⟨b,i,e⟩:=h;simp only[EL]at g;exact⟨b,by simp_all[Ctx.gi],e⟩
 case own k n=>obtain⟨h0,m,f,lv,i,e⟩:=h;simp only[EL]at g;exact⟨h0,m,f,lv,by simp_all[Ctx.gi],e⟩
 case di k n off=>obtain⟨m,f,lv,i,e⟩:=h;simp only[EL]at g;exact⟨m,f,lv,by simp_all[Ctx.gi],e⟩
 case jt k=>obtain⟨b,i,e⟩:=h;simp only[EL]at g;exact⟨b,by simp_all[Ctx.gi],e⟩
 case rU k n sz lo hi=>obtain⟨h0,m,f,lv,i,e⟩:=h;simp only[EL]at g;exact⟨h0,m,f,lv,by simp_all[Ctx.gi],e⟩
 case slc rows=>exact⟨ay.mono hh h.1,h.2⟩
 case any=>exact h
 case raw=>exact h
 case bO=>exact h
 case cb=>exact h
 all_goals exact ay.mono hh h
def aV.gi{c:Ctx}{fs:bc}{e:Mem}(hh:Mem.le c.h e){x:X}{v:Value}(h:aV c x v)(g:G8 fs x=true):aV (c.gi fs e) x v:=by
 cases x
 case fn f caps=>grind [aV,G8,ah.cut,cq.gi]
 all_goals simp_all[aV,G8,cq.gi]
def Holds.gi{c:Ctx}{fs:List Nat}{i:Mem}{w w':World}(hh:Mem.le c.h i)(hn:∀p v,i p=some v→c.h p=some v∨¬c.Y p.block)(K:∀p v,i p=some v→w'.cell? p=some v)(hB:da 0 (fun _=>False) w w')
  (C:∀b,c.out fs b->w'.heap[b]?=w.heap[b]?) {key:Nat} {x:X} {a a':Act} (h:Holds c a w key x) (f:iQ fs (key,x)=true):Holds (c.gi fs i) a' w' key x:=by
 simp only[iQ,Zw,ky]at f;obtain⟨ho1,f⟩:=f;unfold Holds at *;rw[Zm I]at h⊢;refine cD h fun h=>?_
 split at h
 ·rename_i V;rw[Zn V];obtain⟨b,o,D,t,q⟩:=h;cases x
  case box cells=>
   obtain⟨T,vs,B,S⟩:=q;simp only[Zw]at f;have A:=FF f.1;exact⟨b,o,by simp_all[Ctx.gi],(C b (.inr (.inl ⟨_,tl.1 A,D⟩))).trans t,T,vs,B,ah.cut (R':=aV (c.gi fs i)) (ok:=G8 fs) (fun _ _ h f=>aV.gi hh h f) S f.2⟩
  case omap es=>
   obtain⟨W,j,B,h0,S⟩:=q;simp only at f;have A:=FF f;exact⟨b,o,by simp_all[Ctx.gi],(C b (.inr (.inl ⟨_,tl.1 A,D⟩))).trans t,W,j,B,h0,S.mono fun _ _ h=>⟨h.1.mono hh,pure_mono hh h.2⟩⟩
  all_goals exact q.elim
 rename_i V;rw[Zm V];split at h
 ·rename_i t;rw[Zn t];obtain⟨Z,rows,hv,e,vs,u,D,q,B⟩:=h;have N:fs.contains (key - 2000)=true/\wJ (c.gi fs i) x Z rows vs:=by
   cases x
   case arr sz' rows'=>exact⟨FF f,u.1,u.2.1,u.2.2.mono fun _ _=>ay.mono hh⟩
   case cM sz' pre mid post=>
    obtain⟨q1,q2,v1,v2,v3,q3,q4,q5,q6⟩:=u;simp only[Zw]at f;exact⟨FF f.1,q1,q2,v1,v2,v3,q3,q4.mono fun _ _=>ay.mono hh,ah.cut (R':=aV (c.gi fs i)) (ok:=G8 fs) (fun _ _ h f=>aV.gi hh h f) q5 f.2,q6.mono fun _ _=>ay.mono hh⟩
   all_goals exact u.elim
  obtain⟨A,H⟩:=N;refine⟨Z,rows,hv,e,vs,H,by simp_all[Ctx.gi],?_,B⟩;refine⟨q.1,q.2.imp id ?_⟩;rintro⟨g,cap,cur,e1,e2,e3,r⟩;refine⟨g,cap,cur,e1,e2,(C g (.inr (.inr ⟨_,_,_,tl.1 A,D,by rw[e1];rfl⟩))).trans e3,r⟩
 rename_i t;rw[Zm t];obtain⟨M,J,G,hJ,O⟩:=h;have F:wK (c.gi fs i).loc J x:=by cases x<;>first|exact G|grind|cases f
 exact⟨M,J,F,hJ,hJ _ _ _ _ _ O hh hn K hB fun b hb=>C b (.inl hb)⟩
def Gl(E:Env)(rs:List ResultVar)(wr:St)(res:X):bo:=fun e U s=>xZ E rs res e U s/\Le s wr
theorem gl{c:Ctx}{args:List X}{vs:List Value}{n:Nat}{w:World}{o:List Deferred}(e:ah (bt c) args vs)(q:args.all (fun x=>!cO x)=true)(i:R args≤1000):
  ∀key x,look (hU 0 args) key=some x->Holds c {tmps:=vs.toArray++Array.replicate n undef,defers:=o} w key x:=by
 intro key x f;obtain⟨_,f⟩:=qN f;rw[Nat.sub_zero]at f;have t:key<R args:=(sT.1 f).1;have hlen:=e.length;unfold Holds;rw[Zn I];obtain⟨v,p,h⟩:=e.eD f;have g:key<R vs:=I
 have:(vs.toArray++Array.replicate n undef).getD key undef=v:=by
  have j:vs[key]=v:=by simp_all
  simp[eζ,g,j]
 grind [ap.ef]
def aM.calm{E:Env}{U:bc}{s:St}{c:Ctx}{a:Act}{w i:World}(f:aM E U c a w)(hh:∀key x,look s key=some x->Holds c a w key x)(T:i.os=w.os)(S:i.tape=w.tape)(O:i.output=w.output)(q:i.heap.size=w.heap.size)
  (H:E.pins=[]) (G:∀k,(k<E.B\/c.all k\/∃o:Obj,w.heap[k]?=some o/\o.isCells=true)->i.heap[k]?=w.heap[k]?) (N:∀p,i.cell? p=w.cell? p):
  aM E U c {a with defers:=[]} i/\∀key x,look s key=some x->Holds c {a with defers:=[]} i key x:=by
 refine⟨⟨f.below.trans ⟨T,S,O,I,fun k j _=>G k (.inl j)⟩,by rw[q];exact f.hB,f.nt,⟨.nil,fun d X=>by cases X⟩,(fun p hp=>by simp_all),fun p v h=>by rw[N];exact f.hw p v h,f.hle,f.hnew,?_,?_,f.used,?_,f.fB,f.fQ⟩,?_⟩
 ·rw[q];exact f.loc
 ·rw[q];exact f.arr
 ·rw[q];exact f.Y
 intro key x u;have h:=hh key x u;unfold Holds at *;split at h
 ·simp_all
 rename_i j;rw[Zm j];refine cD h fun h=>?_
 split at h
 ·grind [xe,Ctx.all]
 rename_i h2;rw[Zm h2];split at h
 ·rename_i F;rw[Zn F];obtain⟨V,rows,W,e,vs,u,h1,M,Z⟩:=h;refine⟨V,rows,W,e,vs,u,h1,⟨M.1,M.2.imp id ?_⟩,Z⟩;rintro⟨g,cap,cur,f1,f2,f3,r⟩;exact⟨g,cap,cur,f1,f2,(G g (.inr (.inr ⟨_,f3,rfl⟩))).trans f3,r⟩
 rename_i F;rw[Zm F];obtain⟨A,J,t,K,D⟩:=h;exact⟨A,J,t,K,K _ _ _ _ _ D (Mem.le_refl _) (fun _ _ e=>.inl e) (fun p v h=>by rw[N];exact f.hw p v h) ⟨T,S,O,I,fun k j=>I⟩ fun b C=>G b (.inr (.inl (.inl C)))⟩
def CF{c:Ctx}{fs:bc}{h:Mem}:Ext (aD h) (c.gi fs h):=⟨Mem.le_refl _,(fun _ _ e=>by cases e),(fun _ _ _ _ e=>by cases e)⟩
def aM.gi{E:Env}{U:bc}{c:Ctx}{a:Act}{w':World}(u:aM E U c a w'):j6 E.fs (c.gi E.fs (E.fin c w')) w'/\Mem.le E.h0 (E.fin c w')/\
  (∀p v,E.fin c w' p=some v->E.h0 p=some v\/E.B<=p.block\/E.X p.block):=by
 have t:∀p v,E.fin c w' p=some v->w'.cell? p=some v:=by
  intro p v h;unfold Env.fin at h;split at h
  ·exact u.hw p v h
  exact h
 have i:∀b o,c.out E.fs b->c.h ⟨b,o,none⟩=none->E.fin c w' ⟨b,o,none⟩=none:=by
  simp_all[Env.fin]
 have D:∀(p:Addr) v,E.fin c w' p=some v->p=⟨p.block,p.off,none⟩:=by
  intro p v h;have N:=t p v h;have G:p.spot=none:=by
   cases G:p.spot with
   |none=>rfl
   |some q=>grind [World.cell?]
  cases p;simp_all
 refine⟨⟨t,?_,?_,fun k j=>?_,?_⟩,Mem.le_trans u.hle (Env.nT u),?_⟩
 ·intro k b j;obtain⟨g,f⟩:=dX j;obtain⟨_,M,J,I,N⟩:=u.loc k b f;exact⟨g,M,fun o=>i b o (.inr (.inl ⟨k,g,f⟩)) (J o),fun F e=>I F (dX e).2,fun F m A e=>N F m A (dY e).2⟩
 ·intro k m A b j H;obtain⟨g,f⟩:=dY j;obtain⟨_,M,J,I⟩:=u.arr k m A b f H;exact⟨g,M,fun o=>i b o (.inr (.inr ⟨k,m,A,g,f,H⟩)) (J o),fun F O K e=>I F O K (dY e).2⟩
 ·have e:E.fs.contains k=false:=by grind
  simp only[Ctx.gi,e];simp
 ·intro b S;obtain⟨T,_,J,I⟩:=u.Y b S;exact⟨T,fun k j=>J k (dX j).2,fun k m A j=>I k m A (dY j).2⟩
 intro p v C;have G:=D p v C;have C:E.fin c w' p=some v:=C;unfold Env.fin at C;split at C
 ·exact u.hnew p v C
 omega
def iS.CG{E:Env}{U:bc}{s wr:St}{c:Ctx}{a:Act}{w w':World}{res:X}{v:Value}(j:aM E U c a w')(Y:E.B=w.heap.size)(hh:∀key x,look s key=some x->Holds c a w' key x)(hle:Le s wr)(o:wr.all (iQ E.fs)=true)
  (O:bK (c.gi E.fs (E.fin c w')) res v) (e:∀b,E.X b->E.c0.out E.fs b) (t:E.w0=w:=by rfl):iS E.fs E.c0 w wr res v (c.gi E.fs (E.fin c w')) w':=by
 obtain⟨C,G,F⟩:=j.gi;refine⟨?_,C,G,fun p v f=>(F p v f).imp id fun h=>h.imp (fun h=>I) (e _),?_,?_,?_,?_,O⟩
 ·rw[←Y,←t];exact j.below.mono (Zq _) fun k _ h=>e k h
 ·intro b S T;exact e _ (j.Fs (pL S) I)
 ·intro k b A;obtain⟨i,g⟩:=dX A;exact j.fB k b i g
 ·intro k m N lv A;obtain⟨i,g⟩:=dY A;obtain⟨m0,M,H,h1,h2,Z,_⟩:=j.fQ k m N lv i g;grind
 intro p f a';have V:look s p.1=some p.2:=by
  have:∀{r:St},Le s r->∀p∈r,look s p.1=some p.2:=by
   intro r
   induction r with
   |nil=>simp
   |cons q r J=>
    intro h p f;rcases sf.1 f with rfl|f
    ·exact h.1
    exact J h.2 p f
  grind
 refine Holds.gi (Env.nT j) ?_ C.hw (da.refl _ _ _) (fun _ _=>rfl) (hh _ _ V) (rm.1 o p f);intro q u D;unfold Env.fin at D;split at D
 ·grind
 rename_i W;exact .inr fun K=>W (.inr (.inl K))
def iS.uE{E:Env}{U:bc}{s wr:St}{c:Ctx}{a:Act}{w w':World}{res:X}{v:Value}(i:aM E U c a w')(j:E.B=w.heap.size)(hh:∀key x,look s key=some x->Holds c a w' key x)(hle:Le s wr)(f:wr.all (iQ E.fs)=true)
 (h:bK (aD (E.fin c w')) res v) (e:∀b,E.X b->E.c0.out E.fs b) (g:E.w0=w:=by rfl):iS E.fs E.c0 w wr res v (c.gi E.fs (E.fin c w')) w':=.CG i j hh hle f (h.mono CF) e g
def dF.at{P:Program}{f nt:Nat}{fn:Func}{code:Code}{rs:List ResultVar}{fs:bc}{args:bi}{rd wr:St}{res:X}(hf:P.funcs[f]?=some fn)(M:fn.body=some code)(hn:fn.ntmps=nt)(hr:fn.results=rs.toArray)
  (Z:Nat.ble (R args) nt=true) (ht:args.all (fun x=>!cO x)=true) (W:Nat.ble (R args) 1000=true) (T:wr.all (iQ fs)=true)
  (w:World) (c0:Ctx) (h:OK (jK P nt fs w c0) code (den (jK P nt fs w c0) (Gl (jK P nt fs w c0) rs wr res) []) fs (hU 0 args++rd)) (vs:List Value) (j:j6 fs c0 w) (hrd':∀p∈rd,∀a,Holds c0 a w p.1 p.2) (u:ah (bt c0) args vs):
  Calls P f vs.toArray w fun e A=>∃v c',e=.returned v/\iS fs c0 w wr res v c' A:=by
 refine(callsIn_wide (n:=0)).1 (callsIn_of_wp_marks hf M trivial ?_ rfl);have hlen:=u.length;rw[ky]at Z W;refine wpIn_mono (h {tmps:=vs.toArray++Array.replicate (fn.ntmps - vs.toArray.size) undef,defers:=[]} w ?_) ?_
 ·refine⟨c0,⟨da.refl _ _ _,Zq _,?_,⟨.nil,fun d hd=>by cases hd⟩,(fun p V=>by cases V),j.hw,Mem.le_refl _,fun p v e=>.inl e,?_,?_,j.none,?_,fun k b _ e=>e,fun k m K lv _ e=>⟨m,K,lv,e,Zq _,fun _=>rfl,id,fun _ h=>.inl h⟩⟩,?_⟩
  ·simp_all
  ·intro k b C;obtain⟨q,i⟩:=j.loc k b C;exact⟨.inr ⟨q,.inl (.inr (.inl ⟨k,q,C⟩))⟩,i⟩
  ·intro k m K b C J;obtain⟨q,i⟩:=j.arr k m K b C J;exact⟨.inr ⟨q,.inl (.inr (.inr ⟨k,m,K,q,C,J⟩))⟩,i⟩
  ·intro b M;obtain⟨q,i⟩:=j.Y b M;exact⟨q,fun _=>.inl (.inl M),i⟩
  intro key x hx;rw[dA]at hx;cases C:look (hU 0 args) key with
  |some y=>
   grind [gl]
  |none=>
   simp_all[cm]
 rintro e G A ⟨U',s',⟨c,g,hh⟩,⟨he,ys,S,I⟩,hle⟩;have hE:(jK P nt fs w c0).B=w.heap.size:=rfl;have t:LeavesInM Fence.wide 0 P fn G.tmps (fun e A=>∃v c',e=.returned v/\iS fs c0 w wr res v c' A) G.defers .returning A:=by
  refine eF (B:=w.heap.size) (aw:=c.all) G.defers A g.iP.1 ?_ ?_
  ·intro d hd;obtain⟨D,q,i,N,h4⟩:=g.iP.2 d hd;simp_all
  intro O e1 e2 e3 e4 e5 e6;obtain⟨g,hh⟩:=g.calm hh e1 e2 e3 e4 rfl e5 e6;obtain⟨o,q,i,N⟩:=iw g hh S;have H:(results fn G.tmps).run P O=.ok (if h:o.toArray.size=1 then o.toArray[0]else .tuple o.toArray) O:=by
   have he:results fn G.tmps=(fn.results.mapM (fF G.tmps)>>=fun vs=>pure (if h:vs.size=1 then vs[0]else .tuple vs)):=by
    rfl
   simp_all
  refine⟨_,H,_,c.gi fs ((jK P nt fs w c0).fin c O),rfl,?_⟩;exact iS.uE g hE hh hle T (by
   subst I;have Z:=i.length
   match ys,o,i,N,Z with
   |[y],[v],i,N,_=>exact ap.ef i.1 (N y F)
   |[],[],i,_,_=>exact⟨[],rfl,Zo⟩
   |y1::y2::ys,v1::v2::vs,i,_,_=>exact⟨v1::v2::vs,F,i⟩
   |[_],[],i,_,_=>grind
   |[],_::_,i,_,_=>grind
   |[_],_::_::_,i,_,_=>grind
   |_::_::_,[],i,_,_=>grind
   |_::_::_,[_],i,_,_=>grind) (fun b h=>h.elim id fun⟨p,V,_⟩=>by cases V)
 rcases he with rfl|rfl
 ·exact t
 exact t
def dF.intro{P:Program}{f nt:Nat}{fn:Func}{code:Code}{rs:List ResultVar}{fs:bc}{args:bi}{rd wr:St}{res:X}(v:P.funcs[f]?=some fn)(A:fn.body=some code)(t:fn.ntmps=nt)(q:fn.results=rs.toArray)
  (u:Nat.ble (R args) nt=true) (p:args.all (fun x=>!cO x)=true) (j:Nat.ble (R args) 1000=true) (g:wr.all (iQ fs)=true)
  (h:∀w c,OK (jK P nt fs w c) code (den (jK P nt fs w c) (Gl (jK P nt fs w c) rs wr res) []) fs (hU 0 args++rd)):dF P f fs args rd wr res:=
 fun c0 w vs o i e=>dF.at v A t q u p j g w c0 (h w c0) vs o i e
def Ct.FG{P:Program}{f:Nat}{args:List X}{res:X}{h:Mem}{w:World}{vs:List Value}(B:∀(hc0:j6 [] (aD h) w),Calls P f vs.toArray w fun e g=>∃v o,e=.returned v∧iS [] (aD h) w [] res v o g)(hw:∀p v,h p=some v→w.cell? p=some v)(_hargs:ah (bt (aD h)) args vs):
  Calls P f vs.toArray w fun e g=>∃v q,e=.returned v/\Below w.heap.size w g/\Mem.le h q/\(∀p v,q p=some v->h p=some v\/w.heap.size<=p.block)/\(∀p v,q p=some v->g.cell? p=some v)/\bK (aD q) res v:=by
 refine(B ⟨hw,(fun k b e=>by cases e),(fun k m t b e=>by cases e),(fun _ _=>⟨rfl,rfl⟩),(fun b e=>e.elim)⟩).mono ?_;rintro e g ⟨v,o,rfl,c⟩;have i:∀b,¬(aD h).out [] b:=by
  rintro b (C|⟨k,_,e⟩|⟨k,m,t,_,e,_⟩)
  all_goals simp_all
 refine⟨v,o.h,rfl,(c.below.mono (Zq _) fun k _ A=>(i k A).elim).below,c.le,fun p v e=>(c.new p v e).imp id fun h=>h.elim id fun h=>(i _ h).elim,c.ok.hw,?_⟩;have j:Ext o (aD o.h):=⟨Mem.le_refl _,(fun k b e=>by have u:=c.loc k b e;cases u),fun k m t lv e=>by obtain⟨_,_,_,u,_⟩:=c.arr k m t lv e;cases u⟩;exact c.res.mono j
def Ct.IY{P:Program}{f:Nat}{args:bi}{res:X}(i:dF P f [] args [] [] res):Ct P f args res:=
 fun h w vs hw c=>Ct.FG (args:=args) (fun e=>i (aD h) w vs e (fun p g=>by cases g) c) hw c
def Ct.intro{P:Program}{f nt:Nat}{fn:Func}{code:Code}{rs:List ResultVar}{args:bi}{res:X}(q:P.funcs[f]?=some fn)(t:fn.body=some code)(o:fn.ntmps=nt)(i:fn.results=rs.toArray)
  (p:Nat.ble (R args) nt=true) (g:args.all (fun x=>!cO x)=true) (e:Nat.ble (R args) 1000=true) (h:∀w c,OK (jK P nt [] w c) code (den (jK P nt [] w c) (xZ (jK P nt [] w c) rs res) []) [] (hU 0 args)):Ct P f args res:=
 Ct.IY (dF.intro q t o i p g e rfl fun w c=>by
  rw[i8];exact(h w c).mono fun _ _ _ j=>⟨j,Zo⟩)
def pU (n : String) : Prop := n = "internal/strconv.uint64pow10" \/ n = "strconv.ErrRange" \/ n = "strconv.ErrSyntax" \/ n = "martensite/recipe.names"
def b7:List ba:=[[104,101,97,116],[100,119,101,108,108],[113,117,101,110,99,104],[117,110,116,105,108],[99,111,111,108],[114,101,112,101,97,116]]
structure jv(P:Program)(w:World):Prop where
 pow : ∀ g, P.globalNamed "internal/strconv.uint64pow10" = some g -> ∃ T d, w.heap[g]? = some (.cells (Lib.pow10Tab.map fun z => Value.int .u64 z).toArray T d)
 err : ∀ n, (n = "strconv.ErrRange" \/ n = "strconv.ErrSyntax") -> ∀ g, P.globalNamed n = some g -> ∃ ev, w.cell? ⟨g, 0, none⟩ = some ev /\ (ev = .nilIface \/ ∃ te pe, ev = .iface te pe)
 Jd : ∀ g, P.globalNamed "martensite/recipe.names" = some g -> ∃ T d, w.heap[g]? = some (.cells (b7.map fun l => Value.string ⟨l.toArray⟩).toArray T d)
 lt:∀n,pU n->∀g,P.globalNamed n=some g->g<w.heap.size
def jv.stays{P:Program}{w w':World}(h:jv P w)(j:w.heap.size<=w'.heap.size)(i:∀n,pU n->∀g,P.globalNamed n=some g->w'.heap[g]?=w.heap[g]?):jv P w':=
 ⟨fun g c=>by obtain⟨T,d,e⟩:=h.pow g c;exact⟨T,d,(i _ (.inl rfl) g c).trans e⟩,
  fun n f g c=>by
   obtain⟨o,q,p⟩:=h.err n f g c;refine⟨o,?_,p⟩;rw[←q];unfold World.cell?;rw[i n (.inr (f.imp id .inl)) g c],
  fun g c=>by obtain⟨T,d,e⟩:=h.Jd g c;exact⟨T,d,(i _ (.inr (.inr (.inr rfl))) g c).trans e⟩,
  fun n f g c=>rp (h.lt n f g c) j⟩
structure gO(E:Env):Prop where
 FX:jv E.P E.w0
 out:∀n,pU n->∀g,E.P.globalNamed n=some g->¬E.X g
def gO.now{E:Env}{U:bc}{c:Ctx}{a:Act}{w:World}(h:gO E)(i:aM E U c a w):jv E.P w:=h.FX.stays i.below.size fun n e g f=>i.below.block g (h.FX.lt n e g f) (h.out n e g f)
def gz(P:Program)(f:Nat)(args:bi)(res:X):Prop:=
 ∀(h:Mem)(w:World)(vs:List Value),jv P w->(∀p v,h p=some v->w.cell? p=some v)->ah (bt (aD h)) args vs->
  Calls P f vs.toArray w fun e g=>∃v c,e=.returned v/\Below w.heap.size w g/\Mem.le h c/\(∀p v,c p=some v->h p=some v\/w.heap.size<=p.block)/\
   (∀p v,c p=some v->g.cell? p=some v)/\bK (aD c) res v
def EK(E:Env)(f:Nat)(args:bi)(res:X):Prop:=
 ∀(h:Mem)(w:World)(vs:List Value),(∃U c a,aM E U c a w)->(∀p v,h p=some v->w.cell? p=some v)->ah (bt (aD h)) args vs->
  Calls E.P f vs.toArray w fun e i=>∃v g,e=.returned v/\Below w.heap.size w i/\Mem.le h g/\(∀p v,g p=some v->h p=some v\/w.heap.size<=p.block)/\
   (∀p v,g p=some v->i.cell? p=some v)/\bK (aD g) res v
def Ct.at{E:Env}{f:Nat}{args:bi}{res:X}(h:Ct E.P f args res):EK E f args res:=fun m w vs _ hw c=>h m w vs hw c
def gz.at{E:Env}{f:Nat}{args:bi}{res:X}(h:gz E.P f args res)(i:gO E):EK E f args res:=fun m w vs e hw g=>by
 obtain⟨U,c,a,e⟩:=e;exact h m w vs (i.now e) hw g
def gz.intro{P:Program}{f nt:Nat}{fn:Func}{code:Code}{rs:List ResultVar}{args:bi}{res:X}(D:P.funcs[f]?=some fn)(F:fn.body=some code)(B:fn.ntmps=nt)(v:fn.results=rs.toArray)
  (C:Nat.ble (R args) nt=true) (u:args.all (fun x=>!cO x)=true) (q:Nat.ble (R args) 1000=true) (h:∀w c,gO (jK P nt [] w c)->OK (jK P nt [] w c) code (den (jK P nt [] w c) (xZ (jK P nt [] w c) rs res) []) [] (hU 0 args)):gz P f args res:=by
 intro m w vs j hw i;refine Ct.FG (args:=args) (fun t=>dF.at (rd:=[]) (wr:=[]) D F B v C u q rfl w (aD m) ?_ vs t (fun p o=>by cases o) i) hw i;rw[i8];refine(h w (aD m) ⟨j,?_⟩).mono fun _ _ _ A=>⟨A,Zo⟩
 rintro n _ g _ (G|⟨p,o,_⟩)
 ·rcases G with H|⟨k,_,e⟩|⟨k,m,I,_,e,_⟩
  all_goals simp_all
 cases o
def aA.r1{E:Env}{U:bc}{s:St}{r:ResultVar}{y res:X}(h:mV E s r y)(c:y=res):xZ E [r] res .ret U s:=⟨.inl rfl,[y],⟨h,Zo⟩,c⟩
def aA.r2{E:Env}{U:bc}{s:St}{r1 r2:ResultVar}{e c res:X}(h:mV E s r1 e)(g:mV E s r2 c)(f:.cf [e,c]=res):xZ E [r1,r2] res .ret U s:=⟨.inl rfl,[e,c],⟨h,g,Zo⟩,f⟩
def aA.r3{E:Env}{U:bc}{s:St}{r1 r2 r3:ResultVar}{f e c res:X}(j:mV E s r1 f)(i:mV E s r2 e)(h:mV E s r3 c)(g:.cf [f,e,c]=res):xZ E [r1,r2,r3] res .ret U s:=
 ⟨.inl rfl,[f,e,c],⟨j,i,h,Zo⟩,g⟩
def ah.z{α β:Type}{R:α->β->Prop}:ah R [] []:=trivial
def ah.k{α β:Type}{R:α->β->Prop}{a:α}{b:β}{c:List α}{bs:List β}(h:R a b)(e:ah R c bs):ah R (a::c) (b::bs):=⟨h,e⟩
end Go.Ab
namespace Go.Ab
open Go.RowKit
def RK(E:Env)(all:Array Oper)(l:List Oper)(U:bc)(s:St)(Q:bo):Prop:=
 ∀(k:Nat),(∀j,all[k+j]?=l[j]?)->∀a w,Good E U s a w->wpOpsIn E.ac 0 E.P all (fun e f c=>∃U' s',Good E U' s' f c/\Q e U' s') (List.range' k (R l)) a w
section
variable{E:Env}{all:Array Oper}{l:List Oper}{U:bc}{s:St}{Q:bo}
theorem RK.nil(h:Q .normal U s):RK E all [] U s Q:=fun _ _ a w c=>by grind [wpOpsIn]
def RK.c{o:Oper}{rd wr:St}{al:bc}(h:aW E all o s rd wr al)(i:RK E all l (al++U) (wr++s) Q)(q:(al.all fun k=>!U.contains k)=true:=by rfl):RK E all (o::l) U s Q:=by
 intro k f a w p;rw[tt,bχ,wpOpsIn_cons];refine cW (by simpa using f 0) (h.1.good p h.2 q fun t g e=>i (k+1) (fun j=>?_) t g e);have:=f (j+1);grind
def RK.split{t:Nat}{b:Bool}(j:look s t=some (.bool b))(e:b=true->RK E all l U ((t,.bool true)::s) Q)(i:b=false->RK E all l U ((t,.bool false)::s) Q):RK E all l U s Q:=by
 intro k f a w g;cases b with
 |true=>exact e rfl k f a w (g.imp fun c h=>⟨h.1,fun key x e=>h.2 key x (by
  grind [look,Nat.eq_of_beq_eq_true])⟩)
 |false=>exact i rfl k f a w (g.imp fun c h=>⟨h.1,fun key x e=>h.2 key x (by
  grind [look,Nat.eq_of_beq_eq_true])⟩)
def RK.bh{t:Nat}{p:Prop}[Decidable p](f:look s t=some (.bool (decide p)))(e:p->RK E all l U ((t,.bool true)::s) Q)(c:¬p->RK E all l U ((t,.bool false)::s) Q):RK E all l U s Q:=
 RK.split f (fun h=>e (pf h)) (fun h=>c (a6 h))
def OK.bN{c:Nat}(h:RK E l.toArray l U s Q):OK E (.region c l.toArray false) Q U s:=by
 intro a w e;refine wpIn_region ?_;have:=h 0 F a w e;simp_all[List.range_eq_range']
def OK.HB{t:Nat}{p:Prop}[Decidable p]{x y:Code}(f:Nat.blt t 1000=true)(g:look s t=some (.bool (decide p)))(e:p->OK E x Q U s)(c:¬p->OK E y Q U s):OK E (.cond (.tmp t) x y) Q U s:=
 OK.cond f g (fun h=>e (pf h)) (fun h=>c (a6 h))
def OK.fu{t:Nat}{b:Bool}{x y:Code}(e:Nat.blt t 1000=true)(f:look s t=some (.bool b))(g:b=true)(c:OK E x Q U s):OK E (.cond (.tmp t) x y) Q U s:=
 OK.cond e f (fun _=>c) (fun h=>by rw[g]at h;cases h)
def OK.iZ{t:Nat}{b:Bool}{x y:Code}(e:Nat.blt t 1000=true)(f:look s t=some (.bool b))(g:b=false)(c:OK E y Q U s):OK E (.cond (.tmp t) x y) Q U s:=
 OK.cond e f (fun h=>by rw[g]at h;cases h) (fun _=>c)
def OK.eW{t:Nat}{rows:List bi}{c:Code}(e:Nat.blt t 1000=true)(f:look s t=some (.sl rows))(h:R rows<=maxLen->OK E c Q U s):OK E c Q U s:=by
 intro a w g;obtain⟨cx,i,hh⟩:=g;obtain⟨_,cap,_,o,j,_⟩:=kg ((hh t _ f).slot e);exact h (ce o j) a w ⟨cx,i,hh⟩
def OK.ux{t:Nat}{z:ba}{c:Code}(e:Nat.blt t 1000=true)(f:look s t=some (.str z))(h:R z<=maxLen->OK E c Q U s):OK E c Q U s:=by
 intro a w g;obtain⟨cx,i,hh⟩:=g;exact h (fS ((hh t _ f).slot e)).2 a w ⟨cx,i,hh⟩
def OK.IV{t:Nat}{k:IntKind}{n:Int}{c:Code}(e:Nat.blt t 1000=true)(f:look s t=some (.int k n))(h:k.wrap n=n->OK E c Q U s):OK E c Q U s:=by
 intro a w g;obtain⟨cx,i,hh⟩:=g;exact h (cJ ((hh t _ f).slot e)).2 a w ⟨cx,i,hh⟩
end
def jW{E:Env}{U:bc}{c c':Ctx}{a:Act}{w w':World}(f:aM E U c a w)(i:∀b,b<w.heap.size->c'.all b->c.all b)(hd:∀(D:Nat)(o:Obj),w.heap[D]?=some o->o.isCells=false->w'.heap[D]?=some o):
  a.defers.Pairwise (· ≠ ·)/\∀d∈a.defers,∃D,d={target:=.collected D,args:=#[]}/\E.B<=D/\¬c'.all D/\w'.heap[D]?=some (.deferred (some [])):=
 ⟨f.iP.1,fun d h=>by
  obtain⟨D,q,p,j,g⟩:=f.iP.2 d h;exact⟨D,q,p,fun e=>j (i D (sa.1 g).1 e),hd D _ g rfl⟩⟩
def jY{E:Env}{U:bc}{c c':Ctx}{a:Act}{w w':World}(f:aM E U c a w)(g:∀b,b<w.heap.size->c'.all b->c.all b)(hd:∀(D:Nat)(o:Obj),w.heap[D]?=some o->o.isCells=false->w'.heap[D]?=some o):
  ∀p∈E.pins,¬c'.all p.1/\p.2.isCells=false/\w'.heap[p.1]?=some p.2:=by
 intro p e;obtain⟨j,i,h⟩:=f.nS p e;grind
def aM.below_grow{E:Env}{U:bc}{c:Ctx}{a:Act}{w w':World}{g:Mem}(e:aM E U c a w)(hB:Below w.heap.size w w')(hle:Mem.le c.h g)(hnew:∀p v,g p=some v->c.h p=some v\/w.heap.size<=p.block)
  (j:∀p v,g p=some v->w'.cell? p=some v):aM E U ⟨g,c.loc,c.arr,c.Y⟩ a w':=by
 have F:=hB.size;have i:∀b o,b<w.heap.size->c.h ⟨b,o,none⟩=none->g ⟨b,o,none⟩=none:=by
  intro b o H K;cases hh:g ⟨b,o,none⟩<;>grind
 have f:∀(D:Nat)(o:Obj),w.heap[D]?=some o->o.isCells=false->w'.heap[D]?=some o:=fun D o h _=>(hB.block D (sa.1 h).1).trans h
 refine⟨e.below.trans (da.of (hB.mono e.hB)),ce e.hB F,e.nt,jW e (fun _ _ h=>h) f,jY e (fun _ _ h=>h) f,j,Mem.le_trans e.hle hle,?_,?_,?_,e.used,?_,e.fB,e.fQ⟩
 ·intro p v G;rcases hnew p v G with h|h
  ·exact e.hnew p v h
  exact .inr (.inl (ce e.hB h))
 ·intro k b q;obtain⟨A,u,J,I,M⟩:=e.loc k b q;grind
 ·intro k m C b q t;obtain⟨A,u,J,I⟩:=e.arr k m C b q t;grind
 intro b B;obtain⟨A,u⟩:=e.Y b B;grind
def r7{w w':World}{B e sz:Nat}{c:Value}{n:Nat}{vs:List Value}(h:w.ownsRow B e sz c n vs)(hB:Below w.heap.size w w'):w'.ownsRow B e sz c n vs:=by
 refine⟨h.1,h.2.imp id ?_⟩;rintro⟨g,cap,cur,h1,h2,h3,r⟩;exact⟨g,cap,cur,h1,h2,(hB.block g (sa.1 h3).1).trans h3,r⟩
def Holds.below{E:Env}{U:bc}{c c':Ctx}{a:Act}{w w':World}(B:aM E U c a w)(hB:Below w.heap.size w w')(f:Ext c c')(g:∀k m i,c.arr k=some (m,i,true)->c'.arr k=some (m,i,true)){key:Nat}{x:X}
  (O:c'.Y=c.Y) (hnew:∀p v,c'.h p=some v->c.h p=some v\/w.heap.size<=p.block) (u:∀p v,c'.h p=some v->w'.cell? p=some v) (N:¬key<1000) (h:Holds c a w key x):Holds c' a w' key x:=by
 unfold Holds at *;rw[Zm N]at h⊢;refine cD h fun h=>?_
 split at h
 ·rename_i H;rw[Zn H];obtain⟨b,o,j,G,F⟩:=h;exact⟨b,o,f.loc _ _ j,(hB.block b (B.loc _ _ j).2.1).trans G,F.mono f⟩
 rename_i H;rw[Zm H];split at h
 ·rename_i D;rw[Zn D];obtain⟨K,rows,i,e,vs,M,j,G,F⟩:=h;exact⟨K,rows,i,e,vs,M.mono f,g _ _ _ j,r7 G hB,F⟩
 rename_i D;rw[Zm D];obtain⟨A,J,t,I,C⟩:=h;refine⟨A,J,t.mono f.loc,I,?_⟩;rw[O];exact I _ _ _ _ _ C f.h (fun p v e=>(hnew p v e).imp id fun h q=>by have:=(B.Y _ q).1;omega) u (da.of (hB.mono (Zr _))) fun b q=>hB.block b (B.Y _ q).1
def cX(w:World)(o:Obj):Below w.heap.size w (w.alloc o):=(Below.refl _ w).alloc (Zq _) o
inductive fE(s:St):List Operand->bi->St->Prop
 |nil:fE s [] [] []
 |cons {o:Operand} {os:List Operand} {y:X} {ys:bi} {r r':St}:bI s o y r->fE s os ys r'->fE s (o::os) (y::ys) (r++r')
def fE.looks{s:St}{os:List Operand}{ys:bi}{r:St}(h:fE s os ys r):ZY s r:=by
 induction h with
 |nil=>trivial
 |cons h _ c=>exact h.looks.app c
def fE.rep{s:St}{os:List Operand}{ys:bi}{r:St}(h:fE s os ys r){c:Ctx}{a:Act}{w:World}(f:∀p∈r,Holds c a w p.1 p.2):ah (bK c) ys (os.map a.eval):=by
 induction h with
 |nil=>trivial
 |cons h _ g=>exact⟨h.rep fun p e=>f p (sb _ e),g fun p e=>f p (ui _ e)⟩
def fm(x:X):Bool:=Nn [] x&&!cO x
def bY{c:Ctx}:∀{ys:bi}{vs:List Value},ah (bK c) ys vs->ys.all fm=true->ah (bt (aD c.h)) ys vs
 |[],[],_,_=>trivial
 |y::ys,v::vs,h,ho=>by
  simp only[so,Zw,fm,zd]at ho;exact⟨((T.Ad h.1 ho.1.2).cut ho.1.1).mono (fx (Mem.le_refl _)),bY h.2 (by simp_all)⟩
 |[],_::_,h,_=>h.elim
 |_::_,[],h,_=>h.elim
def CH{f:Mem}{c:Ctx}:Ext (aD f) ⟨f,c.loc,c.arr,c.Y⟩:=⟨Mem.le_refl _,(fun _ _ e=>by cases e),(fun _ _ _ _ e=>by cases e)⟩
def step_call{E:Env}{all:Array Oper}{s r rg:St}{d ty f:Nat}{pos:String}{after:Array Edge}{guard:Option (Nat×Bool)}{I:Operand}{os:List Operand}{at_:Array TypeId}{ys caps:bi}{res:X}
  (N:Gd all s guard rg) (hd:ca E d=true) (W:ZY s r) (K:∀args w,(callFunc f args).run E.P w=.ok (.enter f args) w) (hf:EK E f (ys++caps) res)
  (q:∀c a w,(∀p∈r,Holds c a w p.1 p.2)->ah (bt (aD c.h)) ys (os.map a.eval)/\∃g:List Value,a.eval I=.func (.func f) #[] g.toArray/\ah (bt (aD c.h)) caps g):
  aW E all ⟨some d,.call {callee:=.value I,args:=os.toArray,argTypes:=at_},ty,pos,after,guard⟩ s (rg++r) [(d,res)] []:=by
 simp only[Zw,rb]at hd;refine⟨?_,N.looks.app W⟩;intro U c a w D M _ next Q V
 have hw:=N.wanted (o:=⟨some d,.call {callee:=.value I,args:=os.toArray,argTypes:=at_},ty,pos,after,guard⟩) (fun p t=>M p (sb _ t));obtain⟨ha,g,hfo,hc⟩:=q c a w fun p t=>M p (ui _ t)
 unfold gh;rw[Zn hw];refine⟨fun _ _=>trivial,?_⟩;rw[Oper.semAt_eq _ _ _ fun cl he=>by cases he];have A:(execOp a.eval ⟨some d,.call {callee:=.value I,args:=os.toArray,argTypes:=at_},ty,pos,after,guard⟩).run E.P w=.ok (.enter f (os.map a.eval++g).toArray) w:=by
  simp_all[execOp,resolve,Deferred.ofValue,invoke]
 rw[A];refine⟨Z,?_⟩;have j:=hf c.h w (os.map a.eval++g) ⟨U,c,a,D⟩ D.hw (ha.append hc);have H:CallsIn E.ac (0 - 1) E.P f (os.map a.eval++g).toArray w _:=(callsIn_wide (n:=0)).2 j;refine H.mono ?_;rintro e S ⟨v,O,rfl,hB,hle,hnew,u,B⟩;have J:d<a.tmps.size:=by rw[D.nt];exact hd.2
 have i:Ext c ⟨O,c.loc,c.arr,c.Y⟩:=⟨hle,fun _ _ e=>e,fun _ m T lv e=>⟨m,T,lv,e,Zq _,fun _=>rfl⟩⟩;refine V ⟨O,c.loc,c.arr,c.Y⟩ _ S ((D.below_grow hB hle hnew u).put _ _) i ?_ ?_
 ·intro p t;simp only[pi]at t;subst t;unfold Holds;rw[Zn hd.1,cE J];exact B.mono CH
 intro key y hk G;have C:d≠key:=hk (d,res) F;by_cases H:key<1000
 ·refine Holds.put ?_ C v;unfold Holds at G⊢;rw[Zn H]at G⊢;exact G.mono i
 exact(Holds.below D hB i (fun _ _ _ e=>e) rfl hnew u H G).put C v
section
variable{E:Env}{all:Array Oper}{s r r1 r2 r3 rg:St}{d ty:Nat}{pos:String}{after:Array Edge}{guard:Option (Nat×Bool)}{x y z:Operand}
def S.call{f:Nat}{os:List Operand}{at_:Array TypeId}{ys:bi}{res:X}(j:Ct E.P f ys res)(c:∀args w,(callFunc f args).run E.P w=.ok (.enter f args) w)(i:Gd all s guard rg)(hd:ca E d=true)
  (e:fE s os ys r) (h:ys.all fm=true):aW E all ⟨some d,.call {callee:=.value (.func f),args:=os.toArray,argTypes:=at_},ty,pos,after,guard⟩ s (rg++r) [(d,res)] []:=
 step_call (caps:=[]) i hd e.looks c (by simpa using j.at) fun _ _ _ g=>⟨bY (e.rep g) h,[],rfl,Zo⟩
def S.dB{f:Nat}{os:List Operand}{at_:Array TypeId}{ys:bi}{res:X}(j:gz E.P f ys res)(o:gO E)(c:∀args w,(callFunc f args).run E.P w=.ok (.enter f args) w)(i:Gd all s guard rg)(hd:ca E d=true)
  (e:fE s os ys r) (h:ys.all fm=true):aW E all ⟨some d,.call {callee:=.value (.func f),args:=os.toArray,argTypes:=at_},ty,pos,after,guard⟩ s (rg++r) [(d,res)] []:=
 step_call (caps:=[]) i hd e.looks c (by simpa using j.at o) fun _ _ _ g=>⟨bY (e.rep g) h,[],rfl,Zo⟩
def S.ij{f:Nat}{os:List Operand}{at_:Array TypeId}{ys caps:bi}{res:X}(N:Ct E.P f (ys++caps) res)(g:∀args w,(callFunc f args).run E.P w=.ok (.enter f args) w)(M:Gd all s guard rg)(hd:ca E d=true)
  (C:bI s x (.fn f caps) r1) (F:fE s os ys r) (J:ys.all fm=true) (A:caps.all (mE [])=true) (t:caps.all (fun u=>!bR u)=true):
  aW E all ⟨some d,.call {callee:=.value x,args:=os.toArray,argTypes:=at_},ty,pos,after,guard⟩ s (rg++(r1++r)) [(d,res)] []:=
 step_call M hd (C.looks.app F.looks) g N.at fun c a w D=>by
  refine⟨bY (F.rep fun p i=>D p (ui _ i)) J,?_⟩;obtain⟨B,o,j⟩:=C.rep (c:=c) (a:=a) (w:=w) fun p i=>D p (sb _ i)
  refine⟨B,o,?_⟩;have:∀{e:bi}{vs:List Value},ah (cq c) e vs->e.all (mE [])=true->e.all (fun u=>!bR u)=true->ah (bt (aD c.h)) e vs:=by
   intro e
   induction e with
   |nil=>intro vs h _ _;exact(ah.bJ h)▸trivial
   |cons u e H=>
    intro vs h o j;obtain⟨v,G,rfl,I,q⟩:=h.bD;simp only[so,Zw,zd]at o j;refine⟨?_,H q o.2 (by simpa using j.2)⟩;have i:=(I.cut o.1).mono (fx (Mem.le_refl c.h));have K:=j.1;cases u<;>first|exact i|cases K
  exact this j A t
end
end Go.Ab
namespace Go.Ab
open Go.RowKit
def xG(c:TypeDesc):Prop:=(∃e,c=.slice e)\/c=.string
section
variable{P:Program}(w:World)
def qO(base t u ty e e0:Nat)(du:TypeDesc)(i:TypeInfo)(z:Value)(size bytes:Nat)(ht:P.underlying t=some (.slice e))(hu:P.underlying u=some du)(M:xG du)
  (hi:P.info? e=some i) (hz:i.zero=some z) (S:i.size=size) (hby:i.bytes=bytes) (hzs:z.cells.size=size)
  (v:Value) (n:Nat) (xs:List Value) (B:w.ownsRow base e0 size v n xs) (x:Value) (m:Nat) (f:List Value) (hlen:∀w,(Builtin.lenOf x).run P w=.ok m w) (hl:R f=m * size)
  (hf:∀O:World,(∀p,O.cell? p=w.cell? p)->(Builtin.firstCells size m x).run P O=.ok f.toArray O) (h1:∀q∈f,q.oneCell'=true)
  (h63:n+m<=maxLen) (N:(n+m) * bytes<=140737488355328) (V:base<=w.heap.size):
  ∃W O e1,(Builtin.append_ #[t,u] ty #[v,x]).run P w=.ok W O/\O.ownsRow base e1 size W (n+m) (xs++f)/\w.grownBy O v.ownBlock/\(W.ownBlock=v.ownBlock\/(W.ownBlock=some w.heap.size/\w.heap.size<O.heap.size))/\(m=0->W=v)/\∃a l c,W=.slice a l c:=by
 subst S;subst hby;have hsmall:n+m<=9223372036854775807:=by simp_all[maxLen]
 have C:R (xs++f)=(n+m) * i.size:=by rw[Zs,B.1,hl,aρ]
 have J:∀(old:Nat),(w.drew.alloc (.cells (xs.toArray++f.toArray++Builtin.zeroCells z.cells (grownCap w (n+m) old e - (n+m))) e)).ownsRow base e i.size
   (.slice (some ⟨w.heap.size,0,none⟩) (n+m) (grownCap w (n+m) old e)) (n+m) (xs++f):=by
  intro old;have hge:=grownCap_ge w (n+m) old e;have T:grownCap w (n+m) old e<=maxLen:=grownCap_le_maxLen w (n+m) old e h63;refine⟨C,.inr ⟨w.heap.size,_,_,rfl,V,heap_alloc_new w.drew _,hge,T,?_,?_⟩⟩
  ·simp only[Array.size_append,dν,size_zeroCells,hzs,B.1,hl,←aρ];simp_all
  grind
 have Z:∀(o:Obj)(row:Option Nat),w.grownBy (w.drew.alloc o) row:=fun o row=>⟨rfl,rfl,rfl,F,fun k hk _=>Below.heap_alloc w.drew o k hk⟩
 rcases B.2 with⟨rfl,rfl⟩|⟨g,cap,K,rfl,hbg,hg,hnc,T,hcs,qo⟩
 ·have hx:xs=[]:=tz (by simp_all);subst hx;by_cases hm:m=0
  ·subst hm;have hn:f=[]:=tz I;subst hn;refine⟨.slice none 0 0,w,e,?_,cκ w base e i.size,⟨rfl,rfl,rfl,Zq _,fun _ _ _=>rfl⟩,.inl rfl,fun _=>rfl,none,0,0,rfl⟩;have:=hf w fun _=>rfl
   rcases M with⟨e',rfl⟩|rfl<;>simp[Builtin.append_,run_underlying ht,run_underlying hu,sizeOf,typeInfo,hi,hlen,this]
  have G:¬(9223372036854775807<(m:Int)):=I
  have H:¬(281474976710656<Builtin.nextslicecap m 0 * i.bytes):=by rw[nextslicecap_zero I];grind
  have Y:=J 0;simp only[wc,bε,Array.empty_append]at Y⊢;refine⟨.slice (some ⟨w.heap.size,0,none⟩) m (grownCap w m 0 e),w.drew.alloc (.cells (f.toArray++Builtin.zeroCells z.cells (grownCap w m 0 e - m)) e),e,?_,Y,Z _ _,.inr ⟨rfl,F⟩,fun h=>absurd h hm,_,_,_,rfl⟩;have D:=hf w.drew fun _=>rfl
  rcases M with⟨e',rfl⟩|rfl<;>simp[Builtin.append_,run_underlying ht,run_underlying hu,sizeOf,typeInfo,zeroValue,hi,hz,hlen,hm,G,H,Question.forced,run_firstCells_none,D,newRow,grownCap]
 by_cases A:n+m<=cap
 ·have hfit:n * i.size+R f<=K.size:=by rw[hl,hcs,←aρ];exact m8 _ A
  have D:=hf w fun _=>rfl
  have X:=run_storeCells_at P g (n * i.size) e0 f 0 K w hg I h1;simp only[bγ]at X;refine⟨.slice (some ⟨g,0,none⟩) (n+m) cap,w.setRow g (K.toList.take (n * i.size)++f++K.toList.drop (n * i.size+R f)).toArray,e0,?_,
   ⟨C,.inr ⟨g,cap,_,rfl,hbg,setRow_heap w g K _ e0 _ hg,A,T,?_,?_⟩⟩,⟨rfl,rfl,rfl,F,fun k _ hk=>setRow_other w g k _ (fun e=>hk (by simp[Value.ownBlock,e]))⟩,.inl rfl,(fun h=>by subst h;rfl),_,_,_,rfl⟩
  ·rcases M with⟨e',rfl⟩|rfl<;>simp[Builtin.append_,run_underlying ht,run_underlying hu,sizeOf,typeInfo,hi,hlen,A,D,Addr.add_lit,X]
  all_goals grind
 have holds:∀j u,xs[j]?=some u->w.cell? ((⟨g,0,none⟩:Addr).add j)=some u:=B.cells (g:=g) rfl;have hn:¬(n+m<=cap):=A;have G:¬(9223372036854775807<((n:Int)+(m:Int))):=I
 have h48:=growslice_fits (need:=n+m) (old:=cap) (bytes:=i.bytes) I N;have H:¬(281474976710656<Builtin.nextslicecap (n+m) cap * i.bytes):=I
 have D:=hf w.drew fun _=>rfl
 have hfo:=run_firstCells_some (P:=P) w.drew i.size n ⟨g,0,none⟩ n cap xs B.1 (by simp_all);refine⟨_,_,e,?_,J cap,Z _ _,.inr ⟨rfl,F⟩,(fun h=>I),_,_,_,rfl⟩;rcases M with⟨e',rfl⟩|rfl<;>(simp[Builtin.append_,run_underlying ht,run_underlying hu,sizeOf,typeInfo,zeroValue,hi,hz,hlen,hn,G,H,Question.forced,D,hfo,newRow,grownCap];grind)
end
def cg:X->bi
 |.agg xs=>xs
 |x=>[x]
def sQ:X->Bool
 |.any|.cf _|.agg _|.box _|.arr _ _|.di _ _ _|.cb _|.res _|.CI _ _|.omap _|.cM _ _ _ _|.rU _ _ _ _ _=>false
 |.raw v=>v.oneCell'
 |_=>true
def nX:X->Bool
 |.agg xs=>xs.all sQ
 |x=>sQ x
theorem qP{c:Ctx}{u:X}{v:Value}(h:aV c u v)(e:sQ u=true):v.oneCell'=true:=by
 cases u with
 |int _ _=>cases h;rfl
 |bool _=>cases h;rfl
 |str _=>cases h;rfl
 |sl _=>cases h<;>rfl
 |b5 _=>cases h;rfl
 |fn f caps=>obtain⟨vs,rfl,_⟩:=h;rfl
 |ptr k off=>obtain⟨b,_,rfl⟩:=h;rfl
 |jt k=>obtain⟨b,_,rfl⟩:=h;rfl
 |slc rows=>obtain⟨_,a,rfl⟩:=h;rfl
 |own k n=>obtain⟨⟨a,l,g,rfl⟩,_⟩:=h;rfl
 |raw u=>have:v=u:=h;subst this;exact e
 |bO=>have:v=.slice none 0 0:=h;subst this;rfl
 |_=>cases e
def gq{c:Ctx}{u:X}{v:Value}(h:bK c u v)(f:nX u=true):ah (aV c) (cg u) v.cells.toList/\∀z∈v.cells.toList,z.oneCell'=true:=by
 have one:∀{c:Ctx}{xs:bi}{vs:List Value},ah (aV c) xs vs->xs.all sQ=true->∀z∈vs,z.oneCell'=true:=by
  intro c xs
  induction xs with
  |nil=>intro vs h _ z e;rw[ah.bJ h]at e;cases e
  |cons x xs p=>
   intro vs h g z e;obtain⟨v,j,rfl,q,i⟩:=h.bD;simp only[so,Zw]at g;rcases sf.1 e with rfl|e
   all_goals grind [qP]
 cases u
 case agg xs=>obtain⟨vs,rfl,i⟩:=h;exact⟨by grind [Value.cells,cg],by simpa[Value.cells]using one i f⟩
 case cf xs=>cases f
 all_goals
  simp only[bK,bt]at h;have g:=qP h f;have o:v.cells= #[v]:=by cases v<;>first|rfl|cases g
  rw[o];exact⟨⟨h,Zo⟩,fun z e=>by simp_all⟩
def Ctx.box(c:Ctx)(k b:Nat):Ctx:=⟨c.h,fun j=>if j=k then some b else c.loc j,c.arr,c.Y⟩
def aM.HP{E:Env}{U:bc}{c:Ctx}{a:Act}{w:World}(g:aM E U c a w){k:Nat}(Z:k∉E.fs)(hk:k∉U)(B:Obj):
  aM E ([k]++U) (c.box k w.heap.size) a (w.alloc B)/\Ext c (c.box k w.heap.size)/\(c.box k w.heap.size).loc k=some w.heap.size/\(w.alloc B).heap[w.heap.size]?=some B/\
   ∀key y,¬key<1000->Holds c a w key y->Holds (c.box k w.heap.size) a (w.alloc B) key y:=by
 have hn:=(g.used k hk).1;have hB:=cX w B;have q:=g.below_grow hB (Mem.le_refl _) (fun p v e=>.inl e) fun p v e=>by
  have M:=g.hw p v e;have K:p.block<w.heap.size:=block_lt_of_cell M;rw[hB.cell K];exact M
 have G:∀j b,c.loc j=some b->(c.box k w.heap.size).loc j=some b:=by
  grind [Ctx.box]
 have t:Ext c (c.box k w.heap.size):=⟨Mem.le_refl _,G,fun _ m O lv e=>⟨m,O,lv,e,Zq _,fun _=>rfl⟩⟩;have hnew:∀j b,(c.box k w.heap.size).loc j=some b->(j=k/\b=w.heap.size)\/(j≠k/\c.loc j=some b):=by
  grind [Ctx.box]
 have A:∀o,c.h ⟨w.heap.size,o,none⟩=none:=fun o=>by
  cases hh:c.h ⟨w.heap.size,o,none⟩with
  |none=>rfl
  |some v=>have:=block_lt_of_cell (g.hw _ _ hh);simp at this
 have u:∀b,b<w.heap.size->(c.box k w.heap.size).all b->c.all b:=by
  intro b X h;rcases h with h|⟨j,h⟩|h
  ·exact .inl h
  ·rcases hnew j b h with⟨_,rfl⟩|⟨_,h⟩
   ·omega
   exact .inr (.inl ⟨j,h⟩)
  exact .inr (.inr h)
 have H:∀(D:Nat)(o:Obj),w.heap[D]?=some o->o.isCells=false->(w.alloc B).heap[D]?=some o:=fun D o h _=>(hB.block D (sa.1 h).1).trans h
 have S:∀j,j∈E.fs->(c.box k w.heap.size).loc j=c.loc j:=fun j i=>by simp only[Ctx.box];grind
 refine⟨⟨q.below,q.hB,q.nt,jW g u H,jY g u H,q.hw,q.hle,q.hnew,?_,?_,?_,?_,fun j b i e=>g.fB j b i (S j i▸e),g.fQ⟩,t,by simp[Ctx.box],heap_alloc_new w _,fun key y I N=>Holds.below g hB t (fun _ _ _ e=>e) rfl (fun _ _ e=>.inl e) q.hw I N⟩
 ·intro j b i;rcases hnew j b i with⟨rfl,rfl⟩|⟨W,J⟩
  ·refine⟨.inl g.hB,F,A,fun C f=>?_,fun C m O f he=>?_⟩
   ·rcases hnew C _ f with⟨rfl,_⟩|⟨_,f⟩
    ·rfl
    have:=(g.loc C _ f).2.1;omega
   have:=(g.arr C m O _ f he).2.1;omega
  obtain⟨M,K,V,T,h5⟩:=q.loc j b J;refine⟨M,K,V,fun C f=>?_,h5⟩;rcases hnew C _ f with⟨rfl,rfl⟩|⟨_,f⟩
  ·have:=(g.loc j _ J).2.1;omega
  simp_all
 ·exact q.arr
 ·intro j i;simp only[List.mem_append,pi,eη]at i;refine⟨?_,(g.used j i.2).2⟩;simp only[Ctx.box];rw[Zm i.1];exact(g.used j i.2).1
 intro b N;obtain⟨M,K,V,T⟩:=g.Y b N;refine⟨by simp;omega,K,fun j i=>?_,T⟩;grind
def aM.box{E:Env}{U:bc}{c:Ctx}{a:Act}{w:World}(g:aM E U c a w){k:Nat}(e:k∉E.fs)(f:k∉U)(vs:Array Value)(T:TypeId):
 aM E ([k]++U) (c.box k w.heap.size) a (w.alloc (.cells vs T))/\Ext c (c.box k w.heap.size)/\(c.box k w.heap.size).loc k=some w.heap.size/\(w.alloc (.cells vs T)).heap[w.heap.size]?=some (.cells vs T (0,0))/\
  ∀key y,¬key<1000->Holds c a w key y->Holds (c.box k w.heap.size) a (w.alloc (.cells vs T)) key y:=g.HP e f _
structure pN(P:Program)(T:TypeId)(zx:bi):Prop where
 ex:∃z:Value,(∀w,(zeroValue T).run P w=.ok z w)/\z.cells.toList.map Cs=zx/\z.cells.toList.all qF=true
theorem Holds.sD{c:Ctx}{a:Act}{w:World}{k b:Nat}{T:TypeId}{vs:Array Value}{us:bi}(h:k<1000)(g:c.loc k=some b)(f:w.heap[b]?=some (.cells vs T (0,0)))(e:ah (aV c) us vs.toList):
  ¬(1000+k<1000)/\Holds c a w (1000+k) (.box us):=by
 refine⟨I,?_⟩;unfold Holds;rw[Zm I,Zn I,H3];exact .inr ⟨b,_,g,f,T,vs,rfl,e⟩
section
variable{E:Env}{all:Array Oper}{s r r1 r2 r3 rg:St}{d ty:Nat}{pos:String}{after:Array Edge}{guard:Option (Nat×Bool)}{x y z:Operand}
def S.alloc{T k:Nat}{zx:List X}(i:pN E.P T zx)(j:Nat.blt k 1000=true)(o:Gd all s guard rg)(hd:(Nat.blt d 1000&&Nat.blt d E.nt)=true)(f:E.fs.contains k=false:=by rfl):
  aW E all ⟨some d,.alloc T,ty,pos,after,guard⟩ s (rg++[]) ((d,.ptr k 0)::[(1000+k,.box zx)]) [k]:=
 aW.mk o hd rfl trivial fun U c a w p _ g=>by
  rw[rb]at j;obtain⟨h,q,v,u⟩:=i.ex;have e:k∉U:=g k F;obtain⟨g1,g2,t,B,A⟩:=p.box (nQ f) e h.cells T;refine⟨.pointer (some ⟨w.heap.size,0,none⟩),_,w.alloc (.cells h.cells T),?_,g1,g2,⟨w.heap.size,t,rfl⟩,?_,?_⟩
  ·simp[execOp,Instr.alloc,q,newVar,newRow]
  all_goals grind [Holds.sD,mW]
def S.box{T k:Nat}{u:X}(v:Nat.blt k 1000=true)(A:Gd all s guard rg)(hd:(Nat.blt d 1000&&Nat.blt d E.nt)=true)(h:bI s x u r)(q:nX u=true)(f:E.fs.contains k=false:=by rfl):
  aW E all ⟨some d,.box T x,ty,pos,after,guard⟩ s (rg++r) ((d,.ptr k 0)::[(1000+k,.box (cg u))]) [k]:=
 aW.mk A hd rfl h.looks fun U c a w B t g=>by
  rw[rb]at v;have e:k∉U:=g k F;have o:=(gq (h.rep (c:=c) (a:=a) (w:=w) t) q).1;obtain⟨g1,g2,j,C,D⟩:=B.box (nQ f) e (a.eval x).cells T;refine⟨.pointer (some ⟨w.heap.size,0,none⟩),_,w.alloc (.cells (a.eval x).cells T),?_,g1,g2,⟨w.heap.size,j,rfl⟩,?_,?_⟩
  ·rfl
  ·intro p i;simp only[pi]at i;subst i;exact Holds.sD I j C (o.mono fun _ _=>aV.mono g2)
  simp_all
def aW.IZ{wr:St}{op:Op}(u:Gd all s guard rg)(e:mX op=false)(C:ZY s r)
  (h:∀(U:bc)(c:Ctx)(a:Act)(w:World),aM E U c a w->(∀p∈r,Holds c a w p.1 p.2)->∃f,(execOp a.eval ⟨none,op,ty,pos,after,guard⟩).run E.P w=.ok .skip f/\aM E U c a f/\
   (∀p∈wr,¬p.1<1000/\Holds c a f p.1 p.2)/\(∀key y,¬key<1000->(∀p∈wr,p.1≠key)->Holds c a w key y->Holds c a f key y)):aW E all ⟨none,op,ty,pos,after,guard⟩ s (rg++r) wr []:=by
 refine⟨?_,u.looks.app C⟩;intro U c a w F t G next Q B
 obtain⟨f,g,q,j,D⟩:=h U c a w F (fun p i=>t p (ui _ i));have hw:=u.wanted (o:=⟨none,op,ty,pos,after,guard⟩) (fun p i=>t p (sb _ i));unfold gh;rw[Zn hw];refine⟨fun _ _=>trivial,?_⟩;rw[Oper.semAt_eq _ _ _ (fun cl v=>by simp only at v;rw[v]at e;cases e),g];refine B c a f q (Ext.refl c) (fun p i=>(j p i).2) fun key y H A=>?_
 by_cases I:key<1000
 ·unfold Holds at A⊢;simp_all
 grind
def S.store{T n k off:Nat}{ag:Bool}{u:X}{us V:bi}(ht:eT E.P T ag n)(hg:Gd all s guard rg)(N:bI s x (.ptr k off) r1)(M:bI s y u r2)(hk:Nat.blt k 1000=true)(hb:look s (1000+k)=some (.box us))
  (hu:nX u=true) (hn:R (cg u)=n) (hfit:Nat.ble (off+n) (R us)=true) (hus:us.take off++(cg u++us.drop (off+n))=V):
  aW E all ⟨none,.store T x y,ty,pos,after,guard⟩ s (rg++(r1++(r2++[(1000+k,.box us)]))) [(1000+k,.box V)] []:=
 aW.IZ hg rfl (N.looks.app (M.looks.app ⟨hb,Zo⟩)) fun U c a w f hr=>by
  rw[rb]at hk;rw[ky]at hfit;subst hus;obtain⟨b,h1,hv⟩:=iB (N.rep (c:=c) (a:=a) (w:=w) fun p C=>hr p (by simp[C]));obtain⟨b',T',vs,h2,h3,h4⟩:=fD (hr (1000+k,.box us) F) hk;rw[h1]at h2;cases h2;obtain⟨hc,ho⟩:=gq (M.rep (c:=c) (a:=a) (w:=w) fun p C=>hr p (by simp[C])) hu;have hl:=h4.length;have hcl:=hc.length;have hvl:R vs.toList=vs.size:=F
  have hcs:(a.eval y).cells.size=n:=by rw[←hn,hcl];simp
  have Z:=run_storeCells_at E.P b off T' (a.eval y).cells.toList 0 vs w h3 (by simp;omega) ho;simp only[bγ]at Z;obtain⟨q1,q2,q3,q4,q5⟩:=f.loc k b h1;have W:∀p v,c.h p=some v->(w.setRow b (vs.toList.take off++(a.eval y).cells.toList++vs.toList.drop (off+R (a.eval y).cells.toList)).toArray).cell? p=some v:=by
   intro p v C;have H:p.block≠b:=fun e=>by
    have h5:=f.hw p v C;have G:p.spot=none:=by
     cases G:p.spot with
     |none=>rfl
     |some q=>simp only[World.cell?,G]at h5;split at h5<;>simp at h5
    have h6:=q3 p.off;have:p=⟨b,p.off,none⟩:=by cases p;simp at e G;subst e G;rfl
    rw[←this,C]at h6;cases h6
   rw[cell_setRow_other w b _ p H];exact f.hw p v C
  have A:∀(D:Nat)(o:Obj),w.heap[D]?=some o->o.isCells=false->(w.setRow b (vs.toList.take off++(a.eval y).cells.toList++vs.toList.drop (off+R (a.eval y).cells.toList)).toArray).heap[D]?=some o:=fun D o hD ho=>by
   rw[setRow_other w b D _ (fun e=>by rw[e,h3]at hD;cases hD;cases ho)];exact hD
  refine⟨w.setRow b (vs.toList.take off++(a.eval y).cells.toList++vs.toList.drop (off+R (a.eval y).cells.toList)).toArray,?_,⟨?_,by simpa using f.hB,f.nt,jW f (fun _ _ h=>h) A,jY f (fun _ _ h=>h) A,W,f.hle,f.hnew,?_,?_,f.used,fun B M=>by simpa using f.Y B M,f.fB,f.fQ⟩,?_,?_⟩
  ·simp[execOp,hv,Instr.storeAt,Instr.sureAddr,storeVar,ht.size,hcs,Z]
  ·exact f.below.trans ⟨rfl,rfl,rfl,F,fun j O N=>setRow_other w b j _ (Env.js q1 O N)⟩
  ·intro j B O;obtain⟨p1,p2,p3⟩:=f.loc j B O;exact⟨p1,by simpa using p2,p3⟩
  ·intro j m hv B O hb2;obtain⟨p1,p2,p3⟩:=f.arr j m hv B O hb2;exact⟨p1,by simpa using p2,p3⟩
  ·intro p C;simp only[pi]at C;subst C;refine Holds.sD hk h1 (setRow_heap w b vs _ T' _ h3) ?_;have hnn:R (a.eval y).cells.toList=n:=by rw[←hcl,hn]
   rw[hnn];simp only[m7];exact(h4.take off).append (hc.append (h4.drop (off+n)))
  intro key u2 hkey H i;have hne2:key≠1000+k:=fun e=>H _ (pi.2 rfl) e.symm
  unfold Holds at i⊢;rw[Zm hkey]at i⊢;refine cD i fun i=>?_
  split at i
  ·rename_i K;rw[Zn K];obtain⟨B,o2,e1,e2,e3⟩:=i;refine⟨B,o2,e1,?_,e3⟩;have:B≠b:=fun e=>by subst e;have:=q4 _ e1;omega
   rw[setRow_other w b B _ this];exact e2
  rename_i K;rw[Zm K];split at i
  ·rename_i t;rw[Zn t];obtain⟨sz,rows,hv2,e,vs2,N,e1,e2,e3⟩:=i;refine⟨sz,rows,hv2,e,vs2,N,e1,⟨e2.1,e2.2.imp id ?_⟩,e3⟩;rintro⟨g,cap,cur,f1,f2,f3,f4⟩;refine⟨g,cap,cur,f1,f2,?_,f4⟩;have:g≠b:=fun e=>q5 _ _ _ e1 (by rw[f1,←e];rfl)
   rw[setRow_other w b g _ this];exact f3
  rename_i t;rw[Zm t];obtain⟨hk0,J,hx0,hJ,hJ2⟩:=i;refine⟨hk0,J,hx0,hJ,hJ _ _ _ _ _ hJ2 (Mem.le_refl _) (fun _ _ e=>.inl e) W ⟨rfl,rfl,rfl,F,fun j O=>I⟩ fun B M=>setRow_other w b B _ fun e=>?_⟩;subst e;exact(f.Y _ M).2.2.1 k h1
end
end Go.Ab
namespace Go.Ab
open Go.RowKit
def y6(off:Nat):bi->bi->bi
 |[],cs=>cs
 |x::xs,cs=>y6 (off+1) xs (cs.set off x)
def oS(pl:Nat->Option (Nat×Nat))(cs:bi):List (Nat×X)->Option bi
 |[]=>some cs
 |(i,x)::rest=>match pl i with
  |none=>none
  |some (off,size)=>if Nat.beq (R (cg x)) size&&Nat.ble (off+size) (R cs) then oS pl (y6 off (cg x) cs) rest else none
def th{R:X->Value->Prop}:∀(off j0:Nat){xs:bi}{vs:List Value}{cs:bi}{cells:Array Value},ah R xs vs->ah R cs cells.toList->
  ah R (y6 (off+j0) xs cs) ((vs.zipIdx j0).foldl (fun cs (p:Value×Nat)=>cs.setIfInBounds (off+p.2) p.1) cells).toList
 |_,_,[],[],_,_,_,h=>h
 |off,j0,x::xs,v::vs,cs,cells,h,hc=>by
  simp only[y6,List.zipIdx_cons,aτ];have:=th off (j0+1) (cs:=cs.set (off+j0) x) (cells:=cells.setIfInBounds (off+j0) v) h.2 (by simpa using ah.set h.1 (off+j0) hc);omega
 |_,_,[],_::_,_,_,h,_=>h.elim
 |_,_,_::_,[],_,_,h,_=>h.elim
def jh{c:Ctx}(pl:Nat->Option (Nat×Nat)):∀(ps:List (Nat×X))(vs:List (Nat×Value))(cs:bi)(cells:Array Value)(out:bi),ah (aV c) cs cells.toList->
  ah (fun p q=>p.1=q.1/\ah (aV c) (cg p.2) q.2.cells.toList) ps vs->oS pl cs ps=some out->∃e,Instr.fill pl cells vs=some e/\ah (aV c) out e.toList
 |[],[],cs,cells,out,h,_,hf=>by simp only[oS,bθ]at hf;subst hf;exact⟨cells,rfl,h⟩
 |(i,x)::ps,(j,v)::vs,cs,cells,out,h,hp,hf=>by
  obtain⟨⟨u,t⟩,C⟩:=hp;simp only at u;subst u;simp only[oS]at hf;simp only[Instr.fill];cases g:pl i with
  |none=>simp_all
  |some os=>
   obtain⟨off,size⟩:=os;simp only[g]at hf⊢;have A:=t.length;have B:=h.length;simp only[Array.length_toList]at A B;split at hf
   ·rename_i o;simp only[Zw,ky]at o;have D:=Nat.eq_of_beq_eq_true o.1;rw[Zm (by simp;omega)];have f:=th off 0 t h;rw[bγ]at f;refine jh pl ps vs _ _ out ?_ C hf;grind [Array.toList_zipIdx]
   cases hf
 |[],_::_,_,_,_,_,h,_=>h.elim
 |_::_,[],_,_,_,_,h,_=>h.elim
structure nL(P:Program)(T:TypeId)(zs:List Value)(pl:Nat->Option (Nat×Nat)):Prop where
 ex:∀parts,P.built T parts=Instr.fill pl zs.toArray parts
def kW{c:Ctx}{f:Operand→Value}:∀{ps:List (Nat×Operand)}{us:List X},ah (bK c) us ((ps.map (·.2)).map f)→us.all nX=true→
  ah (fun p q=>p.1=q.1/\ah (aV c) (cg p.2) q.2.cells.toList) ((ps.map (·.1)).zip us) (ps.map fun(i,x)=>(i,f x))
 |[],[],_,_=>trivial
 |(i,x)::ps,u::us,h,ho=>by
  simp only[so,Zw]at ho;exact⟨⟨rfl,(gq h.1 ho.1).1⟩,kW h.2 ho.2⟩
 |[],_::_,h,_=>h.elim
 |_::_,[],h,_=>h.elim
section
variable{E:Env}{all:Array Oper}{s r r1 r2 r3 rg:St}{d ty:Nat}{pos:String}{after:Array Edge}{guard:Option (Nat×Bool)}{x y z:Operand}
def S.build{T:Nat}{zs:List Value}{pl:Nat->Option (Nat×Nat)}{ps:List (Nat×Operand)}{us out:bi}(hB:nL E.P T zs pl)(f:zs.all qF=true)(j:Gd all s guard rg)(hd:ca E d=true)
  (e:fE s (ps.map (·.2)) us r) (g:us.all nX=true) (o:oS pl (zs.map Cs) ((ps.map (·.1)).zip us)=some out):
  aW E all ⟨some d,.build T ps.toArray,ty,pos,after,guard⟩ s (rg++r) [(d,.agg out)] []:=
 aW.val j hd rfl e.looks fun c A w hh h=>by
  obtain⟨cells,q,p⟩:=jh (c:=c) pl _ _ _ zs.toArray out (by simpa using mW f) (kW (e.rep (c:=c) (a:=A) (w:=w) h) g) o;refine⟨.agg cells,?_,cells.toList,F,p⟩;have:=run_build (P:=E.P) w T (ps.map fun(i,x)=>(i,A.eval x)).toArray cells (by rw[hB.ex];exact q);simp only[execOp];simp[this]
def Ctx.own(c:Ctx)(k n:Nat)(v:Value)(lv:Bool):Ctx:=⟨c.h,c.loc,fun j=>if j=k then some (n,v,lv)else c.arr j,c.Y⟩
structure lV(P:Program)(t e sz bytes:Nat):Prop where
 mD:P.underlying t=some (.slice e)
 ex:∃i z,P.info? e=some i/\i.zero=some z/\i.size=sz/\i.bytes=bytes/\z.cells.size=sz
 pos:0<sz
 run:(∀w,(sizeOf e).run P w=.ok sz w)/\∃z,(∀w,(zeroValue e).run P w=.ok z w)/\z.cells.size=sz
def aM.lQ{E:Env}{U:bc}{c:Ctx}{a:Act}{w w':World}(g:aM E U c a w){k:Nat}(hk9:k∉E.fs)(hk:k∉U){n:Nat}{v:Value}(hB:Below w.heap.size w w')(hv:v.ownBlock=none\/(v.ownBlock=some w.heap.size/\w.heap.size<w'.heap.size)):
  aM E ([k]++U) (c.own k n v true) a w'/\Ext c (c.own k n v true)/\(c.own k n v true).arr k=some (n,v,true)/\
   ∀key y,¬key<1000->Holds c a w key y->Holds (c.own k n v true) a w' key y:=by
 have hn:=(g.used k hk).2;have t:=g.below_grow hB (Mem.le_refl _) (fun p v e=>.inl e) fun p v e=>by
  have G:=g.hw p v e;have F:p.block<w.heap.size:=block_lt_of_cell G;rw[hB.cell F];exact G
 have A:∀j q,c.arr j=some q->(c.own k n v true).arr j=some q:=by
  grind [Ctx.own]
 have B:Ext c (c.own k n v true):=⟨Mem.le_refl _,fun _ _ e=>e,fun j m hv lv e=>⟨m,hv,lv,A _ _ e,Zq _,fun _=>rfl⟩⟩;have hnew:∀j m u,(c.own k n v true).arr j=some (m,u,true)->(j=k/\u=v)\/(j≠k/\c.arr j=some (m,u,true)):=by
  grind [Ctx.own]
 have I:∀o,c.h ⟨w.heap.size,o,none⟩=none:=fun o=>by
  cases hh:c.h ⟨w.heap.size,o,none⟩with
  |none=>rfl
  |some v=>have:=block_lt_of_cell (g.hw _ _ hh);simp at this
 have H:∀b,v.ownBlock=some b->b=w.heap.size/\b<w'.heap.size:=by
  grind
 have hlo:∀j,j∈E.fs->(c.own k n v true).arr j=c.arr j:=fun j i=>by simp only[Ctx.own];grind
 have C:∀b,b<w.heap.size->(c.own k n v true).all b->c.all b:=by
  intro b N h;rcases h with h|h|⟨j,m,u,h,F⟩
  ·exact .inl h
  ·exact .inr (.inl h)
  grind [Ctx.all]
 have O:∀(D:Nat)(o:Obj),w.heap[D]?=some o->o.isCells=false->w'.heap[D]?=some o:=fun D o h _=>(hB.block D (sa.1 h).1).trans h
 refine⟨⟨t.below,t.hB,t.nt,jW g C O,jY g C O,t.hw,t.hle,t.hnew,?_,?_,?_,?_,g.fB,fun j m u lv i e=>g.fQ j m u lv i (hlo j i▸e)⟩,B,by simp[Ctx.own],fun key y S Z=>Holds.below g hB B (fun _ _ _ e=>A _ _ e) rfl (fun _ _ e=>.inl e) t.hw S Z⟩
 ·intro j b i;obtain⟨G,F,V,h4,h5⟩:=t.loc j b i;refine⟨G,F,V,h4,fun M m u f=>?_⟩;rcases hnew M m u f with⟨rfl,rfl⟩|⟨_,f⟩
  ·intro e;have:=(H b e).1;have:=(g.loc j b i).2.1;omega
  grind
 ·intro j m u b i J;rcases hnew j m u i with⟨rfl,rfl⟩|⟨hne,T⟩
  ·obtain⟨rfl,N⟩:=H b J;refine⟨.inl g.hB,N,I,fun M X W f K=>?_⟩;rcases hnew M X W f with⟨rfl,_⟩|⟨_,f⟩
   ·rfl
   have:=(g.arr M X W _ f K).2.1;omega
  obtain⟨G,F,V,h4⟩:=t.arr j m u b T J;refine⟨G,F,V,fun M X W f K=>?_⟩;rcases hnew M X W f with⟨rfl,rfl⟩|⟨_,f⟩
  ·have h6:=(H b K).1;have:=(g.arr j m u b T J).2.1;omega
  grind
 ·intro j i;simp only[List.mem_append,pi,eη]at i;refine⟨(g.used j i.2).1,?_⟩;simp only[Ctx.own];rw[Zm i.1];exact(g.used j i.2).2
 intro b Z;obtain⟨G,F,V,h4⟩:=g.Y b Z;refine⟨rp G hB.size,F,V,fun j m u i e=>?_⟩;grind
def Holds.lB{c:Ctx}{a:Act}{w:World}{k sz e:Nat}{f:Value}{vs:List Value}{rows:List bi}(p:k<1000)(o:c.arr k=some (R rows,f,true))(j:w.ownsRow 0 e sz f (R rows) vs)
  (i:∀q∈rows,R q=sz) (g:ah (ay c.h) rows.flatten vs):¬(2000+k<1000)/\Holds c a w (2000+k) (.arr sz rows):=by
 refine⟨I,?_⟩;unfold Holds;rw[Zm I,Zm I,Zn I,H3];exact .inr ⟨sz,rows,f,e,vs,⟨rfl,rfl,g⟩,o,j,i⟩
def S.iI{k sz:Nat}(B:Gd all s guard rg)(hd:(Nat.blt d 1000&&Nat.blt d E.nt)=true)(i:E.fs.contains k=false:=by rfl)(j:Nat.blt k 1000=true:=by rfl):
  aW E all ⟨some d,.assign (.const (.slice none 0 0)),ty,pos,after,guard⟩ s (rg++[]) ((d,.own k 0)::[(2000+k,.arr sz [])]) [k]:=
 aW.mk B hd rfl trivial fun U c a w C _ o=>by
  rw[rb]at j;have g:k∉U:=o k F;obtain⟨g1,g2,t,D⟩:=C.lQ (nQ i) g (n:=0) (v:=.slice none 0 0) (Below.refl _ w) (.inl rfl);refine⟨.slice none 0 0,_,w,rfl,g1,g2,⟨⟨none,0,0,rfl⟩,0,_,_,t,Zq _,fun _=>rfl⟩,?_,fun key u f _ A=>D key u f A⟩;intro p q;simp only[pi]at q;subst q;exact Holds.lB (e:=0) (rows:=[]) (vs:=[]) I t (cκ w _ 0 sz) (fun _ h=>by cases h) trivial
def S.mkSlice{t e sz bytes n k:Nat}{ps:List (Nat×Operand)}{us:bi}{rows:List bi}(V:lV E.P t e sz bytes)(hg:Gd all s guard rg)(hd:ca E d=true)
  (X:fE s (ps.map (·.2)) us r) (f:us.all nX=true) (_hrows:us.map cg=rows) (hf:oS (fun i=>some (i * sz,sz)) (List.replicate (n * sz) .any) ((ps.map (·.1)).zip us)=some rows.flatten)
  (hr:rows.all (fun q=>Nat.beq (R q) sz)=true) (o:R rows=n) (hD:rows.flatten.all yG=true) (B:Nat.ble (n * sz) 16777216=true) (M:E.fs.contains k=false:=by rfl) (N:Nat.blt k 1000=true:=by rfl):
  aW E all ⟨some d,.buildSlice t n ps.toArray,ty,pos,after,guard⟩ s (rg++r) ((d,.own k n)::[(2000+k,.arr sz rows)]) [k]:=
 aW.mk hg hd rfl X.looks fun U c a w hb G T=>by
  clear _hrows;rw[ky]at B;rw[rb]at N;have K:k∉U:=T k F;have g:∀q∈rows,R q=sz:=fun q H=>Nat.eq_of_beq_eq_true ((rm.1 hr) q H)
  have O:R rows.flatten=n * sz:=by rw[bg g,o]
  obtain⟨D,W,hz,hzs⟩:=V.run;have j:∀(q:Array Value),q.size=n * sz->ah (aV c) (List.replicate (n * sz) .any) q.toList:=fun q H=>ah.fb (by simp[H]) fun i u v f _=>by
   simp only[cθ]at f;split at f
   ·cases f;exact trivial
   cases f
  obtain⟨cells,C,Z⟩:=jh (c:=c) (fun i=>some (i * sz,sz)) _ _ _ (((Array.range (n * sz)).map fun i=>(if n * sz=0 then #[]else W.cells)[i % (if n * sz=0 then #[]else W.cells).size]!)) rows.flatten (j _ F) (kW (X.rep (c:=c) (a:=a) (w:=w) G) f) hf;have h:cells.size=n * sz:=by have:=Z.length;rw[O]at this;simpa using this.symm
  have hB:=cX w (.cells cells e);obtain⟨g1,g2,g3,g4⟩:=hb.lQ (nQ M) K (n:=n) (v:=.slice (some ⟨w.heap.size,0,none⟩) n n) hB (.inr ⟨rfl,F⟩);refine⟨.slice (some ⟨w.heap.size,0,none⟩) n n,_,w.alloc (.cells cells e),?_,g1,g2,⟨⟨_,_,_,rfl⟩,n,_,_,g3,Zq _,fun _=>rfl⟩,?_,fun key u A _ f=>g4 key u A f⟩
  ·have J:¬(n * sz>2 ^ 24):=I
   simp only[execOp,Instr.buildSlice,Sem.run_bind,run_underlying V.mD,Result.andThen_ok,D,J,if_false];by_cases h0:n * sz=0
   ·simp only[h0,if_true]at C;simp at C;simp[h0,C,newRow]
   simp only[h0,if_false]at C;simp[h0,hz,C,newRow]
  intro p Y;simp only[pi]at Y;subst Y;refine Holds.lB (e:=e) (vs:=cells.toList) I (by rw[o];exact g3) ⟨by simp[h,o],.inr ⟨w.heap.size,n,cells,by rw[o],Zr _,heap_alloc_new w _,I,?_,h,?_⟩⟩ g (lF (Z.mono fun _ _=>aV.mono g2) hD)
  ·have:=V.pos;have:n<=n * sz:=dψ n this;unfold maxLen;omega
  rw[o,sg (by simp[h])]
