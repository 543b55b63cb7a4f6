import Derived.Test.YtkkbjdenehfpaaaGreatDoorHwN
import Derived.CallsIn
import Derived.IntWalk
import Derived.Laws.AppendOwn
import Derived.Lib.ItoaNum
import Derived.MapKept
import Derived.OrdersIn
import Derived.RangeFuncLeaves
import Derived.RangeFuncOwn
import Derived.WalkKit
set_option linter.all false
open List renaming length->R
namespace Go.Ab
open Go.RowKit
abbrev Mem:=Addr->Option Value
inductive X where
 |int (k:IntKind) (n:Int)
 |bool (b:Bool)
 |str (s:ba)
 |sl (rows:List<|List X)
 |Yt (cells:List X)
 |fn (f:Nat) (caps:List X)
 |agg (xs:List X)
 |Yy (xs:List X)
 |ptr (k off:Nat)
 |own (k n:Nat)
 |box (cells:List X)
 |arr (sz:Nat) (rows:List<|List X)
 |raw (v:Value)
 |ZM
 |any
 |Wt (k n off:Nat)
 |cb (Φ:Value->Prop)
 |res (J:Mem->(Nat->Prop)->World->Prop)
 |qz (k:Nat) (Jb:Nat->Mem->(Nat->Prop)->World->Prop)
 |omap (es:List<|X×X)
 |QS (k:Nat)
 |GL (k n sz lo hi:Nat)
 |slc (rows:List<|List X)
 |W8 (sz:Nat) (pre:List<|List X) (mid:List X) (post:List<|List X)
theorem XH{a b c:Prop}(h:a\/b)(f:b->c):a\/c:=by grind
def Z1{α β:Type}(R:α->β->Prop):List α->List β->Prop
 |[],[]=>True
 |a::as0,b::bs=>R a b/\Z1 R as0 bs
 |_,_=>False
section all2
variable{α β:Type}{R R':α->β->Prop}
def Z1.length:∀{as0:List α}{bs:List β},Z1 R as0 bs->as0.length=bs.length
 |[],[],_=>rfl
 |_::_,_::_,h=>by simp[Z1.length h.2]
 |[],_::_,h=>h.elim
 |_::_,[],h=>h.elim
def Z1.mono(c:∀a b,R a b->R' a b):∀{as0:List α}{bs:List β},Z1 R as0 bs->Z1 R' as0 bs
 |[],[],_=>trivial
 |_::_,_::_,h=>⟨c _ _ h.1,Z1.mono c h.2⟩
 |[],_::_,h=>h.elim
 |_::_,[],h=>h.elim
def Z1.append:∀{as0 as':List α}{bs bs':List β},Z1 R as0 bs->Z1 R as' bs'->Z1 R (as0++as') (bs++bs')
 |[],_,[],_,_,h'=>h'
 |_::_,_,_::_,_,h,h'=>⟨h.1,Z1.append h.2 h'⟩
 |[],_,_::_,_,h,_=>h.elim
 |_::_,_,[],_,h,_=>h.elim
theorem Z1.get:∀{as0:List α}{bs:List β},Z1 R as0 bs->∀{i:Nat}{a:α}{b:β},as0[i]?=some a->bs[i]?=some b->R a b
 |[],[],_,i,a,b,ha,_=>by simp at ha
 |x::as0,y::bs,h,0,a,b,ha,hb=>by simp at ha hb;subst ha;subst hb;exact h.1
 |x::as0,y::bs,h,i+1,a,b,ha,hb=>Z1.get h.2 (i:=i) (by grind) (by grind)
 |[],_::_,h,_,_,_,_,_=>h.elim
 |_::_,[],h,_,_,_,_,_=>h.elim
theorem Z1.WI:∀{as0:List α}{bs:List β},as0.length=bs.length->(∀(i:Nat)(a:α)(b:β),as0[i]?=some a->bs[i]?=some b->R a b)->Z1 R as0 bs
 |[],[],_,_=>trivial
 |_::_,_::_,hl,h=>⟨h 0 _ _ F F,Z1.WI (by grind) λi a b e c=>h (i+1) a b (by grind)<|by grind⟩
 |[],_::_,hl,_=>by simp at hl
 |_::_,[],hl,_=>by simp at hl
def Z1.take(n:Nat):∀{c:List α}{g:List β},Z1 R c g->Z1 R (c.take n) (g.take n):=by
 intro c g h;refine Z1.WI (by simp[h.length]) λi a b e f=>?_
 rw[H0]at e f;split at e
 ·rename_i hi;rw[Zn hi]at f;exact h.get e f
 cases e
theorem Z1.drop(n:Nat):∀{c:List α}{e:List β},Z1 R c e->Z1 R (c.drop n) (e.drop n):=by
 intro c e h;refine Z1.WI (by simp[h.length]) λi a b g f=>?_
 rw[m9]at g f;exact h.get g f
def Z1.set{a:α}{b:β}(c:R a b):∀{as0:List α}{bs:List β}(i:Nat),Z1 R as0 bs->Z1 R (as0.set i a) (bs.set i b)
 |[],[],_,_=>trivial
 |_::_,_::_,0,h=>⟨c,h.2⟩
 |_::_,_::_,i+1,h=>⟨h.1,Z1.set c i h.2⟩
 |[],_::_,_,h=>h.elim
 |_::_,[],_,h=>h.elim
theorem Z1.WN{c:List α}{bs:List β}(h:Z1 R c bs){i:Nat}{a:α}(e:c[i]?=some a):∃b,bs[i]?=some b/\R a b:=by
 have hi:i<bs.length:=by rw[←h.length];grind
 exact⟨bs[i],Zv hi,h.get e<|Zv hi⟩
def Z1.YN{bs:List β}(h:Z1 R [] bs):bs=[]:=by cases bs with|nil=>rfl|cons _ _=>exact h.elim
def Z1.YU{a:α}{e:List α}{bs:List β}(h:Z1 R (a::e) bs):∃b c,bs=b::c/\R a b/\Z1 R e c:=by
 cases bs with|nil=>exact h.elim|cons b c=>exact⟨b,c,rfl,h.1,h.2⟩
end all2
inductive ZR(h:Mem):X->Value->Prop
 |int {k:IntKind} {n:Int}:k.wrap n=n->ZR h (.int k n) (.int k n)
 |bool (b:Bool):ZR h (.bool b)<|.bool b
 |str (s:ba):s.length<=maxLen->ZR h (.str s) (.string ⟨s.toArray⟩)
 |I3 (a:Option Addr) (cap:Nat):cap<=maxLen->ZR h (.sl []) (.slice a 0 cap)
 |sl (rows:List<|List X) (b off cap sz:Nat) (vs:List Value):rows.length<=cap->cap<=maxLen->(∀r∈rows,r.length=sz)->rows.flatten.length=vs.length->
  (∀(i:Nat)(v:Value),vs[i]?=some v->h ⟨b,off+i,none⟩=some v)->(∀(i:Nat)(x:X)(v:Value),rows.flatten[i]?=some x->vs[i]?=some v->ZR h x v)->ZR h (.sl rows) (.slice (some ⟨b,off,none⟩) rows.length cap)
 |Yt (cells:List X) (b off:Nat) (vs:List Value):cells.length=vs.length->
  (∀(i:Nat)(v:Value),vs[i]?=some v->h ⟨b,off+i,none⟩=some v)->(∀(i:Nat)(x:X)(v:Value),cells[i]?=some x->vs[i]?=some v->ZR h x v)->ZR h (.Yt cells) (.pointer<|some ⟨b,off,none⟩)
 |raw (u:Value):u.oneCell'=true->ZR h (.raw u) u
structure Ctx where
 h:Mem
 loc:Nat->Option Nat
 arr:Nat->Option (Nat×Value×Bool)
 Y:Nat->Prop
abbrev ZL(h:Mem):Ctx:=⟨h,λ_=>none,λ_=>none,λ_=>False⟩
def Mem.le (h c:Mem):Prop:=∀a v,h a=some v->c a=some v
theorem Mem.le_refl (h:Mem):Mem.le h h:=λ_ _ e=>e
theorem Mem.le_trans {a b c:Mem}(h:Mem.le a b)(f:Mem.le b c):Mem.le a c:=λx v e=>f x v<|h x v e
variable{v:Value}
def ZR.mono{h j:Mem}(hh:Mem.le h j){x:X}(r:ZR h x v):ZR j x v:=by
 induction r with
 |int e=>exact .int e
 |bool b=>exact .bool b
 |str s e=>exact .str s e
 |I3 a vz e=>exact .I3 a vz e
 |sl vi b qc vz o vs g f t q p _ c=>exact .sl vi b qc vz o vs g f t q (λi v e=>hh _ _<|p i v e) c
 |Yt vv b qc vs g f _ c=>exact .Yt vv b qc vs g (λi v e=>hh _ _<|f i v e) c
 |raw u e=>exact .raw u e
def SubOf(g:Value)(sz lo hi:Nat)(v:Value):Prop:=
 ∃a l f e c,g=.slice a l f/\v=.slice e (hi - lo) c/\(lo=0->e=a/\c=f)/\(lo<hi->∃b,a=some ⟨b,0,none⟩/\e=some ⟨b,lo * sz,none⟩)
def Xw(c:Ctx):X->Value->Prop
 |.ptr k qc,v=>∃b,c.loc k=some b/\v=.pointer (some ⟨b,qc,none⟩)
 |.own k n,v=>(∃a l f,v=.slice a l f)/\∃m e lv,c.arr k=some (m,e,lv)/\n<=m/\(n=m->v=e)
 |.any,_=>True
 |.cb Φ,v=>Φ v
 |.Wt k n qc,v=>∃m e lv,c.arr k=some (m,e,lv)/\n<=m/\(n=m->∃b l f,e=.slice (some ⟨b,0,none⟩) l f/\v=.pointer (some ⟨b,qc,none⟩))
 |.raw u,v=>v=u
 |.ZM,v=>v=.slice none 0 0
 |.QS k,v=>∃b,c.loc k=some b/\v=.map (some b)
 |.GL k n sz lo hi,v=>(∃a l f,v=.slice a l f)/\∃m e lv,c.arr k=some (m,e,lv)/\n<=m/\(n=m->SubOf e sz lo hi v)
 |.slc vi,v=>ZR c.h (.sl vi) v/\∃a,v=.slice a (R vi) (R vi)
 |x,v=>ZR c.h x v
def Zc(c:Ctx):X->Value->Prop
 |.fn f vt,v=>∃vs:List Value,v=.func (.func f) #[] vs.toArray/\Z1 (Xw c) vt vs
 |x,v=>Xw c x v
def YQ(c:Ctx):X->Value->Prop
 |.agg xs,v=>∃vs:List Value,v=.agg vs.toArray/\Z1 (Zc c) xs vs
 |x,v=>Zc c x v
def YG(c:Ctx):X->Value->Prop
 |.Yy xs,v=>∃vs:List Value,v=.tuple vs.toArray/\Z1 (YQ c) xs vs
 |x,v=>YQ c x v
structure Ext(c c':Ctx):Prop where
 h:Mem.le c.h c'.h
 loc:∀k b,c.loc k=some b->c'.loc k=some b
 arr:∀k m hv lv,c.arr k=some (m,hv,lv)->∃m' hv' lv',c'.arr k=some (m',hv',lv')/\m<=m'/\(m=m'->hv'=hv)
theorem Ext.refl(c:Ctx):Ext c c:=⟨Mem.le_refl _,λ_ _ e=>e,λ_ m f lv e=>⟨m,f,lv,e,Zq _,λ_=>rfl⟩⟩
theorem Ext.trans{a b c:Ctx}(h:Ext a b)(k:Ext b c):Ext a c:= 
 ⟨Mem.le_trans h.h k.h,λi x e=>k.loc i x<|h.loc i x e,λi m t lv e=>by
  obtain⟨j,g,f,u,l,q⟩:=h.arr i m t lv e;obtain⟨A,p,o,C,B,v⟩:=k.arr i j g f u;grind⟩
theorem Xw.mono{c c':Ctx}(e:Ext c c'){x:X}{v:Value}(h:Xw c x v):Xw c' x v:=by
 cases x with
 |ptr k qc=>obtain⟨b,j,i⟩:=h;exact⟨b,e.loc _ _ j,i⟩
 |own k n=>
  obtain⟨h0,m,t,lv,j,i,B⟩:=h;obtain⟨o,g,f,q,p,C⟩:=e.arr _ _ _ _ j;exact⟨h0,o,g,f,q,di i p,λA=>by grind⟩
 |Wt k n qc=>
  obtain⟨m,t,lv,j,i,B⟩:=h;obtain⟨o,g,f,q,p,C⟩:=e.arr _ _ _ _ j;exact⟨o,g,f,q,di i p,λA=>by grind⟩
 |any=>exact h
 |raw u=>exact h
 |ZM=>exact h
 |cb Φ=>exact h
 |QS k=>obtain⟨b,j,i⟩:=h;exact⟨b,e.loc _ _ j,i⟩
 |GL k n sz lo hi=>
  obtain⟨h0,m,t,lv,j,i,B⟩:=h;obtain⟨o,g,f,q,p,C⟩:=e.arr _ _ _ _ j;exact⟨h0,o,g,f,q,di i p,λA=>by grind⟩
 |slc vi=>exact⟨ZR.mono e.h h.1,h.2⟩
 |_=>exact ZR.mono e.h h
theorem Zc.mono{c c':Ctx}(e:Ext c c'){x:X}{v:Value}(h:Zc c x v):Zc c' x v:=by
 cases x
 case fn f vt=>obtain⟨vs,i,g⟩:=h;exact⟨vs,i,g.mono λ_ _=>Xw.mono e⟩
 all_goals grind [Zc,Xw.mono]
theorem YQ.mono{c c':Ctx}(e:Ext c c'){x:X}{v:Value}(h:YQ c x v):YQ c' x v:=by
 cases x
 case agg xs=>obtain⟨vs,g,f⟩:=h;exact⟨vs,g,f.mono λ_ _=>Zc.mono e⟩
 all_goals grind [YQ,Zc.mono]
theorem YG.mono{c c':Ctx}(e:Ext c c'){x:X}{v:Value}(h:YG c x v):YG c' x v:=by
 cases x
 case Yy xs=>obtain⟨vs,g,f⟩:=h;exact⟨vs,g,f.mono λ_ _=>YQ.mono e⟩
 all_goals grind [YG,YQ.mono]
structure WV(B:Nat)(X:Nat->Prop)(w w':World):Prop where
 os:w'.os=w.os
 tape:w'.tape=w.tape
 output:w'.output=w.output
 size:w.heap.size<=w'.heap.size
 block:∀k,k<B->¬X k->w'.heap[k]?=w.heap[k]?
def WV.refl(B:Nat)(X:Nat->Prop)(w:World):WV B X w w:=⟨rfl,rfl,rfl,Zq _,λ_ _ _=>rfl⟩
theorem WV.trans{B:Nat}{X:Nat->Prop}{a b c:World}(h:WV B X a b)(k:WV B X b c):WV B X a c:=
 ⟨k.os.trans h.os,k.tape.trans h.tape,k.output.trans h.output,di h.size k.size,λi hi e=>(k.block i hi e).trans<|h.block i hi e⟩
variable{w w':World}
def WV.mono{B c:Nat}{X g:Nat->Prop}(h:WV B X w w')(hB:c<=B)(j:∀k,k<c->X k->g k):WV c g w w':=
 ⟨h.os,h.tape,h.output,h.size,λk f i=>h.block k (rp f hB) λe=>i<|j k f e⟩
def WV.of{B:Nat}{X:Nat->Prop}(h:Below B w w'):WV B X w w':=⟨h.os,h.tape,h.output,h.size,λk c _=>h.block k c⟩
def WV.below{B:Nat}(h:WV B (λ_=>False) w w'):Below B w w':=⟨h.os,h.tape,h.output,h.size,λk c=>h.block k c λe=>e⟩
def WV.drew{B:Nat}{X:Nat->Prop}{a w:World}(h:WV B X a w):WV B X a w.drew:=⟨h.os,h.tape,h.output,h.size,h.block⟩
def Y2(J:Mem->(Nat->Prop)->World->Prop):Prop:=
 ∀(h e:Mem)(Y:Nat->Prop)(w c:World),J h Y w->Mem.le h e->(∀p v,e p=some v->h p=some v\/¬Y p.block)->(∀p v,e p=some v->c.cell? p=some v)->WV 0 (λ_=>False) w c->
  (∀b,Y b->c.heap[b]?=w.heap[b]?)->J e Y c
def Ctx.out(c:Ctx)(fs:bc)(b:Nat):Prop:=c.Y b\/(∃k,k∈fs/\c.loc k=some b)\/(∃k m e,k∈fs/\c.arr k=some (m,e,true)/\e.ownBlock=some b)
def Ctx.all(c:Ctx)(b:Nat):Prop:=c.Y b\/(∃k,c.loc k=some b)\/(∃k m e,c.arr k=some (m,e,true)/\e.ownBlock=some b)
structure Env where
 P:Program
 nt:Nat
 fs:bc
 c0:Ctx
 w0:World
 round:Option Nat
 pins:List<|Nat×Obj
def Env.ac(E:Env):Fence:={Fence.wide with round:=E.round}
def Env.B(E:Env):Nat:=E.w0.heap.size
def Env.X(E:Env)(b:Nat):Prop:=E.c0.out E.fs b\/∃p∈E.pins,p.1=b
def Env.h0(E:Env):Mem:=E.c0.h
def Env.ok(E:Env)(k b:Nat):Prop:=E.B<=b\/(k∈E.fs/\E.X b)
variable{b:Nat}
def Env.SX{E:Env}{k:Nat}(h:E.ok k b)(c:k∉E.fs):E.B<=b:=by
 rcases h with h|h
 all_goals simp_all
theorem KT{l:bc}{k:Nat}(h:l.contains k=false):k∉l:=by grind
variable{j:Nat}
theorem Env.QT{E:Env}{k:Nat}(h:E.ok k b)(e:j<E.B)(c:¬E.X j):j≠b:=by
 rintro rfl;rcases h with h|h
 all_goals grind
structure ZB(E:Env)(U:bc)(c:Ctx)(a:Act)(w:World):Prop where
 below:WV E.B E.X E.w0 w
 hB:E.B<=w.heap.size
 nt:a.tmps.size=E.nt
 RR:a.defers.Pairwise (· ≠ ·)/\∀d∈a.defers,∃D,d={target:=.collected D,args:=#[]}/\E.B<=D/\¬c.all D/\w.heap[D]?=some (.deferred<|some [])
 M6:∀p∈E.pins,¬c.all p.1/\p.2.isCells=false/\w.heap[p.1]?=some p.2
 hw:∀p v,c.h p=some v->w.cell? p=some v
 hle:Mem.le E.h0 c.h
 hnew:∀p v,c.h p=some v->E.h0 p=some v\/E.B<=p.block\/E.X p.block
 loc:∀k b,c.loc k=some b->E.ok k b/\b<w.heap.size/\(∀o,c.h ⟨b,o,none⟩=none)/\(∀k',c.loc k'=some b->k'=k)/\(∀k' m hv,c.arr k'=some (m,hv,true)->hv.ownBlock≠some b)
 arr:∀k m hv b,c.arr k=some (m,hv,true)->hv.ownBlock=some b->E.ok k b/\b<w.heap.size/\(∀o,c.h ⟨b,o,none⟩=none)/\(∀k' m' hv',c.arr k'=some (m',hv',true)->hv'.ownBlock=some b->k'=k)
 used:∀k,k∉U->c.loc k=none/\c.arr k=none
 Y:∀b,c.Y b->b<w.heap.size/\(b<E.B->E.X b)/\(∀k,c.loc k≠some b)/\(∀k m hv,c.arr k=some (m,hv,true)->hv.ownBlock≠some b)
 UU:∀k b,k∈E.fs->c.loc k=some b->E.c0.loc k=some b
 Uw:∀k m hv lv,k∈E.fs->c.arr k=some (m,hv,lv)->∃m0 hv0 lv0,E.c0.arr k=some (m0,hv0,lv0)/\m0<=m/\(m0=m->hv=hv0)/\(lv=true->lv0=true)/\(∀b,hv.ownBlock=some b->hv0.ownBlock=some b\/E.B<=b)
def vw(c:Ctx):X->Obj->Prop
 |.box vv,o=>∃T vs,o=.cells vs T (0,0)/\Z1 (Zc c) vv vs.toList
 |.omap es,o=>∃f e,o=.map f e/\MapKept.Stamped f e/\Z1 (λ(p:X×X)(m:MapEntry)=>ZR c.h p.1 m.key/\YQ (ZL c.h) p.2 m.val) es f.toList
 |_,_=>False
def AJ(c:Ctx):X->Nat->List (List X)->List Value->Prop
 |.arr sz' x2,sz,vi,vs=>sz'=sz/\x2=vi/\Z1 (ZR c.h) vi.flatten vs
 |.W8 sz' xr mid post,sz,vi,vs=>sz'=sz/\vi=xr++mid::post/\∃g f e,vs=g++(f++e)/\Z1 (ZR c.h) xr.flatten g/\Z1 (Zc c) mid f/\Z1 (ZR c.h) post.flatten e
 |_,_,_,_=>False
variable{h:Mem}
def pure_mono{c:Mem}(hh:Mem.le h c){x:X}(r:YQ (ZL h) x v):YQ (ZL c) x v:=r.mono ⟨hh,(λ_ _ e=>by cases e),(λ_ _ _ _ e=>by cases e)⟩
def vw.mono{c c':Ctx}(e:Ext c c'){x:X}{o:Obj}(h:vw c x o):vw c' x o:=by
 cases x
 case box vv=>obtain⟨T,vs,i,g⟩:=h;exact⟨T,vs,i,g.mono λ_ _=>Zc.mono e⟩
 case omap es=>obtain⟨j,f,i,h0,g⟩:=h;exact⟨j,f,i,h0,g.mono λ_ _ h=>⟨h.1.mono e.h,pure_mono e.h h.2⟩⟩
 all_goals exact h.elim
def AJ.mono{c c':Ctx}(e:Ext c c'){x:X}{sz:Nat}{vi:List<|List X}{vs:List Value}(h:AJ c x sz vi vs):AJ c' x sz vi vs:=by
 cases x
 case arr sz' x2=>exact⟨h.1,h.2.1,h.2.2.mono λ_ _=>ZR.mono e.h⟩
 case W8 sz' xr mid post=>obtain⟨u,t,i,g,f,q,p,o,j⟩:=h;exact⟨u,t,i,g,f,q,p.mono λ_ _=>ZR.mono e.h,o.mono λ_ _=>Zc.mono e,j.mono λ_ _=>ZR.mono e.h⟩
 all_goals exact h.elim
def Ri(c:Ctx)(w:World)(k:Nat)(x:X):Prop:=
 ∃b o,c.loc k=some b/\w.heap[b]?=some o/\vw c x o
def AK(c:Ctx)(w:World)(k:Nat)(x:X):Prop:=
 ∃f vi g e vs,AJ c x f vi vs/\c.arr k=some (R vi,g,true)/\w.ownsRow 0 e f g (R vi) vs/\(∀r∈vi,R r=f)
def AM(loc:Nat->Option Nat)(J:Mem->(Nat->Prop)->World->Prop):X->Prop
 |.res J'=>J'=J
 |.qz k Jb=>∃b,loc k=some b/\Jb b=J
 |_=>False
def AM.mono{loc c:Nat->Option Nat}{J:Mem->(Nat->Prop)->World->Prop}{x:X}(e:∀k b,loc k=some b->c k=some b)(h:AM loc J x):AM c J x:=by
 cases x
 case res J'=>exact h
 case qz k Jb=>obtain⟨b,g,f⟩:=h;exact⟨b,e _ _ g,f⟩
 all_goals exact h.elim
def AL(c:Ctx)(w:World)(vy:Nat)(x:X):Prop:=vy=3000/\∃J,AM c.loc J x/\Y2 J/\J c.h c.Y w
def Holds(c:Ctx)(a:Act)(w:World)(vy:Nat)(x:X):Prop:=
 if vy<1000 then YG c x (a.tmps.getD vy undef)
 else x=.any\/(if vy<2000 then Ri c w (vy - 1000) x else if vy<3000 then AK c w (vy - 2000) x else AL c w vy x)
abbrev St:=List<|Nat×X
abbrev bi:=List X
abbrev bm:=Mem→(Nat→Prop)→World→Prop
abbrev bo:=Exit→List Nat→St→Prop
abbrev bv(n:Int):X:=.int .i64 n
abbrev ca(E:Env)(d:Nat):Bool:=Nat.blt d 1000&&Nat.blt d E.nt
def look:St->Nat->Option X
 |[],_=>none
 |p::s,k=>if Nat.beq p.1 k then some p.2 else look s k
def Good(E:Env)(U:bc)(s:St)(a:Act)(w:World):Prop:=
 ∃c,ZB E U c a w/\∀vy x,look s vy=some x->Holds c a w vy x
def T_(E:Env)(q0:Array Oper)(o:Oper)(next:Act->World->Prop)(Q:Exit->Act->World->Prop)(a:Act)(w:World):Prop:=
 if Region.wanted o (yielded q0 a.tmps)then o.wpIn E.ac 0 E.P a w next Q else next (a.put o.dst undef) w
def Step(E:Env)(q0:Array Oper)(o:Oper)(rd wr:St)(al:bc):Prop:=
 ∀(U:bc)(c:Ctx)(a:Act)(w:World),ZB E U c a w->(∀p∈rd,Holds c a w p.1 p.2)->(∀k∈al,k∉U)->
  ∀(next:Act->World->Prop)(Q:Exit->Act->World->Prop),
   (∀f g e,ZB E (al++U) f g e->Ext c f->(∀p∈wr,Holds f g e p.1 p.2)->
    (∀vy x,(∀p∈wr,p.1≠vy)->Holds c a w vy x->Holds f g e vy x)->next g e)->
   T_ E q0 o next Q a w
structure Uv where
 rd:St
 wr:St
 al:bc
def Yw(s:St):St->Prop
 |[]=>True
 |p::r=>look s p.1=some p.2/\Yw s r
def Yw.all{s:St}:∀{r:St},Yw s r->∀p∈r,look s p.1=some p.2
 |[],_,p,c=>by cases c
 |q::r,h,p,c=>by
  rcases sf.1 c with rfl|c
  ·exact h.1
  exact Yw.all h.2 p c
inductive Lx(E:Env)(all:Array Oper):List Oper->bc->St->List Uv->bc->St->Prop
 |nil {U:bc} {s:St}:Lx E all [] U s [] U s
 |cons {o:Oper} {l:List Oper} {U U':bc} {s s':St} {L:List Uv} {rd wr:St} {al:bc}:Step E all o rd wr al->Yw s rd->(al.all λk=>!U.contains k)=true->
  Lx E all l (al++U) (wr++s) L U' s'->Lx E all (o::l) U s (⟨rd,wr,al⟩::L) U' s'
variable{s:St}
theorem Wz{t:St}{k:Nat}:look (s++t) k=(look s k).or (look t k):=by
 induction s with
 |nil=>rfl
 |cons p s c=>grind [look]
theorem O5{k:Nat}:look s k=none↔∀p∈s,p.1≠k:=by
 induction s with
 |nil=>simp[look]
 |cons p s c=>
  grind [look,Nat.eq_of_beq_eq_true,Nat.beq_refl]
theorem XO{k:Nat}{x:X}(h:look s k=some x):(k,x)∈s:=by
 induction s with
 |nil=>cases h
 |cons p s c=>
  grind [look,Nat.eq_of_beq_eq_true]
variable{a:Act}{q0:Array Oper}{E:Env}{o:Oper}{U al:bc}
theorem Step.good{rd wr:St}(hs:Step E q0 o rd wr al)(v:Good E U s a w)
  (t:Yw s rd) (C:(al.all λk=>!U.contains k)=true) {next:Act->World->Prop} {Q:Exit->Act->World->Prop} (q:∀f e,Good E (al++U) (wr++s) f e->next f e):T_ E q0 o next Q a w:=by
 obtain⟨c,B,hh⟩:=v;refine hs U c a w B (λp j=>hh _ _<|t.all p j) (λk u=>by simp_all) next Q λD f e g _ i A=>q f e ⟨D,g,λvy x h=>?_⟩
 rw[Wz]at h;cases u:look wr vy with
 |some y=>
  simp_all[XO]
 |none=>
  grind [O5]
def WA{i:Nat}(c:q0[i]?=some o){next:Act->World->Prop}{Q:Exit->Act->World->Prop}(h:T_ E q0 o next Q a w):
  wpOpIn E.ac 0 E.P q0 Q i next a w:=by
 unfold wpOpIn;simp only[c];unfold T_ at h;split at h
 ·simp_all
 rename_i hw;rw[Zm hw];exact⟨λ_ _=>trivial,h⟩
def OK(E:Env)(qf:Code)(Q:bo)(U:bc)(s:St):Prop:=
 ∀a w,Good E U s a w->qf.wpIn E.ac 0 E.P (λe f c=>∃U' s',Good E U' s' f c/\Q e U' s') a w
def K9:List Uv->(Nat->Bool)->St->St
 |[],_,s=>s
 |b::L,D,s=>K9 L (λj=>D<|j+1) (if D 0 then b.wr++s else s)
def uD:List Uv->(Nat->Bool)->bc->bc
 |[],_,u=>u
 |b::L,D,u=>uD L (λj=>D<|j+1) (if D 0 then b.al++u else u)
def Vm:List Uv->(Nat->Bool)->Nat->Option X
 |[],_,_=>none
 |b::L,D,k=>(Vm L (λj=>D<|j+1) k).or (if D 0 then look b.wr k else none)
theorem SU{k:Nat}:∀(L:List Uv)(D:Nat->Bool)(s:St),look (K9 L D s) k=(Vm L D k).or (look s k)
 |[],_,_=>by rfl
 |b::L,D,s=>by
  rw[K9,SU L,Vm,Option.or_assoc];congr 1;by_cases h:D 0=true
  all_goals simp_all[Wz]
theorem VV{k:Nat}:∀(L:List Uv)(D c:Nat->Bool),(∀(j:Nat)(b:Uv),L[j]?=some b->look b.wr k≠none->D j=c j)->Vm L D k=Vm L c k
 |[],_,_,_=>rfl
 |b::L,D,c,h=>by
  rw[Vm,Vm,VV L (λj=>D<|j+1) (λj=>c<|j+1) λj f g e=>h (j+1) f (by grind) e];grind
theorem SV{k:Nat}:∀(L:List Uv)(D:Nat->Bool)(u:bc),k∈uD L D u↔k∈u\/∃(j:Nat)(b:Uv),L[j]?=some b/\D j=true/\k∈b.al
 |[],_,_=>by simp[uD]
 |b::L,D,u=>by
  rw[uD,SV L];grind
def RN:∀(L:List Uv)(s:St),K9 L (λ_=>false) s=s
 |[],_=>rfl
 |_::L,s=>by simpa[K9]using RN L s
def P0:∀(L:List Uv)(s:bc),uD L (λ_=>false) s=s
 |[],_=>rfl
 |_::L,s=>by simpa[uD]using P0 L s
variable{s':St}{U':bc}
theorem Lx.length{l:List Oper}{U U':bc}{s s':St}{L:List Uv}(h:Lx E q0 l U s L U' s'):L.length=l.length:=by
 induction h<;>grind
def Lx.xF{l:List Oper}{L:List Uv}(h:Lx E q0 l U s L U' s'):∀D:Nat->Bool,(∀j,j<R l->D j=true)->K9 L D s=s'/\uD L D U=U':=by
 induction h with
 |nil=>intro D _;exact⟨rfl,rfl⟩
 |cons _ _ _ _ c=>
  simp_all[K9,uD]
theorem Lx.at{l:List Oper}{U U':bc}{s s':St}{L:List Uv}(h:Lx E q0 l U s L U' s'):∀(i:Nat)(b:Uv),L[i]?=some b->
  ∃o,l[i]?=some o/\Step E q0 o b.rd b.wr b.al/\Yw (K9 L (λj=>decide<|j<i) s) b.rd/\∀k∈b.al,k∉uD L (λj=>decide<|j<i) U:=by
 induction h with
 |nil=>simp
 | @cons o l U U' s s' L rd wr al hs hl hal _ ih=>
   intro i b c;cases i with
   |zero=>
    simp at c;subst c;refine⟨o,rfl,hs,?_,?_⟩
    ·have:(λj=>decide<|j<0)=(λ_:Nat=>false):=by rfl
     simp_all[RN]
    have:(λj=>decide<|j<0)=(λ_:Nat=>false):=by rfl
    simp_all[P0]
   |succ i=>
    grind [K9,uD]
def Fb(c:bc):List Edge->Nat
 |[]=>0
 |e::l=>if Region.binds .any e then(2 ^ e.on|||c.getD e.on 0)|||Fb c l else Fb c l
def yl:List Oper->bc->bc
 |[],acc=>acc
 |o::l,acc=>yl l<|acc++[Fb acc o.after.toList]
def Qu(k:Nat):St->Bool
 |[]=>false
 |p::s=>Nat.beq p.1 k||Qu k s
def meets:St->St->Bool
 |[],_=>false
 |p::s,t=>Qu p.1 t||meets s t
def Vz(a b:Uv):Bool:=meets a.wr b.rd||meets a.wr b.wr||meets a.rd b.wr
def Mo(cl:bc):Nat->List Uv->Nat->Uv->Bool
 |_,[],_,_=>true
 |i,a::L,j,b=>(!(Nat.blt i j)||!Vz a b||Nat.testBit (cl.getD j 0) i)&&Mo cl (i+1) L j b
def Mn(cl:bc)(L:List Uv):Nat->List Uv->Bool
 |_,[]=>true
 |j,b::M=>Mo cl 0 L j b&&Mn cl L (j+1) M
def NJ:Nat->List Oper->Bool
 |_,[]=>true
 |i,o::l=>(o.after.toList.all λe=>!Region.binds .any e||Nat.blt e.on i)&&NJ (i+1) l
def SG(l:List Oper)(L:List Uv):Bool:=NJ 0 l&&Mn (yl l []) L 0 L
theorem FF{k:Nat}:∀{s:St},Qu k s=false->∀p∈s,p.1≠k
 |[],_,p,c=>by cases c
 |q::s,h,p,c=>by
  simp only[Qu,wa]at h;rcases sf.1 c with rfl|c
  ·grind [Nat.beq_refl]
  exact FF h.2 p c
def V0{k:Nat}:∀{s t:St},meets s t=false->(∃p∈s,p.1=k)->∀p∈t,p.1≠k
 |[],_,_,⟨p,c,_⟩=>by cases c
 |q::s,t,h,⟨p,c,hk⟩=>by
  simp only[meets,wa]at h;rcases sf.1 c with rfl|c
  ·subst hk;exact FF h.1
  exact V0 h.2 ⟨p,c,hk⟩
def NF(l:List Oper)(D:Nat->Bool):Prop:=∀(i:Nat)(o:Oper),l[i]?=some o->D i=true->∀e∈o.after,Region.binds .any e=true->D e.on=true
def Mi(l:List Oper)(D:Nat->Bool)(j:Nat):Prop:=∀o,l[j]?=some o->∀e∈o.after,Region.binds .any e=true->D e.on=true
theorem Lo{c:bc}{i:Nat}:∀{es:List Edge},(Fb c es).testBit i=true->∃e∈es,Region.binds .any e=true/\(e.on=i\/(c.getD e.on 0).testBit i=true)
 |[],h=>by simp[Fb]at h
 |e::es,h=>by
  simp only[Fb]at h;split at h
  ·rename_i o;rw[Nat.testBit_or,Nat.testBit_or,Nat.testBit_two_pow,ti,ti,de]at h;rcases h with h|h
   ·simp_all
   obtain⟨j,g,f⟩:=Lo h;grind
  obtain⟨j,g,f⟩:=Lo h;grind
theorem T7{l:List Oper}{D:Nat->Bool}(t:NF l D):∀(m f:List Oper)(c:bc),l=f++m->R c=R f->
  (∀j i,(c.getD j 0).testBit i=true->Mi l D j->D i=true)->∀j i,((yl m c).getD j 0).testBit i=true->j<R l->Mi l D j->D i=true
 |[],_,c,_,_,h,j,i,hi,_,g=>h j i hi g
 |o::m,f,c,hl,qk,h,j,i,hi,hj,g=>by
  refine T7 t m (f++[o]) _ (by simp[hl]) (by simp[qk]) ?_ j i hi hj g;intro j i hi g;by_cases q:j<R c
  ·grind
  by_cases p:j=R c
  ·subst p;have u:l[R c]?=some o:=by simp_all
   simp only[pv,List.getElem?_concat_length,Option.getD_some]at hi;obtain⟨e,v,A,hi⟩:=Lo hi;grind [NF,Mi]
  grind
theorem Uy{cl:bc}{j:Nat}{b:Uv}:∀{L:List Uv}{k:Nat},Mo cl k L j b=true->∀(i:Nat)(a:Uv),L[i]?=some a->k+i<j->Vz a b=true->(cl.getD j 0).testBit (k+i)=true
 |[],_,_,i,a,h,_,_=>by simp at h
 |c::L,k,h,i,a,hi,hlt,hcl=>by
  simp only[Mo,Zw,ti]at h;cases i with
  |zero=>
   grind [Nat.blt_eq]
  |succ i=>
   have:=Uy h.2 i a (by grind) I hcl;grind
theorem Vl{cl:bc}{L:List Uv}:∀{M:List Uv}{k:Nat},Mn cl L k M=true->∀(j:Nat)(b:Uv),M[j]?=some b->Mo cl 0 L (k+j) b=true
 |[],_,_,j,b,h=>by simp at h
 |c::M,k,h,j,b,hj=>by
  simp only[Mn,Zw]at h;cases j with
  |zero=>simp_all
  |succ j=>
   have:=Vl h.2 j b (by grind);grind
theorem PB:∀{l:List Oper}{k:Nat},NJ k l=true->∀(i:Nat)(o:Oper),l[i]?=some o->∀e∈o.after,Region.binds .any e=true->e.on<k+i
 |[],_,_,i,o,h=>by simp at h
 |c::l,k,h,i,o,hi=>by
  simp only[NJ,Zw]at h;cases i with
  |zero=>
   simp at hi;subst hi;intro e f g;have:=(bj.1 h.1) e (by grind);simp_all
  |succ i=>
   intro e f g;have:=PB h.2 i o (by grind) e f g;omega
def ZB.eL{c:Ctx}(h:ZB E U c a w)(e:∀k,k∈U->k∈U'):ZB E U' c a w:=
 ⟨h.below,h.hB,h.nt,h.RR,h.M6,h.hw,h.hle,h.hnew,h.loc,h.arr,λk g=>h.used k λf=>g<|e k f,h.Y,h.UU,h.Uw⟩
def ZB.drew{E:Env}{U:bc}{c:Ctx}{a:Act}{w:World}(h:ZB E U c a w):ZB E U c a w.drew:=
 ⟨h.below.drew,h.hB,h.nt,h.RR,h.M6,h.hw,h.hle,h.hnew,h.loc,h.arr,h.used,h.Y,h.UU,h.Uw⟩
def Good.drew{E:Env}{U:bc}{s:St}{a:Act}{w:World}(h:Good E U s a w):Good E U s a w.drew:=by
 obtain⟨c,o,hh⟩:=h;refine⟨c,o.drew,λvy x q=>?_⟩;have f:=hh vy x q;unfold Holds at f⊢;split
 ·simp_all
 rename_i t;rw[Zm t]at f;refine XH f λf=>?_
 split
 ·rename_i i;rwa [Zn i]at f
 rename_i i;rw[Zm i]at f;split
 ·rename_i g;rwa [Zn g]at f
 rename_i g;rw[Zm g]at f;obtain⟨j,J,v,p,u⟩:=f;exact⟨j,J,v,p,p _ _ _ _ _ u (Mem.le_refl _) (λ_ _ e=>.inl e) o.drew.hw (WV.refl _ _ _).drew λ_ _=>rfl⟩
theorem RH(n j:Nat):(Array.replicate n false).getD j false=false:=by
 simp[Array.getD]
def Aw(l:List Bool):Nat:=R<|l.filter (!·)
theorem ER:∀(l:List Bool)(i:Nat),l[i]?=some false->Aw (l.set i true)+1=Aw l
 |[],_,h=>by simp at h
 |b::l,0,h=>by simp_all[Aw]
 |b::l,i+1,h=>by
  have:=ER l i (by grind);grind [Aw]
theorem Jf:∀(l:List Bool),Aw l=0->∀j,j<R l->l.getD j false=true
 |[],_,j,h=>by simp at h
 |b::l,h,j,hj=>by
  simp only[Aw,List.filter_cons]at h;cases b with
  |false=>simp at h
  |true=>
   cases j with
   |zero=>rfl
   |succ j=>simpa using Jf l (by grind [Aw]) j (by grind)
variable{e:Nat}
variable{l:List Oper}
section
variable{U':bc}{s':St}{L:List Uv}
theorem mw(h:Lx E l.toArray l U s L U' s')(hc:SG l L=true)(Q:Exit->Act->World->Prop)(hQ:∀a w,Good E U' s' a w->Q .normal a w):
  ∀(g:Nat)(f:Array Bool)(a:Act)(w:World),f.size=R l->Aw f.toList<=g->NF l (λj=>f.getD j false)->
   Good E (uD L (λj=>f.getD j false) U) (K9 L (λj=>f.getD j false) s) a w->wpAnyIn E.ac 0 E.P .any l.toArray Q g f a w:=by
 simp only[SG,Zw]at hc;obtain⟨Y,C⟩:=hc;have qk:=h.length
 have fin:∀(f:Array Bool)(a:Act)(w:World),f.size=R l→Good E (uD L (λj=>f.getD j false) U) (K9 L (λj=>f.getD j false) s) a w→
   Region.ready .any l.toArray f=[]->Q .normal a w:=by
  intro f a w H hg hr;have T:∀j,j<R l->f.getD j false=true:=by
   intro j
   induction j using Nat.strongRecOn with
   |_ j ih=>
    intro hj;by_cases hd:f.getD j false=true
    ·exact hd
    exfalso;have O:j∈Region.ready .any l.toArray f:=by
     rw[mem_ready];refine⟨?_,l[j],by simp[hj],λe he u=>?_⟩
     ·simp_all
     have:=PB Y j l[j] (by simp[hj]) e he u;grind
    simp_all
  have:=h.xF _ T;simp_all
 intro g
 induction g with
 |zero=>
  intro f a w H hun G hg;have T:∀j,j<R l->f.getD j false=true:=λj hj=>by
   have:=Jf f.toList I j (by simp_all);simp_all
  have hr:Region.ready .any l.toArray f=[]:=by
   rw[cτ];grind [mem_ready]
  exact⟨hr,fin f a w H hg hr⟩
 |succ g ih=>
  intro f a w H hun G hg;refine⟨fin f a w H hg,λi hi=>?_⟩;obtain⟨h0,o,ho,hedges⟩:=mem_ready.1 hi;have hil:i<R l:=by grind
  have hio:l[i]?=some o:=by grind
  have hiL:i<R L:=I
  have hisz:i<f.size:=I
  have Z:L[i]?=some L[i]:=Zv hiL;have hDi:f.getD i false=false:=by
   simp_all
  obtain⟨o',v,V,W,hfresh⟩:=h.at i L[i] Z;rw[hio]at v;cases v;have J:Mi l (λj=>f.getD j false) i:=λo' v e he u=>by
   simp_all
  -- of two operations that Vz, who comes first has been done, or will not be done before
  have ord:∀(j:Nat)(b:Uv),L[j]?=some b->(Vz b L[i]=true\/Vz L[i] b=true)->j≠i->f.getD j false=decide (j<i):=by
   intro j b u S hne;have hjl:j<R l:=by grind
   have sym:∀x y:Uv,Vz x y=true->Vz y x=true:=by
    intro x y hxy;have comm:∀s t:St,meets s t=true->meets t s=true:=by
     intro s t hst;cases hts:meets t s with
     |true=>rfl
     |false=>
      exfalso;have:∀s t:St,meets s t=true->∃p∈s,Qu p.1 t=true:=by
       intro s
       induction s with
       |nil=>simp[meets]
       |cons p s ih=>intro t h;simp only[meets,ti]at h;grind
      obtain⟨p,hp,hk⟩:=this s t hst;have:∃q∈t,q.1=p.1:=by
       have kk:∀(t:St),Qu p.1 t=true->∃q∈t,q.1=p.1:=by
        intro t
        induction t with
        |nil=>simp[Qu]
        |cons q t ih=>intro h;simp only[Qu,ti]at h;grind [Nat.eq_of_beq_eq_true]
       grind
      exact V0 hts this p hp rfl
    simp only[Vz,ti]at hxy⊢;grind
   rcases w7 j i with hlt|hge
   ·have hk:Vz b L[i]=true:=S.elim id<|sym _ _;have D:=Uy (Vl C i L[i] Z) j b u I hk;simp only[wc]at D;have:=T7 G l [] [] rfl rfl F i j D hil J;simp_all
   have hgt:i<j:=I
   have hk:Vz L[i] b=true:=S.elim (sym _ _) id;have D:=Uy (Vl C j b u) i L[i] Z I hk;simp only[wc]at D;cases hdj:f.getD j false with
   |false=>simp;omega
   |true=>
    exfalso;have:=T7 G l [] [] rfl rfl F j i D hjl λo' v e he hb'=>G j o' v hdj e he hb';simp_all
  -- the state in which it is done
  obtain⟨c,hbase,B⟩:=hg;refine WA ho ?_;refine V _ c a w hbase ?_ ?_ _ Q ?_
  ·intro p hp;refine B _ _ ?_;have hx:=W.all p hp;rw[SU]at hx⊢;rw[VV L (λj=>f.getD j false) (λj=>decide<|j<i) λj b u hn=>?_]
   ·exact hx
   by_cases A:j=i
   ·simp_all
   refine ord j b u ?_ A;left;simp only[Vz,ti];left;left;cases hm:meets b.wr L[i].rd with
   |true=>rfl
   |false=>
    exfalso;obtain⟨y,hy⟩:∃y,look b.wr p.1=some y:=by cases hq:look b.wr p.1<;>grind
    exact V0 hm ⟨_,XO hy,rfl⟩ p hp rfl
  ·intro k hk O;rcases(SV L _ U).1 O with hu|⟨j,b,u,hd,hkb⟩
   ·simp_all[SV]
   by_cases A:j=i
   ·simp_all
   rcases w7 j i with hlt|hge
   ·grind [SV]
   obtain⟨_,_,_,_,hfj⟩:=h.at j b u;grind [SV]
  intro c' a' w' K _ hwr hfr;have N:∀j,(f.setIfInBounds i true).getD j false=if j=i then true else f.getD j false:=by
   intro j;by_cases A:j=i
   ·simp_all
   simp_all[Ne.symm]
  refine ih _ a' w' (by grind) ?_ ?_ ⟨c',K.eL ?_,?_⟩
  ·have:=ER f.toList i (by
    simp_all)
   grind
  ·intro j o' v hd e he u;simp only[N]at hd⊢;split
   ·rfl
   by_cases A:j=i
   ·simp_all
   rw[Zm A]at hd;exact G j o' v hd e he u
  ·grind [SV]
  intro vy x hx;by_cases hkw:look L[i].wr vy=none
  ·refine hfr vy x (O5.1 hkw)<|B vy x ?_;grind [SU,VV]
  obtain⟨y,hy⟩:∃y,look L[i].wr vy=some y:=by cases hq:look L[i].wr vy<;>grind
  have hxy:x=y:=by
   rw[SU,VV L _ (λj=>decide<|j<i+1) λj b u hn=>?_]at hx
   ·have hat:Vm L (λj=>decide<|j<i+1) vy=some y:=by
     have:∀(L:List Uv)(i:Nat)(b:Uv)(y:X),L[i]?=some b->look b.wr vy=some y->Vm L (λj=>decide<|j<i+1) vy=some y:=by
      intro L
      induction L with
      |nil=>simp
      |cons c L ihL=>
       intro i b y u hy;cases i with
       |zero=>
        simp at u;subst u;have hz:Vm L (λj=>decide<|j+1<0+1) vy=none:=by
         have:∀M:List Uv,Vm M (λ_=>false) vy=none:=by
          intro M;induction M with
          |nil=>rfl
          |cons d M ihM=>grind [Vm]
         simp_all
        simp_all[Vm]
       |succ i=>
        grind [Vm]
     simp_all
    simp_all
   rw[N];split
   ·simp_all
   rename_i A;have:=ord j b u (by
    left;simp only[Vz,ti];left;right;cases hm:meets b.wr L[i].wr with
    |true=>rfl
    |false=>
     exfalso;obtain⟨z,hz⟩:∃z,look b.wr vy=some z:=by cases hq:look b.wr vy<;>grind
     exact V0 hm ⟨_,XO hz,rfl⟩ _ (XO hy) rfl) A
   grind
  simp_all[XO]
theorem OK.z6{Q:bo}(f:E.P.follows .mixedOrders=true)(h:Lx E l.toArray l U s L U' s')(g:SG l L=true)(p:Q .normal U' s'):
  OK E (.region e l.toArray true) Q U s:=by
 intro a w c;refine wpIn_region_draw λt=>?_
 simp only[Region.schedule,f,cυ,if_true];refine wpAnyIn_sound _ t _ a _ ?_;refine mw h g _ (λa w c=>⟨U',s',c,p⟩) l.toArray.size (Array.replicate l.toArray.size false) a w.drew F ?_ ?_ ?_
 ·simp[Aw]
 ·intro i o _ q;grind [RH]
 have:(λj=>(Array.replicate l.toArray.size false).getD j false)=(λ_:Nat=>false):=by
  grind [RH]
 rw[this,RN,P0];exact c.drew
end
def Np(U:bc):X->Bool
 |.ptr k _=>U.contains k
 |.own k _=>U.contains k
 |.Wt k _ _=>U.contains k
 |.QS k=>U.contains k
 |.GL k _ _ _ _=>U.contains k
 |_=>true
def Ky(U:bc):X->Bool
 |.fn _ vt=>vt.all<|Np U
 |x=>Np U x
def vc(U:bc):X->Bool
 |.agg xs=>xs.all<|Ky U
 |x=>Ky U x
def oZ(U:bc):X->Bool
 |.Yy xs=>xs.all<|vc U
 |x=>vc U x
def VB(U:bc)(p:Nat×X):Bool:=
 if Nat.blt p.1 1000 then oZ U p.2
 else match p.2 with
  |.any=>true
  |.box vv=>(U.any λk=>Nat.beq (1000+k) p.1)&&vv.all (Ky U)
  |.arr _ _=>U.any λk=>Nat.beq (2000+k) p.1
  |.W8 _ _ mid _=>(U.any λk=>Nat.beq (2000+k) p.1)&&mid.all (Ky U)
  |.omap _=>U.any λk=>Nat.beq (1000+k) p.1
  |.qz k _=>U.contains k
  |_=>true
variable{qc:Nat}
theorem eN{vy:Nat}(h:(U.any λk=>Nat.beq (qc+k) vy)=true):U.contains (vy - qc)=true:=by
 grind [Nat.eq_of_beq_eq_true]
def Ctx.cut(c:Ctx)(U:bc):Ctx:=⟨c.h,λk=>if U.contains k then c.loc k else none,λk=>if U.contains k then c.arr k else none,c.Y⟩
theorem Xw.cut{c:Ctx}{U:bc}{x:X}{v:Value}(h:Xw c x v)(i:Np U x=true):Xw (c.cut U) x v:=by
 cases x
 case ptr k qc=>obtain⟨b,g,e⟩:=h;exact⟨b,by simp_all[Np,Ctx.cut],e⟩
 case own k n=>obtain⟨h0,m,f,lv,g,e⟩:=h;exact⟨h0,m,f,lv,by simp_all[Np,Ctx.cut],e⟩
 case Wt k n qc=>obtain⟨m,f,lv,g,e⟩:=h;exact⟨m,f,lv,by simp_all[Np,Ctx.cut],e⟩
 case QS k=>obtain⟨b,g,e⟩:=h;exact⟨b,by simp_all[Np,Ctx.cut],e⟩
 case GL k n sz lo hi=>obtain⟨h0,m,f,lv,g,e⟩:=h;exact⟨h0,m,f,lv,by simp_all[Np,Ctx.cut],e⟩
 all_goals exact h
theorem Z1.cut{R R':X->Value->Prop}{ok:X->Bool}(c:∀x v,R x v->ok x=true->R' x v):∀{xs:bi}{vs:List Value},Z1 R xs vs->xs.all ok=true->Z1 R' xs vs
 |[],[],_,_=>trivial
 |_::_,_::_,h,ho=>by simp only[so,Zw]at ho;exact⟨c _ _ h.1 ho.1,Z1.cut c h.2 ho.2⟩
 |[],_::_,h,_=>h.elim
 |_::_,[],h,_=>h.elim
theorem Zc.cut{c:Ctx}{U:bc}{x:X}{v:Value}(h:Zc c x v)(e:Ky U x=true):Zc (c.cut U) x v:=by
 cases x
 case fn f vt=>grind [Zc,Ky,Z1.cut,Xw.cut]
 all_goals simp_all[Zc,Ky,Xw.cut]
theorem YQ.cut{c:Ctx}{U:bc}{x:X}{v:Value}(h:YQ c x v)(e:vc U x=true):YQ (c.cut U) x v:=by
 cases x
 case agg xs=>grind [YQ,vc,Z1.cut,Zc.cut]
 all_goals simp_all[YQ,vc,Zc.cut]
theorem YG.cut{c:Ctx}{U:bc}{x:X}{v:Value}(h:YG c x v)(e:oZ U x=true):YG (c.cut U) x v:=by
 cases x
 case Yy xs=>grind [YG,oZ,Z1.cut,YQ.cut]
 all_goals simp_all[YG,oZ,YQ.cut]
def Holds.cut{c:Ctx}{U:bc}{a:Act}{w:World}{vy:Nat}{x:X}(h:Holds c a w vy x)(f:VB U (vy,x)=true):Holds (c.cut U) a w vy x:=by
 unfold Holds at *;unfold VB at f;split at h
 ·rename_i A;rw[Zn A];rw[Zn<|by simp_all]at f;exact h.cut f
 rename_i A;rw[Zm A];rw[Zm<|by simp_all]at f;refine XH h λh=>?_
 split at h
 ·rename_i j;rw[Zn j];obtain⟨b,o,q,p,C⟩:=h;cases x
  case box vv=>
   obtain⟨T,vs,V,B⟩:=C;simp only[Zw]at f;exact⟨b,o,by simp only[Ctx.cut,eN f.1,if_true];exact q,p,T,vs,V,Z1.cut (R':=Zc<|c.cut U) (ok:=Ky U) (λ_ _ h f=>Zc.cut h f) B f.2⟩
  case omap es=>
   simp only at f;exact⟨b,o,by simp only[Ctx.cut,eN f,if_true];exact q,p,C⟩
  all_goals exact C.elim
 rename_i j;rw[Zm j];split at h
 ·rename_i i;rw[Zn i];obtain⟨D,vi,G,e,vs,u,q,p⟩:=h;cases x
  case arr sz' x2=>exact⟨D,vi,G,e,vs,u,by simp only at f;simp only[Ctx.cut,eN f,if_true];exact q,p⟩
  case W8 sz' xr mid post=>
   obtain⟨F,t,K,I,H,S,O,N,M⟩:=u;simp only[Zw]at f;exact⟨D,vi,G,e,vs,⟨F,t,K,I,H,S,O,Z1.cut (R':=Zc<|c.cut U) (ok:=Ky U) (λ_ _ h f=>Zc.cut h f) N f.2,M⟩,by simp only[Ctx.cut,eN f.1,if_true];exact q,p⟩
  all_goals exact u.elim
 rename_i i;rw[Zm i];obtain⟨v,J,g,B⟩:=h;refine⟨v,J,?_,B⟩;cases x
 case qz k Jb=>
  obtain⟨b,F,t⟩:=g;simp only at f;exact⟨b,by simp_all[Ctx.cut],t⟩
 all_goals first|exact g|exact g.elim
theorem vZ{c:Ctx}(e:(c.cut U).all b):c.all b:=by
 have i:∀k b,(c.cut U).loc k=some b->c.loc k=some b:=by simp[Ctx.cut]
 have j:∀k x,(c.cut U).arr k=some x->c.arr k=some x:=by simp[Ctx.cut]
 rcases e with g|⟨k,f⟩|⟨k,m,h,f,o⟩
 ·exact .inl g
 ·exact .inr<|.inl ⟨k,i _ _ f⟩
 exact .inr<|.inr ⟨k,m,h,j _ _ f,o⟩
theorem ZB.cut{E:Env}{U:bc}{c:Ctx}{a:Act}{w:World}(h:ZB E U c a w)(U':bc):ZB E U' (c.cut U') a w:=by
 have u:∀k b,(c.cut U').loc k=some b->c.loc k=some b:=by simp[Ctx.cut]
 have o:∀k x,(c.cut U').arr k=some x->c.arr k=some x:=by simp[Ctx.cut]
 refine⟨h.below,h.hB,h.nt,⟨h.RR.1,λd I=>by obtain⟨D,t,q,A,v⟩:=h.RR.2 d I;grind [vZ]⟩,(λp H=>by obtain⟨t,q⟩:=h.M6 p H;grind [vZ]),h.hw,h.hle,h.hnew,?_,?_,?_,λb i=>⟨(h.Y b i).1,(h.Y b i).2.1,λk f=>(h.Y b i).2.2.1 k<|u k b f,λk m g f=>(h.Y b i).2.2.2 k m g<|o _ _ f⟩,λk b f C=>h.UU k b f<|u _ _ C,λk m g lv f F=>h.Uw k m g lv f<|o _ _ F⟩
 ·intro k b f;obtain⟨t,q,A,v,J⟩:=h.loc k b<|u k b f;exact⟨t,q,A,λj e=>v j<|u _ _ e,λj m g e=>J j m g<|o _ _ e⟩
 ·intro k m g b f i;obtain⟨t,q,A,v⟩:=h.arr k m g b (o _ _ f) i;exact⟨t,q,A,λj G B e=>v j G B<|o _ _ e⟩
 simp_all[Ctx.cut]
def Le(s:St):St->Prop
 |[]=>True
 |p::r=>look s p.1=some p.2/\Le s r
theorem Le.look{s:St}:∀{r:St},Le s r->∀k x,look r k=some x->look s k=some x
 |[],_,_,_,h=>by cases h
 |p::r,h,k,x,hx=>by
  simp only[Ab.look]at hx;split at hx
  ·rename_i c;have:=Nat.eq_of_beq_eq_true c;cases hx;rw[←this];exact h.1
  exact Le.look h.2 k x hx
theorem Good.le(h:Good E U s a w)(f:Le s s')(i:s'.all (VB U')=true):Good E U' s' a w:=by
 obtain⟨c,g,hh⟩:=h;refine⟨c.cut U',g.cut U',λvy x e=>Holds.cut (hh vy x<|f.look vy x e) ?_⟩;grind [XO]
variable{n:Nat}
def ZH{k n':Nat}(h:n=n'):some (X.own k n)=some (X.own k n'):=by rw[h]
variable{vi:List bi}{sz:Nat}
def ZX{x2:List bi}(h:vi=x2):some (X.arr sz vi)=some (X.arr sz x2):=by rw[h]
inductive Kn where
 |code (c:Code)
 |blk (id:Nat)
 |lp (J:bc->St->Prop)
def den(E:Env)(Q:bo):List Kn->bo
 |[],e,U,s=>Q e U s
 |.code c::k,.normal,U,s=>OK E c (den E Q k) U s
 |.code _::k,e,U,s=>den E Q k e U s
 |.blk id::k,.exit i,U,s=>if Nat.beq i id then den E Q k .normal U s else den E Q k (.exit i) U s
 |.blk _::k,e,U,s=>den E Q k e U s
 |.lp J::_,.normal,U,s=>J U s
 |.lp _::k,e,U,s=>den E Q k e U s
variable{xt:Code}{A:Type}
variable{Q:bo}
section
variable{k:List Kn}
def D.code{c:Code}(h:OK E c (den E Q k) U s):den E Q (.code c::k) .normal U s:=h
def D.blk{c:Nat}(h:den E Q k .normal U s):den E Q (.blk c::k) .normal U s:=h
def D.lp{J:bc->St->Prop}(h:J U s):den E Q (.lp J::k) .normal U s:=h
def D.ret(h:Q .ret U s){k:List Kn}:den E Q k .ret U s:=by
 induction k with
 |nil=>exact h
 |cons x k c=>cases x<;>exact c
def FV(c:Nat):List Kn->Option (List Kn)
 |[]=>none
 |.blk i::k=>if Nat.beq c i then some k else FV c k
 |_::k=>FV c k
theorem D.exit{j:Nat}{f:List Kn}(h:den E Q f .normal U s){k:List Kn}(e:FV j k=some f):den E Q k (.exit j) U s:=by
 induction k with
 |nil=>cases e
 |cons x k g=>
  cases x with
  |code c=>exact g e
  |lp J=>exact g e
  |blk i=>
   grind [den,FV]
def OK.mono{g:bo}{c:Code}(h:OK E c Q U s)(i:∀e U s,Q e U s->g e U s):OK E c g U s:=
 λa w j=>wpIn_mono (h a w j) λ_ _ _ ⟨U',s',f,o⟩=>⟨U',s',f,i _ _ _ o⟩
def OK.weak{c:Code}(h:OK E c Q U' s')(f:Le s s')(e:s'.all (VB U')=true):OK E c Q U s:=
 λa w g=>h a w<|g.le f e
def OK.skip(h:den E Q k .normal U s):OK E .skip (den E Q k) U s:=λ_ _ c=>wpIn_skip ⟨U,s,c,h⟩
def OK.ret(h:Q .ret U s):OK E .ret (den E Q k) U s:=λ_ _ c=>wpIn_ret ⟨U,s,c,D.ret h⟩
def OK.exit{e:Nat}{c:List Kn}(f:FV e k=some c)(h:den E Q c .normal U s):OK E (.exit e) (den E Q k) U s:=λ_ _ g=>wpIn_exit ⟨U,s,g,D.exit h f⟩
def OK.seq{x y:Code}(h:OK E x (den E Q<|.code y::k) U s):OK E (.seq x y) (den E Q k) U s:=by
 intro a w i;refine wpIn_seq<|wpIn_mono (h a w i) ?_;rintro e j g ⟨U',s',c,f⟩;cases e with
 |normal=>exact f j g c
 |_=>exact⟨U',s',c,f⟩
theorem OK.block{g:Nat}{x:Code}(h:OK E x (den E Q<|.blk g::k) U s):OK E (.block g x) (den E Q k) U s:=by
 intro a w o;refine wpIn_block<|wpIn_mono (h a w o) ?_;rintro e t q ⟨U',s',f,c⟩;cases e with
 |exit i=>
  simp only[Exit.inBlock];simp only[den]at c;split
  ·rename_i j;rw[Zn<|by simp_all]at c;grind
  rename_i j;rw[Zm λp=>j<|Nat.eq_of_beq_eq_true p]at c;grind
 |_=>exact⟨U',s',f,c⟩
def OK.cond{t:Nat}{b:Bool}{x y:Code}(g:Nat.blt t 1000=true)(o:look s t=some (.bool b))(j:b=true->OK E x Q U s)(i:b=false->OK E y Q U s):OK E (.cond (.tmp t) x y) Q U s:=by
 intro a w p;obtain⟨c,h,hh⟩:=p;have f:=hh t _ o;rw[rb]at g;simp only[Holds,Zn g,YG,YQ,Zc,Xw]at f;have q:a.eval (.tmp t)=.bool b:=by
  show a.tmps.getD t undef=.bool b;generalize a.tmps.getD t undef=v at f;cases f;rfl
 refine wpIn_cond_split q (λe=>j e a w ⟨c,h,hh⟩) λe=>i e a w ⟨c,h,hh⟩
def Ah{ac:Fence}{P:Program}{R:Exit->Act->World->Prop}{c:Code}{G:Type}(H:G->Act->World->Prop)(μ:G->Nat)(N:G)(h0:H N a w)
  (round:∀g a w,H g a w->c.wpIn ac n P (Exit.then (λA v=>∃O,H O A v/\μ O<μ g) R) a w):(Code.loop c).wpIn ac n P R a w:=by
 intro b k cs I M J;have vy:∀j g a w,μ g=j->H g a w->∃e A v,R e A v/\ArrivesIn (Machine.fenced P ac) P (lone (b.atR a<|.code c::.inLoop c::k) cs w) b k cs e A v:=by
  intro j
  induction j using Nat.strongRecOn with
  |_ j ih=>
   intro g a w S T;obtain⟨e,i,h,p,f⟩:=round g a w T b (.inLoop c::k) cs I M J;cases e with
   |normal=>
    obtain⟨q,u,K⟩:=p;obtain⟨C,D,B,t,o⟩:=ih (μ q) (S▸K) q i h rfl u;exact⟨C,D,B,t,.of_steps (StepsIn.trans f<|.one (fenced_calm M J rfl) stepR_inLoop) o⟩
   |exit id=>exact⟨_,i,h,p,.pass (x:=.inLoop c) rfl (λ_ _=>.inl F) f⟩
   |goto l=>exact⟨_,i,h,p,.pass (x:=.inLoop c) rfl (λ_ _=>.inl F) f⟩
   |ret=>exact⟨_,i,h,p,.pass (x:=.inLoop c) rfl (λ_ _=>.inl F) f⟩
   |panic ch=>exact⟨_,i,h,p,.pass (x:=.inLoop c) rfl (λ_ _=>.inl F) f⟩
   |outgrown=>exact⟨_,i,h,p,.pass (x:=.inLoop c) rfl (λ_ _=>.inl F) f⟩
 obtain⟨e,A,v,p,f⟩:=vy _ N a w rfl h0;exact⟨e,A,v,p,.of_steps (.one (fenced_calm M J rfl) stepR_loop) f⟩
def OK.loop{G:Type}(u:bc)(st:G->St)(xr:G->Prop)(μ:G->Nat){xt:Code}(h:G)(h0:xr h)(F:Le s<|st h)(B:∀g,(st g).all (VB u)=true)
  (c:∀g,xr g->OK E xt (den E Q<|.lp (λ_ s'=>∃t,xr t/\μ t<μ g/\Le s' (st t))::k) u (st g)):OK E (.loop xt) (den E Q k) U s:=by
 intro a w H;refine Ah (λg v i=>xr g/\Good E u (st g) v i) μ h ⟨h0,H.le F<|B h⟩ ?_;rintro g v i ⟨D,q⟩;refine wpIn_mono (c g D v i q) ?_;rintro e K J ⟨I,C,f,A⟩;cases e with
 |normal=>
  obtain⟨g2,j,o,p⟩:=A;exact⟨g2,⟨j,f.le p<|B g2⟩,o⟩
 |_=>exact⟨I,C,f,A⟩
def yq{J J':bc->St->Prop}(h:∀U s,J U s->J' U s):∀e U s,den E Q (.lp J::k) e U s->den E Q (.lp J'::k) e U s:=by
 intro e U s c;cases e with
 |normal=>exact h U s c
 |_=>exact c
def OK.We{B:Type}(u:bc)(st:A->B->St)(xr:A->B->Prop)(μ:A->B->Nat)(f:A)(b0:B)(h0:xr f b0)(p:Le s<|st f b0)(o:∀a b,(st a b).all (VB u)=true)
  (c:∀a b,xr a b->OK E xt (den E Q<|.lp (λ_ s'=>∃i e,xr i e/\μ i e<μ a b/\Le s' (st i e))::k) u (st a b)):OK E (.loop xt) (den E Q k) U s:=
 OK.loop (G:=A×B) u (λg=>st g.1 g.2) (λg=>xr g.1 g.2) (λg=>μ g.1 g.2) (f,b0) h0 p (λg=>o g.1 g.2) λg j=>(c g.1 g.2 j).mono<|yq λ_ _ ⟨a,b,h⟩=>⟨(a,b),h⟩
def OK.fV{B ab:Type}(u:bc)(st:A->B->ab->St)(xr:A->B->ab->Prop)(μ:A->B->ab->Nat)(j:A)(b0:B)(c0:ab)(h0:xr j b0 c0)(t:Le s<|st j b0 c0)(q:∀a b c,(st a b c).all (VB u)=true)
  (e:∀a b c,xr a b c->OK E xt (den E Q<|.lp (λ_ s'=>∃o i f,xr o i f/\μ o i f<μ a b c/\Le s' (st o i f))::k) u (st a b c)):OK E (.loop xt) (den E Q k) U s:=
 OK.loop (G:=A×B×ab) u (λg=>st g.1 g.2.1 g.2.2) (λg=>xr g.1 g.2.1 g.2.2) (λg=>μ g.1 g.2.1 g.2.2) (j,b0,c0) h0 t (λg=>q g.1 g.2.1 g.2.2) λg p=>(e g.1 g.2.1 g.2.2 p).mono<|yq λ_ _ ⟨a,b,c,h⟩=>⟨(a,b,c),h⟩
def OK.rU{B ab D:Type}(u:bc)(st:A->B->ab->D->St)(xr:A->B->ab->D->Prop)(μ:A->B->ab->D->Nat)(p:A)(b0:B)(c0:ab)(f:D)(h0:xr p b0 c0 f)(C:Le s<|st p b0 c0 f)(v:∀a b c d,(st a b c d).all (VB u)=true)
  (e:∀a b c d,xr a b c d->OK E xt (den E Q<|.lp (λ_ s'=>∃q o j i,xr q o j i/\μ q o j i<μ a b c d/\Le s' (st q o j i))::k) u (st a b c d)):OK E (.loop xt) (den E Q k) U s:=
 OK.loop (G:=A×B×ab×D) u (λg=>st g.1 g.2.1 g.2.2.1 g.2.2.2) (λg=>xr g.1 g.2.1 g.2.2.1 g.2.2.2) (λg=>μ g.1 g.2.1 g.2.2.1 g.2.2.2) (p,b0,c0,f) h0 C (λg=>v g.1 g.2.1 g.2.2.1 g.2.2.2) λg t=>(e g.1 g.2.1 g.2.2.1 g.2.2.2 t).mono<|yq λ_ _ ⟨a,b,c,d,h⟩=>⟨(a,b,c,d),h⟩
end
def tL:Value->X
 |.int k n=>.int k n
 |.bool b=>.bool b
 |.string s=>.str s.data.toList
 |.slice none 0 0=>.ZM
 |v=>.raw v
def KM:Value->Bool
 |.int k n=>k.wrap n==n
 |.string s=>Nat.ble (R s.data.toList) maxLen
 |_=>true
theorem nR{c:Ctx}(h:KM v=true):Zc c (tL v) v:=by
 cases v with
 |int k n=>exact ZR.int (by grind [KM])
 |bool b=>exact ZR.bool b
 |string s=>exact ZR.str (h:=c.h) s.data.toList (by simpa[KM]using h)
 |slice a l e=>
  cases a with
  |none=>cases l with
   |zero=>cases e<;>exact rfl
   |succ l=>exact rfl
  |some a=>exact rfl
 |_=>exact rfl
inductive YO(s:St):Operand->X->St->Prop
 |tmp {t:Nat} {y:X}:Nat.blt t 1000=true->look s t=some y->YO s (.tmp t) y [(t,y)]
 |Zg {k:IntKind} {n:Int}:k.wrap n=n->YO s (.const<|.int k n) (.int k n) []
 |Wx {b:Bool}:YO s (.const<|.bool b) (.bool b) []
 |Vh {bs:ByteArray} {l:ba}:bs=⟨l.toArray⟩->l.length<=maxLen->YO s (.const<|.string bs) (.str l) []
 |Ya:YO s (.const<|.slice none 0 0) (.sl []) []
 |Nt {f:Nat}:YO s (.func f) (.fn f []) []
 |cnils:YO s (.const<|.slice none 0 0) .ZM []
 |cagg {vs:Array Value} {xs:bi}:vs.toList.map tL=xs->vs.toList.all KM=true->YO s (.const<|.agg vs) (.agg xs) []
 |Re {v:Value}:YO s (.const v) (.raw v) []
theorem MR{c:Ctx}:∀{vs:List Value},vs.all KM=true->Z1 (Zc c) (vs.map tL) vs
 |[],_=>trivial
 |v::vs,h=>by simp only[so,Zw]at h;exact⟨nR h.1,MR h.2⟩
def ZR.WB{c:Ctx}{x:X}(h:ZR c.h x v):YG c x v:=by
 cases h with
 |int e=>exact .int e
 |bool b=>exact .bool b
 |str s e=>exact .str s e
 |I3 a vz e=>exact .I3 a vz e
 |sl vi b qc vz j vs i g f q p o=>exact .sl vi b qc vz j vs i g f q p o
 |Yt vv b qc vs i g f=>exact .Yt vv b qc vs i g f
 |raw u e=>exact rfl
def ZR.Av{c:Ctx}{x:X}(h:ZR c.h x v):Zc c x v:=by
 cases h with
 |int e=>exact .int e
 |bool b=>exact .bool b
 |str s e=>exact .str s e
 |I3 a vz e=>exact .I3 a vz e
 |sl vi b qc vz j vs i g f q p o=>exact .sl vi b qc vz j vs i g f q p o
 |Yt vv b qc vs i g f=>exact .Yt vv b qc vs i g f
 |raw u e=>exact rfl
variable{t:Nat}
def Holds.slot{c:Ctx}{x:X}(h:Holds c a w t x)(e:Nat.blt t 1000=true):YG c x<|a.tmps.getD t undef:=by
 simp_all[Holds]
variable{r:St}
def YO.looks{o:Operand}{y:X}(h:YO s o y r):Yw s r:=by
 cases h with
 |tmp _ h=>exact⟨h,Zo⟩
 |_=>exact trivial
def YO.rep{o:Operand}{y:X}(h:YO s o y r){c:Ctx}(f:∀p∈r,Holds c a w p.1 p.2):YG c y<|a.eval o:=by
 cases h with
 |tmp ht _=>exact(f _ rv).slot ht
 |Zg e=>exact ZR.WB<|.int e
 |Wx=>exact ZR.WB<|.bool _
 |Vh e hl=>subst e;exact ZR.WB<|.str _ hl
 |Ya=>exact ZR.WB<|.I3 none 0<|Zr _
 |Nt=>exact⟨[],rfl,Zo⟩
 |cnils=>exact rfl
 |cagg e hl=>subst e;exact⟨_,by rfl,MR hl⟩
 |Re=>exact rfl
inductive Gd(all:Array Oper)(s:St):Option (Nat×Bool)->St->Prop
 |none:Gd all s none []
 |yes {j t:Nat} {b b':Bool}:(all[j]?).bind (·.dst)=some t->Nat.blt t 1000=true->look s t=some (.bool b')->b'=b->Gd all s (some (j,b)) [(t,.bool b')]
def Gd.looks{g:Option<|Nat×Bool}(h:Gd q0 s g r):Yw s r:=by
 cases h with
 |none=>exact trivial
 |yes _ _ h _=>exact⟨h,Zo⟩
def E9{c:Ctx}{b:Bool}(h:YG c (.bool b)<|a.tmps.getD t undef):a.tmps[t]?=some (.bool b):=by
 have e:a.tmps.getD t undef=.bool b:=by
  generalize a.tmps.getD t undef=v at h;cases h;rfl
 simp only[Array.getD]at e;split at e
 ·simp_all
 cases e
theorem Gd.wanted{q0:Array Oper}{s:St}{o:Oper}{r:St}(h:Gd q0 s o.guard r){c:Ctx}{a:Act}{w:World}(e:∀p∈r,Holds c a w p.1 p.2):
  Region.wanted o (yielded q0 a.tmps)=true:=by
 unfold Region.wanted;generalize o.guard=g at h;cases h with
 |none=>rfl
 |yes hd ht _ he=>
  subst he;have:=E9<|(e _ rv).slot ht;grind [yielded]
def Yw.app{s:St}:∀{r r':St},Yw s r->Yw s r'->Yw s (r++r')
 |[],_,_,h=>h
 |_::_,_,h,h'=>⟨h.1,Yw.app h.2 h'⟩
def Zb(E:Env)(q0:Array Oper)(o:Oper)(s rd wr:St)(al:bc):Prop:=Step E q0 o rd wr al/\Yw s rd
def Lx.c{l:List Oper}{L:List Uv}{rd wr:St}(h:Zb E q0 o s rd wr al)
 (e:Lx E q0 l (al++U) (wr++s) L U' s') (f:(al.all λk=>!U.contains k)=true:=by rfl):Lx E q0 (o::l) U s (⟨rd,wr,al⟩::L) U' s':=.cons h.1 h.2 f e
def MM:Op->Bool
 |.defer _=>true
 |_=>false
def ZB.put{E:Env}{U:bc}{c:Ctx}{a:Act}{w:World}(h:ZB E U c a w)(d:Option Tmp)(v:Value):ZB E U c (a.put d v) w:=by
 refine⟨h.below,h.hB,?_,?_,h.M6,h.hw,h.hle,h.hnew,h.loc,h.arr,h.used,h.Y,h.UU,h.Uw⟩
 ·cases d<;>simp[Act.put,h.nt]
 cases d<;>exact h.RR
def Holds.put{c:Ctx}{a:Act}{w:World}{d vy:Nat}{x:X}(h:Holds c a w vy x)(e:d≠vy)(v:Value):Holds c (a.put (some d) v) w vy x:=by
 simp_all[Holds,Act.put]
variable{d:Nat}
def XN(hd:d<a.tmps.size)(v:Value):(a.put (some d) v).tmps.getD d undef=v:=by
 simp[Act.put,hd]
def Does(E:Env)(op:Op)(o:Oper)(r wr:St)(al:bc)(x:X):Prop:=
 ∀(U:bc)(c:Ctx)(a:Act)(w:World),ZB E U c a w->(∀p∈r,Holds c a w p.1 p.2)->(∀k∈al,k∉U)->
  ∃v e f,(execOp a.eval {o with op:=op}).run E.P w=.ok (.value v) f/\ZB E (al++U) e a f/\Ext c e/\YG e x v/\
   (∀p∈wr,¬p.1<1000/\Holds e a f p.1 p.2)/\(∀vy y,¬vy<1000->(∀p∈wr,p.1≠vy)->Holds c a w vy y->Holds e a f vy y)
variable{v4:Array Edge}{ty:Nat}{op:Op}{jn:Option (Nat×Bool)}{rg:St}
def Zb.mk{wr:St}{v9:String}{x:X}
  (H:Gd q0 s jn rg) (hd:ca E d=true) (i:MM op=false) (S:Yw s r)
  (h:Does E op ⟨some d,op,ty,v9,v4,jn⟩ r wr al x):Zb E q0 ⟨some d,op,ty,v9,v4,jn⟩ s (rg++r) ((d,x)::wr) al:=by
 simp only[Zw,rb]at hd;refine⟨?_,H.looks.app S⟩;intro U c a w J F D next Q O
 obtain⟨v,T,M,q,C,g,N,j,A⟩:=h U c a w J (λp f=>F p<|ui _ f) D;have hw:=H.wanted (o:=⟨some d,op,ty,v9,v4,jn⟩) λp f=>F p<|sb _ f;unfold T_;rw[Zn hw];refine⟨λ_ _=>trivial,?_⟩;have hs:Oper.semAt E.ac.round a.eval ⟨some d,op,ty,v9,v4,jn⟩=execOp a.eval ⟨some d,op,ty,v9,v4,jn⟩:=
  Oper.semAt_eq _ _ _ λcl I=>by simp only at I;rw[I]at i;cases i
 rw[hs,q];have B:d<a.tmps.size:=by rw[J.nt];exact hd.2
 refine O T _ M (C.put _ _) g ?_ ?_
 ·intro p f;rcases sf.1 f with rfl|f
  ·unfold Holds;rw[Zn hd.1,XN B];exact N
  exact(j p f).2.put (λe=>(j p f).1<|e▸hd.1) v
 intro vy y G u;have t:d≠vy:=G (d,x) rv;by_cases K:vy<1000
 ·refine Holds.put ?_ t v;unfold Holds at u⊢;rw[Zn K]at u⊢;exact u.mono g
 exact(A vy y K (λp f=>G p<|rl _ f) u).put t v
theorem Zb.val{v9:String}{x:X}
  (i:Gd q0 s jn rg) (hd:ca E d=true) (e:MM op=false) (g:Yw s r)
  (h:∀(c:Ctx)(a:Act)(w:World),(∀p v,c.h p=some v->w.cell? p=some v)->(∀p∈r,Holds c a w p.1 p.2)->
   ∃v,(execOp a.eval ⟨some d,op,ty,v9,v4,jn⟩).run E.P w=.ok (.value v) w/\YG c x v):Zb E q0 ⟨some d,op,ty,v9,v4,jn⟩ s (rg++r) [(d,x)] []:=by
 refine Zb.mk i hd e g λU c a w j f _=>?_
 obtain⟨v,q,o⟩:=h c a w j.hw f;grind [Ext.refl]
theorem step_skip{v9:String}{h:Bool}(u:Yw s r)(hd:ca E d=true)
  (t:∀c a w,(∀p∈r,Holds c a w p.1 p.2)->(yielded q0 a.tmps j==some h)=false):Zb E q0 ⟨some d,op,ty,v9,v4,some (j,h)⟩ s r [(d,.Yy [])] []:=by
 simp only[Zw,rb]at hd;refine⟨?_,u⟩;intro U c a w e q _ next Q f
 have hw:Region.wanted (⟨some d,op,ty,v9,v4,some (j,h)⟩:Oper) (yielded q0 a.tmps)=false:=t c a w q;unfold T_;rw[Zm<|by grind];have g:d<a.tmps.size:=by rw[e.nt];exact hd.2
 refine f c _ w (e.put _ _) (Ext.refl c) ?_ ?_
 ·intro p i;simp only[pi]at i;subst i;unfold Holds;rw[Zn hd.1,XN g];exact⟨[],rfl,Zo⟩
 intro vy y v o;exact o.put (v (d,.Yy []) F) _
def S.skip{v9:String}{b f:Bool}
  (g:(q0[j]?).bind (·.dst)=some t) (e:Nat.blt t 1000=true) (i:look s t=some (.bool b)) (o:(b==f)=false) (hd:ca E d=true):Zb E q0 ⟨some d,op,ty,v9,v4,some (j,f)⟩ s [(t,.bool b)] [(d,.Yy [])] []:=
 step_skip ⟨i,Zo⟩ hd λc a w h=>by
  have p:=E9<|(h (t,.bool b) rv).slot e;simp only[yielded,g,bφ,p];simpa using o
def S.fA{v9:String}{v:Bool}
  (h:(q0[j]?).bind (·.dst)=some t) (f:Nat.blt t 1000=true) (o:look s t=some (.Yy [])) (hd:ca E d=true):Zb E q0 ⟨some d,op,ty,v9,v4,some (j,v)⟩ s [(t,.Yy [])] [(d,.Yy [])] []:=
 step_skip ⟨o,Zo⟩ hd λc a w i=>by
  obtain⟨vs,g,u⟩:=(i (t,.Yy []) rv).slot f;have q:vs=[]:=Z1.YN u;subst q;have p:∀b,a.tmps[t]?≠some (.bool b):=λb e=>by
   have:a.tmps.getD t undef=.bool b:=by simp[Array.getD_eq_getD_getElem?,e]
   rw[this]at g;cases g
  simp only[yielded,h,bφ]
  first
  |rfl
  |(split
    ·rename_i e;exact absurd e (p _)
    rfl)
structure W5(P:Program)(T:TypeId)(agg:Bool)(sz:Nat):Prop where
 agg:∀w,(isAgg T).run P w=.ok agg w
 size:∀w,(sizeOf T).run P w=.ok sz w
structure XJ(P:Program)(T f off:Nat):Prop where
 ex:∃fields fl n,P.underlying T=some (.struct fields)/\fields[f]?=some fl/\fl.offset=off/\n≠0/\∀w,(sizeOf fl.type).run P w=.ok n w
structure Qh(P:Program)(t e sz:Nat):Prop where
 OA:P.underlying t=some (.slice e)
 size:∀w,(sizeOf e).run P w=.ok sz w
def X4:X->Bool
 |.Yy _=>true
 |_=>false
def QL:X->Bool
 |.Yy _|.agg _=>true
 |_=>false
def Yx:X->Bool
 |.Yy _|.agg _|.fn _ _=>true
 |_=>false
def Xq{c:Ctx}{k:IntKind}{n:Int}(h:YG c (.int k n) v):v=.int k n/\k.wrap n=n:=by cases h;simp_all
def R9{c:Ctx}{b:Bool}(h:YG c (.bool b) v):v=.bool b:=by cases h;rfl
def Uu{c:Ctx}{l:ba}(h:YG c (.str l) v):v=.string ⟨l.toArray⟩/\R l<=maxLen:=by cases h;simp_all
variable{vs:List Value}{f:Nat}{us:bi}
variable{x y:Operand}
section
variable{r1 r2 r3:St}{v9:String}{z:Operand}{k:IntKind}{m n:Int}{a b:Bool}
def S.move{u:X}(f:Gd q0 s jn rg)(hd:ca E d=true)(c:YO s x u r):Zb E q0 ⟨some d,.move x,ty,v9,v4,jn⟩ s (rg++r) [(d,u)] []:=
 Zb.val f hd rfl c.looks λ_ _ _ _ e=>⟨_,rfl,c.rep e⟩
def S.assign{u:X}(f:Gd q0 s jn rg)(hd:ca E d=true)(c:YO s x u r):Zb E q0 ⟨some d,.assign x,ty,v9,v4,jn⟩ s (rg++r) [(d,u)] []:=
 Zb.val f hd rfl c.looks λ_ _ _ _ e=>⟨_,rfl,c.rep e⟩
def S.Tc{u:X}(i:Gd q0 s jn rg)(hd:ca E d=true)(g:YO s x (.bool a) r1)(f:YO s y u r2)(j:a=true):
  Zb E q0 ⟨some d,.pick x y z,ty,v9,v4,jn⟩ s (rg++(r1++r2)) [(d,u)] []:=
 Zb.val i hd rfl (g.looks.app f.looks) λc A w _ h=>by
  have o:=R9 (g.rep (c:=c) (a:=A) (w:=w) λp e=>h p<|by simp[e]);subst j;exact⟨_,by simp[execOp,o,asBool],f.rep λp e=>h p<|by simp[e]⟩
def S.Ug{u:X}(i:Gd q0 s jn rg)(hd:ca E d=true)(g:YO s x (.bool a) r1)(f:YO s z u r2)(j:a=false):
  Zb E q0 ⟨some d,.pick x y z,ty,v9,v4,jn⟩ s (rg++(r1++r2)) [(d,u)] []:=
 Zb.val i hd rfl (g.looks.app f.looks) λc A w _ h=>by
  have o:=R9 (g.rep (c:=c) (a:=A) (w:=w) λp e=>h p<|by simp[e]);subst j;exact⟨_,by simp[execOp,o,asBool],f.rep λp e=>h p<|by simp[e]⟩
def S.HY{op:BinOp}{u:X}(q:Gd q0 s jn rg)(hd:ca E d=true)(h:YO s x (.int k m) r1)(g:YO s y (.int k n) r2)
  (e:k.wrap m=m->k.wrap n=n->(∀w,(binOp op t (.int k m)<|.int k n).run E.P w=.ok v w)/\∀c,YG c u v):
  Zb E q0 ⟨some d,.binOp op t x y j,ty,v9,v4,jn⟩ s (rg++(r1++r2)) [(d,u)] []:=
 Zb.val q hd rfl (h.looks.app g.looks) λc A w _ i=>by
  obtain⟨F,H⟩:=Xq (h.rep (c:=c) (a:=A) (w:=w) λp f=>i p<|by simp[f]);obtain⟨D,G⟩:=Xq (g.rep (c:=c) (a:=A) (w:=w) λp f=>i p<|by simp[f]);obtain⟨C,B⟩:=e H G;refine⟨v,?_,B c⟩;have o:(eqGuard op t x y (.int k m)<|.int k n).run E.P w=.ok () w:=by cases op<;>simp[eqGuard]
  simp[execOp,F,D,o,C]
def S.add{t e:Nat}{q:Int}(i:Gd q0 s jn rg)(hd:ca E d=true)(g:YO s x (.int k m) r1)(f:YO s y (.int k n) r2)(h:k.wrap (m+n)=q)(c:k.wrap q=q):
  Zb E q0 ⟨some d,.binOp .add t x y e,ty,v9,v4,jn⟩ s (rg++(r1++r2)) [(d,.int k q)] []:=
 S.HY i hd g f λ_ _=>⟨λw=>by simp[binOp,Op.intArith,h],λ_=>ZR.WB<|.int c⟩
def S.sub{t e:Nat}{q:Int}(i:Gd q0 s jn rg)(hd:ca E d=true)(g:YO s x (.int k m) r1)(f:YO s y (.int k n) r2)(h:k.wrap (m - n)=q)(c:k.wrap q=q):
  Zb E q0 ⟨some d,.binOp .sub t x y e,ty,v9,v4,jn⟩ s (rg++(r1++r2)) [(d,.int k q)] []:=
 S.HY i hd g f λ_ _=>⟨λw=>by simp[binOp,Op.intArith,h],λ_=>ZR.WB<|.int c⟩
def S.mul{t e:Nat}{q:Int}(i:Gd q0 s jn rg)(hd:ca E d=true)(g:YO s x (.int k m) r1)(f:YO s y (.int k n) r2)(h:k.wrap (m * n)=q)(c:k.wrap q=q):
  Zb E q0 ⟨some d,.binOp .mul t x y e,ty,v9,v4,jn⟩ s (rg++(r1++r2)) [(d,.int k q)] []:=
 S.HY i hd g f λ_ _=>⟨λw=>by simp[binOp,Op.intArith,h],λ_=>ZR.WB<|.int c⟩
def S.quo{t e:Nat}{q:Int}(i:Gd q0 s jn rg)(hd:ca E d=true)(g:YO s x (.int k m) r1)(f:YO s y (.int k n) r2)(h0:n≠0)(h:k.wrap (m.tdiv n)=q)(c:k.wrap q=q):
  Zb E q0 ⟨some d,.binOp .quo t x y e,ty,v9,v4,jn⟩ s (rg++(r1++r2)) [(d,.int k q)] []:=
 S.HY i hd g f λ_ _=>⟨λw=>by simp[binOp,Op.intDiv,h0,h],λ_=>ZR.WB<|.int c⟩
def S.rem{t e:Nat}{q:Int}(i:Gd q0 s jn rg)(hd:ca E d=true)(g:YO s x (.int k m) r1)(f:YO s y (.int k n) r2)(h0:n≠0)(h:m.tmod n=q)(c:k.wrap q=q):
  Zb E q0 ⟨some d,.binOp .rem t x y e,ty,v9,v4,jn⟩ s (rg++(r1++r2)) [(d,.int k q)] []:=
 S.HY i hd g f λ_ _=>⟨λw=>by simp[binOp,Op.intDiv,h0,h],λ_=>ZR.WB<|.int c⟩
def S.lss{t c:Nat}(g:Gd q0 s jn rg)(hd:ca E d=true)(f:YO s x (.int k m) r1)(e:YO s y (.int k n) r2):
  Zb E q0 ⟨some d,.binOp .lss t x y c,ty,v9,v4,jn⟩ s (rg++(r1++r2)) [(d,.bool<|decide<|m<n)] []:=
 S.HY g hd f e λ_ _=>⟨λw=>by simp[binOp,Op.intCmp],λ_=>ZR.WB<|.bool _⟩
def S.leq{t c:Nat}(g:Gd q0 s jn rg)(hd:ca E d=true)(f:YO s x (.int k m) r1)(e:YO s y (.int k n) r2):
  Zb E q0 ⟨some d,.binOp .leq t x y c,ty,v9,v4,jn⟩ s (rg++(r1++r2)) [(d,.bool<|decide<|m<=n)] []:=
 S.HY g hd f e λ_ _=>⟨λw=>by simp[binOp,Op.intCmp],λ_=>ZR.WB<|.bool _⟩
def S.gtr{t c:Nat}(g:Gd q0 s jn rg)(hd:ca E d=true)(f:YO s x (.int k m) r1)(e:YO s y (.int k n) r2):
  Zb E q0 ⟨some d,.binOp .gtr t x y c,ty,v9,v4,jn⟩ s (rg++(r1++r2)) [(d,.bool<|decide<|n<m)] []:=
 S.HY g hd f e λ_ _=>⟨λw=>by simp[binOp,Op.intCmp],λ_=>ZR.WB<|.bool _⟩
def S.geq{t c:Nat}(g:Gd q0 s jn rg)(hd:ca E d=true)(f:YO s x (.int k m) r1)(e:YO s y (.int k n) r2):
  Zb E q0 ⟨some d,.binOp .geq t x y c,ty,v9,v4,jn⟩ s (rg++(r1++r2)) [(d,.bool<|decide<|n<=m)] []:=
 S.HY g hd f e λ_ _=>⟨λw=>by simp[binOp,Op.intCmp],λ_=>ZR.WB<|.bool _⟩
def S.eql{t c:Nat}(g:Gd q0 s jn rg)(hd:ca E d=true)(f:YO s x (.int k m) r1)(e:YO s y (.int k n) r2):
  Zb E q0 ⟨some d,.binOp .eql t x y c,ty,v9,v4,jn⟩ s (rg++(r1++r2)) [(d,.bool<|decide<|m=n)] []:=
 S.HY g hd f e λ_ _=>⟨λw=>by simp[binOp,Op.intCmp];by_cases h:m=n<;>simp[h],λ_=>ZR.WB<|.bool _⟩
def S.neq{t c:Nat}(g:Gd q0 s jn rg)(hd:ca E d=true)(f:YO s x (.int k m) r1)(e:YO s y (.int k n) r2):
  Zb E q0 ⟨some d,.binOp .neq t x y c,ty,v9,v4,jn⟩ s (rg++(r1++r2)) [(d,.bool<|decide<|m≠n)] []:=
 S.HY g hd f e λ_ _=>⟨λw=>by simp[binOp,Op.intCmp];by_cases h:m=n<;>simp[h],λ_=>ZR.WB<|.bool _⟩
theorem S.not{t:Nat}(g:Gd q0 s jn rg)(hd:ca E d=true)(e:YO s x (.bool a) r):
  Zb E q0 ⟨some d,.unOp .not t x,ty,v9,v4,jn⟩ s (rg++r) [(d,.bool<|!a)] []:=
 Zb.val g hd rfl e.looks λc A w _ f=>⟨.bool !a,by simp[execOp,R9<|e.rep (c:=c) (a:=A) (w:=w) f,Op.unary],ZR.WB<|.bool _⟩
def S.neg{t:Nat}{q:Int}(i:Gd q0 s jn rg)(hd:ca E d=true)(f:YO s x (.int k m) r)(h:k.wrap (0 - m)=q)(e:k.wrap q=q):
  Zb E q0 ⟨some d,.unOp .neg t x,ty,v9,v4,jn⟩ s (rg++r) [(d,.int k q)] []:=
 Zb.val i hd rfl f.looks λc A w _ g=>⟨.int k q,by simp only[execOp,(Xq<|f.rep (c:=c) (a:=A) (w:=w) g).1,Op.unary,Op.intArith,h];rfl,ZR.WB<|.int e⟩
def S.conv{t':Nat}{e:IntKind}{q:Int}{g:TypeDesc}(o:Gd q0 s jn rg)(hd:ca E d=true)(h:YO s x (.int k m) r)
  (u:E.P.underlying t=some g) (p:E.P.underlying t'=some (.int e)) (j:e.wrap m=q) (f:e.wrap q=q):
  Zb E q0 ⟨some d,.convert t t' x,ty,v9,v4,jn⟩ s (rg++r) [(d,.int e q)] []:=
 Zb.val o hd rfl h.looks λc A w _ i=>⟨.int e q,by
  simp only[execOp,(Xq<|h.rep (c:=c) (a:=A) (w:=w) i).1,convert,Sem.run_bind,run_underlying u,run_underlying p,Result.andThen_ok,Conv.intToInt,j];rfl,ZR.WB<|.int f⟩
theorem S.max2{t j i:Nat}(o:Gd q0 s jn rg)(hd:ca E d=true)(g:YO s x (.int k m) r1)(f:YO s y (.int k n) r2):
  Zb E q0 ⟨some d,.call {callee:=.builtin .max,args:=#[x,y],argTypes:=#[j,i]},t,v9,v4,jn⟩ s (rg++(r1++r2)) [(d,.int k (if m<n then n else m))] []:=
 Zb.val o hd rfl (g.looks.app f.looks) λc A w _ h=>by
  obtain⟨u,B⟩:=Xq (g.rep (c:=c) (a:=A) (w:=w) λp e=>h p<|by simp[e]);obtain⟨q,v⟩:=Xq (f.rep (c:=c) (a:=A) (w:=w) λp e=>h p<|by simp[e]);refine⟨.int k (if m<n then n else m),?_,ZR.WB<|.int<|by grind⟩;simp[execOp,resolve,invoke,builtin,u,q,Builtin.max_,Builtin.max2]
theorem S.min2{t j i:Nat}(o:Gd q0 s jn rg)(hd:ca E d=true)(g:YO s x (.int k m) r1)(f:YO s y (.int k n) r2):
  Zb E q0 ⟨some d,.call {callee:=.builtin .min,args:=#[x,y],argTypes:=#[j,i]},t,v9,v4,jn⟩ s (rg++(r1++r2)) [(d,.int k (if n<m then n else m))] []:=
 Zb.val o hd rfl (g.looks.app f.looks) λc A w _ h=>by
  obtain⟨u,B⟩:=Xq (g.rep (c:=c) (a:=A) (w:=w) λp e=>h p<|by simp[e]);obtain⟨q,v⟩:=Xq (f.rep (c:=c) (a:=A) (w:=w) λp e=>h p<|by simp[e]);refine⟨.int k (if n<m then n else m),?_,ZR.WB<|.int<|by grind⟩;simp[execOp,resolve,invoke,builtin,u,q,Builtin.min_,Builtin.min2]
def S.extract{i:Nat}{xs:bi}{u:X}(p:Gd q0 s jn rg)(hd:ca E d=true)(g:YO s x (.Yy xs) r)(j:xs[i]?=some u)(f:X4 u=false):
  Zb E q0 ⟨some d,.extract x i,ty,v9,v4,jn⟩ s (rg++r) [(d,u)] []:=
 Zb.val p hd rfl g.looks λc A w _ o=>by
  obtain⟨vs,t,q⟩:=g.rep (c:=c) (a:=A) (w:=w) o;obtain⟨v,h,e⟩:=q.WN j;refine⟨v,by simp[execOp,t,Instr.extract,h],?_⟩;cases u<;>first|exact e|cases f
def s7{c:Ctx}{u:X}(h:YG c u v)(e:Yx u=false):Xw c u v:=by
 cases u<;>first|exact h|cases e
def S.Xd{u:X}(i:Gd q0 s jn rg)(hd:ca E d=true)(e:YO s x u r)(g:Yx u=false):
  Zb E q0 ⟨some d,.makeFunc (.func f) #[] #[x],ty,v9,v4,jn⟩ s (rg++r) [(d,.fn f [u])] []:=
 Zb.val i hd rfl e.looks λc A w _ h=>⟨.func (.func f) #[] #[A.eval x],by simp[execOp,Instr.makeFunc],[A.eval x],rfl,s7 (e.rep h) g,Zo⟩
def S.LJ{u e:X}(t:Gd q0 s jn rg)(hd:ca E d=true)(j:YO s x u r1)(i:YO s y e r2)
  (q:Yx u=false) (g:Yx e=false):
  Zb E q0 ⟨some d,.makeFunc (.func f) #[] #[x,y],ty,v9,v4,jn⟩ s (rg++(r1++r2)) [(d,.fn f [u,e])] []:=
 Zb.val t hd rfl (j.looks.app i.looks) λc A w _ o=>⟨.func (.func f) #[] #[A.eval x,A.eval y],by simp[execOp,Instr.makeFunc],[A.eval x,A.eval y],rfl,s7 (j.rep λp h=>o p<|by simp[h]) q,s7 (i.rep λp h=>o p<|by simp[h]) g,Zo⟩
theorem Ul(b o n:Nat):(⟨b,o,none⟩:Addr).add n=⟨b,o+n,none⟩:=by
 simp[Addr.add]
theorem Dy{c:Ctx}{vv:bi}(h:YG c (.Yt vv) v):∃(b qc:Nat)(vs:List Value),v=.pointer (some ⟨b,qc,none⟩)/\R vv=R vs/\(∀(i:Nat)(v:Value),vs[i]?=some v->c.h ⟨b,qc+i,none⟩=some v)/\
  ∀(i:Nat)(x:X)(v:Value),vv[i]?=some x->vs[i]?=some v->ZR c.h x v:=by
 cases h<;>grind
def RI{P:Program}{T:Nat}(c:W5 P T false sz){b o:Nat}(h:w.cell? ⟨b,o,none⟩=some v):(Instr.loadAt T<|.pointer<|some ⟨b,o,none⟩).run P w=.ok v w:=by
 simp[Instr.loadAt,Instr.sureAddr,loadVar,c.agg,run_load,h]
def RJ{P:Program}{T:Nat}(c:W5 P T true sz){b o:Nat}(e:R vs=sz)(h:∀(i:Nat)(v:Value),vs[i]?=some v->w.cell? ⟨b,o+i,none⟩=some v):
  (Instr.loadAt T<|.pointer<|some ⟨b,o,none⟩).run P w=.ok (.agg vs.toArray) w:=by
 have:=run_loadCells_list (P:=P) (w:=w) ⟨b,o,none⟩ vs λj v f=>by simp_all[Ul]
 rw[e]at this;simp[Instr.loadAt,Instr.sureAddr,loadVar,c.agg,c.size,this]
def S.Q_{T:Nat}{u:X}(i:W5 E.P T false sz)(p:Gd q0 s jn rg)(hd:ca E d=true)(f:YO s x (.Yt us) r)(g:us[0]?=some u):
  Zb E q0 ⟨some d,.load T x,ty,v9,v4,jn⟩ s (rg++r) [(d,u)] []:=
 Zb.val p hd rfl f.looks λc A w hh j=>by
  obtain⟨b,qc,vs,h,o,t,q⟩:=Dy<|f.rep (c:=c) (a:=A) (w:=w) j;have h0:0<R vs:=by rw[←o];exact(ae.1 g).1
  have e:vs[0]?=some vs[0]:=Zv h0;refine⟨vs[0],?_,ZR.WB<|q 0 u _ g e⟩;simp only[execOp,h];rw[Sem.run_bind,RI i<|hh _ _<|by simpa using t 0 _ e];rfl
def S.Vj{T n:Nat}{vs:bi}(j:W5 E.P T true n)(t:Gd q0 s jn rg)(hd:ca E d=true)(f:YO s x (.Yt us) r)(h:us.take n=vs)(p:Nat.ble n (R us)=true):
  Zb E q0 ⟨some d,.load T x,ty,v9,v4,jn⟩ s (rg++r) [(d,.agg vs)] []:=
 Zb.val t hd rfl f.looks λc A w hh o=>by
  subst h;rw[ky]at p;obtain⟨b,qc,g,e,q,B,u⟩:=Dy<|f.rep (c:=c) (a:=A) (w:=w) o;refine⟨.agg (g.take n).toArray,?_,g.take n,rfl,Z1.take n<|Z1.WI q λi x v f e=>ZR.Av<|u i x v f e⟩;simp only[execOp,e];rw[Sem.run_bind,RJ j (vs:=g.take n) (by simp;omega) λi v e=>hh _ _<|B i v ?_]
  ·rfl
  rw[H0]at e;split at e;exact e;cases e
theorem VT{c:Ctx}{a:Act}{k:Nat}{vv:bi}(h:Holds c a w (1000+k)<|.box vv)(e:k<1000):
  ∃b T vs,c.loc k=some b/\w.heap[b]?=some (.cells vs T (0,0))/\Z1 (Zc c) vv vs.toList:=by
 unfold Holds at h;rw[Zm I,Zn I,H3]at h;rcases h with h|⟨b,o,i,g,T,vs,rfl,f⟩
 all_goals grind
def RY{c:Ctx}{k:Nat}(h:YG c (.ptr k qc) v):∃b,c.loc k=some b/\v=.pointer (some ⟨b,qc,none⟩):=h
def ab.WB{c:Ctx}{u:X}(h:Zc c u v)(e:QL u=false):YG c u v:=by
 cases u<;>first|exact h|cases e
def S.YH{T k:Nat}{u:X}(B:W5 E.P T false sz)(D:Gd q0 s jn rg)(hd:ca E d=true)(h:YO s x (.ptr k qc) r)(j:Nat.blt k 1000=true)
  (G:look s (1000+k)=some (.box us)) (t:us[qc]?=some u) (g:QL u=false):
  Zb E q0 ⟨some d,.load T x,ty,v9,v4,jn⟩ s (rg++(r++[(1000+k,.box us)])) [(d,u)] []:=
 Zb.val D hd rfl (h.looks.app ⟨G,Zo⟩) λc A w hh i=>by
  rw[rb]at j;obtain⟨b,J,q⟩:=RY (h.rep (c:=c) (a:=A) (w:=w) λp C=>i p<|by simp[C]);obtain⟨M,K,vs,o,I,H⟩:=VT (i (1000+k,.box us) F) j;rw[J]at o;cases o;obtain⟨v,e,f⟩:=H.WN t;refine⟨v,?_,ab.WB f g⟩;simp only[execOp,q];rw[Sem.run_bind,RI B (v:=v)]
  ·rfl
  rw[cell_of_row w b qc vs K (0,0) I];simpa using e
def S.Hl{T n k:Nat}{f:bi}(u:W5 E.P T true n)(G:Gd q0 s jn rg)(hd:ca E d=true)(g:YO s x (.ptr k qc) r)(j:Nat.blt k 1000=true)
  (H:look s (1000+k)=some (.box us)) (t:(us.drop qc).take n=f) (C:Nat.ble (qc+n) (R us)=true):
  Zb E q0 ⟨some d,.load T x,ty,v9,v4,jn⟩ s (rg++(r++[(1000+k,.box us)])) [(d,.agg f)] []:=
 Zb.val G hd rfl (g.looks.app ⟨H,Zo⟩) λc A w hh h=>by
  subst t;rw[rb]at j;rw[ky]at C;obtain⟨b,J,e⟩:=RY (g.rep (c:=c) (a:=A) (w:=w) λp B=>h p<|by simp[B]);obtain⟨M,K,vs,q,I,o⟩:=VT (h (1000+k,.box us) F) j;rw[J]at q;cases q;refine⟨.agg ((vs.toList.drop qc).take n).toArray,?_,(vs.toList.drop qc).take n,rfl,(o.drop qc).take n⟩;simp only[execOp,e];have D:=o.length;rw[Sem.run_bind,RJ u (vs:=(vs.toList.drop qc).take n)]
  ·rfl
  ·simp at D⊢;omega
  intro i v e;rw[H0]at e;split at e
  ·rw[m9]at e;rw[cell_of_row w b (qc+i) vs K (0,0) I];simpa using e
  cases e
def Sk{P:Program}{T:Nat}(e:XJ P T f qc)(b o:Nat)(w:World):(Instr.fieldAt T (.pointer<|some ⟨b,o,none⟩) f).run P w=.ok (.pointer<|some ⟨b,o+qc,none⟩) w:=by
 obtain⟨c,q,n,p,j,i,h,g⟩:=e.ex;simp_all[Instr.fieldAt,run_underlying,Instr.sureAddr,fieldPlace,Ul]
def S.VN{T k o:Nat}(j:XJ E.P T f o)(i:Gd q0 s jn rg)(hd:ca E d=true)(e:YO s x (.ptr k qc) r):
  Zb E q0 ⟨some d,.fieldAddr T x f,ty,v9,v4,jn⟩ s (rg++r) [(d,.ptr k<|qc+o)] []:=
 Zb.val i hd rfl e.looks λc A w hh h=>by
  obtain⟨b,p,g⟩:=RY<|e.rep (c:=c) (a:=A) (w:=w) h;exact⟨.pointer<|some ⟨b,qc+o,none⟩,by simp only[execOp,g];rw[Sem.run_bind,Sk j];rfl,b,p,rfl⟩
def S.field{T o:Nat}{g:bi}(u:XJ E.P T f o)(t:Gd q0 s jn rg)(hd:ca E d=true)(h:YO s x (.Yt us) r)(j:us.drop o=g):
  Zb E q0 ⟨some d,.fieldAddr T x f,ty,v9,v4,jn⟩ s (rg++r) [(d,.Yt g)] []:=
 Zb.val t hd rfl h.looks λc A w hh p=>by
  subst j;obtain⟨b,qc,vs,e,q,C,B⟩:=Dy<|h.rep (c:=c) (a:=A) (w:=w) p;refine⟨.pointer<|some ⟨b,qc+o,none⟩,by simp only[execOp,e];rw[Sem.run_bind,Sk u];rfl,.Yt _ b (qc+o) (vs.drop o) (by simp[q]) ?_ ?_⟩
  ·intro i v e;rw[m9]at e;rw[Nat.add_assoc];exact C _ _ e
  intro i x v h e;rw[m9]at h e;exact B _ _ _ h e
def Qb{c:Ctx}(h:YG c (.sl vi) v):∃a vz,v=.slice a (R vi) vz/\R vi<=vz/\vz<=maxLen/\(vi=[]\/∃(b qc f:Nat)(vs:List Value),a=some ⟨b,qc,none⟩/\(∀r∈vi,R r=f)/\R vi.flatten=R vs/\
  (∀(i:Nat)(v:Value),vs[i]?=some v->c.h ⟨b,qc+i,none⟩=some v)/\∀(i:Nat)(x:X)(v:Value),vi.flatten[i]?=some x->vs[i]?=some v->ZR c.h x v):=by
 cases h with
 |I3 a vz e=>exact⟨a,vz,rfl,Zr _,e,.inl rfl⟩
 |sl _ b qc vz f vs t q p o j g=>exact⟨_,vz,rfl,t,q,.inr ⟨b,qc,f,vs,rfl,p,o,j,g⟩⟩
def YM{α:Type}{sz:Nat}:∀{vi:List<|List α},(∀r∈vi,R r=sz)->R vi.flatten=R vi * sz
 |[],_=>by simp
 |r::vi,h=>by
  rw[P1,Zs,YM λr c=>h r<|rl _ c,h r rv,tt,aρ];omega
theorem SL{α:Type}{sz:Nat}:∀{vi:List<|List α}(i:Nat){u0:List α},(∀r∈vi,R r=sz)->vi[i]?=some u0->(vi.flatten.drop<|i * sz).take sz=u0
 |[],i,u0,_,h=>by simp at h
 |r::vi,0,u0,h,c=>by
  simp_all
 |r::vi,i+1,u0,h,c=>by
  have e:=h r rv;rw[P1,aρ,cβ,Nat.add_comm,←eε];have:(r++vi.flatten).drop sz=vi.flatten:=by simp_all
  rw[this];exact SL i (λr c=>h r<|rl _ c) (by grind)
def S.index{i:Int}{u0:bi}(hs:Qh E.P t e sz)(O:Gd q0 s jn rg)(hd:ca E d=true)(H:YO s x (.sl vi) r1)(G:YO s y (.int k i) r2)
  (h0:0<=i) (hi:vi[i.toNat]?=some u0) (o:R u0=sz):Zb E q0 ⟨some d,.indexAddr t x y,ty,v9,v4,jn⟩ s (rg++(r1++r2)) [(d,.Yt u0)] []:=
 Zb.val O hd rfl (H.looks.app G.looks) λc A w hh K=>by
  obtain⟨a,vz,g,Z,Y,B⟩:=Qb (H.rep (c:=c) (a:=A) (w:=w) λp C=>K p<|by simp[C]);obtain⟨hw,_⟩:=Xq (G.rep (c:=c) (a:=A) (w:=w) λp C=>K p<|by simp[C]);have q:i.toNat<R vi:=(ae.1 hi).1;rcases B with rfl|⟨b,qc,f,vs,rfl,B,X,W,V⟩
  ·simp at q
  have h:f=sz:=by rw[←o];exact(B u0<|mr hi).symm
  subst h;have T:=YM B;have F:=SL i.toNat B hi;have N:i.toNat * f+f<=R vi * f:=by rw[←bρ];exact m8 _ q
  refine⟨.pointer<|some ⟨b,qc+i.toNat * f,none⟩,?_,.Yt u0 b (qc+i.toNat * f) ((vs.drop<|i.toNat * f).take f) ?_ ?_ ?_⟩
  ·have D:i<(R vi:Int):=I
   simp[execOp,g,hw,Instr.indexAt,asIntOf,run_underlying hs.OA,hs.size,h0,D,Ul]
  ·rw[o];simp;omega
  ·intro j v g;rw[H0]at g;split at g
   ·rw[m9]at g;rw[Nat.add_assoc];exact W _ _ g
   cases g
  intro j u v J g;rw[H0]at g;split at g
  ·rename_i M;rw[m9]at g;rw[←F,H0,Zn M,m9]at J;exact V _ _ _ J g
  cases g
theorem P3{n:Nat}(h:n<=maxLen):IntKind.i64.wrap n=n:=by
 grind [maxLen,IntWalk.i64_in]
theorem S.len{t:Nat}{e sz:Nat}{vi:List bi}(hs:Qh E.P t e sz)(i:Gd q0 s jn rg)(hd:ca E d=true)(f:YO s x (.sl vi) r):
  Zb E q0 ⟨some d,.call {callee:=.builtin .len,args:=#[x],argTypes:=#[t]},ty,v9,v4,jn⟩ s (rg++r) [(d,.int .i64<|R vi)] []:=
 Zb.val i hd rfl f.looks λc A w hh h=>by
  obtain⟨a,vz,g,o,j,_⟩:=Qb<|f.rep (c:=c) (a:=A) (w:=w) h;refine⟨.int .i64<|R vi,?_,ZR.WB<|.int<|P3<|di o j⟩;simp[execOp,resolve,invoke,builtin,g,Builtin.len_,run_underlying hs.OA,goInt]
theorem Wp{c:Ctx}{a:Act}{k:Nat}(h:Holds c a w (2000+k)<|.arr sz vi):
  ∃g e vs,c.arr k=some (R vi,g,true)/\w.ownsRow 0 e sz g (R vi) vs/\(∀r∈vi,R r=sz)/\Z1 (ZR c.h) vi.flatten vs:=by
 unfold Holds at h;by_cases o:k<1000
 case neg=>
  rw[Zm I,Zm I,Zm I]at h;rcases h with h|⟨_,J,j,_⟩
  ·cases h
  cases j
 rw[Zm I,Zm I,Zn I,H3]at h;rcases h with h|⟨i,f,g,e,vs,⟨rfl,rfl,p⟩,u,t,q⟩
 all_goals grind
def lD{c:Ctx}{a:Act}{k:Nat}(h:Holds c a w (2000+k)<|.arr sz vi):k<1000:=by
 unfold Holds at h;refine aν λf=>?_
 rw[Zm I,Zm I,Zm I]at h;rcases h with h|⟨_,J,e,_⟩
 ·cases h
 cases e
def S.sC{k n:Nat}(hs:Qh E.P t e sz)(H:Gd q0 s jn rg)(hd:ca E d=true)(i:YO s x (.own k n) r)(G:look s (2000+k)=some (.arr f vi))(C:R vi=n):
  Zb E q0 ⟨some d,.call {callee:=.builtin .len,args:=#[x],argTypes:=#[t]},ty,v9,v4,jn⟩ s (rg++(r++[(2000+k,.arr f vi)])) [(d,.int .i64 n)] []:=
 Zb.val H hd rfl (i.looks.app ⟨G,Zo⟩) λc A w hh j=>by
  subst C;obtain⟨_,m,v,lv,o,W,N⟩:=i.rep (c:=c) (a:=A) (w:=w) λp B=>j p (by simp[B])
  obtain⟨u,X,vs,M,K,V,T⟩:=Wp<|j (2000+k,.arr f vi) F;rw[M]at o;cases o;have h:=N rfl;have qk:∃a q,v=.slice a (R vi) q/\R vi<=maxLen:=by
   rcases K.2 with⟨rfl,h0⟩|⟨g,vz,O,rfl,_,_,J,I,_⟩
   ·exact⟨none,0,by rw[h0],by rw[h0];exact Zr _⟩
   exact⟨_,_,rfl,di J I⟩
  obtain⟨a,q,rfl,D⟩:=qk;refine⟨.int .i64<|R vi,?_,ZR.WB<|.int<|P3 D⟩;simp[execOp,resolve,invoke,builtin,h,Builtin.len_,run_underlying hs.OA,goInt]
def S.qV{l:ba}(hs:E.P.underlying t=some .string)(i:Gd q0 s jn rg)(hd:ca E d=true)(f:YO s x (.str l) r):
  Zb E q0 ⟨some d,.call {callee:=.builtin .len,args:=#[x],argTypes:=#[t]},ty,v9,v4,jn⟩ s (rg++r) [(d,.int .i64<|R l)] []:=
 Zb.val i hd rfl f.looks λc A w hh h=>by
  obtain⟨g,j⟩:=Uu<|f.rep (c:=c) (a:=A) (w:=w) h;refine⟨.int .i64<|R l,?_,ZR.WB<|.int<|P3 j⟩;have e:(⟨l.toArray⟩:ByteArray).size=R l:=by show l.toArray.size=_;simp
  simp[execOp,resolve,invoke,builtin,g,Builtin.len_,run_underlying hs,goInt,e]
end
def Ct(P:Program)(f:Nat)(vj:bi)(qp:X):Prop:=
 ∀(h:Mem)(w:World)(vs:List Value),(∀p v,h p=some v->w.cell? p=some v)->Z1 (YQ<|ZL h) vj vs->
  Calls P f vs.toArray w λe g=>∃v c,e=.returned v/\Below w.heap.size w g/\Mem.le h c/\(∀p v,c p=some v->h p=some v\/w.heap.size<=p.block)/\
   (∀p v,c p=some v->g.cell? p=some v)/\YG (ZL c) qp v
def BI:X->Bool
 |.int _ _|.bool _|.str _|.sl _|.Yt _=>true
 |.raw v=>v.oneCell'
 |_=>false
def ZR.Iu{u:Value}(e:v=u)(c:u.oneCell'=true):ZR h (.raw u) v:=by subst e;exact .raw _ c
def D_of{c:Ctx}{u:X}(h:Zc c u v)(e:BI u=true):ZR c.h u v:=by
 cases u<;>first|exact h|exact ZR.Iu h e|cases e
def Od{c:Ctx}:∀{us:bi}{vs:List Value},Z1 (Zc c) us vs->us.all BI=true->Z1 (ZR c.h) us vs
 |[],[],_,_=>trivial
 |_::_,_::_,h,ho=>by simp only[so,Zw]at ho;exact⟨D_of h.1 ho.1,Od h.2 ho.2⟩
 |[],_::_,h,_=>h.elim
 |_::_,[],h,_=>h.elim
inductive Qg(fs:bc)(s:St):X->X->Prop
 |same {x:X}:Ky [] x=true->Qg fs s x x
 |own {k n sz:Nat} {rows:List bi} (hk:Nat.blt k 1000=true) (hl:look s (2000+k)=some (.arr sz rows)) (hn:rows.length=n) (hk9:fs.contains k=false:=by rfl):Qg fs s (.own k n)<|.sl rows
 |ZM:Qg fs s .ZM<|.sl []
 |ptr {k off:Nat} {cells cells':bi} (hk:Nat.blt k 1000=true) (hl:look s (1000+k)=some (.box cells)) (hD:cells.all BI=true) (hd:cells.drop off=cells') (hk9:fs.contains k=false:=by rfl):Qg fs s (.ptr k off)<|.Yt cells'
def tD:X->Bool
 |.fn _ _=>true
 |_=>false
inductive AN(fs:bc)(s:St):X->X->Prop
 |c {x y:X}:Qg fs s x y->QL x=false->AN fs s x y
 |agg {xs ys:bi}:Z1 (Qg fs s) xs ys->AN fs s (.agg xs) (.agg ys)
 |fn {f:Nat} {xs ys:bi}:Z1 (Qg fs s) xs ys->xs.all (λx=>!tD x)=true->AN fs s (.fn f xs) (.fn f ys)
def ZB.BC{c:Ctx}(e:ZB E U c a w){k:Nat}(h:c.loc k=some b)(f:k∉E.fs):¬c.out E.fs b:=by
 rintro(hy|⟨k',h1,h2⟩|⟨k',m,hv,h1,h2,h3⟩)
 ·exact(e.Y b hy).2.2.1 k h
 ·exact f<|(e.loc k b h).2.2.2.1 k' h2▸h1
 exact(e.loc k b h).2.2.2.2 k' m hv h2 h3
def ZB.BB{c:Ctx}(g:ZB E U c a w){k m:Nat}{f:Value}(h:c.arr k=some (m,f,true))(e:f.ownBlock=some b)(i:k∉E.fs):¬c.out E.fs b:=by
 rintro(hy|⟨k',h1,h2⟩|⟨k',m',hv',h1,h2,h3⟩)
 ·exact(g.Y b hy).2.2.2 k m f h e
 ·exact(g.loc k' b h2).2.2.2.2 k m f h e
 exact i<|(g.arr k m f b h e).2.2.2 k' m' hv' h2 h3▸h1
theorem ZB.eS{c:Ctx}(f:ZB E U c a w)(h:c.out E.fs b)(e:b<E.B):E.X b:=by
 rcases h with i|⟨k,p,g⟩|⟨k,m,j,p,g,o⟩
 ·exact(f.Y b i).2.1 e
 ·rcases(f.loc k b g).1 with h|h
  all_goals grind
 rcases(f.arr k m j b g o).1 with h|h
 all_goals grind
def ZB.bX{c:Ctx}(e:ZB E U c a w)(h:c.out E.fs b):b<w.heap.size:=by
 rcases h with g|⟨k,o,f⟩|⟨k,m,i,o,f,j⟩
 ·exact(e.Y b g).1
 ·exact(e.loc k b f).2.1
 exact(e.arr k m i b f j).2.1
open Classical in
noncomputable def Env.fin(E:Env)(c:Ctx)(w:World):Mem:=fun p=>if p.block<E.B\/c.out E.fs p.block then c.h p else w.cell? p
theorem Env.Lv{c:Ctx}(e:ZB E U c a w):Mem.le c.h<|E.fin c w:=by
 intro p v h;unfold Env.fin;split
 ·exact h
 exact e.hw p v h
def UX{c:Ctx}{f:Mem}(hh:Mem.le c.h f):Ext (c.cut [])<|ZL f:=
 ⟨hh,λk b e=>by simp[Ctx.cut]at e,λk m g lv e=>by simp[Ctx.cut]at e⟩
theorem ZR.JN{B:Nat}{f:Value}{j:Mem}(A:w.ownsRow B e sz f (R vi) vs)(u:∀r∈vi,R r=sz)(q:Z1 (ZR h) vi.flatten vs)
  (hh:Mem.le h j) (c:∀b o,f.ownBlock=some b->j ⟨b,o,none⟩=w.cell? ⟨b,o,none⟩):ZR j (.sl vi) f:=by
 obtain⟨I,⟨rfl,G⟩|⟨g,vz,p,rfl,_,D,C,F,hs,H⟩⟩:=A
 ·have:vi=[]:=tz G;subst this;exact .I3 none 0<|Zr _
 refine .sl vi g 0 vz sz vs C F u q.length ?_ ?_
 ·intro i v f;rw[c g _ rfl,cell_of_row w g (0+i) p e (0,0) D,wc];grind
 intro i x v t f;exact(q.get t f).mono hh
theorem Qg.fin{E:Env}{U:bc}{c:Ctx}{a:Act}{w:World}{s:St}(g:ZB E U c a w)(hh:∀vy x,look s vy=some x->Holds c a w vy x){x y:X}{v:Value}(H:Qg E.fs s x y)(f:Zc c x v):
  Zc (ZL<|E.fin c w) y v:=by
 cases H with
 |ZM=>
  have:v=.slice none 0 0:=f;subst this;exact ZR.Av (c:=(ZL<|E.fin c w))<|.I3 none 0<|Zr _
 |same J=>exact(f.cut J).mono<|UX<|Env.Lv g
 | @ptr k qc vv qs hk hl hD hd hk9=>
   subst hd;obtain⟨b,j,rfl⟩:=f;obtain⟨O,T,vs,u,D,t⟩:=VT (hh (1000+k) (.box vv) hl) (by simp_all);rw[j]at u;cases u;have A:=Od t hD;have C:=Env.SX (g.loc k b j).1<|KT hk9;have K:=g.BC j<|KT hk9;refine ZR.Av (c:=(ZL<|E.fin c w)) (ZR.Yt _ b qc (vs.toList.drop qc) (by have:=t.length;simp_all) ?_ ?_)
   ·intro i v p;rw[m9]at p;show E.fin c w ⟨b,qc+i,none⟩=_;unfold Env.fin;rw[Zm<|by simp_all,cell_of_row w b (qc+i) vs T (0,0) D];grind
   intro i x v f p;rw[m9]at f p;exact(A.get f p).mono<|Env.Lv g
 | @own k n sz vi hk hl hn hk9=>
   obtain⟨p,e,vs,j,u,D,t⟩:=Wp<|hh _ _ hl;obtain⟨_,m,G,lv,F,N,M⟩:=f;rw[j]at F;cases F;rw[M hn.symm];refine ZR.Av (c:=(ZL<|E.fin c w))<|ZR.JN u D t (Env.Lv g) λb o q=>?_;have C:=Env.SX (g.arr k _ _ b j q).1<|KT hk9;show E.fin c w _=_;unfold Env.fin;rw[Zm<|by show¬(b<E.B\/c.out E.fs b);exactλh=>h.elim I<|g.BB j q<|KT hk9]
def Z1.fin{E:Env}{U:bc}{c:Ctx}{a:Act}{w:World}{s:St}(e:ZB E U c a w)(hh:∀vy x,look s vy=some x->Holds c a w vy x):∀{xs ys:bi}{vs:List Value},Z1 (Qg E.fs s) xs ys->Z1 (Zc c) xs vs->
  Z1 (Zc<|ZL<|E.fin c w) ys vs
 |[],[],[],_,_=>trivial
 |_::_,_::_,_::_,h,h'=>⟨h.1.fin e hh h'.1,Z1.fin e hh h.2 h'.2⟩
 |[],_::_,_,h,_=>h.elim
 |_::_,[],_,h,_=>h.elim
 |[],[],_::_,_,h=>h.elim
 |_::_,_::_,[],_,h=>h.elim
def ap.Av{c:Ctx}{u:X}(h:YQ c u v)(e:QL u=false):Zc c u v:=by
 cases u<;>first|exact h|cases e
def ab.xJ{c:Ctx}{u:X}(h:Zc c u v)(e:QL u=false):YQ c u v:=by
 cases u<;>first|exact h|cases e
def T.xJ{c:Ctx}{u:X}(h:YG c u v)(e:X4 u=false):YQ c u v:=by
 cases u<;>first|exact h|cases e
theorem ap.WB{c:Ctx}{u:X}(h:YQ c u v)(e:X4 u=false):YG c u v:=by
 cases u<;>first|exact h|cases e
variable{fs:bc}
def Qg.wS{x y:X}(h:Qg fs s x y)(c:QL x=false):QL y=false:=by
 cases h with
 |same _=>exact c
 |own _ _ _ _=>rfl
 |ZM=>rfl
 |ptr _ _ _ _ _=>rfl
def bK{c:Ctx}{x:X}(h:Xw c x v)(e:tD x=false):Zc c x v:=by cases x<;>first|exact h|cases e
def bL{c:Ctx}{x:X}(h:Zc c x v)(e:tD x=false):Xw c x v:=by cases x<;>first|exact h|cases e
def Qg.nf{x y:X}(h:Qg fs s x y)(c:tD x=false):tD y=false:=by
 cases h with
 |same _=>exact c
 |own _ _ _ _=>rfl
 |ZM=>rfl
 |ptr _ _ _ _ _=>rfl
def Z1.finP{E:Env}{U:List Nat}{c:Ctx}{a:Act}{w:World}{s:St}(e:ZB E U c a w)(hh:∀vy x,look s vy=some x→Holds c a w vy x):∀{xs ys:List X}{vs:List Value},Z1 (Qg E.fs s) xs ys→xs.all (λx=>!tD x)=true→Z1 (Xw c) xs vs→
  Z1 (Xw<|ZL<|E.fin c w) ys vs
 |[],[],[],_,_,_=>trivial
 |_::_,_::_,_::_,h,hn,h'=>by
  simp only[so,Zw,zd]at hn;exact⟨bL (h.1.fin e hh<|bK h'.1 hn.1)<|h.1.nf hn.1,Z1.finP e hh h.2 (by simp_all) h'.2⟩
 |[],_::_,_,h,_,_=>h.elim
 |_::_,[],_,h,_,_=>h.elim
 |[],[],_::_,_,_,h=>h.elim
 |_::_,_::_,[],_,_,h=>h.elim
def AN.fin{E:Env}{U:bc}{c:Ctx}{a:Act}{w:World}{s:St}(f:ZB E U c a w)(hh:∀vy x,look s vy=some x->Holds c a w vy x){x y:X}{v:Value}(j:AN E.fs s x y)(e:YQ c x v):
  YQ (ZL<|E.fin c w) y v:=by
 cases j with
 |c h hn=>exact ab.xJ (h.fin f hh<|ap.Av e hn)<|h.wS hn
 |agg h=>obtain⟨vs,i,g⟩:=e;exact⟨vs,i,Z1.fin f hh h g⟩
 |fn h hn=>obtain⟨vs,i,g⟩:=e;exact⟨vs,i,Z1.finP f hh h hn g⟩
def rF{y:X}(h:QL y=false):X4 y=false:=by cases y<;>first|rfl|cases h
inductive NG(E:Env)(s:St):ResultVar->X->Prop
 |tmp {t:Nat} {x y:X}:Nat.blt t 1000=true->look s t=some x->AN E.fs s x y->X4 x=false->NG E s (.tmp t) y
 |XU {t T k n:Nat} {cells ys:bi}:Nat.blt t 1000=true->look s t=some (.ptr k 0)->Nat.blt k 1000=true->look s (1000+k)=some (.box cells)->W5 E.P T true n->cells.length=n->Z1 (Qg E.fs s) cells ys->NG E s (.cell t T) (.agg ys)
 |Py {t T k n:Nat} {x y:X}:Nat.blt t 1000=true->look s t=some (.ptr k 0)->Nat.blt k 1000=true->look s (1000+k)=some (.box [x])->W5 E.P T false n->Qg E.fs s x y->QL x=false->NG E s (.cell t T) y
def NZ(xv:Array Value):ResultVar->Sem Value
 |.tmp t=>pure<|xv.getD t undef
 |.cell a t=>do loadVar t (←asAddr (xv.getD a undef))
def AN.Ip{x y:X}(h:AN fs s x y)(e:X4 x=false):X4 y=false:=by
 cases h with
 |c h hn=>exact rF<|h.wS hn
 |agg _=>rfl
 |fn _ _=>rfl
theorem NG.fin{E:Env}{U:bc}{c:Ctx}{a:Act}{w:World}{s:St}(p:ZB E U c a w)(hh:∀vy x,look s vy=some x->Holds c a w vy x){r:ResultVar}{y:X}(h:NG E s r y):
  ∃v,(NZ a.tmps r).run E.P w=.ok v w/\YQ (ZL<|E.fin c w) y v/\X4 y=false:=by
 cases h with
 |tmp ht hl hr hn=>exact⟨_,rfl,hr.fin p hh<|T.xJ ((hh _ _ hl).slot ht) hn,hr.Ip hn⟩
 |XU ht hl hk aV hT qk hres=>
  rw[rb]at hk;obtain⟨b,q,t⟩:=RY<|(hh _ _ hl).slot ht;obtain⟨C,A,vs,e,u,f⟩:=VT (hh _ _ aV) hk;rw[q]at e;cases e;refine⟨.agg vs,?_,⟨vs.toList,F,Z1.fin p hh hres f⟩,rfl⟩;have:=RJ (P:=E.P) hT (b:=b) (o:=0) (vs:=vs.toList) (w:=w) (by rw[←f.length,qk]) λi v t=>by
   grind [cell_of_row]
  simp_all[Instr.loadAt,Instr.sureAddr,NZ,asAddr]
 |Py ht hl hk aV hT hres hn=>
  rw[rb]at hk;obtain⟨b,q,t⟩:=RY<|(hh _ _ hl).slot ht;obtain⟨C,A,vs,e,u,f⟩:=VT (hh _ _ aV) hk;rw[q]at e;cases e;obtain⟨v,B,g,j,_⟩:=f.YU;refine⟨v,?_,ab.xJ (hres.fin p hh j)<|hres.wS hn,?_⟩
  ·have:=RI (P:=E.P) hT (b:=b) (o:=0) (v:=v) (w:=w) (by rw[cell_of_row w b 0 vs A (0,0) u,←cρ,g];rfl);simp_all[Instr.loadAt,Instr.sureAddr,NZ,asAddr]
  exact rF<|hres.wS hn
def tupOf:bi->X
 |[y]=>y
 |ys=>.Yy ys
def Kb(E:Env)(rs:List ResultVar)(qp:X):bo:=λe _ s=>(e=.ret\/e=.normal)/\∃c,Z1 (NG E s) rs c/\tupOf c=qp
theorem Sl{E:Env}{U:bc}{c:Ctx}{a:Act}{w:World}{s:St}(f:ZB E U c a w)(hh:∀vy x,look s vy=some x->Holds c a w vy x):∀{rs:List ResultVar}{ys:bi},Z1 (NG E s) rs ys->
  ∃vs,(rs.mapM<|NZ a.tmps).run E.P w=.ok vs w/\Z1 (YQ<|ZL<|E.fin c w) ys vs/\∀y∈ys,X4 y=false
 |[],[],_=>⟨[],rfl,Zo,λy e=>by cases e⟩
 |r::rs,y::ys,h=>by
  obtain⟨v,q,i,p⟩:=h.1.fin f hh;obtain⟨vs,o,g,j⟩:=Sl f hh h.2;refine⟨v::vs,?_,⟨i,g⟩,λy e=>?_⟩
  ·simp_all
  grind
 |[],_::_,h=>h.elim
 |_::_,[],h=>h.elim
def Uj:Nat->bi->St
 |_,[]=>[]
 |i,x::xs=>(i,x)::Uj (i+1) xs
theorem Ia{vy:Nat}{x:X}:∀{xs:bi}{i:Nat},look (Uj i xs) vy=some x->i<=vy/\xs[vy - i]?=some x
 |[],_,h=>by cases h
 |y::ys,i,h=>by
  simp only[Uj,look]at h;split at h
  ·simp_all
  rename_i f;have c:i≠vy:=λe=>f (by simp_all)
  obtain⟨j,g⟩:=Ia h;grind
abbrev TG(P:Program)(nt:Nat)(fs:bc)(w:World)(c:Ctx):Env:=⟨P,nt,fs,c,w,none,[]⟩
theorem Sa{D:Nat}{o c:Obj}(h:w.heap[D]?=some o)(f:o.isCells=false)(e:c.isCells=false)(p:Addr):(w.putObj D c).cell? p=w.cell? p:=by
 grind [World.putObj_heap_same,World.cell?,Obj.isCells,World.putObj_heap_other]
theorem VG{P:Program}{fn:Func}{xv:Array Value}{R:Ending→World→Prop}{B:Nat}{aw:Nat→Prop}:∀(f:List Deferred)(w:World),f.Pairwise (· ≠ ·)→
  (∀d∈f,∃D,d={target:=.collected D,args:=#[]}/\B<=D/\¬aw D/\w.heap[D]?=some (.deferred<|some []))->
  (∀c:World,c.os=w.os->c.tape=w.tape->c.output=w.output->c.heap.size=w.heap.size->(∀k,(k<B\/aw k\/∃o:Obj,w.heap[k]?=some o/\o.isCells=true)->c.heap[k]?=w.heap[k]?)->(∀p,c.cell? p=w.cell? p)->∃v,(results fn xv).run P c=.ok v c/\R (.returned v) c)->
  LeavesInM Fence.wide 0 P fn xv R f .returning w
 |[],w,_,_,hR=>by
  obtain⟨v,g,q⟩:=hR w rfl rfl rfl rfl (λ_ _=>rfl) λ_=>rfl;exact⟨v,g,q⟩
 |d::f,w,hp,hd,hR=>by
  obtain⟨D,rfl,hB,A,j⟩:=hd d rv;obtain⟨t,h⟩:=bβ.1 hp;have u:∀k,k≠D->(w.putObj D<|.deferred none).heap[k]?=w.heap[k]?:=λk e=>World.putObj_heap_other e
  refine⟨Z,.inl ⟨D,w.putObj D<|.deferred none,rfl,?_,VG (B:=B) (aw:=aw) f _ h ?_ ?_⟩⟩
  ·exact run_takeDeferred j
  ·grind
  intro c J I H G F C;have i:∀k,(k<B\/aw k\/∃o:Obj,w.heap[k]?=some o/\o.isCells=true)->k≠D:=by
   rintro k e rfl;rcases e with e|e|⟨o,g,q⟩
   ·omega
   ·exact A e
   rw[j]at g;cases g;cases q
  refine hR c J I H (by rw[G];simp) (λk e=>(F k ?_).trans<|u k<|i k e) λp=>(C p).trans<|Sa j rfl rfl p
  simp_all
structure Pp(fs:bc)(c:Ctx)(w:World):Prop where
 hw:∀p v,c.h p=some v->w.cell? p=some v
 loc:∀k b,c.loc k=some b->k∈fs/\b<w.heap.size/\(∀o,c.h ⟨b,o,none⟩=none)/\(∀k',c.loc k'=some b->k'=k)/\(∀k' m hv,c.arr k'=some (m,hv,true)->hv.ownBlock≠some b)
 arr:∀k m hv b,c.arr k=some (m,hv,true)->hv.ownBlock=some b->k∈fs/\b<w.heap.size/\(∀o,c.h ⟨b,o,none⟩=none)/\(∀k' m' hv',c.arr k'=some (m',hv',true)->hv'.ownBlock=some b->k'=k)
 none:∀k,k∉fs->c.loc k=none/\c.arr k=none
 Y:∀b,c.Y b->b<w.heap.size/\(∀k,c.loc k≠some b)/\(∀k m hv,c.arr k=some (m,hv,true)->hv.ownBlock≠some b)
structure Rj(fs:bc)(c:Ctx)(w:World)(wr:St)(res:X)(v:Value)(c':Ctx)(w':World):Prop where
 below:WV w.heap.size (c.out fs) w w'
 ok:Pp fs c' w'
 le:Mem.le c.h c'.h
 new:∀p v,c'.h p=some v->c.h p=some v\/w.heap.size<=p.block\/c.out fs p.block
 out:∀b,c'.out fs b->b<w.heap.size->c.out fs b
 loc:∀k b,c'.loc k=some b->c.loc k=some b
 arr:∀k m hv lv,c'.arr k=some (m,hv,lv)->∃m0 hv0 lv0,c.arr k=some (m0,hv0,lv0)/\m0<=m/\(m0=m->hv=hv0)
 wr:∀p∈wr,∀a,Holds c' a w' p.1 p.2
 res:YG c' res v
def Vi(P:Program)(f:Nat)(fs:bc)(vj:bi)(rd wr:St)(qp:X):Prop:=
 ∀(c:Ctx)(w:World)(vs:List Value),Pp fs c w->(∀p∈rd,∀a,Holds c a w p.1 p.2)->Z1 (YQ c) vj vs->
  Calls P f vs.toArray w λe g=>∃v h,e=.returned v/\Rj fs c w wr qp v h g
def Ctx.TH(c:Ctx)(fs:bc)(h:Mem):Ctx:=⟨h,λk=>if fs.contains k then c.loc k else none,λk=>if fs.contains k then c.arr k else none,c.Y⟩
theorem VH{c:Ctx}{k:Nat}(e:(c.TH fs h).loc k=some b):k∈fs/\c.loc k=some b:=by
 simp_all[Ctx.TH]
theorem Wa{c:Ctx}{k:Nat}{x:Nat×Value×Bool}(e:(c.TH fs h).arr k=some x):k∈fs/\c.arr k=some x:=by
 simp_all[Ctx.TH]
theorem JU{c:Ctx}(e:(c.TH fs h).out fs b):c.out fs b:=by
 rcases e with i|⟨k,g,f⟩|⟨k,m,j,g,f,o⟩
 ·exact .inl i
 ·exact .inr<|.inl ⟨k,g,(VH f).2⟩
 exact .inr<|.inr ⟨k,m,j,g,(Wa f).2,o⟩
def ez(fs:bc):X->Bool
 |.ptr k _=>fs.contains k
 |.own k _=>fs.contains k
 |.Wt k _ _=>fs.contains k
 |.QS k=>fs.contains k
 |.GL k _ _ _ _=>fs.contains k
 |_=>true
def aW(fs:bc):X->Bool
 |.fn _ vt=>vt.all<|ez fs
 |x=>ez fs x
def SN(fs:bc)(p:Nat×X):Bool:=Nat.ble 1000 p.1&&(match p.2 with
 |.box vv=>(fs.any λk=>Nat.beq (1000+k) p.1)&&vv.all (aW fs)
 |.arr _ _=>fs.any λk=>Nat.beq (2000+k) p.1
 |.W8 _ _ mid _=>(fs.any λk=>Nat.beq (2000+k) p.1)&&mid.all (aW fs)
 |.omap _=>fs.any λk=>Nat.beq (1000+k) p.1
 |.res _=>Nat.ble 3000 p.1
 |_=>false)
theorem Xw.TH{c:Ctx}{fs:bc}{j:Mem}(hh:Mem.le c.h j){x:X}{v:Value}(h:Xw c x v)(g:ez fs x=true):Xw (c.TH fs j) x v:=by
 cases x
 case ptr k qc=>obtain⟨b,i,e⟩:=h;simp only[ez]at g;exact⟨b,by simp_all[Ctx.TH],e⟩
 case own k n=>obtain⟨h0,m,f,lv,i,e⟩:=h;simp only[ez]at g;exact⟨h0,m,f,lv,by simp_all[Ctx.TH],e⟩
 case Wt k n qc=>obtain⟨m,f,lv,i,e⟩:=h;simp only[ez]at g;exact⟨m,f,lv,by simp_all[Ctx.TH],e⟩
 case QS k=>obtain⟨b,i,e⟩:=h;simp only[ez]at g;exact⟨b,by simp_all[Ctx.TH],e⟩
 case GL k n sz lo hi=>obtain⟨h0,m,f,lv,i,e⟩:=h;simp only[ez]at g;exact⟨h0,m,f,lv,by simp_all[Ctx.TH],e⟩
 case slc vi=>exact⟨ZR.mono hh h.1,h.2⟩
 case any=>exact h
 case raw=>exact h
 case ZM=>exact h
 case cb=>exact h
 all_goals exact ZR.mono hh h
theorem Zc.TH{c:Ctx}{fs:bc}{e:Mem}(hh:Mem.le c.h e){x:X}{v:Value}(h:Zc c x v)(g:aW fs x=true):Zc (c.TH fs e) x v:=by
 cases x
 case fn f vt=>grind [Zc,aW,Z1.cut,Xw.TH]
 all_goals simp_all[Zc,aW,Xw.TH]
theorem Holds.TH{c:Ctx}{fs:List Nat}{i:Mem}{w w':World}(hh:Mem.le c.h i)(hn:∀p v,i p=some v→c.h p=some v∨¬c.Y p.block)(K:∀p v,i p=some v→w'.cell? p=some v)(hB:WV 0 (λ_=>False) w w')
  (C:∀b,c.out fs b->w'.heap[b]?=w.heap[b]?) {vy:Nat} {x:X} {a a':Act} (h:Holds c a w vy x) (f:SN fs (vy,x)=true):Holds (c.TH fs i) a' w' vy x:=by
 simp only[SN,Zw,ky]at f;obtain⟨ho1,f⟩:=f;unfold Holds at *;rw[Zm I]at h⊢;refine XH h λh=>?_
 split at h
 ·rename_i V;rw[Zn V];obtain⟨b,o,D,t,q⟩:=h;cases x
  case box vv=>
   obtain⟨T,vs,B,S⟩:=q;simp only[Zw]at f;have A:=eN f.1;exact⟨b,o,by simp_all[Ctx.TH],(C b<|.inr<|.inl ⟨_,tl.1 A,D⟩).trans t,T,vs,B,Z1.cut (R':=Zc<|c.TH fs i) (ok:=aW fs) (λ_ _ h f=>Zc.TH hh h f) S f.2⟩
  case omap es=>
   obtain⟨W,j,B,h0,S⟩:=q;simp only at f;have A:=eN f;exact⟨b,o,by simp_all[Ctx.TH],(C b<|.inr<|.inl ⟨_,tl.1 A,D⟩).trans t,W,j,B,h0,S.mono λ_ _ h=>⟨h.1.mono hh,pure_mono hh h.2⟩⟩
  all_goals exact q.elim
 rename_i V;rw[Zm V];split at h
 ·rename_i t;rw[Zn t];obtain⟨Z,vi,hv,e,vs,u,D,q,B⟩:=h;have N:fs.contains (vy - 2000)=true/\AJ (c.TH fs i) x Z vi vs:=by
   cases x
   case arr sz' x2=>exact⟨eN f,u.1,u.2.1,u.2.2.mono λ_ _=>ZR.mono hh⟩
   case W8 sz' xr mid post=>
    obtain⟨q1,q2,v1,v2,v3,q3,q4,q5,q6⟩:=u;simp only[Zw]at f;exact⟨eN f.1,q1,q2,v1,v2,v3,q3,q4.mono λ_ _=>ZR.mono hh,Z1.cut (R':=Zc<|c.TH fs i) (ok:=aW fs) (λ_ _ h f=>Zc.TH hh h f) q5 f.2,q6.mono λ_ _=>ZR.mono hh⟩
   all_goals exact u.elim
  obtain⟨A,H⟩:=N;refine⟨Z,vi,hv,e,vs,H,by simp_all[Ctx.TH],?_,B⟩;refine⟨q.1,q.2.imp id ?_⟩;rintro⟨g,vz,cur,e1,e2,e3,r⟩;refine⟨g,vz,cur,e1,e2,(C g<|.inr<|.inr ⟨_,_,_,tl.1 A,D,by rw[e1];rfl⟩).trans e3,r⟩
 rename_i t;rw[Zm t];obtain⟨M,J,G,hJ,O⟩:=h;have F:AM (c.TH fs i).loc J x:=by cases x<;>first|exact G|grind|cases f
 exact⟨M,J,F,hJ,hJ _ _ _ _ _ O hh hn K hB λb hb=>C b<|.inl hb⟩
def k8(E:Env)(rs:List ResultVar)(wr:St)(qp:X):bo:=λe U s=>Kb E rs qp e U s/\Le s wr
theorem TV{c:Ctx}{vj:List X}{o:List Deferred}(e:Z1 (YQ c) vj vs)(q:vj.all (λx=>!X4 x)=true)(i:R vj≤1000):
  ∀vy x,look (Uj 0 vj) vy=some x->Holds c {tmps:=vs.toArray++Array.replicate n undef,defers:=o} w vy x:=by
 intro vy x f;obtain⟨_,f⟩:=Ia f;rw[ek]at f;have t:vy<R vj:=(ae.1 f).1;have qk:=e.length;unfold Holds;rw[Zn I];obtain⟨v,p,h⟩:=e.WN f;have g:vy<R vs:=I
 have:(vs.toArray++Array.replicate n undef).getD vy undef=v:=by
  have j:vs[vy]=v:=by simp_all
  simp[eζ,g,j]
 grind [ap.WB]
theorem ZB.calm{c:Ctx}{i:World}(f:ZB E U c a w)(hh:∀vy x,look s vy=some x->Holds c a w vy x)(T:i.os=w.os)(S:i.tape=w.tape)(O:i.output=w.output)(q:i.heap.size=w.heap.size)
  (H:E.pins=[]) (G:∀k,(k<E.B\/c.all k\/∃o:Obj,w.heap[k]?=some o/\o.isCells=true)->i.heap[k]?=w.heap[k]?) (N:∀p,i.cell? p=w.cell? p):
  ZB E U c {a with defers:=[]} i/\∀vy x,look s vy=some x->Holds c {a with defers:=[]} i vy x:=by
 refine⟨⟨f.below.trans ⟨T,S,O,I,λk j _=>G k<|.inl j⟩,by rw[q];exact f.hB,f.nt,⟨.nil,λd X=>by cases X⟩,(λp hp=>by simp_all),λp v h=>by rw[N];exact f.hw p v h,f.hle,f.hnew,?_,?_,f.used,?_,f.UU,f.Uw⟩,?_⟩
 ·rw[q];exact f.loc
 ·rw[q];exact f.arr
 ·rw[q];exact f.Y
 intro vy x u;have h:=hh vy x u;unfold Holds at *;split at h
 ·simp_all
 rename_i j;rw[Zm j];refine XH h λh=>?_
 split at h
 ·grind [Ri,Ctx.all]
 rename_i h2;rw[Zm h2];split at h
 ·rename_i F;rw[Zn F];obtain⟨V,vi,W,e,vs,u,h1,M,Z⟩:=h;refine⟨V,vi,W,e,vs,u,h1,⟨M.1,M.2.imp id ?_⟩,Z⟩;rintro⟨g,vz,cur,f1,f2,f3,r⟩;exact⟨g,vz,cur,f1,f2,(G g<|.inr<|.inr ⟨_,f3,rfl⟩).trans f3,r⟩
 rename_i F;rw[Zm F];obtain⟨A,J,t,K,D⟩:=h;exact⟨A,J,t,K,K _ _ _ _ _ D (Mem.le_refl _) (λ_ _ e=>.inl e) (λp v h=>by rw[N];exact f.hw p v h) ⟨T,S,O,I,λk j=>I⟩ λb C=>G b<|.inr<|.inl<|.inl C⟩
def pO{c:Ctx}:Ext (ZL h)<|c.TH fs h:=⟨Mem.le_refl _,(λ_ _ e=>by cases e),(λ_ _ _ _ e=>by cases e)⟩
theorem ZB.TH{E:Env}{U:bc}{c:Ctx}{a:Act}{w':World}(u:ZB E U c a w'):Pp E.fs (c.TH E.fs<|E.fin c w') w'/\Mem.le E.h0 (E.fin c w')/\
  (∀p v,E.fin c w' p=some v->E.h0 p=some v\/E.B<=p.block\/E.X p.block):=by
 have t:∀p v,E.fin c w' p=some v->w'.cell? p=some v:=by
  intro p v h;unfold Env.fin at h;split at h
  ·exact u.hw p v h
  exact h
 have i:∀b o,c.out E.fs b->c.h ⟨b,o,none⟩=none->E.fin c w' ⟨b,o,none⟩=none:=by
  simp_all[Env.fin]
 have D:∀(p:Addr) v,E.fin c w' p=some v->p=⟨p.block,p.off,none⟩:=by
  intro p v h;have N:=t p v h;have G:p.spot=none:=by
   cases G:p.spot with
   |none=>rfl
   |some q=>grind [World.cell?]
  cases p;simp_all
 refine⟨⟨t,?_,?_,λk j=>?_,?_⟩,Mem.le_trans u.hle<|Env.Lv u,?_⟩
 ·intro k b j;obtain⟨g,f⟩:=VH j;obtain⟨_,M,J,I,N⟩:=u.loc k b f;exact⟨g,M,λo=>i b o (.inr<|.inl ⟨k,g,f⟩)<|J o,λF e=>I F (VH e).2,λF m A e=>N F m A (Wa e).2⟩
 ·intro k m A b j H;obtain⟨g,f⟩:=Wa j;obtain⟨_,M,J,I⟩:=u.arr k m A b f H;exact⟨g,M,λo=>i b o (.inr<|.inr ⟨k,m,A,g,f,H⟩)<|J o,λF O K e=>I F O K (Wa e).2⟩
 ·have e:E.fs.contains k=false:=by grind
  simp only[Ctx.TH,e];simp
 ·intro b S;obtain⟨T,_,J,I⟩:=u.Y b S;exact⟨T,λk j=>J k (VH j).2,λk m A j=>I k m A (Wa j).2⟩
 intro p v C;have G:=D p v C;have C:E.fin c w' p=some v:=C;unfold Env.fin at C;split at C
 ·exact u.hnew p v C
 omega
variable{wr:St}
theorem Rj.oY{c:Ctx}{qp:X}(j:ZB E U c a w')(Y:E.B=w.heap.size)(hh:∀vy x,look s vy=some x->Holds c a w' vy x)(xf:Le s wr)(o:wr.all (SN E.fs)=true)
  (O:YG (c.TH E.fs<|E.fin c w') qp v) (e:∀b,E.X b->E.c0.out E.fs b) (t:E.w0=w:=by rfl):Rj E.fs E.c0 w wr qp v (c.TH E.fs<|E.fin c w') w':=by
 obtain⟨C,G,F⟩:=j.TH;refine⟨?_,C,G,λp v f=>(F p v f).imp id λh=>h.imp (λh=>I)<|e _,?_,?_,?_,?_,O⟩
 ·rw[←Y,←t];exact j.below.mono (Zq _) λk _ h=>e k h
 ·intro b S T;exact e _<|j.eS (JU S) I
 ·intro k b A;obtain⟨i,g⟩:=VH A;exact j.UU k b i g
 ·intro k m N lv A;obtain⟨i,g⟩:=Wa A;obtain⟨m0,M,H,h1,h2,Z,_⟩:=j.Uw k m N lv i g;grind
 intro p f a';have V:look s p.1=some p.2:=by
  have:∀{r:St},Le s r->∀p∈r,look s p.1=some p.2:=by
   intro r
   induction r with
   |nil=>simp
   |cons q r J=>
    intro h p f;rcases sf.1 f with rfl|f
    ·exact h.1
    exact J h.2 p f
  grind
 refine Holds.TH (Env.Lv j) ?_ C.hw (WV.refl _ _ _) (λ_ _=>rfl) (hh _ _ V)<|bj.1 o p f;intro q u D;unfold Env.fin at D;split at D
 ·grind
 rename_i W;exact .inr λK=>W<|.inr<|.inl K
def Rj.El{c:Ctx}{qp:X}(i:ZB E U c a w')(j:E.B=w.heap.size)(hh:∀vy x,look s vy=some x->Holds c a w' vy x)(xf:Le s wr)(f:wr.all (SN E.fs)=true)
 (h:YG (ZL<|E.fin c w') qp v) (e:∀b,E.X b->E.c0.out E.fs b) (g:E.w0=w:=by rfl):Rj E.fs E.c0 w wr qp v (c.TH E.fs<|E.fin c w') w':=.oY i j hh xf f (h.mono pO) e g
theorem Vi.at{P:Program}{f nt:Nat}{fn:Func}{qf:Code}{rs:List ResultVar}{fs:bc}{vj:bi}{rd wr:St}{qp:X}(hf:P.funcs[f]?=some fn)(M:fn.body=some qf)(hn:fn.ntmps=nt)(hr:fn.results=rs.toArray)
  (Z:Nat.ble (R vj) nt=true) (ht:vj.all (λx=>!X4 x)=true) (W:Nat.ble (R vj) 1000=true) (T:wr.all (SN fs)=true)
  (w:World) (c0:Ctx) (h:OK (TG P nt fs w c0) qf (den (TG P nt fs w c0) (k8 (TG P nt fs w c0) rs wr qp) []) fs<|Uj 0 vj++rd) (vs:List Value) (j:Pp fs c0 w) (hrd':∀p∈rd,∀a,Holds c0 a w p.1 p.2) (u:Z1 (YQ c0) vj vs):
  Calls P f vs.toArray w λe A=>∃v c',e=.returned v/\Rj fs c0 w wr qp v c' A:=by
 refine(callsIn_wide (n:=0)).1<|callsIn_of_wp_marks hf M trivial ?_ rfl;have qk:=u.length;rw[ky]at Z W;refine wpIn_mono (h {tmps:=vs.toArray++Array.replicate (fn.ntmps - vs.toArray.size) undef,defers:=[]} w ?_) ?_
 ·refine⟨c0,⟨WV.refl _ _ _,Zq _,?_,⟨.nil,λd hd=>by cases hd⟩,(λp V=>by cases V),j.hw,Mem.le_refl _,λp v e=>.inl e,?_,?_,j.none,?_,λk b _ e=>e,λk m K lv _ e=>⟨m,K,lv,e,Zq _,λ_=>rfl,id,λ_ h=>.inl h⟩⟩,?_⟩
  ·simp_all
  ·intro k b C;obtain⟨q,i⟩:=j.loc k b C;exact⟨.inr ⟨q,.inl<|.inr<|.inl ⟨k,q,C⟩⟩,i⟩
  ·intro k m K b C J;obtain⟨q,i⟩:=j.arr k m K b C J;exact⟨.inr ⟨q,.inl<|.inr<|.inr ⟨k,m,K,q,C,J⟩⟩,i⟩
  ·intro b M;obtain⟨q,i⟩:=j.Y b M;exact⟨q,λ_=>.inl<|.inl M,i⟩
  intro vy x hx;rw[Wz]at hx;cases C:look (Uj 0 vj) vy with
  |some y=>
   grind [TV]
  |none=>
   simp_all[XO]
 rintro e G A ⟨U',s',⟨c,g,hh⟩,⟨he,ys,S,I⟩,xf⟩;have hE:(TG P nt fs w c0).B=w.heap.size:=rfl;have t:LeavesInM Fence.wide 0 P fn G.tmps (λe A=>∃v c',e=.returned v/\Rj fs c0 w wr qp v c' A) G.defers .returning A:=by
  refine VG (B:=w.heap.size) (aw:=c.all) G.defers A g.RR.1 ?_ ?_
  ·intro d hd;obtain⟨D,q,i,N,h4⟩:=g.RR.2 d hd;simp_all
  intro O e1 e2 e3 e4 e5 e6;obtain⟨g,hh⟩:=g.calm hh e1 e2 e3 e4 rfl e5 e6;obtain⟨o,q,i,N⟩:=Sl g hh S;have H:(results fn G.tmps).run P O=.ok (if h:o.toArray.size=1 then o.toArray[0]else .tuple o.toArray) O:=by
   have he:results fn G.tmps=(fn.results.mapM (NZ G.tmps)>>=λvs=>pure (if h:vs.size=1 then vs[0]else .tuple vs)):=by
    rfl
   simp_all
  refine⟨_,H,_,c.TH fs<|(TG P nt fs w c0).fin c O,rfl,?_⟩;exact Rj.El g hE hh xf T (by
   subst I;have Z:=i.length
   match ys,o,i,N,Z with
   |[y],[v],i,N,_=>exact ap.WB i.1<|N y F
   |[],[],i,_,_=>exact⟨[],rfl,Zo⟩
   |y1::y2::ys,v1::v2::vs,i,_,_=>exact⟨v1::v2::vs,F,i⟩
   |[_],[],i,_,_=>grind
   |[],_::_,i,_,_=>grind
   |[_],_::_::_,i,_,_=>grind
   |_::_::_,[],i,_,_=>grind
   |_::_::_,[_],i,_,_=>grind) (λb h=>h.elim id λ⟨p,V,_⟩=>by cases V)
 rcases he with rfl|rfl
 ·exact t
 exact t
variable{vj:bi}
def Vi.intro{P:Program}{nt:Nat}{fn:Func}{qf:Code}{rs:List ResultVar}{rd:St}{qp:X}(v:P.funcs[f]?=some fn)(A:fn.body=some qf)(t:fn.ntmps=nt)(q:fn.results=rs.toArray)
  (u:Nat.ble (R vj) nt=true) (p:vj.all (λx=>!X4 x)=true) (j:Nat.ble (R vj) 1000=true) (g:wr.all (SN fs)=true)
  (h:∀w c,OK (TG P nt fs w c) qf (den (TG P nt fs w c) (k8 (TG P nt fs w c) rs wr qp) []) fs<|Uj 0 vj++rd):Vi P f fs vj rd wr qp:=
 λc0 w vs o i e=>Vi.at v A t q u p j g w c0 (h w c0) vs o i e
def Ct.eM{P:Program}{vj:List X}{qp:X}(B:∀(hc0:Pp [] (ZL h) w),Calls P f vs.toArray w λe g=>∃v o,e=.returned v∧Rj [] (ZL h) w [] qp v o g)(hw:∀p v,h p=some v→w.cell? p=some v)(_hargs:Z1 (YQ<|ZL h) vj vs):
  Calls P f vs.toArray w λe g=>∃v q,e=.returned v/\Below w.heap.size w g/\Mem.le h q/\(∀p v,q p=some v->h p=some v\/w.heap.size<=p.block)/\(∀p v,q p=some v->g.cell? p=some v)/\YG (ZL q) qp v:=by
 refine(B ⟨hw,(λk b e=>by cases e),(λk m t b e=>by cases e),(λ_ _=>⟨rfl,rfl⟩),(λb e=>e.elim)⟩).mono ?_;rintro e g ⟨v,o,rfl,c⟩;have i:∀b,¬(ZL h).out [] b:=by
  rintro b (C|⟨k,_,e⟩|⟨k,m,t,_,e,_⟩)
  all_goals simp_all
 refine⟨v,o.h,rfl,(c.below.mono (Zq _) λk _ A=>(i k A).elim).below,c.le,λp v e=>(c.new p v e).imp id λh=>h.elim id λh=>(i _ h).elim,c.ok.hw,?_⟩;have j:Ext o<|ZL o.h:=⟨Mem.le_refl _,(λk b e=>by have u:=c.loc k b e;cases u),λk m t lv e=>by obtain⟨_,_,_,u,_⟩:=c.arr k m t lv e;cases u⟩;exact c.res.mono j
def Ct.of_G{P:Program}{qp:X}(i:Vi P f [] vj [] [] qp):Ct P f vj qp:=
 λh w vs hw c=>Ct.eM (vj:=vj) (λe=>i (ZL h) w vs e (λp g=>by cases g) c) hw c
def Ct.intro{P:Program}{f nt:Nat}{fn:Func}{qf:Code}{rs:List ResultVar}{vj:bi}{qp:X}(q:P.funcs[f]?=some fn)(t:fn.body=some qf)(o:fn.ntmps=nt)(i:fn.results=rs.toArray)
  (p:Nat.ble (R vj) nt=true) (g:vj.all (λx=>!X4 x)=true) (e:Nat.ble (R vj) 1000=true) (h:∀w c,OK (TG P nt [] w c) qf (den (TG P nt [] w c) (Kb (TG P nt [] w c) rs qp) []) []<|Uj 0 vj):Ct P f vj qp:=
 Ct.of_G (Vi.intro q t o i p g e rfl λw c=>by
  rw[i8];exact(h w c).mono λ_ _ _ j=>⟨j,Zo⟩)
def Jo (n : String) : Prop := n = "internal/strconv.uint64pow10" \/ n = "strconv.ErrRange" \/ n = "strconv.ErrSyntax" \/ n = "martensite/recipe.names"
def XC:List ba:=[[104,101,97,116],[100,119,101,108,108],[113,117,101,110,99,104],[117,110,116,105,108],[99,111,111,108],[114,101,112,101,97,116]]
structure OJ(P:Program)(w:World):Prop where
 pow : ∀ g, P.globalNamed "internal/strconv.uint64pow10" = some g -> ∃ T d, w.heap[g]? = some (.cells (Lib.pow10Tab.map λz => Value.int .u64 z).toArray T d)
 err : ∀ n, (n = "strconv.ErrRange" \/ n = "strconv.ErrSyntax") -> ∀ g, P.globalNamed n = some g -> ∃ ev, w.cell? ⟨g, 0, none⟩ = some ev /\ (ev = .nilIface \/ ∃ te pe, ev = .iface te pe)
 nam : ∀ g, P.globalNamed "martensite/recipe.names" = some g -> ∃ T d, w.heap[g]? = some (.cells (XC.map λl => Value.string ⟨l.toArray⟩).toArray T d)
 lt:∀n,Jo n->∀g,P.globalNamed n=some g->g<w.heap.size
def OJ.stays{P:Program}(h:OJ P w)(hs:w.heap.size<=w'.heap.size)(i:∀n,Jo n->∀g,P.globalNamed n=some g->w'.heap[g]?=w.heap[g]?):OJ P w':=
 ⟨λg c=>by obtain⟨T,d,e⟩:=h.pow g c;exact⟨T,d,(i _ (.inl rfl) g c).trans e⟩,
  λn f g c=>by
   obtain⟨j,p,o⟩:=h.err n f g c;refine⟨j,?_,o⟩;rw[←p];unfold World.cell?;rw[i n (.inr<|f.imp id .inl) g c],
  λg c=>by obtain⟨T,d,e⟩:=h.nam g c;exact⟨T,d,(i _ (.inr<|.inr<|.inr rfl) g c).trans e⟩,
  λn f g c=>rp (h.lt n f g c) hs⟩
structure TM(E:Env):Prop where
 tab:OJ E.P E.w0
 out:∀n,Jo n->∀g,E.P.globalNamed n=some g->¬E.X g
def TM.now{c:Ctx}(h:TM E)(i:ZB E U c a w):OJ E.P w:=h.tab.stays i.below.size λn e g f=>i.below.block g (h.tab.lt n e g f)<|h.out n e g f
def Q7(P:Program)(f:Nat)(vj:bi)(qp:X):Prop:=
 ∀(h:Mem)(w:World)(vs:List Value),OJ P w->(∀p v,h p=some v->w.cell? p=some v)->Z1 (YQ<|ZL h) vj vs->
  Calls P f vs.toArray w λe g=>∃v c,e=.returned v/\Below w.heap.size w g/\Mem.le h c/\(∀p v,c p=some v->h p=some v\/w.heap.size<=p.block)/\
   (∀p v,c p=some v->g.cell? p=some v)/\YG (ZL c) qp v
def gj(E:Env)(f:Nat)(vj:bi)(qp:X):Prop:=
 ∀(h:Mem)(w:World)(vs:List Value),(∃U c a,ZB E U c a w)->(∀p v,h p=some v->w.cell? p=some v)->Z1 (YQ<|ZL h) vj vs->
  Calls E.P f vs.toArray w λe i=>∃v g,e=.returned v/\Below w.heap.size w i/\Mem.le h g/\(∀p v,g p=some v->h p=some v\/w.heap.size<=p.block)/\
   (∀p v,g p=some v->i.cell? p=some v)/\YG (ZL g) qp v
def Ct.at{qp:X}(h:Ct E.P f vj qp):gj E f vj qp:=λm w vs _ hw c=>h m w vs hw c
def Q7.at{qp:X}(h:Q7 E.P f vj qp)(i:TM E):gj E f vj qp:=λm w vs e hw g=>by
 obtain⟨U,c,a,e⟩:=e;exact h m w vs (i.now e) hw g
def Q7.intro{P:Program}{f nt:Nat}{fn:Func}{qf:Code}{rs:List ResultVar}{vj:bi}{qp:X}(D:P.funcs[f]?=some fn)(F:fn.body=some qf)(B:fn.ntmps=nt)(v:fn.results=rs.toArray)
  (C:Nat.ble (R vj) nt=true) (u:vj.all (λx=>!X4 x)=true) (q:Nat.ble (R vj) 1000=true) (h:∀w c,TM (TG P nt [] w c)->OK (TG P nt [] w c) qf (den (TG P nt [] w c) (Kb (TG P nt [] w c) rs qp) []) [] (Uj 0 vj)):Q7 P f vj qp:=by
 intro m w vs j hw i;refine Ct.eM (vj:=vj) (λt=>Vi.at (rd:=[]) (wr:=[]) D F B v C u q rfl w (ZL m) ?_ vs t (λp o=>by cases o) i) hw i;rw[i8];refine(h w (ZL m) ⟨j,?_⟩).mono λ_ _ _ A=>⟨A,Zo⟩
 rintro n _ g _ (G|⟨p,o,_⟩)
 ·rcases G with H|⟨k,_,e⟩|⟨k,m,I,_,e,_⟩
  all_goals simp_all
 cases o
def Y3.r1{r:ResultVar}{y qp:X}(h:NG E s r y)(c:y=qp):Kb E [r] qp .ret U s:=⟨.inl rfl,[y],⟨h,Zo⟩,c⟩
def Y3.r2{E:Env}{U:bc}{s:St}{r1 r2:ResultVar}{e c qp:X}(h:NG E s r1 e)(g:NG E s r2 c)(f:.Yy [e,c]=qp):Kb E [r1,r2] qp .ret U s:=⟨.inl rfl,[e,c],⟨h,g,Zo⟩,f⟩
def Y3.r3{E:Env}{U:bc}{s:St}{r1 r2 r3:ResultVar}{f e c qp:X}(j:NG E s r1 f)(i:NG E s r2 e)(h:NG E s r3 c)(g:.Yy [f,e,c]=qp):Kb E [r1,r2,r3] qp .ret U s:=
 ⟨.inl rfl,[f,e,c],⟨j,i,h,Zo⟩,g⟩
def Z1.z{α β:Type}{R:α->β->Prop}:Z1 R [] []:=trivial
def Z1.k{α β:Type}{R:α->β->Prop}{a:α}{b:β}{c:List α}{bs:List β}(h:R a b)(e:Z1 R c bs):Z1 R (a::c)<|b::bs:=⟨h,e⟩
def RK(E:Env)(q0:Array Oper)(l:List Oper)(U:bc)(s:St)(Q:bo):Prop:=
 ∀(k:Nat),(∀j,q0[k+j]?=l[j]?)->∀a w,Good E U s a w->wpOpsIn E.ac 0 E.P q0 (λe f c=>∃U' s',Good E U' s' f c/\Q e U' s') (List.range' k<|R l) a w
variable{x y:Code}
theorem RK.nil(h:Q .normal U s):RK E q0 [] U s Q:=λ_ _ a w c=>by grind [wpOpsIn]
theorem RK.c{rd:St}(h:Zb E q0 o s rd wr al)(i:RK E q0 l (al++U) (wr++s) Q)(q:(al.all λk=>!U.contains k)=true:=by rfl):RK E q0 (o::l) U s Q:=by
 intro k f a w p;rw[tt,bχ,wpOpsIn_cons];refine WA (by simpa using f 0)<|h.1.good p h.2 q λt g e=>i (k+1) (λj=>?_) t g e;have:=f<|j+1;grind
theorem RK.split{b:Bool}(j:look s t=some (.bool b))(e:b=true->RK E q0 l U ((t,.bool true)::s) Q)(i:b=false->RK E q0 l U ((t,.bool false)::s) Q):RK E q0 l U s Q:=by
 intro k f a w g;cases b with
 |true=>exact e rfl k f a w (g.imp λc h=>⟨h.1,λvy x e=>h.2 vy x (by
  grind [look,Nat.eq_of_beq_eq_true])⟩)
 |false=>exact i rfl k f a w (g.imp λc h=>⟨h.1,λvy x e=>h.2 vy x (by
  grind [look,Nat.eq_of_beq_eq_true])⟩)
def RK.ZS{p:Prop}[Decidable p](f:look s t=some (.bool<|decide p))(e:p->RK E q0 l U ((t,.bool true)::s) Q)(c:¬p->RK E q0 l U ((t,.bool false)::s) Q):RK E q0 l U s Q:=
 RK.split f (λh=>e<|pf h) (λh=>c<|dg h)
def OK.R3{c:Nat}(h:RK E l.toArray l U s Q):OK E (.region c l.toArray false) Q U s:=by
 intro a w e;refine wpIn_region ?_;have:=h 0 F a w e;simp_all[List.range_eq_range']
def OK.condD{p:Prop}[Decidable p](f:Nat.blt t 1000=true)(g:look s t=some (.bool<|decide p))(e:p->OK E x Q U s)(c:¬p->OK E y Q U s):OK E (.cond (.tmp t) x y) Q U s:=
 OK.cond f g (λh=>e<|pf h) (λh=>c<|dg h)
def OK.condT{b:Bool}(e:Nat.blt t 1000=true)(f:look s t=some (.bool b))(g:b=true)(c:OK E x Q U s):OK E (.cond (.tmp t) x y) Q U s:=
 OK.cond e f (λ_=>c) (λh=>by rw[g]at h;cases h)
def OK.condF{b:Bool}(e:Nat.blt t 1000=true)(f:look s t=some (.bool b))(g:b=false)(c:OK E y Q U s):OK E (.cond (.tmp t) x y) Q U s:=
 OK.cond e f (λh=>by rw[g]at h;cases h) (λ_=>c)
def OK.XF{c:Code}(e:Nat.blt t 1000=true)(f:look s t=some (.sl vi))(h:R vi<=maxLen->OK E c Q U s):OK E c Q U s:=by
 intro a w g;obtain⟨cx,i,hh⟩:=g;obtain⟨_,vz,_,o,j,_⟩:=Qb<|(hh t _ f).slot e;exact h (di o j) a w ⟨cx,i,hh⟩
def OK.Gz{z:ba}{c:Code}(e:Nat.blt t 1000=true)(f:look s t=some (.str z))(h:R z<=maxLen->OK E c Q U s):OK E c Q U s:=by
 intro a w g;obtain⟨cx,i,hh⟩:=g;exact h (Uu<|(hh t _ f).slot e).2 a w ⟨cx,i,hh⟩
def OK.intB{k:IntKind}{n:Int}{c:Code}(e:Nat.blt t 1000=true)(f:look s t=some (.int k n))(h:k.wrap n=n->OK E c Q U s):OK E c Q U s:=by
 intro a w g;obtain⟨cx,i,hh⟩:=g;exact h (Xq<|(hh t _ f).slot e).2 a w ⟨cx,i,hh⟩
def i64_bd{n:Int}(h:IntKind.i64.wrap n=n): -9223372036854775808<=n/\n<=9223372036854775807:=by
 rw[IntKind.wrap_i64]at h;omega
variable{c c':Ctx}
def PA(f:ZB E U c a w)(i:∀b,b<w.heap.size->c'.all b->c.all b)(hd:∀(D:Nat)(o:Obj),w.heap[D]?=some o->o.isCells=false->w'.heap[D]?=some o):
  a.defers.Pairwise (· ≠ ·)/\∀d∈a.defers,∃D,d={target:=.collected D,args:=#[]}/\E.B<=D/\¬c'.all D/\w'.heap[D]?=some (.deferred<|some []):=
 ⟨f.RR.1,λd h=>by
  obtain⟨D,q,p,j,g⟩:=f.RR.2 d h;exact⟨D,q,p,λe=>j<|i D (sa.1 g).1 e,hd D _ g rfl⟩⟩
theorem PR(f:ZB E U c a w)(g:∀b,b<w.heap.size->c'.all b->c.all b)(hd:∀(D:Nat)(o:Obj),w.heap[D]?=some o->o.isCells=false->w'.heap[D]?=some o):
  ∀p∈E.pins,¬c'.all p.1/\p.2.isCells=false/\w'.heap[p.1]?=some p.2:=by
 intro p e;obtain⟨j,i,h⟩:=f.M6 p e;grind
theorem ZB.below_grow{g:Mem}(e:ZB E U c a w)(hB:Below w.heap.size w w')(xf:Mem.le c.h g)(xi:∀p v,g p=some v->c.h p=some v\/w.heap.size<=p.block)
  (j:∀p v,g p=some v->w'.cell? p=some v):ZB E U ⟨g,c.loc,c.arr,c.Y⟩ a w':=by
 have hs:=hB.size;have i:∀b o,b<w.heap.size->c.h ⟨b,o,none⟩=none->g ⟨b,o,none⟩=none:=by
  intro b o G J;cases hh:g ⟨b,o,none⟩<;>grind
 have f:∀(D:Nat)(o:Obj),w.heap[D]?=some o->o.isCells=false->w'.heap[D]?=some o:=λD o h _=>(hB.block D (sa.1 h).1).trans h
 refine⟨e.below.trans<|WV.of<|hB.mono e.hB,di e.hB hs,e.nt,PA e (λ_ _ h=>h) f,PR e (λ_ _ h=>h) f,j,Mem.le_trans e.hle xf,?_,?_,?_,e.used,?_,e.UU,e.Uw⟩
 ·intro p v F;rcases xi p v F with h|h
  ·exact e.hnew p v h
  exact .inr<|.inl<|di e.hB h
 ·intro k b q;obtain⟨A,u,I,H,K⟩:=e.loc k b q;grind
 ·intro k m C b q t;obtain⟨A,u,I,H⟩:=e.arr k m C b q t;grind
 intro b B;obtain⟨A,u⟩:=e.Y b B;grind
def GM{B:Nat}{c:Value}(h:w.ownsRow B e sz c n vs)(hB:Below w.heap.size w w'):w'.ownsRow B e sz c n vs:=by
 refine⟨h.1,h.2.imp id ?_⟩;rintro⟨g,vz,cur,h1,h2,h3,r⟩;exact⟨g,vz,cur,h1,h2,(hB.block g (sa.1 h3).1).trans h3,r⟩
def Holds.below(B:ZB E U c a w)(hB:Below w.heap.size w w')(f:Ext c c')(g:∀k m i,c.arr k=some (m,i,true)->c'.arr k=some (m,i,true)){vy:Nat}{x:X}
  (O:c'.Y=c.Y) (xi:∀p v,c'.h p=some v->c.h p=some v\/w.heap.size<=p.block) (u:∀p v,c'.h p=some v->w'.cell? p=some v) (N:¬vy<1000) (h:Holds c a w vy x):Holds c' a w' vy x:=by
 unfold Holds at *;rw[Zm N]at h⊢;refine XH h λh=>?_
 split at h
 ·rename_i H;rw[Zn H];obtain⟨b,o,j,G,F⟩:=h;exact⟨b,o,f.loc _ _ j,(hB.block b (B.loc _ _ j).2.1).trans G,F.mono f⟩
 rename_i H;rw[Zm H];split at h
 ·rename_i D;rw[Zn D];obtain⟨K,vi,i,e,vs,M,j,G,F⟩:=h;exact⟨K,vi,i,e,vs,M.mono f,g _ _ _ j,GM G hB,F⟩
 rename_i D;rw[Zm D];obtain⟨A,J,t,I,C⟩:=h;refine⟨A,J,t.mono f.loc,I,?_⟩;rw[O];exact I _ _ _ _ _ C f.h (λp v e=>(xi p v e).imp id λh q=>by have:=(B.Y _ q).1;omega) u (WV.of<|hB.mono<|Zr _) λb q=>hB.block b (B.Y _ q).1
def Ww(w:World)(o:Obj):Below w.heap.size w<|w.alloc o:=(Below.refl _ w).alloc (Zq _) o
inductive V5(s:St):List Operand->bi->St->Prop
 |nil:V5 s [] [] []
 |cons {o:Operand} {os:List Operand} {y:X} {ys:bi} {r r':St}:YO s o y r->V5 s os ys r'->V5 s (o::os) (y::ys) (r++r')
def V5.looks{s:St}{os:List Operand}{ys:bi}{r:St}(h:V5 s os ys r):Yw s r:=by
 induction h with
 |nil=>trivial
 |cons h _ c=>exact h.looks.app c
def V5.rep{s:St}{os:List Operand}{ys:bi}{r:St}(h:V5 s os ys r){c:Ctx}{a:Act}{w:World}(f:∀p∈r,Holds c a w p.1 p.2):Z1 (YG c) ys<|os.map a.eval:=by
 induction h with
 |nil=>trivial
 |cons h _ g=>exact⟨h.rep λp e=>f p<|sb _ e,g λp e=>f p<|ui _ e⟩
def V3(x:X):Bool:=vc [] x&&!X4 x
def Yj{c:Ctx}:∀{ys:bi}{vs:List Value},Z1 (YG c) ys vs->ys.all V3=true->Z1 (YQ<|ZL c.h) ys vs
 |[],[],_,_=>trivial
 |y::ys,v::vs,h,ho=>by
  simp only[so,Zw,V3,zd]at ho;exact⟨((T.xJ h.1 ho.1.2).cut ho.1.1).mono<|UX<|Mem.le_refl _,Yj h.2<|by simp_all⟩
 |[],_::_,h,_=>h.elim
 |_::_,[],h,_=>h.elim
def oK{f:Mem}:Ext (ZL f) ⟨f,c.loc,c.arr,c.Y⟩:=⟨Mem.le_refl _,(λ_ _ e=>by cases e),(λ_ _ _ _ e=>by cases e)⟩
variable{xo:Array TypeId}{os:List Operand}{ys:bi}
def Pj{v9:String}{I:Operand}{vt:bi}{qp:X}
  (N:Gd q0 s jn rg) (hd:ca E d=true) (W:Yw s r) (K:∀vj w,(callFunc f vj).run E.P w=.ok (.enter f vj) w) (hf:gj E f (ys++vt) qp)
  (q:∀c a w,(∀p∈r,Holds c a w p.1 p.2)->Z1 (YQ<|ZL c.h) ys (os.map a.eval)/\∃g:List Value,a.eval I=.func (.func f) #[] g.toArray/\Z1 (YQ<|ZL c.h) vt g):
  Zb E q0 ⟨some d,.call {callee:=.value I,args:=os.toArray,argTypes:=xo},ty,v9,v4,jn⟩ s (rg++r) [(d,qp)] []:=by
 simp only[Zw,rb]at hd;refine⟨?_,N.looks.app W⟩;intro U c a w D M _ next Q V
 have hw:=N.wanted (o:=⟨some d,.call {callee:=.value I,args:=os.toArray,argTypes:=xo},ty,v9,v4,jn⟩) λp t=>M p<|sb _ t;obtain⟨ha,g,hfo,hc⟩:=q c a w λp t=>M p<|ui _ t
 unfold T_;rw[Zn hw];refine⟨λ_ _=>trivial,?_⟩;rw[Oper.semAt_eq _ _ _ λcl he=>by cases he];have A:(execOp a.eval ⟨some d,.call {callee:=.value I,args:=os.toArray,argTypes:=xo},ty,v9,v4,jn⟩).run E.P w=.ok (.enter f (os.map a.eval++g).toArray) w:=by
  simp_all[execOp,resolve,Deferred.ofValue,invoke]
 rw[A];refine⟨Z,?_⟩;have j:=hf c.h w (os.map a.eval++g) ⟨U,c,a,D⟩ D.hw<|ha.append hc;have H:CallsIn E.ac (0 - 1) E.P f (os.map a.eval++g).toArray w _:=(callsIn_wide (n:=0)).2 j;refine H.mono ?_;rintro e S ⟨v,O,rfl,hB,xf,xi,u,B⟩;have J:d<a.tmps.size:=by rw[D.nt];exact hd.2
 have i:Ext c ⟨O,c.loc,c.arr,c.Y⟩:=⟨xf,λ_ _ e=>e,λ_ m T lv e=>⟨m,T,lv,e,Zq _,λ_=>rfl⟩⟩;refine V ⟨O,c.loc,c.arr,c.Y⟩ _ S ((D.below_grow hB xf xi u).put _ _) i ?_ ?_
 ·intro p t;simp only[pi]at t;subst t;unfold Holds;rw[Zn hd.1,XN J];exact B.mono oK
 intro vy y hk G;have C:d≠vy:=hk (d,qp) F;by_cases H:vy<1000
 ·refine Holds.put ?_ C v;unfold Holds at G⊢;rw[Zn H]at G⊢;exact G.mono i
 exact(Holds.below D hB i (λ_ _ _ e=>e) rfl xi u H G).put C v
variable{r1 r2 r3:St}{z:Operand}
section
variable{v9:String}{x y:Operand}
def S.call{f:Nat}{os:List Operand}{xo:Array TypeId}{ys:bi}{qp:X}(j:Ct E.P f ys qp)(c:∀vj w,(callFunc f vj).run E.P w=.ok (.enter f vj) w)(i:Gd q0 s jn rg)(hd:ca E d=true)
  (e:V5 s os ys r) (h:ys.all V3=true):Zb E q0 ⟨some d,.call {callee:=.value<|.func f,args:=os.toArray,argTypes:=xo},ty,v9,v4,jn⟩ s (rg++r) [(d,qp)] []:=
 Pj (vt:=[]) i hd e.looks c (by simpa using j.at) λ_ _ _ g=>⟨Yj (e.rep g) h,[],rfl,Zo⟩
def S.Xo{qp:X}(j:Q7 E.P f ys qp)(o:TM E)(c:∀vj w,(callFunc f vj).run E.P w=.ok (.enter f vj) w)(i:Gd q0 s jn rg)(hd:ca E d=true)
  (e:V5 s os ys r) (h:ys.all V3=true):Zb E q0 ⟨some d,.call {callee:=.value<|.func f,args:=os.toArray,argTypes:=xo},ty,v9,v4,jn⟩ s (rg++r) [(d,qp)] []:=
 Pj (vt:=[]) i hd e.looks c (by simpa using j.at o) λ_ _ _ g=>⟨Yj (e.rep g) h,[],rfl,Zo⟩
def S.Tm{vt:bi}{qp:X}(N:Ct E.P f (ys++vt) qp)(g:∀vj w,(callFunc f vj).run E.P w=.ok (.enter f vj) w)(M:Gd q0 s jn rg)(hd:ca E d=true)
  (C:YO s x (.fn f vt) r1) (F:V5 s os ys r) (J:ys.all V3=true) (A:vt.all (Np [])=true) (t:vt.all (λu=>!Yx u)=true):
  Zb E q0 ⟨some d,.call {callee:=.value x,args:=os.toArray,argTypes:=xo},ty,v9,v4,jn⟩ s (rg++(r1++r)) [(d,qp)] []:=
 Pj M hd (C.looks.app F.looks) g N.at λc a w D=>by
  refine⟨Yj (F.rep λp i=>D p<|ui _ i) J,?_⟩;obtain⟨B,o,j⟩:=C.rep (c:=c) (a:=a) (w:=w) λp i=>D p<|sb _ i
  refine⟨B,o,?_⟩;have:∀{e:bi}{vs:List Value},Z1 (Xw c) e vs->e.all (Np [])=true->e.all (λu=>!Yx u)=true->Z1 (YQ<|ZL c.h) e vs:=by
   intro e
   induction e with
   |nil=>intro vs h _ _;exact(Z1.YN h)▸trivial
   |cons u e H=>
    intro vs h o j;obtain⟨v,G,rfl,I,q⟩:=h.YU;simp only[so,Zw,zd]at o j;refine⟨?_,H q o.2<|by simpa using j.2⟩;have i:=(I.cut o.1).mono<|UX<|Mem.le_refl c.h;have K:=j.1;cases u<;>first|exact i|cases K
  exact this j A t
end
def Ad(c:TypeDesc):Prop:=(∃e,c=.slice e)\/c=.string
section
variable{P:Program}(w:World)
theorem IW(base t u ty e e0:Nat)(du:TypeDesc)(i:TypeInfo)(z:Value)(size bytes:Nat)(ht:P.underlying t=some (.slice e))(hu:P.underlying u=some du)(M:Ad du)
  (hi:P.info? e=some i) (hz:i.zero=some z) (S:i.size=size) (hby:i.bytes=bytes) (hzs:z.cells.size=size)
  (v:Value) (n:Nat) (xs:List Value) (B:w.ownsRow base e0 size v n xs) (x:Value) (m:Nat) (f:List Value) (qk:∀w,(Builtin.lenOf x).run P w=.ok m w) (hl:R f=m * size)
  (hf:∀O:World,(∀p,O.cell? p=w.cell? p)->(Builtin.firstCells size m x).run P O=.ok f.toArray O) (h1:∀q∈f,q.oneCell'=true)
  (h63:n+m<=maxLen) (N:(n+m) * bytes<=140737488355328) (V:base<=w.heap.size):
  ∃W O e1,(Builtin.append_ #[t,u] ty #[v,x]).run P w=.ok W O/\O.ownsRow base e1 size W (n+m) (xs++f)/\w.grownBy O v.ownBlock/\(W.ownBlock=v.ownBlock\/(W.ownBlock=some w.heap.size/\w.heap.size<O.heap.size))/\(m=0->W=v)/\∃a l c,W=.slice a l c:=by
 subst S;subst hby;have hsmall:n+m<=9223372036854775807:=by simp_all[maxLen]
 have C:R (xs++f)=(n+m) * i.size:=by rw[Zs,B.1,hl,aρ]
 have J:∀(old:Nat),(w.drew.alloc<|.cells (xs.toArray++f.toArray++Builtin.zeroCells z.cells (grownCap w (n+m) old e - (n+m))) e).ownsRow base e i.size
   (.slice (some ⟨w.heap.size,0,none⟩) (n+m)<|grownCap w (n+m) old e) (n+m) (xs++f):=by
  intro old;have hge:=grownCap_ge w (n+m) old e;have T:grownCap w (n+m) old e<=maxLen:=grownCap_le_maxLen w (n+m) old e h63;refine⟨C,.inr ⟨w.heap.size,_,_,rfl,V,heap_alloc_new w.drew _,hge,T,?_,?_⟩⟩
  ·simp only[Array.size_append,dν,size_zeroCells,hzs,B.1,hl,←aρ];simp_all
  grind
 have Z:∀(o:Obj)(u0:Option Nat),w.grownBy (w.drew.alloc o) u0:=λo u0=>⟨rfl,rfl,rfl,F,λk hk _=>Below.heap_alloc w.drew o k hk⟩
 rcases B.2 with⟨rfl,rfl⟩|⟨g,vz,K,rfl,hbg,hg,hnc,T,hcs,nE⟩
 ·have hx:xs=[]:=tz (by simp_all);subst hx;by_cases hm:m=0
  ·subst hm;have hn:f=[]:=tz I;subst hn;refine⟨.slice none 0 0,w,e,?_,cκ w base e i.size,⟨rfl,rfl,rfl,Zq _,λ_ _ _=>rfl⟩,.inl rfl,λ_=>rfl,none,0,0,rfl⟩;have:=hf w λ_=>rfl
   rcases M with⟨e',rfl⟩|rfl<;>simp[Builtin.append_,run_underlying ht,run_underlying hu,sizeOf,typeInfo,hi,qk,this]
  have G:¬(9223372036854775807<(m:Int)):=I
  have H:¬(281474976710656<Builtin.nextslicecap m 0 * i.bytes):=by rw[nextslicecap_zero I];grind
  have Y:=J 0;simp only[wc,bε,Array.empty_append]at Y⊢;refine⟨.slice (some ⟨w.heap.size,0,none⟩) m<|grownCap w m 0 e,w.drew.alloc<|.cells (f.toArray++Builtin.zeroCells z.cells (grownCap w m 0 e - m)) e,e,?_,Y,Z _ _,.inr ⟨rfl,F⟩,λh=>absurd h hm,_,_,_,rfl⟩;have D:=hf w.drew λ_=>rfl
  rcases M with⟨e',rfl⟩|rfl<;>simp[Builtin.append_,run_underlying ht,run_underlying hu,sizeOf,typeInfo,zeroValue,hi,hz,qk,hm,G,H,Question.forced,run_firstCells_none,D,newRow,grownCap]
 by_cases A:n+m<=vz
 ·have hfit:n * i.size+R f<=K.size:=by rw[hl,hcs,←aρ];exact m8 _ A
  have D:=hf w λ_=>rfl
  have X:=run_storeCells_at P g (n * i.size) e0 f 0 K w hg I h1;simp only[bγ]at X;refine⟨.slice (some ⟨g,0,none⟩) (n+m) vz,w.setRow g (K.toList.take (n * i.size)++f++K.toList.drop (n * i.size+R f)).toArray,e0,?_,
   ⟨C,.inr ⟨g,vz,_,rfl,hbg,setRow_heap w g K _ e0 _ hg,A,T,?_,?_⟩⟩,⟨rfl,rfl,rfl,F,λk _ hk=>setRow_other w g k _ λe=>hk<|by simp[Value.ownBlock,e]⟩,.inl rfl,(λh=>by subst h;rfl),_,_,_,rfl⟩
  ·rcases M with⟨e',rfl⟩|rfl<;>simp[Builtin.append_,run_underlying ht,run_underlying hu,sizeOf,typeInfo,hi,qk,A,D,Addr.add_lit,X]
  all_goals grind
 have holds:∀j u,xs[j]?=some u->w.cell? ((⟨g,0,none⟩:Addr).add j)=some u:=B.cells (g:=g) rfl;have hn:¬(n+m<=vz):=A;have G:¬(9223372036854775807<((n:Int)+(m:Int))):=I
 have h48:=growslice_fits (need:=n+m) (old:=vz) (bytes:=i.bytes) I N;have H:¬(281474976710656<Builtin.nextslicecap (n+m) vz * i.bytes):=I
 have D:=hf w.drew λ_=>rfl
 have hfo:=run_firstCells_some (P:=P) w.drew i.size n ⟨g,0,none⟩ n vz xs B.1 (by simp_all);refine⟨_,_,e,?_,J vz,Z _ _,.inr ⟨rfl,F⟩,(λh=>I),_,_,_,rfl⟩;rcases M with⟨e',rfl⟩|rfl<;>(simp[Builtin.append_,run_underlying ht,run_underlying hu,sizeOf,typeInfo,zeroValue,hi,hz,qk,hn,G,H,Question.forced,D,hfo,newRow,grownCap];grind)
end
def Yv:X->bi
 |.agg xs=>xs
 |x=>[x]
def FQ:X->Bool
 |.any|.Yy _|.agg _|.box _|.arr _ _|.Wt _ _ _|.cb _|.res _|.qz _ _|.omap _|.W8 _ _ _ _|.GL _ _ _ _ _=>false
 |.raw v=>v.oneCell'
 |_=>true
def Qj:X->Bool
 |.agg xs=>xs.all FQ
 |x=>FQ x
theorem Iv{u:X}(h:Zc c u v)(e:FQ u=true):v.oneCell'=true:=by
 cases u with
 |int _ _=>cases h;rfl
 |bool _=>cases h;rfl
 |str _=>cases h;rfl
 |sl _=>cases h<;>rfl
 |Yt _=>cases h;rfl
 |fn f vt=>obtain⟨vs,rfl,_⟩:=h;rfl
 |ptr k qc=>obtain⟨b,_,rfl⟩:=h;rfl
 |QS k=>obtain⟨b,_,rfl⟩:=h;rfl
 |slc vi=>obtain⟨_,a,rfl⟩:=h;rfl
 |own k n=>obtain⟨⟨a,l,g,rfl⟩,_⟩:=h;rfl
 |raw u=>have:v=u:=h;subst this;exact e
 |ZM=>have:v=.slice none 0 0:=h;subst this;rfl
 |_=>cases e
theorem Ux{u:X}(h:YG c u v)(f:Qj u=true):Z1 (Zc c) (Yv u) v.cells.toList/\∀z∈v.cells.toList,z.oneCell'=true:=by
 have one:∀{c:Ctx}{xs:bi}{vs:List Value},Z1 (Zc c) xs vs->xs.all FQ=true->∀z∈vs,z.oneCell'=true:=by
  intro c xs
  induction xs with
  |nil=>intro vs h _ z e;rw[Z1.YN h]at e;cases e
  |cons x xs p=>
   intro vs h g z e;obtain⟨v,j,rfl,q,i⟩:=h.YU;simp only[so,Zw]at g;rcases sf.1 e with rfl|e
   all_goals grind [Iv]
 cases u
 case agg xs=>obtain⟨vs,rfl,i⟩:=h;exact⟨by grind [Value.cells,Yv],by simpa[Value.cells]using one i f⟩
 case Yy xs=>cases f
 all_goals
  simp only[YG,YQ]at h;have g:=Iv h f;have o:v.cells= #[v]:=by cases v<;>first|rfl|cases g
  rw[o];exact⟨⟨h,Zo⟩,λz e=>by simp_all⟩
def Ctx.box(c:Ctx)(k b:Nat):Ctx:=⟨c.h,λj=>if j=k then some b else c.loc j,c.arr,c.Y⟩
variable{k:Nat}
theorem ZB.boxO(g:ZB E U c a w)(Z:k∉E.fs)(hk:k∉U)(B:Obj):
  ZB E ([k]++U) (c.box k w.heap.size) a (w.alloc B)/\Ext c (c.box k w.heap.size)/\(c.box k w.heap.size).loc k=some w.heap.size/\(w.alloc B).heap[w.heap.size]?=some B/\
   ∀vy y,¬vy<1000->Holds c a w vy y->Holds (c.box k w.heap.size) a (w.alloc B) vy y:=by
 have hn:=(g.used k hk).1;have hB:=Ww w B;have q:=g.below_grow hB (Mem.le_refl _) (λp v e=>.inl e) λp v e=>by
  have M:=g.hw p v e;have K:p.block<w.heap.size:=block_lt_of_cell M;rw[hB.cell K];exact M
 have G:∀j b,c.loc j=some b->(c.box k w.heap.size).loc j=some b:=by
  grind [Ctx.box]
 have t:Ext c<|c.box k w.heap.size:=⟨Mem.le_refl _,G,λ_ m O lv e=>⟨m,O,lv,e,Zq _,λ_=>rfl⟩⟩;have xi:∀j b,(c.box k w.heap.size).loc j=some b->(j=k/\b=w.heap.size)\/(j≠k/\c.loc j=some b):=by
  grind [Ctx.box]
 have A:∀o,c.h ⟨w.heap.size,o,none⟩=none:=λo=>by
  cases hh:c.h ⟨w.heap.size,o,none⟩with
  |none=>rfl
  |some v=>have:=block_lt_of_cell<|g.hw _ _ hh;simp at this
 have u:∀b,b<w.heap.size->(c.box k w.heap.size).all b->c.all b:=by
  intro b X h;rcases h with h|⟨j,h⟩|h
  ·exact .inl h
  ·rcases xi j b h with⟨_,rfl⟩|⟨_,h⟩
   ·omega
   exact .inr<|.inl ⟨j,h⟩
  exact .inr<|.inr h
 have H:∀(D:Nat)(o:Obj),w.heap[D]?=some o->o.isCells=false->(w.alloc B).heap[D]?=some o:=λD o h _=>(hB.block D (sa.1 h).1).trans h
 have S:∀j,j∈E.fs->(c.box k w.heap.size).loc j=c.loc j:=λj i=>by simp only[Ctx.box];grind
 refine⟨⟨q.below,q.hB,q.nt,PA g u H,PR g u H,q.hw,q.hle,q.hnew,?_,?_,?_,?_,λj b i e=>g.UU j b i<|S j i▸e,g.Uw⟩,t,by simp[Ctx.box],heap_alloc_new w _,λvy y I N=>Holds.below g hB t (λ_ _ _ e=>e) rfl (λ_ _ e=>.inl e) q.hw I N⟩
 ·intro j b i;rcases xi j b i with⟨rfl,rfl⟩|⟨W,J⟩
  ·refine⟨.inl g.hB,F,A,λC f=>?_,λC m O f he=>?_⟩
   ·rcases xi C _ f with⟨rfl,_⟩|⟨_,f⟩
    ·rfl
    have:=(g.loc C _ f).2.1;omega
   have:=(g.arr C m O _ f he).2.1;omega
  obtain⟨M,K,V,T,h5⟩:=q.loc j b J;refine⟨M,K,V,λC f=>?_,h5⟩;rcases xi C _ f with⟨rfl,rfl⟩|⟨_,f⟩
  ·have:=(g.loc j _ J).2.1;omega
  simp_all
 ·exact q.arr
 ·intro j i;simp only[List.mem_append,pi,eη]at i;refine⟨?_,(g.used j i.2).2⟩;simp only[Ctx.box];rw[Zm i.1];exact(g.used j i.2).1
 intro b N;obtain⟨M,K,V,T⟩:=g.Y b N;refine⟨by simp;omega,K,λj i=>?_,T⟩;grind
def ZB.box{E:Env}{U:bc}{c:Ctx}{a:Act}{w:World}(g:ZB E U c a w){k:Nat}(e:k∉E.fs)(f:k∉U)(vs:Array Value)(T:TypeId):
 ZB E ([k]++U) (c.box k w.heap.size) a (w.alloc<|.cells vs T)/\Ext c (c.box k w.heap.size)/\(c.box k w.heap.size).loc k=some w.heap.size/\(w.alloc<|.cells vs T).heap[w.heap.size]?=some (.cells vs T (0,0))/\
  ∀vy y,¬vy<1000->Holds c a w vy y->Holds (c.box k w.heap.size) a (w.alloc<|.cells vs T) vy y:=g.boxO e f _
structure Qi(P:Program)(T:TypeId)(zx:bi):Prop where
 ex:∃z:Value,(∀w,(zeroValue T).run P w=.ok z w)/\z.cells.toList.map tL=zx/\z.cells.toList.all KM=true
theorem Holds.MX{T:TypeId}{vs:Array Value}(h:k<1000)(g:c.loc k=some b)(f:w.heap[b]?=some (.cells vs T (0,0)))(e:Z1 (Zc c) us vs.toList):
  ¬(1000+k<1000)/\Holds c a w (1000+k) (.box us):=by
 refine⟨I,?_⟩;unfold Holds;rw[Zm I,Zn I,H3];exact .inr ⟨b,_,g,f,T,vs,rfl,e⟩
section
variable{v9:String}{x y:Operand}
theorem S.alloc{T k:Nat}{zx:List X}(i:Qi E.P T zx)(j:Nat.blt k 1000=true)(o:Gd q0 s jn rg)(hd:(Nat.blt d 1000&&Nat.blt d E.nt)=true)(f:E.fs.contains k=false:=by rfl):
  Zb E q0 ⟨some d,.alloc T,ty,v9,v4,jn⟩ s (rg++[]) ((d,.ptr k 0)::[(1000+k,.box zx)]) [k]:=
 Zb.mk o hd rfl trivial λU c a w p _ g=>by
  rw[rb]at j;obtain⟨h,q,v,u⟩:=i.ex;have e:k∉U:=g k F;obtain⟨g1,g2,t,B,A⟩:=p.box (KT f) e h.cells T;refine⟨.pointer<|some ⟨w.heap.size,0,none⟩,_,w.alloc<|.cells h.cells T,?_,g1,g2,⟨w.heap.size,t,rfl⟩,?_,?_⟩
  ·simp[execOp,Instr.alloc,q,newVar,newRow]
  all_goals grind [Holds.MX,MR]
def S.box{T k:Nat}{u:X}(v:Nat.blt k 1000=true)(A:Gd q0 s jn rg)(hd:(Nat.blt d 1000&&Nat.blt d E.nt)=true)(h:YO s x u r)(q:Qj u=true)(f:E.fs.contains k=false:=by rfl):
  Zb E q0 ⟨some d,.box T x,ty,v9,v4,jn⟩ s (rg++r) ((d,.ptr k 0)::[(1000+k,.box<|Yv u)]) [k]:=
 Zb.mk A hd rfl h.looks λU c a w B t g=>by
  rw[rb]at v;have e:k∉U:=g k F;have o:=(Ux (h.rep (c:=c) (a:=a) (w:=w) t) q).1;obtain⟨g1,g2,j,C,D⟩:=B.box (KT f) e (a.eval x).cells T;refine⟨.pointer<|some ⟨w.heap.size,0,none⟩,_,w.alloc<|.cells (a.eval x).cells T,?_,g1,g2,⟨w.heap.size,j,rfl⟩,?_,?_⟩
  ·rfl
  ·intro p i;simp only[pi]at i;subst i;exact Holds.MX I j C<|o.mono λ_ _=>Zc.mono g2
  simp_all
theorem Zb.rP(u:Gd q0 s jn rg)(e:MM op=false)(C:Yw s r)
  (h:∀(U:bc)(c:Ctx)(a:Act)(w:World),ZB E U c a w->(∀p∈r,Holds c a w p.1 p.2)->∃f,(execOp a.eval ⟨none,op,ty,v9,v4,jn⟩).run E.P w=.ok .skip f/\ZB E U c a f/\
   (∀p∈wr,¬p.1<1000/\Holds c a f p.1 p.2)/\(∀vy y,¬vy<1000->(∀p∈wr,p.1≠vy)->Holds c a w vy y->Holds c a f vy y)):Zb E q0 ⟨none,op,ty,v9,v4,jn⟩ s (rg++r) wr []:=by
 refine⟨?_,u.looks.app C⟩;intro U c a w F t G next Q B
 obtain⟨f,g,q,j,D⟩:=h U c a w F λp i=>t p<|ui _ i;have hw:=u.wanted (o:=⟨none,op,ty,v9,v4,jn⟩) λp i=>t p<|sb _ i;unfold T_;rw[Zn hw];refine⟨λ_ _=>trivial,?_⟩;rw[Oper.semAt_eq _ _ _ (λcl v=>by simp only at v;rw[v]at e;cases e),g];refine B c a f q (Ext.refl c) (λp i=>(j p i).2) λvy y H A=>?_
 by_cases I:vy<1000
 ·unfold Holds at A⊢;simp_all
 grind
def S.store{T n k qc:Nat}{ag:Bool}{u:X}{us V:bi}(ht:W5 E.P T ag n)(hg:Gd q0 s jn rg)(N:YO s x (.ptr k qc) r1)(M:YO s y u r2)(hk:Nat.blt k 1000=true)(hb:look s (1000+k)=some (.box us))
  (hu:Qj u=true) (hn:R (Yv u)=n) (hfit:Nat.ble (qc+n) (R us)=true) (hus:us.take qc++(Yv u++us.drop (qc+n))=V):
  Zb E q0 ⟨none,.store T x y,ty,v9,v4,jn⟩ s (rg++(r1++(r2++[(1000+k,.box us)]))) [(1000+k,.box V)] []:=
 Zb.rP hg rfl (N.looks.app<|M.looks.app ⟨hb,Zo⟩) λU c a w f hr=>by
  rw[rb]at hk;rw[ky]at hfit;subst hus;obtain⟨b,h1,hv⟩:=RY (N.rep (c:=c) (a:=a) (w:=w) λp C=>hr p<|by simp[C]);obtain⟨b',T',vs,h2,h3,h4⟩:=VT (hr (1000+k,.box us) F) hk;rw[h1]at h2;cases h2;obtain⟨hc,ho⟩:=Ux (M.rep (c:=c) (a:=a) (w:=w) λp C=>hr p<|by simp[C]) hu;have hl:=h4.length;have hcl:=hc.length;have hvl:R vs.toList=vs.size:=F
  have hcs:(a.eval y).cells.size=n:=by rw[←hn,hcl];simp
  have Z:=run_storeCells_at E.P b qc T' (a.eval y).cells.toList 0 vs w h3 (by simp;omega) ho;simp only[bγ]at Z;obtain⟨q1,q2,q3,q4,q5⟩:=f.loc k b h1;have W:∀p v,c.h p=some v->(w.setRow b (vs.toList.take qc++(a.eval y).cells.toList++vs.toList.drop (qc+R (a.eval y).cells.toList)).toArray).cell? p=some v:=by
   intro p v C;have H:p.block≠b:=λe=>by
    have h5:=f.hw p v C;have G:p.spot=none:=by
     cases G:p.spot with
     |none=>rfl
     |some q=>simp only[World.cell?,G]at h5;split at h5<;>simp at h5
    have h6:=q3 p.off;have:p=⟨b,p.off,none⟩:=by cases p;simp at e G;subst e G;rfl
    rw[←this,C]at h6;cases h6
   rw[cell_setRow_other w b _ p H];exact f.hw p v C
  have A:∀(D:Nat)(o:Obj),w.heap[D]?=some o->o.isCells=false->(w.setRow b (vs.toList.take qc++(a.eval y).cells.toList++vs.toList.drop (qc+R (a.eval y).cells.toList)).toArray).heap[D]?=some o:=λD o hD ho=>by
   rw[setRow_other w b D _ λe=>by rw[e,h3]at hD;cases hD;cases ho];exact hD
  refine⟨w.setRow b (vs.toList.take qc++(a.eval y).cells.toList++vs.toList.drop (qc+R (a.eval y).cells.toList)).toArray,?_,⟨?_,by simpa using f.hB,f.nt,PA f (λ_ _ h=>h) A,PR f (λ_ _ h=>h) A,W,f.hle,f.hnew,?_,?_,f.used,λB M=>by simpa using f.Y B M,f.UU,f.Uw⟩,?_,?_⟩
  ·simp[execOp,hv,Instr.storeAt,Instr.sureAddr,storeVar,ht.size,hcs,Z]
  ·exact f.below.trans ⟨rfl,rfl,rfl,F,λj O N=>setRow_other w b j _<|Env.QT q1 O N⟩
  ·intro j B O;obtain⟨p1,p2,p3⟩:=f.loc j B O;exact⟨p1,by simpa using p2,p3⟩
  ·intro j m hv B O hb2;obtain⟨p1,p2,p3⟩:=f.arr j m hv B O hb2;exact⟨p1,by simpa using p2,p3⟩
  ·intro p C;simp only[pi]at C;subst C;refine Holds.MX hk h1 (setRow_heap w b vs _ T' _ h3) ?_;have hnn:R (a.eval y).cells.toList=n:=by rw[←hcl,hn]
   rw[hnn];simp only[m7];exact(h4.take qc).append<|hc.append<|h4.drop<|qc+n
  intro vy u2 hkey H i;have hne2:vy≠1000+k:=λe=>H _ (pi.2 rfl) e.symm
  unfold Holds at i⊢;rw[Zm hkey]at i⊢;refine XH i λi=>?_
  split at i
  ·rename_i K;rw[Zn K];obtain⟨B,o2,e1,e2,e3⟩:=i;refine⟨B,o2,e1,?_,e3⟩;have:B≠b:=λe=>by subst e;have:=q4 _ e1;omega
   rw[setRow_other w b B _ this];exact e2
  rename_i K;rw[Zm K];split at i
  ·rename_i t;rw[Zn t];obtain⟨sz,vi,hv2,e,vs2,N,e1,e2,e3⟩:=i;refine⟨sz,vi,hv2,e,vs2,N,e1,⟨e2.1,e2.2.imp id ?_⟩,e3⟩;rintro⟨g,vz,cur,f1,f2,f3,f4⟩;refine⟨g,vz,cur,f1,f2,?_,f4⟩;have:g≠b:=λe=>q5 _ _ _ e1 (by rw[f1,←e];rfl)
   rw[setRow_other w b g _ this];exact f3
  rename_i t;rw[Zm t];obtain⟨hk0,J,hx0,hJ,hJ2⟩:=i;refine⟨hk0,J,hx0,hJ,hJ _ _ _ _ _ hJ2 (Mem.le_refl _) (λ_ _ e=>.inl e) W ⟨rfl,rfl,rfl,F,λj O=>I⟩ λB M=>setRow_other w b B _ λe=>?_⟩;subst e;exact(f.Y _ M).2.2.1 k h1
end
def xz(qc:Nat):bi->bi->bi
 |[],cs=>cs
 |x::xs,cs=>xz (qc+1) xs<|cs.set qc x
def Oj(pl:Nat->Option (Nat×Nat))(cs:bi):List (Nat×X)->Option bi
 |[]=>some cs
 |(i,x)::vk=>match pl i with
  |none=>none
  |some (qc,size)=>if Nat.beq (R<|Yv x) size&&Nat.ble (qc+size) (R cs) then Oj pl (xz qc (Yv x) cs) vk else none
def Ge{R:X->Value->Prop}:∀(qc j0:Nat){xs:bi}{vs:List Value}{cs:bi}{vv:Array Value},Z1 R xs vs->Z1 R cs vv.toList->
  Z1 R (xz (qc+j0) xs cs) ((vs.zipIdx j0).foldl (λcs (p:Value×Nat)=>cs.setIfInBounds (qc+p.2) p.1) vv).toList
 |_,_,[],[],_,_,_,h=>h
 |qc,j0,x::xs,v::vs,cs,vv,h,hc=>by
  simp only[xz,List.zipIdx_cons,aτ];have:=Ge qc (j0+1) (cs:=cs.set (qc+j0) x) (vv:=vv.setIfInBounds (qc+j0) v) h.2 (by simpa using Z1.set h.1 (qc+j0) hc);omega
 |_,_,[],_::_,_,_,h,_=>h.elim
 |_,_,_::_,[],_,_,h,_=>h.elim
theorem Rt{c:Ctx}(pl:Nat->Option (Nat×Nat)):∀(ps:List<|Nat×X)(vs:List<|Nat×Value)(cs:bi)(vv:Array Value)(qm:bi),Z1 (Zc c) cs vv.toList->
  Z1 (λp q=>p.1=q.1/\Z1 (Zc c) (Yv p.2) q.2.cells.toList) ps vs->Oj pl cs ps=some qm->∃e,Instr.fill pl vv vs=some e/\Z1 (Zc c) qm e.toList
 |[],[],cs,vv,qm,h,_,hf=>by simp only[Oj,bθ]at hf;subst hf;exact⟨vv,rfl,h⟩
 |(i,x)::ps,(j,v)::vs,cs,vv,qm,h,hp,hf=>by
  obtain⟨⟨u,t⟩,C⟩:=hp;simp only at u;subst u;simp only[Oj]at hf;simp only[Instr.fill];cases g:pl i with
  |none=>simp_all
  |some os=>
   obtain⟨qc,size⟩:=os;simp only[g]at hf⊢;have A:=t.length;have B:=h.length;simp only[Array.length_toList]at A B;split at hf
   ·rename_i o;simp only[Zw,ky]at o;have hs:=Nat.eq_of_beq_eq_true o.1;rw[Zm<|by simp;omega];have f:=Ge qc 0 t h;rw[bγ]at f;refine Rt pl ps vs _ _ qm ?_ C hf;grind [Array.toList_zipIdx]
   cases hf
 |[],_::_,_,_,_,_,h,_=>h.elim
 |_::_,[],_,_,_,_,h,_=>h.elim
structure Q8(P:Program)(T:TypeId)(zs:List Value)(pl:Nat->Option (Nat×Nat)):Prop where
 ex:∀parts,P.built T parts=Instr.fill pl zs.toArray parts
def Pa{c:Ctx}{f:Operand→Value}:∀{ps:List<|Nat×Operand}{us:List X},Z1 (YG c) us ((ps.map (·.2)).map f)→us.all Qj=true→
  Z1 (λp q=>p.1=q.1/\Z1 (Zc c) (Yv p.2) q.2.cells.toList) ((ps.map (·.1)).zip us) (ps.map λ(i,x)=>(i,f x))
 |[],[],_,_=>trivial
 |(i,x)::ps,u::us,h,ho=>by
  simp only[so,Zw]at ho;exact⟨⟨rfl,(Ux h.1 ho.1).1⟩,Pa h.2 ho.2⟩
 |[],_::_,h,_=>h.elim
 |_::_,[],h,_=>h.elim
section
variable{E:Env}{q0:Array Oper}{s r r1 r2 r3 rg:St}{d ty:Nat}{v9:String}{v4:Array Edge}{jn:Option (Nat×Bool)}{x y z:Operand}
def S.build{T:Nat}{zs:List Value}{pl:Nat->Option (Nat×Nat)}{ps:List<|Nat×Operand}{us qm:bi}(hB:Q8 E.P T zs pl)(f:zs.all KM=true)(j:Gd q0 s jn rg)(hd:ca E d=true)
  (e:V5 s (ps.map (·.2)) us r) (g:us.all Qj=true) (o:Oj pl (zs.map tL) ((ps.map (·.1)).zip us)=some qm):
  Zb E q0 ⟨some d,.build T ps.toArray,ty,v9,v4,jn⟩ s (rg++r) [(d,.agg qm)] []:=
 Zb.val j hd rfl e.looks λc A w hh h=>by
  obtain⟨vv,q,p⟩:=Rt (c:=c) pl _ _ _ zs.toArray qm (by simpa using MR f) (Pa (e.rep (c:=c) (a:=A) (w:=w) h) g) o;refine⟨.agg vv,?_,vv.toList,F,p⟩;have:=run_build (P:=E.P) w T (ps.map λ(i,x)=>(i,A.eval x)).toArray vv (by rw[hB.ex];exact q);simp only[execOp];simp[this]
def Ctx.own(c:Ctx)(k n:Nat)(v:Value)(lv:Bool):Ctx:=⟨c.h,c.loc,λj=>if j=k then some (n,v,lv)else c.arr j,c.Y⟩
structure RP(P:Program)(t e sz bytes:Nat):Prop where
 OA:P.underlying t=some (.slice e)
 ex:∃i z,P.info? e=some i/\i.zero=some z/\i.size=sz/\i.bytes=bytes/\z.cells.size=sz
 pos:0<sz
 run:(∀w,(sizeOf e).run P w=.ok sz w)/\∃z,(∀w,(zeroValue e).run P w=.ok z w)/\z.cells.size=sz
theorem ZB.NQ(g:ZB E U c a w)(hk9:k∉E.fs)(hk:k∉U)(hB:Below w.heap.size w w')(hv:v.ownBlock=none\/(v.ownBlock=some w.heap.size/\w.heap.size<w'.heap.size)):
  ZB E ([k]++U) (c.own k n v true) a w'/\Ext c (c.own k n v true)/\(c.own k n v true).arr k=some (n,v,true)/\
   ∀vy y,¬vy<1000->Holds c a w vy y->Holds (c.own k n v true) a w' vy y:=by
 have hn:=(g.used k hk).2;have t:=g.below_grow hB (Mem.le_refl _) (λp v e=>.inl e) λp v e=>by
  have G:=g.hw p v e;have F:p.block<w.heap.size:=block_lt_of_cell G;rw[hB.cell F];exact G
 have A:∀j q,c.arr j=some q->(c.own k n v true).arr j=some q:=by
  grind [Ctx.own]
 have B:Ext c<|c.own k n v true:=⟨Mem.le_refl _,λ_ _ e=>e,λj m hv lv e=>⟨m,hv,lv,A _ _ e,Zq _,λ_=>rfl⟩⟩;have xi:∀j m u,(c.own k n v true).arr j=some (m,u,true)->(j=k/\u=v)\/(j≠k/\c.arr j=some (m,u,true)):=by
  grind [Ctx.own]
 have I:∀o,c.h ⟨w.heap.size,o,none⟩=none:=λo=>by
  cases hh:c.h ⟨w.heap.size,o,none⟩with
  |none=>rfl
  |some v=>have:=block_lt_of_cell<|g.hw _ _ hh;simp at this
 have H:∀b,v.ownBlock=some b->b=w.heap.size/\b<w'.heap.size:=by
  grind
 have hlo:∀j,j∈E.fs->(c.own k n v true).arr j=c.arr j:=λj i=>by simp only[Ctx.own];grind
 have C:∀b,b<w.heap.size->(c.own k n v true).all b->c.all b:=by
  intro b N h;rcases h with h|h|⟨j,m,u,h,F⟩
  ·exact .inl h
  ·exact .inr (.inl h)
  grind [Ctx.all]
 have O:∀(D:Nat)(o:Obj),w.heap[D]?=some o->o.isCells=false->w'.heap[D]?=some o:=λD o h _=>(hB.block D (sa.1 h).1).trans h
 refine⟨⟨t.below,t.hB,t.nt,PA g C O,PR g C O,t.hw,t.hle,t.hnew,?_,?_,?_,?_,g.UU,λj m u lv i e=>g.Uw j m u lv i<|hlo j i▸e⟩,B,by simp[Ctx.own],λvy y S Z=>Holds.below g hB B (λ_ _ _ e=>A _ _ e) rfl (λ_ _ e=>.inl e) t.hw S Z⟩
 ·intro j b i;obtain⟨G,F,V,h4,h5⟩:=t.loc j b i;refine⟨G,F,V,h4,λM m u f=>?_⟩;rcases xi M m u f with⟨rfl,rfl⟩|⟨_,f⟩
  ·intro e;have:=(H b e).1;have:=(g.loc j b i).2.1;omega
  grind
 ·intro j m u b i J;rcases xi j m u i with⟨rfl,rfl⟩|⟨hne,T⟩
  ·obtain⟨rfl,N⟩:=H b J;refine⟨.inl g.hB,N,I,λM X W f K=>?_⟩;rcases xi M X W f with⟨rfl,_⟩|⟨_,f⟩
   ·rfl
   have:=(g.arr M X W _ f K).2.1;omega
  obtain⟨G,F,V,h4⟩:=t.arr j m u b T J;refine⟨G,F,V,λM X W f K=>?_⟩;rcases xi M X W f with⟨rfl,rfl⟩|⟨_,f⟩
  ·have h6:=(H b K).1;have:=(g.arr j m u b T J).2.1;omega
  grind
 ·intro j i;simp only[List.mem_append,pi,eη]at i;refine⟨(g.used j i.2).1,?_⟩;simp only[Ctx.own];rw[Zm i.1];exact(g.used j i.2).2
 intro b Z;obtain⟨G,F,V,h4⟩:=g.Y b Z;refine⟨rp G hB.size,F,V,λj m u i e=>?_⟩;grind
def Holds.PJ{f:Value}(p:k<1000)(o:c.arr k=some (R vi,f,true))(j:w.ownsRow 0 e sz f (R vi) vs)
  (i:∀q∈vi,R q=sz) (g:Z1 (ZR c.h) vi.flatten vs):¬(2000+k<1000)/\Holds c a w (2000+k) (.arr sz vi):=by
 refine⟨I,?_⟩;unfold Holds;rw[Zm I,Zm I,Zn I,H3];exact .inr ⟨sz,vi,f,e,vs,⟨rfl,rfl,g⟩,o,j,i⟩
def S.XG(B:Gd q0 s jn rg)(hd:(Nat.blt d 1000&&Nat.blt d E.nt)=true)(i:E.fs.contains k=false:=by rfl)(j:Nat.blt k 1000=true:=by rfl):
  Zb E q0 ⟨some d,.assign<|.const<|.slice none 0 0,ty,v9,v4,jn⟩ s (rg++[]) ((d,.own k 0)::[(2000+k,.arr sz [])]) [k]:=
 Zb.mk B hd rfl trivial λU c a w C _ o=>by
  rw[rb]at j;have g:k∉U:=o k F;obtain⟨g1,g2,t,D⟩:=C.NQ (KT i) g (n:=0) (v:=.slice none 0 0) (Below.refl _ w)<|.inl rfl;refine⟨.slice none 0 0,_,w,rfl,g1,g2,⟨⟨none,0,0,rfl⟩,0,_,_,t,Zq _,λ_=>rfl⟩,?_,λvy u f _ A=>D vy u f A⟩;intro p q;simp only[pi]at q;subst q;exact Holds.PJ (e:=0) (vi:=[]) (vs:=[]) I t (cκ w _ 0 sz) (λ_ h=>by cases h) trivial
def S.mkSlice{bytes:Nat}{ps:List<|Nat×Operand}(V:RP E.P t e sz bytes)(hg:Gd q0 s jn rg)(hd:ca E d=true)
  (X:V5 s (ps.map (·.2)) us r) (f:us.all Qj=true) (_hrows:us.map Yv=vi) (hf:Oj (λi=>some (i * sz,sz)) (List.replicate (n * sz) .any) ((ps.map (·.1)).zip us)=some vi.flatten)
  (hr:vi.all (λq=>Nat.beq (R q) sz)=true) (o:R vi=n) (hD:vi.flatten.all BI=true) (B:Nat.ble (n * sz) 16777216=true) (M:E.fs.contains k=false:=by rfl) (N:Nat.blt k 1000=true:=by rfl):
  Zb E q0 ⟨some d,.buildSlice t n ps.toArray,ty,v9,v4,jn⟩ s (rg++r) ((d,.own k n)::[(2000+k,.arr sz vi)]) [k]:=
 Zb.mk hg hd rfl X.looks λU c a w hb G T=>by
  clear _hrows;rw[ky]at B;rw[rb]at N;have K:k∉U:=T k F;have g:∀q∈vi,R q=sz:=λq H=>Nat.eq_of_beq_eq_true<|(bj.1 hr) q H
  have O:R vi.flatten=n * sz:=by rw[YM g,o]
  obtain⟨D,W,hz,hzs⟩:=V.run;have j:∀(q:Array Value),q.size=n * sz->Z1 (Zc c) (List.replicate (n * sz) .any) q.toList:=λq H=>Z1.WI (by simp[H]) λi u v f _=>by
   simp only[cθ]at f;split at f
   ·cases f;exact trivial
   cases f
  obtain⟨vv,C,Z⟩:=Rt (c:=c) (λi=>some (i * sz,sz)) _ _ _ (((Array.range<|n * sz).map λi=>(if n * sz=0 then #[]else W.cells)[i % (if n * sz=0 then #[]else W.cells).size]!)) vi.flatten (j _ F) (Pa (X.rep (c:=c) (a:=a) (w:=w) G) f) hf;have h:vv.size=n * sz:=by have:=Z.length;rw[O]at this;simpa using this.symm
  have hB:=Ww w<|.cells vv e;obtain⟨g1,g2,g3,g4⟩:=hb.NQ (KT M) K (n:=n) (v:=.slice (some ⟨w.heap.size,0,none⟩) n n) hB<|.inr ⟨rfl,F⟩;refine⟨.slice (some ⟨w.heap.size,0,none⟩) n n,_,w.alloc<|.cells vv e,?_,g1,g2,⟨⟨_,_,_,rfl⟩,n,_,_,g3,Zq _,λ_=>rfl⟩,?_,λvy u A _ f=>g4 vy u A f⟩
  ·have J:¬(n * sz>2 ^ 24):=I
   simp only[execOp,Instr.buildSlice,Sem.run_bind,run_underlying V.OA,Result.andThen_ok,D,J,if_false];by_cases h0:n * sz=0
   ·simp only[h0,if_true]at C;simp at C;simp[h0,C,newRow]
   simp only[h0,if_false]at C;simp[h0,hz,C,newRow]
  intro p Y;simp only[pi]at Y;subst Y;refine Holds.PJ (e:=e) (vs:=vv.toList) I (by rw[o];exact g3) ⟨by simp[h,o],.inr ⟨w.heap.size,n,vv,by rw[o],Zr _,heap_alloc_new w _,I,?_,h,?_⟩⟩ g<|Od (Z.mono λ_ _=>Zc.mono g2) hD
  ·have:=V.pos;have:n<=n * sz:=dψ n this;unfold maxLen;omega
  rw[o,sg<|by simp[h]]
