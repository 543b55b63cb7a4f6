import Derived.CallsIn
import Derived.Laws.AppendOwn
import Derived.MapKept
import Derived.OrdersIn
import Derived.RangeFuncLeaves
import Derived.RangeFuncOwn
import Derived.WalkKit
namespace Go.Ab
open Go.RowKit
abbrev Mem:=Addr→Option Value
inductive X where
 |int (k:IntKind) (n:Int)
 |bool (b:Bool)
 |str (s:List UInt8)
 |sl (rows:List (List X))
 |eptr (cells:List X)
 |fn (f:Nat) (caps:List X)
 |agg (xs:List X)
 |tup (xs:List X)
 |ptr (k off:Nat)
 |own (k n:Nat)
 |box (cells:List X)
 |arr (sz:Nat) (rows:List (List X))
 |raw (v:Value)
 |nils
 |any
 |optr (k n off:Nat)
 |cb (Φ:Value→Prop)
 |res (J:Mem→(Nat→Prop)→World→Prop)
 |resb (k:Nat) (Jb:Nat→Mem→(Nat→Prop)→World→Prop)
 |omap (es:List (X×X))
 |mptr (k:Nat)
 |ownp (k n sz lo hi:Nat)
 |slc (rows:List (List X))
 |arrn (sz:Nat) (pre:List (List X)) (mid:List X) (post:List (List X))
theorem or_snd{a b c:Prop}(h:a∨b)(f:b→c):a∨c:=match h with
 |.inl x=>.inl x
 |.inr y=>.inr (f y)
def All2{α β:Type}(R:α→β→Prop):List α→List β→Prop
 |[],[]=>True
 |a::as,b::bs=>R a b∧All2 R as bs
 |_,_=>False
section all2
variable{α β:Type}{R R':α→β→Prop}
theorem All2.length:∀{as:List α}{bs:List β},All2 R as bs→as.length=bs.length
 |[],[],_=>rfl
 |_::_,_::_,h=>by simp[All2.length h.2]
 |[],_::_,h=>h.elim
 |_::_,[],h=>h.elim
theorem All2.mono(hr:∀a b,R a b→R' a b):∀{as:List α}{bs:List β},All2 R as bs→All2 R' as bs
 |[],[],_=>trivial
 |_::_,_::_,h=>⟨hr _ _ h.1,All2.mono hr h.2⟩
 |[],_::_,h=>h.elim
 |_::_,[],h=>h.elim
theorem All2.append:∀{as as':List α}{bs bs':List β},All2 R as bs→All2 R as' bs'→All2 R (as++as') (bs++bs')
 |[],_,[],_,_,h'=>h'
 |_::_,_,_::_,_,h,h'=>⟨h.1,All2.append h.2 h'⟩
 |[],_,_::_,_,h,_=>h.elim
 |_::_,_,[],_,h,_=>h.elim
theorem All2.get:∀{as:List α}{bs:List β},All2 R as bs→∀{i:Nat}{a:α}{b:β},as[i]?=some a→bs[i]?=some b→R a b
 |[],[],_,i,a,b,ha,_=>by simp at ha
 |x::as,y::bs,h,0,a,b,ha,hb=>by simp at ha hb;subst ha;subst hb;exact h.1
 |x::as,y::bs,h,i+1,a,b,ha,hb=>All2.get h.2 (i:=i) (by simpa using ha) (by simpa using hb)
 |[],_::_,h,_,_,_,_,_=>h.elim
 |_::_,[],h,_,_,_,_,_=>h.elim
theorem All2.of_get:∀{as:List α}{bs:List β},as.length=bs.length→(∀(i:Nat)(a:α)(b:β),as[i]?=some a→bs[i]?=some b→R a b)→All2 R as bs
 |[],[],_,_=>trivial
 |_::_,_::_,hl,h=>⟨h 0 _ _ (by simp) (by simp),All2.of_get (by simpa using hl) fun i a b ha hb=>h (i+1) a b (by simpa using ha) (by simpa using hb)⟩
 |[],_::_,hl,_=>by simp at hl
 |_::_,[],hl,_=>by simp at hl
theorem All2.take(n:Nat):∀{as:List α}{bs:List β},All2 R as bs→All2 R (as.take n) (bs.take n):=by
 intro as bs h
 refine All2.of_get (by simp[h.length]) fun i a b ha hb=>?_
 rw[List.getElem?_take]at ha hb
 split at ha
 ·rename_i hi;rw[if_pos hi]at hb;exact h.get ha hb
 ·cases ha
theorem All2.drop(n:Nat):∀{as:List α}{bs:List β},All2 R as bs→All2 R (as.drop n) (bs.drop n):=by
 intro as bs h
 refine All2.of_get (by simp[h.length]) fun i a b ha hb=>?_
 rw[List.getElem?_drop]at ha hb
 exact h.get ha hb
theorem All2.set{a:α}{b:β}(hab:R a b):∀{as:List α}{bs:List β}(i:Nat),All2 R as bs→All2 R (as.set i a) (bs.set i b)
 |[],[],_,_=>trivial
 |_::_,_::_,0,h=>⟨hab,h.2⟩
 |_::_,_::_,i+1,h=>⟨h.1,All2.set hab i h.2⟩
 |[],_::_,_,h=>h.elim
 |_::_,[],_,h=>h.elim
theorem All2.get_right{as:List α}{bs:List β}(h:All2 R as bs){i:Nat}{a:α}(ha:as[i]?=some a):∃b,bs[i]?=some b∧R a b:=by
 have hi:i<bs.length:=by rw[←h.length];exact(List.getElem?_eq_some_iff.1 ha).1
 exact⟨bs[i],List.getElem?_eq_getElem hi,h.get ha (List.getElem?_eq_getElem hi)⟩
theorem All2.nil_left{bs:List β}(h:All2 R [] bs):bs=[]:=by cases bs with|nil=>rfl|cons _ _=>exact h.elim
theorem All2.cons_left{a:α}{as:List α}{bs:List β}(h:All2 R (a::as) bs):∃b bs',bs=b::bs'∧R a b∧All2 R as bs':=by
 cases bs with|nil=>exact h.elim|cons b bs'=>exact⟨b,bs',rfl,h.1,h.2⟩
end all2
inductive RepD(h:Mem):X→Value→Prop
 |int {k:IntKind} {n:Int}:k.wrap n=n→RepD h (.int k n) (.int k n)
 |bool (b:Bool):RepD h (.bool b) (.bool b)
 |str (s:List UInt8):s.length≤maxLen→RepD h (.str s) (.string ⟨s.toArray⟩)
 |sl0 (a:Option Addr) (cap:Nat):cap≤maxLen→RepD h (.sl []) (.slice a 0 cap)
 |sl (rows:List (List X)) (b off cap sz:Nat) (vs:List Value):rows.length≤cap→cap≤maxLen→(∀r∈rows,r.length=sz)→rows.flatten.length=vs.length→
  (∀(i:Nat)(v:Value),vs[i]?=some v→h ⟨b,off+i,none⟩=some v)→(∀(i:Nat)(x:X)(v:Value),rows.flatten[i]?=some x→vs[i]?=some v→RepD h x v)→RepD h (.sl rows) (.slice (some ⟨b,off,none⟩) rows.length cap)
 |eptr (cells:List X) (b off:Nat) (vs:List Value):cells.length=vs.length→
  (∀(i:Nat)(v:Value),vs[i]?=some v→h ⟨b,off+i,none⟩=some v)→(∀(i:Nat)(x:X)(v:Value),cells[i]?=some x→vs[i]?=some v→RepD h x v)→RepD h (.eptr cells) (.pointer (some ⟨b,off,none⟩))
 |raw (u:Value):u.oneCell'=true→RepD h (.raw u) u
structure Ctx where
 h:Mem
 loc:Nat→Option Nat
 arr:Nat→Option (Nat×Value×Bool)
 Y:Nat→Prop
abbrev pureC(h:Mem):Ctx:=⟨h,fun _=>none,fun _=>none,fun _=>False⟩
def Mem.le(h h':Mem):Prop:=∀a v,h a=some v→h' a=some v
theorem Mem.le_refl(h:Mem):Mem.le h h:=fun _ _ e=>e
theorem Mem.le_trans{a b c:Mem}(h:Mem.le a b)(h':Mem.le b c):Mem.le a c:=fun x v e=>h' x v (h x v e)
theorem RepD.mono{h h':Mem}(hh:Mem.le h h'){x:X}{v:Value}(r:RepD h x v):RepD h' x v:=by
 induction r with
 |int e=>exact .int e
 |bool b=>exact .bool b
 |str s e=>exact .str s e
 |sl0 a cap e=>exact .sl0 a cap e
 |sl rows b off cap sz vs h1 h2 h3 h4 h5 _ ih=>exact .sl rows b off cap sz vs h1 h2 h3 h4 (fun i v e=>hh _ _ (h5 i v e)) ih
 |eptr cells b off vs h1 h2 _ ih=>exact .eptr cells b off vs h1 (fun i v e=>hh _ _ (h2 i v e)) ih
 |raw u e=>exact .raw u e
def SubOf(hv:Value)(sz lo hi:Nat)(v:Value):Prop:=
 ∃a l cp a' cp',hv=.slice a l cp∧v=.slice a' (hi - lo) cp'∧(lo=0→a'=a∧cp'=cp)∧(lo<hi→∃b,a=some ⟨b,0,none⟩∧a'=some ⟨b,lo * sz,none⟩)
def RepP(c:Ctx):X→Value→Prop
 |.ptr k off,v=>∃b,c.loc k=some b∧v=.pointer (some ⟨b,off,none⟩)
 |.own k n,v=>(∃a l cp,v=.slice a l cp)∧∃m hv lv,c.arr k=some (m,hv,lv)∧n≤m∧(n=m→v=hv)
 |.any,_=>True
 |.cb Φ,v=>Φ v
 |.optr k n off,v=>∃m hv lv,c.arr k=some (m,hv,lv)∧n≤m∧(n=m→∃b l cp,hv=.slice (some ⟨b,0,none⟩) l cp∧v=.pointer (some ⟨b,off,none⟩))
 |.raw u,v=>v=u
 |.nils,v=>v=.slice none 0 0
 |.mptr k,v=>∃b,c.loc k=some b∧v=.map (some b)
 |.ownp k n sz lo hi,v=>(∃a l cp,v=.slice a l cp)∧∃m hv lv,c.arr k=some (m,hv,lv)∧n≤m∧(n=m→SubOf hv sz lo hi v)
 |.slc rows,v=>RepD c.h (.sl rows) v∧∃a,v=.slice a rows.length rows.length
 |x,v=>RepD c.h x v
def RepC(c:Ctx):X→Value→Prop
 |.fn f caps,v=>∃vs:List Value,v=.func (.func f) #[] vs.toArray∧All2 (RepP c) caps vs
 |x,v=>RepP c x v
def RepV(c:Ctx):X→Value→Prop
 |.agg xs,v=>∃vs:List Value,v=.agg vs.toArray∧All2 (RepC c) xs vs
 |x,v=>RepC c x v
def RepT(c:Ctx):X→Value→Prop
 |.tup xs,v=>∃vs:List Value,v=.tuple vs.toArray∧All2 (RepV c) xs vs
 |x,v=>RepV c x v
structure Ext(c c':Ctx):Prop where
 h:Mem.le c.h c'.h
 loc:∀k b,c.loc k=some b→c'.loc k=some b
 arr:∀k m hv lv,c.arr k=some (m,hv,lv)→∃m' hv' lv',c'.arr k=some (m',hv',lv')∧m≤m'∧(m=m'→hv'=hv)
theorem Ext.refl(c:Ctx):Ext c c:=⟨Mem.le_refl _,fun _ _ e=>e,fun _ m hv lv e=>⟨m,hv,lv,e,Nat.le_refl _,fun _=>rfl⟩⟩
theorem Ext.trans{a b c:Ctx}(h:Ext a b)(k:Ext b c):Ext a c:=
 ⟨Mem.le_trans h.h k.h,fun i x e=>k.loc i x (h.loc i x e),fun i m hv lv e=>by
  obtain⟨m',hv',lv',e',l,q⟩:=h.arr i m hv lv e
  obtain⟨m2,hv2,lv2,e2,l2,q2⟩:=k.arr i m' hv' lv' e'
  exact⟨m2,hv2,lv2,e2,Nat.le_trans l l2,fun he=>by have h1:m=m':=by omega
                                                   have h2:m'=m2:=by omega
                                                   rw[q2 h2,q h1]⟩⟩
theorem RepP.mono{c c':Ctx}(e:Ext c c'){x:X}{v:Value}(h:RepP c x v):RepP c' x v:=by
 cases x with
 |ptr k off=>obtain⟨b,h1,h2⟩:=h;exact⟨b,e.loc _ _ h1,h2⟩
 |own k n=>
  obtain⟨h0,m,hv,lv,h1,h2,h3⟩:=h
  obtain⟨m',hv',lv',e1,e2,e3⟩:=e.arr _ _ _ _ h1
  exact⟨h0,m',hv',lv',e1,Nat.le_trans h2 e2,fun he=>by rw[e3 (by omega)];exact h3 (by omega)⟩
 |optr k n off=>
  obtain⟨m,hv,lv,h1,h2,h3⟩:=h
  obtain⟨m',hv',lv',e1,e2,e3⟩:=e.arr _ _ _ _ h1
  exact⟨m',hv',lv',e1,Nat.le_trans h2 e2,fun he=>by rw[e3 (by omega)];exact h3 (by omega)⟩
 |any=>exact h
 |raw u=>exact h
 |nils=>exact h
 |cb Φ=>exact h
 |mptr k=>obtain⟨b,h1,h2⟩:=h;exact⟨b,e.loc _ _ h1,h2⟩
 |ownp k n sz lo hi=>
  obtain⟨h0,m,hv,lv,h1,h2,h3⟩:=h
  obtain⟨m',hv',lv',e1,e2,e3⟩:=e.arr _ _ _ _ h1
  exact⟨h0,m',hv',lv',e1,Nat.le_trans h2 e2,fun he=>by rw[e3 (by omega)];exact h3 (by omega)⟩
 |slc rows=>exact⟨RepD.mono e.h h.1,h.2⟩
 |_=>exact RepD.mono e.h h
theorem RepC.mono{c c':Ctx}(e:Ext c c'){x:X}{v:Value}(h:RepC c x v):RepC c' x v:=by
 cases x
 case fn f caps=>obtain⟨vs,h1,h2⟩:=h;exact⟨vs,h1,h2.mono fun _ _=>RepP.mono e⟩
 all_goals (simp only[RepC]at h⊢;exact RepP.mono e h)
theorem RepV.mono{c c':Ctx}(e:Ext c c'){x:X}{v:Value}(h:RepV c x v):RepV c' x v:=by
 cases x
 case agg xs=>obtain⟨vs,h1,h2⟩:=h;exact⟨vs,h1,h2.mono fun _ _=>RepC.mono e⟩
 all_goals (simp only[RepV]at h⊢;exact RepC.mono e h)
theorem RepT.mono{c c':Ctx}(e:Ext c c'){x:X}{v:Value}(h:RepT c x v):RepT c' x v:=by
 cases x
 case tup xs=>obtain⟨vs,h1,h2⟩:=h;exact⟨vs,h1,h2.mono fun _ _=>RepV.mono e⟩
 all_goals (simp only[RepT]at h⊢;exact RepV.mono e h)
structure BelX(B:Nat)(X:Nat→Prop)(w w':World):Prop where
 os:w'.os=w.os
 tape:w'.tape=w.tape
 output:w'.output=w.output
 size:w.heap.size≤w'.heap.size
 block:∀k,k<B→¬X k→w'.heap[k]?=w.heap[k]?
theorem BelX.refl(B:Nat)(X:Nat→Prop)(w:World):BelX B X w w:=⟨rfl,rfl,rfl,Nat.le_refl _,fun _ _ _=>rfl⟩
theorem BelX.trans{B:Nat}{X:Nat→Prop}{a b c:World}(h:BelX B X a b)(k:BelX B X b c):BelX B X a c:=
 ⟨k.os.trans h.os,k.tape.trans h.tape,k.output.trans h.output,Nat.le_trans h.size k.size,fun i hi hx=>(k.block i hi hx).trans (h.block i hi hx)⟩
theorem BelX.mono{B B':Nat}{X X':Nat→Prop}{w w':World}(h:BelX B X w w')(hB:B'≤B)(hX:∀k,k<B'→X k→X' k):BelX B' X' w w':=
 ⟨h.os,h.tape,h.output,h.size,fun k hk hx=>h.block k (Nat.lt_of_lt_of_le hk hB) fun e=>hx (hX k hk e)⟩
theorem BelX.of{B:Nat}{X:Nat→Prop}{w w':World}(h:Below B w w'):BelX B X w w':=⟨h.os,h.tape,h.output,h.size,fun k hk _=>h.block k hk⟩
theorem BelX.below{B:Nat}{w w':World}(h:BelX B (fun _=>False) w w'):Below B w w':=⟨h.os,h.tape,h.output,h.size,fun k hk=>h.block k hk fun e=>e⟩
theorem BelX.drew{B:Nat}{X:Nat→Prop}{a w:World}(h:BelX B X a w):BelX B X a w.drew:=⟨h.os,h.tape,h.output,h.size,h.block⟩
def Stable(J:Mem→(Nat→Prop)→World→Prop):Prop:=
 ∀(h h':Mem)(Y:Nat→Prop)(w w':World),J h Y w→Mem.le h h'→(∀p v,h' p=some v→h p=some v∨¬Y p.block)→(∀p v,h' p=some v→w'.cell? p=some v)→BelX 0 (fun _=>False) w w'→
  (∀b,Y b→w'.heap[b]?=w.heap[b]?)→J h' Y w'
def Ctx.out(c:Ctx)(fs:List Nat)(b:Nat):Prop:=c.Y b∨(∃k,k∈fs∧c.loc k=some b)∨(∃k m hv,k∈fs∧c.arr k=some (m,hv,true)∧hv.ownBlock=some b)
def Ctx.all(c:Ctx)(b:Nat):Prop:=c.Y b∨(∃k,c.loc k=some b)∨(∃k m hv,c.arr k=some (m,hv,true)∧hv.ownBlock=some b)
structure Env where
 P:Program
 nt:Nat
 fs:List Nat
 c0:Ctx
 w0:World
 round:Option Nat
 pins:List (Nat×Obj)
def Env.F(E:Env):Fence:={Fence.wide with round:=E.round}
def Env.B(E:Env):Nat:=E.w0.heap.size
def Env.X(E:Env)(b:Nat):Prop:=E.c0.out E.fs b∨∃p∈E.pins,p.1=b
def Env.h0(E:Env):Mem:=E.c0.h
def Env.ok(E:Env)(k b:Nat):Prop:=E.B≤b∨(k∈E.fs∧E.X b)
theorem Env.ok_own{E:Env}{k b:Nat}(h:E.ok k b)(hk:k∉E.fs):E.B≤b:=by
 rcases h with h|h
 ·exact h
 ·exact absurd h.1 hk
theorem nfs{l:List Nat}{k:Nat}(h:l.contains k=false):k∉l:=by simpa using h
theorem Env.ok_turn{E:Env}{k b j:Nat}(h:E.ok k b)(hj:j<E.B)(hx:¬E.X j):j≠b:=by
 rintro rfl
 rcases h with h|h
 ·omega
 ·exact hx h.2
structure Base(E:Env)(U:List Nat)(c:Ctx)(a:Act)(w:World):Prop where
 below:BelX E.B E.X E.w0 w
 hB:E.B≤w.heap.size
 nt:a.tmps.size=E.nt
 dfr:a.defers.Pairwise (· ≠ ·)∧∀d∈a.defers,∃D,d={target:=.collected D,args:=#[]}∧E.B≤D∧¬c.all D∧w.heap[D]?=some (.deferred (some []))
 pin:∀p∈E.pins,¬c.all p.1∧p.2.isCells=false∧w.heap[p.1]?=some p.2
 hw:∀p v,c.h p=some v→w.cell? p=some v
 hle:Mem.le E.h0 c.h
 hnew:∀p v,c.h p=some v→E.h0 p=some v∨E.B≤p.block∨E.X p.block
 loc:∀k b,c.loc k=some b→E.ok k b∧b<w.heap.size∧(∀o,c.h ⟨b,o,none⟩=none)∧(∀k',c.loc k'=some b→k'=k)∧(∀k' m hv,c.arr k'=some (m,hv,true)→hv.ownBlock≠some b)
 arr:∀k m hv b,c.arr k=some (m,hv,true)→hv.ownBlock=some b→E.ok k b∧b<w.heap.size∧(∀o,c.h ⟨b,o,none⟩=none)∧(∀k' m' hv',c.arr k'=some (m',hv',true)→hv'.ownBlock=some b→k'=k)
 used:∀k,k∉U→c.loc k=none∧c.arr k=none
 Y:∀b,c.Y b→b<w.heap.size∧(b<E.B→E.X b)∧(∀k,c.loc k≠some b)∧(∀k m hv,c.arr k=some (m,hv,true)→hv.ownBlock≠some b)
 loc0:∀k b,k∈E.fs→c.loc k=some b→E.c0.loc k=some b
 arr0:∀k m hv lv,k∈E.fs→c.arr k=some (m,hv,lv)→∃m0 hv0 lv0,E.c0.arr k=some (m0,hv0,lv0)∧m0≤m∧(m0=m→hv=hv0)∧(lv=true→lv0=true)∧(∀b,hv.ownBlock=some b→hv0.ownBlock=some b∨E.B≤b)
def BoxIs(c:Ctx):X→Obj→Prop
 |.box cells,o=>∃T vs,o=.cells vs T (0,0)∧All2 (RepC c) cells vs.toList
 |.omap es,o=>∃as clock,o=.map as clock∧MapKept.Stamped as clock∧All2 (fun(p:X×X)(m:MapEntry)=>RepD c.h p.1 m.key∧RepV (pureC c.h) p.2 m.val) es as.toList
 |_,_=>False
def ArrIs(c:Ctx):X→Nat→List (List X)→List Value→Prop
 |.arr sz' rows',sz,rows,vs=>sz'=sz∧rows'=rows∧All2 (RepD c.h) rows.flatten vs
 |.arrn sz' pre mid post,sz,rows,vs=>sz'=sz∧rows=pre++mid::post∧∃v1 v2 v3,vs=v1++(v2++v3)∧All2 (RepD c.h) pre.flatten v1∧All2 (RepC c) mid v2∧All2 (RepD c.h) post.flatten v3
 |_,_,_,_=>False
theorem pure_mono{h h':Mem}(hh:Mem.le h h'){x:X}{v:Value}(r:RepV (pureC h) x v):RepV (pureC h') x v:=r.mono ⟨hh,(fun _ _ e=>by cases e),(fun _ _ _ _ e=>by cases e)⟩
theorem BoxIs.mono{c c':Ctx}(e:Ext c c'){x:X}{o:Obj}(h:BoxIs c x o):BoxIs c' x o:=by
 cases x
 case box cells=>obtain⟨T,vs,h1,h2⟩:=h;exact⟨T,vs,h1,h2.mono fun _ _=>RepC.mono e⟩
 case omap es=>obtain⟨as,clock,h1,h0,h2⟩:=h;exact⟨as,clock,h1,h0,h2.mono fun _ _ h=>⟨h.1.mono e.h,pure_mono e.h h.2⟩⟩
 all_goals exact h.elim
theorem ArrIs.mono{c c':Ctx}(e:Ext c c'){x:X}{sz:Nat}{rows:List (List X)}{vs:List Value}(h:ArrIs c x sz rows vs):ArrIs c' x sz rows vs:=by
 cases x
 case arr sz' rows'=>exact⟨h.1,h.2.1,h.2.2.mono fun _ _=>RepD.mono e.h⟩
 case arrn sz' pre mid post=>obtain⟨h1,h2,v1,v2,v3,h3,h4,h5,h6⟩:=h;exact⟨h1,h2,v1,v2,v3,h3,h4.mono fun _ _=>RepD.mono e.h,h5.mono fun _ _=>RepC.mono e,h6.mono fun _ _=>RepD.mono e.h⟩
 all_goals exact h.elim
def HoldsBox(c:Ctx)(w:World)(k:Nat)(x:X):Prop:=
 ∃b o,c.loc k=some b∧w.heap[b]?=some o∧BoxIs c x o
def HoldsArr(c:Ctx)(w:World)(k:Nat)(x:X):Prop:=
 ∃sz rows hv e vs,ArrIs c x sz rows vs∧c.arr k=some (rows.length,hv,true)∧w.ownsRow 0 e sz hv rows.length vs∧(∀r∈rows,r.length=sz)
def ResIs(loc:Nat→Option Nat)(J:Mem→(Nat→Prop)→World→Prop):X→Prop
 |.res J'=>J'=J
 |.resb k Jb=>∃b,loc k=some b∧Jb b=J
 |_=>False
theorem ResIs.mono{loc loc':Nat→Option Nat}{J:Mem→(Nat→Prop)→World→Prop}{x:X}(hl:∀k b,loc k=some b→loc' k=some b)(h:ResIs loc J x):ResIs loc' J x:=by
 cases x
 case res J'=>exact h
 case resb k Jb=>obtain⟨b,h1,h2⟩:=h;exact⟨b,hl _ _ h1,h2⟩
 all_goals exact h.elim
def HoldsRes(c:Ctx)(w:World)(key:Nat)(x:X):Prop:=key=3000∧∃J,ResIs c.loc J x∧Stable J∧J c.h c.Y w
def Holds(c:Ctx)(a:Act)(w:World)(key:Nat)(x:X):Prop:=
 if key<1000 then RepT c x (a.tmps.getD key undef)
 else x=.any∨(if key<2000 then HoldsBox c w (key - 1000) x else if key<3000 then HoldsArr c w (key - 2000) x else HoldsRes c w key x)
abbrev St:=List (Nat×X)
def look:St→Nat→Option X
 |[],_=>none
 |p::s,k=>if Nat.beq p.1 k then some p.2 else look s k
def Good(E:Env)(U:List Nat)(s:St)(a:Act)(w:World):Prop:=
 ∃c,Base E U c a w∧∀key x,look s key=some x→Holds c a w key x
def opIn(E:Env)(all:Array Oper)(o:Oper)(next:Act→World→Prop)(Q:Exit→Act→World→Prop)(a:Act)(w:World):Prop:=
 if Region.wanted o (yielded all a.tmps)then o.wpIn E.F 0 E.P a w next Q else next (a.put o.dst undef) w
def Step(E:Env)(all:Array Oper)(o:Oper)(rd wr:St)(al:List Nat):Prop:=
 ∀(U:List Nat)(c:Ctx)(a:Act)(w:World),Base E U c a w→(∀p∈rd,Holds c a w p.1 p.2)→(∀k∈al,k∉U)→
  ∀(next:Act→World→Prop)(Q:Exit→Act→World→Prop),
   (∀c' a' w',Base E (al++U) c' a' w'→Ext c c'→(∀p∈wr,Holds c' a' w' p.1 p.2)→
    (∀key x,(∀p∈wr,p.1≠key)→Holds c a w key x→Holds c' a' w' key x)→next a' w')→
   opIn E all o next Q a w
structure Lab where
 rd:St
 wr:St
 al:List Nat
def Looks(s:St):St→Prop
 |[]=>True
 |p::r=>look s p.1=some p.2∧Looks s r
theorem Looks.all{s:St}:∀{r:St},Looks s r→∀p∈r,look s p.1=some p.2
 |[],_,p,hp=>by cases hp
 |q::r,h,p,hp=>by
  rcases List.mem_cons.1 hp with rfl|hp
  ·exact h.1
  ·exact Looks.all h.2 p hp
inductive Lx(E:Env)(all:Array Oper):List Oper→List Nat→St→List Lab→List Nat→St→Prop
 |nil {U:List Nat} {s:St}:Lx E all [] U s [] U s
 |cons {o:Oper} {l:List Oper} {U U':List Nat} {s s':St} {L:List Lab} {rd wr:St} {al:List Nat}:Step E all o rd wr al→Looks s rd→(al.all fun k=>!U.contains k)=true→
  Lx E all l (al++U) (wr++s) L U' s'→Lx E all (o::l) U s (⟨rd,wr,al⟩::L) U' s'
theorem look_append{s t:St}{k:Nat}:look (s++t) k=(look s k).or (look t k):=by
 induction s with
 |nil=>rfl
 |cons p s ih=>simp only[List.cons_append,look];split<;>simp[ih]
theorem look_none{s:St}{k:Nat}:look s k=none↔∀p∈s,p.1≠k:=by
 induction s with
 |nil=>simp[look]
 |cons p s ih=>
  simp only[look]
  split
  ·rename_i h;have:=Nat.eq_of_beq_eq_true h;simp[this]
  ·rename_i h
   have hne:p.1≠k:=fun e=>h (by rw[e];exact Nat.beq_refl k)
   simp[ih,hne]
theorem look_mem{s:St}{k:Nat}{x:X}(h:look s k=some x):(k,x)∈s:=by
 induction s with
 |nil=>cases h
 |cons p s ih=>
  simp only[look]at h
  split at h
  ·rename_i hb
   have:=Nat.eq_of_beq_eq_true hb
   cases h
   subst this
   exact List.mem_cons_self
  ·exact List.mem_cons_of_mem _ (ih h)
theorem Step.good{E:Env}{all:Array Oper}{o:Oper}{rd wr:St}{al:List Nat}(hs:Step E all o rd wr al){U:List Nat}{s:St}{a:Act}{w:World}(hg:Good E U s a w)
  (hl:Looks s rd) (hal:(al.all fun k=>!U.contains k)=true) {next:Act→World→Prop} {Q:Exit→Act→World→Prop} (hn:∀a' w',Good E (al++U) (wr++s) a' w'→next a' w'):opIn E all o next Q a w:=by
 obtain⟨c,hb,hh⟩:=hg
 refine hs U c a w hb (fun p hp=>hh _ _ (hl.all p hp)) (fun k hk=>by simpa using (List.all_eq_true.1 hal) k hk) next Q fun c' a' w' hb' _ hwr hfr=>hn a' w' ⟨c',hb',fun key x hx=>?_⟩
 rw[look_append]at hx
 cases hk:look wr key with
 |some y=>
  rw[hk]at hx
  cases hx
  exact hwr _ (look_mem hk)
 |none=>
  rw[hk]at hx
  exact hfr key x (look_none.1 hk) (hh key x hx)
theorem opIn_wpOpIn{E:Env}{all:Array Oper}{i:Nat}{o:Oper}(ho:all[i]?=some o){next:Act→World→Prop}{Q:Exit→Act→World→Prop}{a:Act}{w:World}(h:opIn E all o next Q a w):
  wpOpIn E.F 0 E.P all Q i next a w:=by
 unfold wpOpIn
 simp only[ho]
 unfold opIn at h
 split at h
 ·rename_i hw;simpa[hw]using h
 ·rename_i hw;rw[if_neg hw];exact⟨fun _ _=>trivial,h⟩
theorem Lx.seq{E:Env}{all:Array Oper}{Q:Exit→Act→World→Prop}{l:List Oper}{U U':List Nat}{s s':St}{L:List Lab}(h:Lx E all l U s L U' s'):
  ∀(k:Nat),(∀j,all[k+j]?=l[j]?)→(∀a w,Good E U' s' a w→Q .normal a w)→∀a w,Good E U s a w→wpOpsIn E.F 0 E.P all Q (List.range' k l.length) a w:=by
 induction h with
 |nil=>intro k _ hQ a w hg;simpa[wpOpsIn]using hQ a w hg
 | @cons o l U U' s s' L rd wr al hs hl hal _ ih=>
   intro k hk hQ a w hg
   rw[List.length_cons,List.range'_succ,wpOpsIn_cons]
   refine opIn_wpOpIn (by simpa using hk 0) (hs.good hg hl hal fun a' w' hg'=>ih (k+1) (fun j=>?_) hQ a' w' hg')
   have:=hk (j+1)
   simp only[List.getElem?_cons_succ]at this
   rw[←this]
   congr 1
   omega
def OK(E:Env)(code:Code)(Q:Exit→List Nat→St→Prop)(U:List Nat)(s:St):Prop:=
 ∀a w,Good E U s a w→code.wpIn E.F 0 E.P (fun e a' w'=>∃U' s',Good E U' s' a' w'∧Q e U' s') a w
theorem OK.region{E:Env}{id:Nat}{l:List Oper}{U U':List Nat}{s s':St}{L:List Lab}{Q:Exit→List Nat→St→Prop}(h:Lx E l.toArray l U s L U' s')(hQ:Q .normal U' s'):
  OK E (.region id l.toArray false) Q U s:=by
 intro a w hg
 refine wpIn_region ?_
 have:=h.seq (Q:=fun e a' w'=>∃U' s',Good E U' s' a' w'∧Q e U' s') 0 (by simp) (fun a w hg=>⟨U',s',hg,hQ⟩) a w hg
 rw[List.range_eq_range']
 simpa using this
end Go.Ab
namespace Go.Ab
open Go.RowKit
def stD:List Lab→(Nat→Bool)→St→St
 |[],_,s=>s
 |b::L,D,s=>stD L (fun j=>D (j+1)) (if D 0 then b.wr++s else s)
def uD:List Lab→(Nat→Bool)→List Nat→List Nat
 |[],_,u=>u
 |b::L,D,u=>uD L (fun j=>D (j+1)) (if D 0 then b.al++u else u)
def lastw:List Lab→(Nat→Bool)→Nat→Option X
 |[],_,_=>none
 |b::L,D,k=>(lastw L (fun j=>D (j+1)) k).or (if D 0 then look b.wr k else none)
theorem look_stD{k:Nat}:∀(L:List Lab)(D:Nat→Bool)(s:St),look (stD L D s) k=(lastw L D k).or (look s k)
 |[],_,_=>by simp[stD,lastw]
 |b::L,D,s=>by
  rw[stD,look_stD L,lastw,Option.or_assoc]
  congr 1
  by_cases h:D 0=true
  ·simp only[h,if_true,look_append]
  ·simp[h]
theorem lastw_congr{k:Nat}:∀(L:List Lab)(D D':Nat→Bool),(∀(j:Nat)(b:Lab),L[j]?=some b→look b.wr k≠none→D j=D' j)→lastw L D k=lastw L D' k
 |[],_,_,_=>rfl
 |b::L,D,D',h=>by
  rw[lastw,lastw,lastw_congr L (fun j=>D (j+1)) (fun j=>D' (j+1)) (fun j b' hb hn=>h (j+1) b' (by simpa using hb) hn)]
  congr 1
  by_cases hn:look b.wr k=none
  ·simp[hn]
  ·rw[h 0 b (by simp) hn]
theorem mem_uD{k:Nat}:∀(L:List Lab)(D:Nat→Bool)(u:List Nat),k∈uD L D u↔k∈u∨∃(j:Nat)(b:Lab),L[j]?=some b∧D j=true∧k∈b.al
 |[],_,_=>by simp[uD]
 |b::L,D,u=>by
  rw[uD,mem_uD L]
  constructor
  ·rintro(h|⟨j,b',hb,hd,hk⟩)
   ·by_cases h0:D 0=true
    ·simp only[h0,if_true,List.mem_append]at h
     rcases h with h|h
     ·exact .inr ⟨0,b,by simp,h0,h⟩
     ·exact .inl h
    ·simp only[h0]at h;exact .inl h
   ·exact .inr ⟨j+1,b',by simpa using hb,hd,hk⟩
  ·rintro(h|⟨j,b',hb,hd,hk⟩)
   ·refine .inl ?_;split
    ·exact List.mem_append_right _ h
    ·exact h
   ·cases j with
    |zero=>simp at hb;subst hb;exact .inl (by simp[hd,hk])
    |succ j=>exact .inr ⟨j,b',by simpa using hb,hd,hk⟩
theorem stD_false:∀(L:List Lab)(s:St),stD L (fun _=>false) s=s
 |[],_=>rfl
 |_::L,s=>by simpa[stD]using stD_false L s
theorem uD_false:∀(L:List Lab)(s:List Nat),uD L (fun _=>false) s=s
 |[],_=>rfl
 |_::L,s=>by simpa[uD]using uD_false L s
section
variable{E:Env}{all:Array Oper}
theorem Lx.length{l:List Oper}{U U':List Nat}{s s':St}{L:List Lab}(h:Lx E all l U s L U' s'):L.length=l.length:=by
 induction h with
 |nil=>rfl
 |cons _ _ _ _ ih=>simp[ih]
theorem Lx.stAll{l:List Oper}{U U':List Nat}{s s':St}{L:List Lab}(h:Lx E all l U s L U' s'):∀D:Nat→Bool,(∀j,j<l.length→D j=true)→stD L D s=s'∧uD L D U=U':=by
 induction h with
 |nil=>intro D _;exact⟨rfl,rfl⟩
 |cons _ _ _ _ ih=>
  intro D hD
  have h0:D 0=true:=hD 0 (by simp)
  have:=ih (fun j=>D (j+1)) (fun j hj=>hD (j+1) (by simp;omega))
  simpa[stD,uD,h0]using this
theorem Lx.at{l:List Oper}{U U':List Nat}{s s':St}{L:List Lab}(h:Lx E all l U s L U' s'):∀(i:Nat)(b:Lab),L[i]?=some b→
  ∃o,l[i]?=some o∧Step E all o b.rd b.wr b.al∧Looks (stD L (fun j=>decide (j<i)) s) b.rd∧∀k∈b.al,k∉uD L (fun j=>decide (j<i)) U:=by
 induction h with
 |nil=>intro i b hb;simp at hb
 | @cons o l U U' s s' L rd wr al hs hl hal _ ih=>
   intro i b hb
   cases i with
   |zero=>
    simp at hb
    subst hb
    refine⟨o,rfl,hs,?_,?_⟩
    ·have:(fun j=>decide (j<0))=(fun _:Nat=>false):=by funext j;simp
     rw[this,stD_false];exact hl
    ·have:(fun j=>decide (j<0))=(fun _:Nat=>false):=by funext j;simp
     rw[this,uD_false]
     intro k hk
     simpa using (List.all_eq_true.1 hal) k hk
   |succ i=>
    obtain⟨o',ho,h1,h2,h3⟩:=ih i b (by simpa using hb)
    refine⟨o',by simpa using ho,h1,?_,?_⟩
    ·have:(fun j=>decide (j+1<i+1))=(fun j=>decide (j<i)):=by funext j;simp
     simpa[stD,this]using h2
    ·have:(fun j=>decide (j+1<i+1))=(fun j=>decide (j<i)):=by funext j;simp
     simpa[uD,this]using h3
end
def closE(acc:List Nat):List Edge→Nat
 |[]=>0
 |e::l=>if Region.binds .any e then(2 ^ e.on|||acc.getD e.on 0)|||closE acc l else closE acc l
def clos:List Oper→List Nat→List Nat
 |[],acc=>acc
 |o::l,acc=>clos l (acc++[closE acc o.after.toList])
def keyIn(k:Nat):St→Bool
 |[]=>false
 |p::s=>Nat.beq p.1 k||keyIn k s
def meets:St→St→Bool
 |[],_=>false
 |p::s,t=>keyIn p.1 t||meets s t
def clash(a b:Lab):Bool:=meets a.wr b.rd||meets a.wr b.wr||meets a.rd b.wr
def clashOk(cl:List Nat):Nat→List Lab→Nat→Lab→Bool
 |_,[],_,_=>true
 |i,a::L,j,b=>(!(Nat.blt i j)||!clash a b||Nat.testBit (cl.getD j 0) i)&&clashOk cl (i+1) L j b
def clashAll(cl:List Nat)(L:List Lab):Nat→List Lab→Bool
 |_,[]=>true
 |j,b::M=>clashOk cl 0 L j b&&clashAll cl L (j+1) M
def downOk:Nat→List Oper→Bool
 |_,[]=>true
 |i,o::l=>(o.after.toList.all fun e=>!Region.binds .any e||Nat.blt e.on i)&&downOk (i+1) l
def drawOk(l:List Oper)(L:List Lab):Bool:=downOk 0 l&&clashAll (clos l []) L 0 L
theorem keyIn_mem{k:Nat}:∀{s:St},keyIn k s=false→∀p∈s,p.1≠k
 |[],_,p,hp=>by cases hp
 |q::s,h,p,hp=>by
  simp only[keyIn,Bool.or_eq_false_iff]at h
  rcases List.mem_cons.1 hp with rfl|hp
  ·intro e;rw[e,Nat.beq_refl]at h;cases h.1
  ·exact keyIn_mem h.2 p hp
theorem meets_false{k:Nat}:∀{s t:St},meets s t=false→(∃p∈s,p.1=k)→∀p∈t,p.1≠k
 |[],_,_,⟨p,hp,_⟩=>by cases hp
 |q::s,t,h,⟨p,hp,hk⟩=>by
  simp only[meets,Bool.or_eq_false_iff]at h
  rcases List.mem_cons.1 hp with rfl|hp
  ·subst hk;exact keyIn_mem h.1
  ·exact meets_false h.2 ⟨p,hp,hk⟩
def Closed(l:List Oper)(D:Nat→Bool):Prop:=∀(i:Nat)(o:Oper),l[i]?=some o→D i=true→∀e∈o.after,Region.binds .any e=true→D e.on=true
def ReadyAt(l:List Oper)(D:Nat→Bool)(j:Nat):Prop:=∀o,l[j]?=some o→∀e∈o.after,Region.binds .any e=true→D e.on=true
theorem closE_bit{acc:List Nat}{i:Nat}:∀{es:List Edge},(closE acc es).testBit i=true→∃e∈es,Region.binds .any e=true∧(e.on=i∨(acc.getD e.on 0).testBit i=true)
 |[],h=>by simp[closE]at h
 |e::es,h=>by
  simp only[closE]at h
  split at h
  ·rename_i hb
   rw[Nat.testBit_or,Nat.testBit_or,Nat.testBit_two_pow,Bool.or_eq_true,Bool.or_eq_true,decide_eq_true_eq]at h
   rcases h with h|h
   ·exact⟨e,List.mem_cons_self,hb,h⟩
   ·obtain⟨e',h1,h2⟩:=closE_bit h
    exact⟨e',List.mem_cons_of_mem _ h1,h2⟩
  ·obtain⟨e',h1,h2⟩:=closE_bit h
   exact⟨e',List.mem_cons_of_mem _ h1,h2⟩
theorem clos_sound{l:List Oper}{D:Nat→Bool}(hc:Closed l D):∀(m pre:List Oper)(acc:List Nat),l=pre++m→acc.length=pre.length→
  (∀j i,(acc.getD j 0).testBit i=true→ReadyAt l D j→D i=true)→∀j i,((clos m acc).getD j 0).testBit i=true→j<l.length→ReadyAt l D j→D i=true
 |[],_,acc,_,_,h,j,i,hi,_,hr=>h j i hi hr
 |o::m,pre,acc,hl,hlen,h,j,i,hi,hj,hr=>by
  refine clos_sound hc m (pre++[o]) _ (by simp[hl]) (by simp[hlen]) ?_ j i hi hj hr
  intro j i hi hr
  by_cases hlt:j<acc.length
  ·rw[List.getD_eq_getElem?_getD,List.getElem?_append_left hlt,←List.getD_eq_getElem?_getD]at hi
   exact h j i hi hr
  ·by_cases hje:j=acc.length
   ·subst hje
    have ho:l[acc.length]?=some o:=by rw[hl,hlen];simp
    simp only[List.getD_eq_getElem?_getD,List.getElem?_concat_length,Option.getD_some]at hi
    obtain⟨e,he,hb,hi⟩:=closE_bit hi
    have he':e∈o.after:=by simpa using he
    have hD:=hr o ho e he' hb
    rcases hi with rfl|hi
    ·exact hD
    ·exact h e.on i hi fun o' ho' e' he'' hb'=>hc e.on o' ho' hD e' he'' hb'
   ·have:(acc++[closE acc o.after.toList]).getD j 0=0:=by
     rw[List.getD_eq_getElem?_getD,List.getElem?_eq_none (by simp;omega)];rfl
    rw[this,Nat.zero_testBit]at hi;cases hi
theorem clashOk_spec{cl:List Nat}{j:Nat}{b:Lab}:∀{L:List Lab}{k:Nat},clashOk cl k L j b=true→∀(i:Nat)(a:Lab),L[i]?=some a→k+i<j→clash a b=true→(cl.getD j 0).testBit (k+i)=true
 |[],_,_,i,a,h,_,_=>by simp at h
 |c::L,k,h,i,a,hi,hlt,hcl=>by
  simp only[clashOk,Bool.and_eq_true,Bool.or_eq_true]at h
  cases i with
  |zero=>
   simp at hi;subst hi
   rcases h.1 with(h1|h1)|h1
   ·have hb:Nat.blt k j=true:=by rw[Nat.blt_eq];omega
    rw[hb]at h1;cases h1
   ·rw[hcl]at h1;cases h1
   ·exact h1
  |succ i=>
   have:=clashOk_spec h.2 i a (by simpa using hi) (by omega) hcl
   rwa [show k+(i+1)=k+1+i by omega]
theorem clashAll_spec{cl:List Nat}{L:List Lab}:∀{M:List Lab}{k:Nat},clashAll cl L k M=true→∀(j:Nat)(b:Lab),M[j]?=some b→clashOk cl 0 L (k+j) b=true
 |[],_,_,j,b,h=>by simp at h
 |c::M,k,h,j,b,hj=>by
  simp only[clashAll,Bool.and_eq_true]at h
  cases j with
  |zero=>simp at hj;subst hj;exact h.1
  |succ j=>
   have:=clashAll_spec h.2 j b (by simpa using hj)
   rwa [show k+(j+1)=k+1+j by omega]
theorem downOk_spec:∀{l:List Oper}{k:Nat},downOk k l=true→∀(i:Nat)(o:Oper),l[i]?=some o→∀e∈o.after,Region.binds .any e=true→e.on<k+i
 |[],_,_,i,o,h=>by simp at h
 |c::l,k,h,i,o,hi=>by
  simp only[downOk,Bool.and_eq_true]at h
  cases i with
  |zero=>
   simp at hi;subst hi
   intro e he hb
   have:=(List.all_eq_true.1 h.1) e (by simpa using he)
   simp only[hb,Bool.not_true,Bool.false_or,Nat.blt,Nat.ble_eq]at this
   omega
  |succ i=>
   intro e he hb
   have:=downOk_spec h.2 i o (by simpa using hi) e he hb
   omega
theorem Base.moreU{E:Env}{U U':List Nat}{c:Ctx}{a:Act}{w:World}(h:Base E U c a w)(hu:∀k,k∈U→k∈U'):Base E U' c a w:=
 ⟨h.below,h.hB,h.nt,h.dfr,h.pin,h.hw,h.hle,h.hnew,h.loc,h.arr,fun k hk=>h.used k fun hm=>hk (hu k hm),h.Y,h.loc0,h.arr0⟩
theorem Base.drew{E:Env}{U:List Nat}{c:Ctx}{a:Act}{w:World}(h:Base E U c a w):Base E U c a w.drew:=
 ⟨h.below.drew,h.hB,h.nt,h.dfr,h.pin,h.hw,h.hle,h.hnew,h.loc,h.arr,h.used,h.Y,h.loc0,h.arr0⟩
theorem Good.drew{E:Env}{U:List Nat}{s:St}{a:Act}{w:World}(h:Good E U s a w):Good E U s a w.drew:=by
 obtain⟨c,hb,hh⟩:=h
 refine⟨c,hb.drew,fun key x hx=>?_⟩
 have h1:=hh key x hx
 unfold Holds at h1⊢
 split
 ·rename_i hk;rwa [if_pos hk]at h1
 ·rename_i hk
  rw[if_neg hk]at h1
  refine or_snd h1 fun h1=>?_
  split
  ·rename_i hk2;rwa [if_pos hk2]at h1
  ·rename_i hk2
   rw[if_neg hk2]at h1
   split
   ·rename_i hk3;rwa [if_pos hk3]at h1
   ·rename_i hk3
    rw[if_neg hk3]at h1
    obtain⟨hk0,J,h2,h3,h4⟩:=h1
    exact⟨hk0,J,h2,h3,h3 _ _ _ _ _ h4 (Mem.le_refl _) (fun _ _ e=>.inl e) hb.drew.hw (BelX.refl _ _ _).drew (fun _ _=>rfl)⟩
theorem repl_getD(n j:Nat):(Array.replicate n false).getD j false=false:=by
 simp only[Array.getD,Array.size_replicate]
 split
 ·simp
 ·rfl
def unl(l:List Bool):Nat:=(l.filter (!·)).length
theorem unl_set:∀(l:List Bool)(i:Nat),l[i]?=some false→unl (l.set i true)+1=unl l
 |[],_,h=>by simp at h
 |b::l,0,h=>by simp at h;subst h;simp[unl]
 |b::l,i+1,h=>by
  have:=unl_set l i (by simpa using h)
  cases b<;>simp[unl]at this⊢<;>omega
theorem unl_zero:∀(l:List Bool),unl l=0→∀j,j<l.length→l.getD j false=true
 |[],_,j,h=>by simp at h
 |b::l,h,j,hj=>by
  simp only[unl,List.filter_cons]at h
  cases b with
  |false=>simp at h
  |true=>
   cases j with
   |zero=>rfl
   |succ j=>simpa using unl_zero l (by simpa[unl]using h) j (by simpa using hj)
section
variable{E:Env}{l:List Oper}{U U':List Nat}{s s':St}{L:List Lab}
theorem draw_any(h:Lx E l.toArray l U s L U' s')(hc:drawOk l L=true)(Q:Exit→Act→World→Prop)(hQ:∀a w,Good E U' s' a w→Q .normal a w):
  ∀(fuel:Nat)(listed:Array Bool)(a:Act)(w:World),listed.size=l.length→unl listed.toList≤fuel→Closed l (fun j=>listed.getD j false)→
   Good E (uD L (fun j=>listed.getD j false) U) (stD L (fun j=>listed.getD j false) s) a w→wpAnyIn E.F 0 E.P .any l.toArray Q fuel listed a w:=by
 simp only[drawOk,Bool.and_eq_true]at hc
 obtain⟨hdown,hclash⟩:=hc
 have hlen:=h.length
 have fin:∀(listed:Array Bool)(a:Act)(w:World),listed.size=l.length→Good E (uD L (fun j=>listed.getD j false) U) (stD L (fun j=>listed.getD j false) s) a w→
   Region.ready .any l.toArray listed=[]→Q .normal a w:=by
  intro listed a w hsz hg hr
  have hall:∀j,j<l.length→listed.getD j false=true:=by
   intro j
   induction j using Nat.strongRecOn with
   |_ j ih=>
    intro hj
    by_cases hd:listed.getD j false=true
    ·exact hd
    ·exfalso
     have hmem:j∈Region.ready .any l.toArray listed:=by
      rw[mem_ready]
      refine⟨?_,l[j],by simp[hj],fun e he hb=>?_⟩
      ·have hj':j<listed.size:=by omega
       simp[Array.getElem?_eq_getElem hj']at hd⊢
       exact hd
      ·have:=downOk_spec hdown j l[j] (by simp[hj]) e he hb
       exact ih e.on (by omega) (by omega)
     rw[hr]at hmem
     cases hmem
  have:=h.stAll _ hall
  rw[this.1,this.2]at hg
  exact hQ a w hg
 intro fuel
 induction fuel with
 |zero=>
  intro listed a w hsz hun hcl hg
  have hall:∀j,j<l.length→listed.getD j false=true:=fun j hj=>by
   have:=unl_zero listed.toList (by omega) j (by simpa[hsz]using hj)
   simpa using this
  have hr:Region.ready .any l.toArray listed=[]:=by
   rw[List.eq_nil_iff_forall_not_mem]
   intro j hj
   obtain⟨h0,o,ho,_⟩:=mem_ready.1 hj
   have hj':j<l.length:=by simpa using (Array.getElem?_eq_some_iff.1 ho).1
   have:=hall j hj'
   have hj2:j<listed.size:=by omega
   simp[Array.getElem?_eq_getElem hj2]at h0 this
   rw[h0]at this;cases this
  exact⟨hr,fin listed a w hsz hg hr⟩
 |succ fuel ih=>
  intro listed a w hsz hun hcl hg
  refine⟨fin listed a w hsz hg,fun i hi=>?_⟩
  obtain⟨h0,o,ho,hedges⟩:=mem_ready.1 hi
  have hil:i<l.length:=by simpa using (Array.getElem?_eq_some_iff.1 ho).1
  have hio:l[i]?=some o:=by simpa using ho
  have hiL:i<L.length:=by omega
  have hisz:i<listed.size:=by omega
  have hbi:L[i]?=some L[i]:=List.getElem?_eq_getElem hiL
  have hDi:listed.getD i false=false:=by
   simp[Array.getElem?_eq_getElem hisz]at h0⊢;exact h0
  obtain⟨o',ho',hstep,hlook,hfresh⟩:=h.at i L[i] hbi
  rw[hio]at ho';cases ho'
  have hready:ReadyAt l (fun j=>listed.getD j false) i:=fun o' ho' e he hb=>by
   rw[hio]at ho';cases ho';exact hedges e he hb
  -- of two operations that clash, who comes first has been done, or will not be done before
  have ord:∀(j:Nat)(b:Lab),L[j]?=some b→(clash b L[i]=true∨clash L[i] b=true)→j≠i→listed.getD j false=decide (j<i):=by
   intro j b hb hcla hne
   have hjl:j<l.length:=by rw[←hlen];exact(List.getElem?_eq_some_iff.1 hb).1
   have sym:∀x y:Lab,clash x y=true→clash y x=true:=by
    intro x y hxy
    have comm:∀s t:St,meets s t=true→meets t s=true:=by
     intro s t hst
     cases hts:meets t s with
     |true=>rfl
     |false=>
      exfalso
      have:∀s t:St,meets s t=true→∃p∈s,keyIn p.1 t=true:=by
       intro s
       induction s with
       |nil=>intro t h;simp[meets]at h
       |cons p s ih=>intro t h;simp only[meets,Bool.or_eq_true]at h;rcases h with h|h
                     ·exact⟨p,List.mem_cons_self,h⟩
                     ·obtain⟨q,hq,hk⟩:=ih t h;exact⟨q,List.mem_cons_of_mem _ hq,hk⟩
      obtain⟨p,hp,hk⟩:=this s t hst
      have:∃q∈t,q.1=p.1:=by
       have kk:∀(t:St),keyIn p.1 t=true→∃q∈t,q.1=p.1:=by
        intro t
        induction t with
        |nil=>intro h;simp[keyIn]at h
        |cons q t ih=>intro h;simp only[keyIn,Bool.or_eq_true]at h;rcases h with h|h
                      ·exact⟨q,List.mem_cons_self,Nat.eq_of_beq_eq_true h⟩
                      ·obtain⟨q',hq,he⟩:=ih h;exact⟨q',List.mem_cons_of_mem _ hq,he⟩
       exact kk t hk
      exact meets_false hts this p hp rfl
    simp only[clash,Bool.or_eq_true]at hxy⊢
    rcases hxy with(h1|h1)|h1
    ·exact .inr (comm _ _ h1)
    ·exact .inl (.inr (comm _ _ h1))
    ·exact .inl (.inl (comm _ _ h1))
   rcases Nat.lt_or_ge j i with hlt|hge
   ·have hk:clash b L[i]=true:=hcla.elim id (sym _ _)
    have hsp:=clashOk_spec (clashAll_spec hclash i L[i] hbi) j b hb (by omega) hk
    simp only[Nat.zero_add]at hsp
    have:=clos_sound hcl l [] [] rfl rfl (by simp) i j hsp hil hready
    simpa[hlt]using this
   ·have hgt:i<j:=by omega
    have hk:clash L[i] b=true:=hcla.elim (sym _ _) id
    have hsp:=clashOk_spec (clashAll_spec hclash j b hb) i L[i] hbi (by omega) hk
    simp only[Nat.zero_add]at hsp
    cases hdj:listed.getD j false with
    |false=>simp;omega
    |true=>
     exfalso
     have:=clos_sound hcl l [] [] rfl rfl (by simp) j i hsp hjl (fun o' ho' e he hb'=>hcl j o' ho' hdj e he hb')
     simp only[hDi]at this
     cases this
  -- the state in which it is done
  obtain⟨c,hbase,hholds⟩:=hg
  refine opIn_wpOpIn ho ?_
  refine hstep _ c a w hbase ?_ ?_ _ Q ?_
  ·intro p hp
   refine hholds _ _ ?_
   have hx:=hlook.all p hp
   rw[look_stD]at hx⊢
   rw[lastw_congr L (fun j=>listed.getD j false) (fun j=>decide (j<i)) fun j b hb hn=>?_]
   ·exact hx
   ·by_cases hji:j=i
    ·subst hji;simp[hDi]
    ·refine ord j b hb ?_ hji
     left
     simp only[clash,Bool.or_eq_true]
     left;left
     cases hm:meets b.wr L[i].rd with
     |true=>rfl
     |false=>
      exfalso
      obtain⟨y,hy⟩:∃y,look b.wr p.1=some y:=by cases hq:look b.wr p.1 with|none=>exact absurd hq hn|some y=>exact⟨y,rfl⟩
      exact meets_false hm ⟨_,look_mem hy,rfl⟩ p hp rfl
  ·intro k hk hmem
   rcases(mem_uD L _ U).1 hmem with hu|⟨j,b,hb,hd,hkb⟩
   ·exact hfresh k hk ((mem_uD L _ U).2 (.inl hu))
   ·by_cases hji:j=i
    ·subst hji;simp only[hDi]at hd;cases hd
    ·rcases Nat.lt_or_ge j i with hlt|hge
     ·exact hfresh k hk ((mem_uD L _ U).2 (.inr ⟨j,b,hb,by simpa using hlt,hkb⟩))
     ·obtain⟨_,_,_,_,hfj⟩:=h.at j b hb
      exact hfj k hkb ((mem_uD L _ U).2 (.inr ⟨i,L[i],hbi,by simp;omega,hk⟩))
  ·intro c' a' w' hbase' _ hwr hfr
   have hset:∀j,(listed.setIfInBounds i true).getD j false=if j=i then true else listed.getD j false:=by
    intro j
    by_cases hji:j=i
    ·subst hji;simp[hisz]
    ·rw[if_neg hji,getD_set_ne false (Ne.symm hji)]
   refine ih _ a' w' (by simpa using hsz) ?_ ?_ ⟨c',hbase'.moreU ?_,?_⟩
   ·have:=unl_set listed.toList i (by
     simp only[Array.getElem?_toList,Array.getElem?_eq_getElem hisz]
     simp[Array.getElem?_eq_getElem hisz]at hDi
     rw[hDi])
    simp only[Array.toList_setIfInBounds]
    omega
   ·intro j o' ho' hd e he hb
    simp only[hset]at hd⊢
    split
    ·rfl
    ·by_cases hji:j=i
     ·subst hji;rw[hio]at ho';cases ho';exact hedges e he hb
     ·rw[if_neg hji]at hd;exact hcl j o' ho' hd e he hb
   ·intro k hk
    rw[mem_uD]
    rcases List.mem_append.1 hk with hk|hk
    ·exact .inr ⟨i,L[i],hbi,by simp[hset],hk⟩
    ·rcases(mem_uD L _ U).1 hk with hu|⟨j,b,hb,hd,hkb⟩
     ·exact .inl hu
     ·exact .inr ⟨j,b,hb,by simp only[hset];split;rfl;exact hd,hkb⟩
   ·intro key x hx
    by_cases hkw:look L[i].wr key=none
    ·refine hfr key x (look_none.1 hkw) (hholds key x ?_)
     rw[look_stD]at hx⊢
     rw[←hx]
     congr 1
     refine lastw_congr L _ _ fun j b hb hn=>?_
     rw[hset]
     split
     ·rename_i hji;subst hji;rw[hbi]at hb;cases hb;exact absurd hkw hn
     ·rfl
    ·obtain⟨y,hy⟩:∃y,look L[i].wr key=some y:=by cases hq:look L[i].wr key with|none=>exact absurd hq hkw|some y=>exact⟨y,rfl⟩
     have hxy:x=y:=by
      rw[look_stD,lastw_congr L _ (fun j=>decide (j<i+1)) fun j b hb hn=>?_]at hx
      ·have hat:lastw L (fun j=>decide (j<i+1)) key=some y:=by
        have:∀(L:List Lab)(i:Nat)(b:Lab)(y:X),L[i]?=some b→look b.wr key=some y→lastw L (fun j=>decide (j<i+1)) key=some y:=by
         intro L
         induction L with
         |nil=>intro i b y h;simp at h
         |cons c L ihL=>
          intro i b y hb hy
          cases i with
          |zero=>
           simp at hb;subst hb
           have hz:lastw L (fun j=>decide (j+1<0+1)) key=none:=by
            have:∀M:List Lab,lastw M (fun _=>false) key=none:=by
             intro M;induction M with
             |nil=>rfl
             |cons d M ihM=>simpa[lastw]using ihM
            have he:(fun j=>decide (j+1<0+1))=(fun _:Nat=>false):=by funext j;simp
            rw[he];exact this L
           rw[lastw,hz];simpa using hy
          |succ i=>
           have he:(fun j=>decide (j+1<i+1+1))=(fun j=>decide (j<i+1)):=by funext j;simp
           rw[lastw,he,ihL i b y (by simpa using hb) hy];rfl
        exact this L i L[i] y hbi hy
       rw[hat]at hx
       cases hx;rfl
      ·rw[hset]
       split
       ·rename_i hji;subst hji;simp
       ·rename_i hji
        have:=ord j b hb (by
         left
         simp only[clash,Bool.or_eq_true]
         left;right
         cases hm:meets b.wr L[i].wr with
         |true=>rfl
         |false=>
          exfalso
          obtain⟨z,hz⟩:∃z,look b.wr key=some z:=by cases hq:look b.wr key with|none=>exact absurd hq hn|some z=>exact⟨z,rfl⟩
          exact meets_false hm ⟨_,look_mem hz,rfl⟩ _ (look_mem hy) rfl) hji
        rw[this]
        by_cases hlt:j<i
        ·simp[hlt];omega
        ·simp[hlt];omega
     subst hxy
     exact hwr _ (look_mem hy)
theorem OK.regionDraw{id:Nat}{Q:Exit→List Nat→St→Prop}(hm:E.P.follows .mixedOrders=true)(h:Lx E l.toArray l U s L U' s')(hc:drawOk l L=true)(hQ:Q .normal U' s'):
  OK E (.region id l.toArray true) Q U s:=by
 intro a w hg
 refine wpIn_region_draw fun t=>?_
 simp only[Region.schedule,hm,Bool.true_or,if_true]
 refine wpAnyIn_sound _ t _ a _ ?_
 refine draw_any h hc _ (fun a w hg=>⟨U',s',hg,hQ⟩) l.toArray.size (Array.replicate l.toArray.size false) a w.drew (by simp) ?_ ?_ ?_
 ·have:∀n:Nat,unl (List.replicate n false)=n:=by intro n;simp[unl]
  simp[this]
 ·intro i o _ hd
  exfalso
  have h0:false=true:=(repl_getD l.toArray.size i).symm.trans hd
  cases h0
 ·have:(fun j=>(Array.replicate l.toArray.size false).getD j false)=(fun _:Nat=>false):=by
   funext j
   exact repl_getD _ j
  rw[this,stD_false,uD_false]
  exact hg.drew
end
end Go.Ab
namespace Go.Ab
open Go.RowKit
def okP(U:List Nat):X→Bool
 |.ptr k _=>U.contains k
 |.own k _=>U.contains k
 |.optr k _ _=>U.contains k
 |.mptr k=>U.contains k
 |.ownp k _ _ _ _=>U.contains k
 |_=>true
def okC(U:List Nat):X→Bool
 |.fn _ caps=>caps.all (okP U)
 |x=>okP U x
def okV(U:List Nat):X→Bool
 |.agg xs=>xs.all (okC U)
 |x=>okC U x
def okT(U:List Nat):X→Bool
 |.tup xs=>xs.all (okV U)
 |x=>okV U x
def okKey(U:List Nat)(p:Nat×X):Bool:=
 if Nat.blt p.1 1000 then okT U p.2
 else match p.2 with
  |.any=>true
  |.box cells=>(U.any fun k=>Nat.beq (1000+k) p.1)&&cells.all (okC U)
  |.arr _ _=>U.any fun k=>Nat.beq (2000+k) p.1
  |.arrn _ _ mid _=>(U.any fun k=>Nat.beq (2000+k) p.1)&&mid.all (okC U)
  |.omap _=>U.any fun k=>Nat.beq (1000+k) p.1
  |.resb k _=>U.contains k
  |_=>true
theorem okU{U:List Nat}{off key:Nat}(h:(U.any fun k=>Nat.beq (off+k) key)=true):U.contains (key - off)=true:=by
 obtain⟨k,hk,e⟩:=List.any_eq_true.1 h
 have:=Nat.eq_of_beq_eq_true e
 have e2:key - off=k:=by omega
 rw[e2]
 exact List.contains_iff_mem.2 hk
def Ctx.cut(c:Ctx)(U:List Nat):Ctx:=⟨c.h,fun k=>if U.contains k then c.loc k else none,fun k=>if U.contains k then c.arr k else none,c.Y⟩
theorem RepP.cut{c:Ctx}{U:List Nat}{x:X}{v:Value}(h:RepP c x v)(ho:okP U x=true):RepP (c.cut U) x v:=by
 cases x
 case ptr k off=>obtain⟨b,h1,h2⟩:=h;exact⟨b,by simp only[okP]at ho;simp only[Ctx.cut,ho,if_true];exact h1,h2⟩
 case own k n=>obtain⟨h0,m,hv,lv,h1,h2⟩:=h;exact⟨h0,m,hv,lv,by simp only[okP]at ho;simp only[Ctx.cut,ho,if_true];exact h1,h2⟩
 case optr k n off=>obtain⟨m,hv,lv,h1,h2⟩:=h;exact⟨m,hv,lv,by simp only[okP]at ho;simp only[Ctx.cut,ho,if_true];exact h1,h2⟩
 case mptr k=>obtain⟨b,h1,h2⟩:=h;exact⟨b,by simp only[okP]at ho;simp only[Ctx.cut,ho,if_true];exact h1,h2⟩
 case ownp k n sz lo hi=>obtain⟨h0,m,hv,lv,h1,h2⟩:=h;exact⟨h0,m,hv,lv,by simp only[okP]at ho;simp only[Ctx.cut,ho,if_true];exact h1,h2⟩
 all_goals exact h
theorem All2.cut{R R':X→Value→Prop}{ok:X→Bool}(hr:∀x v,R x v→ok x=true→R' x v):∀{xs:List X}{vs:List Value},All2 R xs vs→xs.all ok=true→All2 R' xs vs
 |[],[],_,_=>trivial
 |_::_,_::_,h,ho=>by simp only[List.all_cons,Bool.and_eq_true]at ho;exact⟨hr _ _ h.1 ho.1,All2.cut hr h.2 ho.2⟩
 |[],_::_,h,_=>h.elim
 |_::_,[],h,_=>h.elim
theorem RepC.cut{c:Ctx}{U:List Nat}{x:X}{v:Value}(h:RepC c x v)(ho:okC U x=true):RepC (c.cut U) x v:=by
 cases x
 case fn f caps=>obtain⟨vs,h1,h2⟩:=h;exact⟨vs,h1,All2.cut (R':=RepP (c.cut U)) (ok:=okP U) (fun _ _ h ho=>RepP.cut h ho) h2 ho⟩
 all_goals (simp only[RepC,okC]at h ho⊢;exact RepP.cut h ho)
theorem RepV.cut{c:Ctx}{U:List Nat}{x:X}{v:Value}(h:RepV c x v)(ho:okV U x=true):RepV (c.cut U) x v:=by
 cases x
 case agg xs=>obtain⟨vs,h1,h2⟩:=h;exact⟨vs,h1,All2.cut (R':=RepC (c.cut U)) (ok:=okC U) (fun _ _ h ho=>RepC.cut h ho) h2 ho⟩
 all_goals (simp only[RepV,okV]at h ho⊢;exact RepC.cut h ho)
theorem RepT.cut{c:Ctx}{U:List Nat}{x:X}{v:Value}(h:RepT c x v)(ho:okT U x=true):RepT (c.cut U) x v:=by
 cases x
 case tup xs=>obtain⟨vs,h1,h2⟩:=h;exact⟨vs,h1,All2.cut (R':=RepV (c.cut U)) (ok:=okV U) (fun _ _ h ho=>RepV.cut h ho) h2 ho⟩
 all_goals (simp only[RepT,okT]at h ho⊢;exact RepV.cut h ho)
theorem Holds.cut{c:Ctx}{U:List Nat}{a:Act}{w:World}{key:Nat}{x:X}(h:Holds c a w key x)(ho:okKey U (key,x)=true):Holds (c.cut U) a w key x:=by
 unfold Holds at *
 unfold okKey at ho
 split at h
 ·rename_i hk
  rw[if_pos hk]
  rw[if_pos (by rw[Nat.blt_eq];exact hk)]at ho
  exact h.cut ho
 ·rename_i hk
  rw[if_neg hk]
  rw[if_neg (by rw[Nat.blt_eq];exact hk)]at ho
  refine or_snd h fun h=>?_
  split at h
  ·rename_i hk2
   rw[if_pos hk2]
   obtain⟨b,o,h1,h2,h3⟩:=h
   cases x
   case box cells=>
    obtain⟨T,vs,h4,h5⟩:=h3
    simp only[Bool.and_eq_true]at ho
    exact⟨b,o,by simp only[Ctx.cut,okU ho.1,if_true];exact h1,h2,T,vs,h4,All2.cut (R':=RepC (c.cut U)) (ok:=okC U) (fun _ _ h ho=>RepC.cut h ho) h5 ho.2⟩
   case omap es=>
    simp only at ho
    exact⟨b,o,by simp only[Ctx.cut,okU ho,if_true];exact h1,h2,h3⟩
   all_goals exact h3.elim
  ·rename_i hk2
   rw[if_neg hk2]
   split at h
   ·rename_i hk3
    rw[if_pos hk3]
    obtain⟨sz,rows,hv,e,vs,hx,h1,h2⟩:=h
    cases x
    case arr sz' rows'=>exact⟨sz,rows,hv,e,vs,hx,by simp only at ho;simp only[Ctx.cut,okU ho,if_true];exact h1,h2⟩
    case arrn sz' pre mid post=>
     obtain⟨q1,q2,v1,v2,v3,q3,q4,q5,q6⟩:=hx
     simp only[Bool.and_eq_true]at ho
     exact⟨sz,rows,hv,e,vs,⟨q1,q2,v1,v2,v3,q3,q4,All2.cut (R':=RepC (c.cut U)) (ok:=okC U) (fun _ _ h ho=>RepC.cut h ho) q5 ho.2,q6⟩,by simp only[Ctx.cut,okU ho.1,if_true];exact h1,h2⟩
    all_goals exact hx.elim
   ·rename_i hk3
    rw[if_neg hk3]
    obtain⟨hk0,J,hx0,h5⟩:=h
    refine⟨hk0,J,?_,h5⟩
    cases x
    case resb k Jb=>
     obtain⟨b,q1,q2⟩:=hx0
     simp only at ho
     exact⟨b,by simp only[Ctx.cut,ho,if_true];exact q1,q2⟩
    all_goals first|exact hx0|exact hx0.elim
theorem cut_all{c:Ctx}{U:List Nat}{b:Nat}(e:(c.cut U).all b):c.all b:=by
 have hl:∀k b,(c.cut U).loc k=some b→c.loc k=some b:=by intro k b;simp only[Ctx.cut];split<;>simp
 have ha:∀k x,(c.cut U).arr k=some x→c.arr k=some x:=by intro k x;simp only[Ctx.cut];split<;>simp
 rcases e with hy|⟨k,h2⟩|⟨k,m,hv,h2,h3⟩
 ·exact .inl hy
 ·exact .inr (.inl ⟨k,hl _ _ h2⟩)
 ·exact .inr (.inr ⟨k,m,hv,ha _ _ h2,h3⟩)
theorem Base.cut{E:Env}{U:List Nat}{c:Ctx}{a:Act}{w:World}(h:Base E U c a w)(U':List Nat):Base E U' (c.cut U') a w:=by
 have hl:∀k b,(c.cut U').loc k=some b→c.loc k=some b:=by intro k b;simp only[Ctx.cut];split<;>simp
 have ha:∀k x,(c.cut U').arr k=some x→c.arr k=some x:=by intro k x;simp only[Ctx.cut];split<;>simp
 refine⟨h.below,h.hB,h.nt,⟨h.dfr.1,fun d hd=>by obtain⟨D,h1,h2,h3,h4⟩:=h.dfr.2 d hd;exact⟨D,h1,h2,fun e=>h3 (cut_all e),h4⟩⟩,(fun p hp=>by obtain⟨h1,h2⟩:=h.pin p hp;exact⟨fun e=>h1 (cut_all e),h2⟩),h.hw,h.hle,h.hnew,?_,?_,?_,fun b hb=>⟨(h.Y b hb).1,(h.Y b hb).2.1,fun k hk=>(h.Y b hb).2.2.1 k (hl k b hk),fun k m hv hk=>(h.Y b hb).2.2.2 k m hv (ha _ _ hk)⟩,fun k b hk hl'=>h.loc0 k b hk (hl _ _ hl'),fun k m hv lv hk ha'=>h.arr0 k m hv lv hk (ha _ _ ha')⟩
 ·intro k b hk
  obtain⟨h1,h2,h3,h4,h5⟩:=h.loc k b (hl k b hk)
  exact⟨h1,h2,h3,fun k' hk'=>h4 k' (hl _ _ hk'),fun k' m hv hk'=>h5 k' m hv (ha _ _ hk')⟩
 ·intro k m hv b hk hb
  obtain⟨h1,h2,h3,h4⟩:=h.arr k m hv b (ha _ _ hk) hb
  exact⟨h1,h2,h3,fun k' m' hv' hk'=>h4 k' m' hv' (ha _ _ hk')⟩
 ·intro k hk
  simp[Ctx.cut,hk]
def Le(s:St):St→Prop
 |[]=>True
 |p::r=>look s p.1=some p.2∧Le s r
theorem Le.look{s:St}:∀{r:St},Le s r→∀k x,look r k=some x→look s k=some x
 |[],_,_,_,h=>by cases h
 |p::r,h,k,x,hx=>by
  simp only[Ab.look]at hx
  split at hx
  ·rename_i hb;have:=Nat.eq_of_beq_eq_true hb;cases hx;rw[←this];exact h.1
  ·exact Le.look h.2 k x hx
theorem Good.le{E:Env}{U U':List Nat}{s s':St}{a:Act}{w:World}(h:Good E U s a w)(hl:Le s s')(ho:s'.all (okKey U')=true):Good E U' s' a w:=by
 obtain⟨c,hb,hh⟩:=h
 refine⟨c.cut U',hb.cut U',fun key x hx=>Holds.cut (hh key x (hl.look key x hx)) ?_⟩
 exact List.all_eq_true.1 ho _ (look_mem hx)
theorem lk_own{k n n':Nat}(h:n=n'):some (X.own k n)=some (X.own k n'):=by rw[h]
theorem lk_arr{sz:Nat}{rows rows':List (List X)}(h:rows=rows'):some (X.arr sz rows)=some (X.arr sz rows'):=by rw[h]
inductive Kn where
 |code (c:Code)
 |blk (id:Nat)
 |lp (J:List Nat→St→Prop)
def den(E:Env)(Q:Exit→List Nat→St→Prop):List Kn→Exit→List Nat→St→Prop
 |[],e,U,s=>Q e U s
 |.code c::k,.normal,U,s=>OK E c (den E Q k) U s
 |.code _::k,e,U,s=>den E Q k e U s
 |.blk id::k,.exit i,U,s=>if Nat.beq i id then den E Q k .normal U s else den E Q k (.exit i) U s
 |.blk _::k,e,U,s=>den E Q k e U s
 |.lp J::_,.normal,U,s=>J U s
 |.lp _::k,e,U,s=>den E Q k e U s
section
variable{E:Env}{Q:Exit→List Nat→St→Prop}{k:List Kn}{U:List Nat}{s:St}
theorem D.code{c:Code}(h:OK E c (den E Q k) U s):den E Q (.code c::k) .normal U s:=h
theorem D.blk{id:Nat}(h:den E Q k .normal U s):den E Q (.blk id::k) .normal U s:=h
theorem D.lp{J:List Nat→St→Prop}(h:J U s):den E Q (.lp J::k) .normal U s:=h
theorem D.ret(h:Q .ret U s){k:List Kn}:den E Q k .ret U s:=by
 induction k with
 |nil=>exact h
 |cons x k ih=>cases x<;>exact ih
def popTo(id:Nat):List Kn→Option (List Kn)
 |[]=>none
 |.blk i::k=>if Nat.beq id i then some k else popTo id k
 |_::k=>popTo id k
theorem D.exit{id:Nat}{k':List Kn}(h:den E Q k' .normal U s){k:List Kn}(hp:popTo id k=some k'):den E Q k (.exit id) U s:=by
 induction k with
 |nil=>cases hp
 |cons x k ih=>
  cases x with
  |code c=>exact ih hp
  |lp J=>exact ih hp
  |blk i=>
   simp only[popTo]at hp
   simp only[den]
   split
   ·rename_i hb;rw[if_pos hb]at hp;cases hp;exact h
   ·rename_i hb;rw[if_neg hb]at hp;exact ih hp
theorem OK.mono{Q':Exit→List Nat→St→Prop}{c:Code}(h:OK E c Q U s)(hq:∀e U s,Q e U s→Q' e U s):OK E c Q' U s:=
 fun a w hg=>wpIn_mono (h a w hg) fun _ _ _ ⟨U',s',hg',hQ⟩=>⟨U',s',hg',hq _ _ _ hQ⟩
theorem OK.weak{U':List Nat}{s':St}{c:Code}(h:OK E c Q U' s')(hl:Le s s')(ho:s'.all (okKey U')=true):OK E c Q U s:=
 fun a w hg=>h a w (hg.le hl ho)
theorem OK.skip(h:den E Q k .normal U s):OK E .skip (den E Q k) U s:=fun _ _ hg=>wpIn_skip ⟨U,s,hg,h⟩
theorem OK.ret(h:Q .ret U s):OK E .ret (den E Q k) U s:=fun _ _ hg=>wpIn_ret ⟨U,s,hg,D.ret h⟩
theorem OK.exit{id:Nat}{k':List Kn}(hp:popTo id k=some k')(h:den E Q k' .normal U s):OK E (.exit id) (den E Q k) U s:=fun _ _ hg=>wpIn_exit ⟨U,s,hg,D.exit h hp⟩
theorem OK.seq{x y:Code}(h:OK E x (den E Q (.code y::k)) U s):OK E (.seq x y) (den E Q k) U s:=by
 intro a w hg
 refine wpIn_seq (wpIn_mono (h a w hg) ?_)
 rintro e a' w' ⟨U',s',hg',hq⟩
 cases e with
 |normal=>exact hq a' w' hg'
 |_=>exact⟨U',s',hg',hq⟩
theorem OK.block{id:Nat}{x:Code}(h:OK E x (den E Q (.blk id::k)) U s):OK E (.block id x) (den E Q k) U s:=by
 intro a w hg
 refine wpIn_block (wpIn_mono (h a w hg) ?_)
 rintro e a' w' ⟨U',s',hg',hq⟩
 cases e with
 |exit i=>
  simp only[Exit.inBlock]
  simp only[den]at hq
  split
  ·rename_i he;rw[if_pos (by rw[he];exact Nat.beq_refl id)]at hq;exact⟨U',s',hg',hq⟩
  ·rename_i he;rw[if_neg (fun hb=>he (Nat.eq_of_beq_eq_true hb))]at hq;exact⟨U',s',hg',hq⟩
 |_=>exact⟨U',s',hg',hq⟩
theorem OK.cond{t:Nat}{b:Bool}{x y:Code}(ht:Nat.blt t 1000=true)(hl:look s t=some (.bool b))(hx:b=true→OK E x Q U s)(hy:b=false→OK E y Q U s):OK E (.cond (.tmp t) x y) Q U s:=by
 intro a w hg
 obtain⟨c,hb,hh⟩:=hg
 have h1:=hh t _ hl
 rw[Nat.blt_eq]at ht
 simp only[Holds,if_pos ht,RepT,RepV,RepC,RepP]at h1
 have he:a.eval (.tmp t)=.bool b:=by
  show a.tmps.getD t undef=.bool b
  generalize a.tmps.getD t undef=v at h1
  cases h1;rfl
 refine wpIn_cond_split he (fun hb'=>hx hb' a w ⟨c,hb,hh⟩) (fun hb'=>hy hb' a w ⟨c,hb,hh⟩)
theorem wpIn_loopG{F:Fence}{n:Nat}{P:Program}{R:Exit→Act→World→Prop}{a:Act}{w:World}{c:Code}{G:Type}(I:G→Act→World→Prop)(μ:G→Nat)(g0:G)(h0:I g0 a w)
  (round:∀g a w,I g a w→c.wpIn F n P (Exit.then (fun a' w'=>∃g',I g' a' w'∧μ g'<μ g) R) a w):(Code.loop c).wpIn F n P R a w:=by
 intro b k cs hro hb hr
 have key:∀j g a w,μ g=j→I g a w→∃e a' w',R e a' w'∧ArrivesIn (Machine.fenced P F) P (lone (b.atR a (.code c::.inLoop c::k)) cs w) b k cs e a' w':=by
  intro j
  induction j using Nat.strongRecOn with
  |_ j ih=>
   intro g a w hn hI
   obtain⟨e,a₁,w₁,hq,harr⟩:=round g a w hI b (.inLoop c::k) cs hro hb hr
   cases e with
   |normal=>
    obtain⟨g₁,hI₁,hlt⟩:=hq
    obtain⟨e₂,a₂,w₂,hq₂,harr₂⟩:=ih (μ g₁) (hn▸hlt) g₁ a₁ w₁ rfl hI₁
    exact⟨e₂,a₂,w₂,hq₂,.of_steps (StepsIn.trans harr (.one (fenced_calm hb hr rfl) stepR_inLoop)) harr₂⟩
   |exit id=>exact⟨_,a₁,w₁,hq,.pass (x:=.inLoop c) rfl (fun _ _=>.inl (by simp)) harr⟩
   |goto l=>exact⟨_,a₁,w₁,hq,.pass (x:=.inLoop c) rfl (fun _ _=>.inl (by simp)) harr⟩
   |ret=>exact⟨_,a₁,w₁,hq,.pass (x:=.inLoop c) rfl (fun _ _=>.inl (by simp)) harr⟩
   |panic ch=>exact⟨_,a₁,w₁,hq,.pass (x:=.inLoop c) rfl (fun _ _=>.inl (by simp)) harr⟩
   |outgrown=>exact⟨_,a₁,w₁,hq,.pass (x:=.inLoop c) rfl (fun _ _=>.inl (by simp)) harr⟩
 obtain⟨e,a',w',hq,harr⟩:=key _ g0 a w rfl h0
 exact⟨e,a',w',hq,.of_steps (.one (fenced_calm hb hr rfl) stepR_loop) harr⟩
theorem OK.loop{G:Type}(u:List Nat)(st:G→St)(pre:G→Prop)(μ:G→Nat){body:Code}(g0:G)(h0:pre g0)(hl:Le s (st g0))(ho:∀g,(st g).all (okKey u)=true)
  (hbody:∀g,pre g→OK E body (den E Q (.lp (fun _ s'=>∃g',pre g'∧μ g'<μ g∧Le s' (st g'))::k)) u (st g)):OK E (.loop body) (den E Q k) U s:=by
 intro a w hg
 refine wpIn_loopG (fun g a' w'=>pre g∧Good E u (st g) a' w') μ g0 ⟨h0,hg.le hl (ho g0)⟩ ?_
 rintro g a' w' ⟨hp,hg'⟩
 refine wpIn_mono (hbody g hp a' w' hg') ?_
 rintro e a2 w2 ⟨U2,s2,hg2,hq⟩
 cases e with
 |normal=>
  obtain⟨g2,hp2,hm2,hl2⟩:=hq
  exact⟨g2,⟨hp2,hg2.le hl2 (ho g2)⟩,hm2⟩
 |_=>exact⟨U2,s2,hg2,hq⟩
theorem den_lp{J J':List Nat→St→Prop}(h:∀U s,J U s→J' U s):∀e U s,den E Q (.lp J::k) e U s→den E Q (.lp J'::k) e U s:=by
 intro e U s hd
 cases e with
 |normal=>exact h U s hd
 |_=>exact hd
theorem OK.loop2{A B:Type}(u:List Nat)(st:A→B→St)(pre:A→B→Prop)(μ:A→B→Nat){body:Code}(a0:A)(b0:B)(h0:pre a0 b0)(hl:Le s (st a0 b0))(ho:∀a b,(st a b).all (okKey u)=true)
  (hbody:∀a b,pre a b→OK E body (den E Q (.lp (fun _ s'=>∃a' b',pre a' b'∧μ a' b'<μ a b∧Le s' (st a' b'))::k)) u (st a b)):OK E (.loop body) (den E Q k) U s:=
 OK.loop (G:=A×B) u (fun g=>st g.1 g.2) (fun g=>pre g.1 g.2) (fun g=>μ g.1 g.2) (a0,b0) h0 hl (fun g=>ho g.1 g.2) fun g hp=>(hbody g.1 g.2 hp).mono (den_lp fun _ _ ⟨a,b,h⟩=>⟨(a,b),h⟩)
theorem OK.loop3{A B C:Type}(u:List Nat)(st:A→B→C→St)(pre:A→B→C→Prop)(μ:A→B→C→Nat){body:Code}(a0:A)(b0:B)(c0:C)(h0:pre a0 b0 c0)(hl:Le s (st a0 b0 c0))(ho:∀a b c,(st a b c).all (okKey u)=true)
  (hbody:∀a b c,pre a b c→OK E body (den E Q (.lp (fun _ s'=>∃a' b' c',pre a' b' c'∧μ a' b' c'<μ a b c∧Le s' (st a' b' c'))::k)) u (st a b c)):OK E (.loop body) (den E Q k) U s:=
 OK.loop (G:=A×B×C) u (fun g=>st g.1 g.2.1 g.2.2) (fun g=>pre g.1 g.2.1 g.2.2) (fun g=>μ g.1 g.2.1 g.2.2) (a0,b0,c0) h0 hl (fun g=>ho g.1 g.2.1 g.2.2) fun g hp=>(hbody g.1 g.2.1 g.2.2 hp).mono (den_lp fun _ _ ⟨a,b,c,h⟩=>⟨(a,b,c),h⟩)
theorem OK.loop4{A B C D:Type}(u:List Nat)(st:A→B→C→D→St)(pre:A→B→C→D→Prop)(μ:A→B→C→D→Nat){body:Code}(a0:A)(b0:B)(c0:C)(d0:D)(h0:pre a0 b0 c0 d0)(hl:Le s (st a0 b0 c0 d0))(ho:∀a b c d,(st a b c d).all (okKey u)=true)
  (hbody:∀a b c d,pre a b c d→OK E body (den E Q (.lp (fun _ s'=>∃a' b' c' d',pre a' b' c' d'∧μ a' b' c' d'<μ a b c d∧Le s' (st a' b' c' d'))::k)) u (st a b c d)):OK E (.loop body) (den E Q k) U s:=
 OK.loop (G:=A×B×C×D) u (fun g=>st g.1 g.2.1 g.2.2.1 g.2.2.2) (fun g=>pre g.1 g.2.1 g.2.2.1 g.2.2.2) (fun g=>μ g.1 g.2.1 g.2.2.1 g.2.2.2) (a0,b0,c0,d0) h0 hl (fun g=>ho g.1 g.2.1 g.2.2.1 g.2.2.2) fun g hp=>(hbody g.1 g.2.1 g.2.2.1 g.2.2.2 hp).mono (den_lp fun _ _ ⟨a,b,c,d,h⟩=>⟨(a,b,c,d),h⟩)
end
end Go.Ab
