import Derived.IntWalk
import Derived.Test.YtpbalelbenmmbaaGreatDoorFa
namespace Go.Ab
open Go.RowKit
def litX:Value→X
 |.int k n=>.int k n
 |.bool b=>.bool b
 |.string s=>.str s.data.toList
 |.slice none 0 0=>.nils
 |v=>.raw v
def litOk:Value→Bool
 |.int k n=>k.wrap n==n
 |.string s=>Nat.ble s.data.toList.length maxLen
 |_=>true
theorem litX_rep{c:Ctx}{v:Value}(h:litOk v=true):RepC c (litX v) v:=by
 cases v with
 |int k n=>exact RepD.int (by simpa[litOk]using h)
 |bool b=>exact RepD.bool b
 |string s=>exact RepD.str (h:=c.h) s.data.toList (by simpa[litOk]using h)
 |slice a l cp=>
  cases a with
  |none=>cases l with
   |zero=>cases cp<;>exact rfl
   |succ l=>exact rfl
  |some a=>exact rfl
 |_=>exact rfl
inductive OpS(s:St):Operand→X→St→Prop
 |tmp {t:Nat} {y:X}:Nat.blt t 1000=true→look s t=some y→OpS s (.tmp t) y [(t,y)]
 |cint {k:IntKind} {n:Int}:k.wrap n=n→OpS s (.const (.int k n)) (.int k n) []
 |cbool {b:Bool}:OpS s (.const (.bool b)) (.bool b) []
 |cstr {bs:ByteArray} {l:List UInt8}:bs=⟨l.toArray⟩→l.length≤maxLen→OpS s (.const (.string bs)) (.str l) []
 |cnil:OpS s (.const (.slice none 0 0)) (.sl []) []
 |cfn {f:Nat}:OpS s (.func f) (.fn f []) []
 |cnils:OpS s (.const (.slice none 0 0)) .nils []
 |cagg {vs:Array Value} {xs:List X}:vs.toList.map litX=xs→vs.toList.all litOk=true→OpS s (.const (.agg vs)) (.agg xs) []
 |craw {v:Value}:OpS s (.const v) (.raw v) []
theorem lits_rep{c:Ctx}:∀{vs:List Value},vs.all litOk=true→All2 (RepC c) (vs.map litX) vs
 |[],_=>trivial
 |v::vs,h=>by simp only[List.all_cons,Bool.and_eq_true]at h;exact⟨litX_rep h.1,lits_rep h.2⟩
theorem RepD.toT{c:Ctx}{x:X}{v:Value}(h:RepD c.h x v):RepT c x v:=by
 cases h with
 |int e=>exact .int e
 |bool b=>exact .bool b
 |str s e=>exact .str s e
 |sl0 a cap e=>exact .sl0 a cap e
 |sl rows b off cap sz vs h1 h2 h3 h4 h5 h6=>exact .sl rows b off cap sz vs h1 h2 h3 h4 h5 h6
 |eptr cells b off vs h1 h2 h3=>exact .eptr cells b off vs h1 h2 h3
 |raw u e=>exact rfl
theorem RepD.toC{c:Ctx}{x:X}{v:Value}(h:RepD c.h x v):RepC c x v:=by
 cases h with
 |int e=>exact .int e
 |bool b=>exact .bool b
 |str s e=>exact .str s e
 |sl0 a cap e=>exact .sl0 a cap e
 |sl rows b off cap sz vs h1 h2 h3 h4 h5 h6=>exact .sl rows b off cap sz vs h1 h2 h3 h4 h5 h6
 |eptr cells b off vs h1 h2 h3=>exact .eptr cells b off vs h1 h2 h3
 |raw u e=>exact rfl
theorem Holds.slot{c:Ctx}{a:Act}{w:World}{t:Nat}{x:X}(h:Holds c a w t x)(ht:Nat.blt t 1000=true):RepT c x (a.tmps.getD t undef):=by
 unfold Holds at h
 rwa [if_pos (by rw[Nat.blt_eq]at ht;exact ht)]at h
theorem OpS.looks{s:St}{o:Operand}{y:X}{r:St}(h:OpS s o y r):Looks s r:=by
 cases h with
 |tmp _ h=>exact⟨h,trivial⟩
 |_=>exact trivial
theorem OpS.rep{s:St}{o:Operand}{y:X}{r:St}(h:OpS s o y r){c:Ctx}{a:Act}{w:World}(hr:∀p∈r,Holds c a w p.1 p.2):RepT c y (a.eval o):=by
 cases h with
 |tmp ht _=>exact(hr _ List.mem_cons_self).slot ht
 |cint e=>exact RepD.toT (.int e)
 |cbool=>exact RepD.toT (.bool _)
 |cstr e hl=>subst e;exact RepD.toT (.str _ hl)
 |cnil=>exact RepD.toT (.sl0 none 0 (Nat.zero_le _))
 |cfn=>exact⟨[],rfl,trivial⟩
 |cnils=>exact rfl
 |cagg e hl=>subst e;exact⟨_,by simp[Act.eval],lits_rep hl⟩
 |craw=>exact rfl
inductive Gd(all:Array Oper)(s:St):Option (Nat×Bool)→St→Prop
 |none:Gd all s none []
 |yes {j t:Nat} {b b':Bool}:(all[j]?).bind (·.dst)=some t→Nat.blt t 1000=true→look s t=some (.bool b')→b'=b→Gd all s (some (j,b)) [(t,.bool b')]
theorem Gd.looks{all:Array Oper}{s:St}{g:Option (Nat×Bool)}{r:St}(h:Gd all s g r):Looks s r:=by
 cases h with
 |none=>exact trivial
 |yes _ _ h _=>exact⟨h,trivial⟩
theorem bool_slot{c:Ctx}{a:Act}{t:Nat}{b:Bool}(h:RepT c (.bool b) (a.tmps.getD t undef)):a.tmps[t]?=some (.bool b):=by
 have h1:a.tmps.getD t undef=.bool b:=by
  generalize a.tmps.getD t undef=v at h
  cases h;rfl
 simp only[Array.getD]at h1
 split at h1
 ·rename_i ht;simp only[Array.getInternal_eq_getElem]at h1;rw[Array.getElem?_eq_getElem ht,h1]
 ·cases h1
theorem Gd.wanted{all:Array Oper}{s:St}{o:Oper}{r:St}(h:Gd all s o.guard r){c:Ctx}{a:Act}{w:World}(hr:∀p∈r,Holds c a w p.1 p.2):
  Region.wanted o (yielded all a.tmps)=true:=by
 unfold Region.wanted
 generalize o.guard=g at h
 cases h with
 |none=>rfl
 |yes hd ht _ he=>
  subst he
  have:=bool_slot ((hr _ List.mem_cons_self).slot ht)
  simp[yielded,hd,this]
theorem Looks.app{s:St}:∀{r r':St},Looks s r→Looks s r'→Looks s (r++r')
 |[],_,_,h=>h
 |_::_,_,h,h'=>⟨h.1,Looks.app h.2 h'⟩
def St1(E:Env)(all:Array Oper)(o:Oper)(s rd wr:St)(al:List Nat):Prop:=Step E all o rd wr al∧Looks s rd
theorem Lx.c{E:Env}{all:Array Oper}{o:Oper}{l:List Oper}{U U':List Nat}{s s':St}{L:List Lab}{rd wr:St}{al:List Nat}(h:St1 E all o s rd wr al)
 (hr:Lx E all l (al++U) (wr++s) L U' s') (ha:(al.all fun k=>!U.contains k)=true:=by rfl):Lx E all (o::l) U s (⟨rd,wr,al⟩::L) U' s':=.cons h.1 h.2 ha hr
def isDefer:Op→Bool
 |.defer _=>true
 |_=>false
theorem Base.put{E:Env}{U:List Nat}{c:Ctx}{a:Act}{w:World}(h:Base E U c a w)(d:Option Tmp)(v:Value):Base E U c (a.put d v) w:=by
 refine⟨h.below,h.hB,?_,?_,h.pin,h.hw,h.hle,h.hnew,h.loc,h.arr,h.used,h.Y,h.loc0,h.arr0⟩
 ·cases d<;>simp[Act.put,h.nt]
 ·cases d<;>exact h.dfr
theorem Holds.put{c:Ctx}{a:Act}{w:World}{d key:Nat}{x:X}(h:Holds c a w key x)(hne:d≠key)(v:Value):Holds c (a.put (some d) v) w key x:=by
 unfold Holds at *
 split at h
 ·rename_i hk
  rw[if_pos hk]
  simpa[Act.put,Array.getElem?_setIfInBounds_ne hne]using h
 ·rename_i hk;rw[if_neg hk];exact h
theorem getD_put{a:Act}{d:Nat}(hd:d<a.tmps.size)(v:Value):(a.put (some d) v).tmps.getD d undef=v:=by
 simp[Act.put,hd]
def Does(E:Env)(op:Op)(o:Oper)(r wr:St)(al:List Nat)(x:X):Prop:=
 ∀(U:List Nat)(c:Ctx)(a:Act)(w:World),Base E U c a w→(∀p∈r,Holds c a w p.1 p.2)→(∀k∈al,k∉U)→
  ∃v c' w',(execOp a.eval {o with op:=op}).run E.P w=.ok (.value v) w'∧Base E (al++U) c' a w'∧Ext c c'∧RepT c' x v∧
   (∀p∈wr,¬p.1<1000∧Holds c' a w' p.1 p.2)∧(∀key y,¬key<1000→(∀p∈wr,p.1≠key)→Holds c a w key y→Holds c' a w' key y)
theorem St1.mk{E:Env}{all:Array Oper}{s r rg wr:St}{al:List Nat}{d ty:Nat}{op:Op}{pos:String}{after:Array Edge}{guard:Option (Nat×Bool)}{x:X}
  (hg:Gd all s guard rg) (hd:(Nat.blt d 1000&&Nat.blt d E.nt)=true) (hdef:isDefer op=false) (hl:Looks s r)
  (h:Does E op ⟨some d,op,ty,pos,after,guard⟩ r wr al x):St1 E all ⟨some d,op,ty,pos,after,guard⟩ s (rg++r) ((d,x)::wr) al:=by
 simp only[Bool.and_eq_true,Nat.blt_eq]at hd
 refine⟨?_,hg.looks.app hl⟩
 intro U c a w hb hr hal next Q hn
 obtain⟨v,c',w',hrun,hb',hext,hx,hwr,hfr⟩:=h U c a w hb (fun p hp=>hr p (List.mem_append_right _ hp)) hal
 have hw:=hg.wanted (o:=⟨some d,op,ty,pos,after,guard⟩) (fun p hp=>hr p (List.mem_append_left _ hp))
 unfold opIn
 rw[if_pos hw]
 refine⟨fun _ _=>trivial,?_⟩
 have hs:Oper.semAt E.F.round a.eval ⟨some d,op,ty,pos,after,guard⟩=execOp a.eval ⟨some d,op,ty,pos,after,guard⟩:=
  Oper.semAt_eq _ _ _ fun cl he=>by simp only at he;rw[he]at hdef;cases hdef
 rw[hs,hrun]
 have hdt:d<a.tmps.size:=by rw[hb.nt];exact hd.2
 refine hn c' _ w' (hb'.put _ _) hext ?_ ?_
 ·intro p hp
  rcases List.mem_cons.1 hp with rfl|hp
  ·unfold Holds;rw[if_pos hd.1,getD_put hdt];exact hx
  ·exact(hwr p hp).2.put (fun e=>(hwr p hp).1 (e▸hd.1)) v
 ·intro key y hk hy
  have hne:d≠key:=hk (d,x) List.mem_cons_self
  by_cases h1:key<1000
  ·refine Holds.put ?_ hne v
   unfold Holds at hy⊢
   rw[if_pos h1]at hy⊢
   exact hy.mono hext
  ·exact(hfr key y h1 (fun p hp=>hk p (List.mem_cons_of_mem _ hp)) hy).put hne v
theorem St1.val{E:Env}{all:Array Oper}{s r rg:St}{d ty:Nat}{op:Op}{pos:String}{after:Array Edge}{guard:Option (Nat×Bool)}{x:X}
  (hg:Gd all s guard rg) (hd:(Nat.blt d 1000&&Nat.blt d E.nt)=true) (hdef:isDefer op=false) (hl:Looks s r)
  (h:∀(c:Ctx)(a:Act)(w:World),(∀p v,c.h p=some v→w.cell? p=some v)→(∀p∈r,Holds c a w p.1 p.2)→
   ∃v,(execOp a.eval ⟨some d,op,ty,pos,after,guard⟩).run E.P w=.ok (.value v) w∧RepT c x v):St1 E all ⟨some d,op,ty,pos,after,guard⟩ s (rg++r) [(d,x)] []:=by
 refine St1.mk hg hd hdef hl fun U c a w hb hr _=>?_
 obtain⟨v,h1,h2⟩:=h c a w hb.hw hr
 exact⟨v,c,w,h1,hb,Ext.refl c,h2,(fun p hp=>by cases hp),fun key y _ _ hy=>hy⟩
theorem step_skip{E:Env}{all:Array Oper}{s r:St}{d ty j:Nat}{op:Op}{pos:String}{after:Array Edge}{b':Bool}(hl:Looks s r)(hd:(Nat.blt d 1000&&Nat.blt d E.nt)=true)
  (hn:∀c a w,(∀p∈r,Holds c a w p.1 p.2)→(yielded all a.tmps j==some b')=false):St1 E all ⟨some d,op,ty,pos,after,some (j,b')⟩ s r [(d,.tup [])] []:=by
 simp only[Bool.and_eq_true,Nat.blt_eq]at hd
 refine⟨?_,hl⟩
 intro U c a w hbase hr _ next Q hnx
 have hw:Region.wanted (⟨some d,op,ty,pos,after,some (j,b')⟩:Oper) (yielded all a.tmps)=false:=hn c a w hr
 unfold opIn
 rw[if_neg (by rw[hw];simp)]
 have hdt:d<a.tmps.size:=by rw[hbase.nt];exact hd.2
 refine hnx c _ w (hbase.put _ _) (Ext.refl c) ?_ ?_
 ·intro p hp
  simp only[List.mem_singleton]at hp
  subst hp
  unfold Holds
  rw[if_pos hd.1,getD_put hdt]
  exact⟨[],rfl,trivial⟩
 ·intro key y hk hy
  exact hy.put (hk (d,.tup []) (by simp)) _
theorem S.skip{E:Env}{all:Array Oper}{s:St}{d ty j t:Nat}{op:Op}{pos:String}{after:Array Edge}{b b':Bool}
  (ht:(all[j]?).bind (·.dst)=some t) (ht2:Nat.blt t 1000=true) (hl:look s t=some (.bool b)) (hb:(b==b')=false) (hd:(Nat.blt d 1000&&Nat.blt d E.nt)=true):St1 E all ⟨some d,op,ty,pos,after,some (j,b')⟩ s [(t,.bool b)] [(d,.tup [])] []:=
 step_skip ⟨hl,trivial⟩ hd fun c a w hr=>by
  have h1:=bool_slot ((hr (t,.bool b) List.mem_cons_self).slot ht2)
  simp only[yielded,ht,Option.bind_some,h1]
  simpa using hb
theorem S.skipU{E:Env}{all:Array Oper}{s:St}{d ty j t:Nat}{op:Op}{pos:String}{after:Array Edge}{b':Bool}
  (ht:(all[j]?).bind (·.dst)=some t) (ht2:Nat.blt t 1000=true) (hl:look s t=some (.tup [])) (hd:(Nat.blt d 1000&&Nat.blt d E.nt)=true):St1 E all ⟨some d,op,ty,pos,after,some (j,b')⟩ s [(t,.tup [])] [(d,.tup [])] []:=
 step_skip ⟨hl,trivial⟩ hd fun c a w hr=>by
  obtain⟨vs,h1,h2⟩:=(hr (t,.tup []) List.mem_cons_self).slot ht2
  have h3:vs=[]:=All2.nil_left h2
  subst h3
  have h4:∀b,a.tmps[t]?≠some (.bool b):=fun b e=>by
   have:a.tmps.getD t undef=.bool b:=by simp[Array.getD_eq_getD_getElem?,e]
   rw[this]at h1;cases h1
  simp only[yielded,ht,Option.bind_some]
  first
  |rfl
  |(split
    ·rename_i e;exact absurd e (h4 _)
    ·rfl)
end Go.Ab
namespace Go.Ab
open Go.RowKit
structure TyI(P:Program)(T:TypeId)(agg:Bool)(sz:Nat):Prop where
 agg:∀w,(isAgg T).run P w=.ok agg w
 size:∀w,(sizeOf T).run P w=.ok sz w
structure FiI(P:Program)(T f off:Nat):Prop where
 ex:∃fields fl n,P.underlying T=some (.struct fields)∧fields[f]?=some fl∧fl.offset=off∧n≠0∧∀w,(sizeOf fl.type).run P w=.ok n w
structure SlI(P:Program)(t e sz:Nat):Prop where
 und:P.underlying t=some (.slice e)
 size:∀w,(sizeOf e).run P w=.ok sz w
def isTup:X→Bool
 |.tup _=>true
 |_=>false
def isAT:X→Bool
 |.tup _|.agg _=>true
 |_=>false
def notCell:X→Bool
 |.tup _|.agg _|.fn _ _=>true
 |_=>false
theorem int_of{c:Ctx}{k:IntKind}{n:Int}{v:Value}(h:RepT c (.int k n) v):v=.int k n∧k.wrap n=n:=by cases h;exact⟨rfl,‹_›⟩
theorem bool_of{c:Ctx}{b:Bool}{v:Value}(h:RepT c (.bool b) v):v=.bool b:=by cases h;rfl
theorem str_of{c:Ctx}{l:List UInt8}{v:Value}(h:RepT c (.str l) v):v=.string ⟨l.toArray⟩∧l.length≤maxLen:=by cases h;exact⟨rfl,‹_›⟩
section
variable{E:Env}{all:Array Oper}{s r r1 r2 r3 rg:St}{d ty:Nat}{pos:String}{after:Array Edge}{guard:Option (Nat×Bool)}{x y z:Operand}{k:IntKind}{m n:Int}{a b:Bool}
theorem S.move{u:X}(hg:Gd all s guard rg)(hd:(Nat.blt d 1000&&Nat.blt d E.nt)=true)(hx:OpS s x u r):St1 E all ⟨some d,.move x,ty,pos,after,guard⟩ s (rg++r) [(d,u)] []:=
 St1.val hg hd rfl hx.looks fun _ _ _ _ hr=>⟨_,rfl,hx.rep hr⟩
theorem S.assign{u:X}(hg:Gd all s guard rg)(hd:(Nat.blt d 1000&&Nat.blt d E.nt)=true)(hx:OpS s x u r):St1 E all ⟨some d,.assign x,ty,pos,after,guard⟩ s (rg++r) [(d,u)] []:=
 St1.val hg hd rfl hx.looks fun _ _ _ _ hr=>⟨_,rfl,hx.rep hr⟩
theorem S.pick{p q:Bool}(hg:Gd all s guard rg)(hd:(Nat.blt d 1000&&Nat.blt d E.nt)=true)(hx:OpS s x (.bool a) r1)(hy:OpS s y (.bool p) r2)(hz:OpS s z (.bool q) r3):
  St1 E all ⟨some d,.pick x y z,ty,pos,after,guard⟩ s (rg++(r1++(r2++r3))) [(d,.bool (bif a then p else q))] []:=
 St1.val hg hd rfl (hx.looks.app (hy.looks.app hz.looks)) fun c A w _ hr=>by
  have h1:=bool_of (hx.rep (c:=c) (a:=A) (w:=w) fun p hp=>hr p (by simp[hp]))
  have h2:=bool_of (hy.rep (c:=c) (a:=A) (w:=w) fun p hp=>hr p (by simp[hp]))
  have h3:=bool_of (hz.rep (c:=c) (a:=A) (w:=w) fun p hp=>hr p (by simp[hp]))
  refine⟨.bool (bif a then p else q),?_,RepD.toT (.bool _)⟩
  cases a<;>simp[execOp,h1,h2,h3,asBool]
theorem S.pickT{u:X}(hg:Gd all s guard rg)(hd:(Nat.blt d 1000&&Nat.blt d E.nt)=true)(hx:OpS s x (.bool a) r1)(hy:OpS s y u r2)(ha:a=true):
  St1 E all ⟨some d,.pick x y z,ty,pos,after,guard⟩ s (rg++(r1++r2)) [(d,u)] []:=
 St1.val hg hd rfl (hx.looks.app hy.looks) fun c A w _ hr=>by
  have h1:=bool_of (hx.rep (c:=c) (a:=A) (w:=w) fun p hp=>hr p (by simp[hp]))
  subst ha
  exact⟨_,by simp[execOp,h1,asBool],hy.rep fun p hp=>hr p (by simp[hp])⟩
theorem S.pickF{u:X}(hg:Gd all s guard rg)(hd:(Nat.blt d 1000&&Nat.blt d E.nt)=true)(hx:OpS s x (.bool a) r1)(hz:OpS s z u r2)(ha:a=false):
  St1 E all ⟨some d,.pick x y z,ty,pos,after,guard⟩ s (rg++(r1++r2)) [(d,u)] []:=
 St1.val hg hd rfl (hx.looks.app hz.looks) fun c A w _ hr=>by
  have h1:=bool_of (hx.rep (c:=c) (a:=A) (w:=w) fun p hp=>hr p (by simp[hp]))
  subst ha
  exact⟨_,by simp[execOp,h1,asBool],hz.rep fun p hp=>hr p (by simp[hp])⟩
theorem S.int2{op:BinOp}{t t2:Nat}{u:X}{v:Value}(hg:Gd all s guard rg)(hd:(Nat.blt d 1000&&Nat.blt d E.nt)=true)(hx:OpS s x (.int k m) r1)(hy:OpS s y (.int k n) r2)
  (hrun:k.wrap m=m→k.wrap n=n→(∀w,(binOp op t (.int k m) (.int k n)).run E.P w=.ok v w)∧∀c,RepT c u v):
  St1 E all ⟨some d,.binOp op t x y t2,ty,pos,after,guard⟩ s (rg++(r1++r2)) [(d,u)] []:=
 St1.val hg hd rfl (hx.looks.app hy.looks) fun c A w _ hr=>by
  obtain⟨h1,e1⟩:=int_of (hx.rep (c:=c) (a:=A) (w:=w) fun p hp=>hr p (by simp[hp]))
  obtain⟨h2,e2⟩:=int_of (hy.rep (c:=c) (a:=A) (w:=w) fun p hp=>hr p (by simp[hp]))
  obtain⟨h3,h4⟩:=hrun e1 e2
  refine⟨v,?_,h4 c⟩
  have hq:(eqGuard op t x y (.int k m) (.int k n)).run E.P w=.ok () w:=by cases op<;>simp[eqGuard]
  simp[execOp,h1,h2,hq,h3]
theorem S.add{t t2:Nat}{q:Int}(hg:Gd all s guard rg)(hd:(Nat.blt d 1000&&Nat.blt d E.nt)=true)(hx:OpS s x (.int k m) r1)(hy:OpS s y (.int k n) r2)(hq:k.wrap (m+n)=q)(hq2:k.wrap q=q):
  St1 E all ⟨some d,.binOp .add t x y t2,ty,pos,after,guard⟩ s (rg++(r1++r2)) [(d,.int k q)] []:=
 S.int2 hg hd hx hy fun _ _=>⟨fun w=>by simp[binOp,Op.intArith,hq],fun _=>RepD.toT (.int hq2)⟩
theorem S.sub{t t2:Nat}{q:Int}(hg:Gd all s guard rg)(hd:(Nat.blt d 1000&&Nat.blt d E.nt)=true)(hx:OpS s x (.int k m) r1)(hy:OpS s y (.int k n) r2)(hq:k.wrap (m - n)=q)(hq2:k.wrap q=q):
  St1 E all ⟨some d,.binOp .sub t x y t2,ty,pos,after,guard⟩ s (rg++(r1++r2)) [(d,.int k q)] []:=
 S.int2 hg hd hx hy fun _ _=>⟨fun w=>by simp[binOp,Op.intArith,hq],fun _=>RepD.toT (.int hq2)⟩
theorem S.mul{t t2:Nat}{q:Int}(hg:Gd all s guard rg)(hd:(Nat.blt d 1000&&Nat.blt d E.nt)=true)(hx:OpS s x (.int k m) r1)(hy:OpS s y (.int k n) r2)(hq:k.wrap (m * n)=q)(hq2:k.wrap q=q):
  St1 E all ⟨some d,.binOp .mul t x y t2,ty,pos,after,guard⟩ s (rg++(r1++r2)) [(d,.int k q)] []:=
 S.int2 hg hd hx hy fun _ _=>⟨fun w=>by simp[binOp,Op.intArith,hq],fun _=>RepD.toT (.int hq2)⟩
theorem S.quo{t t2:Nat}{q:Int}(hg:Gd all s guard rg)(hd:(Nat.blt d 1000&&Nat.blt d E.nt)=true)(hx:OpS s x (.int k m) r1)(hy:OpS s y (.int k n) r2)(h0:n≠0)(hq:k.wrap (m.tdiv n)=q)(hq2:k.wrap q=q):
  St1 E all ⟨some d,.binOp .quo t x y t2,ty,pos,after,guard⟩ s (rg++(r1++r2)) [(d,.int k q)] []:=
 S.int2 hg hd hx hy fun _ _=>⟨fun w=>by simp[binOp,Op.intDiv,h0,hq],fun _=>RepD.toT (.int hq2)⟩
theorem S.rem{t t2:Nat}{q:Int}(hg:Gd all s guard rg)(hd:(Nat.blt d 1000&&Nat.blt d E.nt)=true)(hx:OpS s x (.int k m) r1)(hy:OpS s y (.int k n) r2)(h0:n≠0)(hq:m.tmod n=q)(hq2:k.wrap q=q):
  St1 E all ⟨some d,.binOp .rem t x y t2,ty,pos,after,guard⟩ s (rg++(r1++r2)) [(d,.int k q)] []:=
 S.int2 hg hd hx hy fun _ _=>⟨fun w=>by simp[binOp,Op.intDiv,h0,hq],fun _=>RepD.toT (.int hq2)⟩
theorem S.lss{t t2:Nat}(hg:Gd all s guard rg)(hd:(Nat.blt d 1000&&Nat.blt d E.nt)=true)(hx:OpS s x (.int k m) r1)(hy:OpS s y (.int k n) r2):
  St1 E all ⟨some d,.binOp .lss t x y t2,ty,pos,after,guard⟩ s (rg++(r1++r2)) [(d,.bool (decide (m<n)))] []:=
 S.int2 hg hd hx hy fun _ _=>⟨fun w=>by simp[binOp,Op.intCmp],fun _=>RepD.toT (.bool _)⟩
theorem S.leq{t t2:Nat}(hg:Gd all s guard rg)(hd:(Nat.blt d 1000&&Nat.blt d E.nt)=true)(hx:OpS s x (.int k m) r1)(hy:OpS s y (.int k n) r2):
  St1 E all ⟨some d,.binOp .leq t x y t2,ty,pos,after,guard⟩ s (rg++(r1++r2)) [(d,.bool (decide (m≤n)))] []:=
 S.int2 hg hd hx hy fun _ _=>⟨fun w=>by simp[binOp,Op.intCmp],fun _=>RepD.toT (.bool _)⟩
theorem S.gtr{t t2:Nat}(hg:Gd all s guard rg)(hd:(Nat.blt d 1000&&Nat.blt d E.nt)=true)(hx:OpS s x (.int k m) r1)(hy:OpS s y (.int k n) r2):
  St1 E all ⟨some d,.binOp .gtr t x y t2,ty,pos,after,guard⟩ s (rg++(r1++r2)) [(d,.bool (decide (n<m)))] []:=
 S.int2 hg hd hx hy fun _ _=>⟨fun w=>by simp[binOp,Op.intCmp],fun _=>RepD.toT (.bool _)⟩
theorem S.geq{t t2:Nat}(hg:Gd all s guard rg)(hd:(Nat.blt d 1000&&Nat.blt d E.nt)=true)(hx:OpS s x (.int k m) r1)(hy:OpS s y (.int k n) r2):
  St1 E all ⟨some d,.binOp .geq t x y t2,ty,pos,after,guard⟩ s (rg++(r1++r2)) [(d,.bool (decide (n≤m)))] []:=
 S.int2 hg hd hx hy fun _ _=>⟨fun w=>by simp[binOp,Op.intCmp],fun _=>RepD.toT (.bool _)⟩
theorem S.eql{t t2:Nat}(hg:Gd all s guard rg)(hd:(Nat.blt d 1000&&Nat.blt d E.nt)=true)(hx:OpS s x (.int k m) r1)(hy:OpS s y (.int k n) r2):
  St1 E all ⟨some d,.binOp .eql t x y t2,ty,pos,after,guard⟩ s (rg++(r1++r2)) [(d,.bool (decide (m=n)))] []:=
 S.int2 hg hd hx hy fun _ _=>⟨fun w=>by simp[binOp,Op.intCmp];by_cases h:m=n<;>simp[h],fun _=>RepD.toT (.bool _)⟩
theorem S.neq{t t2:Nat}(hg:Gd all s guard rg)(hd:(Nat.blt d 1000&&Nat.blt d E.nt)=true)(hx:OpS s x (.int k m) r1)(hy:OpS s y (.int k n) r2):
  St1 E all ⟨some d,.binOp .neq t x y t2,ty,pos,after,guard⟩ s (rg++(r1++r2)) [(d,.bool (decide (m≠n)))] []:=
 S.int2 hg hd hx hy fun _ _=>⟨fun w=>by simp[binOp,Op.intCmp];by_cases h:m=n<;>simp[h],fun _=>RepD.toT (.bool _)⟩
theorem S.not{t:Nat}(hg:Gd all s guard rg)(hd:(Nat.blt d 1000&&Nat.blt d E.nt)=true)(hx:OpS s x (.bool a) r):
  St1 E all ⟨some d,.unOp .not t x,ty,pos,after,guard⟩ s (rg++r) [(d,.bool (!a))] []:=
 St1.val hg hd rfl hx.looks fun c A w _ hr=>⟨.bool !a,by simp[execOp,bool_of (hx.rep (c:=c) (a:=A) (w:=w) hr),Op.unary],RepD.toT (.bool _)⟩
theorem S.neg{t:Nat}{q:Int}(hg:Gd all s guard rg)(hd:(Nat.blt d 1000&&Nat.blt d E.nt)=true)(hx:OpS s x (.int k m) r)(hq:k.wrap (0 - m)=q)(hq2:k.wrap q=q):
  St1 E all ⟨some d,.unOp .neg t x,ty,pos,after,guard⟩ s (rg++r) [(d,.int k q)] []:=
 St1.val hg hd rfl hx.looks fun c A w _ hr=>⟨.int k q,by simp only[execOp,(int_of (hx.rep (c:=c) (a:=A) (w:=w) hr)).1,Op.unary,Op.intArith,hq];rfl,RepD.toT (.int hq2)⟩
theorem S.conv{t t':Nat}{k':IntKind}{q:Int}{dsc:TypeDesc}(hg:Gd all s guard rg)(hd:(Nat.blt d 1000&&Nat.blt d E.nt)=true)(hx:OpS s x (.int k m) r)
  (h1:E.P.underlying t=some dsc) (h2:E.P.underlying t'=some (.int k')) (hq:k'.wrap m=q) (hq2:k'.wrap q=q):
  St1 E all ⟨some d,.convert t t' x,ty,pos,after,guard⟩ s (rg++r) [(d,.int k' q)] []:=
 St1.val hg hd rfl hx.looks fun c A w _ hr=>⟨.int k' q,by
  simp only[execOp,(int_of (hx.rep (c:=c) (a:=A) (w:=w) hr)).1,convert,Sem.run_bind,run_underlying h1,run_underlying h2,Result.andThen_ok,Conv.intToInt,hq];rfl,RepD.toT (.int hq2)⟩
theorem S.max2{t t1 t2:Nat}(hg:Gd all s guard rg)(hd:(Nat.blt d 1000&&Nat.blt d E.nt)=true)(hx:OpS s x (.int k m) r1)(hy:OpS s y (.int k n) r2):
  St1 E all ⟨some d,.call {callee:=.builtin .max,args:=#[x,y],argTypes:=#[t1,t2]},t,pos,after,guard⟩ s (rg++(r1++r2)) [(d,.int k (if m<n then n else m))] []:=
 St1.val hg hd rfl (hx.looks.app hy.looks) fun c A w _ hr=>by
  obtain⟨h1,e1⟩:=int_of (hx.rep (c:=c) (a:=A) (w:=w) fun p hp=>hr p (by simp[hp]))
  obtain⟨h2,e2⟩:=int_of (hy.rep (c:=c) (a:=A) (w:=w) fun p hp=>hr p (by simp[hp]))
  refine⟨.int k (if m<n then n else m),?_,RepD.toT (.int (by split<;>assumption))⟩
  simp[execOp,resolve,invoke,builtin,h1,h2,Builtin.max_,Builtin.max2]
theorem S.min2{t t1 t2:Nat}(hg:Gd all s guard rg)(hd:(Nat.blt d 1000&&Nat.blt d E.nt)=true)(hx:OpS s x (.int k m) r1)(hy:OpS s y (.int k n) r2):
  St1 E all ⟨some d,.call {callee:=.builtin .min,args:=#[x,y],argTypes:=#[t1,t2]},t,pos,after,guard⟩ s (rg++(r1++r2)) [(d,.int k (if n<m then n else m))] []:=
 St1.val hg hd rfl (hx.looks.app hy.looks) fun c A w _ hr=>by
  obtain⟨h1,e1⟩:=int_of (hx.rep (c:=c) (a:=A) (w:=w) fun p hp=>hr p (by simp[hp]))
  obtain⟨h2,e2⟩:=int_of (hy.rep (c:=c) (a:=A) (w:=w) fun p hp=>hr p (by simp[hp]))
  refine⟨.int k (if n<m then n else m),?_,RepD.toT (.int (by split<;>assumption))⟩
  simp[execOp,resolve,invoke,builtin,h1,h2,Builtin.min_,Builtin.min2]
theorem S.extract{i:Nat}{xs:List X}{u:X}(hg:Gd all s guard rg)(hd:(Nat.blt d 1000&&Nat.blt d E.nt)=true)(hx:OpS s x (.tup xs) r)(hu:xs[i]?=some u)(hnt:isTup u=false):
  St1 E all ⟨some d,.extract x i,ty,pos,after,guard⟩ s (rg++r) [(d,u)] []:=
 St1.val hg hd rfl hx.looks fun c A w _ hr=>by
  obtain⟨vs,h1,h2⟩:=hx.rep (c:=c) (a:=A) (w:=w) hr
  obtain⟨v,hv,hvr⟩:=h2.get_right hu
  refine⟨v,by simp[execOp,h1,Instr.extract,hv],?_⟩
  cases u<;>first|exact hvr|cases hnt
theorem S.makeFunc{f:Nat}(hg:Gd all s guard rg)(hd:(Nat.blt d 1000&&Nat.blt d E.nt)=true):
  St1 E all ⟨some d,.makeFunc (.func f) #[] #[],ty,pos,after,guard⟩ s (rg++[]) [(d,.fn f [])] []:=
 St1.val hg hd rfl trivial fun c A w _ hr=>⟨.func (.func f) #[] #[],by simp[execOp,Instr.makeFunc],[],rfl,trivial⟩
theorem capC{c:Ctx}{u:X}{v:Value}(h:RepT c u v)(hu:notCell u=false):RepP c u v:=by
 cases u<;>first|exact h|cases hu
theorem S.makeFunc1{f:Nat}{u:X}(hg:Gd all s guard rg)(hd:(Nat.blt d 1000&&Nat.blt d E.nt)=true)(hx:OpS s x u r)(hu:notCell u=false):
  St1 E all ⟨some d,.makeFunc (.func f) #[] #[x],ty,pos,after,guard⟩ s (rg++r) [(d,.fn f [u])] []:=
 St1.val hg hd rfl hx.looks fun c A w _ hr=>⟨.func (.func f) #[] #[A.eval x],by simp[execOp,Instr.makeFunc],[A.eval x],rfl,capC (hx.rep hr) hu,trivial⟩
theorem S.makeFunc2{f:Nat}{u u':X}(hg:Gd all s guard rg)(hd:(Nat.blt d 1000&&Nat.blt d E.nt)=true)(hx:OpS s x u r1)(hy:OpS s y u' r2)
  (hu:notCell u=false) (hu':notCell u'=false):
  St1 E all ⟨some d,.makeFunc (.func f) #[] #[x,y],ty,pos,after,guard⟩ s (rg++(r1++r2)) [(d,.fn f [u,u'])] []:=
 St1.val hg hd rfl (hx.looks.app hy.looks) fun c A w _ hr=>⟨.func (.func f) #[] #[A.eval x,A.eval y],by simp[execOp,Instr.makeFunc],[A.eval x,A.eval y],rfl,capC (hx.rep fun p hp=>hr p (by simp[hp])) hu,capC (hy.rep fun p hp=>hr p (by simp[hp])) hu',trivial⟩
theorem add_off(b o n:Nat):(⟨b,o,none⟩:Addr).add n=⟨b,o+n,none⟩:=by
 unfold Addr.add;split
 ·rename_i h;subst h;rfl
 ·rfl
theorem eptr_of{c:Ctx}{cells:List X}{v:Value}(h:RepT c (.eptr cells) v):∃(b off:Nat)(vs:List Value),v=.pointer (some ⟨b,off,none⟩)∧cells.length=vs.length∧(∀(i:Nat)(v:Value),vs[i]?=some v→c.h ⟨b,off+i,none⟩=some v)∧
  ∀(i:Nat)(x:X)(v:Value),cells[i]?=some x→vs[i]?=some v→RepD c.h x v:=by
 cases h with
 |eptr _ b off vs h1 h2 h3=>exact⟨b,off,vs,rfl,h1,h2,h3⟩
theorem run_load1{P:Program}{T:Nat}{sz:Nat}(ht:TyI P T false sz){b o:Nat}{v:Value}{w:World}(h:w.cell? ⟨b,o,none⟩=some v):(Instr.loadAt T (.pointer (some ⟨b,o,none⟩))).run P w=.ok v w:=by
 simp[Instr.loadAt,Instr.sureAddr,loadVar,ht.agg,run_load,h]
theorem run_loadN{P:Program}{T:Nat}{sz:Nat}(ht:TyI P T true sz){b o:Nat}{vs:List Value}{w:World}(hl:vs.length=sz)(h:∀(i:Nat)(v:Value),vs[i]?=some v→w.cell? ⟨b,o+i,none⟩=some v):
  (Instr.loadAt T (.pointer (some ⟨b,o,none⟩))).run P w=.ok (.agg vs.toArray) w:=by
 have:=run_loadCells_list (P:=P) (w:=w) ⟨b,o,none⟩ vs fun j v hv=>by rw[add_off];exact h j v hv
 rw[hl]at this
 simp[Instr.loadAt,Instr.sureAddr,loadVar,ht.agg,ht.size,this]
theorem S.load1{T:Nat}{u:X}{us:List X}{sz:Nat}(ht:TyI E.P T false sz)(hg:Gd all s guard rg)(hd:(Nat.blt d 1000&&Nat.blt d E.nt)=true)(hx:OpS s x (.eptr us) r)(hu:us[0]?=some u):
  St1 E all ⟨some d,.load T x,ty,pos,after,guard⟩ s (rg++r) [(d,u)] []:=
 St1.val hg hd rfl hx.looks fun c A w hh hr=>by
  obtain⟨b,off,vs,hv,hl,h1,h2⟩:=eptr_of (hx.rep (c:=c) (a:=A) (w:=w) hr)
  have h0:0<vs.length:=by rw[←hl];exact(List.getElem?_eq_some_iff.1 hu).1
  have hv0:vs[0]?=some vs[0]:=List.getElem?_eq_getElem h0
  refine⟨vs[0],?_,RepD.toT (h2 0 u _ hu hv0)⟩
  simp only[execOp,hv]
  rw[Sem.run_bind,run_load1 ht (hh _ _ (by simpa using h1 0 _ hv0))]
  rfl
theorem S.loadN{T n:Nat}{us vs:List X}(ht:TyI E.P T true n)(hg:Gd all s guard rg)(hd:(Nat.blt d 1000&&Nat.blt d E.nt)=true)(hx:OpS s x (.eptr us) r)(hu:us.take n=vs)(hn:Nat.ble n us.length=true):
  St1 E all ⟨some d,.load T x,ty,pos,after,guard⟩ s (rg++r) [(d,.agg vs)] []:=
 St1.val hg hd rfl hx.looks fun c A w hh hr=>by
  subst hu
  rw[Nat.ble_eq]at hn
  obtain⟨b,off,ws,hv,hl,h1,h2⟩:=eptr_of (hx.rep (c:=c) (a:=A) (w:=w) hr)
  refine⟨.agg (ws.take n).toArray,?_,ws.take n,rfl,All2.take n (All2.of_get hl fun i x v hx hv=>RepD.toC (h2 i x v hx hv))⟩
  simp only[execOp,hv]
  rw[Sem.run_bind,run_loadN ht (vs:=ws.take n) (by simp;omega) fun i v hv=>hh _ _ (h1 i v ?_)]
  ·rfl
  ·rw[List.getElem?_take]at hv;split at hv;exact hv;cases hv
theorem box_of{c:Ctx}{a:Act}{w:World}{k:Nat}{cells:List X}(h:Holds c a w (1000+k) (.box cells))(hk:k<1000):
  ∃b T vs,c.loc k=some b∧w.heap[b]?=some (.cells vs T (0,0))∧All2 (RepC c) cells vs.toList:=by
 unfold Holds at h
 rw[if_neg (by omega),if_pos (by omega),Nat.add_sub_cancel_left]at h
 rcases h with h|⟨b,o,h1,h2,T,vs,rfl,h3⟩
 ·cases h
 ·exact⟨b,T,vs,h1,h2,h3⟩
theorem ptr_of{c:Ctx}{k off:Nat}{v:Value}(h:RepT c (.ptr k off) v):∃b,c.loc k=some b∧v=.pointer (some ⟨b,off,none⟩):=h
theorem C.toT{c:Ctx}{u:X}{v:Value}(h:RepC c u v)(hu:isAT u=false):RepT c u v:=by
 cases u<;>first|exact h|cases hu
theorem S.bload1{T k off:Nat}{u:X}{us:List X}{sz:Nat}(ht:TyI E.P T false sz)(hg:Gd all s guard rg)(hd:(Nat.blt d 1000&&Nat.blt d E.nt)=true)(hx:OpS s x (.ptr k off) r)(hk:Nat.blt k 1000=true)
  (hb:look s (1000+k)=some (.box us)) (hu:us[off]?=some u) (hnt:isAT u=false):
  St1 E all ⟨some d,.load T x,ty,pos,after,guard⟩ s (rg++(r++[(1000+k,.box us)])) [(d,u)] []:=
 St1.val hg hd rfl (hx.looks.app ⟨hb,trivial⟩) fun c A w hh hr=>by
  rw[Nat.blt_eq]at hk
  obtain⟨b,h1,hv⟩:=ptr_of (hx.rep (c:=c) (a:=A) (w:=w) fun p hp=>hr p (by simp[hp]))
  obtain⟨b',T',vs,h2,h3,h4⟩:=box_of (hr (1000+k,.box us) (by simp)) hk
  rw[h1]at h2;cases h2
  obtain⟨v,hvv,hvr⟩:=h4.get_right hu
  refine⟨v,?_,C.toT hvr hnt⟩
  simp only[execOp,hv]
  rw[Sem.run_bind,run_load1 ht (v:=v)]
  ·rfl
  ·rw[cell_of_row w b off vs T' (0,0) h3];simpa using hvv
theorem S.bloadN{T n k off:Nat}{us us':List X}(ht:TyI E.P T true n)(hg:Gd all s guard rg)(hd:(Nat.blt d 1000&&Nat.blt d E.nt)=true)(hx:OpS s x (.ptr k off) r)(hk:Nat.blt k 1000=true)
  (hb:look s (1000+k)=some (.box us)) (hu:(us.drop off).take n=us') (hn:Nat.ble (off+n) us.length=true):
  St1 E all ⟨some d,.load T x,ty,pos,after,guard⟩ s (rg++(r++[(1000+k,.box us)])) [(d,.agg us')] []:=
 St1.val hg hd rfl (hx.looks.app ⟨hb,trivial⟩) fun c A w hh hr=>by
  subst hu
  rw[Nat.blt_eq]at hk
  rw[Nat.ble_eq]at hn
  obtain⟨b,h1,hv⟩:=ptr_of (hx.rep (c:=c) (a:=A) (w:=w) fun p hp=>hr p (by simp[hp]))
  obtain⟨b',T',vs,h2,h3,h4⟩:=box_of (hr (1000+k,.box us) (by simp)) hk
  rw[h1]at h2;cases h2
  refine⟨.agg ((vs.toList.drop off).take n).toArray,?_,(vs.toList.drop off).take n,rfl,(h4.drop off).take n⟩
  simp only[execOp,hv]
  have hl:=h4.length
  rw[Sem.run_bind,run_loadN ht (vs:=(vs.toList.drop off).take n)]
  ·rfl
  ·simp at hl⊢;omega
  ·intro i v hv
   rw[List.getElem?_take]at hv
   split at hv
   ·rw[List.getElem?_drop]at hv
    rw[cell_of_row w b (off+i) vs T' (0,0) h3];simpa using hv
   ·cases hv
theorem run_fieldAt{P:Program}{T f off:Nat}(hf:FiI P T f off)(b o:Nat)(w:World):(Instr.fieldAt T (.pointer (some ⟨b,o,none⟩)) f).run P w=.ok (.pointer (some ⟨b,o+off,none⟩)) w:=by
 obtain⟨fields,fl,n,h1,h2,h3,h4,h5⟩:=hf.ex
 simp[Instr.fieldAt,run_underlying h1,h2,Instr.sureAddr,fieldPlace,h5,h4,h3,add_off]
theorem S.bfield{T f k off o:Nat}(hf:FiI E.P T f o)(hg:Gd all s guard rg)(hd:(Nat.blt d 1000&&Nat.blt d E.nt)=true)(hx:OpS s x (.ptr k off) r):
  St1 E all ⟨some d,.fieldAddr T x f,ty,pos,after,guard⟩ s (rg++r) [(d,.ptr k (off+o))] []:=
 St1.val hg hd rfl hx.looks fun c A w hh hr=>by
  obtain⟨b,h1,hv⟩:=ptr_of (hx.rep (c:=c) (a:=A) (w:=w) hr)
  exact⟨.pointer (some ⟨b,off+o,none⟩),by simp only[execOp,hv];rw[Sem.run_bind,run_fieldAt hf];rfl,b,h1,rfl⟩
theorem S.field{T f o:Nat}{us us':List X}(hf:FiI E.P T f o)(hg:Gd all s guard rg)(hd:(Nat.blt d 1000&&Nat.blt d E.nt)=true)(hx:OpS s x (.eptr us) r)(hu:us.drop o=us'):
  St1 E all ⟨some d,.fieldAddr T x f,ty,pos,after,guard⟩ s (rg++r) [(d,.eptr us')] []:=
 St1.val hg hd rfl hx.looks fun c A w hh hr=>by
  subst hu
  obtain⟨b,off,vs,hv,hl,h1,h2⟩:=eptr_of (hx.rep (c:=c) (a:=A) (w:=w) hr)
  refine⟨.pointer (some ⟨b,off+o,none⟩),by simp only[execOp,hv];rw[Sem.run_bind,run_fieldAt hf];rfl,.eptr _ b (off+o) (vs.drop o) (by simp[hl]) ?_ ?_⟩
  ·intro i v hv;rw[List.getElem?_drop]at hv;rw[Nat.add_assoc];exact h1 _ _ hv
  ·intro i x v hx hv;rw[List.getElem?_drop]at hx hv;exact h2 _ _ _ hx hv
theorem sl_of{c:Ctx}{rows:List (List X)}{v:Value}(h:RepT c (.sl rows) v):∃a cap,v=.slice a rows.length cap∧rows.length≤cap∧cap≤maxLen∧(rows=[]∨∃(b off sz:Nat)(vs:List Value),a=some ⟨b,off,none⟩∧(∀r∈rows,r.length=sz)∧rows.flatten.length=vs.length∧
  (∀(i:Nat)(v:Value),vs[i]?=some v→c.h ⟨b,off+i,none⟩=some v)∧∀(i:Nat)(x:X)(v:Value),rows.flatten[i]?=some x→vs[i]?=some v→RepD c.h x v):=by
 cases h with
 |sl0 a cap e=>exact⟨a,cap,rfl,Nat.zero_le _,e,.inl rfl⟩
 |sl _ b off cap sz vs h1 h2 h3 h4 h5 h6=>exact⟨_,cap,rfl,h1,h2,.inr ⟨b,off,sz,vs,rfl,h3,h4,h5,h6⟩⟩
theorem flatten_length{α:Type}{sz:Nat}:∀{rows:List (List α)},(∀r∈rows,r.length=sz)→rows.flatten.length=rows.length * sz
 |[],_=>by simp
 |r::rows,h=>by
  rw[List.flatten_cons,List.length_append,flatten_length (fun r hr=>h r (List.mem_cons_of_mem _ hr)),h r List.mem_cons_self,List.length_cons,Nat.add_mul];omega
theorem flatten_at{α:Type}{sz:Nat}:∀{rows:List (List α)}(i:Nat){row:List α},(∀r∈rows,r.length=sz)→rows[i]?=some row→(rows.flatten.drop (i * sz)).take sz=row
 |[],i,row,_,h=>by simp at h
 |r::rows,0,row,h,hr=>by
  simp at hr;subst hr
  have:=h r List.mem_cons_self
  simp[←this]
 |r::rows,i+1,row,h,hr=>by
  have h1:=h r List.mem_cons_self
  rw[List.flatten_cons,Nat.add_mul,Nat.one_mul,Nat.add_comm,←List.drop_drop]
  have:(r++rows.flatten).drop sz=rows.flatten:=by rw[←h1];simp
  rw[this]
  exact flatten_at i (fun r hr=>h r (List.mem_cons_of_mem _ hr)) (by simpa using hr)
theorem S.index{t e sz:Nat}{rows:List (List X)}{i:Int}{row:List X}(hs:SlI E.P t e sz)(hg:Gd all s guard rg)(hd:(Nat.blt d 1000&&Nat.blt d E.nt)=true)(hx:OpS s x (.sl rows) r1)(hy:OpS s y (.int k i) r2)
  (h0:0≤i) (hi:rows[i.toNat]?=some row) (hsz:row.length=sz):St1 E all ⟨some d,.indexAddr t x y,ty,pos,after,guard⟩ s (rg++(r1++r2)) [(d,.eptr row)] []:=
 St1.val hg hd rfl (hx.looks.app hy.looks) fun c A w hh hr=>by
  obtain⟨a,cap,hv,h1,h2,h3⟩:=sl_of (hx.rep (c:=c) (a:=A) (w:=w) fun p hp=>hr p (by simp[hp]))
  obtain⟨hw,_⟩:=int_of (hy.rep (c:=c) (a:=A) (w:=w) fun p hp=>hr p (by simp[hp]))
  have hlt:i.toNat<rows.length:=(List.getElem?_eq_some_iff.1 hi).1
  rcases h3 with rfl|⟨b,off,sz',vs,rfl,h3,h4,h5,h6⟩
  ·simp at hlt
  ·have hsz':sz'=sz:=by rw[←hsz];exact(h3 row (List.mem_of_getElem? hi)).symm
   subst hsz'
   have hfl:=flatten_length h3
   have hat:=flatten_at i.toNat h3 hi
   have hin:i.toNat * sz'+sz'≤rows.length * sz':=by rw[←Nat.succ_mul];exact Nat.mul_le_mul_right _ hlt
   refine⟨.pointer (some ⟨b,off+i.toNat * sz',none⟩),?_,.eptr row b (off+i.toNat * sz') ((vs.drop (i.toNat * sz')).take sz') ?_ ?_ ?_⟩
   ·have hi2:i<(rows.length:Int):=by omega
    simp[execOp,hv,hw,Instr.indexAt,asIntOf,run_underlying hs.und,hs.size,h0,hi2,add_off]
   ·rw[hsz];simp;omega
   ·intro j v hv
    rw[List.getElem?_take]at hv
    split at hv
    ·rw[List.getElem?_drop]at hv;rw[Nat.add_assoc];exact h5 _ _ hv
    ·cases hv
   ·intro j u v hu hv
    rw[List.getElem?_take]at hv
    split at hv
    ·rename_i hj
     rw[List.getElem?_drop]at hv
     rw[←hat,List.getElem?_take,if_pos hj,List.getElem?_drop]at hu
     exact h6 _ _ _ hu hv
    ·cases hv
theorem wrap_len{n:Nat}(h:n≤maxLen):IntKind.i64.wrap n=n:=by
 unfold maxLen at h
 exact IntWalk.i64_in _ ⟨by omega,by omega⟩
theorem S.len{t:Nat}{e sz:Nat}{rows:List (List X)}(hs:SlI E.P t e sz)(hg:Gd all s guard rg)(hd:(Nat.blt d 1000&&Nat.blt d E.nt)=true)(hx:OpS s x (.sl rows) r):
  St1 E all ⟨some d,.call {callee:=.builtin .len,args:=#[x],argTypes:=#[t]},ty,pos,after,guard⟩ s (rg++r) [(d,.int .i64 rows.length)] []:=
 St1.val hg hd rfl hx.looks fun c A w hh hr=>by
  obtain⟨a,cap,hv,h1,h2,_⟩:=sl_of (hx.rep (c:=c) (a:=A) (w:=w) hr)
  refine⟨.int .i64 rows.length,?_,RepD.toT (.int (wrap_len (Nat.le_trans h1 h2)))⟩
  simp[execOp,resolve,invoke,builtin,hv,Builtin.len_,run_underlying hs.und,goInt]
theorem arr_of{c:Ctx}{a:Act}{w:World}{k sz:Nat}{rows:List (List X)}(h:Holds c a w (2000+k) (.arr sz rows)):
  ∃hv e vs,c.arr k=some (rows.length,hv,true)∧w.ownsRow 0 e sz hv rows.length vs∧(∀r∈rows,r.length=sz)∧All2 (RepD c.h) rows.flatten vs:=by
 unfold Holds at h
 by_cases hk:k<1000
 case neg=>
  rw[if_neg (by omega),if_neg (by omega),if_neg (by omega)]at h
  rcases h with h|⟨_,J,hJ,_⟩
  ·cases h
  ·cases hJ
 rw[if_neg (by omega),if_neg (by omega),if_pos (by omega),Nat.add_sub_cancel_left]at h
 rcases h with h|⟨sz',rows',hv,e,vs,⟨rfl,rfl,h4⟩,h1,h2,h3⟩
 ·cases h
 ·exact⟨hv,e,vs,h1,h2,h3,h4⟩
theorem arr_lt{c:Ctx}{a:Act}{w:World}{k sz:Nat}{rows:List (List X)}(h:Holds c a w (2000+k) (.arr sz rows)):k<1000:=by
 unfold Holds at h
 refine Decidable.byContradiction fun hk=>?_
 rw[if_neg (by omega),if_neg (by omega),if_neg (by omega)]at h
 rcases h with h|⟨_,J,hJ,_⟩
 ·cases h
 ·cases hJ
theorem S.lenOwn{t e sz k n w2:Nat}{rows:List (List X)}(hs:SlI E.P t e sz)(hg:Gd all s guard rg)(hd:(Nat.blt d 1000&&Nat.blt d E.nt)=true)(hx:OpS s x (.own k n) r)(hl:look s (2000+k)=some (.arr w2 rows))(hn:rows.length=n):
  St1 E all ⟨some d,.call {callee:=.builtin .len,args:=#[x],argTypes:=#[t]},ty,pos,after,guard⟩ s (rg++(r++[(2000+k,.arr w2 rows)])) [(d,.int .i64 n)] []:=
 St1.val hg hd rfl (hx.looks.app ⟨hl,trivial⟩) fun c A w hh hr=>by
  subst hn
  obtain⟨_,m,hv,lv,e1,e2,e3⟩:=hx.rep (c:=c) (a:=A) (w:=w) fun p hp=>hr p (by simp[hp])
  obtain⟨hv',e',vs,f1,f2,f3,f4⟩:=arr_of (hr (2000+k,.arr w2 rows) (by simp))
  rw[f1]at e1;cases e1
  have hev:=e3 rfl
  have hlen:∃a cp,hv=.slice a rows.length cp∧rows.length≤maxLen:=by
   rcases f2.2 with⟨rfl,h0⟩|⟨g,cap,cur,rfl,_,_,h5,h6,_⟩
   ·exact⟨none,0,by rw[h0],by rw[h0];exact Nat.zero_le _⟩
   ·exact⟨_,_,rfl,Nat.le_trans h5 h6⟩
  obtain⟨a,cp,rfl,hm⟩:=hlen
  refine⟨.int .i64 rows.length,?_,RepD.toT (.int (wrap_len hm))⟩
  simp[execOp,resolve,invoke,builtin,hev,Builtin.len_,run_underlying hs.und,goInt]
theorem S.slen{t:Nat}{l:List UInt8}(hs:E.P.underlying t=some .string)(hg:Gd all s guard rg)(hd:(Nat.blt d 1000&&Nat.blt d E.nt)=true)(hx:OpS s x (.str l) r):
  St1 E all ⟨some d,.call {callee:=.builtin .len,args:=#[x],argTypes:=#[t]},ty,pos,after,guard⟩ s (rg++r) [(d,.int .i64 l.length)] []:=
 St1.val hg hd rfl hx.looks fun c A w hh hr=>by
  obtain⟨hv,h1⟩:=str_of (hx.rep (c:=c) (a:=A) (w:=w) hr)
  refine⟨.int .i64 l.length,?_,RepD.toT (.int (wrap_len h1))⟩
  have hsz:(⟨l.toArray⟩:ByteArray).size=l.length:=by show l.toArray.size=_;simp
  simp[execOp,resolve,invoke,builtin,hv,Builtin.len_,run_underlying hs,goInt,hsz]
end
end Go.Ab
