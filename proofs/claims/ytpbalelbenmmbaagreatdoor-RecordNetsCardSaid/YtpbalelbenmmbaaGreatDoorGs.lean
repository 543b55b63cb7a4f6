import Derived.Laws.IdiomStrings
import Derived.Lib.AtoiAll
import Derived.Lib.Bytealg
import Derived.Lib.Itoa
import Derived.Lib.LaidTab
import Derived.Test.YtpbalelbenmmbaaGreatDoorGh
namespace Go.Ab
open Go.RowKit
theorem extract_list(l:List UInt8)(lo hi:Nat):(⟨l.toArray⟩:ByteArray).extract lo hi=⟨((l.take hi).drop lo).toArray⟩:=by
 apply ByteArray.ext
 rw[ByteArray.data_extract]
 simp[List.extract_eq_take_drop,List.drop_take]
section
variable{E:Env}{all:Array Oper}{s r r1 r2 r3 rg:St}{d ty:Nat}{pos:String}{after:Array Edge}{guard:Option (Nat×Bool)}{x y z:Operand}
theorem S.strsl{t lo hi:Nat}{l l':List UInt8}{il ih:Option Operand}(ht:StrI E.P t)(hg:Gd all s guard rg)(hd:(Nat.blt d 1000&&Nat.blt d E.nt)=true)(hx:OpS s x (.str l) r1)
  (h1:(il=none∧lo=0∧r2=[])∨∃o i,il=some o∧OpS s o (.int .i64 i) r2∧i=lo) (h2:(ih=none∧hi=l.length∧r3=[])∨∃o i,ih=some o∧OpS s o (.int .i64 i) r3∧i=hi) (hle:lo≤hi) (hle2:hi≤l.length) (hl':(l.take hi).drop lo=l'):
  St1 E all ⟨some d,.slice t x il ih none,ty,pos,after,guard⟩ s (rg++(r1++(r2++r3))) [(d,.str l')] []:=by
 have k1:Looks s r2:=by rcases h1 with⟨_,_,rfl⟩|⟨_,_,_,h,_⟩;trivial;exact h.looks
 have k2:Looks s r3:=by rcases h2 with⟨_,_,rfl⟩|⟨_,_,_,h,_⟩;trivial;exact h.looks
 subst hl'
 refine St1.val hg hd rfl (hx.looks.app (k1.app k2)) fun c A w hh hr=>?_
 obtain⟨hv,hm⟩:=str_of (hx.rep (c:=c) (a:=A) (w:=w) fun p hp=>hr p (by simp[hp]))
 have hsz:(⟨l.toArray⟩:ByteArray).size=l.length:=by show l.toArray.size=_;simp
 have hs:RepD c.h (.str ((l.take hi).drop lo)) (.string ((⟨l.toArray⟩:ByteArray).extract lo hi)):=by
  rw[extract_list]
  exact .str _ (by rw[List.length_drop,List.length_take];omega)
 refine⟨_,?_,RepD.toT hs⟩
 have kl:∀o i,OpS s o (.int .i64 i) r2→A.eval o=.int .i64 i:=fun o i h=>(int_of (h.rep (c:=c) (a:=A) (w:=w) fun p hp=>hr p (by simp[hp]))).1
 have kh:∀o i,OpS s o (.int .i64 i) r3→A.eval o=.int .i64 i:=fun o i h=>(int_of (h.rep (c:=c) (a:=A) (w:=w) fun p hp=>hr p (by simp[hp]))).1
 rcases h1 with⟨rfl,rfl,rfl⟩|⟨ol,il,rfl,e1,rfl⟩<;>rcases h2 with⟨rfl,rfl,rfl⟩|⟨oh,ih,rfl,e2,rfl⟩
 ·have h9:=extract_list l 0 l.length
  rw[List.take_length,List.drop_zero]at h9
  simp[execOp,hv,Instr.sliceAt,Instr.slice,run_underlying ht.und,Instr.sliceBounds,h9]
 ·simp[execOp,hv,kh _ _ e2,Instr.sliceAt,Instr.slice,run_underlying ht.und,Instr.sliceBounds,Instr.sliceBound,asIntOf,hsz,hle2]
 ·have hlo2:lo≤l.length:=hle
  simp[execOp,hv,kl _ _ e1,Instr.sliceAt,Instr.slice,run_underlying ht.und,Instr.sliceBounds,Instr.sliceBound,asIntOf,hsz,hlo2]
 ·simp[execOp,hv,kl _ _ e1,kh _ _ e2,Instr.sliceAt,Instr.slice,run_underlying ht.und,Instr.sliceBounds,Instr.sliceBound,asIntOf,hsz,hle,hle2]
def ExtSB(P:Program)(f:Nat)(F:List UInt8→UInt8→Int):Prop:=∀(s:ByteArray)(c:Int)(w:World),(callFunc f #[.string s,.int .u8 c]).run P w=.ok (.value (.int .i64 (F s.data.toList c.toNat.toUInt8))) w
theorem S.extSB{f:Nat}{F:List UInt8→UInt8→Int}{at_:Array TypeId}{l:List UInt8}{c:Int}{n:Int}(hf:ExtSB E.P f F)(hg:Gd all s guard rg)(hd:(Nat.blt d 1000&&Nat.blt d E.nt)=true)(hx:OpS s x (.str l) r1)(hy:OpS s y (.int .u8 c) r2)(hn:F l c.toNat.toUInt8=n)(hw:IntKind.i64.wrap n=n):
  St1 E all ⟨some d,.call {callee:=.value (.func f),args:=#[x,y],argTypes:=at_},ty,pos,after,guard⟩ s (rg++(r1++r2)) [(d,.int .i64 n)] []:=
 St1.val hg hd rfl (hx.looks.app hy.looks) fun c' A w _ hr=>by
  have h1:=(str_of (hx.rep (c:=c') (a:=A) (w:=w) fun p hp=>hr p (by simp[hp]))).1
  have h2:=(int_of (hy.rep (c:=c') (a:=A) (w:=w) fun p hp=>hr p (by simp[hp]))).1
  refine⟨.int .i64 n,?_,RepD.toT (.int hw)⟩
  have hfo:A.eval (.func f)=.func (.func f) #[] #[]:=rfl
  have h3:=hf ⟨l.toArray⟩ c w
  rw[show(⟨l.toArray⟩:ByteArray).data.toList=l from rfl,hn]at h3
  simp[execOp,resolve,hfo,h1,h2,Deferred.ofValue,invoke,h3]
def ErrV(ok:Bool)(v:Value):Prop:=(ok=true∧v=.nilIface)∨(ok=false∧∃te pe,v=.iface te pe)
theorem S.eqerr{t t2:Nat}{ok:Bool}{ms:Array (String×TypeId)}(ht0:E.P.underlying t=some (.interface ms))(hg:Gd all s guard rg)(hd:(Nat.blt d 1000&&Nat.blt d E.nt)=true)(hx:OpS s x (.cb (ErrV ok)) r):
  St1 E all ⟨some d,.binOp .eql t x (.const .nilIface) t2,ty,pos,after,guard⟩ s (rg++r) [(d,.bool ok)] []:=
 St1.val hg hd rfl hx.looks fun c A w _ hr=>by
  have ht:E.P.underlying t=some (.interface (E.P.methodsAt t)):=by
   have:E.P.methodsAt t=ms:=by unfold Program.methodsAt;rw[ht0]
   rw[this];exact ht0
  have h0:ErrV ok (A.eval x):=hx.rep (c:=c) (a:=A) (w:=w) hr
  have hc:A.eval (.const .nilIface)=.nilIface:=rfl
  refine⟨.bool ok,?_,RepD.toT (.bool _)⟩
  rcases h0 with⟨rfl,hv⟩|⟨rfl,te,pe,hv⟩
  ·have h1:=run_equal_nil_nil (P:=E.P) w t ht
   have hq:(eqGuard .eql t x (.const .nilIface) .nilIface .nilIface).run E.P w=.ok () w:=by rw[eqGuard_nil_constR];rfl
   simp[execOp,hv,hc,hq,binOp,h1]
  ·have h1:=run_equal_held_nil (P:=E.P) w t te pe ht
   have hq:(eqGuard .eql t x (.const .nilIface) (.iface te pe) .nilIface).run E.P w=.ok () w:=by simp[eqGuard]
   simp[execOp,hv,hc,hq,binOp,h1]
end
structure ItoaI(P:Program)(f:Nat):Prop where
 g : ∃ g, P.globalNamed "internal/strconv.uint64pow10" = some g
 i : ∀ (n : Int) (w : World), -9223372036854775808 ≤ n → n ≤ 9223372036854775807 → Lib.TabIs P w "internal/strconv.uint64pow10" .u64 Lib.pow10Tab → Calls P f #[.int .i64 n] w fun e w' => e = .returned (.string ⟨(Lib.itoa n).toArray⟩) ∧ Below w.heap.size w w'
theorem Tabs.pow10 {P : Program} {w : World} (h : Tabs P w) {g : Nat} (hg : P.globalNamed "internal/strconv.uint64pow10" = some g) : Lib.TabIs P w "internal/strconv.uint64pow10" .u64 Lib.pow10Tab := by
 obtain⟨T,d,e⟩:=h.pow g hg
 unfold Lib.TabIs World.var?
 rw[hg]
 simp only[Option.bind_some,e]
theorem i64_rng{n:Int}(h:IntKind.i64.wrap n=n): -9223372036854775808≤n∧n≤9223372036854775807:=by
 rw[IntKind.wrap_i64]at h
 omega
theorem ItoaI.ct{P:Program}{f:Nat}(h:ItoaI P f){n:Int}(hlen:(Lib.itoa n).length≤140737488355328):CtT P f [.int .i64 n] (.str (Lib.itoa n)):=by
 intro m w vs ht hw ha
 obtain⟨v1,vs',rfl,h1,h2⟩:=ha.cons_left
 have:=h2.nil_left
 subst this
 have h1':RepD m (.int .i64 n) v1:=h1
 cases h1' with
 |int hn=>
  obtain⟨g,hg⟩:=h.g
  obtain⟨r1,r2⟩:=i64_rng hn
  refine(h.i n w r1 r2 (ht.pow10 hg)).mono ?_
  rintro e w' ⟨rfl,hB⟩
  exact⟨_,m,rfl,hB,Mem.le_refl m,fun _ _ h=>.inl h,fun p v hp=>by rw[hB.cell (block_lt_of_cell (hw p v hp))];exact hw p v hp,.str _ (by unfold maxLen;omega)⟩
def atoiV(l:List UInt8):Int:=match Lib.atoiAll l with
 |.ok v=>v
 |Lib.NumEnd.syntax=>0
 |.range=>Lib.atoiSat l
def atoiOk(l:List UInt8):Bool:=match Lib.atoiAll l with
 |.ok _=>true
 |_=>false
structure AtoiI(P:Program)(f:Nat):Prop where
 g1 : ∃ g, P.globalNamed "strconv.ErrSyntax" = some g
 g2 : ∃ g, P.globalNamed "strconv.ErrRange" = some g
 i : ∀ (l : List UInt8) (w : World) (es er : Nat), l.length ≤ 140737488355328 → P.globalNamed "strconv.ErrSyntax" = some es → P.globalNamed "strconv.ErrRange" = some er → (∃ ev, w.cell? ⟨es, 0, none⟩ = some ev ∧ (ev = .nilIface ∨ ∃ te pe, ev = .iface te pe)) → (∃ ev, w.cell? ⟨er, 0, none⟩ = some ev ∧ (ev = .nilIface ∨ ∃ te pe, ev = .iface te pe)) →
   Calls P f #[.string ⟨l.toArray⟩] w fun e w'=>∃u,e=.returned (.tuple #[.int .i64 (atoiV l),u])∧ErrV (atoiOk l) u∧Below w.heap.size w w'
theorem AtoiI.ct{P:Program}{f:Nat}(h:AtoiI P f){l:List UInt8}(hlen:l.length≤140737488355328)(hv:IntKind.i64.wrap (atoiV l)=atoiV l):CtT P f [.str l] (.tup [.int .i64 (atoiV l),.cb (ErrV (atoiOk l))]):=by
 intro m w vs ht hw ha
 obtain⟨v1,vs',rfl,h1,h2⟩:=ha.cons_left
 have:=h2.nil_left
 subst this
 have h1':RepD m (.str l) v1:=h1
 cases h1'
 obtain⟨g1,hg1⟩:=h.g1
 obtain⟨g2,hg2⟩:=h.g2
 refine(h.i l w g1 g2 hlen hg1 hg2 (ht.err _ (.inr rfl) _ hg1) (ht.err _ (.inl rfl) _ hg2)).mono ?_
 rintro e w' ⟨u,rfl,hu,hB⟩
 exact⟨_,m,rfl,hB,Mem.le_refl m,fun _ _ h=>.inl h,fun p v hp=>by rw[hB.cell (block_lt_of_cell (hw p v hp))];exact hw p v hp,_,rfl,RepD.int hv,hu,trivial⟩
end Go.Ab
namespace Go.Ab
open Go.RowKit
section
variable{E:Env}{all:Array Oper}{s r r1 r2 rg:St}{d ty:Nat}{pos:String}{after:Array Edge}{guard:Option (Nat×Bool)}{x y:Operand}
theorem S.aggidx{t e m i:Nat}{j:Int}{us:List X}{u:X}(hs:E.P.underlying t=some (.array m e))(ht:TyI E.P e false 1)(hg:Gd all s guard rg)(hd:(Nat.blt d 1000&&Nat.blt d E.nt)=true)(hx:OpS s x (.agg us) r1)(hy:OpS s y (.int .i64 j) r2)(hj:j=i)(hi:i<m)
  (hu:us[i]?=some u) (hnt:isAT u=false):St1 E all ⟨some d,.index t x y,ty,pos,after,guard⟩ s (rg++(r1++r2)) [(d,u)] []:=
 St1.val hg hd rfl (hx.looks.app hy.looks) fun c A w hh hr=>by
  subst hj
  obtain⟨vs,h1,h2⟩:=hx.rep (c:=c) (a:=A) (w:=w) fun p hp=>hr p (by simp[hp])
  obtain⟨hw,_⟩:=int_of (hy.rep (c:=c) (a:=A) (w:=w) fun p hp=>hr p (by simp[hp]))
  obtain⟨v,hv,hr2⟩:=h2.get_right hu
  refine⟨v,?_,C.toT hr2 hnt⟩
  have hlt:i<vs.length:=(List.getElem?_eq_some_iff.1 hv).1
  have hget:vs[i]=v:=(List.getElem?_eq_some_iff.1 hv).2
  simp only[execOp,h1,hw,Instr.index]
  rw[Sem.run_bind]
  simp[asIntOf,run_underlying hs,ht.size,part,ht.agg,hlt,hget]
  intro h9
  omega
theorem S.nilCheckB{k off:Nat}(hg:Gd all s guard rg)(hd:(Nat.blt d 1000&&Nat.blt d E.nt)=true)(hx:OpS s x (.ptr k off) r):
  St1 E all ⟨some d,.nilCheck x,ty,pos,after,guard⟩ s (rg++r) [(d,.ptr k off)] []:=
 St1.val hg hd rfl hx.looks fun c A w hh hr=>by
  have h0:=hx.rep (c:=c) (a:=A) (w:=w) hr
  obtain⟨b,h1,hv⟩:=ptr_of h0
  refine⟨A.eval x,?_,h0⟩
  simp only[execOp,hv]
  rfl
end
section
variable{E:Env}{U:List Nat}{s:St}{Q:Exit→List Nat→St→Prop}{k:List Kn}
theorem OK.join{G:Type}(u:List Nat)(st:G→St)(pre:G→Prop){x y:Code}(ho:∀g,(st g).all (okKey u)=true)(hx:OK E x (den E Q (.lp (fun _ s'=>∃g,pre g∧Le s' (st g))::k)) U s)(hy:∀g,pre g→OK E y (den E Q k) u (st g)):OK E (.seq x y) (den E Q k) U s:=
 OK.seq (hx.mono fun e U s hd=>by
  cases e with
  |normal=>obtain⟨g,hp,hl⟩:=hd;exact OK.weak (hy g hp) hl (ho g)
  |_=>exact hd)
end
def IsRep(x:X):Prop:=∃m v,RepD m x v
theorem IsRep.mem{rows:List (List X)}(h:IsRep (.sl rows)){x:X}(hx:x∈rows.flatten):IsRep x:=by
 obtain⟨m,v,h⟩:=h
 obtain⟨ad,cap,hv,q1,q2,q3⟩:=sl_of (c:=pureC m) (RepD.toT h)
 rcases q3 with q3|⟨b,off,sz',cs,_,q4,q5,q6,q7⟩
 ·rw[q3]at hx
  cases hx
 ·obtain⟨i,hi,rfl⟩:=List.getElem_of_mem hx
  have hi2:i<cs.length:=by omega
  exact⟨m,cs[i],q7 i _ _ (List.getElem?_eq_getElem hi) (List.getElem?_eq_getElem hi2)⟩
theorem IsRep.int{k:IntKind}{n:Int}(h:IsRep (.int k n)):k.wrap n=n:=by
 obtain⟨m,v,h⟩:=h
 cases h
 assumption
end Go.Ab
namespace Go.Ab
open Go.RowKit
def SlNil(b:Bool)(v:Value):Prop:=∃ad n cap,v=.slice ad n cap∧ad.isNone=b
section
variable{E:Env}{all:Array Oper}{l:List Oper}{U:List Nat}{s r rg:St}{Q:Exit→List Nat→St→Prop}{d ty:Nat}{pos:String}{after:Array Edge}{guard:Option (Nat×Bool)}{x:Operand}
theorem RK.slSplit{t:Nat}{rows:List (List X)}(ht:Nat.blt t 1000=true)(hl:look s t=some (.sl rows))(h:∀b,(b=true→rows=[])→RK E all l U ((t,.cb (SlNil b))::s) Q):RK E all l U s Q:=by
 intro k hk a w hg
 obtain⟨c,hb,hh⟩:=hg
 have h0:=(hh t _ hl).slot ht
 obtain⟨ad,cap,hv,_,_,q3⟩:=sl_of h0
 have hnil:ad.isNone=true→rows=[]:=fun e=>by
  rcases q3 with q3|⟨b,off,sz',cs,rfl,_⟩
  ·exact q3
  ·cases e
 refine h ad.isNone hnil k hk a w ⟨c,hb,fun key y hy=>?_⟩
 simp only[look]at hy
 split at hy
 ·rename_i he
  have hkt:=Nat.eq_of_beq_eq_true he
  cases hy
  rw[←hkt]
  unfold Holds
  rw[Nat.blt_eq]at ht
  rw[if_pos ht]
  exact⟨ad,_,cap,hv,rfl⟩
 ·exact hh key y hy
theorem S.eqnilB{t t2 e:Nat}{b:Bool}(ht:E.P.underlying t=some (.slice e))(hg:Gd all s guard rg)(hd:(Nat.blt d 1000&&Nat.blt d E.nt)=true)(hx:OpS s x (.cb (SlNil b)) r):
  St1 E all ⟨some d,.binOp .eql t x (.const (.slice none 0 0)) t2,ty,pos,after,guard⟩ s (rg++r) [(d,.bool b)] []:=
 St1.val hg hd rfl hx.looks fun c A w _ hr=>by
  have h0:SlNil b (A.eval x):=hx.rep (c:=c) (a:=A) (w:=w) hr
  obtain⟨ad,n,cap,hv,rfl⟩:=h0
  refine⟨.bool ad.isNone,?_,RepD.toT (.bool _)⟩
  have hc:A.eval (.const (.slice none 0 0))=.slice none 0 0:=rfl
  have hq:(eqGuard .eql t x (.const (.slice none 0 0)) (.slice ad n cap) (.slice none 0 0)).run E.P w=.ok () w:=by simp[eqGuard]
  have hr:=Lib.run_eql_slice_nil (P:=E.P) w t e ad n cap 0 0 ht
  simp only[execOp,hv,hc,Sem.run_bind,hq,Result.andThen_ok,hr]
  cases ad<;>rfl
end
end Go.Ab
namespace Go.Ab
open Go.RowKit
structure RW where
 a:Option Addr
 cap:Nat
 n:Nat
abbrev RW.v(r:RW):Value:=.slice r.a r.n r.cap
abbrev RW.b(r:RW):Nat:=(r.a.getD ⟨0,0,none⟩).block
abbrev intVs(l:List Int):List Value:=l.map (Value.int .i64)
abbrev intRows(l:List Int):List (List X):=l.map fun n=>[X.int .i64 n]
def RWOk(h:Mem)(Y:Nat→Prop)(w:World)(r:RW)(l:List Int):Prop:=
 l.length=r.n∧(∃e,w.ownsRow 0 e 1 r.v r.n (intVs l))∧(∀n∈l,IntKind.i64.wrap n=n)∧∀b,r.v.ownBlock=some b→Y b∧∀o,h ⟨b,o,none⟩=none
def JRow(q:List RW)(L:List (List Int))(h:Mem)(Y:Nat→Prop)(w:World):Prop:=
 q.length=L.length∧(∀(i:Nat)(r:RW)(l:List Int),q[i]?=some r→L[i]?=some l→RWOk h Y w r l)∧q.Pairwise fun r s=>∀b,r.v.ownBlock=some b→s.v.ownBlock≠some b
theorem JRow.stable(q:List RW)(L:List (List Int)):Stable (JRow q L):=by
 intro h h' Y w w' ⟨q0,q1,q2⟩ hle hnew hw hB hY
 refine⟨q0,fun i r l hr hl=>?_,q2⟩
 obtain⟨p0,⟨e,p1⟩,p2,p3⟩:=q1 i r l hr hl
 refine⟨p0,⟨e,p1.1,p1.2.imp id ?_⟩,p2,fun b hb=>?_⟩
 ·rintro⟨g,cap,cur,h1,h2,h3,r'⟩
  exact⟨g,cap,cur,h1,h2,(hY g (p3 g (by rw[h1];rfl)).1).trans h3,r'⟩
 ·obtain⟨y1,y2⟩:=p3 b hb
  refine⟨y1,fun o=>?_⟩
  cases hh:h' ⟨b,o,none⟩with
  |none=>rfl
  |some v=>
   rcases hnew _ _ hh with h5|h5
   ·rw[y2 o]at h5;cases h5
   ·exact absurd y1 h5
theorem JRow.mono{q:List RW}{L:List (List Int)}{h:Mem}{Y Y':Nat→Prop}{w:World}(hj:JRow q L h Y w)(hY:∀b,Y b→Y' b):JRow q L h Y' w:=
 ⟨hj.1,fun i r l hr hl=>by
  obtain⟨p0,p1,p2,p3⟩:=hj.2.1 i r l hr hl
  exact⟨p0,p1,p2,fun b hb=>⟨hY b (p3 b hb).1,(p3 b hb).2⟩⟩,hj.2.2⟩
theorem JRow.at{q:List RW}{L:List (List Int)}{h:Mem}{Y:Nat→Prop}{w:World}(hj:JRow q L h Y w){i:Nat}{r:RW}{l:List Int}(hr:q[i]?=some r)(hl:L[i]?=some l)(h0:0<l.length):
  r.a=some ⟨r.b,0,none⟩∧Y r.b∧(∀o,h ⟨r.b,o,none⟩=none)∧∃e cur,w.heap[r.b]?=some (.cells cur e (0,0))∧r.n≤r.cap∧r.cap≤maxLen∧cur.size=r.cap∧cur.toList.take r.n=intVs l:=by
 obtain⟨p0,⟨e,_,p1⟩,p2,p3⟩:=hj.2.1 i r l hr hl
 rcases p1 with⟨_,e2⟩|⟨g,cap,cur,h1,_,h3,h4,h5,h6,h7⟩
 ·omega
 ·have ha:r.a=some ⟨g,0,none⟩:=by have:=h1;simp only[RW.v,Value.slice.injEq]at this;exact this.1
  have hc:r.cap=cap:=by have:=h1;simp only[RW.v,Value.slice.injEq]at this;exact this.2.2
  have hb:r.b=g:=by unfold RW.b;rw[ha];rfl
  obtain⟨y1,y2⟩:=p3 g (by rw[h1];rfl)
  subst hc
  rw[hb]
  rw[Nat.mul_one]at h6 h7
  exact⟨ha,y1,y2,e,cur,h3,h4,h5,h6,h7⟩
theorem JRow.store{q:List RW}{L:List (List Int)}{h:Mem}{Y:Nat→Prop}{w:World}(hj:JRow q L h Y w){i k:Nat}{r:RW}{l:List Int}{z:Int}(hr:q[i]?=some r)(hl:L[i]?=some l)(hk:k<l.length)(hz:IntKind.i64.wrap z=z):
  Y r.b∧(∀o',h ⟨r.b,o',none⟩=none)∧∃vs T',w.heap[r.b]?=some (.cells vs T' (0,0))∧k<vs.size∧JRow q (L.set i (l.set k z)) h Y (w.setRow r.b (vs.toList.take k++[Value.int .i64 z]++vs.toList.drop (k+1)).toArray):=by
 obtain⟨ha,hY,hn,e,cur,h3,h4,h5,h6,h7⟩:=hj.at hr hl (by omega)
 have hrn:l.length=r.n:=(hj.2.1 i r l hr hl).1
 refine⟨hY,hn,cur,e,h3,by omega,by rw[List.length_set];exact hj.1,fun j s m hs hm=>?_,hj.2.2⟩
 have hil:i<L.length:=(List.getElem?_eq_some_iff.1 hl).1
 by_cases hij:j=i
 ·subst hij
  rw[hr]at hs
  cases hs
  rw[List.getElem?_set_self hil]at hm
  cases hm
  obtain⟨p0,_,p2,p3⟩:=hj.2.1 j r l hr hl
  refine⟨by rw[List.length_set];exact p0,⟨e,?_,.inr ⟨r.b,r.cap,(cur.toList.take k++[Value.int .i64 z]++cur.toList.drop (k+1)).toArray,by unfold RW.v;rw[ha],Nat.zero_le _,setRow_heap w r.b cur _ e (0,0) h3,h4,h5,?_,?_⟩⟩,fun n hn=>?_,p3⟩
  ·rw[List.length_map,List.length_set];omega
  ·have:cur.toList.length=r.cap:=by simpa using h6
   simp only[List.size_toArray,List.length_append,List.length_take,List.length_drop,List.length_singleton]
   omega
  ·have hcl:cur.toList.length=r.cap:=by simpa using h6
   have hset:cur.toList.take k++[Value.int .i64 z]++cur.toList.drop (k+1)=cur.toList.set k (.int .i64 z):=by
    rw[List.append_assoc,List.singleton_append,List.set_eq_take_append_cons_drop,if_pos (by omega)]
   have hts:∀(xs:List Value)(v:Value)(m:Nat),(xs.set k v).take m=(xs.take m).set k v:=fun xs v m=>by
    apply List.ext_getElem?
    intro j
    simp only[List.getElem?_take,List.getElem?_set,List.length_take]
    by_cases h1:j<m
    ·by_cases h2:k=j
     ·subst h2;simp[h1,Nat.lt_min]
     ·simp[h1,h2]
    ·by_cases h2:k=j
     ·subst h2;simp[h1];omega
     ·simp[h1,h2]
   rw[Nat.mul_one,List.toList_toArray,hset,hts,h7]
   unfold intVs
   rw[List.map_set]
  ·rcases List.mem_or_eq_of_mem_set hn with hn|rfl
   ·exact p2 n hn
   ·exact hz
 ·rw[List.getElem?_set_ne (Ne.symm hij)]at hm
  obtain⟨p0,⟨e',p1,p1'⟩,p2,p3⟩:=hj.2.1 j s m hs hm
  refine⟨p0,⟨e',p1,p1'.imp id ?_⟩,p2,p3⟩
  rintro⟨g,cap,cur',g1,g2,g3,g4⟩
  refine⟨g,cap,cur',g1,g2,?_,g4⟩
  rw[setRow_other w r.b g _ ?_]
  ·exact g3
  ·rintro rfl
   have hb1:s.v.ownBlock=some r.b:=by rw[g1];rfl
   have hb2:r.v.ownBlock=some r.b:=by unfold RW.v;rw[ha];rfl
   obtain⟨hjl,hs2⟩:=List.getElem?_eq_some_iff.1 hs
   obtain⟨hil2,hr2⟩:=List.getElem?_eq_some_iff.1 hr
   rcases Nat.lt_or_gt_of_ne hij with hlt|hlt
   ·exact(List.pairwise_iff_getElem.1 hj.2.2) j i hjl hil2 hlt r.b (by rw[hs2];exact hb1) (by rw[hr2];exact hb2)
   ·exact(List.pairwise_iff_getElem.1 hj.2.2) i j hil2 hjl hlt r.b (by rw[hr2];exact hb2) (by rw[hs2];exact hb1)
section
variable{E:Env}{U:List Nat}{s:St}{code:Code}{Q:Exit→List Nat→St→Prop}
theorem Base.giveA{c:Ctx}{a:Act}{w:World}{k n:Nat}{hv:Value}(hb:Base E U c a w)(e1:c.arr k=some (n,hv,true))(hk9:k∉E.fs):
  Base E U ⟨c.h,c.loc,fun j=>if j=k then some (n,hv,false)else c.arr j,fun b=>c.Y b∨hv.ownBlock=some b⟩ a w:=by
 have hblk:∀b,hv.ownBlock=some b→E.ok k b∧b<w.heap.size∧(∀o,c.h ⟨b,o,none⟩=none)∧(∀k' m' hv',c.arr k'=some (m',hv',true)→hv'.ownBlock=some b→k'=k):=fun b e=>hb.arr k _ _ b e1 e
 have harr:∀j m u,(if j=k then some (n,hv,false)else c.arr j)=some (m,u,true)→j≠k∧c.arr j=some (m,u,true):=by
  intro j m u hj
  split at hj
  ·cases hj
  ·exact⟨‹_›,hj⟩
 have hall:∀b,b<w.heap.size→(Ctx.mk c.h c.loc (fun j=>if j=k then some (n,hv,false)else c.arr j) fun b=>c.Y b∨hv.ownBlock=some b).all b→c.all b:=by
  intro b _ ho
  rcases ho with(hy|hy)|h|⟨j,m,u,h2,h3⟩
  ·exact .inl hy
  ·exact .inr (.inr ⟨k,n,hv,e1,hy⟩)
  ·exact .inr (.inl h)
  ·exact .inr (.inr ⟨j,m,u,(harr j m u h2).2,h3⟩)
 refine⟨hb.below,hb.hB,hb.nt,dfr_of hb hall (fun _ _ h _=>h),pin_of hb hall (fun _ _ h _=>h),hb.hw,hb.hle,?_,?_,?_,?_,?_,hb.loc0,?_⟩
 ·intro p u hp
  exact hb.hnew p u hp
 ·intro j b hj
  obtain⟨h1,h2,h3,h4,h5⟩:=hb.loc j b hj
  exact⟨h1,h2,h3,h4,fun k' m u hk'=>h5 k' m u (harr _ _ _ hk').2⟩
 ·intro j m u b hj hbk
  obtain⟨hjk,hj⟩:=harr j m u hj
  obtain⟨h1,h2,h3,h4⟩:=hb.arr j m u b hj hbk
  exact⟨h1,h2,h3,fun k' m' u' hk' hb'=>h4 k' m' u' (harr _ _ _ hk').2 hb'⟩
 ·intro j hj
  refine⟨(hb.used j hj).1,?_⟩
  dsimp only
  split
  ·rename_i e;subst e;have:=(hb.used _ hj).2;rw[e1]at this;cases this
  ·exact(hb.used j hj).2
 ·intro b hy
  rcases hy with hy|hy
  ·obtain⟨h1,h2,h3,h4⟩:=hb.Y b hy
   exact⟨h1,h2,h3,fun j m u hj e=>h4 j m u (harr j m u hj).2 e⟩
  ·obtain⟨h1,h2,h3,h4⟩:=hblk b hy
   refine⟨h2,fun hlt=>absurd (Env.ok_own h1 hk9) (by omega),fun j hj=>(hb.loc j b hj).2.2.2.2 k n hv e1 hy,fun j m u hj e=>?_⟩
   obtain⟨hjk,hj⟩:=harr j m u hj
   exact hjk (h4 j m u hj e)
 ·intro j m u lv hj e
  exact hb.arr0 j m u lv hj ((if_neg (show¬j=k from fun e=>hk9 (e▸hj))).symm.trans e)
end
end Go.Ab
namespace Go.Ab
open Go.RowKit
inductive LxX(E:Env)(all:Array Oper):Option Nat→List Oper→List Nat→St→List Lab→List Nat→St→Prop
 |nil {U:List Nat} {s:St}:LxX E all none [] U s [] U s
 |cons {o:Oper} {k:Option Nat} {l:List Oper} {U U':List Nat} {s s':St} {L:List Lab} {rd wr:St} {al:List Nat}:Step E all o rd wr al→Looks s rd→(al.all fun k=>!U.contains k)=true→
  LxX E all k l (al++U) (wr++s) L U' s'→LxX E all (k.map (· +1)) (o::l) U s (⟨rd,wr,al⟩::L) U' s'
 |xop {o:Oper} {l:List Oper} {U U':List Nat} {s s':St} {L:List Lab} {rd wr:St} {al:List Nat}:Looks s rd→(al.all fun k=>!U.contains k)=true→
  LxX E all none l (al++U) (wr++s) L U' s'→LxX E all (some 0) (o::l) U s (⟨rd,wr,al⟩::L) U' s'
structure LxS(E:Env)(all:Array Oper)(k:Option Nat)(l:List Oper)(U:List Nat)(s:St)(L:List Lab)(U':List Nat)(s':St):Prop where
 length:L.length=l.length
 stAll:∀D:Nat→Bool,(∀j,j<l.length→D j=true)→stD L D s=s'∧uD L D U=U'
 at':∀(i:Nat)(b:Lab),L[i]?=some b→∃o,l[i]?=some o∧(k≠some i→Step E all o b.rd b.wr b.al)∧Looks (stD L (fun j=>decide (j<i)) s) b.rd∧∀k∈b.al,k∉uD L (fun j=>decide (j<i)) U
section
variable{E:Env}{all:Array Oper}{o:Oper}{l:List Oper}{U U':List Nat}{s s':St}{L:List Lab}{rd wr:St}{al:List Nat}
theorem LxS.cons{k k2:Option Nat}(hs:k2≠some 0→Step E all o rd wr al)(hk:∀i,k2≠some (i+1)→k≠some i)(hl:Looks s rd)(hal:(al.all fun k=>!U.contains k)=true)(h:LxS E all k l (al++U) (wr++s) L U' s'):LxS E all k2 (o::l) U s (⟨rd,wr,al⟩::L) U' s':=by
 refine⟨by simp[h.length],fun D hD=>?_,fun i b hb=>?_⟩
 ·have h0:D 0=true:=hD 0 (by simp)
  have:=h.stAll (fun j=>D (j+1)) (fun j hj=>hD (j+1) (by simp;omega))
  simpa[stD,uD,h0]using this
 ·cases i with
  |zero=>
   simp at hb
   subst hb
   refine⟨o,rfl,hs,?_,?_⟩
   ·have:(fun j=>decide (j<0))=(fun _:Nat=>false):=by funext j;simp
    rw[this,stD_false];exact hl
   ·have:(fun j=>decide (j<0))=(fun _:Nat=>false):=by funext j;simp
    rw[this,uD_false]
    intro k hk
    simpa using (List.all_eq_true.1 hal) k hk
  |succ i=>
   obtain⟨o',ho,h1,h2,h3⟩:=h.at' i b (by simpa using hb)
   refine⟨o',by simpa using ho,fun e=>h1 (hk i e),?_,?_⟩
   ·have:(fun j=>decide (j+1<i+1))=(fun j=>decide (j<i)):=by funext j;simp
    simpa[stD,this]using h2
   ·have:(fun j=>decide (j+1<i+1))=(fun j=>decide (j<i)):=by funext j;simp
    simpa[uD,this]using h3
end
theorem LxX.s{E:Env}{all:Array Oper}{k:Option Nat}{l:List Oper}{U U':List Nat}{s s':St}{L:List Lab}(h:LxX E all k l U s L U' s'):LxS E all k l U s L U' s':=by
 induction h with
 |nil=>exact⟨rfl,fun D _=>⟨rfl,rfl⟩,fun i b hb=>by simp at hb⟩
 |cons hs hl hal _ ih=>
  refine ih.cons (fun _=>hs) (fun i e he=>e ?_) hl hal
  rw[he];rfl
 |xop hl hal _ ih=>exact ih.cons (fun e=>absurd rfl e) (fun i _ e=>by cases e) hl hal
section
variable{E:Env}{k:Option Nat}{l:List Oper}{U U':List Nat}{s s':St}{L:List Lab}
theorem ready_nil(hdown:downOk 0 l=true){listed:Array Bool}(hsz:listed.size=l.length)(hr:Region.ready .any l.toArray listed=[]):∀j,j<l.length→listed.getD j false=true:=by
 intro j
 induction j using Nat.strongRecOn with
 |_ j ih=>
  intro hj
  by_cases hd:listed.getD j false=true
  ·exact hd
  ·exfalso
   have hmem:j∈Region.ready .any l.toArray listed:=by
    rw[mem_ready]
    refine⟨?_,l[j],by simp[hj],fun e he hb=>?_⟩
    ·have hj':j<listed.size:=by omega
     simp[Array.getElem?_eq_getElem hj']at hd⊢
     exact hd
    ·have:=downOk_spec hdown j l[j] (by simp[hj]) e he hb
     exact ih e.on (by omega) (by omega)
   rw[hr]at hmem
   cases hmem
theorem fuel_out{listed:Array Bool}(hsz:listed.size=l.length)(hun:unl listed.toList≤0):Region.ready .any l.toArray listed=[]:=by
 have hall:∀j,j<l.length→listed.getD j false=true:=fun j hj=>by
  have:=unl_zero listed.toList (by omega) j (by simpa[hsz]using hj)
  simpa using this
 rw[List.eq_nil_iff_forall_not_mem]
 intro j hj
 obtain⟨h0,o,ho,_⟩:=mem_ready.1 hj
 have hj':j<l.length:=by simpa using (Array.getElem?_eq_some_iff.1 ho).1
 have:=hall j hj'
 have hj2:j<listed.size:=by omega
 simp[Array.getElem?_eq_getElem hj2]at h0 this
 rw[h0]at this;cases this
theorem draw_step(h:LxS E l.toArray k l U s L U' s')(hc:drawOk l L=true){listed:Array Bool}{a:Act}{w:World}(hsz:listed.size=l.length)(hcl:Closed l (fun j=>listed.getD j false)){c:Ctx}
  (hbase:Base E (uD L (fun j=>listed.getD j false) U) c a w) (hholds:∀key x,look (stD L (fun j=>listed.getD j false) s) key=some x→Holds c a w key x) {i:Nat} (hi:i∈Region.ready .any l.toArray listed) {o:Oper} (ho0:l[i]?=some o) {B:Lab} (hB:L[i]?=some B):
  (∀p∈B.rd,Holds c a w p.1 p.2)∧(∀k∈B.al,k∉uD L (fun j=>listed.getD j false) U)∧
   ∀c' a' w',Base E (B.al++uD L (fun j=>listed.getD j false) U) c' a' w'→(∀p∈B.wr,Holds c' a' w' p.1 p.2)→(∀key x,(∀p∈B.wr,p.1≠key)→Holds c a w key x→Holds c' a' w' key x)→
    Closed l (fun j=>(listed.setIfInBounds i true).getD j false)∧unl (listed.setIfInBounds i true).toList+1=unl listed.toList∧Good E (uD L (fun j=>(listed.setIfInBounds i true).getD j false) U) (stD L (fun j=>(listed.setIfInBounds i true).getD j false) s) a' w':=by
 simp only[drawOk,Bool.and_eq_true]at hc
 obtain⟨hdown,hclash⟩:=hc
 have hlen:=h.length
 obtain⟨h0,o,ho,hedges⟩:=mem_ready.1 hi
 have hil:i<l.length:=by simpa using (Array.getElem?_eq_some_iff.1 ho).1
 have hio:l[i]?=some o:=by simpa using ho
 have hiL:i<L.length:=by omega
 have hisz:i<listed.size:=by omega
 have hbi:L[i]?=some L[i]:=List.getElem?_eq_getElem hiL
 have hDi:listed.getD i false=false:=by
  simp[Array.getElem?_eq_getElem hisz]at h0⊢;exact h0
 have hBL:B=L[i]:=by rw[hbi]at hB;cases hB;rfl
 subst hBL
 obtain⟨o',ho',_,hlook,hfresh⟩:=h.at' i L[i] hbi
 rw[hio]at ho';cases ho'
 have hready:ReadyAt l (fun j=>listed.getD j false) i:=fun o' ho' e he hb=>by
  rw[hio]at ho';cases ho';exact hedges e he hb
 -- of two operations that clash, who comes first has been done, or will not be done before
 have ord:∀(j:Nat)(b:Lab),L[j]?=some b→(clash b L[i]=true∨clash L[i] b=true)→j≠i→listed.getD j false=decide (j<i):=by
  intro j b hb hcla hne
  have hjl:j<l.length:=by rw[←hlen];exact(List.getElem?_eq_some_iff.1 hb).1
  have sym:∀x y:Lab,clash x y=true→clash y x=true:=by
   intro x y hxy
   have comm:∀s t:St,meets s t=true→meets t s=true:=by
    intro s t hst
    cases hts:meets t s with
    |true=>rfl
    |false=>
     exfalso
     have:∀s t:St,meets s t=true→∃p∈s,keyIn p.1 t=true:=by
      intro s
      induction s with
      |nil=>intro t h;simp[meets]at h
      |cons p s ih=>intro t h;simp only[meets,Bool.or_eq_true]at h;rcases h with h|h
                    ·exact⟨p,List.mem_cons_self,h⟩
                    ·obtain⟨q,hq,hk⟩:=ih t h;exact⟨q,List.mem_cons_of_mem _ hq,hk⟩
     obtain⟨p,hp,hk⟩:=this s t hst
     have:∃q∈t,q.1=p.1:=by
      have kk:∀(t:St),keyIn p.1 t=true→∃q∈t,q.1=p.1:=by
       intro t
       induction t with
       |nil=>intro h;simp[keyIn]at h
       |cons q t ih=>intro h;simp only[keyIn,Bool.or_eq_true]at h;rcases h with h|h
                     ·exact⟨q,List.mem_cons_self,Nat.eq_of_beq_eq_true h⟩
                     ·obtain⟨q',hq,he⟩:=ih h;exact⟨q',List.mem_cons_of_mem _ hq,he⟩
      exact kk t hk
     exact meets_false hts this p hp rfl
   simp only[clash,Bool.or_eq_true]at hxy⊢
   rcases hxy with(h1|h1)|h1
   ·exact .inr (comm _ _ h1)
   ·exact .inl (.inr (comm _ _ h1))
   ·exact .inl (.inl (comm _ _ h1))
  rcases Nat.lt_or_ge j i with hlt|hge
  ·have hk:clash b L[i]=true:=hcla.elim id (sym _ _)
   have hsp:=clashOk_spec (clashAll_spec hclash i L[i] hbi) j b hb (by omega) hk
   simp only[Nat.zero_add]at hsp
   have:=clos_sound hcl l [] [] rfl rfl (by simp) i j hsp hil hready
   simpa[hlt]using this
  ·have hgt:i<j:=by omega
   have hk:clash L[i] b=true:=hcla.elim (sym _ _) id
   have hsp:=clashOk_spec (clashAll_spec hclash j b hb) i L[i] hbi (by omega) hk
   simp only[Nat.zero_add]at hsp
   cases hdj:listed.getD j false with
   |false=>simp;omega
   |true=>
    exfalso
    have:=clos_sound hcl l [] [] rfl rfl (by simp) j i hsp hjl (fun o' ho' e he hb'=>hcl j o' ho' hdj e he hb')
    simp only[hDi]at this
    cases this
 refine⟨?_,?_,fun c' a' w' hbase' hwr hfr=>?_⟩
 ·intro p hp
  refine hholds _ _ ?_
  have hx:=hlook.all p hp
  rw[look_stD]at hx⊢
  rw[lastw_congr L (fun j=>listed.getD j false) (fun j=>decide (j<i)) fun j b hb hn=>?_]
  ·exact hx
  ·by_cases hji:j=i
   ·subst hji;simp[hDi]
   ·refine ord j b hb ?_ hji
    left
    simp only[clash,Bool.or_eq_true]
    left;left
    cases hm:meets b.wr L[i].rd with
    |true=>rfl
    |false=>
     exfalso
     obtain⟨y,hy⟩:∃y,look b.wr p.1=some y:=by cases hq:look b.wr p.1 with|none=>exact absurd hq hn|some y=>exact⟨y,rfl⟩
     exact meets_false hm ⟨_,look_mem hy,rfl⟩ p hp rfl
 ·intro k hk hmem
  rcases(mem_uD L _ U).1 hmem with hu|⟨j,b,hb,hd,hkb⟩
  ·exact hfresh k hk ((mem_uD L _ U).2 (.inl hu))
  ·by_cases hji:j=i
   ·subst hji;simp only[hDi]at hd;cases hd
   ·rcases Nat.lt_or_ge j i with hlt|hge
    ·exact hfresh k hk ((mem_uD L _ U).2 (.inr ⟨j,b,hb,by simpa using hlt,hkb⟩))
    ·obtain⟨_,_,_,_,hfj⟩:=h.at' j b hb
     exact hfj k hkb ((mem_uD L _ U).2 (.inr ⟨i,L[i],hbi,by simp;omega,hk⟩))
 ·have hset:∀j,(listed.setIfInBounds i true).getD j false=if j=i then true else listed.getD j false:=by
   intro j
   by_cases hji:j=i
   ·subst hji;simp[hisz]
   ·rw[if_neg hji,getD_set_ne false (Ne.symm hji)]
  refine⟨?_,?_,⟨c',hbase'.moreU ?_,?_⟩⟩
  ·intro j o' ho' hd e he hb
   simp only[hset]at hd⊢
   split
   ·rfl
   ·by_cases hji:j=i
    ·subst hji;rw[hio]at ho';cases ho';exact hedges e he hb
    ·rw[if_neg hji]at hd;exact hcl j o' ho' hd e he hb
  ·have:=unl_set listed.toList i (by
    simp only[Array.getElem?_toList,Array.getElem?_eq_getElem hisz]
    simp[Array.getElem?_eq_getElem hisz]at hDi
    rw[hDi])
   simp only[Array.toList_setIfInBounds]
   omega
  ·intro k hk
   rw[mem_uD]
   rcases List.mem_append.1 hk with hk|hk
   ·exact .inr ⟨i,L[i],hbi,by simp[hset],hk⟩
   ·rcases(mem_uD L _ U).1 hk with hu|⟨j,b,hb,hd,hkb⟩
    ·exact .inl hu
    ·exact .inr ⟨j,b,hb,by simp only[hset];split;rfl;exact hd,hkb⟩
  ·intro key x hx
   by_cases hkw:look L[i].wr key=none
   ·refine hfr key x (look_none.1 hkw) (hholds key x ?_)
    rw[look_stD]at hx⊢
    rw[←hx]
    congr 1
    refine lastw_congr L _ _ fun j b hb hn=>?_
    rw[hset]
    split
    ·rename_i hji;subst hji;rw[hbi]at hb;cases hb;exact absurd hkw hn
    ·rfl
   ·obtain⟨y,hy⟩:∃y,look L[i].wr key=some y:=by cases hq:look L[i].wr key with|none=>exact absurd hq hkw|some y=>exact⟨y,rfl⟩
    have hxy:x=y:=by
     rw[look_stD,lastw_congr L _ (fun j=>decide (j<i+1)) fun j b hb hn=>?_]at hx
     ·have hat:lastw L (fun j=>decide (j<i+1)) key=some y:=by
       have:∀(L:List Lab)(i:Nat)(b:Lab)(y:X),L[i]?=some b→look b.wr key=some y→lastw L (fun j=>decide (j<i+1)) key=some y:=by
        intro L
        induction L with
        |nil=>intro i b y h;simp at h
        |cons c L ihL=>
         intro i b y hb hy
         cases i with
         |zero=>
          simp at hb;subst hb
          have hz:lastw L (fun j=>decide (j+1<0+1)) key=none:=by
           have:∀M:List Lab,lastw M (fun _=>false) key=none:=by
            intro M;induction M with
            |nil=>rfl
            |cons d M ihM=>simpa[lastw]using ihM
           have he:(fun j=>decide (j+1<0+1))=(fun _:Nat=>false):=by funext j;simp
           rw[he];exact this L
          rw[lastw,hz];simpa using hy
         |succ i=>
          have he:(fun j=>decide (j+1<i+1+1))=(fun j=>decide (j<i+1)):=by funext j;simp
          rw[lastw,he,ihL i b y (by simpa using hb) hy];rfl
       exact this L i L[i] y hbi hy
      rw[hat]at hx
      cases hx;rfl
     ·rw[hset]
      split
      ·rename_i hji;subst hji;simp
      ·rename_i hji
       have:=ord j b hb (by
        left
        simp only[clash,Bool.or_eq_true]
        left;right
        cases hm:meets b.wr L[i].wr with
        |true=>rfl
        |false=>
         exfalso
         obtain⟨z,hz⟩:∃z,look b.wr key=some z:=by cases hq:look b.wr key with|none=>exact absurd hq hn|some z=>exact⟨z,rfl⟩
         exact meets_false hm ⟨_,look_mem hz,rfl⟩ _ (look_mem hy) rfl) hji
       rw[this]
       by_cases hlt:j<i
       ·simp[hlt];omega
       ·simp[hlt];omega
    subst hxy
    exact hwr _ (look_mem hy)
theorem draw_anyS(h:LxS E l.toArray k l U s L U' s')(hc:drawOk l L=true)(Q:Exit→Act→World→Prop)(hQ:∀a w,Good E U' s' a w→Q .normal a w):
  ∀(fuel:Nat)(listed:Array Bool)(a:Act)(w:World),listed.size=l.length→unl listed.toList≤fuel→Closed l (fun j=>listed.getD j false)→(∀x,k=some x→listed.getD x false=true)→
   Good E (uD L (fun j=>listed.getD j false) U) (stD L (fun j=>listed.getD j false) s) a w→wpAnyIn E.F 0 E.P .any l.toArray Q fuel listed a w:=by
 have hdown:downOk 0 l=true:=by
  have:=hc
  simp only[drawOk,Bool.and_eq_true]at this
  exact this.1
 have fin:∀(listed:Array Bool)(a:Act)(w:World),listed.size=l.length→Good E (uD L (fun j=>listed.getD j false) U) (stD L (fun j=>listed.getD j false) s) a w→
   Region.ready .any l.toArray listed=[]→Q .normal a w:=by
  intro listed a w hsz hg hr
  have:=h.stAll _ (ready_nil hdown hsz hr)
  rw[this.1,this.2]at hg
  exact hQ a w hg
 intro fuel
 induction fuel with
 |zero=>
  intro listed a w hsz hun hcl hk hg
  have hr:=fuel_out hsz hun
  exact⟨hr,fin listed a w hsz hg hr⟩
 |succ fuel ih=>
  intro listed a w hsz hun hcl hk hg
  refine⟨fin listed a w hsz hg,fun i hi=>?_⟩
  obtain⟨h0,o,ho,hedges⟩:=mem_ready.1 hi
  have hil:i<l.length:=by simpa using (Array.getElem?_eq_some_iff.1 ho).1
  have hio:l[i]?=some o:=by simpa using ho
  have hbi:L[i]?=some (L[i]'(by have:=h.length;omega)):=List.getElem?_eq_getElem _
  obtain⟨o',ho',hstep,_,_⟩:=h.at' i _ hbi
  rw[hio]at ho';cases ho'
  have hki:k≠some i:=fun e=>by
   have h1:=hk i e
   have hisz:i<listed.size:=by omega
   simp[Array.getElem?_eq_getElem hisz]at h0 h1
   rw[h0]at h1;cases h1
  obtain⟨c,hbase,hholds⟩:=hg
  obtain⟨p1,p2,p3⟩:=draw_step h hc hsz hcl hbase hholds hi hio hbi
  refine opIn_wpOpIn ho (hstep hki _ c a w hbase p1 p2 _ Q ?_)
  intro c' a' w' hb' _ hwr hfr
  obtain⟨q1,q2,q3⟩:=p3 c' a' w' hb' hwr hfr
  refine ih _ a' w' (by simpa using hsz) (by omega) q1 (fun x hx=>?_) q3
  by_cases hxi:x=i
  ·exact absurd (hxi▸hx) hki
  ·rw[getD_set_ne false (Ne.symm hxi)];exact hk x hx
def StepX(E:Env)(all:Array Oper)(o:Oper){ι:Type}(rd:St)(wr:ι→St)(al:List Nat):Prop:=
 ∀(U:List Nat)(c:Ctx)(a:Act)(w:World),Base E U c a w→(∀p∈rd,Holds c a w p.1 p.2)→(∀k∈al,k∉U)→
  ∀(next:Act→World→Prop)(Q:Exit→Act→World→Prop),
   (∀q c' a' w',Base E (al++U) c' a' w'→(∀p∈wr q,Holds c' a' w' p.1 p.2)→
    (∀key x,(∀p∈wr q,p.1≠key)→Holds c a w key x→Holds c' a' w' key x)→next a' w')→
   opIn E all o next Q a w
end
end Go.Ab
namespace Go.Ab
open Go.RowKit
theorem OK.resFact{E:Env}{U:List Nat}{s:St}{code:Code}{Q:Exit→List Nat→St→Prop}{J:Mem→(Nat→Prop)→World→Prop}{p:Prop}(hl:look s 3000=some (.res J))(hp:∀h Y w,J h Y w→p)(h:p→OK E code Q U s):OK E code Q U s:=fun a w hg=>by
 obtain⟨c,hb,hh⟩:=hg
 exact h (hp _ _ _ (res_of (hh _ _ hl)).2) a w ⟨c,hb,hh⟩
section
variable{E:Env}{all:Array Oper}{s r r1 r2 r3 rg:St}{d ty:Nat}{pos:String}{after:Array Edge}
theorem LxX.c{k:Option Nat}{o:Oper}{l:List Oper}{U U':List Nat}{s':St}{L:List Lab}{rd wr:St}{al:List Nat}(h:St1 E all o s rd wr al)
 (hr:LxX E all k l (al++U) (wr++s) L U' s') (ha:(al.all fun k=>!U.contains k)=true:=by rfl):LxX E all (k.map (· +1)) (o::l) U s (⟨rd,wr,al⟩::L) U' s':=.cons h.1 h.2 ha hr
theorem LxX.cs{x:Nat}{o:Oper}{l:List Oper}{U U':List Nat}{s':St}{L:List Lab}{rd wr:St}{al:List Nat}(h:St1 E all o s rd wr al)
 (hr:LxX E all (some x) l (al++U) (wr++s) L U' s') (ha:(al.all fun k=>!U.contains k)=true:=by rfl):LxX E all (some (x+1)) (o::l) U s (⟨rd,wr,al⟩::L) U' s':=LxX.c (k:=some x) h hr ha
theorem LxX.cn{o:Oper}{l:List Oper}{U U':List Nat}{s':St}{L:List Lab}{rd wr:St}{al:List Nat}(h:St1 E all o s rd wr al)
 (hr:LxX E all none l (al++U) (wr++s) L U' s') (ha:(al.all fun k=>!U.contains k)=true:=by rfl):LxX E all none (o::l) U s (⟨rd,wr,al⟩::L) U' s':=LxX.c (k:=none) h hr ha
theorem LxX.x{o:Oper}{l:List Oper}{U U':List Nat}{s':St}{L:List Lab}{rd wr:St}{al:List Nat}(hl:Looks s rd)
 (hr:LxX E all none l (al++U) (wr++s) L U' s') (ha:(al.all fun k=>!U.contains k)=true:=by rfl):LxX E all (some 0) (o::l) U s (⟨rd,wr,al⟩::L) U' s':=.xop hl ha hr
end
end Go.Ab
