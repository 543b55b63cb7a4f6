import Derived.Laws.IdiomStrings
import Derived.Laws.StructEq
import Derived.Lib.SlicesCompact
import Derived.Sort.OwnSortedInts
import Derived.Test.YtpbalelbenmmbaaGreatDoorFk
namespace Go.Ab
open Go.RowKit
section
variable{E:Env}{all:Array Oper}{s r r1 r2 r3 rg:St}{d ty:Nat}{pos:String}{after:Array Edge}{guard:Option (Nat×Bool)}{x y z:Operand}
theorem S.bytes{src dst e:Nat}{l:List UInt8}(hs:E.P.underlying src=some .string)(ht:E.P.underlying dst=some (.slice e))(he:E.P.underlying e=some (.int .u8))(hg:Gd all s guard rg)(hd:(Nat.blt d 1000&&Nat.blt d E.nt)=true)(hx:OpS s x (.str l) r):
  St1 E all ⟨some d,.convert src dst x,ty,pos,after,guard⟩ s (rg++r) ((d,.sl (l.map fun b=>[.int .u8 b.toNat]))::[]) []:=
 St1.mk hg hd rfl hx.looks fun U c a w hb hr _=>by
  obtain⟨hv,hlen⟩:=str_of (hx.rep (c:=c) (a:=a) (w:=w) hr)
  have hsz:(⟨l.toArray⟩:ByteArray).size=l.length:=by show l.toArray.size=_;simp
  have hrun:=run_bytes_of_string (P:=E.P) w src dst e ⟨l.toArray⟩ hs ht he
  rw[hsz]at hrun
  generalize hcap:grownCap w l.length 0 e=cap at hrun
  have hc1:l.length≤cap:=by rw[←hcap];exact grownCap_ge _ _ _ _
  have hc2:cap≤maxLen:=by rw[←hcap];exact grownCap_le_maxLen _ _ _ _ hlen
  generalize hcells:bytesRow (⟨l.toArray⟩:ByteArray) cap=cells at hrun
  generalize hob:Obj.cells cells e (cells.size,cells.size+1)=ob at hrun
  have hB:Below w.heap.size w (w.drew.alloc ob):=(Below.refl _ w).drew.alloc (Nat.le_refl _) ob
  have hnewb:(w.drew.alloc ob).heap[w.heap.size]?=some ob:=heap_alloc_new w.drew ob
  have hcell:∀j u,cells[j]?=some u→(w.drew.alloc ob).cell? ⟨w.heap.size,j,none⟩=some u:=by
   intro j u hu
   subst hob
   rw[cell_of_row _ w.heap.size j cells e _ hnewb]
   exact hu
  have hget:∀(j:Nat)(b:UInt8),l[j]?=some b→cells[j]?=some (Value.int .u8 b.toNat):=by
   intro j b hj
   have hjl:j<l.length:=(List.getElem?_eq_some_iff.1 hj).1
   rw[←hcells]
   simp[bytesRow,Array.getElem?_append,hjl]
   have:=(List.getElem?_eq_some_iff.1 hj).2
   rw[this]
  obtain⟨h',hh'⟩:∃h':Mem,h'=fun p=>if p.block=w.heap.size then(w.drew.alloc ob).cell? p else c.h p:=⟨_,rfl⟩
  have hle:Mem.le c.h h':=by
   intro p u hp
   rw[hh']
   dsimp only
   rw[if_neg (by have:=block_lt_of_cell (hb.hw p u hp);omega)]
   exact hp
  have hnw:∀p u,h' p=some u→c.h p=some u∨w.heap.size≤p.block:=fun p u hp=>by
   rw[hh']at hp
   dsimp only at hp
   split at hp
   ·exact .inr (by omega)
   ·exact .inl hp
  have hbase:=hb.below_grow hB hle hnw (fun p u hp=>by
   rw[hh']at hp
   dsimp only at hp
   split at hp
   ·exact hp
   ·rw[hB.cell (block_lt_of_cell (hb.hw p u hp))];exact hb.hw p u hp)
  have hext:Ext c ⟨h',c.loc,c.arr,c.Y⟩:=⟨hle,fun _ _ e=>e,fun _ m hv lv e=>⟨m,hv,lv,e,Nat.le_refl _,fun _=>rfl⟩⟩
  refine⟨.slice (some ⟨w.heap.size,0,none⟩) l.length cap,⟨h',c.loc,c.arr,c.Y⟩,_,?_,hbase,hext,?_,(fun p hp=>by cases hp),fun key u hkey _ hu=>Holds.below hb hB hext (fun _ _ _ e=>e) rfl hnw hbase.hw hkey hu⟩
  ·simp only[execOp,hv]
   rw[Sem.run_bind,hrun]
   rfl
  ·have:RepD h' (.sl (l.map fun b=>[X.int .u8 b.toNat])) (.slice (some ⟨w.heap.size,0,none⟩) (l.map fun b=>[X.int .u8 b.toNat]).length cap):=by
    have hfl:(l.map fun b=>[X.int .u8 (b.toNat:Int)]).flatten=l.map fun b=>X.int .u8 b.toNat:=by
     clear hcells hob hcell hget hh' hle hbase hnw hext hnewb hB hrun hcap hc1 hc2 hlen hv hx hsz
     induction l with
     |nil=>rfl
     |cons b l ih=>simp only[List.map_cons,List.flatten_cons,ih,List.singleton_append]
    refine .sl _ _ _ _ 1 (l.map fun b=>Value.int .u8 b.toNat) (by simpa using hc1) hc2 (fun q hq=>by obtain⟨b,_,rfl⟩:=List.mem_map.1 hq;rfl) (by rw[hfl];simp) ?_ ?_
    ·intro i v hi
     rw[List.getElem?_map]at hi
     cases hli:l[i]? with
     |none=>rw[hli]at hi;cases hi
     |some b=>
      rw[hli]at hi
      cases hi
      rw[hh']
      dsimp only
      rw[if_pos rfl,Nat.zero_add]
      exact hcell i _ (hget i b hli)
    ·intro i u v hi hv
     rw[hfl,List.getElem?_map]at hi
     rw[List.getElem?_map]at hv
     cases hli:l[i]? with
     |none=>rw[hli]at hi;cases hi
     |some b=>
      rw[hli]at hi hv
      cases hi
      cases hv
      exact .int (by
       have:=UInt8.toNat_lt b
       exact IntWalk.u8_in _ (by omega))
   rw[List.length_map]at this
   exact RepD.toT (c:=⟨h',c.loc,c.arr,c.Y⟩) this
theorem optr_of{c:Ctx}{k n off:Nat}{v:Value}(h:RepT c (.optr k n off) v):∃m hv lv,c.arr k=some (m,hv,lv)∧n≤m∧(n=m→∃b l cp,hv=.slice (some ⟨b,0,none⟩) l cp∧v=.pointer (some ⟨b,off,none⟩)):=h
theorem S.oindex{t e sz k n i:Nat}{j:Int}{rows:List (List X)}(hs:SlI E.P t e sz)(hg:Gd all s guard rg)(hd:(Nat.blt d 1000&&Nat.blt d E.nt)=true)(hx:OpS s x (.own k n) r1)(hl:look s (2000+k)=some (.arr sz rows))(hn:rows.length=n)
  (hy:OpS s y (.int .i64 j) r2) (hj:j=i) (hi:i<n):St1 E all ⟨some d,.indexAddr t x y,ty,pos,after,guard⟩ s (rg++(r1++(r2++[(2000+k,.arr sz rows)]))) [(d,.optr k n (i * sz))] []:=
 St1.val hg hd rfl (hx.looks.app (hy.looks.app ⟨hl,trivial⟩)) fun c A w hh hr=>by
  subst hn
  subst hj
  obtain⟨_,m,hv,lv,e1,e2,e3⟩:=own_of (hx.rep (c:=c) (a:=A) (w:=w) fun p hp=>hr p (by simp[hp]))
  obtain⟨hw,_⟩:=int_of (hy.rep (c:=c) (a:=A) (w:=w) fun p hp=>hr p (by simp[hp]))
  obtain⟨v,e',vs,g1,g2,g3,g4⟩:=arr_of (hr (2000+k,.arr sz rows) (by simp))
  rw[e1]at g1
  cases g1
  have hev:=e3 rfl
  rcases g2.2 with⟨_,h0⟩|⟨g,cap,cur,rfl,_⟩
  ·omega
  ·refine⟨.pointer (some ⟨g,i * sz,none⟩),?_,rows.length,_,_,e1,Nat.le_refl _,fun _=>⟨g,rows.length,cap,rfl,rfl⟩⟩
   simp[execOp,hev,hw,Instr.indexAt,asIntOf,run_underlying hs.und,hs.size,add_off]
   intro h1
   omega
theorem S.oload1{T k n off sz tsz:Nat}{u:X}{rows:List (List X)}(ht:TyI E.P T false tsz)(hg:Gd all s guard rg)(hd:(Nat.blt d 1000&&Nat.blt d E.nt)=true)(hx:OpS s x (.optr k n off) r)(hl:look s (2000+k)=some (.arr sz rows))(hn:rows.length=n)
  (hu:rows.flatten[off]?=some u):St1 E all ⟨some d,.load T x,ty,pos,after,guard⟩ s (rg++(r++[(2000+k,.arr sz rows)])) [(d,u)] []:=
 St1.val hg hd rfl (hx.looks.app ⟨hl,trivial⟩) fun c A w hh hr=>by
  subst hn
  obtain⟨m,hv,lv,e1,e2,e3⟩:=optr_of (hx.rep (c:=c) (a:=A) (w:=w) fun p hp=>hr p (by simp[hp]))
  obtain⟨v,e',vs,g1,g2,g3,g4⟩:=arr_of (hr (2000+k,.arr sz rows) (by simp))
  rw[e1]at g1
  cases g1
  obtain⟨b,l,cp,rfl,hp⟩:=e3 rfl
  obtain⟨v,hvv,hvr⟩:=g4.get_right hu
  refine⟨v,?_,RepD.toT hvr⟩
  simp only[execOp,hp]
  rw[Sem.run_bind,run_load1 ht (v:=v)]
  ·rfl
  ·have:=g2.cells (g:=b) rfl off v hvv
   rwa [add_off,Nat.zero_add]at this
theorem S.ofield{T f o k n off sz:Nat}{rows:List (List X)}(hf:FiI E.P T f o)(hg:Gd all s guard rg)(hd:(Nat.blt d 1000&&Nat.blt d E.nt)=true)(hx:OpS s x (.optr k n off) r)(hl:look s (2000+k)=some (.arr sz rows))(hn:rows.length=n):
  St1 E all ⟨some d,.fieldAddr T x f,ty,pos,after,guard⟩ s (rg++(r++[(2000+k,.arr sz rows)])) [(d,.optr k n (off+o))] []:=
 St1.val hg hd rfl (hx.looks.app ⟨hl,trivial⟩) fun c A w hh hr=>by
  subst hn
  obtain⟨m,hv,lv,e1,e2,e3⟩:=optr_of (hx.rep (c:=c) (a:=A) (w:=w) fun p hp=>hr p (by simp[hp]))
  obtain⟨v,e',vs,g1,g2,g3,g4⟩:=arr_of (hr (2000+k,.arr sz rows) (by simp))
  rw[e1]at g1
  cases g1
  obtain⟨b,l,cp,rfl,hp⟩:=e3 rfl
  refine⟨.pointer (some ⟨b,off+o,none⟩),?_,rows.length,_,_,e1,Nat.le_refl _,fun _=>⟨b,l,cp,rfl,rfl⟩⟩
  simp only[execOp,hp]
  rw[Sem.run_bind,run_fieldAt hf]
  rfl
theorem S.bindex{t e sz m k off i:Nat}{j:Int}(hs:E.P.underlying t=some (.array m e))(hsz2:∀w,(sizeOf e).run E.P w=.ok sz w)(hg:Gd all s guard rg)(hd:(Nat.blt d 1000&&Nat.blt d E.nt)=true)(hx:OpS s x (.ptr k off) r1)
  (hy:OpS s y (.int .i64 j) r2) (hj:j=i) (hi:i<m):St1 E all ⟨some d,.indexAddr t x y,ty,pos,after,guard⟩ s (rg++(r1++r2)) [(d,.ptr k (off+i * sz))] []:=
 St1.val hg hd rfl (hx.looks.app hy.looks) fun c A w hh hr=>by
  subst hj
  obtain⟨b,h1,hv⟩:=ptr_of (hx.rep (c:=c) (a:=A) (w:=w) fun p hp=>hr p (by simp[hp]))
  obtain⟨hw,_⟩:=int_of (hy.rep (c:=c) (a:=A) (w:=w) fun p hp=>hr p (by simp[hp]))
  refine⟨.pointer (some ⟨b,off+i * sz,none⟩),?_,b,h1,rfl⟩
  simp[execOp,hv,hw,Instr.indexAt,asIntOf,run_underlying hs,hsz2,add_off,Instr.sureAddr]
  intro h2
  omega
theorem Base.freeze{U:List Nat}{c:Ctx}{a:Act}{w:World}{k n:Nat}{hv:Value}(hb:Base E U c a w)(e1:c.arr k=some (n,hv,true))(hk9:k∉E.fs):
  ∃c',Base E U c' a w∧Ext c c'∧(∀p,hv.ownBlock=some p.block→c'.h p=w.cell? p)∧∀key y,¬key<1000→key≠2000+k→Holds c a w key y→Holds c' a w key y:=by
 obtain⟨h',hh'⟩:∃h':Mem,h'=fun p=>if hv.ownBlock=some p.block then w.cell? p else c.h p:=⟨_,rfl⟩
 have hblk:∀b,hv.ownBlock=some b→E.ok k b∧b<w.heap.size∧(∀o,c.h ⟨b,o,none⟩=none)∧(∀k' m' hv',c.arr k'=some (m',hv',true)→hv'.ownBlock=some b→k'=k):=fun b e=>hb.arr k _ _ b e1 e
 have hle:Mem.le c.h h':=by
  intro p u hp
  rw[hh']
  dsimp only
  split
  ·exact hb.hw p u hp
  ·exact hp
 have hin:∀p u,h' p=some u→c.h p=some u∨(hv.ownBlock=some p.block∧w.cell? p=some u):=by
  intro p u hp
  rw[hh']at hp
  dsimp only at hp
  split at hp
  ·exact .inr ⟨‹_›,hp⟩
  ·exact .inl hp
 have hext:Ext c ⟨h',c.loc,fun j=>if j=k then some (n,hv,false)else c.arr j,c.Y⟩:=⟨hle,fun _ _ e=>e,fun j m u lv e=>by
  by_cases hj:j=k
  ·subst hj;rw[e1]at e;cases e;exact⟨_,_,false,if_pos rfl,Nat.le_refl _,fun _=>rfl⟩
  ·exact⟨m,u,lv,(if_neg hj).trans e,Nat.le_refl _,fun _=>rfl⟩⟩
 have harr:∀j m u,(if j=k then some (n,hv,false)else c.arr j)=some (m,u,true)→j≠k∧c.arr j=some (m,u,true):=by
  intro j m u hj
  split at hj
  ·cases hj
  ·exact⟨‹_›,hj⟩
 have hall:∀b,b<w.heap.size→(Ctx.mk h' c.loc (fun j=>if j=k then some (n,hv,false)else c.arr j) c.Y).all b→c.all b:=by
  intro b _ ho
  rcases ho with hy|h|⟨j,m,u,h2,h3⟩
  ·exact .inl hy
  ·exact .inr (.inl h)
  ·exact .inr (.inr ⟨j,m,u,(harr j m u h2).2,h3⟩)
 have hwn:∀p u,h' p=some u→w.cell? p=some u:=by
  intro p u hp
  rcases hin p u hp with h|h
  ·exact hb.hw p u h
  ·exact h.2
 refine⟨⟨h',c.loc,fun j=>if j=k then some (n,hv,false)else c.arr j,c.Y⟩,⟨hb.below,hb.hB,hb.nt,dfr_of hb hall (fun _ _ h _=>h),pin_of hb hall (fun _ _ h _=>h),hwn,Mem.le_trans hb.hle hle,?_,?_,?_,?_,?_,hb.loc0,?_⟩,hext,fun p hp=>by rw[hh'];dsimp only;rw[if_pos hp],?_⟩
 ·intro p u hp
  rcases hin p u hp with h|h
  ·exact hb.hnew p u h
  ·exact .inr (.inl (Env.ok_own (hblk _ h.1).1 hk9))
 ·intro j b hj
  obtain⟨h1,h2,h3,h4,h5⟩:=hb.loc j b hj
  refine⟨h1,h2,fun o=>?_,h4,fun k' m u hk'=>h5 k' m u (harr _ _ _ hk').2⟩
  cases hq:h' ⟨b,o,none⟩with
  |none=>exact hq
  |some u=>
   rcases hin _ _ hq with h|h
   ·rw[h3 o]at h;cases h
   ·exact absurd h.1 (h5 _ _ _ e1)
 ·intro j m u b hj hbk
  obtain⟨hjk,hj⟩:=harr j m u hj
  obtain⟨h1,h2,h3,h4⟩:=hb.arr j m u b hj hbk
  refine⟨h1,h2,fun o=>?_,fun k' m' u' hk' hb'=>h4 k' m' u' (harr _ _ _ hk').2 hb'⟩
  cases hq:h' ⟨b,o,none⟩with
  |none=>exact hq
  |some u=>
   rcases hin _ _ hq with h|h
   ·rw[h3 o]at h;cases h
   ·exact absurd ((hblk b h.1).2.2.2 j m _ hj hbk) hjk
 ·intro j hj
  refine⟨(hb.used j hj).1,?_⟩
  dsimp only
  split
  ·rename_i e;subst e;have:=(hb.used _ hj).2;rw[e1]at this;cases this
  ·exact(hb.used j hj).2
 ·intro b hy
  obtain⟨h1,h2,h3,h4⟩:=hb.Y b hy
  exact⟨h1,h2,h3,fun j m u hj e=>h4 j m u (harr j m u hj).2 e⟩
 ·intro j m u lv hj e
  exact hb.arr0 j m u lv hj ((if_neg (show¬j=k from fun e=>hk9 (e▸hj))).symm.trans e)
 ·intro key u hlt hne h0
  unfold Holds at h0⊢
  rw[if_neg hlt]at h0⊢
  refine or_snd h0 fun h0=>?_
  split at h0
  ·rename_i h2
   rw[if_pos h2]
   obtain⟨b,o,f1,f2,f3⟩:=h0
   exact⟨b,o,f1,f2,f3.mono hext⟩
  ·rename_i h2
   rw[if_neg h2]
   split at h0
   ·rename_i h6
    rw[if_pos h6]
    obtain⟨sz2,rows2,hv2,e2',vs2,f4,f1,f2,f3⟩:=h0
    have hj:key - 2000≠k:=by omega
    generalize key - 2000=j at f1 hj
    exact⟨sz2,rows2,hv2,e2',vs2,f4.mono hext,(if_neg hj).trans f1,f2,f3⟩
   ·rename_i h6
    rw[if_neg h6]
    obtain⟨hk0,J,hx0,hJ,hJ2⟩:=h0
    exact⟨hk0,J,hx0,hJ,hJ _ _ _ _ _ hJ2 hle (fun p v e=>(hin p v e).imp id fun h hy=>(hb.Y _ hy).2.2.2 _ _ _ e1 h.1) hwn (BelX.refl _ _ _) fun _ _=>rfl⟩
theorem step_own{f k n sz:Nat}{rows:List (List X)}{xr yr:X}{at_:Array TypeId}(hcall:∀args w,(callFunc f args).run E.P w=.ok (.enter f args) w)(hg:Gd all s guard rg)(hd:(Nat.blt d 1000&&Nat.blt d E.nt)=true)
  (hx:OpS s x (.own k n) r) (hl:look s (2000+k)=some (.arr sz rows)) (hn:rows.length=n)
  (hpost:∀U c a w hv e vs,k<1000→Base E U c a w→c.arr k=some (n,hv,true)→w.ownsRow 0 e sz hv n vs→(∀q∈rows,q.length=sz)→All2 (RepD c.h) rows.flatten vs→
   Calls E.P f #[hv] w fun en w'=>∃v c',en=.returned v∧Base E U c' a w'∧Ext c c'∧RepT c' xr v∧Holds c' a w' (2000+k) yr∧∀key y,¬key<1000→key≠2000+k→Holds c a w key y→Holds c' a w' key y):
  St1 E all ⟨some d,.call {callee:=.value (.func f),args:=#[x],argTypes:=at_},ty,pos,after,guard⟩ s (rg++(r++[(2000+k,.arr sz rows)])) [(d,xr),(2000+k,yr)] []:=by
 simp only[Bool.and_eq_true,Nat.blt_eq]at hd
 refine⟨?_,hg.looks.app (hx.looks.app ⟨hl,trivial⟩)⟩
 intro U c a w hb hr _ next Q hnx
 have hw:=hg.wanted (o:=⟨some d,.call {callee:=.value (.func f),args:=#[x],argTypes:=at_},ty,pos,after,guard⟩) (fun p hp=>hr p (List.mem_append_left _ hp))
 subst hn
 obtain⟨_,m,hv,lv,e1,e2,e3⟩:=own_of (hx.rep (c:=c) (a:=a) (w:=w) fun p hp=>hr p (by simp[hp]))
 obtain⟨v,e',vs,g1,g2,g3,g4⟩:=arr_of (hr (2000+k,.arr sz rows) (by simp))
 rw[e1]at g1
 cases g1
 have hev:=e3 rfl
 unfold opIn
 rw[if_pos hw]
 refine⟨fun _ _=>trivial,?_⟩
 rw[Oper.semAt_eq _ _ _ fun cl he=>by cases he]
 have hrun:(execOp a.eval ⟨some d,.call {callee:=.value (.func f),args:=#[x],argTypes:=at_},ty,pos,after,guard⟩).run E.P w=.ok (.enter f #[hv]) w:=by
  have hfo:a.eval (.func f)=.func (.func f) #[] #[]:=rfl
  simp[execOp,resolve,hfo,hev,Deferred.ofValue,invoke,hcall]
 rw[hrun]
 refine⟨(fun h=>by cases h),?_⟩
 have hcalls:=hpost U c a w hv e' vs (arr_lt (hr (2000+k,.arr sz rows) (by simp))) hb e1 g2 g3 g4
 have h1:CallsIn E.F (0 - 1) E.P f #[hv] w _:=(callsIn_wide (n:=0)).2 hcalls
 refine h1.mono ?_
 rintro en w' ⟨v,c',rfl,hb',hext,hrv,hhold,hfr⟩
 have hdt:d<a.tmps.size:=by rw[hb.nt];exact hd.2
 refine hnx c' _ w' (hb'.put _ _) hext ?_ ?_
 ·intro p hp
  simp only[List.mem_cons,List.not_mem_nil,or_false]at hp
  rcases hp with rfl|rfl
  ·unfold Holds
   rw[if_pos hd.1,getD_put hdt]
   exact hrv
  ·exact hhold.put (by show d≠2000+k;omega) v
 ·intro key y hk hy
  have hne:d≠key:=hk (d,xr) (by simp)
  have hne2:2000+k≠key:=hk (2000+k,yr) (by simp)
  by_cases h1:key<1000
  ·refine Holds.put ?_ hne v
   unfold Holds at hy⊢
   rw[if_pos h1]at hy⊢
   exact hy.mono hext
  ·exact(hfr key y h1 (fun e=>hne2 e.symm) hy).put hne v
structure SortsI(P:Program)(f:Nat):Prop where
 some:∀(blk off cap:Nat)(zs:List Int)(w:World),Go.Sort.Holds (Value.int .i64) w blk off zs.toArray→blk<w.heap.size→zs.length<4611686018427387904→
  Calls P f #[.slice (some ⟨blk,off,none⟩) zs.length cap] w fun e w'=>e=.returned (.tuple #[])∧∃n os,w'=Go.Sort.grow (Go.Sort.putRow (Value.int .i64) (Go.Sort.ahead w n) blk off (zs.mergeSort fun x y=>decide (x≤y)).toArray) os
 none:∀(p:Option Addr)(cap:Nat)(w:World),Calls P f #[.slice p 0 cap] w fun e w'=>e=.returned (.tuple #[])∧w'=w
theorem flatten_ints{α:Type}(g:α→X):∀l:List α,(l.map fun n=>[g n]).flatten=l.map g
 |[]=>rfl
 |n::l=>by simp only[List.map_cons,List.flatten_cons,flatten_ints g l,List.singleton_append]
theorem ints_vals{h:Mem}:∀{zs:List Int}{vs:List Value},All2 (RepD h) (zs.map fun n=>X.int .i64 n) vs→vs=zs.map (Value.int .i64)
 |[],[],_=>rfl
 |z::zs,v::vs,h=>by
  have h1:=h.1
  cases h1
  rw[List.map_cons,ints_vals h.2]
 |[],_::_,h=>h.elim
 |_::_,[],h=>h.elim
theorem vals_ints{h h':Mem}{zs ts:List Int}(hs:All2 (RepD h) (zs.map fun n=>X.int .i64 n) (zs.map (Value.int .i64)))(ht:∀t∈ts,t∈zs):All2 (RepD h') (ts.map fun n=>X.int .i64 n) (ts.map (Value.int .i64)):=by
 refine All2.of_get (by simp) fun i u v hu hv=>?_
 rw[List.getElem?_map]at hu hv
 cases hi:ts[i]? with
 |none=>rw[hi]at hu;cases hu
 |some t=>
  rw[hi]at hu hv
  cases hu
  cases hv
  have hm:=ht t (List.mem_of_getElem? hi)
  obtain⟨j,hj⟩:=List.getElem?_of_mem hm
  have h1:=hs.get (i:=j) (a:=.int .i64 t) (b:=.int .i64 t) (by simp[hj]) (by simp[hj])
  cases h1
  exact .int ‹_›
theorem S.sortI{f k n:Nat}{zs:List Int}{at_:Array TypeId}{rows:List (List X)}(hf:SortsI E.P f)(hcall:∀args w,(callFunc f args).run E.P w=.ok (.enter f args) w)(hg:Gd all s guard rg)(hd:(Nat.blt d 1000&&Nat.blt d E.nt)=true)
  (hx:OpS s x (.own k n) r) (hl:look s (2000+k)=some (.arr 1 rows)) (hn:rows.length=n) (hz:rows=zs.map fun n=>[X.int .i64 n]) (hbig:n<4611686018427387904):
  St1 E all ⟨some d,.call {callee:=.value (.func f),args:=#[x],argTypes:=at_},ty,pos,after,guard⟩ s (rg++(r++[(2000+k,.arr 1 rows)])) [(d,.tup []),(2000+k,.arr 1 ((zs.mergeSort fun x y=>decide (x≤y)).map fun n=>[.int .i64 n]))] []:=by
 refine step_own hcall hg hd hx hl hn fun U c a w hv e vs hk1 hb e1 g2 g3 g4=>?_
 subst hz
 rw[List.length_map]at hn
 subst hn
 rw[flatten_ints]at g4
 have hvs:=ints_vals g4
 subst hvs
 have hperm:=List.mergeSort_perm zs (fun x y=>decide (x≤y))
 rcases g2.2 with⟨rfl,h0⟩|⟨g,cap,cur,rfl,p1,p2,p3,p4,p5,p6⟩
 ·have:zs=[]:=List.eq_nil_of_length_eq_zero h0
  subst this
  refine(hf.none Option.none 0 w).mono ?_
  rintro en w' ⟨rfl,rfl⟩
  have he:([]:List Int).mergeSort (fun x y=>decide (x≤y))=[]:=by simp
  rw[he]
  exact⟨_,c,rfl,hb,Ext.refl c,⟨[],rfl,trivial⟩,(Holds.mkArr (e:=e) (rows:=[]) (vs:=[]) hk1 e1 (by simpa using g2) (fun _ h=>by cases h) trivial).2,fun key y _ _ h=>h⟩
 ·have hH:=holds_of_blockI p2 (ss:=zs) (by simpa using p6)
  have hlt:g<w.heap.size:=(Array.getElem?_eq_some_iff.1 p2).1
  refine(hf.some g 0 cap zs w hH hlt hbig).mono ?_
  rintro en w' ⟨rfl,q,os,rfl⟩
  obtain⟨r1,r2,r3,r4⟩:=hb.append (n':=zs.length) (v':=.slice (some ⟨g,0,none⟩) zs.length cap) e1 (grownBy_sortedI (w:=w) (g:=g) (n:=q) (os:=os) (zs.mergeSort fun x y=>decide (x≤y)).toArray) (Nat.le_refl _) (fun _=>rfl) (.inl rfl) (not_dfr g2)
  have hown:=ownsRow_sortedI (w:=w) (base:=0) (g:=g) (cap:=cap) (n:=q) (e:=e) (os:=os) (cur:=cur) (ss:=zs) (ts:=zs.mergeSort fun x y=>decide (x≤y)) hperm.length_eq p1 p2 p3 p4 p5
  refine⟨_,_,rfl,r1,r2,⟨[],rfl,trivial⟩,(Holds.mkArr (e:=e) (rows:=(zs.mergeSort fun x y=>decide (x≤y)).map fun n=>[X.int .i64 n]) hk1 (by rw[List.length_map,hperm.length_eq];exact r3) (by rw[List.length_map,hperm.length_eq];exact hown)
   (fun q hq=>by obtain⟨b,_,rfl⟩:=List.mem_map.1 hq;rfl) (by rw[flatten_ints];exact vals_ints g4 fun t ht=>hperm.mem_iff.1 ht)).2,fun key y h1 h2 h3=>r4 key y h1 h2 h3⟩
theorem Good.boxOwn{U:List Nat}{a:Act}{w:World}{b i k sz:Nat}{cells cells':List X}(hg:Good E U s a w)(hb:look s (1000+b)=some (.box cells))(hb2:Nat.blt b 1000=true)(hi:cells[i]?=some .nils)(hc:cells.set i (.own k 0)=cells')(hk:(U.contains k)=false)(hk9:k∉E.fs)(hk1:Nat.blt k 1000=true):
  Good E (k::U) ((1000+b,.box cells')::(2000+k,.arr sz [])::s) a w:=by
 subst hc
 obtain⟨c,hbs,hh⟩:=hg
 have hkU:k∉U:=by simpa using hk
 rw[Nat.blt_eq]at hb2 hk1
 obtain⟨g1,g2,g3,g4⟩:=hbs.ownNew hk9 hkU (n:=0) (v:=.slice none 0 0) (Below.refl _ w) (.inl rfl)
 refine⟨_,g1,fun key y hy=>?_⟩
 simp only[look]at hy
 split at hy
 ·rename_i h
  have:=Nat.eq_of_beq_eq_true h
  cases hy
  subst this
  obtain⟨b',T',vs,h2,h3,h4⟩:=box_of (hh _ _ hb) hb2
  refine(Holds.mkBox hb2 (g2.loc _ _ h2) h3 ?_).2
  refine All2.of_get (by simpa using h4.length) fun j u v hu hv=>?_
  rw[List.getElem?_set]at hu
  split at hu
  ·rename_i hij
   subst hij
   split at hu
   ·cases hu
    have hv0:v=.slice none 0 0:=h4.get hi hv
    subst hv0
    exact⟨⟨none,0,0,rfl⟩,0,_,_,g3,Nat.le_refl _,fun _=>rfl⟩
   ·cases hu
  ·exact(h4.get hu hv).mono g2
 ·split at hy
  ·rename_i h
   have:=Nat.eq_of_beq_eq_true h
   cases hy
   subst this
   exact(Holds.mkArr (e:=0) (rows:=[]) (vs:=[]) (by omega) g3 (World.ownsRow_nil w _ 0 sz) (fun _ h=>by cases h) trivial).2
  ·have h0:=hh key y hy
   by_cases hlt:key<1000
   ·unfold Holds at h0⊢
    rw[if_pos hlt]at h0⊢
    exact h0.mono g2
   ·exact g4 key y hlt h0
theorem OK.boxOwn{U:List Nat}{code:Code}{Q:Exit→List Nat→St→Prop}(b i k sz:Nat){cells cells':List X}(hb:look s (1000+b)=some (.box cells))(hb2:Nat.blt b 1000=true)(hi:cells[i]?=some .nils)(hc:cells.set i (.own k 0)=cells')(hk:(U.contains k)=false)
 (h:OK E code Q (k::U) ((1000+b,.box cells')::(2000+k,.arr sz [])::s)) (hk9:E.fs.contains k=false:=by rfl) (hk1:Nat.blt k 1000=true:=by rfl):OK E code Q U s:=fun a w hg=>h a w (hg.boxOwn hb hb2 hi hc hk (nfs hk9) hk1)
structure EqI(P:Program)(t n:Nat):Prop where
 guard:P.eqGuardType P.depth t=false
 run:∀(xs ys:List Int)(w:World),xs.length=n→ys.length=n→(binOp .eql t (.agg (xs.map (Value.int .i64)).toArray) (.agg (ys.map (Value.int .i64)).toArray)).run P w=.ok (.bool (decide (xs=ys))) w
 runN:∀(xs ys:List Int)(w:World),xs.length=n→ys.length=n→(binOp .neq t (.agg (xs.map (Value.int .i64)).toArray) (.agg (ys.map (Value.int .i64)).toArray)).run P w=.ok (.bool (decide (xs≠ys))) w
theorem eqFields_ints{P:Program}{T d:Nat}(hi:P.underlying T=some (.int .i64))(hag:∀w,(isAgg T).run P w=.ok false w)(xs ys:List Int)(w:World)(hl:xs.length=ys.length):∀(fs:List Field)(o:Nat),
  fs.map (fun f => (f.name == "_", f.type, f.offset)) = (List.range' o fs.length).map (fun i => (false, T, i)) → o + fs.length = xs.length → xs.take o = ys.take o →
  (Op.eqFields (d+1) (xs.map (Value.int .i64)).toArray (ys.map (Value.int .i64)).toArray fs).run P w=.ok (decide (xs=ys)) w
 |[],o,_,ho,ht=>by
  have h1:xs=ys:=by
   rw[List.take_of_length_le (by simp at ho;omega),List.take_of_length_le (by simp at ho;omega)]at ht
   exact ht
  simp[Op.eqFields,h1]
 |f::fs,o,hf,ho,ht=>by
  simp only[List.map_cons,List.length_cons,List.range'_succ,List.cons.injEq,Prod.mk.injEq,beq_eq_false_iff_ne]at hf
  obtain⟨⟨h1,h2,h3⟩,hf⟩:=hf
  simp only[List.length_cons]at ho
  have hx:o<xs.length:=by omega
  have hy:o<ys.length:=by omega
  have p1:∀(l:List Int)(h:o<l.length),(part f.type (l.map (Value.int .i64)).toArray f.offset).run P w=.ok (.int .i64 l[o]) w:=by
   intro l h
   rw[h2,h3]
   simp[part,hag,h]
  simp only[Op.eqFields]
  rw[if_pos h1]
  simp only[Sem.run_bind,p1 xs hx,p1 ys hy,Result.andThen_ok]
  rw[h2,run_equalIn_int _ _ _ _ _ _ _ hi]
  simp only[Result.andThen_ok]
  by_cases he:xs[o]=ys[o]
  ·simp only[he,beq_self_eq_true,Bool.not_true,Bool.false_eq_true,if_false]
   exact eqFields_ints hi hag xs ys w hl fs (o+1) hf (by omega) (by rw[List.take_succ_eq_append_getElem hx,List.take_succ_eq_append_getElem hy,ht,he])
  ·have hne:xs≠ys:=fun e=>he (by subst e;rfl)
   simp[he,hne]
theorem EqI.mk_struct{P:Program}{t n T:Nat}{fs:Array Field}(hg:P.eqGuardType P.depth t=false)(hu:P.underlying t=some (.struct fs))(hp:P.stoodInHeld t=false)
  (hf : fs.toList.map (fun f => (f.name == "_", f.type, f.offset)) = (List.range' 0 n).map (fun i => (false, T, i))) (hi : P.underlying T = some (.int .i64)) (hag : ∀ w, (isAgg T).run P w = .ok false w) : EqI P t n := by
 have hn:fs.toList.length=n:=by simpa using congrArg List.length hf
 have hfo:P.fieldsOf t=fs:=by unfold Program.fieldsOf;rw[hu]
 have key:∀(xs ys:List Int)(w:World),xs.length=n→ys.length=n→(Op.equalIn 10000 t (.agg (xs.map (Value.int .i64)).toArray) (.agg (ys.map (Value.int .i64)).toArray)).run P w=.ok (decide (xs=ys)) w:=by
  intro xs ys w h1 h2
  rw[run_equalIn_struct w 9999 t _ _ (by rw[hfo];exact hu) hp,hfo]
  exact eqFields_ints (d:=9998) hi hag xs ys w (by omega) fs.toList 0 (by rw[hn];exact hf) (by omega) rfl
 refine⟨hg,fun xs ys w h1 h2=>?_,fun xs ys w h1 h2=>?_⟩
 ·rw[run_eql_struct,key xs ys w h1 h2];rfl
 ·rw[run_neq_struct,key xs ys w h1 h2];simp[Result.andThen]
theorem agg_ints{c:Ctx}{xs:List Int}{v:Value}(h:RepT c (.agg (xs.map fun n=>.int .i64 n)) v):v=.agg (xs.map (Value.int .i64)).toArray:=by
 obtain⟨vs,rfl,h⟩:=h
 have:∀{xs:List Int}{vs:List Value},All2 (RepC c) (xs.map fun n=>X.int .i64 n) vs→vs=xs.map (Value.int .i64):=by
  intro xs
  induction xs with
  |nil=>intro vs h;exact(All2.nil_left h)▸rfl
  |cons z zs ih=>
   intro vs h
   obtain⟨v,vs',rfl,h1,h2⟩:=h.cons_left
   cases h1
   rw[List.map_cons,ih h2]
 rw[this h]
theorem S.aeql{t t2 n:Nat}{us vs:List X}(xs ys:List Int)(he:EqI E.P t n)(hg:Gd all s guard rg)(hd:(Nat.blt d 1000&&Nat.blt d E.nt)=true)(hx:OpS s x (.agg us) r1)(hy:OpS s y (.agg vs) r2)(hxs:us=xs.map fun n=>.int .i64 n)(hys:vs=ys.map fun n=>.int .i64 n)
  (h1:xs.length=n) (h2:ys.length=n):St1 E all ⟨some d,.binOp .eql t x y t2,ty,pos,after,guard⟩ s (rg++(r1++r2)) [(d,.bool (decide (xs=ys)))] []:=
 St1.val hg hd rfl (hx.looks.app hy.looks) fun c A w _ hr=>by
  subst hxs
  subst hys
  have e1:=agg_ints (hx.rep (c:=c) (a:=A) (w:=w) fun p hp=>hr p (by simp[hp]))
  have e2:=agg_ints (hy.rep (c:=c) (a:=A) (w:=w) fun p hp=>hr p (by simp[hp]))
  refine⟨_,?_,RepD.toT (.bool _)⟩
  have hq:(eqGuard .eql t x y (.agg (xs.map (Value.int .i64)).toArray) (.agg (ys.map (Value.int .i64)).toArray)).run E.P w=.ok () w:=by simp[eqGuard,he.guard]
  simp only[execOp,e1,e2,Sem.run_bind,hq,Result.andThen_ok,he.run xs ys w h1 h2]
  rfl
end
end Go.Ab
namespace Go.Ab
open Go.RowKit
structure PostJ(h:Mem)(Y:Nat→Prop)(w:World)(h':Mem)(Y':Nat→Prop)(w':World):Prop where
 below:BelX w.heap.size Y w w'
 le:Mem.le h h'
 new:∀p v,h' p=some v→h p=some v∨w.heap.size≤p.block∨Y p.block
 hw:∀p v,h' p=some v→w'.cell? p=some v
 lt:∀b,Y' b→b<w'.heap.size
 out:∀b,Y' b→b<w.heap.size→Y b
theorem pure_ext{h:Mem}{c:Ctx}(hc:c.h=h):Ext (pureC h) c:=⟨by rw[hc];exact Mem.le_refl _,(fun _ _ e=>by cases e),(fun _ _ _ _ e=>by cases e)⟩
def CallV(P:Program)(v:Value)(args:Array Value)(w:World)(R:Ending→World→Prop):Prop:=
 (∃f first caps,v=.func (.func f) first caps∧(∀args w,(callFunc f args).run P w=.ok (.enter f args) w)∧Calls P f (first++args++caps) w R)∨
 (∃l,v=.func (.yield l) #[] #[]∧YieldAt Fence.wide 0 P l args w R)
def CbOk(P:Program)(v:Value)(ys:List X)(res:X)(J0 J1:Mem→(Nat→Prop)→World→Prop):Prop:=
 ∀(h:Mem)(Y:Nat→Prop)(w:World)(vs:List Value),(∀p v,h p=some v→w.cell? p=some v)→(∀b,Y b→b<w.heap.size)→J0 h Y w→All2 (RepV (pureC h)) ys vs→
  CallV P v vs.toArray w fun e w'=>∃u h' Y',e=.returned u∧PostJ h Y w h' Y' w'∧J1 h' Y' w'∧RepT (pureC h') res u
section
variable{E:Env}{U:List Nat}{c:Ctx}{a:Act}{w w':World}{h':Mem}{Y':Nat→Prop}
theorem Base.turn(hb:Base E U c a w)(hp:PostJ c.h c.Y w h' Y' w'):Base E U ⟨h',c.loc,c.arr,Y'⟩ a w':=by
 have hs:=hp.below.size
 have none_of:∀b o,b<w.heap.size→¬c.Y b→c.h ⟨b,o,none⟩=none→h' ⟨b,o,none⟩=none:=by
  intro b o hlt hy hn
  cases hh:h' ⟨b,o,none⟩with
  |none=>rfl
  |some v=>
   rcases hp.new _ _ hh with h|h|h
   ·rw[hn]at h;cases h
   ·simp only at h;omega
   ·exact absurd h hy
 have hall:∀b,b<w.heap.size→(Ctx.mk h' c.loc c.arr Y').all b→c.all b:=by
  intro b hlt h
  rcases h with h|h|h
  ·exact .inl (hp.out b h hlt)
  ·exact .inr (.inl h)
  ·exact .inr (.inr h)
 have hsame:∀D o,¬c.all D→w.heap[D]?=some o→w'.heap[D]?=some o:=fun D o h1 h2=>(hp.below.block D (Array.getElem?_eq_some_iff.1 h2).1 fun hy=>h1 (.inl hy)).trans h2
 refine⟨hb.below.trans (hp.below.mono hb.hB fun k hk hy=>(hb.Y k hy).2.1 hk),Nat.le_trans hb.hB hs,hb.nt,⟨hb.dfr.1,fun d hd=>?_⟩,?_,hp.hw,Mem.le_trans hb.hle hp.le,?_,?_,?_,hb.used,?_,hb.loc0,hb.arr0⟩
 ·obtain⟨D,h1,h2,h3,h4⟩:=hb.dfr.2 d hd
  exact⟨D,h1,h2,fun e=>h3 (hall D (Array.getElem?_eq_some_iff.1 h4).1 e),hsame D _ h3 h4⟩
 ·intro p hp2
  obtain⟨h1,h2,h3⟩:=hb.pin p hp2
  exact⟨fun e=>h1 (hall _ (Array.getElem?_eq_some_iff.1 h3).1 e),h2,hsame _ _ h1 h3⟩
 ·intro p v hv
  rcases hp.new p v hv with h|h|h
  ·exact hb.hnew p v h
  ·exact .inr (.inl (Nat.le_trans hb.hB h))
  ·rcases Nat.lt_or_ge p.block E.B with h1|h1
   ·exact .inr (.inr ((hb.Y _ h).2.1 h1))
   ·exact .inr (.inl h1)
 ·intro k b hk
  obtain⟨h1,h2,h3,h4,h5⟩:=hb.loc k b hk
  exact⟨h1,Nat.lt_of_lt_of_le h2 hs,fun o=>none_of b o h2 (fun hy=>(hb.Y b hy).2.2.1 k hk) (h3 o),h4,h5⟩
 ·intro k m hv b hk hbk
  obtain⟨h1,h2,h3,h4⟩:=hb.arr k m hv b hk hbk
  exact⟨h1,Nat.lt_of_lt_of_le h2 hs,fun o=>none_of b o h2 (fun hy=>(hb.Y b hy).2.2.2 k m hv hk hbk) (h3 o),h4⟩
 ·intro b hy
  refine⟨hp.lt b hy,fun hlt=>(hb.Y b (hp.out b hy (Nat.lt_of_lt_of_le hlt hb.hB))).2.1 hlt,fun k hk=>?_,fun k m hv hk hbk=>?_⟩
  ·have:=(hb.loc k b hk).2.1
   exact(hb.Y b (hp.out b hy this)).2.2.1 k hk
  ·have:=(hb.arr k m hv b hk hbk).2.1
   exact(hb.Y b (hp.out b hy this)).2.2.2 k m hv hk hbk
theorem Holds.turn(hb:Base E U c a w)(hp:PostJ c.h c.Y w h' Y' w'){key:Nat}{x:X}(hk:¬key<1000)(hne:key≠3000)(h:Holds c a w key x):Holds ⟨h',c.loc,c.arr,Y'⟩ a w' key x:=by
 have hext:Ext c ⟨h',c.loc,c.arr,Y'⟩:=⟨hp.le,fun _ _ e=>e,fun _ m hv lv e=>⟨m,hv,lv,e,Nat.le_refl _,fun _=>rfl⟩⟩
 unfold Holds at *
 rw[if_neg hk]at h⊢
 refine or_snd h fun h=>?_
 split at h
 ·rename_i h2
  rw[if_pos h2]
  obtain⟨b,o,h1,h3,h4⟩:=h
  exact⟨b,o,h1,(hp.below.block b (hb.loc _ _ h1).2.1 fun hy=>(hb.Y b hy).2.2.1 _ h1).trans h3,h4.mono hext⟩
 ·rename_i h2
  rw[if_neg h2]
  split at h
  ·rename_i h6
   rw[if_pos h6]
   obtain⟨sz,rows,hv,e,vs,hx,h1,h3,h4⟩:=h
   refine⟨sz,rows,hv,e,vs,hx.mono hext,h1,⟨h3.1,h3.2.imp id ?_⟩,h4⟩
   rintro⟨g,cap,cur,f1,f2,f3,r⟩
   exact⟨g,cap,cur,f1,f2,(hp.below.block g (Array.getElem?_eq_some_iff.1 f3).1 fun hy=>(hb.Y g hy).2.2.2 _ _ _ h1 (by rw[f1];rfl)).trans f3,r⟩
  ·exact absurd h.1 hne
end
section
variable{E:Env}{all:Array Oper}{s r r1 r2 r3 rg:St}{d ty:Nat}{pos:String}{after:Array Edge}{guard:Option (Nat×Bool)}{x y z:Operand}
theorem S.callcb{os:List Operand}{at_:Array TypeId}{ys:List X}{res:X}{Φ:Value→Prop}{J0 J1:Mem→(Nat→Prop)→World→Prop}(hΦ:∀v,Φ v→CbOk E.P v ys res J0 J1)(hJ1:Stable J1)(hg:Gd all s guard rg)(hd:(Nat.blt d 1000&&Nat.blt d E.nt)=true)
  (hx:OpS s x (.cb Φ) r1) (ha:OpsS s os ys r) (ho:ys.all okArg=true) (hl:look s 3000=some (.res J0)):
  St1 E all ⟨some d,.call {callee:=.value x,args:=os.toArray,argTypes:=at_},ty,pos,after,guard⟩ s (rg++(r1++(r++[(3000,.res J0)]))) [(d,res),(3000,.res J1)] []:=by
 simp only[Bool.and_eq_true,Nat.blt_eq]at hd
 refine⟨?_,hg.looks.app (hx.looks.app (ha.looks.app ⟨hl,trivial⟩))⟩
 intro U c a w hb hr _ next Q hn
 have hw:=hg.wanted (o:=⟨some d,.call {callee:=.value x,args:=os.toArray,argTypes:=at_},ty,pos,after,guard⟩) (fun p hp=>hr p (List.mem_append_left _ hp))
 have hv:Φ (a.eval x):=hx.rep (c:=c) (a:=a) (w:=w) fun p hp=>hr p (by simp[hp])
 have hJ:HoldsRes c w 3000 (.res J0):=by
  have:=hr (3000,.res J0) (by simp)
  unfold Holds at this
  rw[if_neg (by omega),if_neg (by omega),if_neg (by omega)]at this
  rcases this with h|h
  ·cases h
  ·exact h
 obtain⟨_,J,e,_,hJ0⟩:=hJ
 cases e
 have hargs:=args_clean (ha.rep (c:=c) (a:=a) (w:=w) fun p hp=>hr p (by simp[hp])) ho
 unfold opIn
 rw[if_pos hw]
 refine⟨fun _ _=>trivial,?_⟩
 rw[Oper.semAt_eq _ _ _ fun cl he=>by cases he]
 have fin:∀u h' Y' w',PostJ c.h c.Y w h' Y' w'→J1 h' Y' w'→RepT (pureC h') res u→next (a.put (some d) u) w':=by
  intro u h' Y' w' hp hj hres
  have hdt:d<a.tmps.size:=by rw[hb.nt];exact hd.2
  have hext:Ext c ⟨h',c.loc,c.arr,Y'⟩:=⟨hp.le,fun _ _ e=>e,fun _ m hv lv e=>⟨m,hv,lv,e,Nat.le_refl _,fun _=>rfl⟩⟩
  refine hn ⟨h',c.loc,c.arr,Y'⟩ _ w' ((hb.turn hp).put _ _) hext ?_ ?_
  ·intro p hp2
   simp only[List.mem_cons,List.not_mem_nil,or_false]at hp2
   rcases hp2 with rfl|rfl
   ·unfold Holds
    rw[if_pos hd.1,getD_put hdt]
    exact hres.mono (pure_ext (c:=⟨h',c.loc,c.arr,Y'⟩) rfl)
   ·unfold Holds
    rw[if_neg (by omega),if_neg (by omega),if_neg (by omega)]
    exact .inr ⟨rfl,J1,rfl,hJ1,hj⟩
  ·intro key y hk hy
   have hne:d≠key:=hk (d,res) (by simp)
   have hne2:3000≠key:=hk (3000,.res J1) (by simp)
   by_cases h1:key<1000
   ·refine Holds.put ?_ hne u
    unfold Holds at hy⊢
    rw[if_pos h1]at hy⊢
    exact hy.mono hext
   ·exact(Holds.turn hb hp h1 (fun e=>hne2 e.symm) hy).put hne u
 rcases hΦ _ hv c.h c.Y w _ hb.hw (fun b hy=>(hb.Y b hy).1) hJ0 hargs with⟨f,first,caps,e1,hcall,hcalls⟩|⟨l,e1,fn,tmps,assign,body,hy,hround⟩
 ·have hrun:(execOp a.eval ⟨some d,.call {callee:=.value x,args:=os.toArray,argTypes:=at_},ty,pos,after,guard⟩).run E.P w=.ok (.enter f (first++(os.map a.eval).toArray++caps)) w:=by
   simp[execOp,resolve,e1,Deferred.ofValue,invoke,hcall,Array.append_assoc]
  rw[hrun]
  refine⟨(fun h=>by cases h),?_⟩
  have h1:CallsIn E.F (0 - 1) E.P f (first++(os.map a.eval).toArray++caps) w _:=(callsIn_wide (n:=0)).2 hcalls
  refine h1.mono ?_
  rintro e w' ⟨u,h',Y',rfl,hp,hj,hres⟩
  exact fin u h' Y' w' hp hj hres
 ·have hrun:(execOp a.eval ⟨some d,.call {callee:=.value x,args:=os.toArray,argTypes:=at_},ty,pos,after,guard⟩).run E.P w=.ok (.round l fn tmps assign body) w:=by
   simp[execOp,resolve,e1,Deferred.ofValue,invoke]
   simpa using hy
  rw[hrun]
  refine⟨(fun h=>by cases h),?_⟩
  have h1:RoundIn E.F (0 - 1) E.P l fn tmps assign body w _:=hround
  refine h1.mono ?_
  rintro e w' ⟨u,h',Y',rfl,hp,hj,hres⟩
  exact fin u h' Y' w' hp hj hres
end
end Go.Ab
namespace Go.Ab
open Go.RowKit
def iterG{σ α:Type}(g:σ→α→σ×Bool):σ→List α→σ×Bool
 |s,[]=>(s,true)
 |s,x::l=>if(g s x).2=true then iterG g (g s x).1 l else((g s x).1,false)
theorem iterG_snoc{σ α:Type}(g:σ→α→σ×Bool):∀(l:List α)(s:σ)(x:α),iterG g s (l++[x])=if(iterG g s l).2=true then g (iterG g s l).1 x else iterG g s l
 |[],s,x=>by
  simp only[List.nil_append,iterG,if_true]
  split
  ·rename_i h;exact Prod.ext rfl h.symm
  ·rename_i h;exact Prod.ext rfl (by simpa using (Bool.eq_false_iff.2 h).symm)
 |y::l,s,x=>by
  simp only[List.cons_append,iterG]
  split
  ·rename_i h;rw[iterG_snoc g l]
  ·rfl
def SeqOk{α:Type}(P:Program)(gf:Nat)(caps:List X)(encs:α→List X)(l:List α):Prop:=
 ∀{σ:Type}(J:σ→Mem→(Nat→Prop)→World→Prop)(g:σ→α→σ×Bool)(s0:σ)(Φ:Value→Prop),(∀s,Stable (J s))→
  (∀v,Φ v→∀(i:Nat)(x:α),l[i]?=some x→(iterG g s0 (l.take i)).2=true→CbOk P v (encs x) (.bool (g (iterG g s0 (l.take i)).1 x).2) (J (iterG g s0 (l.take i)).1) (J (g (iterG g s0 (l.take i)).1 x).1))→
  CtG P gf [] (.cb Φ::caps) [(3000,.res (J s0))] [(3000,.res (J (iterG g s0 l).1))] (.tup [])
def jumpOf:Exit→Option (Option Code)
 |.normal=>some none
 |.ret=>some (some .ret)
 |.exit id=>some (some (.exit id))
 |_=>none
def RoundQ{σ:Type}(boxes:σ→St)(p:σ×Option Code):Exit→List Nat→St→Prop:=fun e _ s=>jumpOf e=some p.2∧Le s (boxes p.1)
def psSt:List Nat→List X→St
 |p::ps,x::xs=>(p,x)::psSt ps xs
 |_,_=>[]
structure Rg where
 fn:FuncId
 tmps:Array Value
 ps:Array Tmp
 assign:Code
 body:Code
 D:Nat
def Rg.obj(r:Rg)(st:LoopState)(pe:Option Code):Obj:=.loop {state:=st,pending:=pe,fn:=r.fn,tmps:=r.tmps,params:=r.ps,assign:=r.assign,body:=r.body,defers:=r.D}
def rst(pe:Option Code):LoopState:=if pe.isNone then .ready else .done
def JR(E:Env)(u:List Nat)(a:Act)(B1:Nat)(Z:Nat→Prop)(l:Nat)(r:Rg)(st:St)(pe:Option Code):Mem→(Nat→Prop)→World→Prop:=fun h Y W=>
 ∃c,Base E u c a W∧Mem.le c.h h∧(∀p v,h p=some v→c.h p=some v∨(E.B≤p.block∧¬c.all p.block))∧(∀b,b<B1→¬Z b→Y b)∧(∀b,c.all b→Y b)∧W.heap[l]?=some (r.obj (rst pe) pe)∧¬c.all l∧(W.heap[r.D]?=some (.deferred (some []))∧¬c.all r.D)∧
  ∀key x,look st key=some x→Holds c a W key x
theorem keep_holds{c:Ctx}{a a':Act}{w w':World}{key:Nat}{x:X}(hk:∀b,c.all b→w'.heap[b]?=w.heap[b]?)(hw:∀p v,c.h p=some v→w'.cell? p=some v)(hB:BelX 0 (fun _=>False) w w')(ht:a'.tmps=a.tmps)(h:Holds c a w key x):Holds c a' w' key x:=by
 unfold Holds at *
 rw[ht]
 split at h
 ·rename_i h1;rw[if_pos h1];exact h
 ·rename_i h1
  rw[if_neg h1]
  refine or_snd h fun h=>?_
  split at h
  ·rename_i h2
   rw[if_pos h2]
   obtain⟨b,o,h1,h3,h4⟩:=h
   exact⟨b,o,h1,(hk b (.inr (.inl ⟨_,h1⟩))).trans h3,h4⟩
  ·rename_i h2
   rw[if_neg h2]
   split at h
   ·rename_i h6
    rw[if_pos h6]
    obtain⟨sz,rows,hv,e,vs,hx,h1,h3,h4⟩:=h
    refine⟨sz,rows,hv,e,vs,hx,h1,⟨h3.1,h3.2.imp id ?_⟩,h4⟩
    rintro⟨g,cap,cur,f1,f2,f3,r⟩
    exact⟨g,cap,cur,f1,f2,(hk g (.inr (.inr ⟨_,_,_,h1,by rw[f1];rfl⟩))).trans f3,r⟩
   ·rename_i h6
    rw[if_neg h6]
    obtain⟨hk0,J,hx0,hJ,hJ2⟩:=h
    exact⟨hk0,J,hx0,hJ,hJ _ _ _ _ _ hJ2 (Mem.le_refl _) (fun _ _ e=>.inl e) hw hB fun b hy=>hk b (.inl hy)⟩
theorem Base.keep{E:Env}{u:List Nat}{c:Ctx}{a:Act}{w w':World}(hb:Base E u c a w)(hpins:∀p∈E.pins,w'.heap[p.1]?=w.heap[p.1]?)(hB:BelX 0 (fun _=>False) w w')(hlow:∀b,b<E.B→w'.heap[b]?=w.heap[b]?)(hw:∀p v,c.h p=some v→w'.cell? p=some v)
  (hD:∀D,w.heap[D]?=some (.deferred (some []))→{target:=.collected D,args:=#[]}∈a.defers→w'.heap[D]?=some (.deferred (some []))):Base E u c a w':=by
 refine⟨hb.below.trans ⟨hB.os,hB.tape,hB.output,hB.size,fun k hk _=>hlow k hk⟩,Nat.le_trans hb.hB hB.size,hb.nt,⟨hb.dfr.1,fun d hd=>?_⟩,(fun p hp=>by obtain⟨h1,h2,h3⟩:=hb.pin p hp;exact⟨h1,h2,(hpins p hp).trans h3⟩),hw,hb.hle,hb.hnew,?_,?_,hb.used,?_,hb.loc0,hb.arr0⟩
 ·obtain⟨D,rfl,h2,h3,h4⟩:=hb.dfr.2 d hd
  exact⟨D,rfl,h2,h3,hD D h4 hd⟩
 ·intro k b hk
  obtain⟨h1,h2,h3⟩:=hb.loc k b hk
  exact⟨h1,Nat.lt_of_lt_of_le h2 hB.size,h3⟩
 ·intro k m hv b hk hbk
  obtain⟨h1,h2,h3⟩:=hb.arr k m hv b hk hbk
  exact⟨h1,Nat.lt_of_lt_of_le h2 hB.size,h3⟩
 ·intro b hy
  obtain⟨h1,h2⟩:=hb.Y b hy
  exact⟨Nat.lt_of_lt_of_le h1 hB.size,h2⟩
theorem JR.stable{E:Env}{u:List Nat}{a:Act}{B1 l:Nat}{Z:Nat→Prop}{r:Rg}{st:St}{pe:Option Code}(hpins:∀p∈E.pins,p.1<B1∧¬Z p.1)(hB1:E.B≤B1)(hZB:∀b,Z b→E.B≤b)(hl:l<B1∧¬Z l)(hD1:r.D<B1∧¬Z r.D)(hdef:∀D,({target:=.collected D,args:=#[]}:Deferred)∈a.defers→D<B1∧¬Z D):Stable (JR E u a B1 Z l r st pe):=by
 rintro h h' Y w w' ⟨c,hb,hle,hnw,hlow,hall,hrec,hnl,⟨hd1,hd2⟩,hh⟩ hle2 hnw2 hw' hB hY
 have hw:∀p v,c.h p=some v→w'.cell? p=some v:=fun p v e=>hw' p v (hle2 p v (hle p v e))
 refine⟨c,hb.keep (fun p hp=>hY _ (hlow _ (hpins p hp).1 (hpins p hp).2)) hB (fun b hb'=>hY b (hlow b (Nat.lt_of_lt_of_le hb' hB1) fun hz=>by have:=hZB b hz;omega)) hw (fun D h1 h2=>(hY D (hlow D (hdef D h2).1 (hdef D h2).2)).trans h1),Mem.le_trans hle hle2,?_,hlow,hall,(hY l (hlow l hl.1 hl.2)).trans hrec,hnl,⟨(hY _ (hlow _ hD1.1 hD1.2)).trans hd1,hd2⟩,fun key x hx=>keep_holds (fun b hb'=>hY b (hall b hb')) hw hB rfl (hh key x hx)⟩
 intro p v hp
 rcases hnw2 p v hp with h1|h1
 ·exact hnw p v h1
 ·refine .inr ⟨Nat.le_of_not_lt fun e=>h1 (hlow _ (Nat.lt_of_lt_of_le e hB1) fun hz=>?_),fun e=>h1 (hall _ e)⟩
  have:=hZB _ hz
  omega
def rE(E:Env)(u:List Nat)(c0:Ctx)(w0:World)(l:Nat)(pins:List (Nat×Obj)):Env:=⟨E.P,E.nt,u,c0,w0,some l,pins⟩
def PinOk(l:Nat)(p:List (Nat×Obj)):Prop:=∃r0:Loop,(l,Obj.loop r0)∈p∧(r0.defers,Obj.deferred (some []))∈p
structure RndOk(E Er:Env)(l:Nat):Prop where
 pin:Er.round=some l∧PinOk l Er.pins
 tab:TabOk E→TabOk Er
theorem RndOk.of{E:Env}{u:List Nat}{c:Ctx}{a:Act}{w:World}(hb:Base E u c a w){h:Mem}{l D:Nat}{r0:Loop}(hl:E.B≤l)(hD:E.B≤D∨E.X D)(hr:r0.defers=D):
  RndOk E (rE E u ⟨h,c.loc,c.arr,c.Y⟩ w l [(l,.loop r0),(D,.deferred (some []))]) l:=by
 refine⟨⟨rfl,r0,by simp[rE],by rw[hr];simp[rE]⟩,fun hT=>⟨hT.now hb,fun n hnn g hn=>?_⟩⟩
 have hlt:g<E.B:=hT.tab.lt n hnn g hn
 have hX:=hT.out n hnn g hn
 rintro((hy|⟨k,_,hk⟩|⟨k,m,hv,_,hk,hbk⟩)|⟨p,hp,he⟩)
 ·exact hX ((hb.Y g hy).2.1 hlt)
 ·rcases(hb.loc k g hk).1 with h1|h1
  ·omega
  ·exact hX h1.2
 ·rcases(hb.arr k m hv g hk hbk).1 with h1|h1
  ·omega
  ·exact hX h1.2
 ·simp only[rE,List.mem_cons,List.not_mem_nil,or_false]at hp
  rcases hp with rfl|rfl
  ·have he':l=g:=he
   omega
  ·have he':D=g:=he
   subst he'
   rcases hD with h1|h1
   ·omega
   ·exact hX h1
theorem foldl_size:∀(ps:List (Nat×Value))(t:Array Value),(ps.foldl (fun t (p:Nat×Value)=>t.setIfInBounds p.1 p.2) t).size=t.size
 |[],t=>rfl
 |p::ps,t=>by rw[List.foldl_cons,foldl_size ps];simp
theorem foldl_other(k:Nat):∀(ps:List (Nat×Value))(t:Array Value),(∀p∈ps,p.1≠k)→(ps.foldl (fun t (p:Nat×Value)=>t.setIfInBounds p.1 p.2) t).getD k undef=t.getD k undef
 |[],t,_=>rfl
 |p::ps,t,h=>by
  rw[List.foldl_cons,foldl_other k ps _ fun q hq=>h q (List.mem_cons_of_mem _ hq)]
  simp only[Array.getD_eq_getD_getElem?,Array.getElem?_setIfInBounds_ne (h p List.mem_cons_self)]
theorem psSt_look:∀(ps:List Nat)(xs:List X){key:Nat}{x:X},look (psSt ps xs) key=some x→key∈ps
 |[],_,_,_,h=>by cases h
 |_::_,[],_,_,h=>by cases h
 |p::ps,y::xs,key,x,h=>by
  simp only[psSt,look]at h
  split at h
  ·rename_i hb;rw[←Nat.eq_of_beq_eq_true hb];exact List.mem_cons_self
  ·exact List.mem_cons_of_mem _ (psSt_look ps xs h)
theorem psSt_none:∀(ps:List Nat)(xs:List X){key:Nat},ps.length=xs.length→look (psSt ps xs) key=none→key∉ps
 |[],_,_,_,_=>by simp
 |_::_,[],_,h,_=>by simp at h
 |p::ps,y::xs,key,hl,h=>by
  simp only[psSt,look]at h
  split at h
  ·cases h
  ·rename_i hb
   have hne:key≠p:=fun e=>hb (by rw[e];exact Nat.beq_refl p)
   simp only[List.mem_cons,not_or]
   exact⟨hne,psSt_none ps xs (by simpa using hl) h⟩
theorem ps_holds{c:Ctx}:∀(ps:List Nat)(xs:List X)(vs:List Value)(t:Array Value),ps.length=xs.length→All2 (RepV c) xs vs→ps.Pairwise (· ≠ ·)→(∀p∈ps,p<t.size)→xs.all (fun x=>!isTup x)=true→
  ∀key x,look (psSt ps xs) key=some x→RepT c x (((ps.zip vs).foldl (fun t (p:Nat×Value)=>t.setIfInBounds p.1 p.2) t).getD key undef)
 |[],[],_,_,_,_,_,_,_,_,_,h=>by cases h
 |p::ps,y::xs,vs,t,hl,hv,hp,ht,htup,key,x,h=>by
  obtain⟨v,vs',rfl,h1,h2⟩:=hv.cons_left
  obtain⟨hp1,hp2⟩:=List.pairwise_cons.1 hp
  simp only[List.all_cons,Bool.and_eq_true,Bool.not_eq_true']at htup
  rw[List.zip_cons_cons,List.foldl_cons]
  simp only[psSt,look]at h
  split at h
  ·rename_i hb
   have:=Nat.eq_of_beq_eq_true hb
   subst this
   cases h
   rw[foldl_other p _ _ fun q hq=>(hp1 q.1 (List.of_mem_zip hq).1).symm]
   have hlt:=ht p List.mem_cons_self
   rw[show(t.setIfInBounds p v).getD p undef=v by simp[hlt]]
   exact V.toT h1 htup.1
  ·exact ps_holds ps xs vs' _ (by simpa using hl) h2 hp2 (fun q hq=>by simpa using ht q (List.mem_cons_of_mem _ hq)) (by simpa using htup.2) key x h
 |[],_::_,_,_,h,_,_,_,_,_,_,_=>by simp at h
 |_::_,[],_,_,h,_,_,_,_,_,_,_=>by simp at h
theorem grow_holds{c:Ctx}{h:Mem}{a a':Act}{w:World}{key:Nat}{x:X}(hle:Mem.le c.h h)(hnw:∀p v,h p=some v→c.h p=some v∨¬c.Y p.block)(hw:∀p v,h p=some v→w.cell? p=some v)(hk:¬key<1000)(hh:Holds c a w key x):
  Holds ⟨h,c.loc,c.arr,c.Y⟩ a' w key x:=by
 have hext:Ext c ⟨h,c.loc,c.arr,c.Y⟩:=⟨hle,fun _ _ e=>e,fun _ m hv lv e=>⟨m,hv,lv,e,Nat.le_refl _,fun _=>rfl⟩⟩
 unfold Holds at *
 rw[if_neg hk]at hh⊢
 refine or_snd hh fun hh=>?_
 split at hh
 ·rename_i h2
  rw[if_pos h2]
  obtain⟨b,o,h1,h3,h4⟩:=hh
  exact⟨b,o,h1,h3,h4.mono hext⟩
 ·rename_i h2
  rw[if_neg h2]
  split at hh
  ·rename_i h6
   rw[if_pos h6]
   obtain⟨sz,rows,hv,e,vs,hx,h1,h3,h4⟩:=hh
   exact⟨sz,rows,hv,e,vs,hx.mono hext,h1,h3,h4⟩
  ·rename_i h6
   rw[if_neg h6]
   obtain⟨hk0,J,hx0,hJ,hJ2⟩:=hh
   exact⟨hk0,J,hx0,hJ,hJ _ _ _ _ _ hJ2 hle hnw hw (BelX.refl _ _ _) fun _ _=>rfl⟩
section
variable{E:Env}{u U:List Nat}{c0:Ctx}{w0:World}{l D:Nat}{o1 o2 o3:Obj}
theorem repin{s:St}{a:Act}{w:World}(hg:Good (rE E u c0 w0 l [(l,o1),(D,o3)]) U s a w)(h1:o1.isCells=false)(h2:o2.isCells=false)(hne:o1≠.deferred (some []))(hD:D≠l):Good (rE E u c0 w0 l [(l,o2),(D,o3)]) U s a (w.putObj l o2):=by
 obtain⟨c,hb,hh⟩:=hg
 obtain⟨p1,p2,p3⟩:=hb.pin (l,o1) (by simp[rE])
 obtain⟨q1,q2,q3⟩:=hb.pin (D,o3) (by simp[rE])
 have hX:∀b,(rE E u c0 w0 l [(l,o1),(D,o3)]).X b→(rE E u c0 w0 l [(l,o2),(D,o3)]).X b:=by
  rintro b (h|⟨p,hp,rfl⟩)
  ·exact .inl h
  ·refine .inr ?_
   simp only[rE,List.mem_cons,List.not_mem_nil,or_false]at hp
   rcases hp with rfl|rfl
   ·exact⟨(l,o2),by simp[rE],rfl⟩
   ·exact⟨(D,o3),by simp[rE],rfl⟩
 have ho:∀k,k≠l→(w.putObj l o2).heap[k]?=w.heap[k]?:=fun k hk=>World.putObj_heap_other hk
 have hsz:(w.putObj l o2).heap.size=w.heap.size:=by simp
 have hcell:∀p,(w.putObj l o2).cell? p=w.cell? p:=cell_putObj p3 h1 h2
 have hok:∀k b,(rE E u c0 w0 l [(l,o1),(D,o3)]).ok k b→(rE E u c0 w0 l [(l,o2),(D,o3)]).ok k b:=fun k b h=>h.imp id fun h=>⟨h.1,hX b h.2⟩
 refine⟨c,⟨(hb.below.mono (Nat.le_refl _) fun k _ h=>hX k h).trans ⟨rfl,rfl,rfl,by rw[hsz];exact Nat.le_refl _,fun k _ hx=>ho k fun e=>hx (.inr ⟨(l,o2),by simp[rE],e.symm⟩)⟩,by rw[hsz];exact hb.hB,hb.nt,⟨hb.dfr.1,fun d hd=>?_⟩,?_,fun p v e=>by rw[hcell];exact hb.hw p v e,hb.hle,(fun p v e=>(hb.hnew p v e).imp id fun q=>q.imp id (hX _)),?_,?_,hb.used,?_,hb.loc0,hb.arr0⟩,fun key x hx=>?_⟩
 ·obtain⟨D',f1,f2,f3,f4⟩:=hb.dfr.2 d hd
  refine⟨D',f1,f2,f3,(ho D' fun e=>?_).trans f4⟩
  subst e
  rw[p3]at f4
  exact hne (Option.some.inj f4)
 ·intro p hp
  simp only[rE,List.mem_cons,List.not_mem_nil,or_false]at hp
  rcases hp with rfl|rfl
  ·exact⟨p1,h2,World.putObj_heap_same (Array.getElem?_eq_some_iff.1 p3).1⟩
  ·exact⟨q1,q2,(ho D hD).trans q3⟩
 ·intro k b hk
  rw[hsz]
  obtain⟨f1,f2⟩:=hb.loc k b hk
  exact⟨hok k b f1,f2⟩
 ·intro k m hv b hk hbk
  rw[hsz]
  obtain⟨f1,f2⟩:=hb.arr k m hv b hk hbk
  exact⟨hok k b f1,f2⟩
 ·intro b hy
  rw[hsz]
  obtain⟨f1,f2,f3⟩:=hb.Y b hy
  exact⟨f1,fun h=>hX b (f2 h),f3⟩
 ·exact keep_holds (fun b hb'=>ho b fun e=>p1 (e▸hb')) (fun p v e=>by rw[hcell];exact hb.hw p v e) ⟨rfl,rfl,rfl,by rw[hsz];exact Nat.le_refl _,fun k hk=>by omega⟩ rfl (hh key x hx)
end
end Go.Ab
namespace Go.Ab
open Go.RowKit
theorem spot_none{w:World}{p:Addr}{v:Value}(h:w.cell? p=some v):p=⟨p.block,p.off,none⟩:=by
 have hsp:p.spot=none:=by
  cases hsp:p.spot with
  |none=>rfl
  |some q=>simp only[World.cell?,hsp]at h;split at h<;>simp at h
 cases p;simp at hsp;subst hsp;rfl
theorem used_mem{E:Env}{u:List Nat}{c:Ctx}{a:Act}{w:World}(hb:Base E u c a w){k b:Nat}(h:c.loc k=some b):k∈u:=
 Decidable.byContradiction fun hk=>by rw[(hb.used k hk).1]at h;cases h
theorem used_mem2{E:Env}{u:List Nat}{c:Ctx}{a:Act}{w:World}(hb:Base E u c a w){k:Nat}{q:Nat×Value×Bool}(h:c.arr k=some q):k∈u:=
 Decidable.byContradiction fun hk=>by rw[(hb.used k hk).2]at h;cases h
def slotOk(bx:St)(p:Nat×X):Bool:=Nat.blt p.1 1000&&(okT [] p.2||match p.2 with
 |.ptr k _=>Nat.blt k 1000&&(match look bx (1000+k)with|some (.box _)=>true|_=>false)
 |_=>false)
theorem Le.mem{s r:St}(h:Le s r){k:Nat}{x:X}(hx:Ab.look r k=some x):Ab.look s k=some x:=Le.look h k x hx
section
variable{E:Env}{u U3:List Nat}{c:Ctx}{a a3:Act}{W w3:World}{B1 l:Nat}{Z:Nat→Prop}{h:Mem}{Y:Nat→Prop}
theorem round_fin(hpins:∀p∈E.pins,p.1≠l)(r:Rg){slots bx bx' s3:St}{j:Option Code}{c3:Ctx}(hb:Base E u c a W)(hEl:E.B≤l)(hD:W.heap[r.D]?=some (.deferred (some [])))(hDl:r.D≠l)
  (hle:Mem.le c.h h) (hnw:∀p v,h p=some v→c.h p=some v∨(E.B≤p.block∧¬c.all p.block)) (hlow:∀b,b<B1→¬Z b→Y b) (hall:∀b,c.all b→Y b) (hYlt:∀b,Y b→b<W.heap.size) (hlW:W.heap[l]?=some (r.obj .ready none)) (hnl:¬c.all l)
  (hwW:∀p v,h p=some v→W.cell? p=some v)
  (hb3:Base (rE E u ⟨h,c.loc,c.arr,c.Y⟩ W l [(l,r.obj .busy none),(r.D,.deferred (some []))]) U3 c3 a3 w3) (hh3:∀key x,look s3 key=some x→Holds c3 a3 w3 key x) (hl3:Le s3 bx') (hhi:bx'.all (hiKey u)=true)
  (hslots:slots.all (slotOk bx')=true) (hhs:∀key x,look (slots++bx) key=some x→Holds c a W key x) (hlY:Y l):
  ∃h' Y',PostJ h Y W h' Y' (w3.putObj l (r.obj (rst j) j))∧JR E u a B1 Z l r (slots++bx') j h' Y' (w3.putObj l (r.obj (rst j) j)):=by
 obtain⟨Er,hEr⟩:∃Er,Er=rE E u ⟨h,c.loc,c.arr,c.Y⟩ W l [(l,r.obj .busy none),(r.D,.deferred (some []))]:=⟨_,rfl⟩
 rw[←hEr]at hb3
 have eB:Er.B=W.heap.size:=by rw[hEr];rfl
 have efs:Er.fs=u:=by rw[hEr];rfl
 have ec0:Er.c0=⟨h,c.loc,c.arr,c.Y⟩:=by rw[hEr];rfl
 have ew0:Er.w0=W:=by rw[hEr];rfl
 have eh0:Er.h0=h:=by rw[hEr];rfl
 obtain⟨p1,p2,p3⟩:=hb3.pin (l,r.obj .busy none) (by rw[hEr];simp[rE])
 obtain⟨q1,q2,q3⟩:=hb3.pin (r.D,.deferred (some [])) (by rw[hEr];simp[rE])
 simp only at p1 p3 q1 q3
 have hXof:∀b,Er.X b→(Er.c0.out u b)∨b=l∨b=r.D:=by
  rintro b (h|⟨p,hp,rfl⟩)
  ·rw[efs]at h;exact .inl h
  ·rw[hEr]at hp
   simp only[rE,List.mem_cons,List.not_mem_nil,or_false]at hp
   rcases hp with rfl|rfl
   ·exact .inr (.inl rfl)
   ·exact .inr (.inr rfl)
 have hc0all:∀b,Er.c0.out u b→c.all b:=by
  rw[ec0]
  rintro b (hy|⟨k,_,hk⟩|⟨k,m,hv,_,hk⟩)
  ·exact .inl hy
  ·exact .inr (.inl ⟨k,hk⟩)
  ·exact .inr (.inr ⟨k,m,hv,hk⟩)
 obtain⟨h',hh'⟩:∃h',h'=Er.fin c3 w3:=⟨_,rfl⟩
 obtain⟨c4,hc4⟩:∃c4,c4=c3.pub u h':=⟨_,rfl⟩
 obtain⟨g1,g2,g3⟩:=hb3.pub
 rw[efs,←hh',←hc4]at g1
 rw[eh0,←hh']at g2
 rw[←hh',eh0,eB]at g3
 have c4h:c4.h=h':=by rw[hc4];rfl
 have c4Y:c4.Y=c3.Y:=by rw[hc4];rfl
 have sub:∀b,c4.all b→c3.all b:=by
  rw[hc4]
  rintro b (hy|⟨k,hk⟩|⟨k,m,hv,hk,hbk⟩)
  ·exact .inl hy
  ·exact .inr (.inl ⟨k,(pub_loc hk).2⟩)
  ·exact .inr (.inr ⟨k,m,hv,(pub_arr hk).2,hbk⟩)
 have c4out:∀b,c4.all b→c4.out u b:=by
  rintro b (hy|⟨k,hk⟩|⟨k,m,hv,hk,hbk⟩)
  ·exact .inl hy
  ·exact .inr (.inl ⟨k,(g1.loc k b hk).1,hk⟩)
  ·exact .inr (.inr ⟨k,m,hv,(g1.arr k m hv b hk hbk).1,hk,hbk⟩)
 have old:∀b,b<W.heap.size→c4.all b→c.all b:=by
  intro b hlt h4
  have hX:Er.X b:=by
   have:=hb3.out_X (b:=b) (by rw[efs];have:=c4out b h4;rw[hc4]at this;exact pub_out this) (by rw[eB];exact hlt)
   exact this
  rcases hXof b hX with h|rfl|rfl
  ·exact hc0all b h
  ·exact absurd (sub _ h4) p1
  ·exact absurd (sub _ h4) q1
 have lt4:∀b,c4.all b→b<w3.heap.size:=fun b h4=>hb3.out_lt (b:=b) (by rw[efs];have:=c4out b h4;rw[hc4]at this;exact pub_out this)
 have hs3:W.heap.size≤w3.heap.size:=by have:=hb3.below.size;rw[ew0]at this;exact this
 obtain⟨w4,hw4⟩:∃w4,w4=w3.putObj l (r.obj (rst j) j):=⟨_,rfl⟩
 rw[←hw4]
 have hsz:w4.heap.size=w3.heap.size:=by rw[hw4];simp
 have hoth:∀k,k≠l→w4.heap[k]?=w3.heap[k]?:=fun k hk=>by rw[hw4];exact World.putObj_heap_other hk
 have hcell:∀p,w4.cell? p=w3.cell? p:=fun p=>by rw[hw4];exact cell_putObj p3 rfl rfl p
 have hrec4:w4.heap[l]?=some (r.obj (rst j) j):=by rw[hw4];exact World.putObj_heap_same (Array.getElem?_eq_some_iff.1 p3).1
 have e3:w4.os=W.os∧w4.tape=W.tape∧w4.output=W.output:=by
  have:=hb3.below
  rw[ew0]at this
  rw[hw4]
  exact⟨this.os,this.tape,this.output⟩
 have same:∀k,k<W.heap.size→¬c.all k→k≠l→w4.heap[k]?=W.heap[k]?:=by
  intro k hk hn hkl
  rw[hoth k hkl]
  by_cases hkD:k=r.D
  ·subst hkD
   rw[q3,hD]
  ·have:=hb3.below.block k (by rw[eB];exact hk) (fun hX=>by
    rcases hXof k hX with h|rfl|rfl
    ·exact hn (hc0all _ h)
    ·exact hkl rfl
    ·exact hkD rfl)
   rw[ew0]at this
   exact this
 have hw4h:∀p v,h' p=some v→w4.cell? p=some v:=fun p v hp=>by rw[hcell];have:=g1.hw p v;rw[c4h]at this;exact this hp
 have noD:∀p v,h' p=some v→p.block≠r.D:=by
  intro p v hp e
  have h9:=hw4h p v hp
  have h10:w4.heap[p.block]?=some (.deferred (some [])):=by rw[e];exact(hoth r.D hDl).trans q3
  unfold World.cell? at h9
  rw[h10]at h9
  cases p.spot<;>simp at h9
 have hlowE:∀k,k<E.B→¬E.X k→w4.heap[k]?=W.heap[k]?:=by
  intro k hk hX
  refine same k (Nat.lt_of_lt_of_le hk hb.hB) ?_ (by omega)
  rintro(hy|⟨n,hn⟩|⟨n,m,hv,hn,hbn⟩)
  ·exact hX ((hb.Y k hy).2.1 hk)
  ·exact Env.ok_turn (hb.loc n k hn).1 hk hX rfl
  ·exact Env.ok_turn (hb.arr n m hv k hn hbn).1 hk hX rfl
 have base4:Base E u c4 a w4:=by
  refine⟨hb.below.trans ⟨e3.1,e3.2.1,e3.2.2,by omega,hlowE⟩,by have:=hb.hB;omega,hb.nt,⟨hb.dfr.1,fun d hd=>?_⟩,(fun p hp=>by
   obtain⟨f1,f2,f3⟩:=hb.pin p hp
   have hlt:=(Array.getElem?_eq_some_iff.1 f3).1
   exact⟨fun h4=>f1 (old _ hlt h4),f2,(same _ hlt f1 (hpins p hp)).trans f3⟩),fun p v hp=>hw4h p v (by rw[←c4h];exact hp),?_,?_,?_,?_,g1.none,?_,?_,?_⟩
  ·obtain⟨D',f1,f2,f3,f4⟩:=hb.dfr.2 d hd
   have hlt:=(Array.getElem?_eq_some_iff.1 f4).1
   refine⟨D',f1,f2,fun h4=>f3 (old D' hlt h4),(same D' hlt f3 ?_).trans f4⟩
   rintro rfl
   rw[hlW]at f4;cases f4
  ·rw[c4h];exact Mem.le_trans hb.hle (Mem.le_trans hle g2)
  ·intro p v hp
   rw[c4h]at hp
   rcases g3 p v hp with h1|h1|h1
   ·rcases hnw p v h1 with h5|⟨h5,_⟩
    ·exact hb.hnew p v h5
    ·exact .inr (.inl h5)
   ·exact .inr (.inl (Nat.le_trans hb.hB h1))
   ·rcases Nat.lt_or_ge p.block E.B with hlo|hlo
    ·rcases hXof _ h1 with hca|e|e
     ·rcases hc0all _ hca with hy|⟨k,hk⟩|⟨k,m,hv,hk,hbk⟩
      ·exact .inr (.inr ((hb.Y _ hy).2.1 hlo))
      ·refine .inr (.inr (Classical.byContradiction fun hx=>?_))
       exact Env.ok_turn (hb.loc k _ hk).1 hlo hx rfl
      ·refine .inr (.inr (Classical.byContradiction fun hx=>?_))
       exact Env.ok_turn (hb.arr k m hv _ hk hbk).1 hlo hx rfl
     ·exfalso;omega
     ·exact(noD p v hp e).elim
    ·exact .inr (.inl hlo)
  ·intro k b hk
   obtain⟨f1,f2,f3,f4,f5⟩:=g1.loc k b hk
   have h7:=hb3.loc0 k b (by rw[efs];exact f1) (by rw[hc4]at hk;exact(pub_loc hk).2)
   rw[ec0]at h7
   exact⟨(hb.loc k b h7).1,by omega,f3,f4,f5⟩
  ·intro k m hv b hk hbk
   obtain⟨f1,f2,f3,f4⟩:=g1.arr k m hv b hk hbk
   obtain⟨m0,hv0,lv0,k1,k2,k3,k4,k5⟩:=hb3.arr0 k m hv true (by rw[efs];exact f1) (by rw[hc4]at hk;exact(pub_arr hk).2)
   rw[ec0]at k1
   have:=k4 rfl
   subst this
   refine⟨?_,by omega,f3,f4⟩
   rcases k5 b hbk with h|h
   ·exact(hb.arr k m0 hv0 b k1 h).1
   ·exact .inl (by rw[eB]at h;have:=hb.hB;omega)
  ·intro b hy
   obtain⟨f1,f2,f3⟩:=g1.Y b hy
   refine⟨by omega,fun hlt=>?_,f2,f3⟩
   rcases old b (Nat.lt_of_lt_of_le hlt hb.hB) (.inl hy)with hy2|⟨k,hk⟩|⟨k,m,hv,hk,hbk⟩
   ·exact(hb.Y b hy2).2.1 hlt
   ·exact((hb.loc k b hk).1.resolve_left (by omega)).2
   ·exact((hb.arr k m hv b hk hbk).1.resolve_left (by omega)).2
  ·intro k b hk hkb
   have h7:=hb3.loc0 k b (by rw[efs];exact(g1.loc k b hkb).1) (by rw[hc4]at hkb;exact(pub_loc hkb).2)
   rw[ec0]at h7
   exact hb.loc0 k b hk h7
  ·intro k m hv lv hk hka
   rw[hc4]at hka
   obtain⟨f1,f2⟩:=pub_arr hka
   obtain⟨m0,hv0,lv0,k1,k2,k3,k4,k5⟩:=hb3.arr0 k m hv lv (by rw[efs];exact f1) f2
   rw[ec0]at k1
   obtain⟨m1,hv1,lv1,n1,n2,n3,n4,n5⟩:=hb.arr0 k m0 hv0 lv0 hk k1
   refine⟨m1,hv1,lv1,n1,by omega,fun e=>by rw[k3 (by omega),n3 (by omega)],fun e=>n4 (k4 e),fun b hb'=>?_⟩
   rcases k5 b hb' with h|h
   ·exact n5 b h
   ·exact .inr (by rw[eB]at h;have:=hb.hB;omega)
 refine⟨h',fun b=>Y b∨c4.all b,⟨⟨e3.1,e3.2.1,e3.2.2,by omega,fun k hk hn=>same k hk (fun h=>hn (hall k h)) (fun e=>hn (e▸hlY))⟩,g2,?_,hw4h,?_,?_⟩,c4,base4,by rw[c4h];exact Mem.le_refl _,fun p v hp=>.inl (by rw[c4h];exact hp),fun b hb' hz=>.inl (hlow b hb' hz),fun b h4=>.inr h4,hrec4,fun h4=>p1 (sub l h4),⟨(hoth r.D hDl).trans q3,fun h4=>q1 (sub _ h4)⟩,?_⟩
 ·intro p v hp
  rcases g3 p v hp with h1|h1|h1
  ·exact .inl h1
  ·exact .inr (.inl h1)
  ·rcases hXof _ h1 with h1|h1|h1
   ·exact .inr (.inr (hall _ (hc0all _ h1)))
   ·exact .inr (.inr (h1▸hlY))
   ·exact(noD p v hp h1).elim
 ·rintro b (hy|hy)
  ·have:=hYlt b hy;omega
  ·have:=lt4 b hy;omega
 ·rintro b (hy|hy) hlt
  ·exact hy
  ·exact hall b (old b hlt hy)
 ·have bxh:∀key x,look bx' key=some x→Holds c4 a w4 key x:=by
   intro key x hx
   have h7:=hh3 key x (hl3.mem hx)
   have h8:Holds (c3.pub u h') a w3 key x:=by
    refine Holds.pub (fs:=u) (w:=w3) (by rw[hh'];exact Env.fin_le hb3) ?_ (fun p v hp=>by have:=g1.hw p v;rw[c4h]at this;exact this hp) (BelX.refl _ _ _) (fun _ _=>rfl) h7 (List.all_eq_true.1 hhi (key,x) (look_mem hx))
    intro q v hq
    rw[hh']at hq
    unfold Env.fin at hq
    split at hq
    ·exact .inl hq
    ·rename_i hc;exact .inr fun hy=>hc (.inr (.inl hy))
   rw[←hc4]at h8
   exact keep_holds (fun b hb'=>hoth b fun e=>p1 (sub l (e▸hb'))) (fun p v hp=>hw4h p v (by rw[←c4h];exact hp)) ⟨by rw[hw4];rfl,by rw[hw4];rfl,by rw[hw4];rfl,by omega,fun k hk=>by omega⟩ rfl h8
  intro key x hx
  rw[look_append]at hx
  cases hk:look slots key with
  |none=>rw[hk]at hx;exact bxh key x hx
  |some y=>
   rw[hk]at hx
   have hxy:y=x:=by simpa using hx
   subst hxy
   clear hx
   have hs:=List.all_eq_true.1 hslots (key,y) (look_mem hk)
   simp only[slotOk,Bool.and_eq_true,Nat.blt_eq]at hs
   have h7:=hhs key y (by rw[look_append,hk];rfl)
   unfold Holds at h7⊢
   rw[if_pos hs.1]at h7⊢
   have hs2:=hs.2
   rw[Bool.or_eq_true]at hs2
   rcases hs2 with hs2|hs2
   ·exact(h7.cut hs2).mono ⟨by show Mem.le c.h c4.h;rw[c4h];exact Mem.le_trans hle g2,(fun k b e=>by simp[Ctx.cut]at e),(fun k m hv lv e=>by simp[Ctx.cut]at e)⟩
   ·cases y<;>first|cases hs2|skip
    rename_i k off
    simp only[Bool.and_eq_true,Nat.blt_eq]at hs2
    obtain⟨b,e1,e2⟩:=h7
    refine⟨b,?_,e2⟩
    have hs3':=hs2.2
    cases hlk:look bx' (1000+k)with
    |none=>rw[hlk]at hs3';cases hs3'
    |some z=>
     rw[hlk]at hs3'
     cases z<;>first|cases hs3'|skip
     obtain⟨b',T,vs,f1,f2,f3⟩:=box_of (bxh _ _ hlk) hs2.1
     have h9:c3.loc k=some b'∧k∈u:=by rw[hc4]at f1;exact⟨(pub_loc f1).2,(pub_loc f1).1⟩
     have h8:=hb3.loc0 k b' (by rw[efs];exact h9.2) h9.1
     rw[ec0]at h8
     have:c.loc k=some b':=h8
     rw[e1]at this
     cases this
     exact f1
end
end Go.Ab
