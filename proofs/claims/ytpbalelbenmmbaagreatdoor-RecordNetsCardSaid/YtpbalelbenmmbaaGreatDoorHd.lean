import Derived.Test.YtpbalelbenmmbaaGreatDoorHa
namespace Go.Ab
open Go.RowKit
section
variable{E:Env}{all:Array Oper}{s r r1 r2 r3 rg:St}{d ty:Nat}{pos:String}{after:Array Edge}{guard:Option (Nat×Bool)}{x y z:Operand}
theorem S.boxA{T k:Nat}{u:X}(hk:Nat.blt k 1000=true)(hg:Gd all s guard rg)(hd:(Nat.blt d 1000&&Nat.blt d E.nt)=true)(hx:OpS s x u r)(hu:okSt u=true)(hk9:E.fs.contains k=false:=by rfl):
  St1 E all ⟨some d,.box T x,ty,pos,after,guard⟩ s (rg++r) ((d,.optr k 1 0)::[(2000+k,.arrn (cellsX u).length [] (cellsX u) [])]) [k]:=
 St1.mk hg hd rfl hx.looks fun U c a w hb hr hal=>by
  rw[Nat.blt_eq]at hk
  have hkU:k∉U:=hal k (by simp)
  have hv:=(cells_of (hx.rep (c:=c) (a:=a) (w:=w) hr) hu).1
  have hvl:=hv.length
  have hB:=below_alloc w (.cells (a.eval x).cells T)
  obtain⟨g1,g2,g3,g4⟩:=hb.ownNew (k:=k) (nfs hk9) hkU (n:=1) (v:=.slice (some ⟨w.heap.size,0,none⟩) 1 1) hB (.inr ⟨rfl,by show w.heap.size<(w.heap.push _).size;rw[Array.size_push];omega⟩)
  refine⟨.pointer (some ⟨w.heap.size,0,none⟩),_,w.alloc (.cells (a.eval x).cells T),?_,g1,g2,⟨1,_,true,g3,Nat.le_refl _,fun _=>⟨_,_,_,rfl,rfl⟩⟩,?_,?_⟩
  ·simp[execOp,Instr.box,newVar,newRow]
  ·intro p hp
   simp only[List.mem_singleton]at hp
   subst hp
   refine Holds.mkArrn (n:=1) (e:=T) (vs:=(a.eval x).cells.toList) (v1:=[]) (v2:=(a.eval x).cells.toList) (v3:=[]) (by omega) rfl g3 ⟨by rw[hvl];omega,.inr ⟨w.heap.size,1,(a.eval x).cells,rfl,Nat.zero_le _,heap_alloc_new w _,Nat.le_refl _,by unfold maxLen;omega,by rw[hvl];simp,?_⟩⟩ ?_ (by simp) trivial (hv.mono fun _ _=>RepC.mono g2) trivial
   ·rw[hvl,Nat.one_mul];exact List.take_of_length_le (Nat.le_refl _)
   ·intro q hq;simp at hq;subst hq;rfl
  ·intro key u hkey _ hu
   exact g4 key u hkey hu
structure StX(E:Env)(all:Array Oper)(o:Oper)(s:St){ι:Type}(rd:St)(wr:ι→St)(al:List Nat):Prop where
 st:StepX E all o rd wr al
 lk:Looks s rd
theorem RK.xs{l:List Oper}{U:List Nat}{Q:Exit→List Nat→St→Prop}{o:Oper}{ι:Type}{rd:St}{wr:ι→St}{al:List Nat}(h:StX E all o s rd wr al)(hr:∀q,RK E all l (al++U) (wr q++s) Q)(ha:(al.all fun k=>!U.contains k)=true:=by rfl):RK E all (o::l) U s Q:=by
 intro k hk a w hg
 rw[List.length_cons,List.range'_succ,wpOpsIn_cons]
 refine opIn_wpOpIn (by simpa using hk 0) ?_
 obtain⟨c,hb,hh⟩:=hg
 refine h.st U c a w hb (fun p hp=>hh _ _ (h.lk.all p hp)) (fun k hk=>by simpa using (List.all_eq_true.1 ha) k hk) _ _ fun q c' a' w' hb' hwr hfr=>?_
 refine hr q (k+1) (fun j=>?_) a' w' ⟨c',hb',fun key x hx=>?_⟩
 ·have:=hk (j+1)
  simp only[List.getElem?_cons_succ]at this
  rw[←this]
  congr 1
  omega
 ·rw[look_append]at hx
  cases hk:look (wr q) key with
  |some y=>
   rw[hk]at hx
   cases hx
   exact hwr _ (look_mem hk)
  |none=>
   rw[hk]at hx
   exact hfr key x (look_none.1 hk) (hh key x hx)
theorem StX.mk'{op:Op}{ι:Type}{J:Mem→(Nat→Prop)→World→Prop}{res:ι→X}{xr:ι→Mem→(Nat→Prop)→World→Prop}{ks:List Nat}(hd:(Nat.blt d 1000&&Nat.blt d E.nt)=true)(hdef:isDefer op=false)(hl:Looks s r)(hl3:look s 3000=some (.res J))(hS:∀q,Stable (xr q))
  (hks:ks.all (fun k=>!E.fs.contains k&&Nat.blt k 1000)=true)
  (h:∀(U:List Nat)(c:Ctx)(a:Act)(w:World),Base E U c a w→(∀p∈r,Holds c a w p.1 p.2)→J c.h c.Y w→∃c1,Base E U c1 a w∧Ext c c1∧(∀key x,key≠3000→(∀k∈ks,2000+k≠key)→Holds c a w key x→Holds c1 a w key x)∧
   ∃(q:ι)(v:Value)(w':World)(h':Mem)(Y':Nat→Prop),(execOp a.eval ⟨some d,op,ty,pos,after,none⟩).run E.P w=.ok (.value v) w'∧PostJ c1.h c1.Y w h' Y' w'∧RepT (pureC h') (res q) v∧xr q h' Y' w'):
  StX E all ⟨some d,op,ty,pos,after,none⟩ s (r++[(3000,.res J)]) (fun q=>(d,res q)::(3000,.res (xr q))::ks.map fun k=>(2000+k,X.any)) []:=by
 refine⟨?_,hl.app ⟨hl3,trivial⟩⟩
 simp only[Bool.and_eq_true,Nat.blt_eq]at hd
 intro U c a w hb hr hal next Q hnx
 have hw:Region.wanted (⟨some d,op,ty,pos,after,none⟩:Oper) (yielded all a.tmps)=true:=rfl
 obtain⟨c1,hb1,hext1,hfr1,q,v,w',h',Y',hrun,hp,hres,hx⟩:=h U c a w hb (fun p hp=>hr p (by simp[hp])) (res_of (hr (3000,.res J) (by simp))).2
 unfold opIn
 rw[if_pos hw]
 refine⟨fun _ _=>trivial,?_⟩
 rw[Oper.semAt_eq _ _ _ (fun cl he=>by simp only at he;rw[he]at hdef;cases hdef),hrun]
 have hext:Ext c ⟨h',c1.loc,c1.arr,Y'⟩:=hext1.trans ⟨hp.le,fun _ _ e=>e,fun _ m hv lv e=>⟨m,hv,lv,e,Nat.le_refl _,fun _=>rfl⟩⟩
 have hdt:d<a.tmps.size:=by rw[hb.nt];exact hd.2
 refine hnx q ⟨h',c1.loc,c1.arr,Y'⟩ _ w' ((hb1.turn hp).put _ _) (fun p hp2=>?_) fun key u hk hu=>?_
 ·rcases List.mem_cons.1 hp2 with rfl|hp2
  ·unfold Holds
   rw[if_pos hd.1,getD_put hdt]
   exact hres.mono (pure_ext (c:=⟨h',c1.loc,c1.arr,Y'⟩) rfl)
  ·rcases List.mem_cons.1 hp2 with rfl|hp2
   ·exact(Holds.mkRes (c:=⟨h',c1.loc,c1.arr,Y'⟩) (a:=a) (hS q) hx).put (by show d≠3000;omega) _
   ·obtain⟨k,_,rfl⟩:=List.mem_map.1 hp2
    unfold Holds
    rw[if_neg (by omega)]
    exact .inl rfl
 ·have hne:d≠key:=hk (d,res q) (by simp)
  have hne3:3000≠key:=hk (3000,.res (xr q)) (by simp)
  have hnk:∀k∈ks,2000+k≠key:=fun k hk2=>hk (2000+k,.any) (List.mem_cons_of_mem _ (List.mem_cons_of_mem _ (List.mem_map.2 ⟨k,hk2,rfl⟩)))
  by_cases h1:key<1000
  ·refine Holds.put ?_ hne _
   unfold Holds at hu⊢
   rw[if_pos h1]at hu⊢
   exact hu.mono hext
  ·exact(Holds.turn hb1 hp h1 (fun e=>hne3 e.symm) (hfr1 key u (fun e=>hne3 e.symm) hnk hu)).put hne _
theorem own_src{c:Ctx}{a:Act}{w:World}{j m sz:Nat}{rows2:List (List X)}{v0:Value}(h1:RepT c (.own j m) v0)(h2:Holds c a w (2000+j) (.arr sz rows2))(hm:rows2.length=m):
  ∃news,All2 (RepD c.h) rows2.flatten news∧(∀q∈rows2,q.length=sz)∧(∀w,(Builtin.lenOf v0).run E.P w=.ok m w)∧∀w':World,(∀p,w'.cell? p=w.cell? p)→(Builtin.firstCells sz m v0).run E.P w'=.ok news.toArray w':=by
 subst hm
 obtain⟨_,m0,hv,lv,e1,e2,e3⟩:=own_of h1
 obtain⟨v,e',vs,g1,g2,g3,g4⟩:=arr_of h2
 rw[e1]at g1
 cases g1
 have hev:=e3 rfl
 refine⟨vs,g4,g3,?_,?_⟩
 ·intro w2
  rw[hev]
  rcases g2.2 with⟨rfl,h0⟩|⟨g,cap,cur,rfl,_⟩
  ·simp[Builtin.lenOf,h0]
  ·simp[Builtin.lenOf]
 ·intro w' hw'
  rw[hev]
  rcases g2.2 with⟨rfl,h0⟩|⟨g,cap,cur,rfl,h1,h2,h3,h4,h5,h6⟩
  ·have:vs=[]:=List.eq_nil_of_length_eq_zero (by rw[g2.1,h0];simp)
   subst this
   simp[Builtin.firstCells]
  ·exact run_firstCells_some w' sz rows2.length ⟨g,0,none⟩ rows2.length cap vs g2.1 fun i u hu=>by rw[hw'];exact g2.cells (g:=g) rfl i u hu
variable{K:Type}[DecidableEq K]
theorem S.happ{t e sz bytes j m:Nat}{hdr:Value}{M:HM K}{rows rows2:List (List X)}(k0:K)(hA:ApI E.P t e sz bytes)(hd:(Nat.blt d 1000&&Nat.blt d E.nt)=true)(hx:OpS s x (.raw hdr) r1)(hgr:GroIs M k0 hdr sz rows)(hy:OpS s y (.own j m) r2)(hl2:look s (2000+j)=some (.arr sz rows2))
  (hl3:look s 3000=some (.res (HeapJ M))) (hm:rows2.length=m) (hm0:0<m) (hbd:(rows.length+m) * bytes≤140737488355328) (hbm:rows.length+m≤maxLen):
  StX E all ⟨some d,.call {callee:=.builtin .append,args:=#[x,y],argTypes:=#[t,t]},ty,pos,after,none⟩ s ((r1++(r2++[(2000+j,.arr sz rows2)]))++[(3000,.res (HeapJ M))])
   (fun q:Nat×Nat=>(d,.raw (.slice (some ⟨q.1,0,none⟩) (rows.length+m) q.2))::(3000,.res (HeapJ (M.set k0 (some (q.1,.gro sz q.2 (rows++rows2))))))::([]:List Nat).map fun k=>(2000+k,X.any)) []:=
 StX.mk' hd rfl (hx.looks.app (hy.looks.app ⟨hl2,trivial⟩)) hl3 (fun _=>HeapJ.stable _) rfl fun U c a w hb hr hj=>by
  have hxv:a.eval x=hdr:=hx.rep (c:=c) (a:=a) (w:=w) fun p hp=>hr p (by simp[hp])
  obtain⟨news,n1,n0,n2,n4⟩:=own_src (E:=E) (hy.rep (c:=c) (a:=a) (w:=w) fun p hp=>hr p (by simp[hp])) (hr (2000+j,.arr sz rows2) (by simp)) hm
  refine⟨c,hb,Ext.refl c,fun _ _ _ _ h=>h,?_⟩
  obtain⟨b,cap,w',h',q1,q2,q3⟩:=hj.app (P:=E.P) (ty:=ty) hA hA.und srcD_sl hb.hw (fun b hy=>(hb.Y b hy).1) hgr n1 n2 n4 n0 hm hm0 hbd hbm
  refine⟨(b,cap),_,w',h',_,?_,q2,rfl,q3⟩
  simp only[execOp,resolve,invoke,builtin,Sem.run_bind,Sem.run_pure,Result.andThen_ok,List.map_toArray,List.map_cons,List.map_nil,hxv,q1]
theorem S.happR{t e sz bytes j m:Nat}{hdr:Value}{M:HM K}{rows rows2:List (List X)}(k0:K)(hA:ApI E.P t e sz bytes)(hd:(Nat.blt d 1000&&Nat.blt d E.nt)=true)(hx:OpS s x (.raw hdr) r1)(hgr:RowIs M k0 hdr sz rows)(hy:OpS s y (.own j m) r2)(hl2:look s (2000+j)=some (.arr sz rows2))
  (hl3:look s 3000=some (.res (HeapJ M))) (hm:rows2.length=m) (hm0:0<m) (hbd:(rows.length+m) * bytes≤140737488355328) (hbm:rows.length+m≤maxLen):
  StX E all ⟨some d,.call {callee:=.builtin .append,args:=#[x,y],argTypes:=#[t,t]},ty,pos,after,none⟩ s ((r1++(r2++[(2000+j,.arr sz rows2)]))++[(3000,.res (HeapJ M))])
   (fun q:Nat×Nat=>(d,.raw (.slice (some ⟨q.1,0,none⟩) (rows.length+m) q.2))::(3000,.res (HeapJ (M.set k0 (some (q.1,.row sz q.2 (rows++rows2))))))::([]:List Nat).map fun k=>(2000+k,X.any)) []:=
 StX.mk' hd rfl (hx.looks.app (hy.looks.app ⟨hl2,trivial⟩)) hl3 (fun _=>HeapJ.stable _) rfl fun U c a w hb hr hj=>by
  have hxv:a.eval x=hdr:=hx.rep (c:=c) (a:=a) (w:=w) fun p hp=>hr p (by simp[hp])
  obtain⟨news,n1,n0,n2,n4⟩:=own_src (E:=E) (hy.rep (c:=c) (a:=a) (w:=w) fun p hp=>hr p (by simp[hp])) (hr (2000+j,.arr sz rows2) (by simp)) hm
  refine⟨c,hb,Ext.refl c,fun _ _ _ _ h=>h,?_⟩
  obtain⟨b,cap,w',q1,q2,q3⟩:=hj.appR (P:=E.P) (ty:=ty) hA hA.und srcD_sl hb.hw (fun b hy=>(hb.Y b hy).1) hgr n1 n2 n4 n0 hm hm0 hbd hbm
  refine⟨(b,cap),_,w',c.h,_,?_,q2,rfl,q3⟩
  simp only[execOp,resolve,invoke,builtin,Sem.run_bind,Sem.run_pure,Result.andThen_ok,List.map_toArray,List.map_cons,List.map_nil,hxv,q1]
end
end Go.Ab
namespace Go.Ab
open Go.RowKit
section
variable{E:Env}{U:List Nat}{c:Ctx}{a:Act}{w:World}
def Ctx.dead(c:Ctx)(k n:Nat)(hv:Value):Ctx:=⟨c.h,c.loc,fun j=>if j=k then some (n,hv,false)else c.arr j,fun b=>c.Y b∨hv.ownBlock=some b⟩
theorem Ext.dead{k n:Nat}{hv:Value}(e1:c.arr k=some (n,hv,true)):Ext c (c.dead k n hv):=⟨Mem.le_refl _,fun _ _ e=>e,fun j m u lv e=>by
 by_cases hj:j=k
 ·subst hj;rw[e1]at e;cases e;exact⟨_,_,false,if_pos rfl,Nat.le_refl _,fun _=>rfl⟩
 ·exact⟨m,u,lv,(if_neg hj).trans e,Nat.le_refl _,fun _=>rfl⟩⟩
theorem Holds.dead{k n:Nat}{hv:Value}(e1:c.arr k=some (n,hv,true)){key:Nat}{x:X}(hk:2000+k≠key)(h3:key≠3000)(h0:Holds c a w key x):Holds (c.dead k n hv) a w key x:=by
 have hext:=Ext.dead e1
 unfold Holds at h0⊢
 split at h0
 ·rename_i hlt;rw[if_pos hlt];exact h0.mono hext
 ·rename_i hlt
  rw[if_neg hlt]
  refine or_snd h0 fun h0=>?_
  split at h0
  ·rename_i h2
   rw[if_pos h2]
   obtain⟨b,o,f1,f2,f3⟩:=h0
   exact⟨b,o,f1,f2,f3.mono hext⟩
  ·rename_i h2
   rw[if_neg h2]
   split at h0
   ·rename_i h6
    rw[if_pos h6]
    obtain⟨sz2,rows2,hv2,e2',vs2,f4,f1,f2,f3⟩:=h0
    have hj:key - 2000≠k:=by omega
    generalize key - 2000=j at f1 hj
    exact⟨sz2,rows2,hv2,e2',vs2,f4.mono hext,(if_neg hj).trans f1,f2,f3⟩
   ·exact absurd h0.1 h3
variable{K:Type}[DecidableEq K]{M:HM K}
theorem dead_turn(hb:Base E U c a w)(hj:HeapJ M c.h c.Y w)(kb:K){k n:Nat}{b l cp:Nat}{kd:HK}(e1:c.arr k=some (n,.slice (some ⟨b,0,none⟩) l cp,true))(hk:HKIs c.h w b kd):HeapJ (M.set kb (some (b,kd))) (c.dead k n (.slice (some ⟨b,0,none⟩) l cp)).h (c.dead k n (.slice (some ⟨b,0,none⟩) l cp)).Y w:=
 hj.turn (Mem.le_refl _) (fun _ _ _ _ _ e=>e) (fun _ _ _=>rfl) (fun _ e=>.inl e) (.inr fun hy=>(hb.Y b hy).2.2.2 _ _ _ e1 rfl) (.inr rfl) hk
theorem give_row(hb:Base E U c a w)(hj:HeapJ M c.h c.Y w)(kb:K){k sz:Nat}{rows:List (List X)}(hk9:k∉E.fs)(hA:Holds c a w (2000+k) (.arr sz rows))(h0:0<rows.length):
  ∃b cp,c.arr k=some (rows.length,.slice (some ⟨b,0,none⟩) rows.length cp,true)∧Base E U (c.dead k rows.length (.slice (some ⟨b,0,none⟩) rows.length cp)) a w∧HeapJ (M.set kb (some (b,.row sz cp rows))) (c.dead k rows.length (.slice (some ⟨b,0,none⟩) rows.length cp)).h (c.dead k rows.length (.slice (some ⟨b,0,none⟩) rows.length cp)).Y w:=by
 obtain⟨hv,e',vs,g1,g2,g3,g4⟩:=arr_of hA
 rcases g2.2 with⟨_,h1⟩|⟨b,cp,cur,rfl,_,f1,f2,f3,f4,f5⟩
 ·omega
 ·refine⟨b,cp,g1,hb.giveA g1 hk9,dead_turn hb hj kb g1 ⟨(hb.arr _ _ _ b g1 rfl).2.2.1,⟨f2,f3,g3⟩,e',cur,f1,f4,?_⟩⟩
  rw[f5];exact g4
theorem CellsOk.own{c:Ctx}{k2 n2:Nat}{v0:Value}(e:∃lv,c.arr k2=some (n2,v0,lv)){x:X}(hx:x=.own k2 n2){v:Value}(h:RepC c x v)(h1:v0.oneCell'=true):RepD c.h (.raw v0) v:=by
 subst hx
 obtain⟨lv0,e⟩:=e
 obtain⟨_,m,hv,lv,e1,_,e3⟩:=(h:RepP c (.own k2 n2) v)
 rw[e]at e1
 cases e1
 exact RepD.of_raw (e3 rfl) h1
def CellsOk(k2 n2:Nat)(v0:Value):List X→List X→Prop:=All2 fun x x'=>(okH x=true∧x'=toH x)∨(x=.own k2 n2∧x'=.raw v0)
theorem CellsOk.rep{k2 n2:Nat}{v0:Value}(e:∃lv,c.arr k2=some (n2,v0,lv))(h1:v0.oneCell'=true):∀{xs xs':List X},CellsOk k2 n2 v0 xs xs'→∀{vs:List Value},All2 (RepC c) xs vs→All2 (RepD c.h) xs' vs
 |[],[],_,vs,h=>h.nil_left▸trivial
 |x::xs,x'::xs',hc,vs,h=>by
  obtain⟨v,vs',rfl,h2,h3⟩:=h.cons_left
  refine⟨?_,CellsOk.rep e h1 hc.2 h3⟩
  rcases hc.1 with⟨h4,rfl⟩|⟨h4,rfl⟩
  ·exact H_of h2 h4
  ·exact CellsOk.own e h4 h2 h1
 |[],_::_,hc,_,_=>hc.elim
 |_::_,[],hc,_,_=>hc.elim
theorem give_box(hb:Base E U c a w)(hj:HeapJ M c.h c.Y w)(kb:K){k sz:Nat}{cells cells':List X}(hk9:k∉E.fs)(hA:Holds c a w (2000+k) (.arrn sz [] cells []))(hc:∀vs,All2 (RepC c) cells vs→All2 (RepD c.h) cells' vs):
  ∃b cp,c.arr k=some (1,.slice (some ⟨b,0,none⟩) 1 cp,true)∧Base E U (c.dead k 1 (.slice (some ⟨b,0,none⟩) 1 cp)) a w∧HeapJ (M.set kb (some (b,.box cells'))) (c.dead k 1 (.slice (some ⟨b,0,none⟩) 1 cp)).h (c.dead k 1 (.slice (some ⟨b,0,none⟩) 1 cp)).Y w:=by
 obtain⟨hk,hv,e',vs,g1,g2,g3,v1,v2,v3,g4,g5,g6,g7⟩:=arrn_of hA
 rcases g2.2 with⟨_,h1⟩|⟨b,cp,cur,rfl,_,f1,f2,f3,f4,f5⟩
 ·simp at h1
 ·have e1:v1=[]:=g5.nil_left
  have e3:v3=[]:=g7.nil_left
  subst e1 e3
  have h2:=hc _ g6
  refine⟨b,cp,g1,hb.giveA g1 hk9,dead_turn hb hj kb g1 ⟨(hb.arr _ _ _ b g1 rfl).2.2.1,e',cur,f1,?_⟩⟩
  have h3:cells'.length=sz:=by rw[h2.length,←g6.length];exact g3 cells (by simp)
  rw[h3]
  simp only[List.length_nil,Nat.zero_add,Nat.one_mul]at f5
  rw[f5,g4]
  simpa using h2
omit [DecidableEq K]
theorem GroIs.other[DecidableEq K]{k kb:K}{hd:Value}{sz:Nat}{rows:List (List X)}(hg:GroIs M k hd sz rows)(hk:k≠kb)(p:Option (Nat×HK)):GroIs (M.set kb p) k hd sz rows:=by
 rcases hg with⟨h1,h2,h3⟩|⟨b,cap,h1,h2⟩
 ·exact .inl ⟨h1,h2,by rw[HM.set_other _ _ hk];exact h3⟩
 ·exact .inr ⟨b,cap,h1,by rw[HM.set_other _ _ hk];exact h2⟩
theorem RowIs.other[DecidableEq K]{k kb:K}{hd:Value}{sz:Nat}{rows:List (List X)}(hg:RowIs M k hd sz rows)(hk:k≠kb)(p:Option (Nat×HK)):RowIs (M.set kb p) k hd sz rows:=by
 rcases hg with⟨h1,h2,h3⟩|⟨b,cap,h1,h2⟩
 ·exact .inl ⟨h1,h2,by rw[HM.set_other _ _ hk];exact h3⟩
 ·exact .inr ⟨b,cap,h1,by rw[HM.set_other _ _ hk];exact h2⟩
end
section
variable{E:Env}{all:Array Oper}{s r r1 r2 r3 rg:St}{d ty:Nat}{pos:String}{after:Array Edge}{guard:Option (Nat×Bool)}{x y z:Operand}{K:Type}[DecidableEq K]
theorem ptr_src{c:Ctx}{a:Act}{w:World}{j k b l cp:Nat}{v0:Value}(h1:RepT c (.own j 1) v0)(h2:Holds c a w (2000+j) (.arrn 1 [] [.optr k 1 0] []))(e:∃lv,c.arr k=some (1,.slice (some ⟨b,0,none⟩) l cp,lv)):
  All2 (RepD c.h) [[X.raw (.pointer (some ⟨b,0,none⟩))]].flatten [Value.pointer (some ⟨b,0,none⟩)]∧(∀w,(Builtin.lenOf v0).run E.P w=.ok 1 w)∧∀w':World,(∀p,w'.cell? p=w.cell? p)→(Builtin.firstCells 1 1 v0).run E.P w'=.ok [Value.pointer (some ⟨b,0,none⟩)].toArray w':=by
 obtain⟨_,m0,hv,lv,e1,e2,e3⟩:=own_of h1
 obtain⟨hk,hv',e',vs,g1,g2,g3,v1,v2,v3,g4,g5,g6,g7⟩:=arrn_of h2
 simp only[List.length_nil,Nat.zero_add]at g1 g2
 rw[e1]at g1
 cases g1
 have hev:=e3 rfl
 have q1:v1=[]:=g5.nil_left
 have q3:v3=[]:=g7.nil_left
 subst q1 q3
 obtain⟨v,vs',rfl,q4,q5⟩:=g6.cons_left
 have q6:vs'=[]:=q5.nil_left
 subst q6
 obtain⟨lv0,e⟩:=e
 obtain⟨m,hv2,lv2,p1,p2,p3⟩:=(q4:RepP c (.optr k 1 0) v)
 rw[e]at p1
 cases p1
 obtain⟨b',l',cp',p4,rfl⟩:=p3 rfl
 cases p4
 simp only[List.nil_append,List.append_nil]at g4
 subst g4
 refine⟨⟨RepD.raw _ rfl,trivial⟩,fun w2=>?_,fun w' hw'=>?_⟩
 ·rw[hev]
  rcases g2.2 with⟨rfl,h0⟩|⟨g,cap,cur,rfl,_⟩
  ·omega
  ·simp[Builtin.lenOf]
 ·rw[hev]
  rcases g2.2 with⟨rfl,h0⟩|⟨g,cap,cur,rfl,h1,h2,h3,h4,h5,h6⟩
  ·omega
  ·exact run_firstCells_some w' 1 1 ⟨g,0,none⟩ 1 cap _ g2.1 fun i u hu=>by rw[hw'];exact g2.cells (g:=g) rfl i u hu
variable{M:HM K}{t e bytes j k:Nat}{hdr:Value}{rows:List (List X)}
theorem S.happB{sz:Nat}{cells cells':List X}(k0 kb:K)(hA:ApI E.P t e 1 bytes)(hd:(Nat.blt d 1000&&Nat.blt d E.nt)=true)(hx:OpS s x (.raw hdr) r1)(hgr:GroIs M k0 hdr 1 rows)(hkb:k0≠kb)(hy:OpS s y (.own j 1) r2)(hl2:look s (2000+j)=some (.arrn 1 [] [.optr k 1 0] []))(hl4:look s (2000+k)=some (.arrn sz [] cells []))
  (hl3:look s 3000=some (.res (HeapJ M))) (hne:Nat.beq j k=false) (hc:cells.all okH=true) (hc2:cells.map toH=cells') (hbd:(rows.length+1) * bytes≤140737488355328) (hbm:rows.length+1≤maxLen) (hks:[k].all (fun k=>!E.fs.contains k&&Nat.blt k 1000)=true:=by rfl):
  StX E all ⟨some d,.call {callee:=.builtin .append,args:=#[x,y],argTypes:=#[t,t]},ty,pos,after,none⟩ s ((r1++(r2++[(2000+j,.arrn 1 [] [.optr k 1 0] []),(2000+k,.arrn sz [] cells [])]))++[(3000,.res (HeapJ M))])
   (fun q:Nat×Nat×Nat=>(d,.raw (.slice (some ⟨q.2.1,0,none⟩) (rows.length+1) q.2.2))::(3000,.res (HeapJ ((M.set kb (some (q.1,.box cells'))).set k0 (some (q.2.1,.gro 1 q.2.2 (rows++[[.raw (.pointer (some ⟨q.1,0,none⟩))]]))))))::[k].map fun k=>(2000+k,X.any)) []:=
 StX.mk' hd rfl (hx.looks.app (hy.looks.app ⟨hl2,hl4,trivial⟩)) hl3 (fun _=>HeapJ.stable _) hks fun U c a w hb hr hj=>by
  subst hc2
  have hk9:k∉E.fs:=by
   simp only[List.all_cons,Bool.and_eq_true,Bool.not_eq_true']at hks
   exact nfs hks.1.1
  have hjk:2000+k≠2000+j:=fun e=>by have h1:j=k:=by omega
                                    rw[h1,Nat.beq_refl]at hne;cases hne
  have hxv:a.eval x=hdr:=hx.rep (c:=c) (a:=a) (w:=w) fun p hp=>hr p (by simp[hp])
  obtain⟨b,cp,e1,hb1,hj1⟩:=give_box hb hj kb hk9 (hr (2000+k,.arrn sz [] cells []) (by simp)) (fun vs h=>Hs_of h hc)
  have hy1:RepT c (.own j 1) (a.eval y):=hy.rep (c:=c) (a:=a) (w:=w) fun p hp=>hr p (by simp[hp])
  obtain⟨n1,n2,n4⟩:=ptr_src (E:=E) (hy1.mono (Ext.dead e1)) (Holds.dead (a:=a) e1 hjk (by have:=arrn_of (hr (2000+j,.arrn 1 [] [.optr k 1 0] []) (by simp));omega) (hr (2000+j,.arrn 1 [] [.optr k 1 0] []) (by simp))) ⟨false,if_pos rfl⟩
  refine⟨_,hb1,Ext.dead e1,fun key u h3 hk hu=>Holds.dead e1 (hk k (by simp)) h3 hu,?_⟩
  obtain⟨b2,cap,w',h',q1,q2,q3⟩:=hj1.app (P:=E.P) (ty:=ty) hA hA.und srcD_sl hb1.hw (fun b hy=>(hb1.Y b hy).1) (hgr.other hkb _) n1 n2 n4 (fun q hq=>by simp at hq;subst hq;rfl) rfl (by omega) hbd hbm
  refine⟨(b,b2,cap),_,w',h',_,?_,q2,rfl,q3⟩
  simp only[execOp,resolve,invoke,builtin,Sem.run_bind,Sem.run_pure,Result.andThen_ok,List.map_toArray,List.map_cons,List.map_nil,hxv,q1]
theorem S.happB2{sz sz2 k2 n2:Nat}{cells:List X}{rows2:List (List X)}(cells':Value→List X)(k0 kb ke:K)(hA:ApI E.P t e 1 bytes)(hd:(Nat.blt d 1000&&Nat.blt d E.nt)=true)(hx:OpS s x (.raw hdr) r1)(hgr:GroIs M k0 hdr 1 rows)(hkb:k0≠kb)(hke:k0≠ke)(hy:OpS s y (.own j 1) r2)(hl2:look s (2000+j)=some (.arrn 1 [] [.optr k 1 0] []))(hl4:look s (2000+k)=some (.arrn sz [] cells []))
  (hl5:look s (2000+k2)=some (.arr sz2 rows2)) (hn2:rows2.length=n2) (h0:0<n2) (hl3:look s 3000=some (.res (HeapJ M))) (hne:(Nat.beq j k||Nat.beq j k2||Nat.beq k k2)=false) (hc:∀b cap,CellsOk k2 n2 (.slice (some ⟨b,0,none⟩) n2 cap) cells (cells' (.slice (some ⟨b,0,none⟩) n2 cap))) (hbd:(rows.length+1) * bytes≤140737488355328) (hbm:rows.length+1≤maxLen)
  (hks:[k2,k].all (fun k=>!E.fs.contains k&&Nat.blt k 1000)=true:=by rfl):
  StX E all ⟨some d,.call {callee:=.builtin .append,args:=#[x,y],argTypes:=#[t,t]},ty,pos,after,none⟩ s ((r1++(r2++[(2000+j,.arrn 1 [] [.optr k 1 0] []),(2000+k,.arrn sz [] cells []),(2000+k2,.arr sz2 rows2)]))++[(3000,.res (HeapJ M))])
   (fun q:(Nat×Nat)×Nat×Nat×Nat=>(d,.raw (.slice (some ⟨q.2.2.1,0,none⟩) (rows.length+1) q.2.2.2))::(3000,.res (HeapJ (((M.set ke (some (q.1.1,.row sz2 q.1.2 rows2))).set kb (some (q.2.1,.box (cells' (.slice (some ⟨q.1.1,0,none⟩) n2 q.1.2))))).set k0 (some (q.2.2.1,.gro 1 q.2.2.2 (rows++[[.raw (.pointer (some ⟨q.2.1,0,none⟩))]]))))))::[k2,k].map fun k=>(2000+k,X.any)) []:=
 StX.mk' hd rfl (hx.looks.app (hy.looks.app ⟨hl2,hl4,hl5,trivial⟩)) hl3 (fun _=>HeapJ.stable _) hks fun U c a w hb hr hj=>by
  subst hn2
  simp only[List.all_cons,Bool.and_eq_true,Bool.not_eq_true',Bool.or_eq_false_iff,List.all_nil,Bool.and_true]at hks hne
  have hk9:k∉E.fs:=nfs hks.2.1
  have hk29:k2∉E.fs:=nfs hks.1.1
  have ne1:j≠k:=fun e=>by rw[e,Nat.beq_refl]at hne;cases hne.1.1
  have ne2:j≠k2:=fun e=>by rw[e,Nat.beq_refl]at hne;cases hne.1.2
  have ne3:k≠k2:=fun e=>by rw[e,Nat.beq_refl]at hne;cases hne.2
  have hxv:a.eval x=hdr:=hx.rep (c:=c) (a:=a) (w:=w) fun p hp=>hr p (by simp[hp])
  have hHj:=hr (2000+j,.arrn 1 [] [.optr k 1 0] []) (by simp)
  have hHk:=hr (2000+k,.arrn sz [] cells []) (by simp)
  have jlt:=(arrn_of hHj).1
  have klt:=(arrn_of hHk).1
  obtain⟨b0,cp0,e0,hb0,hj0⟩:=give_row hb hj ke hk29 (hr (2000+k2,.arr sz2 rows2) (by simp)) h0
  have hHk1:=Holds.dead (a:=a) e0 (show 2000+k2≠2000+k by omega) (by omega) hHk
  obtain⟨b,cp,e1,hb1,hj1⟩:=give_box hb0 hj0 kb hk9 hHk1 (fun vs h=>(hc b0 cp0).rep ⟨false,if_pos rfl⟩ rfl h)
  have hy1:RepT c (.own j 1) (a.eval y):=hy.rep (c:=c) (a:=a) (w:=w) fun p hp=>hr p (by simp[hp])
  obtain⟨n1,n2,n4⟩:=ptr_src (E:=E) ((hy1.mono (Ext.dead e0)).mono (Ext.dead e1)) (Holds.dead (a:=a) e1 (by omega) (by omega) (Holds.dead (a:=a) e0 (by omega) (by omega) hHj)) ⟨false,if_pos rfl⟩
  refine⟨_,hb1,(Ext.dead e0).trans (Ext.dead e1),fun key u h3 hk hu=>Holds.dead e1 (hk k (by simp)) h3 (Holds.dead e0 (hk k2 (by simp)) h3 hu),?_⟩
  obtain⟨b2,cap,w',h',q1,q2,q3⟩:=hj1.app (P:=E.P) (ty:=ty) hA hA.und srcD_sl hb1.hw (fun b hy=>(hb1.Y b hy).1) ((hgr.other hke _).other hkb _) n1 n2 n4 (fun q hq=>by simp at hq;subst hq;rfl) rfl (by omega) hbd hbm
  refine⟨((b0,cp0),b,b2,cap),_,w',h',_,?_,q2,rfl,q3⟩
  simp only[execOp,resolve,invoke,builtin,Sem.run_bind,Sem.run_pure,Result.andThen_ok,List.map_toArray,List.map_cons,List.map_nil,hxv,q1]
end
end Go.Ab
namespace Go.Ab
open Go.RowKit
section
variable{E:Env}{all:Array Oper}{s r r1 r2 r3 rg:St}{d ty:Nat}{pos:String}{after:Array Edge}{guard:Option (Nat×Bool)}{x y z:Operand}{K:Type}[DecidableEq K]
theorem S.peqn{t t2 e:Nat}{p:Option Addr}(ht:E.P.underlying t=some (.pointer e))(hg:Gd all s guard rg)(hd:(Nat.blt d 1000&&Nat.blt d E.nt)=true)(hx:OpS s x (.raw (.pointer p)) r):
  St1 E all ⟨some d,.binOp .eql t x (.const (.pointer none)) t2,ty,pos,after,guard⟩ s (rg++r) [(d,.bool p.isNone)] []:=
 St1.val hg hd rfl hx.looks fun c A w _ hr=>by
  have hv:A.eval x=.pointer p:=hx.rep (c:=c) (a:=A) (w:=w) hr
  refine⟨.bool p.isNone,?_,RepD.toT (.bool _)⟩
  have hc:A.eval (.const (.pointer none))=.pointer none:=rfl
  have hq:(eqGuard .eql t x (.const (.pointer none)) (.pointer p) (.pointer none)).run E.P w=.ok () w:=by simp[eqGuard]
  have h3:(Op.equalIn Op.maxDepth t (.pointer p) (.pointer none)).run E.P w=.ok p.isNone w:=by
   rw[show Op.maxDepth=(Op.maxDepth - 1)+1 from rfl]
   cases p<;>simp[Op.equalIn,run_underlying ht,Sem.run_bind]
  simp only[execOp,hv,hc,Sem.run_bind,hq,Result.andThen_ok,binOp,Op.equal,h3]
  rfl
theorem S.pnen{t t2 e:Nat}{p:Option Addr}(ht:E.P.underlying t=some (.pointer e))(hg:Gd all s guard rg)(hd:(Nat.blt d 1000&&Nat.blt d E.nt)=true)(hx:OpS s x (.raw (.pointer p)) r):
  St1 E all ⟨some d,.binOp .neq t x (.const (.pointer none)) t2,ty,pos,after,guard⟩ s (rg++r) [(d,.bool (!p.isNone))] []:=
 St1.val hg hd rfl hx.looks fun c A w _ hr=>by
  have hv:A.eval x=.pointer p:=hx.rep (c:=c) (a:=A) (w:=w) hr
  refine⟨.bool (!p.isNone),?_,RepD.toT (.bool _)⟩
  have hc:A.eval (.const (.pointer none))=.pointer none:=rfl
  have hq:(eqGuard .neq t x (.const (.pointer none)) (.pointer p) (.pointer none)).run E.P w=.ok () w:=by simp[eqGuard]
  have h3:(Op.equalIn Op.maxDepth t (.pointer p) (.pointer none)).run E.P w=.ok p.isNone w:=by
   rw[show Op.maxDepth=(Op.maxDepth - 1)+1 from rfl]
   cases p<;>simp[Op.equalIn,run_underlying ht,Sem.run_bind]
  simp only[execOp,hv,hc,Sem.run_bind,hq,Result.andThen_ok,binOp,Op.equal,h3]
  rfl
end
end Go.Ab
namespace Go.Ab
open Go.RowKit
inductive Fz{K:Type}(M:HM K):X→X→Prop
 |same (x:X) (h:okD x=true):Fz M x x
 |nils:Fz M .nils (.sl [])
 |nil:Fz M (.raw (.slice none 0 0)) (.sl [])
 |row {k:K} {b cap sz:Nat} {rows rows':List (List X)} (hM:M k=some (b,.row sz cap rows)) (hl:rows'.length=rows.length) (hw:∀r∈rows',r.length=sz) (hc:∀(i:Nat)(x x':X),rows.flatten[i]?=some x→rows'.flatten[i]?=some x'→Fz M x x'):Fz M (.raw (.slice (some ⟨b,0,none⟩) rows.length cap)) (.sl rows')
 |gro {k:K} {b cap sz:Nat} {rows rows':List (List X)} (hM:M k=some (b,.gro sz cap rows)) (hl:rows'.length=rows.length) (hw:∀r∈rows',r.length=sz) (hc:∀(i:Nat)(x x':X),rows.flatten[i]?=some x→rows'.flatten[i]?=some x'→Fz M x x'):Fz M (.raw (.slice (some ⟨b,0,none⟩) rows.length cap)) (.sl rows')
section
variable{K:Type}{M:HM K}
theorem Fz.ofRow{k:K}{hd:Value}{sz:Nat}{rows rows':List (List X)}(hg:RowIs M k hd sz rows)(hr:All2 (All2 (Fz M)) rows rows')(hw:∀r∈rows,r.length=sz):Fz M (.raw hd) (.sl rows'):=by
 rcases hg with⟨rfl,rfl,_⟩|⟨b,cap,rfl,hM⟩
 ·rw[hr.nil_left];exact .nil
 ·have hw':∀r∈rows',r.length=sz:=fun r hr'=>by
   obtain⟨i,hi,rfl⟩:=List.getElem_of_mem hr'
   have h1:=hr.get (i:=i) (List.getElem?_eq_getElem (by rw[hr.length];exact hi)) (List.getElem?_eq_getElem hi)
   rw[←h1.length];exact hw _ (List.getElem_mem _)
  have hf:∀{rows rows':List (List X)},All2 (All2 (Fz M)) rows rows'→All2 (Fz M) rows.flatten rows'.flatten:=by
   intro rows
   induction rows with
   |nil=>intro rows' h;rw[h.nil_left];trivial
   |cons r rows ih=>
    intro rows' h
    obtain⟨r',rows2,rfl,h1,h2⟩:=h.cons_left
    rw[List.flatten_cons,List.flatten_cons]
    exact h1.append (ih h2)
  exact .row hM hr.length.symm hw' fun i x x' h1 h2=>(hf hr).get h1 h2
open Classical in
noncomputable def hfz(M:HM K)(h:Mem)(w:World):Mem:=fun p=>if p.spot=none∧∃k sz cap rows,M k=some (p.block,.row sz cap rows)∧p.off<rows.length * sz then w.cell? p else h p
theorem hfz_in{h:Mem}{w:World}{p:Addr}{v:Value}(e:hfz M h w p=some v):h p=some v∨((∃k sz cap rows,M k=some (p.block,.row sz cap rows))∧w.cell? p=some v):=by
 unfold hfz at e
 split at e
 ·rename_i hc;obtain⟨_,k,sz,cap,rows,h1,_⟩:=hc;exact .inr ⟨⟨k,sz,cap,rows,h1⟩,e⟩
 ·exact .inl e
theorem hfz_le{h:Mem}{Y:Nat→Prop}{w:World}(hj:HeapJ M h Y w):Mem.le h (hfz M h w):=by
 intro p v e
 unfold hfz
 split
 ·rename_i hc
  obtain⟨h1,k,sz,cap,rows,h2,_⟩:=hc
  have h3:=(hj.1 k _ _ h2).2.1 p.off
  rw[←at_spot rfl h1,e]at h3;cases h3
 ·exact e
theorem Fz.repD{h:Mem}{Y:Nat→Prop}{w:World}(hj:HeapJ M h Y w){x x':X}(hf:Fz M x x'):∀{v:Value},RepD h x v→RepD (hfz M h w) x' v:=by
 induction hf with
 |same x hx=>intro v r;exact r.mono (hfz_le hj)
 |nils=>intro v r;cases r
 |nil=>intro v r;cases r;exact .sl0 none 0 (Nat.zero_le _)
 | @row k b cap sz rows rows' hM hl hw hc ih=>
   intro v r
   cases r
   obtain⟨_,h1,⟨g1,g2,g3⟩,T,vs,h2,h3,h4⟩:=hj.1 k b _ hM
   rw[←hl]
   have hfl:rows'.flatten.length=(vs.toList.take (rows.length * sz)).length:=by rw[←h4.length,flatten_length g3,flatten_length hw,hl]
   refine .sl rows' b 0 cap sz (vs.toList.take (rows.length * sz)) (by rw[hl];exact g1) g2 hw hfl (fun i v e=>?_) fun i x' v e1 e2=>?_
   ·have h9:=(List.getElem?_eq_some_iff.1 e).1
    rw[List.length_take]at h9
    have h10:0+i<rows.length * sz:=by omega
    unfold hfz
    rw[if_pos ⟨rfl,k,sz,cap,rows,hM,h10⟩,Nat.zero_add]
    exact cell_take h2 rfl e
   ·obtain⟨x,e3⟩:∃x,rows.flatten[i]?=some x:=⟨_,List.getElem?_eq_getElem (by rw[h4.length,←hfl];exact(List.getElem?_eq_some_iff.1 e1).1)⟩
    exact ih i x x' e3 e1 (h4.get e3 e2)
 | @gro k b cap sz rows rows' hM hl hw hc ih=>
   intro v r
   cases r
   obtain⟨_,h1,⟨g1,g2,g3⟩,T,vs,h2,h3,h4,h5⟩:=hj.1 k b _ hM
   rw[←hl]
   have hfl:rows'.flatten.length=(vs.toList.take (rows.length * sz)).length:=by rw[←h4.length,flatten_length g3,flatten_length hw,hl]
   refine .sl rows' b 0 cap sz (vs.toList.take (rows.length * sz)) (by rw[hl];exact g1) g2 hw hfl (fun i v e=>?_) fun i x' v e1 e2=>?_
   ·rw[Nat.zero_add]
    exact hfz_le hj _ _ (h5 i v e)
   ·obtain⟨x,e3⟩:∃x,rows.flatten[i]?=some x:=⟨_,List.getElem?_eq_getElem (by rw[h4.length,←hfl];exact(List.getElem?_eq_some_iff.1 e1).1)⟩
    exact ih i x x' e3 e1 (h4.get e3 e2)
theorem Fz.repC{c:Ctx}{w:World}(hj:HeapJ M c.h c.Y w){x x':X}(hf:Fz M x x'){v:Value}(r:RepC c x v):RepD (hfz M c.h w) x' v:=by
 cases hf with
 |same _ hx=>exact(D_of r hx).mono (hfz_le hj)
 |nils=>have h:v=.slice none 0 0:=r;subst h;exact .sl0 none 0 (Nat.zero_le _)
 |nil=>have h:v=.slice none 0 0:=r;subst h;exact .sl0 none 0 (Nat.zero_le _)
 |row hM hl hw hc=>exact(Fz.row hM hl hw hc).repD hj (RepD.of_raw r rfl)
 |gro hM hl hw hc=>exact(Fz.gro hM hl hw hc).repD hj (RepD.of_raw r rfl)
def FzV(M:HM K):X→X→Prop
 |.agg xs,y=>∃ys,y=.agg ys∧All2 (Fz M) xs ys
 |x,y=>Fz M x y
theorem FzV.rep{c c':Ctx}{w:World}(hc:c'.h=hfz M c.h w)(hj:HeapJ M c.h c.Y w){x x':X}(hf:FzV M x x'){v:Value}(r:RepT c x v):RepT c' x' v:=by
 have h1:∀{x x':X}{v:Value},Fz M x x'→RepC c x v→RepT c' x' v:=fun hf r=>RepD.toT (c:=c') (by rw[hc];exact hf.repC hj r)
 cases x with
 |agg xs=>
  obtain⟨ys,rfl,h2⟩:=hf
  obtain⟨vs,rfl,h3⟩:=r
  refine⟨vs,rfl,?_⟩
  have h4:∀{xs ys:List X}{vs:List Value},All2 (Fz M) xs ys→All2 (RepC c) xs vs→All2 (RepC c') ys vs:=by
   intro xs
   induction xs with
   |nil=>intro ys vs h5 h6;rw[h5.nil_left,h6.nil_left];trivial
   |cons x xs ih=>
    intro ys vs h5 h6
    obtain⟨y,ys',rfl,h7,h8⟩:=h5.cons_left
    obtain⟨v,vs',rfl,h9,h10⟩:=h6.cons_left
    exact⟨RepD.toC (by rw[hc];exact h7.repC hj h9),ih h8 h10⟩
  exact h4 h2 h3
 |tup xs=>cases hf;rename_i h;cases h
 |_=>exact h1 hf r
end
section
variable{E:Env}{U:List Nat}{s:St}{code:Code}{Q:Exit→List Nat→St→Prop}{K:Type}{M:HM K}
theorem Good.hfreeze{a:Act}{w:World}(L:List (Nat×X))(hl3:look s 3000=some (.res (HeapJ M)))(hL:∀p∈L,p.1<1000∧∃x,look s p.1=some x∧FzV M x p.2)(hg:Good E U s a w):Good E U (L++(3000,.any)::s) a w:=by
 obtain⟨c,hb,hh⟩:=hg
 have hj:=(res_of (hh _ _ hl3)).2
 have hp:PostJ c.h c.Y w (hfz M c.h w) c.Y w:=by
  refine⟨BelX.refl _ _ _,hfz_le hj,fun p v e=>?_,fun p v e=>?_,fun b hy=>(hb.Y b hy).1,fun _ hy _=>hy⟩
  ·rcases hfz_in e with h1|⟨⟨k,sz,cap,rows,h1⟩,_⟩
   ·exact .inl h1
   ·exact .inr (.inr (hj.1 k _ _ h1).1)
  ·rcases hfz_in e with h1|⟨_,h1⟩
   ·exact hb.hw p v h1
   ·exact h1
 refine⟨_,hb.turn hp,fun key x hx=>?_⟩
 have hext:Ext c ⟨hfz M c.h w,c.loc,c.arr,c.Y⟩:=⟨hp.le,fun _ _ e=>e,fun _ m hv lv e=>⟨m,hv,lv,e,Nat.le_refl _,fun _=>rfl⟩⟩
 rw[look_append]at hx
 cases hk:look L key with
 |some y=>
  rw[hk]at hx
  cases hx
  obtain⟨h1,x0,h2,h3⟩:=hL _ (look_mem hk)
  have h4:=hh _ _ h2
  unfold Holds at h4⊢
  rw[if_pos h1]at h4⊢
  exact h3.rep (c':=⟨hfz M c.h w,c.loc,c.arr,c.Y⟩) rfl hj h4
 |none=>
  rw[hk]at hx
  simp only[Option.or,look]at hx
  split at hx
  ·rename_i e
   have:=Nat.eq_of_beq_eq_true e
   cases hx
   subst this
   unfold Holds
   rw[if_neg (by omega)]
   exact .inl rfl
  ·rename_i hk3
   have h0:=hh key x hx
   by_cases h1:key<1000
   ·unfold Holds at h0⊢
    rw[if_pos h1]at h0⊢
    exact h0.mono hext
   ·exact Holds.turn hb hp h1 (fun e=>hk3 (by rw[e];exact Nat.beq_refl _)) h0
theorem OK.hfreeze(L:List (Nat×X))(hl3:look s 3000=some (.res (HeapJ M)))(hL:∀p∈L,p.1<1000∧∃x,look s p.1=some x∧FzV M x p.2)(h:OK E code Q U (L++(3000,.any)::s)):OK E code Q U s:=fun a w hg=>h a w (hg.hfreeze L hl3 hL)
end
end Go.Ab
