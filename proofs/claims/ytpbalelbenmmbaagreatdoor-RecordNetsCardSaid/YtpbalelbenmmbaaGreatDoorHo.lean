import Derived.Test.YtpbalelbenmmbaaGreatDoorHj
namespace Go.Ab
open Go.RowKit
section
variable{E:Env}{U:List Nat}{c c2 c3:Ctx}{a:Act}{w w':World}{fs:List Nat}{t:St}
structure BacksF(E:Env)(c c3:Ctx)(w w':World)(fs:List Nat)(t:St):Prop where
 dis:∀k∈fs,hasA t k=false
 hask:∀k∈fs,hasB t k=true∨hasA t k=true
 held:∀k∈fs,(hasB t k=true→∃b,c.loc k=some b)∧(hasA t k=true→∃x,c.arr k=some x)
 below:BelX w.heap.size ((c.lend fs t).out fs) w w'
 le:Mem.le c.h c3.h
 new:∀p v,c3.h p=some v→c.h p=some v∨w.heap.size≤p.block∨(c.lend fs t).out fs p.block
 ok:CtxOk fs c3 w'
 old:∀b,c3.out fs b→b<w.heap.size→(c.lend fs t).out fs b
 ext:Ext (c.lend fs t) c3
theorem BacksF.keep(hB:BacksF E c c3 w w' fs t){b:Nat}(h:¬(c.lend fs t).out fs b)(hlt:b<w.heap.size):w'.heap[b]?=w.heap[b]?:=hB.below.block b hlt h
theorem BacksF.ext'(hB:BacksF E c c3 w w' fs t):Ext c (c.back c3 fs t):=by
 refine⟨hB.le,fun k b e=>?_,fun k m hv lv e=>?_⟩
 ·simp only[Ctx.back]
  split
  ·rename_i h
   rw[Bool.and_eq_true]at h
   exact hB.ext.loc k b ((lend_loc_of (List.contains_iff_mem.1 h.1) h.2).trans e)
  ·exact e
 ·simp only[Ctx.back]
  split
  ·rename_i h
   rw[Bool.and_eq_true]at h
   exact hB.ext.arr k m hv lv ((lend_arr_of (List.contains_iff_mem.1 h.1) h.2).trans e)
  ·exact⟨m,hv,lv,e,Nat.le_refl _,fun _=>rfl⟩
theorem Base.backF(hb:Base E U c a w)(hB:BacksF E c c3 w w' fs t):Base E U (c.back c3 fs t) a w':=by
 have hs:=hB.below.size
 have o3:∀k b,c3.loc k=some b→c3.out fs b:=fun k b e=>.inr (.inl ⟨k,(hB.ok.loc k b e).1,e⟩)
 have a3:∀k m hv b,c3.arr k=some (m,hv,true)→hv.ownBlock=some b→c3.out fs b:=fun k m hv b e e2=>.inr (.inr ⟨k,m,hv,(hB.ok.arr k m hv b e e2).1,e,e2⟩)
 have hnone:∀b o,b<w.heap.size→¬(c.lend fs t).out fs b→c.h ⟨b,o,none⟩=none→c3.h ⟨b,o,none⟩=none:=by
  intro b o hlt hno hn
  cases hh:c3.h ⟨b,o,none⟩with
  |none=>rfl
  |some v=>
   rcases hB.new _ _ hh with h|h|h
   ·rw[hn]at h;cases h
   ·simp only at h;omega
   ·exact absurd h hno
 have hlo:∀b,(c.lend fs t).out fs b→E.B≤b∨E.X b:=by
  rintro b (h|⟨k,_,h⟩|⟨k,m,hv,_,h,h2⟩)
  ·exact h.elim
  ·rcases(hb.loc k b (lend_loc h).2.2).1 with h|h
   ·exact .inl h
   ·exact .inr h.2
  ·rcases(hb.arr k m hv b (lend_arr h).2.2 h2).1 with h|h
   ·exact .inl h
   ·exact .inr h.2
 have hcl:∀k b,k∈fs→hasB t k=true→c3.loc k=some b→c.loc k=some b:=by
  intro k b h1 h2 h3
  obtain⟨b',hb'⟩:=(hB.held k h1).1 h2
  have e:=hB.ext.loc k b' ((lend_loc_of h1 h2).trans hb')
  rw[h3]at e
  cases e
  exact hb'
 have hall:∀b,b<w.heap.size→(c.back c3 fs t).all b→c.all b:=by
  intro b hlt h
  rcases h with h|⟨k,h⟩|⟨k,m,hv,h,h2⟩
  ·exact .inl h
  ·rcases back_loc h with⟨_,_,h⟩|⟨_,h⟩
   ·exact lend_all (hB.old b (o3 k b h) hlt)
   ·exact .inr (.inl ⟨k,h⟩)
  ·rcases back_arr h with⟨_,_,h⟩|⟨_,h⟩
   ·exact lend_all (hB.old b (a3 k m hv b h h2) hlt)
   ·exact .inr (.inr ⟨k,m,hv,h,h2⟩)
 have hkeep:∀(D:Nat)(o:Obj),¬c.all D→w.heap[D]?=some o→w'.heap[D]?=some o:=fun D o h1 h2=>(hB.keep (fun h=>h1 (lend_all h)) (Array.getElem?_eq_some_iff.1 h2).1).trans h2
 refine⟨hb.below.trans ⟨hB.below.os,hB.below.tape,hB.below.output,hs,fun k hk hX=>hB.below.block k (Nat.lt_of_lt_of_le hk hb.hB) fun h=>?_⟩,Nat.le_trans hb.hB hs,hb.nt,⟨hb.dfr.1,fun d hd=>?_⟩,fun p hp=>?_,hB.ok.hw,Mem.le_trans hb.hle hB.le,fun p v hp=>?_,?_,?_,fun k hk=>?_,fun b hy=>?_,fun k b hk e=>?_,fun k m hv lv hk e=>?_⟩
 ·rcases hlo k h with h|h
  ·omega
  ·exact hX h
 ·obtain⟨D,h1,h2,h3,h4⟩:=hb.dfr.2 d hd
  exact⟨D,h1,h2,fun e=>h3 (hall D (Array.getElem?_eq_some_iff.1 h4).1 e),hkeep D _ h3 h4⟩
 ·obtain⟨h1,h2,h3⟩:=hb.pin p hp
  exact⟨fun e=>h1 (hall _ (Array.getElem?_eq_some_iff.1 h3).1 e),h2,hkeep _ _ h1 h3⟩
 ·rcases hB.new p v hp with h|h|h
  ·exact hb.hnew p v h
  ·exact .inr (.inl (Nat.le_trans hb.hB h))
  ·exact .inr (hlo _ h)
 ·intro k b hk
  rcases back_loc hk with⟨h1,h2,h3⟩|⟨h1,h3⟩
  ·obtain⟨_,q2,q3,q4,q5⟩:=hB.ok.loc k b h3
   refine⟨(hb.loc k b (hcl k b h1 h2 h3)).1,q2,q3,fun k' hk'=>?_,fun k' m hv hk' e=>?_⟩
   ·rcases back_loc hk' with⟨_,_,h⟩|⟨hn,h⟩
    ·exact q4 k' h
    ·exact absurd (hB.old b (o3 k b h3) (hb.loc k' b h).2.1) (hb.not_lent_loc h hn)
   ·rcases back_arr hk' with⟨_,_,h⟩|⟨hn,h⟩
    ·exact q5 k' m hv h e
    ·exact absurd (hB.old b (o3 k b h3) (hb.arr k' m hv b h e).2.1) (hb.not_lent_arr h e hn)
  ·obtain⟨q1,q2,q3,q4,q5⟩:=hb.loc k b h3
   refine⟨q1,Nat.lt_of_lt_of_le q2 hs,fun o=>hnone b o q2 (hb.not_lent_loc h3 h1) (q3 o),fun k' hk'=>?_,fun k' m hv hk' e=>?_⟩
   ·rcases back_loc hk' with⟨_,_,h⟩|⟨_,h⟩
    ·exact absurd (hB.old b (o3 k' b h) q2) (hb.not_lent_loc h3 h1)
    ·exact q4 k' h
   ·rcases back_arr hk' with⟨_,_,h⟩|⟨_,h⟩
    ·exact absurd (hB.old b (a3 k' m hv b h e) q2) (hb.not_lent_loc h3 h1)
    ·exact q5 k' m hv h e
 ·intro k m hv b hk hbk
  rcases back_arr hk with⟨h1,h2,h3⟩|⟨h1,h3⟩
  ·obtain⟨_,q2,q3,q4⟩:=hB.ok.arr k m hv b h3 hbk
   refine⟨absurd h2 (by rw[hB.dis k h1];decide),q2,q3,fun k' m' hv' hk' e=>?_⟩
   rcases back_arr hk' with⟨_,_,h⟩|⟨hn,h⟩
   ·exact q4 k' m' hv' h e
   ·exact absurd (hB.old b (a3 k m hv b h3 hbk) (hb.arr k' m' hv' b h e).2.1) (hb.not_lent_arr h e hn)
  ·obtain⟨q1,q2,q3,q4⟩:=hb.arr k m hv b h3 hbk
   refine⟨q1,Nat.lt_of_lt_of_le q2 hs,fun o=>hnone b o q2 (hb.not_lent_arr h3 hbk h1) (q3 o),fun k' m' hv' hk' e=>?_⟩
   rcases back_arr hk' with⟨_,_,h⟩|⟨_,h⟩
   ·exact absurd (hB.old b (a3 k' m' hv' b h e) q2) (hb.not_lent_arr h3 hbk h1)
   ·exact q4 k' m' hv' h e
 ·obtain⟨u1,u2⟩:=hb.used k hk
  constructor
  ·cases e:(c.back c3 fs t).loc k with
   |none=>rfl
   |some b=>
    rcases back_loc e with⟨h1,h2,_⟩|⟨_,h⟩
    ·obtain⟨b',hb'⟩:=(hB.held k h1).1 h2
     rw[u1]at hb';cases hb'
    ·rw[u1]at h;cases h
  ·cases e:(c.back c3 fs t).arr k with
   |none=>rfl
   |some x=>
    rcases back_arr e with⟨h1,h2,_⟩|⟨_,h⟩
    ·obtain⟨b',hb'⟩:=(hB.held k h1).2 h2
     rw[u2]at hb';cases hb'
    ·rw[u2]at h;cases h
 ·obtain⟨h1,h2,h3,h4⟩:=hb.Y b hy
  refine⟨Nat.lt_of_lt_of_le h1 hs,h2,fun k hk=>?_,fun k m hv hk e=>?_⟩
  ·rcases back_loc hk with⟨_,_,h⟩|⟨_,h⟩
   ·exact hb.not_lent_Y hy (hB.old b (o3 k b h) h1)
   ·exact h3 k h
  ·rcases back_arr hk with⟨_,_,h⟩|⟨_,h⟩
   ·exact hb.not_lent_Y hy (hB.old b (a3 k m hv b h e) h1)
   ·exact h4 k m hv h e
 ·rcases back_loc e with⟨h1,h2,h3⟩|⟨_,h⟩
  ·exact hb.loc0 k b hk (hcl k b h1 h2 h3)
  ·exact hb.loc0 k b hk h
 ·rcases back_arr e with⟨h1,h2,_⟩|⟨_,h⟩
  ·exact absurd h2 (by rw[hB.dis k h1];decide)
  ·exact hb.arr0 k m hv lv hk h
theorem Holds.backF(hb:Base E U c a w)(hB:BacksF E c c3 w w' fs t){key:Nat}{x:X}(hk:¬key<1000)(hn:∀k∈fs,(hasB t k=true→key≠1000+k)∧(hasA t k=true→key≠2000+k))(h:Holds c a w key x):Holds (c.back c3 fs t) a w' key x:=by
 have hext:=hB.ext'
 unfold Holds at *
 rw[if_neg hk]at h⊢
 refine or_snd h fun h=>?_
 split at h
 ·rename_i h2
  rw[if_pos h2]
  obtain⟨b,o,h1,h3,h4⟩:=h
  have hnl:=hb.not_lent_loc (fs:=fs) (t:=t) h1 fun q=>(hn _ q.1).1 q.2 (by omega)
  exact⟨b,o,hext.loc _ _ h1,(hB.keep hnl (hb.loc _ _ h1).2.1).trans h3,h4.mono hext⟩
 ·rename_i h2
  rw[if_neg h2]
  split at h
  ·rename_i h6
   rw[if_pos h6]
   obtain⟨sz,rows,hv,e,vs,hx,h1,h3,h4⟩:=h
   have hq:¬(key - 2000∈fs∧hasA t (key - 2000)=true):=fun q=>(hn _ q.1).2 q.2 (by omega)
   refine⟨sz,rows,hv,e,vs,hx.mono hext,?_,⟨h3.1,h3.2.imp id ?_⟩,h4⟩
   ·simp only[Ctx.back]
    rw[if_neg fun q=>hq (by rw[Bool.and_eq_true]at q;exact⟨List.contains_iff_mem.1 q.1,q.2⟩)]
    exact h1
   ·rintro⟨g,cap,cur,f1,f2,f3,r⟩
    exact⟨g,cap,cur,f1,f2,(hB.keep (hb.not_lent_arr h1 (by rw[f1];rfl) hq) (Array.getElem?_eq_some_iff.1 f3).1).trans f3,r⟩
  ·rename_i h6
   rw[if_neg h6]
   obtain⟨hk0,J,hx0,hJ,hJ2⟩:=h
   refine⟨hk0,J,hx0.mono hext.loc,hJ,hJ _ _ _ _ _ hJ2 hB.le (fun p v e=>(hB.new p v e).imp id fun h hy=>h.elim (fun h=>by have:=(hb.Y _ hy).1;omega) fun h=>hb.not_lent_Y hy h) hB.ok.hw ⟨hB.below.os,hB.below.tape,hB.below.output,hB.below.size,fun j hj=>by omega⟩ fun b hy=>hB.keep (hb.not_lent_Y hy) (hb.Y b hy).1⟩
end
section
variable{E:Env}{all:Array Oper}{s r r1 r2 r3 rg:St}{d ty:Nat}{pos:String}{after:Array Edge}{guard:Option (Nat×Bool)}{x y z:Operand}
theorem S.callGF{g:Nat}{fs:List Nat}{os:List Operand}{at_:Array TypeId}{ys:List X}{res:X}{t t':St}(hf:CtG E.P g fs ys t t' res)
  (hcall:∀args w,(callFunc g args).run E.P w=.ok (.enter g args) w) (hg:Gd all s guard rg) (hd:(Nat.blt d 1000&&Nat.blt d E.nt)=true) (ha:OpsS s os ys r) (ho:ys.all (fun y=>lendV fs t y&&!isTup y)=true)
  (hl:Looks s t) (ht:t.all (lendKey fs t)=true) (ht2:t'.all (lendKey fs t)=true) (hcov:cover fs t t'=true) (hhas:fs.all (fun k=>hasB t k||hasA t k)=true) (hdis:fs.all (fun k=>!hasA t k)=true) (hres:lendT fs t res=true):
  St1 E all ⟨some d,.call {callee:=.value (.func g),args:=os.toArray,argTypes:=at_},ty,pos,after,guard⟩ s (rg++(r++t)) ((d,res)::t') []:=by
 simp only[Bool.and_eq_true,Nat.blt_eq]at hd
 refine⟨?_,hg.looks.app (ha.looks.app hl)⟩
 intro U c a w hb hr _ next Q hn
 have hw:=hg.wanted (o:=⟨some d,.call {callee:=.value (.func g),args:=os.toArray,argTypes:=at_},ty,pos,after,guard⟩) (fun p hp=>hr p (List.mem_append_left _ hp))
 have hargs:=args_lend (fs:=fs) (t:=t) (ha.rep (c:=c) (a:=a) (w:=w) fun p hp=>hr p (by simp[hp])) ho
 unfold opIn
 rw[if_pos hw]
 refine⟨fun _ _=>trivial,?_⟩
 rw[Oper.semAt_eq _ _ _ fun cl he=>by cases he]
 have hfo:a.eval (.func g)=.func (.func g) #[] #[]:=rfl
 have hrun:(execOp a.eval ⟨some d,.call {callee:=.value (.func g),args:=os.toArray,argTypes:=at_},ty,pos,after,guard⟩).run E.P w=.ok (.enter g (os.map a.eval).toArray) w:=by
  simp[execOp,resolve,hfo,Deferred.ofValue,invoke,hcall]
 rw[hrun]
 refine⟨(fun h=>by cases h),?_⟩
 have hholds:∀p∈t,Holds c a w p.1 p.2:=fun p hp=>hr p (by simp[hp])
 have hc0:=hf (c.lend fs t) w (os.map a.eval) (lend_ctx hb) (fun p hp a'=>(hholds p hp).lend (List.all_eq_true.1 ht p hp)) hargs
 have h1:CallsIn E.F (0 - 1) E.P g (os.map a.eval).toArray w _:=(callsIn_wide (n:=0)).2 hc0
 refine h1.mono ?_
 rintro en w' ⟨u,c3,rfl,hpg⟩
 have hext0:Ext (c.lend fs t) c3:=by
  refine⟨hpg.le,fun k b e=>?_,fun k m hv lv e=>?_⟩
  ·obtain⟨hk,hhb,_⟩:=lend_loc e
   obtain⟨h1,h2,_⟩:=cover_of hcov hk
   obtain⟨x0,hx0,hm⟩:=hasB_mem (h2 hhb)
   obtain⟨b',q1⟩:=boxes_of (hpg.wr _ hm {tmps:=#[],defers:=[]}) hx0 h1
   have:=hpg.loc k b' q1
   rw[e]at this
   cases this
   exact q1
  ·obtain⟨hk,hha,_⟩:=lend_arr e
   obtain⟨h1,_,h2⟩:=cover_of hcov hk
   obtain⟨x0,hx0,hm⟩:=hasA_mem (h2 hha)
   obtain⟨⟨_,_,_⟩,q1⟩:=arrs_of (hpg.wr _ hm {tmps:=#[],defers:=[]}) hx0
   obtain⟨m0,hv0,lv0,q2,q3,q4⟩:=hpg.arr k _ _ _ q1
   rw[e]at q2
   cases q2
   exact⟨_,_,_,q1,q3,q4⟩
 have hB:BacksF E c c3 w w' fs t:=by
  refine⟨fun k hk=>?_,fun k hk=>?_,fun k hk=>⟨fun h=>?_,fun h=>?_⟩,hpg.below,hpg.le,fun p v hp=>hpg.new p v hp,hpg.ok,hpg.out,hext0⟩
  ·have:=List.all_eq_true.1 hdis k hk;simpa using this
  ·have:=List.all_eq_true.1 hhas k hk;simpa using this
  ·obtain⟨x0,hx0,hm⟩:=hasB_mem h
   exact boxes_of (hholds _ hm) hx0 (cover_of hcov hk).1
  ·obtain⟨x0,hx0,hm⟩:=hasA_mem h
   exact arrs_of (hholds _ hm) hx0
 have hext:=hB.ext'
 have hdt:d<a.tmps.size:=by rw[hb.nt];exact hd.2
 have tk:∀p∈t',1000≤p.1:=by
  intro p hp
  have h:=List.all_eq_true.1 ht2 p hp
  obtain⟨key,y⟩:=p
  unfold lendKey at h
  cases y
  case box cells=>simp only[Bool.and_eq_true,Nat.ble_eq]at h;exact h.1.1.1.1
  case arr sz rows=>simp only[Bool.and_eq_true,Nat.ble_eq]at h;show 1000≤key;have:=h.1.1.1;omega
  case omap es=>simp only[Bool.and_eq_true,Nat.ble_eq]at h;exact h.1.1.1
  case arrn sz pre mid post=>simp only[Bool.and_eq_true,Nat.ble_eq]at h;show 1000≤key;have:=h.1.1.1.1;omega
  all_goals cases h
 refine hn (c.back c3 fs t) _ w' ((hb.backF hB).put _ _) hext ?_ ?_
 ·intro p hp
  rcases List.mem_cons.1 hp with rfl|hp
  ·unfold Holds
   rw[if_pos hd.1,getD_put hdt]
   exact hpg.res.back hres
  ·have h:=Holds.fromLent (c:=c) (a':=a) (hpg.wr p hp a) (List.all_eq_true.1 ht2 p hp)
   exact h.put (by have:=tk p hp;omega) u
 ·intro key y hk2 hy
  have hne:d≠key:=hk2 (d,res) (by simp)
  by_cases h1:key<1000
  ·refine Holds.put ?_ hne u
   unfold Holds at hy⊢
   rw[if_pos h1]at hy⊢
   exact hy.mono hext
  ·refine(Holds.backF hb hB h1 (fun k hk3=>⟨fun h e=>?_,fun h e=>?_⟩) hy).put hne u
   ·obtain⟨x0,_,hm⟩:=hasB_mem ((cover_of hcov hk3).2.1 h)
    exact hk2 _ (List.mem_cons_of_mem _ hm) e.symm
   ·obtain⟨x0,_,hm⟩:=hasA_mem ((cover_of hcov hk3).2.2 h)
    exact hk2 _ (List.mem_cons_of_mem _ hm) e.symm
theorem S.callGTF{g:Nat}{fs:List Nat}{os:List Operand}{at_:Array TypeId}{ys:List X}{res:X}{t t':St}(hf:CtGT E.P g fs ys t t' res)(hT:TabOk E)
  (hcall:∀args w,(callFunc g args).run E.P w=.ok (.enter g args) w) (hg:Gd all s guard rg) (hd:(Nat.blt d 1000&&Nat.blt d E.nt)=true) (ha:OpsS s os ys r) (ho:ys.all (fun y=>lendV fs t y&&!isTup y)=true)
  (hl:Looks s t) (ht:t.all (lendKey fs t)=true) (ht2:t'.all (lendKey fs t)=true) (hcov:cover fs t t'=true) (hhas:fs.all (fun k=>hasB t k||hasA t k)=true) (hdis:fs.all (fun k=>!hasA t k)=true) (hres:lendT fs t res=true):
  St1 E all ⟨some d,.call {callee:=.value (.func g),args:=os.toArray,argTypes:=at_},ty,pos,after,guard⟩ s (rg++(r++t)) ((d,res)::t') []:=by
 simp only[Bool.and_eq_true,Nat.blt_eq]at hd
 refine⟨?_,hg.looks.app (ha.looks.app hl)⟩
 intro U c a w hb hr _ next Q hn
 have hw:=hg.wanted (o:=⟨some d,.call {callee:=.value (.func g),args:=os.toArray,argTypes:=at_},ty,pos,after,guard⟩) (fun p hp=>hr p (List.mem_append_left _ hp))
 have hargs:=args_lend (fs:=fs) (t:=t) (ha.rep (c:=c) (a:=a) (w:=w) fun p hp=>hr p (by simp[hp])) ho
 unfold opIn
 rw[if_pos hw]
 refine⟨fun _ _=>trivial,?_⟩
 rw[Oper.semAt_eq _ _ _ fun cl he=>by cases he]
 have hfo:a.eval (.func g)=.func (.func g) #[] #[]:=rfl
 have hrun:(execOp a.eval ⟨some d,.call {callee:=.value (.func g),args:=os.toArray,argTypes:=at_},ty,pos,after,guard⟩).run E.P w=.ok (.enter g (os.map a.eval).toArray) w:=by
  simp[execOp,resolve,hfo,Deferred.ofValue,invoke,hcall]
 rw[hrun]
 refine⟨(fun h=>by cases h),?_⟩
 have hholds:∀p∈t,Holds c a w p.1 p.2:=fun p hp=>hr p (by simp[hp])
 have hto:TabOut E.P ((c.lend fs t).out fs):=fun n hn' g' hg' hX=>hT.out n hn' g' hg' (by
  have hlt:=hT.tab.lt n hn' g' hg'
  rcases hX with hX|⟨k,_,hX⟩|⟨k,m,hv,_,hX,hX2⟩
  ·exact hX.elim
  ·rcases(hb.loc k g' (lend_loc hX).2.2).1 with h|h
   ·exact absurd h (Nat.not_le.2 hlt)
   ·exact h.2
  ·rcases(hb.arr k m hv g' (lend_arr hX).2.2 hX2).1 with h|h
   ·exact absurd h (Nat.not_le.2 hlt)
   ·exact h.2)
 have hc0:=hf (c.lend fs t) w (os.map a.eval) (hT.now hb) hto (lend_ctx hb) (fun p hp a'=>(hholds p hp).lend (List.all_eq_true.1 ht p hp)) hargs
 have h1:CallsIn E.F (0 - 1) E.P g (os.map a.eval).toArray w _:=(callsIn_wide (n:=0)).2 hc0
 refine h1.mono ?_
 rintro en w' ⟨u,c3,rfl,hpg⟩
 have hext0:Ext (c.lend fs t) c3:=by
  refine⟨hpg.le,fun k b e=>?_,fun k m hv lv e=>?_⟩
  ·obtain⟨hk,hhb,_⟩:=lend_loc e
   obtain⟨h1,h2,_⟩:=cover_of hcov hk
   obtain⟨x0,hx0,hm⟩:=hasB_mem (h2 hhb)
   obtain⟨b',q1⟩:=boxes_of (hpg.wr _ hm {tmps:=#[],defers:=[]}) hx0 h1
   have:=hpg.loc k b' q1
   rw[e]at this
   cases this
   exact q1
  ·obtain⟨hk,hha,_⟩:=lend_arr e
   obtain⟨h1,_,h2⟩:=cover_of hcov hk
   obtain⟨x0,hx0,hm⟩:=hasA_mem (h2 hha)
   obtain⟨⟨_,_,_⟩,q1⟩:=arrs_of (hpg.wr _ hm {tmps:=#[],defers:=[]}) hx0
   obtain⟨m0,hv0,lv0,q2,q3,q4⟩:=hpg.arr k _ _ _ q1
   rw[e]at q2
   cases q2
   exact⟨_,_,_,q1,q3,q4⟩
 have hB:BacksF E c c3 w w' fs t:=by
  refine⟨fun k hk=>?_,fun k hk=>?_,fun k hk=>⟨fun h=>?_,fun h=>?_⟩,hpg.below,hpg.le,fun p v hp=>hpg.new p v hp,hpg.ok,hpg.out,hext0⟩
  ·have:=List.all_eq_true.1 hdis k hk;simpa using this
  ·have:=List.all_eq_true.1 hhas k hk;simpa using this
  ·obtain⟨x0,hx0,hm⟩:=hasB_mem h
   exact boxes_of (hholds _ hm) hx0 (cover_of hcov hk).1
  ·obtain⟨x0,hx0,hm⟩:=hasA_mem h
   exact arrs_of (hholds _ hm) hx0
 have hext:=hB.ext'
 have hdt:d<a.tmps.size:=by rw[hb.nt];exact hd.2
 have tk:∀p∈t',1000≤p.1:=by
  intro p hp
  have h:=List.all_eq_true.1 ht2 p hp
  obtain⟨key,y⟩:=p
  unfold lendKey at h
  cases y
  case box cells=>simp only[Bool.and_eq_true,Nat.ble_eq]at h;exact h.1.1.1.1
  case arr sz rows=>simp only[Bool.and_eq_true,Nat.ble_eq]at h;show 1000≤key;have:=h.1.1.1;omega
  case omap es=>simp only[Bool.and_eq_true,Nat.ble_eq]at h;exact h.1.1.1
  case arrn sz pre mid post=>simp only[Bool.and_eq_true,Nat.ble_eq]at h;show 1000≤key;have:=h.1.1.1.1;omega
  all_goals cases h
 refine hn (c.back c3 fs t) _ w' ((hb.backF hB).put _ _) hext ?_ ?_
 ·intro p hp
  rcases List.mem_cons.1 hp with rfl|hp
  ·unfold Holds
   rw[if_pos hd.1,getD_put hdt]
   exact hpg.res.back hres
  ·have h:=Holds.fromLent (c:=c) (a':=a) (hpg.wr p hp a) (List.all_eq_true.1 ht2 p hp)
   exact h.put (by have:=tk p hp;omega) u
 ·intro key y hk2 hy
  have hne:d≠key:=hk2 (d,res) (by simp)
  by_cases h1:key<1000
  ·refine Holds.put ?_ hne u
   unfold Holds at hy⊢
   rw[if_pos h1]at hy⊢
   exact hy.mono hext
  ·refine(Holds.backF hb hB h1 (fun k hk3=>⟨fun h e=>?_,fun h e=>?_⟩) hy).put hne u
   ·obtain⟨x0,_,hm⟩:=hasB_mem ((cover_of hcov hk3).2.1 h)
    exact hk2 _ (List.mem_cons_of_mem _ hm) e.symm
   ·obtain⟨x0,_,hm⟩:=hasA_mem ((cover_of hcov hk3).2.2 h)
    exact hk2 _ (List.mem_cons_of_mem _ hm) e.symm
end
end Go.Ab
namespace Go.Ab
open Go.RowKit
abbrev rawF(f:Nat):X:=.raw (.func (.func f) #[] #[])
theorem rawF_of{c:Ctx}{f:Nat}{v:Value}(h:RepC c (.fn f []) v):RepC c (rawF f) v:=by
 obtain⟨vs,rfl,h2⟩:=h
 have:=h2.nil_left
 subst this
 rfl
section
variable{E:Env}{all:Array Oper}{s r r1 r2 r3 rg:St}{d ty:Nat}{pos:String}{after:Array Edge}{guard:Option (Nat×Bool)}{x y z:Operand}
theorem S.callRaw{f:Nat}{os:List Operand}{at_:Array TypeId}{ys:List X}{res:X}(hf:Ct E.P f ys res)(hcall:∀args w,(callFunc f args).run E.P w=.ok (.enter f args) w)(hg:Gd all s guard rg)(hd:(Nat.blt d 1000&&Nat.blt d E.nt)=true)
  (hx:OpS s x (rawF f) r1) (ha:OpsS s os ys r) (ho:ys.all okArg=true):
  St1 E all ⟨some d,.call {callee:=.value x,args:=os.toArray,argTypes:=at_},ty,pos,after,guard⟩ s (rg++(r1++r)) [(d,res)] []:=
 step_call (caps:=[]) hg hd (hx.looks.app ha.looks) hcall (by simpa using hf.at) fun c a w hr=>⟨args_clean (ha.rep fun p hp=>hr p (List.mem_append_right _ hp)) ho,[],hx.rep (c:=c) (a:=a) (w:=w) fun p hp=>hr p (List.mem_append_left _ hp),trivial⟩
theorem Good.boxTo{U:List Nat}{a:Act}{w:World}{b:Nat}{cells cells':List X}(hg:Good E U s a w)(hb:look s (1000+b)=some (.box cells))(hb2:Nat.blt b 1000=true)(hc:∀(c:Ctx)(vs:List Value),All2 (RepC c) cells vs→All2 (RepC c) cells' vs):
  Good E U ((1000+b,.box cells')::s) a w:=by
 obtain⟨c,hbs,hh⟩:=hg
 rw[Nat.blt_eq]at hb2
 refine⟨c,hbs,fun key y hy=>?_⟩
 simp only[look]at hy
 split at hy
 ·rename_i h
  have:=Nat.eq_of_beq_eq_true h
  cases hy
  subst this
  obtain⟨b',T',vs,h2,h3,h4⟩:=box_of (hh _ _ hb) hb2
  exact(Holds.mkBox hb2 h2 h3 (hc c _ h4)).2
 ·exact hh key y hy
theorem OK.boxTo{U:List Nat}{code:Code}{Q:Exit→List Nat→St→Prop}(b:Nat){cells:List X}(cells':List X)(hb:look s (1000+b)=some (.box cells))(hb2:Nat.blt b 1000=true)(hc:∀(c:Ctx)(vs:List Value),All2 (RepC c) cells vs→All2 (RepC c) cells' vs)
 (h:OK E code Q U ((1000+b,.box cells')::s)):OK E code Q U s:=fun a w hg=>h a w (hg.boxTo hb hb2 hc)
theorem fld_to{f:Nat}{x y:X}:∀(c:Ctx)(vs:List Value),All2 (RepC c) [.fn f [],x,y] vs→All2 (RepC c) [rawF f,x,y] vs
 |_,[],h=>h.elim
 |_,[_],h=>h.2.elim
 |_,[_,_],h=>h.2.2.elim
 |_,[_,_,_],h=>⟨rawF_of h.1,h.2.1,h.2.2.1,trivial⟩
 |_,_::_::_::_::_,h=>h.2.2.2.elim
end
end Go.Ab
namespace Go.Ab
open Go.RowKit
section
variable{E:Env}{all:Array Oper}{s r r1 r2 r3 rg:St}{d ty:Nat}{pos:String}{after:Array Edge}{guard:Option (Nat×Bool)}{x y z:Operand}
theorem S.mkSliceD{t e sz bytes k:Nat}{us row:List X}(hA:ApI E.P t e sz bytes)(hg:Gd all s guard rg)(hd:(Nat.blt d 1000&&Nat.blt d E.nt)=true)
  (hx:OpS s x (.agg us) r) (hu:okSt (.agg us)=true) (hf:fillX (fun i=>some (i * sz,sz)) (List.replicate (1 * sz) .any) [(0,.agg us)]=some us) (hrow:CellsN us row) (hr:Nat.beq us.length sz=true) (hbig:Nat.ble (1 * sz) 16777216=true) (hk9:E.fs.contains k=false:=by rfl) (hk1:Nat.blt k 1000=true:=by rfl):
  St1 E all ⟨some d,.buildSlice t 1 #[(0,x)],ty,pos,after,guard⟩ s (rg++r) ((d,.own k 1)::[(2000+k,.arr sz [row])]) [k]:=
 St1.mk hg hd rfl hx.looks fun U c a w hb hrr hal=>by
  rw[Nat.ble_eq]at hbig
  rw[Nat.blt_eq]at hk1
  have hkU:k∉U:=hal k (by simp)
  have hlen:=Nat.eq_of_beq_eq_true hr
  obtain⟨hsz,zv,hz,hzs⟩:=hA.run
  have hxr:=hx.rep (c:=c) (a:=a) (w:=w) hrr
  have hbase:∀(q:Array Value),q.size=1 * sz→All2 (RepC c) (List.replicate (1 * sz) .any) q.toList:=fun q hq=>All2.of_get (by simp[hq]) fun i u v hu _=>by
   simp only[List.getElem?_replicate]at hu
   split at hu
   ·cases hu;exact trivial
   ·cases hu
  obtain⟨cells,h1,h2⟩:=fill_rep (c:=c) (fun i=>some (i * sz,sz)) [(0,.agg us)] [(0,a.eval x)] _ (((Array.range (1 * sz)).map fun i=>(if 1 * sz=0 then #[]else zv.cells)[i % (if 1 * sz=0 then #[]else zv.cells).size]!)) us (hbase _ (by simp)) ⟨⟨rfl,(cells_of hxr hu).1⟩,trivial⟩ hf
  have hcs:cells.size=1 * sz:=by have:=h2.length;rw[hlen]at this;simpa using this.symm
  have hB:=below_alloc w (.cells cells e)
  obtain⟨g1,g2,g3,g4⟩:=hb.ownNew (nfs hk9) hkU (n:=1) (v:=.slice (some ⟨w.heap.size,0,none⟩) 1 1) hB (.inr ⟨rfl,by simp⟩)
  have hp:=hA.pos
  have hrl:row.length=sz:=by have:=hrow.length;omega
  refine⟨.slice (some ⟨w.heap.size,0,none⟩) 1 1,_,w.alloc (.cells cells e),?_,g1,g2,⟨⟨_,_,_,rfl⟩,1,_,_,g3,Nat.le_refl _,fun _=>rfl⟩,?_,fun key u hkey _ hu=>g4 key u hkey hu⟩
  ·have hnb:¬(1 * sz>2 ^ 24):=by omega
   simp only[execOp,Instr.buildSlice,Sem.run_bind,run_underlying hA.und,Result.andThen_ok,hsz,hnb,if_false]
   have h0:¬(1 * sz=0):=by omega
   simp only[h0,if_false]at h1
   have h0':¬sz=0:=by omega
   simp at h1
   simp[hz,h0',h1,newRow]
  ·intro p hp2
   simp only[List.mem_singleton]at hp2
   subst hp2
   refine Holds.mkArr (e:=e) (vs:=cells.toList) (by omega) g3 ⟨by simp[hcs],.inr ⟨w.heap.size,1,cells,rfl,Nat.zero_le _,heap_alloc_new w _,Nat.le_refl _,by unfold maxLen;omega,hcs,?_⟩⟩ ?_ ?_
   ·show cells.toList.take (1 * sz)=_
    rw[List.take_of_length_le (by simp[hcs])]
   ·intro q hq
    simp only[List.mem_singleton]at hq
    subst hq
    exact hrl
   ·have:=hrow.rep (h2.mono fun _ _=>RepC.mono g2)
    simpa using this
end
end Go.Ab
