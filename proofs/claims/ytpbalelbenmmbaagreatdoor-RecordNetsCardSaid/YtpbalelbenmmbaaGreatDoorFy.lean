import Derived.MapKept
import Derived.Test.YtpbalelbenmmbaaGreatDoorFx
namespace Go.Ab
open Go.RowKit
theorem res_of{c:Ctx}{a:Act}{w:World}{J:Mem→(Nat→Prop)→World→Prop}(h:Holds c a w 3000 (.res J)):Stable J∧J c.h c.Y w:=by
 unfold Holds at h
 rw[if_neg (by omega),if_neg (by omega),if_neg (by omega)]at h
 rcases h with h|⟨_,J',e,h1,h2⟩
 ·cases h
 ·have e':J=J':=e
  subst e'
  exact⟨h1,h2⟩
theorem Holds.mkRes{c:Ctx}{a:Act}{w:World}{J:Mem→(Nat→Prop)→World→Prop}(h1:Stable J)(h2:J c.h c.Y w):Holds c a w 3000 (.res J):=by
 unfold Holds
 rw[if_neg (by omega),if_neg (by omega),if_neg (by omega)]
 exact .inr ⟨rfl,J,rfl,h1,h2⟩
theorem adr_spot{w:World}{p:Addr}{v:Value}(h:w.cell? p=some v):p=⟨p.block,p.off,none⟩:=by
 have hsp:p.spot=none:=by
  cases hsp:p.spot with
  |none=>rfl
  |some q=>simp only[World.cell?,hsp]at h;split at h<;>simp at h
 cases p;simp at hsp;subst hsp;rfl
section
variable{E:Env}{all:Array Oper}{s r r1 r2 r3 rg:St}{d ty:Nat}{pos:String}{after:Array Edge}{guard:Option (Nat×Bool)}{x y z:Operand}
theorem S.rnil{v:Value}{ad:Addr}(hg:Gd all s guard rg)(hd:(Nat.blt d 1000&&Nat.blt d E.nt)=true)(hx:OpS s x (.raw v) r)(hv:v=.pointer (some ad)):
  St1 E all ⟨some d,.nilCheck x,ty,pos,after,guard⟩ s (rg++r) [(d,.raw (.pointer (some ad)))] []:=
 St1.val hg hd rfl hx.looks fun c A w _ hr=>by
  have h0:A.eval x=v:=hx.rep (c:=c) (a:=A) (w:=w) hr
  subst hv
  exact⟨_,by simp only[execOp,h0];rfl,rfl⟩
theorem S.rfield{T f o b off:Nat}(hf:FiI E.P T f o)(hg:Gd all s guard rg)(hd:(Nat.blt d 1000&&Nat.blt d E.nt)=true)(hx:OpS s x (.raw (.pointer (some ⟨b,off,none⟩))) r):
  St1 E all ⟨some d,.fieldAddr T x f,ty,pos,after,guard⟩ s (rg++r) [(d,.raw (.pointer (some ⟨b,off+o,none⟩)))] []:=
 St1.val hg hd rfl hx.looks fun c A w _ hr=>by
  have h0:A.eval x=.pointer (some ⟨b,off,none⟩):=hx.rep (c:=c) (a:=A) (w:=w) hr
  refine⟨_,?_,rfl⟩
  simp only[execOp,h0]
  rw[Sem.run_bind,run_fieldAt hf]
  rfl
theorem S.rload1{T tsz b o:Nat}{u:X}{J:Mem→(Nat→Prop)→World→Prop}(ht:TyI E.P T false tsz)(hg:Gd all s guard rg)(hd:(Nat.blt d 1000&&Nat.blt d E.nt)=true)(hx:OpS s x (.raw (.pointer (some ⟨b,o,none⟩))) r)(hl:look s 3000=some (.res J))
  (hv:∀h Y w,J h Y w→∃v,w.cell? ⟨b,o,none⟩=some v∧RepT (pureC h) u v):St1 E all ⟨some d,.load T x,ty,pos,after,guard⟩ s (rg++(r++[(3000,.res J)])) [(d,u)] []:=
 St1.val hg hd rfl (hx.looks.app ⟨hl,trivial⟩) fun c A w _ hr=>by
  have h0:A.eval x=.pointer (some ⟨b,o,none⟩):=hx.rep (c:=c) (a:=A) (w:=w) fun p hp=>hr p (by simp[hp])
  obtain⟨v,h1,h2⟩:=hv _ _ _ (res_of (hr (3000,.res J) (by simp))).2
  refine⟨v,?_,h2.mono (pure_ext rfl)⟩
  simp only[execOp,h0]
  rw[Sem.run_bind,run_load1 ht h1]
  rfl
theorem S.rloadN{T n b o:Nat}{us:List X}{J:Mem→(Nat→Prop)→World→Prop}(ht:TyI E.P T true n)(hg:Gd all s guard rg)(hd:(Nat.blt d 1000&&Nat.blt d E.nt)=true)(hx:OpS s x (.raw (.pointer (some ⟨b,o,none⟩))) r)(hl:look s 3000=some (.res J))
  (hv:∀h Y w,J h Y w→∃vs:List Value,vs.length=n∧(∀(i:Nat)(v:Value),vs[i]?=some v→w.cell? ⟨b,o+i,none⟩=some v)∧All2 (RepC (pureC h)) us vs):St1 E all ⟨some d,.load T x,ty,pos,after,guard⟩ s (rg++(r++[(3000,.res J)])) [(d,.agg us)] []:=
 St1.val hg hd rfl (hx.looks.app ⟨hl,trivial⟩) fun c A w _ hr=>by
  have h0:A.eval x=.pointer (some ⟨b,o,none⟩):=hx.rep (c:=c) (a:=A) (w:=w) fun p hp=>hr p (by simp[hp])
  obtain⟨vs,h1,h2,h3⟩:=hv _ _ _ (res_of (hr (3000,.res J) (by simp))).2
  refine⟨.agg vs.toArray,?_,vs,rfl,h3.mono fun _ _=>RepC.mono (pure_ext rfl)⟩
  simp only[execOp,h0]
  rw[Sem.run_bind,run_loadN ht h1 h2]
  rfl
theorem St1.res{op:Op}{J:Mem→(Nat→Prop)→World→Prop}{xr:X}(hg:Gd all s guard rg)(hdef:isDefer op=false)(hl:Looks s r)(hl3:look s 3000=some (.res J))
  (h:∀(U:List Nat)(c:Ctx)(a:Act)(w:World),Base E U c a w→(∀p∈r,Holds c a w p.1 p.2)→J c.h c.Y w→∃w',(execOp a.eval ⟨none,op,ty,pos,after,guard⟩).run E.P w=.ok .skip w'∧PostJ c.h c.Y w c.h c.Y w'∧Holds c a w' 3000 xr):
  St1 E all ⟨none,op,ty,pos,after,guard⟩ s (rg++(r++[(3000,.res J)])) [(3000,xr)] []:=by
 refine⟨?_,hg.looks.app (hl.app ⟨hl3,trivial⟩)⟩
 intro U c a w hb hr hal next Q hnx
 have hw:=hg.wanted (o:=⟨none,op,ty,pos,after,guard⟩) (fun p hp=>hr p (List.mem_append_left _ hp))
 obtain⟨w',hrun,hp,hx⟩:=h U c a w hb (fun p hp=>hr p (by simp[hp])) (res_of (hr (3000,.res J) (by simp))).2
 unfold opIn
 rw[if_pos hw]
 refine⟨fun _ _=>trivial,?_⟩
 rw[Oper.semAt_eq _ _ _ (fun cl he=>by simp only at he;rw[he]at hdef;cases hdef),hrun]
 refine hnx c a w' (hb.turn hp) (Ext.refl c) (fun p hp=>?_) fun key u hk hu=>?_
 ·simp only[List.mem_singleton]at hp
  subst hp
  exact hx
 ·have hne:3000≠key:=hk (3000,xr) (by simp)
  by_cases h1:key<1000
  ·unfold Holds at hu⊢;rw[if_pos h1]at hu⊢;exact hu
  ·exact Holds.turn hb hp h1 (fun e=>hne e.symm) hu
theorem post_set{c:Ctx}{U:List Nat}{a:Act}{w w':World}{b:Nat}(hb:Base E U c a w)(hY:c.Y b)(hn:∀o,c.h ⟨b,o,none⟩=none)(hos:w'.os=w.os)(htp:w'.tape=w.tape)(hout:w'.output=w.output)(hsz:w'.heap.size=w.heap.size)(ho:∀j,j≠b→w'.heap[j]?=w.heap[j]?):PostJ c.h c.Y w c.h c.Y w':=by
 refine⟨⟨hos,htp,hout,by omega,fun j _ hy=>ho j fun e=>hy (e▸hY)⟩,Mem.le_refl _,fun _ _ e=>.inl e,fun p v hp=>?_,fun j hy=>by have:=(hb.Y j hy).1;omega,fun j hy _=>hy⟩
 have h1:=hb.hw p v hp
 have hne:p.block≠b:=fun e=>by
  have h2:=adr_spot h1
  have h3:=hn p.off
  rw[←e,←h2,hp]at h3;cases h3
 rw[World.cell?_of_block (ho _ hne)]
 exact h1
theorem S.lookup{t kt e rb:Nat}{n:Int}{vp:Value}{ok:Bool}{J:Mem→(Nat→Prop)→World→Prop}(ht:E.P.underlying t=some (.map kt e))(hk:E.P.underlying kt=some (.int .i64))(hz:∀w,(zeroValue e).run E.P w=.ok (.pointer none) w)(hg:Gd all s guard rg)(hd:(Nat.blt d 1000&&Nat.blt d E.nt)=true)
  (hx:OpS s x (.raw (.map (some rb))) r1) (hy:OpS s y (.int .i64 n) r2) (hl:look s 3000=some (.res J))
  (hJ:∀h Y w,J h Y w→∃es clock,w.heap[rb]?=some (.map es clock)∧((ok=true∧∃i,Instr.findNow (.int .i64) (.int .i64 n) es.toList 0=some (some (i,vp)))∨(ok=false∧vp=.pointer none∧Instr.findNow (.int .i64) (.int .i64 n) es.toList 0=some none))):
  St1 E all ⟨some d,.lookup t x y true,ty,pos,after,guard⟩ s (rg++(r1++(r2++[(3000,.res J)]))) [(d,.tup [.raw vp,.bool ok])] []:=
 St1.val hg hd rfl (hx.looks.app (hy.looks.app ⟨hl,trivial⟩)) fun c A w _ hr=>by
  have h0:A.eval x=.map (some rb):=hx.rep (c:=c) (a:=A) (w:=w) fun p hp=>hr p (by simp[hp])
  obtain⟨h1,_⟩:=int_of (hy.rep (c:=c) (a:=A) (w:=w) fun p hp=>hr p (by simp[hp]))
  obtain⟨es,clock,h2,h3⟩:=hJ _ _ _ (res_of (hr (3000,.res J) (by simp))).2
  have hkey:MapKept.IsKey (.int .i64) (.int .i64 n):=rfl
  refine⟨.tuple #[vp,.bool ok],?_,[vp,.bool ok],rfl,rfl,RepD.bool ok,trivial⟩
  rcases h3 with⟨rfl,i,h3⟩|⟨rfl,rfl,h3⟩
  ·simp[execOp,h0,h1,Instr.lookup,run_underlying ht,MapKept.run_getObj_map h2,MapKept.run_checkKey hk hkey,MapKept.run_findKey hk h3]
  ·simp[execOp,h0,h1,Instr.lookup,run_underlying ht,MapKept.run_getObj_map h2,MapKept.run_checkKey hk hkey,MapKept.run_findKey hk h3,hz]
theorem RK.makeMap{l:List Oper}{U:List Nat}{Q:Exit→List Nat→St→Prop}{t:Nat}(hd:(Nat.blt d 1000&&Nat.blt d E.nt)=true)
  (h:∀rb,RK E all l U ((d,.raw (.map (some rb)))::(3000,.res fun h Y w=>Y rb∧(∀o,h ⟨rb,o,none⟩=none)∧w.heap[rb]?=some (.map #[] 0))::s) Q):RK E all (⟨some d,.makeMap t none,ty,pos,after,none⟩::l) U s Q:=by
 simp only[Bool.and_eq_true,Nat.blt_eq]at hd
 intro k hk a w hg
 rw[List.length_cons,List.range'_succ,wpOpsIn_cons]
 refine opIn_wpOpIn (by simpa using hk 0) ?_
 obtain⟨c,hb,hh⟩:=hg
 have hw:Region.wanted (⟨some d,.makeMap t none,ty,pos,after,none⟩:Oper) (yielded all a.tmps)=true:=rfl
 unfold opIn
 rw[if_pos hw]
 refine⟨fun _ _=>trivial,?_⟩
 rw[Oper.semAt_eq _ _ _ fun cl he=>by cases he]
 have hrun:(execOp a.eval ⟨some d,.makeMap t none,ty,pos,after,none⟩).run E.P w=.ok (.value (.map (some w.heap.size))) (w.alloc (.map #[] 0)):=rfl
 rw[hrun]
 have hB:=below_alloc w (.map #[] 0)
 have hnone:∀o,c.h ⟨w.heap.size,o,none⟩=none:=fun o=>by
  cases hh:c.h ⟨w.heap.size,o,none⟩with
  |none=>rfl
  |some v=>have:=block_lt_of_cell (hb.hw _ _ hh);simp at this
 have hp:PostJ c.h c.Y w c.h (fun b=>c.Y b∨b=w.heap.size) (w.alloc (.map #[] 0)):=by
  refine⟨⟨hB.os,hB.tape,hB.output,hB.size,fun k hk _=>hB.block k hk⟩,Mem.le_refl _,fun _ _ e=>.inl e,fun p v e=>?_,fun b hy=>?_,fun b hy hlt=>?_⟩
  ·have h1:=hb.hw p v e
   rw[hB.cell (block_lt_of_cell h1)];exact h1
  ·have hs:(w.alloc (.map #[] 0)).heap.size=w.heap.size+1:=by show(w.heap.push _).size=_;rw[Array.size_push]
   rcases hy with hy|rfl
   ·have:=(hb.Y b hy).1;omega
   ·omega
  ·rcases hy with hy|rfl
   ·exact hy
   ·omega
 have hdt:d<a.tmps.size:=by rw[hb.nt];exact hd.2
 refine h w.heap.size (k+1) (fun j=>?_) _ _ ⟨⟨c.h,c.loc,c.arr,fun b=>c.Y b∨b=w.heap.size⟩,(hb.turn hp).put _ _,fun key u hu=>?_⟩
 ·have:=hk (j+1)
  simp only[List.getElem?_cons_succ]at this
  rw[←this]
  congr 1
  omega
 ·have hext:Ext c ⟨c.h,c.loc,c.arr,fun b=>c.Y b∨b=w.heap.size⟩:=⟨Mem.le_refl _,fun _ _ e=>e,fun _ m hv lv e=>⟨m,hv,lv,e,Nat.le_refl _,fun _=>rfl⟩⟩
  simp only[look]at hu
  split at hu
  ·rename_i e
   have:=Nat.eq_of_beq_eq_true e
   cases hu
   subst this
   unfold Holds
   rw[if_pos hd.1,getD_put hdt]
   rfl
  ·rename_i hne
   have hne':d≠key:=fun e=>hne (by rw[e];exact Nat.beq_refl _)
   split at hu
   ·rename_i e
    have:=Nat.eq_of_beq_eq_true e
    cases hu
    subst this
    refine Holds.mkRes ?_ ⟨.inr rfl,hnone,heap_alloc_new w _⟩
    intro h h' Y w w' ⟨q1,q2,q3⟩ hle hnew hw' hB2 hX
    refine⟨q1,fun o=>?_,(hX _ q1).trans q3⟩
    cases hh:h' ⟨_,o,none⟩with
    |none=>rfl
    |some v=>
     rcases hnew _ _ hh with h5|h5
     ·rw[q2 o]at h5;cases h5
     ·exact absurd q1 h5
   ·rename_i hne3
    have hne3':key≠3000:=fun e=>hne3 (by rw[e];exact Nat.beq_refl _)
    have h0:=hh key u hu
    by_cases h1:key<1000
    ·refine Holds.put ?_ hne' _
     unfold Holds at h0⊢
     rw[if_pos h1]at h0⊢
     exact h0.mono hext
    ·exact(Holds.turn hb hp h1 hne3' h0).put hne' _
end
section
variable{E:Env}{U:List Nat}{s:St}{a:Act}{w:World}{c:Ctx}
theorem Base.addY(hb:Base E U c a w){b:Nat}(h1:b<w.heap.size)(h2:b<E.B→E.X b)(h3:∀k,c.loc k≠some b)(h4:∀k m hv,c.arr k=some (m,hv,true)→hv.ownBlock≠some b)(h5:∀o,c.h ⟨b,o,none⟩=none)(h6:∃o:Obj,w.heap[b]?=some o∧o.isCells=true):
  Base E U ⟨c.h,c.loc,c.arr,fun x=>c.Y x∨x=b⟩ a w:=by
 have hall:∀D,(Ctx.mk c.h c.loc c.arr fun x=>c.Y x∨x=b).all D→c.all D∨D=b:=by
  intro D h
  rcases h with(h|h)|h|h
  ·exact .inl (.inl h)
  ·exact .inr h
  ·exact .inl (.inr (.inl h))
  ·exact .inl (.inr (.inr h))
 have hnc:∀(D:Nat)(o:Obj),w.heap[D]?=some o→o.isCells=false→D≠b:=by
  rintro D o q1 q2 rfl
  obtain⟨o',q3,q4⟩:=h6
  rw[q1]at q3;cases q3;rw[q2]at q4;cases q4
 refine⟨hb.below,hb.hB,hb.nt,⟨hb.dfr.1,fun d hd=>?_⟩,fun p hp=>?_,hb.hw,hb.hle,fun p v hp=>?_,hb.loc,hb.arr,hb.used,fun x hy=>?_,hb.loc0,hb.arr0⟩
 ·obtain⟨D,q1,q2,q3,q4⟩:=hb.dfr.2 d hd
  exact⟨D,q1,q2,fun e=>(hall D e).elim q3 (hnc D _ q4 rfl),q4⟩
 ·obtain⟨q1,q2,q3⟩:=hb.pin p hp
  exact⟨fun e=>(hall _ e).elim q1 (hnc _ _ q3 q2),q2,q3⟩
 ·exact hb.hnew p v hp
 ·rcases hy with hy|rfl
  ·exact hb.Y x hy
  ·exact⟨h1,h2,h3,h4⟩
theorem Holds.addY{b key:Nat}{x:X}(hne:key≠3000)(h:Holds c a w key x):Holds ⟨c.h,c.loc,c.arr,fun x=>c.Y x∨x=b⟩ a w key x:=by
 have hext:Ext c ⟨c.h,c.loc,c.arr,fun x=>c.Y x∨x=b⟩:=⟨Mem.le_refl _,fun _ _ e=>e,fun _ m hv lv e=>⟨m,hv,lv,e,Nat.le_refl _,fun _=>rfl⟩⟩
 unfold Holds at *
 split at h
 ·rename_i h1;rw[if_pos h1];exact h.mono hext
 ·rename_i h1
  rw[if_neg h1]
  refine or_snd h fun h=>?_
  split at h
  ·rename_i h2
   rw[if_pos h2]
   obtain⟨b,o,q1,q3,q4⟩:=h
   exact⟨b,o,q1,q3,q4.mono hext⟩
  ·rename_i h2
   rw[if_neg h2]
   split at h
   ·rename_i h6
    rw[if_pos h6]
    obtain⟨sz,rows,hv,e,vs,hx,q1,q3⟩:=h
    exact⟨sz,rows,hv,e,vs,hx.mono hext,q1,q3⟩
   ·exact absurd h.1 hne
theorem Good.give{U':List Nat}{s1:St}{t k:Nat}{cells:List X}(hg:Good E U s a w)(ht:look s t=some (.ptr k 0))(ht1:Nat.blt t 1000=true)(hb:look s (1000+k)=some (.box cells))(hk1:Nat.blt k 1000=true)(hk9:k∉E.fs)(hkU:U'.contains k=false)(hl:Le s s1)(ho:s1.all (okKey U')=true)(h3:s1.all (fun p=>!Nat.beq p.1 3000)=true)
  {R:Nat→Mem→(Nat→Prop)→World→Prop} (hR:∀c b,Base E U c a w→(∀key x,look s key=some x→Holds c a w key x)→c.loc k=some b→R b c.h c.Y w):
  ∃b,∀J:Mem→(Nat→Prop)→World→Prop,Stable J→(∀h Y T vs,R b h Y w→w.heap[b]?=some (.cells vs T (0,0))→(∃c:Ctx,c.h=h∧All2 (RepC c) cells vs.toList)→(∀o,h ⟨b,o,none⟩=none)→¬Y b→J h (fun x=>Y x∨x=b) w)→
   Good E U' ((t,.raw (.pointer (some ⟨b,0,none⟩)))::(3000,.res J)::s1) a w:=by
 obtain⟨c,hbs,hh⟩:=hg
 rw[Nat.blt_eq]at hk1
 obtain⟨b,hb1,hv⟩:=ptr_of ((hh _ _ ht).slot ht1)
 obtain⟨b',T,vs,hb2,hb3,hb4⟩:=box_of (hh _ _ hb) hk1
 rw[hb1]at hb2
 cases hb2
 obtain⟨q1,q2,q3,q4,q5⟩:=hbs.loc k b hb1
 have hr:=hR c b hbs hh hb1
 refine⟨b,fun J hS hJ=>?_⟩
 have hnY:¬c.Y b:=fun hy=>(hbs.Y b hy).2.2.1 k hb1
 have hj:J c.h (fun x=>c.Y x∨x=b) w:=by
  exact hJ c.h c.Y T vs hr hb3 ⟨c,rfl,hb4⟩ q3 hnY
 have hcut:=hbs.cut U'
 have hb':=hcut.addY (b:=b) q2 (fun hlt=>by rcases q1 with q1|q1;omega;exact q1.2) (fun j hj=>by
  have hcj:(c.cut U').loc j=some b:=hj
  simp only[Ctx.cut]at hcj
  split at hcj
  ·rename_i hc
   have:=q4 j hcj
   subst this
   rw[hkU]at hc;cases hc
  ·cases hcj) (fun j m hv' hj e=>by
  have hcj:(c.cut U').arr j=some (m,hv',true):=hj
  simp only[Ctx.cut]at hcj
  split at hcj
  ·exact q5 j m hv' hcj e
  ·cases hcj) q3 ⟨_,hb3,rfl⟩
 refine⟨_,hb',fun key x hx=>?_⟩
 simp only[look]at hx
 split at hx
 ·rename_i e
  have:=Nat.eq_of_beq_eq_true e
  cases hx
  subst this
  unfold Holds
  rw[if_pos (by simpa using ht1)]
  exact hv
 ·split at hx
  ·rename_i e
   have:=Nat.eq_of_beq_eq_true e
   cases hx
   subst this
   exact Holds.mkRes hS hj
  ·have hm:=look_mem hx
   have hne:key≠3000:=fun e=>by
    have:=List.all_eq_true.1 h3 _ hm
    rw[e]at this
    simp at this
   exact Holds.addY hne (Holds.cut (hh key x (hl.look key x hx)) (List.all_eq_true.1 ho _ hm))
theorem OK.giveR{code:Code}{Q:Exit→List Nat→St→Prop}{J0:Mem→(Nat→Prop)→World→Prop}{J:Nat→Mem→(Nat→Prop)→World→Prop}(U':List Nat)(s1:St)(t:Nat){k:Nat}{cells:List X}(hl3:look s 3000=some (.res J0))(ht:look s t=some (.ptr k 0))(ht1:Nat.blt t 1000=true)(hb:look s (1000+k)=some (.box cells))(hk1:Nat.blt k 1000=true)(hk9:E.fs.contains k=false)
  (hkU:U'.contains k=false) (hl:Le s s1) (ho:s1.all (okKey U')=true) (h3:s1.all (fun p=>!Nat.beq p.1 3000)=true) (hS:∀b,Stable (J b))
  (hJ:∀b h Y T vs w,J0 h Y w→w.heap[b]?=some (.cells vs T (0,0))→(∃c:Ctx,c.h=h∧All2 (RepC c) cells vs.toList)→(∀o,h ⟨b,o,none⟩=none)→¬Y b→J b h (fun x=>Y x∨x=b) w)
  (h:∀b,OK E code Q U' ((t,.raw (.pointer (some ⟨b,0,none⟩)))::(3000,.res (J b))::s1)):OK E code Q U s:=fun a w hg=>by
 obtain⟨b,hb'⟩:=hg.give (U':=U') (s1:=s1) (R:=fun _ h Y w=>J0 h Y w) ht ht1 hb hk1 (nfs hk9) hkU hl ho h3 fun c b _ hh _=>(res_of (hh _ _ hl3)).2
 exact h b a w (hb' (J b) (hS b) fun h Y T vs q1 q2 q3 q4 q5=>hJ b h Y T vs w q1 q2 q3 q4 q5)
theorem OK.resTo{code:Code}{Q:Exit→List Nat→St→Prop}{J J':Mem→(Nat→Prop)→World→Prop}(hl:look s 3000=some (.res J))(hS:Stable J')(hJ:∀h Y w,J h Y w→J' h Y w)(h:OK E code Q U ((3000,.res J')::s)):OK E code Q U s:=fun a w hg=>by
 obtain⟨c,hb,hh⟩:=hg
 refine h a w ⟨c,hb,fun key x hx=>?_⟩
 simp only[look]at hx
 split at hx
 ·rename_i e
  have:=Nat.eq_of_beq_eq_true e
  cases hx
  subst this
  exact Holds.mkRes hS (hJ _ _ _ (res_of (hh _ _ hl)).2)
 ·exact hh key x hx
end
end Go.Ab
namespace Go.Ab
open Go.RowKit
def CtX(P:Program)(f:Nat)(args:List X){ι:Type}(res:ι→X)(J:ι→Mem→(Nat→Prop)→World→Prop):Prop:=
 ∀(h:Mem)(w:World)(vs:List Value),(∀p v,h p=some v→w.cell? p=some v)→All2 (RepV (pureC h)) args vs→
  Calls P f vs.toArray w fun en w'=>∃q v h' Y',en=.returned v∧PostJ h (fun _=>False) w h' Y' w'∧RepT (pureC h') (res q) v∧J q h' Y' w'
def RetX(E:Env)(rs:List ResultVar){ι:Type}(res:ι→X)(J:ι→Mem→(Nat→Prop)→World→Prop):Exit→List Nat→St→Prop:=fun e U s=>∃q,RetQ E rs (res q) e U s∧look s 3000=some (.res (J q))
theorem CtX.intro{P:Program}{f nt:Nat}{fn:Func}{code:Code}{rs:List ResultVar}{args:List X}{ι:Type}{res:ι→X}{J:ι→Mem→(Nat→Prop)→World→Prop}(hf:P.funcs[f]?=some fn)(hb:fn.body=some code)(hn:fn.ntmps=nt)(hr:fn.results=rs.toArray)
  (hl:Nat.ble args.length nt=true) (ht:args.all (fun x=>!isTup x)=true) (hl2:Nat.ble args.length 1000=true)
  (h:∀w c,OK (mkE P nt [] w c) code (den (mkE P nt [] w c) (RetX (mkE P nt [] w c) rs res J) []) [] (argSt 0 args)):CtX P f args res J:=by
 intro h0 w vs hw hargs
 refine(callsIn_wide (n:=0)).1 (callsIn_of_wp_marks hf hb trivial ?_ rfl)
 have hlen:=hargs.length
 rw[Nat.ble_eq]at hl hl2
 have hno:∀b,¬(pureC h0).out [] b:=by
  rintro b (hy|⟨k,_,e⟩|⟨k,m,hv,_,e,_⟩)
  ·exact hy
  ·cases e
  ·cases e
 refine wpIn_mono (h w (pureC h0) {tmps:=vs.toArray++Array.replicate (fn.ntmps - vs.toArray.size) undef,defers:=[]} w ?_) ?_
 ·refine⟨pureC h0,⟨BelX.refl _ _ _,Nat.le_refl _,?_,⟨.nil,fun d hd=>by cases hd⟩,(fun p hp=>by cases hp),hw,Mem.le_refl _,fun p v e=>.inl e,(fun k b e=>by cases e),(fun k m hv b e=>by cases e),(fun _ _=>⟨rfl,rfl⟩),(fun b e=>e.elim),(fun k b _ e=>by cases e),(fun k m hv lv _ e=>by cases e)⟩,fun key x hx=>slots_start hargs ht hl2 key x hx⟩
  simp[hn];omega
 ·rintro e a' w' ⟨U',s',⟨c,hbase,hh⟩,q,⟨he,ys,hys,hres⟩,hl3⟩
  have hE:(mkE P nt [] w (pureC h0)).B=w.heap.size:=rfl
  have post:LeavesInM Fence.wide 0 P fn a'.tmps (fun en w'=>∃q v h' Y',en=.returned v∧PostJ h0 (fun _=>False) w h' Y' w'∧RepT (pureC h') (res q) v∧J q h' Y' w') a'.defers .returning w':=by
   refine leaves_marks (B:=w.heap.size) (Z:=c.all) a'.defers w' hbase.dfr.1 ?_ ?_
   ·intro d hd
    obtain⟨D,h1,h2,h3,h4⟩:=hbase.dfr.2 d hd
    exact⟨D,h1,h2,h3,h4⟩
   ·intro w2 e1 e2 e3 e4 e5 e6
    obtain⟨hbase,hh⟩:=hbase.calm hh e1 e2 e3 e4 rfl e5 e6
    obtain⟨vs',h1,h2,h3⟩:=run_resSems hbase hh hys
    have hrun:(results fn a'.tmps).run P w2=.ok (if h:vs'.toArray.size=1 then vs'.toArray[0]else .tuple vs'.toArray) w2:=by
     have he:results fn a'.tmps=(fn.results.mapM (resSem a'.tmps)>>=fun vs=>pure (if h:vs.size=1 then vs[0]else .tuple vs)):=by
      unfold results
      congr 1
     have h1':(rs.mapM (resSem a'.tmps)).run P w2=.ok vs' w2:=h1
     rw[he,hr,Array.mapM_eq_mapM_toList]
     simp[h1']
    have hpg:=PostG.of_base (s:=s') (wr:=[(3000,.res (J q))]) (res:=res q) (v:=if h:vs'.toArray.size=1 then vs'.toArray[0]else .tuple vs'.toArray) hbase hE hh ⟨hl3,trivial⟩ rfl (by
     rw[←hres]
     have hl:=h2.length
     match ys,vs',h2,h3,hl with
     |[y],[v],h2,h3,_=>exact V.toT h2.1 (h3 y (by simp))
     |[],[],h2,_,_=>exact⟨[],rfl,trivial⟩
     |y1::y2::ys,v1::v2::vs,h2,_,_=>exact⟨v1::v2::vs,by simp,h2⟩
     |[_],[],h2,_,_=>exact h2.elim
     |[],_::_,h2,_,_=>exact h2.elim
     |[_],_::_::_,h2,_,_=>exact h2.2.elim
     |_::_::_,[],h2,_,_=>exact h2.elim
     |_::_::_,[_],h2,_,_=>exact h2.2.elim) (fun b h=>h.elim id fun⟨p,hp,_⟩=>by cases hp)
    obtain⟨_,hJ1⟩:=res_of (hpg.wr (3000,.res (J q)) (by simp) {tmps:=#[],defers:=[]})
    refine⟨_,hrun,q,_,(c.pub [] ((mkE P nt [] w (pureC h0)).fin c w2)).h,(c.pub [] ((mkE P nt [] w (pureC h0)).fin c w2)).Y,rfl,⟨hpg.below.mono (Nat.le_refl _) fun k _ hk=>(hno k hk).elim,hpg.le,fun p v hp=>(hpg.new p v hp).imp id fun q=>q.imp id fun q=>(hno _ q).elim,hpg.ok.hw,fun b hy=>(hpg.ok.Y b hy).1,fun b hy hlt=>hno b (hpg.out b (.inl hy) hlt)⟩,?_,hJ1⟩
    refine hpg.res.mono ⟨Mem.le_refl _,fun k b e=>?_,fun k m hv lv e=>?_⟩
    ·have e2:=hpg.loc k b e;cases e2
    ·obtain⟨_,_,_,e2,_⟩:=hpg.arr k m hv lv e;cases e2
  rcases he with rfl|rfl
  ·exact post
  ·exact post
theorem OK.lit{E:Env}{U:List Nat}{s:St}{code:Code}{Q:Exit→List Nat→St→Prop}{t:Nat}{b b':Bool}(hl:look s t=some (.bool b))(hb:b=b')(h:OK E code Q U ((t,.bool b')::s)):OK E code Q U s:=fun a w hg=>by
 subst hb
 obtain⟨c,hbs,hh⟩:=hg
 refine h a w ⟨c,hbs,fun key x hx=>?_⟩
 simp only[look]at hx
 split at hx
 ·rename_i e
  have:=Nat.eq_of_beq_eq_true e
  cases hx
  subst this
  exact hh _ _ hl
 ·exact hh key x hx
end Go.Ab
namespace Go.Ab
open Go.RowKit
def lookL{α:Type}:List (List UInt8×α)→List UInt8→Option α
 |[],_=>none
 |p::l,k=>if p.1=k then some p.2 else lookL l k
def putL{α:Type}:List (List UInt8×α)→List UInt8→α→List (List UInt8×α)
 |[],k,v=>[(k,v)]
 |p::l,k,v=>if p.1=k then(k,v)::l else p::putL l k v
def mapX(l:List (List UInt8×X)):List (X×X):=l.map fun p=>(.str p.1,p.2)
abbrev MRel(h:Mem):X×X→MapEntry→Prop:=fun p m=>RepD h p.1 m.key∧RepV (pureC h) p.2 m.val
theorem str_key{h:Mem}{s:List UInt8}{v:Value}(r:RepD h (.str s) v):v=.string ⟨s.toArray⟩:=by cases r;rfl
theorem same_str(a b:List UInt8):Instr.sameNow .string (.string ⟨a.toArray⟩) (.string ⟨b.toArray⟩)=some (decide (b=a)):=by
 have h:((⟨a.toArray⟩:ByteArray)==⟨b.toArray⟩)=decide (b=a):=by
  rw[Bool.eq_iff_iff,MapKept.bytes_beq,decide_eq_true_iff]
  constructor
  ·intro e
   have:=congrArg (fun x:ByteArray=>x.data.toList) e
   simpa using this.symm
  ·rintro rfl;rfl
 simp only[Instr.sameNow,h]
theorem find_str{h:Mem}{k:List UInt8}:∀{l:List (List UInt8×X)}{es:List MapEntry}(i:Nat),All2 (MRel h) (mapX l) es→
  (lookL l k=none∧Instr.findNow .string (.string ⟨k.toArray⟩) es i=some none∧(∀m∈es,m.key≠.string ⟨k.toArray⟩)∧∀u,putL l k u=l++[(k,u)])∨
  ∃j u m,lookL l k=some u∧Instr.findNow .string (.string ⟨k.toArray⟩) es i=some (some (i+j,m.val))∧es[j]?=some m∧m.key=.string ⟨k.toArray⟩∧RepV (pureC h) u m.val∧l[j]?=some (k,u)∧∀u',putL l k u'=l.set j (k,u')
 |[],[],i,_=>.inl ⟨rfl,rfl,(fun m hm=>by cases hm),fun u=>rfl⟩
 |p::l,m::es,i,hr=>by
  obtain⟨⟨h1,h2⟩,h3⟩:=hr
  have hk:=str_key h1
  by_cases hp:p.1=k
  ·refine .inr ⟨0,p.2,m,by simp[lookL,hp],?_,rfl,by rw[hk,hp],h2,by rw[←hp];rfl,fun u'=>by simp[putL,hp]⟩
   rw[Instr.findNow,hk,same_str,decide_eq_true hp]
   rfl
  ·have hf:∀i,Instr.findNow .string (.string ⟨k.toArray⟩) (m::es) i=Instr.findNow .string (.string ⟨k.toArray⟩) es (i+1):=by
    intro i
    rw[Instr.findNow,hk,same_str,decide_eq_false hp]
   rcases find_str (k:=k) (i+1) h3 with⟨q1,q2,q3,q4⟩|⟨j,u,m',q1,q2,q3,q4,q5,q6,q7⟩
   ·refine .inl ⟨by simp[lookL,hp,q1],by rw[hf];exact q2,fun m' hm=>?_,fun u=>by simp[putL,hp,q4]⟩
    rcases List.mem_cons.1 hm with rfl|hm
    ·rw[hk]
     intro e
     have:=same_str k p.1
     rw[e]at this
     have h5:=same_str k k
     rw[decide_eq_true rfl]at h5
     rw[h5]at this
     simp at this
     exact hp this
    ·exact q3 m' hm
   ·refine .inr ⟨j+1,u,m',by simp[lookL,hp,q1],by rw[hf,q2];congr 3;omega,by simpa using q3,q4,q5,by simpa using q6,fun u'=>by simp[putL,hp,q7]⟩
 |[],_::_,_,h=>h.elim
 |_::_,[],_,h=>h.elim
section
variable{E:Env}{U:List Nat}{c:Ctx}{a:Act}{w w':World}
theorem Base.turnBox(hb:Base E U c a w){k b:Nat}(h1:c.loc k=some b)(e1:w'.os=w.os)(e2:w'.tape=w.tape)(e3:w'.output=w.output)(e4:w'.heap.size=w.heap.size)(e5:∀j,j≠b→w'.heap[j]?=w.heap[j]?):
  Base E U c a w'∧∀key y,¬key<1000→key≠1000+k→Holds c a w key y→Holds c a w' key y:=by
 obtain⟨q1,q2,q3,q4,q5⟩:=hb.loc k b h1
 have hall:c.all b:=.inr (.inl ⟨k,h1⟩)
 have hw2:∀p v,c.h p=some v→w'.cell? p=some v:=by
  intro p v hp
  have h0:=hb.hw p v hp
  have hne:p.block≠b:=fun e=>by
   have h2:=adr_spot h0
   have h3:=q3 p.off
   rw[←e,←h2,hp]at h3;cases h3
  rw[World.cell?_of_block (e5 _ hne)]
  exact h0
 refine⟨⟨hb.below.trans ⟨e1,e2,e3,by omega,fun j hj hx=>e5 j (Env.ok_turn q1 hj hx)⟩,by rw[e4];exact hb.hB,hb.nt,⟨hb.dfr.1,fun d hd=>?_⟩,fun p hp=>?_,hw2,hb.hle,hb.hnew,?_,?_,hb.used,?_,hb.loc0,hb.arr0⟩,?_⟩
 ·obtain⟨D,h2,h3,h4,h5⟩:=hb.dfr.2 d hd
  exact⟨D,h2,h3,h4,(e5 D fun e=>h4 (by rw[e];exact hall)).trans h5⟩
 ·obtain⟨h2,h3,h4⟩:=hb.pin p hp
  exact⟨h2,h3,(e5 _ fun e=>h2 (by rw[e];exact hall)).trans h4⟩
 ·rw[e4];exact hb.loc
 ·rw[e4];exact hb.arr
 ·rw[e4];exact hb.Y
 ·intro key u hkey hne hu
  unfold Holds at hu⊢
  rw[if_neg hkey]at hu⊢
  refine or_snd hu fun hu=>?_
  split at hu
  ·rename_i hlt
   rw[if_pos hlt]
   obtain⟨b2,o2,f1,f2,f3⟩:=hu
   refine⟨b2,o2,f1,(e5 b2 fun e=>?_).trans f2,f3⟩
   subst e
   have:=q4 _ f1
   omega
  ·rename_i hlt
   rw[if_neg hlt]
   split at hu
   ·rename_i hlt2
    rw[if_pos hlt2]
    obtain⟨sz,rows,hv2,e,vs2,hx,f1,f2,f3⟩:=hu
    refine⟨sz,rows,hv2,e,vs2,hx,f1,⟨f2.1,f2.2.imp id ?_⟩,f3⟩
    rintro⟨g,cap,cur,p1,p2,p3,p4⟩
    exact⟨g,cap,cur,p1,p2,(e5 g fun e=>q5 _ _ _ f1 (by rw[p1,←e];rfl)).trans p3,p4⟩
   ·rename_i hlt2
    rw[if_neg hlt2]
    obtain⟨hk0,J,hx0,hJ,hJ2⟩:=hu
    exact⟨hk0,J,hx0,hJ,hJ _ _ _ _ _ hJ2 (Mem.le_refl _) (fun _ _ e=>.inl e) hw2 ⟨e1,e2,e3,by omega,fun j hj=>by omega⟩ fun b2 hy=>e5 b2 fun e=>by subst e;exact(hb.Y _ hy).2.2.1 k h1⟩
end
section
variable{E:Env}{all:Array Oper}{s r r1 r2 r3 rg:St}{d ty:Nat}{pos:String}{after:Array Edge}{guard:Option (Nat×Bool)}{x y z:Operand}
theorem omap_of{c:Ctx}{a:Act}{w:World}{k:Nat}{es:List (X×X)}(h:Holds c a w (1000+k) (.omap es))(hk:k<1000):
  ∃b mes clock,c.loc k=some b∧w.heap[b]?=some (.map mes clock)∧MapKept.Stamped mes clock∧All2 (MRel c.h) es mes.toList:=by
 unfold Holds at h
 rw[if_neg (by omega),if_pos (by omega),Nat.add_sub_cancel_left]at h
 rcases h with h|⟨b,o,h1,h2,mes,clock,rfl,h3,h4⟩
 ·cases h
 ·exact⟨b,mes,clock,h1,h2,h3,h4⟩
theorem Holds.mkMap{c:Ctx}{a:Act}{w:World}{k b clock:Nat}{mes:Array MapEntry}{es:List (X×X)}(hk:k<1000)(h1:c.loc k=some b)(h2:w.heap[b]?=some (.map mes clock))(h3:MapKept.Stamped mes clock)(h4:All2 (MRel c.h) es mes.toList):
  ¬(1000+k<1000)∧Holds c a w (1000+k) (.omap es):=by
 refine⟨by omega,?_⟩
 unfold Holds
 rw[if_neg (by omega),if_pos (by omega),Nat.add_sub_cancel_left]
 exact .inr ⟨b,_,h1,h2,mes,clock,rfl,h3,h4⟩
theorem mptr_of{c:Ctx}{k:Nat}{v:Value}(h:RepT c (.mptr k) v):∃b,c.loc k=some b∧v=.map (some b):=h
theorem S.makeMapO{t k:Nat}(hk:Nat.blt k 1000=true)(hg:Gd all s guard rg)(hd:(Nat.blt d 1000&&Nat.blt d E.nt)=true)(hk9:E.fs.contains k=false:=by rfl):
  St1 E all ⟨some d,.makeMap t none,ty,pos,after,guard⟩ s (rg++[]) ((d,.mptr k)::[(1000+k,.omap [])]) [k]:=
 St1.mk hg hd rfl trivial fun U c a w hb _ hal=>by
  rw[Nat.blt_eq]at hk
  have hkU:k∉U:=hal k (by simp)
  obtain⟨g1,g2,g3,g4,g5⟩:=hb.boxO (nfs hk9) hkU (.map #[] 0)
  refine⟨.map (some w.heap.size),_,w.alloc (.map #[] 0),rfl,g1,g2,⟨w.heap.size,g3,rfl⟩,?_,?_⟩
  ·intro p hp
   simp only[List.mem_singleton]at hp
   subst hp
   exact Holds.mkMap (by omega) g3 g4 (MapKept.stamped_empty 0) trivial
  ·intro key u hkey _ hu
   exact g5 key u hkey hu
theorem S.lookupO1{t kt e k:Nat}{key:List UInt8}{l:List (List UInt8×X)}{es:List (X×X)}{zv:Value}{zx:X}(ht:E.P.underlying t=some (.map kt e))(hk:E.P.underlying kt=some .string)(hz:∀w,(zeroValue e).run E.P w=.ok zv w)(hzx:∀c,RepV c zx zv)(hg:Gd all s guard rg)(hd:(Nat.blt d 1000&&Nat.blt d E.nt)=true)
  (hx:OpS s x (.mptr k) r1) (hy:OpS s y (.str key) r2) (hl:look s (1000+k)=some (.omap es)) (hes:es=mapX l) (hnt:isTup ((lookL l key).getD zx)=false) (hk1:Nat.blt k 1000=true:=by rfl):
  St1 E all ⟨some d,.lookup t x y false,ty,pos,after,guard⟩ s (rg++(r1++(r2++[(1000+k,.omap es)]))) [(d,(lookL l key).getD zx)] []:=
 St1.val hg hd rfl (hx.looks.app (hy.looks.app ⟨hl,trivial⟩)) fun c A w _ hr=>by
  subst hes
  rw[Nat.blt_eq]at hk1
  obtain⟨b,h1,h0⟩:=mptr_of (hx.rep (c:=c) (a:=A) (w:=w) fun p hp=>hr p (by simp[hp]))
  obtain⟨b',mes,clock,h2,h3,_,h4⟩:=omap_of (hr (1000+k,.omap (mapX l)) (by simp)) hk1
  rw[h1]at h2
  cases h2
  obtain⟨h5,_⟩:=str_of (hy.rep (c:=c) (a:=A) (w:=w) fun p hp=>hr p (by simp[hp]))
  have hkey:MapKept.IsKey .string (.string ⟨key.toArray⟩):=trivial
  rcases find_str (k:=key) 0 h4 with⟨q1,q2,_⟩|⟨j,u,m,q1,q2,_,_,q5,_⟩
  ·rw[q1]at hnt⊢
   refine⟨zv,?_,V.toT (hzx c) hnt⟩
   simp[execOp,h0,h5,Instr.lookup,run_underlying ht,MapKept.run_getObj_map h3,MapKept.run_checkKey hk hkey,MapKept.run_findKey hk q2,hz]
  ·rw[q1]at hnt⊢
   refine⟨m.val,?_,V.toT (q5.mono (pure_ext rfl)) hnt⟩
   simp[execOp,h0,h5,Instr.lookup,run_underlying ht,MapKept.run_getObj_map h3,MapKept.run_checkKey hk hkey,MapKept.run_findKey hk q2]
theorem map_put{h:Mem}{key:List UInt8}{u:X}{v:Value}{l:List (List UInt8×X)}{mes:Array MapEntry}{clock:Nat}(hs:MapKept.Stamped mes clock)(hr:All2 (MRel h) (mapX l) mes.toList)(hk:RepD h (.str key) (.string ⟨key.toArray⟩))(hv:RepV (pureC h) u v):
  (Instr.findNow .string (.string ⟨key.toArray⟩) mes.toList 0=some none∧MapKept.Stamped (mes.push ⟨.string ⟨key.toArray⟩,v,clock⟩) (clock+1)∧All2 (MRel h) (mapX (putL l key u)) (mes.push ⟨.string ⟨key.toArray⟩,v,clock⟩).toList)∨
  ∃j m,Instr.findNow .string (.string ⟨key.toArray⟩) mes.toList 0=some (some (j,m.val))∧mes[j]?=some m∧m.key=.string ⟨key.toArray⟩∧MapKept.Stamped (mes.modify j fun e=>{e with key:=.string ⟨key.toArray⟩,val:=v}) clock∧
   All2 (MRel h) (mapX (putL l key u)) (mes.modify j fun e=>{e with key:=.string ⟨key.toArray⟩,val:=v}).toList:=by
 rcases find_str (k:=key) 0 hr with⟨q1,q2,q3,q4⟩|⟨j,u0,m,q1,q2,q3,q4,q5,q6,q7⟩
 ·refine .inl ⟨q2,MapKept.stamped_push hs q3,?_⟩
  rw[q4,Array.toList_push]
  simp only[mapX,List.map_append,List.map_cons,List.map_nil]
  exact hr.append ⟨⟨hk,hv⟩,trivial⟩
 ·rw[Nat.zero_add]at q2
  have q3':mes[j]?=some m:=by simpa using q3
  refine .inr ⟨j,m,q2,q3',q4,MapKept.stamped_modify hs j _ (fun _ _=>rfl) (fun e _ he=>by rw[q3']at he;cases he;exact q4.symm),?_⟩
  rw[q7]
  have hlen:=hr.length
  refine All2.of_get (by simpa[mapX]using hlen) fun i p m' hp hm=>?_
  simp only[mapX,List.getElem?_map,List.getElem?_set]at hp
  rw[Array.getElem?_toList,Array.getElem?_modify]at hm
  by_cases hij:j=i
  ·subst hij
   rw[if_pos rfl,q3']at hm
   have hlt:j<l.length:=(List.getElem?_eq_some_iff.1 q6).1
   simp[hlt]at hp
   simp at hm
   subst hp
   subst hm
   exact⟨hk,hv⟩
  ·rw[if_neg hij]at hm
   rw[if_neg hij]at hp
   exact hr.get (i:=i) (by simpa[mapX]using hp) (by simpa using hm)
theorem S.mapSetO{t kt e k:Nat}{key:List UInt8}{u:X}{l:List (List UInt8×X)}{es es':List (X×X)}(ht:E.P.underlying t=some (.map kt e))(hk:E.P.underlying kt=some .string)(hg:Gd all s guard rg)
  (hx:OpS s x (.mptr k) r1) (hy:OpS s y (.str key) r2) (hz:OpS s z u r3) (hu:okArg u=true) (hl:look s (1000+k)=some (.omap es)) (hes:es=mapX l) (hes':mapX (putL l key u)=es') (hk1:Nat.blt k 1000=true:=by rfl):
  St1 E all ⟨none,.mapUpdate t x y z,ty,pos,after,guard⟩ s (rg++(r1++(r2++(r3++[(1000+k,.omap es)])))) [(1000+k,.omap es')] []:=
 St1.eff hg rfl (hx.looks.app (hy.looks.app (hz.looks.app ⟨hl,trivial⟩))) fun U c a w hb hr=>by
  subst hes
  subst hes'
  rw[Nat.blt_eq]at hk1
  obtain⟨b,h1,h0⟩:=mptr_of (hx.rep (c:=c) (a:=a) (w:=w) fun p hp=>hr p (by simp[hp]))
  obtain⟨b',mes,clock,h2,h3,hs,h4⟩:=omap_of (hr (1000+k,.omap (mapX l)) (by simp)) hk1
  rw[h1]at h2
  cases h2
  have hyr:=hy.rep (c:=c) (a:=a) (w:=w) fun p hp=>hr p (by simp[hp])
  obtain⟨h5,_⟩:=str_of hyr
  have hkD:RepD c.h (.str key) (.string ⟨key.toArray⟩):=h5▸hyr
  have hzr:=hz.rep (c:=c) (a:=a) (w:=w) fun p hp=>hr p (by simp[hp])
  have hv:RepV (pureC c.h) u (a.eval z):=(args_clean (ys:=[u]) (vs:=[a.eval z]) ⟨hzr,trivial⟩ (by simp[hu])).1
  have hkey:MapKept.IsKey .string (.string ⟨key.toArray⟩):=trivial
  rcases map_put hs h4 hkD hv with⟨q2,q3,q4⟩|⟨j,m,q2,q3,q5,q6,q7⟩
  ·obtain⟨p1,p2⟩:=hb.turnBox (w':={w with heap:=w.heap.setIfInBounds b (.map (mes.push ⟨.string ⟨key.toArray⟩,a.eval z,clock⟩) (clock+1))}) h1 rfl rfl rfl (by simp) fun j hj=>(MapKept.heap_set h3).2 j hj
   refine⟨_,?_,p1,?_,fun key' y hkey hne hy=>p2 key' y hkey (fun e=>hne _ (List.mem_singleton.2 rfl) e.symm) hy⟩
   ·simp[execOp,h0,h5,Instr.mapUpdate,run_underlying ht,MapKept.run_getObj_map h3,MapKept.run_checkKey hk hkey,MapKept.run_findKey hk q2,MapKept.run_setObj_map _ h3]
   ·intro p hp
    simp only[List.mem_singleton]at hp
    subst hp
    exact Holds.mkMap hk1 h1 (MapKept.heap_set h3).1 q3 q4
  ·obtain⟨p1,p2⟩:=hb.turnBox (w':={w with heap:=w.heap.setIfInBounds b (.map (mes.modify j fun e=>{e with key:=.string ⟨key.toArray⟩,val:=a.eval z}) clock)}) h1 rfl rfl rfl (by simp) fun j hj=>(MapKept.heap_set h3).2 j hj
   refine⟨_,?_,p1,?_,fun key' y hkey hne hy=>p2 key' y hkey (fun e=>hne _ (List.mem_singleton.2 rfl) e.symm) hy⟩
   ·simp[execOp,h0,h5,Instr.mapUpdate,run_underlying ht,MapKept.run_getObj_map h3,MapKept.run_checkKey hk hkey,MapKept.run_findKey hk q2,q3,q5,MapKept.run_keyThatStays hkey,MapKept.run_setObj_map _ h3]
   ·intro p hp
    simp only[List.mem_singleton]at hp
    subst hp
    exact Holds.mkMap hk1 h1 (MapKept.heap_set h3).1 q6 q7
end
end Go.Ab
namespace Go.Ab
open Go.RowKit
theorem arrn_of{c:Ctx}{a:Act}{w:World}{k sz:Nat}{pre post:List (List X)}{mid:List X}(h:Holds c a w (2000+k) (.arrn sz pre mid post)):
  k<1000∧∃hv e vs,c.arr k=some (pre.length+(post.length+1),hv,true)∧w.ownsRow 0 e sz hv (pre.length+(post.length+1)) vs∧(∀r∈pre++mid::post,r.length=sz)∧∃v1 v2 v3,vs=v1++(v2++v3)∧All2 (RepD c.h) pre.flatten v1∧All2 (RepC c) mid v2∧All2 (RepD c.h) post.flatten v3:=by
 unfold Holds at h
 by_cases hk:k<1000
 case neg=>
  rw[if_neg (by omega),if_neg (by omega),if_neg (by omega)]at h
  rcases h with h|⟨_,J,hJ,_⟩
  ·cases h
  ·cases hJ
 rw[if_neg (by omega),if_neg (by omega),if_pos (by omega),Nat.add_sub_cancel_left]at h
 rcases h with h|⟨sz',rows',hv,e,vs,⟨rfl,rfl,h4⟩,h1,h2,h3⟩
 ·cases h
 ·rw[List.length_append,List.length_cons]at h1 h2
  exact⟨hk,hv,e,vs,h1,h2,h3,h4⟩
theorem Holds.mkArrn{c:Ctx}{a:Act}{w:World}{k sz e n:Nat}{hv:Value}{vs v1 v2 v3:List Value}{pre post:List (List X)}{mid:List X}(hk:k<1000)(hn:pre.length+(post.length+1)=n)(h1:c.arr k=some (n,hv,true))(h2:w.ownsRow 0 e sz hv n vs)
  (h3:∀q∈pre++mid::post,q.length=sz) (h4:vs=v1++(v2++v3)) (h5:All2 (RepD c.h) pre.flatten v1) (h6:All2 (RepC c) mid v2) (h7:All2 (RepD c.h) post.flatten v3):¬(2000+k<1000)∧Holds c a w (2000+k) (.arrn sz pre mid post):=by
 subst hn
 refine⟨by omega,?_⟩
 unfold Holds
 rw[if_neg (by omega),if_neg (by omega),if_pos (by omega),Nat.add_sub_cancel_left]
 refine .inr ⟨sz,_,hv,e,vs,⟨rfl,rfl,v1,v2,v3,h4,h5,h6,h7⟩,?_,?_,h3⟩
 ·rw[List.length_append,List.length_cons];exact h1
 ·rw[List.length_append,List.length_cons];exact h2
end Go.Ab
namespace Go.Ab
open Go.RowKit
def lendV(fs:List Nat)(t:St):X→Bool
 |.agg xs=>xs.all (lendC fs t)
 |x=>lendC fs t x
def lendT(fs:List Nat)(t:St):X→Bool
 |.tup xs=>xs.all (lendV fs t)
 |x=>lendV fs t x
theorem RepV.lend{c:Ctx}{fs:List Nat}{t:St}{x:X}{v:Value}(h:RepV c x v)(ho:lendV fs t x=true):RepV (c.lend fs t) x v:=by
 cases x
 case agg xs=>obtain⟨vs,h1,h2⟩:=h;exact⟨vs,h1,All2.cut (R':=RepC (c.lend fs t)) (ok:=lendC fs t) (fun _ _ h ho=>RepC.lend h ho) h2 ho⟩
 all_goals (simp only[RepV,lendV]at h ho⊢;exact RepC.lend h ho)
theorem RepV.back{c c3:Ctx}{fs:List Nat}{t:St}{x:X}{v:Value}(h:RepV c3 x v)(ho:lendV fs t x=true):RepV (c.back c3 fs t) x v:=by
 cases x
 case agg xs=>obtain⟨vs,h1,h2⟩:=h;exact⟨vs,h1,All2.cut (R':=RepC (c.back c3 fs t)) (ok:=lendC fs t) (fun _ _ h ho=>RepC.back h ho) h2 ho⟩
 all_goals (simp only[RepV,lendV]at h ho⊢;exact RepC.back h ho)
theorem RepT.back{c c3:Ctx}{fs:List Nat}{t:St}{x:X}{v:Value}(h:RepT c3 x v)(ho:lendT fs t x=true):RepT (c.back c3 fs t) x v:=by
 cases x
 case tup xs=>obtain⟨vs,h1,h2⟩:=h;exact⟨vs,h1,All2.cut (R':=RepV (c.back c3 fs t)) (ok:=lendV fs t) (fun _ _ h ho=>RepV.back h ho) h2 ho⟩
 all_goals (simp only[RepT,lendT]at h ho⊢;exact RepV.back h ho)
theorem args_lend{c:Ctx}{fs:List Nat}{t:St}:∀{ys:List X}{vs:List Value},All2 (RepT c) ys vs→ys.all (fun y=>lendV fs t y&&!isTup y)=true→All2 (RepV (c.lend fs t)) ys vs
 |[],[],_,_=>trivial
 |y::ys,v::vs,h,ho=>by
  simp only[List.all_cons,Bool.and_eq_true,Bool.not_eq_true']at ho
  exact⟨(T.toV h.1 ho.1.2).lend ho.1.1,args_lend h.2 (by simpa using ho.2)⟩
 |[],_::_,h,_=>h.elim
 |_::_,[],h,_=>h.elim
end Go.Ab
namespace Go.Ab
open Go.RowKit
theorem lkI{a b:Int}(h:a=b):some (X.int .i64 a)=some (X.int .i64 b):=by rw[h]
theorem lkB{a b:Bool}(h:a=b):some (X.bool a)=some (X.bool b):=by rw[h]
section
variable{E:Env}{all:Array Oper}{s r r1 r2 r3 r4 rg:St}{d ty:Nat}{pos:String}{after:Array Edge}{guard:Option (Nat×Bool)}{x y z t:Operand}
theorem lookL_set{α:Type}(a:α)(k:List UInt8):∀keys:List (List UInt8),lookL (keys.map fun s=>(s,a)) k=if k∈keys then some a else none
 |[]=>rfl
 |s::keys=>by
  simp only[List.map_cons,lookL]
  by_cases h:s=k
  ·simp[h]
  ·rw[if_neg h,lookL_set a k keys]
   simp[List.mem_cons,Ne.symm h]
theorem putL_set{α:Type}(a:α)(k:List UInt8):∀keys:List (List UInt8),k∉keys→putL (keys.map fun s=>(s,a)) k a=(keys++[k]).map fun s=>(s,a)
 |[],_=>rfl
 |s::keys,h=>by
  simp only[List.mem_cons,not_or]at h
  simp only[List.map_cons,putL,List.cons_append]
  rw[if_neg (Ne.symm h.1),putL_set a k keys h.2]
end
end Go.Ab
namespace Go.Ab
open Go.RowKit
section
variable{E:Env}{all:Array Oper}{s r r1 r2 r3 rg:St}{d ty:Nat}{pos:String}{after:Array Edge}{guard:Option (Nat×Bool)}{x y z:Operand}
theorem Base.addH{U:List Nat}{c:Ctx}{a:Act}{w:World}(hb:Base E U c a w){b:Nat}(h1:E.B≤b)(h3:∀k,c.loc k≠some b)(h4:∀k m hv,c.arr k=some (m,hv,true)→hv.ownBlock≠some b)(h5:¬c.Y b){h':Mem}(hh':h'=fun p=>if p.block=b then w.cell? p else c.h p):
  Base E U ⟨h',c.loc,c.arr,c.Y⟩ a w∧Mem.le c.h h'∧(∀p v,h' p=some v→c.h p=some v∨¬c.Y p.block)∧(∀p v,h' p=some v→w.cell? p=some v):=by
 have hle:Mem.le c.h h':=by
  intro p u hp
  rw[hh']
  dsimp only
  split
  ·exact hb.hw p u hp
  ·exact hp
 have hin:∀p u,h' p=some u→c.h p=some u∨(p.block=b∧w.cell? p=some u):=by
  intro p u hp
  rw[hh']at hp
  dsimp only at hp
  split at hp
  ·exact .inr ⟨‹_›,hp⟩
  ·exact .inl hp
 have hwn:∀p u,h' p=some u→w.cell? p=some u:=by
  intro p u hp
  rcases hin p u hp with h|h
  ·exact hb.hw p u h
  ·exact h.2
 have none_of:∀b' o,b'≠b→c.h ⟨b',o,none⟩=none→h' ⟨b',o,none⟩=none:=by
  intro b' o hne hn
  rw[hh']
  dsimp only
  rw[if_neg hne]
  exact hn
 refine⟨⟨hb.below,hb.hB,hb.nt,hb.dfr,hb.pin,hwn,Mem.le_trans hb.hle hle,?_,?_,?_,hb.used,hb.Y,hb.loc0,hb.arr0⟩,hle,?_,hwn⟩
 ·intro p u hp
  rcases hin p u hp with h|h
  ·exact hb.hnew p u h
  ·exact .inr (.inl (by rw[h.1];exact h1))
 ·intro j b' hj
  obtain⟨q1,q2,q3,q4,q5⟩:=hb.loc j b' hj
  exact⟨q1,q2,fun o=>none_of b' o (fun e=>h3 j (e▸hj)) (q3 o),q4,q5⟩
 ·intro j m u b' hj hbk
  obtain⟨q1,q2,q3,q4⟩:=hb.arr j m u b' hj hbk
  exact⟨q1,q2,fun o=>none_of b' o (fun e=>h4 j m u hj (e▸hbk)) (q3 o),q4⟩
 ·intro p u hp
  rcases hin p u hp with h|h
  ·exact .inl h
  ·exact .inr (by rw[h.1];exact h5)
theorem Good.freezeP{U U':List Nat}{s1:St}{a:Act}{w:World}{t k:Nat}{cells:List X}(hg:Good E U s a w)(ht:Nat.blt t 1000=true)(hk:Nat.blt k 1000=true)(hl:look s t=some (.ptr k 0))(hl2:look s (1000+k)=some (.box cells))(hD:cells.all okD=true)(hk9:k∉E.fs)
  (hkU:U'.contains k=false) (hle:Le s s1) (ho:s1.all (okKey U')=true):Good E U' ((t,.eptr cells)::s1) a w:=by
 obtain⟨c,hb,hh⟩:=hg
 obtain⟨b,f1,f2⟩:=ptr_of ((hh _ _ hl).slot ht)
 rw[Nat.blt_eq]at ht hk
 obtain⟨b',T,vs,g1,g2,g3⟩:=box_of (hh _ _ hl2) hk
 rw[f1]at g1
 cases g1
 have g4:All2 (RepD c.h) cells vs.toList:=Ds_of g3 hD
 obtain⟨q1,q2,q3,q4,q5⟩:=hb.loc k b f1
 have hcell:∀(i:Nat)(v:Value),vs.toList[i]?=some v→w.cell? ⟨b,i,none⟩=some v:=fun i v hv=>by
  rw[Array.getElem?_toList]at hv
  simp[World.cell?,g2,hv]
 obtain⟨h',hh'⟩:∃h':Mem,h'=fun p=>if p.block=b then w.cell? p else(c.cut U').h p:=⟨_,rfl⟩
 obtain⟨t1,t2,t3,t4⟩:=(hb.cut U').addH (b:=b) (Env.ok_own q1 hk9) (fun j hj=>by
  have hcj:(c.cut U').loc j=some b:=hj
  simp only[Ctx.cut]at hcj
  split at hcj
  ·rename_i hc
   have:=q4 j hcj
   subst this
   rw[hkU]at hc;cases hc
  ·cases hcj) (fun j m hv' hj e=>by
  have hcj:(c.cut U').arr j=some (m,hv',true):=hj
  simp only[Ctx.cut]at hcj
  split at hcj
  ·exact q5 j m hv' hcj e
  ·cases hcj) (fun hy=>(hb.Y b hy).2.2.1 k f1) hh'
 have hext:Ext (c.cut U') ⟨h',(c.cut U').loc,(c.cut U').arr,(c.cut U').Y⟩:=⟨t2,fun _ _ e=>e,fun _ m hv lv e=>⟨m,hv,lv,e,Nat.le_refl _,fun _=>rfl⟩⟩
 refine⟨_,t1,fun key x hx=>?_⟩
 simp only[look]at hx
 split at hx
 ·rename_i e
  have:=Nat.eq_of_beq_eq_true e
  cases hx
  subst this
  unfold Holds
  rw[if_pos ht]
  show RepD h' (.eptr cells) _
  rw[f2]
  refine .eptr cells b 0 vs.toList g4.length (fun i v hv=>?_) fun i x v hx hv=>(g4.get hx hv).mono t2
  rw[hh']
  dsimp only
  rw[if_pos rfl,Nat.zero_add]
  exact hcell i v hv
 ·have h0:=Holds.cut (hh key x (hle.look key x hx)) (List.all_eq_true.1 ho _ (look_mem hx))
  by_cases hk':key<1000
  ·unfold Holds at h0⊢
   rw[if_pos hk']at h0⊢
   exact h0.mono hext
  ·exact grow_holds t2 t3 t4 hk' h0
theorem OK.freezeP{U:List Nat}{code:Code}{Q:Exit→List Nat→St→Prop}(U':List Nat)(s1:St)(t:Nat){k:Nat}{cells:List X}(ht:Nat.blt t 1000=true)(hk:Nat.blt k 1000=true)(hl:look s t=some (.ptr k 0))(hl2:look s (1000+k)=some (.box cells))(hD:cells.all okD=true)
 (hkU:U'.contains k=false) (hle:Le s s1) (ho:s1.all (okKey U')=true) (h:OK E code Q U' ((t,.eptr cells)::s1)) (hk9:E.fs.contains k=false:=by rfl):OK E code Q U s:=fun a w hg=>h a w (hg.freezeP ht hk hl hl2 hD (nfs hk9) hkU hle ho)
end
end Go.Ab
