import Derived.Carry
import Derived.Laws.IdiomStrings
import Derived.Laws.StructEq
import Derived.Lib.SlicesCompact
import Derived.Lib.Strings
import Derived.ProofKit
import Derived.RangeFuncNested
import Derived.Shelf.Spec.SlicesGrow
import Derived.Sort.OwnSortedInts
import Derived.Test.YtpbalelbenmmbaaGreatDoorFa
set_option linter.all false
namespace Go.Ab
open Go.RowKit
def aM.append{E:Env}{U:bc}{c:Ctx}{a:Act}{w w':World}(hb:aM E U c a w){k n n':Nat}{v v':Value}(hk:c.arr k=some (n,v,true))(hg:w.grownBy w' v.ownBlock)(hn:n<=n')(hnv:n=n'->v'=v)
  (hv:v'.ownBlock=v.ownBlock\/(v'.ownBlock=some w.heap.size/\w.heap.size<w'.heap.size)) (hcl:∀(D:Nat)(o:Obj),v.ownBlock=some D->w.heap[D]?=some o->o.isCells=true):
  aM E U (c.own k n' v' true) a w'/\Ext c (c.own k n' v' true)/\(c.own k n' v' true).arr k=some (n',v',true)/\
   ∀key y,¬key<1000->key≠2000+k->Holds c a w key y->Holds (c.own k n' v' true) a w' key y:=by
 have hlt:∀p v,c.h p=some v->p.block<w.heap.size:=fun p v e=>block_lt_of_cell (hb.hw p v e)
 have hold:∀j m u lv,c.arr j=some (m,u,lv)->∃m' u' lv',(c.own k n' v' true).arr j=some (m',u',lv')/\m<=m'/\(m=m'->u'=u):=by
  grind [Ctx.own]
 have hext:Ext c (c.own k n' v' true):=⟨Mem.le_refl _,fun _ _ e=>e,hold⟩;have hnew:∀j m u,(c.own k n' v' true).arr j=some (m,u,true)->(j=k/\u=v')\/(j≠k/\c.arr j=some (m,u,true)):=by
  grind [Ctx.own]
 have hvb:∀b,v'.ownBlock=some b->(v.ownBlock=some b)\/(b=w.heap.size/\b<w'.heap.size):=by
  grind
 have notv:∀b,v.ownBlock=some b->E.ok k b/\b<w.heap.size/\(∀o,c.h ⟨b,o,none⟩=none)/\(∀k' m' hv',c.arr k'=some (m',hv',true)->hv'.ownBlock=some b->k'=k):=fun b e=>hb.arr k n v b hk e
 have hwn:∀p u,c.h p=some u->w'.cell? p=some u:=by
  intro p u hp;have h1:=hb.hw p u hp;refine hg.cell h1 fun e=>?_
  have hsp:p.spot=none:=by
   cases hsp:p.spot with
   |none=>rfl
   |some q=>grind [World.cell?]
  have h6:=(notv p.block e.symm).2.2.1 p.off;have:p=⟨p.block,p.off,none⟩:=by cases p;simp_all
  grind
 have hkeep:∀(D:Nat)(o:Obj),w.heap[D]?=some o->o.isCells=false->w'.heap[D]?=some o:=fun D o hD ho=>(hg.block D (dt.1 hD).1 fun e=>by grind).trans hD
 have hall:∀b,b<w.heap.size->(c.own k n' v' true).all b->c.all b:=by
  intro b hlt2 ho;rcases ho with hy|h|⟨j,m,u,h2,h3⟩
  ·exact .inl hy
  ·exact .inr (.inl h)
  grind [Ctx.all]
 refine⟨⟨hb.below.trans ⟨hg.os,hg.tape,hg.output,hg.size,fun j hj hx=>hg.block j (dl hj hb.hB) fun e=>Env.js (notv j e.symm).1 hj hx rfl⟩,gc hb.hB hg.size,hb.nt,jW hb hall hkeep,jY hb hall hkeep,hwn,hb.hle,hb.hnew,?_,?_,?_,?_,hb.fB,?_⟩,hext,by simp[Ctx.own],?_⟩
 ·intro j b hj;obtain⟨h1,h2,h3,h4,h5⟩:=hb.loc j b hj;refine⟨h1,dl h2 hg.size,h3,h4,fun k' m u hk'=>?_⟩;grind
 ·intro j m u b hj hbk;rcases hnew j m u hj with⟨rfl,rfl⟩|⟨hne,hj2⟩
  ·rcases hvb b hbk with h|⟨rfl,hltb⟩
   ·obtain⟨h1,h2,h3,h4⟩:=notv b h;refine⟨h1,dl h2 hg.size,h3,fun k' m' u' hk' hb'=>?_⟩;grind
   refine⟨.inl hb.hB,hltb,fun o=>?_,fun k' m' u' hk' hb'=>?_⟩
   ·cases hh:c.h ⟨w.heap.size,o,none⟩with
    |none=>exact hh
    |some v=>grind
   rcases hnew k' m' u' hk' with⟨rfl,_⟩|⟨_,hk'⟩
   ·rfl
   have:=(hb.arr k' m' u' _ hk' hb').2.1;omega
  obtain⟨h1,h2,h3,h4⟩:=hb.arr j m u b hj2 hbk;refine⟨h1,dl h2 hg.size,h3,fun k' m' u' hk' hb'=>?_⟩;grind
 ·intro j hj;refine⟨(hb.used j hj).1,?_⟩;simp only[Ctx.own];split
  ·rename_i e;subst e;have:=(hb.used _ hj).2;simp_all
  exact(hb.used j hj).2
 ·intro b hy;obtain⟨h1,h2,h3,h4⟩:=hb.Y b hy;refine⟨dl h1 hg.size,h2,h3,fun j m u hj e=>?_⟩;grind
 ·intro j m u lv hj e;simp only[Ctx.own]at e;split at e
  ·rename_i e2;subst e2;cases e;obtain⟨m0,hv0,lv0,f1,f2,f3,f4,f5⟩:=hb.fQ _ _ _ _ hj hk;refine⟨m0,hv0,lv0,f1,by omega,fun e=>by grind,fun _=>f4 rfl,fun b hb2=>?_⟩;rcases hvb b hb2 with h|⟨h,_⟩
   ·exact f5 b h
   exact .inr (h▸hb.hB)
  exact hb.fQ j m u lv hj e
 intro key u hkey hne hu;unfold Holds at hu⊢;rw[Zm hkey]at hu⊢;refine cD hu fun hu=>?_
 split at hu
 ·rename_i h2;rw[Zn h2];obtain⟨b,o,h1,h3,h4⟩:=hu;refine⟨b,o,h1,(hg.block b (hb.loc _ _ h1).2.1 fun e=>?_).trans h3,h4.mono hext⟩;exact(hb.loc _ _ h1).2.2.2.2 _ _ _ hk e.symm
 rename_i h2;rw[Zm h2];split at hu
 ·rename_i h6;rw[Zn h6];obtain⟨sz,rows,hv2,e,vs,hx,h1,h3,h4⟩:=hu;have hj:key - 2000≠k:=by omega
  refine⟨sz,rows,hv2,e,vs,hx.mono hext,by simp_all[Ctx.own],⟨h3.1,h3.2.imp id ?_⟩,h4⟩;rintro⟨g,cap,cur,f1,f2,f3,f4⟩;refine⟨g,cap,cur,f1,f2,(hg.block g (dt.1 f3).1 fun e=>?_).trans f3,f4⟩;exact hj ((notv g e.symm).2.2.2 _ _ _ h1 (by rw[f1];rfl))
 rename_i h6;rw[Zm h6];obtain⟨hk0,J,hx0,hJ,hJ2⟩:=hu;refine⟨hk0,J,hx0,hJ,hJ _ _ _ _ _ hJ2 (Mem.le_refl _) (fun _ _ e=>.inl e) hwn ⟨hg.os,hg.tape,hg.output,hg.size,fun j hj=>by omega⟩ fun b hy=>hg.block b (hb.Y b hy).1 fun e=>?_⟩;exact(hb.Y b hy).2.2.2 _ _ _ hk e.symm
def pK{w:World}{B e sz n:Nat}{v:Value}{xs:List Value}(h:w.ownsRow B e sz v n xs):∀(D:Nat)(o:Obj),v.ownBlock=some D->w.heap[D]?=some o->o.isCells=true:=by
 intro D o hD hd;rcases h.2 with⟨rfl,_⟩|⟨g,cap,cur,rfl,_,hg,_⟩
 ·cases hD
 cases hD;rw[hg]at hd;cases hd;rfl
def jV{c:Ctx}{k n:Nat}{v:Value}(h:bK c (.own k n) v):(∃a l cp,v=.slice a l cp)/\∃m hv lv,c.arr k=some (m,hv,lv)/\n<=m/\(n=m->v=hv):=h
section
variable{E:Env}{all:Array Oper}{s r r1 r2 r3 rg:St}{d ty:Nat}{pos:String}{after:Array Edge}{guard:Option (Nat×Bool)}{x y z:Operand}
def qQ{t u e sz bytes k n m:Nat}{du:TypeDesc}{rows rows2:List bi}(hA:lV E.P t e sz bytes)(hu:E.P.underlying u=some du)(hdu:xG du)(hg:Gd all s guard rg)(hd:cP E d=true)
  (hx:bI s x (.own k n) r1) (hl:look s (2000+k)=some (.arr sz rows)) (hn:rows.length=n) (hl2:Looks s r2) (hr2:∀q∈rows2,q.length=sz) (hm:rows2.length=m) (hbd:(n+m) * bytes<=140737488355328) (hbm:n+m<=maxLen)
  (hsrc:∀c a w,(∀p v,c.h p=some v->w.cell? p=some v)->(∀p∈r2,Holds c a w p.1 p.2)->∃news,ah (ay c.h) rows2.flatten news/\(∀w,(Builtin.lenOf (a.eval y)).run E.P w=.ok m w)/\(∀q∈news,q.oneCell'=true)/\
   ∀w':World,(∀p,w'.cell? p=w.cell? p)->(Builtin.firstCells sz m (a.eval y)).run E.P w'=.ok news.toArray w'):
  aW E all ⟨some d,.call {callee:=.builtin .append,args:=#[x,y],argTypes:=#[t,u]},ty,pos,after,guard⟩ s (rg++(r1++([(2000+k,.arr sz rows)]++r2))) ((d,.own k (n+m))::[(2000+k,.arr sz (rows++rows2))]) []:=
 aW.mk hg hd rfl (hx.looks.app (Looks.app (r:=[(2000+k,.arr sz rows)]) ⟨hl,Zo⟩ hl2)) fun U c a w hb hr _=>by
  subst hn;obtain⟨hv0,m0,hv,lv,e1,e2,e3⟩:=jV (hx.rep (c:=c) (a:=a) (w:=w) fun p hp=>hr p (by simp[hp]));obtain⟨v,e',vs,g1,g2,g3,g4⟩:=ei (hr (2000+k,.arr sz rows) F);rw[e1]at g1;cases g1;obtain⟨news,n1,n2,n3,n4⟩:=hsrc c a w hb.hw fun p hp=>hr p (by simp[hp])
  obtain⟨i,zv,i1,i2,i3,i4,i5⟩:=hA.ex;have hfl2:news.length=m * sz:=by rw[←n1.length,bg hr2,hm]
  have hev:=e3 rfl;obtain⟨v',w',e1',q1,q2,q3,q4,q5,q6⟩:=qO (P:=E.P) w 0 t u ty e e' du i zv sz bytes hA.mD hu hdu i1 i2 i3 i4 i5 _ rows.length vs g2 (a.eval y) m news n2 hfl2 n4 n3 hbm hbd (Zr _);obtain⟨p1,p2,p3,p4⟩:=hb.append (n':=rows.length+m) (v':=v') e1 q3 I (fun h=>q5 I) q4 (pK g2);refine⟨v',_,w',?_,p1,p2,⟨q6,_,_,_,p3,Zq _,fun _=>rfl⟩,?_,fun key y hkey hne hy=>p4 key y hkey (fun e=>hne _ (df.2 rfl) e.symm) hy⟩
  ·simp only[execOp,resolve,invoke,builtin,Sem.run_bind,Sem.run_pure,Result.andThen_ok,sk,fw,rm,hev,q1]
  intro p hp;simp only[df]at hp;subst hp;refine Holds.lB (e:=e1') (BJ (hr (2000+k,.arr sz rows) F)) (by rw[Zs,hm];exact p3) (by rw[Zs,hm];exact q2) (fun q hq=>?_) ?_
  ·rcases List.mem_append.1 hq with h|h
   ·exact g3 q h
   exact hr2 q h
  rw[pk];exact(g4.append n1).mono fun _ _=>ay.mono p2.h
def kX{e:Nat}:xG (.slice e):=.inl ⟨e,rfl⟩
def Az{h:Mem}{x:X}{v:Value}(r:ay h x v):v.oneCell'=true:=by cases r<;>first|rfl|assumption
def gQ{h:Mem}:∀{xs:bi}{vs:List Value},ah (ay h) xs vs->∀q∈vs,q.oneCell'=true
 |[],[],_,q,hq=>by cases hq
 |_::_,v::vs,h,q,hq=>by
  rcases ed.1 hq with rfl|hq
  ·exact Az h.1
  exact gQ h.2 q hq
 |[],_::_,h,_,_=>h.elim
 |_::_,[],h,_,_=>h.elim
def S.append{t e sz bytes k n j m:Nat}{rows rows2:List bi}(hA:lV E.P t e sz bytes)(hg:Gd all s guard rg)(hd:cP E d=true)
  (hx:bI s x (.own k n) r1) (hl:look s (2000+k)=some (.arr sz rows)) (hn:rows.length=n) (hy:bI s y (.own j m) r2) (hl2:look s (2000+j)=some (.arr sz rows2)) (hm:rows2.length=m) (hbd:(n+m) * bytes<=140737488355328) (hbm:n+m<=maxLen):
  aW E all ⟨some d,.call {callee:=.builtin .append,args:=#[x,y],argTypes:=#[t,t]},ty,pos,after,guard⟩ s (rg++(r1++([(2000+k,.arr sz rows)]++(r2++[(2000+j,.arr sz rows2)])))) ((d,.own k (n+m))::[(2000+k,.arr sz (rows++rows2))]) []:=by
 have hr2:Looks s (r2++[(2000+j,X.arr sz rows2)]):=hy.looks.app ⟨hl2,Zo⟩
 -- the rows' widths come out of the state itself
 by_cases hw:∀q∈rows2,q.length=sz
 ·refine qQ hA hA.mD kX hg hd hx hl hn hr2 hw hm hbd hbm fun c a w hh hr=>?_
  subst hm;obtain⟨_,m0,hv,lv,e1,e2,e3⟩:=jV (hy.rep (c:=c) (a:=a) (w:=w) fun p hp=>hr p (by simp[hp]));obtain⟨v,e',vs,g1,g2,g3,g4⟩:=ei (hr (2000+j,.arr sz rows2) F);rw[e1]at g1;cases g1;have hev:=e3 rfl;refine⟨vs,g4,?_,gQ g4,?_⟩
  ·intro w2;rw[hev];rcases g2.2 with⟨rfl,h0⟩|⟨g,cap,cur,rfl,_⟩
   all_goals simp_all[Builtin.lenOf]
  intro w' hw';rw[hev];rcases g2.2 with⟨rfl,h0⟩|⟨g,cap,cur,rfl,h1,h2,h3,h4,h5,h6⟩
  ·have:vs=[]:=ft (by rw[g2.1,h0];simp);simp_all[Builtin.firstCells]
  exact run_firstCells_some w' sz rows2.length ⟨g,0,none⟩ rows2.length cap vs g2.1 fun i u hu=>by rw[hw'];exact g2.cells (g:=g) rfl i u hu
 refine⟨?_,hg.looks.app (hx.looks.app (Looks.app (r:=[(2000+k,.arr sz rows)]) ⟨hl,Zo⟩ hr2))⟩;intro U c a w hb hr;obtain⟨v,e',vs,g1,g2,g3,g4⟩:=ei (hr (2000+j,.arr sz rows2) F);simp_all
def S.mQ{t e sz bytes k n m:Nat}{rows rows2:List bi}(hA:lV E.P t e sz bytes)(hg:Gd all s guard rg)(hd:cP E d=true)
  (hx:bI s x (.own k n) r1) (hl:look s (2000+k)=some (.arr sz rows)) (hn:rows.length=n) (hy:bI s y (.sl rows2) r2) (hw:∀q∈rows2,q.length=sz) (hm:rows2.length=m) (hbd:(n+m) * bytes<=140737488355328) (hbm:n+m<=maxLen):
  aW E all ⟨some d,.call {callee:=.builtin .append,args:=#[x,y],argTypes:=#[t,t]},ty,pos,after,guard⟩ s (rg++(r1++([(2000+k,.arr sz rows)]++r2))) ((d,.own k (n+m))::[(2000+k,.arr sz (rows++rows2))]) []:=
 qQ hA hA.mD kX hg hd hx hl hn hy.looks hw hm hbd hbm fun c a w hh hr=>by
  subst hm;obtain⟨ad,cap,hv,h1,h2,h3⟩:=kg (hy.rep (c:=c) (a:=a) (w:=w) hr);rcases h3 with rfl|⟨b,off,sz',vs,rfl,h3,h4,h5,h6⟩
  ·refine⟨[],Zo,fun w=>by rw[hv];simp[Builtin.lenOf],(fun q hq=>by cases hq),fun w' hw'=>?_⟩;rw[hv];cases ad with
   |none=>simp[Builtin.firstCells]
   |some ad=>exact run_firstCells_some w' sz 0 ad 0 cap [] F fun i u hu=>by simp at hu
  have ha:ah (ay c.h) rows2.flatten vs:=ah.fb h4 fun i u v hu hv=>h6 i u v hu hv
  refine⟨vs,ha,fun w=>by rw[hv];simp[Builtin.lenOf],gQ ha,fun w' hw'=>?_⟩;rw[hv];exact run_firstCells_some w' sz rows2.length ⟨b,off,none⟩ rows2.length cap vs (by rw[←h4,bg hw]) fun i u hu=>by rw[hw',add_off];exact hh _ _ (h5 i u hu)
def aM.yT{U:bc}{c:Ctx}{a:Act}{w:World}{t k sz:Nat}{rows:List bi}(hb:aM E U c a w)(ht:Nat.blt t 1000=true)(hl:Holds c a w t (.own k rows.length))(hl2:Holds c a w (2000+k) (.arr sz rows))(hk9:k∉E.fs):
  ∃c',aM E U c' a w/\Ext c c'/\Holds c' a w t (.sl rows)/\∀key u,2000+k≠key->Holds c a w key u->Holds c' a w key u:=by
 obtain⟨_,m0,hv,lv,e1,e2,e3⟩:=jV (hl.slot ht);obtain⟨v,e',vs,g1,g2,g3,g4⟩:=ei hl2;rw[e1]at g1;cases g1;have hev:=e3 rfl;obtain⟨h',hh'⟩:∃h':Mem,h'=fun p=>if hv.ownBlock=some p.block then w.cell? p else c.h p:=⟨_,rfl⟩
 have hblk:∀b,hv.ownBlock=some b->E.ok k b/\b<w.heap.size/\(∀o,c.h ⟨b,o,none⟩=none)/\(∀k' m' hv',c.arr k'=some (m',hv',true)->hv'.ownBlock=some b->k'=k):=fun b e=>hb.arr k _ _ b e1 e
 have hle:Mem.le c.h h':=by
  intro p u hp;rw[hh'];dsimp only;split
  ·exact hb.hw p u hp
  exact hp
 have hin:∀p u,h' p=some u->c.h p=some u\/(hv.ownBlock=some p.block/\w.cell? p=some u):=by
  grind
 have hext:Ext c ⟨h',c.loc,fun j=>if j=k then some (rows.length,hv,false)else c.arr j,c.Y⟩:=⟨hle,fun _ _ e=>e,fun j m u lv e=>by
  grind⟩
 have harr:∀j m u,(if j=k then some (rows.length,hv,false)else c.arr j)=some (m,u,true)->j≠k/\c.arr j=some (m,u,true):=by
  grind
 have hall:∀b,b<w.heap.size->(Ctx.mk h' c.loc (fun j=>if j=k then some (rows.length,hv,false)else c.arr j) c.Y).all b->c.all b:=by
  intro b _ ho;rcases ho with hy|h|⟨j,m,u,h2,h3⟩
  ·exact .inl hy
  ·exact .inr (.inl h)
  exact .inr (.inr ⟨j,m,u,(harr j m u h2).2,h3⟩)
 have hwn:∀p u,h' p=some u->w.cell? p=some u:=by
  intro p u hp;rcases hin p u hp with h|h
  ·exact hb.hw p u h
  exact h.2
 refine⟨⟨h',c.loc,fun j=>if j=k then some (rows.length,hv,false)else c.arr j,c.Y⟩,⟨hb.below,hb.hB,hb.nt,jW hb hall (fun _ _ h _=>h),jY hb hall (fun _ _ h _=>h),hwn,Mem.le_trans hb.hle hle,?_,?_,?_,?_,?_,hb.fB,?_⟩,hext,?_,?_⟩
 ·intro p u hp;rcases hin p u hp with h|h
  ·exact hb.hnew p u h
  exact .inr (.inl (Env.gN (hblk _ h.1).1 hk9))
 ·intro j b hj;obtain⟨h1,h2,h3,h4,h5⟩:=hb.loc j b hj;grind
 ·intro j m u b hj hbk;obtain⟨hjk,hj⟩:=harr j m u hj;obtain⟨h1,h2,h3,h4⟩:=hb.arr j m u b hj hbk;grind
 ·intro j hj;refine⟨(hb.used j hj).1,?_⟩;dsimp only;split
  ·rename_i e;subst e;have:=(hb.used _ hj).2;grind
  exact(hb.used j hj).2
 ·intro b hy;obtain⟨h1,h2,h3,h4⟩:=hb.Y b hy;grind
 ·intro j m u lv hj e;exact hb.fQ j m u lv hj ((Zm (show¬j=k from fun e=>hk9 (e▸hj))).symm.trans e)
 ·rw[db]at ht;unfold Holds;rw[Zn ht,hev];refine ay.ef (c:=⟨h',c.loc,_,c.Y⟩) (ay.uF g2 g3 g4 hle fun b o hbk=>?_);grind
 intro key u hne h0;unfold Holds at h0⊢;split at h0
 ·rename_i hlt;rw[Zn hlt];exact h0.mono hext
 rename_i hlt;rw[Zm hlt];refine cD h0 fun h0=>?_
 split at h0
 ·rename_i h2;rw[Zn h2];obtain⟨b,o,f1,f2,f3⟩:=h0;exact⟨b,o,f1,f2,f3.mono hext⟩
 rename_i h2;rw[Zm h2];split at h0
 ·rename_i h6;rw[Zn h6];obtain⟨sz2,rows2,hv2,e2',vs2,f4,f1,f2,f3⟩:=h0;have hj:key - 2000≠k:=by omega
  generalize key - 2000=j at f1 hj;exact⟨sz2,rows2,hv2,e2',vs2,f4.mono hext,(Zm hj).trans f1,f2,f3⟩
 rename_i h6;rw[Zm h6];obtain⟨hk0,J,hx0,hJ,hJ2⟩:=h0;exact⟨hk0,J,hx0,hJ,hJ _ _ _ _ _ hJ2 hle (fun p v e=>(hin p v e).imp id fun h hy=>(hb.Y _ hy).2.2.2 _ _ _ e1 h.1) hwn (da.refl _ _ _) fun _ _=>rfl⟩
def Good.freeze{U:bc}{a:Act}{w:World}{t k n sz:Nat}{rows:List bi}(hg:Good E U s a w)(ht:Nat.blt t 1000=true)(hl:look s t=some (.own k n))(hl2:look s (2000+k)=some (.arr sz rows))(hn:rows.length=n)(hk9:k∉E.fs):
  Good E U ((t,.sl rows)::(2000+k,.any)::s) a w:=by
 subst hn;obtain⟨c,hb,hh⟩:=hg;obtain⟨c',q1,q2,q3,q4⟩:=hb.yT ht (hh _ _ hl) (hh _ _ hl2) hk9;refine⟨c',q1,fun key x hx=>?_⟩;simp only[look]at hx;split at hx
 ·simp_all
 split at hx
 ·rename_i hk;have:=Nat.eq_of_beq_eq_true hk;cases hx;subst this;unfold Holds;grind
 simp_all
def OK.freeze{U:bc}{code:Code}{Q:bo}(t:Nat){k n sz:Nat}{rows:List bi}(ht:Nat.blt t 1000=true)(hl:look s t=some (.own k n))(hl2:look s (2000+k)=some (.arr sz rows))(hn:rows.length=n)
 (h:OK E code Q U ((t,.sl rows)::(2000+k,.any)::s)) (hk9:E.fs.contains k=false:=by rfl):OK E code Q U s:=fun a w hg=>h a w (hg.freeze ht hl hl2 hn (nQ hk9))
end
end Go.Ab
namespace Go.Ab
open Go.RowKit
structure F4(P:Program)(t:Nat):Prop where
 mD:P.underlying t=some .string
section
variable{E:Env}{all:Array Oper}{s r r1 r2 r3 rg:St}{d ty:Nat}{pos:String}{after:Array Edge}{guard:Option (Nat×Bool)}{x y z:Operand}
def S.jP{t:Nat}{p:Prop}[Decidable p](hg:Gd all s guard rg)(hd:cP E d=true)(hx:bI s x (.bool (decide p)) r):
  aW E all ⟨some d,.unOp .not t x,ty,pos,after,guard⟩ s (rg++r) [(d,.bool (decide (¬p)))] []:=by
 grind [S.not]
def S.Hp{α:Type}{t e sz:Nat}{l:List α}{f:α->bi}(hs:o7 E.P t e sz)(hg:Gd all s guard rg)(hd:cP E d=true)(hx:bI s x (.sl (l.map f)) r):
  aW E all ⟨some d,.call {callee:=.builtin .len,args:=#[x],argTypes:=#[t]},ty,pos,after,guard⟩ s (rg++r) [(d,.int .i64 l.length)] []:=by
 grind [S.len,Zx]
def S.aP{α:Type}{t e sz n:Nat}{l:List α}{f:α->bi}{i:Int}(hs:o7 E.P t e sz)(hg:Gd all s guard rg)(hd:cP E d=true)(hx:bI s x (.sl (l.map f)) r1)(hy:bI s y (.int .i64 i) r2)
  (hi:i=n) (hn:n<l.length) (hsz:(f l[n]).length=sz):aW E all ⟨some d,.indexAddr t x y,ty,pos,after,guard⟩ s (rg++(r1++r2)) [(d,.b5 (f l[n]))] []:=
 S.index (row:=f l[n]) hs hg hd hx hy I (by subst hi;simp[hn]) hsz
def CE{c:Ctx}{rows:List bi}{a:Option Addr}{cap lo hi sz:Nat}(h:ay c.h (.sl rows) (.slice a rows.length cap))(hsz:∀q∈rows,q.length=sz)(h1:lo<=hi)(h2:hi<=rows.length):
  ay c.h (.sl ((rows.take hi).drop lo)) (.slice (if cap=lo then a else a.map (·.add (lo * sz))) (hi - lo) (cap - lo)):=by
 have hl:((rows.take hi).drop lo).length=hi - lo:=by simp;omega
 generalize hrr:(rows.take hi).drop lo=rr at hl⊢;by_cases h0:hi - lo=0
 ·have:rr=[]:=ft I;subst this;rw[h0];obtain⟨a',cap',hv,hle,hm,_⟩:=kg (c:=c) (ay.ef h);cases hv;exact .rP _ _ I
 obtain⟨a',cap',hv,hle,hm,hc⟩:=kg (c:=c) (ay.ef h);cases hv;rcases hc with rfl|⟨b,off,sz',vs,rfl,h3,h4,h5,h6⟩
 ·simp_all
 have hne:rows≠[]:=fun e=>by simp_all
 obtain⟨q,qs,hq⟩:=List.exists_cons_of_ne_nil hne;have hss:sz'=sz:=by simp_all
 subst hss;rw[Zm I,←hl];have hfl:=bg h3;have hrl:rr.length * sz'=hi * sz' - lo * sz':=by rw[hl,Nat.sub_mul]
 have hat:rr.flatten=(rows.flatten.drop (lo * sz')).take (rr.length * sz'):=by
  subst hrr;have key:∀(rows:List bi)(n:Nat),(∀q∈rows,q.length=sz')->(rows.take n).flatten=rows.flatten.take (n * sz')/\(rows.drop n).flatten=rows.flatten.drop (n * sz'):=by
   intro rows
   induction rows with
   |nil=>simp
   |cons r rows ih=>
    intro n hr;cases n with
    |zero=>simp
    |succ n=>
     obtain⟨i1,i2⟩:=ih n fun q hq=>hr q (dg _ hq)
     simp_all[pa,un,eK,xt]
  grind [List.drop_take]
 have hbound:lo * sz'+rr.length * sz'<=vs.length:=by
  rw[←h4,hfl,hl,←pa];simp_all[li]
 have e1:((⟨b,off,none⟩:Addr).add (lo * sz'))=⟨b,off+lo * sz',none⟩:=add_off b off (lo * sz');simp only[Ax,e1];refine .sl rr b (off+lo * sz') (cap - lo) sz' ((vs.drop (lo * sz')).take (rr.length * sz')) I I ?_ ?_ ?_ ?_
 all_goals grind
def S.slice{α:Type}{t e sz lo hi:Nat}{l l':List α}{f:α->bi}{il ih:Option Operand}(hs:o7 E.P t e sz)(hf:∀a,(f a).length=sz)(hg:Gd all s guard rg)(hd:cP E d=true)(hx:bI s x (.sl (l.map f)) r1)
  (h1:(il=none/\lo=0/\r2=[])\/∃o i,il=some o/\bI s o (.int .i64 i) r2/\i=lo) (h2:(ih=none/\hi=l.length/\r3=[])\/∃o i,ih=some o/\bI s o (.int .i64 i) r3/\i=hi) (hle:lo<=hi) (hle2:hi<=l.length) (hl':(l.take hi).drop lo=l'):
  aW E all ⟨some d,.slice t x il ih none,ty,pos,after,guard⟩ s (rg++(r1++(r2++r3))) [(d,.sl (l'.map f))] []:=by
 have k1:Looks s r2:=by rcases h1 with⟨_,_,rfl⟩|⟨_,_,_,h,_⟩;trivial;exact h.looks
 have k2:Looks s r3:=by rcases h2 with⟨_,_,rfl⟩|⟨_,_,_,h,_⟩;trivial;exact h.looks
 subst hl';refine aW.val hg hd rfl (hx.looks.app (k1.app k2)) fun c A w hh hr=>?_
 have hrep:=hx.rep (c:=c) (a:=A) (w:=w) fun p hp=>hr p (by simp[hp])
 obtain⟨a,cap,hv,p1,p2,_⟩:=kg hrep;rw[hv]at hrep;have hD:ay c.h (.sl (l.map f)) (.slice a (l.map f).length cap):=hrep;have hsl:=CE (lo:=lo) (hi:=hi) hD (fun q hq=>by obtain⟨a,_,rfl⟩:=eI.1 hq;exact hf a) hle (by simp_all);rw[List.map_drop,List.map_take];refine⟨_,?_,ay.ef hsl⟩;rw[Zx]at p1 hv;have hcap:hi<=cap:=by omega
 have kl:∀o i,bI s o (.int .i64 i) r2->A.eval o=.int .i64 i:=fun o i h=>(cJ (h.rep (c:=c) (a:=A) (w:=w) fun p hp=>hr p (by simp[hp]))).1
 have kh:∀o i,bI s o (.int .i64 i) r3->A.eval o=.int .i64 i:=fun o i h=>(cJ (h.rep (c:=c) (a:=A) (w:=w) fun p hp=>hr p (by simp[hp]))).1
 rcases h1 with⟨rfl,rfl,rfl⟩|⟨ol,il,rfl,e1,rfl⟩<;>rcases h2 with⟨rfl,rfl,rfl⟩|⟨oh,ih,rfl,e2,rfl⟩
 ·simp[execOp,hv,Instr.sliceAt,Instr.slice,run_underlying hs.mD,Instr.sliceBounds,hs.size]
 ·simp[execOp,hv,kh _ _ e2,Instr.sliceAt,Instr.slice,run_underlying hs.mD,Instr.sliceBounds,Instr.sliceBound,asIntOf,hs.size,hcap]
 ·have hlo2:lo<=l.length:=hle;simp[execOp,hv,kl _ _ e1,Instr.sliceAt,Instr.slice,run_underlying hs.mD,Instr.sliceBounds,Instr.sliceBound,asIntOf,hs.size,hlo2]
 simp[execOp,hv,kl _ _ e1,kh _ _ e2,Instr.sliceAt,Instr.slice,run_underlying hs.mD,Instr.sliceBounds,Instr.sliceBound,asIntOf,hs.size,hcap,hle]
def S.eN{t t2:Nat}{l l':ba}(hg:Gd all s guard rg)(hd:cP E d=true)(hx:bI s x (.str l) r1)(hy:bI s y (.str l') r2):
  aW E all ⟨some d,.binOp .eql t x y t2,ty,pos,after,guard⟩ s (rg++(r1++r2)) [(d,.bool (decide (l=l')))] []:=
 aW.val hg hd rfl (hx.looks.app hy.looks) fun c A w _ hr=>by
  have h1:=(fS (hx.rep (c:=c) (a:=A) (w:=w) fun p hp=>hr p (by simp[hp]))).1;have h2:=(fS (hy.rep (c:=c) (a:=A) (w:=w) fun p hp=>hr p (by simp[hp]))).1;refine⟨.bool (decide (l=l')),?_,ay.ef (.bool _)⟩;by_cases h:l=l'<;>simp[execOp,h1,h2,eqGuard,binOp,Op.stringOp,Lib.toList_data,h]
def S.IX{t t2:Nat}{l l':ba}(hg:Gd all s guard rg)(hd:cP E d=true)(hx:bI s x (.str l) r1)(hy:bI s y (.str l') r2):
  aW E all ⟨some d,.binOp .neq t x y t2,ty,pos,after,guard⟩ s (rg++(r1++r2)) [(d,.bool (decide (l≠l')))] []:=
 aW.val hg hd rfl (hx.looks.app hy.looks) fun c A w _ hr=>by
  have h1:=(fS (hx.rep (c:=c) (a:=A) (w:=w) fun p hp=>hr p (by simp[hp]))).1;have h2:=(fS (hy.rep (c:=c) (a:=A) (w:=w) fun p hp=>hr p (by simp[hp]))).1;refine⟨.bool (decide (l≠l')),?_,ay.ef (.bool _)⟩;by_cases h:l=l'<;>simp[execOp,h1,h2,eqGuard,binOp,Op.stringOp,Lib.toList_data,h]
def S.HJ{t t2:Nat}{p q:Bool}(ht:E.P.underlying t=some .bool)(hg:Gd all s guard rg)(hd:cP E d=true)(hx:bI s x (.bool p) r1)(hy:bI s y (.bool q) r2):
  aW E all ⟨some d,.binOp .eql t x y t2,ty,pos,after,guard⟩ s (rg++(r1++r2)) [(d,.bool (decide (p=q)))] []:=
 aW.val hg hd rfl (hx.looks.app hy.looks) fun c A w _ hr=>by
  have h1:=gF (hx.rep (c:=c) (a:=A) (w:=w) fun p hp=>hr p (by simp[hp]));have h2:=gF (hy.rep (c:=c) (a:=A) (w:=w) fun p hp=>hr p (by simp[hp]));refine⟨.bool (decide (p=q)),?_,ay.ef (.bool _)⟩;have:=run_eql_bool (P:=E.P) (w:=w) t p q ht;simp only[execOp,h1,h2,eqGuard,Sem.run_bind];simp[this];cases p<;>cases q<;>rfl
def S.bneq{t t2:Nat}{p q:Bool}(ht:E.P.underlying t=some .bool)(hg:Gd all s guard rg)(hd:cP E d=true)(hx:bI s x (.bool p) r1)(hy:bI s y (.bool q) r2):
  aW E all ⟨some d,.binOp .neq t x y t2,ty,pos,after,guard⟩ s (rg++(r1++r2)) [(d,.bool (decide (p≠q)))] []:=
 aW.val hg hd rfl (hx.looks.app hy.looks) fun c A w _ hr=>by
  have h1:=gF (hx.rep (c:=c) (a:=A) (w:=w) fun p hp=>hr p (by simp[hp]));have h2:=gF (hy.rep (c:=c) (a:=A) (w:=w) fun p hp=>hr p (by simp[hp]));refine⟨.bool (decide (p≠q)),?_,ay.ef (.bool _)⟩;have:=run_neq_bool (P:=E.P) (w:=w) t p q ht;simp only[execOp,h1,h2,eqGuard,Sem.run_bind];simp[this];cases p<;>cases q<;>rfl
def S.fJ{t n:Nat}{l:ba}{i:Int}(ht:F4 E.P t)(hg:Gd all s guard rg)(hd:cP E d=true)(hx:bI s x (.str l) r1)(hy:bI s y (.int .i64 i) r2)(hi:i=n)(hn:n<l.length):
  aW E all ⟨some d,.index t x y,ty,pos,after,guard⟩ s (rg++(r1++r2)) [(d,.int .u8 (l[n].toNat:Int))] []:=
 aW.val hg hd rfl (hx.looks.app hy.looks) fun c A w _ hr=>by
  have h1:=(fS (hx.rep (c:=c) (a:=A) (w:=w) fun p hp=>hr p (by simp[hp]))).1;have h2:=(cJ (hy.rep (c:=c) (a:=A) (w:=w) fun p hp=>hr p (by simp[hp]))).1;subst hi;refine⟨.int .u8 (l[n].toNat:Int),?_,ay.ef (.int ?_)⟩
  ·have hsz:(⟨l.toArray⟩:ByteArray).size=l.length:=by show l.toArray.size=_;simp
   have hg:(⟨l.toArray⟩:ByteArray)[n]?=some l[n]:=by
    rw[getElem?_pos _ _ (by rw[hsz];exact hn)];rfl
   simp[execOp,h1,h2,Instr.index,asIntOf,run_underlying ht.mD,hg]
  have:=l[n].toNat_lt;exact rx _ ⟨by omega,by omega⟩
end
end Go.Ab
namespace Go.Ab
open Go.RowKit
inductive jL(s:St):X->X->St->Prop
 |same {x:X}:mE [] x=true->jL s x x []
 |own {k n sz:Nat} {rows:List bi}:look s (2000+k)=some (.arr sz rows)->rows.length=n->jL s (.own k n) (.sl rows) [(2000+k,.arr sz rows)]
 |bO:jL s .bO (.sl []) []
 |ptr {k off:Nat} {cells cells':bi}:Nat.blt k 1000=true->look s (1000+k)=some (.box cells)->cells.all yG=true->cells.drop off=cells'->jL s (.ptr k off) (.b5 cells') [(1000+k,.box cells)]
inductive iK(s:St):bi->bi->St->Prop
 |nil:iK s [] [] []
 |cons {x y:X} {xs ys:bi} {r r':St}:jL s x y r->iK s xs ys r'->iK s (x::xs) (y::ys) (r++r')
inductive nc(s:St):X->X->St->Prop
 |p {x y:X} {r:St}:jL s x y r->bR x=false->nc s x y r
 |same {x:X}:fm x=true->nc s x x []
 |fn {f:Nat} {caps caps':bi} {r:St}:iK s caps caps' r->nc s (.fn f caps) (.fn f caps') r
 |agg {xs ys:bi} {r:St}:iK s xs ys r->xs.all (fun x=>!bR x)=true->nc s (.agg xs) (.agg ys) r
inductive jE(s:St):bi->bi->St->Prop
 |nil:jE s [] [] []
 |cons {x y:X} {xs ys:bi} {r r':St}:nc s x y r->jE s xs ys r'->jE s (x::xs) (y::ys) (r++r')
def jL.looks{s:St}{x y:X}{r:St}(h:jL s x y r):Looks s r:=by
 cases h with
 |same _=>trivial
 |own h _=>exact⟨h,Zo⟩
 |bO=>trivial
 |ptr _ h _ _=>exact⟨h,Zo⟩
def iK.looks{s:St}{x y:bi}{r:St}(h:iK s x y r):Looks s r:=by
 induction h with
 |nil=>trivial
 |cons h _ ih=>exact h.looks.app ih
def nc.looks{s:St}{x y:X}{r:St}(h:nc s x y r):Looks s r:=by
 cases h with
 |p h _=>exact h.looks
 |same _=>trivial
 |fn h=>exact h.looks
 |agg h _=>exact h.looks
def jE.looks{s:St}{x y:bi}{r:St}(h:jE s x y r):Looks s r:=by
 induction h with
 |nil=>trivial
 |cons h _ ih=>exact h.looks.app ih
section
variable{E:Env}{U:bc}{c:Ctx}{a:Act}{w:World}{s:St}
abbrev eU(w:World):Mem:=fun p=>w.cell? p
def jL.rep(hb:aM E U c a w){x y:X}{r:St}{v:Value}(h:jL s x y r)(hr:∀p∈r,Holds c a w p.1 p.2)(hx:cq c x v):cq (aD (eU w)) y v:=by
 cases h with
 |same ho=>exact(hx.cut ho).mono (fx hb.hw)
 |bO=>
  have:v=.slice none 0 0:=hx;subst this;exact ay.rP (h:=eU w) none 0 (Zr _)
 | @own k n sz rows hl hn=>
   obtain⟨hv,e,vs,h1,h2,h3,h4⟩:=ei (hr (2000+k,.arr sz rows) F);obtain⟨_,m,hv',lv,e1,e2,e3⟩:=hx;rw[h1]at e1;cases e1;rw[e3 hn.symm];have:ay (eU w) (.sl rows) hv:=ay.uF h2 h3 h4 hb.hw fun b o hbk=>by
    rfl
   exact this
 | @ptr k off cells cells' hk hl hD hd=>
   subst hd;rw[db]at hk;obtain⟨b,h1,rfl⟩:=hx;obtain⟨b',T,vs,h2,h3,h4⟩:=fD (hr (1000+k,.box cells) F) hk;rw[h1]at h2;cases h2;have hds:=lF h4 hD;have:ay (eU w) (.b5 (cells.drop off)) (.pointer (some ⟨b,off,none⟩)):=by
    refine .b5 _ b off (vs.toList.drop off) (by have:=h4.length;simp_all) ?_ ?_
    ·grind [cell_of_row]
    intro i x v hx hv;rw[ll]at hx hv;exact(hds.get hx hv).mono hb.hw
   exact this
def iK.rep(hb:aM E U c a w){xs ys:bi}{r:St}(h:iK s xs ys r):∀{vs:List Value},(∀p∈r,Holds c a w p.1 p.2)->ah (cq c) xs vs->ah (cq (aD (eU w))) ys vs:=by
 induction h with
 |nil=>intro vs _ h;exact(ah.bJ h)▸trivial
 |cons h _ ih=>
  intro vs hr hx;obtain⟨v,vs',rfl,h1,h2⟩:=hx.bD;exact⟨h.rep hb (fun p hp=>hr p (dv _ hp)) h1,ih (fun p hp=>hr p (fv _ hp)) h2⟩
def P.Aa{c:Ctx}{x:X}{v:Value}(h:cq c x v)(hn:bR x=false):aV c x v:=by cases x<;>first|exact h|cases hn
def ab.Jl{c:Ctx}{x:X}{v:Value}(h:aV c x v)(hn:bR x=false):cq c x v:=by cases x<;>first|exact h|cases hn
def P.Ad{c:Ctx}{x:X}{v:Value}(h:cq c x v)(hn:bR x=false):bt c x v:=by cases x<;>first|exact h|cases hn
def jL.bR{x y:X}{r:St}(h:jL s x y r)(hx:bR x=false):bR y=false:=by
 cases h with
 |same _=>exact hx
 |own _ _=>rfl
 |bO=>rfl
 |ptr _ _ _ _=>rfl
def nc.rep(hb:aM E U c a w){x y:X}{r:St}{v:Value}(h:nc s x y r)(hr:∀p∈r,Holds c a w p.1 p.2)(hx:bK c x v):bt (aD (eU w)) y v:=by
 cases h with
 |p h hn=>
  have hp:cq c x v:=by cases x<;>first|exact hx|cases hn
  exact P.Ad (h.rep hb hr hp) (h.bR hn)
 |same ho=>
  simp only[fm,Zw,lA]at ho;exact((T.Ad hx ho.2).cut ho.1).mono (fx hb.hw)
 |fn h=>obtain⟨vs,h1,h2⟩:=hx;exact⟨vs,h1,h.rep hb hr h2⟩
 | @agg xs ys _ h hn=>
   obtain⟨vs,h1,h2⟩:=hx;have hP:∀{xs:bi}{vs:List Value},ah (aV c) xs vs->xs.all (fun x=>!bR x)=true->ah (cq c) xs vs:=by
    intro xs
    induction xs with
    |nil=>intro vs h _;exact(ah.bJ h)▸trivial
    |cons x xs ih=>
     intro vs h ho;obtain⟨v,vs',rfl,q1,q2⟩:=h.bD;simp only[ee,Zw,lA]at ho;exact⟨ab.Jl q1 ho.1,ih q2 (by simp_all)⟩
   have hC:∀{xs ys:bi}{r:St}{vs:List Value},iK s xs ys r->xs.all (fun x=>!bR x)=true->ah (cq (aD (eU w))) ys vs->ah (aV (aD (eU w))) ys vs:=by
    intro xs ys r vs hl
    induction hl generalizing vs with
    |nil=>intro _ h;exact(ah.bJ h)▸trivial
    |cons h _ ih=>
     intro ho hx;obtain⟨v,vs',rfl,q1,q2⟩:=hx.bD;simp only[ee,Zw,lA]at ho;exact⟨P.Aa q1 (h.bR ho.1),ih (by simp_all) q2⟩
   exact⟨vs,h1,hC h hn (h.rep hb hr (hP h2 hn))⟩
def jE.rep(hb:aM E U c a w){xs ys:bi}{r:St}(h:jE s xs ys r):∀{vs:List Value},(∀p∈r,Holds c a w p.1 p.2)->ah (bK c) xs vs->ah (bt (aD (eU w))) ys vs:=by
 induction h with
 |nil=>intro vs _ h;exact(ah.bJ h)▸trivial
 |cons h _ ih=>
  intro vs hr hx;obtain⟨v,vs',rfl,h1,h2⟩:=hx.bD;exact⟨h.rep hb (fun p hp=>hr p (dv _ hp)) h1,ih (fun p hp=>hr p (fv _ hp)) h2⟩
end
def yZ:X->Bool
 |.int _ _|.bool _|.str _=>true
 |_=>false
def Ae:X->Bool
 |.cf xs=>xs.all yZ
 |x=>yZ x
def tf{c c':Ctx}{x:X}{v:Value}(hs:yZ x=true)(h:bt c x v):bt c' x v:=by
 cases x<;>first|(cases h;first|exact ay.int ‹_› |exact ay.bool _|exact ay.str _ ‹_›)|cases hs
def ql{c c':Ctx}{x:X}{v:Value}(hs:Ae x=true)(h:bK c x v):bK c' x v:=by
 have all:∀{xs:bi}{vs:List Value},ah (bt c) xs vs->xs.all yZ=true->ah (bt c') xs vs:=by
  intro xs
  induction xs with
  |nil=>intro vs h _;exact(ah.bJ h)▸trivial
  |cons x xs ih=>
   intro vs h ho;obtain⟨v,vs',rfl,q1,q2⟩:=h.bD;simp only[ee,Zw]at ho;exact⟨tf ho.1 q1,ih q2 ho.2⟩
 cases x
 case cf xs=>obtain⟨vs,h1,h2⟩:=h;exact⟨vs,h1,all h2 hs⟩
 all_goals
  simp only[bK]at h⊢;exact tf hs h
def qM{E:Env}{all:Array Oper}{s r rg:St}{d ty f:Nat}{pos:String}{after:Array Edge}{guard:Option (Nat×Bool)}{fo:Operand}{os:List Operand}{at_:Array TypeId}{ys caps:bi}{res:X}
  (hg:Gd all s guard rg) (hd:cP E d=true) (hl:Looks s r) (hcall:∀args w,(callFunc f args).run E.P w=.ok (.enter f args) w) (hf:EK E f (ys++caps) res) (hs:Ae res=true)
  (hargs:∀U c a w,aM E U c a w->(∀p∈r,Holds c a w p.1 p.2)->ah (bt (aD (eU w))) ys (os.map a.eval)/\∃cvs:List Value,a.eval fo=.func (.func f) #[] cvs.toArray/\ah (bt (aD (eU w))) caps cvs):
  aW E all ⟨some d,.call {callee:=.value fo,args:=os.toArray,argTypes:=at_},ty,pos,after,guard⟩ s (rg++r) [(d,res)] []:=by
 simp only[Zw,db]at hd;refine⟨?_,hg.looks.app hl⟩;intro U c a w hb hr _ next Q hn
 have hw:=hg.wanted (o:=⟨some d,.call {callee:=.value fo,args:=os.toArray,argTypes:=at_},ty,pos,after,guard⟩) (fun p hp=>hr p (dv _ hp));obtain⟨ha,cvs,hfo,hc⟩:=hargs U c a w hb fun p hp=>hr p (fv _ hp)
 unfold gh;rw[Zn hw];refine⟨fun _ _=>trivial,?_⟩;rw[Oper.semAt_eq _ _ _ fun cl he=>by cases he];have hrun:(execOp a.eval ⟨some d,.call {callee:=.value fo,args:=os.toArray,argTypes:=at_},ty,pos,after,guard⟩).run E.P w=.ok (.enter f (os.map a.eval++cvs).toArray) w:=by
  simp_all[execOp,resolve,Deferred.ofValue,invoke]
 rw[hrun];refine⟨Z,?_⟩;have hcalls:=hf (eU w) w (os.map a.eval++cvs) ⟨U,c,a,hb⟩ (fun p v hp=>hp) (ha.append hc);have h1:CallsIn E.ac (0 - 1) E.P f (os.map a.eval++cvs).toArray w _:=(callsIn_wide (n:=0)).2 hcalls;refine h1.mono ?_;rintro e w' ⟨v,h',rfl,hB,_,_,_,hres⟩;have hdt:d<a.tmps.size:=by rw[hb.nt];exact hd.2
 have hb':aM E U c a w':=hb.below_grow hB (Mem.le_refl _) (fun p v e=>.inl e) fun p v e=>by
  have h1:=hb.hw p v e;have h2:p.block<w.heap.size:=block_lt_of_cell h1;rw[hB.cell h2];exact h1
 refine hn c _ w' (hb'.put _ _) (Ext.refl c) ?_ ?_
 ·intro p hp;simp only[df]at hp;subst hp;unfold Holds;rw[Zn hd.1,cE hdt];exact ql hs hres
 intro key y hk hy;have hne:d≠key:=hk (d,res) F;by_cases h1:key<1000
 ·refine Holds.put ?_ hne v;unfold Holds at hy⊢;simp_all
 exact(Holds.below hb hB (Ext.refl c) (fun _ _ _ e=>e) rfl (fun _ _ e=>.inl e) hb'.hw h1 hy).put hne v
section
variable{E:Env}{all:Array Oper}{s r r1 r2 r3 rg:St}{d ty:Nat}{pos:String}{after:Array Edge}{guard:Option (Nat×Bool)}{x y z:Operand}
def S.callL{f:Nat}{os:List Operand}{at_:Array TypeId}{xs ys:bi}{res:X}(hf:Ct E.P f ys res)(hcall:∀args w,(callFunc f args).run E.P w=.ok (.enter f args) w)(hg:Gd all s guard rg)(hd:cP E d=true)
  (ha:fE s os xs r) (hl:jE s xs ys r2) (hs:Ae res=true):aW E all ⟨some d,.call {callee:=.value (.func f),args:=os.toArray,argTypes:=at_},ty,pos,after,guard⟩ s (rg++(r++r2)) [(d,res)] []:=
 qM (caps:=[]) hg hd (ha.looks.app hl.looks) hcall (by simpa using hf.at) hs fun U c a w hb hr=>⟨hl.rep hb (fun p hp=>hr p (fv _ hp)) (ha.rep fun p hp=>hr p (dv _ hp)),[],rfl,Zo⟩
def S.uz{f:Nat}{os:List Operand}{at_:Array TypeId}{xs ys:bi}{res:X}(hf:gz E.P f ys res)(hT:gO E)(hcall:∀args w,(callFunc f args).run E.P w=.ok (.enter f args) w)(hg:Gd all s guard rg)(hd:cP E d=true)
  (ha:fE s os xs r) (hl:jE s xs ys r2) (hs:Ae res=true):aW E all ⟨some d,.call {callee:=.value (.func f),args:=os.toArray,argTypes:=at_},ty,pos,after,guard⟩ s (rg++(r++r2)) [(d,res)] []:=
 qM (caps:=[]) hg hd (ha.looks.app hl.looks) hcall (by simpa using hf.at hT) hs fun U c a w hb hr=>⟨hl.rep hb (fun p hp=>hr p (fv _ hp)) (ha.rep fun p hp=>hr p (dv _ hp)),[],rfl,Zo⟩
end
end Go.Ab
namespace Go.Ab
open Go.RowKit
section
variable{E:Env}{all:Array Oper}{s r r1 r2 r3 rg:St}{d ty:Nat}{pos:String}{after:Array Edge}{guard:Option (Nat×Bool)}{x y z:Operand}
def S.bytes{src dst e:Nat}{l:ba}(hs:E.P.underlying src=some .string)(ht:E.P.underlying dst=some (.slice e))(he:E.P.underlying e=some (.int .u8))(hg:Gd all s guard rg)(hd:cP E d=true)(hx:bI s x (.str l) r):
  aW E all ⟨some d,.convert src dst x,ty,pos,after,guard⟩ s (rg++r) ((d,.sl (l.map fun b=>[.int .u8 b.toNat]))::[]) []:=
 aW.mk hg hd rfl hx.looks fun U c a w hb hr _=>by
  obtain⟨hv,hlen⟩:=fS (hx.rep (c:=c) (a:=a) (w:=w) hr);have hsz:(⟨l.toArray⟩:ByteArray).size=l.length:=by show l.toArray.size=_;simp
  have hrun:=run_bytes_of_string (P:=E.P) w src dst e ⟨l.toArray⟩ hs ht he;rw[hsz]at hrun;generalize hcap:grownCap w l.length 0 e=cap at hrun;have hc1:l.length<=cap:=by rw[←hcap];exact grownCap_ge _ _ _ _
  have hc2:cap<=maxLen:=by rw[←hcap];exact grownCap_le_maxLen _ _ _ _ hlen
  generalize hcells:bytesRow (⟨l.toArray⟩:ByteArray) cap=cells at hrun;generalize hob:Obj.cells cells e (cells.size,cells.size+1)=ob at hrun;have hB:Below w.heap.size w (w.drew.alloc ob):=(Below.refl _ w).drew.alloc (Zq _) ob;have hnewb:(w.drew.alloc ob).heap[w.heap.size]?=some ob:=heap_alloc_new w.drew ob;have hcell:∀j u,cells[j]?=some u->(w.drew.alloc ob).cell? ⟨w.heap.size,j,none⟩=some u:=by
   intro j u hu;subst hob;rw[cell_of_row _ w.heap.size j cells e _ hnewb];exact hu
  have hget:∀(j:Nat)(b:UInt8),l[j]?=some b->cells[j]?=some (Value.int .u8 b.toNat):=by
   intro j b hj;have hjl:j<l.length:=(dq.1 hj).1;rw[←hcells];simp[bytesRow,EQ,hjl];have:=(dq.1 hj).2;rw[this]
  obtain⟨h',hh'⟩:∃h':Mem,h'=fun p=>if p.block=w.heap.size then(w.drew.alloc ob).cell? p else c.h p:=⟨_,rfl⟩
  have hle:Mem.le c.h h':=by
   intro p u hp;rw[hh'];dsimp only;rw[Zm (by have:=block_lt_of_cell (hb.hw p u hp);omega)];exact hp
  have hnw:∀p u,h' p=some u->c.h p=some u\/w.heap.size<=p.block:=fun p u hp=>by
   rw[hh']at hp;dsimp only at hp;split at hp
   ·exact .inr I
   exact .inl hp
  have hbase:=hb.below_grow hB hle hnw (fun p u hp=>by
   rw[hh']at hp;dsimp only at hp;split at hp
   ·exact hp
   rw[hB.cell (block_lt_of_cell (hb.hw p u hp))];exact hb.hw p u hp)
  have hext:Ext c ⟨h',c.loc,c.arr,c.Y⟩:=⟨hle,fun _ _ e=>e,fun _ m hv lv e=>⟨m,hv,lv,e,Zq _,fun _=>rfl⟩⟩;refine⟨.slice (some ⟨w.heap.size,0,none⟩) l.length cap,⟨h',c.loc,c.arr,c.Y⟩,_,?_,hbase,hext,?_,(fun p hp=>by cases hp),fun key u hkey _ hu=>Holds.below hb hB hext (fun _ _ _ e=>e) rfl hnw hbase.hw hkey hu⟩
  ·simp only[execOp,hv];rw[Sem.run_bind,hrun];rfl
  have:ay h' (.sl (l.map fun b=>[X.int .u8 b.toNat])) (.slice (some ⟨w.heap.size,0,none⟩) (l.map fun b=>[X.int .u8 b.toNat]).length cap):=by
   have hfl:(l.map fun b=>[X.int .u8 (b.toNat:Int)]).flatten=l.map fun b=>X.int .u8 b.toNat:=by
    clear hcells hob hcell hget hh' hle hbase hnw hext hnewb hB hrun hcap hc1 hc2 hlen hv hx hsz
    induction l with
    |nil=>rfl
    |cons b l ih=>simp only[fw,mr,ih,no]
   refine .sl _ _ _ _ 1 (l.map fun b=>Value.int .u8 b.toNat) (by simpa using hc1) hc2 (fun q hq=>by obtain⟨b,_,rfl⟩:=eI.1 hq;rfl) (by rw[hfl];simp) ?_ ?_
   ·intro i v hi;rw[lh]at hi;cases hli:l[i]? with
    |none=>rw[hli]at hi;cases hi
    |some b=>
     rw[hli]at hi;cases hi;rw[hh'];dsimp only;rw[Zn rfl,gk];exact hcell i _ (hget i b hli)
   intro i u v hi hv;rw[hfl,lh]at hi;rw[lh]at hv;cases hli:l[i]? with
   |none=>rw[hli]at hi;cases hi
   |some b=>
    rw[hli]at hi hv;cases hi;cases hv;exact .int (by
     have:=GE b;exact rx _ I)
  rw[Zx]at this;exact ay.ef (c:=⟨h',c.loc,c.arr,c.Y⟩) this
def kK{c:Ctx}{k n off:Nat}{v:Value}(h:bK c (.di k n off) v):∃m hv lv,c.arr k=some (m,hv,lv)/\n<=m/\(n=m->∃b l cp,hv=.slice (some ⟨b,0,none⟩) l cp/\v=.pointer (some ⟨b,off,none⟩)):=h
def S.tO{t e sz k n i:Nat}{j:Int}{rows:List bi}(hs:o7 E.P t e sz)(hg:Gd all s guard rg)(hd:cP E d=true)(hx:bI s x (.own k n) r1)(hl:look s (2000+k)=some (.arr sz rows))(hn:rows.length=n)
  (hy:bI s y (.int .i64 j) r2) (hj:j=i) (hi:i<n):aW E all ⟨some d,.indexAddr t x y,ty,pos,after,guard⟩ s (rg++(r1++(r2++[(2000+k,.arr sz rows)]))) [(d,.di k n (i * sz))] []:=
 aW.val hg hd rfl (hx.looks.app (hy.looks.app ⟨hl,Zo⟩)) fun c A w hh hr=>by
  subst hn;subst hj;obtain⟨_,m,hv,lv,e1,e2,e3⟩:=jV (hx.rep (c:=c) (a:=A) (w:=w) fun p hp=>hr p (by simp[hp]));obtain⟨hw,_⟩:=cJ (hy.rep (c:=c) (a:=A) (w:=w) fun p hp=>hr p (by simp[hp]));obtain⟨v,e',vs,g1,g2,g3,g4⟩:=ei (hr (2000+k,.arr sz rows) F);rw[e1]at g1;cases g1;have hev:=e3 rfl;rcases g2.2 with⟨_,h0⟩|⟨g,cap,cur,rfl,_⟩
  ·omega
  refine⟨.pointer (some ⟨g,i * sz,none⟩),?_,rows.length,_,_,e1,Zq _,fun _=>⟨g,rows.length,cap,rfl,rfl⟩⟩;simp[execOp,hev,hw,Instr.indexAt,asIntOf,run_underlying hs.mD,hs.size,add_off];intro h1;omega
def S.BG{T k n off sz tsz:Nat}{u:X}{rows:List bi}(ht:eT E.P T false tsz)(hg:Gd all s guard rg)(hd:cP E d=true)(hx:bI s x (.di k n off) r)(hl:look s (2000+k)=some (.arr sz rows))(hn:rows.length=n)
  (hu:rows.flatten[off]?=some u):aW E all ⟨some d,.load T x,ty,pos,after,guard⟩ s (rg++(r++[(2000+k,.arr sz rows)])) [(d,u)] []:=
 aW.val hg hd rfl (hx.looks.app ⟨hl,Zo⟩) fun c A w hh hr=>by
  subst hn;obtain⟨m,hv,lv,e1,e2,e3⟩:=kK (hx.rep (c:=c) (a:=A) (w:=w) fun p hp=>hr p (by simp[hp]));obtain⟨v,e',vs,g1,g2,g3,g4⟩:=ei (hr (2000+k,.arr sz rows) F);rw[e1]at g1;cases g1;obtain⟨b,l,cp,rfl,hp⟩:=e3 rfl;obtain⟨v,hvv,hvr⟩:=g4.eD hu;refine⟨v,?_,ay.ef hvr⟩;simp only[execOp,hp];rw[Sem.run_bind,iO ht (v:=v)]
  ·rfl
  have:=g2.cells (g:=b) rfl off v hvv;rwa [add_off,gk]at this
def S.BH{T f o k n off sz:Nat}{rows:List bi}(hf:dz E.P T f o)(hg:Gd all s guard rg)(hd:cP E d=true)(hx:bI s x (.di k n off) r)(hl:look s (2000+k)=some (.arr sz rows))(hn:rows.length=n):
  aW E all ⟨some d,.fieldAddr T x f,ty,pos,after,guard⟩ s (rg++(r++[(2000+k,.arr sz rows)])) [(d,.di k n (off+o))] []:=
 aW.val hg hd rfl (hx.looks.app ⟨hl,Zo⟩) fun c A w hh hr=>by
  subst hn;obtain⟨m,hv,lv,e1,e2,e3⟩:=kK (hx.rep (c:=c) (a:=A) (w:=w) fun p hp=>hr p (by simp[hp]));obtain⟨v,e',vs,g1,g2,g3,g4⟩:=ei (hr (2000+k,.arr sz rows) F);rw[e1]at g1;cases g1;obtain⟨b,l,cp,rfl,hp⟩:=e3 rfl;refine⟨.pointer (some ⟨b,off+o,none⟩),?_,rows.length,_,_,e1,Zq _,fun _=>⟨b,l,cp,rfl,rfl⟩⟩;simp only[execOp,hp];rw[Sem.run_bind,gZ hf];rfl
def S.qf{t e sz m k off i:Nat}{j:Int}(hs:E.P.underlying t=some (.array m e))(hsz2:∀w,(sizeOf e).run E.P w=.ok sz w)(hg:Gd all s guard rg)(hd:cP E d=true)(hx:bI s x (.ptr k off) r1)
  (hy:bI s y (.int .i64 j) r2) (hj:j=i) (hi:i<m):aW E all ⟨some d,.indexAddr t x y,ty,pos,after,guard⟩ s (rg++(r1++r2)) [(d,.ptr k (off+i * sz))] []:=
 aW.val hg hd rfl (hx.looks.app hy.looks) fun c A w hh hr=>by
  subst hj;obtain⟨b,h1,hv⟩:=iB (hx.rep (c:=c) (a:=A) (w:=w) fun p hp=>hr p (by simp[hp]));obtain⟨hw,_⟩:=cJ (hy.rep (c:=c) (a:=A) (w:=w) fun p hp=>hr p (by simp[hp]));refine⟨.pointer (some ⟨b,off+i * sz,none⟩),?_,b,h1,rfl⟩;simp[execOp,hv,hw,Instr.indexAt,asIntOf,run_underlying hs,hsz2,add_off,Instr.sureAddr];intro h2;omega
def aM.freeze{U:bc}{c:Ctx}{a:Act}{w:World}{k n:Nat}{hv:Value}(hb:aM E U c a w)(e1:c.arr k=some (n,hv,true))(hk9:k∉E.fs):
  ∃c',aM E U c' a w/\Ext c c'/\(∀p,hv.ownBlock=some p.block->c'.h p=w.cell? p)/\∀key y,¬key<1000->key≠2000+k->Holds c a w key y->Holds c' a w key y:=by
 obtain⟨h',hh'⟩:∃h':Mem,h'=fun p=>if hv.ownBlock=some p.block then w.cell? p else c.h p:=⟨_,rfl⟩
 have hblk:∀b,hv.ownBlock=some b->E.ok k b/\b<w.heap.size/\(∀o,c.h ⟨b,o,none⟩=none)/\(∀k' m' hv',c.arr k'=some (m',hv',true)->hv'.ownBlock=some b->k'=k):=fun b e=>hb.arr k _ _ b e1 e
 have hle:Mem.le c.h h':=by
  intro p u hp;rw[hh'];dsimp only;split
  ·exact hb.hw p u hp
  exact hp
 have hin:∀p u,h' p=some u->c.h p=some u\/(hv.ownBlock=some p.block/\w.cell? p=some u):=by
  grind
 have hext:Ext c ⟨h',c.loc,fun j=>if j=k then some (n,hv,false)else c.arr j,c.Y⟩:=⟨hle,fun _ _ e=>e,fun j m u lv e=>by
  grind⟩
 have harr:∀j m u,(if j=k then some (n,hv,false)else c.arr j)=some (m,u,true)->j≠k/\c.arr j=some (m,u,true):=by
  grind
 have hall:∀b,b<w.heap.size->(Ctx.mk h' c.loc (fun j=>if j=k then some (n,hv,false)else c.arr j) c.Y).all b->c.all b:=by
  intro b _ ho;rcases ho with hy|h|⟨j,m,u,h2,h3⟩
  ·exact .inl hy
  ·exact .inr (.inl h)
  exact .inr (.inr ⟨j,m,u,(harr j m u h2).2,h3⟩)
 have hwn:∀p u,h' p=some u->w.cell? p=some u:=by
  intro p u hp;rcases hin p u hp with h|h
  ·exact hb.hw p u h
  exact h.2
 refine⟨⟨h',c.loc,fun j=>if j=k then some (n,hv,false)else c.arr j,c.Y⟩,⟨hb.below,hb.hB,hb.nt,jW hb hall (fun _ _ h _=>h),jY hb hall (fun _ _ h _=>h),hwn,Mem.le_trans hb.hle hle,?_,?_,?_,?_,?_,hb.fB,?_⟩,hext,fun p hp=>by grind,?_⟩
 ·intro p u hp;rcases hin p u hp with h|h
  ·exact hb.hnew p u h
  exact .inr (.inl (Env.gN (hblk _ h.1).1 hk9))
 ·intro j b hj;obtain⟨h1,h2,h3,h4,h5⟩:=hb.loc j b hj;grind
 ·intro j m u b hj hbk;obtain⟨hjk,hj⟩:=harr j m u hj;obtain⟨h1,h2,h3,h4⟩:=hb.arr j m u b hj hbk;grind
 ·intro j hj;refine⟨(hb.used j hj).1,?_⟩;dsimp only;split
  ·rename_i e;subst e;have:=(hb.used _ hj).2;grind
  exact(hb.used j hj).2
 ·intro b hy;obtain⟨h1,h2,h3,h4⟩:=hb.Y b hy;grind
 ·intro j m u lv hj e;exact hb.fQ j m u lv hj ((Zm (show¬j=k from fun e=>hk9 (e▸hj))).symm.trans e)
 intro key u hlt hne h0;unfold Holds at h0⊢;rw[Zm hlt]at h0⊢;refine cD h0 fun h0=>?_
 split at h0
 ·rename_i h2;rw[Zn h2];obtain⟨b,o,f1,f2,f3⟩:=h0;exact⟨b,o,f1,f2,f3.mono hext⟩
 rename_i h2;rw[Zm h2];split at h0
 ·rename_i h6;rw[Zn h6];obtain⟨sz2,rows2,hv2,e2',vs2,f4,f1,f2,f3⟩:=h0;have hj:key - 2000≠k:=by omega
  generalize key - 2000=j at f1 hj;exact⟨sz2,rows2,hv2,e2',vs2,f4.mono hext,(Zm hj).trans f1,f2,f3⟩
 rename_i h6;rw[Zm h6];obtain⟨hk0,J,hx0,hJ,hJ2⟩:=h0;exact⟨hk0,J,hx0,hJ,hJ _ _ _ _ _ hJ2 hle (fun p v e=>(hin p v e).imp id fun h hy=>(hb.Y _ hy).2.2.2 _ _ _ e1 h.1) hwn (da.refl _ _ _) fun _ _=>rfl⟩
def BI{f k n sz:Nat}{rows:List bi}{xr yr:X}{at_:Array TypeId}(hcall:∀args w,(callFunc f args).run E.P w=.ok (.enter f args) w)(hg:Gd all s guard rg)(hd:cP E d=true)
  (hx:bI s x (.own k n) r) (hl:look s (2000+k)=some (.arr sz rows)) (hn:rows.length=n)
  (hpost:∀U c a w hv e vs,k<1000->aM E U c a w->c.arr k=some (n,hv,true)->w.ownsRow 0 e sz hv n vs->(∀q∈rows,q.length=sz)->ah (ay c.h) rows.flatten vs->
   Calls E.P f #[hv] w fun en w'=>∃v c',en=.returned v/\aM E U c' a w'/\Ext c c'/\bK c' xr v/\Holds c' a w' (2000+k) yr/\∀key y,¬key<1000->key≠2000+k->Holds c a w key y->Holds c' a w' key y):
  aW E all ⟨some d,.call {callee:=.value (.func f),args:=#[x],argTypes:=at_},ty,pos,after,guard⟩ s (rg++(r++[(2000+k,.arr sz rows)])) [(d,xr),(2000+k,yr)] []:=by
 simp only[Zw,db]at hd;refine⟨?_,hg.looks.app (hx.looks.app ⟨hl,Zo⟩)⟩;intro U c a w hb hr _ next Q hnx
 have hw:=hg.wanted (o:=⟨some d,.call {callee:=.value (.func f),args:=#[x],argTypes:=at_},ty,pos,after,guard⟩) (fun p hp=>hr p (dv _ hp));subst hn;obtain⟨_,m,hv,lv,e1,e2,e3⟩:=jV (hx.rep (c:=c) (a:=a) (w:=w) fun p hp=>hr p (by simp[hp]));obtain⟨v,e',vs,g1,g2,g3,g4⟩:=ei (hr (2000+k,.arr sz rows) F);rw[e1]at g1;cases g1;have hev:=e3 rfl;unfold gh;rw[Zn hw];refine⟨fun _ _=>trivial,?_⟩;rw[Oper.semAt_eq _ _ _ fun cl he=>by cases he];have hrun:(execOp a.eval ⟨some d,.call {callee:=.value (.func f),args:=#[x],argTypes:=at_},ty,pos,after,guard⟩).run E.P w=.ok (.enter f #[hv]) w:=by
  have hfo:a.eval (.func f)=.func (.func f) #[] #[]:=rfl;simp_all[execOp,resolve,Deferred.ofValue,invoke]
 rw[hrun];refine⟨Z,?_⟩;have hcalls:=hpost U c a w hv e' vs (BJ (hr (2000+k,.arr sz rows) F)) hb e1 g2 g3 g4;have h1:CallsIn E.ac (0 - 1) E.P f #[hv] w _:=(callsIn_wide (n:=0)).2 hcalls;refine h1.mono ?_;rintro en w' ⟨v,c',rfl,hb',hext,hrv,hhold,hfr⟩;have hdt:d<a.tmps.size:=by rw[hb.nt];exact hd.2
 refine hnx c' _ w' (hb'.put _ _) hext ?_ ?_
 ·intro p hp;simp only[ed,ml,or_false]at hp;rcases hp with rfl|rfl
  ·unfold Holds;rw[Zn hd.1,cE hdt];exact hrv
  exact hhold.put I v
 intro key y hk hy;have hne:d≠key:=hk (d,xr) F;have hne2:2000+k≠key:=hk (2000+k,yr) F;by_cases h1:key<1000
 ·refine Holds.put ?_ hne v;unfold Holds at hy⊢;rw[Zn h1]at hy⊢;exact hy.mono hext
 exact(hfr key y h1 (fun e=>hne2 e.symm) hy).put hne v
structure tP(P:Program)(f:Nat):Prop where
 some:∀(blk off cap:Nat)(zs:bd)(w:World),Go.Sort.Holds (Value.int .i64) w blk off zs.toArray->blk<w.heap.size->zs.length<4611686018427387904->
  Calls P f #[.slice (some ⟨blk,off,none⟩) zs.length cap] w fun e w'=>e=.returned (.tuple #[])/\∃n os,w'=Go.Sort.grow (Go.Sort.putRow (Value.int .i64) (Go.Sort.ahead w n) blk off (zs.mergeSort fun x y=>decide (x<=y)).toArray) os
 none:∀(p:Option Addr)(cap:Nat)(w:World),Calls P f #[.slice p 0 cap] w fun e w'=>e=.returned (.tuple #[])/\w'=w
theorem fC{α:Type}(g:α->X):∀l:List α,(l.map fun n=>[g n]).flatten=l.map g
 |[]=>rfl
 |n::l=>by simp only[fw,mr,fC g l,no]
def nO{h:Mem}:∀{zs:bd}{vs:List Value},ah (ay h) (zs.map fun n=>X.int .i64 n) vs->vs=zs.map (Value.int .i64)
 |[],[],_=>rfl
 |z::zs,v::vs,h=>by
  have h1:=h.1;cases h1;rw[fw,nO h.2]
 |[],_::_,h=>h.elim
 |_::_,[],h=>h.elim
theorem sC{h h':Mem}{zs ts:bd}(hs:ah (ay h) (zs.map fun n=>X.int .i64 n) (zs.map (Value.int .i64)))(ht:∀t∈ts,t∈zs):ah (ay h') (ts.map fun n=>X.int .i64 n) (ts.map (Value.int .i64)):=by
 refine ah.fb F fun i u v hu hv=>?_
 rw[lh]at hu hv;cases hi:ts[i]? with
 |none=>simp_all
 |some t=>
  rw[hi]at hu hv;cases hu;cases hv;have hm:=ht t (ce hi);obtain⟨j,hj⟩:=so hm;have h1:=hs.get (i:=j) (a:=.int .i64 t) (b:=.int .i64 t) (by simp[hj]) (by simp[hj]);cases h1;exact .int ‹_›
def S.He{f k n:Nat}{zs:bd}{at_:Array TypeId}{rows:List bi}(hf:tP E.P f)(hcall:∀args w,(callFunc f args).run E.P w=.ok (.enter f args) w)(hg:Gd all s guard rg)(hd:cP E d=true)
  (hx:bI s x (.own k n) r) (hl:look s (2000+k)=some (.arr 1 rows)) (hn:rows.length=n) (hz:rows=zs.map fun n=>[X.int .i64 n]) (hbig:n<4611686018427387904):
  aW E all ⟨some d,.call {callee:=.value (.func f),args:=#[x],argTypes:=at_},ty,pos,after,guard⟩ s (rg++(r++[(2000+k,.arr 1 rows)])) [(d,.cf []),(2000+k,.arr 1 ((zs.mergeSort fun x y=>decide (x<=y)).map fun n=>[.int .i64 n]))] []:=by
 refine BI hcall hg hd hx hl hn fun U c a w hv e vs hk1 hb e1 g2 g3 g4=>?_
 subst hz;rw[Zx]at hn;subst hn;rw[fC]at g4;have hvs:=nO g4;subst hvs;have hperm:=rp zs (fun x y=>decide (x<=y));rcases g2.2 with⟨rfl,h0⟩|⟨g,cap,cur,rfl,p1,p2,p3,p4,p5,p6⟩
 ·have:zs=[]:=ft h0;subst this;refine(hf.none Option.none 0 w).mono ?_;rintro en w' ⟨rfl,rfl⟩;have he:([]:bd).mergeSort (fun x y=>decide (x<=y))=[]:=by simp
  rw[he];exact⟨_,c,rfl,hb,Ext.refl c,⟨[],rfl,Zo⟩,(Holds.lB (e:=e) (rows:=[]) (vs:=[]) hk1 e1 (by grind) (fun _ h=>by cases h) Zo).2,fun key y _ _ h=>h⟩
 have hH:=holds_of_blockI p2 (ss:=zs) (by grind);have hlt:g<w.heap.size:=(dt.1 p2).1;refine(hf.some g 0 cap zs w hH hlt hbig).mono ?_;rintro en w' ⟨rfl,q,os,rfl⟩;obtain⟨r1,r2,r3,r4⟩:=hb.append (n':=zs.length) (v':=.slice (some ⟨g,0,none⟩) zs.length cap) e1 (grownBy_sortedI (w:=w) (g:=g) (n:=q) (os:=os) (zs.mergeSort fun x y=>decide (x<=y)).toArray) (Zq _) (fun _=>rfl) (.inl rfl) (pK g2);have hown:=ownsRow_sortedI (w:=w) (base:=0) (g:=g) (cap:=cap) (n:=q) (e:=e) (os:=os) (cur:=cur) (ss:=zs) (ts:=zs.mergeSort fun x y=>decide (x<=y)) hperm.length_eq p1 p2 p3 p4 p5;refine⟨_,_,rfl,r1,r2,⟨[],rfl,Zo⟩,(Holds.lB (e:=e) (rows:=(zs.mergeSort fun x y=>decide (x<=y)).map fun n=>[X.int .i64 n]) hk1 (by rw[Zx,hperm.length_eq];exact r3) (by rw[Zx,hperm.length_eq];exact hown)
  (fun q hq=>by grind) (by grind [fC,sC])).2,fun key y h1 h2 h3=>r4 key y h1 h2 h3⟩
def Good.nP{U:bc}{a:Act}{w:World}{b i k sz:Nat}{cells cells':bi}(hg:Good E U s a w)(hb:look s (1000+b)=some (.box cells))(hb2:Nat.blt b 1000=true)(hi:cells[i]?=some .bO)(hc:cells.set i (.own k 0)=cells')(hk:(U.contains k)=false)(hk9:k∉E.fs)(hk1:Nat.blt k 1000=true):
  Good E (k::U) ((1000+b,.box cells')::(2000+k,.arr sz [])::s) a w:=by
 subst hc;obtain⟨c,hbs,hh⟩:=hg;have hkU:k∉U:=by grind
 rw[db]at hb2 hk1;obtain⟨g1,g2,g3,g4⟩:=hbs.lQ hk9 hkU (n:=0) (v:=.slice none 0 0) (Below.refl _ w) (.inl rfl);refine⟨_,g1,fun key y hy=>?_⟩;simp only[look]at hy;split at hy
 ·rename_i h;have:=Nat.eq_of_beq_eq_true h;cases hy;subst this;obtain⟨b',T',vs,h2,h3,h4⟩:=fD (hh _ _ hb) hb2;refine(Holds.sD hb2 (g2.loc _ _ h2) h3 ?_).2;refine ah.fb (by simpa using h4.length) fun j u v hu hv=>?_
  rw[pj]at hu;split at hu
  ·rename_i hij;subst hij;split at hu
   ·cases hu;have hv0:v=.slice none 0 0:=h4.get hi hv;subst hv0;exact⟨⟨none,0,0,rfl⟩,0,_,_,g3,Zq _,fun _=>rfl⟩
   cases hu
  exact(h4.get hu hv).mono g2
 split at hy
 ·rename_i h;have:=Nat.eq_of_beq_eq_true h;cases hy;subst this;exact(Holds.lB (e:=0) (rows:=[]) (vs:=[]) I g3 (uf w _ 0 sz) (fun _ h=>by cases h) Zo).2
 have h0:=hh key y hy;by_cases hlt:key<1000
 ·unfold Holds at h0⊢;rw[Zn hlt]at h0⊢;exact h0.mono g2
 simp_all
def OK.nP{U:bc}{code:Code}{Q:bo}(b i k sz:Nat){cells cells':bi}(hb:look s (1000+b)=some (.box cells))(hb2:Nat.blt b 1000=true)(hi:cells[i]?=some .bO)(hc:cells.set i (.own k 0)=cells')(hk:(U.contains k)=false)
 (h:OK E code Q (k::U) ((1000+b,.box cells')::(2000+k,.arr sz [])::s)) (hk9:E.fs.contains k=false:=by rfl) (hk1:Nat.blt k 1000=true:=by rfl):OK E code Q U s:=fun a w hg=>h a w (hg.nP hb hb2 hi hc hk (nQ hk9) hk1)
def Good.Yp{U:bc}{a:Act}{w:World}{b i k n sz:Nat}{rows:List bi}{cells cells':bi}(hg:Good E U s a w)(hb:look s (1000+b)=some (.box cells))(hb2:Nat.blt b 1000=true)(hi:cells[i]?=some (.own k n))(hl:look s (2000+k)=some (.arr sz rows))(hn:rows.length=n)
  (hc:cells.set i (.sl rows)=cells') (hk9:k∉E.fs):Good E U ((1000+b,.box cells')::(2000+k,.any)::s) a w:=by
 subst hc;subst hn;obtain⟨c,hbs,hh⟩:=hg;rw[db]at hb2;obtain⟨hv,e',vs,g1,g2,g3,g4⟩:=ei (hh _ _ hl);obtain⟨c',f1,f2,f3,f4⟩:=hbs.freeze g1 hk9;refine⟨c',f1,fun key y hy=>?_⟩;simp only[look]at hy;split at hy
 ·rename_i h;have:=Nat.eq_of_beq_eq_true h;cases hy;subst this;obtain⟨b',T',vs2,h2,h3,h4⟩:=fD (hh _ _ hb) hb2;refine(Holds.sD hb2 (f2.loc _ _ h2) h3 ?_).2;refine ah.fb (by simpa using h4.length) fun j u v hu hv'=>?_
  rw[pj]at hu;split at hu
  ·rename_i hij;subst hij;split at hu
   ·cases hu;obtain⟨_,m,hv0,lv,e1,e2,e3⟩:=h4.get hi hv';rw[g1]at e1;cases e1;rw[e3 rfl];exact ay.Aa (c:=c') (ay.uF g2 g3 g4 f2.h fun b o hbk=>f3 _ hbk)
   cases hu
  exact(h4.get hu hv').mono f2
 split at hy
 ·rename_i h;have:=Nat.eq_of_beq_eq_true h;cases hy;subst this;unfold Holds;grind
 rename_i hne1 hne2;have h0:=hh key y hy;have hne:key≠2000+k:=fun e=>hne2 (by simp_all)
 by_cases hlt:key<1000
 ·unfold Holds at h0⊢;rw[Zn hlt]at h0⊢;exact h0.mono f2
 simp_all
def OK.Yp{U:bc}{code:Code}{Q:bo}(b i:Nat){k n sz:Nat}{rows:List bi}{cells cells':bi}(hb:look s (1000+b)=some (.box cells))(hb2:Nat.blt b 1000=true)(hi:cells[i]?=some (.own k n))(hl:look s (2000+k)=some (.arr sz rows))(hn:rows.length=n)
 (hc:cells.set i (.sl rows)=cells') (h:OK E code Q U ((1000+b,.box cells')::(2000+k,.any)::s)) (hk9:E.fs.contains k=false:=by rfl):OK E code Q U s:=fun a w hg=>h a w (hg.Yp hb hb2 hi hl hn hc (nQ hk9))
def OK.Xq{U:bc}{c:Code}{Q:bo}(t i:Nat){us:bi}(rows:List bi)(ht:Nat.blt t 1000=true)(hl:look s t=some (.agg us))(hi:us[i]?=some (.sl rows))(h:rows.length<=maxLen->OK E c Q U s):OK E c Q U s:=by
 intro a w hg;refine h ?_ a w hg;obtain⟨cx,hb,hh⟩:=hg;obtain⟨vs,_,h2⟩:=(hh _ _ hl).slot ht;obtain⟨v,hv,hr⟩:=h2.eD hi;obtain⟨a,cap,_,p1,p2,_⟩:=kg (c:=cx) (ay.ef (show ay cx.h (.sl rows) v from hr));omega
structure Hf(P:Program)(t n:Nat):Prop where
 guard:P.eqGuardType P.depth t=false
 run:∀(xs ys:bd)(w:World),xs.length=n->ys.length=n->(binOp .eql t (.agg (xs.map (Value.int .i64)).toArray) (.agg (ys.map (Value.int .i64)).toArray)).run P w=.ok (.bool (decide (xs=ys))) w
 runN:∀(xs ys:bd)(w:World),xs.length=n->ys.length=n->(binOp .neq t (.agg (xs.map (Value.int .i64)).toArray) (.agg (ys.map (Value.int .i64)).toArray)).run P w=.ok (.bool (decide (xs≠ys))) w
def lC{P:Program}{T d:Nat}(hi:P.underlying T=some (.int .i64))(hag:∀w,(isAgg T).run P w=.ok false w)(xs ys:bd)(w:World)(hl:xs.length=ys.length):∀(fs:List Field)(o:Nat),
  fs.map (fun f => (f.name == "_", f.type, f.offset)) = (List.range' o fs.length).map (fun i => (false, T, i)) -> o + fs.length = xs.length -> xs.take o = ys.take o ->
  (Op.eqFields (d+1) (xs.map (Value.int .i64)).toArray (ys.map (Value.int .i64)).toArray fs).run P w=.ok (decide (xs=ys)) w
 |[],o,_,ho,ht=>by
  simp_all[eK,Op.eqFields]
 |f::fs,o,hf,ho,ht=>by
  simp only[fw,ge,sg,na,qD,beq_eq_false_iff_ne]at hf;obtain⟨⟨h1,h2,h3⟩,hf⟩:=hf;simp only[ge]at ho;have hx:o<xs.length:=by omega
  have hy:o<ys.length:=by omega
  have p1:∀(l:bd)(h:o<l.length),(part f.type (l.map (Value.int .i64)).toArray f.offset).run P w=.ok (.int .i64 l[o]) w:=by
   simp_all[part]
  simp only[Op.eqFields];rw[Zn h1];simp only[Sem.run_bind,p1 xs hx,p1 ys hy,Result.andThen_ok];rw[h2,run_equalIn_int _ _ _ _ _ _ _ hi];simp only[Result.andThen_ok];by_cases he:xs[o]=ys[o]
  ·simp only[he,beq_self_eq_true,Bool.not_true,sT,if_false];exact lC hi hag xs ys w hl fs (o+1) hf I (by grind [List.take_succ_eq_append_getElem])
  have hne:xs≠ys:=fun e=>he (by subst e;rfl)
  simp[he,hne]
def Hf.z6{P:Program}{t n T:Nat}{fs:Array Field}(hg:P.eqGuardType P.depth t=false)(hu:P.underlying t=some (.struct fs))(hp:P.stoodInHeld t=false)
  (hf : fs.toList.map (fun f => (f.name == "_", f.type, f.offset)) = (List.range' 0 n).map (fun i => (false, T, i))) (hi : P.underlying T = some (.int .i64)) (hag : ∀ w, (isAgg T).run P w = .ok false w) : Hf P t n := by
 have hn:fs.toList.length=n:=by simpa using eQ List.length hf
 have hfo:P.fieldsOf t=fs:=by grind [Program.fieldsOf]
 have key:∀(xs ys:bd)(w:World),xs.length=n->ys.length=n->(Op.equalIn 10000 t (.agg (xs.map (Value.int .i64)).toArray) (.agg (ys.map (Value.int .i64)).toArray)).run P w=.ok (decide (xs=ys)) w:=by
  intro xs ys w h1 h2;rw[run_equalIn_struct w 9999 t _ _ (by simp_all) hp,hfo];exact lC (d:=9998) hi hag xs ys w I fs.toList 0 (by simp_all) I rfl
 refine⟨hg,fun xs ys w h1 h2=>?_,fun xs ys w h1 h2=>?_⟩
 all_goals simp_all[run_eql_struct,run_neq_struct]
def vu{c:Ctx}{xs:bd}{v:Value}(h:bK c (.agg (xs.map fun n=>.int .i64 n)) v):v=.agg (xs.map (Value.int .i64)).toArray:=by
 obtain⟨vs,rfl,h⟩:=h;have:∀{xs:bd}{vs:List Value},ah (aV c) (xs.map fun n=>X.int .i64 n) vs->vs=xs.map (Value.int .i64):=by
  intro xs
  induction xs with
  |nil=>intro vs h;exact(ah.bJ h)▸rfl
  |cons z zs ih=>
   intro vs h;obtain⟨v,vs',rfl,h1,h2⟩:=h.bD;cases h1;grind
 rw[this h]
def S.II{t t2 n:Nat}{us vs:List X}(xs ys:List Int)(he:Hf E.P t n)(hg:Gd all s guard rg)(hd:(Nat.blt d 1000&&Nat.blt d E.nt)=true)(hx:bI s x (.agg us) r1)(hy:bI s y (.agg vs) r2)(hxs:us=xs.map fun n=>.int .i64 n)(hys:vs=ys.map fun n=>.int .i64 n)
  (h1:xs.length=n) (h2:ys.length=n):aW E all ⟨some d,.binOp .eql t x y t2,ty,pos,after,guard⟩ s (rg++(r1++r2)) [(d,.bool (decide (xs=ys)))] []:=
 aW.val hg hd rfl (hx.looks.app hy.looks) fun c A w _ hr=>by
  subst hxs;subst hys;have e1:=vu (hx.rep (c:=c) (a:=A) (w:=w) fun p hp=>hr p (by simp[hp]));have e2:=vu (hy.rep (c:=c) (a:=A) (w:=w) fun p hp=>hr p (by simp[hp]));refine⟨_,?_,ay.ef (.bool _)⟩;have hq:(eqGuard .eql t x y (.agg (xs.map (Value.int .i64)).toArray) (.agg (ys.map (Value.int .i64)).toArray)).run E.P w=.ok () w:=by simp[eqGuard,he.guard]
  simp only[execOp,e1,e2,Sem.run_bind,hq,Result.andThen_ok,he.run xs ys w h1 h2];rfl
end
end Go.Ab
namespace Go.Ab
open Go.RowKit
structure dW(h:Mem)(Y:Nat->Prop)(w:World)(h':Mem)(Y':Nat->Prop)(w':World):Prop where
 below:da w.heap.size Y w w'
 le:Mem.le h h'
 new:∀p v,h' p=some v->h p=some v\/w.heap.size<=p.block\/Y p.block
 hw:∀p v,h' p=some v->w'.cell? p=some v
 lt:∀b,Y' b->b<w'.heap.size
 out:∀b,Y' b->b<w.heap.size->Y b
def cS{h:Mem}{c:Ctx}(hc:c.h=h):Ext (aD h) c:=⟨by grind [Mem.le_refl],(fun _ _ e=>by cases e),(fun _ _ _ _ e=>by cases e)⟩
def Hg(P:Program)(v:Value)(args:Array Value)(w:World)(R:Ending->World->Prop):Prop:=
 (∃f first caps,v=.func (.func f) first caps/\(∀args w,(callFunc f args).run P w=.ok (.enter f args) w)/\Calls P f (first++args++caps) w R)\/
 (∃l,v=.func (.yield l) #[] #[]/\YieldAt Fence.wide 0 P l args w R)
def nR(P:Program)(v:Value)(ys:bi)(res:X)(J0 J1:bm):Prop:=
 ∀(h:Mem)(Y:Nat->Prop)(w:World)(vs:List Value),(∀p v,h p=some v->w.cell? p=some v)->(∀b,Y b->b<w.heap.size)->J0 h Y w->ah (bt (aD h)) ys vs->
  Hg P v vs.toArray w fun e w'=>∃u h' Y',e=.returned u/\dW h Y w h' Y' w'/\J1 h' Y' w'/\bK (aD h') res u
section
variable{E:Env}{U:bc}{c:Ctx}{a:Act}{w w':World}{h':Mem}{Y':Nat->Prop}
def aM.Y_(hb:aM E U c a w)(hp:dW c.h c.Y w h' Y' w'):aM E U ⟨h',c.loc,c.arr,Y'⟩ a w':=by
 have hs:=hp.below.size;have none_of:∀b o,b<w.heap.size->¬c.Y b->c.h ⟨b,o,none⟩=none->h' ⟨b,o,none⟩=none:=by
  intro b o hlt hy hn;cases hh:h' ⟨b,o,none⟩with
  |none=>rfl
  |some v=>
   rcases hp.new _ _ hh with h|h|h
   all_goals grind
 have hall:∀b,b<w.heap.size->(Ctx.mk h' c.loc c.arr Y').all b->c.all b:=by
  intro b hlt h;rcases h with h|h|h
  ·exact .inl (hp.out b h hlt)
  ·exact .inr (.inl h)
  exact .inr (.inr h)
 have hsame:∀D o,¬c.all D->w.heap[D]?=some o->w'.heap[D]?=some o:=fun D o h1 h2=>(hp.below.block D (dt.1 h2).1 fun hy=>h1 (.inl hy)).trans h2
 refine⟨hb.below.trans (hp.below.mono hb.hB fun k hk hy=>(hb.Y k hy).2.1 hk),gc hb.hB hs,hb.nt,⟨hb.iP.1,fun d hd=>?_⟩,?_,hp.hw,Mem.le_trans hb.hle hp.le,?_,?_,?_,hb.used,?_,hb.fB,hb.fQ⟩
 ·obtain⟨D,h1,h2,h3,h4⟩:=hb.iP.2 d hd;grind
 ·intro p hp2;obtain⟨h1,h2,h3⟩:=hb.nS p hp2;grind
 ·intro p v hv;rcases hp.new p v hv with h|h|h
  ·exact hb.hnew p v h
  ·exact .inr (.inl (gc hb.hB h))
  rcases mx p.block E.B with h1|h1
  ·exact .inr (.inr ((hb.Y _ h).2.1 h1))
  omega
 ·intro k b hk;obtain⟨h1,h2,h3,h4,h5⟩:=hb.loc k b hk;exact⟨h1,dl h2 hs,fun o=>none_of b o h2 (fun hy=>(hb.Y b hy).2.2.1 k hk) (h3 o),h4,h5⟩
 ·intro k m hv b hk hbk;obtain⟨h1,h2,h3,h4⟩:=hb.arr k m hv b hk hbk;exact⟨h1,dl h2 hs,fun o=>none_of b o h2 (fun hy=>(hb.Y b hy).2.2.2 k m hv hk hbk) (h3 o),h4⟩
 intro b hy;refine⟨hp.lt b hy,fun hlt=>(hb.Y b (hp.out b hy (dl hlt hb.hB))).2.1 hlt,fun k hk=>?_,fun k m hv hk hbk=>?_⟩
 ·have:=(hb.loc k b hk).2.1;exact(hb.Y b (hp.out b hy this)).2.2.1 k hk
 have:=(hb.arr k m hv b hk hbk).2.1;exact(hb.Y b (hp.out b hy this)).2.2.2 k m hv hk hbk
theorem Holds.Y_(hb:aM E U c a w)(hp:dW c.h c.Y w h' Y' w'){key:Nat}{x:X}(hk:¬key<1000)(hne:key≠3000)(h:Holds c a w key x):Holds ⟨h',c.loc,c.arr,Y'⟩ a w' key x:=by
 have hext:Ext c ⟨h',c.loc,c.arr,Y'⟩:=⟨hp.le,fun _ _ e=>e,fun _ m hv lv e=>⟨m,hv,lv,e,Zq _,fun _=>rfl⟩⟩;unfold Holds at *;rw[Zm hk]at h⊢;refine cD h fun h=>?_
 split at h
 ·rename_i h2;rw[Zn h2];obtain⟨b,o,h1,h3,h4⟩:=h;exact⟨b,o,h1,(hp.below.block b (hb.loc _ _ h1).2.1 fun hy=>(hb.Y b hy).2.2.1 _ h1).trans h3,h4.mono hext⟩
 rename_i h2;rw[Zm h2];split at h
 ·rename_i h6;rw[Zn h6];obtain⟨sz,rows,hv,e,vs,hx,h1,h3,h4⟩:=h;refine⟨sz,rows,hv,e,vs,hx.mono hext,h1,⟨h3.1,h3.2.imp id ?_⟩,h4⟩;rintro⟨g,cap,cur,f1,f2,f3,r⟩;exact⟨g,cap,cur,f1,f2,(hp.below.block g (dt.1 f3).1 fun hy=>(hb.Y g hy).2.2.2 _ _ _ h1 (by rw[f1];rfl)).trans f3,r⟩
 exact absurd h.1 hne
end
section
variable{E:Env}{all:Array Oper}{s r r1 r2 r3 rg:St}{d ty:Nat}{pos:String}{after:Array Edge}{guard:Option (Nat×Bool)}{x y z:Operand}
def S.tQ{os:List Operand}{at_:Array TypeId}{ys:bi}{res:X}{Φ:Value->Prop}{J0 J1:bm}(hΦ:∀v,Φ v->nR E.P v ys res J0 J1)(hJ1:aZ J1)(hg:Gd all s guard rg)(hd:cP E d=true)
  (hx:bI s x (.cb Φ) r1) (ha:fE s os ys r) (ho:ys.all fm=true) (hl:look s 3000=some (.res J0)):
  aW E all ⟨some d,.call {callee:=.value x,args:=os.toArray,argTypes:=at_},ty,pos,after,guard⟩ s (rg++(r1++(r++[(3000,.res J0)]))) [(d,res),(3000,.res J1)] []:=by
 simp only[Zw,db]at hd;refine⟨?_,hg.looks.app (hx.looks.app (ha.looks.app ⟨hl,Zo⟩))⟩;intro U c a w hb hr _ next Q hn
 have hw:=hg.wanted (o:=⟨some d,.call {callee:=.value x,args:=os.toArray,argTypes:=at_},ty,pos,after,guard⟩) (fun p hp=>hr p (dv _ hp));have hv:Φ (a.eval x):=hx.rep (c:=c) (a:=a) (w:=w) fun p hp=>hr p (by simp[hp])
 have hJ:vw c w 3000 (.res J0):=by
  have:=hr (3000,.res J0) F;grind [Holds]
 obtain⟨_,J,e,_,hJ0⟩:=hJ;cases e;have hargs:=bY (ha.rep (c:=c) (a:=a) (w:=w) fun p hp=>hr p (by simp[hp])) ho;unfold gh;rw[Zn hw];refine⟨fun _ _=>trivial,?_⟩;rw[Oper.semAt_eq _ _ _ fun cl he=>by cases he];have fin:∀u h' Y' w',dW c.h c.Y w h' Y' w'->J1 h' Y' w'->bK (aD h') res u->next (a.put (some d) u) w':=by
  intro u h' Y' w' hp hj hres;have hdt:d<a.tmps.size:=by rw[hb.nt];exact hd.2
  have hext:Ext c ⟨h',c.loc,c.arr,Y'⟩:=⟨hp.le,fun _ _ e=>e,fun _ m hv lv e=>⟨m,hv,lv,e,Zq _,fun _=>rfl⟩⟩;refine hn ⟨h',c.loc,c.arr,Y'⟩ _ w' ((hb.Y_ hp).put _ _) hext ?_ ?_
  ·intro p hp2;simp only[ed,ml,or_false]at hp2;rcases hp2 with rfl|rfl
   ·unfold Holds;rw[Zn hd.1,cE hdt];exact hres.mono (cS (c:=⟨h',c.loc,c.arr,Y'⟩) rfl)
   unfold Holds;rw[Zm I,Zm I,Zm I];exact .inr ⟨rfl,J1,rfl,hJ1,hj⟩
  intro key y hk hy;have hne:d≠key:=hk (d,res) F;have hne2:3000≠key:=hk (3000,.res J1) F;by_cases h1:key<1000
  ·refine Holds.put ?_ hne u;unfold Holds at hy⊢;rw[Zn h1]at hy⊢;exact hy.mono hext
  exact(Holds.Y_ hb hp h1 (fun e=>hne2 e.symm) hy).put hne u
 rcases hΦ _ hv c.h c.Y w _ hb.hw (fun b hy=>(hb.Y b hy).1) hJ0 hargs with⟨f,first,caps,e1,hcall,hcalls⟩|⟨l,e1,fn,tmps,assign,body,hy,hround⟩
 ·have hrun:(execOp a.eval ⟨some d,.call {callee:=.value x,args:=os.toArray,argTypes:=at_},ty,pos,after,guard⟩).run E.P w=.ok (.enter f (first++(os.map a.eval).toArray++caps)) w:=by
   grind [execOp,resolve,Deferred.ofValue,invoke]
  rw[hrun];refine⟨Z,?_⟩;have h1:CallsIn E.ac (0 - 1) E.P f (first++(os.map a.eval).toArray++caps) w _:=(callsIn_wide (n:=0)).2 hcalls;refine h1.mono ?_;grind
 have hrun:(execOp a.eval ⟨some d,.call {callee:=.value x,args:=os.toArray,argTypes:=at_},ty,pos,after,guard⟩).run E.P w=.ok (.round l fn tmps assign body) w:=by
  simp_all[execOp,resolve,Deferred.ofValue,invoke]
 rw[hrun];refine⟨Z,?_⟩;have h1:RoundIn E.ac (0 - 1) E.P l fn tmps assign body w _:=hround;refine h1.mono ?_;grind
end
end Go.Ab
namespace Go.Ab
open Go.RowKit
def au{σ α:Type}(g:σ->α->σ×Bool):σ->List α->σ×Bool
 |s,[]=>(s,true)
 |s,x::l=>if(g s x).2=true then au g (g s x).1 l else((g s x).1,false)
def lR{σ α:Type}(g:σ->α->σ×Bool):∀(l:List α)(s:σ)(x:α),au g s (l++[x])=if(au g s l).2=true then g (au g s l).1 x else au g s l
 |[],s,x=>by
  grind [au]
 |y::l,s,x=>by
  simp only[md,au];split
  ·rename_i h;rw[lR g l]
  rfl
def BK{α:Type}(P:Program)(gf:Nat)(caps:bi)(encs:α->bi)(l:List α):Prop:=
 ∀{σ:Type}(J:σ->bm)(g:σ->α->σ×Bool)(s0:σ)(Φ:Value->Prop),(∀s,aZ (J s))->
  (∀v,Φ v->∀(i:Nat)(x:α),l[i]?=some x->(au g s0 (l.take i)).2=true->nR P v (encs x) (.bool (g (au g s0 (l.take i)).1 x).2) (J (au g s0 (l.take i)).1) (J (g (au g s0 (l.take i)).1 x).1))->
  dF P gf [] (.cb Φ::caps) [(3000,.res (J s0))] [(3000,.res (J (au g s0 l).1))] (.cf [])
def FW:Exit->Option (Option Code)
 |.normal=>some none
 |.ret=>some (some .ret)
 |.exit id=>some (some (.exit id))
 |_=>none
def xC{σ:Type}(boxes:σ->St)(p:σ×Option Code):bo:=fun e _ s=>FW e=some p.2/\Le s (boxes p.1)
def o8:bc->bi->St
 |p::ps,x::xs=>(p,x)::o8 ps xs
 |_,_=>[]
structure Rg where
 fn:FuncId
 tmps:Array Value
 ps:Array Tmp
 assign:Code
 body:Code
 D:Nat
def Rg.obj(r:Rg)(st:LoopState)(pe:Option Code):Obj:=.loop {state:=st,pending:=pe,fn:=r.fn,tmps:=r.tmps,params:=r.ps,assign:=r.assign,body:=r.body,defers:=r.D}
def Fq(pe:Option Code):LoopState:=if pe.isNone then .ready else .done
def JR(E:Env)(u:bc)(a:Act)(B1:Nat)(aw:Nat->Prop)(l:Nat)(r:Rg)(st:St)(pe:Option Code):bm:=fun h Y ar=>
 ∃c,aM E u c a ar/\Mem.le c.h h/\(∀p v,h p=some v->c.h p=some v\/(E.B<=p.block/\¬c.all p.block))/\(∀b,b<B1->¬aw b->Y b)/\(∀b,c.all b->Y b)/\ar.heap[l]?=some (r.obj (Fq pe) pe)/\¬c.all l/\(ar.heap[r.D]?=some (.deferred (some []))/\¬c.all r.D)/\
  ∀key x,look st key=some x->Holds c a ar key x
def YK{c:Ctx}{a a':Act}{w w':World}{key:Nat}{x:X}(hk:∀b,c.all b->w'.heap[b]?=w.heap[b]?)(hw:∀p v,c.h p=some v->w'.cell? p=some v)(hB:da 0 (fun _=>False) w w')(ht:a'.tmps=a.tmps)(h:Holds c a w key x):Holds c a' w' key x:=by
 unfold Holds at *;rw[ht];split at h
 ·simp_all
 rename_i h1;rw[Zm h1];refine cD h fun h=>?_
 split at h
 ·grind [xe,Ctx.all]
 rename_i h2;rw[Zm h2];split at h
 ·rename_i h6;rw[Zn h6];obtain⟨sz,rows,hv,e,vs,hx,h1,h3,h4⟩:=h;refine⟨sz,rows,hv,e,vs,hx,h1,⟨h3.1,h3.2.imp id ?_⟩,h4⟩;rintro⟨g,cap,cur,f1,f2,f3,r⟩;exact⟨g,cap,cur,f1,f2,(hk g (.inr (.inr ⟨_,_,_,h1,by rw[f1];rfl⟩))).trans f3,r⟩
 rename_i h6;rw[Zm h6];obtain⟨hk0,J,hx0,hJ,hJ2⟩:=h;exact⟨hk0,J,hx0,hJ,hJ _ _ _ _ _ hJ2 (Mem.le_refl _) (fun _ _ e=>.inl e) hw hB fun b hy=>hk b (.inl hy)⟩
def aM.keep{E:Env}{u:List Nat}{c:Ctx}{a:Act}{w w':World}(hb:aM E u c a w)(hpins:∀p∈E.pins,w'.heap[p.1]?=w.heap[p.1]?)(hB:da 0 (fun _=>False) w w')(hlow:∀b,b<E.B→w'.heap[b]?=w.heap[b]?)(hw:∀p v,c.h p=some v→w'.cell? p=some v)
  (hD:∀D,w.heap[D]?=some (.deferred (some []))->{target:=.collected D,args:=#[]}∈a.defers->w'.heap[D]?=some (.deferred (some []))):aM E u c a w':=by
 refine⟨hb.below.trans ⟨hB.os,hB.tape,hB.output,hB.size,fun k hk _=>hlow k hk⟩,gc hb.hB hB.size,hb.nt,⟨hb.iP.1,fun d hd=>?_⟩,(fun p hp=>by obtain⟨h1,h2,h3⟩:=hb.nS p hp;grind),hw,hb.hle,hb.hnew,?_,?_,hb.used,?_,hb.fB,hb.fQ⟩
 ·obtain⟨D,rfl,h2,h3,h4⟩:=hb.iP.2 d hd;simp_all
 ·intro k b hk;obtain⟨h1,h2,h3⟩:=hb.loc k b hk;exact⟨h1,dl h2 hB.size,h3⟩
 ·intro k m hv b hk hbk;obtain⟨h1,h2,h3⟩:=hb.arr k m hv b hk hbk;exact⟨h1,dl h2 hB.size,h3⟩
 intro b hy;obtain⟨h1,h2⟩:=hb.Y b hy;exact⟨dl h1 hB.size,h2⟩
theorem JR.az{E:Env}{u:bc}{a:Act}{B1 l:Nat}{aw:Nat->Prop}{r:Rg}{st:St}{pe:Option Code}(hpins:∀p∈E.pins,p.1<B1/\¬aw p.1)(hB1:E.B<=B1)(hZB:∀b,aw b->E.B<=b)(hl:l<B1/\¬aw l)(hD1:r.D<B1/\¬aw r.D)(hdef:∀D,({target:=.collected D,args:=#[]}:Deferred)∈a.defers->D<B1/\¬aw D):aZ (JR E u a B1 aw l r st pe):=by
 rintro h h' Y w w' ⟨c,hb,hle,hnw,hlow,hall,hrec,hnl,⟨hd1,hd2⟩,hh⟩ hle2 hnw2 hw' hB hY;have hw:∀p v,c.h p=some v->w'.cell? p=some v:=fun p v e=>hw' p v (hle2 p v (hle p v e))
 refine⟨c,hb.keep (fun p hp=>hY _ (hlow _ (hpins p hp).1 (hpins p hp).2)) hB (fun b hb'=>hY b (hlow b (dl hb' hB1) fun hz=>by grind)) hw (fun D h1 h2=>(hY D (hlow D (hdef D h2).1 (hdef D h2).2)).trans h1),Mem.le_trans hle hle2,?_,hlow,hall,(hY l (hlow l hl.1 hl.2)).trans hrec,hnl,⟨(hY _ (hlow _ hD1.1 hD1.2)).trans hd1,hd2⟩,fun key x hx=>YK (fun b hb'=>hY b (hall b hb')) hw hB rfl (hh key x hx)⟩;grind
def rE(E:Env)(u:bc)(c0:Ctx)(w0:World)(l:Nat)(pins:List (Nat×Obj)):Env:=⟨E.P,E.nt,u,c0,w0,some l,pins⟩
def BL(l:Nat)(p:List (Nat×Obj)):Prop:=∃r0:Loop,(l,Obj.loop r0)∈p/\(r0.defers,Obj.deferred (some []))∈p
structure lD(E Er:Env)(l:Nat):Prop where
 nS:Er.round=some l/\BL l Er.pins
 FX:gO E->gO Er
def lD.of{E:Env}{u:bc}{c:Ctx}{a:Act}{w:World}(hb:aM E u c a w){h:Mem}{l D:Nat}{r0:Loop}(hl:E.B<=l)(hD:E.B<=D\/E.X D)(hr:r0.defers=D):
  lD E (rE E u ⟨h,c.loc,c.arr,c.Y⟩ w l [(l,.loop r0),(D,.deferred (some []))]) l:=by
 refine⟨⟨rfl,r0,by simp[rE],by grind [rE]⟩,fun hT=>⟨hT.now hb,fun n hnn g hn=>?_⟩⟩;have hlt:g<E.B:=hT.FX.lt n hnn g hn;have hX:=hT.out n hnn g hn;rintro((hy|⟨k,_,hk⟩|⟨k,m,hv,_,hk,hbk⟩)|⟨p,hp,he⟩)
 ·exact hX ((hb.Y g hy).2.1 hlt)
 ·rcases(hb.loc k g hk).1 with h1|h1
  all_goals grind
 ·rcases(hb.arr k m hv g hk hbk).1 with h1|h1
  all_goals grind
 grind [rE]
def qg:∀(ps:List (Nat×Value))(t:Array Value),(ps.foldl (fun t (p:Nat×Value)=>t.setIfInBounds p.1 p.2) t).size=t.size
 |[],t=>rfl
 |p::ps,t=>by rw[pf,qg ps];simp
def jZ(k:Nat):∀(ps:List (Nat×Value))(t:Array Value),(∀p∈ps,p.1≠k)->(ps.foldl (fun t (p:Nat×Value)=>t.setIfInBounds p.1 p.2) t).getD k undef=t.getD k undef
 |[],t,_=>rfl
 |p::ps,t,h=>by
  rw[pf,jZ k ps _ fun q hq=>h q (dg _ hq)];simp_all
def sE:∀(ps:bc)(xs:bi){key:Nat}{x:X},look (o8 ps xs) key=some x->key∈ps
 |[],_,_,_,h=>by cases h
 |_::_,[],_,_,h=>by cases h
 |p::ps,y::xs,key,x,h=>by
  simp only[o8,look]at h;split at h
  ·simp_all
  exact dg _ (sE ps xs h)
def sF:∀(ps:bc)(xs:bi){key:Nat},ps.length=xs.length->look (o8 ps xs) key=none->key∉ps
 |[],_,_,_,_=>by simp
 |_::_,[],_,h,_=>by simp at h
 |p::ps,y::xs,key,hl,h=>by
  simp only[o8,look]at h;split at h
  ·cases h
  rename_i hb;have hne:key≠p:=fun e=>hb (by simp_all)
  simp only[ed,FS];exact⟨hne,sF ps xs (by grind) h⟩
def R_{c:Ctx}:∀(ps:List Nat)(xs:List X)(vs:List Value)(t:Array Value),ps.length=xs.length→ah (bt c) xs vs→ps.Pairwise (· ≠ ·)→(∀p∈ps,p<t.size)→xs.all (fun x=>!cO x)=true→
  ∀key x,look (o8 ps xs) key=some x->bK c x (((ps.zip vs).foldl (fun t (p:Nat×Value)=>t.setIfInBounds p.1 p.2) t).getD key undef)
 |[],[],_,_,_,_,_,_,_,_,_,h=>by cases h
 |p::ps,y::xs,vs,t,hl,hv,hp,ht,htup,key,x,h=>by
  obtain⟨v,vs',rfl,h1,h2⟩:=hv.bD;obtain⟨hp1,hp2⟩:=pm.1 hp;simp only[ee,Zw,lA]at htup;rw[List.zip_cons_cons,pf];simp only[o8,look]at h;split at h
  ·rename_i hb;have:=Nat.eq_of_beq_eq_true hb;subst this;cases h;rw[jZ p _ _ fun q hq=>(hp1 q.1 (List.of_mem_zip hq).1).symm];simp_all[ap.ef]
  exact R_ ps xs vs' _ (by grind) h2 hp2 (fun q hq=>by simp_all) (by simp_all) key x h
 |[],_::_,_,_,h,_,_,_,_,_,_,_=>by simp at h
 |_::_,[],_,_,h,_,_,_,_,_,_,_=>by simp at h
theorem UY{c:Ctx}{h:Mem}{a a':Act}{w:World}{key:Nat}{x:X}(hle:Mem.le c.h h)(hnw:∀p v,h p=some v->c.h p=some v\/¬c.Y p.block)(hw:∀p v,h p=some v->w.cell? p=some v)(hk:¬key<1000)(hh:Holds c a w key x):
  Holds ⟨h,c.loc,c.arr,c.Y⟩ a' w key x:=by
 have hext:Ext c ⟨h,c.loc,c.arr,c.Y⟩:=⟨hle,fun _ _ e=>e,fun _ m hv lv e=>⟨m,hv,lv,e,Zq _,fun _=>rfl⟩⟩;unfold Holds at *;rw[Zm hk]at hh⊢;refine cD hh fun hh=>?_
 split at hh
 ·rename_i h2;rw[Zn h2];obtain⟨b,o,h1,h3,h4⟩:=hh;exact⟨b,o,h1,h3,h4.mono hext⟩
 rename_i h2;rw[Zm h2];split at hh
 ·rename_i h6;rw[Zn h6];obtain⟨sz,rows,hv,e,vs,hx,h1,h3,h4⟩:=hh;exact⟨sz,rows,hv,e,vs,hx.mono hext,h1,h3,h4⟩
 rename_i h6;rw[Zm h6];obtain⟨hk0,J,hx0,hJ,hJ2⟩:=hh;exact⟨hk0,J,hx0,hJ,hJ _ _ _ _ _ hJ2 hle hnw hw (da.refl _ _ _) fun _ _=>rfl⟩
section
variable{E:Env}{u U:bc}{c0:Ctx}{w0:World}{l D:Nat}{o1 o2 o3:Obj}
def Hh{s:St}{a:Act}{w:World}(hg:Good (rE E u c0 w0 l [(l,o1),(D,o3)]) U s a w)(h1:o1.isCells=false)(h2:o2.isCells=false)(hne:o1≠.deferred (some []))(hD:D≠l):Good (rE E u c0 w0 l [(l,o2),(D,o3)]) U s a (w.putObj l o2):=by
 obtain⟨c,hb,hh⟩:=hg;obtain⟨p1,p2,p3⟩:=hb.nS (l,o1) (by simp[rE]);obtain⟨q1,q2,q3⟩:=hb.nS (D,o3) (by simp[rE]);have hX:∀b,(rE E u c0 w0 l [(l,o1),(D,o3)]).X b->(rE E u c0 w0 l [(l,o2),(D,o3)]).X b:=by
  rintro b (h|⟨p,hp,rfl⟩)
  ·exact .inl h
  refine .inr ?_;simp only[rE,ed,ml,or_false]at hp;rcases hp with rfl|rfl
  ·exact⟨(l,o2),by simp[rE],rfl⟩
  exact⟨(D,o3),by simp[rE],rfl⟩
 have ho:∀k,k≠l->(w.putObj l o2).heap[k]?=w.heap[k]?:=fun k hk=>World.putObj_heap_other hk
 have hsz:(w.putObj l o2).heap.size=w.heap.size:=by simp
 have hcell:∀p,(w.putObj l o2).cell? p=w.cell? p:=cell_putObj p3 h1 h2;have hok:∀k b,(rE E u c0 w0 l [(l,o1),(D,o3)]).ok k b->(rE E u c0 w0 l [(l,o2),(D,o3)]).ok k b:=fun k b h=>h.imp id fun h=>⟨h.1,hX b h.2⟩
 refine⟨c,⟨(hb.below.mono (Zq _) fun k _ h=>hX k h).trans ⟨rfl,rfl,rfl,by omega,fun k _ hx=>ho k fun e=>hx (.inr ⟨(l,o2),by simp[rE],e.symm⟩)⟩,by rw[hsz];exact hb.hB,hb.nt,⟨hb.iP.1,fun d hd=>?_⟩,?_,fun p v e=>by rw[hcell];exact hb.hw p v e,hb.hle,(fun p v e=>(hb.hnew p v e).imp id fun q=>q.imp id (hX _)),?_,?_,hb.used,?_,hb.fB,hb.fQ⟩,fun key x hx=>?_⟩
 ·obtain⟨D',f1,f2,f3,f4⟩:=hb.iP.2 d hd;grind [Env.B,rE]
 ·intro p hp;simp only[rE,ed,ml,or_false]at hp;rcases hp with rfl|rfl
  all_goals grind [World.putObj_heap_same]
 ·intro k b hk;rw[hsz];obtain⟨f1,f2⟩:=hb.loc k b hk;grind
 ·intro k m hv b hk hbk;rw[hsz];obtain⟨f1,f2⟩:=hb.arr k m hv b hk hbk;grind
 ·intro b hy;rw[hsz];obtain⟨f1,f2,f3⟩:=hb.Y b hy;exact⟨f1,fun h=>hX b (f2 h),f3⟩
 exact YK (fun b hb'=>ho b fun e=>p1 (e▸hb')) (fun p v e=>by rw[hcell];exact hb.hw p v e) ⟨rfl,rfl,rfl,by omega,fun k hk=>by omega⟩ rfl (hh key x hx)
end
end Go.Ab
namespace Go.Ab
open Go.RowKit
def z7{w:World}{p:Addr}{v:Value}(h:w.cell? p=some v):p=⟨p.block,p.off,none⟩:=by
 have hsp:p.spot=none:=by
  cases hsp:p.spot with
  |none=>rfl
  |some q=>grind [World.cell?]
 cases p;simp_all
def vy{E:Env}{u:bc}{c:Ctx}{a:Act}{w:World}(hb:aM E u c a w){k b:Nat}(h:c.loc k=some b):k∈u:=
 pB fun hk=>by rw[(hb.used k hk).1]at h;cases h
def sG{E:Env}{u:bc}{c:Ctx}{a:Act}{w:World}(hb:aM E u c a w){k:Nat}{q:Nat×Value×Bool}(h:c.arr k=some q):k∈u:=
 pB fun hk=>by rw[(hb.used k hk).2]at h;cases h
def qh(bx:St)(p:Nat×X):Bool:=Nat.blt p.1 1000&&(Eb [] p.2||match p.2 with
 |.ptr k _=>Nat.blt k 1000&&(match look bx (1000+k)with|some (.box _)=>true|_=>false)
 |_=>false)
def Le.mem{s r:St}(h:Le s r){k:Nat}{x:X}(hx:Ab.look r k=some x):Ab.look s k=some x:=Le.look h k x hx
section
variable{E:Env}{u U3:bc}{c:Ctx}{a a3:Act}{ar w3:World}{B1 l:Nat}{aw:Nat->Prop}{h:Mem}{Y:Nat->Prop}
def z8(hpins:∀p∈E.pins,p.1≠l)(r:Rg){slots bx bx' s3:St}{j:Option Code}{c3:Ctx}(hb:aM E u c a ar)(hEl:E.B<=l)(hD:ar.heap[r.D]?=some (.deferred (some [])))(hDl:r.D≠l)
  (hle:Mem.le c.h h) (hnw:∀p v,h p=some v->c.h p=some v\/(E.B<=p.block/\¬c.all p.block)) (hlow:∀b,b<B1->¬aw b->Y b) (hall:∀b,c.all b->Y b) (hYlt:∀b,Y b->b<ar.heap.size) (hlW:ar.heap[l]?=some (r.obj .ready none)) (hnl:¬c.all l)
  (hwW:∀p v,h p=some v->ar.cell? p=some v)
  (hb3:aM (rE E u ⟨h,c.loc,c.arr,c.Y⟩ ar l [(l,r.obj .busy none),(r.D,.deferred (some []))]) U3 c3 a3 w3) (hh3:∀key x,look s3 key=some x->Holds c3 a3 w3 key x) (hl3:Le s3 bx') (hhi:bx'.all (iQ u)=true)
  (hslots:slots.all (qh bx')=true) (hhs:∀key x,look (slots++bx) key=some x->Holds c a ar key x) (hlY:Y l):
  ∃h' Y',dW h Y ar h' Y' (w3.putObj l (r.obj (Fq j) j))/\JR E u a B1 aw l r (slots++bx') j h' Y' (w3.putObj l (r.obj (Fq j) j)):=by
 obtain⟨Er,hEr⟩:∃Er,Er=rE E u ⟨h,c.loc,c.arr,c.Y⟩ ar l [(l,r.obj .busy none),(r.D,.deferred (some []))]:=⟨_,rfl⟩;rw[←hEr]at hb3;have eB:Er.B=ar.heap.size:=by rw[hEr];rfl
 have efs:Er.fs=u:=by rw[hEr];rfl
 have ec0:Er.c0=⟨h,c.loc,c.arr,c.Y⟩:=by rw[hEr];rfl
 have ew0:Er.w0=ar:=by rw[hEr];rfl
 have eh0:Er.h0=h:=by rw[hEr];rfl
 obtain⟨p1,p2,p3⟩:=hb3.nS (l,r.obj .busy none) (by grind [rE]);obtain⟨q1,q2,q3⟩:=hb3.nS (r.D,.deferred (some [])) (by grind [rE]);simp only at p1 p3 q1 q3;have hXof:∀b,Er.X b->(Er.c0.out u b)\/b=l\/b=r.D:=by
  rintro b (h|⟨p,hp,rfl⟩)
  ·simp_all
  rw[hEr]at hp;simp only[rE,ed,ml,or_false]at hp;grind
 have hc0all:∀b,Er.c0.out u b->c.all b:=by
  rw[ec0];rintro b (hy|⟨k,_,hk⟩|⟨k,m,hv,_,hk⟩)
  ·exact .inl hy
  ·exact .inr (.inl ⟨k,hk⟩)
  exact .inr (.inr ⟨k,m,hv,hk⟩)
 obtain⟨h',hh'⟩:∃h',h'=Er.fin c3 w3:=⟨_,rfl⟩;obtain⟨c4,hc4⟩:∃c4,c4=c3.gi u h':=⟨_,rfl⟩;obtain⟨g1,g2,g3⟩:=hb3.gi;rw[efs,←hh',←hc4]at g1;rw[eh0,←hh']at g2;rw[←hh',eh0,eB]at g3;have c4h:c4.h=h':=by rw[hc4];rfl
 have c4Y:c4.Y=c3.Y:=by rw[hc4];rfl
 have sub:∀b,c4.all b->c3.all b:=by
  rw[hc4];rintro b (hy|⟨k,hk⟩|⟨k,m,hv,hk,hbk⟩)
  ·exact .inl hy
  ·exact .inr (.inl ⟨k,(dX hk).2⟩)
  exact .inr (.inr ⟨k,m,hv,(dY hk).2,hbk⟩)
 have c4out:∀b,c4.all b->c4.out u b:=by
  rintro b (hy|⟨k,hk⟩|⟨k,m,hv,hk,hbk⟩)
  ·exact .inl hy
  ·exact .inr (.inl ⟨k,(g1.loc k b hk).1,hk⟩)
  exact .inr (.inr ⟨k,m,hv,(g1.arr k m hv b hk hbk).1,hk,hbk⟩)
 have old:∀b,b<ar.heap.size->c4.all b->c.all b:=by
  intro b hlt h4;have hX:Er.X b:=by
   have:=hb3.Fs (b:=b) (by grind [pL]) I;exact this
  grind
 have lt4:∀b,c4.all b->b<w3.heap.size:=fun b h4=>hb3.FY (b:=b) (by grind [pL])
 have hs3:ar.heap.size<=w3.heap.size:=by have:=hb3.below.size;simp_all
 obtain⟨w4,hw4⟩:∃w4,w4=w3.putObj l (r.obj (Fq j) j):=⟨_,rfl⟩;rw[←hw4];have hsz:w4.heap.size=w3.heap.size:=by rw[hw4];simp
 have hoth:∀k,k≠l->w4.heap[k]?=w3.heap[k]?:=fun k hk=>by simp_all[World.putObj_heap_other]
 have hcell:∀p,w4.cell? p=w3.cell? p:=fun p=>by rw[hw4];exact cell_putObj p3 rfl rfl p
 have hrec4:w4.heap[l]?=some (r.obj (Fq j) j):=by grind [World.putObj_heap_same]
 have e3:w4.os=ar.os/\w4.tape=ar.tape/\w4.output=ar.output:=by
  have:=hb3.below;rw[ew0]at this;rw[hw4];exact⟨this.os,this.tape,this.output⟩
 have same:∀k,k<ar.heap.size->¬c.all k->k≠l->w4.heap[k]?=ar.heap[k]?:=by
  intro k hk hn hkl;rw[hoth k hkl];by_cases hkD:k=r.D
  ·simp_all
  have:=hb3.below.block k I (fun hX=>by
   grind)
  simp_all
 have hw4h:∀p v,h' p=some v->w4.cell? p=some v:=fun p v hp=>by rw[hcell];have:=g1.hw p v;simp_all
 have noD:∀p v,h' p=some v->p.block≠r.D:=by
  grind [World.cell?]
 have hlowE:∀k,k<E.B->¬E.X k->w4.heap[k]?=ar.heap[k]?:=by
  intro k hk hX;refine same k (dl hk hb.hB) ?_ I;rintro(hy|⟨n,hn⟩|⟨n,m,hv,hn,hbn⟩)
  ·exact hX ((hb.Y k hy).2.1 hk)
  ·exact Env.js (hb.loc n k hn).1 hk hX rfl
  exact Env.js (hb.arr n m hv k hn hbn).1 hk hX rfl
 have base4:aM E u c4 a w4:=by
  refine⟨hb.below.trans ⟨e3.1,e3.2.1,e3.2.2,by omega,hlowE⟩,by grind,hb.nt,⟨hb.iP.1,fun d hd=>?_⟩,(fun p hp=>by
   obtain⟨f1,f2,f3⟩:=hb.nS p hp;grind),fun p v hp=>hw4h p v (by simp_all),?_,?_,?_,?_,g1.none,?_,?_,?_⟩
  ·obtain⟨D',f1,f2,f3,f4⟩:=hb.iP.2 d hd;have hlt:=(dt.1 f4).1;refine⟨D',f1,f2,fun h4=>f3 (old D' hlt h4),(same D' hlt f3 ?_).trans f4⟩;rintro rfl;rw[hlW]at f4;cases f4
  ·rw[c4h];exact Mem.le_trans hb.hle (Mem.le_trans hle g2)
  ·intro p v hp;rw[c4h]at hp;rcases g3 p v hp with h1|h1|h1
   ·rcases hnw p v h1 with h5|⟨h5,_⟩
    ·exact hb.hnew p v h5
    omega
   ·grind
   rcases mx p.block E.B with hlo|hlo
   ·rcases hXof _ h1 with hca|e|e
    ·rcases hc0all _ hca with hy|⟨k,hk⟩|⟨k,m,hv,hk,hbk⟩
     ·exact .inr (.inr ((hb.Y _ hy).2.1 hlo))
     ·refine .inr (.inr (xf fun hx=>?_));exact Env.js (hb.loc k _ hk).1 hlo hx rfl
     refine .inr (.inr (xf fun hx=>?_));exact Env.js (hb.arr k m hv _ hk hbk).1 hlo hx rfl
    all_goals grind
   omega
  ·intro k b hk;obtain⟨f1,f2,f3,f4,f5⟩:=g1.loc k b hk;have h7:=hb3.fB k b (by grind) (by grind [dX]);rw[ec0]at h7;exact⟨(hb.loc k b h7).1,by omega,f3,f4,f5⟩
  ·intro k m hv b hk hbk;obtain⟨f1,f2,f3,f4⟩:=g1.arr k m hv b hk hbk;obtain⟨m0,hv0,lv0,k1,k2,k3,k4,k5⟩:=hb3.fQ k m hv true (by grind) (by grind [dY]);rw[ec0]at k1;have:=k4 rfl;subst this;refine⟨?_,by omega,f3,f4⟩;rcases k5 b hbk with h|h
   ·exact(hb.arr k m0 hv0 b k1 h).1
   exact .inl (by grind)
  ·intro b hy;obtain⟨f1,f2,f3⟩:=g1.Y b hy;refine⟨by omega,fun hlt=>?_,f2,f3⟩;rcases old b (dl hlt hb.hB) (.inl hy)with hy2|⟨k,hk⟩|⟨k,m,hv,hk,hbk⟩
   ·exact(hb.Y b hy2).2.1 hlt
   ·exact((hb.loc k b hk).1.resolve_left I).2
   exact((hb.arr k m hv b hk hbk).1.resolve_left I).2
  ·intro k b hk hkb;have h7:=hb3.fB k b (by rw[efs];exact(g1.loc k b hkb).1) (by rw[hc4]at hkb;exact(dX hkb).2);rw[ec0]at h7;exact hb.fB k b hk h7
  intro k m hv lv hk hka;rw[hc4]at hka;obtain⟨f1,f2⟩:=dY hka;obtain⟨m0,hv0,lv0,k1,k2,k3,k4,k5⟩:=hb3.fQ k m hv lv (by simp_all) f2;rw[ec0]at k1;obtain⟨m1,hv1,lv1,n1,n2,n3,n4,n5⟩:=hb.fQ k m0 hv0 lv0 hk k1;grind
 refine⟨h',fun b=>Y b\/c4.all b,⟨⟨e3.1,e3.2.1,e3.2.2,by omega,fun k hk hn=>same k hk (fun h=>hn (hall k h)) (fun e=>hn (e▸hlY))⟩,g2,?_,hw4h,?_,?_⟩,c4,base4,by grind [Mem.le_refl],fun p v hp=>.inl (by simp_all),fun b hb' hz=>.inl (hlow b hb' hz),fun b h4=>.inr h4,hrec4,fun h4=>p1 (sub l h4),⟨(hoth r.D hDl).trans q3,fun h4=>q1 (sub _ h4)⟩,?_⟩
 ·grind
 ·grind
 ·grind
 have bxh:∀key x,look bx' key=some x->Holds c4 a w4 key x:=by
  intro key x hx;have h7:=hh3 key x (hl3.mem hx);have h8:Holds (c3.gi u h') a w3 key x:=by
   refine Holds.gi (fs:=u) (w:=w3) (by grind [Env.nT]) ?_ (fun p v hp=>by simp_all) (da.refl _ _ _) (fun _ _=>rfl) h7 (dj.1 hhi (key,x) (cm hx));intro q v hq;rw[hh']at hq;unfold Env.fin at hq;split at hq
   ·grind
   rename_i hc;exact .inr fun hy=>hc (.inr (.inl hy))
  rw[←hc4]at h8;exact YK (fun b hb'=>hoth b fun e=>p1 (sub l (e▸hb'))) (fun p v hp=>hw4h p v (by simp_all)) ⟨by rw[hw4];rfl,by rw[hw4];rfl,by rw[hw4];rfl,by omega,fun k hk=>by omega⟩ rfl h8
 intro key x hx;rw[dA]at hx;cases hk:look slots key with
 |none=>simp_all
 |some y=>
  rw[hk]at hx;have hxy:y=x:=by grind
  subst hxy;clear hx;have hs:=dj.1 hslots (key,y) (cm hk);simp only[qh,Zw,db]at hs;have h7:=hhs key y (by rw[dA,hk];rfl);unfold Holds at h7⊢;rw[Zn hs.1]at h7⊢;have hs2:=hs.2;rw[im]at hs2;rcases hs2 with hs2|hs2
  ·exact(h7.cut hs2).mono ⟨by show Mem.le c.h c4.h;grind [Mem.le_trans],(fun k b e=>by simp[Ctx.cut]at e),(fun k m hv lv e=>by simp[Ctx.cut]at e)⟩
  cases y<;>first|cases hs2|skip
  rename_i k off;simp only[Zw,db]at hs2;obtain⟨b,e1,e2⟩:=h7;refine⟨b,?_,e2⟩;have hs3':=hs2.2;cases hlk:look bx' (1000+k)with
  |none=>simp_all
  |some z=>
   rw[hlk]at hs3';cases z<;>first|cases hs3'|skip
   obtain⟨b',T,vs,f1,f2,f3⟩:=fD (bxh _ _ hlk) hs2.1;have h9:c3.loc k=some b'/\k∈u:=by grind [dX]
   have h8:=hb3.fB k b' (by simp_all) h9.1;simp_all
end
end Go.Ab
namespace Go.Ab
open Go.RowKit
section
variable{E:Env}{u:bc}{a:Act}{ar:World}{B1 l:Nat}{aw:Nat->Prop}{h:Mem}{Y:Nat->Prop}{σ:Type}
def Dy(hpins:∀p∈E.pins,p.1≠l)(r:Rg){slots:St}{boxes:σ->St}{s0 s1:σ}{j:Option Code}{ps:bc}{xs:bi}{vs:List Value}(hEl:E.B<=l)(hl1:l<B1/\¬aw l)(hDX:E.B<=r.D\/E.X r.D)
  (hDl:r.D≠l) (htm:r.tmps=a.tmps) (hps:r.ps=ps.toArray) (hpl:ps.length=xs.length) (hpw:ps.Pairwise (· ≠ ·)) (hpt:∀p∈ps,p<E.nt) (hp1:∀p∈ps,p<1000) (htup:xs.all (fun x=>!cO x)=true)
  (hYlt:∀b,Y b->b<ar.heap.size) (hwW:∀p v,h p=some v->ar.cell? p=some v) (hJ:JR E u a B1 aw l r (slots++boxes s0) none h Y ar) (hargs:ah (bt (aD h)) xs vs)
  (hhi:(boxes s1).all (iQ u)=true) (hslots:slots.all (qh (boxes s1))=true)
  (hwalk:∀(c0:Ctx)(w0:World)(p1 p2:List (Nat×Obj)),lD E (rE E u c0 w0 l p1) l->lD E (rE E u c0 w0 l p2) l->OK (rE E u c0 w0 l p1) r.assign (fun e U s'=>e=.normal/\OK (rE E u c0 w0 l p2) r.body (den (rE E u c0 w0 l p2) (xC boxes (s1,j)) []) U s') u (o8 ps xs++(slots++boxes s0))):
  YieldAt Fence.wide 0 E.P l vs.toArray ar fun e W'=>∃v h' Y',e=.returned v/\dW h Y ar h' Y' W'/\JR E u a B1 aw l r (slots++boxes s1) j h' Y' W'/\bK (aD h') (.bool j.isNone) v:=by
 obtain⟨c,hb,hle,hnw,hlow,hall,hrec,hnl,⟨d4,d3⟩,hh⟩:=hJ;have hvl:=hargs.length;have hrec':ar.heap[l]?=some (.loop {state:=.ready,pending:=none,fn:=r.fn,tmps:=r.tmps,params:=r.ps,assign:=r.assign,body:=r.body,defers:=r.D}):=hrec;refine⟨r.fn,_,r.assign,r.body,run_yield hrec' (by simp_all),roundIn_of_wpIn trivial ?_⟩;have hfold:(r.ps.zip vs.toArray).foldl (fun tmps (x:Nat×Value)=>match x with|(t,a)=>tmps.setIfInBounds t a) r.tmps=(ps.zip vs).foldl (fun t (p:Nat×Value)=>t.setIfInBounds p.1 p.2) a.tmps:=by
  simp_all
 rw[hfold];obtain⟨t1,ht1⟩:∃t1,t1=(ps.zip vs).foldl (fun t (p:Nat×Value)=>t.setIfInBounds p.1 p.2) a.tmps:=⟨_,rfl⟩;rw[←ht1];have hsz:t1.size=a.tmps.size:=by simp_all[qg]
 have hlW:=(dt.1 hrec).1;have hnoneOf:∀b,c.all b->∀o,c.h ⟨b,o,none⟩=none->h ⟨b,o,none⟩=none:=by
  intro b hb2 o hn;cases hq:h ⟨b,o,none⟩<;>grind
 have good:Good (rE E u ⟨h,c.loc,c.arr,c.Y⟩ ar l [(l,r.obj .ready none),(r.D,.deferred (some []))]) u (o8 ps xs++(slots++boxes s0)) {tmps:=t1,defers:=[]} ar:=by
  refine⟨⟨h,c.loc,c.arr,c.Y⟩,⟨da.refl _ _ _,Zq _,by show t1.size=E.nt;rw[hsz,hb.nt],⟨.nil,fun d hd=>by cases hd⟩,?_,hwW,Mem.le_refl _,fun p v e=>.inl e,?_,?_,hb.used,?_,fun k b _ e=>e,fun k m hv lv _ e=>⟨m,hv,lv,e,Zq _,fun _=>rfl,id,fun _ h=>.inl h⟩⟩,?_⟩
  ·intro p hp;simp only[rE,ed,ml,or_false]at hp;rcases hp with rfl|rfl
   ·exact⟨hnl,rfl,hrec⟩
   exact⟨d3,rfl,d4⟩
  ·intro k b hk;obtain⟨f1,f2,f3,f4⟩:=hb.loc k b hk;exact⟨.inr ⟨vy hb hk,.inl (.inr (.inl ⟨k,vy hb hk,hk⟩))⟩,f2,fun o=>hnoneOf b (.inr (.inl ⟨k,hk⟩)) o (f3 o),f4⟩
  ·intro k m hv b hk hbk;obtain⟨f1,f2,f3,f4⟩:=hb.arr k m hv b hk hbk;exact⟨.inr ⟨sG hb hk,.inl (.inr (.inr ⟨k,m,hv,sG hb hk,hk,hbk⟩))⟩,f2,fun o=>hnoneOf b (.inr (.inr ⟨k,m,hv,hk,hbk⟩)) o (f3 o),f4⟩
  ·intro b hy;obtain⟨f1,f2,f3⟩:=hb.Y b hy;exact⟨f1,fun _=>.inl (.inl hy),f3⟩
  intro key x hx;rw[dA]at hx;cases hk:look (o8 ps xs) key with
  |some y=>
   rw[hk]at hx;have hxy:y=x:=by grind
   subst hxy;have hkp:=sE ps xs hk;unfold Holds;rw[Zn (hp1 key hkp)];simp only[ht1];exact(R_ ps xs vs a.tmps hpl hargs hpw (fun p hp=>by rw[hb.nt];grind) htup key y hk).mono (cS (c:=⟨h,c.loc,c.arr,c.Y⟩) rfl)
  |none=>
   rw[hk]at hx;have h0:=hh key x hx;by_cases hlt:key<1000
   ·unfold Holds at h0⊢;rw[Zn hlt]at h0⊢;have hg:t1.getD key undef=a.tmps.getD key undef:=by
     rw[ht1];exact jZ key _ _ fun q hq e=>sF ps xs hpl hk (e▸(List.of_mem_zip hq).1)
    show bK _ x (t1.getD key undef);rw[hg];exact h0.mono (show Ext c ⟨h,c.loc,c.arr,c.Y⟩from⟨hle,fun _ _ e=>e,fun _ m hv lv e=>⟨m,hv,lv,e,Zq _,fun _=>rfl⟩⟩)
   exact UY hle (fun p v e=>(hnw p v e).imp id fun h hy=>h.2 (.inl hy)) hwW hlt h0
 have hF:∀p,(rE E u ⟨h,c.loc,c.arr,c.Y⟩ ar l p).ac=Fence.wide.inRound l:=fun _=>rfl
 have hwalk1:=hwalk ⟨h,c.loc,c.arr,c.Y⟩ ar [(l,r.obj .ready none),(r.D,.deferred (some []))] [(l,r.obj .busy none),(r.D,.deferred (some []))] (lD.of hb hEl hDX rfl) (lD.of hb hEl hDX rfl) _ _ good;rw[hF]at hwalk1;refine wpIn_mono hwalk1 ?_;rintro e a1 w1 ⟨U',s',hg1,rfl,hbody⟩;have hrec1:w1.heap[l]?=some (r.obj .ready none):=by
  obtain⟨c',hb',_⟩:=hg1;exact(hb'.nS (l,r.obj .ready none) (by simp[rE])).2.2
 have hg2:=Hh (o2:=r.obj .busy none) hg1 rfl rfl (by intro e;cases e) hDl;refine⟨_,run_beginRound (r:={state:=.ready,pending:=none,fn:=r.fn,tmps:=r.tmps,params:=r.ps,assign:=r.assign,body:=r.body,defers:=r.D}) hrec1 rfl,?_⟩;have hbody1:=hbody a1 _ hg2;rw[hF]at hbody1;refine wpIn_mono hbody1 ?_;rintro e3 a3 w3 ⟨U3,s3,⟨c3,hb3,hh3⟩,hj,hl3⟩;have hrec3:w3.heap[l]?=some (.loop {state:=.busy,pending:=none,fn:=r.fn,tmps:=r.tmps,params:=r.ps,assign:=r.assign,body:=r.body,defers:=r.D}):=(hb3.nS (l,r.obj .busy none) (by simp[rE])).2.2;obtain⟨h',Y',f1,f2⟩:=z8 hpins r (slots:=slots) (bx:=boxes s0) (j:=j) hb hEl d4 hDl hle hnw hlow hall hYlt hrec hnl hwW hb3 hh3 hl3 hhi hslots hh (hlow l hl1.1 hl1.2);have hend:=run_endRound (P:=E.P) j hrec3;have fin:∃v w',(Instr.endRound l j).run E.P w3=.ok v w'/\∃v' h' Y',Ending.returned v=.returned v'/\dW h Y ar h' Y' w'/\JR E u a B1 aw l r (slots++boxes s1) j h' Y' w'/\bK (aD h') (.bool j.isNone) v':=
  ⟨_,_,hend,.bool j.isNone,h',Y',rfl,f1,f2,ay.bool _⟩
 cases e3 with
 |normal=>cases hj;exact fin
 |ret=>cases hj;exact fin
 |exit id=>cases hj;exact fin
 |goto t=>cases hj
 |panic ch=>cases hj
 |outgrown=>cases hj
end
section
variable{E:Env}{Q:bo}{k:List Kn}{U:bc}{s:St}
def stepG{σ α:Type}(step:σ->α->σ×Option Code)(p:σ×Option Code)(x:α):(σ×Option Code)×Bool:=(step p.1 x,(step p.1 x).2.isNone)
def oC{σ α:Type}(step:σ->α->σ×Option Code)(s0:σ):∀(l:List α)(p:σ×Option Code),p.2=none->((au (stepG step) p l).2=true↔(au (stepG step) p l).1.2=none)
 |[],p,h=>by simp[au,h]
 |x::l,p,h=>by
  simp only[au];split
  ·rename_i h1;exact oC step s0 l _ (by simpa[stepG]using h1)
  grind [stepG]
def qB(kb:List (Nat×bi)):St:=kb.map fun p=>(1000+p.1,.box p.2)
def x8{α:Type}(P:Program)(gf:Nat)(kb:List (Nat×bi))(caps:bi)(encs:α->bi)(l:List α):Prop:=
 ∀{σ:Type}(J:σ->bm)(g:σ->α->σ×Bool)(s0:σ)(Φ:Value->Prop),(∀s,aZ (J s))->
  (∀v,Φ v->∀(i:Nat)(x:α),l[i]?=some x->(au g s0 (l.take i)).2=true->nR P v (encs x) (.bool (g (au g s0 (l.take i)).1 x).2) (J (au g s0 (l.take i)).1) (J (g (au g s0 (l.take i)).1 x).1))->
  dF P gf (kb.map (·.1)) (.cb Φ::caps) ((3000,.res (J s0))::qB kb) [(3000,.res (J (au g s0 l).1))] (.cf [])
def vc(kb:List (Nat×bi)):X->Bool
 |.ptr k _=>(kb.map (·.1)).contains k
 |x=>mE [] x&&!bR x
def OK.qX{σ α:Type}{go:Operand}{ps:bc}{assign body:Code}{gf:Nat}{caps:bi}{encs:α->bi}{L:List α}{r:St}(u:bc)(slots:St)(boxes:σ->St)(s0:σ)(step:σ->α->σ×Option Code)
  (kb:List (Nat×bi)) (hseq:x8 E.P gf kb caps encs L) (hkb:Looks s (qB kb)) (hkd:kb.all (fun p=>p.2.all yG&&Nat.blt p.1 1000&&!u.contains p.1&&!E.fs.contains p.1)=true) (hcall:∀args w,(callFunc gf args).run E.P w=.ok (.enter gf args) w) (hro:E.round=none\/∃l0,E.round=some l0/\BL l0 E.pins) (hg:bI s go (.fn gf caps) r) (hc1:caps.all (vc kb)=true)
  (hle:Le s (slots++boxes s0)) (ho:∀q,(slots++boxes q).all (eP u)=true) (hhi:∀q,(boxes q).all (iQ u)=true) (hslots:∀q,slots.all (qh (boxes q))=true)
  (hpl:∀x,(encs x).length=ps.length) (htup:∀x,(encs x).all (fun x=>!cO x)=true) (hpw:ps.Pairwise (· ≠ ·)) (hpt:ps.all (fun p=>Nat.blt p E.nt&&Nat.blt p 1000)=true)
  (hround:∀(i:Nat)(x:α)(q:σ),L[i]?=some x->au (stepG step) (s0,none) (L.take i)=((q,none),true)->∀(l:Nat)(c0:Ctx)(w0:World)(p1 p2:List (Nat×Obj)),lD E (rE E u c0 w0 l p1) l->lD E (rE E u c0 w0 l p2) l->
   OK (rE E u c0 w0 l p1) assign (fun e U s'=>e=.normal/\OK (rE E u c0 w0 l p2) body (den (rE E u c0 w0 l p2) (xC boxes (step q x)) []) U s') u (o8 ps (encs x)++(slots++boxes q)))
  (hend:∀q,au (stepG step) (s0,none) L=((q,none),true)->den E Q k .normal u (slots++boxes q))
  (hjump:∀q cd,(au (stepG step) (s0,none) L).1=(q,some cd)->OK E cd (den E Q k) u (slots++boxes q)):OK E (.rangeFunc go ps.toArray assign body) (den E Q k) U s:=by
 intro a w hg0;obtain⟨c,hb,hh⟩:=hg0;obtain⟨cvs,hev,hcv0⟩:=hg.rep (c:=c) (a:=a) (w:=w) fun p hp=>hh _ _ (hg.looks.all p hp)
 obtain⟨lo,hlo⟩:∃lo:Nat->Option Nat,lo=fun k=>if(kb.map (·.1)).contains k then c.loc k else none:=⟨_,rfl⟩
 obtain⟨aw,hZ⟩:∃aw:Nat->Prop,aw=fun b=>∃k,lo k=some b:=⟨_,rfl⟩
 have hloc:∀k b,lo k=some b->(kb.map (·.1)).contains k=true/\c.loc k=some b:=by
  simp_all
 have hkk:∀k,(kb.map (·.1)).contains k=true->¬k∈u/\¬k∈E.fs:=by
  grind
 have hZf:∀b,aw b->E.B<=b/\b<w.heap.size/\(∀o,c.h ⟨b,o,none⟩=none)/\¬(c.cut u).all b/\(∀p∈E.pins,p.1≠b)/\∀D,({target:=.collected D,args:=#[]}:Deferred)∈a.defers->D≠b:=by
  intro b hz;rw[hZ]at hz;obtain⟨k,hk⟩:=hz;obtain⟨h1,h2⟩:=hloc k b hk;obtain⟨q1,q2,q3,q4,q5⟩:=hb.loc k b h2;have hca:c.all b:=.inr (.inl ⟨k,h2⟩);refine⟨Env.gN q1 (hkk k h1).2,q2,q3,?_,fun p hp e=>(hb.nS p hp).1 (e▸hca),fun D hD e=>?_⟩
  ·rintro(hy|⟨j,hj⟩|⟨j,m,hv,hj,hjb⟩)
   ·exact(hb.Y b hy).2.2.1 k h2
   all_goals grind [Ctx.cut]
  obtain⟨D',f1,f2,f3,f4⟩:=hb.iP.2 _ hD;grind
 have hcv:ah (bt ⟨c.h,lo,fun _=>none,fun _=>False⟩) caps cvs:=by
  have:∀{us:bi}{vs:List Value},ah (cq c) us vs->us.all (vc kb)=true->ah (bt ⟨c.h,lo,fun _=>none,fun _=>False⟩) us vs:=by
   intro us
   induction us with
   |nil=>intro vs h _;exact(ah.bJ h)▸trivial
   |cons u us ih=>
    intro vs h h1;obtain⟨v,vs',rfl,hv,hvs⟩:=h.bD;simp only[ee,Zw]at h1;refine⟨?_,ih hvs h1.2⟩;have h3:=h1.1;cases u with
    |ptr k off=>
     obtain⟨b,e1,e2⟩:=hv;have hk:(kb.map (·.1)).contains k=true:=h3;exact⟨b,by grind,e2⟩
    |_=>
     simp only[vc,Zw,lA]at h3;have hp:=(hv.cut h3.1).mono (show Ext (c.cut []) ⟨c.h,lo,fun _=>none,fun _=>False⟩from⟨Mem.le_refl _,(fun k b e=>by simp[Ctx.cut]at e),(fun k m hv lv e=>by simp[Ctx.cut]at e)⟩);have hn:=h3.2
     first|exact hp|cases hn
  grind
 clear hcv0;have hbx:∀p∈kb,xe ⟨c.h,lo,fun _=>none,fun _=>False⟩ w p.1 (.box p.2):=by
  intro p hp;have h1:=hkb.all (1000+p.1,.box p.2) (eI.2 ⟨p,hp,rfl⟩);have h2:=dj.1 hkd p hp;simp only[Zw,db]at h2;obtain⟨b',T,vs,f1,f2,f3⟩:=fD (hh _ _ h1) h2.1.1.2;refine⟨b',_,?_,f2,T,vs,rfl,?_⟩
  ·grind
  exact(lF f3 h2.1.1.1).mono fun _ _ h=>ay.Aa (c:=⟨c.h,lo,fun _=>none,fun _=>False⟩) h
 have hb5:=hb.cut u;have hh5:∀key x,look (slots++boxes s0) key=some x->Holds (c.cut u) a w key x:=fun key x hx=>Holds.cut (hh key x (hle.mem hx)) (dj.1 (ho s0) _ (cm hx))
 have hch:(c.cut u).h=c.h:=rfl;have hlu:∀k b,lo k=some b->(∀k',lo k'=some b->k'=k)/\(kb.map (·.1)).contains k=true:=fun k b e=>by
  obtain⟨h1,h2⟩:=hloc k b e;exact⟨fun k' e'=>(hb.loc k b h2).2.2.2.1 k' (hloc k' b e').2,h1⟩
 have hln:∀k,¬k∈kb.map (·.1)->lo k=none:=fun k hk=>by grind
 generalize c.cut u=c5 at hb5 hh5 hch hZf;rw[←hch]at hcv hbx hZf;clear hb hh hle hg hch;refine wpIn_rangeFunc fun fn hfn=>?_
 have hall6:∀b,c5.all b->b<w.heap.size:=by
  rintro b (h|⟨k,h⟩|⟨k,m,hv,h,h2⟩)
  ·exact(hb5.Y b h).1
  ·exact(hb5.loc k b h).2.1
  exact(hb5.arr k m hv b h h2).2.1
 have hEB:E.B<=w.heap.size:=hb5.hB
 obtain⟨r,l,ds,W1,a1,hrun,hrt,hrp,hra,hrb,hrf,ha1,hEl,hlW,hrD,hDl,hDZ,hDX,hL1,hK1,hnD,hBW,hw1,hb7,hdef⟩:∃(r:Rg)(l:Nat)(ds:List Deferred)(W1:World)(a1:Act),(Instr.enterLoop fn a.tmps ps.toArray assign body E.ac.round).run E.P w=.ok (l,ds) W1/\r.tmps=a.tmps/\r.ps=ps.toArray/\r.assign=assign/\r.body=body/\r.fn=fn/\
   a1={a with defers:=ds++a.defers}/\w.heap.size<=l/\l<W1.heap.size/\r.D<W1.heap.size/\r.D≠l/\¬aw r.D/\(E.B<=r.D\/E.X r.D)/\W1.heap[l]?=some (r.obj .ready none)/\W1.heap[r.D]?=some (.deferred (some []))/\¬c5.all r.D/\Below w.heap.size w W1/\(∀p v,c5.h p=some v->W1.cell? p=some v)/\aM E u c5 a1 W1/\
   ∀D,({target:=.collected D,args:=#[]}:Deferred)∈a1.defers->D<W1.heap.size/\¬aw D:=by
  have hold:∀D,({target:=.collected D,args:=#[]}:Deferred)∈a.defers->D<w.heap.size:=fun D hD=>by
   obtain⟨D',f1,f2,f3,f4⟩:=hb5.iP.2 _ hD;grind
  rcases hro with hro|⟨l0,hro,r0,hp1,hp2⟩
  ·obtain⟨r,hr⟩:∃r:Rg,r={fn:=fn,tmps:=a.tmps,ps:=ps.toArray,assign:=assign,body:=body,D:=w.heap.size}:=⟨_,rfl⟩;obtain⟨W1,hW1⟩:∃W1,(w.alloc (.deferred (some []))).alloc (r.obj .ready none)=W1:=⟨_,rfl⟩;have sz1:W1.heap.size=w.heap.size+2:=by rw[←hW1];simp
   have hL1:W1.heap[w.heap.size+1]?=some (r.obj .ready none):=by
    grind [World.alloc_heap_new]
   have hK1:W1.heap[w.heap.size]?=some (.deferred (some [])):=by
    grind [Below.heap_alloc,World.alloc_heap_new]
   have hBW:Below w.heap.size w W1:=by rw[←hW1];exact(((Below.refl _ w).alloc (Zq _) _).alloc F _)
   have hw1:∀p v,c5.h p=some v->W1.cell? p=some v:=fun p v e=>by
    have h1:=hb5.hw p v e;rw[hBW.cell (block_lt_of_cell h1)];exact h1
   have hb6:aM E u c5 a W1:=hb5.below_grow hBW (Mem.le_refl _) (fun p v e=>.inl e) hw1;have hrD:r.D=w.heap.size:=by rw[hr]
   refine⟨r,w.heap.size+1,[{target:=.collected w.heap.size,args:=#[]}],W1,{a with defers:={target:=.collected w.heap.size,args:=#[]}::a.defers},?_,by rw[hr],by rw[hr],by rw[hr],by rw[hr],by rw[hr],rfl,by omega,by omega,by omega,by omega,fun hz=>by grind,.inl I,hL1,by grind,?_,hBW,hw1,?_,?_⟩
   ·rw[show E.ac.round=none from hro,←hW1,hr];exact run_enterLoop_outer _ _ _ _ _
   ·grind
   ·refine⟨hb6.below,hb6.hB,hb6.nt,⟨?_,?_⟩,hb6.nS,hb6.hw,hb6.hle,hb6.hnew,hb6.loc,hb6.arr,hb6.used,hb6.Y,hb6.fB,hb6.fQ⟩
    ·refine pm.2 ⟨fun d hd e=>?_,hb6.iP.1⟩;grind
    intro d hd;rcases ed.1 hd with rfl|hd
    ·grind
    exact hb6.iP.2 d hd
   grind
  obtain⟨g1,_,g3⟩:=hb5.nS _ hp1;obtain⟨q1,_,q3⟩:=hb5.nS _ hp2;simp only at g1 g3 q1 q3;have hDlt:=(dt.1 q3).1;obtain⟨r,hr⟩:∃r:Rg,r={fn:=fn,tmps:=a.tmps,ps:=ps.toArray,assign:=assign,body:=body,D:=r0.defers}:=⟨_,rfl⟩;obtain⟨W1,hW1⟩:∃W1,w.alloc (r.obj .ready none)=W1:=⟨_,rfl⟩;have sz1:W1.heap.size=w.heap.size+1:=by rw[←hW1];simp
  have hL1:W1.heap[w.heap.size]?=some (r.obj .ready none):=by grind [World.alloc_heap_new]
  have hBW:Below w.heap.size w W1:=by rw[←hW1];exact(Below.refl _ w).alloc (Zq _) _
  have hw1:∀p v,c5.h p=some v->W1.cell? p=some v:=fun p v e=>by
   have h1:=hb5.hw p v e;rw[hBW.cell (block_lt_of_cell h1)];exact h1
  have hrD:r.D=r0.defers:=by rw[hr]
  refine⟨r,w.heap.size,[],W1,a,?_,by rw[hr],by rw[hr],by rw[hr],by rw[hr],by rw[hr],by simp,by omega,by omega,by omega,by omega,fun hz=>(hZf _ hz).2.2.2.2.1 _ hp2 (by rw[hrD]),.inr (.inr ⟨_,hp2,by rw[hrD]⟩),hL1,by rw[hrD];exact(hBW.block _ hDlt).trans q3,by grind,hBW,hw1,hb5.below_grow hBW (Mem.le_refl _) (fun p v e=>.inl e) hw1,fun D hD=>by grind⟩;rw[show E.ac.round=some l0 from hro,←hW1,hr];exact run_enterLoop_inner g3 _ _ _ _ _
 have hlow1:∀k,k<w.heap.size->W1.heap[k]?=w.heap[k]?:=fun k hk=>hBW.block k hk
 have hsW:=hBW.size;have hpinl:∀p∈E.pins,p.1≠l:=fun p hp=>by
  have:=(dt.1 (hb5.nS p hp).2.2).1;omega
 have hpinB:∀p∈E.pins,p.1<W1.heap.size/\¬aw p.1:=fun p hp=>by
  have:=(dt.1 (hb5.nS p hp).2.2).1;grind
 have hlZ:l<W1.heap.size/\¬aw l:=⟨hlW,fun hz=>by grind⟩;have hh7:∀key x,look (slots++boxes s0) key=some x->Holds c5 a1 W1 key x:=fun key x hx=>YK (fun b hb'=>hlow1 b (hall6 b hb')) hw1 (da.of (hBW.mono (Zr _))) (by rw[ha1]) (hh5 key x hx)
 obtain⟨J,hJ⟩:∃J:σ×Option Code->bm,J=fun q=>JR E u a1 W1.heap.size aw l r (slots++boxes q.1) q.2:=⟨_,rfl⟩
 have hst:∀q,aZ (J q):=fun q=>by
  grind [JR.az]
 have hnow:∀i x,L[i]?=some x->(au (stepG step) (s0,none) (L.take i)).2=true->∃q,au (stepG step) (s0,none) (L.take i)=((q,none),true):=by
  intro i x _ h;have h2:=(oC step s0 (L.take i) (s0,none) rfl).1 h;grind
 have hcb:∀v,v=Value.func (.yield l) #[] #[]->∀(i:Nat)(x:α),L[i]?=some x->(au (stepG step) (s0,none) (L.take i)).2=true->
   nR E.P v (encs x) (.bool (stepG step (au (stepG step) (s0,none) (L.take i)).1 x).2) (J (au (stepG step) (s0,none) (L.take i)).1) (J (stepG step (au (stepG step) (s0,none) (L.take i)).1 x).1):=by
  rintro v rfl i x hx hrun;obtain⟨q,hq⟩:=hnow i x hx hrun;rw[hq];intro h Y ar vs hwW hYlt hJ0 hargs;refine .inr ⟨l,rfl,?_⟩;have hJ0':JR E u a1 W1.heap.size aw l r (slots++boxes q) none h Y ar:=by grind
  have:=Dy (s1:=(step q x).1) (j:=(step q x).2) hpinl r (ps:=ps) (xs:=encs x) (vs:=vs) (B1:=W1.heap.size) I hlZ hDX hDl (by grind) hrp (hpl x).symm hpw
   (fun p hp=>by have:=dj.1 hpt p hp;simp only[Zw,db]at this;exact this.1) (fun p hp=>by have:=dj.1 hpt p hp;simp only[Zw,db]at this;exact this.2) (htup x) hYlt hwW hJ0' hargs (hhi _) (hslots _)
   (fun c0 w0 p1 p2 k1 k2=>by rw[hra,hrb];grind)
  rw[hJ];exact this
 have hG:=hseq J (stepG step) (s0,none) (fun v=>v=.func (.yield l) #[] #[]) hst hcb;obtain⟨cL,hcL⟩:∃cL:Ctx,cL=⟨c5.h,lo,fun _=>none,fun b=>b<W1.heap.size/\¬aw b⟩:=⟨_,rfl⟩;have hCtx:j6 (kb.map (·.1)) cL W1:=by
  rw[hcL];refine⟨hw1,fun k b e=>?_,(fun k m hv b e=>by cases e),fun k hk=>⟨hln k hk,rfl⟩,fun b hy=>⟨hy.1,fun k e=>hy.2 (by grind),(fun k m hv e=>by cases e)⟩⟩;have hz:aw b:=by grind
  grind
 have hrd:∀p∈(3000,X.res (J (s0,none)))::qB kb,∀b:Act,Holds cL b W1 p.1 p.2:=by
  intro p hp b;rcases ed.1 hp with rfl|hp
  ·unfold Holds;rw[Zm I,Zm I,Zm I];refine .inr ⟨rfl,_,rfl,hst _,?_⟩;rw[hJ,hcL];refine⟨c5,hb7,Mem.le_refl _,fun p v e=>.inl e,fun b hb' hz=>⟨hb',hz⟩,fun b hb'=>⟨by grind,fun hz=>(hZf b hz).2.2.2.1 hb'⟩,hL1,(fun h=>by grind),⟨hK1,hnD⟩,hh7⟩
  obtain⟨q,hq,rfl⟩:=eI.1 hp;have h2:=dj.1 hkd q hq;simp only[Zw,db]at h2;obtain⟨b',o,f1,f2,f3⟩:=hbx q hq;unfold Holds;rw[Zm I,Zn I];rw[hcL];refine .inr ⟨b',o,?_,?_,f3.mono ⟨Mem.le_refl _,fun _ _ e=>e,(fun _ _ _ _ e=>by cases e)⟩⟩
  all_goals grind
 have hcalls:=hG cL W1 (.func (.yield l) #[] #[]::cvs) hCtx hrd ⟨rfl,hcv.mono fun _ _ h=>h.mono (by rw[hcL];exact⟨Mem.le_refl _,fun _ _ e=>e,(fun _ _ _ _ e=>by cases e)⟩)⟩;have harr:(Value.func (.yield l) #[] #[]::cvs).toArray= #[Value.func (.yield l) #[] #[]]++cvs.toArray:=by simp
 refine⟨l,ds,W1,{target:=.fn (.func gf) cvs.toArray,args:=#[.func (.yield l) #[] #[]]},W1,gf,#[.func (.yield l) #[] #[]]++cvs.toArray,W1,?_,?_,?_,?_,Z,?_⟩
 ·exact hrun
 ·simp only[resolve,hev];simp[go_sem]
 ·intro f' hf';trivial
 ·grind [invoke]
 have h1:CallsIn E.ac (0 - 1) E.P gf (#[.func (.yield l) #[] #[]]++cvs.toArray) W1 _:=(callsIn_wide (n:=0)).2 (harr▸hcalls);refine h1.mono ?_;rintro e W2 ⟨v,c',rfl,hp⟩;have hJ1:=hp.wr (3000,.res (J (au (stepG step) (s0,none) L).1)) F a1;unfold Holds at hJ1;rw[Zm I,Zm I,Zm I]at hJ1;rcases hJ1 with h|⟨_,J',e1,_,hJ2⟩
 ·cases h
 cases e1;rw[hJ]at hJ2;obtain⟨q,hq⟩:∃q,q=(au (stepG step) (s0,none) L).1:=⟨_,rfl⟩;rw[←hq]at hJ2;obtain⟨c8,hb8,_,_,_,hall8,hrec8,hnl8,_,hh8⟩:=hJ2;have hend8:=run_endLoop (P:=E.P) (l:=l) (w:=W2) (r:={state:=Fq q.2,pending:=q.2,fn:=r.fn,tmps:=r.tmps,params:=r.ps,assign:=r.assign,body:=r.body,defers:=r.D}) hrec8 (by grind [Fq]);refine⟨q.2,_,hend8,?_⟩;obtain⟨W3,hW3⟩:∃W3,W3=W2.putObj l (.loop {state:=.exhausted,pending:=q.2,fn:=r.fn,tmps:=r.tmps,params:=r.ps,assign:=r.assign,body:=r.body,defers:=r.D}):=⟨_,rfl⟩;have ho3:∀k,k≠l->W3.heap[k]?=W2.heap[k]?:=fun k hk=>by grind [World.putObj_heap_other]
 have hc3:∀p,W3.cell? p=W2.cell? p:=fun p=>by rw[hW3];exact cell_putObj hrec8 rfl rfl p
 have hB3:da 0 (fun _=>False) W2 W3:=by rw[hW3];exact⟨rfl,rfl,rfl,by simp,fun k hk=>by omega⟩
 have good:Good E u (slots++boxes q.1) a1 W3:=by
  refine⟨c8,hb8.keep (fun p hp=>ho3 _ (hpinl p hp)) hB3 (fun b hb'=>ho3 b I) (fun p v e=>by rw[hc3];exact hb8.hw p v e) ?_,fun key x hx=>YK (fun b hb'=>ho3 b fun e=>hnl8 (e▸hb')) (fun p v e=>by rw[hc3];exact hb8.hw p v e) hB3 rfl (hh8 key x hx)⟩;intro D f1 _;refine(ho3 D ?_).trans f1;rintro rfl;rw[hrec8]at f1;cases f1
 show(match q.2 with|none=>_|some c=>_);have ha1':({tmps:=a.tmps,defers:=ds++a.defers}:Act)=a1:=by rw[ha1]
 rw[←hW3];cases hq2:q.2 with
 |none=>
  refine⟨u,slots++boxes q.1,by grind,hend q.1 ?_⟩;refine Prod.ext (hq.symm.trans (Prod.ext rfl hq2)) ((oC step s0 L (s0,none) rfl).2 (by grind))
 |some cd=>
  have:=hjump q.1 cd (hq.symm.trans (Prod.ext rfl hq2)) a1 W3 good;grind
def BK.Jo{α:Type}{P:Program}{gf:Nat}{caps:bi}{encs:α->bi}{l:List α}(h:BK P gf caps encs l):x8 P gf [] caps encs l:=fun J g s0 Φ hst hcb=>h J g s0 Φ hst hcb
def OK.rangeFunc{σ α:Type}{go:Operand}{ps:bc}{assign body:Code}{gf:Nat}{caps:bi}{encs:α->bi}{L:List α}{r:St}(u:bc)(slots:St)(boxes:σ->St)(s0:σ)(step:σ->α->σ×Option Code)
  (hseq:BK E.P gf caps encs L) (hcall:∀args w,(callFunc gf args).run E.P w=.ok (.enter gf args) w) (hro:E.round=none\/∃l0,E.round=some l0/\BL l0 E.pins) (hg:bI s go (.fn gf caps) r) (hc1:caps.all (mE [])=true) (hc2:caps.all (fun u=>!bR u)=true)
  (hle:Le s (slots++boxes s0)) (ho:∀q,(slots++boxes q).all (eP u)=true) (hhi:∀q,(boxes q).all (iQ u)=true) (hslots:∀q,slots.all (qh (boxes q))=true)
  (hpl:∀x,(encs x).length=ps.length) (htup:∀x,(encs x).all (fun x=>!cO x)=true) (hpw:ps.Pairwise (· ≠ ·)) (hpt:ps.all (fun p=>Nat.blt p E.nt&&Nat.blt p 1000)=true)
  (hround:∀(i:Nat)(x:α)(q:σ),L[i]?=some x->au (stepG step) (s0,none) (L.take i)=((q,none),true)->∀(l:Nat)(c0:Ctx)(w0:World)(p1 p2:List (Nat×Obj)),lD E (rE E u c0 w0 l p1) l->lD E (rE E u c0 w0 l p2) l->
   OK (rE E u c0 w0 l p1) assign (fun e U s'=>e=.normal/\OK (rE E u c0 w0 l p2) body (den (rE E u c0 w0 l p2) (xC boxes (step q x)) []) U s') u (o8 ps (encs x)++(slots++boxes q)))
  (hend:∀q,au (stepG step) (s0,none) L=((q,none),true)->den E Q k .normal u (slots++boxes q))
  (hjump:∀q cd,(au (stepG step) (s0,none) L).1=(q,some cd)->OK E cd (den E Q k) u (slots++boxes q)):OK E (.rangeFunc go ps.toArray assign body) (den E Q k) U s:=
 OK.qX u slots boxes s0 step [] hseq.Jo trivial rfl hcall hro hg (by
  rw[dj]at hc1 hc2⊢;intro x hx;have h1:=hc1 x hx;have h2:=hc2 x hx;cases x<;>first|(cases h1;done)|(simp only[vc,Zw];exact⟨h1,h2⟩)) hle ho hhi hslots hpl htup hpw hpt hround hend hjump
end
end Go.Ab
namespace Go.Ab
open Go.RowKit
section
variable{E:Env}{all:Array Oper}{s r r1 r2 r3 rg:St}{d ty:Nat}{pos:String}{after:Array Edge}{guard:Option (Nat×Bool)}{x y z:Operand}
def S.mkData{t e sz bytes n:Nat}{ps:List (Nat×Operand)}{us:bi}{rows:List bi}(hA:lV E.P t e sz bytes)(hg:Gd all s guard rg)(hd:cP E d=true)
  (hx:fE s (ps.map (·.2)) us r) (hu:us.all nX=true) (_hrows:us.map cg=rows) (hf:oS (fun i=>some (i * sz,sz)) (List.replicate (n * sz) .any) ((ps.map (·.1)).zip us)=some rows.flatten)
  (hr:rows.all (fun q=>Nat.beq q.length sz)=true) (hn:rows.length=n) (hD:rows.flatten.all yG=true) (hbig:Nat.ble (n * sz) 16777216=true):
  aW E all ⟨some d,.buildSlice t n ps.toArray,ty,pos,after,guard⟩ s (rg++r) [(d,.sl rows)] []:=
 aW.mk hg hd rfl hx.looks fun U c a w hb hrr hal=>by
  clear _hrows hal;rw[ii]at hbig;have hrow:∀q∈rows,q.length=sz:=fun q hq=>Nat.eq_of_beq_eq_true ((dj.1 hr) q hq)
  have hfl:rows.flatten.length=n * sz:=by rw[bg hrow,hn]
  obtain⟨hsz,zv,hz,hzs⟩:=hA.run;have hbase:∀(q:Array Value),q.size=n * sz->ah (aV c) (List.replicate (n * sz) .any) q.toList:=fun q hq=>ah.fb (by simp[hq]) fun i u v hu _=>by
   simp only[tz]at hu;split at hu
   ·cases hu;exact trivial
   cases hu
  obtain⟨cells,h1,h2⟩:=jh (c:=c) (fun i=>some (i * sz,sz)) _ _ _ (((Array.range (n * sz)).map fun i=>(if n * sz=0 then #[]else zv.cells)[i % (if n * sz=0 then #[]else zv.cells).size]!)) rows.flatten (hbase _ F) (kW (hx.rep (c:=c) (a:=a) (w:=w) hrr) hu) hf;have hcs:cells.size=n * sz:=by have:=h2.length;rw[hfl]at this;simpa using this.symm
  have hB:=cX w (.cells cells e);have hnewb:(w.alloc (.cells cells e)).heap[w.heap.size]?=some (.cells cells e (0,0)):=heap_alloc_new w _;have hds:=lF h2 hD;obtain⟨h',hh'⟩:∃h':Mem,h'=fun p=>if p.block=w.heap.size then(w.alloc (.cells cells e)).cell? p else c.h p:=⟨_,rfl⟩
  have hle:Mem.le c.h h':=by
   intro p u hp;rw[hh'];dsimp only;rw[Zm (by have:=block_lt_of_cell (hb.hw p u hp);omega)];exact hp
  have hnw:∀p u,h' p=some u->c.h p=some u\/w.heap.size<=p.block:=fun p u hp=>by
   rw[hh']at hp;dsimp only at hp;split at hp
   ·exact .inr I
   exact .inl hp
  have hbase2:=hb.below_grow hB hle hnw (fun p u hp=>by
   rw[hh']at hp;dsimp only at hp;split at hp
   ·exact hp
   rw[hB.cell (block_lt_of_cell (hb.hw p u hp))];exact hb.hw p u hp)
  have hext:Ext c ⟨h',c.loc,c.arr,c.Y⟩:=⟨hle,fun _ _ e=>e,fun _ m hv lv e=>⟨m,hv,lv,e,Zq _,fun _=>rfl⟩⟩;refine⟨.slice (some ⟨w.heap.size,0,none⟩) n n,⟨h',c.loc,c.arr,c.Y⟩,w.alloc (.cells cells e),?_,hbase2,hext,?_,(fun p hp=>by cases hp),fun key u hkey _ hu=>Holds.below hb hB hext (fun _ _ _ e=>e) rfl hnw hbase2.hw hkey hu⟩
  ·have hnb:¬(n * sz>2 ^ 24):=by omega
   simp only[execOp,Instr.buildSlice,Sem.run_bind,run_underlying hA.mD,Result.andThen_ok,hsz,hnb,if_false];by_cases h0:n * sz=0
   ·simp only[h0,if_true]at h1;simp at h1;simp[h0,h1,newRow]
   simp only[h0,if_false]at h1;simp[h0,hz,h1,newRow]
  have hpos:=hA.pos;have hnn:n<=n * sz:=AN n hpos;have:ay h' (.sl rows) (.slice (some ⟨w.heap.size,0,none⟩) rows.length n):=by
   refine .sl rows w.heap.size 0 n sz cells.toList I (by unfold maxLen;omega) hrow (by rw[hfl];simp[hcs]) ?_ ?_
   ·intro i v hv;rw[hh'];dsimp only;rw[Zn rfl,cell_of_row _ w.heap.size (0+i) cells e (0,0) hnewb,gk];simpa using hv
   intro i u v hu hv;exact(hds.get hu hv).mono hle
  rw[hn]at this;exact ay.ef (c:=⟨h',c.loc,c.arr,c.Y⟩) this
end
end Go.Ab
namespace Go.Ab
open Go.RowKit Go.ChangeShapes Go.WideShapes Go.ChangeAt
inductive Ty where
 |int (k:IntKind)
 |bool
 |str
 |sl (e:Ty)
 |st (c:Ty)
 |nil
 |cons (f r:Ty)
def Ty.cells:Ty->Nat
 |.int _|.bool|.str|.sl _=>1
 |.st c=>c.cells
 |.nil=>0
 |.cons f r=>f.cells+r.cells
def Ty.is(P:Program):Ty->(TypeId ⊕ (List Field×Nat))->Prop
 |.int k,.inl t=>P.underlying t=some (.int k)
 |.bool,.inl t=>P.underlying t=some .bool
 |.str,.inl t=>P.underlying t=some .string
 |.sl e,.inl t=>∃et,P.underlying t=some (.slice et)/\P.cellsOf et=e.cells/\0<e.cells/\Ty.is P e (.inl et)
 |.st c,.inl t=>∃fs,P.underlying t=some (.struct fs)/\P.cellsOf t=c.cells/\Ty.is P c (.inr (fs.toList,0))
 |.nil,.inr (fs,_)=>fs=[]
 |.cons f r,.inr (fd::fs,off)=>fd.offset=off/\P.cellsOf fd.type=f.cells/\Ty.is P f (.inl fd.type)/\Ty.is P r (.inr (fs,off+f.cells))
 |_,_=>False
def Shape:Ty->bi->Prop
 |.int k,xs=>∃n,xs=[.int k n]
 |.bool,xs=>∃b,xs=[.bool b]
 |.str,xs=>∃s,xs=[.str s]
 |.sl e,xs=>∃rows,xs=[.sl rows]/\∀r∈rows,Shape e r
 |.st c,xs=>Shape c xs
 |.nil,xs=>xs=[]
 |.cons f r,xs=>∃a b,xs=a++b/\Shape f a/\Shape r b
def mapM_some{α β:Type}{f:α->Option β}:∀{l:List α}{out:List β},l.mapM f=some out->out.length=l.length/\∀(i:Nat)(a:α),l[i]?=some a->∃b,out[i]?=some b/\f a=some b
 |[],out,h=>by simp_all
 |a::l,out,h=>by
  rw[List.mapM_cons]at h;cases hf:f a with
  |none=>grind
  |some b=>
   cases hl:l.mapM f with
   |none=>simp_all
   |some bs=>
    simp[hf,hl]at h;subst h;obtain⟨h1,h2⟩:=mapM_some hl;grind
def ah.flat{α β:Type}{R:α->β->Prop}:∀{rows:List (List α)}{vss:List (List β)},ah (ah R) rows vss->ah R rows.flatten vss.flatten
 |[],[],_=>trivial
 |_::_,_::_,h=>h.1.append (ah.flat h.2)
 |[],_::_,h=>h.elim
 |_::_,[],h=>h.elim
def ah.build{α β:Type}{R:α->β->Prop}{S:α->Prop}:∀(bs:List β),(∀b∈bs,∃a,R a b/\S a)->∃as0:List α,ah R as0 bs/\∀a∈as0,S a
 |[],_=>⟨[],Zo,fun a h=>by cases h⟩
 |b::bs,h=>by
  obtain⟨a,h1,h2⟩:=h b dp;obtain⟨as0,h3,h4⟩:=ah.build bs fun b hb=>h b (dg _ hb)
  exact⟨a::as0,⟨h1,h3⟩,fun x hx=>by grind⟩
section
variable{H:Type}{enc:TypeId×Value->H}{P:Program}{w:World}{spare:Nat->Bool}
theorem lS{a:Addr}{n:Nat}{vs:List Value}(h:w.cells? 0 a n=some vs):vs.length=n/\∀(i:Nat)(v:Value),vs[i]?=some v->w.cell? (a.add i)=some v:=by
 unfold World.cells? at h;rw[Zn (Zr _)]at h;obtain⟨h1,h2⟩:=mapM_some h;simp_all[dq]
def BM{k:IntKind}{n:Int}(h:(Lit.int k n).wf=true):k.wrap n=n:=by
 simp only[Lit.wf,Zw,jn]at h;cases k
 ·exact IntWalk.i8_in n h
 ·exact IntWalk.i16_in n h
 ·exact IntWalk.i32_in n h
 ·exact ca n h
 ·exact rx n h
 ·exact IntWalk.u16_in n h
 ·exact IntWalk.u32_in n h
 exact IntWalk.u64_in n h
def trod_int{fuel:Nat}{t:TypeId}{k:IntKind}{cs:List Value}{x:DataW H×List MemPlace}(ht:P.underlying t=some (.int k))(h:DataW.trod enc P w 0 spare true fuel t cs=some x):∃n,cs=[.int k n]/\k.wrap n=n:=by
 cases fuel with
 |zero=>cases h
 |succ fuel=>
  match cs,h with
  |[],h=>simp[DataW.trod,ht]at h
  |[v],h=>
   cases v<;>simp[DataW.trod,ht]at h;rename_i k' n;obtain⟨⟨rfl,h1⟩,_⟩:=h;exact⟨n,rfl,BM h1⟩
  |_::_::_,h=>simp[DataW.trod,ht]at h
def trod_bool{fuel:Nat}{t:TypeId}{cs:List Value}{x:DataW H×List MemPlace}(ht:P.underlying t=some .bool)(h:DataW.trod enc P w 0 spare true fuel t cs=some x):∃b,cs=[.bool b]:=by
 cases fuel with
 |zero=>cases h
 |succ fuel=>
  match cs,h with
  |[],h=>simp[DataW.trod,ht]at h
  |[v],h=>
   cases v<;>simp[DataW.trod,ht]at h;simp
  |_::_::_,h=>simp[DataW.trod,ht]at h
def BN{fuel:Nat}{t:TypeId}{cs:List Value}{x:DataW H×List MemPlace}(ht:P.underlying t=some .string)(h:DataW.trod enc P w 0 spare true fuel t cs=some x):∃s:ByteArray,cs=[.string s]/\s.size<=maxLen:=by
 cases fuel with
 |zero=>cases h
 |succ fuel=>
  match cs,h with
  |[],h=>simp[DataW.trod,ht]at h
  |[v],h=>
   cases v<;>simp[DataW.trod,ht]at h;simp_all
  |_::_::_,h=>simp[DataW.trod,ht]at h
def Ef{fuel:Nat}{t e:TypeId}{cs:List Value}{x:DataW H×List MemPlace}(ht:P.underlying t=some (.slice e))(h:DataW.trod enc P w 0 spare true fuel t cs=some x):
  cs=[.slice none 0 0]\/∃(a:Addr)(len cap:Nat)(n:Nat),cs=[.slice (some a) len cap]/\len<=cap/\cap<=maxLen/\∀i,i<len->∃vs y,w.cells? 0 (a.add (i * P.cellsOf e)) (P.cellsOf e)=some vs/\DataW.trod enc P w 0 spare true n e vs=some y:=by
 cases fuel with
 |zero=>cases h
 |succ fuel=>
  match cs,h with
  |[],h=>simp[DataW.trod,ht]at h
  |[v],h=>
   cases v<;>simp only[DataW.trod,ht]at h<;>try (cases h;done)
   rename_i a len cap;cases a with
   |none=>
    grind
   |some a=>
    right;simp only at h;split at h
    ·rename_i hc;refine⟨a,len,cap,fuel,rfl,hc.2.1,hc.2.2,fun i hi=>?_⟩;rw[AS]at h;obtain⟨elems,h1,_⟩:=h;obtain⟨_,h2⟩:=mapM_some h1;obtain⟨b,_,h3⟩:=h2 i i (by simp_all);grind [Option.bind_eq_some_iff]
    cases h
  |_::_::_,h=>simp[DataW.trod,ht]at h
def Eg{fuel:Nat}{t:TypeId}{fs:Array Field}{cs:List Value}{x:DataW H×List MemPlace}(ht:P.underlying t=some (.struct fs))(h:DataW.trod enc P w 0 spare true fuel t cs=some x):
  cs.length=P.cellsOf t/\∃n out,(fs.toList.mapM fun f=>DataW.trod enc P w 0 spare true n f.type ((cs.drop f.offset).take (P.cellsOf f.type)))=some out:=by
 cases fuel with
 |zero=>cases h
 |succ fuel=>
  simp only[DataW.trod,ht]at h;split at h
  ·rename_i hc;rw[mn]at h;obtain⟨out,h1,_⟩:=h;exact⟨hc,fuel,out,h1⟩
  cases h
def BO:∀(T:Ty),(∀(fuel:Nat)(t:TypeId)(cs:List Value)(x:DataW H×List MemPlace),Ty.is P T (.inl t)->DataW.trod enc P w 0 spare true fuel t cs=some x->∃xs,ah (ay (eU w)) xs cs/\Shape T xs)/\
  (∀(fuel:Nat)(fs:List Field)(off:Nat)(cs:List Value)(out:List (DataW H×List MemPlace)),Ty.is P T (.inr (fs,off))->(fs.mapM fun f=>DataW.trod enc P w 0 spare true fuel f.type ((cs.drop f.offset).take (P.cellsOf f.type)))=some out->cs.length=off+T.cells->
   ∃xs,ah (ay (eU w)) xs (cs.drop off)/\Shape T xs):=by
 intro T
 induction T with
 |int k=>
  refine⟨fun fuel t cs x ht h=>?_,fun fuel fs off cs out ht=>ht.elim⟩;obtain⟨n,rfl,hn⟩:=trod_int ht h;exact⟨[.int k n],⟨.int hn,Zo⟩,n,rfl⟩
 |bool=>
  refine⟨fun fuel t cs x ht h=>?_,fun fuel fs off cs out ht=>ht.elim⟩;obtain⟨b,rfl⟩:=trod_bool ht h;exact⟨[.bool b],⟨.bool b,Zo⟩,b,rfl⟩
 |str=>
  refine⟨fun fuel t cs x ht h=>?_,fun fuel fs off cs out ht=>ht.elim⟩;obtain⟨s,rfl,hs⟩:=BN ht h;exact⟨[.str s.data.toList],⟨ay.str (h:=eU w) s.data.toList (by simpa using hs),Zo⟩,_,rfl⟩
 |sl e ih=>
  refine⟨fun fuel t cs x ht h=>?_,fun fuel fs off cs out ht=>ht.elim⟩;obtain⟨et,ht1,ht2,ht3,ht4⟩:=ht;rcases Ef ht1 h with rfl|⟨a,len,cap,n,rfl,hle,hcap,hel⟩
  ·exact⟨[.sl []],⟨.rP none 0 (Zr _),Zo⟩,[],rfl,fun r hr=>by cases hr⟩
  by_cases h0:len=0
  ·subst h0;exact⟨[.sl []],⟨.rP (some a) cap hcap,Zo⟩,[],rfl,fun r hr=>by cases hr⟩
  rw[ht2]at hel;have hvss:∃vss:List (List Value),vss.length=len/\∀i vs,vss[i]?=some vs->w.cells? 0 (a.add (i * e.cells)) e.cells=some vs/\∃y,DataW.trod enc P w 0 spare true n et vs=some y:=by
   refine⟨(List.range len).map fun i=>(w.cells? 0 (a.add (i * e.cells)) e.cells).getD [],by simp,fun i vs hi=>?_⟩;grind
  obtain⟨vss,hl,hv⟩:=hvss;have hrows:∃rows:List bi,ah (ah (ay (eU w))) rows vss/\∀r∈rows,Shape e r:=by
   refine ah.build vss fun vs hvs=>?_
   grind [List.getElem?_of_mem]
  obtain⟨rows,hr1,hr2⟩:=hrows;have hcl:∀vs∈vss,vs.length=e.cells:=fun vs hvs=>by
   grind [List.getElem?_of_mem,lS]
  have hrl:∀r∈rows,r.length=e.cells:=fun r hr=>by
   obtain⟨i,hi⟩:=so hr;obtain⟨vs,h1,h2⟩:=hr1.eD hi;rw[h2.length];grind
  have hrn:rows.length=len:=by rw[hr1.length,hl]
  have hspot:a.spot=none:=by
   obtain⟨vs,y,h1,_⟩:=hel 0 I;obtain⟨h2,h3⟩:=lS h1;have h4:0<vs.length:=by omega
   have h5:=h3 0 _ (Zv h4);have h6:=z7 h5;grind [Addr.add]
  have ha:a=⟨a.block,a.off,none⟩:=by cases a;simp_all
  refine⟨[.sl rows],⟨?_,Zo⟩,rows,rfl,hr2⟩;rw[ha,←hrn];have hfl:=bg hrl;refine .sl rows a.block a.off cap e.cells vss.flatten I hcap hrl (hr1.flat).length ?_ fun i x v hx hv'=>(hr1.flat).get hx hv'
  intro i v hi;have hil:i<len * e.cells:=by
   have:=(dq.1 hi).1;rw[←(hr1.flat).length,hfl,hrn]at this;exact this
  have hdiv:i / e.cells<len:=by rw[Nat.div_lt_iff_lt_mul ht3];exact hil
  have hvs:vss[i / e.cells]?=some vss[i / e.cells]:=Zv I;obtain⟨h1,_⟩:=hv _ _ hvs;obtain⟨h2,h3⟩:=lS h1;have hfa:=lT (sz:=e.cells) (i / e.cells) hcl hvs;have hmod:i % e.cells<e.cells:=Nat.mod_lt _ ht3;have hget:vss[i / e.cells][i % e.cells]?=some v:=by
   rw[←hfa,ma,Zn hmod,ll,Nat.div_add_mod' i e.cells];exact hi
  grind [add_off,Nat.div_add_mod']
 |st c ih=>
  refine⟨fun fuel t cs x ht h=>?_,fun fuel fs off cs out ht=>ht.elim⟩;obtain⟨fs,h1,h2,h3⟩:=ht;obtain⟨h4,n,out,h5⟩:=Eg h1 h;obtain⟨xs,h6,h7⟩:=ih.2 n fs.toList 0 cs out h3 h5 I;exact⟨xs,by grind,h7⟩
 |nil=>
  refine⟨fun fuel t cs x ht=>ht.elim,fun fuel fs off cs out ht h hl=>?_⟩;refine⟨[],?_,rfl⟩;have:cs.drop off=[]:=List.drop_eq_nil_of_le (by simp_all[Ty.cells]);rw[this];trivial
 |cons f r ihf ihr=>
  refine⟨fun fuel t cs x ht=>ht.elim,fun fuel fs off cs out ht h hl=>?_⟩;cases fs with
  |nil=>exact ht.elim
  |cons fd fs=>
   obtain⟨h1,h2,h3,h4⟩:=ht;subst h1;rw[List.mapM_cons]at h;cases hf:DataW.trod enc P w 0 spare true fuel fd.type ((cs.drop fd.offset).take (P.cellsOf fd.type))with
   |none=>grind
   |some y=>
    cases hm:fs.mapM (fun f=>DataW.trod enc P w 0 spare true fuel f.type ((cs.drop f.offset).take (P.cellsOf f.type)))with
    |none=>simp_all
    |some ys=>
     obtain⟨xa,a1,a2⟩:=ihf.1 fuel fd.type _ y h3 hf;obtain⟨xb,b1,b2⟩:=ihr.2 fuel fs (fd.offset+f.cells) cs ys h4 hm (by grind [Ty.cells]);refine⟨xa++xb,?_,xa,xb,rfl,a2,b2⟩;have:=a1.append b1;rwa [h2,←Do,io]at this
def BP(T:Ty)(x:X):Prop:=match T with
 |.st c=>∃xs,x=.agg xs/\Shape c xs
 |T=>Shape T [x]
def Ty.top:Ty->Bool
 |.int _|.bool|.str|.sl _|.st _=>true
 |_=>false
def single{T:Ty}(hT:T.top=true){t:TypeId}{v:Value}{base:Nat}(ht:Ty.is P T (.inl t))(hst:∀c,T≠.st c)(hok:Value.okWide P w .any base t v):v.cells.toList=[v]:=by
 cases v<;>try rfl
 rename_i cs;exfalso;cases T with
 |int k=>have ht:P.underlying t=some (.int k):=ht;simp[Value.okWide,ht,Cell.okWide,Cell.ok]at hok
 |bool=>have ht:P.underlying t=some .bool:=ht;simp[Value.okWide,ht,Cell.okWide,Cell.ok]at hok
 |str=>have ht:P.underlying t=some .string:=ht;simp[Value.okWide,ht,Cell.okWide,Cell.ok]at hok
 |sl e=>obtain⟨et,ht,_⟩:=ht;simp[Value.okWide,ht,Cell.okWide,Cell.ok]at hok
 |st c=>grind
 |nil=>cases hT
 |cons f r=>cases hT
def Hi{c:Ctx}{x:X}{v:Value}(h:ay c.h x v):bt c x v:=by
 cases h with
 |int e=>exact .int e
 |bool b=>exact .bool b
 |str s e=>exact .str s e
 |rP a cap e=>exact .rP a cap e
 |sl rows b off cap sz vs h1 h2 h3 h4 h5 h6=>exact .sl rows b off cap sz vs h1 h2 h3 h4 h5 h6
 |b5 cells b off vs h1 h2 h3=>exact .b5 cells b off vs h1 h2 h3
 |raw u e=>exact rfl
def Eh{T:Ty}{t:TypeId}{v:Value}{d:DataW H}{ps:List MemPlace}{base:Nat}(hT:T.top=true)(ht:Ty.is P T (.inl t))(hok:Value.okWide P w .any base t v)(h:DataW.Trod enc P w 0 spare true t v d ps):
  ∃x,bt (aD (eU w)) x v/\BP T x:=by
 obtain⟨fuel,h⟩:=h;obtain⟨xs,h1,h2⟩:=(BO T).1 fuel t _ _ ht h;by_cases hst:∃c,T=.st c
 ·obtain⟨c,rfl⟩:=hst;obtain⟨fs,g1,g2,g3⟩:=ht;unfold Value.okWide at hok;rw[g1]at hok;obtain⟨cs,rfl,_⟩:=hok;refine⟨.agg xs,⟨cs.toList,by simp,h1.mono fun x v h=>ay.Aa (c:=aD (eU w)) h⟩,xs,rfl,h2⟩
 have hst':∀c,T≠.st c:=fun c e=>hst ⟨c,e⟩
 rw[single hT ht hst' hok]at h1
 match xs,h1,h2 with
 |[x],h1,h2=>
  refine⟨x,Hi (c:=aD (eU w)) h1.1,?_⟩;unfold BP;simp_all
 |[],h1,_=>exact h1.elim
 |_::_::_,h1,_=>exact h1.2.elim
def tR:List Ty->bi->Prop
 |[],[]=>True
 |T::Ts,x::xs=>BP T x/\tR Ts xs
 |_,_=>False
def qi(P:Program):List Ty->List TypeId->Prop
 |[],[]=>True
 |T::Ts,t::ts=>T.top=true/\Ty.is P T (.inl t)/\P.readableRec t=true/\t<P.types.size/\qi P Ts ts
 |_,_=>False
def vz{base:Nat}:∀{Ts:List Ty}{ts:List TypeId}{vs:List Value}{ds:List (DataW H)}{ps:List MemPlace},qi P Ts ts->(∀(j:Nat)(t:TypeId)(v:Value),ts[j]?=some t->vs[j]?=some v->Value.okWide P w .any base t v)->
  DataW.TrodAll enc P w 0 spare true ts vs ds ps->∃xs,ah (bt (aD (eU w))) xs vs/\tR Ts xs
 |[],[],vs,ds,ps,_,_,h=>by
  cases vs with
  |nil=>exact⟨[],Zo,Zo⟩
  |cons v vs=>cases ds<;>exact h.elim
 |T::Ts,t::ts,vs,ds,ps,hT,hok,h=>by
  cases vs with
  |nil=>cases ds<;>exact h.elim
  |cons v vs=>
   cases ds with
   |nil=>exact h.elim
   |cons d ds=>
    obtain⟨p,q,h1,h2,_⟩:=h;obtain⟨a1,a2,_,_,a3⟩:=hT;obtain⟨x,b1,b2⟩:=Eh a1 a2 (hok 0 t v rfl rfl) h1;obtain⟨xs,c1,c2⟩:=vz a3 (fun j t v ht hv=>hok (j+1) t v (by grind) (by grind)) h2;exact⟨x::xs,⟨b1,c1⟩,b2,c2⟩
 |[],_::_,_,_,_,h,_,_=>h.elim
 |_::_,[],_,_,_,h,_,_=>h.elim
def sH{w':World}(hl:laidOutB P=true)(hb:Below w.heap.size w w'):∀{Ts:List Ty}{ts:List TypeId}{vs:List Value}{ds:List (DataW H)}{ps:List MemPlace},qi P Ts ts→(∀x∈ps,x.block<w.heap.size)→DataW.TrodAll enc P w 0 (fun _=>true) true ts vs ds ps→
  DataW.TrodAll enc P w' 0 (fun b=>decide (b<w.heap.size)) true ts vs ds ps
 |[],[],vs,ds,ps,_,_,h=>by
  cases vs with
  |nil=>cases ds with
   |nil=>exact h
   |cons d ds=>exact h.elim
  |cons v vs=>cases ds<;>exact h.elim
 |T::Ts,t::ts,vs,ds,ps,hT,hlt,h=>by
  cases vs with
  |nil=>cases ds<;>exact h.elim
  |cons v vs=>
   cases ds with
   |nil=>exact h.elim
   |cons d ds=>
    obtain⟨p,q,h1,h2,rfl⟩:=h;obtain⟨_,_,a1,a2,a3⟩:=hT;exact⟨p,q,Below.trod hl a1 a2 h1 hb fun x hx=>hlt x (dv _ hx),sH hl hb a3 (fun x hx=>hlt x (fv _ hx)) h2,rfl⟩
 |[],_::_,_,_,_,h,_,_=>h.elim
 |_::_,[],_,_,_,h,_,_=>h.elim
def oG:∀{ts:List TypeId}{vs:List Value}{ds:List (DataW H)}{ps:List MemPlace},DataW.TrodAll enc P w 0 spare true ts vs ds ps->ds.length=ts.length
 |[],vs,ds,ps,h=>by cases vs<;>cases ds<;>first|rfl|exact h.elim
 |t::ts,vs,ds,ps,h=>by
  cases vs with
  |nil=>cases ds<;>exact h.elim
  |cons v vs=>
   cases ds with
   |nil=>exact h.elim
   |cons d ds=>obtain⟨_,_,_,h2,_⟩:=h;simp[oG h2]
def yD{α:Type}{f:α->bi}:∀{rows:List bi},(∀r∈rows,∃x,r=f x)->∃l:List α,rows=l.map f
 |[],_=>⟨[],rfl⟩
 |r::rows,h=>by
  obtain⟨x,rfl⟩:=h r dp;obtain⟨l,rfl⟩:=yD fun r hr=>h r (dg _ hr)
  exact⟨x::l,rfl⟩
end
end Go.Ab
namespace Go.Ab
open Go.RowKit
def OK.Hj{E:Env}{U:bc}{s:St}{Q:bo}(h:Q .normal U s):OK E .skip Q U s:=fun _ _ hg=>wpIn_skip ⟨U,s,hg,h⟩
end Go.Ab
namespace Go.Ab
open Go.RowKit
def Jc(P:Program)(f:Nat)(args:bi)(sz:Nat)(rows:List bi):Prop:=
 ∀(h:Mem)(w:World)(vs:List Value),(∀p v,h p=some v->w.cell? p=some v)->ah (bt (aD h)) args vs->
  Calls P f vs.toArray w fun en w'=>∃v h' e us,en=.returned v/\Below w.heap.size w w'/\Mem.le h h'/\(∀p v,h' p=some v->h p=some v\/w.heap.size<=p.block)/\(∀p v,h' p=some v->w'.cell? p=some v)/\
   w'.ownsRow 0 e sz v rows.length us/\(∀q∈rows,q.length=sz)/\ah (ay h') rows.flatten us/\(∀b,v.ownBlock=some b->w.heap.size<=b/\∀o,h' ⟨b,o,none⟩=none)
def FZ(E:Env)(t sz:Nat)(rows:List bi):bo:=fun e _ s=>(e=.ret\/e=.normal)/\
 ∃k n,look s t=some (.own k n)/\Nat.blt t 1000=true/\look s (2000+k)=some (.arr sz rows)/\rows.length=n/\E.fs.contains k=false
def FZ.mk{E:Env}{U:List Nat}{s:St}{t k n sz:Nat}{rows rows':List (List X)}(hl:look s t=some (.own k n))(ht:Nat.blt t 1000=true)(ha:look s (2000+k)=some (.arr sz rows'))(hn:rows'.length=n)(he:rows'=rows)(hk9:E.fs.contains k=false:=by rfl):
  FZ E t sz rows .ret U s:=by
 subst he;exact⟨.inl rfl,k,n,hl,ht,ha,hn,hk9⟩
def Jc.intro{P:Program}{f nt t sz:Nat}{fn:Func}{code:Code}{args:bi}{rows:List bi}(hf:P.funcs[f]?=some fn)(hb:fn.body=some code)(hn:fn.ntmps=nt)(hr:fn.results= #[.tmp t])
  (hl:Nat.ble args.length nt=true) (ht:args.all (fun x=>!cO x)=true) (hl2:Nat.ble args.length 1000=true)
  (h:∀w c,OK (jK P nt [] w c) code (den (jK P nt [] w c) (FZ (jK P nt [] w c) t sz rows) []) [] (hU 0 args)):Jc P f args sz rows:=by
 intro h0 w vs hw hargs;refine(callsIn_wide (n:=0)).1 (callsIn_of_wp_marks hf hb trivial ?_ rfl);have hlen:=hargs.length;rw[ii]at hl hl2;have hno:∀b,¬(aD h0).out [] b:=by
  rintro b (hy|⟨k,_,e⟩|⟨k,m,hv,_,e,_⟩)
  all_goals simp_all
 refine wpIn_mono (h w (aD h0) {tmps:=vs.toArray++Array.replicate (fn.ntmps - vs.toArray.size) undef,defers:=[]} w ?_) ?_
 ·refine⟨aD h0,⟨da.refl _ _ _,Zq _,?_,⟨.nil,fun d hd=>by cases hd⟩,(fun p hp=>by cases hp),hw,Mem.le_refl _,fun p v e=>.inl e,(fun k b e=>by cases e),(fun k m hv b e=>by cases e),(fun _ _=>⟨rfl,rfl⟩),(fun b e=>e.elim),(fun k b _ e=>by cases e),(fun k m hv lv _ e=>by cases e)⟩,fun key x hx=>gl hargs ht hl2 key x hx⟩;simp_all
 rintro e a' w' ⟨U',s',⟨c,hbase,hh⟩,he,k,n,l1,l2,l3,l4,l5⟩
 have post:LeavesInM Fence.wide 0 P fn a'.tmps (fun en w'=>∃v h' e us,en=.returned v∧Below w.heap.size w w'∧Mem.le h0 h'∧(∀p v,h' p=some v→h0 p=some v∨w.heap.size≤p.block)∧(∀p v,h' p=some v→w'.cell? p=some v)∧
   w'.ownsRow 0 e sz v rows.length us/\(∀q∈rows,q.length=sz)/\ah (ay h') rows.flatten us/\(∀b,v.ownBlock=some b->w.heap.size<=b/\∀o,h' ⟨b,o,none⟩=none)) a'.defers .returning w':=by
  refine eF (B:=w.heap.size) (aw:=c.all) a'.defers w' hbase.iP.1 ?_ ?_
  ·intro d hd;obtain⟨D,h1,h2,h3,h4⟩:=hbase.iP.2 d hd;exact⟨D,h1,h2,h3,h4⟩
  intro w2 e1 e2 e3 e4 e5 e6;obtain⟨hbase,hh⟩:=hbase.calm hh e1 e2 e3 e4 rfl e5 e6;obtain⟨_,m,hv',lv,q1,q2,q3⟩:=jV ((hh t _ l1).slot l2);obtain⟨v,e',us,g1,g2,g3,g4⟩:=ei (hh _ _ l3);rw[g1]at q1;cases q1;have hev:=q3 l4.symm;have hrun:(results fn a'.tmps).run P w2=.ok (a'.tmps.getD t undef) w2:=by
   simp_all[results]
  refine⟨_,hrun,hv',c.h,e',us,by simp_all,(hbase.below.mono (Zq _) fun k _ hk=>?_).below,hbase.hle,fun p v hp=>(hbase.hnew p v hp).imp id fun q=>q.elim id fun q=>q.elim (fun q=>(hno _ q).elim) fun⟨_,q,_⟩=>(by cases q),hbase.hw,g2,g3,g4,fun b hbk=>?_⟩
  ·rcases hk with hk|⟨p,hp,_⟩
   all_goals simp_all
  obtain⟨r1,_,r3,_⟩:=hbase.arr k _ hv' b g1 hbk;exact⟨Env.gN r1 (nQ l5),r3⟩
 rcases he with rfl|rfl
 ·exact post
 exact post
def aM.Ky{E:Env}{U:bc}{c:Ctx}{a:Act}{w:World}(hb:aM E U c a w){k:Nat}(hk9:k∉E.fs)(hk:k∉U){n:Nat}{v:Value}
  (hv:∀b,v.ownBlock=some b->E.B<=b/\b<w.heap.size/\(∀o,c.h ⟨b,o,none⟩=none)/\¬c.all b/\∃o:Obj,w.heap[b]?=some o/\o.isCells=true):
  aM E ([k]++U) (c.own k n v true) a w/\Ext c (c.own k n v true)/\(c.own k n v true).arr k=some (n,v,true)/\
   ∀key y,¬key<1000->Holds c a w key y->Holds (c.own k n v true) a w key y:=by
 have hn:=(hb.used k hk).2;have hold:∀j q,c.arr j=some q->(c.own k n v true).arr j=some q:=by
  grind [Ctx.own]
 have hext:Ext c (c.own k n v true):=⟨Mem.le_refl _,fun _ _ e=>e,fun j m hv lv e=>⟨m,hv,lv,hold _ _ e,Zq _,fun _=>rfl⟩⟩;have hnew:∀j m u,(c.own k n v true).arr j=some (m,u,true)->(j=k/\u=v)\/(j≠k/\c.arr j=some (m,u,true)):=by
  grind [Ctx.own]
 have hlo:∀j,j∈E.fs->(c.own k n v true).arr j=c.arr j:=fun j hj=>by simp only[Ctx.own];grind
 have hall:∀b,(c.own k n v true).all b->c.all b\/v.ownBlock=some b:=by
  intro b h;rcases h with h|h|⟨j,m,u,h,h2⟩
  ·exact .inl (.inl h)
  ·exact .inl (.inr (.inl h))
  grind [Ctx.all]
 have hnc:∀(D:Nat)(o:Obj),w.heap[D]?=some o->o.isCells=false->v.ownBlock≠some D:=by
  grind
 refine⟨⟨hb.below,hb.hB,hb.nt,⟨hb.iP.1,fun d hd=>?_⟩,fun p hp=>?_,hb.hw,hb.hle,hb.hnew,?_,?_,?_,?_,hb.fB,fun j m u lv hj e=>hb.fQ j m u lv hj (hlo j hj▸e)⟩,hext,by simp[Ctx.own],?_⟩
 ·obtain⟨D,h1,h2,h3,h4⟩:=hb.iP.2 d hd;exact⟨D,h1,h2,fun e=>(hall D e).elim h3 (hnc D _ h4 rfl),h4⟩
 ·obtain⟨h1,h2,h3⟩:=hb.nS p hp;grind
 ·intro j b hj;obtain⟨h1,h2,h3,h4,h5⟩:=hb.loc j b hj;refine⟨h1,h2,h3,h4,fun k' m u hk' e=>?_⟩;rcases hnew k' m u hk' with⟨rfl,rfl⟩|⟨_,hk'⟩
  ·exact(hv b e).2.2.2.1 (.inr (.inl ⟨j,hj⟩))
  grind
 ·intro j m u b hj hbk;rcases hnew j m u hj with⟨rfl,rfl⟩|⟨hne,hj2⟩
  ·obtain⟨h1,h2,h3,h4,_⟩:=hv b hbk;refine⟨.inl h1,h2,h3,fun k' m' u' hk' hb'=>?_⟩;grind [Ctx.all]
  obtain⟨h1,h2,h3,h4⟩:=hb.arr j m u b hj2 hbk;refine⟨h1,h2,h3,fun k' m' u' hk' hb'=>?_⟩;grind [Ctx.all]
 ·intro j hj;simp only[List.mem_append,df,FS]at hj;refine⟨(hb.used j hj.2).1,?_⟩;simp only[Ctx.own];rw[Zm hj.1];exact(hb.used j hj.2).2
 ·intro b hy;obtain⟨h1,h2,h3,h4⟩:=hb.Y b hy;refine⟨h1,h2,h3,fun j m u hj e=>?_⟩;grind [Ctx.all,Ctx.own]
 intro key y hkey hy;unfold Holds at hy⊢;rw[Zm hkey]at hy⊢;refine cD hy fun hy=>?_
 split at hy
 ·rename_i h2;rw[Zn h2];obtain⟨b,o,h1,h3,h4⟩:=hy;exact⟨b,o,h1,h3,h4.mono hext⟩
 rename_i h2;rw[Zm h2];split at hy
 ·rename_i h6;rw[Zn h6];obtain⟨sz,rows,hv2,e,vs,hx,h1,h3,h4⟩:=hy;exact⟨sz,rows,hv2,e,vs,hx.mono hext,hold _ _ h1,h3,h4⟩
 rename_i h6;rw[Zm h6];exact hy
section
variable{E:Env}{all:Array Oper}{s r r1 r2 r3 rg:St}{d ty:Nat}{pos:String}{after:Array Edge}{guard:Option (Nat×Bool)}{x y z:Operand}
def S.P8{f k sz n:Nat}{os:List Operand}{at_:Array TypeId}{ys:bi}{rows:List bi}(hf:Jc E.P f ys sz rows)(hcall:∀args w,(callFunc f args).run E.P w=.ok (.enter f args) w)(hg:Gd all s guard rg)(hd:cP E d=true)
  (ha:fE s os ys r) (ho:ys.all fm=true) (hn:rows.length=n) (hk9:E.fs.contains k=false:=by rfl) (hk1:Nat.blt k 1000=true:=by rfl):
  aW E all ⟨some d,.call {callee:=.value (.func f),args:=os.toArray,argTypes:=at_},ty,pos,after,guard⟩ s (rg++r) ((d,.own k n)::[(2000+k,.arr sz rows)]) [k]:=by
 subst hn;simp only[Zw,db]at hd;rw[db]at hk1;refine⟨?_,hg.looks.app ha.looks⟩;intro U c a w hb hr hal next Q hnx
 have hw:=hg.wanted (o:=⟨some d,.call {callee:=.value (.func f),args:=os.toArray,argTypes:=at_},ty,pos,after,guard⟩) (fun p hp=>hr p (dv _ hp));have hargs:=bY (ha.rep (c:=c) (a:=a) (w:=w) fun p hp=>hr p (fv _ hp)) ho;have hkU:k∉U:=hal k F;unfold gh;rw[Zn hw];refine⟨fun _ _=>trivial,?_⟩;rw[Oper.semAt_eq _ _ _ fun cl he=>by cases he];have hfo:a.eval (.func f)=.func (.func f) #[] #[]:=rfl;have hrun:(execOp a.eval ⟨some d,.call {callee:=.value (.func f),args:=os.toArray,argTypes:=at_},ty,pos,after,guard⟩).run E.P w=.ok (.enter f (os.map a.eval).toArray) w:=by
  simp_all[execOp,resolve,Deferred.ofValue,invoke]
 rw[hrun];refine⟨Z,?_⟩;have h1:CallsIn E.ac (0 - 1) E.P f (os.map a.eval).toArray w _:=(callsIn_wide (n:=0)).2 (hf c.h w _ hb.hw hargs);refine h1.mono ?_;rintro en w' ⟨v,h',e,us,rfl,hB,hle,hnew,hw',hown,hsz,hrep,hblk⟩;have hb1:=hb.below_grow hB hle hnew hw';have hext1:Ext c ⟨h',c.loc,c.arr,c.Y⟩:=⟨hle,fun _ _ e=>e,fun _ m hv lv e=>⟨m,hv,lv,e,Zq _,fun _=>rfl⟩⟩;have hvs:∃a l cp,v=.slice a l cp:=by
  rcases hown.2 with⟨rfl,_⟩|⟨g,cap,cur,rfl,_⟩
  all_goals simp
 obtain⟨g1,g2,g3,g4⟩:=hb1.Ky (nQ hk9) hkU (n:=rows.length) (v:=v) (by
  intro b hbk;obtain⟨h2,h3⟩:=hblk b hbk;have hcell:∃o:Obj,w'.heap[b]?=some o/\o.isCells=true:=by
   rcases hown.2 with⟨rfl,_⟩|⟨g,cap,cur,rfl,_,hg',_⟩
   ·cases hbk
   cases hbk;exact⟨_,hg',rfl⟩
  obtain⟨o,ho1,ho2⟩:=hcell;refine⟨gc hb.hB h2,(dt.1 ho1).1,h3,?_,o,ho1,ho2⟩;rintro(hy|⟨j,hj⟩|⟨j,m,hv,hj,hjb⟩)
  ·have:=(hb.Y b hy).1;omega
  ·have:=(hb.loc j b hj).2.1;omega
  have:=(hb.arr j m hv b hj hjb).2.1;omega)
 have hdt:d<a.tmps.size:=by rw[hb.nt];exact hd.2
 have hhold:=Holds.lB (a:=a) (e:=e) (rows:=rows) (vs:=us) (sz:=sz) I g3 hown hsz hrep;refine hnx _ _ _ (g1.put _ _) (hext1.trans g2) ?_ ?_
 ·intro p hp;simp only[ed,ml,or_false]at hp;rcases hp with rfl|rfl
  ·unfold Holds;rw[Zn hd.1,cE hdt];exact⟨hvs,rows.length,_,_,g3,Zq _,fun _=>rfl⟩
  exact hhold.2.put I _
 intro key u hk hu;have hne:d≠key:=hk (d,.own k rows.length) F;by_cases h1:key<1000
 ·refine Holds.put ?_ hne _;unfold Holds at hu⊢;rw[Zn h1]at hu⊢;exact hu.mono (hext1.trans g2)
 exact(g4 key u h1 (Holds.below hb hB hext1 (fun _ _ _ e=>e) rfl hnew hw' h1 hu)).put hne _
