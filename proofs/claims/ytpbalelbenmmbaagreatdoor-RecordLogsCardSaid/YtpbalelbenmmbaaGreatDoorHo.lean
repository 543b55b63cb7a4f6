import Derived.Test.YtpbalelbenmmbaaGreatDoorHa
set_option linter.all false
namespace Go.Ab
open Go.RowKit
section
variable{E:Env}{U:bc}{c c2 c3:Ctx}{a:Act}{w w':World}{fs:bc}{t:St}
structure kJ(E:Env)(c c3:Ctx)(w w':World)(fs:bc)(t:St):Prop where
 Ft:∀k∈fs,hasA t k=false
 IJ:∀k∈fs,hasB t k=true\/hasA t k=true
 held:∀k∈fs,(hasB t k=true->∃b,c.loc k=some b)/\(hasA t k=true->∃x,c.arr k=some x)
 below:da w.heap.size ((c.bV fs t).out fs) w w'
 le:Mem.le c.h c3.h
 new:∀p v,c3.h p=some v->c.h p=some v\/w.heap.size<=p.block\/(c.bV fs t).out fs p.block
 ok:j6 fs c3 w'
 old:∀b,c3.out fs b->b<w.heap.size->(c.bV fs t).out fs b
 ext:Ext (c.bV fs t) c3
def kJ.keep(hB:kJ E c c3 w w' fs t){b:Nat}(h:¬(c.bV fs t).out fs b)(hlt:b<w.heap.size):w'.heap[b]?=w.heap[b]?:=hB.below.block b hlt h
def kJ.ext'(hB:kJ E c c3 w w' fs t):Ext c (c.back c3 fs t):=by
 refine⟨hB.le,fun k b e=>?_,fun k m hv lv e=>?_⟩
 ·simp only[Ctx.back];split
  ·rename_i h;rw[Zw]at h;exact hB.ext.loc k b ((eo (fa.1 h.1) h.2).trans e)
  exact e
 simp only[Ctx.back];split
 ·rename_i h;rw[Zw]at h;exact hB.ext.arr k m hv lv ((lend_arr_of (fa.1 h.1) h.2).trans e)
 grind
def aM.xw(hb:aM E U c a w)(hB:kJ E c c3 w w' fs t):aM E U (c.back c3 fs t) a w':=by
 have hs:=hB.below.size;have o3:∀k b,c3.loc k=some b->c3.out fs b:=fun k b e=>.inr (.inl ⟨k,(hB.ok.loc k b e).1,e⟩)
 have a3:∀k m hv b,c3.arr k=some (m,hv,true)->hv.ownBlock=some b->c3.out fs b:=fun k m hv b e e2=>.inr (.inr ⟨k,m,hv,(hB.ok.arr k m hv b e e2).1,e,e2⟩)
 have hnone:∀b o,b<w.heap.size->¬(c.bV fs t).out fs b->c.h ⟨b,o,none⟩=none->c3.h ⟨b,o,none⟩=none:=by
  intro b o hlt hno hn;cases hh:c3.h ⟨b,o,none⟩with
  |none=>rfl
  |some v=>
   rcases hB.new _ _ hh with h|h|h
   all_goals grind
 have hlo:∀b,(c.bV fs t).out fs b->E.B<=b\/E.X b:=by
  rintro b (h|⟨k,_,h⟩|⟨k,m,hv,_,h,h2⟩)
  ·exact h.elim
  ·rcases(hb.loc k b (eV h).2.2).1 with h|h
   all_goals simp_all
  rcases(hb.arr k m hv b (ek h).2.2 h2).1 with h|h
  all_goals simp_all
 have hcl:∀k b,k∈fs->hasB t k=true->c3.loc k=some b->c.loc k=some b:=by
  intro k b h1 h2 h3;obtain⟨b',hb'⟩:=(hB.held k h1).1 h2;have e:=hB.ext.loc k b' ((eo h1 h2).trans hb');simp_all
 have hall:∀b,b<w.heap.size->(c.back c3 fs t).all b->c.all b:=by
  intro b hlt h;rcases h with h|⟨k,h⟩|⟨k,m,hv,h,h2⟩
  ·exact .inl h
  ·grind [Ctx.all,Ctx.back]
  rcases cr h with⟨_,_,h⟩|⟨_,h⟩
  ·exact iU (hB.old b (a3 k m hv b h h2) hlt)
  exact .inr (.inr ⟨k,m,hv,h,h2⟩)
 have hkeep:∀(D:Nat)(o:Obj),¬c.all D->w.heap[D]?=some o->w'.heap[D]?=some o:=fun D o h1 h2=>(hB.keep (fun h=>h1 (iU h)) (dt.1 h2).1).trans h2
 refine⟨hb.below.trans ⟨hB.below.os,hB.below.tape,hB.below.output,hs,fun k hk hX=>hB.below.block k (dl hk hb.hB) fun h=>?_⟩,gc hb.hB hs,hb.nt,⟨hb.iP.1,fun d hd=>?_⟩,fun p hp=>?_,hB.ok.hw,Mem.le_trans hb.hle hB.le,fun p v hp=>?_,?_,?_,fun k hk=>?_,fun b hy=>?_,fun k b hk e=>?_,fun k m hv lv hk e=>?_⟩
 ·grind
 ·obtain⟨D,h1,h2,h3,h4⟩:=hb.iP.2 d hd;grind
 ·obtain⟨h1,h2,h3⟩:=hb.nS p hp;grind
 ·rcases hB.new p v hp with h|h|h
  ·exact hb.hnew p v h
  ·exact .inr (.inl (gc hb.hB h))
  simp_all
 ·intro k b hk;rcases cV hk with⟨h1,h2,h3⟩|⟨h1,h3⟩
  ·obtain⟨_,q2,q3,q4,q5⟩:=hB.ok.loc k b h3;refine⟨(hb.loc k b (hcl k b h1 h2 h3)).1,q2,q3,fun k' hk'=>?_,fun k' m hv hk' e=>?_⟩
   ·rcases cV hk' with⟨_,_,h⟩|⟨hn,h⟩
    ·grind
    exact absurd (hB.old b (o3 k b h3) (hb.loc k' b h).2.1) (hb.cz h hn)
   rcases cr hk' with⟨_,_,h⟩|⟨hn,h⟩
   ·grind
   exact absurd (hB.old b (o3 k b h3) (hb.arr k' m hv b h e).2.1) (hb.cA h e hn)
  obtain⟨q1,q2,q3,q4,q5⟩:=hb.loc k b h3;refine⟨q1,dl q2 hs,fun o=>hnone b o q2 (hb.cz h3 h1) (q3 o),fun k' hk'=>?_,fun k' m hv hk' e=>?_⟩
  ·grind [Ctx.back]
  rcases cr hk' with⟨_,_,h⟩|⟨_,h⟩
  ·exact absurd (hB.old b (a3 k' m hv b h e) q2) (hb.cz h3 h1)
  grind
 ·intro k m hv b hk hbk;rcases cr hk with⟨h1,h2,h3⟩|⟨h1,h3⟩
  ·obtain⟨_,q2,q3,q4⟩:=hB.ok.arr k m hv b h3 hbk;refine⟨absurd h2 (by rw[hB.Ft k h1];decide),q2,q3,fun k' m' hv' hk' e=>?_⟩;rcases cr hk' with⟨_,_,h⟩|⟨hn,h⟩
   ·grind
   exact absurd (hB.old b (a3 k m hv b h3 hbk) (hb.arr k' m' hv' b h e).2.1) (hb.cA h e hn)
  obtain⟨q1,q2,q3,q4⟩:=hb.arr k m hv b h3 hbk;refine⟨q1,dl q2 hs,fun o=>hnone b o q2 (hb.cA h3 hbk h1) (q3 o),fun k' m' hv' hk' e=>?_⟩;rcases cr hk' with⟨_,_,h⟩|⟨_,h⟩
  ·exact absurd (hB.old b (a3 k' m' hv' b h e) q2) (hb.cA h3 hbk h1)
  grind
 ·obtain⟨u1,u2⟩:=hb.used k hk;constructor
  ·cases e:(c.back c3 fs t).loc k with
   |none=>rfl
   |some b=>
    grind [cV]
  cases e:(c.back c3 fs t).arr k with
  |none=>rfl
  |some x=>
   rcases cr e with⟨h1,h2,_⟩|⟨_,h⟩
   ·obtain⟨b',hb'⟩:=(hB.held k h1).2 h2;simp_all
   simp_all
 ·obtain⟨h1,h2,h3,h4⟩:=hb.Y b hy;refine⟨dl h1 hs,h2,fun k hk=>?_,fun k m hv hk e=>?_⟩
  ·grind [Ctx.back]
  rcases cr hk with⟨_,_,h⟩|⟨_,h⟩
  ·exact hb.eu hy (hB.old b (a3 k m hv b h e) h1)
  grind
 ·rcases cV e with⟨h1,h2,h3⟩|⟨_,h⟩
  ·exact hb.fB k b hk (hcl k b h1 h2 h3)
  exact hb.fB k b hk h
 rcases cr e with⟨h1,h2,_⟩|⟨_,h⟩
 ·exact absurd h2 (by rw[hB.Ft k h1];decide)
 exact hb.fQ k m hv lv hk h
def Holds.xw(hb:aM E U c a w)(hB:kJ E c c3 w w' fs t){key:Nat}{x:X}(hk:¬key<1000)(hn:∀k∈fs,(hasB t k=true->key≠1000+k)/\(hasA t k=true->key≠2000+k))(h:Holds c a w key x):Holds (c.back c3 fs t) a w' key x:=by
 have hext:=hB.ext';unfold Holds at *;rw[Zm hk]at h⊢;refine cD h fun h=>?_
 split at h
 ·rename_i h2;rw[Zn h2];obtain⟨b,o,h1,h3,h4⟩:=h;have hnl:=hb.cz (fs:=fs) (t:=t) h1 fun q=>(hn _ q.1).1 q.2 I
  exact⟨b,o,hext.loc _ _ h1,(hB.keep hnl (hb.loc _ _ h1).2.1).trans h3,h4.mono hext⟩
 rename_i h2;rw[Zm h2];split at h
 ·rename_i h6;rw[Zn h6];obtain⟨sz,rows,hv,e,vs,hx,h1,h3,h4⟩:=h;have hq:¬(key - 2000∈fs/\hasA t (key - 2000)=true):=fun q=>(hn _ q.1).2 q.2 I
  refine⟨sz,rows,hv,e,vs,hx.mono hext,?_,⟨h3.1,h3.2.imp id ?_⟩,h4⟩
  ·simp_all[Ctx.back]
  rintro⟨g,cap,cur,f1,f2,f3,r⟩;exact⟨g,cap,cur,f1,f2,(hB.keep (hb.cA h1 (by rw[f1];rfl) hq) (dt.1 f3).1).trans f3,r⟩
 rename_i h6;rw[Zm h6];obtain⟨hk0,J,hx0,hJ,hJ2⟩:=h;refine⟨hk0,J,hx0.mono hext.loc,hJ,hJ _ _ _ _ _ hJ2 hB.le (fun p v e=>(hB.new p v e).imp id fun h hy=>h.elim (fun h=>by have:=(hb.Y _ hy).1;omega) fun h=>hb.eu hy h) hB.ok.hw ⟨hB.below.os,hB.below.tape,hB.below.output,hB.below.size,fun j hj=>by omega⟩ fun b hy=>hB.keep (hb.eu hy) (hb.Y b hy).1⟩
end
section
variable{E:Env}{all:Array Oper}{s r r1 r2 r3 rg:St}{d ty:Nat}{pos:String}{after:Array Edge}{guard:Option (Nat×Bool)}{x y z:Operand}
def S.ot{g:Nat}{fs:bc}{os:List Operand}{at_:Array TypeId}{ys:bi}{res:X}{t t':St}(hf:dF E.P g fs ys t t' res)
  (hcall:∀args w,(callFunc g args).run E.P w=.ok (.enter g args) w) (hg:Gd all s guard rg) (hd:cP E d=true) (ha:fE s os ys r) (ho:ys.all (fun y=>kG fs t y&&!cO y)=true)
  (hl:Looks s t) (ht:t.all (dn fs t)=true) (ht2:t'.all (dn fs t)=true) (hcov:cover fs t t'=true) (hhas:fs.all (fun k=>hasB t k||hasA t k)=true) (hdis:fs.all (fun k=>!hasA t k)=true) (hres:wY fs t res=true):
  aW E all ⟨some d,.call {callee:=.value (.func g),args:=os.toArray,argTypes:=at_},ty,pos,after,guard⟩ s (rg++(r++t)) ((d,res)::t') []:=by
 simp only[Zw,db]at hd;refine⟨?_,hg.looks.app (ha.looks.app hl)⟩;intro U c a w hb hr _ next Q hn
 have hw:=hg.wanted (o:=⟨some d,.call {callee:=.value (.func g),args:=os.toArray,argTypes:=at_},ty,pos,after,guard⟩) (fun p hp=>hr p (dv _ hp));have hargs:=ld (fs:=fs) (t:=t) (ha.rep (c:=c) (a:=a) (w:=w) fun p hp=>hr p (by simp[hp])) ho;unfold gh;rw[Zn hw];refine⟨fun _ _=>trivial,?_⟩;rw[Oper.semAt_eq _ _ _ fun cl he=>by cases he];have hfo:a.eval (.func g)=.func (.func g) #[] #[]:=rfl;have hrun:(execOp a.eval ⟨some d,.call {callee:=.value (.func g),args:=os.toArray,argTypes:=at_},ty,pos,after,guard⟩).run E.P w=.ok (.enter g (os.map a.eval).toArray) w:=by
  simp_all[execOp,resolve,Deferred.ofValue,invoke]
 rw[hrun];refine⟨Z,?_⟩;have hholds:∀p∈t,Holds c a w p.1 p.2:=fun p hp=>hr p (by simp[hp])
 have hc0:=hf (c.bV fs t) w (os.map a.eval) (mI hb) (fun p hp a'=>(hholds p hp).bV (dj.1 ht p hp)) hargs;have h1:CallsIn E.ac (0 - 1) E.P g (os.map a.eval).toArray w _:=(callsIn_wide (n:=0)).2 hc0;refine h1.mono ?_;rintro en w' ⟨u,c3,rfl,hpg⟩;have hext0:Ext (c.bV fs t) c3:=by
  refine⟨hpg.le,fun k b e=>?_,fun k m hv lv e=>?_⟩
  ·obtain⟨hk,hhb,_⟩:=eV e;obtain⟨h1,h2,_⟩:=bZ hcov hk;obtain⟨x0,hx0,hm⟩:=dM (h2 hhb);obtain⟨b',q1⟩:=gm (hpg.wr _ hm {tmps:=#[],defers:=[]}) hx0 h1;have:=hpg.loc k b' q1;simp_all
  obtain⟨hk,hha,_⟩:=ek e;simp_all
 have hB:kJ E c c3 w w' fs t:=by
  refine⟨fun k hk=>?_,fun k hk=>?_,fun k hk=>⟨fun h=>?_,fun h=>?_⟩,hpg.below,hpg.le,fun p v hp=>hpg.new p v hp,hpg.ok,hpg.out,hext0⟩
  ·simp_all
  ·simp_all
  ·obtain⟨x0,hx0,hm⟩:=dM h;exact gm (hholds _ hm) hx0 (bZ hcov hk).1
  simp_all
 have hext:=hB.ext';have hdt:d<a.tmps.size:=by rw[hb.nt];exact hd.2
 have tk:∀p∈t',1000<=p.1:=by
  intro p hp;have h:=dj.1 ht2 p hp;obtain⟨key,y⟩:=p;unfold dn at h;cases y
  case box cells=>simp_all
  case arr sz rows=>grind
  case omap es=>simp_all
  case cM sz pre mid post=>grind
  all_goals cases h
 refine hn (c.back c3 fs t) _ w' ((hb.xw hB).put _ _) hext ?_ ?_
 ·intro p hp;rcases ed.1 hp with rfl|hp
  ·unfold Holds;rw[Zn hd.1,cE hdt];exact hpg.res.back hres
  have h:=Holds.mJ (c:=c) (a':=a) (hpg.wr p hp a) (dj.1 ht2 p hp);exact h.put (by grind) u
 intro key y hk2 hy;have hne:d≠key:=hk2 (d,res) F;by_cases h1:key<1000
 ·refine Holds.put ?_ hne u;unfold Holds at hy⊢;rw[Zn h1]at hy⊢;exact hy.mono hext
 refine(Holds.xw hb hB h1 (fun k hk3=>⟨fun h e=>?_,fun h e=>?_⟩) hy).put hne u
 ·obtain⟨x0,_,hm⟩:=dM ((bZ hcov hk3).2.1 h);grind
 simp_all
def S.pX{g:Nat}{fs:bc}{os:List Operand}{at_:Array TypeId}{ys:bi}{res:X}{t t':St}(hf:dU E.P g fs ys t t' res)(hT:gO E)
  (hcall:∀args w,(callFunc g args).run E.P w=.ok (.enter g args) w) (hg:Gd all s guard rg) (hd:cP E d=true) (ha:fE s os ys r) (ho:ys.all (fun y=>kG fs t y&&!cO y)=true)
  (hl:Looks s t) (ht:t.all (dn fs t)=true) (ht2:t'.all (dn fs t)=true) (hcov:cover fs t t'=true) (hhas:fs.all (fun k=>hasB t k||hasA t k)=true) (hdis:fs.all (fun k=>!hasA t k)=true) (hres:wY fs t res=true):
  aW E all ⟨some d,.call {callee:=.value (.func g),args:=os.toArray,argTypes:=at_},ty,pos,after,guard⟩ s (rg++(r++t)) ((d,res)::t') []:=by
 simp only[Zw,db]at hd;refine⟨?_,hg.looks.app (ha.looks.app hl)⟩;intro U c a w hb hr _ next Q hn
 have hw:=hg.wanted (o:=⟨some d,.call {callee:=.value (.func g),args:=os.toArray,argTypes:=at_},ty,pos,after,guard⟩) (fun p hp=>hr p (dv _ hp));have hargs:=ld (fs:=fs) (t:=t) (ha.rep (c:=c) (a:=a) (w:=w) fun p hp=>hr p (by simp[hp])) ho;unfold gh;rw[Zn hw];refine⟨fun _ _=>trivial,?_⟩;rw[Oper.semAt_eq _ _ _ fun cl he=>by cases he];have hfo:a.eval (.func g)=.func (.func g) #[] #[]:=rfl;have hrun:(execOp a.eval ⟨some d,.call {callee:=.value (.func g),args:=os.toArray,argTypes:=at_},ty,pos,after,guard⟩).run E.P w=.ok (.enter g (os.map a.eval).toArray) w:=by
  simp_all[execOp,resolve,Deferred.ofValue,invoke]
 rw[hrun];refine⟨Z,?_⟩;have hholds:∀p∈t,Holds c a w p.1 p.2:=fun p hp=>hr p (by simp[hp])
 have hto:uC E.P ((c.bV fs t).out fs):=fun n hn' g' hg' hX=>hT.out n hn' g' hg' (by
  have hlt:=hT.FX.lt n hn' g' hg';rcases hX with hX|⟨k,_,hX⟩|⟨k,m,hv,_,hX,hX2⟩
  ·exact hX.elim
  ·rcases(hb.loc k g' (eV hX).2.2).1 with h|h
   ·exact absurd h (Hc.2 hlt)
   exact h.2
  rcases(hb.arr k m hv g' (ek hX).2.2 hX2).1 with h|h
  ·exact absurd h (Hc.2 hlt)
  exact h.2)
 have hc0:=hf (c.bV fs t) w (os.map a.eval) (hT.now hb) hto (mI hb) (fun p hp a'=>(hholds p hp).bV (dj.1 ht p hp)) hargs;have h1:CallsIn E.ac (0 - 1) E.P g (os.map a.eval).toArray w _:=(callsIn_wide (n:=0)).2 hc0;refine h1.mono ?_;rintro en w' ⟨u,c3,rfl,hpg⟩;have hext0:Ext (c.bV fs t) c3:=by
  refine⟨hpg.le,fun k b e=>?_,fun k m hv lv e=>?_⟩
  ·obtain⟨hk,hhb,_⟩:=eV e;obtain⟨h1,h2,_⟩:=bZ hcov hk;obtain⟨x0,hx0,hm⟩:=dM (h2 hhb);obtain⟨b',q1⟩:=gm (hpg.wr _ hm {tmps:=#[],defers:=[]}) hx0 h1;have:=hpg.loc k b' q1;simp_all
  obtain⟨hk,hha,_⟩:=ek e;simp_all
 have hB:kJ E c c3 w w' fs t:=by
  refine⟨fun k hk=>?_,fun k hk=>?_,fun k hk=>⟨fun h=>?_,fun h=>?_⟩,hpg.below,hpg.le,fun p v hp=>hpg.new p v hp,hpg.ok,hpg.out,hext0⟩
  ·simp_all
  ·simp_all
  ·obtain⟨x0,hx0,hm⟩:=dM h;exact gm (hholds _ hm) hx0 (bZ hcov hk).1
  simp_all
 have hext:=hB.ext';have hdt:d<a.tmps.size:=by rw[hb.nt];exact hd.2
 have tk:∀p∈t',1000<=p.1:=by
  intro p hp;have h:=dj.1 ht2 p hp;obtain⟨key,y⟩:=p;unfold dn at h;cases y
  case box cells=>simp_all
  case arr sz rows=>grind
  case omap es=>simp_all
  case cM sz pre mid post=>grind
  all_goals cases h
 refine hn (c.back c3 fs t) _ w' ((hb.xw hB).put _ _) hext ?_ ?_
 ·intro p hp;rcases ed.1 hp with rfl|hp
  ·unfold Holds;rw[Zn hd.1,cE hdt];exact hpg.res.back hres
  have h:=Holds.mJ (c:=c) (a':=a) (hpg.wr p hp a) (dj.1 ht2 p hp);exact h.put (by grind) u
 intro key y hk2 hy;have hne:d≠key:=hk2 (d,res) F;by_cases h1:key<1000
 ·refine Holds.put ?_ hne u;unfold Holds at hy⊢;rw[Zn h1]at hy⊢;exact hy.mono hext
 refine(Holds.xw hb hB h1 (fun k hk3=>⟨fun h e=>?_,fun h e=>?_⟩) hy).put hne u
 ·obtain⟨x0,_,hm⟩:=dM ((bZ hcov hk3).2.1 h);grind
 simp_all
end
end Go.Ab
namespace Go.Ab
open Go.RowKit
abbrev wM(f:Nat):X:=.raw (.func (.func f) #[] #[])
def Fk{c:Ctx}{f:Nat}{v:Value}(h:aV c (.fn f []) v):aV c (wM f) v:=by
 obtain⟨vs,rfl,h2⟩:=h;have:=h2.bJ;subst this;rfl
section
variable{E:Env}{all:Array Oper}{s r r1 r2 r3 rg:St}{d ty:Nat}{pos:String}{after:Array Edge}{guard:Option (Nat×Bool)}{x y z:Operand}
def S.Ep{f:Nat}{os:List Operand}{at_:Array TypeId}{ys:bi}{res:X}(hf:Ct E.P f ys res)(hcall:∀args w,(callFunc f args).run E.P w=.ok (.enter f args) w)(hg:Gd all s guard rg)(hd:cP E d=true)
  (hx:bI s x (wM f) r1) (ha:fE s os ys r) (ho:ys.all fm=true):
  aW E all ⟨some d,.call {callee:=.value x,args:=os.toArray,argTypes:=at_},ty,pos,after,guard⟩ s (rg++(r1++r)) [(d,res)] []:=
 step_call (caps:=[]) hg hd (hx.looks.app ha.looks) hcall (by simpa using hf.at) fun c a w hr=>⟨bY (ha.rep fun p hp=>hr p (fv _ hp)) ho,[],hx.rep (c:=c) (a:=a) (w:=w) fun p hp=>hr p (dv _ hp),Zo⟩
def Good.tr{U:bc}{a:Act}{w:World}{b:Nat}{cells cells':bi}(hg:Good E U s a w)(hb:look s (1000+b)=some (.box cells))(hb2:Nat.blt b 1000=true)(hc:∀(c:Ctx)(vs:List Value),ah (aV c) cells vs->ah (aV c) cells' vs):
  Good E U ((1000+b,.box cells')::s) a w:=by
 grind [Good,look,Nat.blt_eq,Nat.eq_of_beq_eq_true,fD,Holds.sD]
def OK.tr{U:bc}{code:Code}{Q:bo}(b:Nat){cells:bi}(cells':bi)(hb:look s (1000+b)=some (.box cells))(hb2:Nat.blt b 1000=true)(hc:∀(c:Ctx)(vs:List Value),ah (aV c) cells vs->ah (aV c) cells' vs)
 (h:OK E code Q U ((1000+b,.box cells')::s)):OK E code Q U s:=fun a w hg=>h a w (hg.tr hb hb2 hc)
def uO{f:Nat}{x y:X}:∀(c:Ctx)(vs:List Value),ah (aV c) [.fn f [],x,y] vs->ah (aV c) [wM f,x,y] vs
 |_,[],h=>h.elim
 |_,[_],h=>h.2.elim
 |_,[_,_],h=>h.2.2.elim
 |_,[_,_,_],h=>⟨Fk h.1,h.2.1,h.2.2.1,Zo⟩
 |_,_::_::_::_::_,h=>h.2.2.2.elim
end
end Go.Ab
namespace Go.Ab
open Go.RowKit
section
variable{E:Env}{all:Array Oper}{s r r1 r2 r3 rg:St}{d ty:Nat}{pos:String}{after:Array Edge}{guard:Option (Nat×Bool)}{x y z:Operand}
def S.Dg{t e sz bytes k:Nat}{us row:bi}(hA:lV E.P t e sz bytes)(hg:Gd all s guard rg)(hd:cP E d=true)
  (hx:bI s x (.agg us) r) (hu:nX (.agg us)=true) (hf:oS (fun i=>some (i * sz,sz)) (List.replicate (1 * sz) .any) [(0,.agg us)]=some us) (hrow:oz us row) (hr:Nat.beq us.length sz=true) (hbig:Nat.ble (1 * sz) 16777216=true) (hk9:E.fs.contains k=false:=by rfl) (hk1:Nat.blt k 1000=true:=by rfl):
  aW E all ⟨some d,.buildSlice t 1 #[(0,x)],ty,pos,after,guard⟩ s (rg++r) ((d,.own k 1)::[(2000+k,.arr sz [row])]) [k]:=
 aW.mk hg hd rfl hx.looks fun U c a w hb hrr hal=>by
  rw[ii]at hbig;rw[db]at hk1;have hkU:k∉U:=hal k F;have hlen:=Nat.eq_of_beq_eq_true hr;obtain⟨hsz,zv,hz,hzs⟩:=hA.run;have hxr:=hx.rep (c:=c) (a:=a) (w:=w) hrr;have hbase:∀(q:Array Value),q.size=1 * sz->ah (aV c) (List.replicate (1 * sz) .any) q.toList:=fun q hq=>ah.fb (by simp[hq]) fun i u v hu _=>by
   simp only[tz]at hu;split at hu
   ·cases hu;exact trivial
   cases hu
  obtain⟨cells,h1,h2⟩:=jh (c:=c) (fun i=>some (i * sz,sz)) [(0,.agg us)] [(0,a.eval x)] _ (((Array.range (1 * sz)).map fun i=>(if 1 * sz=0 then #[]else zv.cells)[i % (if 1 * sz=0 then #[]else zv.cells).size]!)) us (hbase _ F) ⟨⟨rfl,(gq hxr hu).1⟩,Zo⟩ hf;have hcs:cells.size=1 * sz:=by have:=h2.length;rw[hlen]at this;simpa using this.symm
  have hB:=cX w (.cells cells e);obtain⟨g1,g2,g3,g4⟩:=hb.lQ (nQ hk9) hkU (n:=1) (v:=.slice (some ⟨w.heap.size,0,none⟩) 1 1) hB (.inr ⟨rfl,by simp⟩);have hp:=hA.pos;have hrl:row.length=sz:=by have:=hrow.length;omega
  refine⟨.slice (some ⟨w.heap.size,0,none⟩) 1 1,_,w.alloc (.cells cells e),?_,g1,g2,⟨⟨_,_,_,rfl⟩,1,_,_,g3,Zq _,fun _=>rfl⟩,?_,fun key u hkey _ hu=>g4 key u hkey hu⟩
  ·have hnb:¬(1 * sz>2 ^ 24):=by omega
   simp only[execOp,Instr.buildSlice,Sem.run_bind,run_underlying hA.mD,Result.andThen_ok,hsz,hnb,if_false];have h0:¬(1 * sz=0):=by omega
   simp only[h0,if_false]at h1;have h0':¬sz=0:=by omega
   simp at h1;simp[hz,h0',h1,newRow]
  intro p hp2;simp only[df]at hp2;subst hp2;refine Holds.lB (e:=e) (vs:=cells.toList) I g3 ⟨by simp[hcs],.inr ⟨w.heap.size,1,cells,rfl,Zr _,heap_alloc_new w _,Zq _,by unfold maxLen;omega,hcs,?_⟩⟩ ?_ ?_
  ·show cells.toList.take (1 * sz)=_;rw[eK (by simp[hcs])]
  ·intro q hq;simp only[df]at hq;subst hq;exact hrl
  have:=hrow.rep (h2.mono fun _ _=>aV.mono g2);simpa using this
