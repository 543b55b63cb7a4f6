import Derived.Laws.Concat
import Derived.Laws.MakeOwn
import Derived.Lib.AtoiAll
import Derived.Lib.Bytealg
import Derived.Lib.Itoa
import Derived.Lib.Join
import Derived.Lib.LaidTab
import Derived.Stop.LaidErr
import Derived.WalkSpells
import Derived.Test.YtpbalelbenmmbaaGreatDoorFj
set_option linter.all false
namespace Go.Ab
open Go.RowKit
def hasB(t:St)(k:Nat):Bool:=t.any fun p=>Nat.beq p.1 (1000+k)&&(match p.2 with
 |.box _=>true
 |.omap _=>true
 |_=>false)
def hasA(t:St)(k:Nat):Bool:=t.any fun p=>Nat.beq p.1 (2000+k)&&(match p.2 with
 |.arr _ _=>true
 |.cM _ _ _ _=>true
 |_=>false)
def Hl:X->Bool
 |.box _=>true
 |.omap _=>true
 |_=>false
def Ho:X->Bool
 |.arr _ _=>true
 |.cM _ _ _ _=>true
 |_=>false
def gm{c:Ctx}{a:Act}{w:World}{k:Nat}{x:X}(h:Holds c a w (1000+k) x)(hx:Hl x=true)(hk:k<1000):∃b,c.loc k=some b:=by
 unfold Holds at h;grind [xe,Hl]
theorem ia{c:Ctx}{a:Act}{w:World}{k:Nat}{x:X}(h:Holds c a w (2000+k) x)(hx:Ho x=true):∃p,c.arr k=some p:=by
 unfold Holds at h;by_cases hk:k<1000
 ·grind [D3,Ho]
 rw[Zm I,Zm I,Zm I]at h;rcases h with rfl|⟨_,J,hJ,_⟩
 ·cases hx
 cases x<;>first|exact False.elim hJ|cases hx
def dM{t:St}{k:Nat}(h:hasB t k=true):∃x,Hl x=true/\(1000+k,x)∈t:=by
 unfold hasB at h;rw[xv]at h;obtain⟨⟨i,x⟩,h1,h2⟩:=h;simp only[Zw]at h2;have h3:=Nat.eq_of_beq_eq_true h2.1;subst h3;cases x<;>first|exact⟨_,rfl,h1⟩|simp_all
theorem dN{t:St}{k:Nat}(h:hasA t k=true):∃x,Ho x=true/\(2000+k,x)∈t:=by
 unfold hasA at h;rw[xv]at h;obtain⟨⟨i,x⟩,h1,h2⟩:=h;simp only[Zw]at h2;have h3:=Nat.eq_of_beq_eq_true h2.1;subst h3;cases x<;>first|exact⟨_,rfl,h1⟩|simp_all
def Ctx.bV(c:Ctx)(fs:bc)(t:St):Ctx:=⟨c.h,fun k=>if(fs.contains k&&hasB t k)=true then c.loc k else none,fun k=>if(fs.contains k&&hasA t k)=true then c.arr k else none,fun _=>False⟩
theorem eV{c:Ctx}{fs:bc}{t:St}{k b:Nat}(e:(c.bV fs t).loc k=some b):k∈fs/\hasB t k=true/\c.loc k=some b:=by
 simp_all[Ctx.bV]
def ek{c:Ctx}{fs:bc}{t:St}{k:Nat}{x:Nat×Value×Bool}(e:(c.bV fs t).arr k=some x):k∈fs/\hasA t k=true/\c.arr k=some x:=by
 simp_all[Ctx.bV]
def eo{c:Ctx}{fs:bc}{t:St}{k:Nat}(h1:k∈fs)(h2:hasB t k=true):(c.bV fs t).loc k=c.loc k:=by
 simp_all[Ctx.bV]
def lend_arr_of{c:Ctx}{fs:bc}{t:St}{k:Nat}(h1:k∈fs)(h2:hasA t k=true):(c.bV fs t).arr k=c.arr k:=by
 simp_all[Ctx.bV]
def gp(fs:bc)(t:St):X->Bool
 |.ptr k _=>fs.contains k&&hasB t k
 |.own k _=>fs.contains k&&hasA t k
 |.di k _ _=>fs.contains k&&hasA t k
 |.jt k=>fs.contains k&&hasB t k
 |.rU k _ _ _ _=>fs.contains k&&hasA t k
 |_=>true
def gP(fs:bc)(t:St):X->Bool
 |.fn _ caps=>caps.all (gp fs t)
 |x=>gp fs t x
def dn(fs:bc)(t:St)(p:Nat×X):Bool:=match p.2 with
 |.box cells=>Nat.ble 1000 p.1&&Nat.blt p.1 2000&&fs.contains (p.1 - 1000)&&hasB t (p.1 - 1000)&&cells.all (gP fs t)
 |.arr _ _=>Nat.ble 2000 p.1&&Nat.blt p.1 3000&&fs.contains (p.1 - 2000)&&hasA t (p.1 - 2000)
 |.cM _ _ mid _=>Nat.ble 2000 p.1&&Nat.blt p.1 3000&&fs.contains (p.1 - 2000)&&hasA t (p.1 - 2000)&&mid.all (gP fs t)
 |.omap _=>Nat.ble 1000 p.1&&Nat.blt p.1 2000&&fs.contains (p.1 - 1000)&&hasB t (p.1 - 1000)
 |_=>false
theorem cq.bV{c:Ctx}{fs:bc}{t:St}{x:X}{v:Value}(h:cq c x v)(ho:gp fs t x=true):cq (c.bV fs t) x v:=by
 cases x
 case ptr k off=>
  obtain⟨b,h1,h2⟩:=h;simp only[gp,Zw]at ho;exact⟨b,(eo (fa.1 ho.1) ho.2).trans h1,h2⟩
 case own k n=>
  obtain⟨h0,m,hv,lv,h1,h2⟩:=h;simp only[gp,Zw]at ho;exact⟨h0,m,hv,lv,(lend_arr_of (fa.1 ho.1) ho.2).trans h1,h2⟩
 case di k n off=>
  obtain⟨m,hv,lv,h1,h2⟩:=h;simp only[gp,Zw]at ho;exact⟨m,hv,lv,(lend_arr_of (fa.1 ho.1) ho.2).trans h1,h2⟩
 case jt k=>
  obtain⟨b,h1,h2⟩:=h;simp only[gp,Zw]at ho;exact⟨b,(eo (fa.1 ho.1) ho.2).trans h1,h2⟩
 case rU k n sz lo hi=>
  obtain⟨h0,m,hv,lv,h1,h2⟩:=h;simp only[gp,Zw]at ho;exact⟨h0,m,hv,lv,(lend_arr_of (fa.1 ho.1) ho.2).trans h1,h2⟩
 all_goals exact h
theorem aV.bV{c:Ctx}{fs:bc}{t:St}{x:X}{v:Value}(h:aV c x v)(ho:gP fs t x=true):aV (c.bV fs t) x v:=by
 cases x
 case fn f caps=>grind [aV,gP,ah.cut,cq.bV]
 all_goals simp_all[aV,gP,cq.bV]
def Holds.bV{c:Ctx}{fs:bc}{t:St}{w:World}{key:Nat}{x:X}{a a':Act}(h:Holds c a w key x)(ho:dn fs t (key,x)=true):Holds (c.bV fs t) a' w key x:=by
 unfold dn at ho;cases x
 case box cells=>
  simp only[Zw,ii,db]at ho;obtain⟨⟨⟨⟨h1,h2⟩,h3⟩,h4⟩,h5⟩:=ho;unfold Holds at h⊢;rw[Zm I]at h⊢;refine cD h fun h=>?_
  rw[Zn h2]at h⊢;obtain⟨b,o,q1,q2,T,vs,e,q3⟩:=h;exact⟨b,o,(eo (fa.1 h3) h4).trans q1,q2,T,vs,e,ah.cut (R':=aV (c.bV fs t)) (ok:=gP fs t) (fun _ _ h ho=>aV.bV h ho) q3 h5⟩
 case omap es=>
  simp only[Zw,ii,db]at ho;obtain⟨⟨⟨h1,h2⟩,h3⟩,h4⟩:=ho;unfold Holds at h⊢;rw[Zm I]at h⊢;refine cD h fun h=>?_
  rw[Zn h2]at h⊢;obtain⟨b,o,q1,q2,q3⟩:=h;exact⟨b,o,(eo (fa.1 h3) h4).trans q1,q2,q3⟩
 case cM sz pre mid post=>
  simp only[Zw,ii,db]at ho;obtain⟨⟨⟨⟨h1,h2⟩,h3⟩,h4⟩,h5⟩:=ho;unfold Holds at h⊢;rw[Zm I]at h⊢;refine cD h fun h=>?_
  rw[Zm I,Zn h2]at h⊢;obtain⟨sz',rows',hv,e,vs,⟨e1,e2,v1,v2,v3,e3,e4,e5,e6⟩,q1,q2⟩:=h;exact⟨sz',rows',hv,e,vs,⟨e1,e2,v1,v2,v3,e3,e4,ah.cut (R':=aV (c.bV fs t)) (ok:=gP fs t) (fun _ _ h ho=>aV.bV h ho) e5 h5,e6⟩,(lend_arr_of (fa.1 h3) h4).trans q1,q2⟩
 case arr sz rows=>
  simp only[Zw,ii,db]at ho;obtain⟨⟨⟨h1,h2⟩,h3⟩,h4⟩:=ho;unfold Holds at h⊢;rw[Zm I]at h⊢;refine cD h fun h=>?_
  rw[Zm I,Zn h2]at h⊢;obtain⟨sz',rows',hv,e,vs,e1,q1,q2⟩:=h;exact⟨sz',rows',hv,e,vs,e1,(lend_arr_of (fa.1 h3) h4).trans q1,q2⟩
 all_goals cases ho
structure BQ(fs:bc)(t0:St)(cL c:Ctx)(h:Mem)(Y:Nat->Prop)(w:World):Prop where
 hh:c.h=h
 ok:j6 fs c w
 Y:∀b,Y b↔c.out fs b
 loc:∀k b,c.loc k=some b->hasB t0 k=true
 arr:∀k x,c.arr k=some x->hasA t0 k=true
 ext:Ext cL c
def ic(fs:bc)(t0:St)(cL:Ctx)(t:St):bm:=fun h Y w=>∃c,BQ fs t0 cL c h Y w/\∀p∈t,∀a,Holds c a w p.1 p.2
def ic.az{fs:bc}{t0:St}{cL:Ctx}{t:St}(ht:t.all (iQ fs)=true):aZ (ic fs t0 cL t):=by
 rintro h h' Y w w' ⟨c,hl,hp⟩ hle hnew hw' hB hX;have hhc:=hl.hh;subst hhc;have none_of:∀b o,c.out fs b->c.h ⟨b,o,none⟩=none->h' ⟨b,o,none⟩=none:=by
  intro b o ho hn;cases hh:h' ⟨b,o,none⟩with
  |none=>rfl
  |some v=>
   rcases hnew _ _ hh with h|h
   ·simp_all
   exact absurd ((hl.Y b).2 ho) h
 refine⟨c.gi fs h',⟨rfl,⟨hw',?_,?_,?_,?_⟩,?_,fun k b hk=>hl.loc k b (dX hk).2,fun k x hk=>hl.arr k x (dY hk).2,hl.ext.trans ⟨hle,?_,?_⟩⟩,fun p hp' a=>?_⟩
 ·intro k b hk;obtain⟨hk0,hk1⟩:=dX hk;obtain⟨h1,h2,h3,h4,h5⟩:=hl.ok.loc k b hk1;exact⟨h1,dl h2 hB.size,fun o=>none_of b o (.inr (.inl ⟨k,h1,hk1⟩)) (h3 o),fun k' hk'=>h4 k' (dX hk').2,fun k' m hv hk'=>h5 k' m hv (dY hk').2⟩
 ·intro k m hv b hk hbk;obtain⟨hk0,hk1⟩:=dY hk;obtain⟨h1,h2,h3,h4⟩:=hl.ok.arr k m hv b hk1 hbk;exact⟨h1,dl h2 hB.size,fun o=>none_of b o (.inr (.inr ⟨k,m,hv,h1,hk1,hbk⟩)) (h3 o),fun k' m' hv' hk'=>h4 k' m' hv' (dY hk').2⟩
 ·grind [Ctx.gi]
 ·intro b hy;obtain⟨h1,h2,h3⟩:=hl.ok.Y b hy;exact⟨dl h1 hB.size,fun k hk=>h2 k (dX hk).2,fun k m hv hk=>h3 k m hv (dY hk).2⟩
 ·intro b;refine⟨fun hy=>?_,fun ho=>(hl.Y b).2 (pL ho)⟩;rcases(hl.Y b).1 hy with hy|⟨k,h1,h2⟩|⟨k,m,hv,h1,h2,h3⟩
  ·exact .inl hy
  ·exact .inr (.inl ⟨k,h1,by simp_all[Ctx.gi]⟩)
  exact .inr (.inr ⟨k,m,hv,h1,by simp_all[Ctx.gi],h3⟩)
 ·intro k b hk;simp only[Ctx.gi];rw[Zn (fa.2 (hl.ok.loc k b hk).1)];exact hk
 ·intro k m hv lv hk;refine⟨m,hv,lv,?_,Zq _,fun _=>rfl⟩;simp only[Ctx.gi];by_cases hf:k∈fs
  ·simp_all
  have:=(hl.ok.none k hf).2;simp_all
 exact Holds.gi hle (fun p v hv=>(hnew p v hv).imp id fun hn hy=>hn ((hl.Y _).2 (.inl hy))) hw' hB (fun b hb=>hX b ((hl.Y b).2 hb)) (hp p hp' a) (dj.1 ht p hp')
def cover(fs:bc)(t0 t:St):Bool:=fs.all fun k=>Nat.blt k 1000&&(!hasB t0 k||hasB t k)&&(!hasA t0 k||hasA t k)
def bZ{fs:bc}{t0 t:St}(h:cover fs t0 t=true){k:Nat}(hk:k∈fs):k<1000/\(hasB t0 k=true->hasB t k=true)/\(hasA t0 k=true->hasA t k=true):=by
 have h1:=dj.1 h k hk;simp only[Zw,db,im,lA]at h1;grind
def BR{fs:bc}{t0 t':St}{cL c c':Ctx}{h:Mem}{Y:Nat->Prop}{w w':World}{res:X}{u:Value}(hl:BQ fs t0 cL c h Y w)(hpg:iS fs c w t' res u c' w')(hcov:cover fs t0 t'=true):Ext c c':=by
 refine⟨hpg.le,fun k b e=>?_,fun k m hv lv e=>?_⟩
 ·have hk:=(hl.ok.loc k b e).1;obtain⟨h1,h2,_⟩:=bZ hcov hk;obtain⟨x0,hx0,hm⟩:=dM (h2 (hl.loc k b e));obtain⟨b',q1⟩:=gm (hpg.wr _ hm {tmps:=#[],defers:=[]}) hx0 h1;have:=hpg.loc k b' q1;simp_all
 have hk:k∈fs:=by
  by_cases hf:k∈fs
  ·exact hf
  have:=(hl.ok.none k hf).2;simp_all
 obtain⟨h1,_,h2⟩:=bZ hcov hk;obtain⟨x0,hx0,hm⟩:=dN (h2 (hl.arr k _ e));obtain⟨⟨_,_,_⟩,q1⟩:=ia (hpg.wr _ hm {tmps:=#[],defers:=[]}) hx0;obtain⟨m0,hv0,lv0,q2,q3,q4⟩:=hpg.arr k _ _ _ q1;grind
def Pc.Ad{c:Ctx}:∀{us:bi}{vs:List Value},ah (cq c) us vs->us.all (fun u=>!bR u)=true->ah (bt c) us vs
 |[],[],_,_=>trivial
 |_::_,_::_,h,ho=>by
  simp only[ee,Zw,lA]at ho;exact⟨P.Ad h.1 ho.1,Pc.Ad h.2 (by simp_all)⟩
 |[],_::_,h,_=>h.elim
 |_::_,[],h,_=>h.elim
def yF{P:Program}{f:Nat}{fs:bc}{ys caps:bi}{res:X}{t0 t t':St}{cL:Ctx}{v0:Value}(hf:dF P f fs (ys++caps) t t' res)(hcall:∀args w,(callFunc f args).run P w=.ok (.enter f args) w)(hs:Ae res=true)
  (hv:aV cL (.fn f caps) v0) (hc3:caps.all (fun u=>!bR u)=true) (hcov:cover fs t0 t'=true):nR P v0 ys res (ic fs t0 cL t) (ic fs t0 cL t'):=by
 intro h Y w vs hw hY hJ hargs;obtain⟨c,hl,hp⟩:=hJ;have hhc:=hl.hh;subst hhc;obtain⟨cvs,e0,hcv⟩:=hv.mono hl.ext;refine .inl ⟨f,#[],cvs.toArray,e0,hcall,?_⟩;have hargs2:ah (bt c) (ys++caps) (vs++cvs):=(hargs.mono fun _ _=>bt.mono (cS rfl)).append (Pc.Ad hcv hc3);have h1:=hf c w (vs++cvs) hl.ok (fun p hp' a=>hp p hp' a) hargs2;have e:(vs++cvs).toArray= #[]++vs.toArray++cvs.toArray:=by simp
 rw[e]at h1;refine h1.mono ?_;rintro en w' ⟨u,c',rfl,hpg⟩;refine⟨u,c'.h,fun b=>c'.out fs b,rfl,⟨hpg.below.mono (Zq _) fun k _ hk=>(hl.Y k).2 hk,hpg.le,(fun p v hp=>(hpg.new p v hp).imp id fun q=>q.imp id fun q=>(hl.Y _).2 q),hpg.ok.hw,?_,fun b hb hlt=>(hl.Y b).2 (hpg.out b hb hlt)⟩,⟨c',⟨rfl,hpg.ok,fun b=>Iff.rfl,fun k b hk=>hl.loc k b (hpg.loc k b hk),fun k x hk=>?_,hl.ext.trans (BR hl hpg hcov)⟩,hpg.wr⟩,ql hs hpg.res⟩
 ·rintro b (hy|⟨k,h1,h2⟩|⟨k,m,hv,h1,h2,h3⟩)
  ·exact(hpg.ok.Y b hy).1
  ·exact(hpg.ok.loc k b h2).2.1
  exact(hpg.ok.arr k m hv b h2 h3).2.1
 obtain⟨m,hv,lv⟩:=x;obtain⟨m0,hv0,lv0,q,_⟩:=hpg.arr k m hv lv hk;exact hl.arr k _ q
def ah.BS{α β:Type}{R:α->β->Prop}:∀{us:List α}{z:α}{bs:List β},ah R (us++[z]) bs->∃bs' b,bs=bs'++[b]/\ah R us bs'/\R z b
 |[],z,[b],h=>⟨[],b,rfl,Zo,h.1⟩
 |[],_,[],h=>h.elim
 |[],_,_::_::_,h=>h.2.elim
 |_::_,z,[],h=>h.elim
 |a::us,z,b::bs,h=>by
  obtain⟨bs',b',rfl,h1,h2⟩:=ah.BS h.2;exact⟨b::bs',b',rfl,⟨h.1,h1⟩,h2⟩
def Ctx.back(c c3:Ctx)(fs:bc)(t:St):Ctx:=⟨c3.h,fun k=>if(fs.contains k&&hasB t k)=true then c3.loc k else c.loc k,fun k=>if(fs.contains k&&hasA t k)=true then c3.arr k else c.arr k,c.Y⟩
section
variable{E:Env}{U:bc}{c c2 c3:Ctx}{a:Act}{w w':World}{fs:bc}{t:St}
theorem iT{b:Nat}(h:(c.bV fs t).out fs b):(∃k,k∈fs/\hasB t k=true/\c.loc k=some b)\/∃k m hv,k∈fs/\hasA t k=true/\c.arr k=some (m,hv,true)/\hv.ownBlock=some b:=by
 rcases h with h|⟨k,h1,h2⟩|⟨k,m,hv,h1,h2,h3⟩
 ·exact h.elim
 ·grind [eV]
 obtain⟨_,q2,q3⟩:=ek h2;grind
def iU{b:Nat}(h:(c.bV fs t).out fs b):c.all b:=by
 grind [Ctx.all,iT]
def mI(hb:aM E U c a w):j6 fs (c.bV fs t) w:=by
 refine⟨hb.hw,fun k b e=>?_,fun k m hv b e hbk=>?_,fun k hk=>?_,fun b hy=>hy.elim⟩
 ·obtain⟨h1,h2,h3⟩:=eV e;obtain⟨_,q2,q3,q4,q5⟩:=hb.loc k b h3;exact⟨h1,q2,q3,fun k' hk'=>q4 k' (eV hk').2.2,fun k' m hv hk'=>q5 k' m hv (ek hk').2.2⟩
 ·obtain⟨h1,h2,h3⟩:=ek e;obtain⟨_,q2,q3,q4⟩:=hb.arr k m hv b h3 hbk;exact⟨h1,q2,q3,fun k' m' hv' hk'=>q4 k' m' hv' (ek hk').2.2⟩
 grind [Ctx.bV]
theorem cV{k b:Nat}(e:(c.back c3 fs t).loc k=some b):(k∈fs/\hasB t k=true/\c3.loc k=some b)\/(¬(k∈fs/\hasB t k=true)/\c.loc k=some b):=by
 grind [Ctx.back]
def cr{k:Nat}{x:Nat×Value×Bool}(e:(c.back c3 fs t).arr k=some x):(k∈fs/\hasA t k=true/\c3.arr k=some x)\/(¬(k∈fs/\hasA t k=true)/\c.arr k=some x):=by
 grind [Ctx.back]
structure oH(E:Env)(c c3:Ctx)(w w':World)(fs:bc)(t:St):Prop where
 Ft:∀k∈fs,k∉E.fs
 IJ:∀k∈fs,hasB t k=true\/hasA t k=true
 held:∀k∈fs,(hasB t k=true->∃b,c.loc k=some b)/\(hasA t k=true->∃x,c.arr k=some x)
 below:da w.heap.size ((c.bV fs t).out fs) w w'
 le:Mem.le c.h c3.h
 new:∀p v,c3.h p=some v->c.h p=some v\/w.heap.size<=p.block\/(c.bV fs t).out fs p.block
 ok:j6 fs c3 w'
 old:∀b,c3.out fs b->b<w.heap.size->(c.bV fs t).out fs b
 ext:Ext (c.bV fs t) c3
def oH.keep(hB:oH E c c3 w w' fs t){b:Nat}(h:¬(c.bV fs t).out fs b)(hlt:b<w.heap.size):w'.heap[b]?=w.heap[b]?:=hB.below.block b hlt h
def oH.ext'(hB:oH E c c3 w w' fs t):Ext c (c.back c3 fs t):=by
 refine⟨hB.le,fun k b e=>?_,fun k m hv lv e=>?_⟩
 ·simp only[Ctx.back];split
  ·rename_i h;rw[Zw]at h;exact hB.ext.loc k b ((eo (fa.1 h.1) h.2).trans e)
  exact e
 simp only[Ctx.back];split
 ·rename_i h;rw[Zw]at h;exact hB.ext.arr k m hv lv ((lend_arr_of (fa.1 h.1) h.2).trans e)
 grind
def aM.cz(hb:aM E U c a w){k b:Nat}(h:c.loc k=some b)(hn:¬(k∈fs/\hasB t k=true)):¬(c.bV fs t).out fs b:=by
 intro ho;obtain⟨_,_,_,q4,q5⟩:=hb.loc k b h;grind [iT]
def aM.cA(hb:aM E U c a w){k m b:Nat}{hv:Value}(h:c.arr k=some (m,hv,true))(hbk:hv.ownBlock=some b)(hn:¬(k∈fs/\hasA t k=true)):¬(c.bV fs t).out fs b:=by
 intro ho;obtain⟨_,_,_,q4⟩:=hb.arr k m hv b h hbk;rcases iT ho with⟨j,h1,h2,h3⟩|⟨j,m',hv',h1,h2,h3,h4⟩
 ·exact(hb.loc j b h3).2.2.2.2 k m hv h hbk
 grind
def aM.eu(hb:aM E U c a w){b:Nat}(h:c.Y b):¬(c.bV fs t).out fs b:=by
 intro ho;obtain⟨_,_,q3,q4⟩:=hb.Y b h;grind [iT]
def aM.lent_own(hb:aM E U c a w)(hd:∀k∈fs,k∉E.fs){b:Nat}(h:(c.bV fs t).out fs b):E.B<=b:=by
 rcases iT h with⟨k,h1,_,h2⟩|⟨k,m,hv,h1,_,h2,h3⟩
 ·exact Env.gN (hb.loc k b h2).1 (hd k h1)
 exact Env.gN (hb.arr k m hv b h2 h3).1 (hd k h1)
def aM.back(hb:aM E U c a w)(hB:oH E c c3 w w' fs t):aM E U (c.back c3 fs t) a w':=by
 have hs:=hB.below.size;have o3:∀k b,c3.loc k=some b->c3.out fs b:=fun k b e=>.inr (.inl ⟨k,(hB.ok.loc k b e).1,e⟩)
 have a3:∀k m hv b,c3.arr k=some (m,hv,true)->hv.ownBlock=some b->c3.out fs b:=fun k m hv b e e2=>.inr (.inr ⟨k,m,hv,(hB.ok.arr k m hv b e e2).1,e,e2⟩)
 have hnone:∀b o,b<w.heap.size->¬(c.bV fs t).out fs b->c.h ⟨b,o,none⟩=none->c3.h ⟨b,o,none⟩=none:=by
  intro b o hlt hno hn;cases hh:c3.h ⟨b,o,none⟩with
  |none=>rfl
  |some v=>
   rcases hB.new _ _ hh with h|h|h
   all_goals grind
 have hnew3:∀b,c3.out fs b->E.B<=b:=by
  intro b ho;rcases mx b w.heap.size with h|h
  ·exact hb.lent_own hB.Ft (hB.old b ho h)
  exact gc hb.hB h
 have hall:∀b,b<w.heap.size->(c.back c3 fs t).all b->c.all b:=by
  intro b hlt h;rcases h with h|⟨k,h⟩|⟨k,m,hv,h,h2⟩
  ·exact .inl h
  ·rcases cV h with⟨_,_,h⟩|⟨_,h⟩
   ·exact iU (hB.old b (o3 k b h) hlt)
   exact .inr (.inl ⟨k,h⟩)
  rcases cr h with⟨_,_,h⟩|⟨_,h⟩
  ·exact iU (hB.old b (a3 k m hv b h h2) hlt)
  exact .inr (.inr ⟨k,m,hv,h,h2⟩)
 have hkeep:∀(D:Nat)(o:Obj),¬c.all D->w.heap[D]?=some o->w'.heap[D]?=some o:=fun D o h1 h2=>(hB.keep (fun h=>h1 (iU h)) (dt.1 h2).1).trans h2
 refine⟨hb.below.trans ⟨hB.below.os,hB.below.tape,hB.below.output,hs,fun k hk _=>hB.below.block k (dl hk hb.hB) fun h=>?_⟩,gc hb.hB hs,hb.nt,⟨hb.iP.1,fun d hd=>?_⟩,fun p hp=>?_,hB.ok.hw,Mem.le_trans hb.hle hB.le,fun p v hp=>?_,?_,?_,fun k hk=>?_,fun b hy=>?_,fun k b hk e=>?_,fun k m hv lv hk e=>?_⟩
 ·have:=hb.lent_own hB.Ft h;omega
 ·obtain⟨D,h1,h2,h3,h4⟩:=hb.iP.2 d hd;grind
 ·obtain⟨h1,h2,h3⟩:=hb.nS p hp;grind
 ·rcases hB.new p v hp with h|h|h
  ·exact hb.hnew p v h
  ·exact .inr (.inl (gc hb.hB h))
  exact .inr (.inl (hb.lent_own hB.Ft h))
 ·intro k b hk;rcases cV hk with⟨h1,h2,h3⟩|⟨h1,h3⟩
  ·obtain⟨_,q2,q3,q4,q5⟩:=hB.ok.loc k b h3;refine⟨.inl (hnew3 b (o3 k b h3)),q2,q3,fun k' hk'=>?_,fun k' m hv hk' e=>?_⟩
   ·rcases cV hk' with⟨_,_,h⟩|⟨hn,h⟩
    ·grind
    exact absurd (hB.old b (o3 k b h3) (hb.loc k' b h).2.1) (hb.cz h hn)
   rcases cr hk' with⟨_,_,h⟩|⟨hn,h⟩
   ·grind
   exact absurd (hB.old b (o3 k b h3) (hb.arr k' m hv b h e).2.1) (hb.cA h e hn)
  obtain⟨q1,q2,q3,q4,q5⟩:=hb.loc k b h3;refine⟨q1,dl q2 hs,fun o=>hnone b o q2 (hb.cz h3 h1) (q3 o),fun k' hk'=>?_,fun k' m hv hk' e=>?_⟩
  ·rcases cV hk' with⟨_,_,h⟩|⟨_,h⟩
   ·exact absurd (hB.old b (o3 k' b h) q2) (hb.cz h3 h1)
   simp_all
  rcases cr hk' with⟨_,_,h⟩|⟨_,h⟩
  ·exact absurd (hB.old b (a3 k' m hv b h e) q2) (hb.cz h3 h1)
  grind
 ·intro k m hv b hk hbk;rcases cr hk with⟨h1,h2,h3⟩|⟨h1,h3⟩
  ·obtain⟨_,q2,q3,q4⟩:=hB.ok.arr k m hv b h3 hbk;refine⟨.inl (hnew3 b (a3 k m hv b h3 hbk)),q2,q3,fun k' m' hv' hk' e=>?_⟩;rcases cr hk' with⟨_,_,h⟩|⟨hn,h⟩
   ·grind
   exact absurd (hB.old b (a3 k m hv b h3 hbk) (hb.arr k' m' hv' b h e).2.1) (hb.cA h e hn)
  obtain⟨q1,q2,q3,q4⟩:=hb.arr k m hv b h3 hbk;refine⟨q1,dl q2 hs,fun o=>hnone b o q2 (hb.cA h3 hbk h1) (q3 o),fun k' m' hv' hk' e=>?_⟩;rcases cr hk' with⟨_,_,h⟩|⟨_,h⟩
  ·exact absurd (hB.old b (a3 k' m' hv' b h e) q2) (hb.cA h3 hbk h1)
  grind
 ·obtain⟨u1,u2⟩:=hb.used k hk;constructor
  ·cases e:(c.back c3 fs t).loc k with
   |none=>rfl
   |some b=>
    rcases cV e with⟨h1,h2,_⟩|⟨_,h⟩
    ·obtain⟨b',hb'⟩:=(hB.held k h1).1 h2;simp_all
    simp_all
  cases e:(c.back c3 fs t).arr k with
  |none=>rfl
  |some x=>
   rcases cr e with⟨h1,h2,_⟩|⟨_,h⟩
   ·obtain⟨b',hb'⟩:=(hB.held k h1).2 h2;simp_all
   simp_all
 ·obtain⟨h1,h2,h3,h4⟩:=hb.Y b hy;refine⟨dl h1 hs,h2,fun k hk=>?_,fun k m hv hk e=>?_⟩
  ·rcases cV hk with⟨_,_,h⟩|⟨_,h⟩
   ·exact hb.eu hy (hB.old b (o3 k b h) h1)
   grind
  rcases cr hk with⟨_,_,h⟩|⟨_,h⟩
  ·exact hb.eu hy (hB.old b (a3 k m hv b h e) h1)
  grind
 ·rcases cV e with⟨h1,_⟩|⟨_,h⟩
  ·exact absurd hk (hB.Ft k h1)
  exact hb.fB k b hk h
 rcases cr e with⟨h1,_⟩|⟨_,h⟩
 ·exact absurd hk (hB.Ft k h1)
 exact hb.fQ k m hv lv hk h
def Holds.back(hb:aM E U c a w)(hB:oH E c c3 w w' fs t){key:Nat}{x:X}(hk:¬key<1000)(hn:∀k∈fs,(hasB t k=true->key≠1000+k)/\(hasA t k=true->key≠2000+k))(h:Holds c a w key x):Holds (c.back c3 fs t) a w' key x:=by
 have hext:=hB.ext';unfold Holds at *;rw[Zm hk]at h⊢;refine cD h fun h=>?_
 split at h
 ·rename_i h2;rw[Zn h2];obtain⟨b,o,h1,h3,h4⟩:=h;have hnl:=hb.cz (fs:=fs) (t:=t) h1 fun q=>(hn _ q.1).1 q.2 I
  exact⟨b,o,hext.loc _ _ h1,(hB.keep hnl (hb.loc _ _ h1).2.1).trans h3,h4.mono hext⟩
 rename_i h2;rw[Zm h2];split at h
 ·rename_i h6;rw[Zn h6];obtain⟨sz,rows,hv,e,vs,hx,h1,h3,h4⟩:=h;have hq:¬(key - 2000∈fs/\hasA t (key - 2000)=true):=fun q=>(hn _ q.1).2 q.2 I
  refine⟨sz,rows,hv,e,vs,hx.mono hext,?_,⟨h3.1,h3.2.imp id ?_⟩,h4⟩
  ·simp_all[Ctx.back]
  rintro⟨g,cap,cur,f1,f2,f3,r⟩;exact⟨g,cap,cur,f1,f2,(hB.keep (hb.cA h1 (by rw[f1];rfl) hq) (dt.1 f3).1).trans f3,r⟩
 rename_i h6;rw[Zm h6];obtain⟨hk0,J,hx0,hJ,hJ2⟩:=h;refine⟨hk0,J,hx0.mono hext.loc,hJ,hJ _ _ _ _ _ hJ2 hB.le (fun p v e=>(hB.new p v e).imp id fun h hy=>h.elim (fun h=>by have:=(hb.Y _ hy).1;omega) fun h=>hb.eu hy h) hB.ok.hw ⟨hB.below.os,hB.below.tape,hB.below.output,hB.below.size,fun j hj=>by omega⟩ fun b hy=>hB.keep (hb.eu hy) (hb.Y b hy).1⟩
theorem cq.back{x:X}{v:Value}(h:cq c3 x v)(ho:gp fs t x=true):cq (c.back c3 fs t) x v:=by
 cases x
 case ptr k off=>
  obtain⟨b,h1,h2⟩:=h;simp only[gp]at ho;exact⟨b,by simp_all[Ctx.back],h2⟩
 case own k n=>
  obtain⟨h0,m,hv,lv,h1,h2⟩:=h;simp only[gp]at ho;exact⟨h0,m,hv,lv,by simp_all[Ctx.back],h2⟩
 case di k n off=>
  obtain⟨m,hv,lv,h1,h2⟩:=h;simp only[gp]at ho;exact⟨m,hv,lv,by simp_all[Ctx.back],h2⟩
 case jt k=>
  obtain⟨b,h1,h2⟩:=h;simp only[gp]at ho;exact⟨b,by simp_all[Ctx.back],h2⟩
 case rU k n sz lo hi=>
  obtain⟨h0,m,hv,lv,h1,h2⟩:=h;simp only[gp]at ho;exact⟨h0,m,hv,lv,by simp_all[Ctx.back],h2⟩
 all_goals exact h
theorem aV.back{x:X}{v:Value}(h:aV c3 x v)(ho:gP fs t x=true):aV (c.back c3 fs t) x v:=by
 cases x
 case fn f caps=>grind [aV,gP,ah.cut,cq.back]
 all_goals simp_all[aV,gP,cq.back]
def Holds.mJ{key:Nat}{x:X}{a':Act}(h:Holds c3 a w' key x)(ho:dn fs t (key,x)=true):Holds (c.back c3 fs t) a' w' key x:=by
 unfold dn at ho;cases x
 case box cells=>
  simp only[Zw,ii,db]at ho;obtain⟨⟨⟨⟨h1,h2⟩,h3⟩,h4⟩,h5⟩:=ho;unfold Holds at h⊢;rw[Zm I]at h⊢;refine cD h fun h=>?_
  rw[Zn h2]at h⊢;obtain⟨b,o,q1,q2,T,vs,e,q3⟩:=h;exact⟨b,o,by simp_all[Ctx.back],q2,T,vs,e,ah.cut (R':=aV (c.back c3 fs t)) (ok:=gP fs t) (fun _ _ h ho=>aV.back h ho) q3 h5⟩
 case omap es=>
  simp only[Zw,ii,db]at ho;obtain⟨⟨⟨h1,h2⟩,h3⟩,h4⟩:=ho;unfold Holds at h⊢;rw[Zm I]at h⊢;refine cD h fun h=>?_
  rw[Zn h2]at h⊢;obtain⟨b,o,q1,q2,q3⟩:=h;exact⟨b,o,by simp_all[Ctx.back],q2,q3⟩
 case cM sz pre mid post=>
  simp only[Zw,ii,db]at ho;obtain⟨⟨⟨⟨h1,h2⟩,h3⟩,h4⟩,h5⟩:=ho;unfold Holds at h⊢;rw[Zm I]at h⊢;refine cD h fun h=>?_
  rw[Zm I,Zn h2]at h⊢;obtain⟨sz',rows',hv,e,vs,⟨e1,e2,v1,v2,v3,e3,e4,e5,e6⟩,q1,q2⟩:=h;exact⟨sz',rows',hv,e,vs,⟨e1,e2,v1,v2,v3,e3,e4,ah.cut (R':=aV (c.back c3 fs t)) (ok:=gP fs t) (fun _ _ h ho=>aV.back h ho) e5 h5,e6⟩,by simp_all[Ctx.back],q2⟩
 case arr sz rows=>
  simp only[Zw,ii,db]at ho;obtain⟨⟨⟨h1,h2⟩,h3⟩,h4⟩:=ho;unfold Holds at h⊢;rw[Zm I]at h⊢;refine cD h fun h=>?_
  rw[Zm I,Zn h2]at h⊢;obtain⟨sz',rows',hv,e,vs,⟨e1,e2,q5⟩,q1,q2⟩:=h;exact⟨sz',rows',hv,e,vs,⟨e1,e2,q5⟩,by simp_all[Ctx.back],q2⟩
 all_goals cases ho
end
section
variable{E:Env}{all:Array Oper}{s r r1 r2 r3 rg:St}{d ty:Nat}{pos:String}{after:Array Edge}{guard:Option (Nat×Bool)}{x y z:Operand}
def S.Fu{g f:Nat}{fs:bc}{os:List Operand}{at_:Array TypeId}{ys xs caps:bi}{res:X}{t t':St}
  (hf:∀(cL:Ctx)(v0:Value),aV cL (.fn f caps) v0->dF E.P g [] (ys++[.cb fun v=>v=v0]) [(3000,.res (ic fs t cL t))] [(3000,.res (ic fs t cL t'))] res)
  (hcall:∀args w,(callFunc g args).run E.P w=.ok (.enter g args) w) (hg:Gd all s guard rg) (hd:cP E d=true) (ha:fE s os xs r) (hx:ys++[.fn f caps]=xs) (ho:ys.all fm=true)
  (hcl:caps.all (gp fs t)=true) (hl:Looks s t) (ht:t.all (dn fs t)=true) (ht2:t'.all (dn fs t)=true) (hk:t.all (iQ fs)=true) (hcov:cover fs t t'=true) (hhas:fs.all (fun k=>hasB t k||hasA t k)=true) (hdis:fs.all (fun k=>!E.fs.contains k)=true) (hs:Ae res=true):
  aW E all ⟨some d,.call {callee:=.value (.func g),args:=os.toArray,argTypes:=at_},ty,pos,after,guard⟩ s (rg++(r++t)) ((d,res)::t') []:=by
 subst hx;simp only[Zw,db]at hd;refine⟨?_,hg.looks.app (ha.looks.app hl)⟩;intro U c a w hb hr _ next Q hn
 have hw:=hg.wanted (o:=⟨some d,.call {callee:=.value (.func g),args:=os.toArray,argTypes:=at_},ty,pos,after,guard⟩) (fun p hp=>hr p (dv _ hp));obtain⟨vs1,v0,e1,hys,hv0⟩:=ah.BS (ha.rep (c:=c) (a:=a) (w:=w) fun p hp=>hr p (by simp[hp]));have hargs:=bY hys ho;have hv0':aV c (.fn f caps) v0:=hv0;have hvL:aV (c.bV fs t) (.fn f caps) v0:=hv0'.bV (by grind [gP]);unfold gh;rw[Zn hw];refine⟨fun _ _=>trivial,?_⟩;rw[Oper.semAt_eq _ _ _ fun cl he=>by cases he];have hfo:a.eval (.func g)=.func (.func g) #[] #[]:=rfl;have hrun:(execOp a.eval ⟨some d,.call {callee:=.value (.func g),args:=os.toArray,argTypes:=at_},ty,pos,after,guard⟩).run E.P w=.ok (.enter g (vs1++[v0]).toArray) w:=by
  simp_all[execOp,resolve,Deferred.ofValue,invoke]
 rw[hrun];refine⟨Z,?_⟩;have hholds:∀p∈t,Holds c a w p.1 p.2:=fun p hp=>hr p (by simp[hp])
 have hc0:=hf (c.bV fs t) v0 hvL ⟨c.h,fun _=>none,fun _=>none,fun b=>(c.bV fs t).out fs b⟩ w (vs1++[v0])
  ⟨hb.hw,(fun k b e=>by cases e),(fun k m hv b e=>by cases e),(fun _ _=>⟨rfl,rfl⟩),(fun b hy=>⟨by
   rcases iT hy with⟨k,_,_,h⟩|⟨k,m,hv,_,_,h,h2⟩
   ·exact(hb.loc k b h).2.1
   exact(hb.arr k m hv b h h2).2.1,(fun k e=>by cases e),(fun k m hv e=>by cases e)⟩)⟩
  (by
   intro p hp a';simp only[df]at hp;subst hp;unfold Holds;rw[Zm I,Zm I,Zm I];exact .inr ⟨rfl,_,rfl,ic.az hk,c.bV fs t,⟨rfl,mI hb,fun b=>Iff.rfl,fun k b e=>(eV e).2.1,fun k x e=>(ek e).2.1,Ext.refl _⟩,fun p hp a'=>(hholds p hp).bV (dj.1 ht p hp)⟩)
  ((hargs.mono fun _ _=>bt.mono (cS (c:=Ctx.mk c.h (fun _=>none) (fun _=>none) (fun b=>(c.bV fs t).out fs b)) rfl)).append (show ah (bt (Ctx.mk c.h (fun _=>none) (fun _=>none) (fun b=>(c.bV fs t).out fs b))) [X.cb fun v=>v=v0] [v0]from⟨rfl,Zo⟩))
 have h1:CallsIn E.ac (0 - 1) E.P g (vs1++[v0]).toArray w _:=(callsIn_wide (n:=0)).2 hc0;refine h1.mono ?_;rintro en w' ⟨u,c2,rfl,hpg⟩;have hJ:=hpg.wr (3000,.res (ic fs t (c.bV fs t) t')) F a;unfold Holds at hJ;rw[Zm I,Zm I,Zm I]at hJ;rcases hJ with hJ|⟨_,J,eJ,_,hJ2⟩
 ·cases hJ
 cases eJ;obtain⟨c3,hl3,hp3⟩:=hJ2;have hall3:∀b,c3.out fs b->b<w.heap.size->(c.bV fs t).out fs b:=by
  intro b ho hlt;rcases hpg.out b (.inl ((hl3.Y b).2 ho)) hlt with h|⟨k,h,_⟩|⟨k,m,hv,h,_⟩
  all_goals simp_all
 have hB:oH E c c3 w w' fs t:=by
  refine⟨fun k hk=>?_,fun k hk=>?_,fun k hk=>⟨fun h=>?_,fun h=>?_⟩,hpg.below.mono (Zq _) fun k _ h=>?_,?_,fun p v hp=>?_,hl3.ok,hall3,hl3.ext⟩
  ·simp_all
  ·simp_all
  ·obtain⟨x0,hx0,hm⟩:=dM h;exact gm (hholds _ hm) hx0 (bZ hcov hk).1
  ·grind [dN,ia]
  ·rcases h with h|⟨k,h,_⟩|⟨k,m,hv,h,_⟩
   all_goals simp_all
  ·rw[hl3.hh];exact hpg.le
  rw[hl3.hh]at hp;refine(hpg.new p v hp).imp id fun q=>q.imp id fun q=>?_
  rcases q with h|⟨k,h,_⟩|⟨k,m,hv,h,_⟩
  all_goals simp_all
 have hext:=hB.ext';have hdt:d<a.tmps.size:=by rw[hb.nt];exact hd.2
 have tk:∀p∈t',1000<=p.1:=by
  intro p hp;have h:=dj.1 ht2 p hp;obtain⟨key,y⟩:=p;unfold dn at h;cases y
  case box cells=>simp_all
  case arr sz rows=>simp only[Zw,ii]at h;omega
  case omap es=>simp_all
  case cM sz pre mid post=>simp only[Zw,ii]at h;omega
  all_goals cases h
 refine hn (c.back c3 fs t) _ w' ((hb.back hB).put _ _) hext ?_ ?_
 ·intro p hp;rcases ed.1 hp with rfl|hp
  ·unfold Holds;rw[Zn hd.1,cE hdt];exact ql hs hpg.res
  have h:=Holds.mJ (c:=c) (a':=a) (hp3 p hp a) (dj.1 ht2 p hp);exact h.put (by grind) u
 intro key y hk2 hy;have hne:d≠key:=hk2 (d,res) F;by_cases h1:key<1000
 ·refine Holds.put ?_ hne u;unfold Holds at hy⊢;rw[Zn h1]at hy⊢;exact hy.mono hext
 refine(Holds.back hb hB h1 (fun k hk3=>⟨fun h e=>?_,fun h e=>?_⟩) hy).put hne u
 ·obtain⟨x0,_,hm⟩:=dM ((bZ hcov hk3).2.1 h);grind
 obtain⟨x0,_,hm⟩:=dN ((bZ hcov hk3).2.2 h);grind
end
end Go.Ab
namespace Go.Ab
open Go.RowKit
structure IP(P:Program)(e:TypeId)(zrow:bi):Prop where
 ex:∃i z,P.info? e=some i/\i.zero=some z/\∀h,ah (ay h) zrow z.cells.toList
def sP{α:Type}(l:List α):∀(n i:Nat),(List.replicate n l).flatten[i]?=if i<n * l.length then l[i % l.length]? else none
 |0,i=>by simp
 |n+1,i=>by
  rw[Hn,mr,List.getElem?_append];split
  ·rename_i h;rw[Nat.mod_eq_of_lt h,Zn (by grind)]
  rename_i h;rw[sP l n (i - l.length),sb];by_cases h1:i<n * l.length+l.length
  ·rw[Zn I,Zn h1,←Nat.mod_eq_sub_mod I]
  grind
section
variable{E:Env}{all:Array Oper}{s r r1 r2 r3 rg:St}{d ty:Nat}{pos:String}{after:Array Edge}{guard:Option (Nat×Bool)}{x y z:Operand}
def S.make{t e sz bytes n k:Nat}{j:Int}{zrow:bi}(hA:lV E.P t e sz bytes)(hM:IP E.P e zrow)(hg:Gd all s guard rg)(hd:cP E d=true)(hx:bI s x (.int .i64 j) r1)(hy:bI s y (.int .i64 j) r2)(hj:j=n)(hb1:n * bytes<=140737488355328)(hb2:n<=maxLen)
  (hk9:E.fs.contains k=false:=by rfl) (hk1:Nat.blt k 1000=true:=by rfl):
  aW E all ⟨some d,.makeSlice t x y,ty,pos,after,guard⟩ s (rg++(r1++r2)) ((d,.own k n)::[(2000+k,.arr sz (List.replicate n zrow))]) [k]:=
 aW.mk hg hd rfl (hx.looks.app hy.looks) fun U c a w hb hrr hal=>by
  subst hj;rw[db]at hk1;have hkU:k∉U:=hal k F;obtain⟨ev,_⟩:=cJ (hx.rep (c:=c) (a:=a) (w:=w) fun p hp=>hrr p (by simp[hp]));obtain⟨ev2,_⟩:=cJ (hy.rep (c:=c) (a:=a) (w:=w) fun p hp=>hrr p (by simp[hp]));obtain⟨i,zv,i1,i2,i3,i4,i5⟩:=hA.ex;obtain⟨i',zv',m1,m2,m3⟩:=hM.ex;rw[i1]at m1;cases m1;rw[i2]at m2;cases m2;have hzl:zrow.length=sz:=by rw[(m3 c.h).length,←i5];simp
  subst i3;have hby:(i.bytes:Int) * n<=281474976710656:=by
   have e1:((i.bytes:Int) * n)=((n * bytes:Nat):Int):=by rw[←i4,Int.natCast_mul,Int.mul_comm]
   rw[e1];omega
  have hrun:=run_make (P:=E.P) w t e i zv hA.mD i1 i2 .i64 .i64 n n I (Int.le_refl _) hby (by unfold maxLen at hb2;omega);simp only[Int.toNat_natCast]at hrun;have hB:=cX w (.cells (madeCells zv.cells (n * i.size)) e);obtain⟨g1,g2,g3,g4⟩:=hb.lQ (nQ hk9) hkU (n:=n) (v:=.slice (some ⟨w.heap.size,0,none⟩) n n) hB (.inr ⟨rfl,by simp⟩);refine⟨.slice (some ⟨w.heap.size,0,none⟩) n n,_,_,?_,g1,g2,⟨⟨_,_,_,rfl⟩,n,_,_,g3,Zq _,fun _=>rfl⟩,?_,fun key u hkey _ hu=>g4 key u hkey hu⟩
  ·simp only[execOp,ev,ev2,Sem.run_bind,hrun,Result.andThen_ok];rfl
  intro p hp;simp only[df]at hp;subst hp;have hms:=size_madeCells zv.cells (n * i.size);refine Holds.lB (e:=e) (vs:=(madeCells zv.cells (n * i.size)).toList) I (by rw[sc];exact g3) ⟨by simp[hms],.inr ⟨w.heap.size,n,_,by rw[sc],Zr _,heap_alloc_new w _,by simp,hb2,by rw[hms],?_⟩⟩ (fun q hq=>by rw[yi hq];exact hzl) ?_
  ·rw[sc,eK (by simp[hms])]
  refine ah.fb (by rw[bg (sz:=i.size) (fun q hq=>by rw[yi hq];exact hzl)];simp[hms]) fun j u v hu hv=>?_
  rw[sP]at hu;split at hu
  ·rename_i hlt;simp only[madeCells,Array.toList_map,Array.toList_range,lh,List.getElem?_range (show j<n * i.size by rw[←hzl];exact hlt),Ax,ra]at hv;subst hv;have hz0:0<i.size:=hA.pos;have hlt2:j % zrow.length<zv.cells.size:=by rw[i5,hzl];exact Nat.mod_lt _ hz0
   have h1:=(m3 c.h).get hu (b:=zv.cells[j % zrow.length]) (by rw[ut,Array.getElem?_eq_getElem hlt2]);have e1:zv.cells[j % zv.cells.size]! =zv.cells[j % zrow.length]:=by
    rw[show j % zv.cells.size=j % zrow.length by rw[i5,hzl]];exact getElem!_pos zv.cells (j % zrow.length) hlt2
   rw[e1];exact h1.mono g2.h
  cases hu
def S.n7{k n off sz:Nat}{rows:List bi}(hg:Gd all s guard rg)(hd:cP E d=true)(hx:bI s x (.di k n off) r)(hl:look s (2000+k)=some (.arr sz rows))(hn:rows.length=n):
  aW E all ⟨some d,.nilCheck x,ty,pos,after,guard⟩ s (rg++(r++[(2000+k,.arr sz rows)])) [(d,.di k n off)] []:=
 aW.val hg hd rfl (hx.looks.app ⟨hl,Zo⟩) fun c A w hh hr=>by
  subst hn;have h0:=hx.rep (c:=c) (a:=A) (w:=w) fun p hp=>hr p (by simp[hp])
  obtain⟨m,hv,lv,e1,e2,e3⟩:=kK h0;obtain⟨v,e',vs,g1,g2,g3,g4⟩:=ei (hr (2000+k,.arr sz rows) F);rw[e1]at g1;cases g1;obtain⟨b,l,cp,_,hp⟩:=e3 rfl;refine⟨A.eval x,?_,h0⟩;simp only[execOp,hp];rfl
def S.Hq{t t2 e:Nat}{rows:List bi}(ht:E.P.underlying t=some (.slice e))(hg:Gd all s guard rg)(hd:cP E d=true)(hx:bI s x (.sl rows) r)(hne:0<rows.length):
  aW E all ⟨some d,.binOp .eql t x (.const (.slice none 0 0)) t2,ty,pos,after,guard⟩ s (rg++r) [(d,.bool false)] []:=
 aW.val hg hd rfl hx.looks fun c A w _ hr=>by
  obtain⟨ad,cap,hv,h1,h2,h3⟩:=kg (hx.rep (c:=c) (a:=A) (w:=w) hr);rcases h3 with h3|⟨b,off,sz',vs,rfl,h3,h4,h5,h6⟩
  ·rw[h3]at hne;simp at hne
  refine⟨.bool false,?_,ay.ef (.bool _)⟩;have hc:A.eval (.const (.slice none 0 0))=.slice none 0 0:=rfl;have hq:(eqGuard .eql t x (.const (.slice none 0 0)) (.slice (some ⟨b,off,none⟩) rows.length cap) (.slice none 0 0)).run E.P w=.ok () w:=by simp[eqGuard]
  have hr:=Lib.run_eql_slice_nil (P:=E.P) w t e (some ⟨b,off,none⟩) rows.length cap 0 0 ht;simp only[execOp,hv,hc,Sem.run_bind,hq,Result.andThen_ok,hr];rfl
def qu{α:Type}{sz:Nat}{us:List α}(hu:us.length=sz):∀{rows:List (List α)}{i:Nat},(∀q∈rows,q.length=sz)->i<rows.length->(rows.set i us).flatten=rows.flatten.take (i * sz)++(us++rows.flatten.drop (i * sz+sz))
 |[],_,_,h=>by simp at h
 |q::rows,0,hq,_=>by
  simp_all
 |q::rows,i+1,hq,h=>by
  have h1:=hq q dp;have ih:=qu hu (rows:=rows) (i:=i) (fun q' h'=>hq q' (dg _ h')) (by grind);simp_all[sb,un,eK,xt]
def qv{α:Type}{l news:List α}{a s n:Nat}(h1:news.length=s)(h2:a+s<=n)(h3:n<=l.length):(l.take a++(news++l.drop (a+s))).take n=(l.take n).take a++(news++(l.take n).drop (a+s)):=by
 have e1:(l.take a).take n=l.take a:=by grind
 have e2:(l.take n).take a=l.take a:=by grind
 have e3:(l.take a).length=a:=by grind
 grind [List.take_append,List.take_of_length_le,List.drop_take]
def S.B5{T k n i off sz:Nat}{us:bi}{rows rows':List bi}(ht:eT E.P T true sz)(hg:Gd all s guard rg)(hx:bI s x (.di k n off) r1)(hy:bI s y (.agg us) r2)(hl:look s (2000+k)=some (.arr sz rows))(hn:rows.length=n)(hoff:off=i * sz)(hi:i<n)(hus:us.length=sz)
  (ho:us.all sQ=true) (hD:us.all yG=true) (hrows:rows.set i us=rows') (hk1:Nat.blt k 1000=true:=by rfl):
  aW E all ⟨none,.store T x y,ty,pos,after,guard⟩ s (rg++(r1++(r2++[(2000+k,.arr sz rows)]))) [(2000+k,.arr sz rows')] []:=by
 subst hrows;subst hn;subst hoff;rw[db]at hk1;refine⟨?_,hg.looks.app (hx.looks.app (hy.looks.app ⟨hl,Zo⟩))⟩;intro U c a w hb hr hal next Q hnx
 have hw:=hg.wanted (o:=⟨none,.store T x y,ty,pos,after,guard⟩) (fun p hp=>hr p (dv _ hp));obtain⟨m,hv,lv,e1,e2,e3⟩:=kK (hx.rep (c:=c) (a:=a) (w:=w) fun p hp=>hr p (by simp[hp]));obtain⟨v,e',vs,g1,g2,g3,g4⟩:=ei (hr (2000+k,.arr sz rows) F);rw[e1]at g1;cases g1;obtain⟨b,l,cp,rfl,hp⟩:=e3 rfl;have hyr:=hy.rep (c:=c) (a:=a) (w:=w) fun p hp=>hr p (by simp[hp])
 obtain⟨hc,hone⟩:=gq hyr ho;have hds:=lF hc (by grind [cg]);have hcl:=hc.length;have hcs:(a.eval y).cells.toList.length=sz:=by rw[←hcl];exact hus
 rcases g2.2 with⟨h0,_⟩|⟨g,cap,cur,hs,hz,hgc,hnc,hcm,hcs2,qo⟩
 ·cases h0
 cases hs;have hvl:vs.length=rows.length * sz:=g2.1;have hle:i * sz+sz<=rows.length * sz:=by rw[←sb];exact li _ hi
 have hle2:rows.length * sz<=cp * sz:=li _ hnc;have hst:=run_storeCells_at E.P b (i * sz) e' (a.eval y).cells.toList 0 cur w hgc I hone;simp only[po]at hst;obtain⟨w',hw'⟩:∃w',w'=w.setRow b (cur.toList.take (i * sz)++(a.eval y).cells.toList++cur.toList.drop (i * sz+(a.eval y).cells.toList.length)).toArray:=⟨_,rfl⟩;have hgb:w.grownBy w' (some b):=by
  subst hw';exact⟨rfl,rfl,rfl,by simp,fun k _ hk=>setRow_other w b k _ (fun e=>hk (by rw[e]))⟩
 obtain⟨p1,p2,p3,p4⟩:=hb.append (n':=rows.length) (v':=.slice (some ⟨b,0,none⟩) rows.length cp) e1 hgb (Zq _) (fun _=>rfl) (.inl rfl) (pK g2);have hrun:(execOp a.eval ⟨none,.store T x y,ty,pos,after,guard⟩).run E.P w=.ok .skip w':=by
  subst hw';have hcs':(a.eval y).cells.size=sz:=by omega
  simp[execOp,hp,Instr.storeAt,Instr.sureAddr,storeVar,ht.size,hcs',hst]
 unfold gh;rw[Zn hw];refine⟨fun _ _=>trivial,?_⟩;rw[Oper.semAt_eq _ _ _ (fun cl he=>by cases he),hrun];refine hnx _ a w' p1 p2 ?_ ?_
 ·intro p hp;simp only[df]at hp;subst hp;have hrl:∀q∈rows.set i us,q.length=sz:=fun q hq=>by
   grind
  refine(Holds.lB (e:=e') (vs:=vs.take (i * sz)++((a.eval y).cells.toList++vs.drop (i * sz+sz))) hk1 (by rw[hK];exact p3) ?_ hrl ?_).2
  ·rw[hK];refine⟨?_,.inr ⟨b,cp,_,rfl,Zr _,by rw[hw'];exact setRow_heap w b cur _ e' _ hgc,hnc,hcm,?_,?_⟩⟩
   ·grind
   ·grind
   simp_all[qv]
  rw[qu hus g3 hi];exact((g4.take (i * sz)).append (hds.append (g4.drop (i * sz+sz)))).mono fun _ _=>ay.mono p2.h
 intro key u hk hu;have hne:(2000+k:Nat)≠key:=hk (2000+k,.arr sz (rows.set i us)) F;by_cases h1:key<1000
 ·unfold Holds at hu⊢;rw[Zn h1]at hu⊢;exact hu.mono p2
 grind
def Good.Yf{U:bc}{a:Act}{w:World}{b i:Nat}{cells cells':bi}(hg:Good E U s a w)(hb:look s (1000+b)=some (.box cells))(hb2:Nat.blt b 1000=true)(hi:cells[i]?=some .bO)(hc:cells.set i (.sl [])=cells'):
  Good E U ((1000+b,.box cells')::s) a w:=by
 subst hc;obtain⟨c,hbs,hh⟩:=hg;rw[db]at hb2;refine⟨c,hbs,fun key y hy=>?_⟩;simp only[look]at hy;split at hy
 ·rename_i h;have:=Nat.eq_of_beq_eq_true h;cases hy;subst this;obtain⟨b',T',vs,h2,h3,h4⟩:=fD (hh _ _ hb) hb2;refine(Holds.sD hb2 h2 h3 ?_).2;refine ah.fb (by simpa using h4.length) fun j u v hu hv=>?_
  rw[pj]at hu;split at hu
  ·rename_i hij;subst hij;split at hu
   ·cases hu;have hv0:v=.slice none 0 0:=h4.get hi hv;subst hv0;exact ay.Aa (c:=c) (.rP none 0 (Zr _))
   cases hu
  exact h4.get hu hv
 simp_all
def OK.Yf{U:bc}{code:Code}{Q:bo}(b i:Nat){cells cells':bi}(hb:look s (1000+b)=some (.box cells))(hb2:Nat.blt b 1000=true)(hi:cells[i]?=some .bO)(hc:cells.set i (.sl [])=cells')
 (h:OK E code Q U ((1000+b,.box cells')::s)):OK E code Q U s:=fun a w hg=>h a w (hg.Yf hb hb2 hi hc)
end
end Go.Ab
namespace Go.Ab
open Go.RowKit
def dI{c:Ctx}{a:Act}{w:World}{J:bm}(h:Holds c a w 3000 (.res J)):aZ J/\J c.h c.Y w:=by
 unfold Holds at h;rw[Zm I,Zm I,Zm I]at h;rcases h with h|⟨_,J',e,h1,h2⟩
 ·cases h
 have e':J=J':=e;simp_all
theorem Holds.iV{c:Ctx}{a:Act}{w:World}{J:bm}(h1:aZ J)(h2:J c.h c.Y w):Holds c a w 3000 (.res J):=by
 unfold Holds;rw[Zm I,Zm I,Zm I];exact .inr ⟨rfl,J,rfl,h1,h2⟩
theorem j8{w:World}{p:Addr}{v:Value}(h:w.cell? p=some v):p=⟨p.block,p.off,none⟩:=by
 have hsp:p.spot=none:=by
  cases hsp:p.spot with
  |none=>rfl
  |some q=>grind [World.cell?]
 cases p;simp_all
section
variable{E:Env}{all:Array Oper}{s r r1 r2 r3 rg:St}{d ty:Nat}{pos:String}{after:Array Edge}{guard:Option (Nat×Bool)}{x y z:Operand}
def S.Cn{v:Value}{ad:Addr}(hg:Gd all s guard rg)(hd:cP E d=true)(hx:bI s x (.raw v) r)(hv:v=.pointer (some ad)):
  aW E all ⟨some d,.nilCheck x,ty,pos,after,guard⟩ s (rg++r) [(d,.raw (.pointer (some ad)))] []:=
 aW.val hg hd rfl hx.looks fun c A w _ hr=>by
  have h0:A.eval x=v:=hx.rep (c:=c) (a:=A) (w:=w) hr;subst hv;exact⟨_,by simp only[execOp,h0];rfl,rfl⟩
def S.jC{T f o b off:Nat}(hf:dz E.P T f o)(hg:Gd all s guard rg)(hd:cP E d=true)(hx:bI s x (.raw (.pointer (some ⟨b,off,none⟩))) r):
  aW E all ⟨some d,.fieldAddr T x f,ty,pos,after,guard⟩ s (rg++r) [(d,.raw (.pointer (some ⟨b,off+o,none⟩)))] []:=
 aW.val hg hd rfl hx.looks fun c A w _ hr=>by
  have h0:A.eval x=.pointer (some ⟨b,off,none⟩):=hx.rep (c:=c) (a:=A) (w:=w) hr;refine⟨_,?_,rfl⟩;simp only[execOp,h0];rw[Sem.run_bind,gZ hf];rfl
def S.aG{T tsz b o:Nat}{u:X}{J:bm}(ht:eT E.P T false tsz)(hg:Gd all s guard rg)(hd:cP E d=true)(hx:bI s x (.raw (.pointer (some ⟨b,o,none⟩))) r)(hl:look s 3000=some (.res J))
  (hv:∀h Y w,J h Y w->∃v,w.cell? ⟨b,o,none⟩=some v/\bK (aD h) u v):aW E all ⟨some d,.load T x,ty,pos,after,guard⟩ s (rg++(r++[(3000,.res J)])) [(d,u)] []:=
 aW.val hg hd rfl (hx.looks.app ⟨hl,Zo⟩) fun c A w _ hr=>by
  have h0:A.eval x=.pointer (some ⟨b,o,none⟩):=hx.rep (c:=c) (a:=A) (w:=w) fun p hp=>hr p (by simp[hp])
  obtain⟨v,h1,h2⟩:=hv _ _ _ (dI (hr (3000,.res J) F)).2;refine⟨v,?_,h2.mono (cS rfl)⟩;simp only[execOp,h0];rw[Sem.run_bind,iO ht h1];rfl
def S.jG{T n b o:Nat}{us:bi}{J:bm}(ht:eT E.P T true n)(hg:Gd all s guard rg)(hd:cP E d=true)(hx:bI s x (.raw (.pointer (some ⟨b,o,none⟩))) r)(hl:look s 3000=some (.res J))
  (hv:∀h Y w,J h Y w->∃vs:List Value,vs.length=n/\(∀(i:Nat)(v:Value),vs[i]?=some v->w.cell? ⟨b,o+i,none⟩=some v)/\ah (aV (aD h)) us vs):aW E all ⟨some d,.load T x,ty,pos,after,guard⟩ s (rg++(r++[(3000,.res J)])) [(d,.agg us)] []:=
 aW.val hg hd rfl (hx.looks.app ⟨hl,Zo⟩) fun c A w _ hr=>by
  have h0:A.eval x=.pointer (some ⟨b,o,none⟩):=hx.rep (c:=c) (a:=A) (w:=w) fun p hp=>hr p (by simp[hp])
  obtain⟨vs,h1,h2,h3⟩:=hv _ _ _ (dI (hr (3000,.res J) F)).2;refine⟨.agg vs.toArray,?_,vs,rfl,h3.mono fun _ _=>aV.mono (cS rfl)⟩;simp only[execOp,h0];rw[Sem.run_bind,jd ht h1 h2];rfl
def aW.res{op:Op}{J:bm}{xr:X}(hg:Gd all s guard rg)(hdef:mX op=false)(hl:Looks s r)(hl3:look s 3000=some (.res J))
  (h:∀(U:bc)(c:Ctx)(a:Act)(w:World),aM E U c a w->(∀p∈r,Holds c a w p.1 p.2)->J c.h c.Y w->∃w',(execOp a.eval ⟨none,op,ty,pos,after,guard⟩).run E.P w=.ok .skip w'/\dW c.h c.Y w c.h c.Y w'/\Holds c a w' 3000 xr):
  aW E all ⟨none,op,ty,pos,after,guard⟩ s (rg++(r++[(3000,.res J)])) [(3000,xr)] []:=by
 refine⟨?_,hg.looks.app (hl.app ⟨hl3,Zo⟩)⟩;intro U c a w hb hr hal next Q hnx
 have hw:=hg.wanted (o:=⟨none,op,ty,pos,after,guard⟩) (fun p hp=>hr p (dv _ hp));obtain⟨w',hrun,hp,hx⟩:=h U c a w hb (fun p hp=>hr p (by simp[hp])) (dI (hr (3000,.res J) F)).2;unfold gh;rw[Zn hw];refine⟨fun _ _=>trivial,?_⟩;rw[Oper.semAt_eq _ _ _ (fun cl he=>by simp only at he;rw[he]at hdef;cases hdef),hrun];refine hnx c a w' (hb.Y_ hp) (Ext.refl c) (fun p hp=>?_) fun key u hk hu=>?_
 ·simp_all
 have hne:3000≠key:=hk (3000,xr) F;by_cases h1:key<1000
 ·unfold Holds at hu⊢;simp_all
 exact Holds.Y_ hb hp h1 (fun e=>hne e.symm) hu
def vB{c:Ctx}{U:bc}{a:Act}{w w':World}{b:Nat}(hb:aM E U c a w)(hY:c.Y b)(hn:∀o,c.h ⟨b,o,none⟩=none)(hos:w'.os=w.os)(htp:w'.tape=w.tape)(hout:w'.output=w.output)(hsz:w'.heap.size=w.heap.size)(ho:∀j,j≠b->w'.heap[j]?=w.heap[j]?):dW c.h c.Y w c.h c.Y w':=by
 refine⟨⟨hos,htp,hout,by omega,fun j _ hy=>ho j fun e=>hy (e▸hY)⟩,Mem.le_refl _,fun _ _ e=>.inl e,fun p v hp=>?_,fun j hy=>by have:=(hb.Y j hy).1;omega,fun j hy _=>hy⟩;have h1:=hb.hw p v hp;grind [j8,World.cell?_of_block]
end
section
variable{E:Env}{U:bc}{s:St}{a:Act}{w:World}{c:Ctx}
def aM.GR(hb:aM E U c a w){b:Nat}(h1:b<w.heap.size)(h2:b<E.B->E.X b)(h3:∀k,c.loc k≠some b)(h4:∀k m hv,c.arr k=some (m,hv,true)->hv.ownBlock≠some b)(h5:∀o,c.h ⟨b,o,none⟩=none)(h6:∃o:Obj,w.heap[b]?=some o/\o.isCells=true):
  aM E U ⟨c.h,c.loc,c.arr,fun x=>c.Y x\/x=b⟩ a w:=by
 have hall:∀D,(Ctx.mk c.h c.loc c.arr fun x=>c.Y x\/x=b).all D->c.all D\/D=b:=by
  intro D h;rcases h with(h|h)|h|h
  ·exact .inl (.inl h)
  ·exact .inr h
  ·exact .inl (.inr (.inl h))
  exact .inl (.inr (.inr h))
 have hnc:∀(D:Nat)(o:Obj),w.heap[D]?=some o->o.isCells=false->D≠b:=by
  grind
 refine⟨hb.below,hb.hB,hb.nt,⟨hb.iP.1,fun d hd=>?_⟩,fun p hp=>?_,hb.hw,hb.hle,fun p v hp=>?_,hb.loc,hb.arr,hb.used,fun x hy=>?_,hb.fB,hb.fQ⟩
 ·obtain⟨D,q1,q2,q3,q4⟩:=hb.iP.2 d hd;exact⟨D,q1,q2,fun e=>(hall D e).elim q3 (hnc D _ q4 rfl),q4⟩
 ·obtain⟨q1,q2,q3⟩:=hb.nS p hp;grind
 ·exact hb.hnew p v hp
 rcases hy with hy|rfl
 ·exact hb.Y x hy
 grind
def Holds.GR{b key:Nat}{x:X}(hne:key≠3000)(h:Holds c a w key x):Holds ⟨c.h,c.loc,c.arr,fun x=>c.Y x\/x=b⟩ a w key x:=by
 have hext:Ext c ⟨c.h,c.loc,c.arr,fun x=>c.Y x\/x=b⟩:=⟨Mem.le_refl _,fun _ _ e=>e,fun _ m hv lv e=>⟨m,hv,lv,e,Zq _,fun _=>rfl⟩⟩;unfold Holds at *;split at h
 ·rename_i h1;rw[Zn h1];exact h.mono hext
 rename_i h1;rw[Zm h1];refine cD h fun h=>?_
 split at h
 ·rename_i h2;rw[Zn h2];obtain⟨b,o,q1,q3,q4⟩:=h;exact⟨b,o,q1,q3,q4.mono hext⟩
 rename_i h2;rw[Zm h2];split at h
 ·rename_i h6;rw[Zn h6];obtain⟨sz,rows,hv,e,vs,hx,q1,q3⟩:=h;exact⟨sz,rows,hv,e,vs,hx.mono hext,q1,q3⟩
 exact absurd h.1 hne
def Good.I5{U':List Nat}{s1:St}{t k:Nat}{cells:List X}(hg:Good E U s a w)(ht:look s t=some (.ptr k 0))(ht1:Nat.blt t 1000=true)(hb:look s (1000+k)=some (.box cells))(hk1:Nat.blt k 1000=true)(hk9:k∉E.fs)(hkU:U'.contains k=false)(hl:Le s s1)(ho:s1.all (eP U')=true)(h3:s1.all (fun p=>!Nat.beq p.1 3000)=true)
  {R:Nat->bm} (hR:∀c b,aM E U c a w->(∀key x,look s key=some x->Holds c a w key x)->c.loc k=some b->R b c.h c.Y w):
  ∃b,∀J:bm,aZ J->(∀h Y T vs,R b h Y w->w.heap[b]?=some (.cells vs T (0,0))->(∃c:Ctx,c.h=h/\ah (aV c) cells vs.toList)->(∀o,h ⟨b,o,none⟩=none)->¬Y b->J h (fun x=>Y x\/x=b) w)->
   Good E U' ((t,.raw (.pointer (some ⟨b,0,none⟩)))::(3000,.res J)::s1) a w:=by
 obtain⟨c,hbs,hh⟩:=hg;rw[db]at hk1;obtain⟨b,hb1,hv⟩:=iB ((hh _ _ ht).slot ht1);obtain⟨b',T,vs,hb2,hb3,hb4⟩:=fD (hh _ _ hb) hk1;rw[hb1]at hb2;cases hb2;obtain⟨q1,q2,q3,q4,q5⟩:=hbs.loc k b hb1;have hr:=hR c b hbs hh hb1;refine⟨b,fun J hS hJ=>?_⟩;have hnY:¬c.Y b:=fun hy=>(hbs.Y b hy).2.2.1 k hb1
 have hj:J c.h (fun x=>c.Y x\/x=b) w:=by
  exact hJ c.h c.Y T vs hr hb3 ⟨c,rfl,hb4⟩ q3 hnY
 have hcut:=hbs.cut U';have hb':=hcut.GR (b:=b) q2 (fun hlt=>by rcases q1 with q1|q1;all_goals grind) (fun j hj=>by
  grind [Ctx.cut]) (fun j m hv' hj e=>by
  grind [Ctx.cut]) q3 ⟨_,hb3,rfl⟩
 refine⟨_,hb',fun key x hx=>?_⟩;simp only[look]at hx;split at hx
 ·rename_i e;have:=Nat.eq_of_beq_eq_true e;cases hx;subst this;unfold Holds;rw[Zn (by simpa using ht1)];exact hv
 split at hx
 ·rename_i e;have:=Nat.eq_of_beq_eq_true e;cases hx;subst this;exact Holds.iV hS hj
 have hm:=cm hx;have hne:key≠3000:=fun e=>by
  simp_all
 exact Holds.GR hne (Holds.cut (hh key x (hl.look key x hx)) (dj.1 ho _ hm))
def OK.Ij{code:Code}{Q:bo}{J0:bm}{J:Nat->bm}(U':bc)(s1:St)(t:Nat){k:Nat}{cells:bi}(hl3:look s 3000=some (.res J0))(ht:look s t=some (.ptr k 0))(ht1:Nat.blt t 1000=true)(hb:look s (1000+k)=some (.box cells))(hk1:Nat.blt k 1000=true)(hk9:E.fs.contains k=false)
  (hkU:U'.contains k=false) (hl:Le s s1) (ho:s1.all (eP U')=true) (h3:s1.all (fun p=>! Nat.beq p.1 3000)=true) (hS:∀b,aZ (J b))
  (hJ:∀b h Y T vs w,J0 h Y w->w.heap[b]?=some (.cells vs T (0,0))->(∃c:Ctx,c.h=h/\ah (aV c) cells vs.toList)->(∀o,h ⟨b,o,none⟩=none)->¬Y b->J b h (fun x=>Y x\/x=b) w)
  (h:∀b,OK E code Q U' ((t,.raw (.pointer (some ⟨b,0,none⟩)))::(3000,.res (J b))::s1)):OK E code Q U s:=fun a w hg=>by
 obtain⟨b,hb'⟩:=hg.I5 (U':=U') (s1:=s1) (R:=fun _ h Y w=>J0 h Y w) ht ht1 hb hk1 (nQ hk9) hkU hl ho h3 fun c b _ hh _=>(dI (hh _ _ hl3)).2
 exact h b a w (hb' (J b) (hS b) fun h Y T vs q1 q2 q3 q4 q5=>hJ b h Y T vs w q1 q2 q3 q4 q5)
def OK.bU{code:Code}{Q:bo}{J J':bm}(hl:look s 3000=some (.res J))(hS:aZ J')(hJ:∀h Y w,J h Y w->J' h Y w)(h:OK E code Q U ((3000,.res J')::s)):OK E code Q U s:=fun a w hg=>by
 obtain⟨c,hb,hh⟩:=hg;refine h a w ⟨c,hb,fun key x hx=>?_⟩;simp only[look]at hx;split at hx
 ·rename_i e;have:=Nat.eq_of_beq_eq_true e;cases hx;subst this;exact Holds.iV hS (hJ _ _ _ (dI (hh _ _ hl)).2)
 exact hh key x hx
end
end Go.Ab
namespace Go.Ab
open Go.RowKit
def IC(P:Program)(f:Nat)(args:bi){ι:Type}(res:ι->X)(J:ι->bm):Prop:=
 ∀(h:Mem)(w:World)(vs:List Value),(∀p v,h p=some v->w.cell? p=some v)->ah (bt (aD h)) args vs->
  Calls P f vs.toArray w fun en w'=>∃q v h' Y',en=.returned v/\dW h (fun _=>False) w h' Y' w'/\bK (aD h') (res q) v/\J q h' Y' w'
def HI(E:Env)(rs:List ResultVar){ι:Type}(res:ι->X)(J:ι->bm):bo:=fun e U s=>∃q,xZ E rs (res q) e U s/\look s 3000=some (.res (J q))
def IC.intro{P:Program}{f nt:Nat}{fn:Func}{code:Code}{rs:List ResultVar}{args:bi}{ι:Type}{res:ι->X}{J:ι->bm}(hf:P.funcs[f]?=some fn)(hb:fn.body=some code)(hn:fn.ntmps=nt)(hr:fn.results=rs.toArray)
  (hl:Nat.ble args.length nt=true) (ht:args.all (fun x=>!cO x)=true) (hl2:Nat.ble args.length 1000=true)
  (h:∀w c,OK (jK P nt [] w c) code (den (jK P nt [] w c) (HI (jK P nt [] w c) rs res J) []) [] (hU 0 args)):IC P f args res J:=by
 intro h0 w vs hw hargs;refine(callsIn_wide (n:=0)).1 (callsIn_of_wp_marks hf hb trivial ?_ rfl);have hlen:=hargs.length;rw[ii]at hl hl2;have hno:∀b,¬(aD h0).out [] b:=by
  rintro b (hy|⟨k,_,e⟩|⟨k,m,hv,_,e,_⟩)
  all_goals simp_all
 refine wpIn_mono (h w (aD h0) {tmps:=vs.toArray++Array.replicate (fn.ntmps - vs.toArray.size) undef,defers:=[]} w ?_) ?_
 ·refine⟨aD h0,⟨da.refl _ _ _,Zq _,?_,⟨.nil,fun d hd=>by cases hd⟩,(fun p hp=>by cases hp),hw,Mem.le_refl _,fun p v e=>.inl e,(fun k b e=>by cases e),(fun k m hv b e=>by cases e),(fun _ _=>⟨rfl,rfl⟩),(fun b e=>e.elim),(fun k b _ e=>by cases e),(fun k m hv lv _ e=>by cases e)⟩,fun key x hx=>gl hargs ht hl2 key x hx⟩;simp_all
 rintro e a' w' ⟨U',s',⟨c,hbase,hh⟩,q,⟨he,ys,hys,hres⟩,hl3⟩;have hE:(jK P nt [] w (aD h0)).B=w.heap.size:=rfl;have post:LeavesInM Fence.wide 0 P fn a'.tmps (fun en w'=>∃q v h' Y',en=.returned v/\dW h0 (fun _=>False) w h' Y' w'/\bK (aD h') (res q) v/\J q h' Y' w') a'.defers .returning w':=by
  refine eF (B:=w.heap.size) (aw:=c.all) a'.defers w' hbase.iP.1 ?_ ?_
  ·intro d hd;obtain⟨D,h1,h2,h3,h4⟩:=hbase.iP.2 d hd;simp_all
  intro w2 e1 e2 e3 e4 e5 e6;obtain⟨hbase,hh⟩:=hbase.calm hh e1 e2 e3 e4 rfl e5 e6;obtain⟨vs',h1,h2,h3⟩:=iw hbase hh hys;have hrun:(results fn a'.tmps).run P w2=.ok (if h:vs'.toArray.size=1 then vs'.toArray[0]else .tuple vs'.toArray) w2:=by
   have he:results fn a'.tmps=(fn.results.mapM (fF a'.tmps)>>=fun vs=>pure (if h:vs.size=1 then vs[0]else .tuple vs)):=by
    rfl
   simp_all
  have hpg:=iS.uE (s:=s') (wr:=[(3000,.res (J q))]) (res:=res q) (v:=if h:vs'.toArray.size=1 then vs'.toArray[0]else .tuple vs'.toArray) hbase hE hh ⟨hl3,Zo⟩ rfl (by
   rw[←hres];have hl:=h2.length
   match ys,vs',h2,h3,hl with
   |[y],[v],h2,h3,_=>exact ap.ef h2.1 (h3 y F)
   |[],[],h2,_,_=>exact⟨[],rfl,Zo⟩
   |y1::y2::ys,v1::v2::vs,h2,_,_=>exact⟨v1::v2::vs,by simp,h2⟩
   |[_],[],h2,_,_=>grind
   |[],_::_,h2,_,_=>grind
   |[_],_::_::_,h2,_,_=>grind
   |_::_::_,[],h2,_,_=>grind
   |_::_::_,[_],h2,_,_=>grind) (fun b h=>h.elim id fun⟨p,hp,_⟩=>by cases hp)
  obtain⟨_,hJ1⟩:=dI (hpg.wr (3000,.res (J q)) F {tmps:=#[],defers:=[]});refine⟨_,hrun,q,_,(c.gi [] ((jK P nt [] w (aD h0)).fin c w2)).h,(c.gi [] ((jK P nt [] w (aD h0)).fin c w2)).Y,rfl,⟨hpg.below.mono (Zq _) fun k _ hk=>(hno k hk).elim,hpg.le,fun p v hp=>(hpg.new p v hp).imp id fun q=>q.imp id fun q=>(hno _ q).elim,hpg.ok.hw,fun b hy=>(hpg.ok.Y b hy).1,fun b hy hlt=>hno b (hpg.out b (.inl hy) hlt)⟩,?_,hJ1⟩;refine hpg.res.mono ⟨Mem.le_refl _,fun k b e=>?_,fun k m hv lv e=>?_⟩
  all_goals grind
 rcases he with rfl|rfl
 ·exact post
 exact post
section
variable{E:Env}{all:Array Oper}{s r r1 r2 r3 rg:St}{d ty:Nat}{pos:String}{after:Array Edge}{x y z:Operand}
def RK.callX{l:List Oper}{U:bc}{Q:bo}{g:Nat}{os:List Operand}{at_:Array TypeId}{ys:bi}{ι:Type}{res:ι->X}{J:ι->bm}(hf:IC E.P g ys res J)(hS:∀q,aZ (J q))(hm:∀q h Y Y' w,J q h Y w->(∀b,Y b->Y' b)->J q h Y' w)
  (hcall:∀args w,(callFunc g args).run E.P w=.ok (.enter g args) w) (hd:cP E d=true) (ha:fE s os ys r) (ho:ys.all fm=true)
  (h:∀q,RK E all l U ((d,res q)::(3000,.res (J q))::s) Q):RK E all (⟨some d,.call {callee:=.value (.func g),args:=os.toArray,argTypes:=at_},ty,pos,after,none⟩::l) U s Q:=by
 simp only[Zw,db]at hd;intro k hk a w hg;rw[ge,sg,wpOpsIn_cons];refine cW (by simpa using hk 0) ?_;obtain⟨c,hb,hh⟩:=hg;have hw:Region.wanted (⟨some d,.call {callee:=.value (.func g),args:=os.toArray,argTypes:=at_},ty,pos,after,none⟩:Oper) (yielded all a.tmps)=true:=rfl;have hargs:=bY (ha.rep (c:=c) (a:=a) (w:=w) fun p hp=>hh p.1 p.2 (ha.looks.all p hp)) ho;unfold gh;rw[Zn hw];refine⟨fun _ _=>trivial,?_⟩;rw[Oper.semAt_eq _ _ _ fun cl he=>by cases he];have hfo:a.eval (.func g)=.func (.func g) #[] #[]:=rfl;have hrun:(execOp a.eval ⟨some d,.call {callee:=.value (.func g),args:=os.toArray,argTypes:=at_},ty,pos,after,none⟩).run E.P w=.ok (.enter g (os.map a.eval).toArray) w:=by
  simp_all[execOp,resolve,Deferred.ofValue,invoke]
 rw[hrun];refine⟨Z,?_⟩;have h1:CallsIn E.ac (0 - 1) E.P g (os.map a.eval).toArray w _:=(callsIn_wide (n:=0)).2 (hf c.h w _ hb.hw hargs);refine h1.mono ?_;rintro en w' ⟨q,v,h',Y',rfl,hp,hres,hJ⟩;have hfr:∀b,Y' b->w.heap.size<=b:=fun b hy=>yk fun hlt=>hp.out b hy hlt
 have hp2:dW c.h c.Y w h' (fun b=>c.Y b\/Y' b) w':=by
  refine⟨hp.below.mono (Zq _) fun _ _ e=>e.elim,hp.le,fun p v hv=>(hp.new p v hv).imp id fun e=>e.imp id fun e=>e.elim,hp.hw,fun b hy=>?_,fun b hy hlt=>?_⟩
  ·rcases hy with hy|hy
   ·have:=(hb.Y b hy).1;have:=hp.below.size;omega
   exact hp.lt b hy
  grind
 have hext:Ext c ⟨h',c.loc,c.arr,fun b=>c.Y b\/Y' b⟩:=⟨hp.le,fun _ _ e=>e,fun _ m hv lv e=>⟨m,hv,lv,e,Zq _,fun _=>rfl⟩⟩;have hdt:d<a.tmps.size:=by rw[hb.nt];exact hd.2
 refine h q (k+1) (fun j=>?_) _ _ ⟨⟨h',c.loc,c.arr,fun b=>c.Y b\/Y' b⟩,(hb.Y_ hp2).put _ _,fun key u hu=>?_⟩
 ·have:=hk (j+1);grind
 simp only[look]at hu;split at hu
 ·rename_i e;have:=Nat.eq_of_beq_eq_true e;cases hu;subst this;unfold Holds;rw[Zn hd.1,cE hdt];exact hres.mono (cS (c:=⟨h',c.loc,c.arr,fun b=>c.Y b\/Y' b⟩) rfl)
 rename_i hne;have hne':d≠key:=fun e=>hne (by simp_all)
 split at hu
 ·grind [Nat.eq_of_beq_eq_true,Holds.iV]
 rename_i hne3;have hne3':key≠3000:=fun e=>hne3 (by simp_all)
 have h0:=hh key u hu;by_cases h1:key<1000
 ·refine Holds.put ?_ hne' _;unfold Holds at h0⊢;rw[Zn h1]at h0⊢;exact h0.mono hext
 exact(Holds.Y_ hb hp2 h1 hne3' h0).put hne' _
end
end Go.Ab
namespace Go.Ab
open Go.RowKit
def kF{α:Type}:List (ba×α)->ba->Option α
 |[],_=>none
 |p::l,k=>if p.1=k then some p.2 else kF l k
def rz{α:Type}:List (ba×α)->ba->α->List (ba×α)
 |[],k,v=>[(k,v)]
 |p::l,k,v=>if p.1=k then(k,v)::l else p::rz l k v
def jz(l:List (ba×X)):List (X×X):=l.map fun p=>(.str p.1,p.2)
abbrev ye(h:Mem):X×X->MapEntry->Prop:=fun p m=>ay h p.1 m.key/\bt (aD h) p.2 m.val
def E3{h:Mem}{s:ba}{v:Value}(r:ay h (.str s) v):v=.string ⟨s.toArray⟩:=by cases r;rfl
def nA(a b:ba):Instr.sameNow .string (.string ⟨a.toArray⟩) (.string ⟨b.toArray⟩)=some (decide (b=a)):=by
 have h:((⟨a.toArray⟩:ByteArray)==⟨b.toArray⟩)=decide (b=a):=by
  rw[wT,MapKept.bytes_beq,decide_eq_true_iff];grind
 simp only[Instr.sameNow,h]
def rA{h:Mem}{k:ba}:∀{l:List (ba×X)}{es:List MapEntry}(i:Nat),ah (ye h) (jz l) es->
  (kF l k=none/\Instr.findNow .string (.string ⟨k.toArray⟩) es i=some none/\(∀m∈es,m.key≠.string ⟨k.toArray⟩)/\∀u,rz l k u=l++[(k,u)])\/
  ∃j u m,kF l k=some u/\Instr.findNow .string (.string ⟨k.toArray⟩) es i=some (some (i+j,m.val))/\es[j]?=some m/\m.key=.string ⟨k.toArray⟩/\bt (aD h) u m.val/\l[j]?=some (k,u)/\∀u',rz l k u'=l.set j (k,u')
 |[],[],i,_=>.inl ⟨rfl,rfl,(fun m hm=>by cases hm),fun u=>rfl⟩
 |p::l,m::es,i,hr=>by
  obtain⟨⟨h1,h2⟩,h3⟩:=hr;have hk:=E3 h1;by_cases hp:p.1=k
  ·refine .inr ⟨0,p.2,m,by simp[kF,hp],?_,rfl,by rw[hk,hp],h2,by grind,fun u'=>by simp[rz,hp]⟩;simp_all[Instr.findNow,nA]
  have hf:∀i,Instr.findNow .string (.string ⟨k.toArray⟩) (m::es) i=Instr.findNow .string (.string ⟨k.toArray⟩) es (i+1):=by
   simp_all[Instr.findNow,nA]
  rcases rA (k:=k) (i+1) h3 with⟨q1,q2,q3,q4⟩|⟨j,u,m',q1,q2,q3,q4,q5,q6,q7⟩
  ·grind [kF,rz]
  refine .inr ⟨j+1,u,m',by simp[kF,hp,q1],by grind,by grind,q4,q5,by grind,fun u'=>by simp[rz,hp,q7]⟩
 |[],_::_,_,h=>h.elim
 |_::_,[],_,h=>h.elim
section
variable{E:Env}{U:bc}{c:Ctx}{a:Act}{w w':World}
def aM.u7(hb:aM E U c a w){k b:Nat}(h1:c.loc k=some b)(e1:w'.os=w.os)(e2:w'.tape=w.tape)(e3:w'.output=w.output)(e4:w'.heap.size=w.heap.size)(e5:∀j,j≠b->w'.heap[j]?=w.heap[j]?):
  aM E U c a w'/\∀key y,¬key<1000->key≠1000+k->Holds c a w key y->Holds c a w' key y:=by
 obtain⟨q1,q2,q3,q4,q5⟩:=hb.loc k b h1;have hall:c.all b:=.inr (.inl ⟨k,h1⟩);have hw2:∀p v,c.h p=some v->w'.cell? p=some v:=by
  intro p v hp;have h0:=hb.hw p v hp;grind [j8,World.cell?_of_block]
 refine⟨⟨hb.below.trans ⟨e1,e2,e3,by omega,fun j hj hx=>e5 j (Env.js q1 hj hx)⟩,by rw[e4];exact hb.hB,hb.nt,⟨hb.iP.1,fun d hd=>?_⟩,fun p hp=>?_,hw2,hb.hle,hb.hnew,?_,?_,hb.used,?_,hb.fB,hb.fQ⟩,?_⟩
 ·obtain⟨D,h2,h3,h4,h5⟩:=hb.iP.2 d hd;grind
 ·obtain⟨h2,h3,h4⟩:=hb.nS p hp;grind
 ·rw[e4];exact hb.loc
 ·rw[e4];exact hb.arr
 ·rw[e4];exact hb.Y
 intro key u hkey hne hu;unfold Holds at hu⊢;rw[Zm hkey]at hu⊢;refine cD hu fun hu=>?_
 split at hu
 ·grind [xe]
 rename_i hlt;rw[Zm hlt];split at hu
 ·rename_i hlt2;rw[Zn hlt2];obtain⟨sz,rows,hv2,e,vs2,hx,f1,f2,f3⟩:=hu;refine⟨sz,rows,hv2,e,vs2,hx,f1,⟨f2.1,f2.2.imp id ?_⟩,f3⟩;rintro⟨g,cap,cur,p1,p2,p3,p4⟩;exact⟨g,cap,cur,p1,p2,(e5 g fun e=>q5 _ _ _ f1 (by rw[p1,←e];rfl)).trans p3,p4⟩
 rename_i hlt2;rw[Zm hlt2];obtain⟨hk0,J,hx0,hJ,hJ2⟩:=hu;exact⟨hk0,J,hx0,hJ,hJ _ _ _ _ _ hJ2 (Mem.le_refl _) (fun _ _ e=>.inl e) hw2 ⟨e1,e2,e3,by omega,fun j hj=>by omega⟩ fun b2 hy=>e5 b2 fun e=>by subst e;exact(hb.Y _ hy).2.2.1 k h1⟩
end
section
variable{E:Env}{all:Array Oper}{s r r1 r2 r3 rg:St}{d ty:Nat}{pos:String}{after:Array Edge}{guard:Option (Nat×Bool)}{x y z:Operand}
def qa{c:Ctx}{a:Act}{w:World}{k:Nat}{es:List (X×X)}(h:Holds c a w (1000+k) (.omap es))(hk:k<1000):
  ∃b mes clock,c.loc k=some b/\w.heap[b]?=some (.map mes clock)/\MapKept.Stamped mes clock/\ah (ye c.h) es mes.toList:=by
 unfold Holds at h;rw[Zm I,Zn I,mf]at h;rcases h with h|⟨b,o,h1,h2,mes,clock,rfl,h3,h4⟩
 all_goals grind
def Holds.mkMap{c:Ctx}{a:Act}{w:World}{k b clock:Nat}{mes:Array MapEntry}{es:List (X×X)}(hk:k<1000)(h1:c.loc k=some b)(h2:w.heap[b]?=some (.map mes clock))(h3:MapKept.Stamped mes clock)(h4:ah (ye c.h) es mes.toList):
  ¬(1000+k<1000)/\Holds c a w (1000+k) (.omap es):=by
 refine⟨by omega,?_⟩;unfold Holds;rw[Zm I,Zn I,mf];exact .inr ⟨b,_,h1,h2,mes,clock,rfl,h3,h4⟩
def p9{c:Ctx}{k:Nat}{v:Value}(h:bK c (.jt k) v):∃b,c.loc k=some b/\v=.map (some b):=h
def S.vR{t k:Nat}(hk:Nat.blt k 1000=true)(hg:Gd all s guard rg)(hd:(Nat.blt d 1000&&Nat.blt d E.nt)=true)(hk9:E.fs.contains k=false:=by rfl):
  aW E all ⟨some d,.makeMap t none,ty,pos,after,guard⟩ s (rg++[]) ((d,.jt k)::[(1000+k,.omap [])]) [k]:=
 aW.mk hg hd rfl trivial fun U c a w hb _ hal=>by
  rw[db]at hk;have hkU:k∉U:=hal k F;obtain⟨g1,g2,g3,g4,g5⟩:=hb.HP (nQ hk9) hkU (.map #[] 0);refine⟨.map (some w.heap.size),_,w.alloc (.map #[] 0),rfl,g1,g2,⟨w.heap.size,g3,rfl⟩,?_,?_⟩
  ·intro p hp;simp only[df]at hp;subst hp;exact Holds.mkMap I g3 g4 (MapKept.stamped_empty 0) trivial
  intro key u hkey _ hu;exact g5 key u hkey hu
def S.Dm{t kt e k:Nat}{key:ba}{l:List (ba×X)}{es:List (X×X)}{zv:Value}{zx:X}(ht:E.P.underlying t=some (.map kt e))(hk:E.P.underlying kt=some .string)(hz:∀w,(zeroValue e).run E.P w=.ok zv w)(hzx:∀c,bt c zx zv)(hg:Gd all s guard rg)(hd:cP E d=true)
  (hx:bI s x (.jt k) r1) (hy:bI s y (.str key) r2) (hl:look s (1000+k)=some (.omap es)) (hes:es=jz l) (hnt:cO ((kF l key).getD zx)=false) (hk1:Nat.blt k 1000=true:=by rfl):
  aW E all ⟨some d,.lookup t x y false,ty,pos,after,guard⟩ s (rg++(r1++(r2++[(1000+k,.omap es)]))) [(d,(kF l key).getD zx)] []:=
 aW.val hg hd rfl (hx.looks.app (hy.looks.app ⟨hl,Zo⟩)) fun c A w _ hr=>by
  subst hes;rw[db]at hk1;obtain⟨b,h1,h0⟩:=p9 (hx.rep (c:=c) (a:=A) (w:=w) fun p hp=>hr p (by simp[hp]));obtain⟨b',mes,clock,h2,h3,_,h4⟩:=qa (hr (1000+k,.omap (jz l)) F) hk1;rw[h1]at h2;cases h2;obtain⟨h5,_⟩:=fS (hy.rep (c:=c) (a:=A) (w:=w) fun p hp=>hr p (by simp[hp]));have hkey:MapKept.IsKey .string (.string ⟨key.toArray⟩):=trivial;rcases rA (k:=key) 0 h4 with⟨q1,q2,_⟩|⟨j,u,m,q1,q2,_,_,q5,_⟩
  ·rw[q1]at hnt⊢;refine⟨zv,?_,ap.ef (hzx c) hnt⟩;simp[execOp,h0,h5,Instr.lookup,run_underlying ht,MapKept.run_getObj_map h3,MapKept.run_checkKey hk hkey,MapKept.run_findKey hk q2,hz]
  rw[q1]at hnt⊢;refine⟨m.val,?_,ap.ef (q5.mono (cS rfl)) hnt⟩;simp[execOp,h0,h5,Instr.lookup,run_underlying ht,MapKept.run_getObj_map h3,MapKept.run_checkKey hk hkey,MapKept.run_findKey hk q2]
def E4{h:Mem}{key:ba}{u:X}{v:Value}{l:List (ba×X)}{mes:Array MapEntry}{clock:Nat}(hs:MapKept.Stamped mes clock)(hr:ah (ye h) (jz l) mes.toList)(hk:ay h (.str key) (.string ⟨key.toArray⟩))(hv:bt (aD h) u v):
  (Instr.findNow .string (.string ⟨key.toArray⟩) mes.toList 0=some none/\MapKept.Stamped (mes.push ⟨.string ⟨key.toArray⟩,v,clock⟩) (clock+1)/\ah (ye h) (jz (rz l key u)) (mes.push ⟨.string ⟨key.toArray⟩,v,clock⟩).toList)\/
  ∃j m,Instr.findNow .string (.string ⟨key.toArray⟩) mes.toList 0=some (some (j,m.val))/\mes[j]?=some m/\m.key=.string ⟨key.toArray⟩/\MapKept.Stamped (mes.modify j fun e=>{e with key:=.string ⟨key.toArray⟩,val:=v}) clock/\
   ah (ye h) (jz (rz l key u)) (mes.modify j fun e=>{e with key:=.string ⟨key.toArray⟩,val:=v}).toList:=by
 rcases rA (k:=key) 0 hr with⟨q1,q2,q3,q4⟩|⟨j,u0,m,q1,q2,q3,q4,q5,q6,q7⟩
 ·refine .inl ⟨q2,MapKept.stamped_push hs q3,?_⟩;rw[q4,Array.toList_push];simp only[jz,dE,fw,rm];exact hr.append ⟨⟨hk,hv⟩,Zo⟩
 rw[gk]at q2;have q3':mes[j]?=some m:=by grind
 refine .inr ⟨j,m,q2,q3',q4,MapKept.stamped_modify hs j _ (fun _ _=>rfl) (fun e _ he=>by simp_all),?_⟩;rw[q7];have hlen:=hr.length;refine ah.fb (by simp_all[jz]) fun i p m' hp hm=>?_
 simp only[jz,lh,pj]at hp;rw[ut,Array.getElem?_modify]at hm;by_cases hij:j=i
 ·grind
 rw[Zm hij]at hm;rw[Zm hij]at hp;exact hr.get (i:=i) (by grind [jz]) (by grind)
def S.EZ{t kt e k:Nat}{key:ba}{u:X}{l:List (ba×X)}{es es':List (X×X)}(ht:E.P.underlying t=some (.map kt e))(hk:E.P.underlying kt=some .string)(hg:Gd all s guard rg)
  (hx:bI s x (.jt k) r1) (hy:bI s y (.str key) r2) (hz:bI s z u r3) (hu:fm u=true) (hl:look s (1000+k)=some (.omap es)) (hes:es=jz l) (hes':jz (rz l key u)=es') (hk1:Nat.blt k 1000=true:=by rfl):
  aW E all ⟨none,.mapUpdate t x y z,ty,pos,after,guard⟩ s (rg++(r1++(r2++(r3++[(1000+k,.omap es)])))) [(1000+k,.omap es')] []:=
 aW.IZ hg rfl (hx.looks.app (hy.looks.app (hz.looks.app ⟨hl,Zo⟩))) fun U c a w hb hr=>by
  subst hes;subst hes';rw[db]at hk1;obtain⟨b,h1,h0⟩:=p9 (hx.rep (c:=c) (a:=a) (w:=w) fun p hp=>hr p (by simp[hp]));obtain⟨b',mes,clock,h2,h3,hs,h4⟩:=qa (hr (1000+k,.omap (jz l)) F) hk1;rw[h1]at h2;cases h2;have hyr:=hy.rep (c:=c) (a:=a) (w:=w) fun p hp=>hr p (by simp[hp])
  obtain⟨h5,_⟩:=fS hyr;have hkD:ay c.h (.str key) (.string ⟨key.toArray⟩):=h5▸hyr;have hzr:=hz.rep (c:=c) (a:=a) (w:=w) fun p hp=>hr p (by simp[hp])
  have hv:bt (aD c.h) u (a.eval z):=(bY (ys:=[u]) (vs:=[a.eval z]) ⟨hzr,Zo⟩ (by simp[hu])).1;have hkey:MapKept.IsKey .string (.string ⟨key.toArray⟩):=trivial;rcases E4 hs h4 hkD hv with⟨q2,q3,q4⟩|⟨j,m,q2,q3,q5,q6,q7⟩
  ·obtain⟨p1,p2⟩:=hb.u7 (w':={w with heap:=w.heap.setIfInBounds b (.map (mes.push ⟨.string ⟨key.toArray⟩,a.eval z,clock⟩) (clock+1))}) h1 rfl rfl rfl F fun j hj=>(MapKept.heap_set h3).2 j hj
   refine⟨_,?_,p1,?_,fun key' y hkey hne hy=>p2 key' y hkey (fun e=>hne _ (df.2 rfl) e.symm) hy⟩
   ·simp[execOp,h0,h5,Instr.mapUpdate,run_underlying ht,MapKept.run_getObj_map h3,MapKept.run_checkKey hk hkey,MapKept.run_findKey hk q2,MapKept.run_setObj_map _ h3]
   intro p hp;simp only[df]at hp;subst hp;exact Holds.mkMap hk1 h1 (MapKept.heap_set h3).1 q3 q4
  obtain⟨p1,p2⟩:=hb.u7 (w':={w with heap:=w.heap.setIfInBounds b (.map (mes.modify j fun e=>{e with key:=.string ⟨key.toArray⟩,val:=a.eval z}) clock)}) h1 rfl rfl rfl F fun j hj=>(MapKept.heap_set h3).2 j hj
  refine⟨_,?_,p1,?_,fun key' y hkey hne hy=>p2 key' y hkey (fun e=>hne _ (df.2 rfl) e.symm) hy⟩
  ·simp[execOp,h0,h5,Instr.mapUpdate,run_underlying ht,MapKept.run_getObj_map h3,MapKept.run_checkKey hk hkey,MapKept.run_findKey hk q2,q3,q5,MapKept.run_keyThatStays hkey,MapKept.run_setObj_map _ h3]
  intro p hp;simp only[df]at hp;subst hp;exact Holds.mkMap hk1 h1 (MapKept.heap_set h3).1 q6 q7
end
end Go.Ab
namespace Go.Ab
open Go.RowKit
def k9{c:Ctx}{a:Act}{w:World}{k sz:Nat}{pre post:List bi}{mid:bi}(h:Holds c a w (2000+k) (.cM sz pre mid post)):
  k<1000/\∃hv e vs,c.arr k=some (pre.length+(post.length+1),hv,true)/\w.ownsRow 0 e sz hv (pre.length+(post.length+1)) vs/\(∀r∈pre++mid::post,r.length=sz)/\∃v1 v2 v3,vs=v1++(v2++v3)/\ah (ay c.h) pre.flatten v1/\ah (aV c) mid v2/\ah (ay c.h) post.flatten v3:=by
 unfold Holds at h;by_cases hk:k<1000
 case neg=>
  rw[Zm I,Zm I,Zm I]at h;rcases h with h|⟨_,J,hJ,_⟩
  ·cases h
  cases hJ
 rw[Zm I,Zm I,Zn I,mf]at h;rcases h with h|⟨sz',rows',hv,e,vs,⟨rfl,rfl,h4⟩,h1,h2,h3⟩
 ·cases h
 rw[Zs,ge]at h1 h2;grind
def Holds.Dj{c:Ctx}{a:Act}{w:World}{k sz e n:Nat}{hv:Value}{vs v1 v2 v3:List Value}{pre post:List bi}{mid:bi}(hk:k<1000)(hn:pre.length+(post.length+1)=n)(h1:c.arr k=some (n,hv,true))(h2:w.ownsRow 0 e sz hv n vs)
  (h3:∀q∈pre++mid::post,q.length=sz) (h4:vs=v1++(v2++v3)) (h5:ah (ay c.h) pre.flatten v1) (h6:ah (aV c) mid v2) (h7:ah (ay c.h) post.flatten v3):¬(2000+k<1000)/\Holds c a w (2000+k) (.cM sz pre mid post):=by
 subst hn;refine⟨by omega,?_⟩;unfold Holds;rw[Zm I,Zm I,Zn I,mf];refine .inr ⟨sz,_,hv,e,vs,⟨rfl,rfl,v1,v2,v3,h4,h5,h6,h7⟩,?_,?_,h3⟩
 all_goals simp_all
end Go.Ab
namespace Go.Ab
open Go.RowKit
def kG(fs:bc)(t:St):X->Bool
 |.agg xs=>xs.all (gP fs t)
 |x=>gP fs t x
def wY(fs:bc)(t:St):X->Bool
 |.cf xs=>xs.all (kG fs t)
 |x=>kG fs t x
def bt.bV{c:Ctx}{fs:bc}{t:St}{x:X}{v:Value}(h:bt c x v)(ho:kG fs t x=true):bt (c.bV fs t) x v:=by
 cases x
 case agg xs=>grind [bt,kG,ah.cut,aV.bV]
 all_goals simp_all[bt,kG,aV.bV]
theorem bt.back{c c3:Ctx}{fs:bc}{t:St}{x:X}{v:Value}(h:bt c3 x v)(ho:kG fs t x=true):bt (c.back c3 fs t) x v:=by
 cases x
 case agg xs=>grind [bt,kG,ah.cut,aV.back]
 all_goals simp_all[bt,kG,aV.back]
def bK.back{c c3:Ctx}{fs:bc}{t:St}{x:X}{v:Value}(h:bK c3 x v)(ho:wY fs t x=true):bK (c.back c3 fs t) x v:=by
 cases x
 case cf xs=>grind [bK,wY,ah.cut,bt.back]
 all_goals simp_all[bK,wY,bt.back]
def ld{c:Ctx}{fs:bc}{t:St}:∀{ys:bi}{vs:List Value},ah (bK c) ys vs->ys.all (fun y=>kG fs t y&&!cO y)=true->ah (bt (c.bV fs t)) ys vs
 |[],[],_,_=>trivial
 |y::ys,v::vs,h,ho=>by
  simp only[ee,Zw,lA]at ho;exact⟨(T.Ad h.1 ho.1.2).bV ho.1.1,ld h.2 (by simp_all)⟩
 |[],_::_,h,_=>h.elim
 |_::_,[],h,_=>h.elim
end Go.Ab
namespace Go.Ab
open Go.RowKit
def yL{a b:Int}(h:a=b):some (X.int .i64 a)=some (X.int .i64 b):=by rw[h]
def Fw{a b:Bool}(h:a=b):some (X.bool a)=some (X.bool b):=by rw[h]
section
variable{E:Env}{all:Array Oper}{s r r1 r2 r3 r4 rg:St}{d ty:Nat}{pos:String}{after:Array Edge}{guard:Option (Nat×Bool)}{x y z t:Operand}
def S.Pq{f:Nat}{u u' u'':X}(hg:Gd all s guard rg)(hd:cP E d=true)(hx:bI s x u r1)(hy:bI s y u' r2)(hz:bI s z u'' r3)
  (hu:bR u=false) (hu':bR u'=false) (hu'':bR u''=false):
  aW E all ⟨some d,.makeFunc (.func f) #[] #[x,y,z],ty,pos,after,guard⟩ s (rg++(r1++(r2++r3))) [(d,.fn f [u,u',u''])] []:=
 aW.val hg hd rfl (hx.looks.app (hy.looks.app hz.looks)) fun c A w _ hr=>⟨.func (.func f) #[] #[A.eval x,A.eval y,A.eval z],by simp[execOp,Instr.makeFunc],[A.eval x,A.eval y,A.eval z],rfl,Gh (hx.rep fun p hp=>hr p (by simp[hp])) hu,Gh (hy.rep fun p hp=>hr p (by simp[hp])) hu',Gh (hz.rep fun p hp=>hr p (by simp[hp])) hu'',Zo⟩
def tC{α:Type}(a:α)(k:ba):∀keys:List ba,kF (keys.map fun s=>(s,a)) k=if k∈keys then some a else none
 |[]=>rfl
 |s::keys=>by
  simp only[fw,kF];by_cases h:s=k
  ·simp[h]
  rw[Zm h,tC a k keys];grind
def wW{α:Type}(a:α)(k:ba):∀keys:List ba,k∉keys->rz (keys.map fun s=>(s,a)) k a=(keys++[k]).map fun s=>(s,a)
 |[],_=>rfl
 |s::keys,h=>by
  simp only[ed,FS]at h;simp only[fw,rz,md];rw[Zm (JN h.1),wW a k keys h.2]
end
end Go.Ab
namespace Go.Ab
open Go.RowKit
section
variable{E:Env}{all:Array Oper}{s r r1 r2 r3 rg:St}{d ty:Nat}{pos:String}{after:Array Edge}{guard:Option (Nat×Bool)}{x y z:Operand}
def aM.I6{U:List Nat}{c:Ctx}{a:Act}{w:World}(hb:aM E U c a w){b:Nat}(h1:E.B≤b)(h3:∀k,c.loc k≠some b)(h4:∀k m hv,c.arr k=some (m,hv,true)→hv.ownBlock≠some b)(h5:¬c.Y b){h':Mem}(hh':h'=fun p=>if p.block=b then w.cell? p else c.h p):
  aM E U ⟨h',c.loc,c.arr,c.Y⟩ a w/\Mem.le c.h h'/\(∀p v,h' p=some v->c.h p=some v\/¬c.Y p.block)/\(∀p v,h' p=some v->w.cell? p=some v):=by
 have hle:Mem.le c.h h':=by
  intro p u hp;rw[hh'];dsimp only;split
  ·exact hb.hw p u hp
  exact hp
 have hin:∀p u,h' p=some u->c.h p=some u\/(p.block=b/\w.cell? p=some u):=by
  grind
 have hwn:∀p u,h' p=some u->w.cell? p=some u:=by
  intro p u hp;rcases hin p u hp with h|h
  ·exact hb.hw p u h
  exact h.2
 have none_of:∀b' o,b'≠b->c.h ⟨b',o,none⟩=none->h' ⟨b',o,none⟩=none:=by
  simp_all
 refine⟨⟨hb.below,hb.hB,hb.nt,hb.iP,hb.nS,hwn,Mem.le_trans hb.hle hle,?_,?_,?_,hb.used,hb.Y,hb.fB,hb.fQ⟩,hle,?_,hwn⟩
 ·intro p u hp;rcases hin p u hp with h|h
  ·exact hb.hnew p u h
  omega
 ·intro j b' hj;obtain⟨q1,q2,q3,q4,q5⟩:=hb.loc j b' hj;grind
 ·intro j m u b' hj hbk;obtain⟨q1,q2,q3,q4⟩:=hb.arr j m u b' hj hbk;grind
 grind
def Good.freezeP{U U':bc}{s1:St}{a:Act}{w:World}{t k:Nat}{cells:bi}(hg:Good E U s a w)(ht:Nat.blt t 1000=true)(hk:Nat.blt k 1000=true)(hl:look s t=some (.ptr k 0))(hl2:look s (1000+k)=some (.box cells))(hD:cells.all yG=true)(hk9:k∉E.fs)
  (hkU:U'.contains k=false) (hle:Le s s1) (ho:s1.all (eP U')=true):Good E U' ((t,.b5 cells)::s1) a w:=by
 obtain⟨c,hb,hh⟩:=hg;obtain⟨b,f1,f2⟩:=iB ((hh _ _ hl).slot ht);rw[db]at ht hk;obtain⟨b',T,vs,g1,g2,g3⟩:=fD (hh _ _ hl2) hk;rw[f1]at g1;cases g1;have g4:ah (ay c.h) cells vs.toList:=lF g3 hD;obtain⟨q1,q2,q3,q4,q5⟩:=hb.loc k b f1;have hcell:∀(i:Nat)(v:Value),vs.toList[i]?=some v->w.cell? ⟨b,i,none⟩=some v:=fun i v hv=>by
  simp_all[World.cell?]
 obtain⟨h',hh'⟩:∃h':Mem,h'=fun p=>if p.block=b then w.cell? p else(c.cut U').h p:=⟨_,rfl⟩
 obtain⟨t1,t2,t3,t4⟩:=(hb.cut U').I6 (b:=b) (Env.gN q1 hk9) (fun j hj=>by
  grind [Ctx.cut]) (fun j m hv' hj e=>by
  grind [Ctx.cut]) (fun hy=>(hb.Y b hy).2.2.1 k f1) hh'
 have hext:Ext (c.cut U') ⟨h',(c.cut U').loc,(c.cut U').arr,(c.cut U').Y⟩:=⟨t2,fun _ _ e=>e,fun _ m hv lv e=>⟨m,hv,lv,e,Zq _,fun _=>rfl⟩⟩;refine⟨_,t1,fun key x hx=>?_⟩;simp only[look]at hx;split at hx
 ·rename_i e;have:=Nat.eq_of_beq_eq_true e;cases hx;subst this;unfold Holds;rw[Zn ht];show ay h' (.b5 cells) _;rw[f2];refine .b5 cells b 0 vs.toList g4.length (fun i v hv=>?_) fun i x v hx hv=>(g4.get hx hv).mono t2
  simp_all
 have h0:=Holds.cut (hh key x (hle.look key x hx)) (dj.1 ho _ (cm hx));by_cases hk':key<1000
 ·unfold Holds at h0⊢;rw[Zn hk']at h0⊢;exact h0.mono hext
 grind [UY]
def OK.freezeP{U:bc}{code:Code}{Q:bo}(U':bc)(s1:St)(t:Nat){k:Nat}{cells:bi}(ht:Nat.blt t 1000=true)(hk:Nat.blt k 1000=true)(hl:look s t=some (.ptr k 0))(hl2:look s (1000+k)=some (.box cells))(hD:cells.all yG=true)
 (hkU:U'.contains k=false) (hle:Le s s1) (ho:s1.all (eP U')=true) (h:OK E code Q U' ((t,.b5 cells)::s1)) (hk9:E.fs.contains k=false:=by rfl):OK E code Q U s:=fun a w hg=>h a w (hg.freezeP ht hk hl hl2 hD (nQ hk9) hkU hle ho)
end
end Go.Ab
namespace Go.Ab
open Go.RowKit
def Ct.EB{P:Program}{f:Nat}{args:bi}{res:X}(h:∀(m:Mem)(w:World)(vs:List Value),(∀p v,m p=some v->w.cell? p=some v)->ah (bt (aD m)) args vs->Calls P f vs.toArray w fun e w'=>∃v,e=.returned v/\Below w.heap.size w w'/\bK (aD m) res v):Ct P f args res:=by
 intro m w vs hw ha;refine(h m w vs hw ha).mono ?_;rintro e w' ⟨v,rfl,hB,hr⟩;exact⟨v,m,rfl,hB,Mem.le_refl m,fun _ _ h=>.inl h,fun p v hp=>by rw[hB.cell (block_lt_of_cell (hw p v hp))];grind,hr⟩
structure Cf(P:Program)(f:Nat):Prop where
 j0:∀(a:Option Addr)(c:Nat)(sep:ByteArray)(w:World),Calls P f #[.slice a 0 c,.string sep] w fun e w'=>e=.returned (.string ⟨#[]⟩)/\w'=w
 j1:∀(bk o c:Nat)(xs:List ByteArray)(sep:ByteArray)(w:World),(∀(j:Nat)(x:ByteArray),xs[j]?=some x->w.cell? ⟨bk,o+j,none⟩=some (.string x))->bk<w.heap.size->xs.length<=140737488355328->xs.length<=c->(Lib.join (xs.map (·.data.toList)) sep.data.toList).length<=140737488355328->
  Calls P f #[.slice (some ⟨bk,o,none⟩) xs.length c,.string sep] w fun e w'=>e=.returned (.string ⟨(Lib.join (xs.map (·.data.toList)) sep.data.toList).toArray⟩)/\Below w.heap.size w w'
def sZ(l:List ba):(l.map fun s=>[X.str s]).flatten=l.map X.str:=by
 induction l<;>grind
def yR{h:Mem}:∀{l:List ba}{vs:List Value},ah (ay h) (l.map X.str) vs->vs=l.map fun s=>Value.string ⟨s.toArray⟩
 |[],[],_=>rfl
 |s::l,v::vs,h=>by
  obtain⟨h1,h2⟩:=h;cases h1;rw[yR h2];rfl
 |[],_::_,h=>h.elim
 |_::_,[],h=>h.elim
def Cf.ct{P:Program}{f:Nat}(hJ:Cf P f){l:List ba}{sep:ba}(hn:l.length<=100000)(hlen:(Lib.join l sep).length<=140737488355328):Ct P f [.sl (l.map fun s=>[.str s]),.str sep] (.str (Lib.join l sep)):=by
 refine Ct.EB fun m w vs hw ha=>?_
 obtain⟨v1,vs',rfl,h1,h2⟩:=ha.bD;obtain⟨v2,vs2,rfl,h3,h4⟩:=h2.bD;have:=h4.bJ;subst this;have h3':ay m (.str sep) v2:=h3;cases h3';have h1':bK (aD m) (.sl (l.map fun s=>[.str s])) v1:=h1;have hs:ay m (.str (Lib.join l sep)) (.string ⟨(Lib.join l sep).toArray⟩):=.str _ (by unfold maxLen;omega);obtain⟨ad,cap,hv,q1,q2,q3⟩:=kg h1';rw[Zx]at hv q1;subst hv;rcases q3 with q3|⟨b,off,sz',cs,rfl,q4,q5,q6,q7⟩
 ·have hl:l=[]:=rv.1 q3;subst hl;refine(hJ.j0 ad cap ⟨sep.toArray⟩ w).mono ?_;rintro e w' ⟨rfl,rfl⟩;exact⟨_,rfl,Below.refl _ _,hs⟩
 obtain⟨xs,hxs⟩:∃xs:List ByteArray,xs=l.map fun s=>(⟨s.toArray⟩:ByteArray):=⟨_,rfl⟩
 have hcs:cs=l.map fun s=>Value.string ⟨s.toArray⟩:=by
  refine yR (h:=m) (ah.fb (by rw[←q5,sZ]) fun i x v hx hv=>q7 i x v (by rw[sZ];exact hx) hv)
 have hlx:xs.length=l.length:=by simp_all
 have hdat:xs.map (·.data.toList)=l:=by rw[hxs,rn];exact List.map_id'' (fun s=>rfl) l
 have hcell:∀(j:Nat)(x:ByteArray),xs[j]?=some x->w.cell? ⟨b,off+j,none⟩=some (.string x):=by
  simp_all
 by_cases h0:l=[]
 ·subst h0;refine(hJ.j0 _ cap ⟨sep.toArray⟩ w).mono ?_;rintro e w' ⟨rfl,rfl⟩;exact⟨_,rfl,Below.refl _ _,hs⟩
 have hpos:0<l.length:=nz.2 h0;have hbk:b<w.heap.size:=by
  have hx0:xs[0]?=some xs[0]:=Zv I;exact block_lt_of_cell (a:=⟨b,off+0,none⟩) (hcell 0 _ hx0)
 have hc:=hJ.j1 b off cap xs ⟨sep.toArray⟩ w hcell hbk I I (by simp_all);rw[hlx,hdat]at hc;refine hc.mono ?_;rintro e w' ⟨rfl,hB⟩;exact⟨_,rfl,hB,hs⟩
end Go.Ab
namespace Go.Ab
open Go.RowKit
structure Ji(P:Program)(T f o Tf:Nat):Prop where
 ex:∃fields fl,P.underlying T=some (.struct fields)/\fields[f]?=some fl/\fl.offset=o/\fl.type=Tf
end Go.Ab
namespace Go.Ab
open Go.RowKit
section
variable{E:Env}{all:Array Oper}{s r1 r2 rg:St}{ty:Nat}{pos:String}{after:Array Edge}{guard:Option (Nat×Bool)}{x y:Operand}
def S.yS{T k n i off sz:Nat}{u:X}{rows rows':List bi}(ht:eT E.P T false sz)(h1s:sz=1)(hg:Gd all s guard rg)(hx:bI s x (.di k n off) r1)(hy:bI s y u r2)(hl:look s (2000+k)=some (.arr sz rows))(hn:rows.length=n)(hoff:off=i * sz)(hi:i<n) 
  (ho:sQ u=true) (hD:yG u=true) (hrows:rows.set i [u]=rows') (hk1:Nat.blt k 1000=true:=by rfl):
  aW E all ⟨none,.store T x y,ty,pos,after,guard⟩ s (rg++(r1++(r2++[(2000+k,.arr sz rows)]))) [(2000+k,.arr sz rows')] []:=by
 subst hrows;subst hn;subst hoff;rw[db]at hk1;refine⟨?_,hg.looks.app (hx.looks.app (hy.looks.app ⟨hl,Zo⟩))⟩;intro U c a w hb hr hal next Q hnx
 have hw:=hg.wanted (o:=⟨none,.store T x y,ty,pos,after,guard⟩) (fun p hp=>hr p (dv _ hp));obtain⟨m,hv,lv,e1,e2,e3⟩:=kK (hx.rep (c:=c) (a:=a) (w:=w) fun p hp=>hr p (by simp[hp]));obtain⟨v,e',vs,g1,g2,g3,g4⟩:=ei (hr (2000+k,.arr sz rows) F);rw[e1]at g1;cases g1;obtain⟨b,l,cp,rfl,hp⟩:=e3 rfl;have hyr:=hy.rep (c:=c) (a:=a) (w:=w) fun p hp=>hr p (by simp[hp])
 have hok:nX u=true:=by cases u<;>first|exact ho|cases ho
 obtain⟨hc,hone⟩:=gq hyr hok;have hcx:cg u=[u]:=by cases u<;>first|rfl|cases ho
 rw[hcx]at hc;have hus:[u].length=sz:=h1s.symm;have hds:=lF hc (by grind);have hcl:=hc.length;have hcs:(a.eval y).cells.toList.length=sz:=by omega
 rcases g2.2 with⟨h0,_⟩|⟨g,cap,cur,hs,hz,hgc,hnc,hcm,hcs2,qo⟩
 ·cases h0
 cases hs;have hvl:vs.length=rows.length * sz:=g2.1;have hle:i * sz+sz<=rows.length * sz:=by grind
 have hle2:rows.length * sz<=cp * sz:=li _ hnc;have hst:=run_storeCells_at E.P b (i * sz) e' (a.eval y).cells.toList 0 cur w hgc I hone;simp only[po]at hst;obtain⟨w',hw'⟩:∃w',w'=w.setRow b (cur.toList.take (i * sz)++(a.eval y).cells.toList++cur.toList.drop (i * sz+(a.eval y).cells.toList.length)).toArray:=⟨_,rfl⟩;have hgb:w.grownBy w' (some b):=by
  subst hw';exact⟨rfl,rfl,rfl,by simp,fun k _ hk=>setRow_other w b k _ (fun e=>hk (by rw[e]))⟩
 obtain⟨p1,p2,p3,p4⟩:=hb.append (n':=rows.length) (v':=.slice (some ⟨b,0,none⟩) rows.length cp) e1 hgb (Zq _) (fun _=>rfl) (.inl rfl) (pK g2);have hrun:(execOp a.eval ⟨none,.store T x y,ty,pos,after,guard⟩).run E.P w=.ok .skip w':=by
  subst hw';have hcs':(a.eval y).cells.size=sz:=by omega
  simp[execOp,hp,Instr.storeAt,Instr.sureAddr,storeVar,ht.size,hcs',hst]
 unfold gh;rw[Zn hw];refine⟨fun _ _=>trivial,?_⟩;rw[Oper.semAt_eq _ _ _ (fun cl he=>by cases he),hrun];refine hnx _ a w' p1 p2 ?_ ?_
 ·intro p hp;simp only[df]at hp;subst hp;have hrl:∀q∈rows.set i [u],q.length=sz:=fun q hq=>by
   grind
  refine(Holds.lB (e:=e') (vs:=vs.take (i * sz)++((a.eval y).cells.toList++vs.drop (i * sz+sz))) hk1 (by rw[hK];exact p3) ?_ hrl ?_).2
  ·rw[hK];refine⟨?_,.inr ⟨b,cp,_,rfl,Zr _,by rw[hw'];exact setRow_heap w b cur _ e' _ hgc,hnc,hcm,?_,?_⟩⟩
   ·grind
   ·grind
   simp_all[qv]
  rw[qu hus g3 hi];exact((g4.take (i * sz)).append (hds.append (g4.drop (i * sz+sz)))).mono fun _ _=>ay.mono p2.h
 intro key u2 hk hu;have hne:(2000+k:Nat)≠key:=hk (2000+k,.arr sz (rows.set i [u])) F;by_cases h1:key<1000
 ·unfold Holds at hu⊢;rw[Zn h1]at hu⊢;exact hu.mono p2
 grind
end
end Go.Ab
namespace Go.Ab
open Go.RowKit
section
variable{E:Env}{all:Array Oper}{s r r1 r2 rd al rg:St}{d ty:Nat}{pos:String}{after:Array Edge}{guard:Option (Nat×Bool)}{x y:Operand}{k:IntKind}{m n:Int}
def S.Jj{o:Oper}{rd:St}{al:bc}{j n sz:Nat}{rows rows':List bi}(h:aW E all o s rd ((d,.own j n)::[(2000+j,.arr sz rows)]) al)(hn:rows.length=n)(hr:rows=rows')(hd:Nat.blt d 1000=true)(hk9:E.fs.contains j=false):
  aW E all o s rd ((d,.sl rows')::[(2000+j,.any)]) al:=by
 subst hn hr;refine⟨?_,h.2⟩;intro U c a w hb hr hal next Q hnx
 refine h.1 U c a w hb hr hal next Q fun c' a' w' hb' hext hwr hfr=>?_
 obtain⟨c2,q1,q2,q3,q4⟩:=hb'.yT hd (hwr (d,.own j rows.length) F) (hwr (2000+j,.arr sz rows) F) (nQ hk9);refine hnx c2 a' w' q1 (hext.trans q2) ?_ ?_
 ·intro p hp;simp only[ed,ml,or_false]at hp;rcases hp with rfl|rfl
  ·exact q3
  unfold Holds;grind
 simp_all
end
end Go.Ab
namespace Go.Ab
open Go.RowKit
inductive Pl where
 |s (l:ba)
 |i (n:Int)
def Pl.v:Pl->Value
 |.s l=>.string ⟨l.toArray⟩
 |.i n=>.int .i64 n
def Pl.x:Pl->X
 |.s l=>.str l
 |.i n=>.int .i64 n
def Pl.is(P:Program)(T:Nat):Pl->Prop
 |.s _=>P.underlying T=some .string
 |.i _=>P.underlying T=some (.int .i64)
def Pl.same:Pl->Pl->Bool
 |.s _,.s _=>true
 |.i _,.i _=>true
 |_,_=>false
def Pl.eq:Pl->Pl->Bool
 |.s a,.s b=>decide (a=b)
 |.i a,.i b=>decide (a=b)
 |_,_=>false
def Vs:List Pl->List Pl->Bool
 |[],[]=>true
 |a::xs0,b::ys0=>a.same b&&Vs xs0 ys0
 |_,_=>false
theorem Pl.OH:∀{a b:Pl},a.same b=true->(fun x=>a.same x)=fun x=>b.same x
 |.s _,.s _,_=>by funext x;cases x<;>rfl
 |.i _,.i _,_=>by funext x;cases x<;>rfl
 |.s _,.i _,h=>by cases h
 |.i _,.s _,h=>by cases h
def Yr:∀{xs ys:List Pl},Vs xs ys=true->xs.map (fun k=>k.same)=ys.map (fun k=>k.same)
 |[],[],_=>rfl
 |a::xs0,b::ys0,h=>by
  simp only[Vs,Zw]at h;rw[fw,fw,Yr h.2];grind [Pl.OH]
 |[],_::_,h=>by cases h
 |_::_,[],h=>by cases h
def Ap:List Pl->List Pl->Bool
 |[],[]=>true
 |a::xs0,b::ys0=>a.eq b&&Ap xs0 ys0
 |_,_=>false
def uk(P:Program):Nat->List Field->List Pl->Prop
 |_,[],[]=>True
 | o, f :: fs, p :: ps => (f.name == "_") = false /\ f.offset = o /\ p.is P f.type /\ (∀ w, (isAgg f.type).run P w = .ok false w) /\ uk P (o + 1) fs ps
 |_,_,_=>False
def Pl.EC{P:Program}{T:Nat}:∀{a b:Pl},a.is P T->a.same b=true->b.is P T
 |.s _,.s _,h,_=>h
 |.i _,.i _,h,_=>h
 |.s _,.i _,_,h=>by cases h
 |.i _,.s _,_,h=>by cases h
def qA{P:Program}{T d:Nat}{a b:Pl}(w:World)(ha:a.is P T)(hb:b.is P T):(Op.equalIn (d+1) T a.v b.v).run P w=.ok (a.eq b) w:=by
 cases a with
 |s a=>
  cases b with
  |s b=>
   grind [Pl.v,Pl.eq,Pl.is,run_equalIn_string,ByteArray.toList_eq]
  |i b=>simp_all[Pl.is]
 |i a=>
  cases b with
  |s b=>simp_all[Pl.is]
  |i b=>
   simp only[Pl.v,Pl.eq];rw[run_equalIn_int w d T .i64 .i64 a b ha];rfl
def oM{P:Program}{d:Nat}(w:World):∀(fs:List Field)(xs ys:List Pl)(px py:List Value),uk P px.length fs xs->uk P px.length fs ys->px.length=py.length->
  (Op.eqFields (d+1) (px++xs.map Pl.v).toArray (py++ys.map Pl.v).toArray fs).run P w=.ok (Ap xs ys) w
 |[],[],[],_,_,_,_,_=>by rfl
 |f::fs,x::xs,y::ys,px,py,hx,hy,hl=>by
  obtain⟨h1,h2,h3,h4,h5⟩:=hx;obtain⟨_,_,g3,_,g5⟩:=hy;have part_at:∀(pz:List Value)(z:Pl)(zs:List Pl),pz.length=px.length->(part f.type (pz++(z::zs).map Pl.v).toArray f.offset).run P w=.ok z.v w:=by
   simp_all[part]
  have h1' : (f.name != "_") = true := by simp_all
  simp only[Op.eqFields];rw[Zn (by grind)];simp only[Sem.run_bind,part_at px x xs rfl,part_at py y ys hl.symm,Result.andThen_ok];rw[qA w h3 g3];simp only[Result.andThen_ok];have ih:=oM (d:=d) w fs xs ys (px++[x.v]) (py++[y.v]) (by rw[Zs];exact h5) (by simp_all) (by simp[hl]);rw[lO,lO,no,no]at ih;cases he:x.eq y with
  |true=>simp_all[Ap]
  |false=>simp[Ap,he]
 |[],_::_,_,_,_,h,_,_=>h.elim
 |[],[],_::_,_,_,_,h,_=>h.elim
 |_::_,[],_,_,_,h,_,_=>h.elim
 |_::_,_::_,[],_,_,_,h,_=>h.elim
structure IA(P:Program)(t:Nat)(ks:List Pl):Prop where
 guard:P.eqGuardType P.depth t=false
 mD:P.underlying t=some (.struct (P.fieldsOf t))
 held:P.stoodInHeld t=false
 fs:uk P 0 (P.fieldsOf t).toList ks
def IA.of{P:Program}{t:Nat}{ks:List Pl}{fs:Array Field}(hg:P.eqGuardType P.depth t=false)(hu:P.underlying t=some (.struct fs))(hp:P.stoodInHeld t=false)(hf:uk P 0 fs.toList ks):IA P t ks:=by
 have hfo:P.fieldsOf t=fs:=by grind [Program.fieldsOf]
 exact⟨hg,by simp_all,hp,by simp_all⟩
def uk.same{P:Program}:∀{o:Nat}{fs:List Field}{ks xs:List Pl},uk P o fs ks->ks.map (fun k=>k.same)=xs.map (fun k=>k.same)->uk P o fs xs
 |_,[],[],[],_,_=>trivial
 |_,f::fs,k::ks,x::xs,⟨h1,h2,h3,h4,h5⟩,h=>by
  simp only[fw,na]at h;refine⟨h1,h2,Pl.EC h3 ?_,h4,uk.same h5 h.2⟩;rw[h.1];cases x<;>rfl
 |_,[],[],_::_,_,h=>by simp at h
 |_,_::_,_::_,[],_,h=>by simp at h
 |_,[],_::_,_,h,_=>h.elim
 |_,_::_,[],_,h,_=>h.elim
def IA.run{P:Program}{t:Nat}{ks xs ys:List Pl}(he:IA P t ks)(hx:ks.map (fun k=>k.same)=xs.map (fun k=>k.same))(hy:ks.map (fun k=>k.same)=ys.map (fun k=>k.same))(w:World):
  (Op.equalIn 10000 t (.agg (xs.map Pl.v).toArray) (.agg (ys.map Pl.v).toArray)).run P w=.ok (Ap xs ys) w:=by
 rw[run_equalIn_struct w 9999 t _ _ he.mD he.held];exact oM (d:=9998) w _ xs ys [] [] (he.fs.same hx) (he.fs.same hy) rfl
def S1{c:Ctx}{xs:List Pl}{v:Value}(h:bK c (.agg (xs.map Pl.x)) v):v=.agg (xs.map Pl.v).toArray:=by
 obtain⟨vs,rfl,h⟩:=h;have:∀{xs:List Pl}{vs:List Value},ah (aV c) (xs.map Pl.x) vs->vs=xs.map Pl.v:=by
  intro xs
  induction xs with
  |nil=>intro vs h;exact(ah.bJ h)▸rfl
  |cons z zs ih=>
   intro vs h;obtain⟨v,vs',rfl,h1,h2⟩:=h.bD;rw[fw,ih h2];cases z with
   |s l=>cases h1;rfl
   |i n=>cases h1;rfl
 rw[this h]
section
variable{E:Env}{all:Array Oper}{s r r1 r2 r3 rg:St}{d ty:Nat}{pos:String}{after:Array Edge}{guard:Option (Nat×Bool)}{x y z:Operand}
def S.Mp{t t2:Nat}{us vs:bi}{b:Bool}(ks xs ys:List Pl)(he:IA E.P t ks)(hg:Gd all s guard rg)(hd:cP E d=true)(hx:bI s x (.agg us) r1)(hy:bI s y (.agg vs) r2)(hxs:us=xs.map Pl.x)(hys:vs=ys.map Pl.x)
  (h1:Vs ks xs=true) (h2:Vs ks ys=true) (hb:Ap xs ys=b):aW E all ⟨some d,.binOp .eql t x y t2,ty,pos,after,guard⟩ s (rg++(r1++r2)) [(d,.bool b)] []:=
 aW.val hg hd rfl (hx.looks.app hy.looks) fun c A w _ hr=>by
  subst hxs;subst hys;subst hb;have e1:=S1 (hx.rep (c:=c) (a:=A) (w:=w) fun p hp=>hr p (by simp[hp]));have e2:=S1 (hy.rep (c:=c) (a:=A) (w:=w) fun p hp=>hr p (by simp[hp]));refine⟨_,?_,ay.ef (.bool _)⟩;have hq:(eqGuard .eql t x y (.agg (xs.map Pl.v).toArray) (.agg (ys.map Pl.v).toArray)).run E.P w=.ok () w:=by simp[eqGuard,he.guard]
  simp only[execOp,e1,e2,Sem.run_bind,hq,Result.andThen_ok,run_eql_struct,he.run (Yr h1) (Yr h2) w];rfl
def S.pneq{t t2:Nat}{us vs:bi}{b:Bool}(ks xs ys:List Pl)(he:IA E.P t ks)(hg:Gd all s guard rg)(hd:cP E d=true)(hx:bI s x (.agg us) r1)(hy:bI s y (.agg vs) r2)(hxs:us=xs.map Pl.x)(hys:vs=ys.map Pl.x)
  (h1:Vs ks xs=true) (h2:Vs ks ys=true) (hb:(!Ap xs ys)=b):aW E all ⟨some d,.binOp .neq t x y t2,ty,pos,after,guard⟩ s (rg++(r1++r2)) [(d,.bool b)] []:=
 aW.val hg hd rfl (hx.looks.app hy.looks) fun c A w _ hr=>by
  subst hxs;subst hys;subst hb;have e1:=S1 (hx.rep (c:=c) (a:=A) (w:=w) fun p hp=>hr p (by simp[hp]));have e2:=S1 (hy.rep (c:=c) (a:=A) (w:=w) fun p hp=>hr p (by simp[hp]));refine⟨_,?_,ay.ef (.bool _)⟩;have hq:(eqGuard .neq t x y (.agg (xs.map Pl.v).toArray) (.agg (ys.map Pl.v).toArray)).run E.P w=.ok () w:=by simp[eqGuard,he.guard]
  simp only[execOp,e1,e2,Sem.run_bind,hq,Result.andThen_ok,run_neq_struct,he.run (Yr h1) (Yr h2) w];rfl
end
end Go.Ab
namespace Go.Ab
open Go.RowKit
def Cg(b:Nat):Value:=.pointer (some ⟨b,0,none⟩)
def um(B:Nat)(h:Mem)(w:World)(b:Nat)(cells:bi):Prop:=B<=b/\(∀o,h ⟨b,o,none⟩=none)/\∃T vs,w.heap[b]?=some (.cells vs T (0,0))/\ah (ay h) cells vs.toList
def Ht(P:Program)(f:Nat)(args:bi)(g:Nat)(bxs:List bi):Prop:=
 ∀(h:Mem)(w:World)(vs:List Value),(∀p v,h p=some v->w.cell? p=some v)->ah (bt (aD h)) args vs->
  Calls P f vs.toArray w fun en w'=>∃bs h',en=.returned (.func (.func g) #[] (bs.map Cg).toArray)/\Below w.heap.size w w'/\Mem.le h h'/\(∀p v,h' p=some v->h p=some v\/w.heap.size<=p.block)/\(∀p v,h' p=some v->w'.cell? p=some v)/\
   bs.Pairwise (· ≠ ·)/\ah (um w.heap.size h' w') bs bxs
def F9(fs:bc)(p:Nat×bi):Bool:=p.2.all yG&&Nat.blt p.1 1000&&!fs.contains p.1
def Hu(E:Env)(t g:Nat)(kb:List (Nat×bi)):bo:=fun e _ s=>(e=.ret\/e=.normal)/\
 look s t=some (.fn g (kb.map fun p=>.ptr p.1 0))/\Nat.blt t 1000=true/\Looks s (qB kb)/\kb.all (F9 E.fs)=true
def s4{fs:List Nat}{c:Ctx}{a:Act}{w:World}:∀{kb:List (Nat×List X)}{vs:List Value},ah (cq c) (kb.map fun p=>X.ptr p.1 0) vs→(∀p∈kb,Holds c a w (1000+p.1) (.box p.2))→kb.all (F9 fs)=true→
  ∃bs:bc,vs=bs.map Cg/\ah (fun b (p:Nat×bi)=>c.loc p.1=some b/\∃T cs,w.heap[b]?=some (.cells cs T (0,0))/\ah (ay c.h) p.2 cs.toList) bs kb
 |[],[],_,_,_=>⟨[],rfl,Zo⟩
 |p::kb,v::vs,h,hb,hk=>by
  obtain⟨h1,h2⟩:=h;simp only[ee,Zw]at hk;obtain⟨bs,e1,e2⟩:=s4 h2 (fun q hq=>hb q (dg _ hq)) hk.2;obtain⟨b,l1,l2⟩:=h1;have hk1:=hk.1;simp only[F9,Zw,db]at hk1;obtain⟨b',T,cs,f1,f2,f3⟩:=fD (hb p dp) hk1.1.2;rw[l1]at f1;cases f1;exact⟨b::bs,by rw[e1,l2];rfl,⟨l1,T,cs,f2,lF f3 hk1.1.1⟩,e2⟩
 |[],_::_,h,_,_=>h.elim
 |_::_,[],h,_,_=>h.elim
def ah.mem_left{α β:Type}{R:α->β->Prop}:∀{xs0:List α}{ys0:List β},ah R xs0 ys0->∀{a:α},a∈xs0->∃b∈ys0,R a b
 |[],[],_,a,ha=>by cases ha
 |x::xs0,y::ys0,h,a,ha=>by
  rcases ed.1 ha with rfl|ha
  ·exact⟨y,dp,h.1⟩
  obtain⟨b,hb,hr⟩:=ah.mem_left h.2 ha;grind
 |[],_::_,h,_,_=>h.elim
 |_::_,[],h,_,_=>h.elim
def Ht.intro{P:Program}{f nt t g:Nat}{fn:Func}{code:Code}{args:bi}{kb:List (Nat×bi)}(hf:P.funcs[f]?=some fn)(hb:fn.body=some code)(hn:fn.ntmps=nt)(hr:fn.results= #[.tmp t])
  (hl:Nat.ble args.length nt=true) (ht:args.all (fun x=>!cO x)=true) (hl2:Nat.ble args.length 1000=true) (hd:(kb.map (·.1)).Pairwise (· ≠ ·))
  (h:∀w c,OK (jK P nt [] w c) code (den (jK P nt [] w c) (Hu (jK P nt [] w c) t g kb) []) [] (hU 0 args)):Ht P f args g (kb.map (·.2)):=by
 intro h0 w vs hw hargs;refine(callsIn_wide (n:=0)).1 (callsIn_of_wp_marks hf hb trivial ?_ rfl);have hlen:=hargs.length;rw[ii]at hl hl2;have hno:∀b,¬(aD h0).out [] b:=by
  rintro b (hy|⟨k,_,e⟩|⟨k,m,hv,_,e,_⟩)
  all_goals simp_all
 refine wpIn_mono (h w (aD h0) {tmps:=vs.toArray++Array.replicate (fn.ntmps - vs.toArray.size) undef,defers:=[]} w ?_) ?_
 ·refine⟨aD h0,⟨da.refl _ _ _,Zq _,?_,⟨.nil,fun d hd=>by cases hd⟩,(fun p hp=>by cases hp),hw,Mem.le_refl _,fun p v e=>.inl e,(fun k b e=>by cases e),(fun k m hv b e=>by cases e),(fun _ _=>⟨rfl,rfl⟩),(fun b e=>e.elim),(fun k b _ e=>by cases e),(fun k m hv lv _ e=>by cases e)⟩,fun key x hx=>gl hargs ht hl2 key x hx⟩;simp_all
 rintro e a' w' ⟨U',s',⟨c,hbase,hh⟩,he,l1,l2,l3,l4⟩
 have post:LeavesInM Fence.wide 0 P fn a'.tmps (fun en w'=>∃bs h',en=.returned (.func (.func g) #[] (bs.map Cg).toArray)∧Below w.heap.size w w'∧Mem.le h0 h'∧(∀p v,h' p=some v→h0 p=some v∨w.heap.size≤p.block)∧(∀p v,h' p=some v→w'.cell? p=some v)∧
   bs.Pairwise (· ≠ ·)/\ah (um w.heap.size h' w') bs (kb.map (·.2))) a'.defers .returning w':=by
  refine eF (B:=w.heap.size) (aw:=c.all) a'.defers w' hbase.iP.1 ?_ ?_
  ·intro d hd;obtain⟨D,h1,h2,h3,h4⟩:=hbase.iP.2 d hd;exact⟨D,h1,h2,h3,h4⟩
  intro w2 e1 e2 e3 e4 e5 e6;obtain⟨hbase,hh⟩:=hbase.calm hh e1 e2 e3 e4 rfl e5 e6;obtain⟨vs1,hev,hcap⟩:bK c (.fn g (kb.map fun p=>.ptr p.1 0)) (a'.tmps.getD t undef):=by
   have:=hh t _ l1;simp_all[Holds]
  obtain⟨bs,rfl,hbs⟩:=s4 (fs:=[]) hcap (fun p hp=>hh _ _ (l3.all (1000+p.1,.box p.2) (eI.2 ⟨p,hp,rfl⟩))) l4;have hrun:(results fn a'.tmps).run P w2=.ok (a'.tmps.getD t undef) w2:=by
   simp_all[results]
  refine⟨_,hrun,bs,c.h,by rw[hev],(hbase.below.mono (Zq _) fun k _ hk=>?_).below,hbase.hle,fun p v hp=>(hbase.hnew p v hp).imp id fun q=>q.elim id fun q=>q.elim (fun q=>(hno _ q).elim) fun⟨_,q,_⟩=>(by cases q),hbase.hw,?_,?_⟩
  ·rcases hk with hk|⟨p,hp,_⟩
   all_goals simp_all
  ·have:∀{bs:bc}{kb:List (Nat×bi)},ah (fun b (p:Nat×bi)=>c.loc p.1=some b/\∃T cs,w2.heap[b]?=some (.cells cs T (0,0))/\ah (ay c.h) p.2 cs.toList) bs kb->(kb.map (·.1)).Pairwise (· ≠ ·)->bs.Pairwise (· ≠ ·):=by
    intro bs
    induction bs with
    |nil=>simp
    |cons b bs ih=>
     intro kb h hd;cases kb with
     |nil=>exact h.elim
     |cons p kb=>
      rw[fw,pm]at hd;refine pm.2 ⟨fun b' hb' e=>?_,ih h.2 hd.2⟩;obtain⟨q,hq,hq2,_⟩:=ah.mem_left h.2 hb';subst e;exact hd.1 q.1 (eI.2 ⟨q,hq,rfl⟩) ((hbase.loc q.1 b hq2).2.2.2.1 p.1 h.1.1)
   grind
  have:∀{bs:bc}{kb:List (Nat×bi)},ah (fun b (p:Nat×bi)=>c.loc p.1=some b/\∃T cs,w2.heap[b]?=some (.cells cs T (0,0))/\ah (ay c.h) p.2 cs.toList) bs kb->ah (um w.heap.size c.h w2) bs (kb.map (·.2)):=by
   intro bs
   induction bs with
   |nil=>intro kb h;cases kb with|nil=>trivial|cons _ _=>exact h.elim
   |cons b bs ih=>
    intro kb h;cases kb with
    |nil=>exact h.elim
    |cons p kb=>
     obtain⟨⟨f1,T,cs,f2,f3⟩,f4⟩:=h;obtain⟨q1,_,q3,_⟩:=hbase.loc p.1 b f1;exact⟨⟨Env.gN q1 F,q3,T,cs,f2,f3⟩,ih f4⟩
  grind
 rcases he with rfl|rfl
 ·exact post
 exact post
def aM.Ga{E:Env}{U:bc}{c:Ctx}{a:Act}{w:World}(hb:aM E U c a w){k b0:Nat}(hk9:k∉E.fs)(hk:k∉U)
  (hv:E.B<=b0/\b0<w.heap.size/\(∀o,c.h ⟨b0,o,none⟩=none)/\¬c.all b0/\∃o:Obj,w.heap[b0]?=some o/\o.isCells=true):
  aM E ([k]++U) (c.box k b0) a w/\Ext c (c.box k b0)/\(c.box k b0).loc k=some b0/\∀key y,¬key<1000->Holds c a w key y->Holds (c.box k b0) a w key y:=by
 obtain⟨v1,v2,v3,v4,v5⟩:=hv;have hn:=(hb.used k hk).1;have hold:∀j b,c.loc j=some b->(c.box k b0).loc j=some b:=by
  grind [Ctx.box]
 have hext:Ext c (c.box k b0):=⟨Mem.le_refl _,hold,fun _ m hv lv e=>⟨m,hv,lv,e,Zq _,fun _=>rfl⟩⟩;have hnew:∀j b,(c.box k b0).loc j=some b->(j=k/\b=b0)\/(j≠k/\c.loc j=some b):=by
  grind [Ctx.box]
 have hall:∀b,(c.box k b0).all b->c.all b\/b=b0:=by
  intro b h;rcases h with h|⟨j,h⟩|h
  ·exact .inl (.inl h)
  ·rcases hnew j b h with⟨_,rfl⟩|⟨_,h⟩
   ·omega
   exact .inl (.inr (.inl ⟨j,h⟩))
  exact .inl (.inr (.inr h))
 have hnc:∀(D:Nat)(o:Obj),w.heap[D]?=some o->o.isCells=false->D≠b0:=by
  grind
 have hlo:∀j,j∈E.fs->(c.box k b0).loc j=c.loc j:=fun j hj=>by simp only[Ctx.box];grind
 refine⟨⟨hb.below,hb.hB,hb.nt,⟨hb.iP.1,fun d hd=>?_⟩,fun p hp=>?_,hb.hw,hb.hle,hb.hnew,?_,?_,?_,?_,fun j b hj e=>hb.fB j b hj (hlo j hj▸e),hb.fQ⟩,hext,by simp[Ctx.box],?_⟩
 ·obtain⟨D,h1,h2,h3,h4⟩:=hb.iP.2 d hd;exact⟨D,h1,h2,fun e=>(hall D e).elim h3 (hnc D _ h4 rfl),h4⟩
 ·obtain⟨h1,h2,h3⟩:=hb.nS p hp;grind
 ·intro j b hj;rcases hnew j b hj with⟨rfl,rfl⟩|⟨hne,hj2⟩
  ·refine⟨.inl v1,v2,v3,fun k' hk'=>?_,fun k' m u hk' e=>v4 (.inr (.inr ⟨k',m,u,hk',e⟩))⟩;rcases hnew k' _ hk' with⟨rfl,_⟩|⟨_,hk'⟩
   ·rfl
   exact absurd (.inr (.inl ⟨k',hk'⟩)) v4
  obtain⟨h1,h2,h3,h4,h5⟩:=hb.loc j b hj2;refine⟨h1,h2,h3,fun k' hk'=>?_,h5⟩;grind [Ctx.all]
 ·intro j m u b hj hbk;obtain⟨h1,h2,h3,h4⟩:=hb.arr j m u b hj hbk;exact⟨h1,h2,h3,h4⟩
 ·intro j hj;simp only[List.mem_append,df,FS]at hj;refine⟨?_,(hb.used j hj.2).2⟩;simp only[Ctx.box];rw[Zm hj.1];exact(hb.used j hj.2).1
 ·intro b hy;obtain⟨h1,h2,h3,h4⟩:=hb.Y b hy;refine⟨h1,h2,fun j hj=>?_,h4⟩;rcases hnew j b hj with⟨rfl,rfl⟩|⟨_,hj2⟩
  ·exact v4 (.inl hy)
  simp_all
 intro key y hkey hy;unfold Holds at hy⊢;rw[Zm hkey]at hy⊢;refine cD hy fun hy=>?_
 split at hy
 ·rename_i h2;rw[Zn h2];obtain⟨b,o,h1,h3,h4⟩:=hy;exact⟨b,o,hold _ _ h1,h3,h4.mono hext⟩
 rename_i h2;rw[Zm h2];split at hy
 ·rename_i h6;rw[Zn h6];obtain⟨sz,rows,hv2,e,vs,hx,h1,h3,h4⟩:=hy;exact⟨sz,rows,hv2,e,vs,hx.mono hext,h1,h3,h4⟩
 rename_i h6;rw[Zm h6];obtain⟨f1,J,f2,f3,f4⟩:=hy;exact⟨f1,J,f2.mono hold,f3,f4⟩
def aM.vZ{E:Env}:∀(ks:List Nat){U:List Nat}{c:Ctx}{a:Act}{w:World}(_:aM E U c a w){bs:List Nat}{bxs:List (List X)},(∀k∈ks,k∉E.fs∧k∉U∧k<1000)→ks.Pairwise (· ≠ ·)→ks.length=bs.length→bs.Pairwise (· ≠ ·)→(∀b∈bs,¬c.all b)→ah (um E.B c.h w) bs bxs→
  ∃c',aM E (ks.reverse++U) c' a w/\Ext c c'/\c'.h=c.h/\ah (cq c') (ks.map fun k=>X.ptr k 0) (bs.map Cg)/\(∀p∈qB (ks.zip bxs),Holds c' a w p.1 p.2)/\∀key y,¬key<1000->Holds c a w key y->Holds c' a w key y
 |[],U,c,a,w,hb,[],[],_,_,_,_,_,_=>⟨c,hb,Ext.refl c,rfl,Zo,(fun p hp=>by cases hp),fun _ _ _ h=>h⟩
 |k::ks,U,c,a,w,hb,b::bs,x::bxs,hks,hkp,hl,hp,hna,hx=>by
  obtain⟨⟨n1,n2,T,vs,n3,n4⟩,hx2⟩:=hx;obtain⟨hkf,hku,hk1⟩:=hks k dp;rw[pm]at hp hkp;obtain⟨g1,g2,g3,g4⟩:=hb.Ga (k:=k) (b0:=b) hkf hku ⟨n1,(dt.1 n3).1,n2,hna b dp,_,n3,rfl⟩;obtain⟨c',r1,r2,r3,r4,r5,r6⟩:=aM.vZ ks g1 (bs:=bs) (bxs:=bxs) (fun j hj=>⟨(hks j (dg _ hj)).1,by
   grind,(hks j (dg _ hj)).2.2⟩) hkp.2 (by grind) hp.2 (fun b' hb' hall=>by
    have h1:=hna b' (dg _ hb');have h2:=hp.1 b' hb';rcases hall with h|⟨j,h⟩|h
    ·exact h1 (.inl h)
    ·simp only[Ctx.box]at h;split at h
     ·simp_all
     exact h1 (.inr (.inl ⟨j,h⟩))
    exact h1 (.inr (.inr h))) hx2
  have hk0:c'.loc k=some b:=r2.loc k b g3;refine⟨c',?_,g2.trans r2,r3,⟨⟨b,hk0,rfl⟩,r4⟩,fun p hp2=>?_,fun key y hkey hy=>r6 key y hkey (g4 key y hkey hy)⟩
  ·simp_all
  simp only[qB,List.zip_cons_cons,fw]at hp2;rcases ed.1 hp2 with rfl|hp2
  ·refine(Holds.sD (T:=T) (vs:=vs) hk1 hk0 n3 (n4.mono fun u v h=>?_)).2;exact ay.Aa (c:=c') (h.mono (by rw[r3];exact Mem.le_refl _))
  exact r5 p hp2
 |[],_,_,_,_,_,_::_,_,_,_,hl,_,_,_=>by simp at hl
 |_::_,_,_,_,_,_,[],_,_,_,hl,_,_,_=>by simp at hl
 |_::_,_,_,_,_,_,_::_,[],_,_,_,_,_,hx=>hx.elim
 |[],_,_,_,_,_,[],_::_,_,_,_,_,_,hx=>hx.elim
section
variable{E:Env}{all:Array Oper}{s r r1 r2 r3 rg:St}{d ty:Nat}{pos:String}{after:Array Edge}{guard:Option (Nat×Bool)}{x y z:Operand}
def S.Hv{f g:Nat}{os:List Operand}{at_:Array TypeId}{ys:bi}{bxs:List bi}(ks:bc)(hf:Ht E.P f ys g bxs)(hcall:∀args w,(callFunc f args).run E.P w=.ok (.enter f args) w)(hg:Gd all s guard rg)(hd:cP E d=true)
  (ha:fE s os ys r) (ho:ys.all fm=true) (hlk:ks.length=bxs.length:=by rfl) (hk9:ks.all (fun k=>!E.fs.contains k&&Nat.blt k 1000)=true:=by rfl) (hkd:ks.Pairwise (· ≠ ·):=by decide):
  aW E all ⟨some d,.call {callee:=.value (.func f),args:=os.toArray,argTypes:=at_},ty,pos,after,guard⟩ s (rg++r) ((d,.fn g (ks.map fun k=>.ptr k 0))::qB (ks.zip bxs)) ks.reverse:=by
 simp only[Zw,db]at hd;refine⟨?_,hg.looks.app ha.looks⟩;intro U c a w hb hr hal next Q hnx
 have hw:=hg.wanted (o:=⟨some d,.call {callee:=.value (.func f),args:=os.toArray,argTypes:=at_},ty,pos,after,guard⟩) (fun p hp=>hr p (dv _ hp));have hargs:=bY (ha.rep (c:=c) (a:=a) (w:=w) fun p hp=>hr p (fv _ hp)) ho;unfold gh;rw[Zn hw];refine⟨fun _ _=>trivial,?_⟩;rw[Oper.semAt_eq _ _ _ fun cl he=>by cases he];have hfo:a.eval (.func f)=.func (.func f) #[] #[]:=rfl;have hrun:(execOp a.eval ⟨some d,.call {callee:=.value (.func f),args:=os.toArray,argTypes:=at_},ty,pos,after,guard⟩).run E.P w=.ok (.enter f (os.map a.eval).toArray) w:=by
  simp_all[execOp,resolve,Deferred.ofValue,invoke]
 rw[hrun];refine⟨Z,?_⟩;have h1:CallsIn E.ac (0 - 1) E.P f (os.map a.eval).toArray w _:=(callsIn_wide (n:=0)).2 (hf c.h w _ hb.hw hargs);refine h1.mono ?_;rintro en w' ⟨bs,h',rfl,hB,hle,hnew,hw',hbp,hbx⟩;have hb1:=hb.below_grow hB hle hnew hw';have hext1:Ext c ⟨h',c.loc,c.arr,c.Y⟩:=⟨hle,fun _ _ e=>e,fun _ m hv lv e=>⟨m,hv,lv,e,Zq _,fun _=>rfl⟩⟩;have hkf:∀k∈ks,k∉E.fs/\k<1000:=fun k hk=>by
  simp_all
 obtain⟨c',r1,r2,r3,r4,r5,r6⟩:=aM.vZ ks hb1 (bs:=bs) (bxs:=bxs) (fun k hk=>⟨(hkf k hk).1,hal k (by grind),(hkf k hk).2⟩) hkd (by rw[hlk,hbx.length]) hbp (fun b hb' hall=>by
  obtain⟨q,_,f1,_,_⟩:=ah.mem_left hbx hb';rcases hall with hy|⟨j,hj⟩|⟨j,m,hv,hj,hjb⟩
  ·have:=(hb.Y b hy).1;omega
  ·have:=(hb.loc j b hj).2.1;omega
  have:=(hb.arr j m hv b hj hjb).2.1;omega) (hbx.mono fun b cells h=>⟨gc hb.hB h.1,h.2⟩)
 have hdt:d<a.tmps.size:=by rw[hb.nt];exact hd.2
 refine hnx c' _ w' (r1.put _ _) (hext1.trans r2) ?_ ?_
 ·intro p hp;rcases ed.1 hp with rfl|hp
  ·unfold Holds;rw[Zn hd.1,cE hdt];exact⟨bs.map Cg,rfl,r4⟩
  have h5:=r5 p hp;obtain⟨q,_,rfl⟩:=eI.1 hp;exact h5.put I _
 intro key u hk hu;have hne:d≠key:=hk (d,.fn g (ks.map fun k=>.ptr k 0)) F;by_cases h1:key<1000
 ·refine Holds.put ?_ hne _;unfold Holds at hu⊢;rw[Zn h1]at hu⊢;exact hu.mono (hext1.trans r2)
 exact(r6 key u h1 (Holds.below hb hB hext1 (fun _ _ _ e=>e) rfl hnew hw' h1 hu)).put hne _
end
end Go.Ab
namespace Go.Ab
open Go.RowKit
def nq(l:ba)(lo hi:Nat):(⟨l.toArray⟩:ByteArray).extract lo hi=⟨((l.take hi).drop lo).toArray⟩:=by
 apply ByteArray.ext;rw[ByteArray.data_extract];grind
section
variable{E:Env}{all:Array Oper}{s r r1 r2 r3 rg:St}{d ty:Nat}{pos:String}{after:Array Edge}{guard:Option (Nat×Bool)}{x y z:Operand}
def S.ir{t lo hi:Nat}{l l':ba}{il ih:Option Operand}(ht:F4 E.P t)(hg:Gd all s guard rg)(hd:cP E d=true)(hx:bI s x (.str l) r1)
  (h1:(il=none/\lo=0/\r2=[])\/∃o i,il=some o/\bI s o (.int .i64 i) r2/\i=lo) (h2:(ih=none/\hi=l.length/\r3=[])\/∃o i,ih=some o/\bI s o (.int .i64 i) r3/\i=hi) (hle:lo<=hi) (hle2:hi<=l.length) (hl':(l.take hi).drop lo=l'):
  aW E all ⟨some d,.slice t x il ih none,ty,pos,after,guard⟩ s (rg++(r1++(r2++r3))) [(d,.str l')] []:=by
 have k1:Looks s r2:=by rcases h1 with⟨_,_,rfl⟩|⟨_,_,_,h,_⟩;trivial;exact h.looks
 have k2:Looks s r3:=by rcases h2 with⟨_,_,rfl⟩|⟨_,_,_,h,_⟩;trivial;exact h.looks
 subst hl';refine aW.val hg hd rfl (hx.looks.app (k1.app k2)) fun c A w hh hr=>?_
 obtain⟨hv,hm⟩:=fS (hx.rep (c:=c) (a:=A) (w:=w) fun p hp=>hr p (by simp[hp]));have hsz:(⟨l.toArray⟩:ByteArray).size=l.length:=by rfl
 have hs:ay c.h (.str ((l.take hi).drop lo)) (.string ((⟨l.toArray⟩:ByteArray).extract lo hi)):=by
  rw[nq];exact .str _ (by grind)
 refine⟨_,?_,ay.ef hs⟩;have kl:∀o i,bI s o (.int .i64 i) r2->A.eval o=.int .i64 i:=fun o i h=>(cJ (h.rep (c:=c) (a:=A) (w:=w) fun p hp=>hr p (by simp[hp]))).1
 have kh:∀o i,bI s o (.int .i64 i) r3->A.eval o=.int .i64 i:=fun o i h=>(cJ (h.rep (c:=c) (a:=A) (w:=w) fun p hp=>hr p (by simp[hp]))).1
 rcases h1 with⟨rfl,rfl,rfl⟩|⟨ol,il,rfl,e1,rfl⟩<;>rcases h2 with⟨rfl,rfl,rfl⟩|⟨oh,ih,rfl,e2,rfl⟩
 ·have h9:=nq l 0 l.length;rw[fp,GT]at h9;simp[execOp,hv,Instr.sliceAt,Instr.slice,run_underlying ht.mD,Instr.sliceBounds,h9]
 ·simp[execOp,hv,kh _ _ e2,Instr.sliceAt,Instr.slice,run_underlying ht.mD,Instr.sliceBounds,Instr.sliceBound,asIntOf,hsz,hle2]
 ·have hlo2:lo<=l.length:=hle;simp[execOp,hv,kl _ _ e1,Instr.sliceAt,Instr.slice,run_underlying ht.mD,Instr.sliceBounds,Instr.sliceBound,asIntOf,hsz,hlo2]
 simp[execOp,hv,kl _ _ e1,kh _ _ e2,Instr.sliceAt,Instr.slice,run_underlying ht.mD,Instr.sliceBounds,Instr.sliceBound,asIntOf,hsz,hle,hle2]
def Cq(P:Program)(f:Nat)(ac:ba->UInt8->Int):Prop:=∀(s:ByteArray)(c:Int)(w:World),(callFunc f #[.string s,.int .u8 c]).run P w=.ok (.value (.int .i64 (ac s.data.toList c.toNat.toUInt8))) w
def S.FB{f:Nat}{ac:ba->UInt8->Int}{at_:Array TypeId}{l:ba}{c:Int}{n:Int}(hf:Cq E.P f ac)(hg:Gd all s guard rg)(hd:cP E d=true)(hx:bI s x (.str l) r1)(hy:bI s y (.int .u8 c) r2)(hn:ac l c.toNat.toUInt8=n)(hw:IntKind.i64.wrap n=n):
  aW E all ⟨some d,.call {callee:=.value (.func f),args:=#[x,y],argTypes:=at_},ty,pos,after,guard⟩ s (rg++(r1++r2)) [(d,.int .i64 n)] []:=
 aW.val hg hd rfl (hx.looks.app hy.looks) fun c' A w _ hr=>by
  have h1:=(fS (hx.rep (c:=c') (a:=A) (w:=w) fun p hp=>hr p (by simp[hp]))).1;have h2:=(cJ (hy.rep (c:=c') (a:=A) (w:=w) fun p hp=>hr p (by simp[hp]))).1;refine⟨.int .i64 n,?_,ay.ef (.int hw)⟩;have hfo:A.eval (.func f)=.func (.func f) #[] #[]:=rfl;have h3:=hf ⟨l.toArray⟩ c w;rw[show(⟨l.toArray⟩:ByteArray).data.toList=l from rfl,hn]at h3;simp[execOp,resolve,hfo,h1,h2,Deferred.ofValue,invoke,h3]
def CZ(ok:Bool)(v:Value):Prop:=(ok=true/\v=.nilIface)\/(ok=false/\∃te pe,v=.iface te pe)
def S.Da{t t2:Nat}{ok:Bool}{ms:Array (String×TypeId)}(ht0:E.P.underlying t=some (.interface ms))(hg:Gd all s guard rg)(hd:cP E d=true)(hx:bI s x (.cb (CZ ok)) r):
  aW E all ⟨some d,.binOp .eql t x (.const .nilIface) t2,ty,pos,after,guard⟩ s (rg++r) [(d,.bool ok)] []:=
 aW.val hg hd rfl hx.looks fun c A w _ hr=>by
  have ht:E.P.underlying t=some (.interface (E.P.methodsAt t)):=by
   have:E.P.methodsAt t=ms:=by unfold Program.methodsAt;rw[ht0]
   rw[this];exact ht0
  have h0:CZ ok (A.eval x):=hx.rep (c:=c) (a:=A) (w:=w) hr;have hc:A.eval (.const .nilIface)=.nilIface:=rfl;refine⟨.bool ok,?_,ay.ef (.bool _)⟩;rcases h0 with⟨rfl,hv⟩|⟨rfl,te,pe,hv⟩
  ·have h1:=run_equal_nil_nil (P:=E.P) w t ht;have hq:(eqGuard .eql t x (.const .nilIface) .nilIface .nilIface).run E.P w=.ok () w:=by rw[eqGuard_nil_constR];rfl
   simp[execOp,hv,hc,hq,binOp,h1]
  have h1:=run_equal_held_nil (P:=E.P) w t te pe ht;have hq:(eqGuard .eql t x (.const .nilIface) (.iface te pe) .nilIface).run E.P w=.ok () w:=by simp[eqGuard]
  simp[execOp,hv,hc,hq,binOp,h1]
end
structure CX(P:Program)(f:Nat):Prop where
 g : ∃ g, P.globalNamed "internal/strconv.uint64pow10" = some g
 i : ∀ (n : Int) (w : World), -9223372036854775808 <= n -> n <= 9223372036854775807 -> Lib.TabIs P w "internal/strconv.uint64pow10" .u64 Lib.pow10Tab -> Calls P f #[.int .i64 n] w fun e w' => e = .returned (.string ⟨(Lib.itoa n).toArray⟩) /\ Below w.heap.size w w'
def jv.Ib {P : Program} {w : World} (h : jv P w) {g : Nat} (hg : P.globalNamed "internal/strconv.uint64pow10" = some g) : Lib.TabIs P w "internal/strconv.uint64pow10" .u64 Lib.pow10Tab := by
 obtain⟨T,d,e⟩:=h.pow g hg;simp_all[Lib.TabIs,World.var?]
def zq{n:Int}(h:IntKind.i64.wrap n=n): -9223372036854775808<=n/\n<=9223372036854775807:=by
 grind [IntKind.wrap_i64]
def CX.ct{P:Program}{f:Nat}(h:CX P f){n:Int}(hlen:(Lib.itoa n).length<=140737488355328):gz P f [.int .i64 n] (.str (Lib.itoa n)):=by
 intro m w vs ht hw ha;obtain⟨v1,vs',rfl,h1,h2⟩:=ha.bD;have:=h2.bJ;subst this;have h1':ay m (.int .i64 n) v1:=h1;cases h1' with
 |int hn=>
  obtain⟨g,hg⟩:=h.g;obtain⟨r1,r2⟩:=zq hn;refine(h.i n w r1 r2 (ht.Ib hg)).mono ?_;rintro e w' ⟨rfl,hB⟩;exact⟨_,m,rfl,hB,Mem.le_refl m,fun _ _ h=>.inl h,fun p v hp=>by rw[hB.cell (block_lt_of_cell (hw p v hp))];grind,.str _ (by unfold maxLen;omega)⟩
def bp(l:ba):Int:=match Lib.atoiAll l with
 |.ok v=>v
 |Lib.NumEnd.syntax=>0
 |.range=>Lib.atoiSat l
def gC(l:ba):Bool:=match Lib.atoiAll l with
 |.ok _=>true
 |_=>false
structure CY(P:Program)(f:Nat):Prop where
 g1 : ∃ g, P.globalNamed "strconv.ErrSyntax" = some g
 g2 : ∃ g, P.globalNamed "strconv.ErrRange" = some g
 i : ∀ (l : ba) (w : World) (es er : Nat), l.length <= 140737488355328 -> P.globalNamed "strconv.ErrSyntax" = some es -> P.globalNamed "strconv.ErrRange" = some er -> (∃ ev, w.cell? ⟨es, 0, none⟩ = some ev /\ (ev = .nilIface \/ ∃ te pe, ev = .iface te pe)) -> (∃ ev, w.cell? ⟨er, 0, none⟩ = some ev /\ (ev = .nilIface \/ ∃ te pe, ev = .iface te pe)) ->
   Calls P f #[.string ⟨l.toArray⟩] w fun e w'=>∃u,e=.returned (.tuple #[.int .i64 (bp l),u])/\CZ (gC l) u/\Below w.heap.size w w'
def CY.ct{P:Program}{f:Nat}(h:CY P f){l:ba}(hlen:l.length<=140737488355328)(hv:IntKind.i64.wrap (bp l)=bp l):gz P f [.str l] (.cf [.int .i64 (bp l),.cb (CZ (gC l))]):=by
 intro m w vs ht hw ha;obtain⟨v1,vs',rfl,h1,h2⟩:=ha.bD;have:=h2.bJ;subst this;have h1':ay m (.str l) v1:=h1;cases h1';obtain⟨g1,hg1⟩:=h.g1;obtain⟨g2,hg2⟩:=h.g2;refine(h.i l w g1 g2 hlen hg1 hg2 (ht.err _ (.inr rfl) _ hg1) (ht.err _ (.inl rfl) _ hg2)).mono ?_;rintro e w' ⟨u,rfl,hu,hB⟩;exact⟨_,m,rfl,hB,Mem.le_refl m,fun _ _ h=>.inl h,fun p v hp=>by rw[hB.cell (block_lt_of_cell (hw p v hp))];grind,_,rfl,ay.int hv,hu,Zo⟩
end Go.Ab
namespace Go.Ab
open Go.RowKit
section
variable{E:Env}{all:Array Oper}{s r r1 r2 rg:St}{d ty:Nat}{pos:String}{after:Array Edge}{guard:Option (Nat×Bool)}{x y:Operand}
def S.GI{t e m i:Nat}{j:Int}{us:bi}{u:X}(hs:E.P.underlying t=some (.array m e))(ht:eT E.P e false 1)(hg:Gd all s guard rg)(hd:cP E d=true)(hx:bI s x (.agg us) r1)(hy:bI s y (.int .i64 j) r2)(hj:j=i)(hi:i<m)
  (hu:us[i]?=some u) (hnt:mU u=false):aW E all ⟨some d,.index t x y,ty,pos,after,guard⟩ s (rg++(r1++r2)) [(d,u)] []:=
 aW.val hg hd rfl (hx.looks.app hy.looks) fun c A w hh hr=>by
  subst hj;obtain⟨vs,h1,h2⟩:=hx.rep (c:=c) (a:=A) (w:=w) fun p hp=>hr p (by simp[hp])
  obtain⟨hw,_⟩:=cJ (hy.rep (c:=c) (a:=A) (w:=w) fun p hp=>hr p (by simp[hp]));obtain⟨v,hv,hr2⟩:=h2.eD hu;refine⟨v,?_,ab.ef hr2 hnt⟩;have hlt:i<vs.length:=(dq.1 hv).1;have hget:vs[i]=v:=(dq.1 hv).2;simp only[execOp,h1,hw,Instr.index];rw[Sem.run_bind];simp[asIntOf,run_underlying hs,ht.size,part,ht.agg,hlt,hget];intro h9;omega
def S.bQ{k off:Nat}(hg:Gd all s guard rg)(hd:cP E d=true)(hx:bI s x (.ptr k off) r):
  aW E all ⟨some d,.nilCheck x,ty,pos,after,guard⟩ s (rg++r) [(d,.ptr k off)] []:=
 aW.val hg hd rfl hx.looks fun c A w hh hr=>by
  have h0:=hx.rep (c:=c) (a:=A) (w:=w) hr;obtain⟨b,h1,hv⟩:=iB h0;refine⟨A.eval x,?_,h0⟩;simp only[execOp,hv];rfl
end
section
variable{E:Env}{U:bc}{s:St}{Q:bo}{k:List Kn}
def OK.join{G:Type}(u:bc)(st:G->St)(pre:G->Prop){x y:Code}(ho:∀g,(st g).all (eP u)=true)(hx:OK E x (den E Q (.lp (fun _ s'=>∃g,pre g/\Le s' (st g))::k)) U s)(hy:∀g,pre g->OK E y (den E Q k) u (st g)):OK E (.seq x y) (den E Q k) U s:=
 OK.seq (hx.mono fun e U s hd=>by
  cases e with
  |normal=>obtain⟨g,hp,hl⟩:=hd;exact OK.weak (hy g hp) hl (ho g)
  |_=>exact hd)
end
end Go.Ab
namespace Go.Ab
open Go.RowKit
def Db(b:Bool)(v:Value):Prop:=∃ad n cap,v=.slice ad n cap/\ad.isNone=b
section
variable{E:Env}{all:Array Oper}{l:List Oper}{U:bc}{s r rg:St}{Q:bo}{d ty:Nat}{pos:String}{after:Array Edge}{guard:Option (Nat×Bool)}{x:Operand}
def RK.EA{t:Nat}{rows:List bi}(ht:Nat.blt t 1000=true)(hl:look s t=some (.sl rows))(h:∀b,(b=true->rows=[])->RK E all l U ((t,.cb (Db b))::s) Q):RK E all l U s Q:=by
 intro k hk a w hg;obtain⟨c,hb,hh⟩:=hg;have h0:=(hh t _ hl).slot ht;obtain⟨ad,cap,hv,_,_,q3⟩:=kg h0;have hnil:ad.isNone=true->rows=[]:=fun e=>by
  simp_all
 refine h ad.isNone hnil k hk a w ⟨c,hb,fun key y hy=>?_⟩;simp only[look]at hy;split at hy
 ·rename_i he;have hkt:=Nat.eq_of_beq_eq_true he;cases hy;rw[←hkt];unfold Holds;rw[db]at ht;rw[Zn ht];exact⟨ad,_,cap,hv,rfl⟩
 simp_all
def S.F8{t t2 e:Nat}{b:Bool}(ht:E.P.underlying t=some (.slice e))(hg:Gd all s guard rg)(hd:cP E d=true)(hx:bI s x (.cb (Db b)) r):
  aW E all ⟨some d,.binOp .eql t x (.const (.slice none 0 0)) t2,ty,pos,after,guard⟩ s (rg++r) [(d,.bool b)] []:=
 aW.val hg hd rfl hx.looks fun c A w _ hr=>by
  have h0:Db b (A.eval x):=hx.rep (c:=c) (a:=A) (w:=w) hr;obtain⟨ad,n,cap,hv,rfl⟩:=h0;refine⟨.bool ad.isNone,?_,ay.ef (.bool _)⟩;have hc:A.eval (.const (.slice none 0 0))=.slice none 0 0:=rfl;have hq:(eqGuard .eql t x (.const (.slice none 0 0)) (.slice ad n cap) (.slice none 0 0)).run E.P w=.ok () w:=by simp[eqGuard]
  have hr:=Lib.run_eql_slice_nil (P:=E.P) w t e ad n cap 0 0 ht;simp only[execOp,hv,hc,Sem.run_bind,hq,Result.andThen_ok,hr];cases ad<;>rfl
end
end Go.Ab
namespace Go.Ab
open Go.RowKit
structure RW where
 a:Option Addr
 cap:Nat
 n:Nat
abbrev RW.v(r:RW):Value:=.slice r.a r.n r.cap
abbrev RW.b(r:RW):Nat:=(r.a.getD ⟨0,0,none⟩).block
abbrev Dc(l:bd):List Value:=l.map (Value.int .i64)
abbrev bM(l:bd):List bi:=l.map fun n=>[X.int .i64 n]
section
variable{E:Env}{U:bc}{s:St}{code:Code}{Q:bo}
def aM.FN{c:Ctx}{a:Act}{w:World}{k n:Nat}{hv:Value}(hb:aM E U c a w)(e1:c.arr k=some (n,hv,true))(hk9:k∉E.fs):
  aM E U ⟨c.h,c.loc,fun j=>if j=k then some (n,hv,false)else c.arr j,fun b=>c.Y b\/hv.ownBlock=some b⟩ a w:=by
 have hblk:∀b,hv.ownBlock=some b->E.ok k b/\b<w.heap.size/\(∀o,c.h ⟨b,o,none⟩=none)/\(∀k' m' hv',c.arr k'=some (m',hv',true)->hv'.ownBlock=some b->k'=k):=fun b e=>hb.arr k _ _ b e1 e
 have harr:∀j m u,(if j=k then some (n,hv,false)else c.arr j)=some (m,u,true)->j≠k/\c.arr j=some (m,u,true):=by
  grind
 have hall:∀b,b<w.heap.size->(Ctx.mk c.h c.loc (fun j=>if j=k then some (n,hv,false)else c.arr j) fun b=>c.Y b\/hv.ownBlock=some b).all b->c.all b:=by
  intro b _ ho;rcases ho with(hy|hy)|h|⟨j,m,u,h2,h3⟩
  ·exact .inl hy
  ·exact .inr (.inr ⟨k,n,hv,e1,hy⟩)
  ·exact .inr (.inl h)
  exact .inr (.inr ⟨j,m,u,(harr j m u h2).2,h3⟩)
 refine⟨hb.below,hb.hB,hb.nt,jW hb hall (fun _ _ h _=>h),jY hb hall (fun _ _ h _=>h),hb.hw,hb.hle,?_,?_,?_,?_,?_,hb.fB,?_⟩
 ·intro p u hp;exact hb.hnew p u hp
 ·intro j b hj;obtain⟨h1,h2,h3,h4,h5⟩:=hb.loc j b hj;grind
 ·intro j m u b hj hbk;obtain⟨hjk,hj⟩:=harr j m u hj;obtain⟨h1,h2,h3,h4⟩:=hb.arr j m u b hj hbk;grind
 ·intro j hj;refine⟨(hb.used j hj).1,?_⟩;dsimp only;split
  ·rename_i e;subst e;have:=(hb.used _ hj).2;simp_all
  exact(hb.used j hj).2
 ·intro b hy;rcases hy with hy|hy
  ·obtain⟨h1,h2,h3,h4⟩:=hb.Y b hy;grind
  obtain⟨h1,h2,h3,h4⟩:=hblk b hy;refine⟨h2,fun hlt=>absurd (Env.gN h1 hk9) I,fun j hj=>(hb.loc j b hj).2.2.2.2 k n hv e1 hy,fun j m u hj e=>?_⟩;grind
 intro j m u lv hj e;exact hb.fQ j m u lv hj ((Zm (show¬j=k from fun e=>hk9 (e▸hj))).symm.trans e)
end
section
variable{E:Env}{all:Array Oper}{s r1 r2 rg:St}{d ty:Nat}{pos:String}{after:Array Edge}{guard:Option (Nat×Bool)}{x y:Operand}
def S.rslen{t e sz:Nat}{r:RW}(hs:o7 E.P t e sz)(hm:r.n<=maxLen)(hg:Gd all s guard rg)(hd:cP E d=true)(hx:bI s x (.raw r.v) r1):
  aW E all ⟨some d,.call {callee:=.builtin .len,args:=#[x],argTypes:=#[t]},ty,pos,after,guard⟩ s (rg++r1) [(d,.int .i64 r.n)] []:=
 aW.val hg hd rfl hx.looks fun c A w hh hr=>by
  have hv:A.eval x=.slice r.a r.n r.cap:=hx.rep (c:=c) (a:=A) (w:=w) hr;refine⟨.int .i64 r.n,?_,ay.ef (.int (mY hm))⟩;simp[execOp,resolve,invoke,builtin,hv,Builtin.len_,run_underlying hs.mD,goInt]
end
end Go.Ab
namespace Go.Ab
open Go.RowKit
inductive rQ(E:Env)(all:Array Oper):Option Nat->List Oper->bc->St->List Lab->bc->St->Prop
 |nil {U:bc} {s:St}:rQ E all none [] U s [] U s
 |cons {o:Oper} {k:Option Nat} {l:List Oper} {U U':bc} {s s':St} {L:List Lab} {rd wr:St} {al:bc}:Step E all o rd wr al->Looks s rd->(al.all fun k=>!U.contains k)=true->
  rQ E all k l (al++U) (wr++s) L U' s'->rQ E all (k.map (· +1)) (o::l) U s (⟨rd,wr,al⟩::L) U' s'
 |Jf {o:Oper} {l:List Oper} {U U':bc} {s s':St} {L:List Lab} {rd wr:St} {al:bc}:Looks s rd->(al.all fun k=>!U.contains k)=true->
  rQ E all none l (al++U) (wr++s) L U' s'->rQ E all (some 0) (o::l) U s (⟨rd,wr,al⟩::L) U' s'
structure F2(E:Env)(all:Array Oper)(k:Option Nat)(l:List Oper)(U:bc)(s:St)(L:List Lab)(U':bc)(s':St):Prop where
 length:L.length=l.length
 stAll:∀D:Nat->Bool,(∀j,j<l.length->D j=true)->mK L D s=s'/\uD L D U=U'
 at':∀(i:Nat)(b:Lab),L[i]?=some b->∃o,l[i]?=some o/\(k≠some i->Step E all o b.rd b.wr b.al)/\Looks (mK L (fun j=>decide (j<i)) s) b.rd/\∀k∈b.al,k∉uD L (fun j=>decide (j<i)) U
section
variable{E:Env}{all:Array Oper}{o:Oper}{l:List Oper}{U U':bc}{s s':St}{L:List Lab}{rd wr:St}{al:bc}
def F2.cons{k k2:Option Nat}(hs:k2≠some 0->Step E all o rd wr al)(hk:∀i,k2≠some (i+1)->k≠some i)(hl:Looks s rd)(hal:(al.all fun k=>!U.contains k)=true)(h:F2 E all k l (al++U) (wr++s) L U' s'):F2 E all k2 (o::l) U s (⟨rd,wr,al⟩::L) U' s':=by
 refine⟨by simp[h.length],fun D hD=>?_,fun i b hb=>?_⟩
 ·have h0:D 0=true:=hD 0 F;have:=h.stAll (fun j=>D (j+1)) (fun j hj=>hD (j+1) (by simp;omega));simp_all[mK,uD]
 cases i with
 |zero=>
  simp at hb;subst hb;refine⟨o,rfl,hs,?_,?_⟩
  ·have:(fun j=>decide (j<0))=(fun _:Nat=>false):=by rfl
   simp_all[iX]
  have:(fun j=>decide (j<0))=(fun _:Nat=>false):=by rfl
  simp_all[j7]
 |succ i=>
  obtain⟨o',ho,h1,h2,h3⟩:=h.at' i b (by grind);grind [Step,mK,uD]
end
def rQ.s{E:Env}{all:Array Oper}{k:Option Nat}{l:List Oper}{U U':bc}{s s':St}{L:List Lab}(h:rQ E all k l U s L U' s'):F2 E all k l U s L U' s':=by
 induction h with
 |nil=>exact⟨rfl,fun D _=>⟨rfl,rfl⟩,fun i b hb=>by simp at hb⟩
 |cons hs hl hal _ ih=>
  refine ih.cons (fun _=>hs) (fun i e he=>e ?_) hl hal;rw[he];rfl
 |Jf hl hal _ ih=>exact ih.cons (fun e=>absurd rfl e) (fun i _ e=>by cases e) hl hal
section
variable{E:Env}{k:Option Nat}{l:List Oper}{U U':bc}{s s':St}{L:List Lab}
theorem sI(hdown:lU 0 l=true){listed:Array Bool}(hsz:listed.size=l.length)(hr:Region.ready .any l.toArray listed=[]):∀j,j<l.length->listed.getD j false=true:=by
 intro j
 induction j using Nat.strongRecOn with
 |_ j ih=>
  intro hj;by_cases hd:listed.getD j false=true
  ·exact hd
  exfalso;have hmem:j∈Region.ready .any l.toArray listed:=by
   rw[mem_ready];refine⟨?_,l[j],by simp[hj],fun e he hb=>?_⟩
   ·simp_all
   have:=kC hdown j l[j] (by simp[hj]) e he hb;grind
  simp_all
theorem vE{listed:Array Bool}(hsz:listed.size=l.length)(hun:vD listed.toList<=0):Region.ready .any l.toArray listed=[]:=by
 have hall:∀j,j<l.length->listed.getD j false=true:=fun j hj=>by
  have:=rj listed.toList I j (by simp_all);simp_all
 rw[vp];grind [mem_ready]
def kL(h:F2 E l.toArray k l U s L U' s')(hc:iC l L=true){listed:Array Bool}{a:Act}{w:World}(hsz:listed.size=l.length)(hcl:nY l (fun j=>listed.getD j false)){c:Ctx}
  (hbase:aM E (uD L (fun j=>listed.getD j false) U) c a w) (hholds:∀key x,look (mK L (fun j=>listed.getD j false) s) key=some x->Holds c a w key x) {i:Nat} (hi:i∈Region.ready .any l.toArray listed) {o:Oper} (ho0:l[i]?=some o) {B:Lab} (hB:L[i]?=some B):
  (∀p∈B.rd,Holds c a w p.1 p.2)/\(∀k∈B.al,k∉uD L (fun j=>listed.getD j false) U)/\
   ∀c' a' w',aM E (B.al++uD L (fun j=>listed.getD j false) U) c' a' w'->(∀p∈B.wr,Holds c' a' w' p.1 p.2)->(∀key x,(∀p∈B.wr,p.1≠key)->Holds c a w key x->Holds c' a' w' key x)->
    nY l (fun j=>(listed.setIfInBounds i true).getD j false)/\vD (listed.setIfInBounds i true).toList+1=vD listed.toList/\Good E (uD L (fun j=>(listed.setIfInBounds i true).getD j false) U) (mK L (fun j=>(listed.setIfInBounds i true).getD j false) s) a' w':=by
 simp only[iC,Zw]at hc;obtain⟨hdown,hclash⟩:=hc;have hlen:=h.length;obtain⟨h0,o,ho,hedges⟩:=mem_ready.1 hi;have hil:i<l.length:=by grind
 have hio:l[i]?=some o:=by grind
 have hiL:i<L.length:=by omega
 have hisz:i<listed.size:=by omega
 have hbi:L[i]?=some L[i]:=Zv hiL;have hDi:listed.getD i false=false:=by
  simp_all
 have hBL:B=L[i]:=by simp_all
 subst hBL;obtain⟨o',ho',_,hlook,hfresh⟩:=h.at' i L[i] hbi;rw[hio]at ho';cases ho';have hready:p8 l (fun j=>listed.getD j false) i:=fun o' ho' e he hb=>by
  simp_all
 -- of two operations that eR, who comes first has been done, or will not be done before
 have ord:∀(j:Nat)(b:Lab),L[j]?=some b->(eR b L[i]=true\/eR L[i] b=true)->j≠i->listed.getD j false=decide (j<i):=by
  intro j b hb hcla hne;have hjl:j<l.length:=by grind
  have sym:∀x y:Lab,eR x y=true->eR y x=true:=by
   intro x y hxy;have comm:∀s t:St,meets s t=true->meets t s=true:=by
    intro s t hst;cases hts:meets t s with
    |true=>rfl
    |false=>
     exfalso;have:∀s t:St,meets s t=true->∃p∈s,jN p.1 t=true:=by
      intro s
      induction s with
      |nil=>simp[meets]
      |cons p s ih=>intro t h;simp only[meets,im]at h;grind
     obtain⟨p,hp,hk⟩:=this s t hst;have:∃q∈t,q.1=p.1:=by
      have kk:∀(t:St),jN p.1 t=true->∃q∈t,q.1=p.1:=by
       intro t
       induction t with
       |nil=>simp[jN]
       |cons q t ih=>intro h;simp only[jN,im]at h;grind [Nat.eq_of_beq_eq_true]
      grind
     exact ey hts this p hp rfl
   simp only[eR,im]at hxy⊢;grind
  rcases mx j i with hlt|hge
  ·have hk:eR b L[i]=true:=hcla.elim id (sym _ _);have hsp:=fN (clashAll_spec hclash i L[i] hbi) j b hb I hk;simp only[gk]at hsp;have:=fU hcl l [] [] rfl rfl F i j hsp hil hready;simp_all
  have hgt:i<j:=by omega
  have hk:eR L[i] b=true:=hcla.elim (sym _ _) id;have hsp:=fN (clashAll_spec hclash j b hb) i L[i] hbi I hk;simp only[gk]at hsp;cases hdj:listed.getD j false with
  |false=>simp;omega
  |true=>
   exfalso;have:=fU hcl l [] [] rfl rfl F j i hsp hjl (fun o' ho' e he hb'=>hcl j o' ho' hdj e he hb');simp_all
 refine⟨?_,?_,fun c' a' w' hbase' hwr hfr=>?_⟩
 ·intro p hp;refine hholds _ _ ?_;have hx:=hlook.all p hp;rw[gW]at hx⊢;rw[ez L (fun j=>listed.getD j false) (fun j=>decide (j<i)) fun j b hb hn=>?_]
  ·exact hx
  by_cases hji:j=i
  ·simp_all
  refine ord j b hb ?_ hji;left;simp only[eR,im];left;left;cases hm:meets b.wr L[i].rd with
  |true=>rfl
  |false=>
   exfalso;obtain⟨y,hy⟩:∃y,look b.wr p.1=some y:=by cases hq:look b.wr p.1<;>grind
   exact ey hm ⟨_,cm hy,rfl⟩ p hp rfl
 ·intro k hk hmem;rcases(fZ L _ U).1 hmem with hu|⟨j,b,hb,hd,hkb⟩
  ·simp_all[fZ]
  by_cases hji:j=i
  ·simp_all
  rcases mx j i with hlt|hge
  ·grind [fZ]
  obtain⟨_,_,_,_,hfj⟩:=h.at' j b hb;grind [fZ]
 have hset:∀j,(listed.setIfInBounds i true).getD j false=if j=i then true else listed.getD j false:=by
  intro j;by_cases hji:j=i
  ·simp_all
  simp_all[JN]
 refine⟨?_,?_,⟨c',hbase'.FO ?_,?_⟩⟩
 ·intro j o' ho' hd e he hb;simp only[hset]at hd⊢;split
  ·rfl
  by_cases hji:j=i
  ·simp_all
  rw[Zm hji]at hd;exact hcl j o' ho' hd e he hb
 ·simp_all[u3]
 ·grind [fZ]
 intro key x hx;by_cases hkw:look L[i].wr key=none
 ·grind [k7,gW,ez]
 obtain⟨y,hy⟩:∃y,look L[i].wr key=some y:=by cases hq:look L[i].wr key<;>grind
 have hxy:x=y:=by
  rw[gW,ez L _ (fun j=>decide (j<i+1)) fun j b hb hn=>?_]at hx
  ·have hat:eS L (fun j=>decide (j<i+1)) key=some y:=by
    have:∀(L:List Lab)(i:Nat)(b:Lab)(y:X),L[i]?=some b->look b.wr key=some y->eS L (fun j=>decide (j<i+1)) key=some y:=by
     intro L
     induction L with
     |nil=>simp
     |cons c L ihL=>
      intro i b y hb hy;cases i with
      |zero=>
       simp at hb;subst hb;have hz:eS L (fun j=>decide (j+1<0+1)) key=none:=by
        have:∀M:List Lab,eS M (fun _=>false) key=none:=by
         intro M;induction M with
         |nil=>rfl
         |cons d M ihM=>grind [eS]
        simp_all
       simp_all[eS]
      |succ i=>
       grind [eS]
    simp_all
   simp_all
  rw[hset];split
  ·simp_all
  rename_i hji;have:=ord j b hb (by
   left;simp only[eR,im];left;right;cases hm:meets b.wr L[i].wr with
   |true=>rfl
   |false=>
    exfalso;obtain⟨z,hz⟩:∃z,look b.wr key=some z:=by cases hq:look b.wr key<;>grind
    exact ey hm ⟨_,cm hz,rfl⟩ _ (cm hy) rfl) hji
  grind
 simp_all[cm]
def Ag(h:F2 E l.toArray k l U s L U' s')(hc:iC l L=true)(Q:Exit->Act->World->Prop)(hQ:∀a w,Good E U' s' a w->Q .normal a w):
  ∀(fuel:Nat)(listed:Array Bool)(a:Act)(w:World),listed.size=l.length->vD listed.toList<=fuel->nY l (fun j=>listed.getD j false)->(∀x,k=some x->listed.getD x false=true)->
   Good E (uD L (fun j=>listed.getD j false) U) (mK L (fun j=>listed.getD j false) s) a w->wpAnyIn E.ac 0 E.P .any l.toArray Q fuel listed a w:=by
 have hdown:lU 0 l=true:=by
  simp_all[iC]
 have fin:∀(listed:Array Bool)(a:Act)(w:World),listed.size=l.length→Good E (uD L (fun j=>listed.getD j false) U) (mK L (fun j=>listed.getD j false) s) a w→
   Region.ready .any l.toArray listed=[]->Q .normal a w:=by
  intro listed a w hsz hg hr;have:=h.stAll _ (sI hdown hsz hr);simp_all
 intro fuel
 induction fuel with
 |zero=>
  intro listed a w hsz hun hcl hk hg;have hr:=vE hsz hun;exact⟨hr,fin listed a w hsz hg hr⟩
 |succ fuel ih=>
  intro listed a w hsz hun hcl hk hg;refine⟨fin listed a w hsz hg,fun i hi=>?_⟩;obtain⟨h0,o,ho,hedges⟩:=mem_ready.1 hi;have hil:i<l.length:=by grind
  have hio:l[i]?=some o:=by grind
  have hbi:L[i]?=some (L[i]'(by have:=h.length;omega)):=Zv _;obtain⟨o',ho',hstep,_,_⟩:=h.at' i _ hbi;rw[hio]at ho';cases ho';have hki:k≠some i:=fun e=>by
   simp_all
  obtain⟨c,hbase,hholds⟩:=hg;obtain⟨p1,p2,p3⟩:=kL h hc hsz hcl hbase hholds hi hio hbi;refine cW ho (hstep hki _ c a w hbase p1 p2 _ Q ?_);intro c' a' w' hb' _ hwr hfr;obtain⟨q1,q2,q3⟩:=p3 c' a' w' hb' hwr hfr;refine ih _ a' w' (by grind) I q1 (fun x hx=>?_) q3;by_cases hxi:x=i
  ·simp_all
  rw[getD_set_ne false (JN hxi)];grind
def yH(E:Env)(all:Array Oper)(o:Oper){ι:Type}(rd:St)(wr:ι->St)(al:bc):Prop:=
 ∀(U:bc)(c:Ctx)(a:Act)(w:World),aM E U c a w->(∀p∈rd,Holds c a w p.1 p.2)->(∀k∈al,k∉U)->
  ∀(next:Act->World->Prop)(Q:Exit->Act->World->Prop),
   (∀q c' a' w',aM E (al++U) c' a' w'->(∀p∈wr q,Holds c' a' w' p.1 p.2)->
    (∀key x,(∀p∈wr q,p.1≠key)->Holds c a w key x->Holds c' a' w' key x)->next a' w')->
   gh E all o next Q a w
end
end Go.Ab
namespace Go.Ab
open Go.RowKit
def OK.ue{E:Env}{U:bc}{s:St}{code:Code}{Q:bo}{J:bm}{p:Prop}(hl:look s 3000=some (.res J))(hp:∀h Y w,J h Y w->p)(h:p->OK E code Q U s):OK E code Q U s:=fun a w hg=>by
 obtain⟨c,hb,hh⟩:=hg;exact h (hp _ _ _ (dI (hh _ _ hl)).2) a w ⟨c,hb,hh⟩
section
variable{E:Env}{all:Array Oper}{s r r1 r2 r3 rg:St}{d ty:Nat}{pos:String}{after:Array Edge}
def rQ.c{k:Option Nat}{o:Oper}{l:List Oper}{U U':bc}{s':St}{L:List Lab}{rd wr:St}{al:bc}(h:aW E all o s rd wr al)
 (hr:rQ E all k l (al++U) (wr++s) L U' s') (ha:(al.all fun k=>!U.contains k)=true:=by rfl):rQ E all (k.map (· +1)) (o::l) U s (⟨rd,wr,al⟩::L) U' s':=.cons h.1 h.2 ha hr
def rQ.cs{x:Nat}{o:Oper}{l:List Oper}{U U':bc}{s':St}{L:List Lab}{rd wr:St}{al:bc}(h:aW E all o s rd wr al)
 (hr:rQ E all (some x) l (al++U) (wr++s) L U' s') (ha:(al.all fun k=>!U.contains k)=true:=by rfl):rQ E all (some (x+1)) (o::l) U s (⟨rd,wr,al⟩::L) U' s':=rQ.c (k:=some x) h hr ha
def rQ.cn{o:Oper}{l:List Oper}{U U':bc}{s':St}{L:List Lab}{rd wr:St}{al:bc}(h:aW E all o s rd wr al)
 (hr:rQ E all none l (al++U) (wr++s) L U' s') (ha:(al.all fun k=>!U.contains k)=true:=by rfl):rQ E all none (o::l) U s (⟨rd,wr,al⟩::L) U' s':=rQ.c (k:=none) h hr ha
def rQ.x{o:Oper}{l:List Oper}{U U':bc}{s':St}{L:List Lab}{rd wr:St}{al:bc}(hl:Looks s rd)
 (hr:rQ E all none l (al++U) (wr++s) L U' s') (ha:(al.all fun k=>!U.contains k)=true:=by rfl):rQ E all (some 0) (o::l) U s (⟨rd,wr,al⟩::L) U' s':=.Jf hl ha hr
end
end Go.Ab
namespace Go.Ab
open Go.RowKit Go.ChangeShapes Go.WideShapes Go.ChangeAt
theorem nZ{P:Program}{w:World}{n:String}{g:Nat}{cs:Array Value}(hg:P.globalNamed n=some g)(h:w.var? P n=some cs):∃T d,w.heap[g]?=some (.cells cs T d):=by
 grind [World.var?]
def pM{H:Type}(ls:List ba):DataW H:=.agg (ls.map fun l=>.lit (.string l))
def rV{H:Type}{enc:TypeId×Value->H}{P:Program}{w:World}{base:Nat}{sp:Nat->Bool}{held:Bool}{fuel:Nat}{t e:TypeId}{n:Nat}{cs:List Value}{ls:List ba}{p:List MemPlace}
  (ht:P.underlying t=some (.array n e)) (he:P.underlying e=some .string) (hce:P.cellsOf e=1) (hct:P.cellsOf t=n)
  (h:DataW.trod enc P w base sp held fuel t cs=some (pM ls,p)):cs=ls.map fun l=>Value.string ⟨l.toArray⟩:=by
 cases fuel with
 |zero=>simp[DataW.trod]at h
 |succ fuel=>
  simp only[DataW.trod,ht,hce,hct,Nat.mul_one]at h;split at h
  ·rename_i hl;obtain⟨xs,hm,hx⟩:=mn.1 h;have hxs:xs.map (·.1)=ls.map fun l=>(DataW.lit (.string l):DataW H):=by
    simp_all[pM]
   have hxl:xs.length=n:=by simpa using Lib.mapM_length hm
   have hzl:ls.length=n:=by
    have:=eQ List.length hxs;grind
   apply mv;intro i;by_cases hi:i<n
   ·obtain⟨b,hb,hf⟩:=Lib.mapM_at hm i i (by simp[hi]);obtain⟨z,hc,rfl,_⟩:=DataW.trod_string he hf;have h1:cs[i]?=some (.string z):=by
     have:=eQ (·[0]?) hc;grind
    have h2:(xs.map (·.1))[i]?=some (DataW.lit (.string z.data.toList):DataW H):=by simp[hb]
    simp_all
   simp_all
  cases h
def tT{P:Program}{ar:World}{name:String}{ls:List ba}{rest:List (String×DataW Unit)}{g:Nat}{t e:TypeId}{n:Nat}
  (hg:P.globalNamed name=some g) (hty:(P.globals[g]?).map (·.type)=some t) (ht:P.underlying t=some (.array n e)) (he:P.underlying e=some .string) (hce:P.cellsOf e=1) (hct:P.cellsOf t=n)
  (h:laidMet P ((name,pM ls)::rest) ar):ar.var? P name=some (ls.map fun l=>Value.string ⟨l.toArray⟩).toArray:=by
 obtain⟨ps,⟨g',t',cs,fuel,p,q,hg',ht',hvar,hd,_,_⟩,_⟩:=h;obtain rfl:=tn (hg.symm.trans hg');obtain rfl:=tn (hty.symm.trans ht');rw[hvar,←rV ht he hce hct hd]
def jv.BU {P : Program} {ar : World} (hp : Lib.TabIs P ar "internal/strconv.uint64pow10" .u64 Lib.pow10Tab) (he : ∃ t p, ar.var? P "strconv.ErrRange" = some #[.iface t p]) (hs : ∃ t p, ar.var? P "strconv.ErrSyntax" = some #[.iface t p]) (hnm : ∀ g, P.globalNamed "martensite/recipe.names" = some g -> ar.var? P "martensite/recipe.names" = some (b7.map fun l => Value.string ⟨l.toArray⟩).toArray) : jv P ar := by
 have hv : ∀ n, (n = "strconv.ErrRange" \/ n = "strconv.ErrSyntax") -> ∃ t p, ar.var? P n = some #[.iface t p] := by
  simp_all
 refine⟨fun g hg=>nZ hg hp,fun n hn g hg=>?_,fun g hg=>nZ hg (hnm g hg),fun n hn g hg=>?_⟩
 ·obtain⟨t,p,h⟩:=hv n hn;have h0:=World.var?_cell hg h 0;simp_all
 have lt:∀{cs:Array Value},ar.var? P n=some cs->g<ar.heap.size:=by
  grind [nZ]
 rcases hn with rfl|rfl|rfl|rfl
 ·exact lt hp
 all_goals grind
section
variable{H:Type}{enc:TypeId×Value->H}{P:Program}{w:World}{spare:Nat->Bool}
def xH{f:Nat}{fn:Func}{s:ChangeSpec}{Ts:List Ty}{tb:TypeId}{args:Array Value}{ds gs:List (DataW H)}{before:List MemPlace}{base:Nat}{apart fresh handsOn:Bool}(hlaw:∀xs,tR Ts xs->gz P f xs (.bool true))(hT:jv P w)
  (hl:laidOutB P=true) (hTs:qi P Ts fn.params.toList) (hvars:s.vars=[]) (hres:fn.resultTypes= #[tb]) (htb:P.underlying tb=some .bool) (hs:∀ds:List (DataW H),ds.length=fn.params.toList.length->s.fn H ds={results:=[.lit (.bool true)],args:=ds})
  (hok:∀(j:Nat) t v,fn.params[j]?=some t->args[j]?=some v->Value.okWide P w .any base t v) (hW:DataW.Whole enc P fn.params.toList s.vars apart w args.toList ds gs before):
  Calls P f args w fun e w'=>∃v,e=.returned v/\s.post enc P fn apart fresh handsOn false w args v w':=by
 have hW':=hW;obtain⟨p,q,hA,hV,hb,hfz,hnd⟩:=hW;rw[hvars]at hV;obtain⟨hg,hq⟩:=trodVars_none hV;subst hg;subst hq;rw[lw]at hb;subst hb;obtain⟨xs,h1,h2⟩:=vz hTs (fun j t v ht hv=>hok j t v (by grind) (by grind)) hA;have hc:=hlaw xs h2 (eU w) w args.toList hT (fun _ _ h=>h) h1;have ha:args.toList.toArray=args:=by simp
 rw[ha]at hc;refine hc.mono ?_;rintro e w' ⟨v,h',rfl,hB,_,_,_,hr⟩;have hv:v=.bool true:=gF hr;subst hv;have hlen:=oG hA;refine⟨_,rfl,ds,[],before,[],before,[],hW',?_,?_,?_,?_,Z⟩
 ·rw[lw,hs ds hlen,hres];exact⟨[],[],shut_bool htb true,rfl,rfl⟩
 ·rw[lw,hs ds hlen];exact sH hl hB hTs (fun x hx=>hW'.lt x hx) hA
 ·rw[lw,hs ds hlen,hvars];exact rfl
 exact World.keptBut_mono (fun p hp=>⟨hp,.inr (.inl hp)⟩) (hB.frame (· ∈before))
