import Derived.Laws.Concat
import Derived.Laws.MakeOwn
import Derived.Lib.AtoiAll
import Derived.Lib.Bytealg
import Derived.Lib.Itoa
import Derived.Lib.Join
import Derived.Lib.LaidTab
import Derived.Stop.LaidErr
import Derived.WalkSpells
import Derived.Test.YtkkbjdenehfpaaaGreatDoorFjN
set_option linter.all false
open List renaming length->R
namespace Go.Ab
open Go.RowKit
def hasB(t:St)(k:Nat):Bool:=t.any λp=>Nat.beq p.1 (1000+k)&&(match p.2 with
 |.box _=>true
 |.omap _=>true
 |_=>false)
def VU(t:St)(k:Nat):Bool:=t.any λp=>Nat.beq p.1 (2000+k)&&(match p.2 with
 |.arr _ _=>true
 |.W8 _ _ _ _=>true
 |_=>false)
def bg:X->Bool
 |.box _=>true
 |.omap _=>true
 |_=>false
def bf:X->Bool
 |.arr _ _=>true
 |.W8 _ _ _ _=>true
 |_=>false
variable{c:Ctx}{w:World}
theorem TO{a:Act}{k:Nat}{x:X}(h:Holds c a w (1000+k) x)(e:bg x=true)(f:k<1000):∃b,c.loc k=some b:=by
 unfold Holds at h;grind [Ri,bg]
theorem Jr{a:Act}{k:Nat}{x:X}(h:Holds c a w (2000+k) x)(b:bf x=true):∃p,c.arr k=some p:=by
 unfold Holds at h;by_cases f:k<1000
 ·grind [AK,bf]
 rw[Zm I,Zm I,Zm I]at h;rcases h with rfl|⟨_,J,e,_⟩
 ·cases b
 cases x<;>first|exact False.elim e|cases b
def Wj{t:St}{k:Nat}(h:hasB t k=true):∃x,bg x=true/\(1000+k,x)∈t:=by
 unfold hasB at h;rw[dτ]at h;obtain⟨⟨i,x⟩,f,b⟩:=h;simp only[Zw]at b;have e:=Nat.eq_of_beq_eq_true b.1;subst e;cases x<;>first|exact⟨_,rfl,f⟩|simp_all
theorem Rx{t:St}{k:Nat}(h:VU t k=true):∃x,bf x=true/\(2000+k,x)∈t:=by
 unfold VU at h;rw[dτ]at h;obtain⟨⟨i,x⟩,f,b⟩:=h;simp only[Zw]at b;have e:=Nat.eq_of_beq_eq_true b.1;subst e;cases x<;>first|exact⟨_,rfl,f⟩|simp_all
def Ctx.Yg(c:Ctx)(fs:bc)(t:St):Ctx:=⟨c.h,λk=>if(fs.contains k&&hasB t k)=true then c.loc k else none,λk=>if(fs.contains k&&VU t k)=true then c.arr k else none,λ_=>False⟩
theorem Vn{fs:bc}{t:St}{k b:Nat}(e:(c.Yg fs t).loc k=some b):k∈fs/\hasB t k=true/\c.loc k=some b:=by
 simp_all[Ctx.Yg]
def VX{fs:bc}{t:St}{k:Nat}{x:Nat×Value×Bool}(e:(c.Yg fs t).arr k=some x):k∈fs/\VU t k=true/\c.arr k=some x:=by
 simp_all[Ctx.Yg]
def VZ{fs:bc}{t:St}{k:Nat}(e:k∈fs)(b:hasB t k=true):(c.Yg fs t).loc k=c.loc k:=by
 simp_all[Ctx.Yg]
def VY{fs:bc}{t:St}{k:Nat}(e:k∈fs)(b:VU t k=true):(c.Yg fs t).arr k=c.arr k:=by
 simp_all[Ctx.Yg]
def SS(fs:bc)(t:St):X->Bool
 |.ptr k _=>fs.contains k&&hasB t k
 |.own k _=>fs.contains k&&VU t k
 |.Wt k _ _=>fs.contains k&&VU t k
 |.QS k=>fs.contains k&&hasB t k
 |.GL k _ _ _ _=>fs.contains k&&VU t k
 |_=>true
def SR(fs:bc)(t:St):X->Bool
 |.fn _ vt=>vt.all<|SS fs t
 |x=>SS fs t x
def WO(fs:bc)(t:St)(p:Nat×X):Bool:=match p.2 with
 |.box vv=>Nat.ble 1000 p.1&&Nat.blt p.1 2000&&fs.contains (p.1 - 1000)&&hasB t (p.1 - 1000)&&vv.all (SR fs t)
 |.arr _ _=>Nat.ble 2000 p.1&&Nat.blt p.1 3000&&fs.contains (p.1 - 2000)&&VU t (p.1 - 2000)
 |.W8 _ _ mid _=>Nat.ble 2000 p.1&&Nat.blt p.1 3000&&fs.contains (p.1 - 2000)&&VU t (p.1 - 2000)&&mid.all (SR fs t)
 |.omap _=>Nat.ble 1000 p.1&&Nat.blt p.1 2000&&fs.contains (p.1 - 1000)&&hasB t (p.1 - 1000)
 |_=>false
theorem Xw.Yg{c:Ctx}{fs:bc}{t:St}{x:X}{v:Value}(h:Xw c x v)(e:SS fs t x=true):Xw (c.Yg fs t) x v:=by
 cases x
 case ptr k qc=>
  obtain⟨b,g,f⟩:=h;simp only[SS,Zw]at e;exact⟨b,(VZ (tl.1 e.1) e.2).trans g,f⟩
 case own k n=>
  obtain⟨h0,m,i,lv,g,f⟩:=h;simp only[SS,Zw]at e;exact⟨h0,m,i,lv,(VY (tl.1 e.1) e.2).trans g,f⟩
 case Wt k n qc=>
  obtain⟨m,i,lv,g,f⟩:=h;simp only[SS,Zw]at e;exact⟨m,i,lv,(VY (tl.1 e.1) e.2).trans g,f⟩
 case QS k=>
  obtain⟨b,g,f⟩:=h;simp only[SS,Zw]at e;exact⟨b,(VZ (tl.1 e.1) e.2).trans g,f⟩
 case GL k n sz lo hi=>
  obtain⟨h0,m,i,lv,g,f⟩:=h;simp only[SS,Zw]at e;exact⟨h0,m,i,lv,(VY (tl.1 e.1) e.2).trans g,f⟩
 all_goals exact h
theorem Zc.Yg{c:Ctx}{fs:bc}{t:St}{x:X}{v:Value}(h:Zc c x v)(b:SR fs t x=true):Zc (c.Yg fs t) x v:=by
 cases x
 case fn f vt=>grind [Zc,SR,Z1.cut,Xw.Yg]
 all_goals simp_all[Zc,SR,Xw.Yg]
def Holds.Yg{c:Ctx}{fs:bc}{t:St}{w:World}{vy:Nat}{x:X}{a a':Act}(h:Holds c a w vy x)(g:WO fs t (vy,x)=true):Holds (c.Yg fs t) a' w vy x:=by
 unfold WO at g;cases x
 case box vv=>
  simp only[Zw,ky,rb]at g;obtain⟨⟨⟨⟨D,v⟩,u⟩,q⟩,C⟩:=g;unfold Holds at h⊢;rw[Zm I]at h⊢;refine XH h λh=>?_
  rw[Zn v]at h⊢;obtain⟨b,o,p,j,T,vs,e,A⟩:=h;exact⟨b,o,(VZ (tl.1 u) q).trans p,j,T,vs,e,Z1.cut (R':=Zc<|c.Yg fs t) (ok:=SR fs t) (λ_ _ h g=>Zc.Yg h g) A C⟩
 case omap es=>
  simp only[Zw,ky,rb]at g;obtain⟨⟨⟨D,v⟩,u⟩,q⟩:=g;unfold Holds at h⊢;rw[Zm I]at h⊢;refine XH h λh=>?_
  rw[Zn v]at h⊢;obtain⟨b,o,p,j,A⟩:=h;exact⟨b,o,(VZ (tl.1 u) q).trans p,j,A⟩
 case W8 sz xr mid post=>
  simp only[Zw,ky,rb]at g;obtain⟨⟨⟨⟨D,v⟩,u⟩,q⟩,C⟩:=g;unfold Holds at h⊢;rw[Zm I]at h⊢;refine XH h λh=>?_
  rw[Zm I,Zn v]at h⊢;obtain⟨i,f,B,e,vs,⟨F,V,K,J,G,S,O,N,M⟩,p,j⟩:=h;exact⟨i,f,B,e,vs,⟨F,V,K,J,G,S,O,Z1.cut (R':=Zc<|c.Yg fs t) (ok:=SR fs t) (λ_ _ h g=>Zc.Yg h g) N C,M⟩,(VY (tl.1 u) q).trans p,j⟩
 case arr sz vi=>
  simp only[Zw,ky,rb]at g;obtain⟨⟨⟨D,v⟩,u⟩,q⟩:=g;unfold Holds at h⊢;rw[Zm I]at h⊢;refine XH h λh=>?_
  rw[Zm I,Zn v]at h⊢;obtain⟨i,f,B,e,vs,F,p,j⟩:=h;exact⟨i,f,B,e,vs,F,(VY (tl.1 u) q).trans p,j⟩
 all_goals cases g
structure kX(fs:bc)(t0:St)(cL c:Ctx)(h:Mem)(Y:Nat->Prop)(w:World):Prop where
 hh:c.h=h
 ok:Pp fs c w
 Y:∀b,Y b↔c.out fs b
 loc:∀k b,c.loc k=some b->hasB t0 k=true
 arr:∀k x,c.arr k=some x->VU t0 k=true
 ext:Ext cL c
def R5(fs:bc)(b:St)(e:Ctx)(t:St):bm:=λh Y w=>∃c,kX fs b e c h Y w/\∀p∈t,∀a,Holds c a w p.1 p.2
theorem R5.ZV{fs:bc}{V:St}{cL:Ctx}{t:St}(X:t.all (SN fs)=true):Y2<|R5 fs V cL t:=by
 rintro h S Y w w' ⟨c,g,Z⟩ xf xi F hB hX;have N:=g.hh;subst N;have e:∀b o,c.out fs b->c.h ⟨b,o,none⟩=none->S ⟨b,o,none⟩=none:=by
  intro b o K T;cases hh:S ⟨b,o,none⟩with
  |none=>rfl
  |some v=>
   rcases xi _ _ hh with h|h
   ·simp_all
   exact absurd ((g.Y b).2 K) h
 refine⟨c.TH fs S,⟨rfl,⟨F,?_,?_,?_,?_⟩,?_,λk b f=>g.loc k b (VH f).2,λk x f=>g.arr k x (Wa f).2,g.ext.trans ⟨xf,?_,?_⟩⟩,λp G a=>?_⟩
 ·intro k b f;obtain⟨M,j⟩:=VH f;obtain⟨u,C,B,O,h5⟩:=g.ok.loc k b j;exact⟨u,rp C hB.size,λo=>e b o (.inr<|.inl ⟨k,u,j⟩)<|B o,λD q=>O D (VH q).2,λD m i q=>h5 D m i (Wa q).2⟩
 ·intro k m i b f I;obtain⟨M,j⟩:=Wa f;obtain⟨u,C,B,O⟩:=g.ok.arr k m i b j I;exact⟨u,rp C hB.size,λo=>e b o (.inr<|.inr ⟨k,m,i,u,j,I⟩)<|B o,λD W J q=>O D W J (Wa q).2⟩
 ·grind [Ctx.TH]
 ·intro b A;obtain⟨u,C,B⟩:=g.ok.Y b A;exact⟨rp u hB.size,λk f=>C k (VH f).2,λk m i f=>B k m i (Wa f).2⟩
 ·intro b;refine⟨λA=>?_,λK=>(g.Y b).2<|JU K⟩;rcases(g.Y b).1 A with A|⟨k,u,C⟩|⟨k,m,i,u,C,B⟩
  ·exact .inl A
  ·exact .inr (.inl ⟨k,u,by simp_all[Ctx.TH]⟩)
  exact .inr (.inr ⟨k,m,i,u,by simp_all[Ctx.TH],B⟩)
 ·intro k b f;simp only[Ctx.TH];rw[Zn<|tl.2 (g.ok.loc k b f).1];exact f
 ·intro k m i lv f;refine⟨m,i,lv,?_,Zq _,λ_=>rfl⟩;simp only[Ctx.TH];by_cases hf:k∈fs
  ·simp_all
  have:=(g.ok.none k hf).2;simp_all
 exact Holds.TH xf (λp v i=>(xi p v i).imp id λT A=>T<|(g.Y _).2<|.inl A) F hB (λb hb=>hX b<|(g.Y b).2 hb) (Z p G a)<|bj.1 X p G
def cover(fs:bc)(b t:St):Bool:=fs.all λk=>Nat.blt k 1000&&(!hasB b k||hasB t k)&&(!VU b k||VU t k)
theorem Xm{fs:bc}{b t:St}(h:cover fs b t=true){k:Nat}(e:k∈fs):k<1000/\(hasB b k=true->hasB t k=true)/\(VU b k=true->VU t k=true):=by
 have f:=bj.1 h k e;simp only[Zw,rb,ti,zd]at f;grind
variable{h:Mem}{t':St}
theorem mM{fs:bc}{B:St}{J c':Ctx}{Y:Nat->Prop}{w':World}{qp:X}{u:Value}(j:kX fs B J c h Y w)(f:Rj fs c w t' qp u c' w')(g:cover fs B t'=true):Ext c c':=by
 refine⟨f.le,λk b e=>?_,λk m S lv e=>?_⟩
 ·have v:=(j.ok.loc k b e).1;obtain⟨D,A,_⟩:=Xm g v;obtain⟨F,i,q⟩:=Wj<|A<|j.loc k b e;obtain⟨K,p⟩:=TO (f.wr _ q {tmps:=#[],defers:=[]}) i D;have:=f.loc k K p;simp_all
 have v:k∈fs:=by
  by_cases C:k∈fs
  ·exact C
  have:=(j.ok.none k C).2;simp_all
 obtain⟨D,_,A⟩:=Xm g v;obtain⟨F,i,q⟩:=Rx<|A<|j.arr k _ e;obtain⟨⟨_,_,_⟩,p⟩:=Jr (f.wr _ q {tmps:=#[],defers:=[]}) i;obtain⟨m0,I,G,O,N,M⟩:=f.arr k _ _ _ p;grind
def Pc.xJ{c:Ctx}:∀{us:bi}{vs:List Value},Z1 (Xw c) us vs->us.all (λu=>!Yx u)=true->Z1 (YQ c) us vs
 |[],[],_,_=>trivial
 |_::_,_::_,h,ho=>by
  simp only[so,Zw,zd]at ho;exact⟨P.xJ h.1 ho.1,Pc.xJ h.2<|by simp_all⟩
 |[],_::_,h,_=>h.elim
 |_::_,[],h,_=>h.elim
variable{f:Nat}{ys:bi}
def vX{P:Program}{fs:bc}{vt:bi}{qp:X}{K t:St}{Z:Ctx}{v0:Value}(hf:Vi P f fs (ys++vt) t t' qp)(B:∀vj w,(callFunc f vj).run P w=.ok (.enter f vj) w)(hs:z_ qp=true)
  (D:Zc Z (.fn f vt) v0) (V:vt.all (λu=>!Yx u)=true) (I:cover fs K t'=true):ND P v0 ys qp (R5 fs K Z t)<|R5 fs K Z t':=by
 intro h Y w vs hw hY hJ C;obtain⟨c,j,N⟩:=hJ;have S:=j.hh;subst S;obtain⟨i,e0,T⟩:=D.mono j.ext;refine .inl ⟨f,#[],i.toArray,e0,B,?_⟩;have A:Z1 (YQ c) (ys++vt)<|vs++i:=(C.mono λ_ _=>YQ.mono<|Xn rfl).append<|Pc.xJ T V;have J:=hf c w (vs++i) j.ok (λp M a=>N p M a) A;have e:(vs++i).toArray= #[]++vs.toArray++i.toArray:=F
 rw[e]at J;refine J.mono ?_;rintro en w' ⟨u,c',rfl,g⟩;refine⟨u,c'.h,λb=>c'.out fs b,rfl,⟨g.below.mono (Zq _) λk _ G=>(j.Y k).2 G,g.le,(λp v N=>(g.new p v N).imp id λq=>q.imp id λq=>(j.Y _).2 q),g.ok.hw,?_,λb hb O=>(j.Y b).2<|g.out b hb O⟩,⟨c',⟨rfl,g.ok,λb=>Iff.rfl,λk b G=>j.loc k b<|g.loc k b G,λk x G=>?_,j.ext.trans<|mM j g I⟩,g.wr⟩,IY hs g.res⟩
 ·rintro b (hy|⟨k,J,W⟩|⟨k,m,D,J,W,h3⟩)
  ·exact(g.ok.Y b hy).1
  ·exact(g.ok.loc k b W).2.1
  exact(g.ok.arr k m D b W h3).2.1
 obtain⟨m,D,lv⟩:=x;obtain⟨m0,hv0,lv0,q,_⟩:=g.arr k m D lv G;exact j.arr k _ q
def Z1.qX{α β:Type}{R:α->β->Prop}:∀{us:List α}{z:α}{bs:List β},Z1 R (us++[z]) bs->∃e b,bs=e++[b]/\Z1 R us e/\R z b
 |[],z,[b],h=>⟨[],b,rfl,Zo,h.1⟩
 |[],_,[],h=>h.elim
 |[],_,_::_::_,h=>h.2.elim
 |_::_,z,[],h=>h.elim
 |a::us,z,b::bs,h=>by
  obtain⟨e,i,rfl,g,f⟩:=Z1.qX h.2;exact⟨b::e,i,rfl,⟨h.1,g⟩,f⟩
def Ctx.back(c c3:Ctx)(fs:bc)(t:St):Ctx:=⟨c3.h,λk=>if(fs.contains k&&hasB t k)=true then c3.loc k else c.loc k,λk=>if(fs.contains k&&VU t k)=true then c3.arr k else c.arr k,c.Y⟩
variable{U:bc}{w':World}
section
variable{E:Env}{c2 c3:Ctx}{a:Act}{fs:bc}{t:St}
theorem Rz{b:Nat}(h:(c.Yg fs t).out fs b):(∃k,k∈fs/\hasB t k=true/\c.loc k=some b)\/∃k m e,k∈fs/\VU t k=true/\c.arr k=some (m,e,true)/\e.ownBlock=some b:=by
 rcases h with h|⟨k,g,f⟩|⟨k,m,e,g,f,p⟩
 ·exact h.elim
 ·grind [Vn]
 obtain⟨_,j,i⟩:=VX f;grind
theorem PF{b:Nat}(h:(c.Yg fs t).out fs b):c.all b:=by
 grind [Ctx.all,Rz]
theorem MQ(v:ZB E U c a w):Pp fs (c.Yg fs t) w:=by
 refine⟨v.hw,λk b e=>?_,λk m q b e u=>?_,λk I=>?_,λb F=>F.elim⟩
 ·obtain⟨B,G,A⟩:=Vn e;obtain⟨_,j,i,h,C⟩:=v.loc k b A;exact⟨B,j,i,λg f=>h g (Vn f).2.2,λg m q f=>C g m q (VX f).2.2⟩
 ·obtain⟨B,G,A⟩:=VX e;obtain⟨_,j,i,h⟩:=v.arr k m q b A u;exact⟨B,j,i,λg D p f=>h g D p (VX f).2.2⟩
 grind [Ctx.Yg]
theorem VS{k b:Nat}(e:(c.back c3 fs t).loc k=some b):(k∈fs/\hasB t k=true/\c3.loc k=some b)\/(¬(k∈fs/\hasB t k=true)/\c.loc k=some b):=by
 grind [Ctx.back]
theorem XM{k:Nat}{x:Nat×Value×Bool}(e:(c.back c3 fs t).arr k=some x):(k∈fs/\VU t k=true/\c3.arr k=some x)\/(¬(k∈fs/\VU t k=true)/\c.arr k=some x):=by
 grind [Ctx.back]
structure KD(E:Env)(c c3:Ctx)(w w':World)(fs:bc)(t:St):Prop where
 dS:∀k∈fs,k∉E.fs
 hask:∀k∈fs,hasB t k=true\/VU t k=true
 held:∀k∈fs,(hasB t k=true->∃b,c.loc k=some b)/\(VU t k=true->∃x,c.arr k=some x)
 below:WV w.heap.size ((c.Yg fs t).out fs) w w'
 le:Mem.le c.h c3.h
 new:∀p v,c3.h p=some v->c.h p=some v\/w.heap.size<=p.block\/(c.Yg fs t).out fs p.block
 ok:Pp fs c3 w'
 old:∀b,c3.out fs b->b<w.heap.size->(c.Yg fs t).out fs b
 ext:Ext (c.Yg fs t) c3
def KD.keep(hB:KD E c c3 w w' fs t){b:Nat}(h:¬(c.Yg fs t).out fs b)(e:b<w.heap.size):w'.heap[b]?=w.heap[b]?:=hB.below.block b e h
theorem KD.ext'(hB:KD E c c3 w w' fs t):Ext c<|c.back c3 fs t:=by
 refine⟨hB.le,λk b e=>?_,λk m f lv e=>?_⟩
 ·simp only[Ctx.back];split
  ·rename_i h;rw[Zw]at h;exact hB.ext.loc k b<|(VZ (tl.1 h.1) h.2).trans e
  exact e
 simp only[Ctx.back];split
 ·rename_i h;rw[Zw]at h;exact hB.ext.arr k m f lv ((VY (tl.1 h.1) h.2).trans e)
 grind
theorem ZB.Xl(e:ZB E U c a w){k b:Nat}(h:c.loc k=some b)(j:¬(k∈fs/\hasB t k=true)):¬(c.Yg fs t).out fs b:=by
 intro i;obtain⟨_,_,_,g,f⟩:=e.loc k b h;grind [Rz]
theorem ZB.XD(g:ZB E U c a w){k m b:Nat}{f:Value}(h:c.arr k=some (m,f,true))(e:f.ownBlock=some b)(C:¬(k∈fs/\VU t k=true)):¬(c.Yg fs t).out fs b:=by
 intro q;obtain⟨_,_,_,A⟩:=g.arr k m f b h e;rcases Rz q with⟨j,v,u,i⟩|⟨j,B,p,v,u,i,D⟩
 ·exact(g.loc j b i).2.2.2.2 k m f h e
 grind
theorem ZB.U9(e:ZB E U c a w){b:Nat}(h:c.Y b):¬(c.Yg fs t).out fs b:=by
 intro i;obtain⟨_,_,g,f⟩:=e.Y b h;grind [Rz]
def ZB.H_(g:ZB E U c a w)(hd:∀k∈fs,k∉E.fs){b:Nat}(h:(c.Yg fs t).out fs b):E.B<=b:=by
 rcases Rz h with⟨k,f,_,e⟩|⟨k,m,i,f,_,e,j⟩
 ·exact Env.SX (g.loc k b e).1<|hd k f
 exact Env.SX (g.arr k m i b e j).1<|hd k f
theorem ZB.back(f:ZB E U c a w)(hB:KD E c c3 w w' fs t):ZB E U (c.back c3 fs t) a w':=by
 have hs:=hB.below.size;have O:∀k b,c3.loc k=some b->c3.out fs b:=λk b e=>.inr<|.inl ⟨k,(hB.ok.loc k b e).1,e⟩
 have T:∀k m j b,c3.arr k=some (m,j,true)->j.ownBlock=some b->c3.out fs b:=λk m j b e e2=>.inr<|.inr ⟨k,m,j,(hB.ok.arr k m j b e e2).1,e,e2⟩
 have I:∀b o,b<w.heap.size->¬(c.Yg fs t).out fs b->c.h ⟨b,o,none⟩=none->c3.h ⟨b,o,none⟩=none:=by
  intro b o N hno S;cases hh:c3.h ⟨b,o,none⟩with
  |none=>rfl
  |some v=>
   rcases hB.new _ _ hh with h|h|h
   all_goals grind
 have J:∀b,c3.out fs b->E.B<=b:=by
  intro b ho;rcases w7 b w.heap.size with h|h
  ·exact f.H_ hB.dS<|hB.old b ho h
  exact di f.hB h
 have hall:∀b,b<w.heap.size->(c.back c3 fs t).all b->c.all b:=by
  intro b N h;rcases h with h|⟨k,h⟩|⟨k,m,j,h,A⟩
  ·exact .inl h
  ·rcases VS h with⟨_,_,h⟩|⟨_,h⟩
   ·exact PF<|hB.old b (O k b h) N
   exact .inr<|.inl ⟨k,h⟩
  rcases XM h with⟨_,_,h⟩|⟨_,h⟩
  ·exact PF<|hB.old b (T k m j b h A) N
  exact .inr<|.inr ⟨k,m,j,h,A⟩
 have hkeep:∀(D:Nat)(o:Obj),¬c.all D->w.heap[D]?=some o->w'.heap[D]?=some o:=λD o g A=>(hB.keep (λh=>g<|PF h) (sa.1 A).1).trans A
 refine⟨f.below.trans ⟨hB.below.os,hB.below.tape,hB.below.output,hs,λk u _=>hB.below.block k (rp u f.hB) λh=>?_⟩,di f.hB hs,f.nt,⟨f.RR.1,λd hd=>?_⟩,λp hp=>?_,hB.ok.hw,Mem.le_trans f.hle hB.le,λp v hp=>?_,?_,?_,λk u=>?_,λb Z=>?_,λk b u e=>?_,λk m j lv u e=>?_⟩
 ·have:=f.H_ hB.dS h;omega
 ·obtain⟨D,g,A,q,h4⟩:=f.RR.2 d hd;grind
 ·obtain⟨g,A,q⟩:=f.M6 p hp;grind
 ·rcases hB.new p v hp with h|h|h
  ·exact f.hnew p v h
  ·exact .inr<|.inl<|di f.hB h
  exact .inr<|.inl<|f.H_ hB.dS h
 ·intro k b u;rcases VS u with⟨g,A,q⟩|⟨g,q⟩
  ·obtain⟨_,F,K,V,q5⟩:=hB.ok.loc k b q;refine⟨.inl<|J b<|O k b q,F,K,λG i=>?_,λG m j i e=>?_⟩
   ·rcases VS i with⟨_,_,h⟩|⟨S,h⟩
    ·grind
    exact absurd (hB.old b (O k b q) (f.loc G b h).2.1)<|f.Xl h S
   rcases XM i with⟨_,_,h⟩|⟨S,h⟩
   ·grind
   exact absurd (hB.old b (O k b q) (f.arr G m j b h e).2.1)<|f.XD h e S
  obtain⟨W,F,K,V,q5⟩:=f.loc k b q;refine⟨W,rp F hs,λo=>I b o F (f.Xl q g)<|K o,λG i=>?_,λG m j i e=>?_⟩
  ·rcases VS i with⟨_,_,h⟩|⟨_,h⟩
   ·exact absurd (hB.old b (O G b h) F)<|f.Xl q g
   simp_all
  rcases XM i with⟨_,_,h⟩|⟨_,h⟩
  ·exact absurd (hB.old b (T G m j b h e) F) (f.Xl q g)
  grind
 ·intro k m j b u C;rcases XM u with⟨g,A,q⟩|⟨g,q⟩
  ·obtain⟨_,F,K,V⟩:=hB.ok.arr k m j b q C;refine⟨.inl<|J b<|T k m j b q C,F,K,λG X M i e=>?_⟩;rcases XM i with⟨_,_,h⟩|⟨S,h⟩
   ·grind
   exact absurd (hB.old b (T k m j b q C) (f.arr G X M b h e).2.1)<|f.XD h e S
  obtain⟨W,F,K,V⟩:=f.arr k m j b q C;refine⟨W,rp F hs,λo=>I b o F (f.XD q C g)<|K o,λG X M i e=>?_⟩;rcases XM i with⟨_,_,h⟩|⟨_,h⟩
  ·exact absurd (hB.old b (T G X M b h e) F) (f.XD q C g)
  grind
 ·obtain⟨u1,u2⟩:=f.used k u;constructor
  ·cases e:(c.back c3 fs t).loc k with
   |none=>rfl
   |some b=>
    rcases VS e with⟨g,A,_⟩|⟨_,h⟩
    ·obtain⟨b',hb'⟩:=(hB.held k g).1 A;simp_all
    simp_all
  cases e:(c.back c3 fs t).arr k with
  |none=>rfl
  |some x=>
   rcases XM e with⟨g,A,_⟩|⟨_,h⟩
   ·obtain⟨b',hb'⟩:=(hB.held k g).2 A;simp_all
   simp_all
 ·obtain⟨g,A,q,h4⟩:=f.Y b Z;refine⟨rp g hs,A,λk u=>?_,λk m j u e=>?_⟩
  ·rcases VS u with⟨_,_,h⟩|⟨_,h⟩
   ·exact f.U9 Z (hB.old b (O k b h) g)
   grind
  rcases XM u with⟨_,_,h⟩|⟨_,h⟩
  ·exact f.U9 Z (hB.old b (T k m j b h e) g)
  grind
 ·rcases VS e with⟨g,_⟩|⟨_,h⟩
  ·exact absurd u<|hB.dS k g
  exact f.UU k b u h
 rcases XM e with⟨g,_⟩|⟨_,h⟩
 ·exact absurd u<|hB.dS k g
 exact f.Uw k m j lv u h
def Holds.back(i:ZB E U c a w)(hB:KD E c c3 w w' fs t){vy:Nat}{x:X}(hk:¬vy<1000)(O:∀k∈fs,(hasB t k=true->vy≠1000+k)/\(VU t k=true->vy≠2000+k))(h:Holds c a w vy x):Holds (c.back c3 fs t) a w' vy x:=by
 have f:=hB.ext';unfold Holds at *;rw[Zm hk]at h⊢;refine XH h λh=>?_
 split at h
 ·rename_i N;rw[Zn N];obtain⟨b,o,A,B,M⟩:=h;have D:=i.Xl (fs:=fs) (t:=t) A λq=>(O _ q.1).1 q.2 I
  exact⟨b,o,f.loc _ _ A,(hB.keep D (i.loc _ _ A).2.1).trans B,M.mono f⟩
 rename_i N;rw[Zm N];split at h
 ·rename_i K;rw[Zn K];obtain⟨T,vi,W,e,vs,V,A,B,M⟩:=h;have Z:¬(vy - 2000∈fs/\VU t (vy - 2000)=true):=λq=>(O _ q.1).2 q.2 I
  refine⟨T,vi,W,e,vs,V.mono f,?_,⟨B.1,B.2.imp id ?_⟩,M⟩
  ·simp_all[Ctx.back]
  rintro⟨g,vz,cur,f1,f2,f3,r⟩;exact⟨g,vz,cur,f1,f2,(hB.keep (i.XD A (by rw[f1];rfl) Z) (sa.1 f3).1).trans f3,r⟩
 rename_i K;rw[Zm K];obtain⟨F,J,C,S,G⟩:=h;refine⟨F,J,C.mono f.loc,S,S _ _ _ _ _ G hB.le (λp v e=>(hB.new p v e).imp id λh u=>h.elim (λh=>by have:=(i.Y _ u).1;omega) λh=>i.U9 u h) hB.ok.hw ⟨hB.below.os,hB.below.tape,hB.below.output,hB.below.size,λj hj=>I⟩ λb u=>hB.keep (i.U9 u) (i.Y b u).1⟩
theorem Xw.back{x:X}{v:Value}(h:Xw c3 x v)(g:SS fs t x=true):Xw (c.back c3 fs t) x v:=by
 cases x
 case ptr k qc=>
  obtain⟨b,i,e⟩:=h;simp only[SS]at g;exact⟨b,by simp_all[Ctx.back],e⟩
 case own k n=>
  obtain⟨h0,m,f,lv,i,e⟩:=h;simp only[SS]at g;exact⟨h0,m,f,lv,by simp_all[Ctx.back],e⟩
 case Wt k n qc=>
  obtain⟨m,f,lv,i,e⟩:=h;simp only[SS]at g;exact⟨m,f,lv,by simp_all[Ctx.back],e⟩
 case QS k=>
  obtain⟨b,i,e⟩:=h;simp only[SS]at g;exact⟨b,by simp_all[Ctx.back],e⟩
 case GL k n sz lo hi=>
  obtain⟨h0,m,f,lv,i,e⟩:=h;simp only[SS]at g;exact⟨h0,m,f,lv,by simp_all[Ctx.back],e⟩
 all_goals exact h
theorem Zc.back{x:X}{v:Value}(h:Zc c3 x v)(b:SR fs t x=true):Zc (c.back c3 fs t) x v:=by
 cases x
 case fn f vt=>grind [Zc,SR,Z1.cut,Xw.back]
 all_goals simp_all[Zc,SR,Xw.back]
def Holds.MB{vy:Nat}{x:X}{a':Act}(h:Holds c3 a w' vy x)(g:WO fs t (vy,x)=true):Holds (c.back c3 fs t) a' w' vy x:=by
 unfold WO at g;cases x
 case box vv=>
  simp only[Zw,ky,rb]at g;obtain⟨⟨⟨⟨D,p⟩,C⟩,B⟩,A⟩:=g;unfold Holds at h⊢;rw[Zm I]at h⊢;refine XH h λh=>?_
  rw[Zn p]at h⊢;obtain⟨b,o,u,j,T,vs,e,q⟩:=h;exact⟨b,o,by simp_all[Ctx.back],j,T,vs,e,Z1.cut (R':=Zc<|c.back c3 fs t) (ok:=SR fs t) (λ_ _ h g=>Zc.back h g) q A⟩
 case omap es=>
  simp only[Zw,ky,rb]at g;obtain⟨⟨⟨D,p⟩,C⟩,B⟩:=g;unfold Holds at h⊢;rw[Zm I]at h⊢;refine XH h λh=>?_
  rw[Zn p]at h⊢;obtain⟨b,o,u,j,q⟩:=h;exact⟨b,o,by simp_all[Ctx.back],j,q⟩
 case W8 sz xr mid post=>
  simp only[Zw,ky,rb]at g;obtain⟨⟨⟨⟨D,p⟩,C⟩,B⟩,A⟩:=g;unfold Holds at h⊢;rw[Zm I]at h⊢;refine XH h λh=>?_
  rw[Zm I,Zn p]at h⊢;obtain⟨i,f,v,e,vs,⟨G,F,M,K,J,W,V,S,O⟩,u,j⟩:=h;exact⟨i,f,v,e,vs,⟨G,F,M,K,J,W,V,Z1.cut (R':=Zc<|c.back c3 fs t) (ok:=SR fs t) (λ_ _ h g=>Zc.back h g) S A,O⟩,by simp_all[Ctx.back],j⟩
 case arr sz vi=>
  simp only[Zw,ky,rb]at g;obtain⟨⟨⟨D,p⟩,C⟩,B⟩:=g;unfold Holds at h⊢;rw[Zm I]at h⊢;refine XH h λh=>?_
  rw[Zm I,Zn p]at h⊢;obtain⟨i,f,v,e,vs,⟨G,F,N⟩,u,j⟩:=h;exact⟨i,f,v,e,vs,⟨G,F,N⟩,by simp_all[Ctx.back],j⟩
 all_goals cases g
end
variable{xo:Array TypeId}{os:List Operand}
variable{r r1 r2 r3 rg:St}{d ty:Nat}{v9:String}{v4:Array Edge}{y z:Operand}
section
variable{E:Env}{q0:Array Oper}{s:St}{jn:Option (Nat×Bool)}{x:Operand}
theorem S.dP{g:Nat}{fs:bc}{xs vt:bi}{qp:X}{t:St}
  (hf:∀(cL:Ctx)(B:Value),Zc cL (.fn f vt) B->Vi E.P g [] (ys++[.cb λv=>v=B]) [(3000,.res<|R5 fs t cL t)] [(3000,.res<|R5 fs t cL t')] qp)
  (hcall:∀vj w,(callFunc g vj).run E.P w=.ok (.enter g vj) w) (hg:Gd q0 s jn rg) (hd:ca E d=true) (ha:V5 s os xs r) (hx:ys++[.fn f vt]=xs) (ho:ys.all V3=true)
  (hcl:vt.all (SS fs t)=true) (hl:Yw s t) (ht:t.all (WO fs t)=true) (ht2:t'.all (WO fs t)=true) (hk:t.all (SN fs)=true) (D:cover fs t t'=true) (hhas:fs.all (λk=>hasB t k||VU t k)=true) (hdis:fs.all (λk=>!E.fs.contains k)=true) (hs:z_ qp=true):
  Zb E q0 ⟨some d,.call {callee:=.value<|.func g,args:=os.toArray,argTypes:=xo},ty,v9,v4,jn⟩ s (rg++(r++t)) ((d,qp)::t') []:=by
 subst hx;simp only[Zw,rb]at hd;refine⟨?_,hg.looks.app<|ha.looks.app hl⟩;intro U c a w M hr _ next Q hn
 have hw:=hg.wanted (o:=⟨some d,.call {callee:=.value<|.func g,args:=os.toArray,argTypes:=xo},ty,v9,v4,jn⟩) λp i=>hr p<|sb _ i;obtain⟨K,B,e1,hys,hv0⟩:=Z1.qX (ha.rep (c:=c) (a:=a) (w:=w) λp i=>hr p<|by simp[i]);have N:=Yj hys ho;have W:Zc c (.fn f vt) B:=hv0;have hvL:Zc (c.Yg fs t) (.fn f vt) B:=W.Yg (by grind [SR]);unfold T_;rw[Zn hw];refine⟨λ_ _=>trivial,?_⟩;rw[Oper.semAt_eq _ _ _ λcl he=>by cases he];have hfo:a.eval (.func g)=.func (.func g) #[] #[]:=rfl;have hrun:(execOp a.eval ⟨some d,.call {callee:=.value<|.func g,args:=os.toArray,argTypes:=xo},ty,v9,v4,jn⟩).run E.P w=.ok (.enter g (K++[B]).toArray) w:=by
  simp_all[execOp,resolve,Deferred.ofValue,invoke]
 rw[hrun];refine⟨Z,?_⟩;have j:∀p∈t,Holds c a w p.1 p.2:=λp i=>hr p (by simp[i])
 have hc0:=hf (c.Yg fs t) B hvL ⟨c.h,λ_=>none,λ_=>none,λb=>(c.Yg fs t).out fs b⟩ w (K++[B])
  ⟨M.hw,(λk b e=>by cases e),(λk m V b e=>by cases e),(λ_ _=>⟨rfl,rfl⟩),(λb T=>⟨by
   rcases Rz T with⟨k,_,_,h⟩|⟨k,m,V,_,_,h,h2⟩
   ·exact(M.loc k b h).2.1
   exact(M.arr k m V b h h2).2.1,(λk e=>by cases e),(λk m V e=>by cases e)⟩)⟩
  (by
   intro p i a';simp only[pi]at i;subst i;unfold Holds;rw[Zm I,Zm I,Zm I];exact .inr ⟨rfl,_,rfl,R5.ZV hk,c.Yg fs t,⟨rfl,MQ M,λb=>Iff.rfl,λk b e=>(Vn e).2.1,λk x e=>(VX e).2.1,Ext.refl _⟩,λp i a'=>(j p i).Yg<|bj.1 ht p i⟩)
  ((N.mono λ_ _=>YQ.mono<|Xn (c:=Ctx.mk c.h (λ_=>none) (λ_=>none) λb=>(c.Yg fs t).out fs b) rfl).append (show Z1 (YQ<|Ctx.mk c.h (λ_=>none) (λ_=>none) λb=>(c.Yg fs t).out fs b) [X.cb λv=>v=B] [B]from⟨rfl,Zo⟩))
 have h1:CallsIn E.ac (0 - 1) E.P g (K++[B]).toArray w _:=(callsIn_wide (n:=0)).2 hc0;refine h1.mono ?_;rintro en w' ⟨u,c2,rfl,A⟩;have hJ:=A.wr (3000,.res<|R5 fs t (c.Yg fs t) t') F a;unfold Holds at hJ;rw[Zm I,Zm I,Zm I]at hJ;rcases hJ with hJ|⟨_,J,eJ,_,hJ2⟩
 ·cases hJ
 cases eJ;obtain⟨c3,C,hp3⟩:=hJ2;have O:∀b,c3.out fs b->b<w.heap.size->(c.Yg fs t).out fs b:=by
  intro b ho hlt;rcases A.out b (.inl<|(C.Y b).2 ho) hlt with h|⟨k,h,_⟩|⟨k,m,V,h,_⟩
  all_goals simp_all
 have hB:KD E c c3 w w' fs t:=by
  refine⟨λk hk=>?_,λk hk=>?_,λk hk=>⟨λh=>?_,λh=>?_⟩,A.below.mono (Zq _) λk _ h=>?_,?_,λp v i=>?_,C.ok,O,C.ext⟩
  ·simp_all
  ·simp_all
  ·obtain⟨x0,hx0,hm⟩:=Wj h;exact TO (j _ hm) hx0 (Xm D hk).1
  ·grind [Rx,Jr]
  ·rcases h with h|⟨k,h,_⟩|⟨k,m,V,h,_⟩
   all_goals simp_all
  ·rw[C.hh];exact A.le
  rw[C.hh]at i;refine(A.new p v i).imp id λq=>q.imp id λq=>?_
  rcases q with h|⟨k,h,_⟩|⟨k,m,V,h,_⟩
  all_goals simp_all
 have G:=hB.ext';have hdt:d<a.tmps.size:=by rw[M.nt];exact hd.2
 have tk:∀p∈t',1000<=p.1:=by
  intro p i;have h:=bj.1 ht2 p i;obtain⟨vy,y⟩:=p;unfold WO at h;cases y
  case box vv=>simp_all
  case arr sz vi=>simp only[Zw,ky]at h;omega
  case omap es=>simp_all
  case W8 sz xr mid post=>simp only[Zw,ky]at h;omega
  all_goals cases h
 refine hn (c.back c3 fs t) _ w' ((M.back hB).put _ _) G ?_ ?_
 ·intro p i;rcases sf.1 i with rfl|i
  ·unfold Holds;rw[Zn hd.1,XN hdt];exact IY hs A.res
  have h:=Holds.MB (c:=c) (a':=a) (hp3 p i a)<|bj.1 ht2 p i;exact h.put (by grind) u
 intro vy y hk2 T;have hne:d≠vy:=hk2 (d,qp) F;by_cases h1:vy<1000
 ·refine Holds.put ?_ hne u;unfold Holds at T⊢;rw[Zn h1]at T⊢;exact T.mono G
 refine(Holds.back M hB h1 (λk hk3=>⟨λh e=>?_,λh e=>?_⟩) T).put hne u
 ·obtain⟨x0,_,hm⟩:=Wj<|(Xm D hk3).2.1 h;grind
 obtain⟨x0,_,hm⟩:=Rx<|(Xm D hk3).2.2 h;grind
end
structure MkI(P:Program)(e:TypeId)(zrow:bi):Prop where
 ex:∃i z,P.info? e=some i/\i.zero=some z/\∀h,Z1 (ZR h) zrow z.cells.toList
theorem Fj{α:Type}(l:List α):∀(n i:Nat),(List.replicate n l).flatten[i]?=if i<n * R l then l[i % R l]? else none
 |0,i=>by simp
 |n+1,i=>by
  rw[List.replicate_succ,P1,List.getElem?_append];split
  ·rename_i h;rw[Nat.mod_eq_of_lt h,Zn<|by grind]
  rename_i h;rw[Fj l n<|i - R l,bρ];by_cases b:i<n * R l+R l
  ·rw[Zn I,Zn b,←Nat.mod_eq_sub_mod I]
  grind
variable{vi x2:List bi}{e qc sz t:Nat}{U:bc}{vv us:bi}
section
variable{E:Env}{q0:Array Oper}{s:St}{jn:Option (Nat×Bool)}{x:Operand}
def S.make{bytes n k:Nat}{j:Int}{f:bi}(hA:RP E.P t e sz bytes)(hM:MkI E.P e f)(hg:Gd q0 s jn rg)(hd:ca E d=true)(hx:YO s x (.int .i64 j) r1)(hy:YO s y (.int .i64 j) r2)(hj:j=n)(hb1:n * bytes<=140737488355328)(N:n<=maxLen)
  (Y:E.fs.contains k=false:=by rfl) (Z:Nat.blt k 1000=true:=by rfl):
  Zb E q0 ⟨some d,.makeSlice t x y,ty,v9,v4,jn⟩ s (rg++(r1++r2)) ((d,.own k n)::[(2000+k,.arr sz<|List.replicate n f)]) [k]:=
 Zb.mk hg hd rfl (hx.looks.app hy.looks) λU c a w hb K hal=>by
  subst hj;rw[rb]at Z;have X:k∉U:=hal k F;obtain⟨ev,_⟩:=Xq (hx.rep (c:=c) (a:=a) (w:=w) λp J=>K p<|by simp[J]);obtain⟨ev2,_⟩:=Xq (hy.rep (c:=c) (a:=a) (w:=w) λp J=>K p<|by simp[J]);obtain⟨i,g,i1,i2,i3,i4,O⟩:=hA.ex;obtain⟨i',zv',m1,m2,m3⟩:=hM.ex;rw[i1]at m1;cases m1;rw[i2]at m2;cases m2;have A:R f=sz:=by rw[(m3 c.h).length,←O];simp
  subst i3;have hby:(i.bytes:Int) * n<=281474976710656:=by
   have e1:((i.bytes:Int) * n)=((n * bytes:Nat):Int):=by rw[←i4,Int.natCast_mul,cχ]
   rw[e1];omega
  have C:=run_make (P:=E.P) w t e i g hA.OA i1 i2 .i64 .i64 n n I (Int.le_refl _) hby (by unfold maxLen at N;omega);simp only[Int.toNat_natCast]at C;have hB:=Ww w<|.cells (madeCells g.cells<|n * i.size) e;obtain⟨g1,g2,g3,g4⟩:=hb.NQ (KT Y) X (n:=n) (v:=.slice (some ⟨w.heap.size,0,none⟩) n n) hB<|.inr ⟨rfl,F⟩;refine⟨.slice (some ⟨w.heap.size,0,none⟩) n n,_,_,?_,g1,g2,⟨⟨_,_,_,rfl⟩,n,_,_,g3,Zq _,λ_=>rfl⟩,?_,λvy u M _ G=>g4 vy u M G⟩
  ·simp only[execOp,ev,ev2,Sem.run_bind,C,Result.andThen_ok];rfl
  intro p J;simp only[pi]at J;subst J;have B:=size_madeCells g.cells<|n * i.size;refine Holds.PJ (e:=e) (vs:=(madeCells g.cells<|n * i.size).toList) I (by rw[bσ];exact g3) ⟨by simp[B],.inr ⟨w.heap.size,n,_,by rw[bσ],Zr _,heap_alloc_new w _,F,N,by rw[B],?_⟩⟩ (λq V=>by rw[dυ V];exact A) ?_
  ·rw[bσ,sg<|by simp[B]]
  refine Z1.WI (by rw[YM (sz:=i.size) λq V=>by rw[dυ V];exact A];simp[B]) λj u v G hv=>?_
  rw[Fj]at G;split at G
  ·rename_i W;simp only[madeCells,Array.toList_map,Array.toList_range,dp,List.getElem?_range (show j<n * i.size by rw[←A];exact W),cφ,bθ]at hv;subst hv;have T:0<i.size:=hA.pos;have D:j % R f<g.cells.size:=by rw[O,A];exact Nat.mod_lt _ T
   have h1:=(m3 c.h).get G (b:=g.cells[j % R f]) (by rw[cρ,Array.getElem?_eq_getElem D]);have e1:g.cells[j % g.cells.size]! =g.cells[j % R f]:=by
    rw[show j % g.cells.size=j % R f by rw[O,A]];exact getElem!_pos g.cells (j % R f) D
   rw[e1];exact h1.mono g2.h
  cases G
def S.LM{k n:Nat}(j:Gd q0 s jn rg)(hd:ca E d=true)(f:YO s x (.Wt k n qc) r)(i:look s (2000+k)=some (.arr sz vi))(h:R vi=n):
  Zb E q0 ⟨some d,.nilCheck x,ty,v9,v4,jn⟩ s (rg++(r++[(2000+k,.arr sz vi)])) [(d,.Wt k n qc)] []:=
 Zb.val j hd rfl (f.looks.app ⟨i,Zo⟩) λc A w hh g=>by
  subst h;have h0:=f.rep (c:=c) (a:=A) (w:=w) λp e=>g p (by simp[e])
  obtain⟨m,B,lv,u,G,q⟩:=O9 h0;obtain⟨v,I,vs,g1,g2,D,C⟩:=Wp<|g (2000+k,.arr sz vi) F;rw[u]at g1;cases g1;obtain⟨b,l,J,_,e⟩:=q rfl;refine⟨A.eval x,?_,h0⟩;simp only[execOp,e];rfl
def S.eqnil{j:Nat}(u:E.P.underlying t=some (.slice e))(B:Gd q0 s jn rg)(hd:ca E d=true)(i:YO s x (.sl vi) r)(f:0<R vi):
  Zb E q0 ⟨some d,.binOp .eql t x (.const<|.slice none 0 0) j,ty,v9,v4,jn⟩ s (rg++r) [(d,.bool false)] []:=
 Zb.val B hd rfl i.looks λc A w _ h=>by
  obtain⟨K,vz,q,J,I,g⟩:=Qb<|i.rep (c:=c) (a:=A) (w:=w) h;rcases g with g|⟨b,qc,p,vs,rfl,g,G,F,D⟩
  ·rw[g]at f;simp at f
  refine⟨.bool false,?_,ZR.WB<|.bool _⟩;have C:A.eval (.const<|.slice none 0 0)=.slice none 0 0:=rfl;have v:(eqGuard .eql t x (.const<|.slice none 0 0) (.slice (some ⟨b,qc,none⟩) (R vi) vz)<|.slice none 0 0).run E.P w=.ok () w:=by simp[eqGuard]
  have h:=Lib.run_eql_slice_nil (P:=E.P) w t e (some ⟨b,qc,none⟩) (R vi) vz 0 0 u;simp only[execOp,q,C,Sem.run_bind,v,Result.andThen_ok,h];rfl
theorem I1{α:Type}{sz:Nat}{us:List α}(e:R us=sz):∀{vi:List<|List α}{i:Nat},(∀q∈vi,R q=sz)->i<R vi->(vi.set i us).flatten=vi.flatten.take (i * sz)++(us++vi.flatten.drop (i * sz+sz))
 |[],_,_,h=>by simp at h
 |q::vi,0,hq,_=>by
  simp_all
 |q::vi,i+1,hq,h=>by
  have j:=hq q rv;have g:=I1 e (vi:=vi) (i:=i) (λb f=>hq b<|rl _ f) (by grind);simp_all[bρ,cξ,sg,dσ]
theorem Ja{α:Type}{l b:List α}{a s n:Nat}(g:R b=s)(f:a+s<=n)(e:n<=R l):(l.take a++(b++l.drop (a+s))).take n=(l.take n).take a++(b++(l.take n).drop (a+s)):=by
 have j:(l.take a).take n=l.take a:=by grind
 have i:(l.take n).take a=l.take a:=by grind
 have h:R (l.take a)=a:=by grind
 grind [List.take_append,List.take_of_length_le,List.drop_take]
theorem S.o8{T k n i:Nat}(ht:W5 E.P T true sz)(hg:Gd q0 s jn rg)(hx:YO s x (.Wt k n qc) r1)(hy:YO s y (.agg us) r2)(hl:look s (2000+k)=some (.arr sz vi))(hn:R vi=n)(K:qc=i * sz)(hi:i<n)(C:R us=sz)
  (ho:us.all FQ=true) (hD:us.all BI=true) (B:vi.set i us=x2) (N:Nat.blt k 1000=true:=by rfl):
  Zb E q0 ⟨none,.store T x y,ty,v9,v4,jn⟩ s (rg++(r1++(r2++[(2000+k,.arr sz vi)]))) [(2000+k,.arr sz x2)] []:=by
 subst B;subst hn;subst K;rw[rb]at N;refine⟨?_,hg.looks.app<|hx.looks.app<|hy.looks.app ⟨hl,Zo⟩⟩;intro U c a w hb W hal next Q hnx
 have hw:=hg.wanted (o:=⟨none,.store T x y,ty,v9,v4,jn⟩) λp f=>W p<|sb _ f;obtain⟨m,hv,lv,e1,e2,e3⟩:=O9 (hx.rep (c:=c) (a:=a) (w:=w) λp f=>W p<|by simp[f]);obtain⟨v,e',vs,g1,g2,g3,g4⟩:=Wp<|W (2000+k,.arr sz vi) F;rw[e1]at g1;cases g1;obtain⟨b,l,cp,rfl,f⟩:=e3 rfl;have Y:=hy.rep (c:=c) (a:=a) (w:=w) λp f=>W p (by simp[f])
 obtain⟨hc,J⟩:=Ux Y ho;have hds:=Od hc (by grind [Yv]);have hcl:=hc.length;have hcs:R (a.eval y).cells.toList=sz:=by rw[←hcl];exact C
 rcases g2.2 with⟨h0,_⟩|⟨g,vz,j,hs,hz,O,M,hcm,hcs2,nE⟩
 ·cases h0
 cases hs;have hvl:R vs=R vi * sz:=g2.1;have xf:i * sz+sz<=R vi * sz:=by rw[←bρ];exact m8 _ hi
 have hle2:R vi * sz<=cp * sz:=m8 _ M;have D:=run_storeCells_at E.P b (i * sz) e' (a.eval y).cells.toList 0 j w O I J;simp only[bγ]at D;obtain⟨w',A⟩:∃w',w'=w.setRow b (j.toList.take (i * sz)++(a.eval y).cells.toList++j.toList.drop (i * sz+R (a.eval y).cells.toList)).toArray:=⟨_,rfl⟩;have hgb:w.grownBy w'<|some b:=by
  subst A;exact⟨rfl,rfl,rfl,F,λk _ hk=>setRow_other w b k _ λe=>hk<|by rw[e]⟩
 obtain⟨p1,X,p3,p4⟩:=hb.append (n':=R vi) (v':=.slice (some ⟨b,0,none⟩) (R vi) cp) e1 hgb (Zq _) (λ_=>rfl) (.inl rfl)<|JL g2;have G:(execOp a.eval ⟨none,.store T x y,ty,v9,v4,jn⟩).run E.P w=.ok .skip w':=by
  subst A;have V:(a.eval y).cells.size=sz:=I
  simp[execOp,f,Instr.storeAt,Instr.sureAddr,storeVar,ht.size,V,D]
 unfold T_;rw[Zn hw];refine⟨λ_ _=>trivial,?_⟩;rw[Oper.semAt_eq _ _ _ (λcl he=>by cases he),G];refine hnx _ a w' p1 X ?_ ?_
 ·intro p f;simp only[pi]at f;subst f;have hrl:∀q∈vi.set i us,R q=sz:=λq hq=>by
   grind
  refine(Holds.PJ (e:=e') (vs:=vs.take (i * sz)++((a.eval y).cells.toList++vs.drop (i * sz+sz))) N (by rw[wi];exact p3) ?_ hrl ?_).2
  ·rw[wi];refine⟨?_,.inr ⟨b,cp,_,rfl,Zr _,by rw[A];exact setRow_heap w b j _ e' _ O,M,hcm,?_,?_⟩⟩
   ·grind
   ·grind
   simp_all[Ja]
  rw[I1 C g3 hi];exact((g4.take<|i * sz).append<|hds.append<|g4.drop<|i * sz+sz).mono λ_ _=>ZR.mono X.h
 intro vy u hk Z;have hne:(2000+k:Nat)≠vy:=hk (2000+k,.arr sz<|vi.set i us) F;by_cases h1:vy<1000
 ·unfold Holds at Z⊢;rw[Zn h1]at Z⊢;exact Z.mono X
 grind
def Good.QC{a:Act}{b i:Nat}{qs:bi}(D:Good E U s a w)(G:look s (1000+b)=some (.box vv))(e:Nat.blt b 1000=true)(hi:vv[i]?=some .ZM)(F:vv.set i (.sl [])=qs):
  Good E U ((1000+b,.box qs)::s) a w:=by
 subst F;obtain⟨c,A,hh⟩:=D;rw[rb]at e;refine⟨c,A,λvy y g=>?_⟩;simp only[look]at g;split at g
 ·rename_i h;have:=Nat.eq_of_beq_eq_true h;cases g;subst this;obtain⟨K,M,vs,J,I,B⟩:=VT (hh _ _ G) e;refine(Holds.MX e J I ?_).2;refine Z1.WI (by simpa using B.length) λj u v f C=>?_
  rw[aχ]at f;split at f
  ·rename_i q;subst q;split at f
   ·cases f;have p:v=.slice none 0 0:=B.get hi C;subst p;exact ZR.Av (c:=c)<|.I3 none 0<|Zr _
   cases f
  exact B.get f C
 simp_all
def OK.QC{U:bc}{qf:Code}{Q:bo}(b i:Nat){vv qs:bi}(j:look s (1000+b)=some (.box vv))(e:Nat.blt b 1000=true)(hi:vv[i]?=some .ZM)(g:vv.set i (.sl [])=qs)
 (h:OK E qf Q U<|(1000+b,.box qs)::s):OK E qf Q U s:=λa w f=>h a w<|f.QC j e hi g
end
variable{J:bm}
def WW{a:Act}(h:Holds c a w 3000<|.res J):Y2 J/\J c.h c.Y w:=by
 unfold Holds at h;rw[Zm I,Zm I,Zm I]at h;rcases h with h|⟨_,b,e,g,f⟩
 ·cases h
 have i:J=b:=e;simp_all
theorem Holds.Tp{a:Act}(e:Y2 J)(b:J c.h c.Y w):Holds c a w 3000<|.res J:=by
 unfold Holds;rw[Zm I,Zm I,Zm I];exact .inr ⟨rfl,J,rfl,e,b⟩
theorem Pv{p:Addr}{v:Value}(h:w.cell? p=some v):p=⟨p.block,p.off,none⟩:=by
 have b:p.spot=none:=by
  cases b:p.spot with
  |none=>rfl
  |some q=>grind [World.cell?]
 cases p;simp_all
variable{o:Nat}
section
variable{E:Env}{q0:Array Oper}{s:St}{jn:Option (Nat×Bool)}{x:Operand}
def S.qG{v:Value}{e:Addr}(h:Gd q0 s jn rg)(hd:ca E d=true)(b:YO s x (.raw v) r)(f:v=.pointer (some e)):
  Zb E q0 ⟨some d,.nilCheck x,ty,v9,v4,jn⟩ s (rg++r) [(d,.raw<|.pointer<|some e)] []:=
 Zb.val h hd rfl b.looks λc A w _ g=>by
  have h0:A.eval x=v:=b.rep (c:=c) (a:=A) (w:=w) g;subst f;exact⟨_,by simp only[execOp,h0];rfl,rfl⟩
def S.Ub{T b:Nat}(i:XJ E.P T f o)(h:Gd q0 s jn rg)(hd:ca E d=true)(e:YO s x (.raw<|.pointer<|some ⟨b,qc,none⟩) r):
  Zb E q0 ⟨some d,.fieldAddr T x f,ty,v9,v4,jn⟩ s (rg++r) [(d,.raw<|.pointer<|some ⟨b,qc+o,none⟩)] []:=
 Zb.val h hd rfl e.looks λc A w _ g=>by
  have h0:A.eval x=.pointer (some ⟨b,qc,none⟩):=e.rep (c:=c) (a:=A) (w:=w) g;refine⟨_,?_,rfl⟩;simp only[execOp,h0];rw[Sem.run_bind,Sk i];rfl
def S.Uc{T b:Nat}{u:X}(j:W5 E.P T false e)(C:Gd q0 s jn rg)(hd:ca E d=true)(f:YO s x (.raw<|.pointer<|some ⟨b,o,none⟩) r)(B:look s 3000=some (.res J))
  (i:∀h Y w,J h Y w->∃v,w.cell? ⟨b,o,none⟩=some v/\YG (ZL h) u v):Zb E q0 ⟨some d,.load T x,ty,v9,v4,jn⟩ s (rg++(r++[(3000,.res J)])) [(d,u)] []:=
 Zb.val C hd rfl (f.looks.app ⟨B,Zo⟩) λc A w _ g=>by
  have h0:A.eval x=.pointer (some ⟨b,o,none⟩):=f.rep (c:=c) (a:=A) (w:=w) λp q=>g p (by simp[q])
  obtain⟨v,G,D⟩:=i _ _ _ (WW<|g (3000,.res J) F).2;refine⟨v,?_,D.mono<|Xn rfl⟩;simp only[execOp,h0];rw[Sem.run_bind,RI j G];rfl
def S.qD{T n b:Nat}(j:W5 E.P T true n)(B:Gd q0 s jn rg)(hd:ca E d=true)(e:YO s x (.raw<|.pointer<|some ⟨b,o,none⟩) r)(u:look s 3000=some (.res J))
  (g:∀h Y w,J h Y w->∃vs:List Value,R vs=n/\(∀(i:Nat)(v:Value),vs[i]?=some v->w.cell? ⟨b,o+i,none⟩=some v)/\Z1 (Zc<|ZL h) us vs):Zb E q0 ⟨some d,.load T x,ty,v9,v4,jn⟩ s (rg++(r++[(3000,.res J)])) [(d,.agg us)] []:=
 Zb.val B hd rfl (e.looks.app ⟨u,Zo⟩) λc A w _ f=>by
  have h0:A.eval x=.pointer (some ⟨b,o,none⟩):=e.rep (c:=c) (a:=A) (w:=w) λp q=>f p (by simp[q])
  obtain⟨vs,G,D,C⟩:=g _ _ _ (WW<|f (3000,.res J) F).2;refine⟨.agg vs.toArray,?_,vs,rfl,C.mono λ_ _=>Zc.mono<|Xn rfl⟩;simp only[execOp,h0];rw[Sem.run_bind,RJ j G D];rfl
def Zb.res{op:Op}{J:bm}{i:X}(D:Gd q0 s jn rg)(b:MM op=false)(I:Yw s r)(A:look s 3000=some (.res J))
  (h:∀(U:bc)(c:Ctx)(a:Act)(w:World),ZB E U c a w->(∀p∈r,Holds c a w p.1 p.2)->J c.h c.Y w->∃w',(execOp a.eval ⟨none,op,ty,v9,v4,jn⟩).run E.P w=.ok .skip w'/\V7 c.h c.Y w c.h c.Y w'/\Holds c a w' 3000 i):
  Zb E q0 ⟨none,op,ty,v9,v4,jn⟩ s (rg++(r++[(3000,.res J)])) [(3000,i)] []:=by
 refine⟨?_,D.looks.app<|I.app ⟨A,Zo⟩⟩;intro U c a w B j M next Q q
 have hw:=D.wanted (o:=⟨none,op,ty,v9,v4,jn⟩) λp f=>j p<|sb _ f;obtain⟨w',g,f,O⟩:=h U c a w B (λp f=>j p<|by simp[f]) (WW<|j (3000,.res J) F).2;unfold T_;rw[Zn hw];refine⟨λ_ _=>trivial,?_⟩;rw[Oper.semAt_eq _ _ _ (λcl G=>by simp only at G;rw[G]at b;cases b),g];refine q c a w' (B.Ue f) (Ext.refl c) (λp f=>?_) λvy u K C=>?_
 ·simp_all
 have v:3000≠vy:=K (3000,i) F;by_cases N:vy<1000
 ·unfold Holds at C⊢;simp_all
 exact Holds.Ue B f N (λe=>v e.symm) C
theorem IC{a:Act}{w':World}{b:Nat}(u:ZB E U c a w)(D:c.Y b)(F:∀o,c.h ⟨b,o,none⟩=none)(q:w'.os=w.os)(i:w'.tape=w.tape)(g:w'.output=w.output)(A:w'.heap.size=w.heap.size)(C:∀j,j≠b->w'.heap[j]?=w.heap[j]?):V7 c.h c.Y w c.h c.Y w':=by
 refine⟨⟨q,i,g,I,λj _ f=>C j λe=>f<|e▸D⟩,Mem.le_refl _,λ_ _ e=>.inl e,λp v B=>?_,λj f=>by have:=(u.Y j f).1;omega,λj f _=>f⟩;have G:=u.hw p v B;grind [Pv,World.cell?_of_block]
end
variable{qf:Code}{Q:bo}
section
variable{E:Env}{s:St}{a:Act}
theorem ZB.addY(f:ZB E U c a w){b:Nat}(S:b<w.heap.size)(O:b<E.B->E.X b)(N:∀k,c.loc k≠some b)(M:∀k m G,c.arr k=some (m,G,true)->G.ownBlock≠some b)(K:∀o,c.h ⟨b,o,none⟩=none)(J:∃o:Obj,w.heap[b]?=some o/\o.isCells=true):
  ZB E U ⟨c.h,c.loc,c.arr,λx=>c.Y x\/x=b⟩ a w:=by
 have g:∀D,(Ctx.mk c.h c.loc c.arr λx=>c.Y x\/x=b).all D->c.all D\/D=b:=by
  intro D h;rcases h with(h|h)|h|h
  ·exact .inl<|.inl h
  ·exact .inr h
  ·exact .inl<|.inr<|.inl h
  exact .inl<|.inr<|.inr h
 have q:∀(D:Nat)(o:Obj),w.heap[D]?=some o->o.isCells=false->D≠b:=by
  grind
 refine⟨f.below,f.hB,f.nt,⟨f.RR.1,λd I=>?_⟩,λp j=>?_,f.hw,f.hle,λp v j=>?_,f.loc,f.arr,f.used,λx i=>?_,f.UU,f.Uw⟩
 ·obtain⟨D,F,C,A,u⟩:=f.RR.2 d I;exact⟨D,F,C,λe=>(g D e).elim A<|q D _ u rfl,u⟩
 ·obtain⟨F,C,A⟩:=f.M6 p j;grind
 ·exact f.hnew p v j
 rcases i with i|rfl
 ·exact f.Y x i
 grind
def Holds.addY{b vy:Nat}{x:X}(p:vy≠3000)(h:Holds c a w vy x):Holds ⟨c.h,c.loc,c.arr,λx=>c.Y x\/x=b⟩ a w vy x:=by
 have f:Ext c ⟨c.h,c.loc,c.arr,λx=>c.Y x\/x=b⟩:=⟨Mem.le_refl _,λ_ _ e=>e,λ_ m j lv e=>⟨m,j,lv,e,Zq _,λ_=>rfl⟩⟩;unfold Holds at *;split at h
 ·rename_i u;rw[Zn u];exact h.mono f
 rename_i u;rw[Zm u];refine XH h λh=>?_
 split at h
 ·rename_i q;rw[Zn q];obtain⟨b,o,i,g,A⟩:=h;exact⟨b,o,i,g,A.mono f⟩
 rename_i q;rw[Zm q];split at h
 ·rename_i C;rw[Zn C];obtain⟨v,vi,j,e,vs,B,i,g⟩:=h;exact⟨v,vi,j,e,vs,B.mono f,i,g⟩
 exact absurd h.1 p
theorem Good.give{U':List Nat}{s1:St}{k:Nat}{vv:List X}(hg:Good E U s a w)(W:look s t=some (.ptr k 0))(q:Nat.blt t 1000=true)(hb:look s (1000+k)=some (.box vv))(u:Nat.blt k 1000=true)(hk9:k∉E.fs)(hkU:U'.contains k=false)(hl:Le s s1)(ho:s1.all (VB U')=true)(h3:s1.all (λp=>!Nat.beq p.1 3000)=true)
  {R:Nat->bm} (hR:∀c b,ZB E U c a w->(∀vy x,look s vy=some x->Holds c a w vy x)->c.loc k=some b->R b c.h c.Y w):
  ∃b,∀J:bm,Y2 J->(∀h Y T vs,R b h Y w->w.heap[b]?=some (.cells vs T (0,0))->(∃c:Ctx,c.h=h/\Z1 (Zc c) vv vs.toList)->(∀o,h ⟨b,o,none⟩=none)->¬Y b->J h (λx=>Y x\/x=b) w)->
   Good E U' ((t,.raw<|.pointer<|some ⟨b,0,none⟩)::(3000,.res J)::s1) a w:=by
 obtain⟨c,f,hh⟩:=hg;rw[rb]at u;obtain⟨b,g,V⟩:=RY<|(hh _ _ W).slot q;obtain⟨b',T,vs,B,A,I⟩:=VT (hh _ _ hb) u;rw[g]at B;cases B;obtain⟨C,N,M,q4,q5⟩:=f.loc k b g;have Z:=hR c b f hh g;refine⟨b,λJ hS hJ=>?_⟩;have F:¬c.Y b:=λO=>(f.Y b O).2.2.1 k g
 have G:J c.h (λx=>c.Y x\/x=b) w:=by
  exact hJ c.h c.Y T vs Z A ⟨c,rfl,I⟩ M F
 have v:=f.cut U';have K:=v.addY (b:=b) N (λhlt=>by rcases C with C|C;all_goals grind) (λj G=>by
  grind [Ctx.cut]) (λj m S G e=>by
  grind [Ctx.cut]) M ⟨_,A,rfl⟩
 refine⟨_,K,λvy x i=>?_⟩;simp only[look]at i;split at i
 ·rename_i e;have:=Nat.eq_of_beq_eq_true e;cases i;subst this;unfold Holds;rw[Zn<|by simpa using q];exact V
 split at i
 ·rename_i e;have:=Nat.eq_of_beq_eq_true e;cases i;subst this;exact Holds.Tp hS G
 have hm:=XO i;have D:vy≠3000:=λe=>by
  simp_all
 exact Holds.addY D<|Holds.cut (hh vy x<|hl.look vy x i)<|bj.1 ho _ hm
def OK.nu{J0:bm}{J:Nat->bm}(U':bc)(s1:St)(t:Nat){k:Nat}(f:look s 3000=some (.res J0))(D:look s t=some (.ptr k 0))(e:Nat.blt t 1000=true)(K:look s (1000+k)=some (.box vv))(j:Nat.blt k 1000=true)(i:E.fs.contains k=false)
  (g:U'.contains k=false) (G:Le s s1) (F:s1.all (VB U')=true) (O:s1.all (λp=>! Nat.beq p.1 3000)=true) (M:∀b,Y2<|J b)
  (N:∀b h Y T vs w,J0 h Y w->w.heap[b]?=some (.cells vs T (0,0))->(∃c:Ctx,c.h=h/\Z1 (Zc c) vv vs.toList)->(∀o,h ⟨b,o,none⟩=none)->¬Y b->J b h (λx=>Y x\/x=b) w)
  (h:∀b,OK E qf Q U'<|(t,.raw<|.pointer<|some ⟨b,0,none⟩)::(3000,.res<|J b)::s1):OK E qf Q U s:=λa w I=>by
 obtain⟨b,q⟩:=I.give (U':=U') (s1:=s1) (R:=λ_ h Y w=>J0 h Y w) D e K j (KT i) g G F O λc b _ hh _=>(WW<|hh _ _ f).2
 exact h b a w<|q (J b) (M b) λh Y T vs C B A v u=>N b h Y T vs w C B A v u
def OK.YS{J':bm}(f:look s 3000=some (.res J))(j:Y2 J')(p:∀h Y w,J h Y w->J' h Y w)(h:OK E qf Q U<|(3000,.res J')::s):OK E qf Q U s:=λa w g=>by
 obtain⟨c,i,hh⟩:=g;refine h a w ⟨c,i,λvy x b=>?_⟩;simp only[look]at b;split at b
 ·rename_i e;have:=Nat.eq_of_beq_eq_true e;cases b;subst this;exact Holds.Tp j<|p _ _ _ (WW<|hh _ _ f).2
 exact hh vy x b
end
variable{ι:Type}
def dG(P:Program)(f:Nat)(vj:bi)(qp:ι->X)(J:ι->bm):Prop:=
 ∀(h:Mem)(w:World)(vs:List Value),(∀p v,h p=some v->w.cell? p=some v)->Z1 (YQ<|ZL h) vj vs->
  Calls P f vs.toArray w λen w'=>∃q v b e,en=.returned v/\V7 h (λ_=>False) w b e w'/\YG (ZL b) (qp q) v/\J q b e w'
def RetX(E:Env)(rs:List ResultVar)(qp:ι->X)(J:ι->bm):bo:=λe U s=>∃q,Kb E rs (qp q) e U s/\look s 3000=some (.res<|J q)
theorem dG.intro{P:Program}{f nt:Nat}{fn:Func}{qf:Code}{rs:List ResultVar}{vj:bi}{ι:Type}{qp:ι->X}{J:ι->bm}(hf:P.funcs[f]?=some fn)(hb:fn.body=some qf)(hn:fn.ntmps=nt)(hr:fn.results=rs.toArray)
  (hl:Nat.ble (R vj) nt=true) (ht:vj.all (λx=>!X4 x)=true) (O:Nat.ble (R vj) 1000=true)
  (h:∀w c,OK (TG P nt [] w c) qf (den (TG P nt [] w c) (RetX (TG P nt [] w c) rs qp J) []) []<|Uj 0 vj):dG P f vj qp J:=by
 intro h0 w vs hw A;refine(callsIn_wide (n:=0)).1<|callsIn_of_wp_marks hf hb trivial ?_ rfl;have qk:=A.length;rw[ky]at hl O;have G:∀b,¬(ZL h0).out [] b:=by
  rintro b (T|⟨k,_,e⟩|⟨k,m,Z,_,e,_⟩)
  all_goals simp_all
 refine wpIn_mono (h w (ZL h0) {tmps:=vs.toArray++Array.replicate (fn.ntmps - vs.toArray.size) undef,defers:=[]} w ?_) ?_
 ·refine⟨ZL h0,⟨WV.refl _ _ _,Zq _,?_,⟨.nil,λd hd=>by cases hd⟩,(λp N=>by cases N),hw,Mem.le_refl _,λp v e=>.inl e,(λk b e=>by cases e),(λk m Z b e=>by cases e),(λ_ _=>⟨rfl,rfl⟩),(λb e=>e.elim),(λk b _ e=>by cases e),(λk m Z lv _ e=>by cases e)⟩,λvy x hx=>TV A ht O vy x hx⟩;simp_all
 rintro e I w' ⟨U',s',⟨c,g,hh⟩,q,⟨he,ys,W,M⟩,hl3⟩;have hE:(TG P nt [] w<|ZL h0).B=w.heap.size:=rfl;have C:LeavesInM Fence.wide 0 P fn I.tmps (λen w'=>∃q v h' Y',en=.returned v/\V7 h0 (λ_=>False) w h' Y' w'/\YG (ZL h') (qp q) v/\J q h' Y' w') I.defers .returning w':=by
  refine VG (B:=w.heap.size) (aw:=c.all) I.defers w' g.RR.1 ?_ ?_
  ·intro d hd;obtain⟨D,h1,u,V,h4⟩:=g.RR.2 d hd;simp_all
  intro S e1 e2 e3 e4 e5 e6;obtain⟨g,hh⟩:=g.calm hh e1 e2 e3 e4 rfl e5 e6;obtain⟨j,h1,u,V⟩:=Sl g hh W;have K:(results fn I.tmps).run P S=.ok (if h:j.toArray.size=1 then j.toArray[0]else .tuple j.toArray) S:=by
   have he:results fn I.tmps=(fn.results.mapM (NZ I.tmps)>>=λvs=>pure (if h:vs.size=1 then vs[0]else .tuple vs)):=by
    rfl
   simp_all
  have i:=Rj.El (s:=s') (wr:=[(3000,.res<|J q)]) (qp:=qp q) (v:=if h:j.toArray.size=1 then j.toArray[0]else .tuple j.toArray) g hE hh ⟨hl3,Zo⟩ rfl (by
   rw[←M];have hl:=u.length
   match ys,j,u,V,hl with
   |[y],[v],u,V,_=>exact ap.WB u.1<|V y F
   |[],[],u,_,_=>exact⟨[],rfl,Zo⟩
   |y1::y2::ys,v1::v2::vs,u,_,_=>exact⟨v1::v2::vs,F,u⟩
   |[_],[],u,_,_=>grind
   |[],_::_,u,_,_=>grind
   |[_],_::_::_,u,_,_=>grind
   |_::_::_,[],u,_,_=>grind
   |_::_::_,[_],u,_,_=>grind) (λb h=>h.elim id λ⟨p,N,_⟩=>by cases N)
  obtain⟨_,hJ1⟩:=WW<|i.wr (3000,.res<|J q) F {tmps:=#[],defers:=[]};refine⟨_,K,q,_,(c.TH []<|(TG P nt [] w<|ZL h0).fin c S).h,(c.TH []<|(TG P nt [] w<|ZL h0).fin c S).Y,rfl,⟨i.below.mono (Zq _) λk _ hk=>(G k hk).elim,i.le,λp v N=>(i.new p v N).imp id λq=>q.imp id λq=>(G _ q).elim,i.ok.hw,λb T=>(i.ok.Y b T).1,λb T hlt=>G b<|i.out b (.inl T) hlt⟩,?_,hJ1⟩;refine i.res.mono ⟨Mem.le_refl _,λk b e=>?_,λk m Z lv e=>?_⟩
  all_goals grind
 rcases he with rfl|rfl
 ·exact C
 exact C
section
variable{E:Env}{q0:Array Oper}{s:St}{x:Operand}
theorem RK.callX{l:List Oper}{g:Nat}{qp:ι->X}{J:ι->bm}(hf:dG E.P g ys qp J)(hS:∀q,Y2<|J q)(hm:∀q h Y B w,J q h Y w->(∀b,Y b->B b)->J q h B w)
  (hcall:∀vj w,(callFunc g vj).run E.P w=.ok (.enter g vj) w) (hd:ca E d=true) (ha:V5 s os ys r) (ho:ys.all V3=true)
  (h:∀q,RK E q0 l U ((d,qp q)::(3000,.res<|J q)::s) Q):RK E q0 (⟨some d,.call {callee:=.value<|.func g,args:=os.toArray,argTypes:=xo},ty,v9,v4,none⟩::l) U s Q:=by
 simp only[Zw,rb]at hd;intro k hk a w hg;rw[tt,bχ,wpOpsIn_cons];refine WA (by simpa using hk 0) ?_;obtain⟨c,S,hh⟩:=hg;have hw:Region.wanted (⟨some d,.call {callee:=.value<|.func g,args:=os.toArray,argTypes:=xo},ty,v9,v4,none⟩:Oper) (yielded q0 a.tmps)=true:=rfl;have D:=Yj (ha.rep (c:=c) (a:=a) (w:=w) λp f=>hh p.1 p.2<|ha.looks.all p f) ho;unfold T_;rw[Zn hw];refine⟨λ_ _=>trivial,?_⟩;rw[Oper.semAt_eq _ _ _ λcl he=>by cases he];have hfo:a.eval (.func g)=.func (.func g) #[] #[]:=rfl;have G:(execOp a.eval ⟨some d,.call {callee:=.value<|.func g,args:=os.toArray,argTypes:=xo},ty,v9,v4,none⟩).run E.P w=.ok (.enter g (os.map a.eval).toArray) w:=by
  simp_all[execOp,resolve,Deferred.ofValue,invoke]
 rw[G];refine⟨Z,?_⟩;have T:CallsIn E.ac (0 - 1) E.P g (os.map a.eval).toArray w _:=(callsIn_wide (n:=0)).2<|hf c.h w _ S.hw D;refine T.mono ?_;rintro en w' ⟨q,v,V,B,rfl,f,I,hJ⟩;have hfr:∀b,B b->w.heap.size<=b:=λb i=>dφ λN=>f.out b i N
 have K:V7 c.h c.Y w V (λb=>c.Y b\/B b) w':=by
  refine⟨f.below.mono (Zq _) λ_ _ e=>e.elim,f.le,λp v W=>(f.new p v W).imp id λe=>e.imp id λe=>e.elim,f.hw,λb i=>?_,λb i N=>?_⟩
  ·rcases i with i|i
   ·have:=(S.Y b i).1;have:=f.below.size;omega
   exact f.lt b i
  grind
 have O:Ext c ⟨V,c.loc,c.arr,λb=>c.Y b\/B b⟩:=⟨f.le,λ_ _ e=>e,λ_ m W lv e=>⟨m,W,lv,e,Zq _,λ_=>rfl⟩⟩;have hdt:d<a.tmps.size:=by rw[S.nt];exact hd.2
 refine h q (k+1) (λj=>?_) _ _ ⟨⟨V,c.loc,c.arr,λb=>c.Y b\/B b⟩,(S.Ue K).put _ _,λvy u F=>?_⟩
 ·have:=hk<|j+1;grind
 simp only[look]at F;split at F
 ·rename_i e;have:=Nat.eq_of_beq_eq_true e;cases F;subst this;unfold Holds;rw[Zn hd.1,XN hdt];exact I.mono<|Xn (c:=⟨V,c.loc,c.arr,λb=>c.Y b\/B b⟩) rfl
 rename_i hne;have A:d≠vy:=λe=>hne (by simp_all)
 split at F
 ·grind [Nat.eq_of_beq_eq_true,Holds.Tp]
 rename_i M;have C:vy≠3000:=λe=>M (by simp_all)
 have h0:=hh vy u F;by_cases T:vy<1000
 ·refine Holds.put ?_ A _;unfold Holds at h0⊢;rw[Zn T]at h0⊢;exact h0.mono O
 exact(Holds.Ue S K T C h0).put A _
end
def PG{α:Type}:List (ba×α)->ba->Option α
 |[],_=>none
 |p::l,k=>if p.1=k then some p.2 else PG l k
def ID{α:Type}:List (ba×α)->ba->α->List (ba×α)
 |[],k,v=>[(k,v)]
 |p::l,k,v=>if p.1=k then(k,v)::l else p::ID l k v
def QN(l:List<|ba×X):List<|X×X:=l.map λp=>(.str p.1,p.2)
abbrev x6(h:Mem):X×X->MapEntry->Prop:=λp m=>ZR h p.1 m.key/\YQ (ZL h) p.2 m.val
def jS{s:ba}{v:Value}(r:ZR h (.str s) v):v=.string ⟨s.toArray⟩:=by cases r;rfl
theorem CB(a b:ba):Instr.sameNow .string (.string ⟨a.toArray⟩) (.string ⟨b.toArray⟩)=some (decide<|b=a):=by
 have h:((⟨a.toArray⟩:ByteArray)==⟨b.toArray⟩)=decide (b=a):=by
  rw[cδ,MapKept.bytes_beq,aζ];grind
 simp only[Instr.sameNow,h]
theorem HL{h:Mem}{k:ba}:∀{l:List<|ba×X}{es:List MapEntry}(i:Nat),Z1 (x6 h) (QN l) es->
  (PG l k=none/\Instr.findNow .string (.string ⟨k.toArray⟩) es i=some none/\(∀m∈es,m.key≠.string ⟨k.toArray⟩)/\∀u,ID l k u=l++[(k,u)])\/
  ∃j u m,PG l k=some u/\Instr.findNow .string (.string ⟨k.toArray⟩) es i=some (some (i+j,m.val))/\es[j]?=some m/\m.key=.string ⟨k.toArray⟩/\YQ (ZL h) u m.val/\l[j]?=some (k,u)/\∀e,ID l k e=l.set j (k,e)
 |[],[],i,_=>.inl ⟨rfl,rfl,(λm D=>by cases D),λu=>rfl⟩
 |p::l,m::es,i,hr=>by
  obtain⟨⟨J,I⟩,G⟩:=hr;have F:=jS J;by_cases b:p.1=k
  ·refine .inr ⟨0,p.2,m,by simp[PG,b],?_,rfl,by rw[F,b],I,by grind,λe=>by simp[ID,b]⟩;simp_all[Instr.findNow,CB]
  have M:∀i,Instr.findNow .string (.string ⟨k.toArray⟩) (m::es) i=Instr.findNow .string (.string ⟨k.toArray⟩) es (i+1):=by
   simp_all[Instr.findNow,CB]
  rcases HL (k:=k) (i+1) G with⟨g,B,A,f⟩|⟨j,u,C,g,B,A,f,v,K,q⟩
  ·grind [PG,ID]
  refine .inr ⟨j+1,u,C,by simp[PG,b,g],by grind,by grind,f,v,by grind,λe=>by simp[ID,b,q]⟩
 |[],_::_,_,h=>h.elim
 |_::_,[],_,h=>h.elim
section
variable{E:Env}{a:Act}
theorem ZB.EP(f:ZB E U c a w){k b:Nat}(V:c.loc k=some b)(e1:w'.os=w.os)(e2:w'.tape=w.tape)(e3:w'.output=w.output)(C:w'.heap.size=w.heap.size)(W:∀j,j≠b->w'.heap[j]?=w.heap[j]?):
  ZB E U c a w'/\∀vy y,¬vy<1000->vy≠1000+k->Holds c a w vy y->Holds c a w' vy y:=by
 obtain⟨q1,q2,q3,q4,q5⟩:=f.loc k b V;have Z:c.all b:=.inr<|.inl ⟨k,V⟩;have A:∀p v,c.h p=some v->w'.cell? p=some v:=by
  intro p v N;have h0:=f.hw p v N;grind [Pv,World.cell?_of_block]
 refine⟨⟨f.below.trans ⟨e1,e2,e3,I,λj X K=>W j<|Env.QT q1 X K⟩,by rw[C];exact f.hB,f.nt,⟨f.RR.1,λd hd=>?_⟩,λp N=>?_,A,f.hle,f.hnew,?_,?_,f.used,?_,f.UU,f.Uw⟩,?_⟩
 ·obtain⟨D,h2,h3,h4,h5⟩:=f.RR.2 d hd;grind
 ·obtain⟨h2,h3,h4⟩:=f.M6 p N;grind
 ·rw[C];exact f.loc
 ·rw[C];exact f.arr
 ·rw[C];exact f.Y
 intro vy u B hne q;unfold Holds at q⊢;rw[Zm B]at q⊢;refine XH q λq=>?_
 split at q
 ·grind [Ri]
 rename_i O;rw[Zm O];split at q
 ·rename_i i;rw[Zn i];obtain⟨sz,vi,M,e,F,K,f1,f2,f3⟩:=q;refine⟨sz,vi,M,e,F,K,f1,⟨f2.1,f2.2.imp id ?_⟩,f3⟩;rintro⟨g,vz,cur,p1,p2,p3,p4⟩;exact⟨g,vz,cur,p1,p2,(W g λe=>q5 _ _ _ f1<|by rw[p1,←e];rfl).trans p3,p4⟩
 rename_i i;rw[Zm i];obtain⟨S,J,G,hJ,T⟩:=q;exact⟨S,J,G,hJ,hJ _ _ _ _ _ T (Mem.le_refl _) (λ_ _ e=>.inl e) A ⟨e1,e2,e3,I,λj X=>I⟩ λb2 hy=>W b2 λe=>by subst e;exact(f.Y _ hy).2.2.1 k V⟩
end
variable{vy:ba}
section
variable{E:Env}{q0:Array Oper}{s:St}{jn:Option (Nat×Bool)}{x:Operand}
theorem JO{a:Act}{k:Nat}{es:List<|X×X}(h:Holds c a w (1000+k)<|.omap es)(g:k<1000):
  ∃b f e,c.loc k=some b/\w.heap[b]?=some (.map f e)/\MapKept.Stamped f e/\Z1 (x6 c.h) es f.toList:=by
 unfold Holds at h;rw[Zm I,Zn I,H3]at h;rcases h with h|⟨b,o,q,p,f,e,rfl,j,i⟩
 all_goals grind
def Holds.mkMap{a:Act}{k b:Nat}{f:Array MapEntry}{es:List<|X×X}(q:k<1000)(p:c.loc k=some b)(j:w.heap[b]?=some (.map f e))(i:MapKept.Stamped f e)(g:Z1 (x6 c.h) es f.toList):
  ¬(1000+k<1000)/\Holds c a w (1000+k) (.omap es):=by
 refine⟨I,?_⟩;unfold Holds;rw[Zm I,Zn I,H3];exact .inr ⟨b,_,p,j,f,e,rfl,i,g⟩
def JK{k:Nat}{v:Value}(h:YG c (.QS k) v):∃b,c.loc k=some b/\v=.map (some b):=h
def S.Bu{k:Nat}(q:Nat.blt k 1000=true)(v:Gd q0 s jn rg)(hd:(Nat.blt d 1000&&Nat.blt d E.nt)=true)(f:E.fs.contains k=false:=by rfl):
  Zb E q0 ⟨some d,.makeMap t none,ty,v9,v4,jn⟩ s (rg++[]) ((d,.QS k)::[(1000+k,.omap [])]) [k]:=
 Zb.mk v hd rfl trivial λU c a w A _ g=>by
  rw[rb]at q;have e:k∉U:=g k F;obtain⟨g1,g2,i,C,B⟩:=A.boxO (KT f) e<|.map #[] 0;refine⟨.map<|some w.heap.size,_,w.alloc<|.map #[] 0,rfl,g1,g2,⟨w.heap.size,i,rfl⟩,?_,?_⟩
  ·intro p h;simp only[pi]at h;subst h;exact Holds.mkMap I i C (MapKept.stamped_empty 0) trivial
  intro vy u b _ j;exact B vy u b j
def S.nU{K k:Nat}{l:List<|ba×X}{es:List<|X×X}{q:Value}{zx:X}(O:E.P.underlying t=some (.map K e))(i:E.P.underlying K=some .string)(hz:∀w,(zeroValue e).run E.P w=.ok q w)(C:∀c,YQ c zx q)(hg:Gd q0 s jn rg)(hd:ca E d=true)
  (N:YO s x (.QS k) r1) (M:YO s y (.str vy) r2) (hl:look s (1000+k)=some (.omap es)) (I:es=QN l) (f:X4 ((PG l vy).getD zx)=false) (h:Nat.blt k 1000=true:=by rfl):
  Zb E q0 ⟨some d,.lookup t x y false,ty,v9,v4,jn⟩ s (rg++(r1++(r2++[(1000+k,.omap es)]))) [(d,(PG l vy).getD zx)] []:=
 Zb.val hg hd rfl (N.looks.app<|M.looks.app ⟨hl,Zo⟩) λc A w _ D=>by
  subst I;rw[rb]at h;obtain⟨b,h1,h0⟩:=JK (N.rep (c:=c) (a:=A) (w:=w) λp G=>D p<|by simp[G]);obtain⟨b',Z,J,W,V,_,h4⟩:=JO (D (1000+k,.omap<|QN l) F) h;rw[h1]at W;cases W;obtain⟨T,_⟩:=Uu (M.rep (c:=c) (a:=A) (w:=w) λp G=>D p<|by simp[G]);have g:MapKept.IsKey .string<|.string ⟨vy.toArray⟩:=trivial;rcases HL (k:=vy) 0 h4 with⟨B,v,_⟩|⟨j,u,m,B,v,_,_,Y,_⟩
  ·rw[B]at f⊢;refine⟨q,?_,ap.WB (C c) f⟩;simp[execOp,h0,T,Instr.lookup,run_underlying O,MapKept.run_getObj_map V,MapKept.run_checkKey i g,MapKept.run_findKey i v,hz]
  rw[B]at f⊢;refine⟨m.val,?_,ap.WB (Y.mono<|Xn rfl) f⟩;simp[execOp,h0,T,Instr.lookup,run_underlying O,MapKept.run_getObj_map V,MapKept.run_checkKey i g,MapKept.run_findKey i v]
theorem iH{u:X}{v:Value}{l:List<|ba×X}{f:Array MapEntry}{b:Nat}(hs:MapKept.Stamped f b)(A:Z1 (x6 h) (QN l) f.toList)(M:ZR h (.str vy)<|.string ⟨vy.toArray⟩)(K:YQ (ZL h) u v):
  (Instr.findNow .string (.string ⟨vy.toArray⟩) f.toList 0=some none/\MapKept.Stamped (f.push ⟨.string ⟨vy.toArray⟩,v,b⟩) (b+1)/\Z1 (x6 h) (QN<|ID l vy u) (f.push ⟨.string ⟨vy.toArray⟩,v,b⟩).toList)\/
  ∃j m,Instr.findNow .string (.string ⟨vy.toArray⟩) f.toList 0=some (some (j,m.val))/\f[j]?=some m/\m.key=.string ⟨vy.toArray⟩/\MapKept.Stamped (f.modify j λe=>{e with key:=.string ⟨vy.toArray⟩,val:=v}) b/\
   Z1 (x6 h) (QN<|ID l vy u) (f.modify j λe=>{e with key:=.string ⟨vy.toArray⟩,val:=v}).toList:=by
 rcases HL (k:=vy) 0 A with⟨J,q,D,B⟩|⟨j,N,m,J,q,D,B,S,O,I⟩
 ·refine .inl ⟨q,MapKept.stamped_push hs D,?_⟩;rw[B,Array.toList_push];simp only[QN,ne,ta,H2];exact A.append ⟨⟨M,K⟩,Zo⟩
 rw[wc]at q;have C:f[j]?=some m:=by grind
 refine .inr ⟨j,m,q,C,B,MapKept.stamped_modify hs j _ (λ_ _=>rfl) λe _ V=>by simp_all,?_⟩;rw[I];have qk:=A.length;refine Z1.WI (by simp_all[QN]) λi p T F G=>?_
 simp only[QN,dp,aχ]at F;rw[cρ,Array.getElem?_modify]at G;by_cases g:j=i
 ·grind
 rw[Zm g]at G;rw[Zm g]at F;exact A.get (i:=i) (by grind [QN]) (by grind)
def S.iG{kt k:Nat}{u:X}{l:List<|ba×X}{es es':List<|X×X}(ht:E.P.underlying t=some (.map kt e))(M:E.P.underlying kt=some .string)(hg:Gd q0 s jn rg)
  (hx:YO s x (.QS k) r1) (C:YO s y (.str vy) r2) (hz:YO s z u r3) (hu:V3 u=true) (hl:look s (1000+k)=some (.omap es)) (hes:es=QN l) (I:QN (ID l vy u)=es') (v:Nat.blt k 1000=true:=by rfl):
  Zb E q0 ⟨none,.mapUpdate t x y z,ty,v9,v4,jn⟩ s (rg++(r1++(r2++(r3++[(1000+k,.omap es)])))) [(1000+k,.omap es')] []:=
 Zb.rP hg rfl (hx.looks.app<|C.looks.app<|hz.looks.app ⟨hl,Zo⟩) λU c a w hb K=>by
  subst hes;subst I;rw[rb]at v;obtain⟨b,J,h0⟩:=JK (hx.rep (c:=c) (a:=a) (w:=w) λp q=>K p<|by simp[q]);obtain⟨b',D,g,h2,A,hs,h4⟩:=JO (K (1000+k,.omap<|QN l) F) v;rw[J]at h2;cases h2;have G:=C.rep (c:=c) (a:=a) (w:=w) λp q=>K p (by simp[q])
  obtain⟨h5,_⟩:=Uu G;have Y:ZR c.h (.str vy)<|.string ⟨vy.toArray⟩:=h5▸G;have W:=hz.rep (c:=c) (a:=a) (w:=w) λp q=>K p (by simp[q])
  have hv:YQ (ZL c.h) u<|a.eval z:=(Yj (ys:=[u]) (vs:=[a.eval z]) ⟨W,Zo⟩<|by simp[hu]).1;have f:MapKept.IsKey .string<|.string ⟨vy.toArray⟩:=trivial;rcases iH hs h4 Y hv with⟨O,N,q4⟩|⟨j,m,O,N,q5,q6,q7⟩
  ·obtain⟨V,T⟩:=hb.EP (w':={w with heap:=w.heap.setIfInBounds b (.map (D.push ⟨.string ⟨vy.toArray⟩,a.eval z,g⟩)<|g+1)}) J rfl rfl rfl F λj Z=>(MapKept.heap_set A).2 j Z
   refine⟨_,?_,V,?_,λi y f B C=>T i y f (λe=>B _ (pi.2 rfl) e.symm) C⟩
   ·simp[execOp,h0,h5,Instr.mapUpdate,run_underlying ht,MapKept.run_getObj_map A,MapKept.run_checkKey M f,MapKept.run_findKey M O,MapKept.run_setObj_map _ A]
   intro p q;simp only[pi]at q;subst q;exact Holds.mkMap v J (MapKept.heap_set A).1 N q4
  obtain⟨V,T⟩:=hb.EP (w':={w with heap:=w.heap.setIfInBounds b (.map (D.modify j λe=>{e with key:=.string ⟨vy.toArray⟩,val:=a.eval z}) g)}) J rfl rfl rfl F λj Z=>(MapKept.heap_set A).2 j Z
  refine⟨_,?_,V,?_,λi y f B C=>T i y f (λe=>B _ (pi.2 rfl) e.symm) C⟩
  ·simp[execOp,h0,h5,Instr.mapUpdate,run_underlying ht,MapKept.run_getObj_map A,MapKept.run_checkKey M f,MapKept.run_findKey M O,N,q5,MapKept.run_keyThatStays f,MapKept.run_setObj_map _ A]
  intro p q;simp only[pi]at q;subst q;exact Holds.mkMap v J (MapKept.heap_set A).1 q6 q7
end
theorem OX{a:Act}{k:Nat}{xr post:List bi}{b:bi}(h:Holds c a w (2000+k)<|.W8 sz xr b post):
  k<1000/\∃g e vs,c.arr k=some (R xr+(R post+1),g,true)/\w.ownsRow 0 e sz g (R xr+(R post+1)) vs/\(∀r∈xr++b::post,R r=sz)/\∃p j i,vs=p++(j++i)/\Z1 (ZR c.h) xr.flatten p/\Z1 (Zc c) b j/\Z1 (ZR c.h) post.flatten i:=by
 unfold Holds at h;by_cases B:k<1000
 case neg=>
  rw[Zm I,Zm I,Zm I]at h;rcases h with h|⟨_,J,u,_⟩
  ·cases h
  cases u
 rw[Zm I,Zm I,Zn I,H3]at h;rcases h with h|⟨q,f,g,e,vs,⟨rfl,rfl,C⟩,A,v,D⟩
 ·cases h
 rw[Zs,tt]at A v;grind
def Holds.n9{a:Act}{k n:Nat}{f:Value}{vs v1 v2 v3:List Value}{xr post:List bi}{b:bi}(A:k<1000)(g:R xr+(R post+1)=n)(C:c.arr k=some (n,f,true))(B:w.ownsRow 0 e sz f n vs)
  (v:∀q∈xr++b::post,R q=sz) (u:vs=v1++(v2++v3)) (p:Z1 (ZR c.h) xr.flatten v1) (j:Z1 (Zc c) b v2) (i:Z1 (ZR c.h) post.flatten v3):¬(2000+k<1000)/\Holds c a w (2000+k) (.W8 sz xr b post):=by
 subst g;refine⟨I,?_⟩;unfold Holds;rw[Zm I,Zm I,Zn I,H3];refine .inr ⟨sz,_,f,e,vs,⟨rfl,rfl,v1,v2,v3,u,p,j,i⟩,?_,?_,v⟩
 all_goals simp_all
def Qv(fs:bc)(t:St):X->Bool
 |.agg xs=>xs.all<|SR fs t
 |x=>SR fs t x
def FH(fs:bc)(t:St):X->Bool
 |.Yy xs=>xs.all<|Qv fs t
 |x=>Qv fs t x
theorem YQ.Yg{c:Ctx}{fs:bc}{t:St}{x:X}{v:Value}(h:YQ c x v)(b:Qv fs t x=true):YQ (c.Yg fs t) x v:=by
 cases x
 case agg xs=>grind [YQ,Qv,Z1.cut,Zc.Yg]
 all_goals simp_all[YQ,Qv,Zc.Yg]
theorem YQ.back{c c3:Ctx}{fs:bc}{t:St}{x:X}{v:Value}(h:YQ c3 x v)(b:Qv fs t x=true):YQ (c.back c3 fs t) x v:=by
 cases x
 case agg xs=>grind [YQ,Qv,Z1.cut,Zc.back]
 all_goals simp_all[YQ,Qv,Zc.back]
theorem YG.back{c c3:Ctx}{fs:bc}{t:St}{x:X}{v:Value}(h:YG c3 x v)(b:FH fs t x=true):YG (c.back c3 fs t) x v:=by
 cases x
 case Yy xs=>grind [YG,FH,Z1.cut,YQ.back]
 all_goals simp_all[YG,FH,YQ.back]
def OW{c:Ctx}{fs:bc}{t:St}:∀{ys:bi}{vs:List Value},Z1 (YG c) ys vs->ys.all (λy=>Qv fs t y&&!X4 y)=true->Z1 (YQ<|c.Yg fs t) ys vs
 |[],[],_,_=>trivial
 |y::ys,v::vs,h,ho=>by
  simp only[so,Zw,zd]at ho;exact⟨(T.xJ h.1 ho.1.2).Yg ho.1.1,OW h.2<|by simp_all⟩
 |[],_::_,h,_=>h.elim
 |_::_,[],h,_=>h.elim
def OT{a b:Int}(h:a=b):some (X.int .i64 a)=some (X.int .i64 b):=by rw[h]
def eE{a b:Bool}(h:a=b):some (X.bool a)=some (X.bool b):=by rw[h]
section
variable{E:Env}{q0:Array Oper}{s r4:St}{jn:Option (Nat×Bool)}{x t:Operand}
def S.tR{u h b:X}(D:Gd q0 s jn rg)(hd:ca E d=true)(B:YO s x u r1)(v:YO s y h r2)(q:YO s z b r3)
  (C:Yx u=false) (i:Yx h=false) (e:Yx b=false):
  Zb E q0 ⟨some d,.makeFunc (.func f) #[] #[x,y,z],ty,v9,v4,jn⟩ s (rg++(r1++(r2++r3))) [(d,.fn f [u,h,b])] []:=
 Zb.val D hd rfl (B.looks.app<|v.looks.app q.looks) λc A w _ j=>⟨.func (.func f) #[] #[A.eval x,A.eval y,A.eval z],by simp[execOp,Instr.makeFunc],[A.eval x,A.eval y,A.eval z],rfl,s7 (B.rep λp g=>j p<|by simp[g]) C,s7 (v.rep λp g=>j p<|by simp[g]) i,s7 (q.rep λp g=>j p<|by simp[g]) e,Zo⟩
theorem FI{α:Type}(a:α)(k:ba):∀b:List ba,PG (b.map λs=>(s,a)) k=if k∈b then some a else none
 |[]=>rfl
 |s::b=>by
  simp only[ta,PG];by_cases h:s=k
  ·simp[h]
  rw[Zm h,FI a k b];grind
def BU{α:Type}(a:α)(k:ba):∀b:List ba,k∉b->ID (b.map λs=>(s,a)) k a=(b++[k]).map λs=>(s,a)
 |[],_=>rfl
 |s::b,h=>by
  simp only[sf,eη]at h;simp only[ta,ID,H5];rw[Zm<|Ne.symm h.1,BU a k b h.2]
end
section
variable{E:Env}{q0:Array Oper}{s:St}{jn:Option (Nat×Bool)}{x:Operand}
theorem ZB.addH{U:List Nat}{a:Act}(e:ZB E U c a w){b:Nat}(W:E.B≤b)(V:∀k,c.loc k≠some b)(T:∀k m I,c.arr k=some (m,I,true)→I.ownBlock≠some b)(S:¬c.Y b){f:Mem}(F:f=λp=>if p.block=b then w.cell? p else c.h p):
  ZB E U ⟨f,c.loc,c.arr,c.Y⟩ a w/\Mem.le c.h f/\(∀p v,f p=some v->c.h p=some v\/¬c.Y p.block)/\(∀p v,f p=some v->w.cell? p=some v):=by
 have xf:Mem.le c.h f:=by
  intro p u i;rw[F];dsimp only;split
  ·exact e.hw p u i
  exact i
 have C:∀p u,f p=some u->c.h p=some u\/(p.block=b/\w.cell? p=some u):=by
  grind
 have A:∀p u,f p=some u->w.cell? p=some u:=by
  intro p u i;rcases C p u i with h|h
  ·exact e.hw p u h
  exact h.2
 have q:∀g o,g≠b->c.h ⟨g,o,none⟩=none->f ⟨g,o,none⟩=none:=by
  simp_all
 refine⟨⟨e.below,e.hB,e.nt,e.RR,e.M6,A,Mem.le_trans e.hle xf,?_,?_,?_,e.used,e.Y,e.UU,e.Uw⟩,xf,?_,A⟩
 ·intro p u i;rcases C p u i with h|h
  ·exact e.hnew p u h
  omega
 ·intro j g D;obtain⟨N,M,K,J,O⟩:=e.loc j g D;grind
 ·intro j m u g D G;obtain⟨N,M,K,J⟩:=e.arr j m u g D G;grind
 grind
theorem Good.Tr{U':bc}{s1:St}{a:Act}{k:Nat}(hg:Good E U s a w)(A:Nat.blt t 1000=true)(M:Nat.blt k 1000=true)(Z:look s t=some (.ptr k 0))(B:look s (1000+k)=some (.box vv))(hD:vv.all BI=true)(C:k∉E.fs)
  (hkU:U'.contains k=false) (xf:Le s s1) (X:s1.all (VB U')=true):Good E U' ((t,.Yt vv)::s1) a w:=by
 obtain⟨c,I,hh⟩:=hg;obtain⟨b,J,f2⟩:=RY<|(hh _ _ Z).slot A;rw[rb]at A M;obtain⟨b',T,vs,g1,g2,g3⟩:=VT (hh _ _ B) M;rw[J]at g1;cases g1;have N:Z1 (ZR c.h) vv vs.toList:=Od g3 hD;obtain⟨S,q2,q3,q4,q5⟩:=I.loc k b J;have G:∀(i:Nat)(v:Value),vs.toList[i]?=some v->w.cell? ⟨b,i,none⟩=some v:=λi v g=>by
  simp_all[World.cell?]
 obtain⟨u,F⟩:∃u:Mem,u=λp=>if p.block=b then w.cell? p else(c.cut U').h p:=⟨_,rfl⟩
 obtain⟨O,K,t3,t4⟩:=(I.cut U').addH (b:=b) (Env.SX S C) (λj hj=>by
  grind [Ctx.cut]) (λj m W hj e=>by
  grind [Ctx.cut]) (λV=>(I.Y b V).2.2.1 k J) F
 have q:Ext (c.cut U') ⟨u,(c.cut U').loc,(c.cut U').arr,(c.cut U').Y⟩:=⟨K,λ_ _ e=>e,λ_ m g lv e=>⟨m,g,lv,e,Zq _,λ_=>rfl⟩⟩;refine⟨_,O,λvy x f=>?_⟩;simp only[look]at f;split at f
 ·rename_i e;have:=Nat.eq_of_beq_eq_true e;cases f;subst this;unfold Holds;rw[Zn A];show ZR u (.Yt vv) _;rw[f2];refine .Yt vv b 0 vs.toList N.length (λi v g=>?_) λi x v f g=>(N.get f g).mono K
  simp_all
 have h0:=Holds.cut (hh vy x<|xf.look vy x f)<|bj.1 X _<|XO f;by_cases D:vy<1000
 ·unfold Holds at h0⊢;rw[Zn D]at h0⊢;exact h0.mono q
 grind [HU]
def OK.Tr{U:bc}{qf:Code}{Q:bo}(U':bc)(s1:St)(t:Nat){k:Nat}{vv:bi}(g:Nat.blt t 1000=true)(p:Nat.blt k 1000=true)(j:look s t=some (.ptr k 0))(b:look s (1000+k)=some (.box vv))(u:vv.all BI=true)
 (e:U'.contains k=false) (xf:Le s s1) (i:s1.all (VB U')=true) (h:OK E qf Q U'<|(t,.Yt vv)::s1) (f:E.fs.contains k=false:=by rfl):OK E qf Q U s:=λa w q=>h a w<|q.Tr g p j b u (KT f) e xf i
end
theorem Ct.iW{P:Program}{vj:bi}{qp:X}(h:∀(m:Mem)(w:World)(vs:List Value),(∀p v,m p=some v->w.cell? p=some v)->Z1 (YQ<|ZL m) vj vs->Calls P f vs.toArray w λe w'=>∃v,e=.returned v/\Below w.heap.size w w'/\YG (ZL m) qp v):Ct P f vj qp:=by
 intro m w vs hw i;refine(h m w vs hw i).mono ?_;rintro e w' ⟨v,rfl,hB,b⟩;exact⟨v,m,rfl,hB,Mem.le_refl m,λ_ _ h=>.inl h,λp v g=>by rw[hB.cell<|block_lt_of_cell<|hw p v g];grind,b⟩
structure kU(P:Program)(f:Nat):Prop where
 j0:∀(a:Option Addr)(c:Nat)(sep:ByteArray)(w:World),Calls P f #[.slice a 0 c,.string sep] w λe w'=>e=.returned (.string ⟨#[]⟩)/\w'=w
 j1:∀(bk o c:Nat)(xs:List ByteArray)(sep:ByteArray)(w:World),(∀(j:Nat)(x:ByteArray),xs[j]?=some x->w.cell? ⟨bk,o+j,none⟩=some (.string x))->bk<w.heap.size->xs.length<=140737488355328->xs.length<=c->(Lib.join (xs.map (·.data.toList)) sep.data.toList).length<=140737488355328->
  Calls P f #[.slice (some ⟨bk,o,none⟩) xs.length c,.string sep] w λe w'=>e=.returned (.string ⟨(Lib.join (xs.map (·.data.toList)) sep.data.toList).toArray⟩)/\Below w.heap.size w w'
theorem Fk(l:List ba):(l.map λs=>[X.str s]).flatten=l.map X.str:=by
 induction l<;>grind
def xG{h:Mem}:∀{l:List ba}{vs:List Value},Z1 (ZR h) (l.map X.str) vs->vs=l.map λs=>Value.string ⟨s.toArray⟩
 |[],[],_=>rfl
 |s::l,v::vs,h=>by
  obtain⟨e,b⟩:=h;cases e;rw[xG b];rfl
 |[],_::_,h=>h.elim
 |_::_,[],h=>h.elim
def kU.ct{P:Program}(F:kU P f){l:List ba}{sep:ba}(hn:R l<=100000)(qk:R (Lib.join l sep)<=140737488355328):Ct P f [.sl<|l.map λs=>[.str s],.str sep]<|.str<|Lib.join l sep:=by
 refine Ct.iW λm w vs hw ha=>?_
 obtain⟨T,O,rfl,h1,h2⟩:=ha.YU;obtain⟨S,N,rfl,h3,h4⟩:=h2.YU;have:=h4.YN;subst this;have G:ZR m (.str sep) S:=h3;cases G;have J:YG (ZL m) (.sl<|l.map λs=>[.str s]) T:=h1;have hs:ZR m (.str<|Lib.join l sep)<|.string ⟨(Lib.join l sep).toArray⟩:=.str _ (by unfold maxLen;omega);obtain⟨ad,vz,q,Y,q2,u⟩:=Qb J;rw[Zx]at q Y;subst q;rcases u with u|⟨b,qc,V,cs,rfl,q4,X,q6,W⟩
 ·have hl:l=[]:=bα.1 u;subst hl;refine(F.j0 ad vz ⟨sep.toArray⟩ w).mono ?_;rintro e w' ⟨rfl,rfl⟩;exact⟨_,rfl,Below.refl _ _,hs⟩
 obtain⟨xs,A⟩:∃xs:List ByteArray,xs=l.map λs=>(⟨s.toArray⟩:ByteArray):=⟨_,rfl⟩
 have hcs:cs=l.map λs=>Value.string ⟨s.toArray⟩:=by
  refine xG (h:=m) (Z1.WI (by rw[←X,Fk]) λi x v Z q=>W i x v (by rw[Fk];exact Z) q)
 have C:R xs=R l:=by simp_all
 have p:xs.map (·.data.toList)=l:=by rw[A,fw];exact List.map_id'' (λs=>rfl) l
 have g:∀(j:Nat)(x:ByteArray),xs[j]?=some x->w.cell? ⟨b,qc+j,none⟩=some (.string x):=by
  simp_all
 by_cases h0:l=[]
 ·subst h0;refine(F.j0 _ vz ⟨sep.toArray⟩ w).mono ?_;rintro e w' ⟨rfl,rfl⟩;exact⟨_,rfl,Below.refl _ _,hs⟩
 have K:0<R l:=aη.2 h0;have D:b<w.heap.size:=by
  have B:xs[0]?=some xs[0]:=Zv I;exact block_lt_of_cell (a:=⟨b,qc+0,none⟩)<|g 0 _ B
 have M:=F.j1 b qc vz xs ⟨sep.toArray⟩ w g D I I (by simp_all);rw[C,p]at M;refine M.mono ?_;rintro e w' ⟨rfl,hB⟩;exact⟨_,rfl,hB,hs⟩
def gQ{B:Nat}{sep:ba}:∀{l:List ba},(∀s∈l,R s<=B)->R (Lib.join l sep)<=R l * (B+R sep)
 |[],_=>by simp[Lib.join_nil]
 |x::r,h=>by
  rw[Lib.join_length];have i:Lib.lens (x::r)<=R (x::r) * B:=by
   have:∀{l:List ba},(∀s∈l,R s<=B)->Lib.lens l<=R l * B:=by
    intro l
    induction l with
    |nil=>intro _;simp[Lib.lens]
    |cons y l f=>
     intro b;have e:=f λs hs=>b s<|rl y hs
     have g:=b y rv;unfold Lib.lens at e⊢;simp only[ta,List.sum_cons,tt,aρ,cβ];omega
   exact this h
  have e:R sep * R r<=R (x::r) * R sep:=by
   rw[Nat.mul_comm,tt,aρ];omega
  rw[Nat.mul_add];omega
structure FtI(P:Program)(T f o Tf:Nat):Prop where
 ex:∃fields fl,P.underlying T=some (.struct fields)/\fields[f]?=some fl/\fl.offset=o/\fl.type=Tf
section
variable{E:Env}{q0:Array Oper}{s:St}{jn:Option (Nat×Bool)}{x:Operand}
theorem S.wW{T k n i:Nat}{u:X}(ht:W5 E.P T false sz)(h1s:sz=1)(hg:Gd q0 s jn rg)(hx:YO s x (.Wt k n qc) r1)(hy:YO s y u r2)(hl:look s (2000+k)=some (.arr sz vi))(hn:R vi=n)(J:qc=i * sz)(hi:i<n) 
  (ho:FQ u=true) (hD:BI u=true) (B:vi.set i [u]=x2) (M:Nat.blt k 1000=true:=by rfl):
  Zb E q0 ⟨none,.store T x y,ty,v9,v4,jn⟩ s (rg++(r1++(r2++[(2000+k,.arr sz vi)]))) [(2000+k,.arr sz x2)] []:=by
 subst B;subst hn;subst J;rw[rb]at M;refine⟨?_,hg.looks.app<|hx.looks.app<|hy.looks.app ⟨hl,Zo⟩⟩;intro U c a w hb V hal next Q hnx
 have hw:=hg.wanted (o:=⟨none,.store T x y,ty,v9,v4,jn⟩) λp f=>V p<|sb _ f;obtain⟨m,hv,lv,e1,e2,e3⟩:=O9 (hx.rep (c:=c) (a:=a) (w:=w) λp f=>V p<|by simp[f]);obtain⟨v,e',vs,g1,g2,g3,g4⟩:=Wp<|V (2000+k,.arr sz vi) F;rw[e1]at g1;cases g1;obtain⟨b,l,cp,rfl,f⟩:=e3 rfl;have Y:=hy.rep (c:=c) (a:=a) (w:=w) λp f=>V p (by simp[f])
 have hok:Qj u=true:=by cases u<;>first|exact ho|cases ho
 obtain⟨hc,G⟩:=Ux Y hok;have hcx:Yv u=[u]:=by cases u<;>first|rfl|cases ho
 rw[hcx]at hc;have Z:R [u]=sz:=h1s.symm;have hds:=Od hc (by grind);have hcl:=hc.length;have hcs:R (a.eval y).cells.toList=sz:=I
 rcases g2.2 with⟨h0,_⟩|⟨g,vz,j,hs,hz,N,K,hcm,hcs2,nE⟩
 ·cases h0
 cases hs;have hvl:R vs=R vi * sz:=g2.1;have xf:i * sz+sz<=R vi * sz:=by grind
 have hle2:R vi * sz<=cp * sz:=m8 _ K;have C:=run_storeCells_at E.P b (i * sz) e' (a.eval y).cells.toList 0 j w N I G;simp only[bγ]at C;obtain⟨w',A⟩:∃w',w'=w.setRow b (j.toList.take (i * sz)++(a.eval y).cells.toList++j.toList.drop (i * sz+R (a.eval y).cells.toList)).toArray:=⟨_,rfl⟩;have hgb:w.grownBy w'<|some b:=by
  subst A;exact⟨rfl,rfl,rfl,F,λk _ hk=>setRow_other w b k _ λe=>hk<|by rw[e]⟩
 obtain⟨p1,W,p3,p4⟩:=hb.append (n':=R vi) (v':=.slice (some ⟨b,0,none⟩) (R vi) cp) e1 hgb (Zq _) (λ_=>rfl) (.inl rfl)<|JL g2;have D:(execOp a.eval ⟨none,.store T x y,ty,v9,v4,jn⟩).run E.P w=.ok .skip w':=by
  subst A;have O:(a.eval y).cells.size=sz:=I
  simp[execOp,f,Instr.storeAt,Instr.sureAddr,storeVar,ht.size,O,C]
 unfold T_;rw[Zn hw];refine⟨λ_ _=>trivial,?_⟩;rw[Oper.semAt_eq _ _ _ (λcl he=>by cases he),D];refine hnx _ a w' p1 W ?_ ?_
 ·intro p f;simp only[pi]at f;subst f;have hrl:∀q∈vi.set i [u],R q=sz:=λq hq=>by
   grind
  refine(Holds.PJ (e:=e') (vs:=vs.take (i * sz)++((a.eval y).cells.toList++vs.drop (i * sz+sz))) M (by rw[wi];exact p3) ?_ hrl ?_).2
  ·rw[wi];refine⟨?_,.inr ⟨b,cp,_,rfl,Zr _,by rw[A];exact setRow_heap w b j _ e' _ N,K,hcm,?_,?_⟩⟩
   ·grind
   ·grind
   simp_all[Ja]
  rw[I1 Z g3 hi];exact((g4.take<|i * sz).append<|hds.append<|g4.drop<|i * sz+sz).mono λ_ _=>ZR.mono W.h
 intro vy u2 hk hu;have hne:(2000+k:Nat)≠vy:=hk (2000+k,.arr sz<|vi.set i [u]) F;by_cases h1:vy<1000
 ·unfold Holds at hu⊢;rw[Zn h1]at hu⊢;exact hu.mono W
 grind
end
section
variable{E:Env}{q0:Array Oper}{s rd al:St}{jn:Option (Nat×Bool)}{x:Operand}{k:IntKind}{m n:Int}
theorem S.frz{o:Oper}{rd:St}{al:bc}{j n:Nat}(h:Zb E q0 o s rd ((d,.own j n)::[(2000+j,.arr sz vi)]) al)(D:R vi=n)(f:vi=x2)(hd:Nat.blt d 1000=true)(i:E.fs.contains j=false):
  Zb E q0 o s rd ((d,.sl x2)::[(2000+j,.any)]) al:=by
 subst D f;refine⟨?_,h.2⟩;intro U c a w I f u next Q g
 refine h.1 U c a w I f u next Q λM J w' q e b G=>?_
 obtain⟨c2,C,B,A,K⟩:=q.wG hd (b (d,.own j<|R vi) F) (b (2000+j,.arr sz vi) F)<|KT i;refine g c2 J w' C (e.trans B) ?_ ?_
 ·intro p v;simp only[sf,H4,or_false]at v;rcases v with rfl|rfl
  ·exact A
  unfold Holds;grind
 simp_all
end
inductive Pl where
 |s (l:ba)
 |i (n:Int)
def Pl.v:Pl->Value
 |.s l=>.string ⟨l.toArray⟩
 |.i n=>.int .i64 n
def Pl.x:Pl->X
 |.s l=>.str l
 |.i n=>.int .i64 n
def Pl.is(P:Program)(T:Nat):Pl->Prop
 |.s _=>P.underlying T=some .string
 |.i _=>P.underlying T=some (.int .i64)
def Pl.same:Pl->Pl->Bool
 |.s _,.s _=>true
 |.i _,.i _=>true
 |_,_=>false
def Pl.eq:Pl->Pl->Bool
 |.s a,.s b=>decide<|a=b
 |.i a,.i b=>decide<|a=b
 |_,_=>false
def G4:List Pl->List Pl->Bool
 |[],[]=>true
 |a::xs0,b::ys0=>a.same b&&G4 xs0 ys0
 |_,_=>false
theorem Pl.qN:∀{a b:Pl},a.same b=true->(λx=>a.same x)=λx=>b.same x
 |.s _,.s _,_=>by funext x;cases x<;>rfl
 |.i _,.i _,_=>by funext x;cases x<;>rfl
 |.s _,.i _,h=>by cases h
 |.i _,.s _,h=>by cases h
theorem Ql:∀{xs ys:List Pl},G4 xs ys=true->xs.map (λk=>k.same)=ys.map (λk=>k.same)
 |[],[],_=>rfl
 |a::xs0,b::ys0,h=>by
  simp only[G4,Zw]at h;rw[ta,ta,Ql h.2];grind [Pl.qN]
 |[],_::_,h=>by cases h
 |_::_,[],h=>by cases h
def Nq:List Pl->List Pl->Bool
 |[],[]=>true
 |a::xs0,b::ys0=>a.eq b&&Nq xs0 ys0
 |_,_=>false
def Dc(P:Program):Nat->List Field->List Pl->Prop
 |_,[],[]=>True
 | o, f :: fs, p :: ps => (f.name == "_") = false /\ f.offset = o /\ p.is P f.type /\ (∀ w, (isAgg f.type).run P w = .ok false w) /\ Dc P (o + 1) fs ps
 |_,_,_=>False
def Pl.iu{P:Program}{T:Nat}:∀{a b:Pl},a.is P T->a.same b=true->b.is P T
 |.s _,.s _,h,_=>h
 |.i _,.i _,h,_=>h
 |.s _,.i _,_,h=>by cases h
 |.i _,.s _,_,h=>by cases h
theorem IX{P:Program}{T d:Nat}{a b:Pl}(w:World)(e:a.is P T)(f:b.is P T):(Op.equalIn (d+1) T a.v b.v).run P w=.ok (a.eq b) w:=by
 cases a with
 |s a=>
  cases b with
  |s b=>
   grind [Pl.v,Pl.eq,Pl.is,run_equalIn_string,ByteArray.toList_eq]
  |i b=>simp_all[Pl.is]
 |i a=>
  cases b with
  |s b=>simp_all[Pl.is]
  |i b=>
   simp only[Pl.v,Pl.eq];rw[run_equalIn_int w d T .i64 .i64 a b e];rfl
theorem KH{P:Program}{d:Nat}(w:World):∀(fs:List Field)(xs g:List Pl)(e i:List Value),Dc P (R e) fs xs->Dc P (R e) fs g->R e=R i->
  (Op.eqFields (d+1) (e++xs.map Pl.v).toArray (i++g.map Pl.v).toArray fs).run P w=.ok (Nq xs g) w
 |[],[],[],_,_,_,_,_=>by rfl
 |f::fs,x::xs,y::g,e,i,hx,hy,hl=>by
  obtain⟨I,G,B,F,A⟩:=hx;obtain⟨_,_,D,_,J⟩:=hy;have b:∀(j:List Value)(z:Pl)(p:List Pl),R j=R e->(part f.type (j++(z::p).map Pl.v).toArray f.offset).run P w=.ok z.v w:=by
   simp_all[part]
  have C : (f.name != "_") = true := by simp_all
  simp only[Op.eqFields];rw[Zn<|by grind];simp only[Sem.run_bind,b e x xs rfl,b i y g hl.symm,Result.andThen_ok];rw[IX w B D];simp only[Result.andThen_ok];have q:=KH (d:=d) w fs xs g (e++[x.v]) (i++[y.v]) (by rw[Zs];exact A) (by simp_all) (by simp[hl]);rw[m7,m7,aδ,aδ]at q;cases u:x.eq y with
  |true=>simp_all[Nq]
  |false=>simp[Nq,u]
 |[],_::_,_,_,_,h,_,_=>h.elim
 |[],[],_::_,_,_,_,h,_=>h.elim
 |_::_,[],_,_,_,h,_,_=>h.elim
 |_::_,_::_,[],_,_,_,h,_=>h.elim
structure gh(P:Program)(t:Nat)(ks:List Pl):Prop where
 guard:P.eqGuardType P.depth t=false
 OA:P.underlying t=some (.struct<|P.fieldsOf t)
 held:P.stoodInHeld t=false
 fs:Dc P 0 (P.fieldsOf t).toList ks
theorem gh.of{P:Program}{ks:List Pl}{fs:Array Field}(e:P.eqGuardType P.depth t=false)(g:P.underlying t=some (.struct fs))(b:P.stoodInHeld t=false)(h:Dc P 0 fs.toList ks):gh P t ks:=by
 have f:P.fieldsOf t=fs:=by grind [Program.fieldsOf]
 exact⟨e,by simp_all,b,by simp_all⟩
def Dc.same{P:Program}:∀{o:Nat}{fs:List Field}{ks xs:List Pl},Dc P o fs ks->ks.map (λk=>k.same)=xs.map (λk=>k.same)->Dc P o fs xs
 |_,[],[],[],_,_=>trivial
 |_,f::fs,k::ks,x::xs,⟨h1,h2,h3,h4,h5⟩,h=>by
  simp only[ta,v6]at h;refine⟨h1,h2,Pl.iu h3 ?_,h4,Dc.same h5 h.2⟩;rw[h.1];cases x<;>rfl
 |_,[],[],_::_,_,h=>by simp at h
 |_,_::_,_::_,[],_,h=>by simp at h
 |_,[],_::_,_,h,_=>h.elim
 |_,_::_,[],_,h,_=>h.elim
def gh.run{P:Program}{t:Nat}{ks xs ys:List Pl}(b:gh P t ks)(f:ks.map (λk=>k.same)=xs.map (λk=>k.same))(e:ks.map (λk=>k.same)=ys.map (λk=>k.same))(w:World):
  (Op.equalIn 10000 t (.agg (xs.map Pl.v).toArray)<|.agg (ys.map Pl.v).toArray).run P w=.ok (Nq xs ys) w:=by
 rw[run_equalIn_struct w 9999 t _ _ b.OA b.held];exact KH (d:=9998) w _ xs ys [] [] (b.fs.same f) (b.fs.same e) rfl
def AG{xs:List Pl}{v:Value}(h:YG c (.agg<|xs.map Pl.x) v):v=.agg (xs.map Pl.v).toArray:=by
 obtain⟨vs,rfl,h⟩:=h;have:∀{xs:List Pl}{vs:List Value},Z1 (Zc c) (xs.map Pl.x) vs->vs=xs.map Pl.v:=by
  intro xs
  induction xs with
  |nil=>intro vs h;exact(Z1.YN h)▸rfl
  |cons z j f=>
   intro vs h;obtain⟨v,e,rfl,b,g⟩:=h.YU;rw[ta,f g];cases z with
   |s l=>cases b;rfl
   |i n=>cases b;rfl
 rw[this h]
variable{s:St}{jn:Option (Nat×Bool)}{x:Operand}
section
variable{E:Env}{q0:Array Oper}
def S.rY{u:Nat}{vs:bi}{b:Bool}(ks xs ys:List Pl)(q:gh E.P t ks)(C:Gd q0 s jn rg)(hd:ca E d=true)(i:YO s x (.agg us) r1)(h:YO s y (.agg vs) r2)(f:us=xs.map Pl.x)(e:vs=ys.map Pl.x)
  (G:G4 ks xs=true) (F:G4 ks ys=true) (D:Nq xs ys=b):Zb E q0 ⟨some d,.binOp .eql t x y u,ty,v9,v4,jn⟩ s (rg++(r1++r2)) [(d,.bool b)] []:=
 Zb.val C hd rfl (i.looks.app h.looks) λc A w _ j=>by
  subst f;subst e;subst D;have J:=AG (i.rep (c:=c) (a:=A) (w:=w) λp g=>j p<|by simp[g]);have I:=AG (h.rep (c:=c) (a:=A) (w:=w) λp g=>j p<|by simp[g]);refine⟨_,?_,ZR.WB<|.bool _⟩;have B:(eqGuard .eql t x y (.agg (xs.map Pl.v).toArray)<|.agg (ys.map Pl.v).toArray).run E.P w=.ok () w:=by simp[eqGuard,q.guard]
  simp only[execOp,J,I,Sem.run_bind,B,Result.andThen_ok,run_eql_struct,q.run (Ql G) (Ql F) w];rfl
end
def pN(b:Nat):Value:=.pointer<|some ⟨b,0,none⟩
def Db(B:Nat)(h:Mem)(w:World)(b:Nat)(vv:bi):Prop:=B<=b/\(∀o,h ⟨b,o,none⟩=none)/\∃T vs,w.heap[b]?=some (.cells vs T (0,0))/\Z1 (ZR h) vv vs.toList
def gl(P:Program)(f:Nat)(vj:bi)(g:Nat)(bxs:List bi):Prop:=
 ∀(h:Mem)(w:World)(vs:List Value),(∀p v,h p=some v->w.cell? p=some v)->Z1 (YQ<|ZL h) vj vs->
  Calls P f vs.toArray w λen w'=>∃e b,en=.returned (.func (.func g) #[] (e.map pN).toArray)/\Below w.heap.size w w'/\Mem.le h b/\(∀p v,b p=some v->h p=some v\/w.heap.size<=p.block)/\(∀p v,b p=some v->w'.cell? p=some v)/\
   e.Pairwise (· ≠ ·)/\Z1 (Db w.heap.size b w') e bxs
def bq(fs:bc)(p:Nat×bi):Bool:=p.2.all BI&&Nat.blt p.1 1000&&!fs.contains p.1
def RetN2(E:Env)(t g:Nat)(kb:List<|Nat×bi):bo:=λe _ s=>(e=.ret\/e=.normal)/\
 look s t=some (.fn g<|kb.map λp=>.ptr p.1 0)/\Nat.blt t 1000=true/\Yw s (Hx kb)/\kb.all (bq E.fs)=true
def FJ{fs:List Nat}{c:Ctx}{a:Act}{w:World}:∀{kb:List<|Nat×List X}{vs:List Value},Z1 (Xw c) (kb.map λp=>X.ptr p.1 0) vs→(∀p∈kb,Holds c a w (1000+p.1)<|.box p.2)→kb.all (bq fs)=true→
  ∃f:bc,vs=f.map pN/\Z1 (λb (p:Nat×bi)=>c.loc p.1=some b/\∃T cs,w.heap[b]?=some (.cells cs T (0,0))/\Z1 (ZR c.h) p.2 cs.toList) f kb
 |[],[],_,_,_=>⟨[],rfl,Zo⟩
 |p::kb,v::vs,h,hb,hk=>by
  obtain⟨B,A⟩:=h;simp only[so,Zw]at hk;obtain⟨f,G,F⟩:=FJ A (λq u=>hb q<|rl _ u) hk.2;obtain⟨b,g,j⟩:=B;have e:=hk.1;simp only[bq,Zw,rb]at e;obtain⟨I,T,cs,i,D,C⟩:=VT (hb p rv) e.1.2;rw[g]at i;cases i;exact⟨b::f,by rw[G,j];rfl,⟨g,T,cs,D,Od C e.1.1⟩,F⟩
 |[],_::_,h,_,_=>h.elim
 |_::_,[],h,_,_=>h.elim
theorem Z1.mem_left{α β:Type}{R:α->β->Prop}:∀{xs0:List α}{ys0:List β},Z1 R xs0 ys0->∀{a:α},a∈xs0->∃b∈ys0,R a b
 |[],[],_,a,e=>by cases e
 |x::xs0,y::ys0,h,a,e=>by
  rcases sf.1 e with rfl|e
  ·exact⟨y,rv,h.1⟩
  obtain⟨b,g,f⟩:=Z1.mem_left h.2 e;grind
 |[],_::_,h,_,_=>h.elim
 |_::_,[],h,_,_=>h.elim
theorem gl.intro{P:Program}{f nt t g:Nat}{fn:Func}{qf:Code}{vj:bi}{kb:List<|Nat×bi}(hf:P.funcs[f]?=some fn)(hb:fn.body=some qf)(hn:fn.ntmps=nt)(hr:fn.results= #[.tmp t])
  (hl:Nat.ble (R vj) nt=true) (ht:vj.all (λx=>!X4 x)=true) (K:Nat.ble (R vj) 1000=true) (hd:(kb.map (·.1)).Pairwise (· ≠ ·))
  (h:∀w c,OK (TG P nt [] w c) qf (den (TG P nt [] w c) (RetN2 (TG P nt [] w c) t g kb) []) []<|Uj 0 vj):gl P f vj g<|kb.map (·.2):=by
 intro h0 w vs hw u;refine(callsIn_wide (n:=0)).1<|callsIn_of_wp_marks hf hb trivial ?_ rfl;have qk:=u.length;rw[ky]at hl K;have V:∀b,¬(ZL h0).out [] b:=by
  rintro b (hy|⟨k,_,e⟩|⟨k,m,Y,_,e,_⟩)
  all_goals simp_all
 refine wpIn_mono (h w (ZL h0) {tmps:=vs.toArray++Array.replicate (fn.ntmps - vs.toArray.size) undef,defers:=[]} w ?_) ?_
 ·refine⟨ZL h0,⟨WV.refl _ _ _,Zq _,?_,⟨.nil,λd hd=>by cases hd⟩,(λp C=>by cases C),hw,Mem.le_refl _,λp v e=>.inl e,(λk b e=>by cases e),(λk m Y b e=>by cases e),(λ_ _=>⟨rfl,rfl⟩),(λb e=>e.elim),(λk b _ e=>by cases e),(λk m Y lv _ e=>by cases e)⟩,λvy x hx=>TV u ht K vy x hx⟩;simp_all
 rintro e G w' ⟨U',s',⟨c,i,hh⟩,he,l1,l2,l3,l4⟩
 have A:LeavesInM Fence.wide 0 P fn G.tmps (λen w'=>∃j N,en=.returned (.func (.func g) #[] (j.map pN).toArray)∧Below w.heap.size w w'∧Mem.le h0 N∧(∀p v,N p=some v→h0 p=some v∨w.heap.size≤p.block)∧(∀p v,N p=some v→w'.cell? p=some v)∧
   j.Pairwise (· ≠ ·)/\Z1 (Db w.heap.size N w') j (kb.map (·.2))) G.defers .returning w':=by
  refine VG (B:=w.heap.size) (aw:=c.all) G.defers w' i.RR.1 ?_ ?_
  ·intro d hd;obtain⟨D,h1,h2,h3,h4⟩:=i.RR.2 d hd;exact⟨D,h1,h2,h3,h4⟩
  intro I e1 e2 e3 e4 e5 e6;obtain⟨i,hh⟩:=i.calm hh e1 e2 e3 e4 rfl e5 e6;obtain⟨vs1,W,M⟩:YG c (.fn g<|kb.map λp=>.ptr p.1 0)<|G.tmps.getD t undef:=by
   have:=hh t _ l1;simp_all[Holds]
  obtain⟨j,rfl,hbs⟩:=FJ (fs:=[]) M (λp C=>hh _ _<|l3.all (1000+p.1,.box p.2)<|rx.2 ⟨p,C,rfl⟩) l4;have J:(results fn G.tmps).run P I=.ok (G.tmps.getD t undef) I:=by
   simp_all[results]
  refine⟨_,J,j,c.h,by rw[W],(i.below.mono (Zq _) λk _ Z=>?_).below,i.hle,λp v C=>(i.hnew p v C).imp id λq=>q.elim id λq=>q.elim (λq=>(V _ q).elim) λ⟨_,q,_⟩=>(by cases q),i.hw,?_,?_⟩
  ·rcases Z with Z|⟨p,C,_⟩
   all_goals simp_all
  ·have:∀{j:bc}{kb:List<|Nat×bi},Z1 (λb (p:Nat×bi)=>c.loc p.1=some b/\∃T cs,I.heap[b]?=some (.cells cs T (0,0))/\Z1 (ZR c.h) p.2 cs.toList) j kb->(kb.map (·.1)).Pairwise (· ≠ ·)->j.Pairwise (· ≠ ·):=by
    intro j
    induction j with
    |nil=>simp
    |cons b j O=>
     intro kb h hd;cases kb with
     |nil=>exact h.elim
     |cons p kb=>
      rw[ta,bβ]at hd;refine bβ.2 ⟨λb' X e=>?_,O h.2 hd.2⟩;obtain⟨q,hq,S,_⟩:=Z1.mem_left h.2 X;subst e;exact hd.1 q.1 (rx.2 ⟨q,hq,rfl⟩) ((i.loc q.1 b S).2.2.2.1 p.1 h.1.1)
   grind
  have:∀{j:bc}{kb:List<|Nat×bi},Z1 (λb (p:Nat×bi)=>c.loc p.1=some b/\∃T cs,I.heap[b]?=some (.cells cs T (0,0))/\Z1 (ZR c.h) p.2 cs.toList) j kb->Z1 (Db w.heap.size c.h I) j (kb.map (·.2)):=by
   intro j
   induction j with
   |nil=>intro kb h;cases kb with|nil=>trivial|cons _ _=>exact h.elim
   |cons b j O=>
    intro kb h;cases kb with
    |nil=>exact h.elim
    |cons p kb=>
     obtain⟨⟨f1,T,cs,f2,f3⟩,f4⟩:=h;obtain⟨q1,_,q3,_⟩:=i.loc p.1 b f1;exact⟨⟨Env.SX q1 F,q3,T,cs,f2,f3⟩,O f4⟩
  grind
 rcases he with rfl|rfl
 ·exact A
 exact A
theorem ZB.boxAdd{E:Env}{a:Act}(f:ZB E U c a w){k b0:Nat}(hk9:k∉E.fs)(hk:k∉U)
  (V:E.B<=b0/\b0<w.heap.size/\(∀o,c.h ⟨b0,o,none⟩=none)/\¬c.all b0/\∃o:Obj,w.heap[b0]?=some o/\o.isCells=true):
  ZB E ([k]++U) (c.box k b0) a w/\Ext c (c.box k b0)/\(c.box k b0).loc k=some b0/\∀vy y,¬vy<1000->Holds c a w vy y->Holds (c.box k b0) a w vy y:=by
 obtain⟨v1,v2,v3,S,v5⟩:=V;have hn:=(f.used k hk).1;have C:∀j b,c.loc j=some b->(c.box k b0).loc j=some b:=by
  grind [Ctx.box]
 have F:Ext c<|c.box k b0:=⟨Mem.le_refl _,C,λ_ m V lv e=>⟨m,V,lv,e,Zq _,λ_=>rfl⟩⟩;have xi:∀j b,(c.box k b0).loc j=some b->(j=k/\b=b0)\/(j≠k/\c.loc j=some b):=by
  grind [Ctx.box]
 have O:∀b,(c.box k b0).all b->c.all b\/b=b0:=by
  intro b h;rcases h with h|⟨j,h⟩|h
  ·exact .inl<|.inl h
  ·rcases xi j b h with⟨_,rfl⟩|⟨_,h⟩
   ·omega
   exact .inl<|.inr<|.inl ⟨j,h⟩
  exact .inl<|.inr<|.inr h
 have W:∀(D:Nat)(o:Obj),w.heap[D]?=some o->o.isCells=false->D≠b0:=by
  grind
 have X:∀j,j∈E.fs->(c.box k b0).loc j=c.loc j:=λj g=>by simp only[Ctx.box];grind
 refine⟨⟨f.below,f.hB,f.nt,⟨f.RR.1,λd hd=>?_⟩,λp hp=>?_,f.hw,f.hle,f.hnew,?_,?_,?_,?_,λj b g e=>f.UU j b g<|X j g▸e,f.Uw⟩,F,by simp[Ctx.box],?_⟩
 ·obtain⟨D,A,v,I,G⟩:=f.RR.2 d hd;exact⟨D,A,v,λe=>(O D e).elim I<|W D _ G rfl,G⟩
 ·obtain⟨A,v,I⟩:=f.M6 p hp;grind
 ·intro j b g;rcases xi j b g with⟨rfl,rfl⟩|⟨hne,N⟩
  ·refine⟨.inl v1,v2,v3,λK i=>?_,λK m u i e=>S<|.inr<|.inr ⟨K,m,u,i,e⟩⟩;rcases xi K _ i with⟨rfl,_⟩|⟨_,i⟩
   ·rfl
   exact absurd (.inr<|.inl ⟨K,i⟩) S
  obtain⟨A,v,I,G,h5⟩:=f.loc j b N;refine⟨A,v,I,λK i=>?_,h5⟩;grind [Ctx.all]
 ·intro j m u b g Z;obtain⟨A,v,I,G⟩:=f.arr j m u b g Z;exact⟨A,v,I,G⟩
 ·intro j g;simp only[List.mem_append,pi,eη]at g;refine⟨?_,(f.used j g.2).2⟩;simp only[Ctx.box];rw[Zm g.1];exact(f.used j g.2).1
 ·intro b q;obtain⟨A,v,I,G⟩:=f.Y b q;refine⟨A,v,λj g=>?_,G⟩;rcases xi j b g with⟨rfl,rfl⟩|⟨_,N⟩
  ·exact S<|.inl q
  simp_all
 intro vy y M q;unfold Holds at q⊢;rw[Zm M]at q⊢;refine XH q λq=>?_
 split at q
 ·rename_i v;rw[Zn v];obtain⟨b,o,A,I,G⟩:=q;exact⟨b,o,C _ _ A,I,G.mono F⟩
 rename_i v;rw[Zm v];split at q
 ·rename_i h6;rw[Zn h6];obtain⟨sz,vi,T,e,vs,hx,A,I,G⟩:=q;exact⟨sz,vi,T,e,vs,hx.mono F,A,I,G⟩
 rename_i h6;rw[Zm h6];obtain⟨f1,J,f2,f3,f4⟩:=q;exact⟨f1,J,f2.mono C,f3,f4⟩
theorem ZB.AS{E:Env}:∀(g:List Nat){U:List Nat}{c:Ctx}{a:Act}{w:World}(_:ZB E U c a w){bs:List Nat}{bxs:List<|List X},(∀k∈g,k∉E.fs∧k∉U∧k<1000)→g.Pairwise (· ≠ ·)→(R g)=R bs→bs.Pairwise (· ≠ ·)→(∀b∈bs,¬c.all b)→Z1 (Db E.B c.h w) bs bxs→
  ∃e,ZB E (g.reverse++U) e a w/\Ext c e/\e.h=c.h/\Z1 (Xw e) (g.map λk=>X.ptr k 0) (bs.map pN)/\(∀p∈Hx (g.zip bxs),Holds e a w p.1 p.2)/\∀vy y,¬vy<1000->Holds c a w vy y->Holds e a w vy y
 |[],U,c,a,w,hb,[],[],_,_,_,_,_,_=>⟨c,hb,Ext.refl c,rfl,Zo,(λp q=>by cases q),λ_ _ _ h=>h⟩
 |k::g,U,c,a,w,hb,b::bs,x::bxs,hks,hkp,hl,q,hna,hx=>by
  obtain⟨⟨Z,Y,T,vs,F,W⟩,G⟩:=hx;obtain⟨J,I,K⟩:=hks k rv;rw[bβ]at q hkp;obtain⟨g1,g2,g3,g4⟩:=hb.boxAdd (k:=k) (b0:=b) J I ⟨Z,(sa.1 F).1,Y,hna b rv,_,F,rfl⟩;obtain⟨e,r1,r2,r3,r4,V,S⟩:=ZB.AS g g1 (bs:=bs) (bxs:=bxs) (λj N=>⟨(hks j<|rl _ N).1,by
   grind,(hks j<|rl _ N).2.2⟩) hkp.2 (by grind) q.2 (λO C D=>by
    have M:=hna O<|rl _ C;have h2:=q.1 O C;rcases D with h|⟨j,h⟩|h
    ·exact M<|.inl h
    ·simp only[Ctx.box]at h;split at h
     ·simp_all
     exact M<|.inr<|.inl ⟨j,h⟩
    exact M<|.inr<|.inr h) G
  have A:e.loc k=some b:=r2.loc k b g3;refine⟨e,?_,g2.trans r2,r3,⟨⟨b,A,rfl⟩,r4⟩,λp f=>?_,λvy y i hy=>S vy y i<|g4 vy y i hy⟩
  ·simp_all
  simp only[Hx,List.zip_cons_cons,ta]at f;rcases sf.1 f with rfl|f
  ·refine(Holds.MX (T:=T) (vs:=vs) K A F<|W.mono λu v h=>?_).2;exact ZR.Av (c:=e) (h.mono<|by rw[r3];exact Mem.le_refl _)
  exact V p f
 |[],_,_,_,_,_,_::_,_,_,_,hl,_,_,_=>by simp at hl
 |_::_,_,_,_,_,_,[],_,_,_,hl,_,_,_=>by simp at hl
 |_::_,_,_,_,_,_,_::_,[],_,_,_,_,_,hx=>hx.elim
 |[],_,_,_,_,_,[],_::_,_,_,_,_,_,hx=>hx.elim
section
variable{E:Env}{q0:Array Oper}
theorem S.vV{g:Nat}{bxs:List bi}(ks:bc)(hf:gl E.P f ys g bxs)(hcall:∀vj w,(callFunc f vj).run E.P w=.ok (.enter f vj) w)(hg:Gd q0 s jn rg)(hd:ca E d=true)
  (ha:V5 s os ys r) (ho:ys.all V3=true) (X:R ks=R bxs:=by rfl) (hk9:ks.all (λk=>!E.fs.contains k&&Nat.blt k 1000)=true:=by rfl) (hkd:ks.Pairwise (· ≠ ·):=by decide):
  Zb E q0 ⟨some d,.call {callee:=.value<|.func f,args:=os.toArray,argTypes:=xo},ty,v9,v4,jn⟩ s (rg++r) ((d,.fn g<|ks.map λk=>.ptr k 0)::Hx (ks.zip bxs)) ks.reverse:=by
 simp only[Zw,rb]at hd;refine⟨?_,hg.looks.app ha.looks⟩;intro U c a w A hr hal next Q W
 have hw:=hg.wanted (o:=⟨some d,.call {callee:=.value<|.func f,args:=os.toArray,argTypes:=xo},ty,v9,v4,jn⟩) λp v=>hr p<|sb _ v;have C:=Yj (ha.rep (c:=c) (a:=a) (w:=w) λp v=>hr p<|ui _ v) ho;unfold T_;rw[Zn hw];refine⟨λ_ _=>trivial,?_⟩;rw[Oper.semAt_eq _ _ _ λcl he=>by cases he];have hfo:a.eval (.func f)=.func (.func f) #[] #[]:=rfl;have G:(execOp a.eval ⟨some d,.call {callee:=.value<|.func f,args:=os.toArray,argTypes:=xo},ty,v9,v4,jn⟩).run E.P w=.ok (.enter f (os.map a.eval).toArray) w:=by
  simp_all[execOp,resolve,Deferred.ofValue,invoke]
 rw[G];refine⟨Z,?_⟩;have O:CallsIn E.ac (0 - 1) E.P f (os.map a.eval).toArray w _:=(callsIn_wide (n:=0)).2<|hf c.h w _ A.hw C;refine O.mono ?_;rintro en w' ⟨bs,h',rfl,hB,xf,xi,D,hbp,B⟩;have hb1:=A.below_grow hB xf xi D;have i:Ext c ⟨h',c.loc,c.arr,c.Y⟩:=⟨xf,λ_ _ e=>e,λ_ m V lv e=>⟨m,V,lv,e,Zq _,λ_=>rfl⟩⟩;have K:∀k∈ks,k∉E.fs/\k<1000:=λk M=>by
  simp_all
 obtain⟨c',r1,r2,r3,r4,r5,r6⟩:=ZB.AS ks hb1 (bs:=bs) (bxs:=bxs) (λk M=>⟨(K k M).1,hal k<|by grind,(K k M).2⟩) hkd (by rw[X,B.length]) hbp (λb hb' N=>by
  obtain⟨q,_,f1,_,_⟩:=Z1.mem_left B hb';rcases N with hy|⟨j,hj⟩|⟨j,m,V,hj,hjb⟩
  ·have:=(A.Y b hy).1;omega
  ·have:=(A.loc j b hj).2.1;omega
  have:=(A.arr j m V b hj hjb).2.1;omega)<|B.mono λb vv h=>⟨di A.hB h.1,h.2⟩
 have hdt:d<a.tmps.size:=by rw[A.nt];exact hd.2
 refine W c' _ w' (r1.put _ _) (i.trans r2) ?_ ?_
 ·intro p v;rcases sf.1 v with rfl|v
  ·unfold Holds;rw[Zn hd.1,XN hdt];exact⟨bs.map pN,rfl,r4⟩
  have h5:=r5 p v;obtain⟨q,_,rfl⟩:=rx.1 v;exact h5.put I _
 intro vy u M T;have J:d≠vy:=M (d,.fn g<|ks.map λk=>.ptr k 0) F;by_cases O:vy<1000
 ·refine Holds.put ?_ J _;unfold Holds at T⊢;rw[Zn O]at T⊢;exact T.mono<|i.trans r2
 exact(r6 vy u O<|Holds.below A hB i (λ_ _ _ e=>e) rfl xi D O T).put J _
end
theorem Ms(l:ba)(lo hi:Nat):(⟨l.toArray⟩:ByteArray).extract lo hi=⟨((l.take hi).drop lo).toArray⟩:=by
 apply ByteArray.ext;rw[ByteArray.data_extract];grind
section
variable{E:Env}{q0:Array Oper}
theorem S.VI{lo hi:Nat}{l l':ba}{j q:Option Operand}(v:StrI E.P t)(V:Gd q0 s jn rg)(hd:ca E d=true)(G:YO s x (.str l) r1)
  (K:(j=none/\lo=0/\r2=[])\/∃o i,j=some o/\YO s o (.int .i64 i) r2/\i=lo) (J:(q=none/\hi=R l/\r3=[])\/∃o i,q=some o/\YO s o (.int .i64 i) r3/\i=hi) (xf:lo<=hi) (b:hi<=R l) (C:(l.take hi).drop lo=l'):
  Zb E q0 ⟨some d,.slice t x j q none,ty,v9,v4,jn⟩ s (rg++(r1++(r2++r3))) [(d,.str l')] []:=by
 have T:Yw s r2:=by rcases K with⟨_,_,rfl⟩|⟨_,_,_,h,_⟩;trivial;exact h.looks
 have O:Yw s r3:=by rcases J with⟨_,_,rfl⟩|⟨_,_,_,h,_⟩;trivial;exact h.looks
 subst C;refine Zb.val V hd rfl (G.looks.app<|T.app O) λc A w hh B=>?_
 obtain⟨u,Y⟩:=Uu (G.rep (c:=c) (a:=A) (w:=w) λp f=>B p<|by simp[f]);have e:(⟨l.toArray⟩:ByteArray).size=R l:=by rfl
 have hs:ZR c.h (.str<|(l.take hi).drop lo)<|.string<|(⟨l.toArray⟩:ByteArray).extract lo hi:=by
  rw[Ms];exact .str _ (by grind)
 refine⟨_,?_,ZR.WB hs⟩;have D:∀o i,YO s o (.int .i64 i) r2->A.eval o=.int .i64 i:=λo i h=>(Xq<|h.rep (c:=c) (a:=A) (w:=w) λp f=>B p<|by simp[f]).1
 have F:∀o i,YO s o (.int .i64 i) r3->A.eval o=.int .i64 i:=λo i h=>(Xq<|h.rep (c:=c) (a:=A) (w:=w) λp f=>B p<|by simp[f]).1
 rcases K with⟨rfl,rfl,rfl⟩|⟨W,j,rfl,N,rfl⟩<;>rcases J with⟨rfl,rfl,rfl⟩|⟨X,q,rfl,M,rfl⟩
 ·have I:=Ms l 0<|R l;rw[List.take_length,aα]at I;simp[execOp,u,Instr.sliceAt,Instr.slice,run_underlying v.OA,Instr.sliceBounds,I]
 ·simp[execOp,u,F _ _ M,Instr.sliceAt,Instr.slice,run_underlying v.OA,Instr.sliceBounds,Instr.sliceBound,asIntOf,e,b]
 ·have g:lo<=R l:=xf;simp[execOp,u,D _ _ N,Instr.sliceAt,Instr.slice,run_underlying v.OA,Instr.sliceBounds,Instr.sliceBound,asIntOf,e,g]
 simp[execOp,u,D _ _ N,F _ _ M,Instr.sliceAt,Instr.slice,run_underlying v.OA,Instr.sliceBounds,Instr.sliceBound,asIntOf,e,xf,b]
def kN(P:Program)(f:Nat)(ac:ba->UInt8->Int):Prop:=∀(s:ByteArray)(c:Int)(w:World),(callFunc f #[.string s,.int .u8 c]).run P w=.ok (.value<|.int .i64<|ac s.data.toList c.toNat.toUInt8) w
def S.d_{ac:ba->UInt8->Int}{l:ba}{c:Int}{n:Int}(B:kN E.P f ac)(v:Gd q0 s jn rg)(hd:ca E d=true)(h:YO s x (.str l) r1)(g:YO s y (.int .u8 c) r2)(u:ac l c.toNat.toUInt8=n)(hw:IntKind.i64.wrap n=n):
  Zb E q0 ⟨some d,.call {callee:=.value<|.func f,args:=#[x,y],argTypes:=xo},ty,v9,v4,jn⟩ s (rg++(r1++r2)) [(d,.int .i64 n)] []:=
 Zb.val v hd rfl (h.looks.app g.looks) λq A w _ i=>by
  have D:=(Uu<|h.rep (c:=q) (a:=A) (w:=w) λp b=>i p<|by simp[b]).1;have C:=(Xq<|g.rep (c:=q) (a:=A) (w:=w) λp b=>i p<|by simp[b]).1;refine⟨.int .i64 n,?_,ZR.WB<|.int hw⟩;have e:A.eval (.func f)=.func (.func f) #[] #[]:=rfl;have j:=B ⟨l.toArray⟩ c w;rw[show(⟨l.toArray⟩:ByteArray).data.toList=l from rfl,u]at j;simp[execOp,resolve,e,D,C,Deferred.ofValue,invoke,j]
def xY(ok:Bool)(v:Value):Prop:=(ok=true/\v=.nilIface)\/(ok=false/\∃b e,v=.iface b e)
def S.mK{u:Nat}{ok:Bool}{ms:Array<|String×TypeId}(b:E.P.underlying t=some (.interface ms))(B:Gd q0 s jn rg)(hd:ca E d=true)(j:YO s x (.cb<|xY ok) r):
  Zb E q0 ⟨some d,.binOp .eql t x (.const .nilIface) u,ty,v9,v4,jn⟩ s (rg++r) [(d,.bool ok)] []:=
 Zb.val B hd rfl j.looks λc A w _ v=>by
  have p:E.P.underlying t=some (.interface<|E.P.methodsAt t):=by
   have:E.P.methodsAt t=ms:=by unfold Program.methodsAt;rw[b]
   rw[this];exact b
  have h0:xY ok<|A.eval x:=j.rep (c:=c) (a:=A) (w:=w) v;have q:A.eval (.const .nilIface)=.nilIface:=rfl;refine⟨.bool ok,?_,ZR.WB<|.bool _⟩;rcases h0 with⟨rfl,e⟩|⟨rfl,h,i,e⟩
  ·have g:=run_equal_nil_nil (P:=E.P) w t p;have f:(eqGuard .eql t x (.const .nilIface) .nilIface .nilIface).run E.P w=.ok () w:=by rw[eqGuard_nil_constR];rfl
   simp[execOp,e,q,f,binOp,g]
  have g:=run_equal_held_nil (P:=E.P) w t h i p;have f:(eqGuard .eql t x (.const .nilIface) (.iface h i) .nilIface).run E.P w=.ok () w:=by simp[eqGuard]
  simp[execOp,e,q,f,binOp,g]
end
structure kQ(P:Program)(f:Nat):Prop where
 g : ∃ g, P.globalNamed "internal/strconv.uint64pow10" = some g
 i : ∀ (n : Int) (w : World), -9223372036854775808 <= n -> n <= 9223372036854775807 -> Lib.TabIs P w "internal/strconv.uint64pow10" .u64 Lib.pow10Tab -> Calls P f #[.int .i64 n] w λe w' => e = .returned (.string ⟨(Lib.itoa n).toArray⟩) /\ Below w.heap.size w w'
variable{g:Nat}
def OJ.pow10 {P : Program}  (h : OJ P w)  (b : P.globalNamed "internal/strconv.uint64pow10" = some g) : Lib.TabIs P w "internal/strconv.uint64pow10" .u64 Lib.pow10Tab := by
 obtain⟨T,d,e⟩:=h.pow g b;simp_all[Lib.TabIs,World.var?]
theorem Az{n:Int}(h:IntKind.i64.wrap n=n): -9223372036854775808<=n/\n<=9223372036854775807:=by
 grind [IntKind.wrap_i64]
theorem kQ.ct{P:Program}(h:kQ P f){n:Int}(qk:R (Lib.itoa n)<=140737488355328):Q7 P f [.int .i64 n]<|.str<|Lib.itoa n:=by
 intro m w vs u hw D;obtain⟨q,j,rfl,G,F⟩:=D.YU;have:=F.YN;subst this;have b:ZR m (.int .i64 n) q:=G;cases b with
 |int B=>
  obtain⟨g,C⟩:=h.g;obtain⟨r1,r2⟩:=Az B;refine(h.i n w r1 r2<|u.pow10 C).mono ?_;rintro e w' ⟨rfl,hB⟩;exact⟨_,m,rfl,hB,Mem.le_refl m,λ_ _ h=>.inl h,λp v A=>by rw[hB.cell<|block_lt_of_cell<|hw p v A];grind,.str _<|by unfold maxLen;omega⟩
def YZ(l:ba):Int:=match Lib.atoiAll l with
 |.ok v=>v
 |Lib.NumEnd.syntax=>0
 |.range=>Lib.atoiSat l
def SD(l:ba):Bool:=match Lib.atoiAll l with
 |.ok _=>true
 |_=>false
structure kM(P:Program)(f:Nat):Prop where
 g1 : ∃ g, P.globalNamed "strconv.ErrSyntax" = some g
 g2 : ∃ g, P.globalNamed "strconv.ErrRange" = some g
 i : ∀ (l : ba) (w : World) (es er : Nat), l.length <= 140737488355328 -> P.globalNamed "strconv.ErrSyntax" = some es -> P.globalNamed "strconv.ErrRange" = some er -> (∃ ev, w.cell? ⟨es, 0, none⟩ = some ev /\ (ev = .nilIface \/ ∃ te pe, ev = .iface te pe)) -> (∃ ev, w.cell? ⟨er, 0, none⟩ = some ev /\ (ev = .nilIface \/ ∃ te pe, ev = .iface te pe)) ->
   Calls P f #[.string ⟨l.toArray⟩] w λe w'=>∃u,e=.returned (.tuple #[.int .i64<|YZ l,u])/\xY (SD l) u/\Below w.heap.size w w'
theorem kM.ct{P:Program}(h:kM P f){l:ba}(qk:R l<=140737488355328)(C:IntKind.i64.wrap (YZ l)=YZ l):Q7 P f [.str l]<|.Yy [.int .i64<|YZ l,.cb<|xY<|SD l]:=by
 intro m w vs q hw G;obtain⟨B,A,rfl,J,I⟩:=G.YU;have:=I.YN;subst this;have j:ZR m (.str l) B:=J;cases j;obtain⟨g1,g⟩:=h.g1;obtain⟨g2,b⟩:=h.g2;refine(h.i l w g1 g2 qk g b (q.err _ (.inr rfl) _ g)<|q.err _ (.inl rfl) _ b).mono ?_;rintro e w' ⟨u,rfl,D,hB⟩;exact⟨_,m,rfl,hB,Mem.le_refl m,λ_ _ h=>.inl h,λp v F=>by rw[hB.cell<|block_lt_of_cell<|hw p v F];grind,_,rfl,ZR.int C,D,Zo⟩
variable{i:Nat}
section
variable{E:Env}{q0:Array Oper}
def S.lg{m:Nat}{j:Int}{u:X}(hs:E.P.underlying t=some (.array m e))(F:W5 E.P e false 1)(K:Gd q0 s jn rg)(hd:ca E d=true)(C:YO s x (.agg us) r1)(B:YO s y (.int .i64 j) r2)(J:j=i)(hi:i<m)
  (I:us[i]?=some u) (h:QL u=false):Zb E q0 ⟨some d,.index t x y,ty,v9,v4,jn⟩ s (rg++(r1++r2)) [(d,u)] []:=
 Zb.val K hd rfl (C.looks.app B.looks) λc A w hh G=>by
  subst J;obtain⟨vs,N,M⟩:=C.rep (c:=c) (a:=A) (w:=w) λp g=>G p (by simp[g])
  obtain⟨hw,_⟩:=Xq (B.rep (c:=c) (a:=A) (w:=w) λp g=>G p<|by simp[g]);obtain⟨v,D,f⟩:=M.WN I;refine⟨v,?_,ab.WB f h⟩;have q:i<R vs:=(ae.1 D).1;have b:vs[i]=v:=(ae.1 D).2;simp only[execOp,N,hw,Instr.index];rw[Sem.run_bind];simp[asIntOf,run_underlying hs,F.size,part,F.agg,q,b];intro O;omega
def S.tV{k:Nat}(h:Gd q0 s jn rg)(hd:ca E d=true)(e:YO s x (.ptr k qc) r):
  Zb E q0 ⟨some d,.nilCheck x,ty,v9,v4,jn⟩ s (rg++r) [(d,.ptr k qc)] []:=
 Zb.val h hd rfl e.looks λc A w hh g=>by
  have h0:=e.rep (c:=c) (a:=A) (w:=w) g;obtain⟨b,i,f⟩:=RY h0;refine⟨A.eval x,?_,h0⟩;simp only[execOp,f];rfl
end
section
variable{E:Env}{k:List Kn}
def OK.join{G:Type}(u:bc)(st:G->St)(xr:G->Prop){x y:Code}(j:∀g,(st g).all (VB u)=true)(h:OK E x (den E Q<|.lp (λ_ s'=>∃g,xr g/\Le s' (st g))::k) U s)(f:∀g,xr g->OK E y (den E Q k) u (st g)):OK E (.seq x y) (den E Q k) U s:=
 OK.seq (h.mono λe U s b=>by
  cases e with
  |normal=>obtain⟨g,i,p⟩:=b;exact OK.weak (f g i) p<|j g
  |_=>exact b)
end
def K7(x:X):Prop:=∃m v,ZR m x v
def K7.mem(h:K7<|.sl vi){x:X}(f:x∈vi.flatten):K7 x:=by
 obtain⟨m,v,h⟩:=h;obtain⟨F,vz,D,C,B,e⟩:=Qb (c:=ZL m)<|ZR.WB h;rcases e with e|⟨b,qc,j,cs,_,A,u,q,p⟩
 ·rw[e]at f;cases f
 obtain⟨i,hi,rfl⟩:=dl f;have g:i<R cs:=I
 exact⟨m,cs[i],p i _ _ (Zv hi)<|Zv g⟩
def K7.int{k:IntKind}{n:Int}(h:K7<|.int k n):k.wrap n=n:=by
 obtain⟨m,v,h⟩:=h;cases h
 assumption
section
variable{E:Env}
def OK.slRep{c:Code}(b:Nat.blt t 1000=true)(e:look s t=some (.sl vi))(h:K7 (.sl vi)->OK E c Q U s):OK E c Q U s:=by
 intro a w f;obtain⟨cx,g,hh⟩:=f;exact h ⟨cx.h,_,D_of ((hh t _ e).slot b) rfl⟩ a w ⟨cx,g,hh⟩
end
def k_(b:Bool)(v:Value):Prop:=∃e n vz,v=.slice e n vz/\e.isNone=b
section
variable{E:Env}{q0:Array Oper}{l:List Oper}
def RK.xE(i:Nat.blt t 1000=true)(u:look s t=some (.sl vi))(h:∀b,(b=true->vi=[])->RK E q0 l U ((t,.cb<|k_ b)::s) Q):RK E q0 l U s Q:=by
 intro k v a w A;obtain⟨c,C,hh⟩:=A;have h0:=(hh t _ u).slot i;obtain⟨p,vz,q,_,_,D⟩:=Qb h0;have f:p.isNone=true->vi=[]:=λe=>by
  simp_all
 refine h p.isNone f k v a w ⟨c,C,λvy y g=>?_⟩;simp only[look]at g;split at g
 ·rename_i B;have j:=Nat.eq_of_beq_eq_true B;cases g;rw[←j];unfold Holds;rw[rb]at i;rw[Zn i];exact⟨p,_,vz,q,rfl⟩
 simp_all
def S.mL{b:Bool}(p:E.P.underlying t=some (.slice e))(u:Gd q0 s jn rg)(hd:ca E d=true)(h:YO s x (.cb<|k_ b) r):
  Zb E q0 ⟨some d,.binOp .eql t x (.const<|.slice none 0 0) i,ty,v9,v4,jn⟩ s (rg++r) [(d,.bool b)] []:=
 Zb.val u hd rfl h.looks λc A w _ g=>by
  have h0:k_ b<|A.eval x:=h.rep (c:=c) (a:=A) (w:=w) g;obtain⟨f,n,vz,j,rfl⟩:=h0;refine⟨.bool f.isNone,?_,ZR.WB<|.bool _⟩;have v:A.eval (.const<|.slice none 0 0)=.slice none 0 0:=rfl;have q:(eqGuard .eql t x (.const<|.slice none 0 0) (.slice f n vz)<|.slice none 0 0).run E.P w=.ok () w:=by simp[eqGuard]
  have g:=Lib.run_eql_slice_nil (P:=E.P) w t e f n vz 0 0 p;simp only[execOp,j,v,Sem.run_bind,q,Result.andThen_ok,g];cases f<;>rfl
end
structure RW where
 a:Option Addr
 cap:Nat
 n:Nat
abbrev RW.v(r:RW):Value:=.slice r.a r.n r.cap
abbrev RW.b(r:RW):Nat:=(r.a.getD ⟨0,0,none⟩).block
abbrev intVs(l:bd):List Value:=l.map<|Value.int .i64
abbrev Ye(l:bd):List bi:=l.map λn=>[X.int .i64 n]
variable{n:Nat}
section
variable{E:Env}{qf:Code}
theorem ZB.nr{a:Act}{k:Nat}{q:Value}(f:ZB E U c a w)(N:c.arr k=some (n,q,true))(D:k∉E.fs):
  ZB E U ⟨c.h,c.loc,λj=>if j=k then some (n,q,false)else c.arr j,λb=>c.Y b\/q.ownBlock=some b⟩ a w:=by
 have F:∀b,q.ownBlock=some b->E.ok k b/\b<w.heap.size/\(∀o,c.h ⟨b,o,none⟩=none)/\(∀O S C,c.arr O=some (S,C,true)->C.ownBlock=some b->O=k):=λb e=>f.arr k _ _ b N e
 have v:∀j m u,(if j=k then some (n,q,false)else c.arr j)=some (m,u,true)->j≠k/\c.arr j=some (m,u,true):=by
  grind
 have A:∀b,b<w.heap.size->(Ctx.mk c.h c.loc (λj=>if j=k then some (n,q,false)else c.arr j) λb=>c.Y b\/q.ownBlock=some b).all b->c.all b:=by
  intro b _ V;rcases V with(i|i)|h|⟨j,m,u,B,G⟩
  ·exact .inl i
  ·exact .inr<|.inr ⟨k,n,q,N,i⟩
  ·exact .inr<|.inl h
  exact .inr<|.inr ⟨j,m,u,(v j m u B).2,G⟩
 refine⟨f.below,f.hB,f.nt,PA f A λ_ _ h _=>h,PR f A λ_ _ h _=>h,f.hw,f.hle,?_,?_,?_,?_,?_,f.UU,?_⟩
 ·intro p u T;exact f.hnew p u T
 ·intro j b g;obtain⟨J,B,G,M,Z⟩:=f.loc j b g;grind
 ·intro j m u b g K;obtain⟨X,g⟩:=v j m u g;obtain⟨J,B,G,M⟩:=f.arr j m u b g K;grind
 ·intro j g;refine⟨(f.used j g).1,?_⟩;dsimp only;split
  ·rename_i e;subst e;have:=(f.used _ g).2;simp_all
  exact(f.used j g).2
 ·intro b i;rcases i with i|i
  ·obtain⟨J,B,G,M⟩:=f.Y b i;grind
  obtain⟨J,B,G,M⟩:=F b i;refine⟨B,λW=>absurd (Env.SX J D) I,λj g=>(f.loc j b g).2.2.2.2 k n q N i,λj m u g e=>?_⟩;grind
 intro j m u lv g e;exact f.Uw j m u lv g<|(Zm (show¬j=k fromλe=>D<|e▸g)).symm.trans e
end
section
variable{E:Env}{q0:Array Oper}
def S.rslen{r:RW}(hs:Qh E.P t e sz)(h:r.n<=maxLen)(i:Gd q0 s jn rg)(hd:ca E d=true)(b:YO s x (.raw r.v) r1):
  Zb E q0 ⟨some d,.call {callee:=.builtin .len,args:=#[x],argTypes:=#[t]},ty,v9,v4,jn⟩ s (rg++r1) [(d,.int .i64 r.n)] []:=
 Zb.val i hd rfl b.looks λc A w hh g=>by
  have f:A.eval x=.slice r.a r.n r.cap:=b.rep (c:=c) (a:=A) (w:=w) g;refine⟨.int .i64 r.n,?_,ZR.WB<|.int<|P3 h⟩;simp[execOp,resolve,invoke,builtin,f,Builtin.len_,run_underlying hs.OA,goInt]
end
inductive LxX(E:Env)(all:Array Oper):Option Nat->List Oper->bc->St->List Uv->bc->St->Prop
 |nil {U:bc} {s:St}:LxX E all none [] U s [] U s
 |cons {o:Oper} {k:Option Nat} {l:List Oper} {U U':bc} {s s':St} {L:List Uv} {rd wr:St} {al:bc}:Step E all o rd wr al->Yw s rd->(al.all λk=>!U.contains k)=true->
  LxX E all k l (al++U) (wr++s) L U' s'->LxX E all (k.map (· +1)) (o::l) U s (⟨rd,wr,al⟩::L) U' s'
 |xop {o:Oper} {l:List Oper} {U U':bc} {s s':St} {L:List Uv} {rd wr:St} {al:bc}:Yw s rd->(al.all λk=>!U.contains k)=true->
  LxX E all none l (al++U) (wr++s) L U' s'->LxX E all (some 0) (o::l) U s (⟨rd,wr,al⟩::L) U' s'
structure LxS(E:Env)(all:Array Oper)(k:Option Nat)(l:List Oper)(U:bc)(s:St)(L:List Uv)(U':bc)(s':St):Prop where
 length:L.length=l.length
 xF:∀D:Nat->Bool,(∀j,j<l.length->D j=true)->K9 L D s=s'/\uD L D U=U'
 at':∀(i:Nat)(b:Uv),L[i]?=some b->∃o,l[i]?=some o/\(k≠some i->Step E all o b.rd b.wr b.al)/\Yw (K9 L (λj=>decide<|j<i) s) b.rd/\∀k∈b.al,k∉uD L (λj=>decide<|j<i) U
section
variable{E:Env}{q0:Array Oper}{o:Oper}{l:List Oper}{U U':bc}{s s':St}{L:List Uv}{rd wr:St}{al:bc}
theorem LxS.cons{k k2:Option Nat}(hs:k2≠some 0->Step E q0 o rd wr al)(v:∀i,k2≠some (i+1)->k≠some i)(u:Yw s rd)(g:(al.all λk=>!U.contains k)=true)(h:LxS E q0 k l (al++U) (wr++s) L U' s'):LxS E q0 k2 (o::l) U s (⟨rd,wr,al⟩::L) U' s':=by
 refine⟨by simp[h.length],λD f=>?_,λi b e=>?_⟩
 ·have h0:D 0=true:=f 0 F;have:=h.xF (λj=>D<|j+1) (λj A=>f (j+1)<|by simp;omega);simp_all[K9,uD]
 cases i with
 |zero=>
  simp at e;subst e;refine⟨o,rfl,hs,?_,?_⟩
  ·have:(λj=>decide<|j<0)=(λ_:Nat=>false):=by rfl
   simp_all[RN]
  have:(λj=>decide<|j<0)=(λ_:Nat=>false):=by rfl
  simp_all[P0]
 |succ i=>
  obtain⟨p,q,G,C,B⟩:=h.at' i b (by grind);grind [Step,K9,uD]
end
section
variable{E:Env}{k:Option Nat}{l:List Oper}{U':bc}{s':St}{L:List Uv}
theorem FZ(f:NJ 0 l=true){b:Array Bool}(i:b.size=R l)(v:Region.ready .any l.toArray b=[]):∀j,j<R l->b.getD j false=true:=by
 intro j
 induction j using Nat.strongRecOn with
 |_ j ih=>
  intro h;by_cases q:b.getD j false=true
  ·exact q
  exfalso;have g:j∈Region.ready .any l.toArray b:=by
   rw[mem_ready];refine⟨?_,l[j],by simp[h],λe p u=>?_⟩
   ·simp_all
   have:=PB f j l[j] (by simp[h]) e p u;grind
  simp_all
theorem Bb{b:Array Bool}(g:b.size=R l)(f:Aw b.toList<=0):Region.ready .any l.toArray b=[]:=by
 have e:∀j,j<R l->b.getD j false=true:=λj h=>by
  have:=Jf b.toList I j (by simp_all);simp_all
 rw[cτ];grind [mem_ready]
theorem O1(h:LxS E l.toArray k l U s L U' s')(hc:SG l L=true){f:Array Bool}{a:Act}(hsz:f.size=R l)(J:NF l (λj=>f.getD j false))
  (hbase:ZB E (uD L (λj=>f.getD j false) U) c a w) (G:∀vy x,look (K9 L (λj=>f.getD j false) s) vy=some x->Holds c a w vy x)  (hi:i∈Region.ready .any l.toArray f) {o:Oper} (ho0:l[i]?=some o) {B:Uv} (hB:L[i]?=some B):
  (∀p∈B.rd,Holds c a w p.1 p.2)/\(∀k∈B.al,k∉uD L (λj=>f.getD j false) U)/\
   ∀c' a' w',ZB E (B.al++uD L (λj=>f.getD j false) U) c' a' w'->(∀p∈B.wr,Holds c' a' w' p.1 p.2)->(∀vy x,(∀p∈B.wr,p.1≠vy)->Holds c a w vy x->Holds c' a' w' vy x)->
    NF l (λj=>(f.setIfInBounds i true).getD j false)/\Aw (f.setIfInBounds i true).toList+1=Aw f.toList/\Good E (uD L (λj=>(f.setIfInBounds i true).getD j false) U) (K9 L (λj=>(f.setIfInBounds i true).getD j false) s) a' w':=by
 simp only[SG,Zw]at hc;obtain⟨hdown,v⟩:=hc;have qk:=h.length;obtain⟨h0,o,ho,hedges⟩:=mem_ready.1 hi;have hil:i<R l:=by grind
 have hio:l[i]?=some o:=by grind
 have hiL:i<R L:=I
 have hisz:i<f.size:=I
 have T:L[i]?=some L[i]:=Zv hiL;have hDi:f.getD i false=false:=by
  simp_all
 have hBL:B=L[i]:=by simp_all
 subst hBL;obtain⟨W,g,_,S,hfresh⟩:=h.at' i L[i] T;rw[hio]at g;cases g;have D:Mi l (λj=>f.getD j false) i:=λW g e he A=>by
  simp_all
 -- of two operations that Vz, who comes first has been done, or will not be done before
 have ord:∀(j:Nat)(b:Uv),L[j]?=some b->(Vz b L[i]=true\/Vz L[i] b=true)->j≠i->f.getD j false=decide (j<i):=by
  intro j b A O hne;have hjl:j<R l:=by grind
  have V:∀x y:Uv,Vz x y=true->Vz y x=true:=by
   intro x y Y;have comm:∀s t:St,meets s t=true->meets t s=true:=by
    intro s t hst;cases hts:meets t s with
    |true=>rfl
    |false=>
     exfalso;have:∀s t:St,meets s t=true->∃p∈s,Qu p.1 t=true:=by
      intro s
      induction s with
      |nil=>simp[meets]
      |cons p s ih=>intro t h;simp only[meets,ti]at h;grind
     obtain⟨p,hp,hk⟩:=this s t hst;have:∃q∈t,q.1=p.1:=by
      have kk:∀(t:St),Qu p.1 t=true->∃q∈t,q.1=p.1:=by
       intro t
       induction t with
       |nil=>simp[Qu]
       |cons q t ih=>intro h;simp only[Qu,ti]at h;grind [Nat.eq_of_beq_eq_true]
      grind
     exact V0 hts this p hp rfl
   simp only[Vz,ti]at Y⊢;grind
  rcases w7 j i with hlt|hge
  ·have hk:Vz b L[i]=true:=O.elim id<|V _ _;have C:=Uy (Vl v i L[i] T) j b A I hk;simp only[wc]at C;have:=T7 J l [] [] rfl rfl F i j C hil D;simp_all
  have hgt:i<j:=I
  have hk:Vz L[i] b=true:=O.elim (V _ _) id;have C:=Uy (Vl v j b A) i L[i] T I hk;simp only[wc]at C;cases hdj:f.getD j false with
  |false=>simp;omega
  |true=>
   exfalso;have:=T7 J l [] [] rfl rfl F j i C hjl λW g e he hb'=>J j W g hdj e he hb';simp_all
 refine⟨?_,?_,λc' a' w' K hwr hfr=>?_⟩
 ·intro p hp;refine G _ _ ?_;have hx:=S.all p hp;rw[SU]at hx⊢;rw[VV L (λj=>f.getD j false) (λj=>decide<|j<i) λj b A hn=>?_]
  ·exact hx
  by_cases u:j=i
  ·simp_all
  refine ord j b A ?_ u;left;simp only[Vz,ti];left;left;cases hm:meets b.wr L[i].rd with
  |true=>rfl
  |false=>
   exfalso;obtain⟨y,hy⟩:∃y,look b.wr p.1=some y:=by cases hq:look b.wr p.1<;>grind
   exact V0 hm ⟨_,XO hy,rfl⟩ p hp rfl
 ·intro k hk Z;rcases(SV L _ U).1 Z with hu|⟨j,b,A,hd,hkb⟩
  ·simp_all[SV]
  by_cases u:j=i
  ·simp_all
  rcases w7 j i with hlt|hge
  ·grind [SV]
  obtain⟨_,_,_,_,hfj⟩:=h.at' j b A;grind [SV]
 have N:∀j,(f.setIfInBounds i true).getD j false=if j=i then true else f.getD j false:=by
  intro j;by_cases u:j=i
  ·simp_all
  simp_all[Ne.symm]
 refine⟨?_,?_,⟨c',K.eL ?_,?_⟩⟩
 ·intro j W g hd e he A;simp only[N]at hd⊢;split
  ·rfl
  by_cases u:j=i
  ·simp_all
  rw[Zm u]at hd;exact J j W g hd e he A
 ·simp_all[ER]
 ·grind [SV]
 intro vy x hx;by_cases hkw:look L[i].wr vy=none
 ·grind [O5,SU,VV]
 obtain⟨y,hy⟩:∃y,look L[i].wr vy=some y:=by cases hq:look L[i].wr vy<;>grind
 have Y:x=y:=by
  rw[SU,VV L _ (λj=>decide<|j<i+1) λj b A hn=>?_]at hx
  ·have hat:Vm L (λj=>decide<|j<i+1) vy=some y:=by
    have:∀(L:List Uv)(i:Nat)(b:Uv)(y:X),L[i]?=some b->look b.wr vy=some y->Vm L (λj=>decide<|j<i+1) vy=some y:=by
     intro L
     induction L with
     |nil=>simp
     |cons c L ihL=>
      intro i b y A hy;cases i with
      |zero=>
       simp at A;subst A;have hz:Vm L (λj=>decide<|j+1<0+1) vy=none:=by
        have:∀M:List Uv,Vm M (λ_=>false) vy=none:=by
         intro M;induction M with
         |nil=>rfl
         |cons d M ihM=>grind [Vm]
        simp_all
       simp_all[Vm]
      |succ i=>
       grind [Vm]
    simp_all
   simp_all
  rw[N];split
  ·simp_all
  rename_i u;have:=ord j b A (by
   left;simp only[Vz,ti];left;right;cases hm:meets b.wr L[i].wr with
   |true=>rfl
   |false=>
    exfalso;obtain⟨z,hz⟩:∃z,look b.wr vy=some z:=by cases hq:look b.wr vy<;>grind
    exact V0 hm ⟨_,XO hz,rfl⟩ _ (XO hy) rfl) u
  grind
 simp_all[XO]
theorem td(h:LxS E l.toArray k l U s L U' s')(hc:SG l L=true)(Q:Exit->Act->World->Prop)(hQ:∀a w,Good E U' s' a w->Q .normal a w):
  ∀(f:Nat)(b:Array Bool)(a:Act)(w:World),b.size=R l->Aw b.toList<=f->NF l (λj=>b.getD j false)->(∀x,k=some x->b.getD x false=true)->
   Good E (uD L (λj=>b.getD j false) U) (K9 L (λj=>b.getD j false) s) a w->wpAnyIn E.ac 0 E.P .any l.toArray Q f b a w:=by
 have v:NJ 0 l=true:=by
  simp_all[SG]
 have fin:∀(b:Array Bool)(a:Act)(w:World),b.size=R l→Good E (uD L (λj=>b.getD j false) U) (K9 L (λj=>b.getD j false) s) a w→
   Region.ready .any l.toArray b=[]->Q .normal a w:=by
  intro b a w g D J;have:=h.xF _<|FZ v g J;simp_all
 intro f
 induction f with
 |zero=>
  intro b a w g A F hk D;have J:=Bb g A;exact⟨J,fin b a w g D J⟩
 |succ f ih=>
  intro b a w g A F hk D;refine⟨fin b a w g D,λi hi=>?_⟩;obtain⟨h0,o,ho,K⟩:=mem_ready.1 hi;have hil:i<R l:=by grind
  have C:l[i]?=some o:=by grind
  have G:L[i]?=some (L[i]'(by have:=h.length;omega)):=Zv _;obtain⟨o',B,u,_,_⟩:=h.at' i _ G;rw[C]at B;cases B;have O:k≠some i:=λe=>by
   simp_all
  obtain⟨c,p,q⟩:=D;obtain⟨p1,Z,Y⟩:=O1 h hc g F p q hi C G;refine WA ho<|u O _ c a w p p1 Z _ Q ?_;intro c' V w' T _ N S;obtain⟨X,q2,W⟩:=Y c' V w' T N S;refine ih _ V w' (by grind) I X (λx hx=>?_) W;by_cases M:x=i
  ·simp_all
  rw[getD_set_ne false<|Ne.symm M];grind
def vD(E:Env)(q0:Array Oper)(o:Oper)(rd:St)(wr:ι->St)(al:bc):Prop:=
 ∀(U:bc)(c:Ctx)(a:Act)(w:World),ZB E U c a w->(∀p∈rd,Holds c a w p.1 p.2)->(∀k∈al,k∉U)->
  ∀(next:Act->World->Prop)(Q:Exit->Act->World->Prop),
   (∀q e b w',ZB E (al++U) e b w'->(∀p∈wr q,Holds e b w' p.1 p.2)->
    (∀vy x,(∀p∈wr q,p.1≠vy)->Holds c a w vy x->Holds e b w' vy x)->next b w')->
   T_ E q0 o next Q a w
end
def OK.EC{E:Env}{s:St}{p:Prop}(e:look s 3000=some (.res J))(b:∀h Y w,J h Y w->p)(h:p->OK E qf Q U s):OK E qf Q U s:=λa w f=>by
 obtain⟨c,g,hh⟩:=f;exact h (b _ _ _ (WW<|hh _ _ e).2) a w ⟨c,g,hh⟩
open Go.RowKit Go.ChangeShapes Go.WideShapes Go.ChangeAt
theorem KB{P:Program}{n:String}{cs:Array Value}(b:P.globalNamed n=some g)(h:w.var? P n=some cs):∃T d,w.heap[g]?=some (.cells cs T d):=by
 grind [World.var?]
def Gw{H:Type}(ls:List ba):DataW H:=.agg<|ls.map λl=>.lit<|.string l
theorem CH{H:Type}{enc:TypeId×Value->H}{P:Program}{base:Nat}{v:Nat->Bool}{held:Bool}{t e:TypeId}{cs:List Value}{ls:List ba}{p:List MemPlace}
  (C:P.underlying t=some (.array n e)) (F:P.underlying e=some .string) (q:P.cellsOf e=1) (j:P.cellsOf t=n)
  (h:DataW.trod enc P w base v held f t cs=some (Gw ls,p)):cs=ls.map λl=>Value.string ⟨l.toArray⟩:=by
 cases f with
 |zero=>simp[DataW.trod]at h
 |succ f=>
  simp only[DataW.trod,C,q,j,Nat.mul_one]at h;split at h
  ·rename_i K;obtain⟨xs,u,J⟩:=M2.1 h;have g:xs.map (·.1)=ls.map λl=>(DataW.lit (.string l):DataW H):=by
    simp_all[Gw]
   have B:R xs=n:=by simpa using Lib.mapM_length u
   have A:R ls=n:=by
    have:=rn List.length g;grind
   apply P2;intro i;by_cases hi:i<n
   ·obtain⟨b,I,D⟩:=Lib.mapM_at u i i (by simp[hi]);obtain⟨z,G,rfl,_⟩:=DataW.trod_string F D;have N:cs[i]?=some (.string z):=by
     have:=rn (·[0]?) G;grind
    have M:(xs.map (·.1))[i]?=some (DataW.lit (.string z.data.toList):DataW H):=by simp[I]
    simp_all
   simp_all
  cases h
def yc{P:Program}{B:World}{qe:String}{ls:List ba}{vk:List<|String×DataW Unit}{t e:TypeId}
  (D:P.globalNamed qe=some g) (f:(P.globals[g]?).map (·.type)=some t) (C:P.underlying t=some (.array n e)) (F:P.underlying e=some .string) (v:P.cellsOf e=1) (u:P.cellsOf t=n)
  (h:laidMet P ((qe,Gw ls)::vk) B):B.var? P qe=some (ls.map λl=>Value.string ⟨l.toArray⟩).toArray:=by
 obtain⟨ps,⟨J,I,cs,A,p,q,j,i,b,G,_,_⟩,_⟩:=h;obtain rfl:=aγ<|D.symm.trans j;obtain rfl:=aγ<|f.symm.trans i;rw[b,←CH C F v u G]
theorem OJ.mP {P : Program} {b : World} (j : Lib.TabIs P b "internal/strconv.uint64pow10" .u64 Lib.pow10Tab) (u : ∃ t p, b.var? P "strconv.ErrRange" = some #[.iface t p]) (hs : ∃ t p, b.var? P "strconv.ErrSyntax" = some #[.iface t p]) (f : ∀ g, P.globalNamed "martensite/recipe.names" = some g -> b.var? P "martensite/recipe.names" = some (XC.map λl => Value.string ⟨l.toArray⟩).toArray) : OJ P b := by
 have q : ∀ n, (n = "strconv.ErrRange" \/ n = "strconv.ErrSyntax") -> ∃ t p, b.var? P n = some #[.iface t p] := by
  simp_all
 refine⟨λg e=>KB e j,λn i g e=>?_,λg e=>KB e<|f g e,λn i g e=>?_⟩
 ·obtain⟨t,p,h⟩:=q n i;have h0:=World.var?_cell e h 0;simp_all
 have lt:∀{cs:Array Value},b.var? P n=some cs->g<b.heap.size:=by
  grind [KB]
 rcases i with rfl|rfl|rfl|rfl
 ·exact lt j
 all_goals grind
section
variable{H:Type}{enc:TypeId×Value->H}{P:Program}{w:World}{spare:Nat->Bool}
theorem kH{fn:Func}{s:ChangeSpec}{Ts:List Ty}{tb:TypeId}{vj:Array Value}{g gs:List<|DataW H}{before:List MemPlace}{base:Nat}{apart fresh handsOn:Bool}(u:∀xs,C9 Ts xs->Q7 P f xs (.bool true))(hT:OJ P w)
  (X:laidOutB P=true) (B:Hq P Ts fn.params.toList) (b:s.vars=[]) (i:fn.resultTypes= #[tb]) (C:P.underlying tb=some .bool) (hs:∀g:List<|DataW H,R g=R fn.params.toList->s.fn H g={results:=[.lit<|.bool true],args:=g})
  (D:∀(j:Nat) t v,fn.params[j]?=some t->vj[j]?=some v->Value.okWide P w .any base t v) (N:DataW.Whole enc P fn.params.toList s.vars apart w vj.toList g gs before):
  Calls P f vj w λe w'=>∃v,e=.returned v/\s.post enc P fn apart fresh handsOn false w vj v w':=by
 have A:=N;obtain⟨p,q,G,O,M,hfz,W⟩:=N;rw[b]at O;obtain⟨Y,V⟩:=trodVars_none O;subst Y;subst V;rw[i8]at M;subst M;obtain⟨xs,h1,h2⟩:=AP B (λj t v ht I=>D j t v (by grind)<|by grind) G;have K:=u xs h2 (VW w) w vj.toList hT (λ_ _ h=>h) h1;have ha:vj.toList.toArray=vj:=F
 rw[ha]at K;refine K.mono ?_;rintro e w' ⟨v,h',rfl,hB,_,_,_,T⟩;have I:v=.bool true:=R9 T;subst I;have qk:=Lb G;refine⟨_,rfl,g,[],before,[],before,[],A,?_,?_,?_,?_,Z⟩
 ·rw[i8,hs g qk,i];exact⟨[],[],shut_bool C true,rfl,rfl⟩
 ·rw[i8,hs g qk];exact E8 X hB B (λx S=>A.lt x S) G
 ·rw[i8,hs g qk,b];exact rfl
 exact World.keptBut_mono (λp J=>⟨J,.inr<|.inl J⟩)<|hB.frame (· ∈before)
